/-
  The fields of the table are fields. No condition. What is known of fields in the first machine, for the second. No condition. What rows span; their one form. No condition. Rows one by one into what th ..
-/
import Derived.Test.YtoglhlonhmmieaaK6
import Derived.Test.YtoglhlonhmmieaaKAD
import Derived.Test.YtoglhlonhmmieaaK5
import Derived.WalkKit
import Derived.Test.YtoglhlonhmmieaaKCode
import Derived.Test.YtoglhlonhmmieaaK0
set_option linter.unusedVariables false
set_option linter.unusedSimpArgs false
set_option linter.unusedSectionVars false
set_option maxRecDepth 100000
namespace Go.Proofs.Ytoglhlonhmmieaa
open Go.Am Go.Alg
theorem ej5{p d T:Int}(h0:0≤d)(h1:d<p):(d+p*T)%p=d∧(d+p*T)/p=T:=by
 constructor
 ·rw[Int.add_mul_emod_self_left,Int.emod_eq_of_lt h0 h1]
 ·rw[Int.add_mul_ediv_left _ _ (by omega),Int.ediv_eq_zero_of_lt h0 h1,Int.zero_add]
theorem ua0(p:Int): ∀(n:Nat) (a b:Int),addN p n a b=addN p n b a
 |0,_,_=>rfl
 |n+1,a,b=>by rw[addN,addN,ua0 p n,Int.add_comm (a%p)]
theorem mk9{p:Int}(hp:0<p): ∀(n:Nat) (a b c:Int),addN p n (addN p n a b) c=addN p n a (addN p n b c)
 |0,_,_,_=>rfl
 |n+1,a,b,c=>by
  have d1:=ej5 (T:=addN p n (a/p) (b/p)) (Int.emod_nonneg (a%p+b%p) (show p≠0 by omega)) (Int.emod_lt_of_pos (a%p+b%p) hp)
  have d2:=ej5 (T:=addN p n (b/p) (c/p)) (Int.emod_nonneg (b%p+c%p) (show p≠0 by omega)) (Int.emod_lt_of_pos (b%p+c%p) hp)
  have e0: ∀x y:Int,addN p (n+1) x y=(x%p+y%p)%p+p*addN p n (x/p) (y/p):=fun _ _=>rfl
  rw[e0 (addN p (n+1) a b) c,e0 a (addN p (n+1) b c),e0 a b,e0 b c,d1.1,d1.2,d2.1,d2.2,mk9 hp n]
  simp only[Int.emod_add_emod,Int.add_emod_emod,Int.add_assoc]
theorem ns9{p:Int}(hp:0<p): ∀(n:Nat) (a:Int),0≤a→a<p^n→addN p n a 0=a
 |0,a,h0,h1=>by rw[Int.pow_zero]at h1;show(0:Int)=a;omega
 |n+1,a,h0,h1=>by
  rw[Int.pow_succ]at h1
  rw[addN,Int.zero_emod,Int.zero_ediv,Int.add_zero,Int.emod_emod,ns9 hp n (a/p) (Int.ediv_nonneg h0 (by omega)) (Int.ediv_lt_of_lt_mul hp h1)]
  exact Int.emod_add_mul_ediv a p
theorem ju5{p:Int}(hp:0<p): ∀(n:Nat) (a:Int),addN p n a (negN p n a)=0
 |0,_=>rfl
 |n+1,a=>by
  have d1:=ej5 (T:=negN p n (a/p)) (Int.emod_nonneg (p-a%p) (show p≠0 by omega)) (Int.emod_lt_of_pos (p-a%p) hp)
  have e0: ∀x y:Int,addN p (n+1) x y=(x%p+y%p)%p+p*addN p n (x/p) (y/p):=fun _ _=>rfl
  have e1:negN p (n+1) a=(p-a%p)%p+p*negN p n (a/p):=rfl
  rw[e0,e1,d1.1,d1.2,ju5 hp n,Int.add_emod_emod,show a%p+(p-a%p)=p by omega,Int.emod_self]
  omega
section
variable {q p g:Int} {m:Nat} {mod:List Int}
theorem c71(hn:fldN q.toNat=some (p,m,g,mod)){b c:Int}(hb:0≤b∧b<q)(hc:0≤c∧c<q):fmul q g (addN p m b c)=addN p m (fmul q g b) (fmul q g c):=by
 obtain⟨h2,h64⟩:=ug0 hn
 have h:=List.all_eq_true.1 hm8 (q.toNat-2) (List.mem_range.2 (by omega))
 rw[show q.toNat-2+2=q.toNat by omega]at h
 unfold ud5 at h
 rw[hn]at h
 simp only[List.all_eq_true,List.mem_range,decide_eq_true_eq]at h
 have:=h b.toNat (by omega) c.toNat (by omega)
 rwa [show((q.toNat:Nat):Int)=q by omega,show((b.toNat:Nat):Int)=b by omega,show((c.toNat:Nat):Int)=c by omega]at this
end
class IsFld (q:Int):Prop where
 ok: ∃p m g mod,fldN q.toNat=some (p,m,g,mod)
structure El (q:Int) where
 v:Int
 lo:0≤v
 hi:v<q
theorem El.ext'{q:Int}{a b:El q}(h:a.v=b.v):a=b:=by
 obtain⟨a,h1,h2⟩:=a
 obtain⟨b,h3,h4⟩:=b
 cases h;rfl
instance {q:Int}:DecidableEq (El q):=fun a b=>if h:a.v=b.v then .isTrue (El.ext' h)else .isFalse fun e=>h (e▸rfl)
theorem jj8{q p g:Int}{m:Nat}{mod:List Int}(hn:fldN q.toNat=some (p,m,g,mod)):FOk q p m mod∧Tabs q g∧1≤g∧g<q:=by
 obtain⟨h2,h64⟩:=ug0 hn
 have h:=hj0 hn
 rw[show((q.toNat:Nat):Int)=q by omega]at h
 exact⟨h.1,cb4 hn,h.2.2.1,h.2.2.2.1⟩
theorem El.ok{q:Int}(a:El q):fok q a.v=true:=iy2 ⟨a.lo,a.hi⟩
theorem do9{q p g:Int}{m:Nat}{mod:List Int}(hn:fldN q.toNat=some (p,m,g,mod))(a b:El q):fadd q a.v b.v=addN p m a.v b.v:=by
 rw[fadd,a.ok,b.ok,(y65 hn).1,(y65 hn).2];rfl
theorem pu7{q p g:Int}{m:Nat}{mod:List Int}(hn:fldN q.toNat=some (p,m,g,mod))(a:El q):fneg q a.v=negN p m a.v:=by
 rw[fneg,a.ok,(y65 hn).1,(y65 hn).2];rfl
section
variable {q:Int} [hq:IsFld q]
theorem aw0:2≤q:=by
 obtain⟨p,m,g,mod,hn⟩:=hq.ok
 exact(jj8 hn).1.q2
theorem wg2(a b:El q):0≤fadd q a.v b.v∧fadd q a.v b.v<q:=by
 obtain⟨p,m,g,mod,hn⟩:=hq.ok
 have hf:=(jj8 hn).1
 have:=hf.p2
 have hb:=kq3 (p:=p) (by omega) m a.v b.v
 rw[hf.pm]at hb
 rw[do9 hn];exact hb
theorem ca9(a:El q):0≤fneg q a.v∧fneg q a.v<q:=by
 obtain⟨p,m,g,mod,hn⟩:=hq.ok
 have hf:=(jj8 hn).1
 have:=hf.p2
 have hb:=ul1 (p:=p) (by omega) m a.v
 rw[hf.pm]at hb
 rw[pu7 hn];exact hb
theorem jo8(a b:El q):0≤fmul q a.v b.v∧fmul q a.v b.v<q:=by
 obtain⟨p,m,g,mod,hn⟩:=hq.ok
 obtain⟨hf,t,_⟩:=jj8 hn
 have h2:=hf.q2
 rw[fmul,a.ok,b.ok]
 cases h0:(a.v==0)||(b.v==0)with
 |true=>exact⟨Int.le_refl _,by show(0:Int)<q;omega⟩
 |false=>
  have:=zd3 t h2 (flog q a.v+flog q b.v)
  exact⟨by show 0≤fexp q _;omega,this.2.1⟩
theorem bh9(a:El q)(h:a.v≠0):0≤finv q a.v∧finv q a.v<q:=by
 obtain⟨p,m,g,mod,hn⟩:=hq.ok
 obtain⟨hf,t,_⟩:=jj8 hn
 have:=(ea5 t hf.q2 (a:=a.v) ⟨by have:=a.lo;omega,a.hi⟩).1
 exact⟨by omega,this.2⟩
instance :Zero (El q):=⟨⟨0,Int.le_refl _,by have:=aw0 (q:=q);omega⟩⟩
instance :One (El q):=⟨⟨1,by omega,by have:=aw0 (q:=q);omega⟩⟩
instance :Add (El q):=⟨fun a b=>⟨fadd q a.v b.v,(wg2 a b).1,(wg2 a b).2⟩⟩
instance :Mul (El q):=⟨fun a b=>⟨fmul q a.v b.v,(jo8 a b).1,(jo8 a b).2⟩⟩
instance :Neg (El q):=⟨fun a=>⟨fneg q a.v,(ca9 a).1,(ca9 a).2⟩⟩
theorem hc8:(0:El q).v=0:=rfl
theorem wh3:(1:El q).v=1:=rfl
theorem on0(a b:El q):(a+b).v=fadd q a.v b.v:=rfl
theorem ym6(a b:El q):(a*b).v=fmul q a.v b.v:=rfl
theorem tg5(a:El q):(-a).v=fneg q a.v:=rfl
theorem r57{a:El q}:a.v=0↔a=0:=⟨fun h=>El.ext' h,fun h=>by rw[h];rfl⟩
theorem a60(a b:El q):a*b=b*a:=El.ext' (by
 rw[ym6,ym6,fmul,fmul,a.ok,b.ok,Bool.or_comm,Int.add_comm])
theorem qc3(a:El q):a*0=0:=El.ext' (by
 rw[ym6,fmul,a.ok,(0:El q).ok,hc8,show((0:Int)==0)=true from rfl,Bool.or_true];rfl)
theorem du6(a:El q):a*1=a:=El.ext' (by
 obtain⟨p,m,g,mod,hn⟩:=hq.ok
 obtain⟨hf,t,_⟩:=jj8 hn
 have h2:=hf.q2
 rw[ym6,wh3]
 by_cases h0:a.v=0
 ·rw[fmul,a.ok,show fok q 1=true from(1:El q).ok,h0];rfl
 ·have ha:1≤a.v∧a.v<q:=⟨by have:=a.lo;omega,a.hi⟩
  have h1:=(t.er 0 (by omega) (by omega)).2.2
  rw[t.e0]at h1
  have h3:=t.lr a.v ha.1 ha.2
  rw[js7 t ha ⟨by omega,by omega⟩,h1,Int.add_zero,Int.emod_eq_of_lt h3.1 h3.2.1,h3.2.2])
theorem wj9(a b c:El q):a*b*c=a*(b*c):=by
 by_cases ha:a=0
 ·rw[ha,a60 0 b,qc3,a60 0 c,qc3,a60 0,qc3]
 by_cases hb:b=0
 ·rw[hb,qc3,a60 0 c,qc3,qc3]
 by_cases hc:c=0
 ·rw[hc,qc3,qc3,qc3]
 refine El.ext' ?_
 obtain⟨p,m,g,mod,hn⟩:=hq.ok
 obtain⟨hf,t,_⟩:=jj8 hn
 have h2:=hf.q2
 have ne: ∀x:El q,x≠0→1≤x.v∧x.v<q:=fun x hx=>⟨by have:=x.lo;have:x.v≠0:=fun h=>hx (r57.1 h);omega,x.hi⟩
 have h1:=zd3 t h2 (flog q a.v+flog q b.v)
 have h3:=zd3 t h2 (flog q b.v+flog q c.v)
 rw[ym6,ym6,ym6,ym6,js7 t (ne a ha) (ne b hb),js7 t (ne b hb) (ne c hc),js7 t ⟨h1.1,h1.2.1⟩ (ne c hc),js7 t (ne a ha) ⟨h3.1,h3.2.1⟩,h1.2.2,h3.2.2,Int.emod_add_emod,Int.add_emod_emod,Int.add_assoc]
theorem sd1(a b c:El q):a*(b+c)=a*b+a*c:=by
 obtain⟨p,m,g,mod,hn⟩:=hq.ok
 obtain⟨hf,t,hg1,hg2⟩:=jj8 hn
 have h2:=hf.q2
 have hG: ∀x y:El q,(⟨g,by omega,hg2⟩:El q)*(x+y)=⟨g,by omega,hg2⟩*x+⟨g,by omega,hg2⟩*y:=fun x y=>El.ext' (by
  rw[ym6,on0,do9 hn,on0,do9 hn]
  exact c71 hn ⟨x.lo,x.hi⟩ ⟨y.lo,y.hi⟩)
 have hP: ∀(k:Nat) (x y:El q) (h0:0≤fexp q ((k:Int)%(q-1))) (h1:fexp q ((k:Int)%(q-1))<q),(⟨_,h0,h1⟩:El q)*(x+y)=⟨_,h0,h1⟩*x+⟨_,h0,h1⟩*y:=by
  intro k
  induction k with
  |zero=>
   intro x y h0 h1
   have he:(⟨_,h0,h1⟩:El q)=1:=El.ext' (by show fexp q (((0:Nat):Int)%(q-1))=1;rw[Int.natCast_zero,Int.zero_emod];exact t.e0)
   rw[he,a60,du6,a60 1 x,du6,a60 1 y,du6]
  |succ k ih=>
   intro x y h0 h1
   have h3:=zd3 t h2 (k:Int)
   have he:(⟨_,h0,h1⟩:El q)=⟨fexp q ((k:Int)%(q-1)),by omega,h3.2.1⟩*⟨g,by omega,hg2⟩:=El.ext' (by
    show fexp q (((k+1:Nat):Int)%(q-1))=fmul q _ g
    rw[np3 t h2 ⟨hg1,hg2⟩,Int.natCast_add,Int.natCast_one])
   rw[he,wj9,hG,ih,wj9,wj9]
 by_cases ha:a=0
 ·rw[ha,a60,qc3,a60 0 b,qc3,a60 0 c,qc3]
  refine El.ext' ?_
  have:=hf.p2
  rw[on0,do9 hn]
  exact(ns9 (by omega) m 0 (Int.le_refl _) (Int.pow_pos (by omega))).symm
 ·have hav:a.v≠0:=fun h=>ha (r57.1 h)
  have h3:=t.lr a.v (by have:=a.lo;omega) a.hi
  have he:fexp q (((flog q a.v).toNat:Int)%(q-1))=a.v:=by
   rw[show(((flog q a.v).toNat:Nat):Int)=flog q a.v by omega,Int.emod_eq_of_lt h3.1 h3.2.1,h3.2.2]
  have h4:=hP (flog q a.v).toNat b c (by rw[he];exact a.lo) (by rw[he];exact a.hi)
  have h5:(⟨fexp q (((flog q a.v).toNat:Int)%(q-1)),by rw[he];exact a.lo,by rw[he];exact a.hi⟩:El q)=a:=El.ext' he
  rw[h5]at h4
  exact h4
instance elFK:FK (El q) where
 inv:=fun a=>if h:a.v=0 then 0 else⟨finv q a.v,(bh9 a h).1,(bh9 a h).2⟩
 deq:=inferInstance
 add_assoc:=fun a b c=>El.ext' (by
  obtain⟨p,m,g,mod,hn⟩:=hq.ok
  have hf:=(jj8 hn).1
  have:=hf.p2
  rw[on0 (a+b) c,on0 a (b+c),do9 hn (a+b) c,do9 hn a (b+c),on0 a b,on0 b c,do9 hn a b,do9 hn b c,mk9 (by omega)])
 add_comm:=fun a b=>El.ext' (by
  obtain⟨p,m,g,mod,hn⟩:=hq.ok
  rw[on0,on0,do9 hn,do9 hn,ua0])
 add_zero:=fun a=>El.ext' (by
  obtain⟨p,m,g,mod,hn⟩:=hq.ok
  have hf:=(jj8 hn).1
  have:=hf.p2
  rw[on0,do9 hn,hc8]
  exact ns9 (by omega) m a.v a.lo (by rw[hf.pm];exact a.hi))
 add_neg:=fun a=>El.ext' (by
  obtain⟨p,m,g,mod,hn⟩:=hq.ok
  have hf:=(jj8 hn).1
  have:=hf.p2
  rw[on0,do9 hn,tg5,pu7 hn]
  exact ju5 (by omega) m a.v)
 mul_assoc:=wj9
 mul_comm:=a60
 mul_one:=du6
 mul_add:=sd1
 mul_inv:=fun a ha=>El.ext' (by
  have h:a.v≠0:=fun h=>ha (r57.1 h)
  obtain⟨p,m,g,mod,hn⟩:=hq.ok
  obtain⟨hf,t,_⟩:=jj8 hn
  rw[dif_neg h]
  exact(ea5 t hf.q2 (a:=a.v) ⟨by have:=a.lo;omega,a.hi⟩).2)
 zero_ne:=fun h=>by
  have:=congrArg El.v h
  rw[hc8,wh3]at this
  omega
theorem rl7{a:El q}(h:a≠0):(FK.inv a).v=finv q a.v:=by
 show(if h:a.v=0 then(0:El q)else _).v=_
 rw[dif_neg fun e=>h (r57.1 e)]
theorem bq9(a b:El q):(a-b).v=fsub q a.v b.v:=rfl
end
def vs{q:Int}(l:List (El q)):List Int:=l.map El.v
def ge{K:Type} [FK K](l:List K)(i:Nat):K:=l.getD i 0
section
variable {q:Int}
theorem fi2(l:List (El q)):(vs l).length=l.length:=by simp[vs]
theorem rp2:vs ([]:List (El q))=[]:=rfl
theorem e55(a:El q)(l:List (El q)):vs (a::l)=a.v::vs l:=rfl
theorem g52(l:List (El q))(i:Nat)(a:El q):(vs l).set i a.v=vs (l.set i a):=by unfold vs;rw[List.map_set]
theorem qj2(n:Nat)(a:El q):List.replicate n a.v=vs (List.replicate n a):=by unfold vs;rw[List.map_replicate]
theorem qa5: ∀{l l':List (El q)},vs l=vs l'→l=l'
 | [],[],_=>rfl
 | [],_::_,h=>by cases h
 |_::_,[],h=>by cases h
 |a::l,b::l',h=>by
  rw[e55,e55,List.cons.injEq]at h
  rw[El.ext' h.1,qa5 h.2]
theorem n44: ∀{l:List Int},(∀z∈l,fok q z=true)→ ∃a:List (El q),l=vs a
 | [],_=>⟨[],rfl⟩
 |z::l,h=>by
  obtain⟨a,ha⟩:=n44 (l:=l) fun z hz=>h z (by simp[hz])
  have hz:=gc0.1 (h z (by simp))
  exact⟨⟨z,hz.1,hz.2⟩::a,by rw[e55,←ha]⟩
theorem v86 [IsFld q](l:List (El q))(i:Nat):gi (vs l) i=(ge l i).v:=by
 unfold gi ge vs
 rw[Int.toNat_natCast,List.getD_eq_getElem?_getD,List.getD_eq_getElem?_getD,List.getElem?_map]
 cases l[i]? <;>rfl
end
end Go.Proofs.Ytoglhlonhmmieaa
namespace Go.Proofs.Ytoglhlonhmmieaa
open Go.Am Go.Vm Go.Alg
theorem ea7{zs:List Int}{i:Nat}(hi:i<zs.length):(ints zs)[i]? =some (.int .i64 (gi zs (i:Int))):=by
 have:=c13 (zs:=zs) (i:=(i:Int)) (by omega) (by omega)
 rwa [Int.toNat_natCast]at this
theorem zj7{h:H}{Z:Nat→Prop}{zs:List Int}{l:List Value}:RdL h Z (ivs zs) l↔l=ints zs:=by
 induction zs generalizing l with
 |nil=>exact⟨fun hr=>by rw[show ivs []=[]from rfl,RdL]at hr;exact hr,fun e=>by subst e;rw[show ivs []=[]from rfl,RdL];rfl⟩
 |cons z zs ih=>
  rw[show ivs (z::zs)= .v (.int .i64 z)::ivs zs from rfl,RdL]
  constructor
  ·rintro⟨w,l',rfl,h1,h2⟩
   rw[Rd]at h1
   rw[h1,ih.1 h2];rfl
  ·rintro rfl
   exact⟨_,_,rfl,by rw[Rd],ih.2 rfl⟩
theorem ex4{h:H}{Z:Nat→Prop}{zs:List Int}{l:List Value}:ExL h Z (ivs zs) l↔l=ints zs:=by
 induction zs generalizing l with
 |nil=>exact⟨fun hr=>by rw[show ivs []=[]from rfl,ExL]at hr;exact hr,fun e=>by subst e;rw[show ivs []=[]from rfl,ExL];rfl⟩
 |cons z zs ih=>
  rw[show ivs (z::zs)= .v (.int .i64 z)::ivs zs from rfl,ExL]
  constructor
  ·rintro⟨w,l',rfl,h1,h2⟩
   rw[Ex]at h1
   rw[h1,ih.1 h2];rfl
  ·rintro rfl
   exact⟨_,_,rfl,by rw[Ex],ih.2 rfl⟩
theorem fw0{h:H}{Z:Nat→Prop}{nl e:Nat}{zs:List Int}{w:Value}(hr:Rd h Z (.sl nl e 1 (ivs zs)) w): ∃sa c,w= .slice sa zs.length c∧RdI h sa c zs:=by
 rw[Rd]at hr
 rcases hr with⟨h0,_,_,rfl⟩|⟨o,off,n,c,r,rfl,h1,h2,h3,h4,h5,h6,h7,h8⟩
 ·have:zs=[]:=by cases zs with
   |nil=>rfl
   |cons=>cases h0
  subst this
  exact⟨none,0,rfl, .nil⟩
 ·rw[gf1,Nat.mul_one]at h5
  subst h5
  have h9:=zj7.1 h8
  rw[gf1]at h9
  refine⟨_,c,rfl, .inr ⟨h6,o,off,r,rfl,h2,h3,fun i h0 hi=> ?_⟩⟩
  have h10:=c13 h0 hi
  rw[←h9,List.getElem?_take,if_pos (by omega),List.getElem?_drop]at h10
  exact h10
theorem pd9{h:H}{Z:Nat→Prop}{e:Nat}{zs:List Int}{sa:Option Addr}{c:Nat}(hr:RdI h sa c zs)(hz: ∀o,sa.map (·.block)=some o→Z o):Rd h Z (.sl 2 e 1 (ivs zs)) (.slice sa zs.length c):=by
 rw[Rd]
 rcases hr with⟨rfl,rfl,rfl⟩|⟨h1,o,off,r,rfl,h2,h3,h4⟩
 ·exact .inl ⟨rfl,by decide,by decide,rfl⟩
 ·refine .inr ⟨o,off,_,c,r,rfl,hz o rfl,h2,h3,by decide,by rw[gf1,Nat.mul_one],h1,fun h=>(by cases h),zj7.2 ?_⟩
  rw[gf1]
  refine List.ext_getElem? fun i=> ?_
  by_cases hi:i<zs.length
  ·rw[ea7 hi,List.getElem?_take,if_pos hi,List.getElem?_drop]
   have:=h4 (i:Int) (by omega) (by omega)
   rwa [Int.toNat_natCast]at this
  ·rw[List.getElem?_eq_none (by rw[List.length_take];omega),List.getElem?_eq_none (by rw[iq5];omega)]
def lvs(nl:Nat)(m:List (List Int)):List Tree:=m.map fun l=> .sl nl 0 1 (ivs l)
theorem nb9(nl:Nat)(m:List (List Int)):(lvs nl m).length=m.length:=by simp[lvs]
def allZ(h:H):Nat→Prop:=fun o=>o<h.length
theorem bh6(h:H):Inv h [] (allZ h) (allZ h):=⟨by rw[okL];trivial,fun x=>by simp[fpL],fun o ho=>by simp[fpL]at ho,fun o ho=>by simp[fpL]at ho,fun o ho=>ho,fun o ho=>ho⟩
theorem vlaw{W:VW}(hP: ∀f p vs C r,W.P f=some p→p vs C=some r→VOK W.T f vs C r){h:H}{f:FuncId}{xs0:List AV}{ws:List Value}(hv:VRL h [] (allZ h) (allZ h) xs0 ws){b:Bool}(e:o24 W f xs0 []=some (.x (.bool b),[],[])): ∃h',call W.T f ws h=some (.bool b,h'):=by
 obtain⟨w,h',K,S,Z',Zp',h1,P⟩:=lw9 hP e h [] _ _ ws (bh6 h) rfl hv fun k hk=>by cases hk
 have:=P.v
 rw[Vm.VR]at this
 subst this
 exact⟨h',h1⟩
theorem sk2{h h':H}{Z Zp:Nat→Prop}(i:Inv h [] Z Zp)(hp:h<+:h')(v:Value):Post h [] Zp 0 (.x v,[],[]) v h' [] [] Z Zp:=by
 refine⟨rfl,rfl,⟨by rw[List.nil_append,okL];trivial,fun x=>by simp[fpL],fun o ho=>by simp[fpL]at ho,fun o ho=>by simp[fpL]at ho,fun o ho=> ?_,i.zp⟩,⟨hp.length_le,fun o ho _=>cb1 hp ho,fun o ho=>by simp[fpL]at ho,fun o ho=>ho,fun o ho=> .inl ho⟩,by rw[Vm.VR],rfl,fun i a k h1=>by simp at h1⟩
 have:=i.zlt o ho;have:=hp.length_le;omega
def pFt(q p:Int)(m:Nat)(g:Int)(mod:List Int):Tree:= .ex (.pt 141 [.v (.int .i64 q), .v (.int .i64 p), .v (.int .i64 m), .fz (.sl 2 0 1 (ivs mod)), .v (.int .i64 g), .sl 0 3 1 (ivs (tabs q.toNat).1), .sl 0 3 1 (ivs (tabs q.toNat).2)])
def pF(q:Int):Tree:=match fldN q.toNat with
 |some (p,m,g,mod)=>pFt q p m g mod
 |none=> .junk
def bc2:Tree→Int
 | .ex (.pt _ (.v (.int .i64 q)::_))=>q
 |_=>0
theorem yz0{q:Int} [h:IsFld q]:bc2 (pF q)=q:=by
 obtain⟨p,m,g,mod,hn⟩:=h.ok
 unfold pF;rw[hn];rfl
theorem ki3{q p g:Int}{m:Nat}{mod:List Int}(hn:fldN q.toNat=some (p,m,g,mod)):(tabs q.toNat).1.length=(q-1).toNat∧(tabs q.toNat).2.length=q.toNat:=by
 obtain⟨h2,h64⟩:=ug0 hn
 have ht:=(cb4 hn).tab
 rw[ht]
 constructor<;>simp
theorem nx2{h:H}{Z:Nat→Prop}{q p g:Int}{m:Nat}{mod:List Int}(hn:fldN q.toNat=some (p,m,g,mod)){w:Value}(hr:Rd h Z (pF q) w): ∃F E L om fm cm,w= .pointer (some ⟨F,0,none⟩)∧PUse h F q p m g mod E L om fm cm:=by
 obtain⟨h2,h64⟩:=ug0 hn
 have ht:=(cb4 hn).tab
 obtain⟨l1,l2⟩:=ki3 hn
 unfold pF at hr
 rw[hn]at hr
 simp only[pFt]at hr
 rw[Rd,Ex]at hr
 obtain⟨F,r,rfl,h1,h3,h4,h5,h6,h7⟩:=hr
 rw[ExL]at h7
 obtain⟨w0,c0,e0,k0,h7⟩:=h7
 rw[ExL]at h7
 obtain⟨w1,c1,e1,k1,h7⟩:=h7
 rw[ExL]at h7
 obtain⟨w2,c2,e2,k2,h7⟩:=h7
 rw[ExL]at h7
 obtain⟨w3,c3,e3,k3,h7⟩:=h7
 rw[ExL]at h7
 obtain⟨w4,c4,e4,k4,h7⟩:=h7
 rw[ExL]at h7
 obtain⟨w5,c5,e5,k5,h7⟩:=h7
 rw[ExL]at h7
 obtain⟨w6,c6,e6,k6,h7⟩:=h7
 unfold Ex at k0 k1 k2 k3 k4 k5 k6
 subst e6 e5 e4 e3 e2 e1
 obtain⟨sa,cm,rfl,rm⟩:=fw0 k3
 obtain⟨E,nE,rE,rfl,_,hE,_,_,_,_,nE1,_,xE⟩:=k5
 obtain⟨L,nL,rL,rfl,_,hL,_,_,_,_,nL1,_,xL⟩:=k6
 rw[ex4]at xE xL
 rw[gf1,Nat.mul_one,l1]at nE1
 rw[gf1,Nat.mul_one,l2]at nL1
 subst nE1 nL1 k0 k1 k2 k4
 have hml:=(hj0 hn).1.ml
 have hm1:=(hj0 hn).1.m1
 obtain⟨om,fm,rfl⟩: ∃om fm,sa=some ⟨om,fm,none⟩:=by
  rcases rm with⟨_,_,h0⟩|⟨_,o,off,r,h0,_⟩
  ·rw[h0]at hml;simp at hml
  ·exact⟨o,off,h0⟩
 have cell: ∀{i:Nat} {v:Value},r.cells[i]? =some v→h.ld1 F i=some v:=fun{i v} hi=>by rw[ng1 h3];exact hi
 refine⟨F,E,L,om,fm,cm,rfl,by omega,by omega,cell (by rw[e0];rfl),cell (by rw[e0];rfl),cell (by rw[e0];rfl),cell (by rw[e0];rfl),cell (by rw[e0];rfl),cell (by rw[e0];rfl),cell (by rw[e0];rfl),fun i h0 hi=> ?_,fun a h0 ha=> ?_,rm⟩
 ·rw[ng1 hE,xE,c13 h0 (by rw[l1];omega)]
  congr 2
  rw[ht]
  unfold gi
  rw[List.getD_eq_getElem?_getD,List.getElem?_map,List.getElem?_range (by omega)]
  show fexp q ((i.toNat:Nat):Int)=_
  rw[show((i.toNat:Nat):Int)=i by omega]
 ·rw[ng1 hL,xL,c13 h0 (by rw[l2];omega)]
  congr 2
  rw[ht]
  unfold gi
  rw[List.getD_eq_getElem?_getD,List.getElem?_map,List.getElem?_range (by omega)]
  show flog q ((a.toNat:Nat):Int)=_
  rw[show((a.toNat:Nat):Int)=a by omega]
open Classical in
noncomputable def pOne (g:Int→Int→Value):List AV→Rts→Option VRes
 | [.fz b t, .x (.int .i64 a)],[]=>if IsFld (bc2 t)∧t=pF (bc2 t)then some (.x (g (bc2 t) a),[],[])else none
 |_,_=>none
open Classical in
noncomputable def pTwo (g:Int→Int→Int→Value):List AV→Rts→Option VRes
 | [.fz b t, .x (.int .i64 a), .x (.int .i64 a')],[]=>if IsFld (bc2 t)∧t=pF (bc2 t)then some (.x (g (bc2 t) a a'),[],[])else none
 |_,_=>none
theorem l79{g:Int→Int→Value}{q:Int} [h:IsFld q]{b:Bool}{a:Int}:pOne g [.fz b (pF q), .x (.int .i64 a)] []=some (.x (g q a),[],[]):=by
 unfold pOne;simp only[];rw[if_pos (by rw[yz0];exact⟨h,rfl⟩),yz0]
theorem pu4{g:Int→Int→Int→Value}{q:Int} [h:IsFld q]{b:Bool}{a a':Int}:pTwo g [.fz b (pF q), .x (.int .i64 a), .x (.int .i64 a')] []=some (.x (g q a a'),[],[]):=by
 unfold pTwo;simp only[];rw[if_pos (by rw[yz0];exact⟨h,rfl⟩),yz0]
abbrev r43(f:FuncId)(xs:List Value)(g:Int→Value):Prop:= ∀(h:H) (F:Nat) (q p:Int) (m:Nat) (ge:Int) (mod:List Int) (E L om fm cm:Nat),fldN q.toNat=some (p,m,ge,mod)→PUse h F q p m ge mod E L om fm cm→call T f (.pointer (some ⟨F,0,none⟩)::xs) h=some (g q,h)
theorem nh2{f:FuncId}{b:Bool}{t:Tree}{xs:List Value}{g:Int→Value}(H:r43 f xs g)(hf:IsFld (bc2 t))(ht:t=pF (bc2 t)):VOK T f (.fz b t::xs.map AV.x) [] (.x (g (bc2 t)),[],[]):=by
 intro h Ac Z Zp ws i hC hv hk
 obtain rfl:Ac=[]:=by cases Ac with
  |nil=>rfl
  |cons=>cases hC
 rw[Vm.VRL]at hv
 obtain⟨w,ws',rfl,h1,h2⟩:=hv
 rw[Vm.VR,ht]at h1
 have hxs:ws'=xs:=by
  clear H hk hC i h1
  induction xs generalizing ws' with
  |nil=>rw[List.map_nil,VRL]at h2;exact h2
  |cons x xs ih=>
   rw[List.map_cons,VRL]at h2
   obtain⟨w',ws'',rfl,k1,k2⟩:=h2
   rw[Vm.VR]at k1
   rw[k1,ih _ k2]
 subst hxs
 obtain⟨p,m,ge,mod,hn⟩:=hf.ok
 obtain⟨F,E,L,om,fm,cm,rfl,u⟩:=nx2 hn h1
 have e:=H h F (bc2 t) p m ge mod E L om fm cm hn u
 exact⟨_,h,[],[],Z,Zp,e,sk2 i (List.prefix_refl _) _⟩
theorem ka9{f:FuncId}{g:Int→Int→Value}(H: ∀a,r43 f [.int .i64 a] fun q=>g q a){xs0:List AV}{C:Rts}{r:VRes}(he:pOne g xs0 C=some r):VOK T f xs0 C r:=by
 unfold pOne at he
 split at he
 ·split at he
  ·rename_i hc;cases he;exact nh2 (xs:=[_]) (H _) hc.1 hc.2
  ·cases he
 ·cases he
theorem sg0{f:FuncId}{g:Int→Int→Int→Value}(H: ∀a a',r43 f [.int .i64 a, .int .i64 a'] fun q=>g q a a'){xs0:List AV}{C:Rts}{r:VRes}(he:pTwo g xs0 C=some r):VOK T f xs0 C r:=by
 unfold pTwo at he
 split at he
 ·split at he
  ·rename_i hc;cases he;exact nh2 (xs:=[_,_]) (H _ _) hc.1 hc.2
  ·cases he
 ·cases he
def pNew:List AV→Rts→Option VRes
 | [.x (.int .i64 q)],[]=>match fldN q.toNat with
   |some _=>some (.tup [.fz true (pF q), .x (.int .i64 0)],[],[])
   |none=>some (.tup [.x (.pointer none), .x (.int .i64 1)],[],[])
 |_,_=>none
theorem a64{h h':H}{Z Zp:Nat→Prop}(i:Inv h [] Z Zp)(hp:h<+:h'){a:AV}{w:Value}(hv:Vm.VR h' [] (fun o=>h.length≤o∧o<h'.length) (fun o=>h.length≤o∧o<h'.length) a w): ∃Z' Zp',Post h [] Zp 0 (a,[],[]) w h' [] [] Z' Zp':=by
 refine⟨fun o=>Z o∨(h.length≤o∧o<h'.length),fun o=>Zp o∨(h.length≤o∧o<h'.length),rfl,rfl,⟨by rw[List.nil_append,okL];trivial,fun x=>by simp[fpL],fun o ho=>by simp[fpL]at ho,fun o ho=>by simp[fpL]at ho,fun o ho=> ?_,fun o ho=>ho.imp (i.zp o) id⟩,⟨hp.length_le,fun o ho _=>cb1 hp ho,fun o ho=>by simp[fpL]at ho,fun o ho=> .inl ho,fun o ho=>ho.imp id fun h=> .inr h.1⟩,Vm.VR.move (fun o ho=> .inr ho) (fun o ho=> .inr ho) (fun _ _=>rfl) (fun _ _=>rfl) (Stab.refl [] []) hv rfl,rfl,fun i a k h1=>by simp at h1⟩
 rcases ho with ho|ho
 ·have:=i.zlt o ho;have:=hp.length_le;omega
 ·exact ho.2
theorem lo5{xs0:List AV}{C:Rts}{r:VRes}(he:pNew xs0 C=some r):VOK T 58 xs0 C r:=by
 unfold pNew at he
 split at he
 ·rename_i q
  intro h Ac Z Zp ws i hC hv hk
  obtain rfl:Ac=[]:=by cases Ac with
   |nil=>rfl
   |cons=>cases hC
  rw[Vm.VRL]at hv
  obtain⟨w,ws',rfl,h1,h2⟩:=hv
  rw[Vm.VRL]at h2
  rw[Vm.VR]at h1
  subst h1 h2
  split at he
  ·rename_i x hn
   obtain⟨p,m,g,mod⟩:=x
   cases he
   obtain⟨h',F,hp,hF,⟨om,fm,cm,ho,hM,⟨E,L,q1,q2,hFr,hE,hL,q3,q4⟩⟩,e⟩:=e24 q hn h
   have hFl:=h42 hFr
   have hEl:=h42 hE
   have hLl:=h42 hL
   have hom:om<h'.length:=by
    rcases hM with⟨h0,_⟩|⟨_,o,off,r,h0,h1,_⟩
    ·cases h0
    ·cases h0;exact h42 h1
   have hzo: ∀o,(some (⟨om,fm,none⟩:Addr)).map (·.block)=some o→h.length≤o∧o<h'.length:=fun o ho'=>by
    have e1:om=o:=by simpa using ho'
    subst e1;exact⟨by omega,hom⟩
   have hrd:Rd h' (fun o=>h.length≤o∧o<h'.length) (pF q) (.pointer (some ⟨F,0,none⟩)):=by
    have hq2:=ug0 hn
    unfold pF
    rw[hn]
    simp only[pFt]
    rw[Rd,Ex]
    refine⟨F,_,rfl,⟨hF,hFl⟩,hFr,rfl,rfl,rfl, ?_⟩
    rw[ExL];refine⟨_,_,rfl,by unfold Ex;rfl, ?_⟩
    rw[ExL];refine⟨_,_,rfl,by unfold Ex;rfl, ?_⟩
    rw[ExL];refine⟨_,_,rfl,by unfold Ex;rfl, ?_⟩
    rw[ExL];refine⟨_,_,rfl,by unfold Ex;exact pd9 hM hzo, ?_⟩
    rw[ExL];refine⟨_,_,rfl,by unfold Ex;rfl, ?_⟩
    rw[ExL];refine⟨_,_,rfl,by unfold Ex;exact⟨E,_,_,rfl,⟨by omega,hEl⟩,hE,rfl,rfl,rfl,by decide,by rw[gf1,Nat.mul_one,q3],fun h=>(by cases h),ex4.2 rfl⟩, ?_⟩
    rw[ExL];refine⟨_,_,rfl,by unfold Ex;exact⟨L,_,_,rfl,⟨by omega,hLl⟩,hL,rfl,rfl,rfl,by decide,by rw[gf1,Nat.mul_one,q4],fun h=>(by cases h),ex4.2 rfl⟩, ?_⟩
    rw[ExL]
   obtain⟨Z',Zp',P⟩:=a64 (a:= .tup [.fz true (pF q), .x (.int .i64 0)]) (w:= .tuple #[.pointer (some ⟨F,0,none⟩), .int .i64 0]) i hp (by
    rw[Vm.VR]
    exact⟨[_,_],rfl, .cons (by rw[Vm.VR];exact hrd) (.cons (by rw[Vm.VR]) .nil)⟩)
   exact⟨_,h',[],[],Z',Zp',e,P⟩
  ·rename_i hn
   cases he
   obtain⟨h',hp,e⟩:=e84 q hn h
   obtain⟨Z',Zp',P⟩:=a64 (a:= .tup [.x (.pointer none), .x (.int .i64 1)]) (w:= .tuple #[.pointer none, .int .i64 1]) i hp (by
    rw[Vm.VR]
    exact⟨[_,_],rfl, .cons (by rw[Vm.VR]) (.cons (by rw[Vm.VR]) .nil)⟩)
   exact⟨_,h',[],[],Z',Zp',e,P⟩
 ·cases he
noncomputable def vP:FuncId→Option (List AV→Rts→Option VRes)
 |116=>some (pOne fun q a=> .bool (fok q a))
 |106=>some (pTwo fun q a b=> .int .i64 (fmul q a b))
 |105=>some (pTwo fun q a b=> .int .i64 (fadd q a b))
 |108=>some (pTwo fun q a b=> .int .i64 (fsub q a b))
 |97=>some (pOne fun q a=> .int .i64 (finv q a))
 |58=>some pNew
 |66=>some h90
 |_=>none
noncomputable def W:VW:=⟨T,vP,vH,vM,ct⟩
@[push_cast] theorem W_M(f:FuncId):W.M f=vM f:=rfl
@[push_cast] theorem W_H(f:FuncId):W.H f=vH f:=rfl
@[push_cast] theorem W_ct:W.ct=ct:=rfl
theorem lw2(f:FuncId)(p:List AV→Rts→Option VRes)(xs0:List AV)(C:Rts)(r:VRes)(hp:W.P f=some p)(he:p xs0 C=some r):VOK W.T f xs0 C r:=by
 have hp:vP f=some p:=hp
 show VOK T f xs0 C r
 unfold vP at hp
 split at hp
 ·cases hp;exact ka9 (f:=116) (fun a h F q p m ge mod E L om fm cm hn u=>qy4 u a) he
 ·cases hp;exact sg0 (f:=106) (fun a a' h F q p m ge mod E L om fm cm hn u=>lb9 hn u a a') he
 ·cases hp;exact sg0 (f:=105) (fun a a' h F q p m ge mod E L om fm cm hn u=>gl5 hn u (jj8 hn).1 a a') he
 ·cases hp;exact sg0 (f:=108) (fun a a' h F q p m ge mod E L om fm cm hn u=>eb1 hn u (jj8 hn).1 a a') he
 ·cases hp;exact ka9 (f:=97) (fun a h F q p m ge mod E L om fm cm hn u=>im8 hn u a) he
 ·cases hp;exact(fun _=>lo5 he) 58
 ·cases hp;exact(fun _=>x66 he) 66
 ·cases hp
section
variable {q:Int} [IsFld q] {b:Bool} {x y:Int}
@[push_cast] theorem ta8:o24 W 116 [.fz b (pF q), .x (.int .i64 x)] []=some (.x (.bool (fok q x)),[],[]):=(xr5 rfl).trans l79
@[push_cast] theorem gi0:o24 W 106 [.fz b (pF q), .x (.int .i64 x), .x (.int .i64 y)] []=some (.x (.int .i64 (fmul q x y)),[],[]):=(xr5 rfl).trans pu4
@[push_cast] theorem j43:o24 W 105 [.fz b (pF q), .x (.int .i64 x), .x (.int .i64 y)] []=some (.x (.int .i64 (fadd q x y)),[],[]):=(xr5 rfl).trans pu4
@[push_cast] theorem ze7:o24 W 108 [.fz b (pF q), .x (.int .i64 x), .x (.int .i64 y)] []=some (.x (.int .i64 (fsub q x y)),[],[]):=(xr5 rfl).trans pu4
@[push_cast] theorem eb9:o24 W 97 [.fz b (pF q), .x (.int .i64 x)] []=some (.x (.int .i64 (finv q x)),[],[]):=(xr5 rfl).trans l79
theorem gh1: ∃d,fldN q.toNat=some d:=by
 obtain⟨p,m,g,mod,hn⟩:= ‹IsFld q›.ok
 exact⟨_,hn⟩
@[push_cast] theorem ev4:o24 W 58 [.x (.int .i64 q)] []=some (.tup [.fz true (pF q), .x (.int .i64 0)],[],[]):=(xr5 rfl).trans (by obtain⟨d,hd⟩:=gh1 (q:=q);unfold pNew;simp only[hd])
end
theorem ug9{q:Int}(hn:fldN q.toNat=none):o24 W 58 [.x (.int .i64 q)] []=some (.tup [.x (.pointer none), .x (.int .i64 1)],[],[]):=(xr5 rfl).trans (by unfold pNew;simp only[hn])
theorem h18{b:Bool}{nl:Nat}{zs:List Int}(hz:zs.length≤1000000):o24 W 66 [.fz b (.sl nl 0 1 (ivs zs))] []=some (.own 0 [],[.sl (nlT zs) 3 1 (ivs zs)],[]):=(xr5 rfl).trans (ol3 hz)
end Go.Proofs.Ytoglhlonhmmieaa
namespace Go.Alg
section
variable {K:Type} [FK K]
structure Rref (n:Nat) (A:List (Nat×(Nat→K))):Prop where
 up:A.Pairwise fun a b=>a.1<b.1
 one: ∀a∈A,a.2 a.1=1
 before: ∀a∈A,∀k,k<a.1→a.2 k=0
 lt: ∀a∈A,a.1<n
 out: ∀a∈A,∀k,n≤k→a.2 k=0
 zero: ∀a∈A,∀b∈A,a.1≠b.1→a.2 b.1=0
section
variable {n:Nat} {A B:List (Nat×(Nat→K))}
def wf(l:List K):Nat→K:=fun i=>l.getD i 0
theorem ez8{l:List K}{k:Nat}(h:l.length≤k):wf l k=0:=by unfold wf;rw[List.getD_eq_getElem?_getD,List.getElem?_eq_none h];rfl
theorem i67{l:List K}{k:Nat}(h:k<l.length):wf l k=l[k]:=by unfold wf;rw[List.getD_eq_getElem?_getD,List.getElem?_eq_getElem h];rfl
theorem ou8{l l':List K}(hl:l.length=l'.length)(h:wf l=wf l'):l=l':=by
 refine List.ext_getElem hl fun i h1 h2=> ?_
 rw[←i67 h1,←i67 h2,h]
end
end
end Go.Alg
namespace Go.Alg
section
variable {α:Type}
end
section
variable {K:Type} [FK K]
def toF(A:List (Nat×List K)):List (Nat×(Nat→K)):=A.map fun a=>(a.1,wf a.2)
section
variable {n:Nat} {A:List (Nat×List K)}
end
theorem wf_set{x:List K}{i:Nat}{v:K}(hi:i<x.length)(k:Nat):wf (x.set i v) k=if k=i then v else wf x k:=by
 unfold wf
 rw[List.getD_eq_getElem?_getD,List.getD_eq_getElem?_getD,List.getElem?_set]
 by_cases h:i=k
 ·subst h;rw[if_pos rfl,if_pos hi,if_pos rfl];rfl
 ·rw[if_neg h,if_neg fun e=>h e.symm]
end
end Go.Alg
namespace Go.Alg
section
variable {α:Type} {M:List (List α)} {P:List Nat}
end
section
variable {K:Type} [FK K]
section
variable {n c:Nat} {M0 M:List (List K)} {P:List Nat}
end
end
end Go.Alg
namespace Go.Alg
section
variable {K:Type} [FK K]
end
end Go.Alg
namespace Go.Proofs.Ytoglhlonhmmieaa
theorem i62{α:Type}{l:List α}{i:Nat}{x:α}(h:l[i]? =some x):l.drop i=x::l.drop (i+1):=by
 obtain⟨hi,he⟩:=List.getElem?_eq_some_iff.1 h
 rw[List.drop_eq_getElem_cons hi,he]
theorem oh9{α:Type}{l:List α}{i:Nat}(h:l.length≤i):l.drop i=[]:=List.drop_eq_nil_of_le h
theorem ge6{α:Type}{l:List α}{i:Nat}(h:i<l.length): ∃x,l[i]? =some x:=⟨_,List.getElem?_eq_getElem h⟩
end Go.Proofs.Ytoglhlonhmmieaa
namespace Go.Proofs.Ytoglhlonhmmieaa
open Go.Am Go.Vm Go.Alg
def lls(nl:Nat)(m:List (List Int)):List Tree:=m.map fun l=> .sl nl 3 1 (ivs l)
theorem qf0(nl:Nat)(m:List (List Int)):(lls nl m).length=m.length:=by simp[lls]
theorem th8{nl:Nat}{m:List (List Int)}{i:Nat}{l:List Int}(h:m[i]? =some l):(lls nl m)[i]? =some (.sl nl 3 1 (ivs l)):=by
 unfold lls;rw[List.getElem?_map,h];rfl
theorem lg8(nl:Nat)(m:List (List Int)):jj5 (lls nl m)=lvs nl m:=by
 rw[gz0]
 unfold lls lvs
 rw[List.map_map]
 refine List.map_congr_left fun l _=> ?_
 show strip _=_
 rw[strip,ap3]
theorem lr8(nl:Nat)(m:List (List Int)):jj5 (lvs nl m)=lvs nl m:=by
 rw[gz0]
 unfold lvs
 rw[List.map_map]
 refine List.map_congr_left fun l _=> ?_
 show strip _=_
 rw[strip,ap3]
theorem ng3(nl:Nat)(m:List (List Int))(l:List Int):lls nl m++[.sl nl 3 1 (ivs l)]=lls nl (m++[l]):=by unfold lls;rw[List.map_append];rfl
theorem y81(nl:Nat)(m:List (List Int))(i:Nat)(l:List Int):(lls nl m).set i (.sl nl 3 1 (ivs l))=lls nl (m.set i l):=by unfold lls;rw[List.map_set]
theorem mm0(nl:Nat)(m:List (List Int))(n:Nat):(lls nl m).take n=lls nl (m.take n):=by unfold lls;rw[List.map_take]
theorem by3(nl:Nat)(m:List (List Int))(n:Nat):(lls nl m).drop n=lls nl (m.drop n):=by unfold lls;rw[List.map_drop]
theorem rj0(nl:Nat)(m:List (List Int))(n:Nat):(lvs nl m).take n=lvs nl (m.take n):=by unfold lvs;rw[List.map_take]
theorem ff4(nl:Nat)(m:List (List Int))(n:Nat):(lvs nl m).drop n=lvs nl (m.drop n):=by unfold lvs;rw[List.map_drop]
theorem lz6:ivs []=([]:List Tree):=rfl
theorem x25(nl:Nat):lls nl []=([]:List Tree):=rfl
@[push_cast] theorem wf0{q:Int} [h:IsFld q]:isNode (pF q)=true:=by
 obtain⟨p,m,g,mod,hn⟩:=h.ok
 unfold pF;rw[hn];rfl
@[push_cast] theorem v60{q:Int} [h:IsFld q]{b:Bool}:ofz b (pF q)=some (.fz b (pF q)):=by
 obtain⟨p,m,g,mod,hn⟩:=h.ok
 unfold pF;rw[hn];rfl
theorem iva{q:Int} [IsFld q]{l:List (El q)}{i:Nat}(h:i<l.length):(ivs (vs l))[i]? =some (.v (.int .i64 (wf l i).v)):=by
 rw[ui5 (by rw[fi2];exact h),v86];rfl
attribute [push_cast 50] List.isEmpty_nil List.isEmpty_cons nb9 qf0 lg8 lr8 ng3 mm0 by3 rj0 ff4 fi2 List.map_nil ite_self List.set_cons_zero List.set_cons_succ List.set_nil List.take_zero List.take_nil List.drop_zero List.drop_nil List.take_succ_cons List.drop_succ_cons List.take_length List.length_map List.flatMap_nil List.flatMap_cons gf1 pl3 l78 ap3 so0 nc5 yp5 u42 cs7 Int.natCast_add Int.natCast_one Int.natCast_zero Int.toNat_natCast Nat.div_one Nat.mul_one List.length_set List.all_cons List.all_nil List.length_append List.length_replicate List.length_take List.length_drop Int.zero_add
theorem vrl:(∀{zs:List Int} {i:Nat},i<zs.length→(ivs zs)[i]? =some (.v (.int .i64 (gi zs (i:Int)))))∧(∀(zs:List Int) (i:Nat) (x:Int),(ivs zs).set i (.v (.int .i64 x))=ivs (zs.set i x))∧(∀(nl:Nat) (m:List (List Int)) (i:Nat) (l:List Int),(lls nl m).set i (.sl nl 3 1 (ivs l))=lls nl (m.set i l))∧(∀{n b:Nat},n≤1000000→b≤1000→few n b=true)∧(∀{x:Int},-9223372036854775808≤x→x≤9223372036854775807→IntKind.wrap .i64 x=x)∧(∀{a b:Int},a<b→decide (a<b)=true)∧(∀{a b:Int},b≤a→decide (a<b)=false)∧(∀{a b:Int},a≤b→decide (a≤b)=true)∧(∀{a b:Int},b<a→decide (a≤b)=false)∧(∀{a b:Int},a=b→decide (a=b)=true)∧ ∀{a b:Int},¬a=b→decide (a=b)=false:=⟨ui5,lu7,y81,bj9,wrap64,dec_lt,cw6,nl3,qc6,mr8,nb8⟩
section
variable {q p m g:Int} [IsFld q] {t:Tree} {b b':Bool} {nl nl':Nat}
variable {N:Nat} {P Q:List (List (El q))} {nr nr':Nat}
end
theorem iat{l:List Int}{i:Nat}{a:Int}(h:l[i]? =some a):(ivs l)[i]? =some (.v (.int .i64 a)):=by
 unfold ivs;rw[List.getElem?_map,h];rfl
def jks(n:Nat):List Tree:=List.replicate n .junk
@[push_cast] theorem gc3(n:Nat):(jks n).length=n:=List.length_replicate ..
def nl0:Nat→Nat
 |0=>1
 |_+1=>0
def nl1:Nat→Nat
 |0=>0
 |_+1=>1
@[push_cast] theorem o09(n:Nat):nl0 (n+1)=0:=rfl
@[push_cast] theorem m17(n:Nat):nl1 (n+1)=1:=rfl
@[push_cast] theorem vt2:nl0 0=1:=rfl
@[push_cast] theorem og7:nl1 0=0:=rfl
section
variable {b:Bool} {nl:Nat} {l:List Int}
section
variable {k:FuncId} {t:Tree} {p:Int→Bool}
end
section
variable {k:FuncId} {t:Tree} {p:List Int→Bool} {m:List (List Int)} {nr:Nat} {bl:Bool}
end
end
section
variable {α:Type} {n i at':Nat} {M:List (List α)}
end
section
variable {q:Int} [IsFld q] {n c i at':Nat} {M:List (List (El q))}
end
end Go.Proofs.Ytoglhlonhmmieaa
namespace Go.Alg
section
variable {K:Type} [FK K]
def disc(C s:Nat→K)(j:Nat):K:=sumN (j+1) fun k=>C k*s (j-k)
def shift(g:Nat)(B:Nat→K)(k:Nat):K:=if k<g then 0 else B (k-g)
end
end Go.Alg
namespace Go.Alg
section
variable {K:Type} [FK K]
theorem pv3(n:Nat)(f g:Nat→K):sumN n (fun i=>f i+g i)=sumN n f+sumN n g:=jl9 _ _ _
theorem x18(c:K)(n:Nat)(f:Nat→K):sumN n (fun i=>c*f i)=c*sumN n f:=ro9 _ _ _
theorem z09(n:Nat)(f:Nat→K):sumN n (fun i=> -f i)= -sumN n f:=eq0 _ _
def ofF(n:Nat)(f:Nat→K):List K:=(List.range n).map f
theorem gh0(n:Nat)(f:Nat→K):(ofF n f).length=n:=by simp[ofF]
theorem b43(n:Nat)(f:Nat→K)(k:Nat):wf (ofF n f) k=if k<n then f k else 0:=by
 by_cases h:k<n
 ·rw[if_pos h,i67 (by rw[gh0];exact h)]
  simp[ofF]
 ·rw[if_neg h,ez8 (by rw[gh0];omega)]
theorem ot8{n:Nat}{f:Nat→K}(h: ∀k,n≤k→f k=0):wf (ofF n f)=f:=by
 funext k
 rw[b43]
 split
 ·rfl
 ·exact(h k (by omega)).symm
theorem qt9:wf ([]:List K)=fun _=>0:=rfl
theorem g29(l:List K)(n k:Nat):wf (l.take n) k=if k<n then wf l k else 0:=by
 unfold wf
 rw[List.getD_eq_getElem?_getD,List.getD_eq_getElem?_getD,List.getElem?_take]
 split<;>rfl
theorem nz0(l l':List K)(k:Nat):wf (l++l') k=if k<l.length then wf l k else wf l' (k-l.length):=by
 unfold wf
 rw[List.getD_eq_getElem?_getD,List.getD_eq_getElem?_getD,List.getD_eq_getElem?_getD]
 split
 ·rename_i h;rw[List.getElem?_append_left h]
 ·rename_i h;rw[List.getElem?_append_right (by omega)]
theorem m12(n:Nat)(k:Nat):wf (List.replicate n (0:K)) k=0:=by
 by_cases h:k<n
 ·rw[i67 (by simpa using h),List.getElem_replicate]
 ·rw[ez8 (by simp;omega)]
theorem rb9(n:Nat):wf (List.replicate n (0:K))=fun _=>0:=funext fun k=>m12 n k
def tN(l:List K):Nat→Nat
 |0=>0
 |n+1=>if wf l n=0 then tN l n else n+1
def xa4(l:List K):List K:=l.take (tN l l.length)
theorem vv2(l:List K): ∀n,tN l n≤n
 |0=>Nat.le_refl _
 |n+1=>by have:=vv2 l n;rw[tN];split<;>omega
theorem z25(l:List K): ∀(n i:Nat),tN l n≤i→i<n→wf l i=0
 |0,i,_,h=>by omega
 |n+1,i,h1,h2=>by
  rw[tN]at h1
  split at h1
  ·by_cases he:i=n
   ·subst he;assumption
   ·exact z25 l n i h1 (by omega)
  ·omega
theorem uv7(l:List K): ∀n,tN l n≠0→wf l (tN l n-1)≠0
 |0,h=>absurd rfl h
 |n+1,h=>by
  rw[tN]at h⊢
  split
  ·rename_i h0
   rw[if_pos h0]at h
   exact uv7 l n h
  ·rw[Nat.add_sub_cancel];assumption
theorem kf0(l:List K):(xa4 l).length=tN l l.length:=by
 unfold xa4;rw[List.length_take];have:=vv2 l l.length;omega
theorem tb1(l:List K):(xa4 l).length≤l.length:=by rw[kf0];exact vv2 _ _
theorem vb5(l:List K):wf (xa4 l)=wf l:=by
 funext k
 unfold xa4
 rw[g29]
 split
 ·rfl
 ·by_cases h2:k<l.length
  ·exact(z25 l l.length k (by omega) h2).symm
  ·exact(ez8 (by omega)).symm
theorem n42:xa4 ([]:List K)=[]:=rfl
def Trm(l:List K):Prop:=l.length≠0→wf l (l.length-1)≠0
theorem ua7(l:List K):Trm (xa4 l):=by
 intro h
 rw[vb5,kf0]
 rw[kf0]at h
 exact uv7 l l.length h
theorem kf6{a:List K}(ha:Trm a){n:Nat}(h: ∀k,n≤k→wf a k=0):a.length≤n:=by
 by_cases hl:a.length≤n
 ·exact hl
 ·exact absurd (h (a.length-1) (by omega)) (ha (by omega))
theorem lz5{a b:List K}(ha:Trm a)(hb:Trm b)(h:wf a=wf b):a=b:=by
 have key: ∀{a b:List K},Trm a→wf a=wf b→a.length≤b.length:=fun ha h=>kf6 ha fun k hk=>by rw[h,ez8 hk]
 exact ou8 (Nat.le_antisymm (key ha h) (key hb h.symm)) h
theorem ou7{a:List K}(h:Trm a):xa4 a=a:=lz5 (ua7 a) h (vb5 a)
theorem df7{a:List K}{n:Nat}(h: ∀k,n≤k→wf a k=0):(xa4 a).length≤n:=kf6 (ua7 a) fun k hk=>by rw[vb5];exact h k hk
theorem wg5:Trm ([]:List K):=fun h=>absurd rfl h
theorem vy9{a:List K}(h:wf a=fun _=>0):xa4 a=[]:=List.eq_nil_of_length_eq_zero (Nat.le_zero.1 (df7 (n:=0) fun k _=>by rw[h]))
theorem rj1{a:List K}:xa4 a=[]↔wf a=fun _=>0:=⟨fun h=>by rw[←vb5 a,h];rfl,vy9⟩
def addK(a b:List K):List K:=xa4 (ofF (max a.length b.length) fun k=>wf a k+wf b k)
theorem w62(a b:List K):wf (addK a b)=fun k=>wf a k+wf b k:=by
 unfold addK
 rw[vb5]
 exact ot8 fun k hk=>by rw[ez8 (by omega),ez8 (by omega),FK.add_zero]
theorem tt8(g:Nat→K)(k:Nat):disc (fun _=>0) g k=0:=ja4 fun _ _=>zero_mul _
theorem o59(c:K)(f g:Nat→K)(k:Nat):disc (fun i=>match i with|0=>c|i+1=>f i) g k=c*g k+(match k with|0=>0|k+1=>disc f g k):=by
 unfold disc
 rw[c72]
 cases k with
 |zero=>rfl
 |succ k=>
  refine congrArg _ (rc1 fun i hi=> ?_)
  rw[show k+1-(i+1)=k-i by omega]
theorem iu6(c:K)(l:List K):wf (c::l)=fun i=>match i with|0=>c|i+1=>wf l i:=by
 funext i
 cases i<;>rfl
theorem hr9{f g:Nat→K}{n m k:Nat}(hf: ∀i,n≤i→f i=0)(hg: ∀i,m≤i→g i=0)(hk:n+m≤k+1):disc f g k=0:=ja4 fun i hi=>by
 by_cases h:n≤i
 ·rw[hf i h,zero_mul]
 ·rw[hg (k-i) (by omega),mul_zero]
theorem b30{f g:Nat→K}{n m:Nat}(hf: ∀i,n<i→f i=0)(hg: ∀i,m<i→g i=0):disc f g (n+m)=f n*g m:=by
 unfold disc
 rw[xq2 (s:=n) (by omega) fun i hi hne=> ?_]
 ·rw[show n+m-n=m by omega]
 ·by_cases h:n<i
  ·rw[hf i h,zero_mul]
  ·rw[hg _ (by omega),mul_zero]
theorem ck4(f g:Nat→K)(k:Nat):disc f g k=disc g f k:=by
 unfold disc
 have: ∀(n:Nat) (h:Nat→K),sumN n h=sumN n fun i=>h (n-1-i):=by
  intro n
  induction n with
  |zero=>intro h;rfl
  |succ n ih=>
   intro h
   rw[c72,ih,cp9,FK.add_comm]
   refine congr (congrArg _ (rc1 fun i hi=> ?_)) ?_
   ·rw[show n+1-1-i=n-1-i+1 by omega]
   ·rw[show n+1-1-n=0 by omega]
 rw[this]
 refine rc1 fun i hi=> ?_
 rw[show k+1-1-i=k-i by omega,show k-(k-i)=i by omega,FK.mul_comm]
theorem ea4{f g h:Nat→K}{k:Nat}:disc f (fun i=>g i+h i) k=disc f g k+disc f h k:=
 (rc1 fun i _=>FK.mul_add _ _ _).trans (pv3 _ _ _)
theorem bf5{f g h:Nat→K}{k:Nat}:disc (fun i=>f i+g i) h k=disc f h k+disc g h k:=by
 rw[ck4,ea4,ck4 h f,ck4 h g]
theorem bq0{f g:Nat→K}{k:Nat}:disc f (fun i=> -g i) k= -disc f g k:=
 (rc1 fun i _=>mul_neg _ _).trans (z09 _ _)
theorem fh4{f g:Nat→K}{k:Nat}:disc (fun i=> -f i) g k= -disc f g k:=by rw[ck4,bq0,ck4]
theorem ks7{c:K}{f g:Nat→K}{k:Nat}:disc (fun i=>c*f i) g k=c*disc f g k:=
 (rc1 fun i _=>FK.mul_assoc _ _ _).trans (x18 _ _ _)
def mulK(a b:List K):List K:=if a.length=0∨b.length=0 then []else xa4 (ofF (a.length+b.length-1) (disc (wf a) (wf b)))
theorem zu9(a b:List K):wf (mulK a b)=disc (wf a) (wf b):=by
 unfold mulK
 split
 ·rename_i h
  funext k
  rcases h with h|h
  ·rw[List.eq_nil_of_length_eq_zero h,qt9,tt8]
  ·rw[List.eq_nil_of_length_eq_zero h,ck4,qt9,tt8]
 ·rw[vb5]
  exact ot8 fun k hk=>hr9 (n:=a.length) (m:=b.length) (fun i hi=>ez8 hi) (fun i hi=>ez8 hi) (by omega)
theorem ho6(a b:List K):Trm (mulK a b):=by
 unfold mulK
 split
 ·exact wg5
 ·exact ua7 _
theorem bx5(a b:List K):(mulK a b).length≤a.length+b.length-1:=by
 unfold mulK
 split
 ·exact Nat.zero_le _
 ·exact df7 fun k hk=>by rw[b43,if_neg (by omega)]
theorem lk3{a b:List K}(ha:Trm a)(hb:Trm b)(h1:a≠[])(h2:b≠[]):(mulK a b).length=a.length+b.length-1:=by
 have l1:0<a.length:=List.length_pos_iff.2 h1
 have l2:0<b.length:=List.length_pos_iff.2 h2
 refine Nat.le_antisymm (bx5 a b) (Classical.byContradiction fun h=> ?_)
 have h3:disc (wf a) (wf b) (a.length-1+(b.length-1))=0:=by rw[←zu9,ez8 (by omega)]
 rw[b30 (fun i hi=>ez8 (by omega)) (fun i hi=>ez8 (by omega))]at h3
 exact hl5 (ha (by omega)) (hb (by omega)) h3
def ev:List K→K→K
 | [],_=>0
 |a::l,x=>a+x*ev l x
theorem qm4{f:K→K}(h0:f 0=0)(a:List K)(k:Nat):wf (a.map f) k=f (wf a k):=by
 by_cases h:k<a.length
 ·rw[i67 (by simpa using h),i67 h,List.getElem_map]
 ·rw[ez8 (by simp;omega),ez8 (by omega),h0]
def sd(x0:K):List K→List K×K
 | []=>([],0)
 | [a]=>([],a)
 |a::b::l=>((sd x0 (b::l)).2::(sd x0 (b::l)).1,a+x0*(sd x0 (b::l)).2)
theorem w89(x0:K): ∀l:List K,(sd x0 l).1.length=l.length-1
 | []=>rfl
 | [a]=>rfl
 |a::b::l=>by
  rw[sd]
  show(sd x0 (b::l)).1.length+1=_
  rw[w89 x0 (b::l)];simp
theorem n68(x0 y:K): ∀l:List K,ev l y=(y-x0)*ev (sd x0 l).1 y+(sd x0 l).2
 | []=>by rw[sd,ev,mul_zero,FK.add_zero]
 | [a]=>by
   show a+y*0=(y-x0)*0+a
   rw[mul_zero,mul_zero,FK.add_zero,zero_add]
 |a::b::l=>by
  rw[ev,n68 x0 y (b::l),sd]
  show a+y*((y-x0)*ev (sd x0 (b::l)).1 y+(sd x0 (b::l)).2)=(y-x0)*((sd x0 (b::l)).2+y*ev (sd x0 (b::l)).1 y)+(a+x0*(sd x0 (b::l)).2)
  generalize (sd x0 (b::l)).2=r
  generalize ev (sd x0 (b::l)).1 y=e
  rw[FK.mul_add,FK.mul_add,sub_mul y x0 r]
  have h1:y*((y-x0)*e)=(y-x0)*(y*e):=by ac_rfl
  rw[h1,sub_eq (y*r)]
  have h2:y*r+ -(x0*r)+(y-x0)*(y*e)+(a+x0*r)=a+((y-x0)*(y*e)+y*r)+(-(x0*r)+x0*r):=by ac_rfl
  rw[h2,neg_add,FK.add_zero]
theorem cz6(x0:K)(l:List K):(sd x0 l).2=ev l x0:=by
 have:=n68 x0 x0 l
 rw[sub_self,zero_mul,zero_add]at this
 exact this.symm
theorem rj2(x0:K): ∀l:List K,(∀c∈(sd x0 l).1,c=0)→(sd x0 l).2=0→ ∀c∈l,c=0
 | [],_,_,c,hc=>by cases hc
 | [a],_,h,c,hc=>by
   rw[List.mem_singleton.1 hc];exact h
 |a::b::l,h1,h2,c,hc=>by
  rw[sd]at h1 h2
  have hr:(sd x0 (b::l)).2=0:=h1 _ (by simp)
  have ih:=rj2 x0 (b::l) (fun c hc=>h1 c (by simp[hc])) hr
  rcases List.mem_cons.1 hc with rfl|hc
  ·rw[hr,mul_zero,FK.add_zero]at h2;exact h2
  ·exact ih c hc
theorem roots: ∀(xs:List K) (f:List K),xs.Nodup→f.length≤xs.length→(∀x∈xs,ev f x=0)→ ∀c∈f,c=0
 | [],f,_,hl,_=>by
   intro c hc
   rw[List.eq_nil_of_length_eq_zero (Nat.le_zero.1 hl)]at hc;cases hc
 |x0::xs,f,hn,hl,hx=>by
  rw[List.nodup_cons]at hn
  have h0:=hx x0 (by simp)
  rw[←cz6]at h0
  have hl2:=w89 x0 f
  rw[List.length_cons]at hl
  refine rj2 x0 f (roots xs _ hn.2 (by omega) fun y hy=> ?_) h0
  have h1:=n68 x0 y f
  rw[hx y (by simp[hy]),h0,FK.add_zero]at h1
  rcases mul_eq_zero h1.symm with h2|h2
  ·exact absurd (by rw[←sub_eq_zero.1 h2];exact hy) hn.1
  ·exact h2
end
end Go.Alg
namespace Go.Alg
section
variable {K:Type} [FK K]
theorem op2{f:Nat→K}{n:Nat}(hf: ∀k,n≤k→f k=0)(hne:f≠fun _=>0): ∃m,f m≠0∧ ∀k,m<k→f k=0:=by
 have h1:wf (ofF n f)=f:=ot8 hf
 have h2:xa4 (ofF n f)≠[]:=fun h=>hne (by rw[←h1];exact rj1.1 h)
 have h3:0<(xa4 (ofF n f)).length:=List.length_pos_iff.2 h2
 refine⟨(xa4 (ofF n f)).length-1, ?_,fun k hk=> ?_⟩
 ·have:=ua7 (ofF n f) (by omega)
  rwa [vb5,h1]at this
 ·rw[←h1,←vb5]
  exact ez8 (by omega)
theorem fq3{f g:Nat→K}{n m:Nat}(hf: ∀k,n≤k→f k=0)(hg: ∀k,m≤k→g k=0)(h1:f≠fun _=>0)(h2:g≠fun _=>0): ∃i j,f i≠0∧(∀k,i<k→f k=0)∧g j≠0∧(∀k,j<k→g k=0)∧disc f g (i+j)≠0:=by
 obtain⟨i,i1,i2⟩:=op2 hf h1
 obtain⟨j,j1,j2⟩:=op2 hg h2
 exact⟨i,j,i1,i2,j1,j2,by rw[b30 i2 j2];exact hl5 i1 j1⟩
structure IsDiv (a b Q R:List K):Prop where
 q:Trm Q
 r:Trm R
 lt:R.length<b.length
 eq: ∀k,wf a k=disc (wf Q) (wf b) k+wf R k
theorem IsDiv.uniq{a b Q R Q' R':List K}(hb:Trm b)(h:IsDiv a b Q R)(h':IsDiv a b Q' R'):Q=Q'∧R=R':=by
 have hbl:0<b.length:=by have:=h.lt;omega
 have hq:wf Q=wf Q':=by
  refine Classical.byContradiction fun hne=> ?_
  have hD:(fun k=>wf Q k+ -wf Q' k)≠fun _=>0:=fun e=>hne (funext fun k=>sub_eq_zero.1 (congrFun e k))
  have hB:wf b≠fun _=>0:=fun e=>hb (by omega) (congrFun e _)
  obtain⟨i,j,i1,i2,j1,j2,h1⟩:=fq3 (n:=max Q.length Q'.length) (m:=b.length) (fun k hk=>by rw[ez8 (by omega),ez8 (by omega),neg_zero,FK.add_zero]) (fun k hk=>ez8 hk) hD hB
  have hj:j=b.length-1:=by
   have h2:=hb (by omega)
   rcases Nat.lt_trichotomy j (b.length-1)with h|h|h
   ·exact absurd (j2 _ h) h2
   ·exact h
   ·exact absurd (ez8 (by omega)) j1
  apply h1
  rw[bf5,fh4]
  have e1:=h.eq (i+j)
  have e2:=h'.eq (i+j)
  rw[ez8 (l:=R) (by have:=h.lt;omega),FK.add_zero]at e1
  rw[ez8 (l:=R') (by have:=h'.lt;omega),FK.add_zero]at e2
  rw[←e1,←e2,FK.add_neg]
 have hQ:=lz5 h.q h'.q hq
 refine⟨hQ,lz5 h.r h'.r (funext fun k=> ?_)⟩
 have e1:=h.eq k
 rw[h'.eq k,hQ]at e1
 exact(g50 e1).symm
theorem uj8(c:K)(k:Nat)(g:Nat→K)(j:Nat):disc (fun i=>if i=k then c else 0) g j=c*shift k g j:=by
 unfold shift
 split
 ·rename_i h
  rw[mul_zero]
  exact ja4 fun i hi=>by
   show(if i=k then c else 0)*_=_
   rw[if_neg (by omega),zero_mul]
 ·rename_i h
  unfold disc
  rw[xq2 (s:=k) (by omega) fun i _ hne=>by
   show(if i=k then c else 0)*_=_
   rw[if_neg hne,zero_mul]]
  show(if k=k then c else 0)*_=_
  rw[if_pos rfl]
structure DivI (a b:List K) (k:Nat) (Q R:List K):Prop where
 eq: ∀j,wf a j=disc (wf Q) (wf b) j+wf R j
 up: ∀j,k+b.length≤j+1→wf R j=0
 low: ∀j,j<k→wf Q j=0
theorem DivI.step{a b:List K}{k:Nat}{Q R Q' R':List K}(hb:0<b.length)(hb0:wf b (b.length-1)≠0)(h:DivI a b (k+1) Q R){c:K}(hc:c=wf R (k+b.length-1)*FK.inv (wf b (b.length-1)))
 (hQ: ∀j,wf Q' j=if j=k then c else wf Q j) (hR: ∀j,wf R' j=wf R j-c*shift k (wf b) j):DivI a b k Q' R':=by
 have hQf:wf Q'=fun j=>wf Q j+(if j=k then c else 0):=funext fun j=>by
  rw[hQ]
  split
  ·rename_i e;rw[e,h.low k (by omega),zero_add]
  ·rw[FK.add_zero]
 refine⟨fun j=> ?_,fun j hj=> ?_,fun j hj=> ?_⟩
 ·rw[h.eq j,hQf,bf5,uj8,hR,FK.add_assoc,FK.add_comm (c*_),fj9]
 ·rw[hR]
  by_cases he:j+1=k+b.length
  ·rw[show k+b.length-1=j by omega]at hc
   unfold shift
   rw[if_neg (by omega),show j-k=b.length-1 by omega,hc,FK.mul_assoc,inv_mul hb0,FK.mul_one,sub_self]
  ·rw[h.up j (by omega)]
   unfold shift
   rw[if_neg (by omega),ez8 (by omega),mul_zero,sub_zero]
 ·rw[hQ,if_neg (by omega),h.low j (by omega)]
theorem DivI.done{a b Q R:List K}(h:DivI a b 0 Q R)(hb:0<b.length):IsDiv a b (xa4 Q) (xa4 R):=by
 refine⟨ua7 _,ua7 _, ?_,fun k=>by rw[vb5,vb5];exact h.eq k⟩
 have:=df7 (a:=R) (n:=b.length-1) fun k hk=>h.up k (by omega)
 omega
theorem DivI.start{a b:List K}{n k:Nat}(hk:a.length≤k+b.length-1):DivI a b k (List.replicate n 0) a:=
 ⟨fun j=>by rw[rb9,tt8,zero_add],fun j hj=>ez8 (by omega),fun j _=>m12 n j⟩
def subR(c:K)(b:List K)(k:Nat):Nat→Nat→List K→List K
 |0,_,R=>R
 |n+1,i,R=>subR c b k n (i+1) (R.set (k+i) (wf R (k+i)-c*wf b i))
theorem xs2(c:K)(b:List K)(k:Nat): ∀(n i:Nat) (R:List K),(subR c b k n i R).length=R.length
 |0,_,_=>rfl
 |n+1,i,R=>by rw[subR,xs2 c b k n,List.length_set]
theorem je9(c:K)(b:List K)(k:Nat): ∀(n i:Nat) (R:List K),k+i+n≤R.length→ ∀j,wf (subR c b k n i R) j=if k+i≤j∧j<k+i+n then wf R j-c*wf b (j-k)else wf R j
 |0,i,R,_,j=>by rw[subR,if_neg (by omega)]
 |n+1,i,R,h,j=>by
  rw[subR,je9 c b k n (i+1) _ (by rw[List.length_set];omega),wf_set (by omega)]
  by_cases h1:j=k+i
  ·subst h1
   rw[if_neg (by omega),if_pos rfl,if_pos (by omega),Nat.add_sub_cancel_left]
  ·rw[if_neg h1]
   by_cases h2:k+(i+1)≤j∧j<k+(i+1)+n
   ·rw[if_pos h2,if_pos (by omega)]
   ·rw[if_neg h2,if_neg (by omega)]
theorem fn3(c:K)(b:List K)(k:Nat)(R:List K)(h:k+b.length≤R.length)(j:Nat):wf (subR c b k b.length 0 R) j=wf R j-c*shift k (wf b) j:=by
 rw[je9 c b k _ _ _ (by omega)]
 unfold shift
 by_cases h1:j<k
 ·rw[if_neg (by omega),if_pos h1,mul_zero,sub_zero]
 ·rw[if_neg h1]
  by_cases h2:j<k+b.length
  ·rw[if_pos (by omega)]
  ·rw[if_neg (by omega),ez8 (l:=b) (by omega),mul_zero,sub_zero]
theorem bg8{a b:List K}(hb:0<b.length)(hb0:wf b (b.length-1)≠0): ∀(k:Nat) (Q R:List K),DivI a b k Q R→k≤Q.length→k+b.length≤R.length+1→ ∃Q' R',DivI a b 0 Q' R'
 |0,Q,R,h,_,_=>⟨Q,R,h⟩
 |k+1,Q,R,h,hq,hr=>bg8 hb hb0 k (Q.set k (wf R (k+b.length-1)*FK.inv (wf b (b.length-1)))) (subR (wf R (k+b.length-1)*FK.inv (wf b (b.length-1))) b k b.length 0 R)
   (h.step hb hb0 rfl (fun j=>wf_set (by omega) j) (fn3 _ b k R (by omega))) (by rw[List.length_set];omega) (by rw[xs2];omega)
theorem uj1{a b:List K}(hb:Trm b)(hb0:b≠[]): ∃Q R,IsDiv a b Q R:=by
 have h1:0<b.length:=List.length_pos_iff.2 hb0
 obtain⟨Q,R,h⟩:=bg8 (a:=a) h1 (hb (by omega)) (a.length+1-b.length) (List.replicate (a.length+1-b.length) 0) (a++List.replicate b.length 0)
  (by
    have e:wf (a++List.replicate b.length 0)=wf a:=funext fun k=>by
     rw[nz0]
     split
     ·rfl
     ·rw[m12,ez8 (by omega)]
    have:=DivI.start (a:=a) (b:=b) (n:=a.length+1-b.length) (k:=a.length+1-b.length) (by omega)
    exact⟨fun j=>by rw[e];exact this.eq j,fun j hj=>by rw[e];exact this.up j hj,this.low⟩) (by simp) (by simp;omega)
 exact⟨_,_,h.done h1⟩
theorem IsDiv.len{a b Q R:List K}(h:IsDiv a b Q R)(ha:Trm a)(hb:Trm b)(hl:b.length≤a.length):Q.length=a.length-b.length+1∧Q≠[]:=by
 have hb0:0<b.length:=by have:=h.lt;omega
 have hne:Q≠[]:=fun e=>by
  have h1:=h.eq (a.length-1)
  rw[e,qt9,tt8,zero_add,ez8 (l:=R) (by have:=h.lt;omega)]at h1
  exact ha (by omega) h1
 have hq:0<Q.length:=List.length_pos_iff.2 hne
 have hlen:=lk3 h.q hb hne (fun e=>by rw[e]at hb0;exact absurd hb0 (by simp))
 have key:mulK Q b≠[]:=fun e=>by rw[e]at hlen;simp at hlen;omega
 refine⟨?_,hne⟩
 rcases Nat.lt_trichotomy (Q.length+b.length-1) a.length with h1|h1|h1
 ·have h2:=h.eq (a.length-1)
  rw[hr9 (n:=Q.length) (m:=b.length) (fun i hi=>ez8 hi) (fun i hi=>ez8 hi) (by omega),ez8 (l:=R) (by have:=h.lt;omega),FK.add_zero]at h2
  exact absurd h2 (ha (by omega))
 ·omega
 ·have h2:=h.eq (Q.length+b.length-2)
  rw[ez8 (by omega),ez8 (l:=R) (by have:=h.lt;omega),FK.add_zero,show Q.length+b.length-2=(Q.length-1)+(b.length-1) by omega,b30 (fun i hi=>ez8 (by omega)) (fun i hi=>ez8 (by omega))]at h2
  exact absurd h2.symm (hl5 (h.q (by omega)) (hb (by omega)))
theorem IsDiv.of_mul{a b Q:List K}(hb:Trm b)(hb0:b≠[])(h:wf a=disc (wf Q) (wf b)):IsDiv a b (xa4 Q) []:=
 ⟨ua7 _,wg5,List.length_pos_iff.2 hb0,fun k=>by rw[vb5,h,qt9,FK.add_zero]⟩
end
end Go.Alg
namespace Go.Proofs.Ytoglhlonhmmieaa
open Go.Am Go.Vm Go.Alg
def polE(q:Int)(a:List Int):Int:=match fldN q.toNat with
 |none=>1
 |some _=>if 128<a.length then 4 else if(a.any fun v=> !fok q v)=true then 2 else 0
theorem i69{q:Int}(a:List (El q)):((vs a).any fun v=> !fok q v)=false:=List.any_eq_false.2 fun z hz=>by
 obtain⟨x,_,rfl⟩:=List.mem_map.1 hz
 rw[x.ok];decide
theorem i31{q:Int} [h:IsFld q]{a:List (El q)}(hl:a.length≤128):polE q (vs a)=0:=by
 obtain⟨p,m,g,mod,hn⟩:=h.ok
 unfold polE
 rw[hn]
 simp only
 rw[if_neg (by rw[fi2];omega),i69,if_neg (by decide)]
section
variable {q:Int} {b:Bool} {nl:Nat} {l:List Int}
theorem kj6 [IsFld q](hl:l.length≤9223372036854775807): ∀(n i:Nat),i+n=l.length→ ∀ks,
 vgoL W ⟨hNo,[.tmp 4],0⟩ [5,20,21,22] c103L0 (.blk 0 []::ks) [(5, .fz true (pF q)),(20, .fz b (.sl nl 0 1 (ivs l))),(21, .x (.int .i64 l.length)),(22, .x (.int .i64 i))] []=if((l.drop i).any fun v=> !fok q v)=true then some (.x (.int .i64 2),[],[])else vgo W ⟨hNo,[.tmp 4],0⟩ ks (VFr.of []) []
 |0,i,hi,ks=>by
  rw[oh9 (by omega),if_neg (by simp),sb5 c103L0.eq_def]
  simp(disch:=first|omega|fail) only[push_cast,seval,vrl,if_pos,if_neg]
 |n+1,i,hi,ks=>by
  have ih:=kj6 hl n (i+1) (by omega) ks
  obtain⟨a,ha⟩:=ge6 (l:=l) (i:=i) (by omega)
  have h1:=iat ha
  rw[i62 ha,List.any_cons]
  rw[Int.natCast_add,Int.natCast_one]at ih
  cases hk:fok q a with
  |false=>
   rw[if_pos (by rfl),sb5 c103L0.eq_def]
   simp(disch:=first|omega|fail) only[push_cast,seval,vrl,if_pos,if_neg,h1,hk]
  |true=>
   rw[Bool.not_true,Bool.false_or,←ih,sb5 c103L0.eq_def]
   simp(disch:=first|omega|fail) only[push_cast,seval,vrl,if_pos,if_neg,h1,hk]
theorem bw7(hl:l.length≤9223372036854775807):o24 W 103 [.x (.int .i64 q), .fz b (.sl nl 0 1 (ivs l))] []=some (.x (.int .i64 (polE q l)),[],[]):=by
 unfold polE
 cases hn:fldN q.toNat with
 |none=>
  have e0:=ug9 hn
  rw[o10 rfl T103 rfl]
  unfold F103 c103
  simp(disch:=first|omega|fail) only[push_cast,seval,vrl,if_pos,if_neg,e0]
 |some x=>
  obtain⟨p0,m0,g0,mod⟩:=x
  haveI:IsFld q:=⟨⟨p0,m0,g0,mod,hn⟩⟩
  simp only
  by_cases h1:128<l.length
  ·rw[if_pos h1,o10 rfl T103 rfl]
   unfold F103 c103
   simp(disch:=first|omega|fail) only[push_cast,seval,vrl,if_pos,if_neg]
  ·rw[if_neg h1]
   have e:=fun ks=>kj6 (q:=q) hl (b:=b) (nl:=nl) l.length 0 (by omega) ks
   simp only[Int.natCast_zero,List.take_zero,List.drop_zero,rp2,lz6,x25,List.map_nil,List.length_nil]at e
   rw[o10 rfl T103 rfl]
   unfold F103 c103
   simp(disch:=first|omega|fail) only[push_cast,seval,vrl,if_pos,if_neg]
   rw[e]
   by_cases h2:(l.any fun v=> !fok q v)=true
   ·rw[if_pos h2,if_pos h2]
   ·rw[if_neg h2,if_neg h2]
    simp(disch:=first|omega|fail) only[push_cast,seval,vrl,if_pos,if_neg]
end
section
variable {q:Int} [IsFld q] {b:Bool} {nl:Nat} {a:List (El q)}
theorem ee1(a:List (El q))(n:Nat):(vs a).take n=vs (a.take n):=by unfold vs;rw[List.map_take]
theorem ks8(a:List (El q)):nlT (vs a)=nlT a:=b99 _ _
theorem yc2(hl:a.length≤1000000): ∀(n:Nat),n≤a.length→ ∀ks,
 vgoL W ⟨hNo,[.tmp 2],0⟩ [0,3] c104L0 (.blk 0 [0,3]::ks) [(0, .fz b (.sl nl 0 1 (ivs (vs a)))),(3, .x (.int .i64 n))] []=vgo W ⟨hNo,[.tmp 2],0⟩ ks (VFr.of [(0, .fz b (.sl nl 0 1 (ivs (vs a)))),(3, .x (.int .i64 (tN a n:Nat)))]) []
 |0,hn,ks=>by
  rw[sb5 c104L0.eq_def,tN]
  simp(disch:=first|omega|fail) only[push_cast,seval,vrl,if_pos,if_neg]
 |n+1,hn,ks=>by
  have ih:=yc2 hl n (by omega) ks
  have h1:=iva (l:=a) (i:=n) (by omega)
  have w1:IntKind.wrap .i64 (((n+1:Nat):Int)-1)=(n:Int):=by rw[wrap64 (by omega) (by omega)];omega
  rw[Int.natCast_add,Int.natCast_one]at w1
  rw[sb5 c104L0.eq_def,tN]
  by_cases h0:wf a n=0
  ·rw[if_pos h0,←ih]
   have h2:(wf a n).v=0:=r57.2 h0
   simp(disch:=first|omega|fail) only[push_cast,seval,vrl,if_pos,if_neg,w1,h1,h2]
  ·rw[if_neg h0]
   have h2: ¬(wf a n).v=0:=fun e=>h0 (r57.1 e)
   simp(disch:=first|omega|fail) only[push_cast,seval,vrl,if_pos,if_neg,w1,h1,nb8 h2]
theorem di3(hl:a.length≤1000000):o24 W 104 [.fz b (.sl nl 0 1 (ivs (vs a)))] []=some (.own 0 [],[.sl (nlT (xa4 a)) 3 1 (ivs (vs (xa4 a)))],[]):=by
 have hle:=vv2 a a.length
 have e:=fun ks=>yc2 (b:=b) (nl:=nl) hl a.length (Nat.le_refl _) ks
 have htk:(vs a).take (tN a a.length)=vs (xa4 a):=ee1 _ _
 have hlt:=tb1 a
 have e1:=fun b nl=>h18 (b:=b) (nl:=nl) (zs:=vs (xa4 a)) (by rw[fi2];omega)
 simp only[ks8]at e1
 rw[o10 rfl T104 rfl]
 unfold F104 c104
 simp(disch:=first|omega|fail) only[push_cast,seval,vrl,if_pos,if_neg]
 rw[e]
 simp(disch:=first|omega|fail) only[push_cast,seval,vrl,if_pos,if_neg,htk,e1,Int.sub_zero]
end
end Go.Proofs.Ytoglhlonhmmieaa
namespace Go.Alg
section
variable {K:Type} [FK K]
def je7(v:K)(b:List K)(i:Nat):Nat→Nat→List K→List K
 |0,_,z=>z
 |n+1,k,z=>je7 v b i n (k+1) (z.set (i+k) (wf z (i+k)+v*wf b k))
def yc0(a b:List K):Nat→Nat→List K→List K
 |0,_,z=>z
 |n+1,i,z=>yc0 a b n (i+1) (je7 (wf a i) b i b.length 0 z)
theorem qo8(v:K)(b:List K)(i:Nat): ∀(n k:Nat) (z:List K),(je7 v b i n k z).length=z.length
 |0,_,_=>rfl
 |n+1,k,z=>by rw[je7,qo8 v b i n,List.length_set]
theorem th9(a b:List K): ∀(n i:Nat) (z:List K),(yc0 a b n i z).length=z.length
 |0,_,_=>rfl
 |n+1,i,z=>by rw[yc0,th9 a b n,qo8]
theorem h45(v:K)(b:List K)(i:Nat): ∀(n k:Nat) (z:List K),i+k+n≤z.length→ ∀j,wf (je7 v b i n k z) j=if i+k≤j∧j<i+k+n then wf z j+v*wf b (j-i)else wf z j
 |0,k,z,_,j=>by rw[je7,if_neg (by omega)]
 |n+1,k,z,h,j=>by
  rw[je7,h45 v b i n (k+1) _ (by rw[List.length_set];omega),wf_set (by omega)]
  by_cases h1:j=i+k
  ·subst h1
   rw[if_neg (by omega),if_pos rfl,if_pos (by omega),Nat.add_sub_cancel_left]
  ·rw[if_neg h1]
   by_cases h2:i+(k+1)≤j∧j<i+(k+1)+n
   ·rw[if_pos h2,if_pos (by omega)]
   ·rw[if_neg h2,if_neg (by omega)]
theorem sj6(v:K)(b:List K)(i:Nat)(z:List K)(h:i+b.length≤z.length)(j:Nat):wf (je7 v b i b.length 0 z) j=wf z j+v*shift i (wf b) j:=by
 rw[h45 v b i _ _ _ (by omega)]
 unfold shift
 by_cases h1:j<i
 ·rw[if_neg (by omega),if_pos h1,mul_zero,FK.add_zero]
 ·rw[if_neg h1]
  by_cases h2:j<i+b.length
  ·rw[if_pos (by omega)]
  ·rw[if_neg (by omega),ez8 (l:=b) (by omega),mul_zero,FK.add_zero]
theorem ok7(a b:List K): ∀(n i:Nat) (z:List K),i+n=a.length→a.length+b.length≤z.length+1→(∀j,wf z j=disc (fun k=>if k<i then wf a k else 0) (wf b) j)→ ∀j,wf (yc0 a b n i z) j=disc (wf a) (wf b) j
 |0,i,z,hi,hz,h,j=>by
  rw[yc0,h]
  congr 1
  funext k
  split
  ·rfl
  ·exact(ez8 (by omega)).symm
 |n+1,i,z,hi,hz,h,j=>by
  rw[yc0]
  refine ok7 a b n (i+1) _ (by omega) (by rw[qo8];exact hz) (fun k=> ?_) j
  rw[sj6 _ _ _ _ (by omega),h,←uj8,←bf5]
  congr 1
  funext l
  by_cases h1:l=i
  ·subst h1;rw[if_neg (by omega),if_pos rfl,if_pos (by omega),zero_add]
  ·by_cases h2:l<i
   ·rw[if_pos h2,if_neg h1,if_pos (by omega),FK.add_zero]
   ·rw[if_neg h2,if_neg h1,if_neg (by omega),FK.add_zero]
theorem cf5{a b:List K}(ha:a.length≠0)(hb:b.length≠0):xa4 (yc0 a b a.length 0 (List.replicate (a.length+b.length-1) 0))=mulK a b:=by
 refine lz5 (ua7 _) (ho6 _ _) ?_
 rw[vb5,zu9]
 funext j
 exact ok7 a b _ _ _ (by omega) (by rw[List.length_replicate];omega) (fun j=>by
  rw[m12]
  exact(ja4 fun k _=>by
   show(if k<0 then wf a k else 0)*_=_
   rw[if_neg (by omega),zero_mul]).symm) j
theorem u69(a b:List K):mulK (xa4 a) (xa4 b)=mulK a b:=lz5 (ho6 _ _) (ho6 _ _) (by rw[zu9,zu9,vb5,vb5])
theorem hz3{a b:List K}(h:a.length=0∨b.length=0):mulK a b=[]:=by unfold mulK;rw[if_pos h]
theorem w46(a b:List K):mulK a b=mulK b a:=lz5 (ho6 _ _) (ho6 _ _) (by
 rw[zu9,zu9]
 funext j
 exact ck4 _ _ _)
def divT(b:List K)(top:K):Nat→List K→List K→List K×List K
 |0,Q,R=>(Q,R)
 |k+1,Q,R=>divT b top k (Q.set k (wf R (k+b.length-1)*top)) (subR (wf R (k+b.length-1)*top) b k b.length 0 R)
theorem w81(b:List K)(top:K): ∀(k:Nat) (Q R:List K),(divT b top k Q R).1.length=Q.length∧(divT b top k Q R).2.length=R.length
 |0,_,_=>⟨rfl,rfl⟩
 |k+1,Q,R=>by
  have:=w81 b top k (Q.set k (wf R (k+b.length-1)*top)) (subR (wf R (k+b.length-1)*top) b k b.length 0 R)
  rw[List.length_set,xs2]at this
  rw[divT];exact this
theorem ch2{a b:List K}(hb:0<b.length)(hb0:wf b (b.length-1)≠0): ∀(k:Nat) (Q R:List K),DivI a b k Q R→k≤Q.length→k+b.length≤R.length+1→DivI a b 0 (divT b (FK.inv (wf b (b.length-1))) k Q R).1 (divT b (FK.inv (wf b (b.length-1))) k Q R).2
 |0,Q,R,h,_,_=>h
 |k+1,Q,R,h,hq,hr=>by
  rw[divT]
  exact ch2 hb hb0 k _ _ (h.step hb hb0 rfl (fun j=>wf_set (by omega) j) (fn3 _ b k R (by omega))) (by rw[List.length_set];omega) (by rw[xs2];omega)
open Classical in
noncomputable def quoP (a b:List K):List K:=if h: ∃p:List K×List K,IsDiv a b p.1 p.2 then(Classical.choose h).1 else []
open Classical in
noncomputable def remP (a b:List K):List K:=if h: ∃p:List K×List K,IsDiv a b p.1 p.2 then(Classical.choose h).2 else []
theorem h79{a b:List K}(hb:Trm b)(hb0:b≠[]):IsDiv a b (quoP a b) (remP a b):=by
 obtain⟨Q,R,h⟩:=uj1 (a:=a) hb hb0
 have hx: ∃p:List K×List K,IsDiv a b p.1 p.2:=⟨(Q,R),h⟩
 unfold quoP remP
 rw[dif_pos hx,dif_pos hx]
 exact Classical.choose_spec hx
theorem div_eq{a b Q R:List K}(hb:Trm b)(h:IsDiv a b Q R):quoP a b=Q∧remP a b=R:=by
 have hb0:b≠[]:=fun e=>by have:=h.lt;rw[e]at this;simp at this
 exact(h79 hb hb0).uniq hb h
theorem kj5{a b:List K}(ha:Trm a)(hb:Trm b)(hb0:b≠[])(hl:b.length≤a.length):(divT b (FK.inv (wf b (b.length-1))) (a.length-b.length+1) (List.replicate (a.length-b.length+1) 0) a).1=quoP a b∧xa4 (divT b (FK.inv (wf b (b.length-1))) (a.length-b.length+1) (List.replicate (a.length-b.length+1) 0) a).2=remP a b:=by
 have h1:0<b.length:=List.length_pos_iff.2 hb0
 have h:=(ch2 (a:=a) h1 (hb (by omega)) (a.length-b.length+1) (List.replicate (a.length-b.length+1) 0) a (DivI.start (by omega)) (by simp) (by omega)).done h1
 have hl1:=(w81 b (FK.inv (wf b (b.length-1))) (a.length-b.length+1) (List.replicate (a.length-b.length+1) 0) a).1
 rw[List.length_replicate]at hl1
 generalize divT b (FK.inv (wf b (b.length-1))) (a.length-b.length+1) (List.replicate (a.length-b.length+1) 0) a=D at h hl1⊢
 obtain⟨e1,e2⟩:=div_eq hb h
 have hq:=(h.len ha hb hl).1
 refine⟨?_,e2.symm⟩
 rw[e1]
 exact ou8 (by rw[hl1,hq]) (vb5 _).symm
theorem i84{a b:List K}(ha:Trm a)(hb:Trm b)(hl:a.length<b.length):quoP a b=[]∧remP a b=a:=div_eq hb ⟨wg5,ha,hl,fun k=>by rw[qt9,tt8,zero_add]⟩
end
end Go.Alg
namespace Go.Proofs.Ytoglhlonhmmieaa
open Go.Am Go.Vm Go.Alg
section
variable {q:Int} {b b':Bool} {nl nl':Nat}
theorem ce8 [IsFld q]{a c:List (El q)}(ha:a.length≤128)(hc:c.length≤128):
 o24 W 60 [.x (.int .i64 q), .fz b (.sl nl 0 1 (ivs (vs a))), .fz b' (.sl nl' 0 1 (ivs (vs c)))] []=some (.tup [.fz true (pF q), .own 0 [], .own 1 [], .x (.int .i64 0)],[.sl (nlT (xa4 a)) 3 1 (ivs (vs (xa4 a))), .sl (nlT (xa4 c)) 3 1 (ivs (vs (xa4 c)))],[]):=by
 have e1:=fun b nl=>bw7 (q:=q) (b:=b) (nl:=nl) (l:=vs a) (by rw[fi2];omega)
 have e2:=fun b nl=>bw7 (q:=q) (b:=b) (nl:=nl) (l:=vs c) (by rw[fi2];omega)
 simp only[i31 ha]at e1
 simp only[i31 hc]at e2
 have e3:=fun b nl=>di3 (b:=b) (nl:=nl) (a:=a) (by omega)
 have e4:=fun b nl=>di3 (b:=b) (nl:=nl) (a:=c) (by omega)
 rw[o10 rfl T60 rfl]
 unfold F60 c60
 simp(disch:=first|omega|fail) only[push_cast,seval,vrl,if_pos,if_neg,e1,e2,e3,e4]
theorem n82 [IsFld q]{a c:List (El q)}{i:Nat}{v:El q}(hc:c.length≤1000)(hi:i≤1000){A:List (El q)}{iA:Int}: ∀(n k:Nat) (z:List (El q)),k+n=c.length→i+c.length≤z.length→ ∀ks,
 vgoL W ⟨h61,[.tmp 6],0⟩ [0,2,7,8,9,27,28,29,34,35,36] c61L0 (.blk 2 [0,2,7,27,28,29]::ks) [(0, .fz true (pF q)),(2, .fz b' (.sl nl' 0 1 (ivs (vs c)))),(7, .own 0 []),(8, .x (.int .i64 i)),(9, .x (.int .i64 v.v)),(27, .fz b (.sl nl 0 1 (ivs (vs a)))),(28, .x (.int .i64 iA)),(29, .x (.int .i64 i)),(34, .fz b' (.sl nl' 0 1 (ivs (vs c)))),(35, .x (.int .i64 c.length)),(36, .x (.int .i64 k))] [.sl 0 3 1 (ivs (vs z))]=
  vgo W ⟨h61,[.tmp 6],0⟩ ks (VFr.of [(0, .fz true (pF q)),(2, .fz b' (.sl nl' 0 1 (ivs (vs c)))),(7, .own 0 []),(27, .fz b (.sl nl 0 1 (ivs (vs a)))),(28, .x (.int .i64 iA)),(29, .x (.int .i64 i))]) [.sl 0 3 1 (ivs (vs (je7 v c i n k z)))]
 |0,k,z,hk,hz,ks=>by
  rw[je7,sb5 c61L0.eq_def]
  simp(disch:=first|omega|fail) only[push_cast,seval,vrl,if_pos,if_neg]
 |n+1,k,z,hk,hz,ks=>by
  have ih:=n82 (a:=a) (v:=v) hc hi (A:=A) (iA:=iA) n (k+1) (z.set (i+k) (wf z (i+k)+v*wf c k)) (by omega) (by rw[List.length_set];exact hz) ks
  have h1:=iva (l:=c) (i:=k) (by omega)
  have h2:=iva (l:=z) (i:=i+k) (by omega)
  have w1:IntKind.wrap .i64 ((i:Int)+(k:Int))=((i+k:Nat):Int):=by rw[wrap64 (by omega) (by omega)];omega
  rw[Int.natCast_add,Int.natCast_one,←g52,on0,ym6]at ih
  rw[je7,←ih,sb5 c61L0.eq_def]
  generalize hG:i+k=ik at*
  simp(disch:=first|omega|fail) only[push_cast,seval,vrl,if_pos,if_neg,h1,w1,h2]
theorem e41 [IsFld q]{a c:List (El q)}(ha:a.length≤900)(hc:c.length≤1000): ∀(n i:Nat) (z:List (El q)),i+n=a.length→a.length+c.length≤z.length+1→ ∀ks,
 vgoL W ⟨h61,[.tmp 6],0⟩ [0,2,7,27,28,29] c61L1 (.blk 0 [7]::ks) [(0, .fz true (pF q)),(2, .fz b' (.sl nl' 0 1 (ivs (vs c)))),(7, .own 0 []),(27, .fz b (.sl nl 0 1 (ivs (vs a)))),(28, .x (.int .i64 a.length)),(29, .x (.int .i64 i))] [.sl 0 3 1 (ivs (vs z))]=
  vgo W ⟨h61,[.tmp 6],0⟩ ks (VFr.of [(7, .own 0 [])]) [.sl 0 3 1 (ivs (vs (yc0 a c n i z)))]
 |0,i,z,hi,hz,ks=>by
  rw[yc0,sb5 c61L1.eq_def]
  simp(disch:=first|omega|fail) only[push_cast,seval,vrl,if_pos,if_neg]
 |n+1,i,z,hi,hz,ks=>by
  have ih:=e41 ha hc n (i+1) (je7 (wf a i) c i c.length 0 z) (by omega) (by rw[qo8];exact hz) ks
  have h1:=iva (l:=a) (i:=i) (by omega)
  have e:=fun iA ks=>n82 (b:=b) (nl:=nl) (b':=b') (nl':=nl') (a:=a) (c:=c) (i:=i) (v:=wf a i) hc (by omega) (A:=a) (iA:=iA) c.length 0 z (by omega) (by omega) ks
  simp only[Int.natCast_zero,List.take_zero,List.drop_zero,rp2,lz6,x25,List.map_nil,List.length_nil]at e
  rw[Int.natCast_add,Int.natCast_one]at ih
  rw[yc0,←ih,sb5 c61L1.eq_def]
  simp(disch:=first|omega|fail) only[push_cast,seval,vrl,if_pos,if_neg,h1]
  rw[e]
  simp(disch:=first|omega|fail) only[push_cast,seval,vrl,if_pos,if_neg]
theorem td8 [IsFld q]{a c:List (El q)}(ha:a.length≤500)(hc:c.length≤500): ∃n,o24 W 61 [.fz true (pF q), .fz b (.sl nl 0 1 (ivs (vs a))), .fz b' (.sl nl' 0 1 (ivs (vs c)))] []=some (.own 0 [],[.sl n 3 1 (ivs (vs (mulK a c)))],[]):=by
 by_cases h0:a.length=0∨c.length=0
 ·refine⟨1, ?_⟩
  rw[hz3 h0,o10 rfl T61 rfl]
  unfold F61 c61
  by_cases h1:a.length=0
  ·simp(disch:=first|omega|fail) only[push_cast,seval,vrl,if_pos,if_neg,h1]
   rfl
  ·have h2:c.length=0:=by omega
   simp(disch:=first|omega|fail) only[push_cast,seval,vrl,if_pos,if_neg,h2]
   rfl
 ·refine⟨nlT (mulK a c), ?_⟩
  have hp:=cf5 (a:=a) (b:=c) (by omega) (by omega)
  have e:=fun ks=>e41 (q:=q) (b:=b) (nl:=nl) (b':=b') (nl':=nl') (a:=a) (c:=c) (by omega) (by omega) a.length 0 (List.replicate (a.length+c.length-1) 0) (by omega) (by rw[List.length_replicate];omega) ks
  have e3:=fun b nl=>di3 (b:=b) (nl:=nl) (a:=yc0 a c a.length 0 (List.replicate (a.length+c.length-1) 0)) (by rw[th9,List.length_replicate];omega)
  simp only[hp]at e3
  have hz:List.replicate (a.length+c.length-1) (0:Int)=vs (List.replicate (a.length+c.length-1) (0:El q)):=by rw[←qj2];rfl
  generalize yc0 a c a.length 0 (List.replicate (a.length+c.length-1) 0)=Z at*
  simp only[Int.natCast_zero,List.take_zero,List.drop_zero,rp2,lz6,x25,List.map_nil,List.length_nil]at e
  have w1:IntKind.wrap .i64 (((a.length:Nat):Int)+((c.length:Nat):Int)-1)=((a.length+c.length-1:Nat):Int):=by rw[wrap64 (by omega) (by omega)];omega
  generalize hk:a.length+c.length-1=k at*
  rw[o10 rfl T61 rfl]
  unfold F61 c61
  simp(disch:=first|omega|fail) only[push_cast,seval,vrl,if_pos,if_neg,w1,hz]
  rw[e]
  simp(disch:=first|omega|fail) only[push_cast,seval,vrl,if_pos,if_neg,e3]
def ca3{q:Int} [IsFld q](a c:List (El q)):Prop:=(xa4 a).length≠0∧(xa4 c).length≠0∧128<(xa4 a).length+(xa4 c).length-1
theorem h84 [IsFld q]{a c:List (El q)}(ha:a.length≤128)(hc:c.length≤128)(h: ¬ca3 a c):
 ∃n,o24 W 26 [.x (.int .i64 q), .fz b (.sl nl 0 1 (ivs (vs a))), .fz b' (.sl nl' 0 1 (ivs (vs c)))] []=some (.tup [.own 0 [], .x (.int .i64 0)],[.sl n 3 1 (ivs (vs (mulK a c)))],[]):=by
 have e1:=fun b nl b' nl'=>ce8 (b:=b) (nl:=nl) (b':=b') (nl':=nl') ha hc
 have la:=tb1 a
 have lc:=tb1 c
 have hm:=u69 a c
 unfold ca3 at h
 obtain⟨n,e2⟩:=td8 (b:=false) (nl:=nlT (xa4 a)) (b':=false) (nl':=nlT (xa4 c)) (a:=xa4 a) (c:=xa4 c) (by omega) (by omega)
 rw[hm]at e2
 by_cases h0:(xa4 a).length=0∨(xa4 c).length=0
 ·rw[hz3 h0]at hm
  refine⟨1, ?_⟩
  rw[←hm]
  generalize xa4 a=A at*
  generalize xa4 c=C at*
  rw[o10 rfl T26 rfl]
  unfold F26 c26
  by_cases h1:A.length=0
  ·simp(disch:=first|omega|fail) only[push_cast,seval,vrl,if_pos,if_neg,e1,h1]
   rfl
  ·have h2:C.length=0:=by omega
   have h1': ¬(A.length:Int)=0:=by omega
   simp(disch:=first|omega|fail) only[push_cast,seval,vrl,if_pos,if_neg,e1,nb8 h1',h2]
   rfl
 ·refine⟨n, ?_⟩
  generalize mulK a c=Z at*
  generalize xa4 a=A at*
  generalize xa4 c=C at*
  have h1': ¬(A.length:Int)=0:=by omega
  have h2': ¬(C.length:Int)=0:=by omega
  rw[o10 rfl T26 rfl]
  unfold F26 c26
  simp(disch:=first|omega|fail) only[push_cast,seval,vrl,if_pos,if_neg,e1,nb8 h1',nb8 h2',e2]
end
section
variable {q:Int} {b b':Bool} {nl nl':Nat}
theorem xl6 [IsFld q]{c:List (El q)}{k:Nat}{v:El q}{top:Int}(hc:c.length≤1000)(hk:k≤1000){T:Tree}{nr:Nat}: ∀(n i:Nat) (R:List (El q)),i+n=c.length→k+c.length≤R.length→ ∀ks,
 vgoL W ⟨h67,[.tmp 6, .tmp 7],0⟩ [0,2,6,7,8,9,10,57,58,59] c67L0 (.blk 2 [0,2,6,7,8,9]::ks) [(0, .fz true (pF q)),(2, .fz b' (.sl nl' 0 1 (ivs (vs c)))),(6, .own 0 []),(7, .own 1 []),(8, .x (.int .i64 top)),(9, .x (.int .i64 k)),(10, .x (.int .i64 v.v)),(57, .fz b' (.sl nl' 0 1 (ivs (vs c)))),(58, .x (.int .i64 c.length)),(59, .x (.int .i64 i))] [T, .sl nr 3 1 (ivs (vs R))]=
  vgo W ⟨h67,[.tmp 6, .tmp 7],0⟩ ks (VFr.of [(0, .fz true (pF q)),(2, .fz b' (.sl nl' 0 1 (ivs (vs c)))),(6, .own 0 []),(7, .own 1 []),(8, .x (.int .i64 top)),(9, .x (.int .i64 k))]) [T, .sl nr 3 1 (ivs (vs (subR v c k n i R)))]
 |0,i,R,hi,hR,ks=>by
  rw[subR,sb5 c67L0.eq_def]
  simp(disch:=first|omega|fail) only[push_cast,seval,vrl,if_pos,if_neg]
 |n+1,i,R,hi,hR,ks=>by
  have ih:=xl6 (v:=v) (top:=top) hc hk (T:=T) (nr:=nr) n (i+1) (R.set (k+i) (wf R (k+i)-v*wf c i)) (by omega) (by rw[List.length_set];exact hR) ks
  have h1:=iva (l:=c) (i:=i) (by omega)
  have h2:=iva (l:=R) (i:=k+i) (by omega)
  have w1:IntKind.wrap .i64 ((k:Int)+(i:Int))=((k+i:Nat):Int):=by rw[wrap64 (by omega) (by omega)];omega
  rw[Int.natCast_add,Int.natCast_one,←g52,bq9,ym6]at ih
  rw[subR,←ih,sb5 c67L0.eq_def]
  generalize hG:k+i=ki at*
  simp(disch:=first|omega|fail) only[push_cast,seval,vrl,if_pos,if_neg,h1,w1,h2]
theorem xy4 [IsFld q]{c:List (El q)}{top:El q}(hc:c.length≤900)(hc0:0<c.length){nq nr:Nat}: ∀(k:Nat) (Q R:List (El q)),k≤1000→k≤Q.length→(0<k→k+c.length≤R.length+1)→ ∀ks,
 vgoL W ⟨h67,[.tmp 6, .tmp 7],0⟩ [0,2,6,7,8,9] c67L1 (.blk 0 [6,7]::ks) [(0, .fz true (pF q)),(2, .fz b' (.sl nl' 0 1 (ivs (vs c)))),(6, .own 0 []),(7, .own 1 []),(8, .x (.int .i64 top.v)),(9, .x (.int .i64 ((k:Int)-1)))] [.sl nq 3 1 (ivs (vs Q)), .sl nr 3 1 (ivs (vs R))]=
  vgo W ⟨h67,[.tmp 6, .tmp 7],0⟩ ks (VFr.of [(6, .own 0 []),(7, .own 1 [])]) [.sl nq 3 1 (ivs (vs (divT c top k Q R).1)), .sl nr 3 1 (ivs (vs (divT c top k Q R).2))]
 |0,Q,R,h1,h2,h3,ks=>by
  rw[divT,sb5 c67L1.eq_def]
  simp(disch:=first|omega|fail) only[push_cast,seval,vrl,if_pos,if_neg]
 |k+1,Q,R,h1,h2,h3,ks=>by
  have h3:=h3 (by omega)
  have ih:=xy4 (top:=top) hc hc0 (nq:=nq) (nr:=nr) k (Q.set k (wf R (k+c.length-1)*top)) (subR (wf R (k+c.length-1)*top) c k c.length 0 R) (by omega) (by rw[List.length_set];omega) (fun _=>by rw[xs2];omega) ks
  have e:=fun T ks=>xl6 (b':=b') (nl':=nl') (c:=c) (k:=k) (v:=wf R (k+c.length-1)*top) (top:=top.v) (by omega) (by omega) (T:=T) (nr:=nr) c.length 0 R (by omega) (by omega) ks
  simp only[Int.natCast_zero,List.take_zero,List.drop_zero,rp2,lz6,x25,List.map_nil,List.length_nil]at e
  have l1:=iva (l:=R) (i:=k+c.length-1) (by omega)
  have w1:IntKind.wrap .i64 ((k:Int)+(c.length:Int)-1)=((k+c.length-1:Nat):Int):=by rw[wrap64 (by omega) (by omega)];omega
  have e9:((k+1:Nat):Int)-1=(k:Int):=by omega
  have hm:=ym6 (wf R (k+c.length-1)) top
  rw[←g52,hm]at ih
  rw[hm]at e
  rw[divT,←ih,e9,sb5 c67L1.eq_def]
  generalize hG:k+c.length-1=kc at*
  simp(disch:=first|omega|fail) only[push_cast,seval,vrl,if_pos,if_neg,l1,w1]
  rw[e]
  simp(disch:=first|omega|fail) only[push_cast,seval,vrl,if_pos,if_neg]
theorem ag0 [IsFld q]{a c:List (El q)}(ha:Trm a)(hc:Trm c)(hc0:c≠[])(hal:a.length≤500)(hcl:c.length≤500):
 ∃n,o24 W 67 [.fz true (pF q), .fz b (.sl nl 0 1 (ivs (vs a))), .fz b' (.sl nl' 0 1 (ivs (vs c)))] []=some (.tup [.own 0 [], .own 1 []],[.sl n 3 1 (ivs (vs (quoP a c))), .sl (nlT (remP a c)) 3 1 (ivs (vs (remP a c)))],[]):=by
 have h0:0<c.length:=List.length_pos_iff.2 hc0
 have hlast:wf c (c.length-1)≠0:=hc (by omega)
 have e1:=fun b nl=>h18 (b:=b) (nl:=nl) (zs:=vs a) (by rw[fi2];omega)
 simp only[ks8]at e1
 have l1:=iva (l:=c) (i:=c.length-1) (by omega)
 have w1:IntKind.wrap .i64 ((c.length:Int)-1)=((c.length-1:Nat):Int):=by rw[wrap64 (by omega) (by omega)];omega
 have hinv:=rl7 hlast
 by_cases hl:c.length≤a.length
 ·refine⟨0, ?_⟩
  obtain⟨d1,d2⟩:=kj5 ha hc hc0 hl
  have dl:=w81 c (FK.inv (wf c (c.length-1))) (a.length-c.length+1) (List.replicate (a.length-c.length+1) 0) a
  have e2:=fun nq nr ks=>xy4 (b':=b') (nl':=nl') (c:=c) (top:=FK.inv (wf c (c.length-1))) (by omega) h0 (nq:=nq) (nr:=nr) (a.length-c.length+1) (List.replicate (a.length-c.length+1) 0) a (by omega) (by simp) (fun _=>by omega) ks
  have e3:=fun b nl=>di3 (b:=b) (nl:=nl) (a:=(divT c (FK.inv (wf c (c.length-1))) (a.length-c.length+1) (List.replicate (a.length-c.length+1) 0) a).2) (by rw[dl.2];omega)
  simp only[d2]at e3
  rw[←d1]
  generalize divT c (FK.inv (wf c (c.length-1))) (a.length-c.length+1) (List.replicate (a.length-c.length+1) 0) a=D at*
  have hz:List.replicate (a.length-c.length+1) (0:Int)=vs (List.replicate (a.length-c.length+1) (0:El q)):=by rw[←qj2];rfl
  have w3:IntKind.wrap .i64 ((a.length:Int)-(c.length:Int)+1)=((a.length-c.length+1:Nat):Int):=by rw[wrap64 (by omega) (by omega)];omega
  have hkl:a.length-c.length+1≤600:=by omega
  rw[hinv]at e2
  generalize a.length-c.length+1=k at*
  generalize hG:c.length-1=c1 at*
  rw[o10 rfl T67 rfl]
  unfold F67 c67
  simp(disch:=first|omega|fail) only[push_cast,seval,vrl,if_pos,if_neg,e1,w1,l1,w3,hz]
  rw[e2]
  simp(disch:=first|omega|fail) only[push_cast,seval,vrl,if_pos,if_neg,e3]
 ·refine⟨1, ?_⟩
  obtain⟨d1,d2⟩:=i84 ha hc (show a.length<c.length by omega)
  rw[d1,d2]
  have e2:=fun nq nr ks=>xy4 (b':=b') (nl':=nl') (c:=c) (top:=FK.inv (wf c (c.length-1))) (by omega) h0 (nq:=nq) (nr:=nr) 0 [] a (by omega) (by simp) (fun h=>absurd h (by omega)) ks
  have e3:=fun b nl=>di3 (b:=b) (nl:=nl) (a:=a) (by omega)
  simp only[ou7 ha]at e3
  simp only[divT,Int.natCast_zero,Int.zero_sub,rp2,lz6]at e2
  have hl':(a.length:Int)<(c.length:Int):=by omega
  rw[hinv]at e2
  generalize hG:c.length-1=c1 at*
  rw[o10 rfl T67 rfl]
  unfold F67 c67
  simp(disch:=first|omega|fail) only[push_cast,seval,vrl,if_pos,if_neg,e1,w1,l1]
  rw[e2]
  simp(disch:=first|omega|fail) only[push_cast,seval,vrl,if_pos,if_neg,e3]
  rfl
end
def pkI(a n:Int):Int:=(if a<0 then-(a+1)else a).tmod n
theorem h58{a n:Int}(hn:0<n):0≤pkI a n∧pkI a n<n:=by
 unfold pkI
 split
 ·exact⟨Int.tmod_nonneg _ (by omega),Int.tmod_lt_of_pos _ hn⟩
 ·exact⟨Int.tmod_nonneg _ (by omega),Int.tmod_lt_of_pos _ hn⟩
def rwI(l:List Int)(i:Int):Int:=if l.length=0 then i else IntKind.wrap .i64 (gi l (i.tmod l.length)+IntKind.wrap .i64 (IntKind.wrap .i64 (i.tdiv l.length)*7919))
theorem ti9(x:Int): -9223372036854775808≤IntKind.wrap .i64 x∧IntKind.wrap .i64 x≤9223372036854775807:=by rw[IntKind.wrap_i64];omega
theorem bd0{l:List Int}{i:Int}(h0:0≤i)(h1:i≤9223372036854775807): -9223372036854775808≤rwI l i∧rwI l i≤9223372036854775807:=by
 unfold rwI
 split
 ·omega
 ·exact ti9 _
theorem cl0{l:List Int}{i:Int}(h0:0≤i)(h1:i<l.length):(ivs l)[i.toNat]? =some (.v (.int .i64 (gi l i))):=by
 have e:(ivs l)[i.toNat]? =some (.v (.int .i64 (gi l ((i.toNat:Nat):Int)))):=ui5 (by omega)
 rwa [Int.toNat_of_nonneg h0]at e
section
variable {b:Bool} {nl:Nat} {raw:List Int}
theorem s88{a n:Int}(h1: -9223372036854775808≤a)(h2:a≤9223372036854775807)(hn:0<n):o24 W 22 [.x (.int .i64 a), .x (.int .i64 n)] []=some (.x (.int .i64 (pkI a n)),[],[]):=by
 have hz: ¬n=0:=by omega
 rw[o10 rfl T22 rfl]
 unfold F22 c22 pkI
 by_cases h0:a<0
 ·rw[if_pos h0]
  simp(disch:=first|omega|fail) only[push_cast,seval,vrl,if_pos,if_neg,nb8 hz,hz]
  rw[show(0:Int)-(a+1)= -(a+1) by omega]
 ·rw[if_neg h0]
  simp(disch:=first|omega|fail) only[push_cast,seval,vrl,if_pos,if_neg,nb8 hz,hz]
theorem yc3{i:Int}(hi:0≤i)(hl:raw.length≤9223372036854775807):o24 W 23 [.fz b (.sl nl 0 1 (ivs raw)), .x (.int .i64 i)] []=some (.x (.int .i64 (rwI raw i)),[],[]):=by
 rw[o10 rfl T23 rfl]
 unfold F23 c23 rwI
 by_cases h0:raw.length=0
 ·rw[if_pos h0]
  have h0':(raw.length:Int)=0:=by omega
  simp(disch:=first|omega|fail) only[push_cast,seval,vrl,if_pos,if_neg,h0']
 ·rw[if_neg h0]
  have hz: ¬(raw.length:Int)=0:=by omega
  have b1:0≤i.tmod raw.length:=Int.tmod_nonneg _ hi
  have b2:i.tmod raw.length<raw.length:=Int.tmod_lt_of_pos _ (by omega)
  have e:=cl0 b1 b2
  simp(disch:=first|omega|fail) only[push_cast,seval,vrl,if_pos,if_neg,hz,nb8 hz,e]
def numV(raw:List Int)(frm q:Int)(k:Nat):Int:=pkI (rwI raw (frm+k)) q
def tv7(raw:List Int)(frm q:Int)(n:Nat):List Int:=(List.range n).map (numV raw frm q)
theorem jd5(raw:List Int)(frm q:Int)(n:Nat):(tv7 raw frm q n).length=n:=by simp[tv7]
theorem ce6(raw:List Int)(frm q:Int)(n:Nat):tv7 raw frm q (n+1)=tv7 raw frm q n++[numV raw frm q n]:=by unfold tv7;rw[List.range_succ,List.map_append];rfl
theorem dm5{raw:List Int}{frm q:Int}{n:Nat}(hq:0<q): ∀z∈tv7 raw frm q n,fok q z=true:=fun z hz=>by
 obtain⟨k,_,rfl⟩:=List.mem_map.1 hz
 have:=h58 (a:=rwI raw (frm+k)) hq
 unfold numV fok
 rw[decide_eq_true this.1,decide_eq_true this.2];rfl
theorem m61{raw:List Int}{frm q:Int}{n:Nat}(hq:0<q): ∃l:List (El q),tv7 raw frm q n=vs l∧l.length=n:=by
 obtain⟨l,hl⟩:=n44 (dm5 (raw:=raw) (frm:=frm) (n:=n) hq)
 exact⟨l,hl,by rw[←fi2,←hl,jd5]⟩
theorem yq2(hrl:raw.length≤9223372036854775807){frm q:Int}(hf0:0≤frm)(hf1:frm≤1000000000)(hq0:0<q){N:Nat}(hN:N≤100000): ∀(d i:Nat),i+d=N→ ∀ks,
 vgoL W ⟨h25,[.tmp 8],0⟩ [0,1,2,3,9,10] c25L0 (.blk 0 [9]::ks) [(0, .fz b (.sl nl 0 1 (ivs raw))),(1, .x (.int .i64 frm)),(2, .x (.int .i64 q)),(3, .x (.int .i64 N)),(9, .own 0 []),(10, .x (.int .i64 i))] [.sl 1 3 1 (ivs (tv7 raw frm q i))]=
  vgo W ⟨h25,[.tmp 8],0⟩ ks (VFr.of [(9, .own 0 [])]) [.sl 1 3 1 (ivs (tv7 raw frm q N))]
 |0,i,hi,ks=>by
  obtain rfl:i=N:=by omega
  rw[sb5 c25L0.eq_def]
  simp(disch:=first|omega|fail) only[push_cast,seval,vrl,if_pos,if_neg]
 |d+1,i,hi,ks=>by
  have ih:=yq2 hrl hf0 hf1 hq0 hN d (i+1) (by omega) ks
  have e1:=fun b nl=>yc3 (b:=b) (nl:=nl) (raw:=raw) (i:=frm+i) (by omega) hrl
  have hri:=bd0 (l:=raw) (i:=frm+i) (by omega) (by omega)
  have e2:=s88 (n:=q) hri.1 hri.2 hq0
  have hl:=jd5 raw frm q i
  rw[Int.natCast_add,Int.natCast_one,ce6,numV]at ih
  rw[←ih,sb5 c25L0.eq_def]
  simp(disch:=first|omega|fail) only[push_cast,seval,vrl,if_pos,if_neg,e1,e2,hl]
theorem vv4(hrl:raw.length≤9223372036854775807){frm q:Int}(hf0:0≤frm)(hf1:frm≤1000000000)(hq0:0<q){N:Nat}(hN:N≤100000):o24 W 25 [.fz b (.sl nl 0 1 (ivs raw)), .x (.int .i64 frm), .x (.int .i64 q), .x (.int .i64 N)] []=some (.own 0 [],[.sl 1 3 1 (ivs (tv7 raw frm q N))],[]):=by
 have e:=fun ks=>yq2 (b:=b) (nl:=nl) hrl hf0 hf1 hq0 hN N 0 (by omega) ks
 rw[show tv7 raw frm q 0=[]from rfl]at e
 simp only[Int.natCast_zero,List.take_zero,List.drop_zero,rp2,lz6,x25,List.map_nil,List.length_nil]at e
 rw[o10 rfl T25 rfl]
 unfold F25 c25
 simp(disch:=first|omega|fail) only[push_cast,seval,vrl,if_pos,if_neg]
 rw[e]
 simp(disch:=first|omega|fail) only[push_cast,seval,vrl,if_pos,if_neg]
end
def szN:Nat→Nat→List Int
 |0,_=>[]
 |n+1,q=>bif (fldN q).isSome then(q:Int)::szN n (q+1)else szN n (q+1)
def szL:List Int:=szN 63 2
theorem ho8:(szL.all fun z=>decide (2≤z)&&decide (z≤64)&&(fldN z.toNat).isSome)=true:=by kernel_rfl
theorem x14{z:Int}(hz:z∈szL):2≤z∧z≤64∧IsFld z:=by
 have:=List.all_eq_true.1 ho8 z hz
 simp only[Bool.and_eq_true,decide_eq_true_eq]at this
 obtain⟨⟨h1,h2⟩,h3⟩:=this
 obtain⟨⟨p,m,g,mod⟩,hx⟩:=Option.isSome_iff_exists.1 h3
 exact⟨h1,h2,⟨p,m,g,mod,hx⟩⟩
section
variable {l:List Int} {nl:Nat} {b:Bool} {x:Int}
end
end Go.Proofs.Ytoglhlonhmmieaa
namespace Go.Alg
section
variable {K:Type} [FK K]
theorem y46{α β:Type}(f:α×β→K): ∀(l:List α) (l':List β),l.length=l'.length→ ∀l2 l2',sumL ((l++l2).zip (l'++l2')) f=sumL (l.zip l') f+sumL (l2.zip l2') f:=fun l l' h l2 l2'=>by
 rw[List.zip_append h,up0]
theorem uj4{α β γ:Type}(g:β→γ)(f:α×γ→K): ∀(l:List α) (l':List β),sumL (l.zip (l'.map g)) f=sumL (l.zip l') (fun p=>f (p.1,g p.2))
 | [],_=>rfl
 |_::_,[]=>rfl
 |a::l,b::l'=>by rw[List.map_cons,List.zip_cons_cons,List.zip_cons_cons,gb6,gb6,uj4 g f l l']
theorem hom: ∀(r:Nat) (S:List (Nat→K)),r<S.length→ ∃y:List K,y.length=S.length∧(∃a∈y,a≠0)∧ ∀j,j<r→sumL (y.zip S) (fun p=>p.1*p.2 j)=0
 |0,S,h=>by
  refine⟨List.replicate S.length 1,List.length_replicate,⟨1,List.mem_replicate.2 ⟨by omega,rfl⟩,ki7⟩,fun j hj=>absurd hj (Nat.not_lt_zero j)⟩
 |r+1,S,h=>by
  by_cases hs: ∃s∈S,s r≠0
  ·obtain⟨s,hs,hne⟩:=hs
   obtain⟨S1,S2,rfl⟩:=List.append_of_mem hs
   have hl:r<((S1++S2).map (fun(t:Nat→K) j=>t j-t r*FK.inv (s r)*s j)).length:=by
    simp only[List.length_map,List.length_append,List.length_cons]at h⊢;omega
   obtain⟨y,y1,⟨a,y2,y3⟩,y4⟩:=hom r _ hl
   rw[List.length_map,List.length_append]at y1
   have hsp:y=y.take S1.length++y.drop S1.length:=(List.take_append_drop _ _).symm
   have h1:(y.take S1.length).length=S1.length:=by rw[List.length_take];omega
   have h2:(y.drop S1.length).length=S2.length:=by rw[List.length_drop];omega
   generalize y.take S1.length=u at hsp h1
   generalize y.drop S1.length=w at hsp h2
   subst hsp
   have hsum: ∀(c:K) j,sumL ((u++c::w).zip (S1++s::S2)) (fun p=>p.1*p.2 j)=sumL ((u++w).zip (S1++S2)) (fun p=>p.1*p.2 j)+c*s j:=fun c j=>by
    rw[y46 _ _ _ h1,y46 _ _ _ h1,List.zip_cons_cons,gb6,FK.add_assoc,FK.add_comm (sumL (w.zip S2) _)]
   refine⟨u++ -(sumL ((u++w).zip (S1++S2)) (fun p=>p.1*p.2 r)*FK.inv (s r))::w, ?_,⟨a, ?_,y3⟩,fun j hj=> ?_⟩
   ·simp only[List.length_append,List.length_cons,h1,h2]
   ·simp only[List.mem_append,List.mem_cons]at y2⊢
    rcases y2 with y2|y2
    ·exact .inl y2
    ·exact .inr (.inr y2)
   ·rw[hsum]
    by_cases hjr:j=r
    ·subst hjr
     rw[neg_mul,FK.mul_assoc,inv_mul hne,FK.mul_one,FK.add_neg]
    ·have h3:=y4 j (by omega)
     rw[uj4]at h3
     have h4:sumL ((u++w).zip (S1++S2)) (fun p=>p.1*(p.2 j-p.2 r*FK.inv (s r)*s j))=sumL ((u++w).zip (S1++S2)) (fun p=>p.1*p.2 j)-sumL ((u++w).zip (S1++S2)) (fun p=>p.1*p.2 r)*FK.inv (s r)*s j:=by
      rw[←ue3,←ue3,←b15]
      refine ox7 fun p _=> ?_
      rw[mul_sub,←FK.mul_assoc,←FK.mul_assoc]
     have h3:sumL ((u++w).zip (S1++S2)) (fun p=>p.1*(p.2 j-p.2 r*FK.inv (s r)*s j))=0:=h3
     rw[h4]at h3
     rw[neg_mul,←sub_eq,h3]
  ·obtain⟨y,y1,y2,y3⟩:=hom r S (by omega)
   refine⟨y,y1,y2,fun j hj=> ?_⟩
   by_cases hjr:j=r
   ·subst hjr
    refine tx6 fun p hp=> ?_
    have:p.2 j=0:=Classical.byContradiction fun hne=>hs ⟨p.2,(List.of_mem_zip hp).2,hne⟩
    rw[this,mul_zero]
   ·exact y3 j (by omega)
end
section
variable {K:Type} [FK K] {n:Nat}
section
variable {A:List (Nat×List K)} (hr:Rref n (toF A))
include hr
end
end
end Go.Alg
namespace Go.Alg
section
variable {K:Type} [FK K]
theorem pe7{f g h:Nat→K}{n m:Nat}(hf: ∀k,n≤k→f k=0)(hg: ∀k,n≤k→g k=0)(hh: ∀k,m≤k→h k=0)(hne:h≠fun _=>0)(e:disc f h=disc g h):f=g:=by
 refine Classical.byContradiction fun hfg=> ?_
 have hD:(fun k=>f k+ -g k)≠fun _=>0:=fun e=>hfg (funext fun k=>sub_eq_zero.1 (congrFun e k))
 obtain⟨i,j,_,_,_,_,h1⟩:=fq3 (n:=n) (m:=m) (fun k hk=>by rw[hf k hk,hg k hk,neg_zero,FK.add_zero]) hh hD hne
 apply h1
 rw[bf5,fh4,e,FK.add_neg]
open Classical in
end
end Go.Alg
namespace Go.Alg
section
variable {K:Type} [FK K] {n:Nat}
end
end Go.Alg
namespace Go.Alg
section
variable {K:Type} [FK K]
end
end Go.Alg
namespace Go.Proofs.Ytoglhlonhmmieaa
open Go.Am Go.Vm Go.Alg
section
variable {raw:List Int} {b:Bool} {nl:Nat}
end
section
variable {a c:List Int} {b b':Bool} {nl nl':Nat}
end
section
variable {q:Int} {b:Bool} {nl:Nat} {xs:List Int} {k:Int}
end
section
variable {q:Int} [hq:IsFld q]
variable {b b':Bool} {nl nl':Nat} {X m:List (El q)}
end
section
variable {q:Int}
def oV:Option (El q)→Int
 |none=> -1
 |some x=>x.v
def ws(W:List (Option (El q))):List Int:=W.map oV
end
section
variable {q:Int} {b b':Bool} {nl nl':Nat}
end
section
variable {q:Int} {b:Bool} {nl nr e:Nat} {M:List (List Int)}
end
section
variable {q:Int} [IsFld q] {b b':Bool} {nl nl' nr:Nat} {c:El q}
end
section
variable {b:Bool} {nl nr:Nat} {M:List (List Int)}
end
section
variable {q:Int} [IsFld q] {T5:Tree} {M:List (List (El q))} {R n c at':Nat}
end
section
variable {q:Int} [IsFld q] {n R:Nat}
end
section
variable {q:Int} {b:Bool} {nl nr:Nat}
end
section
variable {q p m g:Int} [IsFld q] {t:Tree} {b:Bool} {nl nr n6 n7 n9:Nat} {M:List (List (El q))} {A:List (Nat×List (El q))} {w:Nat} {i8:Nat}
end
section
variable {q p m g:Int} [IsFld q] {t:Tree} {b b':Bool} {nl nl' nr n7 n8:Nat} {M:List (List (El q))} {A:List (Nat×List (El q))} {N:Nat}
end
section
variable {q:Int} [IsFld q] {b b':Bool} {nl nl' nr:Nat} {M:List (List (El q))} {y:List (El q)} {n R:Nat}
section
variable {T5:Tree} {c at' n0:Nat}
end
end
section
variable {q:Int} {b b':Bool} {nl nl' nr e:Nat}
end
section
variable {α:Type} {n:Nat}
end
section
variable {q:Int} [IsFld q] {b b':Bool} {nl nl' nr:Nat} {M:List (List (El q))} {n:Nat}
end
section
variable {q:Int} {b b':Bool} {nl nl' nr e:Nat}
end
end Go.Proofs.Ytoglhlonhmmieaa
namespace Go.Alg
section
variable {K:Type} [FK K]
end
end Go.Alg
namespace Go.Proofs.Ytoglhlonhmmieaa
open Go.Am Go.Vm Go.Alg
section
variable {q:Int} [h:IsFld q]
end
theorem sk4{A:Bool→Nat→Bool→Nat→Nat→Prop}(h: ∀b nl b' nl',∃n,A b nl b' nl' n): ∃F:Bool→Nat→Bool→Nat→Nat,∀b nl b' nl',A b nl b' nl' (F b nl b' nl'):=
 ⟨fun b nl b' nl'=>Classical.choose (h b nl b' nl'),fun b nl b' nl'=>Classical.choose_spec (h b nl b' nl')⟩
section
variable {q:Int} [IsFld q] {b b':Bool} {nl nl':Nat} {P:List (El q×El q)} {k:Nat}
end
end Go.Proofs.Ytoglhlonhmmieaa
namespace Go.Alg
section
variable {K:Type} [FK K]
def scT(c:K):Nat→Nat→List K→List K
 |0,k,z=>z
 |n+1,k,z=>scT c n (k+1) (z.set k (wf z k*c))
theorem m70(c:K): ∀(n k:Nat) (z:List K),k+n=z.length→scT c n k z=z.take k++(z.drop k).map fun x=>x*c
 |0,k,z,h=>by rw[scT,List.drop_of_length_le (by omega),List.take_of_length_le (by omega)];simp
 |n+1,k,z,h=>by
  have hk:k<z.length:=by omega
  rw[scT,m70 c n (k+1) _ (by rw[List.length_set];omega)]
  rw[List.take_add_one,List.getElem?_set_self hk,List.take_set_of_le (Nat.le_refl _),List.drop_set_of_lt (Nat.lt_succ_self _),List.drop_eq_getElem_cons hk,List.map_cons,i67 hk]
  simp
theorem ou4(c:K)(z:List K):scT c z.length 0 z=z.map fun x=>x*c:=by
 rw[m70 c _ _ _ (by omega)];simp
end
end Go.Alg
namespace Go.Proofs.Ytoglhlonhmmieaa
open Go.Am Go.Vm Go.Alg
theorem ef8{α:Type}{l:List α}(h:l≠[]):nlT l=0:=by
 cases l with
 |nil=>exact absurd rfl h
 |cons a l=>rfl
section
variable {q:Int} [IsFld q] {b:Bool} {nl:Nat} {s:List (El q)}
end
end Go.Proofs.Ytoglhlonhmmieaa
namespace Go.Alg
section
variable {K:Type} [FK K]
end
end Go.Alg
namespace Go.Proofs.Ytoglhlonhmmieaa
open Go.Am Go.Vm Go.Alg
section
variable {q:Int} [IsFld q] {b b':Bool} {nl nl':Nat} {P:List (El q×El q)}
end
section
variable {q p m g:Int} {t:Tree} {b:Bool} {nl nr:Nat} {M:List (List Int)}
end
section
variable {q n:Int} {nl nr:Nat} {M:List (List Int)}
end
section
variable {q p m g:Int} [IsFld q] {t:Tree} {b b':Bool} {nl nl' nr n7 n8:Nat} {M:List (List (El q))} {A:List (Nat×List (El q))} {N:Nat}
end
section
variable {q:Int} {b:Bool} {nl nr n6 n7:Nat}
section
variable [IsFld q] {A:List (Nat×List (El q))} {N:Nat} {K:List (List Int)}
end
end
section
variable {q n:Int} {nl nr:Nat} {M:List (List Int)}
end
section
variable {q:Int} [IsFld q] {k nl nr:Nat} {N:List (List (El q))}
end
section
variable {b b':Bool} {nl nl' nr nr':Nat}
theorem ft0{l k:List Int}(hl:l.length≤9223372036854775807)(hk:k.length=l.length): ∀(d i:Nat),i+d=l.length→ ∀ks,
 vgoL W ⟨hNo,[.tmp 4],0⟩ [0,1,5] c14L0 (.blk 0 []::ks) [(0, .fz b (.sl nl 0 1 (ivs l))),(1, .fz b' (.sl nl' 0 1 (ivs k))),(5, .x (.int .i64 i))] []=
  if l.drop i=k.drop i then vgo W ⟨hNo,[.tmp 4],0⟩ ks (VFr.of []) []else some (.x (.bool false),[],[])
 |0,i,hi,ks=>by
  rw[oh9 (by omega),oh9 (by omega),if_pos rfl,sb5 c14L0.eq_def]
  simp(disch:=first|omega|fail) only[push_cast,seval,vrl,if_pos,if_neg]
 |d+1,i,hi,ks=>by
  have ih:=ft0 hl hk d (i+1) (by omega) ks
  obtain⟨a,ha⟩:=ge6 (l:=l) (i:=i) (by omega)
  obtain⟨c,hc⟩:=ge6 (l:=k) (i:=i) (by omega)
  have h1:=iat ha
  have h2:=iat hc
  rw[i62 ha,i62 hc]
  rw[Int.natCast_add,Int.natCast_one]at ih
  by_cases h:a=c
  ·have hiff:(a::l.drop (i+1)=c::k.drop (i+1))=(l.drop (i+1)=k.drop (i+1)):=by rw[h];simp
   simp only[hiff]
   rw[←ih,sb5 c14L0.eq_def]
   simp(disch:=first|omega|fail) only[push_cast,seval,vrl,if_pos,if_neg,h1,h2,h]
  ·rw[if_neg (by intro e;exact h (List.cons.inj e).1),sb5 c14L0.eq_def]
   simp(disch:=first|omega|fail) only[push_cast,seval,vrl,if_pos,if_neg,h1,h2,nb8 h]
theorem nb2{l k:List Int}(hl:l.length≤9223372036854775807):o24 W 14 [.fz b (.sl nl 0 1 (ivs l)), .fz b' (.sl nl' 0 1 (ivs k))] []=some (.x (.bool (decide (l=k))),[],[]):=by
 by_cases hk:k.length=l.length
 ·have e:=fun ks=>ft0 (b:=b) (b':=b') (nl:=nl) (nl':=nl') hl hk l.length 0 (by omega) ks
  simp only[Int.natCast_zero,List.take_zero,List.drop_zero,rp2,lz6,x25,List.map_nil,List.length_nil]at e
  rw[o10 rfl T14 rfl]
  unfold F14 c14
  simp(disch:=first|omega|fail) only[push_cast,seval,vrl,if_pos,if_neg,hk]
  rw[e]
  by_cases h:l=k
  ·rw[if_pos h,decide_eq_true h]
   simp(disch:=first|omega|fail) only[push_cast,seval,vrl,if_pos,if_neg]
  ·rw[if_neg h,decide_eq_false h]
 ·have h: ¬l=k:=fun e=>hk (by rw[e])
  have h8: ¬(l.length:Int)=(k.length:Int):=by omega
  rw[decide_eq_false h,o10 rfl T14 rfl]
  unfold F14 c14
  simp(disch:=first|omega|fail) only[push_cast,seval,vrl,if_pos,if_neg,nb8 h8]
section
variable {q:Int} [IsFld q]
end
end
section
variable {q n q' n' e:Int} {nl nr nl' nr':Nat} {M M':List (List Int)}
end
section
variable {q:Int} [IsFld q] {k nl nr nl2:Nat} {b:Bool} {N:List (List (El q))} {M:List (List Int)} {w:List Int}
end
section
variable {k:FuncId} {p:Int→Bool} {l:List Int} {nl:Nat}
end
section
variable {q:Int} [IsFld q] {k nl nr nl2:Nat} {b:Bool} {N:List (List (El q))}
end
def fewQ(q:Int):Nat→Int→Bool
 |0,_=>true
 |d+1,n=>if 4096<n*q then false else fewQ q d (n*q)
section
variable {K:Type} [FK K]
def monK(a:List K):List K:=a.map fun x=>x*FK.inv (wf a (a.length-1))
theorem r27(a:List K):(monK a).length=a.length:=by simp[monK]
end
section
variable {q:Int} [IsFld q] {b b':Bool} {nl nl':Nat}
theorem q74{c:El q}: ∀(n k:Nat) (z:List (El q)),k+n=z.length→z.length≤1000→ ∀ks,
 vgoL W ⟨h63,[.tmp 4],1⟩ [0,1,5,19,20] c63L0 (.blk 0 [1]::ks) [(0, .fz true (pF q)),(1, .own 0 []),(5, .x (.int .i64 c.v)),(19, .x (.int .i64 z.length)),(20, .x (.int .i64 k))] [.sl nl 3 1 (ivs (vs z))]=
  vgo W ⟨h63,[.tmp 4],1⟩ ks (VFr.of [(1, .own 0 [])]) [.sl nl 3 1 (ivs (vs (scT c n k z)))]
 |0,k,z,hk,hz,ks=>by
  rw[scT,sb5 c63L0.eq_def]
  simp(disch:=first|omega|fail) only[push_cast,seval,vrl,if_pos,if_neg]
 |n+1,k,z,hk,hz,ks=>by
  have ih:=q74 (c:=c) n (k+1) (z.set k (wf z k*c)) (by rw[List.length_set];omega) (by rw[List.length_set];exact hz) ks
  have h1:=iva (l:=z) (i:=k) (by omega)
  rw[Int.natCast_add,Int.natCast_one,←g52,ym6,List.length_set]at ih
  rw[scT,←ih,sb5 c63L0.eq_def]
  simp(disch:=first|omega|fail) only[push_cast,seval,vrl,if_pos,if_neg,h1]
theorem h65{a:List (El q)}(ha:Trm a)(h0:a≠[])(hl:a.length≤1000):
 o24 W 63 [.fz true (pF q), .own 0 []] [.sl nl 3 1 (ivs (vs a))]=some (.own 0 [],[.sl nl 3 1 (ivs (vs (monK a)))],[.junk]):=by
 have hp:0<a.length:=List.length_pos_iff.2 h0
 have hlast:wf a (a.length-1)≠0:=ha (by omega)
 have l1:=iva (l:=a) (i:=a.length-1) (by omega)
 have w1:IntKind.wrap .i64 ((a.length:Int)-1)=((a.length-1:Nat):Int):=by rw[wrap64 (by omega) (by omega)];omega
 have hinv:=rl7 hlast
 have e:=fun ks=>q74 (nl:=nl) (c:=FK.inv (wf a (a.length-1))) a.length 0 a (by omega) hl ks
 rw[ou4]at e
 simp only[Int.natCast_zero]at e
 have hz: ¬(a.length:Int)=0:=by omega
 unfold monK
 rw[hinv]at e
 generalize hG:a.length-1=a1 at*
 rw[o10 rfl T63 rfl]
 unfold F63 c63
 simp(disch:=first|omega|fail) only[push_cast,seval,vrl,if_pos,if_neg,nb8 hz,w1,l1]
 rw[e]
 simp(disch:=first|omega|fail) only[push_cast,seval,vrl,if_pos,if_neg]
end
section
variable {q:Int} {b b':Bool} {nl nl':Nat}
end
section
variable {q p m g:Int} {t:Tree} {b b':Bool} {nl nl':Nat} {l:List Int}
variable {xs:List Int} {k:Int}
variable {w:List Int}
end
section
variable {q p m g:Int} [IsFld q] {t:Tree} {b b':Bool} {nl nl':Nat} {a:List (El q)} {x:El q}
end
section
variable {q p m g:Int} [IsFld q] {t:Tree} {b b' b2:Bool} {nl nl' nl2:Nat} {a:List (El q)} {X:List (El q)} {U:List (Option (El q))}
end
section
variable {K:Type} [FK K]
end
section
variable {q p m g:Int} [IsFld q] {t:Tree} {b b':Bool} {nl nl':Nat} {c:List (El q)} {top:El q}
end
end Go.Proofs.Ytoglhlonhmmieaa
namespace Go.Proofs.Ytoglhlonhmmieaa
open Go.Am
@[push_cast] theorem py6{α:Type}{h:H}{r:Option α}:behind true h h r=r:=zy7 (List.prefix_refl h)
section
variable {h:H} {sa:Option Addr} {c:Nat} {l:List Int}
end
section
variable {h0:H} {sr:Option Addr} {cr:Nat} {raw:List Int}
end
section
variable {h:H} {sa:Option Addr} {C:Nat} {cs:List (List Int)}
end
section
variable {h:H}
end
def qr3(q:Int):List Int→List Int×Bool
 | []=>([],false)
 |a::l=>match qr3 q l with
  |(l',true)=>(a::l',true)
  |(l',false)=>if a+1<q then((a+1)::l',true)else(0::l',false)
theorem pd1(q:Int): ∀l,(qr3 q l).1.length=l.length
 | []=>rfl
 |a::l=>by
  have ih:=pd1 q l
  rw[qr3]
  generalize qr3 q l=x at ih⊢
  obtain⟨l',b⟩:=x
  cases b
  ·simp only
   split<;>simpa using ih
  ·simpa using ih
theorem vq6{q:Int}{s s':List Int}(h:qr3 q s=(s',true)): ∀p:List Int,qr3 q (p++s)=(p++s',true)
 | []=>h
 |a::p=>by rw[List.cons_append,qr3,vq6 h p];rfl
def valS(q:Nat):List Int→Nat
 | []=>0
 |a::l=>a.toNat*q^l.length+valS q l
def digS(q:Int)(l:List Int):Prop:= ∀a∈l,0≤a∧a<q
theorem uc1{q:Nat}: ∀{l:List Int},digS q l→valS q l<q^l.length
 | [],_=>by simp[valS]
 |a::l,h=>by
  have h1:=h a (by simp)
  have ih:=uc1 (l:=l) fun b hb=>h b (by simp[hb])
  rw[valS,List.length_cons,Nat.pow_succ,Nat.mul_comm (q^l.length)]
  have h2:(a.toNat+1)*q^l.length≤q*q^l.length:=Nat.mul_le_mul_right _ (by omega)
  rw[Nat.add_mul,Nat.one_mul]at h2
  omega
theorem jd2{q:Nat}(hq:0<q): ∀{l:List Int},digS q l→digS q (qr3 q l).1∧(if(qr3 q l).2=true then valS q (qr3 q l).1=valS q l+1 else valS q l+1=q^l.length∧ ∀a∈(qr3 q l).1,a=0)
 | [],_=>by simp[qr3,valS,digS]
 |a::l,h=>by
  have h1:=h a (by simp)
  obtain⟨k1,k2⟩:=jd2 hq (l:=l) fun b hb=>h b (by simp[hb])
  have hl:=pd1 q l
  rw[qr3]
  generalize hx:qr3 q l=x at k1 k2 hl⊢
  obtain⟨l',b⟩:=x
  simp only at k1 k2 hl
  cases b with
  |true=>
   simp only[if_true]at k2⊢
   refine⟨fun c hc=> ?_, ?_⟩
   ·rcases List.mem_cons.1 hc with rfl|hc
    ·exact h1
    ·exact k1 c hc
   ·rw[valS,valS,hl,k2];omega
  |false=>
   simp only[Bool.false_eq_true,if_false]at k2⊢
   have hz: ∀{m:List Int},(∀a∈m,a=0)→valS q m=0:=by
    intro m
    induction m with
    |nil=>intro _;rfl
    |cons c m ih=>intro hm;rw[valS,ih fun a ha=>hm a (by simp[ha]),hm c (by simp)];simp
   by_cases hlt:a+1<q
   ·rw[if_pos hlt]
    simp only[if_true]
    refine⟨fun c hc=> ?_, ?_⟩
    ·rcases List.mem_cons.1 hc with rfl|hc
     ·omega
     ·exact k1 c hc
    ·rw[valS,valS,hz k2.2,hl,Nat.add_zero,Nat.add_assoc,k2.1,show(a+1).toNat=a.toNat+1 by omega,Nat.add_mul,Nat.one_mul]
   ·rw[if_neg hlt]
    simp only[Bool.false_eq_true,if_false]
    refine⟨fun c hc=> ?_, ?_,fun c hc=> ?_⟩
    ·rcases List.mem_cons.1 hc with rfl|hc
     ·omega
     ·exact k1 c hc
    ·rw[valS,List.length_cons,Nat.add_assoc,k2.1,show a.toNat=q-1 by omega,Nat.pow_succ,Nat.mul_comm (q^l.length),Nat.sub_mul,Nat.one_mul]
     have:q^l.length≤q*q^l.length:=Nat.le_mul_of_pos_left _ hq
     omega
    ·rcases List.mem_cons.1 hc with rfl|hc
     ·rfl
     ·exact k2.2 c hc
section
variable {hF:H} {q:Int}
theorem ri5{p s:List Int}{a b:Int}{i:Nat}(hi:p.length=i):(p++a::s).set i b=p++b::s:=by
 subst hi;simp
end
end Go.Proofs.Ytoglhlonhmmieaa
namespace Go.Proofs.Ytoglhlonhmmieaa
open Go.Am Go.Vm Go.Alg
theorem qe6{p s:List Int}{a:Int}{i:Nat}(hi:p.length=i):(ivs (p++a::s))[i]? =some (.v (.int .i64 a)):=iat (by subst hi;simp)
section
variable {q:Int} {nl:Nat}
end
section
variable {q:Int}
variable {b b':Bool} {nl nl':Nat} {xs w:List Int} {k:Int}
end
theorem q_hi{q:Int} [hq:IsFld q]:q≤64:=by
 obtain⟨p,m,g,mod,hn⟩:=hq.ok
 exact(jj8 hn).1.q64
section
variable {q:Int} [IsFld q]
def elE(q:Int) [IsFld q](a:Int):El q:=if h:0≤a∧a<q then⟨a,h.1,h.2⟩else 0
theorem sx0{a:Int}(h:0≤a∧a<q):(elE q a).v=a:=by unfold elE;rw[dif_pos h]
theorem c86{l:List Int}(h:digS q l):vs (l.map (elE q))=l:=by
 unfold vs
 rw[List.map_map]
 conv=>rhs;rw[←List.map_id l]
 exact List.map_congr_left fun a ha=>sx0 (h a ha)
theorem oa6(z:List (El q)):digS q (vs z):=fun a ha=>by
 obtain⟨x,_,rfl⟩:=List.mem_map.1 ha
 exact⟨x.lo,x.hi⟩
def yv5(z:List (El q)):List (El q):=(qr3 q (vs z)).1.map (elE q)
theorem z55: ∃p:Nat,q=(p:Int)∧2≤p∧p≤64:=⟨q.toNat,by have:=aw0 (q:=q);omega,by have:=aw0 (q:=q);omega,by have:=q_hi (q:=q);omega⟩
theorem mw7(z:List (El q)):vs (yv5 z)=(qr3 q (vs z)).1:=by
 obtain⟨p,hp,h2,_⟩:=z55 (q:=q)
 refine c86 ?_
 have:=(jd2 (q:=p) (by omega) (l:=vs z) (by rw[←hp];exact oa6 z)).1
 rwa [←hp]at this
theorem l71(z:List (El q)):(yv5 z).length=z.length:=by
 have:=congrArg List.length (mw7 z)
 rwa [fi2,pd1,fi2]at this
structure Left (q:Int) (p:Nat) (n:Nat) (z:List (El q)):Prop where
 e:q=(p:Int)
 h:valS p (vs z)+n+1=p^z.length
theorem Left.last{p:Nat}{z:List (El q)}(h:Left q p 0 z):(qr3 q (vs z)).2=false:=by
 have hq:=aw0 (q:=q)
 have h1:=jd2 (q:=p) (by have:=h.e;omega) (l:=vs z) (by rw[←h.e];exact oa6 z)
 rw[←h.e]at h1
 cases hb:(qr3 q (vs z)).2 with
 |false=>rfl
 |true=>
  have h2:=h1.2
  rw[hb,if_pos rfl]at h2
  have h3:=uc1 (q:=p) (l:=(qr3 q (vs z)).1) (by rw[←h.e];exact h1.1)
  rw[pd1,fi2]at h3
  have:=h.h
  omega
theorem Left.more{p n:Nat}{z:List (El q)}(h:Left q p (n+1) z):(qr3 q (vs z)).2=true∧Left q p n (yv5 z):=by
 have hq:=aw0 (q:=q)
 have h1:=jd2 (q:=p) (by have:=h.e;omega) (l:=vs z) (by rw[←h.e];exact oa6 z)
 rw[←h.e]at h1
 have h0:=h.h
 cases hb:(qr3 q (vs z)).2 with
 |false=>
  have h2:=h1.2
  rw[hb,if_neg (by decide),fi2]at h2
  omega
 |true=>
  have h2:=h1.2
  rw[hb,if_pos rfl]at h2
  exact⟨rfl,h.e,by rw[mw7,l71];omega⟩
theorem Left.start{p:Nat}(e:q=(p:Int))(K:Nat):Left q p (p^K-1) (List.replicate K (0:El q)):=by
 have hq:=aw0 (q:=q)
 refine⟨e, ?_⟩
 have h0: ∀k:Nat,valS p (vs (List.replicate k (0:El q)))=0:=by
  intro k
  induction k with
  |zero=>rfl
  |succ k ih=>rw[List.replicate_succ,show vs ((0:El q)::List.replicate k 0)=0::vs (List.replicate k 0)from rfl,valS,ih];simp
 rw[h0,List.length_replicate]
 have:0<p^K:=Nat.pow_pos (by omega)
 omega
end
section
variable {q p m g:Int} [IsFld q] {t:Tree} {b b' b2:Bool} {nl nl' nl2:Nat} {X Y:List (El q)} {r:Int} {K:Nat}
end
section
variable {q:Int} [IsFld q] {b b':Bool} {nl nl':Nat}
end
section
variable {q:Int} {nl:Nat}
theorem e64(h1:0≤q)(h2:q≤64){k:Int}{N:Nat}(hN:N≤1000): ∀(d i:Nat) (n:Int),i+d=N→0≤n→n≤4096→ ∀ks,
 vgoL W ⟨hNo,[.tmp 4],0⟩ [0,5,7,8] c62L0 (.blk 0 []::ks) [(0, .x (.int .i64 q)),(5, .x (.int .i64 n)),(7, .x (.int .i64 N)),(8, .x (.int .i64 i))] []=if fewQ q d n=true then vgo W ⟨hNo,[.tmp 4],0⟩ ks (VFr.of []) []else some (.x (.bool false),[],[])
 |0,i,n,hi,hn,hn2,ks=>by
  rw[fewQ,if_pos rfl,sb5 c62L0.eq_def]
  simp(disch:=first|omega|fail) only[push_cast,seval,vrl,if_pos,if_neg]
 |d+1,i,n,hi,hn,hn2,ks=>by
  have hb0:0≤n*q:=Int.mul_nonneg hn h1
  have hb1:n*q≤4096*64:=Int.mul_le_mul hn2 h2 h1 (by decide)
  have hb2:n*q≤262144:=by omega
  rw[fewQ]
  by_cases h:4096<n*q
  ·rw[if_pos h,if_neg (by decide),sb5 c62L0.eq_def]
   simp(disch:=first|omega|fail) only[push_cast,seval,vrl,if_pos,if_neg,dec_lt h]
  ·have ih:=e64 h1 h2 (k:=k) hN d (i+1) (n*q) (by omega) hb0 (by omega) ks
   rw[Int.natCast_add,Int.natCast_one]at ih
   rw[if_neg h,←ih,sb5 c62L0.eq_def]
   simp(disch:=first|omega|fail) only[push_cast,seval,vrl,if_pos,if_neg,cw6 (Int.not_lt.1 h)]
theorem p28(h1:0≤q)(h2:q≤64){k:Nat}(hk:k≤1000):o24 W 62 [.x (.int .i64 q), .x (.int .i64 k)] []=some (.x (.bool (fewQ q (k/2) 1)),[],[]):=by
 have e:=fun ks=>e64 h1 h2 (k:=(k:Int)) (N:=k/2) (by omega) (k/2) 0 1 (by omega) (by decide) (by decide) ks
 simp only[Int.natCast_zero]at e
 have w1:((k:Int)).tdiv 2=((k/2:Nat):Int):=by rw[Int.tdiv_eq_ediv_of_nonneg (by omega)];omega
 have hk2:k/2≤500:=by omega
 rw[o10 rfl T62 rfl]
 unfold F62 c62
 generalize k/2=N at*
 simp(disch:=first|omega|fail) only[push_cast,seval,vrl,if_pos,if_neg,w1]
 rw[e]
 cases hz:fewQ q N 1 with
 |true=>
  rw[if_pos rfl]
  simp(disch:=first|omega|fail) only[push_cast,seval,vrl,if_pos,if_neg]
 |false=>rw[if_neg (by decide)]
theorem mh8(hq:q≤1000000): ∀(i:Nat) (p s s':List Int),p.length=i→(p++s).length≤1000000→(∀a∈p,0≤a∧a<q)→qr3 q s=(s',false)→ ∀ks,
 vgoL W ⟨hNo,[.tmp 4],1⟩ [0,1,5] c65L0 (.blk 0 []::ks) [(0, .x (.int .i64 q)),(1, .own 0 []),(5, .x (.int .i64 ((i:Int)-1)))] [.sl nl 3 1 (ivs (p++s'))]=
  if(qr3 q (p++s)).2=true then some (.own 0 [],[.sl nl 3 1 (ivs (qr3 q (p++s)).1)],[.junk])else vgo W ⟨hNo,[.tmp 4],1⟩ ks (VFr.of []) [.sl nl 3 1 (ivs (qr3 q (p++s)).1)]
 |0,p,s,s',hi,hn,hd,hs,ks=>by
  obtain rfl:p=[]:=List.eq_nil_of_length_eq_zero hi
  rw[List.nil_append,List.nil_append,hs,if_neg Bool.false_ne_true,sb5 c65L0.eq_def]
  simp(disch:=first|omega|fail) only[push_cast,seval,vrl,if_pos,if_neg]
 |i+1,p,s,s',hi,hn,hd,hs,ks=>by
  obtain⟨p',a,rfl⟩: ∃p' a,p=p'++[a]:=⟨p.dropLast,p.getLast (by intro h;subst h;simp at hi),(List.dropLast_concat_getLast _).symm⟩
  have hp'l:p'.length=i:=by simpa using hi
  have ha:=hd a (by simp)
  rw[List.append_assoc,List.singleton_append]at hn⊢
  rw[List.append_assoc,List.singleton_append]
  have hsl:s'.length=s.length:=by have:=pd1 q s;rw[hs]at this;exact this
  have hlen:(p'++a::s').length≤1000000:=by simp[hsl]at hn⊢;omega
  have hi2:i<(p'++a::s').length:=by simp;omega
  have l1:=qe6 (s:=s') (a:=a) hp'l
  have l2:=qe6 (s:=s') (a:=a+1) hp'l
  have t1:=ri5 (s:=s') (a:=a) (b:=a+1) hp'l
  have t2:=ri5 (s:=s') (a:=a+1) (b:=0) hp'l
  have e2:(p'++(a+1)::s').length=(p'++a::s').length:=by simp
  have hw:((i+1:Nat):Int)-1=(i:Int):=by omega
  rw[hw]
  by_cases hlt:a+1<q
  ·have hnx:qr3 q (a::s)=((a+1)::s',true):=by rw[qr3,hs];simp only;rw[if_pos hlt]
   rw[vq6 hnx p',if_pos rfl,sb5 c65L0.eq_def]
   simp(disch:=first|omega|fail) only[push_cast,seval,vrl,if_pos,if_neg,l1,l2,t1,e2,dec_lt hlt]
  ·have hnx:qr3 q (a::s)=(0::s',false):=by rw[qr3,hs];simp only;rw[if_neg hlt]
   have ih:=mh8 hq i p' (a::s) (0::s') hp'l hn (fun c hc=>hd c (by simp[hc])) hnx ks
   rw[←ih,sb5 c65L0.eq_def]
   simp(disch:=first|omega|fail) only[push_cast,seval,vrl,if_pos,if_neg,l1,l2,t1,t2,e2,cw6 (Int.not_lt.1 hlt)]
theorem pm9{z:List Int}(hq:q≤1000000)(hz:z.length≤1000000)(hd:digS q z)(h:(qr3 q z).2=true):
 o24 W 65 [.x (.int .i64 q), .own 0 []] [.sl nl 3 1 (ivs z)]=some (.own 0 [],[.sl nl 3 1 (ivs (qr3 q z).1)],[.junk]):=by
 have e:=fun ks=>mh8 (nl:=nl) hq z.length z [] [] rfl (by simpa using hz) hd rfl ks
 simp only[List.append_nil,h,if_true]at e
 rw[o10 rfl T65 rfl]
 unfold F65 c65
 simp(disch:=first|omega|fail) only[push_cast,seval,vrl,if_pos,if_neg]
 rw[e]
theorem xt4{z:List Int}(hq:q≤1000000)(hz:z.length≤1000000)(hd:digS q z)(h:(qr3 q z).2=false):
 o24 W 65 [.x (.int .i64 q), .own 0 []] [.sl nl 3 1 (ivs z)]=some (.x (.slice none 0 0),[],[.sl nl 3 1 (ivs (qr3 q z).1)]):=by
 have e:=fun ks=>mh8 (nl:=nl) hq z.length z [] [] rfl (by simpa using hz) hd rfl ks
 simp only[List.append_nil,h,Bool.false_eq_true,if_false]at e
 rw[o10 rfl T65 rfl]
 unfold F65 c65
 simp(disch:=first|omega|fail) only[push_cast,seval,vrl,if_pos,if_neg]
 rw[e]
 simp(disch:=first|omega|fail) only[push_cast,seval,vrl,if_pos,if_neg]
end
section
variable {q:Int} {b b':Bool} {nl nl':Nat}
end
section
variable {q p m g:Int} [IsFld q] {t:Tree} {b b' b2:Bool} {nl nl' nl2:Nat} {X Y:List (El q)} {r:Int} {K:Nat}
end
section
variable {q:Int} {b b':Bool} {nl nl':Nat} {xs w:List Int} {k r:Int}
end
end Go.Proofs.Ytoglhlonhmmieaa
namespace Go.Alg
section
variable {α β:Type}
variable [DecidableEq α]
end
end Go.Alg
namespace Go.Proofs.Ytoglhlonhmmieaa
open Go.Am Go.Vm Go.Alg
theorem my7{p:Nat}: ∀{l l':List Int},digS p l→digS p l'→l.length=l'.length→valS p l=valS p l'→l=l'
 | [],[],_,_,_,_=>rfl
 |a::l,b::l',h,h',hl,hv=>by
  have hl':l.length=l'.length:=by simpa using hl
  have h1:=uc1 (l:=l) fun c hc=>h c (by simp[hc])
  have h2:=uc1 (l:=l') fun c hc=>h' c (by simp[hc])
  have h3:=h a (by simp)
  have h4:=h' b (by simp)
  rw[valS,valS,←hl']at hv
  rw[←hl']at h2
  generalize p^l.length=M at*
  have e:a.toNat=b.toNat:=by
   rcases Nat.lt_trichotomy a.toNat b.toNat with h5|h5|h5
   ·have h6:(a.toNat+1)*M≤b.toNat*M:=Nat.mul_le_mul_right _ h5
    rw[Nat.add_mul]at h6;omega
   ·exact h5
   ·have h6:(b.toNat+1)*M≤a.toNat*M:=Nat.mul_le_mul_right _ h5
    rw[Nat.add_mul]at h6;omega
  rw[e]at hv
  rw[my7 (fun c hc=>h c (by simp[hc])) (fun c hc=>h' c (by simp[hc])) hl' (by omega),show a=b by omega]
section
variable {q:Int} [IsFld q] {p:Nat} {P:List (El q×El q)} {r:Int}
end
section
variable {q:Int} [IsFld q]
structure Mon (y:List (El q)):Prop where
 ne:y≠[]
 top:wf y (y.length-1)=1
theorem Mon.trm{y:List (El q)}(h:Mon y):Trm y:=fun _=>by rw[h.top];exact ki7
theorem Mon.pos{y:List (El q)}(h:Mon y):0<y.length:=List.length_pos_iff.2 h.ne
theorem u94:Mon ([1]:List (El q)):=⟨by simp,rfl⟩
def Dv(y a:List (El q)):Prop:= ∃c:List (El q),Trm c∧c≠[]∧mulK c y=a
theorem oz6{c:El q}{f h:Nat→El q}{k:Nat}:disc (fun i=>c*f i) h k=c*disc f h k:=ks7
theorem g81{F h:Nat→El q}{k:Nat}:disc (fun i=>match i with|0=>(0:El q)|i+1=>F i) h k=match k with|0=>0|k+1=>disc F h k:=by
 refine(o59 0 F h k).trans ?_
 rw[zero_mul,zero_add]
 all_goals (cases k<;>rfl)
theorem hi9(g h:Nat→El q): ∀(a:List (El q)) (k:Nat),disc (fun i=>disc (wf a) g i) h k=disc (wf a) (fun i=>disc g h i) k
 | [],k=>by
   rw[qt9,tt8,show(fun i=>disc (fun _=>(0:El q)) g i)=fun _=>0 from funext fun i=>tt8 _ _,tt8]
 |c::l,k=>by
  have ih:=hi9 g h l
  have e:(fun i=>disc (wf (c::l)) g i)=fun i=>c*g i+(match i with|0=>(0:El q)|i+1=>disc (wf l) g i):=funext fun i=>by
   rw[iu6]
   refine(o59 c (wf l) g i).trans ?_
   cases i<;>rfl
  rw[e,bf5,oz6,g81,iu6,o59]
  congr 1
  cases k with
  |zero=>rfl
  |succ k=>exact ih k
theorem w11(a b c:List (El q)):mulK (mulK a b) c=mulK a (mulK b c):=by
 refine lz5 (ho6 _ _) (ho6 _ _) ?_
 rw[zu9,zu9,zu9,zu9]
 funext k
 exact hi9 _ _ _ k
theorem kj1{a:List (El q)}(ha:Trm a):mulK [1] a=a:=by
 refine lz5 (ho6 _ _) ha ?_
 rw[zu9,iu6]
 funext k
 rw[o59,FK.mul_comm,FK.mul_one]
 cases k with
 |zero=>exact FK.add_zero _
 |succ k=>show _+disc (wf []) _ k=_;rw[qt9,tt8,FK.add_zero]
theorem cm4{a b:List (El q)}(ha:Trm a)(hb:Trm b)(h1:a≠[])(h2:b≠[]):mulK a b≠[]:=fun e=>by
 have:=lk3 ha hb h1 h2
 have p1:=List.length_pos_iff.2 h1
 have p2:=List.length_pos_iff.2 h2
 rw[e,List.length_nil]at this
 omega
theorem zp4{a b:List (El q)}(ha:Trm a)(hb:Trm b)(h1:a≠[])(h2:b≠[]):wf (mulK a b) ((mulK a b).length-1)=wf a (a.length-1)*wf b (b.length-1):=by
 have p1:=List.length_pos_iff.2 h1
 have p2:=List.length_pos_iff.2 h2
 rw[lk3 ha hb h1 h2,zu9,show a.length+b.length-1-1=(a.length-1)+(b.length-1) by omega]
 exact b30 (fun i hi=>ez8 (by omega)) (fun i hi=>ez8 (by omega))
theorem Mon.quo{c y:List (El q)}(hc:Trm c)(h0:c≠[])(hy:Mon y)(h:Mon (mulK c y)):Mon c:=by
 refine⟨h0, ?_⟩
 have h1:=zp4 hc hy.trm h0 hy.ne
 rw[h.top,hy.top,FK.mul_one]at h1
 exact h1.symm
theorem Mon.mul{c y:List (El q)}(hc:Mon c)(hy:Mon y):Mon (mulK c y):=⟨cm4 hc.trm hy.trm hc.ne hy.ne,by rw[zp4 hc.trm hy.trm hc.ne hy.ne,hc.top,hy.top,FK.mul_one]⟩
theorem Dv.trans{x y a:List (El q)}(hx:Trm x)(hx0:x≠[])(h:Dv x y)(g:Dv y a):Dv x a:=by
 obtain⟨c,c1,c2,rfl⟩:=h
 obtain⟨d,d1,d2,rfl⟩:=g
 exact⟨mulK d c,ho6 _ _,cm4 d1 c1 d2 c2,w11 d c x⟩
theorem fu2{c d y:List (El q)}(hc:Trm c)(hd:Trm d)(hy:Trm y)(hy0:y≠[])(h:mulK c y=mulK d y):c=d:=by
 refine lz5 hc hd (pe7 (n:=max c.length d.length) (m:=y.length) (h:=wf y) (fun k hk=>ez8 (by omega)) (fun k hk=>ez8 (by omega)) (fun k hk=>ez8 hk) (fun e=> ?_) ?_)
 ·exact hy (by have:=List.length_pos_iff.2 hy0;omega) (congrFun e _)
 ·rw[←zu9,←zu9,h]
theorem dv6{a y:List (El q)}(ha:Trm a)(ha0:a≠[])(hy:Trm y)(hy0:y≠[]):(remP a y=[]→mulK (quoP a y) y=a∧Trm (quoP a y)∧quoP a y≠[])∧(Dv y a→remP a y=[]):=by
 have h:=h79 (a:=a) hy hy0
 refine⟨fun h0=> ?_,fun⟨c,c1,c2,c3⟩=> ?_⟩
 ·have e:mulK (quoP a y) y=a:=lz5 (ho6 _ _) ha (by
   rw[zu9]
   funext k
   have:=h.eq k
   rw[h0,qt9,FK.add_zero]at this
   exact this.symm)
  refine⟨e,h.q,fun e0=>ha0 ?_⟩
  rw[←e,e0,hz3 (.inl rfl)]
 ·exact(div_eq hy (IsDiv.of_mul hy hy0 (Q:=c) (by rw[←c3,zu9]))).2
def dN(y:List (El q)):Nat:=valS q.toNat (vs y.dropLast)
def Le(x y:List (El q)):Prop:=x.length<y.length∨(x.length=y.length∧dN x≤dN y)
theorem bf6:(q.toNat:Int)=q:=Int.toNat_of_nonneg (by have:=aw0 (q:=q);omega)
theorem k85{y:List (El q)}(h:Mon y):y.dropLast++[1]=y:=by
 have h1:y.getLast h.ne=1:=by
  have:=h.top
  rw[i67 (by have:=h.pos;omega)]at this
  rw[List.getLast_eq_getElem];exact this
 have:=List.dropLast_concat_getLast h.ne
 rwa [h1]at this
theorem yv4(z:List (El q)):Mon (z++[1]):=⟨by simp,by
 rw[i67 (by simp)];simp⟩
theorem ga2{x y:List (El q)}(hx:Mon x)(hy:Mon y)(hl:x.length=y.length)(h:dN x=dN y):x=y:=by
 have e:=my7 (p:=q.toNat) (l:=vs x.dropLast) (l':=vs y.dropLast) (by rw[bf6];exact oa6 _) (by rw[bf6];exact oa6 _) (by rw[fi2,fi2,List.length_dropLast,List.length_dropLast,hl]) h
 rw[←k85 hx,←k85 hy,qa5 e]
theorem Le.anti{x y:List (El q)}(hx:Mon x)(hy:Mon y)(h:Le x y)(g:Le y x):x=y:=by
 unfold Le at h g
 exact ga2 hx hy (by omega) (by omega)
theorem sf1(y:List (El q)):dN y<q.toNat^(y.length-1):=by
 have:=uc1 (q:=q.toNat) (l:=vs y.dropLast) (by rw[bf6];exact oa6 _)
 unfold dN
 rwa [fi2,List.length_dropLast]at this
inductive Fac:List (El q)→List (List (El q))→Prop
 |one:Fac [1] []
 |cons {c p:List (El q)} {L:List (List (El q))}:Mon p→2≤p.length→(∀y,Mon y→2≤y.length→Dv y (mulK c p)→Le p y)→Mon c→Fac c L→Fac (mulK c p) (p::L)
theorem Fac.mon{a:List (El q)}{L:List (List (El q))}(h:Fac a L):Mon a:=by
 cases h with
 |one=>exact u94
 |cons h1 _ _ h2 _=>exact h2.mul h1
theorem Fac.uniq{a:List (El q)}{L L':List (List (El q))}(h:Fac a L):Fac a L'→L=L':=by
 induction h generalizing L' with
 |one=>
  intro g
  generalize ha:([1]:List (El q))=a at g
  cases g with
  |one=>rfl
  | @cons c p L h1 h2 h3 h4 h5=>
    have:=lk3 h4.trm h1.trm h4.ne h1.ne
    have:=h4.pos
    rw[←ha,List.length_singleton]at*
    omega
 | @cons c p L h1 h2 h3 h4 h5 ih=>
   intro g
   generalize ha:mulK c p=a at g
   cases g with
   |one=>
    have e:=lk3 h4.trm h1.trm h4.ne h1.ne
    have:=h4.pos
    rw[ha,List.length_singleton]at e
    omega
   | @cons c' p' L' g1 g2 g3 g4 g5=>
     have e1:Le p p':=h3 p' g1 g2 (by rw[ha];exact⟨c',g4.trm,g4.ne,rfl⟩)
     have e2:Le p' p:=g3 p h1 h2 (by rw[←ha];exact⟨c,h4.trm,h4.ne,rfl⟩)
     obtain rfl:=Le.anti h1 g1 e1 e2
     obtain rfl:=fu2 h4.trm g4.trm h1.trm h1.ne ha
     rw[ih g5]
theorem Fac.sorted{a:List (El q)}{L:List (List (El q))}(h:Fac a L):(∀x∈L,Mon x∧2≤x.length∧Dv x a)∧L.Pairwise Le:=by
 induction h with
 |one=>exact⟨fun x hx=>(by cases hx), .nil⟩
 | @cons c p L h1 h2 h3 h4 h5 ih=>
   have hd: ∀x∈L,Mon x∧2≤x.length∧Dv x (mulK c p):=fun x hx=>by
    obtain⟨i1,i2,i3⟩:=ih.1 x hx
    refine⟨i1,i2,i3.trans i1.trm i1.ne ⟨p,h1.trm,h1.ne,w46 _ _⟩⟩
   refine⟨fun x hx=> ?_,List.pairwise_cons.2 ⟨fun x hx=> ?_,ih.2⟩⟩
   ·rcases List.mem_cons.1 hx with rfl|hx
    ·exact⟨h1,h2,c,h4.trm,h4.ne,rfl⟩
    ·exact hd x hx
   ·obtain⟨i1,i2,i3⟩:=hd x hx
    exact h3 x i1 i2 i3
theorem Fac.len{a:List (El q)}{L:List (List (El q))}(h:Fac a L):L.length+1≤a.length:=by
 induction h with
 |one=>simp
 | @cons c p L h1 h2 h3 h4 h5 ih=>
   have:=lk3 h4.trm h1.trm h4.ne h1.ne
   rw[List.length_cons];omega
def FacS(a0:List (El q))(out:List (List (El q)))(a:List (El q)):Prop:= ∀L,Fac a L→Fac a0 (out++L)
theorem FacS.start(a:List (El q)):FacS a [] a:=fun L h=>h
def Low(d v:Nat)(a:List (El q)):Prop:= ∀y:List (El q),Mon y→2≤y.length→Dv y a→d+1<y.length∨(y.length=d+1∧v≤dN y)
theorem Low.start(a:List (El q)):Low 1 0 a:=fun y _ h _=>by omega
theorem Low.skip{d:Nat}{z a:List (El q)}(hz:z.length=d)(h:Low d (valS q.toNat (vs z)) a)(hn: ¬Dv (z++[1]) a):Low d (valS q.toNat (vs z)+1) a:=fun y h1 h2 h3=>by
 rcases h y h1 h2 h3 with e|⟨e1,e2⟩
 ·exact .inl e
 ·refine .inr ⟨e1, ?_⟩
  refine Classical.byContradiction fun hc=>hn ?_
  have hd:dN (z++[1])=valS q.toNat (vs z):=by unfold dN;rw[List.dropLast_concat]
  rw[ga2 (yv4 z) h1 (by simp;omega) (by omega)]
  exact h3
theorem Low.next{d v:Nat}{a:List (El q)}(h:Low d v a)(hv:v=q.toNat^d):Low (d+1) 0 a:=fun y h1 h2 h3=>by
 rcases h y h1 h2 h3 with e|⟨e1,e2⟩
 ·rcases Nat.lt_or_ge (d+1+1) y.length with e|e
  ·exact .inl e
  ·exact .inr ⟨by omega,Nat.zero_le _⟩
 ·have:=sf1 y
  rw[show y.length-1=d by omega]at this
  omega
theorem FacS.push{d:Nat}{a0 z a c:List (El q)}{out:List (List (El q))}(h:FacS a0 out a)(hl:Low d (valS q.toNat (vs z)) a)(hz:z.length=d)(hd:1≤d)(ha:Mon a)(hc:Trm c)(hc0:c≠[])(e:mulK c (z++[1])=a):
 FacS a0 (out++[z++[1]]) c∧Low d (valS q.toNat (vs z)) c∧Mon c∧c.length<a.length:=by
 have hm:=yv4 z
 have hcm:Mon c:=Mon.quo hc hc0 hm (by rw[e];exact ha)
 have hlen:=lk3 hc hm.trm hc0 hm.ne
 have hdz:dN (z++[1])=valS q.toNat (vs z):=by unfold dN;rw[List.dropLast_concat]
 refine⟨fun L hL=> ?_,fun y h1 h2 h3=>hl y h1 h2 (h3.trans h1.trm h1.ne ?_),hcm, ?_⟩
 ·rw[List.append_assoc]
  refine h _ ?_
  rw[←e]
  refine .cons hm (by simp;omega) (fun y h1 h2 h3=> ?_) hcm hL
  rw[e]at h3
  rcases hl y h1 h2 h3 with g|⟨g1,g2⟩
  ·exact .inl (by simp;omega)
  ·exact .inr ⟨by simp;omega,by rw[hdz];exact g2⟩
 ·rw[←e,w46]
  exact⟨_,hm.trm,hm.ne,rfl⟩
 ·rw[←e,hlen];simp;have:=hcm.pos;omega
def Fin(d:Nat)(a:List (El q)):Prop:= ∃d' v,d'≤d∧Low d' v a∧a.length<2*d'+1
theorem FacS.done{d:Nat}{a0 a:List (El q)}{out:List (List (El q))}(h:FacS a0 out a)(hf:Fin d a)(ha:Mon a):Fac a0 (out++if 1<a.length then [a]else []):=by
 obtain⟨d',v,_,hl,hlen⟩:=hf
 have hp:=ha.pos
 by_cases h1:1<a.length
 ·rw[if_pos h1]
  refine h _ ?_
  have hle: ∀y,Mon y→2≤y.length→Dv y a→Le a y:=fun y g1 g2 g3=>by
   obtain⟨c,c1,c2,c3⟩:=g3
   have hcm:Mon c:=Mon.quo c1 c2 g1 (by rw[c3];exact ha)
   have hl1:=lk3 c1 g1.trm c2 g1.ne
   rw[c3]at hl1
   have hcp:=hcm.pos
   by_cases hc2:2≤c.length
   ·have k1:=hl y g1 g2 ⟨c,c1,c2,c3⟩
    have k2:=hl c hcm hc2 ⟨y,g1.trm,g1.ne,by rw[w46];exact c3⟩
    omega
   ·have hc1:c=[1]:=by
     have:=k85 hcm
     rw[List.eq_nil_of_length_eq_zero (l:=c.dropLast) (by simp;omega)]at this
     exact this.symm
    rw[hc1,kj1 g1.trm]at c3
    rw[c3]
    exact .inr ⟨rfl,Nat.le_refl _⟩
  have hf:=Fac.cons (c:=[1]) ha (by omega) (by rw[kj1 ha.trm];exact hle) u94 .one
  rwa [kj1 ha.trm]at hf
 ·rw[if_neg h1]
  have ha1:a=[1]:=by
   have:=k85 ha
   rw[List.eq_nil_of_length_eq_zero (l:=a.dropLast) (by simp;omega)]at this
   exact this.symm
  rw[ha1]at h
  exact h [] .one
end
def si7(d:Int):Int:=IntKind.u64.wrap (IntKind.u64.wrap (IntKind.u64.wrap (Int.fdiv 1 (2^min 32 IntKind.u64.bits)*d.fdiv (2^min 32 IntKind.u64.bits))+(IntKind.u64.wrap (IntKind.u64.wrap (Int.fdiv 1 (2^min 32 IntKind.u64.bits)*d)+(IntKind.u64.wrap (1*d)).fdiv (2^min 32 IntKind.u64.bits))).fdiv (2^min 32 IntKind.u64.bits))+(IntKind.u64.wrap (bits .and .u64 (IntKind.u64.wrap (IntKind.u64.wrap (Int.fdiv 1 (2^min 32 IntKind.u64.bits)*d)+(IntKind.u64.wrap (1*d)).fdiv (2^min 32 IntKind.u64.bits))) 4294967295+IntKind.u64.wrap (1*d.fdiv (2^min 32 IntKind.u64.bits)))).fdiv (2^min 32 IntKind.u64.bits))
theorem as0:((List.range 301).all fun d=>decide (si7 (d:Int)=0)&&decide (IntKind.u64.wrap (1*(d:Int))=(d:Int))&&decide (bits .and .u64 (d:Int) 4294967295=(d:Int))&&decide (IntKind.u64.wrap (d:Int)=(d:Int)))=true:=by kernel_rfl
theorem u17{d:Nat}(h:d≤300):o24 W 124 [.x (.int .u64 1), .x (.int .u64 d)] []=some (.tup [.x (.int .u64 0), .x (.int .u64 d)],[],[]):=by
 have b0:bits .and .u64 1 4294967295=1:=by kernel_rfl
 have key:=List.all_eq_true.1 as0 d (List.mem_range.2 (by omega))
 simp only[Bool.and_eq_true,decide_eq_true_eq]at key
 obtain⟨⟨⟨k1,k2⟩,k3⟩,k4⟩:=key
 unfold si7 at k1
 rw[o10 rfl T124 rfl]
 unfold F124 c124
 simp(disch:=first|omega|fail) only[push_cast,seval,vrl,if_pos,if_neg,b0,k3]
 rw[k1,k2]
theorem u92{d:Nat}(h:d≤300):o24 W 107 [.x (.int .u64 1), .x (.int .u64 d)] []=some (.tup [.x (.int .u64 0), .x (.int .u64 d)],[],[]):=by
 have e:=u17 h
 rw[o10 rfl T107 rfl]
 unfold F107 c107
 simp(disch:=first|omega|fail) only[push_cast,seval,vrl,if_pos,if_neg,e]
theorem kc0{d n m:Nat}(h:n+m≤d):setL (ivs (List.replicate d 0)) n (ivs (List.replicate m 0))=ivs (List.replicate d 0):=by
 have hr: ∀k:Nat,ivs (List.replicate k 0)=List.replicate k (Tree.v (.int .i64 0)):=fun k=>by unfold ivs;rw[List.map_replicate];rfl
 rw[hr,hr,dn3 (by simp;omega)]
 obtain⟨e,rfl⟩: ∃e,d=n+m+e:=⟨d-(n+m),by omega⟩
 rw[List.take_replicate,List.drop_replicate,List.length_replicate,List.replicate_append_replicate,List.replicate_append_replicate]
 congr 1
 omega
theorem p73{d:Nat}(h:d≤300): ∀(m n:Nat),d≤n+m→1≤n→n≤600→ ∀ks,
 vgoL W ⟨hNo,[.tmp 4],0⟩ [7,8] c64L0 (.blk 0 [7]::ks) [(7, .own 0 []),(8, .x (.int .i64 n))] [.sl 0 3 1 (ivs (List.replicate d 0))]=vgo W ⟨hNo,[.tmp 4],0⟩ ks (VFr.of [(7, .own 0 [])]) [.sl 0 3 1 (ivs (List.replicate d 0))]
 |0,n,hn,h1,h2,ks=>by
  have hlen:(List.replicate d (0:Int)).length=d:=List.length_replicate
  rw[sb5 c64L0.eq_def]
  generalize List.replicate d (0:Int)=Z at*
  simp(disch:=first|omega|fail) only[push_cast,seval,vrl,if_pos,if_neg,hlen]
 |m+1,n,hn,h1,h2,ks=>by
  have hlen:(List.replicate d (0:Int)).length=d:=List.length_replicate
  by_cases hnd:n<d
  ·have ih:=p73 h m (n+min (d-n) n) (by omega) (by omega) (by omega) ks
   have hm:((min (min ((n:Int)-0).toNat d) ((d:Int)-(n:Int)).toNat:Nat):Int)=((min (d-n) n:Nat):Int):=by omega
   have hs:setL (ivs (List.replicate d 0)) n (ivs (List.take ((d:Int)-(n:Int)).toNat (List.take ((n:Int)-0).toNat (List.replicate d 0))))=ivs (List.replicate d 0):=by
    rw[List.take_replicate,List.take_replicate]
    exact kc0 (by omega)
   rw[←ih,Int.natCast_add,sb5 c64L0.eq_def]
   simp(disch:=first|omega|fail) only[push_cast,seval,vrl,if_pos,if_neg,hlen,hs,hm]
  ·rw[sb5 c64L0.eq_def]
   generalize List.replicate d (0:Int)=Z at*
   simp(disch:=first|omega|fail) only[push_cast,seval,vrl,if_pos,if_neg,hlen]
theorem r52{d:Nat}(h:d≤300)(h1:1≤d)(b:Bool)(nl:Nat):o24 W 64 [.fz b (.sl nl 0 1 (ivs [0])), .x (.int .i64 d)] []=some (.own 0 [],[.sl 0 3 1 (ivs (List.replicate d 0))],[]):=by
 have e1:=u92 h
 have e2:=fun ks=>p73 h d 1 (by omega) (by omega) (by omega) ks
 have key:=List.all_eq_true.1 as0 d (List.mem_range.2 (by omega))
 simp only[Bool.and_eq_true,decide_eq_true_eq]at key
 obtain⟨_,k4⟩:=key
 have hs:=kc0 (d:=d) (n:=0) (m:=1) (by omega)
 have hr:ivs (List.replicate 1 0)=ivs [0]:=rfl
 have hmin:((min 1 d:Nat):Int)=1:=by omega
 have hs2:setL (ivs (List.replicate d 0)) 0 (ivs (List.take d [0]))=ivs (List.replicate d 0):=by rw[List.take_of_length_le (by simpa using h1)];exact hs
 have k0:IntKind.u64.wrap 1=1:=by kernel_rfl
 have hlen:(List.replicate d (0:Int)).length=d:=List.length_replicate
 rw[hr]at hs
 simp only[Int.natCast_one]at e2
 rw[o10 rfl T64 rfl]
 unfold F64 c64
 simp(disch:=first|omega|fail) only[push_cast,seval,vrl,if_pos,if_neg,k0,k4,e1,cs7,hlen,hmin,hs2]
 rw[e2]
 simp(disch:=first|omega|fail) only[push_cast,seval,vrl,if_pos,if_neg]
section
variable {q:Int} [IsFld q] {d v:Nat} {a0 z:List (El q)}
def outT(L:List (List (El q))):List Tree:=L.map fun p=> .fz (.sl 0 0 1 (ivs (vs p)))
theorem ck0(L:List (List (El q))):(outT L).length=L.length:=by simp[outT]
theorem ea9(L:List (List (El q)))(p:List (El q)):outT L++[.fz (.sl 0 0 1 (ivs (vs p)))]=outT (L++[p]):=by simp[outT]
theorem et9(hd:1≤d)(hd2:d≤128)(hz:z.length=d){no nz:Nat}: ∀(n:Nat) (a:List (El q)) (L:List (List (El q))) (na:Nat),a.length≤n→a.length≤128→L.length+a.length≤200→FacS a0 L a→(Low d (valS q.toNat (vs z)) a∨Fin d a)→Mon a→
 ∃(a':List (El q)) (L':List (List (El q))) (na':Nat) (X:Rts),FacS a0 L' a'∧(Low d (valS q.toNat (vs z)+1) a'∨Fin d a')∧Mon a'∧L'.length+a'.length≤L.length+a.length∧a'.length≤a.length∧ ∀ks,
 vgoL W ⟨h27,[.tmp 4, .tmp 5],0⟩ [0,1,6,9,10,11,12] c27L0 (.blk 2001 [0,1,6,9,10,11]::ks) [(0, .x (.int .i64 q)),(1, .own 0 []),(6, .fz true (pF q)),(9, .own 1 []),(10, .x (.int .i64 d)),(11, .own 2 []),(12, .own 3 [])] [.sl na 3 1 (ivs (vs a)), .sl no 22 1 (outT L), .sl nz 3 1 (ivs (vs z)), .fz (.sl 0 0 1 (ivs (vs (z++[1]))))]=
  vgo W ⟨h27,[.tmp 4, .tmp 5],0⟩ ks (VFr.of [(0, .x (.int .i64 q)),(1, .own 0 []),(6, .fz true (pF q)),(9, .own 1 []),(10, .x (.int .i64 d)),(11, .own 2 [])]) (.sl na' 3 1 (ivs (vs a')):: .sl no 22 1 (outT L'):: .sl nz 3 1 (ivs (vs z))::X)
 |0,a,L,na,hn,h128,hL,hS,hP,hm=>by have:=hm.pos;omega
 |n+1,a,L,na,hn,h128,hL,hS,hP,hm=>by
  have hap:=hm.pos
  have w1:IntKind.wrap .i64 ((a.length:Int)-1)=((a.length-1:Nat):Int):=by rw[wrap64 (by omega) (by omega)];omega
  by_cases ht:a.length<2*d+1
  ·have hfin:Fin d a:=by
    rcases hP with h|h
    ·exact⟨d,_,Nat.le_refl _,h,ht⟩
    ·exact h
   refine⟨a,L,na,[.fz (.sl 0 0 1 (ivs (vs (z++[1]))))],hS, .inr hfin,hm,Nat.le_refl _,Nat.le_refl _,fun ks=> ?_⟩
   have c1: ¬2*(d:Int)≤((a.length-1:Nat):Int):=by omega
   rw[sb5 c27L0.eq_def]
   simp(disch:=first|omega|fail) only[push_cast,seval,vrl,if_pos,if_neg,w1,qc6 (Int.not_le.1 c1)]
  ·have hlow:Low d (valS q.toNat (vs z)) a:=by
    rcases hP with h|⟨d',v',h1,h2,h3⟩
    ·exact h
    ·omega
   have c1:2*(d:Int)≤((a.length-1:Nat):Int):=by omega
   have hpm:=yv4 z
   have hpl:(z++[1]).length=d+1:=by simp;omega
   obtain⟨m,e1⟩:=ag0 (b:=false) (nl:=na) (b':=true) (nl':=0) hm.trm hpm.trm hpm.ne (by omega) (by omega)
   obtain⟨k1,k2⟩:=dv6 hm.trm hm.ne hpm.trm hpm.ne
   by_cases hr:remP a (z++[1])=[]
   ·obtain⟨g1,g2,g3⟩:=k1 hr
    obtain⟨f1,f2,f3,f4⟩:=hS.push hlow hz hd hm g2 g3 g1
    obtain⟨a',L',na',X,r1,r2,r3,r4,r5,ih⟩:=et9 hd hd2 hz (no:=no) (nz:=nz) n (quoP a (z++[1])) (L++[z++[1]]) m (by omega) (by omega) (by simp;omega) f1 (.inl f2) f3
    refine⟨a',L',na',X,r1,r2,r3,by simp at r4;omega,by omega,fun ks=> ?_⟩
    rw[hr]at e1
    have hLl:L.length≤200:=by omega
    rw[←ih ks,sb5 c27L0.eq_def]
    simp(disch:=first|omega|fail) only[push_cast,seval,vrl,if_pos,if_neg,w1,nl3 c1,e1,ck0,ea9,hLl]
   ·refine⟨a,L,na,[.fz (.sl 0 0 1 (ivs (vs (z++[1])))), .sl m 3 1 (ivs (vs (quoP a (z++[1])))), .sl (nlT (remP a (z++[1]))) 3 1 (ivs (vs (remP a (z++[1]))))],hS, .inl (hlow.skip hz fun h=>hr (k2 h)),hm,Nat.le_refl _,Nat.le_refl _,fun ks=> ?_⟩
    have hrl: ¬((remP a (z++[1])).length:Int)=0:=by have:=List.length_pos_iff.2 hr;omega
    rw[sb5 c27L0.eq_def]
    generalize remP a (z++[1])=R at*
    simp(disch:=first|omega|fail) only[push_cast,seval,vrl,if_pos,if_neg,w1,nl3 c1,e1,nb8 hrl]
theorem vg7(hd:1≤d)(hd2:d≤128)(hz:z.length=d){no nz na:Nat}{a:List (El q)}{L:List (List (El q))}(h128:a.length≤128)(hL:L.length+a.length≤200)(hS:FacS a0 L a)(hP:Low d (valS q.toNat (vs z)) a∨Fin d a)(hm:Mon a):
 ∃(a':List (El q)) (L':List (List (El q))) (na':Nat) (X:Rts),FacS a0 L' a'∧(Low d (valS q.toNat (vs z)+1) a'∨Fin d a')∧Mon a'∧L'.length+a'.length≤L.length+a.length∧a'.length≤a.length∧ ∀ks,
 vgoL W ⟨h27,[.tmp 4, .tmp 5],0⟩ [0,1,6,9,10,11,12] c27L0 (.blk 2001 [0,1,6,9,10,11]::ks) [(0, .x (.int .i64 q)),(1, .own 0 []),(6, .fz true (pF q)),(9, .own 1 []),(10, .x (.int .i64 d)),(11, .own 2 []),(12, .own 3 [])] [.sl na 3 1 (ivs (vs a)), .sl no 22 1 (outT L), .sl nz 3 1 (ivs (vs z)), .sl 0 3 1 (ivs (vs (z++[1])))]=
  vgo W ⟨h27,[.tmp 4, .tmp 5],0⟩ ks (VFr.of [(0, .x (.int .i64 q)),(1, .own 0 []),(6, .fz true (pF q)),(9, .own 1 []),(10, .x (.int .i64 d)),(11, .own 2 [])]) (.sl na' 3 1 (ivs (vs a')):: .sl no 22 1 (outT L'):: .sl nz 3 1 (ivs (vs z))::X):=by
 have hap:=hm.pos
 have w1:IntKind.wrap .i64 ((a.length:Int)-1)=((a.length-1:Nat):Int):=by rw[wrap64 (by omega) (by omega)];omega
 by_cases ht:a.length<2*d+1
 ·have hfin:Fin d a:=by
   rcases hP with h|h
   ·exact⟨d,_,Nat.le_refl _,h,ht⟩
   ·exact h
  refine⟨a,L,na,[.sl 0 3 1 (ivs (vs (z++[1])))],hS, .inr hfin,hm,Nat.le_refl _,Nat.le_refl _,fun ks=> ?_⟩
  have c1: ¬2*(d:Int)≤((a.length-1:Nat):Int):=by omega
  rw[sb5 c27L0.eq_def]
  simp(disch:=first|omega|fail) only[push_cast,seval,vrl,if_pos,if_neg,w1,qc6 (Int.not_le.1 c1)]
 ·have hlow:Low d (valS q.toNat (vs z)) a:=by
   rcases hP with h|⟨d',v',h1,h2,h3⟩
   ·exact h
   ·omega
  have c1:2*(d:Int)≤((a.length-1:Nat):Int):=by omega
  have hpm:=yv4 z
  have hpl:(z++[1]).length=d+1:=by simp;omega
  obtain⟨m,e1⟩:=ag0 (b:=false) (nl:=na) (b':=false) (nl':=0) hm.trm hpm.trm hpm.ne (by omega) (by omega)
  obtain⟨k1,k2⟩:=dv6 hm.trm hm.ne hpm.trm hpm.ne
  by_cases hr:remP a (z++[1])=[]
  ·obtain⟨g1,g2,g3⟩:=k1 hr
   obtain⟨f1,f2,f3,f4⟩:=hS.push hlow hz hd hm g2 g3 g1
   obtain⟨a',L',na',X,r1,r2,r3,r4,r5,ih⟩:=et9 hd hd2 hz (no:=no) (nz:=nz) _ (quoP a (z++[1])) (L++[z++[1]]) m (Nat.le_refl _) (by omega) (by simp;omega) f1 (.inl f2) f3
   refine⟨a',L',na',X,r1,r2,r3,by simp at r4;omega,by omega,fun ks=> ?_⟩
   rw[hr]at e1
   have hLl:L.length≤200:=by omega
   rw[←ih ks,sb5 c27L0.eq_def]
   simp(disch:=first|omega|fail) only[push_cast,seval,vrl,if_pos,if_neg,w1,nl3 c1,e1,ck0,ea9,hLl]
  ·refine⟨a,L,na,[.sl 0 3 1 (ivs (vs (z++[1]))), .sl m 3 1 (ivs (vs (quoP a (z++[1])))), .sl (nlT (remP a (z++[1]))) 3 1 (ivs (vs (remP a (z++[1]))))],hS, .inl (hlow.skip hz fun h=>hr (k2 h)),hm,Nat.le_refl _,Nat.le_refl _,fun ks=> ?_⟩
   have hrl: ¬((remP a (z++[1])).length:Int)=0:=by have:=List.length_pos_iff.2 hr;omega
   rw[sb5 c27L0.eq_def]
   generalize remP a (z++[1])=R at*
   simp(disch:=first|omega|fail) only[push_cast,seval,vrl,if_pos,if_neg,w1,nl3 c1,e1,nb8 hrl]
theorem ra9{T0 T1:Tree}{l:List Int}:wb3 [T0,T1, .sl 0 3 1 (ivs l)] 0 (.own 2 [])=some false:=by
 unfold wb3
 cases l<;>rfl
theorem km7{na no:Nat}{a:List (El q)}{C:List Tree}(ks):
 vgoL W ⟨h27,[.tmp 4, .tmp 5],0⟩ [0,1,6,9,10,11] c27L1 (.blk 2 [0,1,6,9,10]::ks) [(0, .x (.int .i64 q)),(1, .own 0 []),(6, .fz true (pF q)),(9, .own 1 []),(10, .x (.int .i64 d)),(11, .x (.slice none 0 0))] [.sl na 3 1 (ivs (vs a)), .sl no 22 1 C]=
  vgo W ⟨h27,[.tmp 4, .tmp 5],0⟩ ks (VFr.of [(0, .x (.int .i64 q)),(1, .own 0 []),(6, .fz true (pF q)),(9, .own 1 []),(10, .x (.int .i64 d))]) [.sl na 3 1 (ivs (vs a)), .sl no 22 1 C]:=by
 rw[sb5 c27L1.eq_def]
 simp(disch:=first|omega|fail) only[push_cast,seval,vrl,if_pos,if_neg]
theorem uq1(z:List (El q)):ivs (vs (z++[1]))=ivs (vs z)++[.v (.int .i64 1)]:=by rw[show vs (z++[1])=vs z++[1] by unfold vs;rw[List.map_append];rfl,←Vm.tl5];rfl
theorem jp0(hd:1≤d)(hd2:d≤128){no:Nat}: ∀(n:Nat) (z:List (El q)) (a:List (El q)) (L:List (List (El q))) (na:Nat),Left q q.toNat n z→z.length=d→a.length≤128→L.length+a.length≤200→FacS a0 L a→(Low d (valS q.toNat (vs z)) a∨Fin d a)→Mon a→
 ∃(a':List (El q)) (L':List (List (El q))) (na':Nat) (X:Rts),FacS a0 L' a'∧(Low (d+1) 0 a'∨Fin (d+1) a')∧Mon a'∧L'.length+a'.length≤L.length+a.length∧a'.length≤a.length∧ ∀ks,
 vgoL W ⟨h27,[.tmp 4, .tmp 5],0⟩ [0,1,6,9,10,11] c27L1 (.blk 2 [0,1,6,9,10]::ks) [(0, .x (.int .i64 q)),(1, .own 0 []),(6, .fz true (pF q)),(9, .own 1 []),(10, .x (.int .i64 d)),(11, .own 2 [])] [.sl na 3 1 (ivs (vs a)), .sl no 22 1 (outT L), .sl 0 3 1 (ivs (vs z))]=
  vgo W ⟨h27,[.tmp 4, .tmp 5],0⟩ ks (VFr.of [(0, .x (.int .i64 q)),(1, .own 0 []),(6, .fz true (pF q)),(9, .own 1 []),(10, .x (.int .i64 d))]) (.sl na' 3 1 (ivs (vs a')):: .sl no 22 1 (outT L')::X):=by
 intro n
 induction n with
 |zero=>
  intro z a L na hl hz h128 hL hS hP hm
  have hz0:z≠[]:=fun e=>by rw[e]at hz;simp at hz;omega
  obtain⟨a',L',na',X,r1,r2,r3,r4,r5,e2⟩:=vg7 (z:=z) (a0:=a0) hd hd2 hz (no:=no) (nz:=0) (na:=na) h128 hL hS hP hm
  have hq:=q_hi (q:=q)
  have hlast:=hl.last
  have hv:=hl.h
  refine⟨a',L',na',[],r1, ?_,r3,r4,r5,fun ks=> ?_⟩
  ·rcases r2 with h|⟨d',v',h1,h2,h3⟩
   ·exact .inl (h.next (by rw[←hz];omega))
   ·exact .inr ⟨d',v',by omega,h2,h3⟩
  ·have e1:=fun b nl=>h18 (b:=b) (nl:=nl) (zs:=vs z) (by rw[fi2];omega)
   simp only[ks8,ef8 hz0]at e1
   have e3:=xt4 (nl:=0) (q:=q) (z:=vs z) (by omega) (by rw[fi2];omega) (oa6 z) hlast
   have e4:=fun ks=>km7 (d:=d) (na:=na') (no:=no) (a:=a') (C:=outT L') ks
   have hzl:=fi2 z
   rw[←e4 ks,sb5 c27L1.eq_def]
   simp(disch:=first|omega|fail) only[push_cast,seval,vrl,if_pos,if_neg,ra9,e1,hzl,←uq1]
   rw[e2]
   simp(disch:=first|omega|fail) only[push_cast,seval,vrl,if_pos,if_neg,e3]
 |succ n IH=>
  intro z a L na hl hz h128 hL hS hP hm
  have hz0:z≠[]:=fun e=>by rw[e]at hz;simp at hz;omega
  obtain⟨a',L',na',X,r1,r2,r3,r4,r5,e2⟩:=vg7 (z:=z) (a0:=a0) hd hd2 hz (no:=no) (nz:=0) (na:=na) h128 hL hS hP hm
  have hq:=q_hi (q:=q)
  obtain⟨hmore,hnx⟩:=hl.more
  have hv:=hl.h
  have hv2:=hnx.h
  have hnl:=l71 (q:=q) z
  rw[hnl]at hv2
  obtain⟨a2,L2,na2,X2,s1,s2,s3,s4,s5,ih⟩:=IH (yv5 z) a' L' na' hnx (by rw[hnl,hz]) (by omega) (by omega) r1 (by rw[show valS q.toNat (vs (yv5 z))=valS q.toNat (vs z)+1 by omega];exact r2) r3
  refine⟨a2,L2,na2,X2,s1,s2,s3,by omega,by omega,fun ks=> ?_⟩
  have e1:=fun b nl=>h18 (b:=b) (nl:=nl) (zs:=vs z) (by rw[fi2];omega)
  simp only[ks8,ef8 hz0]at e1
  have e3:=pm9 (nl:=0) (q:=q) (z:=vs z) (by omega) (by rw[fi2];omega) (oa6 z) hmore
  rw[←mw7]at e3
  have hzl:=fi2 z
  rw[←ih ks,sb5 c27L1.eq_def]
  simp(disch:=first|omega|fail) only[push_cast,seval,vrl,if_pos,if_neg,ra9,e1,hzl,←uq1]
  rw[e2]
  simp(disch:=first|omega|fail) only[push_cast,seval,vrl,if_pos,if_neg,e3,List.getElem?_concat_length,Option.getD_some]
end
end Go.Proofs.Ytoglhlonhmmieaa
namespace Go.Proofs.Ytoglhlonhmmieaa
open Go.Am
end Go.Proofs.Ytoglhlonhmmieaa
namespace Go.Proofs.Ytoglhlonhmmieaa
open Go.Am Go.Vm Go.Alg
set_option maxHeartbeats 4000000
def cmpI(x y:Int):Int:=if x<y then-1 else if y<x then 1 else 0
def cmpE:List Int→List Int→Int
 |x::l,y::m=>if cmpI x y=0 then cmpE l m else cmpI x y
 |_,_=>0
def cmpF(x y:List Int):Int:=if x.length=y.length then cmpE x y else(x.length:Int)-y.length
theorem iy6{x:Int}:o24 W 127 [.x (.int .i64 x)] []=some (.x (.bool false),[],[]):=by
 rw[o10 rfl T127 rfl]
 unfold F127 c127
 simp(disch:=first|omega|fail) only[push_cast,seval,vrl,if_pos,if_neg]
theorem nt7{x y:Int}:o24 W 110 [.x (.int .i64 x), .x (.int .i64 y)] []=some (.x (.int .i64 (cmpI x y)),[],[]):=by
 have e1:=iy6 (x:=x)
 have e2:=iy6 (x:=y)
 unfold cmpI
 rw[o10 rfl T110 rfl]
 unfold F110 c110
 by_cases h:x<y
 ·rw[if_pos h]
  simp(disch:=first|omega|fail) only[push_cast,seval,vrl,if_pos,if_neg,e1,e2,dec_lt h]
 ·rw[if_neg h]
  by_cases h2:y<x
  ·rw[if_pos h2]
   simp(disch:=first|omega|fail) only[push_cast,seval,vrl,if_pos,if_neg,e1,e2,cw6 (Int.not_lt.1 h),dec_lt h2]
  ·rw[if_neg h2]
   simp(disch:=first|omega|fail) only[push_cast,seval,vrl,if_pos,if_neg,e1,e2,cw6 (Int.not_lt.1 h),cw6 (Int.not_lt.1 h2)]
section
variable {b b':Bool} {nl nl':Nat} {x y:List Int}
theorem qp3(hl:x.length≤1000000)(hxy:x.length=y.length): ∀(d i:Nat),i+d=x.length→ ∀ks,
 vgoL W ⟨hNo,[.tmp 4],0⟩ [0,1,9,10,11] c70L0 (.blk 0 [0,1]::ks) [(0, .fz b (.sl nl 0 1 (ivs x))),(1, .fz b' (.sl nl' 0 1 (ivs y))),(9, .fz b (.sl nl 0 1 (ivs x))),(10, .x (.int .i64 x.length)),(11, .x (.int .i64 i))] []=
  if cmpE (x.drop i) (y.drop i)=0 then vgo W ⟨hNo,[.tmp 4],0⟩ ks (VFr.of [(0, .fz b (.sl nl 0 1 (ivs x))),(1, .fz b' (.sl nl' 0 1 (ivs y)))]) []else some (.x (.int .i64 (cmpE (x.drop i) (y.drop i))),[],[])
 |0,i,hi,ks=>by
  rw[oh9 (by omega),oh9 (by omega),cmpE.eq_2 _ _ (by intro _ _ _ _ h;cases h),if_pos rfl,sb5 c70L0.eq_def]
  simp(disch:=first|omega|fail) only[push_cast,seval,vrl,if_pos,if_neg]
 |d+1,i,hi,ks=>by
  have ih:=qp3 hl hxy d (i+1) (by omega) ks
  obtain⟨a,ha⟩:=ge6 (l:=x) (i:=i) (by omega)
  obtain⟨c,hc⟩:=ge6 (l:=y) (i:=i) (by omega)
  have h1:=iat ha
  have h2:=iat hc
  have e1:=nt7 (x:=a) (y:=c)
  rw[i62 ha,i62 hc,cmpE]
  rw[Int.natCast_add,Int.natCast_one]at ih
  have hyl:y.length=x.length:=hxy.symm
  by_cases h:cmpI a c=0
  ·rw[if_pos h,←ih,sb5 c70L0.eq_def]
   rw[h]at e1
   simp(disch:=first|omega|fail) only[push_cast,seval,vrl,if_pos,if_neg,h1,h2,hyl,e1]
  ·rw[if_neg h,if_neg h,sb5 c70L0.eq_def]
   simp(disch:=first|omega|fail) only[push_cast,seval,vrl,if_pos,if_neg,h1,h2,hyl,e1,nb8 h]
theorem wq5(hl:x.length≤1000000)(hxy:x.length=y.length):o24 W 70 [.fz b (.sl nl 0 1 (ivs x)), .fz b' (.sl nl' 0 1 (ivs y))] []=some (.x (.int .i64 (cmpE x y)),[],[]):=by
 have e:=fun ks=>qp3 (b:=b) (b':=b') (nl:=nl) (nl':=nl') hl hxy x.length 0 (by omega) ks
 simp only[List.drop_zero,Int.natCast_zero]at e
 have hyl:y.length=x.length:=hxy.symm
 rw[o10 rfl T70 rfl]
 unfold F70 c70
 simp(disch:=first|omega|fail) only[push_cast,seval,vrl,if_pos,if_neg]
 rw[e]
 by_cases h:cmpE x y=0
 ·rw[if_pos h,h]
  simp(disch:=first|omega|fail) only[push_cast,seval,vrl,if_pos,if_neg,hyl]
 ·rw[if_neg h]
theorem mv5(hx:x.length≤1000000)(hy:y.length≤1000000):o24 W 69 [.fz b (.sl nl 0 1 (ivs x)), .fz b' (.sl nl' 0 1 (ivs y))] []=some (.x (.int .i64 (cmpF x y)),[],[]):=by
 unfold cmpF
 rw[o10 rfl T69 rfl]
 unfold F69 c69
 by_cases h:x.length=y.length
 ·have e1:=fun b nl b' nl'=>wq5 (b:=b) (b':=b') (nl:=nl) (nl':=nl') (x:=x) (y:=y) hx h
  have h2:(x.length:Int)=(y.length:Int):=by omega
  rw[if_pos h]
  simp(disch:=first|omega|fail) only[push_cast,seval,vrl,if_pos,if_neg,mr8 h2,e1]
 ·have h2: ¬(x.length:Int)=(y.length:Int):=by omega
  rw[if_neg h]
  simp(disch:=first|omega|fail) only[push_cast,seval,vrl,if_pos,if_neg,nb8 h2]
end
def fzC(l:List (Nat×List Int)):List Tree:=l.map fun p=> .fz (.sl p.1 0 1 (ivs p.2))
theorem ef7(l:List (Nat×List Int)):(fzC l).length=l.length:=by simp[fzC]
def rowC(l:List (Nat×List Int))(i:Nat):List Int:=(l.getD i (0,[])).2
def flC(l:List (Nat×List Int))(i:Nat):Nat:=(l.getD i (0,[])).1
theorem q33{l:List (Nat×List Int)}{i:Nat}(h:i<l.length):(fzC l)[i]? =some (.fz (.sl (flC l i) 0 1 (ivs (rowC l i)))):=by
 unfold fzC flC rowC
 rw[List.getElem?_map,List.getD_eq_getElem?_getD,List.getElem?_eq_getElem h];rfl
structure SrtC (l:List (Nat×List Int)):Prop where
 len: ∀i,(rowC l i).length≤1000
 ord: ∀i j,i<j→j<l.length→ ¬cmpF (rowC l j) (rowC l i)<0
section
variable {l:List (Nat×List Int)}
theorem hMc:vM 69=[]:=rfl
theorem c75{no:Nat}(hs:SrtC l)(hl:l.length≤1000){a b i j:Nat}(hj:j<l.length)(ks):
 vgoL W ⟨hNo,[],1⟩ [0,1,2,3,8,9] c125L0 (.blk 2 [0,1,2,3,8]::ks) [(0, .own 0 []),(1, .x (.int .i64 a)),(2, .x (.int .i64 b)),(3, .fn 69 []),(8, .x (.int .i64 i)),(9, .x (.int .i64 j))] [.sl no 22 1 (fzC l)]=
  vgo W ⟨hNo,[],1⟩ ks (VFr.of [(0, .own 0 []),(1, .x (.int .i64 a)),(2, .x (.int .i64 b)),(3, .fn 69 []),(8, .x (.int .i64 i))]) [.sl no 22 1 (fzC l)]:=by
 have hlen:=ef7 l
 rw[sb5 c125L0.eq_def]
 by_cases h:a<j
 ·have e0:(j:Int)-1=((j-1:Nat):Int):=by omega
  have l1:=q33 (l:=l) (i:=j) hj
  have l2:=q33 (l:=l) (i:=j-1) (by omega)
  have e1:=fun b nl b' nl'=>mv5 (b:=b) (nl:=nl) (b':=b') (nl':=nl') (x:=rowC l j) (y:=rowC l (j-1)) (by have:=hs.len j;omega) (by have:=hs.len (j-1);omega)
  have hn:=hs.ord (j-1) j (by omega) hj
  generalize rowC l j=r1 at*
  generalize rowC l (j-1)=r2 at*
  generalize flC l (j-1)=f2 at*
  generalize flC l j=f1 at*
  generalize cmpF r1 r2=z at*
  have hj1:j-1<l.length:=by omega
  generalize j-1=j1 at*
  generalize fzC l=C at*
  simp(disch:=first|omega|fail) only[push_cast,seval,vrl,if_pos,if_neg,dec_lt (show(a:Int)<(j:Int) by omega),e0,l1,l2,hlen,e1,hMc,cw6 (Int.not_lt.1 hn)]
 ·generalize fzC l=C at*
  simp(disch:=first|omega|fail) only[push_cast,seval,vrl,if_pos,if_neg]
theorem xg6{no:Nat}(hs:SrtC l)(hl:l.length≤1000){a b:Nat}(hb:b≤l.length): ∀(n i:Nat),i+n=b∨(b≤i∧n=0)→i≤2000→ ∀ks,
 vgoL W ⟨hNo,[],1⟩ [0,1,2,3,8] c125L1 (.blk 0 []::ks) [(0, .own 0 []),(1, .x (.int .i64 a)),(2, .x (.int .i64 b)),(3, .fn 69 []),(8, .x (.int .i64 i))] [.sl no 22 1 (fzC l)]=
  vgo W ⟨hNo,[],1⟩ ks (VFr.of []) [.sl no 22 1 (fzC l)]
 |0,i,hi,h2,ks=>by
  rw[sb5 c125L1.eq_def]
  generalize fzC l=C at*
  simp(disch:=first|omega|fail) only[push_cast,seval,vrl,if_pos,if_neg]
 |n+1,i,hi,h2,ks=>by
  have ih:=xg6 hs hl (no:=no) (a:=a) hb n (i+1) (by omega) (by omega) ks
  have e1:=fun ks=>c75 (no:=no) hs hl (a:=a) (b:=b) (i:=i) (j:=i) (by omega) ks
  rw[Int.natCast_add,Int.natCast_one]at ih
  rw[←ih,sb5 c125L1.eq_def]
  generalize fzC l=C at*
  simp(disch:=first|omega|fail) only[push_cast,seval,vrl,if_pos,if_neg]
  rw[e1]
  simp(disch:=first|omega|fail) only[push_cast,seval,vrl,if_pos,if_neg]
theorem dn5{no:Nat}(hs:SrtC l)(hl:l.length≤1000){a b:Nat}(hb:b≤l.length)(ha:a≤1000):
 o24 W 125 [.own 0 [], .x (.int .i64 a), .x (.int .i64 b), .fn 69 []] [.sl no 22 1 (fzC l)]=some (.tup [],[],[.sl no 22 1 (fzC l)]):=by
 have e:=fun ks=>xg6 (no:=no) hs hl (a:=a) hb (b-(a+1)) (a+1) (by omega) (by omega) ks
 rw[Int.natCast_add,Int.natCast_one]at e
 generalize fzC l=C at*
 rw[o10 rfl T125 rfl]
 unfold F125 c125
 simp(disch:=first|omega|fail) only[push_cast,seval,vrl,if_pos,if_neg]
 rw[e]
 simp(disch:=first|omega|fail) only[push_cast,seval,vrl,if_pos,if_neg]
theorem bx4{s:Nat}(h:s≤400000):IntKind.wrap .u64 (s:Int)=(s:Int)∧(s:Int).fdiv (2^min 1 (IntKind.bits .u64))=((s/2:Nat):Int):=by
 constructor
 ·unfold IntKind.wrap
  simp[IntKind.bits,IntKind.signed]
  omega
 ·rw[show(2:Int)^min 1 (IntKind.bits .u64)=2 by decide,Int.fdiv_eq_ediv_of_nonneg _ (by decide)];omega
theorem a77{no:Nat}(hs:SrtC l)(hl:l.length≤1000){a m:Nat}(ham:a<m): ∀(n j:Nat),j-m≤n→m≤j→j≤l.length→ ∀ks,
 vgoL W ⟨hNo,[],1⟩ [0,1,4,10,11] c126L0 (.blk 0 [0,1,10]::ks) [(0, .own 0 []),(1, .x (.int .i64 a)),(4, .fn 69 []),(10, .x (.int .i64 m)),(11, .x (.int .i64 j))] [.sl no 22 1 (fzC l)]=
  vgo W ⟨hNo,[],1⟩ ks (VFr.of [(0, .own 0 []),(1, .x (.int .i64 a)),(10, .x (.int .i64 m))]) [.sl no 22 1 (fzC l)]
 |0,j,hn,hmj,hj,ks=>by
  rw[sb5 c126L0.eq_def]
  generalize fzC l=C at*
  simp(disch:=first|omega|fail) only[push_cast,seval,vrl,if_pos,if_neg]
 |n+1,j,hn,hmj,hj,ks=>by
  by_cases h:m<j
  ·obtain⟨s,hss⟩: ∃s,s=m+j:=⟨_,rfl⟩
   obtain⟨hh,hhh⟩: ∃hh,hh=s/2:=⟨_,rfl⟩
   obtain⟨u1,u2⟩:=bx4 (s:=s) (by omega)
   have e1:(m:Int)+(j:Int)=(s:Int):=by omega
   rw[←hhh]at u2
   have hlen:=ef7 l
   have l1:=q33 (l:=l) (i:=hh) (by omega)
   have l2:=q33 (l:=l) (i:=a) (by omega)
   have w:=fun b nl b' nl'=>mv5 (b:=b) (nl:=nl) (b':=b') (nl':=nl') (x:=rowC l hh) (y:=rowC l a) (by have:=hs.len hh;omega) (by have:=hs.len a;omega)
   have hnn:=hs.ord a hh (by omega) (by omega)
   have ih:=a77 hs hl (no:=no) ham n hh (by omega) (by omega) (by omega) ks
   have hhl:hh<l.length:=by omega
   have hal:a<l.length:=by omega
   rw[←ih,sb5 c126L0.eq_def]
   generalize rowC l hh=r1 at*
   generalize rowC l a=r2 at*
   generalize flC l hh=f1 at*
   generalize flC l a=f2 at*
   generalize cmpF r1 r2=z at*
   generalize fzC l=C at*
   simp(disch:=first|omega|fail) only[push_cast,seval,vrl,if_pos,if_neg,e1,u1,u2,l1,l2,w,hlen,hMc,cw6 (Int.not_lt.1 hnn)]
  ·rw[sb5 c126L0.eq_def]
   generalize fzC l=C at*
   simp(disch:=first|omega|fail) only[push_cast,seval,vrl,if_pos,if_neg]
theorem go6{no:Nat}(hs:SrtC l)(hl:l.length≤1000){m:Nat}(hm:m<l.length): ∀(n i:Nat),m-i≤n→i≤m→ ∀ks,
 vgoL W ⟨hNo,[],1⟩ [0,2,4,14,15] c126L2 (.blk 4 [0,2,14]::ks) [(0, .own 0 []),(2, .x (.int .i64 m)),(4, .fn 69 []),(14, .x (.int .i64 i)),(15, .x (.int .i64 m))] [.sl no 22 1 (fzC l)]=
  vgo W ⟨hNo,[],1⟩ ks (VFr.of [(0, .own 0 []),(2, .x (.int .i64 m)),(14, .x (.int .i64 m))]) [.sl no 22 1 (fzC l)]
 |0,i,hn,hi,ks=>by
  obtain rfl:i=m:=by omega
  rw[sb5 c126L2.eq_def]
  generalize fzC l=C at*
  simp(disch:=first|omega|fail) only[push_cast,seval,vrl,if_pos,if_neg]
 |n+1,i,hn,hi,ks=>by
  by_cases h:i<m
  ·obtain⟨s,hss⟩: ∃s,s=i+m:=⟨_,rfl⟩
   obtain⟨hh,hhh⟩: ∃hh,hh=s/2:=⟨_,rfl⟩
   obtain⟨u1,u2⟩:=bx4 (s:=s) (by omega)
   have e1:(i:Int)+(m:Int)=(s:Int):=by omega
   rw[←hhh]at u2
   have hlen:=ef7 l
   have l1:=q33 (l:=l) (i:=hh) (by omega)
   have l2:=q33 (l:=l) (i:=m) hm
   have w:=fun b nl b' nl'=>mv5 (b:=b) (nl:=nl) (b':=b') (nl':=nl') (x:=rowC l m) (y:=rowC l hh) (by have:=hs.len m;omega) (by have:=hs.len hh;omega)
   have hnn:=hs.ord hh m (by omega) hm
   have ih:=go6 hs hl (no:=no) hm n (hh+1) (by omega) (by omega) ks
   have hhl:hh<l.length:=by omega
   rw[Int.natCast_add hh,Int.natCast_one]at ih
   rw[←ih,sb5 c126L2.eq_def]
   generalize rowC l hh=r1 at*
   generalize rowC l m=r2 at*
   generalize flC l hh=f1 at*
   generalize flC l m=f2 at*
   generalize cmpF r2 r1=z at*
   generalize fzC l=C at*
   simp(disch:=first|omega|fail) only[push_cast,seval,vrl,if_pos,if_neg,e1,u1,u2,l1,l2,w,hlen,hMc,cw6 (Int.not_lt.1 hnn)]
  ·obtain rfl:i=m:=by omega
   rw[sb5 c126L2.eq_def]
   generalize fzC l=C at*
   simp(disch:=first|omega|fail) only[push_cast,seval,vrl,if_pos,if_neg]
theorem u97{no:Nat}(hs:SrtC l)(hl:l.length≤1000){a m b mid nn p r:Nat}(hr:r≤p)(hp:p≤4000)(hrp:2*r≤p+1): ∀(n i:Nat),r-i≤n→i≤r→p<i+l.length→ ∀ks,
 vgoL W ⟨hNo,[],1⟩ [0,1,2,3,4,18,19,20,21,22] c126L4 (.blk 8 [0,1,2,3,4,18,19,20]::ks) [(0, .own 0 []),(1, .x (.int .i64 a)),(2, .x (.int .i64 m)),(3, .x (.int .i64 b)),(4, .fn 69 []),(18, .x (.int .i64 mid)),(19, .x (.int .i64 nn)),(20, .x (.int .i64 i)),(21, .x (.int .i64 r)),(22, .x (.int .i64 p))] [.sl no 22 1 (fzC l)]=
  vgo W ⟨hNo,[],1⟩ ks (VFr.of [(0, .own 0 []),(1, .x (.int .i64 a)),(2, .x (.int .i64 m)),(3, .x (.int .i64 b)),(4, .fn 69 []),(18, .x (.int .i64 mid)),(19, .x (.int .i64 nn)),(20, .x (.int .i64 r))]) [.sl no 22 1 (fzC l)]
 |0,i,hn,hi,hpi,ks=>by
  obtain rfl:i=r:=by omega
  rw[sb5 c126L4.eq_def]
  generalize fzC l=C at*
  simp(disch:=first|omega|fail) only[push_cast,seval,vrl,if_pos,if_neg]
 |n+1,i,hn,hi,hpi,ks=>by
  by_cases h:i<r
  ·obtain⟨s,hss⟩: ∃s,s=i+r:=⟨_,rfl⟩
   obtain⟨hh,hhh⟩: ∃hh,hh=s/2:=⟨_,rfl⟩
   obtain⟨g,hg⟩: ∃g,g=p-hh:=⟨_,rfl⟩
   obtain⟨u1,u2⟩:=bx4 (s:=s) (by omega)
   have e1:(i:Int)+(r:Int)=(s:Int):=by omega
   have e2:(p:Int)-(hh:Int)=(g:Int):=by omega
   rw[←hhh]at u2
   have hlen:=ef7 l
   have l1:=q33 (l:=l) (i:=hh) (by omega)
   have l2:=q33 (l:=l) (i:=g) (by omega)
   have w:=fun b nl b' nl'=>mv5 (b:=b) (nl:=nl) (b':=b') (nl':=nl') (x:=rowC l g) (y:=rowC l hh) (by have:=hs.len g;omega) (by have:=hs.len hh;omega)
   have hnn:=hs.ord hh g (by omega) (by omega)
   have ih:=u97 hs hl (no:=no) (a:=a) (m:=m) (b:=b) (mid:=mid) (nn:=nn) hr hp hrp n (hh+1) (by omega) (by omega) (by omega) ks
   have hhl:hh<l.length:=by omega
   have hgl:g<l.length:=by omega
   rw[Int.natCast_add hh,Int.natCast_one]at ih
   rw[←ih,sb5 c126L4.eq_def]
   generalize rowC l hh=r1 at*
   generalize rowC l g=r2 at*
   generalize flC l hh=f1 at*
   generalize flC l g=f2 at*
   generalize cmpF r2 r1=z at*
   generalize fzC l=C at*
   simp(disch:=first|omega|fail) only[push_cast,seval,vrl,if_pos,if_neg,e1,e2,u1,u2,l1,l2,w,hlen,hMc,cw6 (Int.not_lt.1 hnn)]
  ·obtain rfl:i=r:=by omega
   rw[sb5 c126L4.eq_def]
   generalize fzC l=C at*
   simp(disch:=first|omega|fail) only[push_cast,seval,vrl,if_pos,if_neg]
end
end Go.Proofs.Ytoglhlonhmmieaa
