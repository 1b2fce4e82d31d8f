/-
  The fields of the table are fields. No condition. What is known of fields in the first machine, for the second. No condition. What rows span; their one form. No condition. Rows one by one into what th ..
-/
import Derived.Test.YtmhbpecdpiapgaaK6
import Derived.Test.YtmhbpecdpiapgaaKAD
import Derived.Test.YtmhbpecdpiapgaaK5
set_option linter.unusedVariables false
set_option linter.unusedSimpArgs false
set_option linter.unusedSectionVars false
set_option maxRecDepth 100000
namespace Go.Proofs.Ytmhbpecdpiapgaa
open Go.Am Go.Alg
theorem ej5{p d T:Int}(h0:0≤d)(h1:d<p):(d+p*T)%p=d∧(d+p*T)/p=T:=by
 constructor
 ·rw[Int.add_mul_emod_self_left,Int.emod_eq_of_lt h0 h1]
 ·rw[Int.add_mul_ediv_left _ _ (by omega),Int.ediv_eq_zero_of_lt h0 h1,Int.zero_add]
theorem t47(p:Int): ∀(n:Nat) (a b:Int),addN p n a b=addN p n b a
 |0,_,_=>rfl
 |n+1,a,b=>by rw[addN,addN,t47 p n,Int.add_comm (a%p)]
theorem mk9{p:Int}(hp:0<p): ∀(n:Nat) (a b c:Int),addN p n (addN p n a b) c=addN p n a (addN p n b c)
 |0,_,_,_=>rfl
 |n+1,a,b,c=>by
  have d1:=ej5 (T:=addN p n (a/p) (b/p)) (Int.emod_nonneg (a%p+b%p) (show p≠0 by omega)) (Int.emod_lt_of_pos (a%p+b%p) hp)
  have d2:=ej5 (T:=addN p n (b/p) (c/p)) (Int.emod_nonneg (b%p+c%p) (show p≠0 by omega)) (Int.emod_lt_of_pos (b%p+c%p) hp)
  have e0: ∀x y:Int,addN p (n+1) x y=(x%p+y%p)%p+p*addN p n (x/p) (y/p):=fun _ _=>rfl
  rw[e0 (addN p (n+1) a b) c,e0 a (addN p (n+1) b c),e0 a b,e0 b c,d1.1,d1.2,d2.1,d2.2,mk9 hp n]
  simp only[Int.emod_add_emod,Int.add_emod_emod,Int.add_assoc]
theorem ns9{p:Int}(hp:0<p): ∀(n:Nat) (a:Int),0≤a→a<p^n→addN p n a 0=a
 |0,a,h0,h1=>by rw[Int.pow_zero]at h1;show(0:Int)=a;omega
 |n+1,a,h0,h1=>by
  rw[Int.pow_succ]at h1
  rw[addN,Int.zero_emod,Int.zero_ediv,Int.add_zero,Int.emod_emod,ns9 hp n (a/p) (Int.ediv_nonneg h0 (by omega)) (Int.ediv_lt_of_lt_mul hp h1)]
  exact Int.emod_add_mul_ediv a p
theorem ju5{p:Int}(hp:0<p): ∀(n:Nat) (a:Int),addN p n a (negN p n a)=0
 |0,_=>rfl
 |n+1,a=>by
  have d1:=ej5 (T:=negN p n (a/p)) (Int.emod_nonneg (p-a%p) (show p≠0 by omega)) (Int.emod_lt_of_pos (p-a%p) hp)
  have e0: ∀x y:Int,addN p (n+1) x y=(x%p+y%p)%p+p*addN p n (x/p) (y/p):=fun _ _=>rfl
  have e1:negN p (n+1) a=(p-a%p)%p+p*negN p n (a/p):=rfl
  rw[e0,e1,d1.1,d1.2,ju5 hp n,Int.add_emod_emod,show a%p+(p-a%p)=p by omega,Int.emod_self]
  omega
section
variable {q p g:Int} {m:Nat} {mod:List Int}
theorem c67(hn:fldN q.toNat=some (p,m,g,mod)){b c:Int}(hb:0≤b∧b<q)(hc:0≤c∧c<q):fmul q g (addN p m b c)=addN p m (fmul q g b) (fmul q g c):=by
 obtain⟨h2,h64⟩:=ug0 hn
 have h:=List.all_eq_true.1 hm8 (q.toNat-2) (List.mem_range.2 (by omega))
 rw[show q.toNat-2+2=q.toNat by omega]at h
 unfold ud5 at h
 rw[hn]at h
 simp only[List.all_eq_true,List.mem_range,decide_eq_true_eq]at h
 have:=h b.toNat (by omega) c.toNat (by omega)
 rwa [show((q.toNat:Nat):Int)=q by omega,show((b.toNat:Nat):Int)=b by omega,show((c.toNat:Nat):Int)=c by omega]at this
end
class IsFld (q:Int):Prop where
 ok: ∃p m g mod,fldN q.toNat=some (p,m,g,mod)
structure El (q:Int) where
 v:Int
 lo:0≤v
 hi:v<q
theorem El.ext'{q:Int}{a b:El q}(h:a.v=b.v):a=b:=by
 obtain⟨a,h1,h2⟩:=a
 obtain⟨b,h3,h4⟩:=b
 cases h;rfl
instance {q:Int}:DecidableEq (El q):=fun a b=>if h:a.v=b.v then .isTrue (El.ext' h)else .isFalse fun e=>h (e▸rfl)
theorem jj8{q p g:Int}{m:Nat}{mod:List Int}(hn:fldN q.toNat=some (p,m,g,mod)):FOk q p m mod∧Tabs q g∧1≤g∧g<q:=by
 obtain⟨h2,h64⟩:=ug0 hn
 have h:=hi9 hn
 rw[show((q.toNat:Nat):Int)=q by omega]at h
 exact⟨h.1,cb4 hn,h.2.2.1,h.2.2.2.1⟩
theorem El.ok{q:Int}(a:El q):fok q a.v=true:=iy2 ⟨a.lo,a.hi⟩
theorem do9{q p g:Int}{m:Nat}{mod:List Int}(hn:fldN q.toNat=some (p,m,g,mod))(a b:El q):fadd q a.v b.v=addN p m a.v b.v:=by
 rw[fadd,a.ok,b.ok,(y65 hn).1,(y65 hn).2];rfl
theorem pu7{q p g:Int}{m:Nat}{mod:List Int}(hn:fldN q.toNat=some (p,m,g,mod))(a:El q):fneg q a.v=negN p m a.v:=by
 rw[fneg,a.ok,(y65 hn).1,(y65 hn).2];rfl
section
variable {q:Int} [hq:IsFld q]
theorem aw0:2≤q:=by
 obtain⟨p,m,g,mod,hn⟩:=hq.ok
 exact(jj8 hn).1.q2
theorem wg2(a b:El q):0≤fadd q a.v b.v∧fadd q a.v b.v<q:=by
 obtain⟨p,m,g,mod,hn⟩:=hq.ok
 have hf:=(jj8 hn).1
 have:=hf.p2
 have hb:=kq3 (p:=p) (by omega) m a.v b.v
 rw[hf.pm]at hb
 rw[do9 hn];exact hb
theorem ca9(a:El q):0≤fneg q a.v∧fneg q a.v<q:=by
 obtain⟨p,m,g,mod,hn⟩:=hq.ok
 have hf:=(jj8 hn).1
 have:=hf.p2
 have hb:=ul1 (p:=p) (by omega) m a.v
 rw[hf.pm]at hb
 rw[pu7 hn];exact hb
theorem jo8(a b:El q):0≤fmul q a.v b.v∧fmul q a.v b.v<q:=by
 obtain⟨p,m,g,mod,hn⟩:=hq.ok
 obtain⟨hf,t,_⟩:=jj8 hn
 have h2:=hf.q2
 rw[fmul,a.ok,b.ok]
 cases h0:(a.v==0)||(b.v==0)with
 |true=>exact⟨Int.le_refl _,by show(0:Int)<q;omega⟩
 |false=>
  have:=zd3 t h2 (flog q a.v+flog q b.v)
  exact⟨by show 0≤fexp q _;omega,this.2.1⟩
theorem bh9(a:El q)(h:a.v≠0):0≤finv q a.v∧finv q a.v<q:=by
 obtain⟨p,m,g,mod,hn⟩:=hq.ok
 obtain⟨hf,t,_⟩:=jj8 hn
 have:=(d12 t hf.q2 (a:=a.v) ⟨by have:=a.lo;omega,a.hi⟩).1
 exact⟨by omega,this.2⟩
instance :Zero (El q):=⟨⟨0,Int.le_refl _,by have:=aw0 (q:=q);omega⟩⟩
instance :One (El q):=⟨⟨1,by omega,by have:=aw0 (q:=q);omega⟩⟩
instance :Add (El q):=⟨fun a b=>⟨fadd q a.v b.v,(wg2 a b).1,(wg2 a b).2⟩⟩
instance :Mul (El q):=⟨fun a b=>⟨fmul q a.v b.v,(jo8 a b).1,(jo8 a b).2⟩⟩
instance :Neg (El q):=⟨fun a=>⟨fneg q a.v,(ca9 a).1,(ca9 a).2⟩⟩
theorem hc8:(0:El q).v=0:=rfl
theorem wh3:(1:El q).v=1:=rfl
theorem on0(a b:El q):(a+b).v=fadd q a.v b.v:=rfl
theorem ym6(a b:El q):(a*b).v=fmul q a.v b.v:=rfl
theorem tg5(a:El q):(-a).v=fneg q a.v:=rfl
theorem r57{a:El q}:a.v=0↔a=0:=⟨fun h=>El.ext' h,fun h=>by rw[h];rfl⟩
theorem a59(a b:El q):a*b=b*a:=El.ext' (by
 rw[ym6,ym6,fmul,fmul,a.ok,b.ok,Bool.or_comm,Int.add_comm])
theorem qc3(a:El q):a*0=0:=El.ext' (by
 rw[ym6,fmul,a.ok,(0:El q).ok,hc8,show((0:Int)==0)=true from rfl,Bool.or_true];rfl)
theorem du6(a:El q):a*1=a:=El.ext' (by
 obtain⟨p,m,g,mod,hn⟩:=hq.ok
 obtain⟨hf,t,_⟩:=jj8 hn
 have h2:=hf.q2
 rw[ym6,wh3]
 by_cases h0:a.v=0
 ·rw[fmul,a.ok,show fok q 1=true from(1:El q).ok,h0];rfl
 ·have ha:1≤a.v∧a.v<q:=⟨by have:=a.lo;omega,a.hi⟩
  have h1:=(t.er 0 (by omega) (by omega)).2.2
  rw[t.e0]at h1
  have h3:=t.lr a.v ha.1 ha.2
  rw[js7 t ha ⟨by omega,by omega⟩,h1,Int.add_zero,Int.emod_eq_of_lt h3.1 h3.2.1,h3.2.2])
theorem wj9(a b c:El q):a*b*c=a*(b*c):=by
 by_cases ha:a=0
 ·rw[ha,a59 0 b,qc3,a59 0 c,qc3,a59 0,qc3]
 by_cases hb:b=0
 ·rw[hb,qc3,a59 0 c,qc3,qc3]
 by_cases hc:c=0
 ·rw[hc,qc3,qc3,qc3]
 refine El.ext' ?_
 obtain⟨p,m,g,mod,hn⟩:=hq.ok
 obtain⟨hf,t,_⟩:=jj8 hn
 have h2:=hf.q2
 have ne: ∀x:El q,x≠0→1≤x.v∧x.v<q:=fun x hx=>⟨by have:=x.lo;have:x.v≠0:=fun h=>hx (r57.1 h);omega,x.hi⟩
 have h1:=zd3 t h2 (flog q a.v+flog q b.v)
 have h3:=zd3 t h2 (flog q b.v+flog q c.v)
 rw[ym6,ym6,ym6,ym6,js7 t (ne a ha) (ne b hb),js7 t (ne b hb) (ne c hc),js7 t ⟨h1.1,h1.2.1⟩ (ne c hc),js7 t (ne a ha) ⟨h3.1,h3.2.1⟩,h1.2.2,h3.2.2,Int.emod_add_emod,Int.add_emod_emod,Int.add_assoc]
theorem sd1(a b c:El q):a*(b+c)=a*b+a*c:=by
 obtain⟨p,m,g,mod,hn⟩:=hq.ok
 obtain⟨hf,t,hg1,hg2⟩:=jj8 hn
 have h2:=hf.q2
 have hG: ∀x y:El q,(⟨g,by omega,hg2⟩:El q)*(x+y)=⟨g,by omega,hg2⟩*x+⟨g,by omega,hg2⟩*y:=fun x y=>El.ext' (by
  rw[ym6,on0,do9 hn,on0,do9 hn]
  exact c67 hn ⟨x.lo,x.hi⟩ ⟨y.lo,y.hi⟩)
 have hP: ∀(k:Nat) (x y:El q) (h0:0≤fexp q ((k:Int)%(q-1))) (h1:fexp q ((k:Int)%(q-1))<q),(⟨_,h0,h1⟩:El q)*(x+y)=⟨_,h0,h1⟩*x+⟨_,h0,h1⟩*y:=by
  intro k
  induction k with
  |zero=>
   intro x y h0 h1
   have he:(⟨_,h0,h1⟩:El q)=1:=El.ext' (by show fexp q (((0:Nat):Int)%(q-1))=1;rw[Int.natCast_zero,Int.zero_emod];exact t.e0)
   rw[he,a59,du6,a59 1 x,du6,a59 1 y,du6]
  |succ k ih=>
   intro x y h0 h1
   have h3:=zd3 t h2 (k:Int)
   have he:(⟨_,h0,h1⟩:El q)=⟨fexp q ((k:Int)%(q-1)),by omega,h3.2.1⟩*⟨g,by omega,hg2⟩:=El.ext' (by
    show fexp q (((k+1:Nat):Int)%(q-1))=fmul q _ g
    rw[np3 t h2 ⟨hg1,hg2⟩,Int.natCast_add,Int.natCast_one])
   rw[he,wj9,hG,ih,wj9,wj9]
 by_cases ha:a=0
 ·rw[ha,a59,qc3,a59 0 b,qc3,a59 0 c,qc3]
  refine El.ext' ?_
  have:=hf.p2
  rw[on0,do9 hn]
  exact(ns9 (by omega) m 0 (Int.le_refl _) (Int.pow_pos (by omega))).symm
 ·have hav:a.v≠0:=fun h=>ha (r57.1 h)
  have h3:=t.lr a.v (by have:=a.lo;omega) a.hi
  have he:fexp q (((flog q a.v).toNat:Int)%(q-1))=a.v:=by
   rw[show(((flog q a.v).toNat:Nat):Int)=flog q a.v by omega,Int.emod_eq_of_lt h3.1 h3.2.1,h3.2.2]
  have h4:=hP (flog q a.v).toNat b c (by rw[he];exact a.lo) (by rw[he];exact a.hi)
  have h5:(⟨fexp q (((flog q a.v).toNat:Int)%(q-1)),by rw[he];exact a.lo,by rw[he];exact a.hi⟩:El q)=a:=El.ext' he
  rw[h5]at h4
  exact h4
instance elFK:FK (El q) where
 inv:=fun a=>if h:a.v=0 then 0 else⟨finv q a.v,(bh9 a h).1,(bh9 a h).2⟩
 deq:=inferInstance
 add_assoc:=fun a b c=>El.ext' (by
  obtain⟨p,m,g,mod,hn⟩:=hq.ok
  have hf:=(jj8 hn).1
  have:=hf.p2
  rw[on0 (a+b) c,on0 a (b+c),do9 hn (a+b) c,do9 hn a (b+c),on0 a b,on0 b c,do9 hn a b,do9 hn b c,mk9 (by omega)])
 add_comm:=fun a b=>El.ext' (by
  obtain⟨p,m,g,mod,hn⟩:=hq.ok
  rw[on0,on0,do9 hn,do9 hn,t47])
 add_zero:=fun a=>El.ext' (by
  obtain⟨p,m,g,mod,hn⟩:=hq.ok
  have hf:=(jj8 hn).1
  have:=hf.p2
  rw[on0,do9 hn,hc8]
  exact ns9 (by omega) m a.v a.lo (by rw[hf.pm];exact a.hi))
 add_neg:=fun a=>El.ext' (by
  obtain⟨p,m,g,mod,hn⟩:=hq.ok
  have hf:=(jj8 hn).1
  have:=hf.p2
  rw[on0,do9 hn,tg5,pu7 hn]
  exact ju5 (by omega) m a.v)
 mul_assoc:=wj9
 mul_comm:=a59
 mul_one:=du6
 mul_add:=sd1
 mul_inv:=fun a ha=>El.ext' (by
  have h:a.v≠0:=fun h=>ha (r57.1 h)
  obtain⟨p,m,g,mod,hn⟩:=hq.ok
  obtain⟨hf,t,_⟩:=jj8 hn
  rw[dif_neg h]
  exact(d12 t hf.q2 (a:=a.v) ⟨by have:=a.lo;omega,a.hi⟩).2)
 zero_ne:=fun h=>by
  have:=congrArg El.v h
  rw[hc8,wh3]at this
  omega
theorem rl7{a:El q}(h:a≠0):(FK.inv a).v=finv q a.v:=by
 show(if h:a.v=0 then(0:El q)else _).v=_
 rw[dif_neg fun e=>h (r57.1 e)]
theorem bq9(a b:El q):(a-b).v=fsub q a.v b.v:=rfl
end
def vs{q:Int}(l:List (El q)):List Int:=l.map El.v
def ge{K:Type} [FK K](l:List K)(i:Nat):K:=l.getD i 0
section
variable {q:Int}
theorem fi2(l:List (El q)):(vs l).length=l.length:=by simp[vs]
theorem rp2:vs ([]:List (El q))=[]:=rfl
theorem e55(a:El q)(l:List (El q)):vs (a::l)=a.v::vs l:=rfl
theorem gq8(l l':List (El q)):vs (l++l')=vs l++vs l':=by simp[vs]
theorem g52(l:List (El q))(i:Nat)(a:El q):(vs l).set i a.v=vs (l.set i a):=by unfold vs;rw[List.map_set]
theorem qj2(n:Nat)(a:El q):List.replicate n a.v=vs (List.replicate n a):=by unfold vs;rw[List.map_replicate]
theorem qa5: ∀{l l':List (El q)},vs l=vs l'→l=l'
 | [],[],_=>rfl
 | [],_::_,h=>by cases h
 |_::_,[],h=>by cases h
 |a::l,b::l',h=>by
  rw[e55,e55,List.cons.injEq]at h
  rw[El.ext' h.1,qa5 h.2]
theorem n39: ∀{l:List Int},(∀z∈l,fok q z=true)→ ∃a:List (El q),l=vs a
 | [],_=>⟨[],rfl⟩
 |z::l,h=>by
  obtain⟨a,ha⟩:=n39 (l:=l) fun z hz=>h z (by simp[hz])
  have hz:=gc0.1 (h z (by simp))
  exact⟨⟨z,hz.1,hz.2⟩::a,by rw[e55,←ha]⟩
theorem v86 [IsFld q](l:List (El q))(i:Nat):gi (vs l) i=(ge l i).v:=by
 unfold gi ge vs
 rw[Int.toNat_natCast,List.getD_eq_getElem?_getD,List.getD_eq_getElem?_getD,List.getElem?_map]
 cases l[i]? <;>rfl
end
end Go.Proofs.Ytmhbpecdpiapgaa
namespace Go.Proofs.Ytmhbpecdpiapgaa
open Go.Am Go.Vm Go.Alg
theorem d40{zs:List Int}{i:Nat}(hi:i<zs.length):(ints zs)[i]? =some (.int .i64 (gi zs (i:Int))):=by
 have:=c13 (zs:=zs) (i:=(i:Int)) (by omega) (by omega)
 rwa [Int.toNat_natCast]at this
theorem zj7{h:H}{Z:Nat→Prop}{zs:List Int}{l:List Value}:RdL h Z (ivs zs) l↔l=ints zs:=by
 induction zs generalizing l with
 |nil=>exact⟨fun hr=>by rw[show ivs []=[]from rfl,RdL]at hr;exact hr,fun e=>by subst e;rw[show ivs []=[]from rfl,RdL];rfl⟩
 |cons z zs ih=>
  rw[show ivs (z::zs)= .v (.int .i64 z)::ivs zs from rfl,RdL]
  constructor
  ·rintro⟨w,l',rfl,h1,h2⟩
   rw[Rd]at h1
   rw[h1,ih.1 h2];rfl
  ·rintro rfl
   exact⟨_,_,rfl,by rw[Rd],ih.2 rfl⟩
theorem ex4{h:H}{Z:Nat→Prop}{zs:List Int}{l:List Value}:ExL h Z (ivs zs) l↔l=ints zs:=by
 induction zs generalizing l with
 |nil=>exact⟨fun hr=>by rw[show ivs []=[]from rfl,ExL]at hr;exact hr,fun e=>by subst e;rw[show ivs []=[]from rfl,ExL];rfl⟩
 |cons z zs ih=>
  rw[show ivs (z::zs)= .v (.int .i64 z)::ivs zs from rfl,ExL]
  constructor
  ·rintro⟨w,l',rfl,h1,h2⟩
   rw[Ex]at h1
   rw[h1,ih.1 h2];rfl
  ·rintro rfl
   exact⟨_,_,rfl,by rw[Ex],ih.2 rfl⟩
theorem fw0{h:H}{Z:Nat→Prop}{nl e:Nat}{zs:List Int}{w:Value}(hr:Rd h Z (.sl nl e 1 (ivs zs)) w): ∃sa c,w= .slice sa zs.length c∧RdI h sa c zs:=by
 rw[Rd]at hr
 rcases hr with⟨h0,_,_,rfl⟩|⟨o,off,n,c,r,rfl,h1,h2,h3,h4,h5,h6,h7,h8⟩
 ·have:zs=[]:=by cases zs with
   |nil=>rfl
   |cons=>cases h0
  subst this
  exact⟨none,0,rfl, .nil⟩
 ·rw[gf1,Nat.mul_one]at h5
  subst h5
  have h9:=zj7.1 h8
  rw[gf1]at h9
  refine⟨_,c,rfl, .inr ⟨h6,o,off,r,rfl,h2,h3,fun i h0 hi=> ?_⟩⟩
  have h10:=c13 h0 hi
  rw[←h9,List.getElem?_take,if_pos (by omega),List.getElem?_drop]at h10
  exact h10
theorem pd9{h:H}{Z:Nat→Prop}{e:Nat}{zs:List Int}{sa:Option Addr}{c:Nat}(hr:RdI h sa c zs)(hz: ∀o,sa.map (·.block)=some o→Z o):Rd h Z (.sl 2 e 1 (ivs zs)) (.slice sa zs.length c):=by
 rw[Rd]
 rcases hr with⟨rfl,rfl,rfl⟩|⟨h1,o,off,r,rfl,h2,h3,h4⟩
 ·exact .inl ⟨rfl,by decide,by decide,rfl⟩
 ·refine .inr ⟨o,off,_,c,r,rfl,hz o rfl,h2,h3,by decide,by rw[gf1,Nat.mul_one],h1,fun h=>(by cases h),zj7.2 ?_⟩
  rw[gf1]
  refine List.ext_getElem? fun i=> ?_
  by_cases hi:i<zs.length
  ·rw[d40 hi,List.getElem?_take,if_pos hi,List.getElem?_drop]
   have:=h4 (i:Int) (by omega) (by omega)
   rwa [Int.toNat_natCast]at this
  ·rw[List.getElem?_eq_none (by rw[List.length_take];omega),List.getElem?_eq_none (by rw[iq5];omega)]
def lvs(nl:Nat)(m:List (List Int)):List Tree:=m.map fun l=> .sl nl 0 1 (ivs l)
theorem nb9(nl:Nat)(m:List (List Int)):(lvs nl m).length=m.length:=by simp[lvs]
theorem li3{nl:Nat}{m:List (List Int)}{i:Nat}{l:List Int}(h:m[i]? =some l):(lvs nl m)[i]? =some (.sl nl 0 1 (ivs l)):=by
 unfold lvs;rw[List.getElem?_map,h];rfl
def allZ(h:H):Nat→Prop:=fun o=>o<h.length
theorem bh6(h:H):Inv h [] (allZ h) (allZ h):=⟨by rw[okL];trivial,fun x=>by simp[fpL],fun o ho=>by simp[fpL]at ho,fun o ho=>by simp[fpL]at ho,fun o ho=>ho,fun o ho=>ho⟩
theorem vlaw{W:VW}(hP: ∀f p vs C r,W.P f=some p→p vs C=some r→VOK W.T f vs C r){h:H}{f:FuncId}{xs0:List AV}{ws:List Value}(hv:VRL h [] (allZ h) (allZ h) xs0 ws){b:Bool}(e:o24 W f xs0 []=some (.x (.bool b),[],[])): ∃h',call W.T f ws h=some (.bool b,h'):=by
 obtain⟨w,h',K,S,Z',Zp',h1,P⟩:=lw9 hP e h [] _ _ ws (bh6 h) rfl hv fun k hk=>by cases hk
 have:=P.v
 rw[Vm.VR]at this
 subst this
 exact⟨h',h1⟩
theorem sk2{h h':H}{Z Zp:Nat→Prop}(i:Inv h [] Z Zp)(hp:h<+:h')(v:Value):Post h [] Zp 0 (.x v,[],[]) v h' [] [] Z Zp:=by
 refine⟨rfl,rfl,⟨by rw[List.nil_append,okL];trivial,fun x=>by simp[fpL],fun o ho=>by simp[fpL]at ho,fun o ho=>by simp[fpL]at ho,fun o ho=> ?_,i.zp⟩,⟨hp.length_le,fun o ho _=>cb1 hp ho,fun o ho=>by simp[fpL]at ho,fun o ho=>ho,fun o ho=> .inl ho⟩,by rw[Vm.VR],rfl,fun i a k h1=>by simp at h1⟩
 have:=i.zlt o ho;have:=hp.length_le;omega
def pFt(q p:Int)(m:Nat)(g:Int)(mod:List Int):Tree:= .ex (.pt 173 [.v (.int .i64 q), .v (.int .i64 p), .v (.int .i64 m), .fz (.sl 2 0 1 (ivs mod)), .v (.int .i64 g), .sl 0 3 1 (ivs (tabs q.toNat).1), .sl 0 3 1 (ivs (tabs q.toNat).2)])
def pF(q:Int):Tree:=match fldN q.toNat with
 |some (p,m,g,mod)=>pFt q p m g mod
 |none=> .junk
def bc2:Tree→Int
 | .ex (.pt _ (.v (.int .i64 q)::_))=>q
 |_=>0
theorem yz0{q:Int} [h:IsFld q]:bc2 (pF q)=q:=by
 obtain⟨p,m,g,mod,hn⟩:=h.ok
 unfold pF;rw[hn];rfl
theorem ki3{q p g:Int}{m:Nat}{mod:List Int}(hn:fldN q.toNat=some (p,m,g,mod)):(tabs q.toNat).1.length=(q-1).toNat∧(tabs q.toNat).2.length=q.toNat:=by
 obtain⟨h2,h64⟩:=ug0 hn
 have ht:=(cb4 hn).tab
 rw[ht]
 constructor<;>simp
theorem nx2{h:H}{Z:Nat→Prop}{q p g:Int}{m:Nat}{mod:List Int}(hn:fldN q.toNat=some (p,m,g,mod)){w:Value}(hr:Rd h Z (pF q) w): ∃F E L om fm cm,w= .pointer (some ⟨F,0,none⟩)∧PUse h F q p m g mod E L om fm cm:=by
 obtain⟨h2,h64⟩:=ug0 hn
 have ht:=(cb4 hn).tab
 obtain⟨l1,l2⟩:=ki3 hn
 unfold pF at hr
 rw[hn]at hr
 simp only[pFt]at hr
 rw[Rd,Ex]at hr
 obtain⟨F,r,rfl,h1,h3,h4,h5,h6,h7⟩:=hr
 rw[ExL]at h7
 obtain⟨w0,c0,e0,k0,h7⟩:=h7
 rw[ExL]at h7
 obtain⟨w1,c1,e1,k1,h7⟩:=h7
 rw[ExL]at h7
 obtain⟨w2,c2,e2,k2,h7⟩:=h7
 rw[ExL]at h7
 obtain⟨w3,c3,e3,k3,h7⟩:=h7
 rw[ExL]at h7
 obtain⟨w4,c4,e4,k4,h7⟩:=h7
 rw[ExL]at h7
 obtain⟨w5,c5,e5,k5,h7⟩:=h7
 rw[ExL]at h7
 obtain⟨w6,c6,e6,k6,h7⟩:=h7
 unfold Ex at k0 k1 k2 k3 k4 k5 k6
 subst e6 e5 e4 e3 e2 e1
 obtain⟨sa,cm,rfl,rm⟩:=fw0 k3
 obtain⟨E,nE,rE,rfl,_,hE,_,_,_,_,nE1,_,xE⟩:=k5
 obtain⟨L,nL,rL,rfl,_,hL,_,_,_,_,nL1,_,xL⟩:=k6
 rw[ex4]at xE xL
 rw[gf1,Nat.mul_one,l1]at nE1
 rw[gf1,Nat.mul_one,l2]at nL1
 subst nE1 nL1 k0 k1 k2 k4
 have hml:=(hi9 hn).1.ml
 have hm1:=(hi9 hn).1.m1
 obtain⟨om,fm,rfl⟩: ∃om fm,sa=some ⟨om,fm,none⟩:=by
  rcases rm with⟨_,_,h0⟩|⟨_,o,off,r,h0,_⟩
  ·rw[h0]at hml;simp at hml
  ·exact⟨o,off,h0⟩
 have cell: ∀{i:Nat} {v:Value},r.cells[i]? =some v→h.ld1 F i=some v:=fun{i v} hi=>by rw[ng2 h3];exact hi
 refine⟨F,E,L,om,fm,cm,rfl,by omega,by omega,cell (by rw[e0];rfl),cell (by rw[e0];rfl),cell (by rw[e0];rfl),cell (by rw[e0];rfl),cell (by rw[e0];rfl),cell (by rw[e0];rfl),cell (by rw[e0];rfl),fun i h0 hi=> ?_,fun a h0 ha=> ?_,rm⟩
 ·rw[ng2 hE,xE,c13 h0 (by rw[l1];omega)]
  congr 2
  rw[ht]
  unfold gi
  rw[List.getD_eq_getElem?_getD,List.getElem?_map,List.getElem?_range (by omega)]
  show fexp q ((i.toNat:Nat):Int)=_
  rw[show((i.toNat:Nat):Int)=i by omega]
 ·rw[ng2 hL,xL,c13 h0 (by rw[l2];omega)]
  congr 2
  rw[ht]
  unfold gi
  rw[List.getD_eq_getElem?_getD,List.getElem?_map,List.getElem?_range (by omega)]
  show flog q ((a.toNat:Nat):Int)=_
  rw[show((a.toNat:Nat):Int)=a by omega]
open Classical in
noncomputable def pOne (g:Int→Int→Value):List AV→Rts→Option VRes
 | [.fz b t, .x (.int .i64 a)],[]=>if IsFld (bc2 t)∧t=pF (bc2 t)then some (.x (g (bc2 t) a),[],[])else none
 |_,_=>none
open Classical in
noncomputable def pTwo (g:Int→Int→Int→Value):List AV→Rts→Option VRes
 | [.fz b t, .x (.int .i64 a), .x (.int .i64 a')],[]=>if IsFld (bc2 t)∧t=pF (bc2 t)then some (.x (g (bc2 t) a a'),[],[])else none
 |_,_=>none
theorem l79{g:Int→Int→Value}{q:Int} [h:IsFld q]{b:Bool}{a:Int}:pOne g [.fz b (pF q), .x (.int .i64 a)] []=some (.x (g q a),[],[]):=by
 unfold pOne;simp only[];rw[if_pos (by rw[yz0];exact⟨h,rfl⟩),yz0]
theorem pu4{g:Int→Int→Int→Value}{q:Int} [h:IsFld q]{b:Bool}{a a':Int}:pTwo g [.fz b (pF q), .x (.int .i64 a), .x (.int .i64 a')] []=some (.x (g q a a'),[],[]):=by
 unfold pTwo;simp only[];rw[if_pos (by rw[yz0];exact⟨h,rfl⟩),yz0]
abbrev r43(f:FuncId)(xs:List Value)(g:Int→Value):Prop:= ∀(h:H) (F:Nat) (q p:Int) (m:Nat) (ge:Int) (mod:List Int) (E L om fm cm:Nat),fldN q.toNat=some (p,m,ge,mod)→PUse h F q p m ge mod E L om fm cm→call T f (.pointer (some ⟨F,0,none⟩)::xs) h=some (g q,h)
theorem nh2{f:FuncId}{b:Bool}{t:Tree}{xs:List Value}{g:Int→Value}(H:r43 f xs g)(hf:IsFld (bc2 t))(ht:t=pF (bc2 t)):VOK T f (.fz b t::xs.map AV.x) [] (.x (g (bc2 t)),[],[]):=by
 intro h Ac Z Zp ws i hC hv hk
 obtain rfl:Ac=[]:=by cases Ac with
  |nil=>rfl
  |cons=>cases hC
 rw[Vm.VRL]at hv
 obtain⟨w,ws',rfl,h1,h2⟩:=hv
 rw[Vm.VR,ht]at h1
 have hxs:ws'=xs:=by
  clear H hk hC i h1
  induction xs generalizing ws' with
  |nil=>rw[List.map_nil,VRL]at h2;exact h2
  |cons x xs ih=>
   rw[List.map_cons,VRL]at h2
   obtain⟨w',ws'',rfl,k1,k2⟩:=h2
   rw[Vm.VR]at k1
   rw[k1,ih _ k2]
 subst hxs
 obtain⟨p,m,ge,mod,hn⟩:=hf.ok
 obtain⟨F,E,L,om,fm,cm,rfl,u⟩:=nx2 hn h1
 have e:=H h F (bc2 t) p m ge mod E L om fm cm hn u
 exact⟨_,h,[],[],Z,Zp,e,sk2 i (List.prefix_refl _) _⟩
theorem ka9{f:FuncId}{g:Int→Int→Value}(H: ∀a,r43 f [.int .i64 a] fun q=>g q a){xs0:List AV}{C:Rts}{r:VRes}(he:pOne g xs0 C=some r):VOK T f xs0 C r:=by
 unfold pOne at he
 split at he
 ·split at he
  ·rename_i hc;cases he;exact nh2 (xs:=[_]) (H _) hc.1 hc.2
  ·cases he
 ·cases he
theorem sg0{f:FuncId}{g:Int→Int→Int→Value}(H: ∀a a',r43 f [.int .i64 a, .int .i64 a'] fun q=>g q a a'){xs0:List AV}{C:Rts}{r:VRes}(he:pTwo g xs0 C=some r):VOK T f xs0 C r:=by
 unfold pTwo at he
 split at he
 ·split at he
  ·rename_i hc;cases he;exact nh2 (xs:=[_,_]) (H _ _) hc.1 hc.2
  ·cases he
 ·cases he
def pNew:List AV→Rts→Option VRes
 | [.x (.int .i64 q)],[]=>match fldN q.toNat with
   |some _=>some (.tup [.fz true (pF q), .x (.int .i64 0)],[],[])
   |none=>some (.tup [.x (.pointer none), .x (.int .i64 1)],[],[])
 |_,_=>none
theorem a64{h h':H}{Z Zp:Nat→Prop}(i:Inv h [] Z Zp)(hp:h<+:h'){a:AV}{w:Value}(hv:Vm.VR h' [] (fun o=>h.length≤o∧o<h'.length) (fun o=>h.length≤o∧o<h'.length) a w): ∃Z' Zp',Post h [] Zp 0 (a,[],[]) w h' [] [] Z' Zp':=by
 refine⟨fun o=>Z o∨(h.length≤o∧o<h'.length),fun o=>Zp o∨(h.length≤o∧o<h'.length),rfl,rfl,⟨by rw[List.nil_append,okL];trivial,fun x=>by simp[fpL],fun o ho=>by simp[fpL]at ho,fun o ho=>by simp[fpL]at ho,fun o ho=> ?_,fun o ho=>ho.imp (i.zp o) id⟩,⟨hp.length_le,fun o ho _=>cb1 hp ho,fun o ho=>by simp[fpL]at ho,fun o ho=> .inl ho,fun o ho=>ho.imp id fun h=> .inr h.1⟩,Vm.VR.move (fun o ho=> .inr ho) (fun o ho=> .inr ho) (fun _ _=>rfl) (fun _ _=>rfl) (Stab.refl [] []) hv rfl,rfl,fun i a k h1=>by simp at h1⟩
 rcases ho with ho|ho
 ·have:=i.zlt o ho;have:=hp.length_le;omega
 ·exact ho.2
theorem lo5{xs0:List AV}{C:Rts}{r:VRes}(he:pNew xs0 C=some r):VOK T 76 xs0 C r:=by
 unfold pNew at he
 split at he
 ·rename_i q
  intro h Ac Z Zp ws i hC hv hk
  obtain rfl:Ac=[]:=by cases Ac with
   |nil=>rfl
   |cons=>cases hC
  rw[Vm.VRL]at hv
  obtain⟨w,ws',rfl,h1,h2⟩:=hv
  rw[Vm.VRL]at h2
  rw[Vm.VR]at h1
  subst h1 h2
  split at he
  ·rename_i x hn
   obtain⟨p,m,g,mod⟩:=x
   cases he
   obtain⟨h',F,hp,hF,⟨om,fm,cm,ho,hM,⟨E,L,q1,q2,hFr,hE,hL,q3,q4⟩⟩,e⟩:=e24 q hn h
   have hFl:=h42 hFr
   have hEl:=h42 hE
   have hLl:=h42 hL
   have hom:om<h'.length:=by
    rcases hM with⟨h0,_⟩|⟨_,o,off,r,h0,h1,_⟩
    ·cases h0
    ·cases h0;exact h42 h1
   have hzo: ∀o,(some (⟨om,fm,none⟩:Addr)).map (·.block)=some o→h.length≤o∧o<h'.length:=fun o ho'=>by
    have e1:om=o:=by simpa using ho'
    subst e1;exact⟨by omega,hom⟩
   have hrd:Rd h' (fun o=>h.length≤o∧o<h'.length) (pF q) (.pointer (some ⟨F,0,none⟩)):=by
    have hq2:=ug0 hn
    unfold pF
    rw[hn]
    simp only[pFt]
    rw[Rd,Ex]
    refine⟨F,_,rfl,⟨hF,hFl⟩,hFr,rfl,rfl,rfl, ?_⟩
    rw[ExL];refine⟨_,_,rfl,by unfold Ex;rfl, ?_⟩
    rw[ExL];refine⟨_,_,rfl,by unfold Ex;rfl, ?_⟩
    rw[ExL];refine⟨_,_,rfl,by unfold Ex;rfl, ?_⟩
    rw[ExL];refine⟨_,_,rfl,by unfold Ex;exact pd9 hM hzo, ?_⟩
    rw[ExL];refine⟨_,_,rfl,by unfold Ex;rfl, ?_⟩
    rw[ExL];refine⟨_,_,rfl,by unfold Ex;exact⟨E,_,_,rfl,⟨by omega,hEl⟩,hE,rfl,rfl,rfl,by decide,by rw[gf1,Nat.mul_one,q3],fun h=>(by cases h),ex4.2 rfl⟩, ?_⟩
    rw[ExL];refine⟨_,_,rfl,by unfold Ex;exact⟨L,_,_,rfl,⟨by omega,hLl⟩,hL,rfl,rfl,rfl,by decide,by rw[gf1,Nat.mul_one,q4],fun h=>(by cases h),ex4.2 rfl⟩, ?_⟩
    rw[ExL]
   obtain⟨Z',Zp',P⟩:=a64 (a:= .tup [.fz true (pF q), .x (.int .i64 0)]) (w:= .tuple #[.pointer (some ⟨F,0,none⟩), .int .i64 0]) i hp (by
    rw[Vm.VR]
    exact⟨[_,_],rfl, .cons (by rw[Vm.VR];exact hrd) (.cons (by rw[Vm.VR]) .nil)⟩)
   exact⟨_,h',[],[],Z',Zp',e,P⟩
  ·rename_i hn
   cases he
   obtain⟨h',hp,e⟩:=e84 q hn h
   obtain⟨Z',Zp',P⟩:=a64 (a:= .tup [.x (.pointer none), .x (.int .i64 1)]) (w:= .tuple #[.pointer none, .int .i64 1]) i hp (by
    rw[Vm.VR]
    exact⟨[_,_],rfl, .cons (by rw[Vm.VR]) (.cons (by rw[Vm.VR]) .nil)⟩)
   exact⟨_,h',[],[],Z',Zp',e,P⟩
 ·cases he
noncomputable def vP:FuncId→Option (List AV→Rts→Option VRes)
 |115=>some (pOne fun q a=> .bool (fok q a))
 |85=>some (pTwo fun q a b=> .int .i64 (fmul q a b))
 |83=>some (pTwo fun q a b=> .int .i64 (fadd q a b))
 |166=>some (pTwo fun q a b=> .int .i64 (fsub q a b))
 |185=>some (pOne fun q a=> .int .i64 (fneg q a))
 |165=>some (pOne fun q a=> .int .i64 (finv q a))
 |129=>some (pTwo fun q a b=> .int .i64 (fpow q a b))
 |76=>some pNew
 |119=>some h91
 |_=>none
noncomputable def W:VW:=⟨T,vP,vH,vM,ct⟩
@[push_cast] theorem W_M(f:FuncId):W.M f=vM f:=rfl
@[push_cast] theorem W_H(f:FuncId):W.H f=vH f:=rfl
@[push_cast] theorem W_ct:W.ct=ct:=rfl
theorem lw2(f:FuncId)(p:List AV→Rts→Option VRes)(xs0:List AV)(C:Rts)(r:VRes)(hp:W.P f=some p)(he:p xs0 C=some r):VOK W.T f xs0 C r:=by
 have hp:vP f=some p:=hp
 show VOK T f xs0 C r
 unfold vP at hp
 split at hp
 ·cases hp;exact ka9 (f:=115) (fun a h F q p m ge mod E L om fm cm hn u=>qy4 u a) he
 ·cases hp;exact sg0 (f:=85) (fun a a' h F q p m ge mod E L om fm cm hn u=>lb9 hn u a a') he
 ·cases hp;exact sg0 (f:=83) (fun a a' h F q p m ge mod E L om fm cm hn u=>gl5 hn u (jj8 hn).1 a a') he
 ·cases hp;exact sg0 (f:=166) (fun a a' h F q p m ge mod E L om fm cm hn u=>eb1 hn u (jj8 hn).1 a a') he
 ·cases hp;exact ka9 (f:=185) (fun a h F q p m ge mod E L om fm cm hn u=>kb1 hn u (jj8 hn).1 a) he
 ·cases hp;exact ka9 (f:=165) (fun a h F q p m ge mod E L om fm cm hn u=>im8 hn u a) he
 ·cases hp;exact sg0 (f:=129) (fun a a' h F q p m ge mod E L om fm cm hn u=>w41 hn u a a') he
 ·cases hp;exact(fun _=>lo5 he) 76
 ·cases hp;exact(fun _=>x66 he) 119
 ·cases hp
section
variable {q:Int} [IsFld q] {b:Bool} {x y:Int}
@[push_cast] theorem ta8:o24 W 115 [.fz b (pF q), .x (.int .i64 x)] []=some (.x (.bool (fok q x)),[],[]):=(xr5 rfl).trans l79
@[push_cast] theorem gi0:o24 W 85 [.fz b (pF q), .x (.int .i64 x), .x (.int .i64 y)] []=some (.x (.int .i64 (fmul q x y)),[],[]):=(xr5 rfl).trans pu4
@[push_cast] theorem j43:o24 W 83 [.fz b (pF q), .x (.int .i64 x), .x (.int .i64 y)] []=some (.x (.int .i64 (fadd q x y)),[],[]):=(xr5 rfl).trans pu4
@[push_cast] theorem ze7:o24 W 166 [.fz b (pF q), .x (.int .i64 x), .x (.int .i64 y)] []=some (.x (.int .i64 (fsub q x y)),[],[]):=(xr5 rfl).trans pu4
@[push_cast] theorem e85:o24 W 185 [.fz b (pF q), .x (.int .i64 x)] []=some (.x (.int .i64 (fneg q x)),[],[]):=(xr5 rfl).trans l79
@[push_cast] theorem eb9:o24 W 165 [.fz b (pF q), .x (.int .i64 x)] []=some (.x (.int .i64 (finv q x)),[],[]):=(xr5 rfl).trans l79
@[push_cast] theorem li7:o24 W 129 [.fz b (pF q), .x (.int .i64 x), .x (.int .i64 y)] []=some (.x (.int .i64 (fpow q x y)),[],[]):=(xr5 rfl).trans pu4
theorem gh1: ∃d,fldN q.toNat=some d:=by
 obtain⟨p,m,g,mod,hn⟩:= ‹IsFld q›.ok
 exact⟨_,hn⟩
@[push_cast] theorem ev4:o24 W 76 [.x (.int .i64 q)] []=some (.tup [.fz true (pF q), .x (.int .i64 0)],[],[]):=(xr5 rfl).trans (by obtain⟨d,hd⟩:=gh1 (q:=q);unfold pNew;simp only[hd])
end
theorem ug9{q:Int}(hn:fldN q.toNat=none):o24 W 76 [.x (.int .i64 q)] []=some (.tup [.x (.pointer none), .x (.int .i64 1)],[],[]):=(xr5 rfl).trans (by unfold pNew;simp only[hn])
theorem h19{b:Bool}{nl:Nat}{zs:List Int}(hz:zs.length≤1000000):o24 W 119 [.fz b (.sl nl 0 1 (ivs zs))] []=some (.own 0 [],[.sl (nlT zs) 3 1 (ivs zs)],[]):=(xr5 rfl).trans (ol3 hz)
end Go.Proofs.Ytmhbpecdpiapgaa
namespace Go.Alg
section
variable {K:Type} [FK K]
def axp(c:K)(u w:Nat→K):Nat→K:=fun i=>u i+c*w i
inductive Span (R:List (Nat→K)):(Nat→K)→Prop
 |zero:Span R (fun _=>0)
 |step {u r:Nat→K} (c:K):Span R u→r∈R→Span R (axp c u r)
theorem Span.mem{R:List (Nat→K)}{r:Nat→K}(h:r∈R):Span R r:=by
 have:=Span.step 1 Span.zero h
 have he:axp 1 (fun _=>0) r=r:=by funext i;show 0+1*r i=r i;rw[one_mul,zero_add]
 rwa [he]at this
theorem Span.axp{R:List (Nat→K)}{u w:Nat→K}(hu:Span R u)(hw:Span R w)(c:K):Span R (axp c u w):=by
 induction hw generalizing c with
 |zero=>
  have he:Alg.axp c u (fun _=>0)=u:=by funext i;show u i+c*0=u i;rw[mul_zero,FK.add_zero]
  rw[he];exact hu
 | @step w r d _ hr ih=>
   have he:Alg.axp c u (Alg.axp d w r)=Alg.axp (c*d) (Alg.axp c u w) r:=by
    funext i;show u i+c*(w i+d*r i)=u i+c*w i+c*d*r i
    rw[FK.mul_add,FK.mul_assoc,FK.add_assoc]
   rw[he];exact .step _ (ih c) hr
theorem Span.smul{R:List (Nat→K)}{w:Nat→K}(hw:Span R w)(c:K):Span R (fun i=>c*w i):=by
 have:=Span.zero.axp hw c
 have he:Alg.axp c (fun _=>0) w=fun i=>c*w i:=by funext i;show 0+c*w i=_;rw[zero_add]
 rwa [he]at this
theorem Span.add{R:List (Nat→K)}{u w:Nat→K}(hu:Span R u)(hw:Span R w):Span R (fun i=>u i+w i):=by
 have:=hu.axp hw 1
 have he:Alg.axp 1 u w=fun i=>u i+w i:=by funext i;show u i+1*w i=_;rw[one_mul]
 rwa [he]at this
theorem Span.trans{R S:List (Nat→K)}(hRS: ∀r∈R,Span S r){w:Nat→K}(hw:Span R w):Span S w:=by
 induction hw with
 |zero=>exact .zero
 |step c _ hr ih=>exact ih.axp (hRS _ hr) c
theorem Span.mono{R S:List (Nat→K)}(h: ∀r∈R,r∈S){w:Nat→K}(hw:Span R w):Span S w:=hw.trans fun r hr=> .mem (h r hr)
theorem Span.sum{α:Type}{R:List (Nat→K)}{f:α→Nat→K}{g:α→K}: ∀{l:List α},(∀a∈l,Span R (f a))→Span R (fun k=>sumL l fun a=>g a*f a k)
 | [],_=> .zero
 |a::l,h=>by
  have:=((h a (by simp)).smul (g a)).add (Span.sum (g:=g) (l:=l) fun b hb=>h b (by simp[hb]))
  exact this
theorem Span.lin{R:List (Nat→K)}{w:Nat→K}(hw:Span R w){P:(Nat→K)→Prop}(h0:P fun _=>0)(hs: ∀u r c,P u→P r→P (Alg.axp c u r))(hr: ∀r∈R,P r):P w:=by
 induction hw with
 |zero=>exact h0
 |step c _ hm ih=>exact hs _ _ c ih (hr _ hm)
structure Rref (n:Nat) (A:List (Nat×(Nat→K))):Prop where
 up:A.Pairwise fun a b=>a.1<b.1
 one: ∀a∈A,a.2 a.1=1
 before: ∀a∈A,∀k,k<a.1→a.2 k=0
 lt: ∀a∈A,a.1<n
 out: ∀a∈A,∀k,n≤k→a.2 k=0
 zero: ∀a∈A,∀b∈A,a.1≠b.1→a.2 b.1=0
def rowsOf(A:List (Nat×(Nat→K))):List (Nat→K):=A.map Prod.snd
section
variable {n:Nat} {A B:List (Nat×(Nat→K))}
theorem Rref.nodup(h:Rref n A):A.Pairwise fun a b=>a.1≠b.1:=h.up.imp fun h=>by omega
theorem kr9{f:Nat×(Nat→K)→K}{c:Nat×(Nat→K)}: ∀{A:List (Nat×(Nat→K))},(A.Pairwise fun a b=>a.1≠b.1)→c∈A→(∀a∈A,a.1≠c.1→f a=0)→sumL A f=f c
 | [],_,h,_=>by cases h
 |a::A,hn,h,h0=>by
  rw[List.pairwise_cons]at hn
  rw[gb6]
  rcases List.mem_cons.1 h with rfl|h
  ·rw[tx6 fun b hb=>h0 b (by simp[hb]) fun e=>hn.1 b hb e.symm,FK.add_zero]
  ·rw[h0 a (by simp) (hn.1 c h),zero_add]
   exact kr9 hn.2 h fun b hb=>h0 b (by simp[hb])
theorem Rref.told(h:Rref n A){w:Nat→K}(hw:Span (rowsOf A) w): ∀k,w k=sumL A fun a=>w a.1*a.2 k:=by
 refine hw.lin (P:=fun w=> ∀k,w k=sumL A fun a=>w a.1*a.2 k) (fun k=> ?_) (fun u r c hu hr k=> ?_) (fun r hr k=> ?_)
 ·exact(tx6 fun a _=>by rw[zero_mul]).symm
 ·show u k+c*r k=sumL A fun a=>(u a.1+c*r a.1)*a.2 k
  rw[hu k,hr k,←ro9,←jl9]
  refine ox7 fun a _=> ?_
  rw[add_mul,FK.mul_assoc]
 ·obtain⟨b,hb,rfl⟩:=List.mem_map.1 hr
  rw[kr9 (c:=b) h.nodup hb fun a ha hne=>by rw[h.zero b hb a ha fun e=>hne e.symm,zero_mul],h.one b hb,one_mul]
theorem Rref.lead(h:Rref n A){w:Nat→K}(hw:Span (rowsOf A) w){p:Nat}(hp:w p≠0)(hb: ∀k,k<p→w k=0): ∃a∈A,a.1=p:=by
 refine Classical.byContradiction fun hno=>hp ?_
 rw[h.told hw p]
 refine tx6 fun a ha=> ?_
 by_cases h1:a.1<p
 ·rw[hb _ h1,zero_mul]
 ·have h2:a.1≠p:=fun e=>hno ⟨a,ha,e⟩
  rw[h.before a ha p (by omega),mul_zero]
theorem wi1: ∀{l l':List Nat},l.Pairwise (· < ·)→l'.Pairwise (· < ·)→(∀x,x∈l↔x∈l')→l=l'
 | [],[],_,_,_=>rfl
 | [],b::l',_,_,h=>by have:=(h b).2 (by simp);cases this
 |a::l,[],_,_,h=>by have:=(h a).1 (by simp);cases this
 |a::l,b::l',h1,h2,h=>by
  rw[List.pairwise_cons]at h1 h2
  have hab:a=b:=by
   have ha:=(h a).1 (by simp)
   have hb:=(h b).2 (by simp)
   rcases List.mem_cons.1 ha with e|ha
   ·exact e
   ·rcases List.mem_cons.1 hb with e|hb
    ·exact e.symm
    ·have:=h2.1 a ha;have:=h1.1 b hb;omega
  subst hab
  congr 1
  refine wi1 h1.2 h2.2 fun x=>⟨fun hx=> ?_,fun hx=> ?_⟩
  ·rcases List.mem_cons.1 ((h x).1 (by simp[hx]))with rfl|h
   ·exact absurd (h1.1 x hx) (Nat.lt_irrefl _)
   ·exact h
  ·rcases List.mem_cons.1 ((h x).2 (by simp[hx]))with rfl|h
   ·exact absurd (h2.1 x hx) (Nat.lt_irrefl _)
   ·exact h
theorem Rref.uniq(h:Rref n A)(g:Rref n B)(hs: ∀w,Span (rowsOf A) w↔Span (rowsOf B) w):A=B:=by
 have hp: ∀{A B:List (Nat×(Nat→K))},Rref n A→Rref n B→(∀w,Span (rowsOf A) w→Span (rowsOf B) w)→ ∀a∈A,∃b∈B,b.1=a.1:=by
  intro A B h g hs a ha
  exact g.lead (hs _ (.mem (List.mem_map.2 ⟨a,ha,rfl⟩))) (by rw[h.one a ha];exact ki7) (h.before a ha)
 have hsame:A.map Prod.fst=B.map Prod.fst:=by
  refine wi1 (List.pairwise_map.2 h.up) (List.pairwise_map.2 g.up) fun x=>⟨fun hx=> ?_,fun hx=> ?_⟩
  ·obtain⟨a,ha,rfl⟩:=List.mem_map.1 hx
   obtain⟨b,hb,e⟩:=hp h g (fun w=>(hs w).1) a ha
   exact List.mem_map.2 ⟨b,hb,e⟩
  ·obtain⟨a,ha,rfl⟩:=List.mem_map.1 hx
   obtain⟨b,hb,e⟩:=hp g h (fun w=>(hs w).2) a ha
   exact List.mem_map.2 ⟨b,hb,e⟩
 have hl:A.length=B.length:=by have:=congrArg List.length hsame;simpa using this
 refine List.ext_getElem hl fun i h1 h2=> ?_
 have e1:A[i].1=B[i].1:=by
  have:=congrArg (fun l=>l[i]?) hsame
  simpa [List.getElem?_map,List.getElem?_eq_getElem h1,List.getElem?_eq_getElem h2]using this
 have e2:A[i].2=B[i].2:=by
  have hA:=List.getElem_mem h1
  have hB:=List.getElem_mem h2
  have hw:Span (rowsOf B) A[i].2:=(hs _).1 (.mem (List.mem_map.2 ⟨_,hA,rfl⟩))
  funext k
  rw[g.told hw k,kr9 (c:=B[i]) g.nodup hB fun b hb hne=> ?_,←e1,h.one _ hA,one_mul]
  --other beginnings are the first's too
  obtain⟨a,ha,e⟩:=hp g h (fun w=>(hs w).2) b hb
  rw[←e,h.zero _ hA a ha (by rw[e,e1];exact fun x=>hne x.symm),zero_mul]
 exact Prod.ext e1 e2
def wf(l:List K):Nat→K:=fun i=>l.getD i 0
theorem ez8{l:List K}{k:Nat}(h:l.length≤k):wf l k=0:=by unfold wf;rw[List.getD_eq_getElem?_getD,List.getElem?_eq_none h];rfl
theorem i66{l:List K}{k:Nat}(h:k<l.length):wf l k=l[k]:=by unfold wf;rw[List.getD_eq_getElem?_getD,List.getElem?_eq_getElem h];rfl
theorem ou8{l l':List K}(hl:l.length=l'.length)(h:wf l=wf l'):l=l':=by
 refine List.ext_getElem hl fun i h1 h2=> ?_
 rw[←i66 h1,←i66 h2,h]
def dx9(c:K)(r o:List K):List K:=List.zipWith (fun x y=>x-c*y) r o
theorem wx1{c:K}{r o:List K}(h:r.length=o.length):(dx9 c r o).length=r.length:=by simp[dx9,h]
theorem t92{c:K}{r o:List K}(h:r.length=o.length):wf (dx9 c r o)=axp (-c) (wf r) (wf o):=by
 funext k
 show _=wf r k+ -c*wf o k
 by_cases hk:k<r.length
 ·have hk2:k<(dx9 c r o).length:=by rw[wx1 h];exact hk
  rw[i66 hk2,i66 hk,i66 (h▸hk),neg_mul,←sub_eq]
  simp only[dx9,List.getElem_zipWith]
 ·rw[ez8 (by rw[wx1 h];omega),ez8 (by omega),ez8 (by omega),mul_zero,FK.add_zero]
def xf7(c:K)(r:List K):List K:=r.map fun x=>x*c
theorem mc3(c:K)(r:List K):wf (xf7 c r)=fun k=>c*wf r k:=by
 funext k
 unfold wf xf7
 rw[List.getD_eq_getElem?_getD,List.getD_eq_getElem?_getD,List.getElem?_map]
 cases r[k]? with
 |none=>exact(mul_zero c).symm
 |some x=>exact FK.mul_comm x c
end
end
end Go.Alg
namespace Go.Alg
section
variable {α:Type}
def insR(p:Nat)(r:α):List (Nat×α)→List (Nat×α)
 | []=>[(p,r)]
 |a::A=>if a.1<p then a::insR p r A else(p,r)::a::A
theorem j41{p:Nat}{r:α}{x:Nat×α}: ∀{A:List (Nat×α)},x∈insR p r A↔x=(p,r)∨x∈A
 | []=>by simp[insR]
 |a::A=>by
  rw[insR]
  split
  ·rw[List.mem_cons,j41 (A:=A),List.mem_cons]
   constructor
   ·rintro(h|h|h)
    ·exact .inr (.inl h)
    ·exact .inl h
    ·exact .inr (.inr h)
   ·rintro(h|h|h)
    ·exact .inr (.inl h)
    ·exact .inl h
    ·exact .inr (.inr h)
  ·rw[List.mem_cons]
theorem wu8{p:Nat}{r:α}: ∀{A:List (Nat×α)},A.Pairwise (fun a b=>a.1<b.1)→(∀a∈A,a.1≠p)→(insR p r A).Pairwise fun a b=>a.1<b.1
 | [],_,_=>by simp[insR]
 |a::A,h,hne=>by
  rw[List.pairwise_cons]at h
  have ha:=hne a (by simp)
  rw[insR]
  split
  ·rename_i hlt
   rw[List.pairwise_cons]
   refine⟨fun x hx=> ?_,wu8 h.2 fun b hb=>hne b (by simp[hb])⟩
   rcases j41.1 hx with rfl|hx
   ·exact hlt
   ·exact h.1 x hx
  ·rename_i hlt
   rw[List.pairwise_cons]
   refine⟨fun x hx=> ?_,List.pairwise_cons.2 h⟩
   rcases List.mem_cons.1 hx with rfl|hx
   ·show p<x.1;omega
   ·have:=h.1 x hx;show p<x.1;omega
end
section
variable {K:Type} [FK K]
def uo6:List (Nat×List K)→List K→List K
 | [],r=>r
 |a::A,r=>uo6 A (dx9 (wf r a.1) r a.2)
def lv6:List K→Nat
 | []=>0
 |a::l=>if a=0 then lv6 l+1 else 0
def vp4(A:List (Nat×List K))(m:List K):List (Nat×List K):=
 if lv6 (uo6 A m)=(uo6 A m).length then A else
  insR (lv6 (uo6 A m)) (xf7 (FK.inv (wf (uo6 A m) (lv6 (uo6 A m)))) (uo6 A m))
   (A.map fun a=>(a.1,dx9 (wf a.2 (lv6 (uo6 A m))) a.2 (xf7 (FK.inv (wf (uo6 A m) (lv6 (uo6 A m)))) (uo6 A m))))
def redR(M:List (List K)):List (Nat×List K):=M.foldl vp4 []
def toF(A:List (Nat×List K)):List (Nat×(Nat→K)):=A.map fun a=>(a.1,wf a.2)
theorem sb2: ∀l:List K,lv6 l≤l.length
 | []=>Nat.le_refl _
 |a::l=>by
  have:=sb2 l
  rw[lv6,List.length_cons]
  split<;>omega
theorem f42: ∀(l:List K) (k:Nat),k<lv6 l→wf l k=0
 | [],k,h=>by cases h
 |a::l,k,h=>by
  rw[lv6]at h
  split at h
  ·rename_i h0
   cases k with
   |zero=>rw[i66 (by simp)];exact h0
   |succ k=>exact f42 l k (by omega)
  ·cases h
theorem aa0: ∀{l:List K},lv6 l<l.length→wf l (lv6 l)≠0
 | [],h=>by cases h
 |a::l,h=>by
  rw[lv6]at h⊢
  split at h
  ·rename_i h0
   rw[if_pos h0]
   exact aa0 (l:=l) (by simpa using h)
  ·rename_i h0
   rw[if_neg h0]
   exact h0
theorem d96{l:List K}(h:lv6 l=l.length):wf l=fun _=>0:=by
 funext k
 by_cases hk:k<l.length
 ·exact f42 l k (by omega)
 ·exact ez8 (by omega)
section
variable {n:Nat} {A:List (Nat×List K)}
theorem m12(hl: ∀a∈A,a.2.length=n): ∀(B:List (Nat×List K)) (r:List K),(∀b∈B,b∈A)→r.length=n→(uo6 B r).length=n
 | [],r,_,h=>h
 |b::B,r,hB,h=>m12 hl B _ (fun b hb=>hB b (by simp[hb])) (by rw[wx1 (by rw[h,hl b (hB b (by simp))]),h])
theorem rq0{c:K}{r o:List K}(h:r.length=o.length)(k:Nat):wf (dx9 c r o) k=wf r k-c*wf o k:=by
 rw[t92 h]
 show wf r k+ -c*wf o k=_
 rw[neg_mul];rfl
theorem ez0(hr:Rref n (toF A))(hl: ∀a∈A,a.2.length=n): ∀(B:List (Nat×List K)) (r:List K),(∀b∈B,b∈A)→r.length=n→ ∀a∈A,(a∈B∨wf r a.1=0)→wf (uo6 B r) a.1=0
 | [],r,_,_,a,ha,h=>by
   rcases h with h|h
   ·cases h
   ·exact h
 |b::B,r,hB,hrl,a,ha,h=>by
  have hbA:=hB b (by simp)
  have hlen:r.length=b.2.length:=by rw[hrl,hl b hbA]
  refine ez0 hr hl B _ (fun b hb=>hB b (by simp[hb])) (by rw[wx1 hlen,hrl]) a ha ?_
  rw[rq0 hlen]
  have hone:wf b.2 b.1=1:=hr.one (b.1,wf b.2) (List.mem_map.2 ⟨b,hbA,rfl⟩)
  by_cases he:a.1=b.1
  ·exact .inr (by rw[he,hone,FK.mul_one,sub_self])
  ·have hz:wf b.2 a.1=0:=hr.zero (b.1,wf b.2) (List.mem_map.2 ⟨b,hbA,rfl⟩) (a.1,wf a.2) (List.mem_map.2 ⟨a,ha,rfl⟩) fun e=>he e.symm
   rcases h with h|h
   ·rcases List.mem_cons.1 h with h|h
    ·exact absurd (by rw[h]) he
    ·exact .inl h
   ·exact .inr (by rw[hz,mul_zero,sub_zero,h])
theorem e72(hl: ∀a∈A,a.2.length=n): ∀(B:List (Nat×List K)) (r:List K),(∀b∈B,b∈A)→r.length=n→Span (wf (uo6 B r)::rowsOf (toF A)) (wf r)∧Span (wf r::rowsOf (toF A)) (wf (uo6 B r))
 | [],r,_,_=>⟨.mem (by simp[uo6]), .mem (by simp[uo6])⟩
 |b::B,r,hB,hrl=>by
  have hbA:=hB b (by simp)
  have hlen:r.length=b.2.length:=by rw[hrl,hl b hbA]
  obtain⟨k1,k2⟩:=e72 hl B (dx9 (wf r b.1) r b.2) (fun b hb=>hB b (by simp[hb])) (by rw[wx1 hlen,hrl])
  have hmb:wf b.2∈rowsOf (toF A):=by
   unfold rowsOf toF;rw[List.map_map];exact List.mem_map.2 ⟨b,hbA,rfl⟩
  refine⟨?_, ?_⟩
  ·have h1:=k1.axp (.mem (List.mem_cons_of_mem _ hmb)) (wf r b.1)
   have he:axp (wf r b.1) (wf (dx9 (wf r b.1) r b.2)) (wf b.2)=wf r:=by
    funext k
    show wf (dx9 (wf r b.1) r b.2) k+wf r b.1*wf b.2 k=_
    rw[rq0 hlen,fj9]
   rw[he]at h1
   exact h1
  ·refine k2.trans fun x hx=> ?_
   rcases List.mem_cons.1 hx with rfl|hx
   ·rw[t92 hlen]
    exact(Span.mem (by simp)).axp (.mem (List.mem_cons_of_mem _ hmb)) _
   ·exact .mem (List.mem_cons_of_mem _ hx)
theorem xe5{x:Nat×(Nat→K)}:x∈toF A↔ ∃a∈A,x=(a.1,wf a.2):=by
 unfold toF
 rw[List.mem_map]
 exact⟨fun⟨a,h1,h2⟩=>⟨a,h1,h2.symm⟩,fun⟨a,h1,h2⟩=>⟨a,h1,h2.symm⟩⟩
theorem he1{x:Nat→K}:x∈rowsOf (toF A)↔ ∃a∈A,x=wf a.2:=by
 unfold rowsOf toF
 rw[List.map_map,List.mem_map]
 exact⟨fun⟨a,h1,h2⟩=>⟨a,h1,h2.symm⟩,fun⟨a,h1,h2⟩=>⟨a,h1,h2.symm⟩⟩
theorem cj6(hr:Rref n (toF A))(hl: ∀a∈A,a.2.length=n){m:List K}(hm:m.length=n):
 Rref n (toF (vp4 A m))∧(∀a∈vp4 A m,a.2.length=n)∧(∀a∈A,Span (rowsOf (toF (vp4 A m))) (wf a.2))∧Span (rowsOf (toF (vp4 A m))) (wf m)∧ ∀a∈vp4 A m,Span (wf m::rowsOf (toF A)) (wf a.2):=by
 have hrl:=m12 hl A m (fun _ h=>h) hm
 have hz:=ez0 hr hl A m (fun _ h=>h) hm
 obtain⟨s1,s2⟩:=e72 hl A m (fun _ h=>h) hm
 unfold vp4
 generalize uo6 A m=r at hrl hz s1 s2⊢
 by_cases hfull:lv6 r=r.length
 ·rw[if_pos hfull]
  refine⟨hr,hl,fun a ha=> .mem (he1.2 ⟨a,ha,rfl⟩),s1.trans fun x hx=> ?_,fun a ha=> .mem (List.mem_cons_of_mem _ (he1.2 ⟨a,ha,rfl⟩))⟩
  rcases List.mem_cons.1 hx with rfl|hx
  ·rw[d96 hfull];exact .zero
  ·exact .mem hx
 ·rw[if_neg hfull]
  have hlt:lv6 r<r.length:=by have:=sb2 r;omega
  have hne:=aa0 hlt
  have hbef:=f42 r
  generalize lv6 r=p at hlt hne hbef⊢
  have hsl:(xf7 (FK.inv (wf r p)) r).length=n:=by unfold xf7;rw[List.length_map,hrl]
  have hsw:=mc3 (FK.inv (wf r p)) r
  generalize xf7 (FK.inv (wf r p)) r=s at hsl hsw⊢
  have hsk: ∀k,wf s k=FK.inv (wf r p)*wf r k:=fun k=>congrFun hsw k
  have hsp:wf s p=1:=by rw[hsk,inv_mul hne]
  have hsz: ∀k,wf r k=0→wf s k=0:=fun k h=>by rw[hsk,h,mul_zero]
  have hsA: ∀a∈A,wf s a.1=0:=fun a ha=>hsz _ (hz a ha (.inl ha))
  have hpA: ∀a∈A,a.1≠p:=fun a ha e=>by have:=hsA a ha;rw[e,hsp]at this;exact ki7 this
  have hA': ∀a∈A,∀k,wf (dx9 (wf a.2 p) a.2 s) k=wf a.2 k-wf a.2 p*wf s k:=fun a ha k=>rq0 (by rw[hl a ha,hsl]) k
  have hone: ∀a∈A,wf a.2 a.1=1:=fun a ha=>hr.one (a.1,wf a.2) (xe5.2 ⟨a,ha,rfl⟩)
  have hbefA: ∀a∈A,∀k,k<a.1→wf a.2 k=0:=fun a ha k hk=>hr.before (a.1,wf a.2) (xe5.2 ⟨a,ha,rfl⟩) k hk
  have hzA: ∀a∈A,∀b∈A,a.1≠b.1→wf a.2 b.1=0:=fun a ha b hb h=>hr.zero (a.1,wf a.2) (xe5.2 ⟨a,ha,rfl⟩) (b.1,wf b.2) (xe5.2 ⟨b,hb,rfl⟩) h
  have hltA: ∀a∈A,a.1<n:=fun a ha=>hr.lt (a.1,wf a.2) (xe5.2 ⟨a,ha,rfl⟩)
  have hmem: ∀{x:Nat×List K},x∈insR p s (A.map fun a=>(a.1,dx9 (wf a.2 p) a.2 s))→x=(p,s)∨ ∃a∈A,x=(a.1,dx9 (wf a.2 p) a.2 s):=fun{x} hx=>by
   rcases j41.1 hx with h|h
   ·exact .inl h
   ·obtain⟨a,ha,e⟩:=List.mem_map.1 h
    exact .inr ⟨a,ha,e.symm⟩
  have hlen: ∀a∈insR p s (A.map fun a=>(a.1,dx9 (wf a.2 p) a.2 s)),a.2.length=n:=fun x hx=>by
   rcases hmem hx with rfl|⟨a,ha,rfl⟩
   ·exact hsl
   ·show(dx9 _ _ _).length=n
    rw[wx1 (by rw[hl a ha,hsl]),hl a ha]
  have hs_in:wf s∈rowsOf (toF (insR p s (A.map fun a=>(a.1,dx9 (wf a.2 p) a.2 s)))):=he1.2 ⟨(p,s),j41.2 (.inl rfl),rfl⟩
  have hs_old:Span (wf m::rowsOf (toF A)) (wf s):=by rw[hsw];exact s2.smul _
  refine⟨⟨?_, ?_, ?_, ?_, ?_, ?_⟩,hlen,fun a ha=> ?_, ?_,fun x hx=> ?_⟩
  ·unfold toF
   rw[List.pairwise_map]
   refine wu8 ?_ fun x hx=> ?_
   ·rw[List.pairwise_map]
    have:=hr.up
    unfold toF at this
    rw[List.pairwise_map]at this
    exact this
   ·obtain⟨a,ha,rfl⟩:=List.mem_map.1 hx
    exact hpA a ha
  ·intro x hx
   obtain⟨y,hy,rfl⟩:=xe5.1 hx
   rcases hmem hy with rfl|⟨a,ha,rfl⟩
   ·exact hsp
   ·show wf (dx9 _ _ _) a.1=1
    rw[hA' a ha,hone a ha,hsA a ha,mul_zero,sub_zero]
  ·intro x hx k hk
   obtain⟨y,hy,rfl⟩:=xe5.1 hx
   rcases hmem hy with rfl|⟨a,ha,rfl⟩
   ·exact hsz _ (hbef k hk)
   ·show wf (dx9 _ _ _) k=0
    have hk:k<a.1:=hk
    rw[hA' a ha,hbefA a ha k hk]
    by_cases h1:p<a.1
    ·rw[hbefA a ha p h1,zero_mul,sub_self]
    ·have:k<p:=by omega
     rw[hsz _ (hbef k this),mul_zero,sub_self]
  ·intro x hx
   obtain⟨y,hy,rfl⟩:=xe5.1 hx
   rcases hmem hy with rfl|⟨a,ha,rfl⟩
   ·show p<n;omega
   ·exact hltA a ha
  ·intro x hx k hk
   obtain⟨y,hy,rfl⟩:=xe5.1 hx
   exact ez8 (by rw[hlen y hy];exact hk)
  ·intro x hx z hz' hne'
   obtain⟨y,hy,rfl⟩:=xe5.1 hx
   obtain⟨y',hy',rfl⟩:=xe5.1 hz'
   rcases hmem hy with rfl|⟨a,ha,rfl⟩
   ·rcases hmem hy' with rfl|⟨b,hb,rfl⟩
    ·exact absurd rfl hne'
    ·exact hsA b hb
   ·rcases hmem hy' with rfl|⟨b,hb,rfl⟩
    ·show wf (dx9 _ _ _) p=0
     rw[hA' a ha,hsp,FK.mul_one,sub_self]
    ·show wf (dx9 _ _ _) b.1=0
     rw[hA' a ha,hzA a ha b hb hne',hsA b hb,mul_zero,sub_self]
  ·have h1:Span (rowsOf (toF (insR p s (A.map fun a=>(a.1,dx9 (wf a.2 p) a.2 s))))) (wf (dx9 (wf a.2 p) a.2 s)):= .mem (he1.2 ⟨(a.1,dx9 (wf a.2 p) a.2 s),j41.2 (.inr (List.mem_map.2 ⟨a,ha,rfl⟩)),rfl⟩)
   have h2:=h1.axp (.mem hs_in) (wf a.2 p)
   have he:axp (wf a.2 p) (wf (dx9 (wf a.2 p) a.2 s)) (wf s)=wf a.2:=by
    funext k
    show wf (dx9 (wf a.2 p) a.2 s) k+wf a.2 p*wf s k=_
    rw[hA' a ha,fj9]
   rw[he]at h2
   exact h2
  ·--what is left of m is a multiple of the new row;the others are spanned
   have hrs: ∀{R:List (Nat→K)},Span R (wf s)→Span R (wf r):=fun{R} h=>by
    have:=h.smul (wf r p)
    have he:(fun i=>wf r p*wf s i)=wf r:=by
     funext i
     rw[hsk,←FK.mul_assoc,FK.mul_inv _ hne,one_mul]
    rwa [he]at this
   refine s1.trans fun x hx=> ?_
   rcases List.mem_cons.1 hx with rfl|hx
   ·exact hrs (.mem hs_in)
   ·obtain⟨a,ha,rfl⟩:=he1.1 hx
    have h1:Span (rowsOf (toF (insR p s (A.map fun a=>(a.1,dx9 (wf a.2 p) a.2 s))))) (wf (dx9 (wf a.2 p) a.2 s)):= .mem (he1.2 ⟨(a.1,dx9 (wf a.2 p) a.2 s),j41.2 (.inr (List.mem_map.2 ⟨a,ha,rfl⟩)),rfl⟩)
    have h2:=h1.axp (.mem hs_in) (wf a.2 p)
    have he:axp (wf a.2 p) (wf (dx9 (wf a.2 p) a.2 s)) (wf s)=wf a.2:=by
     funext k
     show wf (dx9 (wf a.2 p) a.2 s) k+wf a.2 p*wf s k=_
     rw[hA' a ha,fj9]
    rw[he]at h2
    exact h2
  ·rcases hmem hx with rfl|⟨a,ha,rfl⟩
   ·exact hs_old
   ·show Span _ (wf (dx9 _ _ _))
    rw[t92 (by rw[hl a ha,hsl])]
    exact(Span.mem (List.mem_cons_of_mem _ (he1.2 ⟨a,ha,rfl⟩))).axp hs_old _
end
theorem Rref.nil(n:Nat):Rref n (toF ([]:List (Nat×List K))):=⟨List.Pairwise.nil,fun a h=>(by cases h),fun a h=>(by cases h),fun a h=>(by cases h),fun a h=>(by cases h),fun a h=>(by cases h)⟩
theorem v73{n:Nat}: ∀(M:List (List K)) (A:List (Nat×List K)),(∀m∈M,m.length=n)→Rref n (toF A)→(∀a∈A,a.2.length=n)→
 Rref n (toF (M.foldl vp4 A))∧(∀a∈M.foldl vp4 A,a.2.length=n)∧(∀a∈A,Span (rowsOf (toF (M.foldl vp4 A))) (wf a.2))∧(∀m∈M,Span (rowsOf (toF (M.foldl vp4 A))) (wf m))∧ ∀a∈M.foldl vp4 A,Span (M.map wf++rowsOf (toF A)) (wf a.2)
 | [],A,_,hr,hl=>⟨hr,hl,fun a ha=> .mem (he1.2 ⟨a,ha,rfl⟩),fun m h=>(by cases h),fun a ha=> .mem (by simp only[List.map_nil,List.nil_append];exact he1.2 ⟨a,ha,rfl⟩)⟩
 |m::M,A,hM,hr,hl=>by
  obtain⟨a1,a2,a3,a4,a5⟩:=cj6 hr hl (hM m (by simp))
  obtain⟨b1,b2,b3,b4,b5⟩:=v73 M (vp4 A m) (fun x hx=>hM x (by simp[hx])) a1 a2
  have hup: ∀{w:Nat→K},Span (rowsOf (toF (vp4 A m))) w→Span (rowsOf (toF (M.foldl vp4 (vp4 A m)))) w:=fun h=>h.trans fun x hx=>by
   obtain⟨a,ha,rfl⟩:=he1.1 hx
   exact b3 a ha
  refine⟨b1,b2,fun a ha=>hup (a3 a ha),fun x hx=> ?_,fun a ha=>(b5 a ha).trans fun x hx=> ?_⟩
  ·rcases List.mem_cons.1 hx with rfl|hx
   ·exact hup a4
   ·exact b4 x hx
  ·rcases List.mem_append.1 hx with hx|hx
   ·exact .mem (by simp[hx])
   ·obtain⟨y,hy,rfl⟩:=he1.1 hx
    refine(a5 y hy).mono fun z hz=> ?_
    rcases List.mem_cons.1 hz with rfl|hz
    ·simp
    ·simp[hz]
theorem bi2{n:Nat}{M:List (List K)}(hM: ∀m∈M,m.length=n):Rref n (toF (redR M))∧(∀a∈redR M,a.2.length=n)∧ ∀w,Span (rowsOf (toF (redR M))) w↔Span (M.map wf) w:=by
 obtain⟨b1,b2,b3,b4,b5⟩:=v73 M [] hM (.nil n) (fun a h=>by cases h)
 refine⟨b1,b2,fun w=>⟨fun h=>h.trans fun x hx=> ?_,fun h=>h.trans fun x hx=> ?_⟩⟩
 ·obtain⟨a,ha,rfl⟩:=he1.1 hx
  have:=b5 a ha
  rwa [show rowsOf (toF ([]:List (Nat×List K)))=[]from rfl,List.append_nil]at this
 ·obtain⟨m,hm,rfl⟩:=List.mem_map.1 hx
  exact b4 m hm
theorem wf_set{x:List K}{i:Nat}{v:K}(hi:i<x.length)(k:Nat):wf (x.set i v) k=if k=i then v else wf x k:=by
 unfold wf
 rw[List.getD_eq_getElem?_getD,List.getD_eq_getElem?_getD,List.getElem?_set]
 by_cases h:i=k
 ·subst h;rw[if_pos rfl,if_pos hi,if_pos rfl];rfl
 ·rw[if_neg h,if_neg fun e=>h e.symm]
end
end Go.Alg
namespace Go.Alg
section
variable {α:Type} {M:List (List α)} {P:List Nat}
def nth{α:Type}(M:List (List α))(k:Nat):List α:=M.getD k []
theorem t70{α:Type}{M:List (List α)}{k:Nat}(h:k<M.length):nth M k=M[k]:=by unfold nth;rw[List.getD_eq_getElem?_getD,List.getElem?_eq_getElem h];rfl
theorem xr8{α:Type}{M:List (List α)}{k:Nat}{r:List α}(h:M[k]? =some r):nth M k=r:=by unfold nth;rw[List.getD_eq_getElem?_getD,h];rfl
def outP(M:List (List α))(P:List Nat):List (Nat×List α):=P.zip (M.take P.length)
theorem k91(h:P.length≤M.length){a:Nat×List α}:a∈outP M P↔ ∃i,P[i]? =some a.1∧i<M.length∧a.2=nth M i:=by
 unfold outP
 constructor
 ·intro ha
  obtain⟨i,hi,rfl⟩:=List.getElem_of_mem ha
  rw[List.length_zip,List.length_take]at hi
  refine⟨i, ?_,by omega, ?_⟩
  ·rw[List.getElem_zip];exact List.getElem?_eq_getElem (by omega)
  ·rw[List.getElem_zip,t70 (by omega)];exact List.getElem_take
 ·rintro⟨i,h1,h2,h3⟩
  obtain⟨hi,he⟩:=List.getElem?_eq_some_iff.1 h1
  have hl:i<(P.zip (M.take P.length)).length:=by rw[List.length_zip,List.length_take];omega
  have:(P.zip (M.take P.length))[i]=a:=by
   rw[List.getElem_zip]
   refine Prod.ext he ?_
   show(M.take P.length)[i]'_=a.2
   rw[h3,t70 h2,List.getElem_take]
  rw[←this];exact List.getElem_mem hl
theorem t15(h:P.length≤M.length):(outP M P).map Prod.fst=P:=List.map_fst_zip (by rw[List.length_take];omega)
theorem hn3(h:P.length≤M.length):(outP M P).map Prod.snd=M.take P.length:=List.map_snd_zip (by rw[List.length_take];omega)
end
section
variable {K:Type} [FK K]
theorem tj8{M:List (List K)}{x:Nat→K}:x∈M.map wf↔ ∃k,k<M.length∧x=wf (nth M k):=by
 rw[List.mem_map]
 constructor
 ·rintro⟨r,hr,rfl⟩
  obtain⟨k,hk,rfl⟩:=List.getElem_of_mem hr
  exact⟨k,hk,by rw[t70 hk]⟩
 ·rintro⟨k,hk,rfl⟩
  exact⟨M[k],List.getElem_mem hk,by rw[t70 hk]⟩
theorem j42{M:List (List K)}{k:Nat}(h:k<M.length):Span (M.map wf) (wf (nth M k)):= .mem (tj8.2 ⟨k,h,rfl⟩)
structure RedI (n:Nat) (M0 M:List (List K)) (P:List Nat) (c:Nat):Prop where
 len:M.length=M0.length
 row: ∀r∈M,r.length=n
 pl:P.length≤M.length
 up:P.Pairwise (· < ·)
 lt: ∀p∈P,p<c
 cn:c≤n
 one: ∀i p,P[i]? =some p→ ∀k,k<M.length→wf (nth M k) p=if k=i then 1 else 0
 before: ∀i p,P[i]? =some p→ ∀j,j<p→wf (nth M i) j=0
 low: ∀k,P.length≤k→k<M.length→ ∀j,j<c→wf (nth M k) j=0
 span: ∀w,Span (M.map wf) w↔Span (M0.map wf) w
section
variable {n c:Nat} {M0 M:List (List K)} {P:List Nat}
theorem RedI.start(h: ∀r∈M0,r.length=n):RedI n M0 M0 [] 0:=
 ⟨rfl,h,Nat.zero_le _,List.Pairwise.nil,fun p h=>(by cases h),Nat.zero_le _,fun i p h=>(by cases h),fun i p h=>(by cases h),fun k _ _ j h=>(by cases h),fun _=>Iff.rfl⟩
theorem RedI.skip(h:RedI n M0 M P c)(hc:c<n)(h0: ∀k,P.length≤k→k<M.length→wf (nth M k) c=0):RedI n M0 M P (c+1):=
 ⟨h.len,h.row,h.pl,h.up,fun p hp=>by have:=h.lt p hp;omega,hc,h.one,h.before,fun k h1 h2 j hj=>by
   by_cases he:j=c
   ·rw[he];exact h0 k h1 h2
   ·exact h.low k h1 h2 j (by omega),h.span⟩
theorem RedI.len_nth(h:RedI n M0 M P c){k:Nat}(hk:k<M.length):(nth M k).length=n:=by rw[t70 hk];exact h.row _ (List.getElem_mem hk)
theorem RedI.turn(h:RedI n M0 M P c)(hc:c<n){i:Nat}(hi:P.length≤i)(hi2:i<M.length)(hne:wf (nth M i) c≠0){N:List (List K)}(hNl:N.length=M.length)(hNr: ∀r∈N,r.length=n)
 (hat:wf (nth N P.length)=fun k=>FK.inv (wf (nth M i) c)*wf (nth M i) k)
 (hoth: ∀k,k<M.length→k≠P.length→wf (nth N k)=axp (-(wf (nth M (if k=i then P.length else k)) c)) (wf (nth M (if k=i then P.length else k))) (wf (nth N P.length))):RedI n M0 N (P++[c]) (c+1):=by
 obtain⟨s,hs⟩: ∃s,wf (nth N P.length)=s:=⟨_,rfl⟩
 rw[hs]at hat hoth
 have hsk: ∀k,s k=FK.inv (wf (nth M i) c)*wf (nth M i) k:=fun k=>by rw[hat]
 have hsc:s c=1:=by rw[hsk,inv_mul hne]
 have hslow: ∀j,j<c→s j=0:=fun j hj=>by rw[hsk,h.low i hi hi2 j hj,mul_zero]
 --the row that is taken from,for each k
 have hsrc: ∀k,k<M.length→k≠P.length→(if k=i then P.length else k)<M.length:=fun k hk _=>by split<;>omega
 have hN: ∀k,k<M.length→k≠P.length→ ∀j,wf (nth N k) j=wf (nth M (if k=i then P.length else k)) j-wf (nth M (if k=i then P.length else k)) c*s j:=fun k hk hne' j=>by
  rw[hoth k hk hne'];show _+ -_*s j=_;rw[neg_mul];rfl
 have hpi: ∀j p,P[j]? =some p→j<P.length:=fun j p hp=>(List.getElem?_eq_some_iff.1 hp).1
 have hpl: ∀j p,P[j]? =some p→p<c:=fun j p hp=>h.lt p (List.mem_of_getElem? hp)
 have hlt:P.length<M.length:=by omega
 have hget: ∀{j p},(P++[c])[j]? =some p→(j<P.length∧P[j]? =some p)∨(j=P.length∧p=c):=fun{j p} hp=>by
  by_cases hj:j<P.length
  ·rw[List.getElem?_append_left hj]at hp;exact .inl ⟨hj,hp⟩
  ·have:=(List.getElem?_eq_some_iff.1 hp).1
   rw[List.length_append,List.length_singleton]at this
   obtain rfl:j=P.length:=by omega
   rw[List.getElem?_append_right (Nat.le_refl _),Nat.sub_self]at hp
   exact .inr ⟨rfl,by simpa using hp.symm⟩
 refine⟨by rw[hNl,h.len],hNr,by rw[List.length_append,List.length_singleton,hNl];omega, ?_,fun p hp=> ?_,hc,fun j p hp k hk=> ?_,fun j p hp x hx=> ?_,fun k h1 h2 j hj=> ?_,fun w=> ?_⟩
 ·rw[List.pairwise_append]
  refine⟨h.up,by simp,fun a ha b hb=> ?_⟩
  rw[List.mem_singleton.1 hb];exact h.lt a ha
 ·rcases List.mem_append.1 hp with hp|hp
  ·have:=h.lt p hp;omega
  ·rw[List.mem_singleton.1 hp];omega
 ·rw[hNl]at hk
  rcases hget hp with⟨hj,hp⟩|⟨rfl,rfl⟩
  ·have hsp:s p=0:=hslow p (hpl j p hp)
   by_cases hkP:k=P.length
   ·rw[hkP,hs,hsp,if_neg (by omega)]
   ·rw[hN k hk hkP,hsp,mul_zero,sub_zero,h.one j p hp _ (hsrc k hk hkP)]
    by_cases hki:k=i
    ·rw[if_pos hki,if_neg (by omega),if_neg (by omega)]
    ·rw[if_neg hki]
  ·by_cases hkP:k=P.length
   ·rw[hkP,hs,hsc,if_pos rfl]
   ·rw[hN k hk hkP,hsc,FK.mul_one,sub_self,if_neg hkP]
 ·rcases hget hp with⟨hj,hp⟩|⟨rfl,rfl⟩
  ·rw[hN j (by omega) (by omega),hslow x (by have:=hpl j p hp;omega),mul_zero,sub_zero,if_neg (by omega),h.before j p hp x hx]
  ·rw[hs];exact hslow x hx
 ·rw[List.length_append,List.length_singleton]at h1
  rw[hNl]at h2
  have hsrc2:P.length≤(if k=i then P.length else k):=by split<;>omega
  rw[hN k h2 (by omega)]
  by_cases he:j=c
  ·rw[he,hsc,FK.mul_one,sub_self]
  ·rw[h.low _ hsrc2 (hsrc k h2 (by omega)) j (by omega),hslow j (by omega),mul_zero,sub_zero]
 ·rw[←h.span w]
  --s is a multiple of a row,and the row one of s
  have hs1:Span (M.map wf) s:=by rw[hat];exact(j42 hi2).smul _
  have hs2:Span (N.map wf) s:=by rw[←hs];exact j42 (by omega)
  have hmi:wf (nth M i)=fun k=>wf (nth M i) c*s k:=by
   funext k
   rw[hsk,←FK.mul_assoc,FK.mul_inv _ hne,one_mul]
  constructor
  ·refine fun hw=>hw.trans fun x hx=> ?_
   obtain⟨k,hk,rfl⟩:=tj8.1 hx
   rw[hNl]at hk
   by_cases hkP:k=P.length
   ·rw[hkP,hs];exact hs1
   ·rw[hoth k hk hkP]
    exact(j42 (hsrc k hk hkP)).axp hs1 _
  ·refine fun hw=>hw.trans fun x hx=> ?_
   obtain⟨k,hk,rfl⟩:=tj8.1 hx
   have back: ∀j,j<M.length→j≠P.length→Span (N.map wf) (wf (nth M (if j=i then P.length else j))):=fun j hj hjP=>by
    have h1:=(j42 (M:=N) (k:=j) (by omega)).axp hs2 (wf (nth M (if j=i then P.length else j)) c)
    have he:axp (wf (nth M (if j=i then P.length else j)) c) (wf (nth N j)) s=wf (nth M (if j=i then P.length else j)):=by
     funext x
     show wf (nth N j) x+_=_
     rw[hN j hj hjP,fj9]
    rwa [he]at h1
   by_cases hki:k=i
   ·rw[hki,hmi];exact hs2.smul _
   ·by_cases hkP:k=P.length
    ·have:=back i hi2 (by omega)
     rw[if_pos rfl]at this
     rw[hkP];exact this
    ·have:=back k hk hkP
     rwa [if_neg hki]at this
theorem RedI.form(h:RedI n M0 M P c):Rref n (toF (outP M P)):=by
 have hm: ∀{x},x∈toF (outP M P)→ ∃i p,P[i]? =some p∧i<M.length∧x=(p,wf (nth M i)):=fun{x} hx=>by
  obtain⟨a,ha,rfl⟩:=xe5.1 hx
  obtain⟨i,h1,h2,h3⟩:=(k91 h.pl).1 ha
  exact⟨i,a.1,h1,h2,by rw[h3]⟩
 refine⟨?_,fun x hx=> ?_,fun x hx k hk=> ?_,fun x hx=> ?_,fun x hx k hk=> ?_,fun x hx y hy hne=> ?_⟩
 ·unfold toF outP
  rw[List.pairwise_map]
  have h1:(P.zip (M.take P.length)).map Prod.fst=P:=List.map_fst_zip (by rw[List.length_take];have:=h.pl;omega)
  have h2:=h.up
  rw[←h1,List.pairwise_map]at h2
  exact h2
 ·obtain⟨i,p,h1,h2,rfl⟩:=hm hx
  show wf (nth M i) p=1
  rw[h.one i p h1 i h2,if_pos rfl]
 ·obtain⟨i,p,h1,h2,rfl⟩:=hm hx
  exact h.before i p h1 k hk
 ·obtain⟨i,p,h1,h2,rfl⟩:=hm hx
  have:=h.lt p (List.mem_of_getElem? h1)
  have:=h.cn
  show p<n;omega
 ·obtain⟨i,p,h1,h2,rfl⟩:=hm hx
  exact ez8 (by rw[h.len_nth h2];exact hk)
 ·obtain⟨i,p,h1,h2,rfl⟩:=hm hx
  obtain⟨j,r,h3,h4,rfl⟩:=hm hy
  show wf (nth M i) r=0
  rw[h.one j r h3 i h2,if_neg]
  intro e
  subst e
  rw[h1]at h3
  cases h3
  exact hne rfl
theorem RedI.done(h:RedI n M0 M P c)(h0: ∀k,P.length≤k→k<M.length→wf (nth M k)=fun _=>0)(hM0: ∀r∈M0,r.length=n):outP M P=redR M0:=by
 obtain⟨r1,r2,r3⟩:=bi2 hM0
 have hsp: ∀w,Span (rowsOf (toF (outP M P))) w↔Span (M.map wf) w:=fun w=>by
  constructor
  ·refine fun hw=>hw.trans fun x hx=> ?_
   obtain⟨a,ha,rfl⟩:=he1.1 hx
   obtain⟨i,h1,h2,h3⟩:=(k91 h.pl).1 ha
   rw[h3];exact j42 h2
  ·refine fun hw=>hw.trans fun x hx=> ?_
   obtain⟨k,hk,rfl⟩:=tj8.1 hx
   by_cases hkP:P.length≤k
   ·rw[h0 k hkP hk];exact .zero
   ·refine .mem (he1.2 ⟨(P[k],nth M k),(k91 h.pl).2 ⟨k,List.getElem?_eq_getElem (by omega),hk,rfl⟩,rfl⟩)
 have he:=h.form.uniq r1 fun w=>by rw[hsp,h.span,r3]
 --rows of one length are the same lists
 have hl:(outP M P).length=(redR M0).length:=by have:=congrArg List.length he;simpa [toF]using this
 refine List.ext_getElem hl fun i h1 h2=> ?_
 have hi:(toF (outP M P))[i]? =(toF (redR M0))[i]? :=by rw[he]
 unfold toF at hi
 rw[List.getElem?_map,List.getElem?_map,List.getElem?_eq_getElem h1,List.getElem?_eq_getElem h2]at hi
 simp only[Option.map_some,Option.some.injEq,Prod.mk.injEq]at hi
 refine Prod.ext hi.1 (ou8 ?_ hi.2)
 rw[r2 _ (List.getElem_mem h2)]
 obtain⟨k,h3,h4,h5⟩:=(k91 h.pl).1 (List.getElem_mem h1)
 rw[h5,h.len_nth h4]
theorem RedI.end'(h:RedI n M0 M P c)(hc:c=n∨P.length=M.length)(hM0: ∀r∈M0,r.length=n):outP M P=redR M0:=by
 refine h.done (fun k h1 h2=> ?_) hM0
 rcases hc with hc|hc
 ·funext j
  by_cases hj:j<c
  ·exact h.low k h1 h2 j hj
  ·exact ez8 (by rw[h.len_nth h2];omega)
 ·omega
end
end
end Go.Alg
namespace Go.Alg
section
variable {K:Type} [FK K]
def setN(c:Nat):List (Nat×List K)→List K→List K
 | [],x=>x
 |a::A,x=>setN c A (x.set a.1 (-(wf a.2 c)))
theorem ba7(c:Nat): ∀(A:List (Nat×List K)) (x:List K),(setN c A x).length=x.length
 | [],x=>rfl
 |a::A,x=>by rw[setN,ba7 c A,List.length_set]
def xRow(n c:Nat)(A:List (Nat×List K)):List K:=setN c A ((List.replicate n 0).set c 1)
theorem x22(n c:Nat)(A:List (Nat×List K)):(xRow n c A).length=n:=by rw[xRow,ba7,List.length_set,List.length_replicate]
def ez9(n:Nat)(A:List (Nat×List K)):Nat→Nat→List (List K)
 |0,_=>[]
 |d+1,c=>if(A.any fun a=>a.1==c)=true then ez9 n A d (c+1)else xRow n c A::ez9 n A d (c+1)
theorem to9(n:Nat)(A:List (Nat×List K)): ∀d c,(ez9 n A d c).length≤d
 |0,_=>Nat.le_refl _
 |d+1,c=>by
  have:=to9 n A d (c+1)
  rw[ez9]
  split
  ·omega
  ·rw[List.length_cons];omega
theorem sg4(n:Nat)(A:List (Nat×List K)): ∀d c,∀r∈ez9 n A d c,r.length=n
 |0,_,r,h=>by cases h
 |d+1,c,r,h=>by
  rw[ez9]at h
  split at h
  ·exact sg4 n A d (c+1) r h
  ·rcases List.mem_cons.1 h with rfl|h
   ·exact x22 _ _ _
   ·exact sg4 n A d (c+1) r h
def zt5(n:Nat)(M:List (List K)):List (Nat×List K):=redR (ez9 n (redR M) n 0)
end
end Go.Alg
namespace Go.Proofs.Ytmhbpecdpiapgaa
open Go.Am Go.Vm Go.Alg
def lls(nl:Nat)(m:List (List Int)):List Tree:=m.map fun l=> .sl nl 3 1 (ivs l)
theorem qf0(nl:Nat)(m:List (List Int)):(lls nl m).length=m.length:=by simp[lls]
theorem th8{nl:Nat}{m:List (List Int)}{i:Nat}{l:List Int}(h:m[i]? =some l):(lls nl m)[i]? =some (.sl nl 3 1 (ivs l)):=by
 unfold lls;rw[List.getElem?_map,h];rfl
theorem lg8(nl:Nat)(m:List (List Int)):jj5 (lls nl m)=lvs nl m:=by
 rw[gz0]
 unfold lls lvs
 rw[List.map_map]
 refine List.map_congr_left fun l _=> ?_
 show strip _=_
 rw[strip,ap3]
theorem lr8(nl:Nat)(m:List (List Int)):jj5 (lvs nl m)=lvs nl m:=by
 rw[gz0]
 unfold lvs
 rw[List.map_map]
 refine List.map_congr_left fun l _=> ?_
 show strip _=_
 rw[strip,ap3]
theorem ng3(nl:Nat)(m:List (List Int))(l:List Int):lls nl m++[.sl nl 3 1 (ivs l)]=lls nl (m++[l]):=by unfold lls;rw[List.map_append];rfl
theorem y81(nl:Nat)(m:List (List Int))(i:Nat)(l:List Int):(lls nl m).set i (.sl nl 3 1 (ivs l))=lls nl (m.set i l):=by unfold lls;rw[List.map_set]
theorem mm0(nl:Nat)(m:List (List Int))(n:Nat):(lls nl m).take n=lls nl (m.take n):=by unfold lls;rw[List.map_take]
theorem by3(nl:Nat)(m:List (List Int))(n:Nat):(lls nl m).drop n=lls nl (m.drop n):=by unfold lls;rw[List.map_drop]
theorem rj0(nl:Nat)(m:List (List Int))(n:Nat):(lvs nl m).take n=lvs nl (m.take n):=by unfold lvs;rw[List.map_take]
theorem ff4(nl:Nat)(m:List (List Int))(n:Nat):(lvs nl m).drop n=lvs nl (m.drop n):=by unfold lvs;rw[List.map_drop]
theorem lz6:ivs []=([]:List Tree):=rfl
theorem x25(nl:Nat):lls nl []=([]:List Tree):=rfl
theorem em1(nl:Nat):lvs nl []=([]:List Tree):=rfl
@[push_cast] theorem wf0{q:Int} [h:IsFld q]:isNode (pF q)=true:=by
 obtain⟨p,m,g,mod,hn⟩:=h.ok
 unfold pF;rw[hn];rfl
@[push_cast] theorem v59{q:Int} [h:IsFld q]{b:Bool}:ofz b (pF q)=some (.fz b (pF q)):=by
 obtain⟨p,m,g,mod,hn⟩:=h.ok
 unfold pF;rw[hn];rfl
theorem iva{q:Int} [IsFld q]{l:List (El q)}{i:Nat}(h:i<l.length):(ivs (vs l))[i]? =some (.v (.int .i64 (wf l i).v)):=by
 rw[ui5 (by rw[fi2];exact h),v86];rfl
theorem mva{q:Int}{nl:Nat}{M:List (List (El q))}{i:Nat}{r:List (El q)}(h:M[i]? =some r):(lvs nl (M.map vs))[i]? =some (.sl nl 0 1 (ivs (vs r))):=li3 (by rw[List.getElem?_map,h];rfl)
theorem mla{q:Int}{nl:Nat}{M:List (List (El q))}{i:Nat}{r:List (El q)}(h:M[i]? =some r):(lls nl (M.map vs))[i]? =some (.sl nl 3 1 (ivs (vs r))):=th8 (by rw[List.getElem?_map,h];rfl)
attribute [push_cast 50] List.isEmpty_nil List.isEmpty_cons nb9 qf0 lg8 lr8 ng3 mm0 by3 rj0 ff4 fi2 List.map_nil ite_self List.set_cons_zero List.set_cons_succ List.set_nil List.take_zero List.take_nil List.drop_zero List.drop_nil List.take_succ_cons List.drop_succ_cons List.take_length List.length_map List.flatMap_nil List.flatMap_cons gf1 pl3 l78 ap3 so0 nc5 yp5 u42 cs7 Int.natCast_add Int.natCast_one Int.natCast_zero Int.toNat_natCast Nat.div_one Nat.mul_one List.length_set List.all_cons List.all_nil List.length_append List.length_replicate List.length_take List.length_drop Int.zero_add
theorem vrl:(∀{zs:List Int} {i:Nat},i<zs.length→(ivs zs)[i]? =some (.v (.int .i64 (gi zs (i:Int)))))∧(∀(zs:List Int) (i:Nat) (x:Int),(ivs zs).set i (.v (.int .i64 x))=ivs (zs.set i x))∧(∀(nl:Nat) (m:List (List Int)) (i:Nat) (l:List Int),(lls nl m).set i (.sl nl 3 1 (ivs l))=lls nl (m.set i l))∧(∀{n b:Nat},n≤1000000→b≤1000→few n b=true)∧(∀{x:Int},-9223372036854775808≤x→x≤9223372036854775807→IntKind.wrap .i64 x=x)∧(∀{a b:Int},a<b→decide (a<b)=true)∧(∀{a b:Int},b≤a→decide (a<b)=false)∧(∀{a b:Int},a≤b→decide (a≤b)=true)∧(∀{a b:Int},b<a→decide (a≤b)=false)∧(∀{a b:Int},a=b→decide (a=b)=true)∧ ∀{a b:Int},¬a=b→decide (a=b)=false:=⟨ui5,lu7,y81,bj9,wrap64,dec_lt,cw6,nl3,qc6,mr8,nb8⟩
section
variable {q p m g:Int} [IsFld q] {t:Tree} {b b':Bool} {nl nl':Nat}
variable {N:Nat} {P Q:List (List (El q))} {nr nr':Nat}
end
theorem fz1{α:Type}{f:α→α}{l:List α}{j:Nat}{x:α}(hj:l[j]? =some x):((l.map f).take j++l.drop j).set j (f x)=(l.map f).take (j+1)++l.drop (j+1):=by
 obtain⟨h1,h2⟩:=List.getElem?_eq_some_iff.1 hj
 have hl:((l.map f).take j).length=j:=by rw[List.length_take,List.length_map];omega
 rw[List.set_append_right _ _ (by omega),hl,Nat.sub_self,List.drop_eq_getElem_cons h1,List.take_succ_eq_append_getElem (by rw[List.length_map];exact h1),List.getElem_map,h2]
 simp
theorem zw5{α:Type}{f:α→α}{l:List α}{j:Nat}(hj:j<l.length):((l.map f).take j++l.drop j)[j]? =l[j]? :=by
 rw[List.getElem?_append_right (by rw[List.length_take,List.length_map];omega),List.length_take,List.length_map,Nat.min_eq_left (by omega),Nat.sub_self,List.getElem?_drop,Nat.add_zero]
theorem mh9{α:Type}(f:α→α)(l:List α)(j:Nat):((l.map f).take j++l.drop j).length=l.length:=by
 simp only[List.length_append,List.length_take,List.length_drop,List.length_map];omega
theorem l44{α:Type}(f:α→α)(l:List α):(l.map f).take l.length++l.drop l.length=l.map f:=by
 rw[List.drop_length,List.append_nil,List.take_of_length_le (by simp)]
def pvR{q:Int}(A:List (Nat×List (El q))):List (List Int):=A.map fun a=>vs a.2
def pvP{α:Type}(A:List (Nat×α)):List Int:=A.map fun a=>(a.1:Int)
theorem nu3{q:Int}(A:List (Nat×List (El q))):(pvR A).length=A.length:=by simp[pvR]
theorem ga8{α:Type}(A:List (Nat×α)):(pvP A).length=A.length:=by simp[pvP]
theorem x08{q:Int}{A:List (Nat×List (El q))}{k:Nat}{a:Nat×List (El q)}(h:A[k]? =some a):(lls 2 (pvR A))[k]? =some (.sl 2 3 1 (ivs (vs a.2))):=th8 (by unfold pvR;rw[List.getElem?_map,h];rfl)
theorem bx6{α:Type}{A:List (Nat×α)}{k:Nat}{a:Nat×α}(h:A[k]? =some a):(ivs (pvP A))[k]? =some (.v (.int .i64 a.1)):=by
 have hl:=(List.getElem?_eq_some_iff.1 h).1
 rw[ui5 (by rw[ga8];exact hl)]
 unfold pvP gi
 rw[List.getD_eq_getElem?_getD,Int.toNat_natCast,List.getElem?_map,h];rfl
theorem iat{l:List Int}{i:Nat}{a:Int}(h:l[i]? =some a):(ivs l)[i]? =some (.v (.int .i64 a)):=by
 unfold ivs;rw[List.getElem?_map,h];rfl
theorem lat{nl:Nat}{m:List (List Int)}{i:Nat}{l:List Int}(h:m[i]? =some l):(lvs nl m)[i]? =some (.sl nl 0 1 (ivs l)):=li3 h
def jks(n:Nat):List Tree:=List.replicate n .junk
@[push_cast] theorem gc3(n:Nat):(jks n).length=n:=List.length_replicate ..
def nl0:Nat→Nat
 |0=>1
 |_+1=>0
def nl1:Nat→Nat
 |0=>0
 |_+1=>1
@[push_cast] theorem o09(n:Nat):nl0 (n+1)=0:=rfl
@[push_cast] theorem m17(n:Nat):nl1 (n+1)=1:=rfl
@[push_cast] theorem vt2:nl0 0=1:=rfl
@[push_cast] theorem og7:nl1 0=0:=rfl
section
variable {b:Bool} {nl:Nat} {l:List Int}
theorem u27(h0:0<l.length)(hl:l.length≤1000000):o24 W 119 [.fz b (.sl nl 0 1 (ivs l))] []=some (.own 0 [],[.sl 0 3 1 (ivs l)],[]):=by
 rw[h19 hl]
 cases l with
 |nil=>cases h0
 |cons=>rfl
def fidx{α:Type}(p:α→Bool):Nat→List α→Int
 |_,[]=> -1
 |i,a::l=>if p a=true then(i:Int)else fidx p (i+1) l
theorem tl6{α:Type}(p:α→Bool): ∀(i:Nat) (l:List α),decide (0≤fidx p i l)=l.any p
 |_,[]=>rfl
 |i,a::l=>by
  rw[fidx,List.any_cons]
  cases p a with
  |true=>rw[if_pos rfl,Bool.true_or];exact decide_eq_true (by omega)
  |false=>rw[if_neg (by decide),Bool.false_or];exact tl6 p (i+1) l
theorem nu4{α:Type}(p:α→Bool): ∀(i:Nat) (l:List α),(fidx p i l= -1∧ ∀x∈l,p x=false)∨ ∃j x,fidx p i l=((i+j:Nat):Int)∧l[j]? =some x∧p x=true
 |_,[]=> .inl ⟨rfl,fun x hx=>by cases hx⟩
 |i,a::l=>by
  rw[fidx]
  cases ha:p a with
  |true=>exact .inr ⟨0,a,by rw[if_pos rfl,Nat.add_zero],rfl,ha⟩
  |false=>
   simp only[Bool.false_eq_true,if_false]
   rcases nu4 p (i+1) l with⟨h1,h2⟩|⟨j,x,h1,h2,h3⟩
   ·refine .inl ⟨h1,fun x hx=> ?_⟩
    rcases List.mem_cons.1 hx with rfl|hx
    ·exact ha
    ·exact h2 x hx
   ·exact .inr ⟨j+1,x,by rw[h1];congr 1;omega,by rw[List.getElem?_cons_succ];exact h2,h3⟩
section
variable {k:FuncId} {t:Tree} {p:Int→Bool}
theorem k85(hk: ∀v,o24 W k [.x (.int .i64 v), .fz b t] []=some (.x (.bool (p v)),[],[]))(hM:vM k=[]){bl:Bool}(hl:l.length≤9223372036854775807): ∀(n i:Nat),i+n=l.length→ ∀ks,
 vgoL W ⟨hNo,[.tmp 4],0⟩ [0,1,7,8] c186L0 (.blk 0 []::ks) [(0, .fz bl (.sl nl 0 1 (ivs l))),(1, .fn k [.fz b t]),(7, .x (.int .i64 l.length)),(8, .x (.int .i64 i))] []=
  if fidx p i (l.drop i)= -1 then vgo W ⟨hNo,[.tmp 4],0⟩ ks (VFr.of []) []else some (.x (.int .i64 (fidx p i (l.drop i))),[],[])
 |0,i,hi,ks=>by
  rw[oh9 (by omega),fidx,if_pos rfl,sb5 c186L0.eq_def]
  simp(disch:=first|omega|fail) only[push_cast,seval,vrl,if_pos,if_neg]
 |n+1,i,hi,ks=>by
  have ih:=k85 hk hM (bl:=bl) hl n (i+1) (by omega) ks
  obtain⟨a,ha⟩:=ge6 (l:=l) (i:=i) (by omega)
  have h1:=iat ha
  rw[i62 ha,fidx]
  rw[Int.natCast_add,Int.natCast_one]at ih
  have hka:=hk a
  cases hp:p a with
  |true=>
   rw[hp]at hka
   rw[if_pos rfl,if_neg (by omega),sb5 c186L0.eq_def]
   simp(disch:=first|omega|fail) only[push_cast,seval,vrl,if_pos,if_neg,h1,hka,hM]
  |false=>
   rw[hp]at hka
   simp only[Bool.false_eq_true,if_false]
   rw[←ih,sb5 c186L0.eq_def]
   simp(disch:=first|omega|fail) only[push_cast,seval,vrl,if_pos,if_neg,h1,hka,hM]
theorem az6(hk: ∀v,o24 W k [.x (.int .i64 v), .fz b t] []=some (.x (.bool (p v)),[],[]))(hM:vM k=[]){bl:Bool}(hl:l.length≤9223372036854775807):
 o24 W 186 [.fz bl (.sl nl 0 1 (ivs l)), .fn k [.fz b t]] []=some (.x (.int .i64 (fidx p 0 l)),[],[]):=by
 have e:=fun ks=>k85 (nl:=nl) hk hM (bl:=bl) hl l.length 0 (by omega) ks
 simp only[Int.natCast_zero,List.take_zero,List.drop_zero,rp2,lz6,x25,List.map_nil,List.length_nil]at e
 rw[o10 rfl T186 rfl]
 unfold F186 c186
 simp(disch:=first|omega|fail) only[push_cast,seval,vrl,if_pos,if_neg]
 rw[e]
 by_cases h:fidx p 0 l= -1
 ·rw[if_pos h,h]
  simp(disch:=first|omega|fail) only[push_cast,seval,vrl,if_pos,if_neg]
 ·rw[if_neg h]
theorem eg0(hk: ∀v,o24 W k [.x (.int .i64 v), .fz b t] []=some (.x (.bool (p v)),[],[]))(hM:vM k=[]){bl:Bool}(hl:l.length≤9223372036854775807):
 o24 W 113 [.fz bl (.sl nl 0 1 (ivs l)), .fn k [.fz b t]] []=some (.x (.bool (l.any p)),[],[]):=by
 have e:=fun bl nl=>az6 (nl:=nl) hk hM (bl:=bl) hl
 rw[o10 rfl T113 rfl]
 unfold F113 c113
 rw[←tl6 p 0 l]
 simp(disch:=first|omega|fail) only[push_cast,seval,vrl,if_pos,if_neg,e]
end
section
variable {k:FuncId} {t:Tree} {p:List Int→Bool} {m:List (List Int)} {nr:Nat} {bl:Bool}
theorem rq1(hk: ∀r∈m,o24 W k [.fz bl (.sl nr 0 1 (ivs r)), .fz b t] []=some (.x (.bool (p r)),[],[]))(hM:vM k=[])(hl:m.length≤9223372036854775807): ∀(n i:Nat),i+n=m.length→ ∀ks,
 vgoL W ⟨hNo,[.tmp 4],0⟩ [0,1,7,8] c163L0 (.blk 0 []::ks) [(0, .fz bl (.sl nl 0 1 (lvs nr m))),(1, .fn k [.fz b t]),(7, .x (.int .i64 m.length)),(8, .x (.int .i64 i))] []=
  if fidx p i (m.drop i)= -1 then vgo W ⟨hNo,[.tmp 4],0⟩ ks (VFr.of []) []else some (.x (.int .i64 (fidx p i (m.drop i))),[],[])
 |0,i,hi,ks=>by
  rw[oh9 (by omega),fidx,if_pos rfl,sb5 c163L0.eq_def]
  simp(disch:=first|omega|fail) only[push_cast,seval,vrl,if_pos,if_neg]
 |n+1,i,hi,ks=>by
  have ih:=rq1 hk hM hl n (i+1) (by omega) ks
  obtain⟨a,ha⟩:=ge6 (l:=m) (i:=i) (by omega)
  have h1:=lat (nl:=nr) ha
  rw[i62 ha,fidx]
  rw[Int.natCast_add,Int.natCast_one]at ih
  have hka:=hk a (List.mem_of_getElem? ha)
  cases hp:p a with
  |true=>
   rw[hp]at hka
   rw[if_pos rfl,if_neg (by omega),sb5 c163L0.eq_def]
   simp(disch:=first|omega|fail) only[push_cast,seval,vrl,if_pos,if_neg,h1,hka,hM]
  |false=>
   rw[hp]at hka
   simp only[Bool.false_eq_true,if_false]
   rw[←ih,sb5 c163L0.eq_def]
   simp(disch:=first|omega|fail) only[push_cast,seval,vrl,if_pos,if_neg,h1,hka,hM]
theorem aj5(hk: ∀r∈m,o24 W k [.fz bl (.sl nr 0 1 (ivs r)), .fz b t] []=some (.x (.bool (p r)),[],[]))(hM:vM k=[])(hl:m.length≤9223372036854775807):
 o24 W 163 [.fz bl (.sl nl 0 1 (lvs nr m)), .fn k [.fz b t]] []=some (.x (.int .i64 (fidx p 0 m)),[],[]):=by
 have e:=fun ks=>rq1 (nl:=nl) hk hM hl m.length 0 (by omega) ks
 simp only[Int.natCast_zero,List.take_zero,List.drop_zero,rp2,lz6,x25,List.map_nil,List.length_nil]at e
 rw[o10 rfl T163 rfl]
 unfold F163 c163
 simp(disch:=first|omega|fail) only[push_cast,seval,vrl,if_pos,if_neg]
 rw[e]
 by_cases h:fidx p 0 m= -1
 ·rw[if_pos h,h]
  simp(disch:=first|omega|fail) only[push_cast,seval,vrl,if_pos,if_neg]
 ·rw[if_neg h]
end
end
def pn(P:List Nat):List Int:=P.map fun n:Nat=>(n:Int)
theorem im5(P:List Nat):(pn P).length=P.length:=by simp[pn]
theorem mg6{α:Type}{M:List (List α)}{i:Nat}{x:List α}(hi:i<M.length)(k:Nat):nth (M.set i x) k=if k=i then x else nth M k:=by
 unfold nth
 rw[List.getD_eq_getElem?_getD,List.getD_eq_getElem?_getD,List.getElem?_set]
 by_cases h:i=k
 ·subst h;rw[if_pos rfl,if_pos hi,if_pos rfl];rfl
 ·rw[if_neg h,if_neg fun e=>h e.symm]
theorem gu3{α:Type}{M:List (List α)}{k:Nat}(h:k<M.length):M[k]? =some (nth M k):=by rw[t70 h];exact List.getElem?_eq_getElem h
theorem vt1{K:Type} [FK K]{r o:List K}(h:r.length=o.length):dx9 0 r o=r:=by
 refine ou8 (wx1 h) ?_
 funext k
 rw[rq0 h,zero_mul,sub_zero]
def clrM{q:Int} [IsFld q](M:List (List (El q)))(at' c:Nat):List (List (El q)):=(List.range M.length).map fun k=>if k=at' then nth M k else dx9 (wf (nth M k) c) (nth M k) (nth M at')
theorem wq1{q:Int} [IsFld q](M:List (List (El q)))(at' c:Nat):(clrM M at' c).length=M.length:=by simp[clrM]
theorem kc5{q:Int} [IsFld q]{M:List (List (El q))}{at' c k:Nat}(hk:k<M.length):(clrM M at' c)[k]? =some (if k=at' then nth M k else dx9 (wf (nth M k) c) (nth M k) (nth M at')):=by
 unfold clrM;rw[List.getElem?_map,List.getElem?_range hk];rfl
section
variable {α:Type} {n i at':Nat} {M:List (List α)}
def swpM(M:List (List α))(at' i:Nat):List (List α):=(M.set at' (nth M i)).set i (nth M at')
theorem p58:(swpM M at' i).length=M.length:=by simp[swpM]
theorem fj6(ha:at'<M.length)(hi:i<M.length):nth (swpM M at' i) at'=nth M i:=by
 unfold swpM
 rw[mg6 (by simpa using hi),mg6 ha,if_pos rfl]
 by_cases h:at'=i
 ·rw[if_pos h,h]
 ·rw[if_neg h]
theorem cd8{N:List (List α)}(h: ∀k,k<N.length→(nth N k).length=n): ∀r∈N,r.length=n:=by
 intro r hr
 obtain⟨k,hk,rfl⟩:=List.getElem_of_mem hr
 rw[←t70 hk];exact h k hk
end
section
variable {q:Int} [IsFld q] {n c i at':Nat} {M:List (List (El q))}
def sclM(M:List (List (El q)))(at' i c:Nat):List (List (El q)):=(swpM M at' i).set at' (xf7 (FK.inv (wf (nth M i) c)) (nth M i))
theorem np1:(sclM M at' i c).length=M.length:=by simp[sclM,p58]
theorem ht1(ha:at'<M.length)(hi:i<M.length):nth (sclM M at' i c) at'=xf7 (FK.inv (wf (nth M i) c)) (nth M i):=by
 unfold sclM;rw[mg6 (by rw[p58];exact ha),if_pos rfl]
theorem j81(ha:at'<M.length)(hi:i<M.length){k:Nat}(hk:k≠at'):nth (sclM M at' i c) k=nth M (if k=i then at' else k):=by
 unfold sclM swpM
 rw[mg6 (by simpa using ha),if_neg hk,mg6 (by simpa using hi),mg6 ha,if_neg hk]
 by_cases h:k=i
 ·rw[if_pos h,if_pos h]
 ·rw[if_neg h,if_neg h]
theorem k39(hrow: ∀k,k<M.length→(nth M k).length=n)(ha:at'<M.length)(hi:i<M.length): ∀k,k<M.length→(nth (sclM M at' i c) k).length=n:=by
 intro k hk
 by_cases h:k=at'
 ·rw[h,ht1 ha hi];unfold xf7;rw[List.length_map,hrow i hi]
 ·rw[j81 ha hi h];exact hrow _ (by split<;>omega)
theorem qt5{M0:List (List (El q))}{P:List Nat}(h:RedI n M0 M P c)(hc:c<n)(hi:P.length≤i)(hi2:i<M.length)(hne:wf (nth M i) c≠0):RedI n M0 (clrM (sclM M P.length i c) P.length c) (P++[c]) (c+1):=by
 have ha:P.length<M.length:=by omega
 have hrow: ∀k,k<M.length→(nth M k).length=n:=fun k hk=>h.len_nth hk
 have hrs:=k39 (c:=c) hrow ha hi2
 have hN: ∀k,k<M.length→nth (clrM (sclM M P.length i c) P.length c) k=if k=P.length then nth (sclM M P.length i c) k else dx9 (wf (nth (sclM M P.length i c) k) c) (nth (sclM M P.length i c) k) (nth (sclM M P.length i c) P.length):=fun k hk=>xr8 (kc5 (by rw[np1];exact hk))
 refine h.turn hc hi hi2 hne (by rw[wq1,np1]) (cd8 fun k hk=> ?_) ?_ fun k hk hne'=> ?_
 ·rw[wq1,np1]at hk
  rw[hN k hk]
  split
  ·exact hrs k hk
  ·rw[wx1 (by rw[hrs k hk,hrs _ ha]),hrs k hk]
 ·rw[hN _ ha,if_pos rfl,ht1 ha hi2,mc3]
 ·rw[hN k hk,if_neg hne',hN _ ha,if_pos rfl,t92 (by rw[hrs k hk,hrs _ ha]),j81 ha hi2 hne']
end
end Go.Proofs.Ytmhbpecdpiapgaa
namespace Go.Alg
section
variable {K:Type} [FK K]
def disc(C s:Nat→K)(j:Nat):K:=sumN (j+1) fun k=>C k*s (j-k)
def shift(g:Nat)(B:Nat→K)(k:Nat):K:=if k<g then 0 else B (k-g)
end
end Go.Alg
namespace Go.Alg
section
variable {K:Type} [FK K]
theorem pv3(n:Nat)(f g:Nat→K):sumN n (fun i=>f i+g i)=sumN n f+sumN n g:=jl9 _ _ _
theorem x18(c:K)(n:Nat)(f:Nat→K):sumN n (fun i=>c*f i)=c*sumN n f:=ro9 _ _ _
def ofF(n:Nat)(f:Nat→K):List K:=(List.range n).map f
theorem gh0(n:Nat)(f:Nat→K):(ofF n f).length=n:=by simp[ofF]
theorem b43(n:Nat)(f:Nat→K)(k:Nat):wf (ofF n f) k=if k<n then f k else 0:=by
 by_cases h:k<n
 ·rw[if_pos h,i66 (by rw[gh0];exact h)]
  simp[ofF]
 ·rw[if_neg h,ez8 (by rw[gh0];omega)]
theorem ot8{n:Nat}{f:Nat→K}(h: ∀k,n≤k→f k=0):wf (ofF n f)=f:=by
 funext k
 rw[b43]
 split
 ·rfl
 ·exact(h k (by omega)).symm
theorem qt9:wf ([]:List K)=fun _=>0:=rfl
theorem g29(l:List K)(n k:Nat):wf (l.take n) k=if k<n then wf l k else 0:=by
 unfold wf
 rw[List.getD_eq_getElem?_getD,List.getD_eq_getElem?_getD,List.getElem?_take]
 split<;>rfl
theorem m13(n:Nat)(k:Nat):wf (List.replicate n (0:K)) k=0:=by
 by_cases h:k<n
 ·rw[i66 (by simpa using h),List.getElem_replicate]
 ·rw[ez8 (by simp;omega)]
def tN(l:List K):Nat→Nat
 |0=>0
 |n+1=>if wf l n=0 then tN l n else n+1
def xa4(l:List K):List K:=l.take (tN l l.length)
theorem vv2(l:List K): ∀n,tN l n≤n
 |0=>Nat.le_refl _
 |n+1=>by have:=vv2 l n;rw[tN];split<;>omega
theorem z25(l:List K): ∀(n i:Nat),tN l n≤i→i<n→wf l i=0
 |0,i,_,h=>by omega
 |n+1,i,h1,h2=>by
  rw[tN]at h1
  split at h1
  ·by_cases he:i=n
   ·subst he;assumption
   ·exact z25 l n i h1 (by omega)
  ·omega
theorem uv7(l:List K): ∀n,tN l n≠0→wf l (tN l n-1)≠0
 |0,h=>absurd rfl h
 |n+1,h=>by
  rw[tN]at h⊢
  split
  ·rename_i h0
   rw[if_pos h0]at h
   exact uv7 l n h
  ·rw[Nat.add_sub_cancel];assumption
theorem kf0(l:List K):(xa4 l).length=tN l l.length:=by
 unfold xa4;rw[List.length_take];have:=vv2 l l.length;omega
theorem tb1(l:List K):(xa4 l).length≤l.length:=by rw[kf0];exact vv2 _ _
theorem vb5(l:List K):wf (xa4 l)=wf l:=by
 funext k
 unfold xa4
 rw[g29]
 split
 ·rfl
 ·by_cases h2:k<l.length
  ·exact(z25 l l.length k (by omega) h2).symm
  ·exact(ez8 (by omega)).symm
theorem n18:xa4 ([]:List K)=[]:=rfl
def Trm(l:List K):Prop:=l.length≠0→wf l (l.length-1)≠0
theorem t12(l:List K):Trm (xa4 l):=by
 intro h
 rw[vb5,kf0]
 rw[kf0]at h
 exact uv7 l l.length h
theorem kf6{a:List K}(ha:Trm a){n:Nat}(h: ∀k,n≤k→wf a k=0):a.length≤n:=by
 by_cases hl:a.length≤n
 ·exact hl
 ·exact absurd (h (a.length-1) (by omega)) (ha (by omega))
theorem lz5{a b:List K}(ha:Trm a)(hb:Trm b)(h:wf a=wf b):a=b:=by
 have key: ∀{a b:List K},Trm a→wf a=wf b→a.length≤b.length:=fun ha h=>kf6 ha fun k hk=>by rw[h,ez8 hk]
 exact ou8 (Nat.le_antisymm (key ha h) (key hb h.symm)) h
theorem ou7{a:List K}(h:Trm a):xa4 a=a:=lz5 (t12 a) h (vb5 a)
theorem df7{a:List K}{n:Nat}(h: ∀k,n≤k→wf a k=0):(xa4 a).length≤n:=kf6 (t12 a) fun k hk=>by rw[vb5];exact h k hk
theorem wg5:Trm ([]:List K):=fun h=>absurd rfl h
theorem vy9{a:List K}(h:wf a=fun _=>0):xa4 a=[]:=List.eq_nil_of_length_eq_zero (Nat.le_zero.1 (df7 (n:=0) fun k _=>by rw[h]))
def addK(a b:List K):List K:=xa4 (ofF (max a.length b.length) fun k=>wf a k+wf b k)
theorem w62(a b:List K):wf (addK a b)=fun k=>wf a k+wf b k:=by
 unfold addK
 rw[vb5]
 exact ot8 fun k hk=>by rw[ez8 (by omega),ez8 (by omega),FK.add_zero]
theorem y42(a b:List K):Trm (addK a b):=t12 _
theorem mk8(a b:List K):(addK a b).length≤max a.length b.length:=df7 fun k hk=>by rw[b43,if_neg (by omega)]
theorem tt8(g:Nat→K)(k:Nat):disc (fun _=>0) g k=0:=ja4 fun _ _=>zero_mul _
theorem o59(c:K)(f g:Nat→K)(k:Nat):disc (fun i=>match i with|0=>c|i+1=>f i) g k=c*g k+(match k with|0=>0|k+1=>disc f g k):=by
 unfold disc
 rw[c66]
 cases k with
 |zero=>rfl
 |succ k=>
  refine congrArg _ (rc1 fun i hi=> ?_)
  rw[show k+1-(i+1)=k-i by omega]
theorem iu6(c:K)(l:List K):wf (c::l)=fun i=>match i with|0=>c|i+1=>wf l i:=by
 funext i
 cases i<;>rfl
theorem hr3{f g:Nat→K}{n m k:Nat}(hf: ∀i,n≤i→f i=0)(hg: ∀i,m≤i→g i=0)(hk:n+m≤k+1):disc f g k=0:=ja4 fun i hi=>by
 by_cases h:n≤i
 ·rw[hf i h,zero_mul]
 ·rw[hg (k-i) (by omega),mul_zero]
theorem ck4(f g:Nat→K)(k:Nat):disc f g k=disc g f k:=by
 unfold disc
 have: ∀(n:Nat) (h:Nat→K),sumN n h=sumN n fun i=>h (n-1-i):=by
  intro n
  induction n with
  |zero=>intro h;rfl
  |succ n ih=>
   intro h
   rw[c66,ih,cp9,FK.add_comm]
   refine congr (congrArg _ (rc1 fun i hi=> ?_)) ?_
   ·rw[show n+1-1-i=n-1-i+1 by omega]
   ·rw[show n+1-1-n=0 by omega]
 rw[this]
 refine rc1 fun i hi=> ?_
 rw[show k+1-1-i=k-i by omega,show k-(k-i)=i by omega,FK.mul_comm]
theorem d58{f g h:Nat→K}{k:Nat}:disc f (fun i=>g i+h i) k=disc f g k+disc f h k:=
 (rc1 fun i _=>FK.mul_add _ _ _).trans (pv3 _ _ _)
theorem bf5{f g h:Nat→K}{k:Nat}:disc (fun i=>f i+g i) h k=disc f h k+disc g h k:=by
 rw[ck4,d58,ck4 h f,ck4 h g]
def mulK(a b:List K):List K:=if a.length=0∨b.length=0 then []else xa4 (ofF (a.length+b.length-1) (disc (wf a) (wf b)))
theorem zu9(a b:List K):wf (mulK a b)=disc (wf a) (wf b):=by
 unfold mulK
 split
 ·rename_i h
  funext k
  rcases h with h|h
  ·rw[List.eq_nil_of_length_eq_zero h,qt9,tt8]
  ·rw[List.eq_nil_of_length_eq_zero h,ck4,qt9,tt8]
 ·rw[vb5]
  exact ot8 fun k hk=>hr3 (n:=a.length) (m:=b.length) (fun i hi=>ez8 hi) (fun i hi=>ez8 hi) (by omega)
theorem ho6(a b:List K):Trm (mulK a b):=by
 unfold mulK
 split
 ·exact wg5
 ·exact t12 _
theorem bx4(a b:List K):(mulK a b).length≤a.length+b.length-1:=by
 unfold mulK
 split
 ·exact Nat.zero_le _
 ·exact df7 fun k hk=>by rw[b43,if_neg (by omega)]
def pw(x:K):Nat→K
 |0=>1
 |n+1=>pw x n*x
def ev:List K→K→K
 | [],_=>0
 |a::l,x=>a+x*ev l x
theorem tf2: ∀(l:List K) (x:K) (n:Nat),l.length≤n→ev l x=sumN n fun i=>wf l i*pw x i
 | [],x,n,_=>(ja4 fun i _=>zero_mul _).symm
 |a::l,x,n,h=>by
  obtain⟨n,rfl⟩: ∃m,n=m+1:=⟨n-1,by simp at h;omega⟩
  rw[ev,tf2 l x n (by simpa using h),c66]
  refine congr (congrArg _ (FK.mul_one a).symm) ?_
  rw[←x18]
  refine rc1 fun i _=> ?_
  show x*(wf l i*pw x i)=wf l i*(pw x i*x)
  ac_rfl
theorem ma4{a b:List K}(h:wf a=wf b)(x:K):ev a x=ev b x:=by
 rw[tf2 a x (max a.length b.length) (by omega),tf2 b x (max a.length b.length) (by omega),h]
theorem hd5(a:List K)(x:K):ev (xa4 a) x=ev a x:=ma4 (vb5 a) x
theorem er0{a:List K}{f:Nat→K}{n:Nat}(h:wf a=f)(hn:a.length≤n)(x:K):ev a x=sumN n fun i=>f i*pw x i:=by rw[tf2 a x n hn,h]
theorem k99(a b:List K)(x:K):ev (addK a b) x=ev a x+ev b x:=by
 have hl:=mk8 a b
 rw[er0 (w62 a b) hl,tf2 a x (max a.length b.length) (by omega),tf2 b x (max a.length b.length) (by omega),←pv3]
 exact rc1 fun i _=>add_mul _ _ _
theorem tn9(b:List K)(x:K): ∀(a:List K) (N:Nat),a.length+b.length≤N→sumN N (fun i=>disc (wf a) (wf b) i*pw x i)=ev a x*ev b x
 | [],N,h=>by
   rw[ev,zero_mul]
   exact ja4 fun i _=>by rw[qt9,tt8,zero_mul]
 |c::l,N,h=>by
  obtain⟨N,rfl⟩: ∃m,N=m+1:=⟨N-1,by simp at h;omega⟩
  have ih:=tn9 b x l N (by simp at h;omega)
  have e1: ∀i,disc (wf (c::l)) (wf b) i*pw x i=c*(wf b i*pw x i)+(match i with|0=>0|i+1=>x*(disc (wf l) (wf b) i*pw x i)):=fun i=>by
   rw[iu6,o59,add_mul,FK.mul_assoc]
   cases i with
   |zero=>rw[zero_mul]
   |succ i=>
    refine congrArg _ ?_
    show disc (wf l) (wf b) i*(pw x i*x)=x*(disc (wf l) (wf b) i*pw x i)
    ac_rfl
  rw[rc1 fun i _=>e1 i,pv3,x18,←tf2 b x (N+1) (by simp at h;omega),c66]
  show c*ev b x+(0+sumN N fun i=>x*(disc (wf l) (wf b) i*pw x i))=_
  rw[zero_add,x18,ih,ev,add_mul,FK.mul_assoc]
theorem jo3(a b:List K)(x:K):ev (mulK a b) x=ev a x*ev b x:=by
 rw[er0 (zu9 a b) (n:=a.length+b.length) (by have:=bx4 a b;omega),tn9 b x a _ (Nat.le_refl _)]
theorem ft7(a:List K)(x:K):ev (a.map fun c=> -c) x= -ev a x:=by
 induction a with
 |nil=>exact neg_zero.symm
 |cons c l ih=>rw[List.map_cons,ev,ev,ih,mul_neg,tp9]
theorem qm4{f:K→K}(h0:f 0=0)(a:List K)(k:Nat):wf (a.map f) k=f (wf a k):=by
 by_cases h:k<a.length
 ·rw[i66 (by simpa using h),i66 h,List.getElem_map]
 ·rw[ez8 (by simp;omega),ez8 (by omega),h0]
def sd(x0:K):List K→List K×K
 | []=>([],0)
 | [a]=>([],a)
 |a::b::l=>((sd x0 (b::l)).2::(sd x0 (b::l)).1,a+x0*(sd x0 (b::l)).2)
theorem w89(x0:K): ∀l:List K,(sd x0 l).1.length=l.length-1
 | []=>rfl
 | [a]=>rfl
 |a::b::l=>by
  rw[sd]
  show(sd x0 (b::l)).1.length+1=_
  rw[w89 x0 (b::l)];simp
theorem n68(x0 y:K): ∀l:List K,ev l y=(y-x0)*ev (sd x0 l).1 y+(sd x0 l).2
 | []=>by rw[sd,ev,mul_zero,FK.add_zero]
 | [a]=>by
   show a+y*0=(y-x0)*0+a
   rw[mul_zero,mul_zero,FK.add_zero,zero_add]
 |a::b::l=>by
  rw[ev,n68 x0 y (b::l),sd]
  show a+y*((y-x0)*ev (sd x0 (b::l)).1 y+(sd x0 (b::l)).2)=(y-x0)*((sd x0 (b::l)).2+y*ev (sd x0 (b::l)).1 y)+(a+x0*(sd x0 (b::l)).2)
  generalize (sd x0 (b::l)).2=r
  generalize ev (sd x0 (b::l)).1 y=e
  rw[FK.mul_add,FK.mul_add,sub_mul y x0 r]
  have h1:y*((y-x0)*e)=(y-x0)*(y*e):=by ac_rfl
  rw[h1,sub_eq (y*r)]
  have h2:y*r+ -(x0*r)+(y-x0)*(y*e)+(a+x0*r)=a+((y-x0)*(y*e)+y*r)+(-(x0*r)+x0*r):=by ac_rfl
  rw[h2,neg_add,FK.add_zero]
theorem cz6(x0:K)(l:List K):(sd x0 l).2=ev l x0:=by
 have:=n68 x0 x0 l
 rw[sub_self,zero_mul,zero_add]at this
 exact this.symm
theorem rj2(x0:K): ∀l:List K,(∀c∈(sd x0 l).1,c=0)→(sd x0 l).2=0→ ∀c∈l,c=0
 | [],_,_,c,hc=>by cases hc
 | [a],_,h,c,hc=>by
   rw[List.mem_singleton.1 hc];exact h
 |a::b::l,h1,h2,c,hc=>by
  rw[sd]at h1 h2
  have hr:(sd x0 (b::l)).2=0:=h1 _ (by simp)
  have ih:=rj2 x0 (b::l) (fun c hc=>h1 c (by simp[hc])) hr
  rcases List.mem_cons.1 hc with rfl|hc
  ·rw[hr,mul_zero,FK.add_zero]at h2;exact h2
  ·exact ih c hc
theorem roots: ∀(xs:List K) (f:List K),xs.Nodup→f.length≤xs.length→(∀x∈xs,ev f x=0)→ ∀c∈f,c=0
 | [],f,_,hl,_=>by
   intro c hc
   rw[List.eq_nil_of_length_eq_zero (Nat.le_zero.1 hl)]at hc;cases hc
 |x0::xs,f,hn,hl,hx=>by
  rw[List.nodup_cons]at hn
  have h0:=hx x0 (by simp)
  rw[←cz6]at h0
  have hl2:=w89 x0 f
  rw[List.length_cons]at hl
  refine rj2 x0 f (roots xs _ hn.2 (by omega) fun y hy=> ?_) h0
  have h1:=n68 x0 y f
  rw[hx y (by simp[hy]),h0,FK.add_zero]at h1
  rcases mul_eq_zero h1.symm with h2|h2
  ·exact absurd (by rw[←sub_eq_zero.1 h2];exact hy) hn.1
  ·exact h2
theorem yw7{f:List K}(h: ∀c∈f,c=0):wf f=fun _=>0:=by
 funext k
 by_cases hk:k<f.length
 ·rw[i66 hk];exact h _ (List.getElem_mem hk)
 ·exact ez8 (by omega)
theorem u24{xs f:List K}(hn:xs.Nodup)(hl: ∀k,xs.length≤k→wf f k=0)(hx: ∀x∈xs,ev f x=0):wf f=fun _=>0:=by
 have h:=roots xs (xa4 f) hn (df7 hl) fun x h=>by rw[hd5];exact hx x h
 rw[←vb5]
 exact yw7 h
theorem yn1{xs a b:List K}(hn:xs.Nodup)(ha: ∀k,xs.length≤k→wf a k=0)(hb: ∀k,xs.length≤k→wf b k=0)(hx: ∀x∈xs,ev a x=ev b x):wf a=wf b:=by
 have h:=u24 (f:=addK a (b.map fun c=> -c)) hn (fun k hk=>by
  rw[w62]
  show wf a k+wf (b.map fun c=> -c) k=0
  rw[qm4 neg_zero,ha k hk,hb k hk,neg_zero,FK.add_zero]) fun x h=>by rw[k99,ft7,hx x h,FK.add_neg]
 funext k
 have h2:wf a k+wf (b.map fun c=> -c) k=0:=by
  have:=congrFun h k
  rw[w62]at this
  exact this
 rw[qm4 neg_zero]at h2
 exact sub_eq_zero.1 h2
end
end Go.Alg
namespace Go.Alg
section
variable {K:Type} [FK K]
theorem uj8(c:K)(k:Nat)(g:Nat→K)(j:Nat):disc (fun i=>if i=k then c else 0) g j=c*shift k g j:=by
 unfold shift
 split
 ·rename_i h
  rw[mul_zero]
  exact ja4 fun i hi=>by
   show(if i=k then c else 0)*_=_
   rw[if_neg (by omega),zero_mul]
 ·rename_i h
  unfold disc
  rw[xq2 (s:=k) (by omega) fun i _ hne=>by
   show(if i=k then c else 0)*_=_
   rw[if_neg hne,zero_mul]]
  show(if k=k then c else 0)*_=_
  rw[if_pos rfl]
end
end Go.Alg
namespace Go.Proofs.Ytmhbpecdpiapgaa
open Go.Am Go.Vm Go.Alg
def polE(q:Int)(a:List Int):Int:=match fldN q.toNat with
 |none=>1
 |some _=>if 128<a.length then 4 else if(a.any fun v=> !fok q v)=true then 2 else 0
theorem i69{q:Int}(a:List (El q)):((vs a).any fun v=> !fok q v)=false:=List.any_eq_false.2 fun z hz=>by
 obtain⟨x,_,rfl⟩:=List.mem_map.1 hz
 rw[x.ok];decide
theorem i31{q:Int} [h:IsFld q]{a:List (El q)}(hl:a.length≤128):polE q (vs a)=0:=by
 obtain⟨p,m,g,mod,hn⟩:=h.ok
 unfold polE
 rw[hn]
 simp only
 rw[if_neg (by rw[fi2];omega),i69,if_neg (by decide)]
section
variable {q:Int} {b:Bool} {nl:Nat} {l:List Int}
theorem kj6 [IsFld q](hl:l.length≤9223372036854775807): ∀(n i:Nat),i+n=l.length→ ∀ks,
 vgoL W ⟨hNo,[.tmp 4],0⟩ [5,20,21,22] c127L0 (.blk 0 []::ks) [(5, .fz true (pF q)),(20, .fz b (.sl nl 0 1 (ivs l))),(21, .x (.int .i64 l.length)),(22, .x (.int .i64 i))] []=if((l.drop i).any fun v=> !fok q v)=true then some (.x (.int .i64 2),[],[])else vgo W ⟨hNo,[.tmp 4],0⟩ ks (VFr.of []) []
 |0,i,hi,ks=>by
  rw[oh9 (by omega),if_neg (by simp),sb5 c127L0.eq_def]
  simp(disch:=first|omega|fail) only[push_cast,seval,vrl,if_pos,if_neg]
 |n+1,i,hi,ks=>by
  have ih:=kj6 hl n (i+1) (by omega) ks
  obtain⟨a,ha⟩:=ge6 (l:=l) (i:=i) (by omega)
  have h1:=iat ha
  rw[i62 ha,List.any_cons]
  rw[Int.natCast_add,Int.natCast_one]at ih
  cases hk:fok q a with
  |false=>
   rw[if_pos (by rfl),sb5 c127L0.eq_def]
   simp(disch:=first|omega|fail) only[push_cast,seval,vrl,if_pos,if_neg,h1,hk]
  |true=>
   rw[Bool.not_true,Bool.false_or,←ih,sb5 c127L0.eq_def]
   simp(disch:=first|omega|fail) only[push_cast,seval,vrl,if_pos,if_neg,h1,hk]
theorem bw7(hl:l.length≤9223372036854775807):o24 W 127 [.x (.int .i64 q), .fz b (.sl nl 0 1 (ivs l))] []=some (.x (.int .i64 (polE q l)),[],[]):=by
 unfold polE
 cases hn:fldN q.toNat with
 |none=>
  have e0:=ug9 hn
  rw[o10 rfl T127 rfl]
  unfold F127 c127
  simp(disch:=first|omega|fail) only[push_cast,seval,vrl,if_pos,if_neg,e0]
 |some x=>
  obtain⟨p0,m0,g0,mod⟩:=x
  haveI:IsFld q:=⟨⟨p0,m0,g0,mod,hn⟩⟩
  simp only
  by_cases h1:128<l.length
  ·rw[if_pos h1,o10 rfl T127 rfl]
   unfold F127 c127
   simp(disch:=first|omega|fail) only[push_cast,seval,vrl,if_pos,if_neg]
  ·rw[if_neg h1]
   have e:=fun ks=>kj6 (q:=q) hl (b:=b) (nl:=nl) l.length 0 (by omega) ks
   simp only[Int.natCast_zero,List.take_zero,List.drop_zero,rp2,lz6,x25,List.map_nil,List.length_nil]at e
   rw[o10 rfl T127 rfl]
   unfold F127 c127
   simp(disch:=first|omega|fail) only[push_cast,seval,vrl,if_pos,if_neg]
   rw[e]
   by_cases h2:(l.any fun v=> !fok q v)=true
   ·rw[if_pos h2,if_pos h2]
   ·rw[if_neg h2,if_neg h2]
    simp(disch:=first|omega|fail) only[push_cast,seval,vrl,if_pos,if_neg]
end
section
variable {q:Int} [IsFld q] {b:Bool} {nl:Nat} {a:List (El q)}
theorem ee1(a:List (El q))(n:Nat):(vs a).take n=vs (a.take n):=by unfold vs;rw[List.map_take]
theorem ks8(a:List (El q)):nlT (vs a)=nlT a:=b99 _ _
theorem yc2(hl:a.length≤1000000): ∀(n:Nat),n≤a.length→ ∀ks,
 vgoL W ⟨hNo,[.tmp 2],0⟩ [0,3] c191L0 (.blk 0 [0,3]::ks) [(0, .fz b (.sl nl 0 1 (ivs (vs a)))),(3, .x (.int .i64 n))] []=vgo W ⟨hNo,[.tmp 2],0⟩ ks (VFr.of [(0, .fz b (.sl nl 0 1 (ivs (vs a)))),(3, .x (.int .i64 (tN a n:Nat)))]) []
 |0,hn,ks=>by
  rw[sb5 c191L0.eq_def,tN]
  simp(disch:=first|omega|fail) only[push_cast,seval,vrl,if_pos,if_neg]
 |n+1,hn,ks=>by
  have ih:=yc2 hl n (by omega) ks
  have h1:=iva (l:=a) (i:=n) (by omega)
  have w1:IntKind.wrap .i64 (((n+1:Nat):Int)-1)=(n:Int):=by rw[wrap64 (by omega) (by omega)];omega
  rw[Int.natCast_add,Int.natCast_one]at w1
  rw[sb5 c191L0.eq_def,tN]
  by_cases h0:wf a n=0
  ·rw[if_pos h0,←ih]
   have h2:(wf a n).v=0:=r57.2 h0
   simp(disch:=first|omega|fail) only[push_cast,seval,vrl,if_pos,if_neg,w1,h1,h2]
  ·rw[if_neg h0]
   have h2: ¬(wf a n).v=0:=fun e=>h0 (r57.1 e)
   simp(disch:=first|omega|fail) only[push_cast,seval,vrl,if_pos,if_neg,w1,h1,nb8 h2]
theorem di3(hl:a.length≤1000000):o24 W 191 [.fz b (.sl nl 0 1 (ivs (vs a)))] []=some (.own 0 [],[.sl (nlT (xa4 a)) 3 1 (ivs (vs (xa4 a)))],[]):=by
 have hle:=vv2 a a.length
 have e:=fun ks=>yc2 (b:=b) (nl:=nl) hl a.length (Nat.le_refl _) ks
 have htk:(vs a).take (tN a a.length)=vs (xa4 a):=ee1 _ _
 have hlt:=tb1 a
 have e1:=fun b nl=>h19 (b:=b) (nl:=nl) (zs:=vs (xa4 a)) (by rw[fi2];omega)
 simp only[ks8]at e1
 rw[o10 rfl T191 rfl]
 unfold F191 c191
 simp(disch:=first|omega|fail) only[push_cast,seval,vrl,if_pos,if_neg]
 rw[e]
 simp(disch:=first|omega|fail) only[push_cast,seval,vrl,if_pos,if_neg,htk,e1,Int.sub_zero]
end
end Go.Proofs.Ytmhbpecdpiapgaa
namespace Go.Alg
section
variable {K:Type} [FK K]
def addT(y:List K):Nat→Nat→List K→List K
 |0,_,z=>z
 |n+1,i,z=>addT y n (i+1) (z.set i (wf z i+wf y i))
theorem tl9(y:List K): ∀(n i:Nat) (z:List K),(addT y n i z).length=z.length
 |0,_,_=>rfl
 |n+1,i,z=>by rw[addT,tl9 y n,List.length_set]
theorem e73(y:List K): ∀(n i:Nat) (z:List K),i+n≤z.length→ ∀j,wf (addT y n i z) j=if i≤j∧j<i+n then wf z j+wf y j else wf z j
 |0,i,z,_,j=>by rw[addT,if_neg (by omega)]
 |n+1,i,z,h,j=>by
  rw[addT,e73 y n (i+1) _ (by rw[List.length_set];omega),wf_set (by omega)]
  by_cases h1:j=i
  ·subst h1
   rw[if_neg (by omega),if_pos rfl,if_pos (by omega)]
  ·rw[if_neg h1]
   by_cases h2:i+1≤j∧j<i+1+n
   ·rw[if_pos h2,if_pos (by omega)]
   ·rw[if_neg h2,if_neg (by omega)]
theorem ip0{x y:List K}(h:y.length≤x.length):xa4 (addT y y.length 0 x)=addK x y:=by
 refine lz5 (t12 _) (y42 _ _) ?_
 rw[vb5,w62]
 funext j
 rw[e73 _ _ _ _ (by omega)]
 split
 ·rfl
 ·rw[ez8 (l:=y) (by omega),FK.add_zero]
theorem c89(a b:List K):addK a b=addK b a:=lz5 (y42 _ _) (y42 _ _) (by
 rw[w62,w62]
 funext j
 exact FK.add_comm _ _)
theorem zy5(a b:List K):addK (xa4 a) (xa4 b)=addK a b:=lz5 (y42 _ _) (y42 _ _) (by rw[w62,w62,vb5,vb5])
def je7(v:K)(b:List K)(i:Nat):Nat→Nat→List K→List K
 |0,_,z=>z
 |n+1,k,z=>je7 v b i n (k+1) (z.set (i+k) (wf z (i+k)+v*wf b k))
def yc0(a b:List K):Nat→Nat→List K→List K
 |0,_,z=>z
 |n+1,i,z=>yc0 a b n (i+1) (je7 (wf a i) b i b.length 0 z)
theorem qo8(v:K)(b:List K)(i:Nat): ∀(n k:Nat) (z:List K),(je7 v b i n k z).length=z.length
 |0,_,_=>rfl
 |n+1,k,z=>by rw[je7,qo8 v b i n,List.length_set]
theorem th9(a b:List K): ∀(n i:Nat) (z:List K),(yc0 a b n i z).length=z.length
 |0,_,_=>rfl
 |n+1,i,z=>by rw[yc0,th9 a b n,qo8]
theorem h46(v:K)(b:List K)(i:Nat): ∀(n k:Nat) (z:List K),i+k+n≤z.length→ ∀j,wf (je7 v b i n k z) j=if i+k≤j∧j<i+k+n then wf z j+v*wf b (j-i)else wf z j
 |0,k,z,_,j=>by rw[je7,if_neg (by omega)]
 |n+1,k,z,h,j=>by
  rw[je7,h46 v b i n (k+1) _ (by rw[List.length_set];omega),wf_set (by omega)]
  by_cases h1:j=i+k
  ·subst h1
   rw[if_neg (by omega),if_pos rfl,if_pos (by omega),Nat.add_sub_cancel_left]
  ·rw[if_neg h1]
   by_cases h2:i+(k+1)≤j∧j<i+(k+1)+n
   ·rw[if_pos h2,if_pos (by omega)]
   ·rw[if_neg h2,if_neg (by omega)]
theorem sj6(v:K)(b:List K)(i:Nat)(z:List K)(h:i+b.length≤z.length)(j:Nat):wf (je7 v b i b.length 0 z) j=wf z j+v*shift i (wf b) j:=by
 rw[h46 v b i _ _ _ (by omega)]
 unfold shift
 by_cases h1:j<i
 ·rw[if_neg (by omega),if_pos h1,mul_zero,FK.add_zero]
 ·rw[if_neg h1]
  by_cases h2:j<i+b.length
  ·rw[if_pos (by omega)]
  ·rw[if_neg (by omega),ez8 (l:=b) (by omega),mul_zero,FK.add_zero]
theorem ok7(a b:List K): ∀(n i:Nat) (z:List K),i+n=a.length→a.length+b.length≤z.length+1→(∀j,wf z j=disc (fun k=>if k<i then wf a k else 0) (wf b) j)→ ∀j,wf (yc0 a b n i z) j=disc (wf a) (wf b) j
 |0,i,z,hi,hz,h,j=>by
  rw[yc0,h]
  congr 1
  funext k
  split
  ·rfl
  ·exact(ez8 (by omega)).symm
 |n+1,i,z,hi,hz,h,j=>by
  rw[yc0]
  refine ok7 a b n (i+1) _ (by omega) (by rw[qo8];exact hz) (fun k=> ?_) j
  rw[sj6 _ _ _ _ (by omega),h,←uj8,←bf5]
  congr 1
  funext l
  by_cases h1:l=i
  ·subst h1;rw[if_neg (by omega),if_pos rfl,if_pos (by omega),zero_add]
  ·by_cases h2:l<i
   ·rw[if_pos h2,if_neg h1,if_pos (by omega),FK.add_zero]
   ·rw[if_neg h2,if_neg h1,if_neg (by omega),FK.add_zero]
theorem cf5{a b:List K}(ha:a.length≠0)(hb:b.length≠0):xa4 (yc0 a b a.length 0 (List.replicate (a.length+b.length-1) 0))=mulK a b:=by
 refine lz5 (t12 _) (ho6 _ _) ?_
 rw[vb5,zu9]
 funext j
 exact ok7 a b _ _ _ (by omega) (by rw[List.length_replicate];omega) (fun j=>by
  rw[m13]
  exact(ja4 fun k _=>by
   show(if k<0 then wf a k else 0)*_=_
   rw[if_neg (by omega),zero_mul]).symm) j
theorem u69(a b:List K):mulK (xa4 a) (xa4 b)=mulK a b:=lz5 (ho6 _ _) (ho6 _ _) (by rw[zu9,zu9,vb5,vb5])
theorem hz4{a b:List K}(h:a.length=0∨b.length=0):mulK a b=[]:=by unfold mulK;rw[if_pos h]
def evT(l:List K)(x:K):Nat→K→K
 |0,v=>v
 |n+1,v=>evT l x n (v*x+wf l n)
theorem av1(l:List K)(x:K): ∀(n:Nat) (v:K),evT l x n v=v*pw x n+sumN n fun i=>wf l i*pw x i
 |0,v=>by rw[evT,wr8,FK.add_zero];exact(FK.mul_one v).symm
 |n+1,v=>by
  rw[evT,av1 l x n,cp9,add_mul,FK.add_assoc,FK.add_comm (wf l n*pw x n)]
  congr 1
  show v*x*pw x n=v*(pw x n*x)
  ac_rfl
theorem gr6(l:List K)(x:K):evT l x l.length 0=ev l x:=by
 rw[av1,zero_mul,zero_add,←tf2 l x l.length (Nat.le_refl _)]
end
end Go.Alg
namespace Go.Proofs.Ytmhbpecdpiapgaa
open Go.Am Go.Vm Go.Alg
section
variable {q:Int} {b b':Bool} {nl nl':Nat}
theorem ce8 [IsFld q]{a c:List (El q)}(ha:a.length≤128)(hc:c.length≤128):
 o24 W 189 [.x (.int .i64 q), .fz b (.sl nl 0 1 (ivs (vs a))), .fz b' (.sl nl' 0 1 (ivs (vs c)))] []=some (.tup [.fz true (pF q), .own 0 [], .own 1 [], .x (.int .i64 0)],[.sl (nlT (xa4 a)) 3 1 (ivs (vs (xa4 a))), .sl (nlT (xa4 c)) 3 1 (ivs (vs (xa4 c)))],[]):=by
 have e1:=fun b nl=>bw7 (q:=q) (b:=b) (nl:=nl) (l:=vs a) (by rw[fi2];omega)
 have e2:=fun b nl=>bw7 (q:=q) (b:=b) (nl:=nl) (l:=vs c) (by rw[fi2];omega)
 simp only[i31 ha]at e1
 simp only[i31 hc]at e2
 have e3:=fun b nl=>di3 (b:=b) (nl:=nl) (a:=a) (by omega)
 have e4:=fun b nl=>di3 (b:=b) (nl:=nl) (a:=c) (by omega)
 rw[o10 rfl T189 rfl]
 unfold F189 c189
 simp(disch:=first|omega|fail) only[push_cast,seval,vrl,if_pos,if_neg,e1,e2,e3,e4]
theorem ae4 [IsFld q]{y:List (El q)}(hy:y.length≤1000): ∀(n i:Nat) (z:List (El q)),i+n=y.length→y.length≤z.length→ ∀ks,
 vgoL W ⟨h131,[.tmp 6, .tmp 7],0⟩ [1,8,31,32,33] c131L0 (.blk 0 [1]::ks) [(1, .own 0 []),(8, .fz true (pF q)),(31, .own 1 []),(32, .x (.int .i64 y.length)),(33, .x (.int .i64 i))] [.sl nl 3 1 (ivs (vs z)), .sl nl' 3 1 (ivs (vs y))]=
  vgo W ⟨h131,[.tmp 6, .tmp 7],0⟩ ks (VFr.of [(1, .own 0 [])]) [.sl nl 3 1 (ivs (vs (addT y n i z))), .sl nl' 3 1 (ivs (vs y))]
 |0,i,z,hi,hz,ks=>by
  rw[addT,sb5 c131L0.eq_def]
  simp(disch:=first|omega|fail) only[push_cast,seval,vrl,if_pos,if_neg]
 |n+1,i,z,hi,hz,ks=>by
  have ih:=ae4 hy n (i+1) (z.set i (wf z i+wf y i)) (by omega) (by rw[List.length_set];exact hz) ks
  have h1:=iva (l:=y) (i:=i) (by omega)
  have h2:=iva (l:=z) (i:=i) (by omega)
  rw[Int.natCast_add,Int.natCast_one,←g52,on0]at ih
  rw[addT,←ih,sb5 c131L0.eq_def]
  simp(disch:=first|omega|fail) only[push_cast,seval,vrl,if_pos,if_neg,h1,h2]
theorem wa2 [IsFld q]{a c:List (El q)}(ha:a.length≤128)(hc:c.length≤128):
 o24 W 131 [.x (.int .i64 q), .fz b (.sl nl 0 1 (ivs (vs a))), .fz b' (.sl nl' 0 1 (ivs (vs c)))] []=some (.tup [.own 0 [], .x (.int .i64 0)],[.sl (nlT (addK a c)) 3 1 (ivs (vs (addK a c)))],[]):=by
 have e1:=fun b nl b' nl'=>ce8 (b:=b) (nl:=nl) (b':=b') (nl':=nl') ha hc
 have la:=tb1 a
 have lc:=tb1 c
 have hs:=zy5 a c
 by_cases hl:(xa4 a).length<(xa4 c).length
 ·have e2:=fun nl nl' ks=>ae4 (q:=q) (nl:=nl) (nl':=nl') (y:=xa4 a) (by omega) (xa4 a).length 0 (xa4 c) (by omega) (by omega) ks
  have ht:=ip0 (x:=xa4 c) (y:=xa4 a) (by omega)
  rw[c89,hs]at ht
  have e3:=fun b nl=>di3 (b:=b) (nl:=nl) (a:=addT (xa4 a) (xa4 a).length 0 (xa4 c)) (by rw[tl9];omega)
  simp only[ht]at e3
  generalize addT (xa4 a) (xa4 a).length 0 (xa4 c)=Z at*
  generalize xa4 a=A at*
  generalize xa4 c=C at*
  simp only[Int.natCast_zero,List.take_zero,List.drop_zero,rp2,lz6,x25,List.map_nil,List.length_nil]at e2
  rw[o10 rfl T131 rfl]
  unfold F131 c131
  simp(disch:=first|omega|fail) only[push_cast,seval,vrl,if_pos,if_neg,e1]
  rw[e2]
  simp(disch:=first|omega|fail) only[push_cast,seval,vrl,if_pos,if_neg,e3]
 ·have e2:=fun nl nl' ks=>ae4 (q:=q) (nl:=nl) (nl':=nl') (y:=xa4 c) (by omega) (xa4 c).length 0 (xa4 a) (by omega) (by omega) ks
  have ht:=ip0 (x:=xa4 a) (y:=xa4 c) (by omega)
  rw[hs]at ht
  have e3:=fun b nl=>di3 (b:=b) (nl:=nl) (a:=addT (xa4 c) (xa4 c).length 0 (xa4 a)) (by rw[tl9];omega)
  simp only[ht]at e3
  generalize addT (xa4 c) (xa4 c).length 0 (xa4 a)=Z at*
  generalize xa4 a=A at*
  generalize xa4 c=C at*
  simp only[Int.natCast_zero,List.take_zero,List.drop_zero,rp2,lz6,x25,List.map_nil,List.length_nil]at e2
  rw[o10 rfl T131 rfl]
  unfold F131 c131
  simp(disch:=first|omega|fail) only[push_cast,seval,vrl,if_pos,if_neg,e1]
  rw[e2]
  simp(disch:=first|omega|fail) only[push_cast,seval,vrl,if_pos,if_neg,e3]
theorem n82 [IsFld q]{a c:List (El q)}{i:Nat}{v:El q}(hc:c.length≤1000)(hi:i≤1000){A:List (El q)}{iA:Int}: ∀(n k:Nat) (z:List (El q)),k+n=c.length→i+c.length≤z.length→ ∀ks,
 vgoL W ⟨h190,[.tmp 6],0⟩ [0,2,7,8,9,27,28,29,34,35,36] c190L0 (.blk 2 [0,2,7,27,28,29]::ks) [(0, .fz true (pF q)),(2, .fz b' (.sl nl' 0 1 (ivs (vs c)))),(7, .own 0 []),(8, .x (.int .i64 i)),(9, .x (.int .i64 v.v)),(27, .fz b (.sl nl 0 1 (ivs (vs a)))),(28, .x (.int .i64 iA)),(29, .x (.int .i64 i)),(34, .fz b' (.sl nl' 0 1 (ivs (vs c)))),(35, .x (.int .i64 c.length)),(36, .x (.int .i64 k))] [.sl 0 3 1 (ivs (vs z))]=
  vgo W ⟨h190,[.tmp 6],0⟩ ks (VFr.of [(0, .fz true (pF q)),(2, .fz b' (.sl nl' 0 1 (ivs (vs c)))),(7, .own 0 []),(27, .fz b (.sl nl 0 1 (ivs (vs a)))),(28, .x (.int .i64 iA)),(29, .x (.int .i64 i))]) [.sl 0 3 1 (ivs (vs (je7 v c i n k z)))]
 |0,k,z,hk,hz,ks=>by
  rw[je7,sb5 c190L0.eq_def]
  simp(disch:=first|omega|fail) only[push_cast,seval,vrl,if_pos,if_neg]
 |n+1,k,z,hk,hz,ks=>by
  have ih:=n82 (a:=a) (v:=v) hc hi (A:=A) (iA:=iA) n (k+1) (z.set (i+k) (wf z (i+k)+v*wf c k)) (by omega) (by rw[List.length_set];exact hz) ks
  have h1:=iva (l:=c) (i:=k) (by omega)
  have h2:=iva (l:=z) (i:=i+k) (by omega)
  have w1:IntKind.wrap .i64 ((i:Int)+(k:Int))=((i+k:Nat):Int):=by rw[wrap64 (by omega) (by omega)];omega
  rw[Int.natCast_add,Int.natCast_one,←g52,on0,ym6]at ih
  rw[je7,←ih,sb5 c190L0.eq_def]
  generalize hG:i+k=ik at*
  simp(disch:=first|omega|fail) only[push_cast,seval,vrl,if_pos,if_neg,h1,w1,h2]
theorem e41 [IsFld q]{a c:List (El q)}(ha:a.length≤900)(hc:c.length≤1000): ∀(n i:Nat) (z:List (El q)),i+n=a.length→a.length+c.length≤z.length+1→ ∀ks,
 vgoL W ⟨h190,[.tmp 6],0⟩ [0,2,7,27,28,29] c190L1 (.blk 0 [7]::ks) [(0, .fz true (pF q)),(2, .fz b' (.sl nl' 0 1 (ivs (vs c)))),(7, .own 0 []),(27, .fz b (.sl nl 0 1 (ivs (vs a)))),(28, .x (.int .i64 a.length)),(29, .x (.int .i64 i))] [.sl 0 3 1 (ivs (vs z))]=
  vgo W ⟨h190,[.tmp 6],0⟩ ks (VFr.of [(7, .own 0 [])]) [.sl 0 3 1 (ivs (vs (yc0 a c n i z)))]
 |0,i,z,hi,hz,ks=>by
  rw[yc0,sb5 c190L1.eq_def]
  simp(disch:=first|omega|fail) only[push_cast,seval,vrl,if_pos,if_neg]
 |n+1,i,z,hi,hz,ks=>by
  have ih:=e41 ha hc n (i+1) (je7 (wf a i) c i c.length 0 z) (by omega) (by rw[qo8];exact hz) ks
  have h1:=iva (l:=a) (i:=i) (by omega)
  have e:=fun iA ks=>n82 (b:=b) (nl:=nl) (b':=b') (nl':=nl') (a:=a) (c:=c) (i:=i) (v:=wf a i) hc (by omega) (A:=a) (iA:=iA) c.length 0 z (by omega) (by omega) ks
  simp only[Int.natCast_zero,List.take_zero,List.drop_zero,rp2,lz6,x25,List.map_nil,List.length_nil]at e
  rw[Int.natCast_add,Int.natCast_one]at ih
  rw[yc0,←ih,sb5 c190L1.eq_def]
  simp(disch:=first|omega|fail) only[push_cast,seval,vrl,if_pos,if_neg,h1]
  rw[e]
  simp(disch:=first|omega|fail) only[push_cast,seval,vrl,if_pos,if_neg]
theorem td9 [IsFld q]{a c:List (El q)}(ha:a.length≤500)(hc:c.length≤500): ∃n,o24 W 190 [.fz true (pF q), .fz b (.sl nl 0 1 (ivs (vs a))), .fz b' (.sl nl' 0 1 (ivs (vs c)))] []=some (.own 0 [],[.sl n 3 1 (ivs (vs (mulK a c)))],[]):=by
 by_cases h0:a.length=0∨c.length=0
 ·refine⟨1, ?_⟩
  rw[hz4 h0,o10 rfl T190 rfl]
  unfold F190 c190
  by_cases h1:a.length=0
  ·simp(disch:=first|omega|fail) only[push_cast,seval,vrl,if_pos,if_neg,h1]
   rfl
  ·have h2:c.length=0:=by omega
   simp(disch:=first|omega|fail) only[push_cast,seval,vrl,if_pos,if_neg,h2]
   rfl
 ·refine⟨nlT (mulK a c), ?_⟩
  have hp:=cf5 (a:=a) (b:=c) (by omega) (by omega)
  have e:=fun ks=>e41 (q:=q) (b:=b) (nl:=nl) (b':=b') (nl':=nl') (a:=a) (c:=c) (by omega) (by omega) a.length 0 (List.replicate (a.length+c.length-1) 0) (by omega) (by rw[List.length_replicate];omega) ks
  have e3:=fun b nl=>di3 (b:=b) (nl:=nl) (a:=yc0 a c a.length 0 (List.replicate (a.length+c.length-1) 0)) (by rw[th9,List.length_replicate];omega)
  simp only[hp]at e3
  have hz:List.replicate (a.length+c.length-1) (0:Int)=vs (List.replicate (a.length+c.length-1) (0:El q)):=by rw[←qj2];rfl
  generalize yc0 a c a.length 0 (List.replicate (a.length+c.length-1) 0)=Z at*
  simp only[Int.natCast_zero,List.take_zero,List.drop_zero,rp2,lz6,x25,List.map_nil,List.length_nil]at e
  have w1:IntKind.wrap .i64 (((a.length:Nat):Int)+((c.length:Nat):Int)-1)=((a.length+c.length-1:Nat):Int):=by rw[wrap64 (by omega) (by omega)];omega
  generalize hk:a.length+c.length-1=k at*
  rw[o10 rfl T190 rfl]
  unfold F190 c190
  simp(disch:=first|omega|fail) only[push_cast,seval,vrl,if_pos,if_neg,w1,hz]
  rw[e]
  simp(disch:=first|omega|fail) only[push_cast,seval,vrl,if_pos,if_neg,e3]
def ca3{q:Int} [IsFld q](a c:List (El q)):Prop:=(xa4 a).length≠0∧(xa4 c).length≠0∧128<(xa4 a).length+(xa4 c).length-1
theorem h85 [IsFld q]{a c:List (El q)}(ha:a.length≤128)(hc:c.length≤128)(h: ¬ca3 a c):
 ∃n,o24 W 130 [.x (.int .i64 q), .fz b (.sl nl 0 1 (ivs (vs a))), .fz b' (.sl nl' 0 1 (ivs (vs c)))] []=some (.tup [.own 0 [], .x (.int .i64 0)],[.sl n 3 1 (ivs (vs (mulK a c)))],[]):=by
 have e1:=fun b nl b' nl'=>ce8 (b:=b) (nl:=nl) (b':=b') (nl':=nl') ha hc
 have la:=tb1 a
 have lc:=tb1 c
 have hm:=u69 a c
 unfold ca3 at h
 obtain⟨n,e2⟩:=td9 (b:=false) (nl:=nlT (xa4 a)) (b':=false) (nl':=nlT (xa4 c)) (a:=xa4 a) (c:=xa4 c) (by omega) (by omega)
 rw[hm]at e2
 by_cases h0:(xa4 a).length=0∨(xa4 c).length=0
 ·rw[hz4 h0]at hm
  refine⟨1, ?_⟩
  rw[←hm]
  generalize xa4 a=A at*
  generalize xa4 c=C at*
  rw[o10 rfl T130 rfl]
  unfold F130 c130
  by_cases h1:A.length=0
  ·simp(disch:=first|omega|fail) only[push_cast,seval,vrl,if_pos,if_neg,e1,h1]
   rfl
  ·have h2:C.length=0:=by omega
   have h1': ¬(A.length:Int)=0:=by omega
   simp(disch:=first|omega|fail) only[push_cast,seval,vrl,if_pos,if_neg,e1,nb8 h1',h2]
   rfl
 ·refine⟨n, ?_⟩
  generalize mulK a c=Z at*
  generalize xa4 a=A at*
  generalize xa4 c=C at*
  have h1': ¬(A.length:Int)=0:=by omega
  have h2': ¬(C.length:Int)=0:=by omega
  rw[o10 rfl T130 rfl]
  unfold F130 c130
  simp(disch:=first|omega|fail) only[push_cast,seval,vrl,if_pos,if_neg,e1,nb8 h1',nb8 h2',e2]
end
section
variable {q:Int} {b b':Bool} {nl nl':Nat}
theorem tu0 [IsFld q]{a:List (El q)}{x:El q}(hl:a.length≤1000): ∀(n:Nat) (v:El q),n≤a.length→ ∀ks,
 vgoL W ⟨hNo,[.tmp 6, .tmp 7],0⟩ [1,2,8,11,12] c125L0 (.blk 0 [11]::ks) [(1, .own 0 []),(2, .x (.int .i64 x.v)),(8, .fz true (pF q)),(11, .x (.int .i64 v.v)),(12, .x (.int .i64 ((n:Int)-1)))] [.sl nl 3 1 (ivs (vs a))]=
  vgo W ⟨hNo,[.tmp 6, .tmp 7],0⟩ ks (VFr.of [(11, .x (.int .i64 ((evT a x n v).v)))]) [.sl nl 3 1 (ivs (vs a))]
 |0,v,hn,ks=>by
  rw[evT,sb5 c125L0.eq_def]
  simp(disch:=first|omega|fail) only[push_cast,seval,vrl,if_pos,if_neg]
 |n+1,v,hn,ks=>by
  have ih:=tu0 (x:=x) hl n (v*x+wf a n) (by omega) ks
  have l1:=iva (l:=a) (i:=n) (by omega)
  have e9:((n+1:Nat):Int)-1=(n:Int):=by omega
  rw[on0,ym6]at ih
  rw[evT,←ih,e9,sb5 c125L0.eq_def]
  simp(disch:=first|omega|fail) only[push_cast,seval,vrl,if_pos,if_neg,l1]
theorem yu6 [IsFld q]{a:List (El q)}{x:El q}(ha:a.length≤128):
 o24 W 125 [.x (.int .i64 q), .fz b (.sl nl 0 1 (ivs (vs a))), .x (.int .i64 x.v)] []=some (.tup [.x (.int .i64 (ev a x).v), .x (.int .i64 0)],[],[]):=by
 have e1:=fun b nl b' nl'=>ce8 (b:=b) (nl:=nl) (b':=b') (nl':=nl') (c:=[x]) ha (by simp)
 rw[show ivs (vs [x])=[Tree.v (.int .i64 x.v)]from rfl]at e1
 have la:=tb1 a
 have e2:=fun nl ks=>tu0 (nl:=nl) (x:=x) (a:=xa4 a) (by omega) (xa4 a).length 0 (Nat.le_refl _) ks
 rw[gr6,hd5,hc8]at e2
 have w1:IntKind.wrap .i64 (((xa4 a).length:Int)-1)=((xa4 a).length:Int)-1:=wrap64 (by omega) (by omega)
 generalize xa4 a=A at*
 generalize xa4 [x]=C at*
 rw[o10 rfl T125 rfl]
 unfold F125 c125
 simp(disch:=first|omega|fail) only[push_cast,seval,vrl,if_pos,if_neg,e1,w1]
 rw[e2]
 simp(disch:=first|omega|fail) only[push_cast,seval,vrl,if_pos,if_neg]
end
def rowE(q:Int)(n0:Nat)(r:List Int):Int:=if r.length≠n0∨r.length=0 then 3 else if 64<r.length then 4 else if(r.any fun v=> !fok q v)=true then 2 else 0
def wb9(q:Int)(n0:Nat):List (List Int)→Int
 | []=>0
 |r::M=>if rowE q n0 r=0 then wb9 q n0 M else rowE q n0 r
def matE(q:Int)(M:List (List Int)):Int:=match fldN q.toNat with
 |none=>1
 |some _=>if 64<M.length then 4 else wb9 q (nth M 0).length M
theorem kj7{q:Int}{n0:Nat}{r:List Int}{M:List (List Int)}{e:Int}(h:rowE q n0 r=e)(he:e≠0):wb9 q n0 (r::M)=e:=by rw[wb9,h,if_neg he]
theorem qf5{q:Int}{n0:Nat}{r:List Int}{M:List (List Int)}(h:rowE q n0 r=0):wb9 q n0 (r::M)=wb9 q n0 M:=by rw[wb9,if_pos h]
theorem kn4{q:Int}(N:List (List (El q)))(k:Nat):(nth (N.map vs) k).length=(nth N k).length:=by
 unfold nth
 rw[List.getD_eq_getElem?_getD,List.getD_eq_getElem?_getD,List.getElem?_map]
 cases N[k]? with
 |none=>rfl
 |some r=>exact fi2 r
def pkI(a n:Int):Int:=(if a<0 then-(a+1)else a).tmod n
theorem h60{a n:Int}(hn:0<n):0≤pkI a n∧pkI a n<n:=by
 unfold pkI
 split
 ·exact⟨Int.tmod_nonneg _ (by omega),Int.tmod_lt_of_pos _ hn⟩
 ·exact⟨Int.tmod_nonneg _ (by omega),Int.tmod_lt_of_pos _ hn⟩
def rwI(l:List Int)(i:Int):Int:=if l.length=0 then i else IntKind.wrap .i64 (gi l (i.tmod l.length)+IntKind.wrap .i64 (IntKind.wrap .i64 (i.tdiv l.length)*7919))
theorem ti9(x:Int): -9223372036854775808≤IntKind.wrap .i64 x∧IntKind.wrap .i64 x≤9223372036854775807:=by rw[IntKind.wrap_i64];omega
theorem bd0{l:List Int}{i:Int}(h0:0≤i)(h1:i≤9223372036854775807): -9223372036854775808≤rwI l i∧rwI l i≤9223372036854775807:=by
 unfold rwI
 split
 ·omega
 ·exact ti9 _
theorem cl0{l:List Int}{i:Int}(h0:0≤i)(h1:i<l.length):(ivs l)[i.toNat]? =some (.v (.int .i64 (gi l i))):=by
 have e:(ivs l)[i.toNat]? =some (.v (.int .i64 (gi l ((i.toNat:Nat):Int)))):=ui5 (by omega)
 rwa [Int.toNat_of_nonneg h0]at e
theorem o99{x:Int}(h0:0≤x){n:Int}(h:x<n): ∃k:Nat,x=(k:Int)∧(k:Int)<n:=⟨x.toNat,by omega,by omega⟩
section
variable {b:Bool} {nl:Nat} {raw:List Int}
theorem s88{a n:Int}(h1: -9223372036854775808≤a)(h2:a≤9223372036854775807)(hn:0<n):o24 W 12 [.x (.int .i64 a), .x (.int .i64 n)] []=some (.x (.int .i64 (pkI a n)),[],[]):=by
 have hz: ¬n=0:=by omega
 rw[o10 rfl T12 rfl]
 unfold F12 c12 pkI
 by_cases h0:a<0
 ·rw[if_pos h0]
  simp(disch:=first|omega|fail) only[push_cast,seval,vrl,if_pos,if_neg,nb8 hz,hz]
  rw[show(0:Int)-(a+1)= -(a+1) by omega]
 ·rw[if_neg h0]
  simp(disch:=first|omega|fail) only[push_cast,seval,vrl,if_pos,if_neg,nb8 hz,hz]
theorem yc3{i:Int}(hi:0≤i)(hl:raw.length≤9223372036854775807):o24 W 47 [.fz b (.sl nl 0 1 (ivs raw)), .x (.int .i64 i)] []=some (.x (.int .i64 (rwI raw i)),[],[]):=by
 rw[o10 rfl T47 rfl]
 unfold F47 c47 rwI
 by_cases h0:raw.length=0
 ·rw[if_pos h0]
  have h0':(raw.length:Int)=0:=by omega
  simp(disch:=first|omega|fail) only[push_cast,seval,vrl,if_pos,if_neg,h0']
 ·rw[if_neg h0]
  have hz: ¬(raw.length:Int)=0:=by omega
  have b1:0≤i.tmod raw.length:=Int.tmod_nonneg _ hi
  have b2:i.tmod raw.length<raw.length:=Int.tmod_lt_of_pos _ (by omega)
  have e:=cl0 b1 b2
  simp(disch:=first|omega|fail) only[push_cast,seval,vrl,if_pos,if_neg,hz,nb8 hz,e]
def numV(raw:List Int)(frm q:Int)(k:Nat):Int:=pkI (rwI raw (frm+k)) q
def tv7(raw:List Int)(frm q:Int)(n:Nat):List Int:=(List.range n).map (numV raw frm q)
theorem jd5(raw:List Int)(frm q:Int)(n:Nat):(tv7 raw frm q n).length=n:=by simp[tv7]
theorem ce6(raw:List Int)(frm q:Int)(n:Nat):tv7 raw frm q (n+1)=tv7 raw frm q n++[numV raw frm q n]:=by unfold tv7;rw[List.range_succ,List.map_append];rfl
theorem dm5{raw:List Int}{frm q:Int}{n:Nat}(hq:0<q): ∀z∈tv7 raw frm q n,fok q z=true:=fun z hz=>by
 obtain⟨k,_,rfl⟩:=List.mem_map.1 hz
 have:=h60 (a:=rwI raw (frm+k)) hq
 unfold numV fok
 rw[decide_eq_true this.1,decide_eq_true this.2];rfl
theorem m61{raw:List Int}{frm q:Int}{n:Nat}(hq:0<q): ∃l:List (El q),tv7 raw frm q n=vs l∧l.length=n:=by
 obtain⟨l,hl⟩:=n39 (dm5 (raw:=raw) (frm:=frm) (n:=n) hq)
 exact⟨l,hl,by rw[←fi2,←hl,jd5]⟩
theorem yq2(hrl:raw.length≤9223372036854775807){frm q:Int}(hf0:0≤frm)(hf1:frm≤1000000000)(hq0:0<q){N:Nat}(hN:N≤100000): ∀(d i:Nat),i+d=N→ ∀ks,
 vgoL W ⟨h14,[.tmp 8],0⟩ [0,1,2,3,9,10] c14L0 (.blk 0 [9]::ks) [(0, .fz b (.sl nl 0 1 (ivs raw))),(1, .x (.int .i64 frm)),(2, .x (.int .i64 q)),(3, .x (.int .i64 N)),(9, .own 0 []),(10, .x (.int .i64 i))] [.sl 1 3 1 (ivs (tv7 raw frm q i))]=
  vgo W ⟨h14,[.tmp 8],0⟩ ks (VFr.of [(9, .own 0 [])]) [.sl 1 3 1 (ivs (tv7 raw frm q N))]
 |0,i,hi,ks=>by
  obtain rfl:i=N:=by omega
  rw[sb5 c14L0.eq_def]
  simp(disch:=first|omega|fail) only[push_cast,seval,vrl,if_pos,if_neg]
 |d+1,i,hi,ks=>by
  have ih:=yq2 hrl hf0 hf1 hq0 hN d (i+1) (by omega) ks
  have e1:=fun b nl=>yc3 (b:=b) (nl:=nl) (raw:=raw) (i:=frm+i) (by omega) hrl
  have hri:=bd0 (l:=raw) (i:=frm+i) (by omega) (by omega)
  have e2:=s88 (n:=q) hri.1 hri.2 hq0
  have hl:=jd5 raw frm q i
  rw[Int.natCast_add,Int.natCast_one,ce6,numV]at ih
  rw[←ih,sb5 c14L0.eq_def]
  simp(disch:=first|omega|fail) only[push_cast,seval,vrl,if_pos,if_neg,e1,e2,hl]
theorem vv4(hrl:raw.length≤9223372036854775807){frm q:Int}(hf0:0≤frm)(hf1:frm≤1000000000)(hq0:0<q){N:Nat}(hN:N≤100000):o24 W 14 [.fz b (.sl nl 0 1 (ivs raw)), .x (.int .i64 frm), .x (.int .i64 q), .x (.int .i64 N)] []=some (.own 0 [],[.sl 1 3 1 (ivs (tv7 raw frm q N))],[]):=by
 have e:=fun ks=>yq2 (b:=b) (nl:=nl) hrl hf0 hf1 hq0 hN N 0 (by omega) ks
 rw[show tv7 raw frm q 0=[]from rfl]at e
 simp only[Int.natCast_zero,List.take_zero,List.drop_zero,rp2,lz6,x25,List.map_nil,List.length_nil]at e
 rw[o10 rfl T14 rfl]
 unfold F14 c14
 simp(disch:=first|omega|fail) only[push_cast,seval,vrl,if_pos,if_neg]
 rw[e]
 simp(disch:=first|omega|fail) only[push_cast,seval,vrl,if_pos,if_neg]
end
def szN:Nat→Nat→List Int
 |0,_=>[]
 |n+1,q=>bif (fldN q).isSome then(q:Int)::szN n (q+1)else szN n (q+1)
def szL:List Int:=szN 63 2
theorem ho7:(szL.all fun z=>decide (2≤z)&&decide (z≤64)&&(fldN z.toNat).isSome)=true:=by kernel_rfl
theorem x14{z:Int}(hz:z∈szL):2≤z∧z≤64∧IsFld z:=by
 have:=List.all_eq_true.1 ho7 z hz
 simp only[Bool.and_eq_true,decide_eq_true_eq]at this
 obtain⟨⟨h1,h2⟩,h3⟩:=this
 obtain⟨⟨p,m,g,mod⟩,hx⟩:=Option.isSome_iff_exists.1 h3
 exact⟨h1,h2,⟨p,m,g,mod,hx⟩⟩
section
variable {l:List Int} {nl:Nat} {b:Bool} {x:Int}
theorem a02(hl:l.length≤9223372036854775807): ∀(n i:Nat),i+n=l.length→ ∀ks,
 vgoL W ⟨hNo,[.tmp 4],0⟩ [0,1,7,8] c168L0 (.blk 0 []::ks) [(0, .fz b (.sl nl 0 1 (ivs l))),(1, .x (.int .i64 x)),(7, .x (.int .i64 l.length)),(8, .x (.int .i64 i))] []=
  if fidx (fun y=>decide (x=y)) i (l.drop i)= -1 then vgo W ⟨hNo,[.tmp 4],0⟩ ks (VFr.of []) []else some (.x (.int .i64 (fidx (fun y=>decide (x=y)) i (l.drop i))),[],[])
 |0,i,hi,ks=>by
  rw[oh9 (by omega),fidx,if_pos rfl,sb5 c168L0.eq_def]
  simp(disch:=first|omega|fail) only[push_cast,seval,vrl,if_pos,if_neg]
 |n+1,i,hi,ks=>by
  have ih:=a02 hl n (i+1) (by omega) ks
  obtain⟨a,ha⟩:=ge6 (l:=l) (i:=i) (by omega)
  have h1:=iat ha
  rw[i62 ha,fidx]
  rw[Int.natCast_add,Int.natCast_one]at ih
  by_cases hp:x=a
  ·rw[if_pos (decide_eq_true hp),if_neg (by omega),sb5 c168L0.eq_def]
   simp(disch:=first|omega|fail) only[push_cast,seval,vrl,if_pos,if_neg,h1,mr8 hp]
  ·simp only[decide_eq_false hp,Bool.false_eq_true,if_false]
   rw[←ih,sb5 c168L0.eq_def]
   simp(disch:=first|omega|fail) only[push_cast,seval,vrl,if_pos,if_neg,h1,nb8 hp]
theorem bd9(hl:l.length≤9223372036854775807):
 o24 W 168 [.fz b (.sl nl 0 1 (ivs l)), .x (.int .i64 x)] []=some (.x (.int .i64 (fidx (fun y=>decide (x=y)) 0 l)),[],[]):=by
 have e:=fun ks=>a02 (nl:=nl) (b:=b) (x:=x) hl l.length 0 (by omega) ks
 simp only[Int.natCast_zero,List.take_zero,List.drop_zero,rp2,lz6,x25,List.map_nil,List.length_nil]at e
 rw[o10 rfl T168 rfl]
 unfold F168 c168
 simp(disch:=first|omega|fail) only[push_cast,seval,vrl,if_pos,if_neg]
 rw[e]
 by_cases h:fidx (fun y=>decide (x=y)) 0 l= -1
 ·rw[if_pos h,h]
  simp(disch:=first|omega|fail) only[push_cast,seval,vrl,if_pos,if_neg]
 ·rw[if_neg h]
theorem o94(hl:l.length≤9223372036854775807):
 o24 W 86 [.fz b (.sl nl 0 1 (ivs l)), .x (.int .i64 x)] []=some (.x (.bool (l.any fun y=>decide (x=y))),[],[]):=by
 have e:=fun b nl=>bd9 (nl:=nl) (b:=b) (x:=x) hl
 rw[o10 rfl T86 rfl]
 unfold F86 c86
 rw[←tl6 _ 0 l]
 simp(disch:=first|omega|fail) only[push_cast,seval,vrl,if_pos,if_neg,e]
end
end Go.Proofs.Ytmhbpecdpiapgaa
namespace Go.Alg
section
variable {K:Type} [FK K]
theorem y46{α β:Type}(f:α×β→K): ∀(l:List α) (l':List β),l.length=l'.length→ ∀l2 l2',sumL ((l++l2).zip (l'++l2')) f=sumL (l.zip l') f+sumL (l2.zip l2') f:=fun l l' h l2 l2'=>by
 rw[List.zip_append h,up0]
theorem uj4{α β γ:Type}(g:β→γ)(f:α×γ→K): ∀(l:List α) (l':List β),sumL (l.zip (l'.map g)) f=sumL (l.zip l') (fun p=>f (p.1,g p.2))
 | [],_=>rfl
 |_::_,[]=>rfl
 |a::l,b::l'=>by rw[List.map_cons,List.zip_cons_cons,List.zip_cons_cons,gb6,gb6,uj4 g f l l']
theorem hom: ∀(r:Nat) (S:List (Nat→K)),r<S.length→ ∃y:List K,y.length=S.length∧(∃a∈y,a≠0)∧ ∀j,j<r→sumL (y.zip S) (fun p=>p.1*p.2 j)=0
 |0,S,h=>by
  refine⟨List.replicate S.length 1,List.length_replicate,⟨1,List.mem_replicate.2 ⟨by omega,rfl⟩,ki7⟩,fun j hj=>absurd hj (Nat.not_lt_zero j)⟩
 |r+1,S,h=>by
  by_cases hs: ∃s∈S,s r≠0
  ·obtain⟨s,hs,hne⟩:=hs
   obtain⟨S1,S2,rfl⟩:=List.append_of_mem hs
   have hl:r<((S1++S2).map (fun(t:Nat→K) j=>t j-t r*FK.inv (s r)*s j)).length:=by
    simp only[List.length_map,List.length_append,List.length_cons]at h⊢;omega
   obtain⟨y,y1,⟨a,y2,y3⟩,y4⟩:=hom r _ hl
   rw[List.length_map,List.length_append]at y1
   have hsp:y=y.take S1.length++y.drop S1.length:=(List.take_append_drop _ _).symm
   have h1:(y.take S1.length).length=S1.length:=by rw[List.length_take];omega
   have h2:(y.drop S1.length).length=S2.length:=by rw[List.length_drop];omega
   generalize y.take S1.length=u at hsp h1
   generalize y.drop S1.length=w at hsp h2
   subst hsp
   have hsum: ∀(c:K) j,sumL ((u++c::w).zip (S1++s::S2)) (fun p=>p.1*p.2 j)=sumL ((u++w).zip (S1++S2)) (fun p=>p.1*p.2 j)+c*s j:=fun c j=>by
    rw[y46 _ _ _ h1,y46 _ _ _ h1,List.zip_cons_cons,gb6,FK.add_assoc,FK.add_comm (sumL (w.zip S2) _)]
   refine⟨u++ -(sumL ((u++w).zip (S1++S2)) (fun p=>p.1*p.2 r)*FK.inv (s r))::w, ?_,⟨a, ?_,y3⟩,fun j hj=> ?_⟩
   ·simp only[List.length_append,List.length_cons,h1,h2]
   ·simp only[List.mem_append,List.mem_cons]at y2⊢
    rcases y2 with y2|y2
    ·exact .inl y2
    ·exact .inr (.inr y2)
   ·rw[hsum]
    by_cases hjr:j=r
    ·subst hjr
     rw[neg_mul,FK.mul_assoc,inv_mul hne,FK.mul_one,FK.add_neg]
    ·have h3:=y4 j (by omega)
     rw[uj4]at h3
     have h4:sumL ((u++w).zip (S1++S2)) (fun p=>p.1*(p.2 j-p.2 r*FK.inv (s r)*s j))=sumL ((u++w).zip (S1++S2)) (fun p=>p.1*p.2 j)-sumL ((u++w).zip (S1++S2)) (fun p=>p.1*p.2 r)*FK.inv (s r)*s j:=by
      rw[←ue3,←ue3,←b15]
      refine ox7 fun p _=> ?_
      rw[mul_sub,←FK.mul_assoc,←FK.mul_assoc]
     have h3:sumL ((u++w).zip (S1++S2)) (fun p=>p.1*(p.2 j-p.2 r*FK.inv (s r)*s j))=0:=h3
     rw[h4]at h3
     rw[neg_mul,←sub_eq,h3]
  ·obtain⟨y,y1,y2,y3⟩:=hom r S (by omega)
   refine⟨y,y1,y2,fun j hj=> ?_⟩
   by_cases hjr:j=r
   ·subst hjr
    refine tx6 fun p hp=> ?_
    have:p.2 j=0:=Classical.byContradiction fun hne=>hs ⟨p.2,(List.of_mem_zip hp).2,hne⟩
    rw[this,mul_zero]
   ·exact y3 j (by omega)
def wu9(S:List (Nat→K)):Prop:= ∀y:List K,y.length=S.length→(∀k,sumL (y.zip S) (fun p=>p.1*p.2 k)=0)→ ∀a∈y,a=0
theorem tw1{R:List (Nat→K)}{w:Nat→K}(h:Span R w): ∃c:Nat→K,w=fun k=>sumN R.length fun j=>c j*(R.getD j fun _=>0) k:=by
 refine h.lin (P:=fun w=> ∃c:Nat→K,w=fun k=>sumN R.length fun j=>c j*(R.getD j fun _=>0) k) ?_ ?_ ?_
 ·exact⟨fun _=>0,by funext k;exact(ja4 fun j _=>zero_mul _).symm⟩
 ·rintro _ _ c ⟨c1,rfl⟩ ⟨c2,rfl⟩
  refine⟨fun j=>c1 j+c*c2 j, ?_⟩
  funext k
  show sumN _ _+c*sumN _ _=_
  unfold sumN
  rw[←ro9,←jl9]
  refine ox7 fun j _=> ?_
  rw[add_mul,FK.mul_assoc]
 ·intro r hr
  obtain⟨i,hi,rfl⟩:=List.getElem_of_mem hr
  refine⟨fun j=>if j=i then 1 else 0, ?_⟩
  funext k
  rw[xq2 hi fun j hj hne=>by show(if j=i then(1:K)else 0)*_=0;rw[if_neg hne,zero_mul]]
  show _=(if i=i then(1:K)else 0)*_
  rw[if_pos rfl,one_mul,List.getD_eq_getElem?_getD,List.getElem?_eq_getElem hi];rfl
theorem c82{R S:List (Nat→K)}(hS: ∀s∈S,Span R s)(hi:wu9 S):S.length≤R.length:=by
 refine Classical.byContradiction fun hlt=> ?_
 have hc: ∀s:{s//s∈S},∃c:Nat→K,s.1=fun k=>sumN R.length fun j=>c j*(R.getD j fun _=>0) k:=fun s=>tw1 (hS s.1 s.2)
 obtain⟨C,hC⟩:=Classical.axiomOfChoice hc
 obtain⟨y,y1,⟨a,y2,y3⟩,y4⟩:=hom R.length (S.attach.map C) (by rw[List.length_map,List.length_attach];omega)
 rw[List.length_map,List.length_attach]at y1
 refine y3 (hi y y1 (fun k=> ?_) a y2)
 have h1:sumL (y.zip S) (fun p=>p.1*p.2 k)=sumL (y.zip S.attach) (fun p=>p.1*p.2.1 k):=by
  have h0:S=S.attach.map Subtype.val:=(List.attach_map_subtype_val S).symm
  conv=>lhs;rw[h0]
  rw[uj4]
 rw[h1]
 have h2: ∀p∈y.zip S.attach,p.1*p.2.1 k=sumN R.length fun j=>p.1*(C p.2 j*(R.getD j fun _=>0) k):=fun p _=>by
  have:=congrFun (hC p.2) k
  rw[this]
  unfold sumN
  rw[ro9]
 rw[ox7 h2]
 unfold sumN
 rw[j53]
 refine tx6 fun j hj=> ?_
 have h3:=y4 j (List.mem_range.1 hj)
 rw[uj4]at h3
 have h4:sumL (y.zip S.attach) (fun p=>p.1*(C p.2 j*(R.getD j fun _=>0) k))=sumL (y.zip S.attach) (fun p=>p.1*C p.2 j)*(R.getD j fun _=>0) k:=by
  rw[←ue3]
  exact ox7 fun p _=>(FK.mul_assoc _ _ _).symm
 have h3:sumL (y.zip S.attach) (fun p=>p.1*C p.2 j)=0:=h3
 rw[h4,h3,zero_mul]
theorem nu5{α β:Type}(f:α×β→K)(da:α)(db:β): ∀(l:List α) (l':List β),l.length=l'.length→sumL (l.zip l') f=sumN l.length fun i=>f (l.getD i da,l'.getD i db)
 | [],_,_=>rfl
 |a::l,b::l',h=>by
  rw[List.zip_cons_cons,gb6,List.length_cons,c66,nu5 f da db l l' (by simpa using h)];rfl
theorem wx6{S:List (Nat→K)}(P:Nat→Nat)(h: ∀i j,i<S.length→j<S.length→(S.getD i fun _=>0) (P j)=if i=j then 1 else 0):wu9 S:=by
 intro y hy h0 a ha
 obtain⟨j,hj,rfl⟩:=List.getElem_of_mem ha
 have h1:=h0 (P j)
 rw[nu5 _ 0 (fun _=>0) y S hy,xq2 hj (fun i hi hne=>by show y.getD i 0*(S.getD i fun _=>0) (P j)=0;rw[h i j (by omega) (by omega),if_neg hne,mul_zero])]at h1
 have h1:y.getD j 0*(S.getD j fun _=>0) (P j)=0:=h1
 rw[h j j (by omega) (by omega),if_pos rfl,FK.mul_one,List.getD_eq_getElem?_getD,List.getElem?_eq_getElem hj]at h1
 exact h1
theorem Rref.indep{n:Nat}{A:List (Nat×(Nat→K))}(h:Rref n A):wu9 (rowsOf A):=by
 have hl:(rowsOf A).length=A.length:=by unfold rowsOf;rw[List.length_map]
 refine wx6 (fun j=>(A.getD j (0,fun _=>0)).1) fun i j hi hj=> ?_
 rw[hl]at hi hj
 have h1:(rowsOf A).getD i (fun _=>0)=A[i].2:=by unfold rowsOf;rw[List.getD_eq_getElem?_getD,List.getElem?_map,List.getElem?_eq_getElem hi];rfl
 have h2:A.getD j (0,fun _=>0)=A[j]:=by rw[List.getD_eq_getElem?_getD,List.getElem?_eq_getElem hj];rfl
 rw[h1,h2]
 by_cases he:i=j
 ·subst he;rw[if_pos rfl];exact h.one _ (List.getElem_mem hi)
 ·rw[if_neg he]
  refine h.zero _ (List.getElem_mem hi) _ (List.getElem_mem hj) fun e=> ?_
  have:=List.pairwise_iff_getElem.1 h.nodup
  rcases Nat.lt_or_gt_of_ne he with hlt|hlt
  ·exact this i j hi hj hlt e
  ·exact this j i hj hi hlt e.symm
theorem Rref.le{n:Nat}{A:List (Nat×(Nat→K))}(h:Rref n A){R:List (Nat→K)}(hs: ∀w,Span (rowsOf A) w→Span R w):A.length≤R.length:=by
 have:=c82 (S:=rowsOf A) (R:=R) (fun s hs'=>hs s (.mem hs')) h.indep
 unfold rowsOf at this
 rwa [List.length_map]at this
theorem Rref.ge{n:Nat}{A:List (Nat×(Nat→K))}(h:Rref n A){S:List (Nat→K)}(hi:wu9 S)(hs: ∀w∈S,Span (rowsOf A) w):S.length≤A.length:=by
 have:=c82 hs hi
 unfold rowsOf at this
 rwa [List.length_map]at this
end
section
variable {K:Type} [FK K] {n:Nat}
def dotF(n:Nat)(u w:Nat→K):K:=sumN n fun k=>u k*w k
theorem sc2(u w:Nat→K):dotF n u w=dotF n w u:=rc1 fun k _=>FK.mul_comm _ _
theorem xs8(c:K)(u r w:Nat→K):dotF n (axp c u r) w=dotF n u w+c*dotF n r w:=by
 unfold dotF sumN
 rw[←ro9,←jl9]
 refine ox7 fun k _=> ?_
 show(u k+c*r k)*w k=_
 rw[add_mul,FK.mul_assoc]
theorem mj9(w:Nat→K):dotF n (fun _=>0) w=0:=ja4 fun _ _=>zero_mul _
theorem fz3{R:List (Nat→K)}{w:Nat→K}(h: ∀r∈R,dotF n r w=0){u:Nat→K}(hu:Span R u):dotF n u w=0:=
 hu.lin (P:=fun u=>dotF n u w=0) (mj9 w) (fun u r c h1 h2=>by rw[xs8,h1,h2,mul_zero,FK.add_zero]) h
theorem ui3{R:List (Nat→K)}{u:Nat→K}(h: ∀r∈R,dotF n u r=0){w:Nat→K}(hw:Span R w):dotF n u w=0:=by
 rw[sc2];exact fz3 (fun r hr=>by rw[sc2];exact h r hr) hw
def sk9(n:Nat)(A:List (Nat×List K)):List Nat:=(List.range n).filter fun c=> !(A.any fun a=>a.1==c)
theorem c64(n:Nat)(A:List (Nat×List K)): ∀d c,ez9 n A d c=((List.range' c d).filter fun c=> !(A.any fun a=>a.1==c)).map fun c=>xRow n c A
 |0,_=>rfl
 |d+1,c=>by
  rw[ez9,List.range'_succ,List.filter_cons,c64 n A d (c+1)]
  cases (A.any fun a=>a.1==c)<;>rfl
theorem pv1(n:Nat)(A:List (Nat×List K)):ez9 n A n 0=(sk9 n A).map fun c=>xRow n c A:=by
 rw[c64];unfold sk9;rw[List.range_eq_range']
omit [FK K] in
theorem oz8{A:List (Nat×List K)}{c:Nat}:c∈sk9 n A↔c<n∧ ∀a∈A,a.1≠c:=by
 unfold sk9
 rw[List.mem_filter,List.mem_range]
 simp
omit [FK K] in
theorem a89(A:List (Nat×List K)):(sk9 n A).Nodup:=List.Pairwise.filter _ List.nodup_range
omit [FK K] in
theorem ir1{A:List (Nat×List K)}(hn:A.Pairwise fun a b=>a.1≠b.1)(hlt: ∀a∈A,a.1<n):(sk9 n A).length+A.length=n:=by
 have h1: ∀l:List Nat,(l.filter fun c=> !(A.any fun a=>a.1==c)).length+(l.filter fun c=>A.any fun a=>a.1==c).length=l.length:=by
  intro l
  induction l with
  |nil=>rfl
  |cons c l ih=>
   rw[List.filter_cons,List.filter_cons]
   cases (A.any fun a=>a.1==c)<;>simp<;>omega
 have h2:=h1 (List.range n)
 rw[List.length_range]at h2
 have h3:((List.range n).filter fun c=>A.any fun a=>a.1==c).Perm (A.map Prod.fst):=by
  refine(List.perm_ext_iff_of_nodup (List.Pairwise.filter _ List.nodup_range) ?_).2 fun c=> ?_
  ·exact List.pairwise_map.2 hn
  ·rw[List.mem_filter,List.mem_range,List.mem_map,List.any_eq_true]
   constructor
   ·rintro⟨_,a,ha,he⟩;exact⟨a,ha,by simpa using he⟩
   ·rintro⟨a,ha,rfl⟩;exact⟨hlt a ha,a,ha,by simp⟩
 have h4:=h3.length_eq
 rw[List.length_map]at h4
 unfold sk9
 omega
theorem a42{c:Nat}: ∀(A:List (Nat×List K)) (x:List K),A.Pairwise (fun a b=>a.1≠b.1)→(∀a∈A,a.1<x.length)→ ∀k,wf (setN c A x) k=if(∃a∈A,a.1=k)then sumL A (fun a=>if a.1=k then-(wf a.2 c)else 0)else wf x k
 | [],x,_,_,k=>by rw[if_neg (by rintro⟨a,h,_⟩;cases h)];rfl
 |a::A,x,hn,hl,k=>by
  rw[List.pairwise_cons]at hn
  rw[setN,a42 A _ hn.2 (fun b hb=>by rw[List.length_set];exact hl b (by simp[hb])) k,wf_set (hl a (by simp)),gb6]
  by_cases he:a.1=k
  ·have hno: ¬ ∃b∈A,b.1=k:=fun⟨b,hb,e⟩=>hn.1 b hb (by rw[he,e])
   rw[if_neg hno,if_pos he.symm,if_pos ⟨a,by simp,he⟩,if_pos he,tx6 fun b hb=>if_neg fun e=>hno ⟨b,hb,e⟩,FK.add_zero]
  ·have h1:(if k=a.1 then-(wf a.2 c)else wf x k)=wf x k:=if_neg fun e=>he e.symm
   have h2:(if a.1=k then-(wf a.2 c)else 0)=0:=if_neg he
   rw[h1,h2,zero_add]
   by_cases hex: ∃b∈A,b.1=k
   ·obtain⟨b,hb,e⟩:=hex
    rw[if_pos ⟨b,hb,e⟩,if_pos ⟨b,by simp[hb],e⟩]
   ·rw[if_neg hex,if_neg]
    rintro⟨b,hb,e⟩
    rcases List.mem_cons.1 hb with rfl|hb
    ·exact he e
    ·exact hex ⟨b,hb,e⟩
section
variable {A:List (Nat×List K)} (hr:Rref n (toF A))
include hr
theorem f56:A.Pairwise fun a b=>a.1≠b.1:=by
 have:=hr.nodup
 unfold toF at this
 rwa [List.pairwise_map]at this
theorem a68: ∀a∈A,a.1<n:=fun a ha=>hr.lt (a.1,wf a.2) (xe5.2 ⟨a,ha,rfl⟩)
theorem up3{c:Nat}(hc:c∈sk9 n A)(k:Nat):wf (xRow n c A) k=if(∃a∈A,a.1=k)then sumL A (fun a=>if a.1=k then-(wf a.2 c)else 0)else if k=c then 1 else 0:=by
 have hcn:=(oz8.1 hc).1
 unfold xRow
 rw[a42 A _ (f56 hr) (fun a ha=>by rw[List.length_set,List.length_replicate];exact a68 hr a ha) k,wf_set (by rw[List.length_replicate];exact hcn)]
 congr 2
 unfold wf
 rw[List.getD_eq_getElem?_getD,List.getElem?_replicate]
 split<;>rfl
theorem st6{c k:Nat}(hc:c∈sk9 n A)(hk:k∈sk9 n A):wf (xRow n c A) k=if k=c then 1 else 0:=by
 rw[up3 hr hc,if_neg]
 rintro⟨a,ha,e⟩
 exact(oz8.1 hk).2 a ha e
theorem z98{c:Nat}(hc:c∈sk9 n A){a:Nat×List K}(ha:a∈A):wf (xRow n c A) a.1= -(wf a.2 c):=by
 rw[up3 hr hc,if_pos ⟨a,ha,rfl⟩]
 have: ∀{B:List (Nat×List K)},B.Pairwise (fun a b=>a.1≠b.1)→a∈B→sumL B (fun b=>if b.1=a.1 then-(wf b.2 c)else 0)= -(wf a.2 c):=by
  intro B hB hb
  induction B with
  |nil=>cases hb
  |cons b B ih=>
   rw[List.pairwise_cons]at hB
   rw[gb6]
   rcases List.mem_cons.1 hb with rfl|hb
   ·rw[if_pos rfl,tx6 fun b hb=>if_neg fun e=>hB.1 b hb e.symm,FK.add_zero]
   ·have:(if b.1=a.1 then-(wf b.2 c)else 0)=0:=if_neg (hB.1 a hb)
    rw[this,zero_add,ih hB.2 hb]
 exact this (f56 hr) ha
theorem uz6{a:Nat×List K}(ha:a∈A)(w:Nat→K):dotF n (wf a.2) w=w a.1+sumL (sk9 n A) fun c=>wf a.2 c*w c:=by
 have hp:((List.range n).filter fun c=>A.any fun a=>a.1==c).Perm (A.map Prod.fst):=by
  refine(List.perm_ext_iff_of_nodup (List.Pairwise.filter _ List.nodup_range) ?_).2 fun c=> ?_
  ·exact List.pairwise_map.2 (f56 hr)
  ·rw[List.mem_filter,List.mem_range,List.mem_map,List.any_eq_true]
   constructor
   ·rintro⟨_,a,ha,he⟩;exact⟨a,ha,by simpa using he⟩
   ·rintro⟨a,ha,rfl⟩;exact⟨a68 hr a ha,a,ha,by simp⟩
 have hsplit: ∀(l:List Nat) (f:Nat→K),sumL l f=sumL (l.filter fun c=>A.any fun a=>a.1==c) f+sumL (l.filter fun c=> !(A.any fun a=>a.1==c)) f:=by
  intro l f
  induction l with
  |nil=>exact(FK.add_zero _).symm
  |cons c l ih=>
   rw[List.filter_cons,List.filter_cons,gb6,ih]
   cases (A.any fun a=>a.1==c)with
   |true=>simp only[if_true,Bool.not_true,Bool.false_eq_true,if_false,gb6];rw[FK.add_assoc]
   |false=>simp only[if_true,Bool.not_false,Bool.false_eq_true,if_false,gb6];rw[←FK.add_assoc,FK.add_comm (f c),FK.add_assoc]
 unfold dotF sumN sk9
 rw[hsplit]
 congr 1
 rw[j94 (s:=a.1) (List.Pairwise.filter _ List.nodup_range)]
 ·have:=hr.one (a.1,wf a.2) (xe5.2 ⟨a,ha,rfl⟩)
  have:wf a.2 a.1=1:=this
  rw[this,one_mul]
 ·rw[List.mem_filter,List.mem_range,List.any_eq_true];exact⟨a68 hr a ha,a,ha,by simp⟩
 ·intro c hc hne
  rw[List.mem_filter,List.any_eq_true]at hc
  obtain⟨_,b,hb,he⟩:=hc
  have he:b.1=c:=by simpa using he
  have:=hr.zero (a.1,wf a.2) (xe5.2 ⟨a,ha,rfl⟩) (b.1,wf b.2) (xe5.2 ⟨b,hb,rfl⟩) (fun e=>hne (by rw[←he];exact e.symm))
  have:wf a.2 b.1=0:=this
  rw[←he,this,zero_mul]
theorem dn9{w:Nat→K}:Span ((ez9 n A n 0).map wf) w↔(∀k,n≤k→w k=0)∧ ∀a∈A,dotF n (wf a.2) w=0:=by
 have hx: ∀x∈(ez9 n A n 0).map wf,∃c∈sk9 n A,x=wf (xRow n c A):=fun x hx=>by
  rw[pv1,List.map_map]at hx
  obtain⟨c,hc,rfl⟩:=List.mem_map.1 hx
  exact⟨c,hc,rfl⟩
 constructor
 ·intro h
  refine⟨fun k hk=> ?_,fun a ha=>ui3 (fun r hr'=> ?_) h⟩
  ·refine h.lin (P:=fun w=>w k=0) rfl (fun u r c h1 h2=> ?_) fun r hr'=> ?_
   ·show u k+c*r k=0
    rw[h1,h2,mul_zero,FK.add_zero]
   ·obtain⟨c,hc,rfl⟩:=hx r hr'
    exact ez8 (by rw[x22];exact hk)
  ·obtain⟨c,hc,rfl⟩:=hx r hr'
   rw[uz6 hr ha,z98 hr hc ha,j94 (s:=c) (a89 A) hc fun k hk hne=>by rw[st6 hr hc hk,if_neg hne,mul_zero],st6 hr hc hc,if_pos rfl,FK.mul_one,neg_add]
 ·rintro⟨h1,h2⟩
  have h3:w=fun k=>sumL (sk9 n A) fun c=>w c*wf (xRow n c A) k:=by
   funext k
   by_cases hkn:n≤k
   ·rw[h1 k hkn,tx6 fun c hc=>by rw[ez8 (by rw[x22];exact hkn),mul_zero]]
   ·by_cases hex: ∃a∈A,a.1=k
    ·obtain⟨a,ha,rfl⟩:=hex
     have h4:=h2 a ha
     rw[uz6 hr ha,FK.add_comm]at h4
     rw[ut3 h4,←eq0]
     refine ox7 fun c hc=> ?_
     rw[z98 hr hc ha,mul_neg,FK.mul_comm]
    ·have hk:k∈sk9 n A:=oz8.2 ⟨by omega,fun a ha e=>hex ⟨a,ha,e⟩⟩
     rw[j94 (s:=k) (a89 A) hk fun c hc hne=>by rw[st6 hr hc hk,if_neg fun e=>hne e.symm,mul_zero],st6 hr hk hk,if_pos rfl,FK.mul_one]
  rw[h3]
  refine Span.sum fun c hc=> .mem ?_
  rw[pv1,List.map_map]
  exact List.mem_map.2 ⟨c,hc,rfl⟩
theorem hs0:wu9 ((ez9 n A n 0).map wf):=by
 rw[pv1,List.map_map]
 refine wx6 (fun j=>(sk9 n A).getD j 0) fun i j hi hj=> ?_
 rw[List.length_map]at hi hj
 have h1:(((sk9 n A).map (wf∘fun c=>xRow n c A)).getD i fun _=>0)=wf (xRow n (sk9 n A)[i] A):=by
  rw[List.getD_eq_getElem?_getD,List.getElem?_map,List.getElem?_eq_getElem hi];rfl
 have h2:(sk9 n A).getD j 0=(sk9 n A)[j]:=by rw[List.getD_eq_getElem?_getD,List.getElem?_eq_getElem hj];rfl
 rw[h1,h2,st6 hr (List.getElem_mem hi) (List.getElem_mem hj)]
 by_cases he:i=j
 ·subst he;rw[if_pos rfl,if_pos rfl]
 ·rw[if_neg he,if_neg fun e=>he ((List.getElem_inj (a89 A)).1 e).symm]
end
theorem sw1{M:List (List K)}(hM: ∀m∈M,m.length=n):Rref n (toF (zt5 n M))∧(∀a∈zt5 n M,a.2.length=n)∧(∀w,Span (rowsOf (toF (zt5 n M))) w↔(∀k,n≤k→w k=0)∧ ∀m∈M,dotF n (wf m) w=0)∧(zt5 n M).length+(redR M).length=n:=by
 obtain⟨r1,r2,r3⟩:=bi2 hM
 obtain⟨s1,s2,s3⟩:=bi2 (sg4 n (redR M) n 0)
 refine⟨s1,s2,fun w=> ?_, ?_⟩
 ·unfold zt5
  rw[s3,dn9 r1]
  refine and_congr_right fun _=>⟨fun h m hm=> ?_,fun h a ha=> ?_⟩
  ·refine fz3 (fun r hr=> ?_) ((r3 _).2 (.mem (List.mem_map.2 ⟨m,hm,rfl⟩)))
   obtain⟨a,ha,rfl⟩:=he1.1 hr
   exact h a ha
  ·refine fz3 (fun r hr=> ?_) ((r3 _).1 (.mem (he1.2 ⟨a,ha,rfl⟩)))
   obtain⟨m,hm,rfl⟩:=List.mem_map.1 hr
   exact h m hm
 ·have h1:=s1.le fun w hw=>(s3 w).1 hw
  have h2:=s1.ge (hs0 r1) fun w hw=>(s3 w).2 (.mem hw)
  have h3:=ir1 (f56 r1) (a68 r1)
  have hn:zt5 n M=redR (ez9 n (redR M) n 0):=rfl
  rw[←hn]at h1 h2
  rw[pv1,List.length_map,List.length_map]at h1 h2
  unfold toF at h1 h2
  rw[List.length_map]at h1 h2
  omega
theorem ew4{M:List (List K)}(hM: ∀m∈M,m.length=n):(redR M).length≤M.length:=by
 obtain⟨r1,r2,r3⟩:=bi2 hM
 have:=r1.le fun w hw=>(r3 w).1 hw
 unfold toF at this
 simpa using this
end
end Go.Alg
namespace Go.Alg
section
variable {K:Type} [FK K]
def badF(a:List K)(p:K×K):Bool:=decide (ev a p.1≠p.2)
def offK(a:List K)(P:List (K×K)):Nat:=(P.filter (badF a)).length
def okK(a:List K)(P:List (K×K)):List K:=(P.filter fun p=> !badF a p).map Prod.fst
theorem wy1(a:List K): ∀P:List (K×K),(okK a P).length+offK a P=P.length
 | []=>rfl
 |p::P=>by
  have ih:=wy1 a P
  unfold okK offK at ih⊢
  rw[List.filter_cons,List.filter_cons]
  cases h:badF a p
  ·rw[if_pos (show(!false)=true from rfl),if_neg (by decide)]
   simp only[List.map_cons,List.length_cons]at ih⊢;omega
  ·rw[if_neg (by decide),if_pos rfl]
   simp only[List.length_cons]at ih⊢;omega
theorem zr2{a:List K}{p:K×K}:badF a p=false↔ev a p.1=p.2:=by unfold badF;simp
theorem sw0{a:List K}{P:List (K×K)}{x:K}(h:x∈okK a P): ∃y,(x,y)∈P∧ev a x=y:=by
 obtain⟨p,hp,rfl⟩:=List.mem_map.1 h
 obtain⟨h1,h2⟩:=List.mem_filter.1 hp
 exact⟨p.2,h1,zr2.1 (by simpa using h2)⟩
theorem ns1{a:List K}{P:List (K×K)}(hn:(P.map Prod.fst).Nodup):(okK a P).Nodup:=by
 unfold okK
 exact hn.sublist (List.Sublist.map _ List.filter_sublist)
open Classical in
end
end Go.Alg
namespace Go.Alg
section
variable {K:Type} [FK K] {n:Nat}
end
end Go.Alg
namespace Go.Alg
section
variable {K:Type} [FK K]
end
end Go.Alg
namespace Go.Proofs.Ytmhbpecdpiapgaa
open Go.Am Go.Vm Go.Alg
def AllB(q:Nat)(L:List Int):Prop:=L.Perm (pn (List.range q))
theorem AllB.len{q:Nat}{L:List Int}(h:AllB q L):L.length=q:=by rw[h.length_eq,im5,List.length_range]
theorem swap_perm{α:Type} [DecidableEq α]{l:List α}{i j:Nat}{x y:α}(hi:l[i]? =some x)(hj:l[j]? =some y):((l.set i y).set j x).Perm l:=by
 obtain⟨h1,e1⟩:=List.getElem?_eq_some_iff.1 hi
 obtain⟨h2,e2⟩:=List.getElem?_eq_some_iff.1 hj
 refine List.perm_iff_count.2 fun a=> ?_
 by_cases hij:i=j
 ·subst hij
  rw[List.set_set,←e1,List.set_getElem_self]
 ·rw[List.count_set (by simpa using h2),List.count_set h1,List.getElem_set_ne hij]
  subst e1 e2
  have c1:l[i]∈l:=List.getElem_mem h1
  have c2:l[j]∈l:=List.getElem_mem h2
  have p1:=List.count_pos_iff.2 c1
  have p2:=List.count_pos_iff.2 c2
  by_cases ha:l[i]=a<;>by_cases hb:l[j]=a<;>simp[ha,hb]<;>(try subst ha)<;>(try subst hb)<;>omega
section
variable {raw:List Int} {b:Bool} {nl:Nat}
theorem mn8{q n:Nat}(hq:q≤1000): ∀(d i:Nat),i+d=q→ ∀ks,
 vgoL W ⟨hNo,[.tmp 6],0⟩ [0,1,2,7,8] c17L0 (.blk 0 [0,1,2,7]::ks) [(0, .fz b (.sl nl 0 1 (ivs raw))),(1, .x (.int .i64 q)),(2, .x (.int .i64 n)),(7, .own 0 []),(8, .x (.int .i64 i))] [.sl 0 3 1 (ivs (pn (List.range i)++List.replicate (q-i) 0))]=
  vgo W ⟨hNo,[.tmp 6],0⟩ ks (VFr.of [(0, .fz b (.sl nl 0 1 (ivs raw))),(1, .x (.int .i64 q)),(2, .x (.int .i64 n)),(7, .own 0 [])]) [.sl 0 3 1 (ivs (pn (List.range q)))]
 |0,i,hi,ks=>by
  obtain rfl:i=q:=by omega
  rw[Nat.sub_self,List.replicate_zero,List.append_nil,sb5 c17L0.eq_def]
  simp(disch:=first|omega|fail) only[push_cast,seval,vrl,if_pos,if_neg]
 |d+1,i,hi,ks=>by
  have ih:=mn8 hq (n:=n) d (i+1) (by omega) ks
  have hl:(pn (List.range i)++List.replicate (q-i) (0:Int)).length=q:=by
   rw[List.length_append,im5,List.length_range,List.length_replicate];omega
  have hs:(pn (List.range i)++List.replicate (q-i) (0:Int)).set i (i:Int)=pn (List.range (i+1))++List.replicate (q-(i+1)) 0:=by
   rw[List.set_append_right _ _ (by rw[im5,List.length_range];omega),im5,List.length_range,Nat.sub_self,show q-i=(q-(i+1))+1 by omega,List.replicate_succ,List.set_cons_zero,List.range_succ]
   unfold pn
   rw[List.map_append]
   simp
  rw[Int.natCast_add,Int.natCast_one,←hs]at ih
  generalize pn (List.range i)++List.replicate (q-i) (0:Int)=L at*
  rw[←ih,sb5 c17L0.eq_def]
  simp(disch:=first|omega|fail) only[push_cast,seval,vrl,if_pos,if_neg,hl]
theorem c38(hrl:raw.length≤9223372036854775807){q n:Nat}(hq:q≤1000)(hn:n≤q): ∀(d i:Nat) (L:List Int),i+d=n→AllB q L→ ∃L',AllB q L'∧ ∀(b:Bool) (nl:Nat),∀ks,
 vgoL W ⟨hNo,[.tmp 6],0⟩ [0,1,2,7,9] c17L1 (.blk 2 [2,7]::ks) [(0, .fz b (.sl nl 0 1 (ivs raw))),(1, .x (.int .i64 q)),(2, .x (.int .i64 n)),(7, .own 0 []),(9, .x (.int .i64 i))] [.sl 0 3 1 (ivs L)]=
  vgo W ⟨hNo,[.tmp 6],0⟩ ks (VFr.of [(2, .x (.int .i64 n)),(7, .own 0 [])]) [.sl 0 3 1 (ivs L')]
 |0,i,L,hi,hL=>by
  refine⟨L,hL,fun b nl ks=> ?_⟩
  rw[sb5 c17L1.eq_def]
  simp(disch:=first|omega|fail) only[push_cast,seval,vrl,if_pos,if_neg]
 |d+1,i,L,hi,hL=>by
  have hl:=hL.len
  have hr:=bd0 (l:=raw) (i:=(i:Int)) (by omega) (by omega)
  have e1:=fun b nl=>yc3 (b:=b) (nl:=nl) (raw:=raw) (i:=(i:Int)) (by omega) hrl
  have hpos:(0:Int)<(q:Int)-(i:Int):=by omega
  have e2:=s88 (a:=rwI raw (i:Int)) (n:=(q:Int)-(i:Int)) hr.1 hr.2 hpos
  have hk:=h60 (a:=rwI raw (i:Int)) (n:=(q:Int)-(i:Int)) hpos
  obtain⟨k,hk1,hk2⟩:=o99 hk.1 hk.2
  rw[hk1]at e2
  obtain⟨x,hx⟩:=ge6 (l:=L) (i:=i) (by omega)
  obtain⟨y,hy⟩:=ge6 (l:=L) (i:=i+k) (by omega)
  obtain⟨L',h1,h2⟩:=c38 hrl hq hn d (i+1) ((L.set i y).set (i+k) x) (by omega) ((swap_perm hx hy).trans hL)
  refine⟨L',h1,fun b nl ks=> ?_⟩
  have ih:=h2 b nl ks
  have l1:=iat hx
  have l2:=iat hy
  have w1:IntKind.wrap .i64 ((i:Int)+(k:Int))=((i+k:Nat):Int):=by rw[wrap64 (by omega) (by omega)];omega
  have l3:(L.set i y).length=q:=by rw[List.length_set,hl]
  have l4:((L.set i y).set (i+k) x).length=q:=by rw[List.length_set,l3]
  rw[Int.natCast_add,Int.natCast_one]at ih
  rw[←ih,sb5 c17L1.eq_def]
  have hik:i+k<q:=by omega
  generalize i+k=j at*
  simp(disch:=first|omega|fail) only[push_cast,seval,vrl,if_pos,if_neg,e1,e2,w1,l1,l2,hl,l3]
theorem mz4(hrl:raw.length≤9223372036854775807){q n:Nat}(hq:q≤1000)(hn:n≤q): ∃L:List Int,L.length=n∧L.Nodup∧(∀z∈L,0≤z∧z<q)∧ ∀(b:Bool) (nl:Nat),o24 W 17 [.fz b (.sl nl 0 1 (ivs raw)), .x (.int .i64 q), .x (.int .i64 n)] []=some (.own 0 [],[.sl 0 3 1 (ivs L)],[]):=by
 obtain⟨L',h1,h2⟩:=c38 hrl hq hn n 0 (pn (List.range q)) (by omega) (List.Perm.refl _)
 have e1:=fun b nl ks=>mn8 (raw:=raw) (b:=b) (nl:=nl) (q:=q) (n:=n) hq q 0 (by omega) ks
 have hl:=h1.len
 have hnd:L'.Nodup:=h1.nodup_iff.2 (by
  unfold pn
  rw[List.nodup_iff_pairwise_ne,List.pairwise_map]
  exact List.nodup_range.imp fun h e=>h (by omega))
 have hmem: ∀z∈L',0≤z∧z<q:=fun z hz=>by
  have:=h1.mem_iff.1 hz
  unfold pn at this
  obtain⟨k,hk,rfl⟩:=List.mem_map.1 this
  have:=List.mem_range.1 hk
  omega
 refine⟨L'.take n,by rw[List.length_take];omega,hnd.sublist (List.take_sublist _ _),fun z hz=>hmem z (List.mem_of_mem_take hz),fun b nl=> ?_⟩
 rw[show pn (List.range 0)++List.replicate (q-0) (0:Int)=List.replicate q 0 from rfl]at e1
 simp only[Int.natCast_zero]at e1 h2
 rw[o10 rfl T17 rfl]
 unfold F17 c17
 simp(disch:=first|omega|fail) only[push_cast,seval,vrl,if_pos,if_neg]
 rw[e1]
 simp(disch:=first|omega|fail) only[push_cast,seval,vrl,if_pos,if_neg]
 rw[h2]
 simp(disch:=first|omega|fail) only[push_cast,seval,vrl,if_pos,if_neg,hl,Int.sub_zero]
end
theorem ax8{q:Int}{L:List Int}(h: ∀z∈L,0≤z∧z<q)(hn:L.Nodup): ∃X:List (El q),L=vs X∧X.Nodup:=by
 obtain⟨X,rfl⟩:=n39 (q:=q) (l:=L) fun z hz=>iy2 (h z hz)
 refine⟨X,rfl, ?_⟩
 unfold vs at hn
 rw[List.nodup_iff_pairwise_ne,List.pairwise_map]at hn
 exact hn.imp fun h e=>h (by rw[e])
def apN(a c:List Int):Nat:=((a.zip c).filter fun p=>decide (p.1≠p.2)).length
theorem pc5(x y:Int)(a c:List Int):apN (x::a) (y::c)=apN a c+if x=y then 0 else 1:=by
 unfold apN
 rw[List.zip_cons_cons,List.filter_cons]
 by_cases h:x=y
 ·rw[if_neg (by simp[h]),if_pos h];rfl
 ·rw[if_pos (by simp[h]),if_neg h];rfl
section
variable {a c:List Int} {b b':Bool} {nl nl':Nat}
theorem ve0(hc:c.length=a.length)(ha:a.length≤1000000): ∀(d i n:Nat),i+d=a.length→n≤i→ ∀ks,
 vgoL W ⟨hNo,[.tmp 4],0⟩ [0,1,5,13,14] c53L0 (.blk 0 [5]::ks) [(0, .fz b (.sl nl 0 1 (ivs a))),(1, .fz b' (.sl nl' 0 1 (ivs c))),(5, .x (.int .i64 n)),(13, .x (.int .i64 a.length)),(14, .x (.int .i64 i))] []=
  vgo W ⟨hNo,[.tmp 4],0⟩ ks (VFr.of [(5, .x (.int .i64 (n+apN (a.drop i) (c.drop i):Nat)))]) []
 |0,i,n,hi,hn,ks=>by
  rw[oh9 (by omega),sb5 c53L0.eq_def]
  show _=vgo W ⟨hNo,[.tmp 4],0⟩ ks (VFr.of [(5, .x (.int .i64 (n+0:Nat)))]) []
  rw[Nat.add_zero]
  simp(disch:=first|omega|fail) only[push_cast,seval,vrl,if_pos,if_neg]
 |d+1,i,n,hi,hn,ks=>by
  obtain⟨x,hx⟩:=ge6 (l:=a) (i:=i) (by omega)
  obtain⟨y,hy⟩:=ge6 (l:=c) (i:=i) (by omega)
  have h1:=iat hx
  have h2:=iat hy
  have ih:=ve0 hc ha d (i+1) (n+if x=y then 0 else 1) (by omega) (by split<;>omega) ks
  rw[i62 hx,i62 hy,pc5]
  rw[Nat.add_assoc,Nat.add_comm (if x=y then 0 else 1)]at ih
  rw[←ih,sb5 c53L0.eq_def]
  by_cases h:x=y
  ·rw[if_pos h,Nat.add_zero,Int.natCast_add,Int.natCast_one]
   simp(disch:=first|omega|fail) only[push_cast,seval,vrl,if_pos,if_neg,h1,h2,h]
  ·rw[if_neg h,Int.natCast_add,Int.natCast_one,Int.natCast_add,Int.natCast_one]
   simp(disch:=first|omega|fail) only[push_cast,seval,vrl,if_pos,if_neg,h1,h2,nb8 h]
theorem sg1(ha:a.length≤1000000)(hcl:c.length≤9223372036854775807):o24 W 53 [.fz b (.sl nl 0 1 (ivs a)), .fz b' (.sl nl' 0 1 (ivs c))] []=some (.x (.int .i64 (if a.length=c.length then(apN a c:Int)else-1)),[],[]):=by
 by_cases h:a.length=c.length
 ·rw[if_pos h]
  have e:=fun ks=>ve0 (b:=b) (nl:=nl) (b':=b') (nl':=nl') h.symm ha a.length 0 0 (by omega) (by omega) ks
  rw[List.drop_zero,List.drop_zero,Nat.zero_add]at e
  simp only[Int.natCast_zero]at e
  rw[o10 rfl T53 rfl]
  unfold F53 c53
  simp(disch:=first|omega|fail) only[push_cast,seval,vrl,if_pos,if_neg,h]
  rw[h]at e
  rw[e]
  simp(disch:=first|omega|fail) only[push_cast,seval,vrl,if_pos,if_neg]
 ·rw[if_neg h]
  have h': ¬(a.length:Int)=(c.length:Int):=by omega
  rw[o10 rfl T53 rfl]
  unfold F53 c53
  simp(disch:=first|omega|fail) only[push_cast,seval,vrl,if_pos,if_neg,nb8 h']
end
def rdL(q:Int)(all:List Int):Nat→Nat→Int
 |0,_=>0
 |n+1,i=>if fok q (gi all i)=true then(if(all.take i).any (fun y=>decide (gi all i=y))=true then 7 else rdL q all n (i+1))else 2
def rdE(q:Int)(xs:List Int)(k:Int):Int:=match fldN q.toNat with
 |none=>1
 |some _=>if xs.length<1∨64<xs.length then 4 else if rdL q xs xs.length 0=0 then(if k<1∨(xs.length:Int)<k then 6 else 0)else rdL q xs xs.length 0
theorem y76{q:Int}{xs:List Int}: ∀(n i:Nat),i+n=xs.length→rdL q xs n i=0→(∀z∈xs.take i,fok q z=true)→(xs.take i).Nodup→(∀z∈xs,fok q z=true)∧xs.Nodup
 |0,i,hi,_,h1,h2=>by
  rw[List.take_of_length_le (by omega)]at h1 h2
  exact⟨h1,h2⟩
 |n+1,i,hi,h,h1,h2=>by
  rw[rdL]at h
  split at h
  ·rename_i h3
   split at h
   ·cases h
   ·rename_i h4
    have hg:xs[i]? =some (gi xs i):=by
     have hlt:i<xs.length:=by omega
     rw[List.getElem?_eq_getElem hlt]
     unfold gi
     rw[Int.toNat_natCast,List.getD_eq_getElem?_getD,List.getElem?_eq_getElem hlt];rfl
    refine y76 n (i+1) (by omega) h (fun z hz=> ?_) ?_
    ·rw[List.take_add_one,hg,Option.toList_some]at hz
     rcases List.mem_append.1 hz with hz|hz
     ·exact h1 z hz
     ·rw[List.mem_singleton.1 hz];exact h3
    ·rw[List.take_add_one,hg,Option.toList_some,List.nodup_append]
     refine⟨h2,by simp,fun a ha c hc=> ?_⟩
     rw[List.mem_singleton.1 hc]
     rintro rfl
     exact h4 (List.any_eq_true.2 ⟨_,ha,by simp⟩)
  ·cases h
theorem pf7{q:Int}{xs:List Int}(h: ∀z∈xs,fok q z=true)(hn:xs.Nodup): ∀(n i:Nat),i+n=xs.length→rdL q xs n i=0
 |0,i,_=>rfl
 |n+1,i,hi=>by
  have hlt:i<xs.length:=by omega
  have hg:gi xs i=xs[i]:=by
   unfold gi
   rw[Int.toNat_natCast,List.getD_eq_getElem?_getD,List.getElem?_eq_getElem hlt];rfl
  rw[rdL,hg,if_pos (h _ (List.getElem_mem hlt)),if_neg fun h1=> ?_]
  ·exact pf7 h hn n (i+1) (by omega)
  ·obtain⟨y,hy,h2⟩:=List.any_eq_true.1 h1
   have h2:y=xs[i]:=by have:xs[i]=y:=by simpa using h2
                       exact this.symm
   obtain⟨j,hj,e⟩:=List.getElem_of_mem hy
   rw[List.length_take]at hj
   rw[List.getElem_take]at e
   have hp:=List.pairwise_iff_getElem.1 hn j i (by omega) hlt (by omega)
   exact hp (e.trans h2)
theorem z24{q:Int}{xs:List Int}{k:Int}(h:rdE q xs k=0):IsFld q∧ ∃X:List (El q),xs=vs X∧X.Nodup∧1≤X.length∧X.length≤64∧1≤k∧k≤X.length:=by
 unfold rdE at h
 split at h
 ·cases h
 ·rename_i x hn
  obtain⟨p0,m0,g0,mod⟩:=x
  split at h
  ·cases h
  ·split at h
   ·rename_i h1 h2
    split at h
    ·cases h
    ·rename_i h3
     obtain⟨h4,h5⟩:=y76 xs.length 0 (by omega) h2 (fun z hz=>by simp at hz) (by simp)
     obtain⟨X,hX,hX2⟩:=ax8 (q:=q) (L:=xs) (fun z hz=>gc0.1 (h4 z hz)) h5
     have hl:X.length=xs.length:=by rw[hX,fi2]
     exact⟨⟨⟨p0,m0,g0,mod,hn⟩⟩,X,hX,hX2,by omega,by omega,by omega,by omega⟩
   ·rename_i h1 h2;exact absurd h h2
theorem sn0{q:Int}{X:List (El q)}(hn:X.Nodup):(vs X).Nodup:=by
 unfold vs
 rw[List.nodup_iff_pairwise_ne,List.pairwise_map]
 exact hn.imp fun h e=>h (El.ext' e)
theorem la8{q:Int} [h:IsFld q]{X:List (El q)}(hn:X.Nodup)(h1:1≤X.length)(h2:X.length≤64){k:Int}(k1:1≤k)(k2:k≤X.length):rdE q (vs X) k=0:=by
 obtain⟨p,m,g,mod,hf⟩:=h.ok
 unfold rdE
 rw[hf]
 simp only
 rw[if_neg (by rw[fi2];omega),pf7 (fun z hz=>by
  obtain⟨x,_,rfl⟩:=List.mem_map.1 hz
  exact x.ok) (sn0 hn) _ _ (by omega),if_pos rfl,if_neg (by rw[fi2];omega)]
section
variable {q:Int} {b:Bool} {nl:Nat} {xs:List Int} {k:Int}
theorem cf6 [IsFld q](hl:xs.length≤1000000): ∀(n i:Nat),i+n=xs.length→ ∀ks,
 vgoL W ⟨hNo,[.tmp 6],0⟩ [1,2,7,27,28,29] c126L0 (.blk 0 [1,2]::ks) [(1, .fz b (.sl nl 0 1 (ivs xs))),(2, .x (.int .i64 k)),(7, .fz true (pF q)),(27, .fz b (.sl nl 0 1 (ivs xs))),(28, .x (.int .i64 xs.length)),(29, .x (.int .i64 i))] []=
  if rdL q xs n i=0 then vgo W ⟨hNo,[.tmp 6],0⟩ ks (VFr.of [(1, .fz b (.sl nl 0 1 (ivs xs))),(2, .x (.int .i64 k))]) []else some (.x (.int .i64 (rdL q xs n i)),[],[])
 |0,i,hi,ks=>by
  rw[rdL,if_pos rfl,sb5 c126L0.eq_def]
  simp(disch:=first|omega|fail) only[push_cast,seval,vrl,if_pos,if_neg]
 |n+1,i,hi,ks=>by
  have ih:=cf6 hl n (i+1) (by omega) ks
  have h1:=ui5 (zs:=xs) (i:=i) (by omega)
  have e1:=fun nl=>o94 (b:=b) (nl:=nl) (x:=gi xs i) (l:=xs.take i) (by rw[List.length_take];omega)
  rw[Int.natCast_add,Int.natCast_one]at ih
  cases hk:fok q (gi xs i)with
  |false=>
   have hrd:rdL q xs (n+1) i=2:=by rw[rdL,hk];rfl
   rw[hrd,if_neg (by decide),sb5 c126L0.eq_def]
   simp(disch:=first|omega|fail) only[push_cast,seval,vrl,if_pos,if_neg,h1,hk]
  |true=>
   cases hc:(xs.take i).any fun y=>decide (gi xs i=y)with
   |true=>
    rw[hc]at e1
    have hrd:rdL q xs (n+1) i=7:=by rw[rdL,hk,if_pos rfl,hc];rfl
    rw[hrd,if_neg (by decide),sb5 c126L0.eq_def]
    simp(disch:=first|omega|fail) only[push_cast,seval,vrl,if_pos,if_neg,h1,hk,e1,Int.sub_zero]
   |false=>
    rw[hc]at e1
    have hrd:rdL q xs (n+1) i=rdL q xs n (i+1):=by rw[rdL,hk,if_pos rfl,hc];rfl
    rw[hrd,←ih,sb5 c126L0.eq_def]
    simp(disch:=first|omega|fail) only[push_cast,seval,vrl,if_pos,if_neg,h1,hk,e1,Int.sub_zero]
theorem h23(hl:xs.length≤9223372036854775807):o24 W 126 [.x (.int .i64 q), .fz b (.sl nl 0 1 (ivs xs)), .x (.int .i64 k)] []=some (.x (.int .i64 (rdE q xs k)),[],[]):=by
 unfold rdE
 cases hn:fldN q.toNat with
 |none=>
  have e0:=ug9 hn
  rw[o10 rfl T126 rfl]
  unfold F126 c126
  simp(disch:=first|omega|fail) only[push_cast,seval,vrl,if_pos,if_neg,e0]
 |some x=>
  obtain⟨p0,m0,g0,mod⟩:=x
  haveI:IsFld q:=⟨⟨p0,m0,g0,mod,hn⟩⟩
  simp only
  by_cases h1:xs.length<1∨64<xs.length
  ·rw[if_pos h1,o10 rfl T126 rfl]
   unfold F126 c126
   by_cases h2:xs.length<1
   ·simp(disch:=first|omega|fail) only[push_cast,seval,vrl,if_pos,if_neg]
   ·simp(disch:=first|omega|fail) only[push_cast,seval,vrl,if_pos,if_neg]
  ·rw[if_neg h1]
   have e1:=fun ks=>cf6 (q:=q) (b:=b) (nl:=nl) (k:=k) (xs:=xs) (by omega) xs.length 0 (by omega) ks
   simp only[Int.natCast_zero,List.take_zero,List.drop_zero,rp2,lz6,x25,List.map_nil,List.length_nil]at e1
   by_cases h2:rdL q xs xs.length 0=0
   ·simp only[if_pos h2]at e1
    rw[if_pos h2,o10 rfl T126 rfl]
    unfold F126 c126
    simp(disch:=first|omega|fail) only[push_cast,seval,vrl,if_pos,if_neg]
    rw[e1]
    by_cases h3:k<1
    ·rw[if_pos (Or.inl h3)]
     simp(disch:=first|omega|fail) only[push_cast,seval,vrl,if_pos,if_neg]
    ·by_cases h4:(xs.length:Int)<k
     ·rw[if_pos (Or.inr h4)]
      simp(disch:=first|omega|fail) only[push_cast,seval,vrl,if_pos,if_neg]
     ·rw[if_neg (by omega)]
      simp(disch:=first|omega|fail) only[push_cast,seval,vrl,if_pos,if_neg]
   ·simp only[if_neg h2]at e1
    rw[if_neg h2,o10 rfl T126 rfl]
    unfold F126 c126
    simp(disch:=first|omega|fail) only[push_cast,seval,vrl,if_pos,if_neg]
    rw[e1]
end
def encT{q:Int}(f:El q→El q)(X:List (El q))(hq:IsFld q):Nat→Nat→List (El q)→List (El q)
 |0,_,z=>z
 |n+1,i,z=>encT f X hq n (i+1) (z.set i (f (wf X i)))
section
variable {q:Int} [hq:IsFld q]
theorem ks7(f:El q→El q)(X:List (El q)): ∀(n i:Nat) (z:List (El q)),(encT f X hq n i z).length=z.length
 |0,_,_=>rfl
 |n+1,i,z=>by rw[encT,ks7 f X n,List.length_set]
theorem ip1(f:El q→El q)(X:List (El q)): ∀(n i:Nat) (z:List (El q)),i+n≤z.length→ ∀j,wf (encT f X hq n i z) j=if i≤j∧j<i+n then f (wf X j)else wf z j
 |0,i,z,_,j=>by rw[encT,if_neg (by omega)]
 |n+1,i,z,h,j=>by
  rw[encT,ip1 f X n (i+1) _ (by rw[List.length_set];omega),wf_set (by omega)]
  by_cases h1:j=i
  ·subst h1
   rw[if_neg (by omega),if_pos rfl,if_pos (by omega)]
  ·rw[if_neg h1]
   by_cases h2:i+1≤j∧j<i+1+n
   ·rw[if_pos h2,if_pos (by omega)]
   ·rw[if_neg h2,if_neg (by omega)]
theorem n91(f:El q→El q)(X:List (El q)){z:List (El q)}(hz:z.length=X.length):encT f X hq X.length 0 z=X.map f:=by
 refine ou8 (by rw[ks7,hz,List.length_map]) (funext fun j=> ?_)
 rw[ip1 f X _ _ _ (by omega)]
 by_cases h:j<X.length
 ·rw[if_pos (by omega),i66 h,i66 (by simpa using h),List.getElem_map]
 ·rw[if_neg (by omega),ez8 (by omega),ez8 (by simp;omega)]
variable {b b':Bool} {nl nl':Nat} {X m:List (El q)}
theorem gc4(hX:X.length≤1000)(hm:m.length≤128): ∀(n i:Nat) (z:List (El q)),i+n=X.length→z.length=X.length→ ∀ks,
 vgoL W ⟨h51,[.tmp 6, .tmp 7],0⟩ [0,2,10,30,31,32] c51L0 (.blk 0 [10]::ks) [(0, .x (.int .i64 q)),(2, .fz b' (.sl nl' 0 1 (ivs (vs m)))),(10, .own 0 []),(30, .fz b (.sl nl 0 1 (ivs (vs X)))),(31, .x (.int .i64 X.length)),(32, .x (.int .i64 i))] [.sl 0 3 1 (ivs (vs z))]=
  vgo W ⟨h51,[.tmp 6, .tmp 7],0⟩ ks (VFr.of [(10, .own 0 [])]) [.sl 0 3 1 (ivs (vs (encT (fun x=>ev m x) X hq n i z)))]
 |0,i,z,hi,hz,ks=>by
  rw[encT,sb5 c51L0.eq_def]
  simp(disch:=first|omega|fail) only[push_cast,seval,vrl,if_pos,if_neg]
 |n+1,i,z,hi,hz,ks=>by
  have ih:=gc4 hX hm n (i+1) (z.set i (ev m (wf X i))) (by omega) (by rw[List.length_set];exact hz) ks
  have h1:=iva (l:=X) (i:=i) (by omega)
  have e1:=fun b nl=>yu6 (b:=b) (nl:=nl) (a:=m) (x:=wf X i) hm
  rw[Int.natCast_add,Int.natCast_one,←g52]at ih
  rw[encT,←ih,sb5 c51L0.eq_def]
  simp(disch:=first|omega|fail) only[push_cast,seval,vrl,if_pos,if_neg,h1,e1]
theorem su9(hn:X.Nodup)(h1:1≤m.length)(h2:m.length≤X.length)(h3:X.length≤64):
 o24 W 51 [.x (.int .i64 q), .fz b (.sl nl 0 1 (ivs (vs X))), .fz b' (.sl nl' 0 1 (ivs (vs m)))] []=some (.tup [.own 0 [], .x (.int .i64 0)],[.sl 0 3 1 (ivs (vs (X.map fun x=>ev m x)))],[]):=by
 have e1:=fun b nl=>h23 (q:=q) (b:=b) (nl:=nl) (xs:=vs X) (k:=m.length) (by rw[fi2];omega)
 simp only[la8 hn (by omega) h3 (show(1:Int)≤(m.length:Int) by omega) (by omega)]at e1
 have e2:=fun b nl=>bw7 (q:=q) (b:=b) (nl:=nl) (l:=vs m) (by rw[fi2];omega)
 simp only[i31 (show m.length≤128 by omega)]at e2
 have e3:=fun ks=>gc4 (b:=b) (nl:=nl) (b':=b') (nl':=nl') (X:=X) (m:=m) (by omega) (by omega) X.length 0 (List.replicate X.length 0) (by omega) (by simp) ks
 rw[n91 _ _ (by simp)]at e3
 have hz:List.replicate X.length (0:Int)=vs (List.replicate X.length (0:El q)):=by rw[←qj2];rfl
 simp only[Int.natCast_zero,List.take_zero,List.drop_zero,rp2,lz6,x25,List.map_nil,List.length_nil]at e3
 rw[o10 rfl T51 rfl]
 unfold F51 c51
 simp(disch:=first|omega|fail) only[push_cast,seval,vrl,if_pos,if_neg,e1,e2,hz]
 rw[e3]
 simp(disch:=first|omega|fail) only[push_cast,seval,vrl,if_pos,if_neg]
end
section
variable {q:Int}
def oV:Option (El q)→Int
 |none=> -1
 |some x=>x.v
def ws(W:List (Option (El q))):List Int:=W.map oV
theorem u67(W:List (Option (El q))):(ws W).length=W.length:=by unfold ws;rw[List.length_map]
def wrdE(q:Int)(xs:List Int)(k:Int)(w:List Int):Int:=if rdE q xs k=0 then if w.length≠xs.length then 6 else if(w.any fun v=> !decide (v= -1)&& !fok q v)=true then 2 else 0 else rdE q xs k
theorem p09(W:List (Option (El q))):((ws W).any fun v=> !decide (v= -1)&& !fok q v)=false:=List.any_eq_false.2 fun z hz=>by
 obtain⟨o,_,rfl⟩:=List.mem_map.1 hz
 cases o with
 |none=>simp[oV]
 |some x=>show(!decide (x.v= -1)&& !fok q x.v)=_→False
          rw[x.ok];simp
end
section
variable {q:Int} {b b':Bool} {nl nl':Nat}
theorem cl4 [IsFld q]{e:Nat}(v:Int):o24 W 213 [.x (.int .i64 v), .fz b (.pt e [pF q])] []=some (.x (.bool (!decide (v= -1)&& !fok q v)),[],[]):=by
 rw[o10 rfl T213 rfl]
 unfold F213 c213
 by_cases h:v= -1
 ·simp(disch:=first|omega|fail) only[push_cast,seval,vrl,if_pos,if_neg,h]
 ·simp(disch:=first|omega|fail) only[push_cast,seval,vrl,if_pos,if_neg,nb8 h]
theorem hd9{xs w:List Int}{k:Int}(hx:xs.length≤9223372036854775807)(hw:w.length≤9223372036854775807):
 o24 W 188 [.x (.int .i64 q), .fz b (.sl nl 0 1 (ivs xs)), .x (.int .i64 k), .fz b' (.sl nl' 0 1 (ivs w))] []=some (.x (.int .i64 (wrdE q xs k w)),[],[]):=by
 have e1:=fun b nl=>h23 (q:=q) (b:=b) (nl:=nl) (k:=k) hx
 unfold wrdE
 by_cases h1:rdE q xs k=0
 ·simp only[if_pos h1]
  haveI:=(z24 h1).1
  by_cases h2:w.length=xs.length
  ·rw[if_neg (by omega)]
   have hf:=fun bl nl b e=>eg0 (nl:=nl) (l:=w) (bl:=bl) (k:=213) (b:=b) (t:= .pt e [pF q]) cl4 rfl (by omega)
   rw[o10 rfl T188 rfl]
   unfold F188 c188
   by_cases h3:(w.any fun v=> !decide (v= -1)&& !fok q v)=true
   ·rw[if_pos h3]
    rw[h3]at hf
    simp(disch:=first|omega|fail) only[push_cast,seval,vrl,if_pos,if_neg,e1,h1,h2,hf]
   ·rw[if_neg h3]
    rw[Bool.not_eq_true]at h3
    rw[h3]at hf
    simp(disch:=first|omega|fail) only[push_cast,seval,vrl,if_pos,if_neg,e1,h1,h2,hf]
  ·rw[if_pos h2]
   have h8: ¬(w.length:Int)=(xs.length:Int):=by omega
   rw[o10 rfl T188 rfl]
   unfold F188 c188
   simp(disch:=first|omega|fail) only[push_cast,seval,vrl,if_pos,if_neg,e1,h1,nb8 h8]
 ·simp only[if_neg h1]
  rw[o10 rfl T188 rfl]
  unfold F188 c188
  simp(disch:=first|omega|fail) only[push_cast,seval,vrl,if_pos,if_neg,e1,nb8 h1]
theorem di6 [IsFld q](a:List (El q))(p:El q×El q)(P:List (El q×El q)):offK a (p::P)=(if ev a p.1=p.2 then 0 else 1)+offK a P:=by
 unfold offK
 rw[List.filter_cons]
 by_cases h:ev a p.1=p.2
 ·rw[if_pos h,zr2.2 h,if_neg (by decide),Nat.zero_add]
 ·have hb:badF a p=true:=by unfold badF;simpa using h
  rw[if_neg h,hb,if_pos rfl,List.length_cons,Nat.add_comm]
end
end Go.Proofs.Ytmhbpecdpiapgaa
