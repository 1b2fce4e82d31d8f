/-
  The fields of the table are fields. No condition. What is known of fields in the first machine, for the second. No condition. What rows span; their one form. No condition. Rows one by one into what there is, in plain Lean: its form, what it spans; equations. Condition: rows of one length. Rows column by column, in plain Lean: the one form comes out of this too. Condition: rows of one length. What  ..
-/
import Derived.Test.YtlhmdmedagjmnaaK5
import Derived.Test.YtlhmdmedagjmnaaKAD
import Derived.Test.YtlhmdmedagjmnaaK4
import Derived.KernelRfl
set_option linter.unusedVariables false
set_option linter.unusedSimpArgs false
set_option linter.unusedSectionVars false
set_option maxRecDepth 100000
namespace Go.Proofs.Ytlhmdmedagjmnaa
open Go.Am Go.Alg
section
variable {q p g:Int} {m:Nat} {mod:List Int}
end
class IsFld (q:Int):Prop where
 ok: ∃p m g mod,fldN q.toNat=some (p,m,g,mod)
structure El (q:Int) where
 v:Int
 lo:0≤v
 hi:v<q
theorem El.ext'{q:Int}{a b:El q}(h:a.v=b.v):a=b:=by
 obtain⟨a,h1,h2⟩:=a
 obtain⟨b,h3,h4⟩:=b
 cases h;rfl
instance {q:Int}:DecidableEq (El q):=fun a b=>if h:a.v=b.v then .isTrue (El.ext' h)else .isFalse fun e=>h (e▸rfl)
theorem jj8{q p g:Int}{m:Nat}{mod:List Int}(hn:fldN q.toNat=some (p,m,g,mod)):FOk q p m mod∧Tabs q g∧1≤g∧g<q:=by
 obtain⟨h2,h64⟩:=ug0 hn
 have h:=hi9 hn
 rw[show((q.toNat:Nat):Int)=q by omega]at h
 exact⟨h.1,cb4 hn,h.2.2.1,h.2.2.2.1⟩
theorem El.ok{q:Int}(a:El q):fok q a.v=true:=iy2 ⟨a.lo,a.hi⟩
theorem do9{q p g:Int}{m:Nat}{mod:List Int}(hn:fldN q.toNat=some (p,m,g,mod))(a b:El q):fadd q a.v b.v=addN p m a.v b.v:=by
 rw[fadd,a.ok,b.ok,(y65 hn).1,(y65 hn).2];rfl
theorem pu7{q p g:Int}{m:Nat}{mod:List Int}(hn:fldN q.toNat=some (p,m,g,mod))(a:El q):fneg q a.v=negN p m a.v:=by
 rw[fneg,a.ok,(y65 hn).1,(y65 hn).2];rfl
section
variable {q:Int} [hq:IsFld q]
theorem aw0:2≤q:=by
 obtain⟨p,m,g,mod,hn⟩:=hq.ok
 exact(jj8 hn).1.q2
theorem wg2(a b:El q):0≤fadd q a.v b.v∧fadd q a.v b.v<q:=by
 obtain⟨p,m,g,mod,hn⟩:=hq.ok
 have hf:=(jj8 hn).1
 have:=hf.p2
 have hb:=kq3 (p:=p) (by omega) m a.v b.v
 rw[hf.pm]at hb
 rw[do9 hn];exact hb
theorem ca9(a:El q):0≤fneg q a.v∧fneg q a.v<q:=by
 obtain⟨p,m,g,mod,hn⟩:=hq.ok
 have hf:=(jj8 hn).1
 have:=hf.p2
 have hb:=ul1 (p:=p) (by omega) m a.v
 rw[hf.pm]at hb
 rw[pu7 hn];exact hb
theorem jo8(a b:El q):0≤fmul q a.v b.v∧fmul q a.v b.v<q:=by
 obtain⟨p,m,g,mod,hn⟩:=hq.ok
 obtain⟨hf,t,_⟩:=jj8 hn
 have h2:=hf.q2
 rw[fmul,a.ok,b.ok]
 cases h0:(a.v==0)||(b.v==0)with
 |true=>exact⟨Int.le_refl _,by show(0:Int)<q;omega⟩
 |false=>
  have:=zd3 t h2 (flog q a.v+flog q b.v)
  exact⟨by show 0≤fexp q _;omega,this.2.1⟩
instance :Zero (El q):=⟨⟨0,Int.le_refl _,by have:=aw0 (q:=q);omega⟩⟩
instance :One (El q):=⟨⟨1,by omega,by have:=aw0 (q:=q);omega⟩⟩
instance :Add (El q):=⟨fun a b=>⟨fadd q a.v b.v,(wg2 a b).1,(wg2 a b).2⟩⟩
instance :Mul (El q):=⟨fun a b=>⟨fmul q a.v b.v,(jo8 a b).1,(jo8 a b).2⟩⟩
instance :Neg (El q):=⟨fun a=>⟨fneg q a.v,(ca9 a).1,(ca9 a).2⟩⟩
end
def vs{q:Int}(l:List (El q)):List Int:=l.map El.v
section
variable {q:Int}
theorem fi2(l:List (El q)):(vs l).length=l.length:=by simp[vs]
end
end Go.Proofs.Ytlhmdmedagjmnaa
namespace Go.Proofs.Ytlhmdmedagjmnaa
open Go.Am Go.Vm Go.Alg
theorem d40{zs:List Int}{i:Nat}(hi:i<zs.length):(ints zs)[i]? =some (.int .i64 (gi zs (i:Int))):=by
 have:=c13 (zs:=zs) (i:=(i:Int)) (by omega) (by omega)
 rwa [Int.toNat_natCast]at this
theorem zj7{h:H}{Z:Nat→Prop}{zs:List Int}{l:List Value}:RdL h Z (ivs zs) l↔l=ints zs:=by
 induction zs generalizing l with
 |nil=>exact⟨fun hr=>by rw[show ivs []=[]from rfl,RdL]at hr;exact hr,fun e=>by subst e;rw[show ivs []=[]from rfl,RdL];rfl⟩
 |cons z zs ih=>
  rw[show ivs (z::zs)= .v (.int .i64 z)::ivs zs from rfl,RdL]
  constructor
  ·rintro⟨w,l',rfl,h1,h2⟩
   rw[Rd]at h1
   rw[h1,ih.1 h2];rfl
  ·rintro rfl
   exact⟨_,_,rfl,by rw[Rd],ih.2 rfl⟩
theorem pd9{h:H}{Z:Nat→Prop}{e:Nat}{zs:List Int}{sa:Option Addr}{c:Nat}(hr:RdI h sa c zs)(hz: ∀o,sa.map (·.block)=some o→Z o):Rd h Z (.sl 2 e 1 (ivs zs)) (.slice sa zs.length c):=by
 rw[Rd]
 rcases hr with⟨rfl,rfl,rfl⟩|⟨h1,o,off,r,rfl,h2,h3,h4⟩
 ·exact .inl ⟨rfl,by decide,by decide,rfl⟩
 ·refine .inr ⟨o,off,_,c,r,rfl,hz o rfl,h2,h3,by decide,by rw[gf1,Nat.mul_one],h1,fun h=>(by cases h),zj7.2 ?_⟩
  rw[gf1]
  refine List.ext_getElem? fun i=> ?_
  by_cases hi:i<zs.length
  ·rw[d40 hi,List.getElem?_take,if_pos hi,List.getElem?_drop]
   have:=h4 (i:Int) (by omega) (by omega)
   rwa [Int.toNat_natCast]at this
  ·rw[List.getElem?_eq_none (by rw[List.length_take];omega),List.getElem?_eq_none (by rw[iq5];omega)]
def lvs(nl:Nat)(m:List (List Int)):List Tree:=m.map fun l=> .sl nl 0 1 (ivs l)
theorem nb9(nl:Nat)(m:List (List Int)):(lvs nl m).length=m.length:=by simp[lvs]
def allZ(h:H):Nat→Prop:=fun o=>o<h.length
theorem bh6(h:H):Inv h [] (allZ h) (allZ h):=⟨by rw[okL];trivial,fun x=>by simp[fpL],fun o ho=>by simp[fpL]at ho,fun o ho=>by simp[fpL]at ho,fun o ho=>ho,fun o ho=>ho⟩
theorem vlaw{W:VW}(hP: ∀f p vs C r,W.P f=some p→p vs C=some r→VOK W.T f vs C r){h:H}{f:FuncId}{xs0:List AV}{ws:List Value}(hv:VRL h [] (allZ h) (allZ h) xs0 ws){b:Bool}(e:o24 W f xs0 []=some (.x (.bool b),[],[])): ∃h',call W.T f ws h=some (.bool b,h'):=by
 obtain⟨w,h',K,S,Z',Zp',h1,P⟩:=lw9 hP e h [] _ _ ws (bh6 h) rfl hv fun k hk=>by cases hk
 have:=P.v
 rw[Vm.VR]at this
 subst this
 exact⟨h',h1⟩
def pFt(q p:Int)(m:Nat)(g:Int)(mod:List Int):Tree:= .ex (.pt 137 [.v (.int .i64 q), .v (.int .i64 p), .v (.int .i64 m), .fz (.sl 2 0 1 (ivs mod)), .v (.int .i64 g), .sl 0 3 1 (ivs (tabs q.toNat).1), .sl 0 3 1 (ivs (tabs q.toNat).2)])
def pF(q:Int):Tree:=match fldN q.toNat with
 |some (p,m,g,mod)=>pFt q p m g mod
 |none=> .junk
noncomputable def vP:FuncId→Option (List AV→Rts→Option VRes)
 |38=>some sa3
 |_=>none
noncomputable def W:VW:=⟨T,vP,vH,vM,ct⟩
@[push_cast] theorem W_M(f:FuncId):W.M f=vM f:=rfl
@[push_cast] theorem W_H(f:FuncId):W.H f=vH f:=rfl
@[push_cast] theorem W_ct:W.ct=ct:=rfl
theorem lw2(f:FuncId)(p:List AV→Rts→Option VRes)(xs0:List AV)(C:Rts)(r:VRes)(hp:W.P f=some p)(he:p xs0 C=some r):VOK W.T f xs0 C r:=by
 have hp:vP f=some p:=hp
 show VOK T f xs0 C r
 unfold vP at hp
 split at hp
 ·cases hp;exact(fun _=>fg6 he) 38
 ·cases hp
section
variable {q:Int} [IsFld q] {b:Bool} {x y:Int}
end
theorem ga7{q n:Int}{l:List Int}(h:ik4 q n)(hl:xn7 q n=some l):o24 W 38 [.x (.int .i64 q), .x (.int .i64 n)] []=some (.tup [.own 0 [], .x (.int .i64 0)],[.sl (nlT l) 3 1 (ivs l)],[]):=(xr5 rfl).trans (is2 h hl)
end Go.Proofs.Ytlhmdmedagjmnaa
namespace Go.Alg
section
variable {K:Type} [FK K]
section
variable {n:Nat} {A B:List (Nat×(Nat→K))}
def wf(l:List K):Nat→K:=fun i=>l.getD i 0
end
end
end Go.Alg
namespace Go.Alg
section
variable {α:Type}
end
section
variable {K:Type} [FK K]
section
variable {n:Nat} {A:List (Nat×List K)}
end
end
end Go.Alg
namespace Go.Alg
section
variable {α:Type} {M:List (List α)} {P:List Nat}
end
section
variable {K:Type} [FK K]
section
variable {n c:Nat} {M0 M:List (List K)} {P:List Nat}
end
end
end Go.Alg
namespace Go.Alg
section
variable {K:Type} [FK K]
end
end Go.Alg
namespace Go.Proofs.Ytlhmdmedagjmnaa
open Go.Am Go.Vm Go.Alg
def lls(nl:Nat)(m:List (List Int)):List Tree:=m.map fun l=> .sl nl 3 1 (ivs l)
theorem qf0(nl:Nat)(m:List (List Int)):(lls nl m).length=m.length:=by simp[lls]
theorem lg8(nl:Nat)(m:List (List Int)):jj5 (lls nl m)=lvs nl m:=by
 rw[gz0]
 unfold lls lvs
 rw[List.map_map]
 refine List.map_congr_left fun l _=> ?_
 show strip _=_
 rw[strip,ap3]
theorem lr8(nl:Nat)(m:List (List Int)):jj5 (lvs nl m)=lvs nl m:=by
 rw[gz0]
 unfold lvs
 rw[List.map_map]
 refine List.map_congr_left fun l _=> ?_
 show strip _=_
 rw[strip,ap3]
theorem ng3(nl:Nat)(m:List (List Int))(l:List Int):lls nl m++[.sl nl 3 1 (ivs l)]=lls nl (m++[l]):=by unfold lls;rw[List.map_append];rfl
theorem y81(nl:Nat)(m:List (List Int))(i:Nat)(l:List Int):(lls nl m).set i (.sl nl 3 1 (ivs l))=lls nl (m.set i l):=by unfold lls;rw[List.map_set]
theorem mm0(nl:Nat)(m:List (List Int))(n:Nat):(lls nl m).take n=lls nl (m.take n):=by unfold lls;rw[List.map_take]
theorem by3(nl:Nat)(m:List (List Int))(n:Nat):(lls nl m).drop n=lls nl (m.drop n):=by unfold lls;rw[List.map_drop]
theorem rj0(nl:Nat)(m:List (List Int))(n:Nat):(lvs nl m).take n=lvs nl (m.take n):=by unfold lvs;rw[List.map_take]
theorem ff4(nl:Nat)(m:List (List Int))(n:Nat):(lvs nl m).drop n=lvs nl (m.drop n):=by unfold lvs;rw[List.map_drop]
@[push_cast] theorem wf0{q:Int} [h:IsFld q]:isNode (pF q)=true:=by
 obtain⟨p,m,g,mod,hn⟩:=h.ok
 unfold pF;rw[hn];rfl
@[push_cast] theorem v59{q:Int} [h:IsFld q]{b:Bool}:ofz b (pF q)=some (.fz b (pF q)):=by
 obtain⟨p,m,g,mod,hn⟩:=h.ok
 unfold pF;rw[hn];rfl
attribute [push_cast 50] List.isEmpty_nil List.isEmpty_cons nb9 qf0 lg8 lr8 ng3 mm0 by3 rj0 ff4 fi2 List.map_nil ite_self List.set_cons_zero List.set_cons_succ List.set_nil List.take_zero List.take_nil List.drop_zero List.drop_nil List.take_succ_cons List.drop_succ_cons List.take_length List.length_map List.flatMap_nil List.flatMap_cons gf1 pl3 l78 ap3 so0 nc5 yp5 u42 cs7 Int.natCast_add Int.natCast_one Int.natCast_zero Int.toNat_natCast Nat.div_one Nat.mul_one List.length_set List.all_cons List.all_nil List.length_append List.length_replicate List.length_take List.length_drop Int.zero_add
end Go.Proofs.Ytlhmdmedagjmnaa
namespace Go.Proofs.Ytlhmdmedagjmnaa
open Go.Am Go.Vm Go.Alg
theorem iat{l:List Int}{i:Nat}{a:Int}(h:l[i]? =some a):(ivs l)[i]? =some (.v (.int .i64 a)):=by
 unfold ivs;rw[List.getElem?_map,h];rfl
def jks(n:Nat):List Tree:=List.replicate n .junk
@[push_cast] theorem gc3(n:Nat):(jks n).length=n:=List.length_replicate ..
def nl0:Nat→Nat
 |0=>1
 |_+1=>0
def nl1:Nat→Nat
 |0=>0
 |_+1=>1
@[push_cast] theorem o09(n:Nat):nl0 (n+1)=0:=rfl
@[push_cast] theorem m17(n:Nat):nl1 (n+1)=1:=rfl
@[push_cast] theorem vt2:nl0 0=1:=rfl
@[push_cast] theorem og7:nl1 0=0:=rfl
end Go.Proofs.Ytlhmdmedagjmnaa
namespace Go.Proofs.Ytlhmdmedagjmnaa
open Go.Am Go.Vm Go.Alg
end Go.Proofs.Ytlhmdmedagjmnaa
namespace Go.Proofs.Ytlhmdmedagjmnaa
open Go.Am Go.Vm Go.Alg
section
variable {b:Bool} {nl:Nat} {l:List Int}
section
variable {k:FuncId} {t:Tree} {p:Int→Bool}
end
section
variable {k:FuncId} {t:Tree} {p:List Int→Bool} {m:List (List Int)} {nr:Nat} {bl:Bool}
end
end
end Go.Proofs.Ytlhmdmedagjmnaa
namespace Go.Proofs.Ytlhmdmedagjmnaa
open Go.Am Go.Vm Go.Alg
def pkI(a n:Int):Int:=(if a<0 then-(a+1)else a).tmod n
theorem h58{a n:Int}(hn:0<n):0≤pkI a n∧pkI a n<n:=by
 unfold pkI
 split
 ·exact⟨Int.tmod_nonneg _ (by omega),Int.tmod_lt_of_pos _ hn⟩
 ·exact⟨Int.tmod_nonneg _ (by omega),Int.tmod_lt_of_pos _ hn⟩
def rwI(l:List Int)(i:Int):Int:=if l.length=0 then i else IntKind.wrap .i64 (gi l (i.tmod l.length)+IntKind.wrap .i64 (IntKind.wrap .i64 (i.tdiv l.length)*7919))
theorem ti9(x:Int): -9223372036854775808≤IntKind.wrap .i64 x∧IntKind.wrap .i64 x≤9223372036854775807:=by rw[IntKind.wrap_i64];omega
theorem bd0{l:List Int}{i:Int}(h0:0≤i)(h1:i≤9223372036854775807): -9223372036854775808≤rwI l i∧rwI l i≤9223372036854775807:=by
 unfold rwI
 split
 ·omega
 ·exact ti9 _
theorem cl0{l:List Int}{i:Int}(h0:0≤i)(h1:i<l.length):(ivs l)[i.toNat]? =some (.v (.int .i64 (gi l i))):=by
 have e:(ivs l)[i.toNat]? =some (.v (.int .i64 (gi l ((i.toNat:Nat):Int)))):=ui5 (by omega)
 rwa [Int.toNat_of_nonneg h0]at e
section
variable {b:Bool} {nl:Nat} {raw:List Int}
theorem s88{a n:Int}(h1: -9223372036854775808≤a)(h2:a≤9223372036854775807)(hn:0<n):o24 W 17 [.x (.int .i64 a), .x (.int .i64 n)] []=some (.x (.int .i64 (pkI a n)),[],[]):=by
 have hz: ¬n=0:=by omega
 rw[o08 rfl T17 rfl]
 unfold F17 c17 pkI
 by_cases h0:a<0
 ·rw[if_pos h0]
  simp(disch:=first|omega|fail) only[push_cast,seval,ui5,lu7,y81,bj9,wrap64,dec_lt,cw6,nl2,qc6,mr8,nb8,if_pos,if_neg,nb8 hz,hz]
  rw[show(0:Int)-(a+1)= -(a+1) by omega]
 ·rw[if_neg h0]
  simp(disch:=first|omega|fail) only[push_cast,seval,ui5,lu7,y81,bj9,wrap64,dec_lt,cw6,nl2,qc6,mr8,nb8,if_pos,if_neg,nb8 hz,hz]
theorem yc3{i:Int}(hi:0≤i)(hl:raw.length≤9223372036854775807):o24 W 40 [.fz b (.sl nl 0 1 (ivs raw)), .x (.int .i64 i)] []=some (.x (.int .i64 (rwI raw i)),[],[]):=by
 rw[o08 rfl T40 rfl]
 unfold F40 c40 rwI
 by_cases h0:raw.length=0
 ·rw[if_pos h0]
  have h0':(raw.length:Int)=0:=by omega
  simp(disch:=first|omega|fail) only[push_cast,seval,ui5,lu7,y81,bj9,wrap64,dec_lt,cw6,nl2,qc6,mr8,nb8,if_pos,if_neg,h0']
 ·rw[if_neg h0]
  have hz: ¬(raw.length:Int)=0:=by omega
  have b1:0≤i.tmod raw.length:=Int.tmod_nonneg _ hi
  have b2:i.tmod raw.length<raw.length:=Int.tmod_lt_of_pos _ (by omega)
  have e:=cl0 b1 b2
  simp(disch:=first|omega|fail) only[push_cast,seval,ui5,lu7,y81,bj9,wrap64,dec_lt,cw6,nl2,qc6,mr8,nb8,if_pos,if_neg,hz,nb8 hz,e]
end
end Go.Proofs.Ytlhmdmedagjmnaa
namespace Go.Proofs.Ytlhmdmedagjmnaa
def k29:List Int→Int
 | []=>1
 |s::r=>s*k29 r
def yz5:List Int→Int→List Int
 | [],_=>[]
 |s::r,k=>(k/k29 r)::yz5 r (if k/k29 r%2=1 then k29 r-1-k%k29 r else k%k29 r)
def vy2:List Int→List Int→Int→Bool→Option Int
 |s::r,d::t,k,back=>if d<0∨s≤d then none else vy2 r t (k*s+(if back=true then s-1-d else d)) (decide (d%2=1) !=back)
 |_,_,k,_=>some k
def OkS(zs:List Int):Prop:= ∀z∈zs,2≤z∧z≤10
theorem OkS.tail{z:Int}{r:List Int}(h:OkS (z::r)):OkS r:=fun x hx=>h x (List.mem_cons_of_mem _ hx)
theorem OkS.head{z:Int}{r:List Int}(h:OkS (z::r)):2≤z∧z≤10:=h z (List.mem_cons_self ..)
theorem c20: ∀{zs:List Int},OkS zs→1≤k29 zs
 | [],_=>Int.le_refl 1
 |s::r,h=>by
  have h1:=c20 h.tail
  have h2:=h.head
  have:1*1≤s*k29 r:=Int.mul_le_mul (by omega) h1 (by omega) (by omega)
  unfold k29;omega
theorem er1: ∀(zs:List Int) (k:Int),(yz5 zs k).length=zs.length
 | [],_=>rfl
 |s::r,k=>by rw[yz5,List.length_cons,List.length_cons,er1 r]
theorem parts{p k:Int}(hp:1≤p)(h0:0≤k): ∃d m:Int,k=m+p*d∧0≤d∧0≤m∧m<p∧k/p=d∧k%p=m:=by
 obtain⟨h1,h2,h3⟩:=(Int.ediv_emod_unique (a:=k) (b:=p) (r:=k%p) (q:=k/p) (by omega)).1 ⟨rfl,rfl⟩
 exact⟨k/p,k%p,h1.symm,Int.ediv_nonneg h0 (by omega),h2,h3,rfl,rfl⟩
theorem wc3{p d m:Int}(h0:0≤m)(h1:m<p):(m+p*d)/p=d∧(m+p*d)%p=m:=(Int.ediv_emod_unique (by omega)).2 ⟨rfl,h0,h1⟩
theorem qb5{p d m s:Int}(hp:1≤p)(h0:0≤m)(h:m+p*d<s*p):d<s:=by
 rw[Int.mul_comm s p]at h
 have h1:p*d<p*s:=by omega
 exact Int.lt_of_mul_lt_mul_left h1 (by omega)
def sqD:List Int→List Int→Int
 |a::l,b::r=>(a-b)*(a-b)+sqD l r
 |_,_=>0
theorem ms3: ∀l:List Int,sqD l l=0
 | []=>rfl
 |a::l=>by rw[sqD,ms3 l,Int.sub_self];rfl
theorem c35: ∀l r:List Int,sqD l r=sqD r l
 | [],[]=>rfl
 | [],b::r=>rfl
 |a::l,[]=>rfl
 |a::l,b::r=>by
  rw[sqD,sqD,c35 l r,show b-a= -(a-b) by omega,Int.neg_mul_neg]
theorem qk1: ∀{zs:List Int},OkS zs→ ∀k:Int,0≤k→k+1<k29 zs→sqD (yz5 zs k) (yz5 zs (k+1))=1
 | [],_,k,h0,h1=>by rw[k29]at h1;omega
 |s::r,hz,k,h0,h1=>by
  have hp:=c20 hz.tail
  rw[k29]at h1
  have IH:=fun k=>qk1 hz.tail k
  rw[yz5,yz5]
  generalize k29 r=p at*
  obtain⟨d,m,hk,hd,hm0,hm1,e1,e2⟩:=parts hp h0
  by_cases hm:m+1<p
  ·have hk1:k+1=(m+1)+p*d:=by omega
   obtain⟨e3,e4⟩:=wc3 (p:=p) (d:=d) (m:=m+1) (by omega) hm
   rw[←hk1]at e3 e4
   rw[e1,e2,e3,e4,sqD,Int.sub_self]
   by_cases ho:d%2=1
   ·rw[if_pos ho,if_pos ho,c35]
    have:=IH (p-1-(m+1)) (by omega) (by omega)
    rw[show p-1-(m+1)+1=p-1-m by omega]at this
    rw[this];rfl
   ·rw[if_neg ho,if_neg ho,IH m hm0 hm];rfl
  ·have hk1:k+1=0+p*(d+1):=by rw[Int.mul_add,Int.mul_one];omega
   obtain⟨e3,e4⟩:=wc3 (p:=p) (d:=d+1) (m:=0) (by omega) (by omega)
   rw[←hk1]at e3 e4
   rw[e1,e2,e3,e4,sqD,show d-(d+1)= -1 by omega]
   by_cases ho:d%2=1
   ·rw[if_pos ho,if_neg (by omega),show p-1-m=0 by omega,ms3];rfl
   ·rw[if_neg ho,if_pos (by omega),show p-1-0=m by omega,ms3];rfl
theorem ez0: ∀{zs:List Int},OkS zs→ ∀(k acc:Int) (b:Bool),0≤k→k<k29 zs→vy2 zs (yz5 zs (if b=true then k29 zs-1-k else k)) acc b=some (acc*k29 zs+k)
 | [],_,k,acc,b,h0,h1=>by
   rw[k29]at h1⊢
   rw[yz5,vy2]
   congr 1;omega
   ·intros;rename_i h _;cases h
 |s::r,hz,k,acc,b,h0,h1=>by
  have hp:=c20 hz.tail
  have hs:=hz.head
  rw[k29]at h1
  have IH:=fun k acc b=>ez0 hz.tail k acc b
  rw[yz5,vy2,k29]
  generalize k29 r=p at*
  obtain⟨e,m,hk,hd,hm0,hm1,e1,e2⟩:=parts hp h0
  have hes:e<s:=qb5 hp hm0 (by omega)
  have hfin:(acc*s+e)*p+m=acc*(s*p)+k:=by rw[hk,Int.add_mul,Int.mul_assoc,Int.mul_comm e p];omega
  cases b with
  |false=>
   rw[if_neg Bool.false_ne_true,if_neg Bool.false_ne_true,e1,e2,if_neg (by omega),Bool.bne_false]
   have:=IH m (acc*s+e) (decide (e%2=1)) hm0 hm1
   simp only[decide_eq_true_eq]at this
   rw[this,hfin]
  |true=>
   have hK:s*p-1-k=(p-1-m)+p*(s-1-e):=by
    rw[hk,Int.mul_sub,Int.mul_sub,Int.mul_one,Int.mul_comm s p];omega
   obtain⟨e3,e4⟩:=wc3 (p:=p) (d:=s-1-e) (m:=p-1-m) (by omega) (by omega)
   rw[←hK]at e3 e4
   rw[if_pos rfl,if_pos rfl,e3,e4,if_neg (by omega),show s-1-(s-1-e)=e by omega,Bool.bne_true]
   by_cases ho:(s-1-e)%2=1
   ·have:=IH m (acc*s+e) false hm0 hm1
    rw[if_neg Bool.false_ne_true]at this
    rw[if_pos ho,show p-1-(p-1-m)=m by omega,decide_eq_true ho]
    exact this.trans (by rw[hfin])
   ·have:=IH m (acc*s+e) true hm0 hm1
    rw[if_pos rfl]at this
    rw[if_neg ho,decide_eq_false ho]
    exact this.trans (by rw[hfin])
theorem v09: ∀{zs:List Int},OkS zs→ ∀k:Int,0≤k→k<k29 zs→ ∀d∈yz5 zs k,0≤d∧d≤10
 | [],_,k,h0,h1,d,h=>by cases h
 |s::r,hz,k,h0,h1,d,h=>by
  have hp:=c20 hz.tail
  have hs:=hz.head
  rw[k29]at h1
  rw[yz5]at h
  have IH:=fun k=>v09 hz.tail k
  generalize k29 r=p at*
  obtain⟨e,m,hk,hd,hm0,hm1,e1,e2⟩:=parts hp h0
  have hes:e<s:=qb5 hp hm0 (by omega)
  rw[e1,e2]at h
  rcases List.mem_cons.1 h with rfl|h
  ·omega
  ·exact IH _ (by split<;>omega) (by split<;>omega) d h
end Go.Proofs.Ytlhmdmedagjmnaa
namespace Go.Proofs.Ytlhmdmedagjmnaa
open Go.Am Go.Vm Go.Alg
theorem OkS.drop{zs:List Int}(h:OkS zs)(i:Nat):OkS (zs.drop i):=fun x hx=>h x (List.mem_of_mem_drop hx)
theorem o87{a p s:Int}(ha:1≤a)(hp:1≤p)(hs:2≤s)(h:a*(s*p)≤1024):a*s*p≤1024∧1≤a*s∧a*s≤1024∧s*p≤1024∧p≤1024:=by
 have h1:a*s*p≤1024:=by rw[Int.mul_assoc];exact h
 have h2:1*2≤a*s:=Int.mul_le_mul ha hs (by omega) (by omega)
 have h3:a*s*1≤a*s*p:=Int.mul_le_mul_of_nonneg_left hp (by omega)
 have h4:1*1≤s*p:=Int.mul_le_mul (by omega) hp (by omega) (by omega)
 have h5:1*(s*p)≤a*(s*p):=Int.mul_le_mul_of_nonneg_right ha (by omega)
 have h6:1*p≤s*p:=Int.mul_le_mul_of_nonneg_right (by omega) (by omega)
 exact⟨h1,by omega,by omega,by omega,by omega⟩
section
variable {zs:List Int} {b b':Bool} {nl nl':Nat}
theorem e61(hl:zs.length≤10)(hz:OkS zs): ∀(d i:Nat) (all:Int),i+d=zs.length→1≤all→all*k29 (zs.drop i)≤1024→ ∀ks,
 vgoL W ⟨hNo,[.tmp 2],0⟩ [3,14,15,16] c81L0 (.blk 0 [3]::ks) [(3, .x (.int .i64 all)),(14, .fz b (.sl nl 0 1 (ivs zs))),(15, .x (.int .i64 zs.length)),(16, .x (.int .i64 i))] []=
  vgo W ⟨hNo,[.tmp 2],0⟩ ks (VFr.of [(3, .x (.int .i64 (all*k29 (zs.drop i))))]) []
 |0,i,all,hi,h1,h2,ks=>by
  rw[List.drop_eq_nil_of_le (by omega),k29,Int.mul_one,sb5 c81L0.eq_def]
  simp(disch:=first|omega|fail) only[push_cast,seval,ui5,lu7,y81,bj9,wrap64,dec_lt,cw6,nl2,qc6,mr8,nb8,if_pos,if_neg]
 |d+1,i,all,hi,h1,h2,ks=>by
  obtain⟨s,hs⟩:=ge6 (l:=zs) (i:=i) (by omega)
  have hsz:=hz s (List.mem_of_getElem? hs)
  have hp:=c20 (hz.drop (i+1))
  rw[i62 hs,k29]at h2⊢
  obtain⟨k1,k2,k3,k4,k5⟩:=o87 h1 hp hsz.1 h2
  have ih:=e61 hl hz d (i+1) (all*s) (by omega) k2 k1 ks
  have e1:=iat hs
  have c1: ¬s<2:=by omega
  have c2: ¬10<s:=by omega
  rw[←Int.mul_assoc]
  rw[Int.natCast_add,Int.natCast_one]at ih
  rw[←ih,sb5 c81L0.eq_def]
  generalize k29 (zs.drop (i+1))=p at*
  simp(disch:=first|omega|fail) only[push_cast,seval,ui5,lu7,y81,bj9,wrap64,dec_lt,cw6,nl2,qc6,mr8,nb8,if_pos,if_neg,e1,cw6 (Int.not_lt.1 c1),cw6 (Int.not_lt.1 c2)]
theorem jx5(h0:0<zs.length)(hl:zs.length≤10)(hz:OkS zs)(hp:k29 zs≤1024):o24 W 81 [.fz b (.sl nl 0 1 (ivs zs))] []=some (.x (.int .i64 0),[],[]):=by
 have e:=fun ks=>e61 (b:=b) (nl:=nl) hl hz zs.length 0 1 (by omega) (by omega) (by rw[List.drop_zero];omega) ks
 simp only[List.drop_zero,Int.one_mul,Int.natCast_zero]at e
 rw[o08 rfl T81 rfl]
 unfold F81 c81
 simp(disch:=first|omega|fail) only[push_cast,seval,ui5,lu7,y81,bj9,wrap64,dec_lt,cw6,nl2,qc6,mr8,nb8,if_pos,if_neg]
 rw[e]
 generalize k29 zs=p at*
 simp(disch:=first|omega|fail) only[push_cast,seval,ui5,lu7,y81,bj9,wrap64,dec_lt,cw6,nl2,qc6,mr8,nb8,if_pos,if_neg]
theorem oy9(hl:zs.length≤10)(hz:OkS zs){k:Int}: ∀(d i:Nat) (all:Int),i+d=zs.length→1≤all→all*k29 (zs.drop i)≤1024→ ∀ks,
 vgoL W ⟨hNo,[.tmp 4, .tmp 5],0⟩ [0,1,7,19,20,21] c41L0 (.blk 0 [0,1,7]::ks) [(0, .fz b (.sl nl 0 1 (ivs zs))),(1, .x (.int .i64 k)),(7, .x (.int .i64 all)),(19, .fz b (.sl nl 0 1 (ivs zs))),(20, .x (.int .i64 zs.length)),(21, .x (.int .i64 i))] []=
  vgo W ⟨hNo,[.tmp 4, .tmp 5],0⟩ ks (VFr.of [(0, .fz b (.sl nl 0 1 (ivs zs))),(1, .x (.int .i64 k)),(7, .x (.int .i64 (all*k29 (zs.drop i))))]) []
 |0,i,all,hi,h1,h2,ks=>by
  rw[List.drop_eq_nil_of_le (by omega),k29,Int.mul_one,sb5 c41L0.eq_def]
  simp(disch:=first|omega|fail) only[push_cast,seval,ui5,lu7,y81,bj9,wrap64,dec_lt,cw6,nl2,qc6,mr8,nb8,if_pos,if_neg]
 |d+1,i,all,hi,h1,h2,ks=>by
  obtain⟨s,hs⟩:=ge6 (l:=zs) (i:=i) (by omega)
  have hsz:=hz s (List.mem_of_getElem? hs)
  have hp:=c20 (hz.drop (i+1))
  rw[i62 hs,k29]at h2⊢
  obtain⟨k1,k2,k3,k4,k5⟩:=o87 h1 hp hsz.1 h2
  have ih:=oy9 hl hz (k:=k) d (i+1) (all*s) (by omega) k2 k1 ks
  have e1:=iat hs
  rw[←Int.mul_assoc]
  rw[Int.natCast_add,Int.natCast_one]at ih
  rw[←ih,sb5 c41L0.eq_def]
  generalize k29 (zs.drop (i+1))=p at*
  simp(disch:=first|omega|fail) only[push_cast,seval,ui5,lu7,y81,bj9,wrap64,dec_lt,cw6,nl2,qc6,mr8,nb8,if_pos,if_neg,e1]
theorem a56(hl:zs.length≤10)(hz:OkS zs): ∀(d i:Nat) (k:Int) (pre:List Int),i+d=zs.length→pre.length=i→k29 (zs.drop i)≤1024→0≤k→k<k29 (zs.drop i)→ ∀ks,
 vgoL W ⟨hNo,[.tmp 4, .tmp 5],0⟩ [1,7,10,39,40,41] c41L1 (.blk 2 [10]::ks) [(1, .x (.int .i64 k)),(7, .x (.int .i64 (k29 (zs.drop i)))),(10, .own 0 []),(39, .fz b (.sl nl 0 1 (ivs zs))),(40, .x (.int .i64 zs.length)),(41, .x (.int .i64 i))] [.sl 0 3 1 (ivs (pre++List.replicate d 0))]=
  vgo W ⟨hNo,[.tmp 4, .tmp 5],0⟩ ks (VFr.of [(10, .own 0 [])]) [.sl 0 3 1 (ivs (pre++yz5 (zs.drop i) k))]
 |0,i,k,pre,hi,hpl,h2,h3,h4,ks=>by
  rw[List.drop_eq_nil_of_le (by omega)]at*
  rw[yz5,k29,sb5 c41L1.eq_def]
  simp(disch:=first|omega|fail) only[push_cast,seval,ui5,lu7,y81,bj9,wrap64,dec_lt,cw6,nl2,qc6,mr8,nb8,if_pos,if_neg,List.replicate_zero]
 |d+1,i,k,pre,hi,hpl,h2,h3,h4,ks=>by
  obtain⟨s,hs⟩:=ge6 (l:=zs) (i:=i) (by omega)
  have hsz:=hz s (List.mem_of_getElem? hs)
  have hp:=c20 (hz.drop (i+1))
  have IH:=fun k pre a c e=>a56 hl hz d (i+1) k pre (by omega) a c e
  rw[i62 hs,k29]at h2 h4⊢
  rw[yz5]
  have e1:=iat hs
  generalize k29 (zs.drop (i+1))=p at*
  obtain⟨k1,k2,k3,k4,k5⟩:=o87 (a:=1) (by omega) hp hsz.1 (by omega)
  obtain⟨e,m,hk,hd,hm0,hm1,f1,f2⟩:=parts hp h3
  have hes:e<s:=qb5 hp hm0 (by omega)
  have g1:(s*p).tdiv s=p:=by rw[Int.tdiv_eq_ediv_of_nonneg (by omega),Int.mul_ediv_cancel_left _ (by omega)]
  have g2:k.tdiv p=e:=by rw[Int.tdiv_eq_ediv_of_nonneg h3,f1]
  have g3:k.tmod p=m:=by rw[Int.tmod_eq_emod_of_nonneg h3,f2]
  have g4:e.tmod 2=e%2:=Int.tmod_eq_emod_of_nonneg hd
  have hlen:(pre++List.replicate (d+1) (0:Int)).length=zs.length:=by rw[List.length_append,List.length_replicate];omega
  have hset:(pre++List.replicate (d+1) (0:Int)).set i e=(pre++[e])++List.replicate d 0:=by
   subst hpl
   rw[List.replicate_succ,List.append_assoc]
   simp
  have hp0: ¬p=0:=by omega
  have hs0: ¬s=0:=by omega
  rw[f1,f2]
  by_cases ho:e%2=1
  ·have ih:=IH (p-1-m) (pre++[e]) (by rw[List.length_append,List.length_singleton];omega) (by omega) (by omega) (by omega) ks
   rw[Int.natCast_add,Int.natCast_one,List.append_assoc,List.append_assoc,List.singleton_append,List.singleton_append]at ih
   rw[if_pos ho,←ih,sb5 c41L1.eq_def]
   rw[List.append_assoc,List.singleton_append]at hset
   generalize s*p=sp at*
   simp(disch:=first|omega|fail) only[push_cast,seval,ui5,lu7,y81,bj9,wrap64,dec_lt,cw6,nl2,qc6,mr8,nb8,if_pos,if_neg,e1,g1,g2,g3,g4,mr8 ho,hlen,hset,hp0,hs0]
  ·have ih:=IH m (pre++[e]) (by rw[List.length_append,List.length_singleton];omega) (by omega) hm0 hm1 ks
   rw[Int.natCast_add,Int.natCast_one,List.append_assoc,List.append_assoc,List.singleton_append,List.singleton_append]at ih
   rw[if_neg ho,←ih,sb5 c41L1.eq_def]
   rw[List.append_assoc,List.singleton_append]at hset
   generalize s*p=sp at*
   simp(disch:=first|omega|fail) only[push_cast,seval,ui5,lu7,y81,bj9,wrap64,dec_lt,cw6,nl2,qc6,mr8,nb8,if_pos,if_neg,e1,g1,g2,g3,g4,nb8 ho,hlen,hset,hp0,hs0]
theorem yj8(h0:0<zs.length)(hl:zs.length≤10)(hz:OkS zs)(hp:k29 zs≤1024){k:Int}(k0:0≤k)(k1:k<k29 zs):
 o24 W 41 [.fz b (.sl nl 0 1 (ivs zs)), .x (.int .i64 k)] []=some (.tup [.own 0 [], .x (.int .i64 0)],[.sl 0 3 1 (ivs (yz5 zs k))],[]):=by
 have e1:=fun b nl=>jx5 (b:=b) (nl:=nl) h0 hl hz hp
 have e2:=fun ks=>oy9 (b:=b) (nl:=nl) hl hz (k:=k) zs.length 0 1 (by omega) (by omega) (by rw[List.drop_zero];omega) ks
 have e3:=fun ks=>a56 (b:=b) (nl:=nl) hl hz zs.length 0 k [] (by omega) rfl (by rw[List.drop_zero];omega) k0 (by rw[List.drop_zero];exact k1) ks
 simp only[List.drop_zero,Int.one_mul,Int.natCast_zero,List.nil_append]at e2 e3
 have c1: ¬k<0:=by omega
 have c2: ¬k29 zs≤k:=by omega
 rw[o08 rfl T41 rfl]
 unfold F41 c41
 simp(disch:=first|omega|fail) only[push_cast,seval,ui5,lu7,y81,bj9,wrap64,dec_lt,cw6,nl2,qc6,mr8,nb8,if_pos,if_neg,e1]
 rw[e2]
 generalize k29 zs=p at*
 simp(disch:=first|omega|fail) only[push_cast,seval,ui5,lu7,y81,bj9,wrap64,dec_lt,cw6,nl2,qc6,mr8,nb8,if_pos,if_neg,cw6 (Int.not_lt.1 c1),qc6 (Int.not_le.1 c2),cs7]
 rw[e3]
 simp(disch:=first|omega|fail) only[push_cast,seval,ui5,lu7,y81,bj9,wrap64,dec_lt,cw6,nl2,qc6,mr8,nb8,if_pos,if_neg]
end
end Go.Proofs.Ytlhmdmedagjmnaa
namespace Go.Proofs.Ytlhmdmedagjmnaa
open Go.Am Go.Vm Go.Alg
section
variable {zs ls:List Int} {b b':Bool} {nl nl':Nat}
theorem qu3(hl:zs.length≤10)(hll:ls.length=zs.length)(hz:OkS zs){K:Int}: ∀(d i:Nat) (k all:Int) (back:Bool),i+d=zs.length→1≤all→all*k29 (zs.drop i)≤1024→0≤k→k<all→vy2 (zs.drop i) (ls.drop i) k back=some K→ ∀ks,
 vgoL W ⟨hNo,[.tmp 4, .tmp 5],0⟩ [1,7,8,9,23,24,25] c42L0 (.blk 0 [7]::ks) [(1, .fz b' (.sl nl' 0 1 (ivs ls))),(7, .x (.int .i64 k)),(8, .x (.bool back)),(9, .x (.int .i64 all)),(23, .fz b (.sl nl 0 1 (ivs zs))),(24, .x (.int .i64 zs.length)),(25, .x (.int .i64 i))] []=
  vgo W ⟨hNo,[.tmp 4, .tmp 5],0⟩ ks (VFr.of [(7, .x (.int .i64 K))]) []
 |0,i,k,all,back,hi,h1,h2,h3,h4,hP,ks=>by
  rw[List.drop_eq_nil_of_le (by omega),vy2]at hP
  ·cases hP
   rw[sb5 c42L0.eq_def]
   simp(disch:=first|omega|fail) only[push_cast,seval,ui5,lu7,y81,bj9,wrap64,dec_lt,cw6,nl2,qc6,mr8,nb8,if_pos,if_neg]
  ·intros;rename_i h _;cases h
 |n+1,i,k,all,back,hi,h1,h2,h3,h4,hP,ks=>by
  obtain⟨s,hs⟩:=ge6 (l:=zs) (i:=i) (by omega)
  obtain⟨d,hd⟩:=ge6 (l:=ls) (i:=i) (by omega)
  have hsz:=hz s (List.mem_of_getElem? hs)
  have hp:=c20 (hz.drop (i+1))
  have IH:=fun k all back=>qu3 hl hll hz (K:=K) n (i+1) k all back (by omega)
  rw[i62 hs,i62 hd,vy2]at hP
  rw[i62 hs,k29]at h2
  generalize hpp:k29 (zs.drop (i+1))=p at*
  obtain⟨k1,k2,k3,k4,k5⟩:=o87 h1 hp hsz.1 h2
  split at hP
  ·cases hP
  ·rename_i hds
   have e1:=iat hs
   have e2:=iat hd
   have hil:i<ls.length:=by omega
   have c1: ¬d<0:=by omega
   have c2: ¬s≤d:=by omega
   have hks:k*s+s≤all*s:=by
    have:(k+1)*s≤all*s:=Int.mul_le_mul_of_nonneg_right (by omega) (by omega)
    rw[Int.add_mul,Int.one_mul]at this;exact this
   have hk0:0≤k*s:=Int.mul_nonneg h3 (by omega)
   have g4:d.tmod 2=d%2:=Int.tmod_eq_emod_of_nonneg (by omega)
   cases back with
   |false=>
    rw[if_neg Bool.false_ne_true,Bool.bne_false]at hP
    have ih:=IH (k*s+d) (all*s) (decide (d%2=1)) k2 k1 (by omega) (by omega) hP ks
    rw[Int.natCast_add,Int.natCast_one]at ih
    by_cases ho:d%2=1
    ·rw[decide_eq_true ho]at ih
     rw[←ih,sb5 c42L0.eq_def]
     simp(disch:=first|omega|fail) only[push_cast,seval,ui5,lu7,y81,bj9,wrap64,dec_lt,cw6,nl2,qc6,mr8,nb8,if_pos,if_neg,e1,e2,cw6 (Int.not_lt.1 c1),qc6 (Int.not_le.1 c2),g4,mr8 ho]
    ·rw[decide_eq_false ho]at ih
     rw[←ih,sb5 c42L0.eq_def]
     simp(disch:=first|omega|fail) only[push_cast,seval,ui5,lu7,y81,bj9,wrap64,dec_lt,cw6,nl2,qc6,mr8,nb8,if_pos,if_neg,e1,e2,cw6 (Int.not_lt.1 c1),qc6 (Int.not_le.1 c2),g4,nb8 ho]
   |true=>
    rw[if_pos rfl,Bool.bne_true]at hP
    have ih:=IH (k*s+(s-1-d)) (all*s) (!decide (d%2=1)) k2 k1 (by omega) (by omega) hP ks
    rw[Int.natCast_add,Int.natCast_one]at ih
    by_cases ho:d%2=1
    ·rw[decide_eq_true ho]at ih
     rw[←ih,sb5 c42L0.eq_def]
     simp(disch:=first|omega|fail) only[push_cast,seval,ui5,lu7,y81,bj9,wrap64,dec_lt,cw6,nl2,qc6,mr8,nb8,if_pos,if_neg,e1,e2,cw6 (Int.not_lt.1 c1),qc6 (Int.not_le.1 c2),g4,mr8 ho,Bool.not_true,Bool.not_false]
    ·rw[decide_eq_false ho]at ih
     rw[←ih,sb5 c42L0.eq_def]
     simp(disch:=first|omega|fail) only[push_cast,seval,ui5,lu7,y81,bj9,wrap64,dec_lt,cw6,nl2,qc6,mr8,nb8,if_pos,if_neg,e1,e2,cw6 (Int.not_lt.1 c1),qc6 (Int.not_le.1 c2),g4,nb8 ho,Bool.not_true,Bool.not_false]
theorem s66(h0:0<zs.length)(hl:zs.length≤10)(hz:OkS zs)(hp:k29 zs≤1024){k:Int}(k0:0≤k)(k1:k<k29 zs):
 o24 W 42 [.fz b (.sl nl 0 1 (ivs zs)), .fz b' (.sl nl' 0 1 (ivs (yz5 zs k)))] []=some (.tup [.x (.int .i64 k), .x (.int .i64 0)],[],[]):=by
 have e1:=fun b nl=>jx5 (b:=b) (nl:=nl) h0 hl hz hp
 have hg:=ez0 hz k 0 false k0 k1
 rw[if_neg Bool.false_ne_true,Int.zero_mul,Int.zero_add]at hg
 have hgl:=er1 zs k
 have e2:=fun ks=>qu3 (b:=b) (nl:=nl) (b':=b') (nl':=nl') hl hgl hz (K:=k) zs.length 0 0 1 false (by omega) (by omega) (by rw[List.drop_zero];omega) (by omega) (by omega) (by rw[List.drop_zero,List.drop_zero];exact hg) ks
 simp only[Int.natCast_zero]at e2
 rw[o08 rfl T42 rfl]
 unfold F42 c42
 simp(disch:=first|omega|fail) only[push_cast,seval,ui5,lu7,y81,bj9,wrap64,dec_lt,cw6,nl2,qc6,mr8,nb8,if_pos,if_neg,e1,hgl]
 rw[e2]
 simp(disch:=first|omega|fail) only[push_cast,seval,ui5,lu7,y81,bj9,wrap64,dec_lt,cw6,nl2,qc6,mr8,nb8,if_pos,if_neg]
end
end Go.Proofs.Ytlhmdmedagjmnaa
namespace Go.Proofs.Ytlhmdmedagjmnaa
open Go.Am
def force{α:Type}(n:Nat)(f:Nat→α):α:=match n with
 |0=>f 0
 |k+1=>f (k+1)
theorem force_eq{α:Type}(n:Nat)(f:Nat→α):force n f=f n:=by cases n<;>rfl
def valN(q:Nat):Nat→List Nat→Nat→Nat
 |n+1,x::t,v=>valN q n t (v*q+x)
 |_,_,v=>v
def chkW(q n:Nat):Nat→List Nat→Nat→Bool
 |0,_,_=>true
 |k+1,L,m=>force (valN q n L 0) fun v=>bif m.testBit v then false else force (m|||1<<<v) fun m'=>chkW q n k L.tail m'
def revK:List Nat→List Nat→(List Nat→Bool)→Bool
 | [],o,k=>k o
 |x::t,o,k=>revK t (x::o) k
def nrm:List Int→List Nat→(List Nat→Bool)→Bool
 | [],acc,k=>revK acc [] k
 | .ofNat a::t,acc,k=>force a fun a=>nrm t (a::acc) k
 |_::_,_,_=>false
theorem l56: ∀(l o:List Nat) (k:List Nat→Bool),revK l o k=k (l.reverse++o)
 | [],o,k=>rfl
 |x::t,o,k=>by rw[revK,l56 t,List.reverse_cons,List.append_assoc];rfl
theorem ev8: ∀(l:List Int) (acc:List Nat) (k:List Nat→Bool),nrm l acc k=true→ ∃L:List Nat,l=L.map Int.ofNat∧k (acc.reverse++L)=true
 | [],acc,k,h=>⟨[],rfl,by rw[nrm,l56]at h;exact h⟩
 | .ofNat a::t,acc,k,h=>by
   rw[nrm,force_eq]at h
   obtain⟨L,h1,h2⟩:=ev8 t (a::acc) k h
   refine⟨a::L,by rw[h1];rfl, ?_⟩
   rw[List.reverse_cons,List.append_assoc]at h2
   exact h2
 | .negSucc a::t,acc,k,h=>by cases h
def okR(q n:Nat):Bool:=match xn7 q n with
 |none=>false
 |some l=>nrm l [] fun L=>L.length==q^n&&(L.all (fun x=>Nat.blt x q)&&chkW q n L.length (L++L.take (n-1)) 0)
def winN(q n:Nat)(L:List Nat)(i:Nat):Nat:=valN q n (L.drop i) 0
theorem lh4(m v u:Nat):(m|||1<<<v).testBit u=(m.testBit u||decide (v=u)):=by
 rw[Nat.testBit_or,Nat.one_shiftLeft,Nat.testBit_two_pow]
theorem uo5{q n:Nat}: ∀(k:Nat) (L:List Nat) (m:Nat),chkW q n k L m=true→ ∀i<k,m.testBit (winN q n L i)=false∧ ∀j<i,winN q n L j≠winN q n L i
 |0,L,m,h,i,hi=>absurd hi (Nat.not_lt_zero i)
 |k+1,L,m,h,i,hi=>by
  rw[chkW,force_eq]at h
  have hw: ∀i,winN q n L.tail i=winN q n L (i+1):=fun i=>by unfold winN;rw[List.drop_tail]
  have h0:winN q n L 0=valN q n L 0:=rfl
  cases hb:m.testBit (valN q n L 0)with
  |true=>rw[hb]at h;cases h
  |false=>
   rw[hb,cond_false,force_eq]at h
   have IH:=uo5 k L.tail _ h
   cases i with
   |zero=>exact⟨by rw[h0];exact hb,fun j hj=>absurd hj (Nat.not_lt_zero j)⟩
   |succ i=>
    obtain⟨a1,a2⟩:=IH i (by omega)
    rw[hw,lh4,Bool.or_eq_false_iff]at a1
    refine⟨a1.1,fun j hj=> ?_⟩
    cases j with
    |zero=>exact fun e=>of_decide_eq_false a1.2 (h0▸e)
    |succ j=>
     have:=a2 j (by omega)
     rw[hw,hw]at this
     exact this
theorem of2{q n:Nat}(h:okR q n=true): ∃L:List Nat,xn7 q n=some (L.map Int.ofNat)∧L.length=q^n∧(∀x∈L,x<q)∧ ∀i<L.length,∀j<i,winN q n (L++L.take (n-1)) j≠winN q n (L++L.take (n-1)) i:=by
 unfold okR at h
 cases hr:xn7 q n with
 |none=>rw[hr]at h;cases h
 |some l=>
  rw[hr]at h
  obtain⟨L,rfl,h2⟩:=ev8 l [] _ h
  rw[List.reverse_nil,List.nil_append,Bool.and_eq_true,Bool.and_eq_true]at h2
  obtain⟨a1,a2,a3⟩:=h2
  refine⟨L,rfl,by simpa using a1,fun x hx=> ?_,fun i hi j hj=>(uo5 _ _ _ a3 i hi).2 j hj⟩
  have:=List.all_eq_true.1 a2 x hx
  simpa [Nat.blt_eq]using this
theorem tf2:okR 2 1=true:=by kernel_rfl
theorem ti1:okR 2 2=true:=by kernel_rfl
theorem xl1:okR 2 3=true:=by kernel_rfl
theorem z29:okR 2 4=true:=by kernel_rfl
theorem fz8:okR 3 1=true:=by kernel_rfl
theorem sw7:okR 3 2=true:=by kernel_rfl
theorem a22:okR 3 3=true:=by kernel_rfl
theorem mn1:okR 3 4=true:=by kernel_rfl
theorem pq7:okR 4 1=true:=by kernel_rfl
theorem xv8:okR 4 2=true:=by kernel_rfl
theorem ph8:okR 4 3=true:=by kernel_rfl
theorem ui3:okR 4 4=true:=by kernel_rfl
theorem rn4:okR 5 1=true:=by kernel_rfl
theorem pj5:okR 5 2=true:=by kernel_rfl
theorem ta1:okR 5 3=true:=by kernel_rfl
theorem tq1:okR 5 4=true:=by kernel_rfl
theorem wc7(q n:Nat)(h1:2≤q)(h2:q≤5)(h3:1≤n)(h4:n≤4):okR q n=true:=by
 have hq:q=2∨q=3∨q=4∨q=5:=by omega
 have hn:n=1∨n=2∨n=3∨n=4:=by omega
 rcases hq with rfl|rfl|rfl|rfl
 ·rcases hn with rfl|rfl|rfl|rfl
  ·exact tf2
  ·exact ti1
  ·exact xl1
  ·exact z29
 ·rcases hn with rfl|rfl|rfl|rfl
  ·exact fz8
  ·exact sw7
  ·exact a22
  ·exact mn1
 ·rcases hn with rfl|rfl|rfl|rfl
  ·exact pq7
  ·exact xv8
  ·exact ph8
  ·exact ui3
 ·rcases hn with rfl|rfl|rfl|rfl
  ·exact rn4
  ·exact pj5
  ·exact ta1
  ·exact tq1
end Go.Proofs.Ytlhmdmedagjmnaa
namespace Go.Proofs.Ytlhmdmedagjmnaa
open Go.Am Go.Vm Go.Alg
theorem fz6{q n:Nat}(hq:1≤q)(hq2:q≤100)(hn:n≤100): ∀(d i:Nat) (v:Nat),i+d=n→v*q^d≤10000→ ∀ks,
 vgoL W ⟨hNo,[.tmp 4],0⟩ [0,1,5,6] c39L0 (.blk 0 [5]::ks) [(0, .x (.int .i64 q)),(1, .x (.int .i64 n)),(5, .x (.int .i64 v)),(6, .x (.int .i64 i))] []=vgo W ⟨hNo,[.tmp 4],0⟩ ks (VFr.of [(5, .x (.int .i64 (v*q^d:Nat)))]) []
 |0,i,v,hi,hv,ks=>by
  rw[Nat.pow_zero,Nat.mul_one,sb5 c39L0.eq_def]
  simp(disch:=first|omega|fail) only[push_cast,seval,ui5,lu7,y81,bj9,wrap64,dec_lt,cw6,nl2,qc6,mr8,nb8,if_pos,if_neg]
 |d+1,i,v,hi,hv,ks=>by
  have hv2:v*q*q^d≤10000:=by rw[Nat.mul_assoc,←Nat.pow_succ'];exact hv
  have h0:v*q*1≤v*q*q^d:=Nat.mul_le_mul_left _ (Nat.pow_pos hq)
  have ih:=fz6 hq hq2 hn d (i+1) (v*q) (by omega) hv2 ks
  have hm:(v:Int)*(q:Int)=((v*q:Nat):Int):=(Int.natCast_mul ..).symm
  rw[Int.natCast_add,Int.natCast_one,Nat.mul_assoc v q,←Nat.pow_succ']at ih
  rw[←ih,sb5 c39L0.eq_def]
  generalize v*q^(d+1)=z at*
  generalize v*q=y at*
  simp(disch:=first|omega|fail) only[push_cast,seval,ui5,lu7,y81,bj9,wrap64,dec_lt,cw6,nl2,qc6,mr8,nb8,if_pos,if_neg,hm]
theorem vk2{q n:Nat}(hq:1≤q)(hq2:q≤100)(hn:n≤100)(h:q^n≤10000):o24 W 39 [.x (.int .i64 q), .x (.int .i64 n)] []=some (.x (.int .i64 (q^n:Nat)),[],[]):=by
 have e:=fun ks=>fz6 hq hq2 hn n 0 1 (by omega) (by omega) ks
 simp only[Nat.one_mul,Int.natCast_zero,Int.natCast_one]at e
 rw[o08 rfl T39 rfl]
 unfold F39 c39
 generalize q^n=z at*
 simp(disch:=first|omega|fail) only[push_cast,seval,ui5,lu7,y81,bj9,wrap64,dec_lt,cw6,nl2,qc6,mr8,nb8,if_pos,if_neg]
 rw[e]
 simp(disch:=first|omega|fail) only[push_cast,seval,ui5,lu7,y81,bj9,wrap64,dec_lt,cw6,nl2,qc6,mr8,nb8,if_pos,if_neg]
def bT(N:Nat)(f:Nat→Bool):List Tree:=(List.range N).map fun x=> .v (.bool (f x))
theorem wl3(N:Nat)(f:Nat→Bool):(bT N f).length=N:=by simp[bT]
theorem ff0{N x:Nat}(f:Nat→Bool)(h:x<N):(bT N f)[x]? =some (.v (.bool (f x))):=by
 unfold bT;rw[List.getElem?_map,List.getElem?_range h];rfl
theorem au4{N i:Nat}(f f':Nat→Bool)(h:f' i=true)(he: ∀x,x≠i→f' x=f x):(bT N f).set i (.v (.bool true))=bT N f':=by
 unfold bT
 apply List.ext_getElem?
 intro k
 rw[List.getElem?_set,List.getElem?_map,List.getElem?_map]
 by_cases hk:i=k
 ·subst hk
  rw[if_pos rfl]
  by_cases hi:i<N
  ·rw[if_pos (by simpa using hi),List.getElem?_range hi]
   simp[h]
  ·rw[if_neg (by simpa using hi),List.getElem?_eq_none (by simp;omega)];rfl
 ·rw[if_neg hk]
  by_cases hi:k<N
  ·rw[List.getElem?_range hi]
   simp[he k (by omega)]
  ·rw[List.getElem?_eq_none (by simp;omega)];rfl
theorem ps2: ∀n:Nat,repT [.v (.bool false)] n=bT n (fun _=>false):=fun n=>by
 have h: ∀n:Nat,repT [.v (.bool false)] n=List.replicate n (.v (.bool false)):=by
  intro n
  induction n with
  |zero=>rfl
  |succ n ih=>rw[repT,ih,List.replicate_succ];rfl
 rw[h,bT]
 apply List.ext_getElem?
 intro k
 rw[List.getElem?_map]
 by_cases hk:k<n
 ·rw[List.getElem?_range hk,List.getElem?_replicate,if_pos hk];rfl
 ·rw[List.getElem?_eq_none (by simp;omega),List.getElem?_eq_none (by simp;omega)];rfl
def pnI(L:List Nat):List Int:=L.map Int.ofNat
theorem ip1(L:List Nat):(pnI L).length=L.length:=by simp[pnI]
theorem hn2{L:List Nat}{i x:Nat}(h:L[i]? =some x):(ivs (pnI L))[i]? =some (.v (.int .i64 (x:Int))):=iat (by unfold pnI;rw[List.getElem?_map,h];rfl)
theorem jn1{L:List Nat}{n i j x:Nat}(hn:n≤L.length)(hi:i<L.length)(hj:j<n)(h:(L++L.take (n-1))[i+j]? =some x):L[(i+j)%L.length]? =some x:=by
 by_cases hl:i+j<L.length
 ·rw[Nat.mod_eq_of_lt hl]
  rwa [List.getElem?_append_left hl]at h
 ·rw[List.getElem?_append_right (by omega),List.getElem?_take]at h
  split at h
  ·rw[Nat.mod_eq_sub_mod (by omega),Nat.mod_eq_of_lt (by omega)];exact h
  ·cases h
section
variable {q n:Nat} {L:List Nat} {A:AV} {k:Int} {nL:Nat} {b:Bool} {nl:Nat} {zs:List Int}
theorem kz3{q n:Nat}(hq:1≤q){j:Nat}(hj:j≤n):q^j≤q^n:=Nat.pow_le_pow_right hq hj
theorem vk8(hq:2≤q)(hq2:q≤5)(hn:1≤n)(hn4:n≤4)(hL:L.length=q^n)(hx: ∀x∈L,x<q){i:Nat}(hi:i<L.length){T1:Tree}: ∀(d j v:Nat),j+d=n→v<q^j→ ∃V:Nat,V<q^n∧V=valN q d ((L++L.take (n-1)).drop (i+j)) v∧ ∀ks,
 vgoL W ⟨h7,[.tmp 8],0⟩ [0,1,2,3,9,11,12,13,14] c7L0 (.blk 2 [0,1,2,3,9,11,12,13]::ks) [(0, .x (.int .i64 q)),(1, .x (.int .i64 n)),(2, .fz b (.sl nl 0 1 (ivs zs))),(3, .x (.int .i64 k)),(9, .own 0 []),(11, .own 1 []),(12, .x (.int .i64 i)),(13, .x (.int .i64 v)),(14, .x (.int .i64 j))] [.sl nL 3 1 (ivs (pnI L)),T1]=
  vgo W ⟨h7,[.tmp 8],0⟩ ks (VFr.of [(0, .x (.int .i64 q)),(1, .x (.int .i64 n)),(2, .fz b (.sl nl 0 1 (ivs zs))),(3, .x (.int .i64 k)),(9, .own 0 []),(11, .own 1 []),(12, .x (.int .i64 i)),(13, .x (.int .i64 V))]) [.sl nL 3 1 (ivs (pnI L)),T1]
 |0,j,v,hj,hv=>by
  obtain rfl:j=n:=by omega
  refine⟨v,hv,by unfold valN;rfl,fun ks=> ?_⟩
  rw[sb5 c7L0.eq_def]
  simp(disch:=first|omega|fail) only[push_cast,seval,ui5,lu7,y81,bj9,wrap64,dec_lt,cw6,nl2,qc6,mr8,nb8,if_pos,if_neg]
 |d+1,j,v,hj,hv=>by
  have hp0:=kz3 (q:=q) (n:=n) (by omega) (j:=1) hn
  have hp1:q^n≤625:=by
   have h1:q^n≤5^n:=Nat.pow_le_pow_left hq2 n
   have h2:5^n≤5^4:=Nat.pow_le_pow_right (by decide) hn4
   omega
  have hnl:n≤L.length:=by rw[hL];exact Nat.le_of_lt (Nat.lt_pow_self (by omega))
  obtain⟨x,hxx⟩:=ge6 (l:=L++L.take (n-1)) (i:=i+j) (by rw[List.length_append,List.length_take];omega)
  have hat:=jn1 hnl hi (by omega) hxx
  have hxq:=hx x (List.mem_of_getElem? hat)
  have hv1:v*q+x<q^(j+1):=by
   rw[Nat.pow_succ]
   have:(v+1)*q≤q^j*q:=Nat.mul_le_mul_right _ hv
   rw[Nat.add_mul,Nat.one_mul]at this;omega
  have hv2:=kz3 (q:=q) (n:=n) (by omega) (j:=j+1) (by omega)
  obtain⟨V,a1,a2,a3⟩:=vk8 hq hq2 hn hn4 hL hx hi (T1:=T1) d (j+1) (v*q+x) (by omega) hv1
  refine⟨V,a1,by rw[i62 hxx,valN];exact a2,fun ks=> ?_⟩
  have ih:=a3 ks
  have e1:=hn2 hat
  have hl:=ip1 L
  have hmod:((i:Int)+(j:Int)).tmod (L.length:Int)=(((i+j)%L.length:Nat):Int):=by
   rw[Int.tmod_eq_emod_of_nonneg (by omega),Int.natCast_emod,Int.natCast_add]
  have hml:(i+j)%L.length<L.length:=Nat.mod_lt _ (by omega)
  have hL0: ¬(L.length:Int)=0:=by omega
  have hvq:(v:Int)*(q:Int)=((v*q:Nat):Int):=(Int.natCast_mul ..).symm
  have c1: ¬(x:Int)<0:=by omega
  have c2: ¬(q:Int)≤(x:Int):=by omega
  simp only[Int.natCast_add,Int.natCast_one]at ih
  rw[←ih,sb5 c7L0.eq_def]
  generalize v*q=vq at*
  generalize (i+j)%L.length=ij at*
  simp(disch:=first|omega|fail) only[push_cast,seval,ui5,lu7,y81,bj9,wrap64,dec_lt,cw6,nl2,qc6,mr8,nb8,if_pos,if_neg,hl,hmod,hL0,e1,hvq,cw6 (Int.not_lt.1 c1),qc6 (Int.not_le.1 c2)]
def qz4(q n:Nat)(L:List Nat)(i x:Nat):Bool:=(List.range i).any fun j=>winN q n (L++L.take (n-1)) j==x
theorem ry0(q n:Nat)(L:List Nat)(i x:Nat):qz4 q n L (i+1) x=(qz4 q n L i x||winN q n (L++L.take (n-1)) i==x):=by
 unfold qz4;rw[List.range_succ,List.any_append];simp
theorem tm5(hq:2≤q)(hq2:q≤5)(hn:1≤n)(hn4:n≤4)(hL:L.length=q^n)(hx: ∀x∈L,x<q)(hd: ∀i<L.length,∀j<i,winN q n (L++L.take (n-1)) j≠winN q n (L++L.take (n-1)) i): ∀(d i:Nat),i+d=L.length→ ∃T1:Tree,∀ks,
 vgoL W ⟨h7,[.tmp 8],0⟩ [0,1,2,3,9,11,12] c7L1 (.blk 0 [2,3]::ks) [(0, .x (.int .i64 q)),(1, .x (.int .i64 n)),(2, .fz b (.sl nl 0 1 (ivs zs))),(3, .x (.int .i64 k)),(9, .own 0 []),(11, .own 1 []),(12, .x (.int .i64 i))] [.sl nL 3 1 (ivs (pnI L)), .sl 0 4 1 (bT L.length (qz4 q n L i))]=
  vgo W ⟨h7,[.tmp 8],0⟩ ks (VFr.of [(2, .fz b (.sl nl 0 1 (ivs zs))),(3, .x (.int .i64 k))]) [.sl nL 3 1 (ivs (pnI L)),T1]
 |0,i,hi=>by
  refine⟨.sl 0 4 1 (bT L.length (qz4 q n L i)),fun ks=> ?_⟩
  have hl:=ip1 L
  rw[sb5 c7L1.eq_def]
  simp(disch:=first|omega|fail) only[push_cast,seval,ui5,lu7,y81,bj9,wrap64,dec_lt,cw6,nl2,qc6,mr8,nb8,if_pos,if_neg,hl]
 |d+1,i,hi=>by
  have hp1:q^n≤625:=by
   have h1:q^n≤5^n:=Nat.pow_le_pow_left hq2 n
   have h2:5^n≤5^4:=Nat.pow_le_pow_right (by decide) hn4
   omega
  obtain⟨T1,IH⟩:=tm5 hq hq2 hn hn4 hL hx hd d (i+1) (by omega)
  refine⟨T1,fun ks=> ?_⟩
  have ih:=IH ks
  have hl:=ip1 L
  obtain⟨V,a1,a2,e⟩:=vk8 (k:=k) (nL:=nL) (b:=b) (nl:=nl) (zs:=zs) hq hq2 hn hn4 hL hx (i:=i) (by omega) (T1:= .sl 0 4 1 (bT L.length (qz4 q n L i))) n 0 0 (by omega) (by rw[Nat.pow_zero];omega)
  rw[Nat.add_zero]at a2
  have hV:V=winN q n (L++L.take (n-1)) i:=a2
  have hns:qz4 q n L i V=false:=by
   unfold qz4
   rw[List.any_eq_false]
   intro j hj
   have:=hd i (by omega) j (List.mem_range.1 hj)
   rw[←hV]at this
   simpa using this
  have hVl:V<L.length:=by omega
  have h1:=ff0 (qz4 q n L i) hVl
  rw[hns]at h1
  have h2:=au4 (N:=L.length) (i:=V) (qz4 q n L i) (qz4 q n L (i+1)) (by rw[ry0,hV];simp) (fun x hx=>by rw[ry0,←hV];simp;intro h;exact absurd h.symm hx)
  have h3:=wl3 L.length (qz4 q n L i)
  simp only[Int.natCast_zero]at e
  rw[Int.natCast_add,Int.natCast_one]at ih
  rw[←ih,sb5 c7L1.eq_def]
  simp(disch:=first|omega|fail) only[push_cast,seval,ui5,lu7,y81,bj9,wrap64,dec_lt,cw6,nl2,qc6,mr8,nb8,if_pos,if_neg,hl]
  rw[e]
  simp(disch:=first|omega|fail) only[push_cast,seval,ui5,lu7,y81,bj9,wrap64,dec_lt,cw6,nl2,qc6,mr8,nb8,if_pos,if_neg,h1,h2,h3]
end
end Go.Proofs.Ytlhmdmedagjmnaa
namespace Go.Proofs.Ytlhmdmedagjmnaa
open Go.Am Go.Vm Go.Alg
theorem j88: ∀(l:List Int) (x:Int),k29 (l++[x])=k29 l*x
 | [],x=>by simp[k29]
 |s::r,x=>by rw[List.cons_append,k29,j88 r x,k29,Int.mul_assoc]
def szI(zs:List Int)(i:Nat):Int:=2+pkI (rwI zs i) 3
def sL(zs:List Int)(i:Nat):List Int:=(List.range i).map (szI zs)
theorem ww5(zs:List Int)(i:Nat):2≤szI zs i∧szI zs i≤4:=by
 have:=h58 (a:=rwI zs i) (n:=3) (by omega)
 unfold szI;omega
theorem f52(zs:List Int)(i:Nat):sL zs (i+1)=sL zs i++[szI zs i]:=by unfold sL;rw[List.range_succ,List.map_append];rfl
theorem b16(zs:List Int)(i:Nat):(sL zs i).length=i:=by simp[sL]
theorem jk3(zs:List Int)(i:Nat):OkS (sL zs i):=fun x hx=>by
 obtain⟨j,_,rfl⟩:=List.mem_map.1 hx
 have:=ww5 zs j
 omega
theorem wg3(zs:List Int): ∀i:Nat,k29 (sL zs i)≤4^i
 |0=>by simp[sL,k29]
 |i+1=>by
  have h1:=wg3 zs i
  have h2:=ww5 zs i
  have h3:=c20 (jk3 zs i)
  rw[f52,j88,Int.pow_succ]
  exact Int.mul_le_mul h1 h2.2 (by omega) (by omega)
theorem uu2(zs:List Int){i:Nat}(hi:i≤5):k29 (sL zs i)≤1024:=by
 have h1:=wg3 zs i
 have h2:(4:Int)^i≤4^5:=by
  have:i=0∨i=1∨i=2∨i=3∨i=4∨i=5:=by omega
  rcases this with rfl|rfl|rfl|rfl|rfl|rfl<;>decide
 have h3:(4:Int)^5=1024:=rfl
 omega
section
variable {zs:List Int} {b:Bool} {nl:Nat} {k:Int}
theorem f21(hz:zs.length≤64){M:Nat}(hM:M=min (1+zs.length) 5): ∀(d i:Nat),i+d=M→ ∀ks,
 vgoL W ⟨h7,[.tmp 8],0⟩ [2,3,16,17,18] c7L2 (.blk 4 [3,16,17]::ks) [(2, .fz b (.sl nl 0 1 (ivs zs))),(3, .x (.int .i64 k)),(16, .own 0 []),(17, .x (.int .i64 (k29 (sL zs i)))),(18, .x (.int .i64 i))] [.sl 1 3 1 (ivs (sL zs i))]=
  vgo W ⟨h7,[.tmp 8],0⟩ ks (VFr.of [(3, .x (.int .i64 k)),(16, .own 0 []),(17, .x (.int .i64 (k29 (sL zs M))))]) [.sl 1 3 1 (ivs (sL zs M))]
 |0,i,hi,ks=>by
  obtain rfl:i=M:=by omega
  rw[sb5 c7L2.eq_def]
  by_cases h:(i:Int)<1+(zs.length:Int)
  ·have h5: ¬(i:Int)<5:=by omega
   simp(disch:=first|omega|fail) only[push_cast,seval,ui5,lu7,y81,bj9,wrap64,dec_lt,cw6,nl2,qc6,mr8,nb8,if_pos,if_neg,dec_lt h,cw6 (Int.not_lt.1 h5)]
  ·simp(disch:=first|omega|fail) only[push_cast,seval,ui5,lu7,y81,bj9,wrap64,dec_lt,cw6,nl2,qc6,mr8,nb8,if_pos,if_neg,cw6 (Int.not_lt.1 h)]
 |d+1,i,hi,ks=>by
  have ih:=f21 hz hM d (i+1) (by omega) ks
  have h1:=c20 (jk3 zs i)
  have h2:=uu2 zs (i:=i) (by omega)
  have h3:=uu2 zs (i:=i+1) (by omega)
  have h4:=c20 (jk3 zs (i+1))
  have hr:=bd0 (l:=zs) (i:=(i:Int)) (by omega) (by omega)
  have e1:=fun b nl=>yc3 (b:=b) (nl:=nl) (raw:=zs) (i:=(i:Int)) (by omega) (by omega)
  have e2:=s88 (a:=rwI zs i) (n:=3) hr.1 hr.2 (by omega)
  have hp:=h58 (a:=rwI zs i) (n:=3) (by omega)
  have hl:=b16 zs i
  have hsn:=nc5 (sL zs i) (szI zs i)
  rw[←f52]at hsn
  rw[f52,j88]at h3 h4
  have hpr:=j88 (sL zs i) (szI zs i)
  rw[←f52]at hpr
  rw[hpr,Int.natCast_add,Int.natCast_one]at ih
  have c1:(i:Int)<1+(zs.length:Int):=by omega
  have c2:(i:Int)<5:=by omega
  have hsz:2+pkI (rwI zs i) 3=szI zs i:=rfl
  rw[←ih,sb5 c7L2.eq_def]
  generalize k29 (sL zs i)=P at*
  generalize sL zs (i+1)=U at*
  generalize sL zs i=U0 at*
  generalize k29 (sL zs M)=PM at*
  generalize pkI (rwI zs i) 3=Q at*
  generalize szI zs i=Z at*
  simp(disch:=first|omega|fail) only[push_cast,seval,ui5,lu7,y81,bj9,wrap64,dec_lt,cw6,nl2,qc6,mr8,nb8,if_pos,if_neg,dec_lt c1,dec_lt c2,e1,e2,hsz,hl,hsn]
theorem fl0{s A B:List Int}(hA:A.length=s.length)(hB:B.length=s.length)(hs:s.length≤5)(dA: ∀d∈A,0≤d∧d≤10)(dB: ∀d∈B,0≤d∧d≤10){n0 n1 n2:Nat}: ∀(d i:Nat) (acc:Int),i+d=s.length→0≤acc→acc≤1000*i→ ∀ks,
 vgoL W ⟨h7,[.tmp 8],0⟩ [16,20,21,25,26] c7L3 (.blk 6 [25]::ks) [(16, .own 0 []),(20, .own 1 []),(21, .own 2 []),(25, .x (.int .i64 acc)),(26, .x (.int .i64 i))] [.sl n0 3 1 (ivs s), .sl n1 3 1 (ivs A), .sl n2 3 1 (ivs B)]=
  vgo W ⟨h7,[.tmp 8],0⟩ ks (VFr.of [(25, .x (.int .i64 (acc+sqD (A.drop i) (B.drop i))))]) [.sl n0 3 1 (ivs s), .sl n1 3 1 (ivs A), .sl n2 3 1 (ivs B)]
 |0,i,acc,hi,h0,h1,ks=>by
  rw[oh9 (by omega),oh9 (by omega),sqD,Int.add_zero,sb5 c7L3.eq_def]
  ·simp(disch:=first|omega|fail) only[push_cast,seval,ui5,lu7,y81,bj9,wrap64,dec_lt,cw6,nl2,qc6,mr8,nb8,if_pos,if_neg]
  ·intros;rename_i h _;cases h
 |d+1,i,acc,hi,h0,h1,ks=>by
  obtain⟨x,hx⟩:=ge6 (l:=A) (i:=i) (by omega)
  obtain⟨y,hy⟩:=ge6 (l:=B) (i:=i) (by omega)
  have hxd:=dA x (List.mem_of_getElem? hx)
  have hyd:=dB y (List.mem_of_getElem? hy)
  have hq0:0≤(x-y)*(x-y):=by
   rcases Int.le_total 0 (x-y)with h|h
   ·exact Int.mul_nonneg h h
   ·have:=Int.mul_nonneg (a:= -(x-y)) (b:= -(x-y)) (by omega) (by omega)
    rwa [Int.neg_mul_neg]at this
  have hq1:(x-y)*(x-y)≤100:=by
   rcases Int.le_total 0 (x-y)with h|h
   ·have:=Int.mul_le_mul (a:=x-y) (b:=x-y) (c:=10) (d:=10) (by omega) (by omega) h (by omega)
    omega
   ·have:=Int.mul_le_mul (a:= -(x-y)) (b:= -(x-y)) (c:=10) (d:=10) (by omega) (by omega) (by omega) (by omega)
    rw[Int.neg_mul_neg]at this;omega
  have ih:=fl0 (n0:=n0) (n1:=n1) (n2:=n2) hA hB hs dA dB d (i+1) (acc+(x-y)*(x-y)) (by omega) (by omega) (by omega) ks
  have e1:=iat hx
  have e2:=iat hy
  rw[i62 hx,i62 hy,sqD,←Int.add_assoc]
  rw[Int.natCast_add,Int.natCast_one]at ih
  rw[←ih,sb5 c7L3.eq_def]
  generalize sqD (A.drop (i+1)) (B.drop (i+1))=D at*
  simp(disch:=first|omega|fail) only[push_cast,seval,ui5,lu7,y81,bj9,wrap64,dec_lt,cw6,nl2,qc6,mr8,nb8,if_pos,if_neg,e1,e2]
theorem f82(hl:zs.length≤9223372036854775807){q n:Int}(q1: -9223372036854775808≤q)(q2:q≤9223372036854775807)(n1: -9223372036854775808≤n)(n2:n≤9223372036854775807)(k1: -9223372036854775808≤k)(k2:k≤9223372036854775807):
 o24 W 7 [.x (.int .i64 q), .x (.int .i64 n), .fz b (.sl nl 0 1 (ivs zs)), .x (.int .i64 k)] []=some (.x (.bool true),[],[]):=by
 by_cases h64:64<zs.length
 ·rw[o08 rfl T7 rfl]
  unfold F7 c7
  simp(disch:=first|omega|fail) only[push_cast,seval,ui5,lu7,y81,bj9,wrap64,dec_lt,cw6,nl2,qc6,mr8,nb8,if_pos,if_neg]
 ·have p1:=s88 q1 q2 (show(0:Int)<4 by omega)
  have p2:=s88 n1 n2 (show(0:Int)<4 by omega)
  have hp1:=h58 (a:=q) (n:=4) (by omega)
  have hp2:=h58 (a:=n) (n:=4) (by omega)
  obtain⟨Q,hQ⟩: ∃Q:Nat,2+pkI q 4=(Q:Int):=⟨(2+pkI q 4).toNat,by omega⟩
  obtain⟨N,hN⟩: ∃N:Nat,1+pkI n 4=(N:Int):=⟨(1+pkI n 4).toNat,by omega⟩
  obtain⟨L,r1,r2,r3,r4⟩:=of2 (wc7 Q N (by omega) (by omega) (by omega) (by omega))
  have e1:=ga7 (q:=Q) (n:=N) ⟨by omega,by omega,by omega,by omega⟩ r1
  rw[show L.map Int.ofNat=pnI L from rfl]at e1
  have hp:Q^N≤625:=by
   have h1:Q^N≤5^N:=Nat.pow_le_pow_left (by omega) N
   have h2:5^N≤5^4:=Nat.pow_le_pow_right (by decide) (by omega)
   omega
  have e2:=vk2 (q:=Q) (n:=N) (by omega) (by omega) (by omega) (by omega)
  have hln:=ip1 L
  rw[←r2]at hp e2
  have hbt:=ps2 L.length
  obtain⟨T1,e3⟩:=tm5 (k:=k) (nL:=nlT (pnI L)) (b:=b) (nl:=nl) (zs:=zs) (by omega) (by omega) (by omega) (by omega) r2 r3 r4 L.length 0 (by omega)
  have hs0:qz4 Q N L 0=fun _=>false:=rfl
  rw[hs0]at e3
  obtain⟨M,hM⟩: ∃M,M=min (1+zs.length) 5:=⟨_,rfl⟩
  have e4:=fun ks=>f21 (b:=b) (nl:=nl) (k:=k) (zs:=zs) (by omega) hM M 0 (by omega) ks
  simp only[Int.natCast_zero,show k29 (sL zs 0)=1 from rfl,show ivs (sL zs 0)=[]from rfl]at e3 e4
  have hsl:=b16 zs M
  have hso:=jk3 zs M
  have hsp:=uu2 zs (i:=M) (by omega)
  have hP2:2≤k29 (sL zs M):=by
   obtain⟨m,rfl⟩: ∃m,M=m+1:=⟨M-1,by omega⟩
   have h1:=c20 (jk3 zs m)
   have h2:=ww5 zs m
   rw[f52,j88]
   have:=Int.mul_le_mul (a:=1) (b:=2) h1 h2.1 (by omega) (by omega)
   omega
  generalize sL zs M=s at*
  have p3:=s88 k1 k2 (show(0:Int)<k29 s-1 by omega)
  have hp3:=h58 (a:=k) (n:=k29 s-1) (by omega)
  have g1:=fun b nl=>yj8 (b:=b) (nl:=nl) (zs:=s) (by omega) (by omega) hso hsp (k:=pkI k (k29 s-1)) (by omega) (by omega)
  have g2:=fun b nl=>yj8 (b:=b) (nl:=nl) (zs:=s) (by omega) (by omega) hso hsp (k:=pkI k (k29 s-1)+1) (by omega) (by omega)
  have g3:=fun b nl b' nl'=>s66 (b:=b) (nl:=nl) (b':=b') (nl':=nl') (zs:=s) (by omega) (by omega) hso hsp (k:=pkI k (k29 s-1)+1) (by omega) (by omega)
  have g4:=qk1 hso (pkI k (k29 s-1)) (by omega) (by omega)
  have d1:=v09 hso (pkI k (k29 s-1)) (by omega) (by omega)
  have d2:=v09 hso (pkI k (k29 s-1)+1) (by omega) (by omega)
  have l1:=er1 s (pkI k (k29 s-1))
  have l2:=er1 s (pkI k (k29 s-1)+1)
  generalize k29 s=P at*
  generalize pkI k (P-1)=K at*
  generalize yz5 s K=A at*
  generalize yz5 s (K+1)=B at*
  have e5:=fun n0 n1 n2 ks=>fl0 (n0:=n0) (n1:=n1) (n2:=n2) l1 l2 (by omega) d1 d2 s.length 0 0 (by omega) (by omega) (by omega) ks
  simp only[List.drop_zero,g4,Int.natCast_zero]at e5
  rw[o08 rfl T7 rfl]
  unfold F7 c7
  simp(disch:=first|omega|fail) only[push_cast,seval,ui5,lu7,y81,bj9,wrap64,dec_lt,cw6,nl2,qc6,mr8,nb8,if_pos,if_neg,p1,p2,hQ,hN,e1,e2,hln,hbt]
  rw[e3]
  simp(disch:=first|omega|fail) only[push_cast,seval,ui5,lu7,y81,bj9,wrap64,dec_lt,cw6,nl2,qc6,mr8,nb8,if_pos,if_neg]
  rw[e4]
  simp(disch:=first|omega|fail) only[push_cast,seval,ui5,lu7,y81,bj9,wrap64,dec_lt,cw6,nl2,qc6,mr8,nb8,if_pos,if_neg,p3,g1,g2,g3,l1,l2]
  rw[e5]
  simp(disch:=first|omega|fail) only[push_cast,seval,ui5,lu7,y81,bj9,wrap64,dec_lt,cw6,nl2,qc6,mr8,nb8,if_pos,if_neg]
end
end Go.Proofs.Ytlhmdmedagjmnaa
namespace Go.Proofs.Ytlhmdmedagjmnaa
open Go.Am Go.Vm Go.Alg
section
variable {h:H} {l:List AV} {ws:List Value}
theorem a23:Vm.VRL h [] (allZ h) (allZ h) [] []:=by rw[Vm.VRL]
theorem dp0(r:Vm.VRL h [] (allZ h) (allZ h) l ws)(v:Value):Vm.VRL h [] (allZ h) (allZ h) (.x v::l) (v::ws):=by
 rw[Vm.VRL];exact⟨v,ws,rfl,by rw[Vm.VR],r⟩
theorem qj4{sa:Option Addr}{c:Nat}{zs:List Int}(hr:RdI h sa c zs): ∀o,sa.map (·.block)=some o→allZ h o:=fun o ho=>by
 rcases hr with⟨rfl,_⟩|⟨_,o2,off,r2,rfl,h1,_⟩
 ·cases ho
 ·cases ho;exact h42 h1
theorem sk6(r:Vm.VRL h [] (allZ h) (allZ h) l ws){sa:Option Addr}{c:Nat}{zs:List Int}(hr:RdI h sa c zs):Vm.VRL h [] (allZ h) (allZ h) (.fz true (.sl 2 0 1 (ivs zs))::l) (.slice sa zs.length c::ws):=by
 rw[Vm.VRL];exact⟨_,ws,rfl,by rw[Vm.VR];exact pd9 hr (qj4 hr),r⟩
end
end Go.Proofs.Ytlhmdmedagjmnaa
namespace Go.Proofs.Ytlhmdmedagjmnaa
open Go.Am Go.Vm Go.Alg
theorem vw4(h:H)(a0:Int)(_: -9223372036854775808≤a0)(_:a0≤9223372036854775807)(a1:Int)(_: -9223372036854775808≤a1)(_:a1≤9223372036854775807)(s2:Option Addr)(c2:Nat)(z2:List Int)(r2:RdI h s2 c2 z2)(_:ss4 h 1 s2=true)(_:z2.length≤9223372036854775807)(a3:Int)(_: -9223372036854775808≤a3)(_:a3≤9223372036854775807):
 ∃h',call T 7 [.int .i64 a0, .int .i64 a1, .slice s2 z2.length c2, .int .i64 a3] h=some (.bool true,h'):=
 vlaw lw2 (dp0 (dp0 (sk6 (dp0 a23 _) r2) _) _) (by apply f82<;>assumption)
end Go.Proofs.Ytlhmdmedagjmnaa
