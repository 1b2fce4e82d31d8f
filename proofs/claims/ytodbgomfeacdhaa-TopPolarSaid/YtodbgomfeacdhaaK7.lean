/-
  The fields of the table are fields. No condition. What is known of fields in the first machine, for the second. No condition. What rows span; their one form. No condition. Rows one by one into what th ..
-/
import Derived.Test.YtodbgomfeacdhaaK6
import Derived.Test.YtodbgomfeacdhaaKAD
import Derived.Test.YtodbgomfeacdhaaK5
import Derived.Sort.AssemblyPlain
import Derived.Test.YtodbgomfeacdhaaK0
import Derived.Sort.LotD4
set_option linter.unusedVariables false
set_option linter.unusedSimpArgs false
set_option linter.unusedSectionVars false
set_option maxRecDepth 100000
namespace Go.Proofs.Ytodbgomfeacdhaa
open Go.Am Go.Alg
section
variable {q p g:Int} {m:Nat} {mod:List Int}
end
class IsFld (q:Int):Prop where
 ok: ∃p m g mod,fldN q.toNat=some (p,m,g,mod)
structure El (q:Int) where
 v:Int
 lo:0≤v
 hi:v<q
theorem El.ext'{q:Int}{a b:El q}(h:a.v=b.v):a=b:=by
 obtain⟨a,h1,h2⟩:=a
 obtain⟨b,h3,h4⟩:=b
 cases h;rfl
instance {q:Int}:DecidableEq (El q):=fun a b=>if h:a.v=b.v then .isTrue (El.ext' h)else .isFalse fun e=>h (e▸rfl)
theorem jj8{q p g:Int}{m:Nat}{mod:List Int}(hn:fldN q.toNat=some (p,m,g,mod)):FOk q p m mod∧Tabs q g∧1≤g∧g<q:=by
 obtain⟨h2,h64⟩:=ug0 hn
 have h:=hi9 hn
 rw[show((q.toNat:Nat):Int)=q by omega]at h
 exact⟨h.1,cb4 hn,h.2.2.1,h.2.2.2.1⟩
theorem El.ok{q:Int}(a:El q):fok q a.v=true:=iy2 ⟨a.lo,a.hi⟩
theorem do9{q p g:Int}{m:Nat}{mod:List Int}(hn:fldN q.toNat=some (p,m,g,mod))(a b:El q):fadd q a.v b.v=addN p m a.v b.v:=by
 rw[fadd,a.ok,b.ok,(y65 hn).1,(y65 hn).2];rfl
theorem pu7{q p g:Int}{m:Nat}{mod:List Int}(hn:fldN q.toNat=some (p,m,g,mod))(a:El q):fneg q a.v=negN p m a.v:=by
 rw[fneg,a.ok,(y65 hn).1,(y65 hn).2];rfl
section
variable {q:Int} [hq:IsFld q]
theorem aw0:2≤q:=by
 obtain⟨p,m,g,mod,hn⟩:=hq.ok
 exact(jj8 hn).1.q2
theorem wg2(a b:El q):0≤fadd q a.v b.v∧fadd q a.v b.v<q:=by
 obtain⟨p,m,g,mod,hn⟩:=hq.ok
 have hf:=(jj8 hn).1
 have:=hf.p2
 have hb:=kq3 (p:=p) (by omega) m a.v b.v
 rw[hf.pm]at hb
 rw[do9 hn];exact hb
theorem ca9(a:El q):0≤fneg q a.v∧fneg q a.v<q:=by
 obtain⟨p,m,g,mod,hn⟩:=hq.ok
 have hf:=(jj8 hn).1
 have:=hf.p2
 have hb:=ul1 (p:=p) (by omega) m a.v
 rw[hf.pm]at hb
 rw[pu7 hn];exact hb
theorem jo8(a b:El q):0≤fmul q a.v b.v∧fmul q a.v b.v<q:=by
 obtain⟨p,m,g,mod,hn⟩:=hq.ok
 obtain⟨hf,t,_⟩:=jj8 hn
 have h2:=hf.q2
 rw[fmul,a.ok,b.ok]
 cases h0:(a.v==0)||(b.v==0)with
 |true=>exact⟨Int.le_refl _,by show(0:Int)<q;omega⟩
 |false=>
  have:=zd3 t h2 (flog q a.v+flog q b.v)
  exact⟨by show 0≤fexp q _;omega,this.2.1⟩
instance :Zero (El q):=⟨⟨0,Int.le_refl _,by have:=aw0 (q:=q);omega⟩⟩
instance :One (El q):=⟨⟨1,by omega,by have:=aw0 (q:=q);omega⟩⟩
instance :Add (El q):=⟨fun a b=>⟨fadd q a.v b.v,(wg2 a b).1,(wg2 a b).2⟩⟩
instance :Mul (El q):=⟨fun a b=>⟨fmul q a.v b.v,(jo8 a b).1,(jo8 a b).2⟩⟩
instance :Neg (El q):=⟨fun a=>⟨fneg q a.v,(ca9 a).1,(ca9 a).2⟩⟩
end
def vs{q:Int}(l:List (El q)):List Int:=l.map El.v
section
variable {q:Int}
theorem fi2(l:List (El q)):(vs l).length=l.length:=by simp[vs]
theorem rp2:vs ([]:List (El q))=[]:=rfl
end
end Go.Proofs.Ytodbgomfeacdhaa
namespace Go.Proofs.Ytodbgomfeacdhaa
open Go.Am Go.Vm Go.Alg
theorem ea5{zs:List Int}{i:Nat}(hi:i<zs.length):(ints zs)[i]? =some (.int .i64 (gi zs (i:Int))):=by
 have:=c14 (zs:=zs) (i:=(i:Int)) (by omega) (by omega)
 rwa [Int.toNat_natCast]at this
theorem zj7{h:H}{Z:Nat→Prop}{zs:List Int}{l:List Value}:RdL h Z (ivs zs) l↔l=ints zs:=by
 induction zs generalizing l with
 |nil=>exact⟨fun hr=>by rw[show ivs []=[]from rfl,RdL]at hr;exact hr,fun e=>by subst e;rw[show ivs []=[]from rfl,RdL];rfl⟩
 |cons z zs ih=>
  rw[show ivs (z::zs)= .v (.int .i64 z)::ivs zs from rfl,RdL]
  constructor
  ·rintro⟨w,l',rfl,h1,h2⟩
   rw[Rd]at h1
   rw[h1,ih.1 h2];rfl
  ·rintro rfl
   exact⟨_,_,rfl,by rw[Rd],ih.2 rfl⟩
theorem pd9{h:H}{Z:Nat→Prop}{e:Nat}{zs:List Int}{sa:Option Addr}{c:Nat}(hr:RdI h sa c zs)(hz: ∀o,sa.map (·.block)=some o→Z o):Rd h Z (.sl 2 e 1 (ivs zs)) (.slice sa zs.length c):=by
 rw[Rd]
 rcases hr with⟨rfl,rfl,rfl⟩|⟨h1,o,off,r,rfl,h2,h3,h4⟩
 ·exact .inl ⟨rfl,by decide,by decide,rfl⟩
 ·refine .inr ⟨o,off,_,c,r,rfl,hz o rfl,h2,h3,by decide,by rw[gf1,Nat.mul_one],h1,fun h=>(by cases h),zj7.2 ?_⟩
  rw[gf1]
  refine List.ext_getElem? fun i=> ?_
  by_cases hi:i<zs.length
  ·rw[ea5 hi,List.getElem?_take,if_pos hi,List.getElem?_drop]
   have:=h4 (i:Int) (by omega) (by omega)
   rwa [Int.toNat_natCast]at this
  ·rw[List.getElem?_eq_none (by rw[List.length_take];omega),List.getElem?_eq_none (by rw[iq5];omega)]
def lvs(nl:Nat)(m:List (List Int)):List Tree:=m.map fun l=> .sl nl 0 1 (ivs l)
theorem nb9(nl:Nat)(m:List (List Int)):(lvs nl m).length=m.length:=by simp[lvs]
def allZ(h:H):Nat→Prop:=fun o=>o<h.length
theorem bh6(h:H):Inv h [] (allZ h) (allZ h):=⟨by rw[okL];trivial,fun x=>by simp[fpL],fun o ho=>by simp[fpL]at ho,fun o ho=>by simp[fpL]at ho,fun o ho=>ho,fun o ho=>ho⟩
theorem vlaw{W:VW}(hP: ∀f p vs C r,W.P f=some p→p vs C=some r→VOK W.T f vs C r){h:H}{f:FuncId}{xs0:List AV}{ws:List Value}(hv:VRL h [] (allZ h) (allZ h) xs0 ws){b:Bool}(e:o24 W f xs0 []=some (.x (.bool b),[],[])): ∃h',call W.T f ws h=some (.bool b,h'):=by
 obtain⟨w,h',K,S,Z',Zp',h1,P⟩:=lw9 hP e h [] _ _ ws (bh6 h) rfl hv fun k hk=>by cases hk
 have:=P.v
 rw[Vm.VR]at this
 subst this
 exact⟨h',h1⟩
def pFt(q p:Int)(m:Nat)(g:Int)(mod:List Int):Tree:= .ex (.pt 187 [.v (.int .i64 q), .v (.int .i64 p), .v (.int .i64 m), .fz (.sl 2 0 1 (ivs mod)), .v (.int .i64 g), .sl 0 3 1 (ivs (tabs q.toNat).1), .sl 0 3 1 (ivs (tabs q.toNat).2)])
def pF(q:Int):Tree:=match fldN q.toNat with
 |some (p,m,g,mod)=>pFt q p m g mod
 |none=> .junk
noncomputable def vP:FuncId→Option (List AV→Rts→Option VRes)
 |92=>some h90
 |_=>none
noncomputable def W:VW:=⟨T,vP,vH,vM,ct⟩
@[push_cast] theorem W_M(f:FuncId):W.M f=vM f:=rfl
@[push_cast] theorem W_H(f:FuncId):W.H f=vH f:=rfl
@[push_cast] theorem W_ct:W.ct=ct:=rfl
theorem lw2(f:FuncId)(p:List AV→Rts→Option VRes)(xs0:List AV)(C:Rts)(r:VRes)(hp:W.P f=some p)(he:p xs0 C=some r):VOK W.T f xs0 C r:=by
 have hp:vP f=some p:=hp
 show VOK T f xs0 C r
 unfold vP at hp
 split at hp
 ·cases hp;exact(fun _=>x66 he) 92
 ·cases hp
section
variable {q:Int} [IsFld q] {b:Bool} {x y:Int}
end
theorem h15{b:Bool}{nl:Nat}{zs:List Int}(hz:zs.length≤1000000):o24 W 92 [.fz b (.sl nl 0 1 (ivs zs))] []=some (.own 0 [],[.sl (nlT zs) 3 1 (ivs zs)],[]):=(xr5 rfl).trans (ol3 hz)
end Go.Proofs.Ytodbgomfeacdhaa
namespace Go.Alg
section
variable {K:Type} [FK K]
structure Rref (n:Nat) (A:List (Nat×(Nat→K))):Prop where
 up:A.Pairwise fun a b=>a.1<b.1
 one: ∀a∈A,a.2 a.1=1
 before: ∀a∈A,∀k,k<a.1→a.2 k=0
 lt: ∀a∈A,a.1<n
 out: ∀a∈A,∀k,n≤k→a.2 k=0
 zero: ∀a∈A,∀b∈A,a.1≠b.1→a.2 b.1=0
section
variable {n:Nat} {A B:List (Nat×(Nat→K))}
def wf(l:List K):Nat→K:=fun i=>l.getD i 0
end
end
end Go.Alg
namespace Go.Alg
section
variable {α:Type}
end
section
variable {K:Type} [FK K]
def toF(A:List (Nat×List K)):List (Nat×(Nat→K)):=A.map fun a=>(a.1,wf a.2)
section
variable {n:Nat} {A:List (Nat×List K)}
end
end
end Go.Alg
namespace Go.Alg
section
variable {α:Type} {M:List (List α)} {P:List Nat}
end
section
variable {K:Type} [FK K]
section
variable {n c:Nat} {M0 M:List (List K)} {P:List Nat}
end
end
end Go.Alg
namespace Go.Alg
section
variable {K:Type} [FK K]
end
end Go.Alg
namespace Go.Proofs.Ytodbgomfeacdhaa
open Go.Am Go.Vm Go.Alg
def lls(nl:Nat)(m:List (List Int)):List Tree:=m.map fun l=> .sl nl 3 1 (ivs l)
theorem qf0(nl:Nat)(m:List (List Int)):(lls nl m).length=m.length:=by simp[lls]
theorem lg8(nl:Nat)(m:List (List Int)):jj5 (lls nl m)=lvs nl m:=by
 rw[gz0]
 unfold lls lvs
 rw[List.map_map]
 refine List.map_congr_left fun l _=> ?_
 show strip _=_
 rw[strip,ap3]
theorem lr8(nl:Nat)(m:List (List Int)):jj5 (lvs nl m)=lvs nl m:=by
 rw[gz0]
 unfold lvs
 rw[List.map_map]
 refine List.map_congr_left fun l _=> ?_
 show strip _=_
 rw[strip,ap3]
theorem ng3(nl:Nat)(m:List (List Int))(l:List Int):lls nl m++[.sl nl 3 1 (ivs l)]=lls nl (m++[l]):=by unfold lls;rw[List.map_append];rfl
theorem y81(nl:Nat)(m:List (List Int))(i:Nat)(l:List Int):(lls nl m).set i (.sl nl 3 1 (ivs l))=lls nl (m.set i l):=by unfold lls;rw[List.map_set]
theorem mm0(nl:Nat)(m:List (List Int))(n:Nat):(lls nl m).take n=lls nl (m.take n):=by unfold lls;rw[List.map_take]
theorem by3(nl:Nat)(m:List (List Int))(n:Nat):(lls nl m).drop n=lls nl (m.drop n):=by unfold lls;rw[List.map_drop]
theorem rj0(nl:Nat)(m:List (List Int))(n:Nat):(lvs nl m).take n=lvs nl (m.take n):=by unfold lvs;rw[List.map_take]
theorem ff4(nl:Nat)(m:List (List Int))(n:Nat):(lvs nl m).drop n=lvs nl (m.drop n):=by unfold lvs;rw[List.map_drop]
theorem lz6:ivs []=([]:List Tree):=rfl
theorem x25(nl:Nat):lls nl []=([]:List Tree):=rfl
@[push_cast] theorem wf0{q:Int} [h:IsFld q]:isNode (pF q)=true:=by
 obtain⟨p,m,g,mod,hn⟩:=h.ok
 unfold pF;rw[hn];rfl
@[push_cast] theorem v60{q:Int} [h:IsFld q]{b:Bool}:ofz b (pF q)=some (.fz b (pF q)):=by
 obtain⟨p,m,g,mod,hn⟩:=h.ok
 unfold pF;rw[hn];rfl
attribute [push_cast 50] List.isEmpty_nil List.isEmpty_cons nb9 qf0 lg8 lr8 ng3 mm0 by3 rj0 ff4 fi2 List.map_nil ite_self List.set_cons_zero List.set_cons_succ List.set_nil List.take_zero List.take_nil List.drop_zero List.drop_nil List.take_succ_cons List.drop_succ_cons List.take_length List.length_map List.flatMap_nil List.flatMap_cons gf1 pl3 l78 ap3 so0 nc5 yp5 u42 cs7 Int.natCast_add Int.natCast_one Int.natCast_zero Int.toNat_natCast Nat.div_one Nat.mul_one List.length_set List.all_cons List.all_nil List.length_append List.length_replicate List.length_take List.length_drop Int.zero_add
theorem vrl:(∀{zs:List Int} {i:Nat},i<zs.length→(ivs zs)[i]? =some (.v (.int .i64 (gi zs (i:Int)))))∧(∀(zs:List Int) (i:Nat) (x:Int),(ivs zs).set i (.v (.int .i64 x))=ivs (zs.set i x))∧(∀(nl:Nat) (m:List (List Int)) (i:Nat) (l:List Int),(lls nl m).set i (.sl nl 3 1 (ivs l))=lls nl (m.set i l))∧(∀{n b:Nat},n≤1000000→b≤1000→few n b=true)∧(∀{x:Int},-9223372036854775808≤x→x≤9223372036854775807→IntKind.wrap .i64 x=x)∧(∀{a b:Int},a<b→decide (a<b)=true)∧(∀{a b:Int},b≤a→decide (a<b)=false)∧(∀{a b:Int},a≤b→decide (a≤b)=true)∧(∀{a b:Int},b<a→decide (a≤b)=false)∧(∀{a b:Int},a=b→decide (a=b)=true)∧ ∀{a b:Int},¬a=b→decide (a=b)=false:=⟨ui5,lu7,y81,bj9,wrap64,dec_lt,cw6,nl3,qc6,mr8,nb8⟩
theorem iat{l:List Int}{i:Nat}{a:Int}(h:l[i]? =some a):(ivs l)[i]? =some (.v (.int .i64 a)):=by
 unfold ivs;rw[List.getElem?_map,h];rfl
def jks(n:Nat):List Tree:=List.replicate n .junk
@[push_cast] theorem gc3(n:Nat):(jks n).length=n:=List.length_replicate ..
def nl0:Nat→Nat
 |0=>1
 |_+1=>0
def nl1:Nat→Nat
 |0=>0
 |_+1=>1
@[push_cast] theorem o09(n:Nat):nl0 (n+1)=0:=rfl
@[push_cast] theorem m17(n:Nat):nl1 (n+1)=1:=rfl
@[push_cast] theorem vt2:nl0 0=1:=rfl
@[push_cast] theorem og7:nl1 0=0:=rfl
section
variable {b:Bool} {nl:Nat} {l:List Int}
theorem xr6(hl:l.length≤1000000):o24 W 47 [.fz b (.sl nl 0 1 (ivs l))] []=some (.own 0 [],[.sl 0 3 1 (ivs l)],[]):=by
 rw[o08 rfl T47 rfl]
 unfold F47 c47
 simp(disch:=first|omega|fail) only[push_cast,seval,vrl,if_pos,if_neg,List.nil_append]
theorem z00{x:Int}(hl:l.length≤1000000): ∀(n i:Nat),i+n=l.length→ ∀ks,
 vgoL W ⟨hNo,[.tmp 4],0⟩ [0,1,5] c147L0 (.blk 0 []::ks) [(0, .x (.int .i64 x)),(1, .fz b (.sl nl 0 1 (ivs l))),(5, .x (.int .i64 i))] []=if(l.drop i).any (fun y=>decide (y=x))=true then some (.x (.bool true),[],[])else vgo W ⟨hNo,[.tmp 4],0⟩ ks (VFr.of []) []
 |0,i,hi,ks=>by
  rw[oh9 (by omega),if_neg (by simp),sb5 c147L0.eq_def]
  simp(disch:=first|omega|fail) only[push_cast,seval,vrl,if_pos,if_neg]
 |n+1,i,hi,ks=>by
  have ih:=z00 (x:=x) hl n (i+1) (by omega) ks
  obtain⟨a,ha⟩:=ge6 (l:=l) (i:=i) (by omega)
  have h1:=iat ha
  rw[i62 ha,List.any_cons]
  rw[Int.natCast_add,Int.natCast_one]at ih
  by_cases hx:a=x
  ·rw[if_pos (by rw[decide_eq_true hx,Bool.true_or]),sb5 c147L0.eq_def]
   simp(disch:=first|omega|fail) only[push_cast,seval,vrl,if_pos,if_neg,h1,mr8 hx]
  ·rw[decide_eq_false hx,Bool.false_or,←ih,sb5 c147L0.eq_def]
   simp(disch:=first|omega|fail) only[push_cast,seval,vrl,if_pos,if_neg,h1,nb8 hx]
theorem cr7{x:Int}(hl:l.length≤1000000):o24 W 147 [.x (.int .i64 x), .fz b (.sl nl 0 1 (ivs l))] []=some (.x (.bool (l.any fun y=>decide (y=x))),[],[]):=by
 have e:=fun ks=>z00 (b:=b) (nl:=nl) (x:=x) hl l.length 0 (by omega) ks
 simp only[Int.natCast_zero,List.take_zero,List.drop_zero,rp2,lz6,x25,List.map_nil,List.length_nil]at e
 rw[o08 rfl T147 rfl]
 unfold F147 c147
 simp(disch:=first|omega|fail) only[push_cast,seval,vrl,if_pos,if_neg]
 rw[e]
 by_cases h:(l.any fun y=>decide (y=x))=true
 ·rw[if_pos h,h]
 ·rw[if_neg h,Bool.eq_false_iff.2 h]
  simp(disch:=first|omega|fail) only[push_cast,seval,vrl,if_pos,if_neg]
def fidx{α:Type}(p:α→Bool):Nat→List α→Int
 |_,[]=> -1
 |i,a::l=>if p a=true then(i:Int)else fidx p (i+1) l
theorem tl6{α:Type}(p:α→Bool): ∀(i:Nat) (l:List α),decide (0≤fidx p i l)=l.any p
 |_,[]=>rfl
 |i,a::l=>by
  rw[fidx,List.any_cons]
  cases p a with
  |true=>rw[if_pos rfl,Bool.true_or];exact decide_eq_true (by omega)
  |false=>rw[if_neg (by decide),Bool.false_or];exact tl6 p (i+1) l
section
variable {k:FuncId} {t:Tree} {p:Int→Bool}
end
section
variable {k:FuncId} {t:Tree} {p:List Int→Bool} {m:List (List Int)} {nr:Nat} {bl:Bool}
end
end
end Go.Proofs.Ytodbgomfeacdhaa
namespace Go.Proofs.Ytodbgomfeacdhaa
open Go.Am Go.Vm
theorem u49{d:Array Int}{i:Nat}(h:i<d.size):d.toList[i]? =some d[i]! :=by
 rw[Array.getElem?_toList,getElem!_pos d i h,Array.getElem?_eq_getElem h]
theorem va8(d:Array Int)(i j:Nat):(d.toList.set i d[j]!).set j d[i]! =(Sort.swp d i j).toList:=by
 simp[Sort.swp]
theorem wr6(d:Array Int):d.toList.length=d.size:=Array.length_toList
theorem vz2{d:Array Int}{i:Nat}(h:i<d.size):gi d.toList (i:Int)=d[i]! :=by
 unfold gi
 rw[Int.toNat_natCast,List.getD_eq_getElem?_getD,u49 h];rfl
theorem mc8{x:Int}:o24 W 188 [.x (.int .i64 x)] []=some (.x (.bool false),[],[]):=by
 rw[o08 rfl T188 rfl]
 unfold F188 c188
 simp(disch:=first|omega|fail) only[push_cast,seval,vrl,if_pos,if_neg]
theorem yg4{x y:Int}:o24 W 197 [.x (.int .i64 x), .x (.int .i64 y)] []=some (.x (.bool (Sort.ltInt x y)),[],[]):=by
 have e1:=mc8 (x:=x)
 have e2:=mc8 (x:=y)
 unfold Sort.ltInt
 rw[o08 rfl T197 rfl]
 unfold F197 c197
 simp(disch:=first|omega|fail) only[push_cast,seval,vrl,if_pos,if_neg,e1,e2]
section
variable {nl:Nat}
theorem xk4{a b i:Nat}: ∀(j:Nat) (d:Array Int),j<d.size→d.size≤1000000→ ∀ks,
 vgoL W ⟨hNo,[],1⟩ [0,1,2,6,7] c191L0 (.blk 2 [0,1,2,6]::ks) [(0, .own 0 []),(1, .x (.int .i64 a)),(2, .x (.int .i64 b)),(6, .x (.int .i64 i)),(7, .x (.int .i64 j))] [.sl nl 3 1 (ivs d.toList)]=
  vgo W ⟨hNo,[],1⟩ ks (VFr.of [(0, .own 0 []),(1, .x (.int .i64 a)),(2, .x (.int .i64 b)),(6, .x (.int .i64 i))]) [.sl nl 3 1 (ivs (Sort.insInner Sort.ltInt a j d).toList)]
 |0,d,hj,hd,ks=>by
  rw[Sort.insInner,sb5 c191L0.eq_def]
  simp(disch:=first|omega|fail) only[push_cast,seval,vrl,if_pos,if_neg]
 |j+1,d,hj,hd,ks=>by
  rw[Sort.insInner]
  have e0:((j+1:Nat):Int)-1=(j:Int):=by omega
  by_cases h1:a<j+1
  ·have l1:=vz2 (d:=d) (i:=j+1) hj
   have l2:=vz2 (d:=d) (i:=j) (by omega)
   have hlen:=wr6 d
   have e1:=yg4 (x:=d[j+1]!) (y:=d[j]!)
   cases hl:Sort.ltInt d[j+1]! d[j]! with
   |true=>
    have ih:=xk4 (a:=a) (b:=b) (i:=i) j (Sort.swp d (j+1) j) (by rw[Sort.size_swp];omega) (by rw[Sort.size_swp];exact hd) ks
    rw[←va8]at ih
    rw[hl]at e1
    rw[if_pos (by simpa using h1),←ih,sb5 c191L0.eq_def]
    generalize j+1=j1 at*
    simp(disch:=first|omega|fail) only[push_cast,seval,vrl,if_pos,if_neg,e0,l1,l2,e1,hlen]
   |false=>
    rw[hl]at e1
    rw[if_neg (by simp),sb5 c191L0.eq_def]
    generalize j+1=j1 at*
    simp(disch:=first|omega|fail) only[push_cast,seval,vrl,if_pos,if_neg,e0,l1,l2,e1,hlen]
  ·rw[if_neg (by simp;omega),sb5 c191L0.eq_def]
   simp(disch:=first|omega|fail) only[push_cast,seval,vrl,if_pos,if_neg]
theorem n09{α:Type} [Inhabited α](lt:α→α→Bool)(a:Nat): ∀(j:Nat) (d:Array α),(Sort.insInner lt a j d).size=d.size
 |0,d=>rfl
 |j+1,d=>by
  rw[Sort.insInner]
  split
  ·rw[n09 lt a j,Sort.size_swp]
  ·rfl
theorem ak0{a b:Nat}: ∀(n i:Nat) (d:Array Int),i+n=b∨(b≤i∧n=0)→b≤d.size→d.size≤1000000→i≤1000000→ ∀ks,
 vgoL W ⟨hNo,[],1⟩ [0,1,2,6] c191L1 (.blk 0 []::ks) [(0, .own 0 []),(1, .x (.int .i64 a)),(2, .x (.int .i64 b)),(6, .x (.int .i64 i))] [.sl nl 3 1 (ivs d.toList)]=
  vgo W ⟨hNo,[],1⟩ ks (VFr.of []) [.sl nl 3 1 (ivs (Sort.insOuter Sort.ltInt a b i d).toList)]
 |0,i,d,hn,hb,hd,hi,ks=>by
  rw[Sort.insOuter,if_neg (by omega),sb5 c191L1.eq_def]
  simp(disch:=first|omega|fail) only[push_cast,seval,vrl,if_pos,if_neg]
 |n+1,i,d,hn,hb,hd,hi,ks=>by
  have e1:=fun ks=>xk4 (nl:=nl) (a:=a) (b:=b) (i:=i) i d (by omega) hd ks
  have ih:=ak0 (a:=a) (b:=b) n (i+1) (Sort.insInner Sort.ltInt a i d) (by omega) (by rw[n09];exact hb) (by rw[n09];exact hd) (by omega) ks
  rw[Int.natCast_add,Int.natCast_one]at ih
  rw[Sort.insOuter,if_pos (by omega),←ih,sb5 c191L1.eq_def]
  simp(disch:=first|omega|fail) only[push_cast,seval,vrl,if_pos,if_neg]
  rw[e1]
  simp(disch:=first|omega|fail) only[push_cast,seval,vrl,if_pos,if_neg]
theorem ki8{a b:Nat}{d:Array Int}(hb:b≤d.size)(hd:d.size≤100000)(ha:a≤100000):
 o24 W 191 [.own 0 [], .x (.int .i64 a), .x (.int .i64 b)] [.sl nl 3 1 (ivs d.toList)]=some (.tup [],[],[.sl nl 3 1 (ivs (Sort.insertionSort Sort.ltInt d a b).toList)]):=by
 have e:=fun ks=>ak0 (nl:=nl) (a:=a) (b:=b) (b-(a+1)) (a+1) d (by omega) hb (by omega) (by omega) ks
 rw[Int.natCast_add,Int.natCast_one]at e
 unfold Sort.insertionSort
 rw[o08 rfl T191 rfl]
 unfold F191 c191
 simp(disch:=first|omega|fail) only[push_cast,seval,vrl,if_pos,if_neg]
 rw[e]
 simp(disch:=first|omega|fail) only[push_cast,seval,vrl,if_pos,if_neg]
end
end Go.Proofs.Ytodbgomfeacdhaa
namespace Go.Proofs.Ytodbgomfeacdhaa
open Go.Am
def seqR:Nat→ACode→ACode
 |n+1, .seq _ b=>seqR n b
 |_,c=>c
end Go.Proofs.Ytodbgomfeacdhaa
namespace Go.Proofs.Ytodbgomfeacdhaa
open Go.Am Go.Vm
def ltC(cmp:Int→Int→Int)(x y:Int):Bool:=decide (cmp x y<0)
def AllP(P:Int→Prop)(d:Array Int):Prop:= ∀i,i<d.size→P d[i]!
theorem AllP.swp{P:Int→Prop}{d:Array Int}(h:AllP P d){i j:Nat}(hi:i<d.size)(hj:j<d.size):AllP P (Sort.swp d i j):=fun k hk=>by
 rw[Sort.size_swp]at hk
 rw[Sort.swp_get d hi hj k]
 split
 ·exact h _ (by assumption)
 ·split
  ·exact h _ (by assumption)
  ·exact h _ hk
section
variable {nl:Nat} {f:FuncId} {bb:Bool} {t:Tree} {cmp:Int→Int→Int} {P:Int→Prop}
theorem e31(hM:vM f=[])(hc: ∀x y,P x→P y→o24 W f [.x (.int .i64 x), .x (.int .i64 y), .fz bb t] []=some (.x (.int .i64 (cmp x y)),[],[])){a b i:Nat}: ∀(j:Nat) (d:Array Int),AllP P d→j<d.size→d.size≤100000→ ∀ks,
 vgoL W ⟨hNo,[],1⟩ [0,1,2,3,8,9] c189L0 (.blk 2 [0,1,2,3,8]::ks) [(0, .own 0 []),(1, .x (.int .i64 a)),(2, .x (.int .i64 b)),(3, .fn f [.fz bb t]),(8, .x (.int .i64 i)),(9, .x (.int .i64 j))] [.sl nl 3 1 (ivs d.toList)]=
  vgo W ⟨hNo,[],1⟩ ks (VFr.of [(0, .own 0 []),(1, .x (.int .i64 a)),(2, .x (.int .i64 b)),(3, .fn f [.fz bb t]),(8, .x (.int .i64 i))]) [.sl nl 3 1 (ivs (Sort.insInner (ltC cmp) a j d).toList)]
 |0,d,hP,hj,hd,ks=>by
  rw[Sort.insInner,sb5 c189L0.eq_def]
  simp(disch:=first|omega|fail) only[push_cast,seval,vrl,if_pos,if_neg]
 |j+1,d,hP,hj,hd,ks=>by
  rw[Sort.insInner]
  have e0:((j+1:Nat):Int)-1=(j:Int):=by omega
  by_cases h1:a<j+1
  ·have l1:=vz2 (d:=d) (i:=j+1) hj
   have l2:=vz2 (d:=d) (i:=j) (by omega)
   have hlen:=wr6 d
   have e1:=hc d[j+1]! d[j]! (hP _ hj) (hP _ (by omega))
   by_cases hl:cmp d[j+1]! d[j]! <0
   ·have ih:=e31 hM hc (a:=a) (b:=b) (i:=i) j (Sort.swp d (j+1) j) (hP.swp hj (by omega)) (by rw[Sort.size_swp];omega) (by rw[Sort.size_swp];exact hd) ks
    rw[←va8]at ih
    rw[if_pos (by simpa [ltC,hl]using h1),←ih,sb5 c189L0.eq_def]
    generalize cmp d[j+1]! d[j]! =z at*
    generalize j+1=j1 at*
    simp(disch:=first|omega|fail) only[push_cast,seval,vrl,if_pos,if_neg,e0,l1,l2,e1,hlen,hM]
   ·rw[if_neg (by simp[ltC,hl]),sb5 c189L0.eq_def]
    generalize cmp d[j+1]! d[j]! =z at*
    generalize j+1=j1 at*
    simp(disch:=first|omega|fail) only[push_cast,seval,vrl,if_pos,if_neg,e0,l1,l2,e1,hlen,hM]
  ·rw[if_neg (by simp;omega),sb5 c189L0.eq_def]
   simp(disch:=first|omega|fail) only[push_cast,seval,vrl,if_pos,if_neg]
theorem b93{lt:Int→Int→Bool}{a:Nat}: ∀(j:Nat) (d:Array Int),AllP P d→j<d.size→AllP P (Sort.insInner lt a j d)
 |0,d,h,_=>h
 |j+1,d,h,hj=>by
  rw[Sort.insInner]
  split
  ·exact b93 j _ (h.swp hj (by omega)) (by rw[Sort.size_swp];omega)
  ·exact h
theorem gz5{lt:Int→Int→Bool}{a b:Nat}: ∀(n i:Nat) (d:Array Int),b-i≤n→AllP P d→b≤d.size→AllP P (Sort.insOuter lt a b i d)
 |n,i,d,hn,h,hb=>by
  rw[Sort.insOuter]
  split
  ·cases n with
   |zero=>omega
   |succ n=>exact gz5 n (i+1) _ (by omega) (b93 i d h (by omega)) (by rw[n09];exact hb)
  ·exact h
theorem h93{α:Type} [Inhabited α]{lt:α→α→Bool}{a b:Nat}: ∀(n i:Nat) (d:Array α),b-i≤n→(Sort.insOuter lt a b i d).size=d.size
 |n,i,d,hn=>by
  rw[Sort.insOuter]
  split
  ·cases n with
   |zero=>omega
   |succ n=>rw[h93 n (i+1) _ (by omega),n09]
  ·rfl
theorem y53(hM:vM f=[])(hc: ∀x y,P x→P y→o24 W f [.x (.int .i64 x), .x (.int .i64 y), .fz bb t] []=some (.x (.int .i64 (cmp x y)),[],[])){a b:Nat}: ∀(n i:Nat) (d:Array Int),i+n=b∨(b≤i∧n=0)→AllP P d→b≤d.size→d.size≤100000→i≤1000000→ ∀ks,
 vgoL W ⟨hNo,[],1⟩ [0,1,2,3,8] c189L1 (.blk 0 []::ks) [(0, .own 0 []),(1, .x (.int .i64 a)),(2, .x (.int .i64 b)),(3, .fn f [.fz bb t]),(8, .x (.int .i64 i))] [.sl nl 3 1 (ivs d.toList)]=
  vgo W ⟨hNo,[],1⟩ ks (VFr.of []) [.sl nl 3 1 (ivs (Sort.insOuter (ltC cmp) a b i d).toList)]
 |0,i,d,hn,hP,hb,hd,hi,ks=>by
  rw[Sort.insOuter,if_neg (by omega),sb5 c189L1.eq_def]
  simp(disch:=first|omega|fail) only[push_cast,seval,vrl,if_pos,if_neg]
 |n+1,i,d,hn,hP,hb,hd,hi,ks=>by
  have e1:=fun ks=>e31 (nl:=nl) hM hc (a:=a) (b:=b) (i:=i) i d hP (by omega) hd ks
  have ih:=y53 hM hc (a:=a) (b:=b) n (i+1) (Sort.insInner (ltC cmp) a i d) (by omega) (b93 i d hP (by omega)) (by rw[n09];exact hb) (by rw[n09];exact hd) (by omega) ks
  rw[Int.natCast_add,Int.natCast_one]at ih
  rw[Sort.insOuter,if_pos (by omega),←ih,sb5 c189L1.eq_def]
  simp(disch:=first|omega|fail) only[push_cast,seval,vrl,if_pos,if_neg]
  rw[e1]
  simp(disch:=first|omega|fail) only[push_cast,seval,vrl,if_pos,if_neg]
theorem sd9(hM:vM f=[])(hc: ∀x y,P x→P y→o24 W f [.x (.int .i64 x), .x (.int .i64 y), .fz bb t] []=some (.x (.int .i64 (cmp x y)),[],[])){a b:Nat}{d:Array Int}(hP:AllP P d)(hb:b≤d.size)(hd:d.size≤100000)(ha:a≤100000):
 o24 W 189 [.own 0 [], .x (.int .i64 a), .x (.int .i64 b), .fn f [.fz bb t]] [.sl nl 3 1 (ivs d.toList)]=some (.tup [],[],[.sl nl 3 1 (ivs (Sort.insertionSort (ltC cmp) d a b).toList)]):=by
 have e:=fun ks=>y53 (nl:=nl) hM hc (a:=a) (b:=b) (b-(a+1)) (a+1) d (by omega) hP hb (by omega) (by omega) ks
 rw[Int.natCast_add,Int.natCast_one]at e
 unfold Sort.insertionSort
 rw[o08 rfl T189 rfl]
 unfold F189 c189
 simp(disch:=first|omega|fail) only[push_cast,seval,vrl,if_pos,if_neg]
 rw[e]
 simp(disch:=first|omega|fail) only[push_cast,seval,vrl,if_pos,if_neg]
def swR(a b:Nat):Nat→Nat→Array Int→Array Int
 |0,_,d=>d
 |n+1,i,d=>swR a b n (i+1) (Sort.swp d (a+i) (b+i))
theorem wf2(a b:Nat): ∀(n i:Nat) (d:Array Int),(swR a b n i d).size=d.size
 |0,_,d=>rfl
 |n+1,i,d=>by rw[swR,wf2 a b n,Sort.size_swp]
theorem rd8{a b:Nat}: ∀(n i:Nat) (d:Array Int),AllP P d→a+i+n≤d.size→b+i+n≤d.size→AllP P (swR a b n i d)
 |0,_,d,h,_,_=>h
 |n+1,i,d,h,h1,h2=>rd8 n (i+1) _ (h.swp (by omega) (by omega)) (by rw[Sort.size_swp];omega) (by rw[Sort.size_swp];omega)
theorem c42{a b N:Nat}: ∀(n i:Nat) (d:Array Int),i+n=N→a+N≤d.size→b+N≤d.size→d.size≤100000→ ∀ks,
 vgoL W ⟨hNo,[],1⟩ [0,1,2,3,10] c228L0 (.blk 0 []::ks) [(0, .own 0 []),(1, .x (.int .i64 a)),(2, .x (.int .i64 b)),(3, .x (.int .i64 N)),(10, .x (.int .i64 i))] [.sl nl 3 1 (ivs d.toList)]=
  vgo W ⟨hNo,[],1⟩ ks (VFr.of []) [.sl nl 3 1 (ivs (swR a b n i d).toList)]
 |0,i,d,hi,ha,hb,hd,ks=>by
  rw[swR,sb5 c228L0.eq_def]
  simp(disch:=first|omega|fail) only[push_cast,seval,vrl,if_pos,if_neg]
 |n+1,i,d,hi,ha,hb,hd,ks=>by
  have hsz:=Sort.size_swp d (a+i) (b+i)
  have ih:=c42 (a:=a) (b:=b) (N:=N) n (i+1) (Sort.swp d (a+i) (b+i)) (by omega) (by omega) (by omega) (by omega) ks
  rw[←va8,Int.natCast_add i,Int.natCast_one]at ih
  have l1:=vz2 (d:=d) (i:=a+i) (by omega)
  have l2:=vz2 (d:=d) (i:=b+i) (by omega)
  have hlen:=wr6 d
  have e1:(a:Int)+(i:Int)=((a+i:Nat):Int):=by omega
  have e2:(b:Int)+(i:Int)=((b+i:Nat):Int):=by omega
  rw[swR,←ih,sb5 c228L0.eq_def]
  generalize hA:a+i=A at*
  generalize hB:b+i=B at*
  simp(disch:=first|omega|fail) only[push_cast,seval,vrl,if_pos,if_neg,e1,e2,l1,l2,hlen]
theorem qv8{a b n:Nat}{d:Array Int}(ha:a+n≤d.size)(hb:b+n≤d.size)(hd:d.size≤100000):
 o24 W 228 [.own 0 [], .x (.int .i64 a), .x (.int .i64 b), .x (.int .i64 n), .fn f [.fz bb t]] [.sl nl 3 1 (ivs d.toList)]=some (.tup [],[],[.sl nl 3 1 (ivs (swR a b n 0 d).toList)]):=by
 have e:=fun ks=>c42 (nl:=nl) (a:=a) (b:=b) (N:=n) n 0 d (by omega) ha hb hd ks
 rw[Int.natCast_zero]at e
 rw[o08 rfl T228 rfl]
 unfold F228 c228
 simp(disch:=first|omega|fail) only[push_cast,seval,vrl,if_pos,if_neg]
 rw[e]
 simp(disch:=first|omega|fail) only[push_cast,seval,vrl,if_pos,if_neg]
def rotL(m:Nat):Nat→Nat→Nat→Array Int→Array Int
 |0,i,j,d=>swR (m-i) m i 0 d
 |n+1,i,j,d=>if i=j then swR (m-i) m i 0 d else if i>j then rotL m n (i-j) j (swR (m-i) m j 0 d)else rotL m n i (j-i) (swR (m-i) (m+j-i) i 0 d)
theorem ji8(m:Nat): ∀(n i j:Nat) (d:Array Int),(rotL m n i j d).size=d.size
 |0,i,j,d=>by rw[rotL,wf2]
 |n+1,i,j,d=>by
  rw[rotL]
  split
  ·rw[wf2]
  ·split
   ·rw[ji8 m n,wf2]
   ·rw[ji8 m n,wf2]
theorem se5{m:Nat}: ∀(n i j:Nat) (d:Array Int),AllP P d→i+j≤n→1≤i→1≤j→i≤m→m+j≤d.size→AllP P (rotL m n i j d)
 |0,i,j,d,h,hn,hi,hj,him,hmj=>by omega
 |n+1,i,j,d,h,hn,hi,hj,him,hmj=>by
  rw[rotL]
  split
  ·exact rd8 _ _ _ h (by omega) (by omega)
  ·split
   ·exact se5 n _ _ _ (rd8 _ _ _ h (by omega) (by omega)) (by omega) (by omega) hj (by omega) (by rw[wf2];exact hmj)
   ·exact se5 n _ _ _ (rd8 _ _ _ h (by omega) (by omega)) (by omega) hi (by omega) him (by rw[wf2];omega)
theorem ew7{m:Nat}: ∀(n i j:Nat) (d:Array Int),i+j≤n→1≤i→1≤j→i≤m→m+j≤d.size→d.size≤100000→ ∀(ks:List It) (r:VRes),(∀(k:Nat) (d':Array Int),1≤k→k≤m→m+k≤d'.size→d'.size=d.size→swR (m-k) m k 0 d'=rotL m n i j d→vgo W ⟨hNo,[],1⟩ ks (VFr.of [(0, .own 0 []),(2, .x (.int .i64 m)),(4, .fn f [.fz bb t]),(10, .x (.int .i64 k))]) [.sl nl 3 1 (ivs d'.toList)]=some r)→
 vgoL W ⟨hNo,[],1⟩ [0,2,4,10,11] c217L0 (.blk 0 [0,2,4,10]::ks) [(0, .own 0 []),(2, .x (.int .i64 m)),(4, .fn f [.fz bb t]),(10, .x (.int .i64 i)),(11, .x (.int .i64 j))] [.sl nl 3 1 (ivs d.toList)]=some r
 |0,i,j,d,hn,hi,hj,him,hmj,hd,ks,r,hr=>by omega
 |n+1,i,j,d,hn,hi,hj,him,hmj,hd,ks,r,hr=>by
  rw[rotL]at hr
  by_cases h1:i=j
  ·rw[if_pos h1]at hr
   subst h1
   rw[sb5 c217L0.eq_def]
   simp(disch:=first|omega|fail) only[push_cast,seval,vrl,if_pos,if_neg]
   exact hr i d hi him hmj rfl rfl
  ·rw[if_neg h1]at hr
   have h1': ¬(i:Int)=(j:Int):=by omega
   by_cases h2:i>j
   ·rw[if_pos h2]at hr
    have e1:=qv8 (nl:=nl) (f:=f) (bb:=bb) (t:=t) (a:=m-i) (b:=m) (n:=j) (d:=d) (by omega) (by omega) hd
    have e2:(m:Int)-(i:Int)=((m-i:Nat):Int):=by omega
    have e3:(i:Int)-(j:Int)=((i-j:Nat):Int):=by omega
    have hsz:=wf2 (m-i) m j 0 d
    have ih:=ew7 (m:=m) n (i-j) j (swR (m-i) m j 0 d) (by omega) (by omega) hj (by omega) (by omega) (by omega) ks r (fun k d' a1 a2 a3 a4 a5=>hr k d' a1 a2 a3 (by omega) a5)
    rw[←ih,sb5 c217L0.eq_def]
    generalize m-i=A at*
    generalize i-j=B at*
    simp(disch:=first|omega|fail) only[push_cast,seval,vrl,if_pos,if_neg,nb8 h1',e1,e2,e3]
   ·rw[if_neg h2]at hr
    have e1:=qv8 (nl:=nl) (f:=f) (bb:=bb) (t:=t) (a:=m-i) (b:=m+j-i) (n:=i) (d:=d) (by omega) (by omega) hd
    have e2:(m:Int)-(i:Int)=((m-i:Nat):Int):=by omega
    have e3:(j:Int)-(i:Int)=((j-i:Nat):Int):=by omega
    have e4:(m:Int)+(j:Int)-(i:Int)=((m+j-i:Nat):Int):=by omega
    have hsz:=wf2 (m-i) (m+j-i) i 0 d
    have ih:=ew7 (m:=m) n i (j-i) (swR (m-i) (m+j-i) i 0 d) (by omega) hi (by omega) him (by omega) (by omega) ks r (fun k d' a1 a2 a3 a4 a5=>hr k d' a1 a2 a3 (by omega) a5)
    rw[←ih,sb5 c217L0.eq_def]
    generalize m-i=A at*
    generalize j-i=B at*
    generalize m+j-i=C at*
    simp(disch:=first|omega|fail) only[push_cast,seval,vrl,if_pos,if_neg,nb8 h1',e1,e2,e3,e4]
def rotC(d:Array Int)(a m b:Nat):Array Int:=rotL m (b-a) (m-a) (b-m) d
theorem fb3{a m b:Nat}{d:Array Int}(ham:a<m)(hmb:m<b)(hb:b≤d.size)(hd:d.size≤100000):
 o24 W 217 [.own 0 [], .x (.int .i64 a), .x (.int .i64 m), .x (.int .i64 b), .fn f [.fz bb t]] [.sl nl 3 1 (ivs d.toList)]=some (.tup [],[],[.sl nl 3 1 (ivs (rotC d a m b).toList)]):=by
 unfold rotC
 obtain⟨I,hI⟩: ∃I,I=m-a:=⟨_,rfl⟩
 obtain⟨J,hJ⟩: ∃J,J=b-m:=⟨_,rfl⟩
 have e1:(m:Int)-(a:Int)=(I:Int):=by omega
 have e2:(b:Int)-(m:Int)=(J:Int):=by omega
 rw[←hI,←hJ,o08 rfl T217 rfl]
 unfold F217 c217
 simp(disch:=first|omega|fail) only[push_cast,seval,vrl,if_pos,if_neg,e1,e2]
 refine ew7 (b-a) I J d (by omega) (by omega) (by omega) (by omega) (by omega) hd _ _ fun k d' a1 a2 a3 a4 a5=> ?_
 have e3:=qv8 (nl:=nl) (f:=f) (bb:=bb) (t:=t) (a:=m-k) (b:=m) (n:=k) (d:=d') (by omega) (by omega) (by omega)
 have e4:(m:Int)-(k:Int)=((m-k:Nat):Int):=by omega
 rw[a5]at e3
 generalize m-k=A at*
 simp(disch:=first|omega|fail) only[push_cast,seval,vrl,if_pos,if_neg,e3,e4]
end
set_option maxHeartbeats 4000000
section
variable (lt:Int→Int→Bool)
def bs1(d:Array Int)(x:Int):Nat→Nat→Nat→Nat
 |0,i,_=>i
 |n+1,i,j=>if i<j then(if lt d[(i+j)/2]! x then bs1 d x n ((i+j)/2+1) j else bs1 d x n i ((i+j)/2))else i
def bs2(d:Array Int)(x:Int):Nat→Nat→Nat→Nat
 |0,i,_=>i
 |n+1,i,j=>if i<j then(if lt x d[(i+j)/2]! then bs2 d x n i ((i+j)/2)else bs2 d x n ((i+j)/2+1) j)else i
def bs3(d:Array Int)(p:Nat):Nat→Nat→Nat→Nat
 |0,i,_=>i
 |n+1,i,j=>if i<j then(if lt d[p-(i+j)/2]! d[(i+j)/2]! then bs3 d p n i ((i+j)/2)else bs3 d p n ((i+j)/2+1) j)else i
def upS:Nat→Nat→Array Int→Array Int
 |0,_,d=>d
 |n+1,k,d=>upS n (k+1) (Sort.swp d k (k+1))
def dnS:Nat→Nat→Array Int→Array Int
 |0,_,d=>d
 |n+1,k,d=>dnS n (k-1) (Sort.swp d k (k-1))
def symM:Nat→Nat→Nat→Nat→Array Int→Array Int
 |0,_,_,_,d=>d
 |n+1,a,m,b,d=>
  if m-a=1 then upS (bs1 lt d d[a]! (b-m) m b-1-a) a d
  else if b-m=1 then dnS (m-bs2 lt d d[m]! (m-a) a m) m d
  else
   let mid:=(a+b)/2
   let s0:=if m>mid then mid+m-b else a
   let r0:=if m>mid then mid else m
   let s:=bs3 lt d (mid+m-1) (r0-s0) s0 r0
   let e:=mid+m-s
   let d1:=if s<m∧m<e then rotC d s m e else d
   let d2:=if a<s∧s<mid then symM n a s mid d1 else d1
   if mid<e∧e<b then symM n mid e b d2 else d2
theorem jy8(d:Array Int)(x:Int): ∀(n i j:Nat),i≤j→j-i≤n→i≤bs1 lt d x n i j∧bs1 lt d x n i j≤j
 |0,i,j,h,hn=>by rw[bs1];omega
 |n+1,i,j,h,hn=>by
  rw[bs1]
  split
  ·split
   ·have:=jy8 d x n ((i+j)/2+1) j (by omega) (by omega);omega
   ·have:=jy8 d x n i ((i+j)/2) (by omega) (by omega);omega
  ·omega
theorem wr4(d:Array Int)(x:Int): ∀(n i j:Nat),i≤j→j-i≤n→i≤bs2 lt d x n i j∧bs2 lt d x n i j≤j
 |0,i,j,h,hn=>by rw[bs2];omega
 |n+1,i,j,h,hn=>by
  rw[bs2]
  split
  ·split
   ·have:=wr4 d x n i ((i+j)/2) (by omega) (by omega);omega
   ·have:=wr4 d x n ((i+j)/2+1) j (by omega) (by omega);omega
  ·omega
theorem se3(d:Array Int)(p:Nat): ∀(n i j:Nat),i≤j→j-i≤n→i≤bs3 lt d p n i j∧bs3 lt d p n i j≤j
 |0,i,j,h,hn=>by rw[bs3];omega
 |n+1,i,j,h,hn=>by
  rw[bs3]
  split
  ·split
   ·have:=se3 d p n i ((i+j)/2) (by omega) (by omega);omega
   ·have:=se3 d p n ((i+j)/2+1) j (by omega) (by omega);omega
  ·omega
end
theorem h41: ∀(n k:Nat) (d:Array Int),(upS n k d).size=d.size
 |0,_,_=>rfl
 |n+1,k,d=>by rw[upS,h41 n,Sort.size_swp]
theorem yl9: ∀(n k:Nat) (d:Array Int),(dnS n k d).size=d.size
 |0,_,_=>rfl
 |n+1,k,d=>by rw[dnS,yl9 n,Sort.size_swp]
theorem p54(d:Array Int)(a m b:Nat):(rotC d a m b).size=d.size:=ji8 _ _ _ _ _
theorem x49(lt:Int→Int→Bool): ∀(n a m b:Nat) (d:Array Int),(symM lt n a m b d).size=d.size
 |0,_,_,_,_=>rfl
 |n+1,a,m,b,d=>by
  rw[symM]
  split
  ·exact h41 _ _ _
  ·split
   ·exact yl9 _ _ _
   ·simp only[]
    have h1: ∀(c:Prop) [Decidable c] (x y z:Nat),(if c then rotC d x y z else d).size=d.size:=fun c _ x y z=>by
     split
     ·exact p54 _ _ _ _
     ·rfl
    have h2: ∀(c:Prop) [Decidable c] (x y z:Nat) (d':Array Int),(if c then symM lt n x y z d' else d').size=d'.size:=fun c _ x y z d'=>by
     split
     ·exact x49 lt n _ _ _ _
     ·rfl
    rw[h2,h2,h1]
section
variable {nl:Nat} {f:FuncId} {bb:Bool} {t:Tree} {cmp:Int→Int→Int} {P:Int→Prop}
theorem wf1{d:Array Int}{a m b:Nat}(h:AllP P d)(ham:a<m)(hmb:m<b)(hb:b≤d.size):AllP P (rotC d a m b):=se5 _ _ _ _ h (by omega) (by omega) (by omega) (by omega) (by omega)
theorem ea7: ∀(n k:Nat) (d:Array Int),AllP P d→k+n<d.size→AllP P (upS n k d)
 |0,_,_,h,_=>h
 |n+1,k,d,h,hk=>ea7 n (k+1) _ (h.swp (by omega) (by omega)) (by rw[Sort.size_swp];omega)
theorem r72: ∀(n k:Nat) (d:Array Int),AllP P d→k<d.size→AllP P (dnS n k d)
 |0,_,_,h,_=>h
 |n+1,k,d,h,hk=>r72 n (k-1) _ (h.swp hk (by omega)) (by rw[Sort.size_swp];omega)
theorem ds6(lt:Int→Int→Bool): ∀(n a m b:Nat) (d:Array Int),AllP P d→a<m→m<b→b≤d.size→AllP P (symM lt n a m b d)
 |0,_,_,_,_,h,_,_,_=>h
 |n+1,a,m,b,d,h,ham,hmb,hb=>by
  rw[symM]
  split
  ·have:=jy8 lt d d[a]! (b-m) m b (by omega) (Nat.le_refl _)
   exact ea7 _ _ _ h (by omega)
  ·split
   ·exact r72 _ _ _ h (by omega)
   ·simp only[]
    obtain⟨s,hs⟩: ∃s,s=bs3 lt d ((a+b)/2+m-1) ((if m>(a+b)/2 then(a+b)/2 else m)-if m>(a+b)/2 then(a+b)/2+m-b else a) (if m>(a+b)/2 then(a+b)/2+m-b else a) (if m>(a+b)/2 then(a+b)/2 else m):=⟨_,rfl⟩
    have hin:=se3 lt d ((a+b)/2+m-1) ((if m>(a+b)/2 then(a+b)/2 else m)-if m>(a+b)/2 then(a+b)/2+m-b else a) (if m>(a+b)/2 then(a+b)/2+m-b else a) (if m>(a+b)/2 then(a+b)/2 else m) (by split<;>omega) (Nat.le_refl _)
    rw[←hs]at hin⊢
    have hse:(a+b)/2+m-s≤b:=by split at hin<;>omega
    have h1:AllP P (if s<m∧m<(a+b)/2+m-s then rotC d s m ((a+b)/2+m-s)else d):=by
     split
     ·rename_i hc
      exact wf1 h hc.1 hc.2 (by omega)
     ·exact h
    have z1:(if s<m∧m<(a+b)/2+m-s then rotC d s m ((a+b)/2+m-s)else d).size=d.size:=by
     split
     ·exact p54 _ _ _ _
     ·rfl
    generalize (if s<m∧m<(a+b)/2+m-s then rotC d s m ((a+b)/2+m-s)else d)=d1 at*
    have h2:AllP P (if a<s∧s<(a+b)/2 then symM lt n a s ((a+b)/2) d1 else d1):=by
     split
     ·rename_i hc
      exact ds6 lt n _ _ _ _ h1 hc.1 hc.2 (by omega)
     ·exact h1
    have z2:(if a<s∧s<(a+b)/2 then symM lt n a s ((a+b)/2) d1 else d1).size=d1.size:=by
     split
     ·exact x49 lt n _ _ _ _
     ·rfl
    generalize (if a<s∧s<(a+b)/2 then symM lt n a s ((a+b)/2) d1 else d1)=d2 at*
    split
    ·rename_i hc
     exact ds6 lt n _ _ _ _ h2 hc.1 hc.2 (by omega)
    ·exact h2
theorem hm4{s:Nat}(h:s≤400000):IntKind.wrap .u64 (s:Int)=(s:Int)∧(s:Int).fdiv (2^min 1 (IntKind.bits .u64))=((s/2:Nat):Int):=by
 constructor
 ·unfold IntKind.wrap
  simp[IntKind.bits,IntKind.signed]
  omega
 ·rw[show(2:Int)^min 1 (IntKind.bits .u64)=2 by decide,Int.fdiv_eq_ediv_of_nonneg _ (by decide)];omega
theorem vi7(hM:vM f=[])(hc: ∀x y,P x→P y→o24 W f [.x (.int .i64 x), .x (.int .i64 y), .fz bb t] []=some (.x (.int .i64 (cmp x y)),[],[])){a:Nat}{d:Array Int}(hP:AllP P d)(ha:a<d.size)(hd:d.size≤100000): ∀(n i j:Nat),j-i≤n→j≤d.size→i≤100000→ ∀ks,
 vgoL W ⟨hNo,[],1⟩ [0,1,4,10,11] c190L0 (.blk 0 [0,1,10]::ks) [(0, .own 0 []),(1, .x (.int .i64 a)),(4, .fn f [.fz bb t]),(10, .x (.int .i64 i)),(11, .x (.int .i64 j))] [.sl nl 3 1 (ivs d.toList)]=
  vgo W ⟨hNo,[],1⟩ ks (VFr.of [(0, .own 0 []),(1, .x (.int .i64 a)),(10, .x (.int .i64 (bs1 (ltC cmp) d d[a]! n i j)))]) [.sl nl 3 1 (ivs d.toList)]
 |0,i,j,hn,hj,hi,ks=>by
  rw[bs1,sb5 c190L0.eq_def]
  simp(disch:=first|omega|fail) only[push_cast,seval,vrl,if_pos,if_neg]
 |n+1,i,j,hn,hj,hi,ks=>by
  rw[bs1]
  by_cases h:i<j
  ·obtain⟨s,hs⟩: ∃s,s=i+j:=⟨_,rfl⟩
   obtain⟨hh,hhh⟩: ∃hh,hh=s/2:=⟨_,rfl⟩
   obtain⟨u1,u2⟩:=hm4 (s:=s) (by omega)
   have e1:(i:Int)+(j:Int)=(s:Int):=by omega
   rw[←hhh]at u2
   have l1:=vz2 (d:=d) (i:=hh) (by omega)
   have l2:=vz2 (d:=d) (i:=a) ha
   have hlen:=wr6 d
   have w:=hc d[hh]! d[a]! (hP _ (by omega)) (hP _ ha)
   rw[if_pos h,←hs,←hhh]
   by_cases hl:cmp d[hh]! d[a]! <0
   ·have ih:=vi7 hM hc hP ha hd n (hh+1) j (by omega) hj (by omega) ks
    rw[Int.natCast_add hh,Int.natCast_one]at ih
    rw[if_pos (by simpa [ltC]using hl),←ih,sb5 c190L0.eq_def]
    generalize cmp d[hh]! d[a]! =z at*
    simp(disch:=first|omega|fail) only[push_cast,seval,vrl,if_pos,if_neg,e1,u1,u2,l1,l2,w,hlen,hM]
   ·have ih:=vi7 hM hc hP ha hd n i hh (by omega) (by omega) (by omega) ks
    rw[if_neg (by simpa [ltC]using hl),←ih,sb5 c190L0.eq_def]
    generalize cmp d[hh]! d[a]! =z at*
    simp(disch:=first|omega|fail) only[push_cast,seval,vrl,if_pos,if_neg,e1,u1,u2,l1,l2,w,hlen,hM]
  ·rw[if_neg h,sb5 c190L0.eq_def]
   simp(disch:=first|omega|fail) only[push_cast,seval,vrl,if_pos,if_neg]
theorem x81{a e:Nat}(he:1≤e): ∀(n k:Nat) (d:Array Int),k+n+1=e∨(n=0∧e≤k+1)→k+n<d.size→d.size≤100000→ ∀ks,
 vgoL W ⟨hNo,[],1⟩ [0,10,13] c190L1 (.blk 2 []::ks) [(0, .own 0 []),(10, .x (.int .i64 e)),(13, .x (.int .i64 k))] [.sl nl 3 1 (ivs d.toList)]=
  vgo W ⟨hNo,[],1⟩ ks (VFr.of []) [.sl nl 3 1 (ivs (upS n k d).toList)]
 |0,k,d,hn,hk,hd,ks=>by
  rw[upS,sb5 c190L1.eq_def]
  simp(disch:=first|omega|fail) only[push_cast,seval,vrl,if_pos,if_neg]
 |n+1,k,d,hn,hk,hd,ks=>by
  have hsz:=Sort.size_swp d k (k+1)
  have ih:=x81 (a:=a) he n (k+1) (Sort.swp d k (k+1)) (by omega) (by omega) (by omega) ks
  rw[←va8]at ih
  have l1:=vz2 (d:=d) (i:=k) (by omega)
  have l2:=vz2 (d:=d) (i:=k+1) (by omega)
  have hlen:=wr6 d
  have e1:(k:Int)+1=((k+1:Nat):Int):=by omega
  rw[upS,←ih,sb5 c190L1.eq_def]
  generalize hK:k+1=K at*
  simp(disch:=first|omega|fail) only[push_cast,seval,vrl,if_pos,if_neg,e1,l1,l2,hlen]
theorem bt1(hM:vM f=[])(hc: ∀x y,P x→P y→o24 W f [.x (.int .i64 x), .x (.int .i64 y), .fz bb t] []=some (.x (.int .i64 (cmp x y)),[],[])){m:Nat}{d:Array Int}(hP:AllP P d)(hm:m<d.size)(hd:d.size≤100000): ∀(n i j:Nat),j-i≤n→j≤d.size→i≤100000→ ∀ks,
 vgoL W ⟨hNo,[],1⟩ [0,2,4,14,15] c190L2 (.blk 4 [0,2,14]::ks) [(0, .own 0 []),(2, .x (.int .i64 m)),(4, .fn f [.fz bb t]),(14, .x (.int .i64 i)),(15, .x (.int .i64 j))] [.sl nl 3 1 (ivs d.toList)]=
  vgo W ⟨hNo,[],1⟩ ks (VFr.of [(0, .own 0 []),(2, .x (.int .i64 m)),(14, .x (.int .i64 (bs2 (ltC cmp) d d[m]! n i j)))]) [.sl nl 3 1 (ivs d.toList)]
 |0,i,j,hn,hj,hi,ks=>by
  rw[bs2,sb5 c190L2.eq_def]
  simp(disch:=first|omega|fail) only[push_cast,seval,vrl,if_pos,if_neg]
 |n+1,i,j,hn,hj,hi,ks=>by
  rw[bs2]
  by_cases h:i<j
  ·obtain⟨s,hs⟩: ∃s,s=i+j:=⟨_,rfl⟩
   obtain⟨hh,hhh⟩: ∃hh,hh=s/2:=⟨_,rfl⟩
   obtain⟨u1,u2⟩:=hm4 (s:=s) (by omega)
   have e1:(i:Int)+(j:Int)=(s:Int):=by omega
   rw[←hhh]at u2
   have l1:=vz2 (d:=d) (i:=hh) (by omega)
   have l2:=vz2 (d:=d) (i:=m) hm
   have hlen:=wr6 d
   have w:=hc d[m]! d[hh]! (hP _ hm) (hP _ (by omega))
   rw[if_pos h,←hs,←hhh]
   by_cases hl:cmp d[m]! d[hh]! <0
   ·have ih:=bt1 hM hc hP hm hd n i hh (by omega) (by omega) (by omega) ks
    rw[if_pos (by simpa [ltC]using hl),←ih,sb5 c190L2.eq_def]
    generalize cmp d[m]! d[hh]! =z at*
    simp(disch:=first|omega|fail) only[push_cast,seval,vrl,if_pos,if_neg,e1,u1,u2,l1,l2,w,hlen,hM]
   ·have ih:=bt1 hM hc hP hm hd n (hh+1) j (by omega) hj (by omega) ks
    rw[Int.natCast_add hh,Int.natCast_one]at ih
    rw[if_neg (by simpa [ltC]using hl),←ih,sb5 c190L2.eq_def]
    generalize cmp d[m]! d[hh]! =z at*
    simp(disch:=first|omega|fail) only[push_cast,seval,vrl,if_pos,if_neg,e1,u1,u2,l1,l2,w,hlen,hM]
  ·rw[if_neg h,sb5 c190L2.eq_def]
   simp(disch:=first|omega|fail) only[push_cast,seval,vrl,if_pos,if_neg]
theorem xd4{e:Nat}: ∀(n k:Nat) (d:Array Int),e+n=k→k<d.size→d.size≤100000→ ∀ks,
 vgoL W ⟨hNo,[],1⟩ [0,14,17] c190L3 (.blk 6 []::ks) [(0, .own 0 []),(14, .x (.int .i64 e)),(17, .x (.int .i64 k))] [.sl nl 3 1 (ivs d.toList)]=
  vgo W ⟨hNo,[],1⟩ ks (VFr.of []) [.sl nl 3 1 (ivs (dnS n k d).toList)]
 |0,k,d,hn,hk,hd,ks=>by
  rw[dnS,sb5 c190L3.eq_def]
  simp(disch:=first|omega|fail) only[push_cast,seval,vrl,if_pos,if_neg]
 |n+1,k,d,hn,hk,hd,ks=>by
  have hsz:=Sort.size_swp d k (k-1)
  have ih:=xd4 (e:=e) n (k-1) (Sort.swp d k (k-1)) (by omega) (by omega) (by omega) ks
  rw[←va8]at ih
  have l1:=vz2 (d:=d) (i:=k) (by omega)
  have l2:=vz2 (d:=d) (i:=k-1) (by omega)
  have hlen:=wr6 d
  have e1:(k:Int)-1=((k-1:Nat):Int):=by omega
  rw[dnS,←ih,sb5 c190L3.eq_def]
  generalize hK:k-1=K at*
  simp(disch:=first|omega|fail) only[push_cast,seval,vrl,if_pos,if_neg,e1,l1,l2,hlen]
theorem gw4(hM:vM f=[])(hc: ∀x y,P x→P y→o24 W f [.x (.int .i64 x), .x (.int .i64 y), .fz bb t] []=some (.x (.int .i64 (cmp x y)),[],[])){a m b mid z19 p:Nat}{d:Array Int}(hP:AllP P d)(hd:d.size≤100000)(hp:p≤200000): ∀(n i j:Nat),j-i≤n→j≤d.size→j≤p+1→p<i+d.size→i≤100000→ ∀ks,
 vgoL W ⟨hNo,[],1⟩ [0,1,2,3,4,18,19,20,21,22] c190L4 (.blk 8 [0,1,2,3,4,18,19,20]::ks) [(0, .own 0 []),(1, .x (.int .i64 a)),(2, .x (.int .i64 m)),(3, .x (.int .i64 b)),(4, .fn f [.fz bb t]),(18, .x (.int .i64 mid)),(19, .x (.int .i64 z19)),(20, .x (.int .i64 i)),(21, .x (.int .i64 j)),(22, .x (.int .i64 p))] [.sl nl 3 1 (ivs d.toList)]=
  vgo W ⟨hNo,[],1⟩ ks (VFr.of [(0, .own 0 []),(1, .x (.int .i64 a)),(2, .x (.int .i64 m)),(3, .x (.int .i64 b)),(4, .fn f [.fz bb t]),(18, .x (.int .i64 mid)),(19, .x (.int .i64 z19)),(20, .x (.int .i64 (bs3 (ltC cmp) d p n i j)))]) [.sl nl 3 1 (ivs d.toList)]
 |0,i,j,hn,hj,hjp,hpi,hi,ks=>by
  rw[bs3,sb5 c190L4.eq_def]
  simp(disch:=first|omega|fail) only[push_cast,seval,vrl,if_pos,if_neg]
 |n+1,i,j,hn,hj,hjp,hpi,hi,ks=>by
  rw[bs3]
  by_cases h:i<j
  ·obtain⟨s,hs⟩: ∃s,s=i+j:=⟨_,rfl⟩
   obtain⟨hh,hhh⟩: ∃hh,hh=s/2:=⟨_,rfl⟩
   obtain⟨q,hq⟩: ∃q,q=p-hh:=⟨_,rfl⟩
   obtain⟨u1,u2⟩:=hm4 (s:=s) (by omega)
   have e1:(i:Int)+(j:Int)=(s:Int):=by omega
   have e2:(p:Int)-(hh:Int)=(q:Int):=by omega
   rw[←hhh]at u2
   have l1:=vz2 (d:=d) (i:=hh) (by omega)
   have l2:=vz2 (d:=d) (i:=q) (by omega)
   have hlen:=wr6 d
   have w:=hc d[q]! d[hh]! (hP _ (by omega)) (hP _ (by omega))
   rw[if_pos h,←hs,←hhh,←hq]
   by_cases hl:cmp d[q]! d[hh]! <0
   ·have ih:=gw4 hM hc (a:=a) (m:=m) (b:=b) (mid:=mid) (z19:=z19) (p:=p) hP hd hp n i hh (by omega) (by omega) (by omega) (by omega) (by omega) ks
    rw[if_pos (by simpa [ltC]using hl),←ih,sb5 c190L4.eq_def]
    generalize cmp d[q]! d[hh]! =z at*
    simp(disch:=first|omega|fail) only[push_cast,seval,vrl,if_pos,if_neg,e1,e2,u1,u2,l1,l2,w,hlen,hM]
   ·have ih:=gw4 hM hc (a:=a) (m:=m) (b:=b) (mid:=mid) (z19:=z19) (p:=p) hP hd hp n (hh+1) j (by omega) hj hjp (by omega) (by omega) ks
    rw[Int.natCast_add hh,Int.natCast_one]at ih
    rw[if_neg (by simpa [ltC]using hl),←ih,sb5 c190L4.eq_def]
    generalize cmp d[q]! d[hh]! =z at*
    simp(disch:=first|omega|fail) only[push_cast,seval,vrl,if_pos,if_neg,e1,e2,u1,u2,l1,l2,w,hlen,hM]
  ·rw[if_neg h,sb5 c190L4.eq_def]
   simp(disch:=first|omega|fail) only[push_cast,seval,vrl,if_pos,if_neg]
end
set_option maxHeartbeats 4000000
section
variable {nl:Nat} {f:FuncId} {bb:Bool} {t:Tree} {cmp:Int→Int→Int} {P:Int→Prop}
def kk6(nl:Nat)(f:FuncId)(bb:Bool)(t:Tree)(cmp:Int→Int→Int)(P:Int→Prop)(n:Nat):Prop:= ∀(a m b:Nat) (d:Array Int),a<m→m<b→b≤d.size→d.size≤100000→b-a≤n→AllP P d→
 o24 W 190 [.own 0 [], .x (.int .i64 a), .x (.int .i64 m), .x (.int .i64 b), .fn f [.fz bb t]] [.sl nl 3 1 (ivs d.toList)]=some (.tup [],[],[.sl nl 3 1 (ivs (symM (ltC cmp) n a m b d).toList)])
structure SmF (f:FuncId) (bb:Bool) (t:Tree) (fr:VFr) (a m b mid s e:Nat):Prop where
 f0:fr 0=some (.own 0 [])
 f1:fr 1=some (.x (.int .i64 a))
 f2:fr 2=some (.x (.int .i64 m))
 f3:fr 3=some (.x (.int .i64 b))
 f4:fr 4=some (.fn f [.fz bb t])
 f18:fr 18=some (.x (.int .i64 mid))
 f20:fr 20=some (.x (.int .i64 s))
 f24:fr 24=some (.x (.int .i64 e))
theorem ah4{n a m b mid s e:Nat}{d:Array Int}(IH:kk6 nl f bb t cmp P n)(hP:AllP P d)(hd:d.size≤100000)(hb:b≤d.size)(hn:b-mid≤n){fr:VFr}(hF:SmF f bb t fr a m b mid s e):
 vgo W ⟨hNo,[],1⟩ [.code (seqR 11 c190)] fr [.sl nl 3 1 (ivs d.toList)]=some (.tup [],[],[.sl nl 3 1 (ivs (if mid<e∧e<b then symM (ltC cmp) n mid e b d else d).toList)]):=by
 obtain⟨f0,f1,f2,f3,f4,f18,f20,f24⟩:=hF
 rw[c190.eq_def]
 simp only[seqR]
 by_cases h1:mid<e
 ·by_cases h2:e<b
  ·have r:=IH mid e b d h1 h2 hb hd hn hP
   rw[if_pos ⟨h1,h2⟩]
   simp(disch:=first|omega|fail) only[push_cast,seval,vrl,if_pos,if_neg,f0,f1,f2,f3,f4,f18,f20,f24,r]
  ·rw[if_neg fun h=>h2 h.2]
   simp(disch:=first|omega|fail) only[push_cast,seval,vrl,if_pos,if_neg,f0,f1,f2,f3,f4,f18,f20,f24]
 ·rw[if_neg fun h=>h1 h.1]
  simp(disch:=first|omega|fail) only[push_cast,seval,vrl,if_pos,if_neg,f0,f1,f2,f3,f4,f18,f20,f24]
theorem nr0{n a m b mid s e:Nat}{d:Array Int}(IH:kk6 nl f bb t cmp P n)(hP:AllP P d)(hd:d.size≤100000)(hb:b≤d.size)(hmb:mid≤b)(hn:b-mid≤n)(hn2:mid-a≤n){fr:VFr}(hF:SmF f bb t fr a m b mid s e):
 vgo W ⟨hNo,[],1⟩ [.code (seqR 10 c190)] fr [.sl nl 3 1 (ivs d.toList)]=some (.tup [],[],[.sl nl 3 1 (ivs (if mid<e∧e<b then symM (ltC cmp) n mid e b (if a<s∧s<mid then symM (ltC cmp) n a s mid d else d)else(if a<s∧s<mid then symM (ltC cmp) n a s mid d else d)).toList)]):=by
 have hz:(if a<s∧s<mid then symM (ltC cmp) n a s mid d else d).size=d.size:=by
  split
  ·exact x49 _ _ _ _ _ _
  ·rfl
 have hPz:AllP P (if a<s∧s<mid then symM (ltC cmp) n a s mid d else d):=by
  split
  ·rename_i hc;exact ds6 _ _ _ _ _ _ hP hc.1 hc.2 (by omega)
  ·exact hP
 have key:=fun fr (hF:SmF f bb t fr a m b mid s e)=>ah4 (nl:=nl) IH hPz (by omega) (by omega) hn hF
 obtain⟨f0,f1,f2,f3,f4,f18,f20,f24⟩:=hF
 obtain⟨rest,hrest⟩: ∃rest,rest=seqR 11 c190:=⟨_,rfl⟩
 obtain⟨q,hq⟩: ∃q,q=seqR 10 c190:=⟨_,rfl⟩
 rw[←hrest]at key
 rw[←hq]
 rw[c190.eq_def]at hrest hq
 simp only[seqR]at hrest hq
 rw[←hrest]at hq
 rw[hq]
 by_cases h1:a<s
 ·by_cases h2:s<mid
  ·have r:=IH a s mid d h1 h2 (by omega) hd hn2 hP
   simp only[if_pos (show a<s∧s<mid from⟨h1,h2⟩)]at key⊢
   simp(disch:=first|omega|fail) only[push_cast,seval,vrl,if_pos,if_neg,f0,f1,f2,f3,f4,f18,f20,f24,r]
   refine key _ ⟨?_, ?_, ?_, ?_, ?_, ?_, ?_, ?_⟩<;>simp(disch:=first|omega|fail) only[push_cast,seval,vrl,if_pos,if_neg,f0,f1,f2,f3,f4,f18,f20,f24]
  ·simp only[if_neg (show¬(a<s∧s<mid)from fun h=>h2 h.2)]at key⊢
   simp(disch:=first|omega|fail) only[push_cast,seval,vrl,if_pos,if_neg,f0,f1,f2,f3,f4,f18,f20,f24]
   refine key _ ⟨?_, ?_, ?_, ?_, ?_, ?_, ?_, ?_⟩<;>simp(disch:=first|omega|fail) only[push_cast,seval,vrl,if_pos,if_neg,f0,f1,f2,f3,f4,f18,f20,f24]
 ·simp only[if_neg (show¬(a<s∧s<mid)from fun h=>h1 h.1)]at key⊢
  simp(disch:=first|omega|fail) only[push_cast,seval,vrl,if_pos,if_neg,f0,f1,f2,f3,f4,f18,f20,f24]
  refine key _ ⟨?_, ?_, ?_, ?_, ?_, ?_, ?_, ?_⟩<;>simp(disch:=first|omega|fail) only[push_cast,seval,vrl,if_pos,if_neg,f0,f1,f2,f3,f4,f18,f20,f24]
def y44(lt:Int→Int→Bool)(n a m b mid s e:Nat)(d:Array Int):Array Int:=
 if mid<e∧e<b then symM lt n mid e b (if a<s∧s<mid then symM lt n a s mid (if s<m∧m<e then rotC d s m e else d)else(if s<m∧m<e then rotC d s m e else d))else(if a<s∧s<mid then symM lt n a s mid (if s<m∧m<e then rotC d s m e else d)else(if s<m∧m<e then rotC d s m e else d))
theorem tz8{n a m b mid nn s e:Nat}{d:Array Int}(IH:kk6 nl f bb t cmp P n)(hP:AllP P d)(hd:d.size≤100000)(hb:b≤d.size)(hmb:mid≤b)(hn:b-mid≤n)(hn2:mid-a≤n)(he:e=nn-s)(hs:s≤nn)(heb:e≤b)(hnn:nn≤300000):
 vgo W ⟨hNo,[],1⟩ [.code (seqR 8 c190)] (VFr.of [(0, .own 0 []),(1, .x (.int .i64 a)),(2, .x (.int .i64 m)),(3, .x (.int .i64 b)),(4, .fn f [.fz bb t]),(18, .x (.int .i64 mid)),(19, .x (.int .i64 nn)),(20, .x (.int .i64 s))]) [.sl nl 3 1 (ivs d.toList)]=
  some (.tup [],[],[.sl nl 3 1 (ivs (y44 (ltC cmp) n a m b mid s e d).toList)]):=by
 have e0:(nn:Int)-(s:Int)=(e:Int):=by omega
 unfold y44
 have hz:(if s<m∧m<e then rotC d s m e else d).size=d.size:=by
  split
  ·exact p54 _ _ _ _
  ·rfl
 have hPz:AllP P (if s<m∧m<e then rotC d s m e else d):=by
  split
  ·rename_i hc;exact wf1 hP hc.1 hc.2 (by omega)
  ·exact hP
 have key:=fun fr (hF:SmF f bb t fr a m b mid s e)=>nr0 (nl:=nl) IH hPz (by omega) (by omega) hmb hn hn2 hF
 obtain⟨rest,hrest⟩: ∃rest,rest=seqR 10 c190:=⟨_,rfl⟩
 obtain⟨q,hq⟩: ∃q,q=seqR 8 c190:=⟨_,rfl⟩
 rw[←hrest]at key
 rw[←hq]
 rw[c190.eq_def]at hrest hq
 simp only[seqR]at hrest hq
 rw[←hrest]at hq
 rw[hq]
 by_cases h1:s<m
 ·by_cases h2:m<e
  ·have r:=fb3 (nl:=nl) (f:=f) (bb:=bb) (t:=t) (d:=d) h1 h2 (by omega) hd
   simp only[if_pos (show s<m∧m<e from⟨h1,h2⟩)]at key⊢
   simp(disch:=first|omega|fail) only[push_cast,seval,vrl,if_pos,if_neg,e0,r]
   refine key _ ⟨?_, ?_, ?_, ?_, ?_, ?_, ?_, ?_⟩<;>simp(disch:=first|omega|fail) only[push_cast,seval,vrl,if_pos,if_neg]
  ·simp only[if_neg (show¬(s<m∧m<e)from fun h=>h2 h.2)]at key⊢
   simp(disch:=first|omega|fail) only[push_cast,seval,vrl,if_pos,if_neg,e0]
   refine key _ ⟨?_, ?_, ?_, ?_, ?_, ?_, ?_, ?_⟩<;>simp(disch:=first|omega|fail) only[push_cast,seval,vrl,if_pos,if_neg]
 ·simp only[if_neg (show¬(s<m∧m<e)from fun h=>h1 h.1)]at key⊢
  simp(disch:=first|omega|fail) only[push_cast,seval,vrl,if_pos,if_neg,e0]
  refine key _ ⟨?_, ?_, ?_, ?_, ?_, ?_, ?_, ?_⟩<;>simp(disch:=first|omega|fail) only[push_cast,seval,vrl,if_pos,if_neg]
theorem sa7(hM:vM f=[])(hc: ∀x y,P x→P y→o24 W f [.x (.int .i64 x), .x (.int .i64 y), .fz bb t] []=some (.x (.int .i64 (cmp x y)),[],[])): ∀n,kk6 nl f bb t cmp P n
 |0=>fun a m b d h1 h2 h3 h4 h5 hP=>by omega
 |n+1=>fun a m b d ham hmb hb hd hn hP=>by
  have IH:=sa7 hM hc n
  by_cases h1:m-a=1
  ·have hm1:(m:Int)-(a:Int)=1:=by omega
   have e1:=fun ks=>vi7 (nl:=nl) hM hc hP (a:=a) (by omega) hd (b-m) m b (Nat.le_refl _) hb (by omega) ks
   have hin:=jy8 (ltC cmp) d d[a]! (b-m) m b (by omega) (Nat.le_refl _)
   rw[symM,if_pos h1]
   generalize bs1 (ltC cmp) d d[a]! (b-m) m b=i at*
   have e2:=fun ks=>x81 (nl:=nl) (a:=a) (e:=i) (by omega) (i-1-a) a d (by omega) (by omega) hd ks
   rw[o08 rfl T190 rfl]
   unfold F190 c190
   simp(disch:=first|omega|fail) only[push_cast,seval,vrl,if_pos,if_neg,hm1]
   rw[e1]
   simp(disch:=first|omega|fail) only[push_cast,seval,vrl,if_pos,if_neg]
   rw[e2]
   simp(disch:=first|omega|fail) only[push_cast,seval,vrl,if_pos,if_neg]
  ·have hm1: ¬(m:Int)-(a:Int)=1:=by omega
   by_cases h2:b-m=1
   ·have hm2:(b:Int)-(m:Int)=1:=by omega
    have e1:=fun ks=>bt1 (nl:=nl) hM hc hP (m:=m) (by omega) hd (m-a) a m (Nat.le_refl _) (by omega) (by omega) ks
    have hin:=wr4 (ltC cmp) d d[m]! (m-a) a m (by omega) (Nat.le_refl _)
    rw[symM,if_neg h1,if_pos h2]
    generalize bs2 (ltC cmp) d d[m]! (m-a) a m=i at*
    have e2:=fun ks=>xd4 (nl:=nl) (e:=i) (m-i) m d (by omega) (by omega) hd ks
    rw[o08 rfl T190 rfl]
    unfold F190 c190
    simp(disch:=first|omega|fail) only[push_cast,seval,vrl,if_pos,if_neg,nb8 hm1,hm2]
    rw[e1]
    simp(disch:=first|omega|fail) only[push_cast,seval,vrl,if_pos,if_neg]
    rw[e2]
    simp(disch:=first|omega|fail) only[push_cast,seval,vrl,if_pos,if_neg]
   ·have hm2: ¬(b:Int)-(m:Int)=1:=by omega
    rw[symM,if_neg h1,if_neg h2]
    simp only[]
    obtain⟨mid,hmid⟩: ∃mid,mid=(a+b)/2:=⟨_,rfl⟩
    obtain⟨s0,hs0⟩: ∃s0,s0=if m>mid then mid+m-b else a:=⟨_,rfl⟩
    obtain⟨r0,hr0⟩: ∃r0,r0=if m>mid then mid else m:=⟨_,rfl⟩
    obtain⟨nn,hnn⟩: ∃nn,nn=mid+m:=⟨_,rfl⟩
    obtain⟨p,hp⟩: ∃p,p=nn-1:=⟨_,rfl⟩
    rw[←hmid,←hnn,←hp]
    rw[←hnn]at hs0
    rw[←hs0,←hr0]
    have hsr:s0≤r0∧r0≤mid∧r0≤p+1∧p<s0+d.size∧a≤s0∧nn-s0≤b∧r0≤nn:=by
     rw[hs0,hr0]
     split<;>omega
    have e1:=fun ks=>gw4 (nl:=nl) hM hc (a:=a) (m:=m) (b:=b) (mid:=mid) (z19:=nn) (p:=p) hP hd (by omega) (r0-s0) s0 r0 (Nat.le_refl _) (by omega) hsr.2.2.1 hsr.2.2.2.1 (by omega) ks
    have hin:=se3 (ltC cmp) d p (r0-s0) s0 r0 hsr.1 (Nat.le_refl _)
    generalize bs3 (ltC cmp) d p (r0-s0) s0 r0=s at*
    have key:=tz8 (nl:=nl) (m:=m) (s:=s) (e:=nn-s) IH hP hd hb (mid:=mid) (nn:=nn) (a:=a) (by omega) (by omega) (by omega) rfl (by omega) (by omega) (by omega)
    unfold y44 at key
    obtain⟨sab,hsab⟩: ∃sab,sab=a+b:=⟨_,rfl⟩
    obtain⟨u1,u2⟩:=hm4 (s:=sab) (by omega)
    have q1:(a:Int)+(b:Int)=(sab:Int):=by omega
    have q2:(mid:Int)+(m:Int)=(nn:Int):=by omega
    have q3:(nn:Int)-1=(p:Int):=by omega
    rw[show sab/2=mid by omega]at u2
    obtain⟨rest,hrest⟩: ∃rest,rest=seqR 8 c190:=⟨_,rfl⟩
    rw[←hrest]at key
    rw[←key,o08 rfl T190 rfl]
    unfold F190
    obtain⟨q,hq⟩: ∃q,q=c190:=⟨_,rfl⟩
    rw[←hq]
    rw[c190.eq_def]at hrest hq
    simp only[seqR]at hrest
    rw[←hrest]at hq
    rw[hq]
    by_cases hmm:m>mid
    ·rw[if_pos hmm]at hs0 hr0
     have q4:(nn:Int)-(b:Int)=(s0:Int):=by omega
     rw[hr0]at e1
     simp(disch:=first|omega|fail) only[push_cast,seval,vrl,if_pos,if_neg,nb8 hm1,nb8 hm2,q1,u1,u2,q2,q3,q4]
     rw[e1]
    ·rw[if_neg hmm]at hs0 hr0
     rw[hs0,hr0]at e1
     simp(disch:=first|omega|fail) only[push_cast,seval,vrl,if_pos,if_neg,nb8 hm1,nb8 hm2,q1,u1,u2,q2,q3]
     rw[e1]
end
set_option maxHeartbeats 4000000
section
variable (lt:Int→Int→Bool)
def stI(n:Nat):Nat→Nat→Array Int→Nat×Array Int
 |0,a,d=>(a,d)
 |k+1,a,d=>if a+20≤n then stI n k (a+20) (Sort.insertionSort lt d a (a+20))else(a,d)
def stM(N n bs:Nat):Nat→Nat→Array Int→Nat×Array Int
 |0,a,d=>(a,d)
 |k+1,a,d=>if a+2*bs≤n then stM N n bs k (a+2*bs) (symM lt N a (a+bs) (a+2*bs) d)else(a,d)
def stT(N n bs:Nat)(r:Nat×Array Int):Array Int:=if r.1+bs<n then symM lt N r.1 (r.1+bs) n r.2 else r.2
def stO(N n:Nat):Nat→Nat→Array Int→Array Int
 |0,_,d=>d
 |k+1,bs,d=>if bs<n then stO N n k (bs*2) (stT lt N n bs (stM lt N n bs n 0 d))else d
def mr1(d:Array Int):Array Int:=
 let r:=stI lt d.size d.size 0 d
 stO lt d.size d.size d.size 20 (Sort.insertionSort lt r.2 r.1 d.size)
end
theorem cx4{α:Type} [Inhabited α](lt:α→α→Bool)(d:Array α)(a b:Nat):(Sort.insertionSort lt d a b).size=d.size:=by
 unfold Sort.insertionSort
 exact h93 (b-(a+1)) (a+1) d (Nat.le_refl _)
section
variable {nl:Nat} {f:FuncId} {bb:Bool} {t:Tree} {cmp:Int→Int→Int} {P:Int→Prop} {lt:Int→Int→Bool}
theorem v09{d:Array Int}{a b:Nat}(h:AllP P d)(hb:b≤d.size):AllP P (Sort.insertionSort lt d a b):=by
 unfold Sort.insertionSort
 exact gz5 (b-(a+1)) (a+1) d (Nat.le_refl _) h hb
theorem df6{n:Nat}: ∀(k a:Nat) (d:Array Int),AllP P d→n≤d.size→a≤n→AllP P (stI lt n k a d).2∧(stI lt n k a d).2.size=d.size∧a≤(stI lt n k a d).1∧(stI lt n k a d).1≤n
 |0,a,d,h,hn,ha=>⟨h,rfl,Nat.le_refl _,ha⟩
 |k+1,a,d,h,hn,ha=>by
  rw[stI]
  split
  ·rename_i hc
   obtain⟨h1,h2,h3,h4⟩:=df6 k (a+20) (Sort.insertionSort lt d a (a+20)) (v09 h (by omega)) (by rw[cx4];exact hn) hc
   exact⟨h1,by rw[h2,cx4],by omega,h4⟩
  ·exact⟨h,rfl,Nat.le_refl _,ha⟩
theorem ce0{N n bs:Nat}(h1:1≤bs): ∀(k a:Nat) (d:Array Int),AllP P d→n≤d.size→a≤n→AllP P (stM lt N n bs k a d).2∧(stM lt N n bs k a d).2.size=d.size∧(stM lt N n bs k a d).1≤n
 |0,a,d,h,hn,ha=>⟨h,rfl,ha⟩
 |k+1,a,d,h,hn,ha=>by
  rw[stM]
  split
  ·rename_i hc
   obtain⟨a1,a2,a3⟩:=ce0 h1 k (a+2*bs) (symM lt N a (a+bs) (a+2*bs) d) (ds6 lt N _ _ _ _ h (by omega) (by omega) (by omega)) (by rw[x49];exact hn) hc
   exact⟨a1,by rw[a2,x49],a3⟩
  ·exact⟨h,rfl,ha⟩
theorem nw1{N n bs:Nat}(h1:1≤bs){r:Nat×Array Int}(h:AllP P r.2)(hn:n≤r.2.size):AllP P (stT lt N n bs r)∧(stT lt N n bs r).size=r.2.size:=by
 unfold stT
 split
 ·exact⟨ds6 lt N _ _ _ _ h (by omega) (by omega) hn,x49 _ _ _ _ _ _⟩
 ·exact⟨h,rfl⟩
theorem yn5(hM:vM f=[])(hc: ∀x y,P x→P y→o24 W f [.x (.int .i64 x), .x (.int .i64 y), .fz bb t] []=some (.x (.int .i64 (cmp x y)),[],[])){n:Nat}: ∀(k a:Nat) (d:Array Int),n-a≤k→AllP P d→n≤d.size→a≤n→d.size≤60000→ ∀ks,
 vgoL W ⟨hNo,[],1⟩ [0,1,2,6,7,8] c145L0 (.blk 0 [0,1,2,6,7]::ks) [(0, .own 0 []),(1, .x (.int .i64 n)),(2, .fn f [.fz bb t]),(6, .x (.int .i64 20)),(7, .x (.int .i64 a)),(8, .x (.int .i64 (a+20:Nat)))] [.sl nl 3 1 (ivs d.toList)]=
  vgo W ⟨hNo,[],1⟩ ks (VFr.of [(0, .own 0 []),(1, .x (.int .i64 n)),(2, .fn f [.fz bb t]),(6, .x (.int .i64 20)),(7, .x (.int .i64 ((stI (ltC cmp) n k a d).1)))]) [.sl nl 3 1 (ivs (stI (ltC cmp) n k a d).2.toList)]
 |0,a,d,hk,hP,hn,ha,hd,ks=>by
  rw[stI,sb5 c145L0.eq_def]
  simp(disch:=first|omega|fail) only[push_cast,seval,vrl,if_pos,if_neg]
 |k+1,a,d,hk,hP,hn,ha,hd,ks=>by
  rw[stI]
  by_cases h:a+20≤n
  ·have e1:=sd9 (nl:=nl) hM hc (a:=a) (b:=a+20) (d:=d) hP (by omega) (by omega) (by omega)
   have hsz:=cx4 (ltC cmp) d a (a+20)
   have ih:=yn5 hM hc (n:=n) k (a+20) (Sort.insertionSort (ltC cmp) d a (a+20)) (by omega) (v09 hP (by omega)) (by omega) h (by omega) ks
   rw[if_pos h,←ih,sb5 c145L0.eq_def]
   generalize hA:a+20=A at*
   have e2:(A:Int)+20=((A+20:Nat):Int):=by omega
   generalize A+20=B at*
   simp(disch:=first|omega|fail) only[push_cast,seval,vrl,if_pos,if_neg,e1,e2]
  ·rw[if_neg h,sb5 c145L0.eq_def]
   generalize hA:a+20=A at*
   simp(disch:=first|omega|fail) only[push_cast,seval,vrl,if_pos,if_neg]
theorem dn5(hM:vM f=[])(hc: ∀x y,P x→P y→o24 W f [.x (.int .i64 x), .x (.int .i64 y), .fz bb t] []=some (.x (.int .i64 (cmp x y)),[],[])){N n bs:Nat}(h1:1≤bs)(hbs:bs≤60000)(hN:n≤N): ∀(k a:Nat) (d:Array Int),n-a≤k→AllP P d→n≤d.size→a≤n→d.size≤60000→ ∀ks,
 vgoL W ⟨hNo,[],1⟩ [0,1,2,6,7,8] c145L1 (.blk 4 [0,1,2,6,7]::ks) [(0, .own 0 []),(1, .x (.int .i64 n)),(2, .fn f [.fz bb t]),(6, .x (.int .i64 bs)),(7, .x (.int .i64 a)),(8, .x (.int .i64 (a+2*bs:Nat)))] [.sl nl 3 1 (ivs d.toList)]=
  vgo W ⟨hNo,[],1⟩ ks (VFr.of [(0, .own 0 []),(1, .x (.int .i64 n)),(2, .fn f [.fz bb t]),(6, .x (.int .i64 bs)),(7, .x (.int .i64 ((stM (ltC cmp) N n bs k a d).1)))]) [.sl nl 3 1 (ivs (stM (ltC cmp) N n bs k a d).2.toList)]
 |0,a,d,hk,hP,hn,ha,hd,ks=>by
  rw[stM,sb5 c145L1.eq_def]
  generalize hA:a+2*bs=A at*
  simp(disch:=first|omega|fail) only[push_cast,seval,vrl,if_pos,if_neg]
 |k+1,a,d,hk,hP,hn,ha,hd,ks=>by
  rw[stM]
  by_cases h:a+2*bs≤n
  ·have e1:=sa7 (nl:=nl) hM hc N a (a+bs) (a+2*bs) d (by omega) (by omega) (by omega) (by omega) (by omega) hP
   have hsz:=x49 (ltC cmp) N a (a+bs) (a+2*bs) d
   have ih:=dn5 hM hc (N:=N) (n:=n) h1 hbs hN k (a+2*bs) (symM (ltC cmp) N a (a+bs) (a+2*bs) d) (by omega) (ds6 _ N _ _ _ _ hP (by omega) (by omega) (by omega)) (by omega) h (by omega) ks
   rw[if_pos h,←ih,sb5 c145L1.eq_def]
   generalize hA:a+2*bs=A at*
   generalize hM':a+bs=M at*
   obtain⟨B2,hB2⟩: ∃B2,B2=2*bs:=⟨_,rfl⟩
   have e2:2*(bs:Int)=(B2:Int):=by omega
   have e3:(A:Int)+(B2:Int)=((A+2*bs:Nat):Int):=by omega
   have e4:(a:Int)+(bs:Int)=(M:Int):=by omega
   generalize A+2*bs=B at*
   simp(disch:=first|omega|fail) only[push_cast,seval,vrl,if_pos,if_neg,e1,e2,e3,e4]
  ·rw[if_neg h,sb5 c145L1.eq_def]
   generalize hA:a+2*bs=A at*
   simp(disch:=first|omega|fail) only[push_cast,seval,vrl,if_pos,if_neg]
theorem k31(hM:vM f=[])(hc: ∀x y,P x→P y→o24 W f [.x (.int .i64 x), .x (.int .i64 y), .fz bb t] []=some (.x (.int .i64 (cmp x y)),[],[])){N n:Nat}(hN:n≤N): ∀(k bs:Nat) (d:Array Int),1≤bs→n≤bs+k→bs≤120000→AllP P d→n≤d.size→d.size≤60000→ ∀ks,
 vgoL W ⟨hNo,[],1⟩ [0,1,2,6] c145L2 (.blk 2 []::ks) [(0, .own 0 []),(1, .x (.int .i64 n)),(2, .fn f [.fz bb t]),(6, .x (.int .i64 bs))] [.sl nl 3 1 (ivs d.toList)]=
  vgo W ⟨hNo,[],1⟩ ks (VFr.of []) [.sl nl 3 1 (ivs (stO (ltC cmp) N n k bs d).toList)]
 |0,bs,d,h1,hk,hb,hP,hn,hd,ks=>by
  rw[stO,sb5 c145L2.eq_def]
  simp(disch:=first|omega|fail) only[push_cast,seval,vrl,if_pos,if_neg]
 |k+1,bs,d,h1,hk,hb,hP,hn,hd,ks=>by
  rw[stO]
  by_cases h:bs<n
  ·have e1:=fun ks=>dn5 (nl:=nl) hM hc (N:=N) (n:=n) (bs:=bs) h1 (by omega) hN n 0 d (by omega) hP hn (by omega) hd ks
   obtain⟨o1,o2,o3⟩:=ce0 (lt:=ltC cmp) (N:=N) (n:=n) h1 n 0 d hP hn (by omega)
   generalize stM (ltC cmp) N n bs n 0 d=r at*
   obtain⟨q1,q2⟩:=nw1 (lt:=ltC cmp) (N:=N) (n:=n) h1 o1 (by omega)
   have ih:=k31 hM hc (N:=N) (n:=n) hN k (bs*2) (stT (ltC cmp) N n bs r) (by omega) (by omega) (by omega) q1 (by omega) (by omega) ks
   rw[if_pos h,←ih,sb5 c145L2.eq_def]
   obtain⟨B2,hB2⟩: ∃B2,B2=0+2*bs:=⟨_,rfl⟩
   obtain⟨B3,hB3⟩: ∃B3,B3=bs*2:=⟨_,rfl⟩
   obtain⟨M,hM'⟩: ∃M,M=r.1+bs:=⟨_,rfl⟩
   rw[Int.natCast_zero,←hB2]at e1
   rw[←hB3]
   have e2:2*(bs:Int)=(B2:Int):=by omega
   have e3:(bs:Int)*2=(B3:Int):=by omega
   have e4:(r.1:Int)+(bs:Int)=(M:Int):=by omega
   unfold stT
   rw[←hM']
   by_cases hm:M<n
   ·have e5:=sa7 (nl:=nl) hM hc N r.1 M n r.2 (by omega) hm (by omega) (by omega) (by omega) o1
    rw[if_pos hm]
    simp(disch:=first|omega|fail) only[push_cast,seval,vrl,if_pos,if_neg,e2]
    rw[e1]
    simp(disch:=first|omega|fail) only[push_cast,seval,vrl,if_pos,if_neg,e3,e4,e5]
   ·rw[if_neg hm]
    simp(disch:=first|omega|fail) only[push_cast,seval,vrl,if_pos,if_neg,e2]
    rw[e1]
    simp(disch:=first|omega|fail) only[push_cast,seval,vrl,if_pos,if_neg,e3,e4]
  ·rw[if_neg h,sb5 c145L2.eq_def]
   simp(disch:=first|omega|fail) only[push_cast,seval,vrl,if_pos,if_neg]
theorem uw2(hM:vM f=[])(hc: ∀x y,P x→P y→o24 W f [.x (.int .i64 x), .x (.int .i64 y), .fz bb t] []=some (.x (.int .i64 (cmp x y)),[],[])){d:Array Int}(hP:AllP P d)(hd:d.size≤60000):
 o24 W 104 [.own 0 [], .fn f [.fz bb t]] [.sl nl 3 1 (ivs d.toList)]=some (.tup [],[],[.sl nl 3 1 (ivs (mr1 (ltC cmp) d).toList)]):=by
 have e1:=fun ks=>yn5 (nl:=nl) hM hc (n:=d.size) d.size 0 d (by omega) hP (Nat.le_refl _) (by omega) hd ks
 obtain⟨o1,o2,o3,o4⟩:=df6 (lt:=ltC cmp) (n:=d.size) d.size 0 d hP (Nat.le_refl _) (by omega)
 unfold mr1
 simp only[]
 generalize stI (ltC cmp) d.size d.size 0 d=r at*
 have e2:=sd9 (nl:=nl) hM hc (a:=r.1) (b:=d.size) (d:=r.2) o1 (by omega) (by omega) (by omega)
 have hsz:=cx4 (ltC cmp) r.2 r.1 d.size
 have e3:=fun ks=>k31 (nl:=nl) hM hc (N:=d.size) (n:=d.size) (Nat.le_refl _) d.size 20 (Sort.insertionSort (ltC cmp) r.2 r.1 d.size) (by omega) (by omega) (by omega) (v09 o1 (by omega)) (by omega) (by omega) ks
 have hlen:=wr6 d
 simp only[Int.natCast_zero,show((0+20:Nat):Int)=20 from rfl,show((20:Nat):Int)=20 from rfl]at e1 e3
 have e4:o24 W 145 [.own 0 [], .x (.int .i64 d.size), .fn f [.fz bb t]] [.sl nl 3 1 (ivs d.toList)]=some (.tup [],[],[.sl nl 3 1 (ivs (stO (ltC cmp) d.size d.size d.size 20 (Sort.insertionSort (ltC cmp) r.2 r.1 d.size)).toList)]):=by
  rw[o08 rfl T145 rfl]
  unfold F145 c145
  simp(disch:=first|omega|fail) only[push_cast,seval,vrl,if_pos,if_neg]
  rw[e1]
  simp(disch:=first|omega|fail) only[push_cast,seval,vrl,if_pos,if_neg,e2]
  rw[e3]
  simp(disch:=first|omega|fail) only[push_cast,seval,vrl,if_pos,if_neg]
 rw[o08 rfl T104 rfl]
 unfold F104 c104
 simp(disch:=first|omega|fail) only[push_cast,seval,vrl,if_pos,if_neg,hlen,e4]
end
theorem xa4{α:Type} [Inhabited α](lt:α→α→Bool)(hi first:Nat): ∀(n root:Nat) (d:Array α),hi-root≤n→(Sort.siftDown lt hi first root d).size=d.size
 |n,root,d,hn=>by
  rw[Sort.siftDown]
  by_cases h:2*root+1≥hi
  ·rw[dif_pos h]
  ·rw[dif_neg h]
   cases n with
   |zero=>omega
   |succ n=>
    split
    ·split
     ·rfl
     ·split
      ·rw[xa4 lt hi first n _ _ (by omega),Sort.size_swp]
      ·rfl
    ·split
     ·rfl
     ·rw[xa4 lt hi first n _ _ (by omega),Sort.size_swp]
section
variable {nl:Nat}
theorem s07{hi first:Nat}: ∀(n root:Nat) (d:Array Int),hi-root≤n→first+hi≤d.size→d.size≤100000→root≤100000→ ∀ks,ks=[]→
 vgoL W ⟨hNo,[],1⟩ [0,2,3,8] c218L0 (.blk 0 []::ks) [(0, .own 0 []),(2, .x (.int .i64 hi)),(3, .x (.int .i64 first)),(8, .x (.int .i64 root))] [.sl nl 3 1 (ivs d.toList)]=
  some (.tup [],[],[.sl nl 3 1 (ivs (Sort.siftDown Sort.ltInt hi first root d).toList)])
 |n,root,d,hn,hs,hd,hr,ks,hks=>by
  obtain⟨c,hc⟩: ∃c,c=2*root+1:=⟨_,rfl⟩
  have e1:2*(root:Int)+1=(c:Int):=by omega
  have e4:(c:Int)+1=((c+1:Nat):Int):=by omega
  have hlen:=wr6 d
  rw[Sort.siftDown,←hc]
  by_cases h1:c≥hi
  ·rw[dif_pos h1,hks,sb5 c218L0.eq_def]
   simp(disch:=first|omega|fail) only[push_cast,seval,vrl,if_pos,if_neg,e1]
  ·rw[dif_neg h1]
   cases n with
   |zero=>omega
   |succ n=>
    have e2:(first:Int)+(c:Int)=((first+c:Nat):Int):=by omega
    have e3:((first+c:Nat):Int)+1=((first+c+1:Nat):Int):=by omega
    have e5:(first:Int)+(root:Int)=((first+root:Nat):Int):=by omega
    have e6:(first:Int)+((c+1:Nat):Int)=((first+(c+1):Nat):Int):=by omega
    have l1:=vz2 (d:=d) (i:=first+c) (by omega)
    have l3:=vz2 (d:=d) (i:=first+root) (by omega)
    have w1:=yg4 (x:=d[first+root]!) (y:=d[first+c]!)
    by_cases h2:c+1<hi
    ·have l2:=vz2 (d:=d) (i:=first+c+1) (by omega)
     have l4:=vz2 (d:=d) (i:=first+(c+1)) (by omega)
     have w2:=yg4 (x:=d[first+c]!) (y:=d[first+c+1]!)
     have w3:=yg4 (x:=d[first+root]!) (y:=d[first+(c+1)]!)
     have hc2:2*root+2=c+1:=by omega
     simp only[hc2]
     cases b2:Sort.ltInt d[first+c]! d[first+c+1]! with
     |true=>
      rw[b2]at w2
      rw[if_pos (by simpa using h2)]
      cases b3:Sort.ltInt d[first+root]! d[first+(c+1)]! with
      |true=>
       rw[b3]at w3
       have ih:=s07 (hi:=hi) (first:=first) n (c+1) (Sort.swp d (first+root) (first+(c+1))) (by omega) (by rw[Sort.size_swp];exact hs) (by rw[Sort.size_swp];exact hd) (by omega) ks hks
       rw[←va8]at ih
       rw[if_neg (by decide),dif_pos h2,←ih,sb5 c218L0.eq_def]
       generalize first+c+1=f1 at*
       generalize first+(c+1)=f2 at*
       generalize first+c=f3 at*
       generalize first+root=f4 at*
       generalize c+1=c1 at*
       simp(disch:=first|omega|fail) only[push_cast,seval,vrl,if_pos,if_neg,e1,e2,e3,e4,e5,e6,l1,l2,l3,l4,w2,w3,hlen]
      |false=>
       rw[b3]at w3
       rw[if_pos (by decide),hks,sb5 c218L0.eq_def]
       generalize first+c+1=f1 at*
       generalize first+(c+1)=f2 at*
       generalize first+c=f3 at*
       generalize first+root=f4 at*
       generalize c+1=c1 at*
       simp(disch:=first|omega|fail) only[push_cast,seval,vrl,if_pos,if_neg,e1,e2,e3,e4,e5,e6,l1,l2,l3,l4,w2,w3,hlen]
     |false=>
      rw[b2]at w2
      rw[if_neg (by simp)]
      cases b3:Sort.ltInt d[first+root]! d[first+c]! with
      |true=>
       rw[b3]at w1
       have ih:=s07 (hi:=hi) (first:=first) n c (Sort.swp d (first+root) (first+c)) (by omega) (by rw[Sort.size_swp];exact hs) (by rw[Sort.size_swp];exact hd) (by omega) ks hks
       rw[←va8]at ih
       rw[if_neg (by decide),←ih,sb5 c218L0.eq_def]
       generalize first+c+1=f1 at*
       generalize first+c=f3 at*
       generalize first+root=f4 at*
       generalize c+1=c1 at*
       simp(disch:=first|omega|fail) only[push_cast,seval,vrl,if_pos,if_neg,e1,e2,e3,e4,e5,l1,l2,l3,w1,w2,hlen]
      |false=>
       rw[b3]at w1
       rw[if_pos (by decide),hks,sb5 c218L0.eq_def]
       generalize first+c+1=f1 at*
       generalize first+c=f3 at*
       generalize first+root=f4 at*
       generalize c+1=c1 at*
       simp(disch:=first|omega|fail) only[push_cast,seval,vrl,if_pos,if_neg,e1,e2,e3,e4,e5,l1,l2,l3,w1,w2,hlen]
    ·rw[if_neg (by simp;omega)]
     cases b3:Sort.ltInt d[first+root]! d[first+c]! with
     |true=>
      rw[b3]at w1
      have ih:=s07 (hi:=hi) (first:=first) n c (Sort.swp d (first+root) (first+c)) (by omega) (by rw[Sort.size_swp];exact hs) (by rw[Sort.size_swp];exact hd) (by omega) ks hks
      rw[←va8]at ih
      rw[if_neg (by decide),←ih,sb5 c218L0.eq_def]
      generalize first+c=f3 at*
      generalize first+root=f4 at*
      generalize c+1=c1 at*
      simp(disch:=first|omega|fail) only[push_cast,seval,vrl,if_pos,if_neg,e1,e2,e4,e5,l1,l3,w1,hlen]
     |false=>
      rw[b3]at w1
      rw[if_pos (by decide),hks,sb5 c218L0.eq_def]
      generalize first+c=f3 at*
      generalize first+root=f4 at*
      generalize c+1=c1 at*
      simp(disch:=first|omega|fail) only[push_cast,seval,vrl,if_pos,if_neg,e1,e2,e4,e5,l1,l3,w1,hlen]
theorem sf8{lo hi first:Nat}{d:Array Int}(hs:first+hi≤d.size)(hd:d.size≤100000)(hr:lo≤100000):
 o24 W 218 [.own 0 [], .x (.int .i64 lo), .x (.int .i64 hi), .x (.int .i64 first)] [.sl nl 3 1 (ivs d.toList)]=some (.tup [],[],[.sl nl 3 1 (ivs (Sort.siftDown Sort.ltInt hi first lo d).toList)]):=by
 have e:=fun ks h=>s07 (nl:=nl) (hi:=hi) (first:=first) (hi-lo) lo d (Nat.le_refl _) hs hd hr ks h
 rw[o08 rfl T218 rfl]
 unfold F218 c218
 simp(disch:=first|omega|fail) only[push_cast,seval,vrl,if_pos,if_neg]
 rw[e _ rfl]
theorem lm0{a b hi first lo:Nat}: ∀(k:Nat) (d:Array Int),k≤hi→first+hi≤d.size→d.size≤100000→ ∀ks,
 vgoL W ⟨hNo,[],1⟩ [0,6,7,8,9] c192L0 (.blk 0 [0,6,7,8]::ks) [(0, .own 0 []),(6, .x (.int .i64 first)),(7, .x (.int .i64 lo)),(8, .x (.int .i64 hi)),(9, .x (.int .i64 ((k:Int)-1)))] [.sl nl 3 1 (ivs d.toList)]=
  vgo W ⟨hNo,[],1⟩ ks (VFr.of [(0, .own 0 []),(6, .x (.int .i64 first)),(7, .x (.int .i64 lo)),(8, .x (.int .i64 hi))]) [.sl nl 3 1 (ivs (Sort.heapBuild Sort.ltInt hi first k d).toList)]
 |0,d,hk,hs,hd,ks=>by
  rw[Sort.heapBuild,sb5 c192L0.eq_def]
  simp(disch:=first|omega|fail) only[push_cast,seval,vrl,if_pos,if_neg]
 |k+1,d,hk,hs,hd,ks=>by
  have e1:=sf8 (nl:=nl) (lo:=k) (hi:=hi) (first:=first) (d:=d) hs hd (by omega)
  have hsz:=xa4 Sort.ltInt hi first (hi-k) k d (Nat.le_refl _)
  have ih:=lm0 (a:=a) (b:=b) (hi:=hi) (first:=first) (lo:=lo) k (Sort.siftDown Sort.ltInt hi first k d) (by omega) (by rw[hsz];exact hs) (by rw[hsz];exact hd) ks
  have e0:((k+1:Nat):Int)-1=(k:Int):=by omega
  rw[Sort.heapBuild,←ih,e0,sb5 c192L0.eq_def]
  simp(disch:=first|omega|fail) only[push_cast,seval,vrl,if_pos,if_neg,e1]
theorem u81{first:Nat}: ∀(k:Nat) (d:Array Int),first+k≤d.size→d.size≤100000→ ∀ks,
 vgoL W ⟨hNo,[],1⟩ [0,6,7,10] c192L1 (.blk 2 []::ks) [(0, .own 0 []),(6, .x (.int .i64 first)),(7, .x (.int .i64 0)),(10, .x (.int .i64 ((k:Int)-1)))] [.sl nl 3 1 (ivs d.toList)]=
  vgo W ⟨hNo,[],1⟩ ks (VFr.of []) [.sl nl 3 1 (ivs (Sort.heapPop Sort.ltInt first k d).toList)]
 |0,d,hs,hd,ks=>by
  rw[Sort.heapPop,sb5 c192L1.eq_def]
  simp(disch:=first|omega|fail) only[push_cast,seval,vrl,if_pos,if_neg]
 |k+1,d,hs,hd,ks=>by
  have hsw:=Sort.size_swp d first (first+k)
  have e1:=sf8 (nl:=nl) (lo:=0) (hi:=k) (first:=first) (d:=Sort.swp d first (first+k)) (by omega) (by omega) (by omega)
  have hsz:=xa4 Sort.ltInt k first (k-0) 0 (Sort.swp d first (first+k)) (Nat.le_refl _)
  have ih:=u81 (first:=first) k (Sort.siftDown Sort.ltInt k first 0 (Sort.swp d first (first+k))) (by omega) (by omega) ks
  have e0:((k+1:Nat):Int)-1=(k:Int):=by omega
  have e2:(first:Int)+(k:Int)=((first+k:Nat):Int):=by omega
  have l1:=vz2 (d:=d) (i:=first) (by omega)
  have l2:=vz2 (d:=d) (i:=first+k) (by omega)
  have hlen:=wr6 d
  rw[Int.natCast_zero]at e1
  rw[←va8]at e1
  rw[Sort.heapPop,←ih,e0,sb5 c192L1.eq_def]
  generalize first+k=f1 at*
  simp(disch:=first|omega|fail) only[push_cast,seval,vrl,if_pos,if_neg,e1,e2,l1,l2,hlen]
theorem n42{α:Type} [Inhabited α](lt:α→α→Bool)(hi first:Nat): ∀(k:Nat) (d:Array α),(Sort.heapBuild lt hi first k d).size=d.size
 |0,d=>rfl
 |k+1,d=>by rw[Sort.heapBuild,n42 lt hi first k,xa4 lt hi first _ _ _ (Nat.le_refl _)]
theorem og6{a b:Nat}{d:Array Int}(hab:a<b)(hb:b≤d.size)(hd:d.size≤100000):
 o24 W 192 [.own 0 [], .x (.int .i64 a), .x (.int .i64 b)] [.sl nl 3 1 (ivs d.toList)]=some (.tup [],[],[.sl nl 3 1 (ivs (Sort.heapSort Sort.ltInt d a b).toList)]):=by
 obtain⟨n,hn⟩: ∃n,n=b-a:=⟨_,rfl⟩
 have e1:(b:Int)-(a:Int)=(n:Int):=by omega
 have e2:((n:Int)-1).tdiv 2=(((n-1)/2+1:Nat):Int)-1:=by rw[Int.tdiv_eq_ediv_of_nonneg (by omega)];omega
 have e3:=fun ks=>lm0 (nl:=nl) (a:=a) (b:=b) (hi:=n) (first:=a) (lo:=0) ((n-1)/2+1) d (by omega) (by omega) hd ks
 have hsz:=n42 Sort.ltInt n a ((n-1)/2+1) d
 have e4:=fun ks=>u81 (nl:=nl) (first:=a) n (Sort.heapBuild Sort.ltInt n a ((n-1)/2+1) d) (by omega) (by omega) ks
 simp only[Int.natCast_zero]at e3
 unfold Sort.heapSort
 rw[←hn]
 have hz:0≤(((n-1)/2+1:Nat):Int)-1∧(((n-1)/2+1:Nat):Int)-1≤100000:=by omega
 generalize (((n-1)/2+1:Nat):Int)-1=z at*
 rw[o08 rfl T192 rfl]
 unfold F192 c192
 simp(disch:=first|omega|fail) only[push_cast,seval,vrl,if_pos,if_neg,e1,e2]
 rw[e3]
 simp(disch:=first|omega|fail) only[push_cast,seval,vrl,if_pos,if_neg]
 rw[e4]
 simp(disch:=first|omega|fail) only[push_cast,seval,vrl,if_pos,if_neg]
theorem y21: ∀(n i j:Nat) (d:Array Int),j-i≤n→j<d.size→d.size≤100000→i≤100000→ ∀ks,
 vgoL W ⟨hNo,[],1⟩ [0,6,7] c195L0 (.blk 0 []::ks) [(0, .own 0 []),(6, .x (.int .i64 i)),(7, .x (.int .i64 j))] [.sl nl 3 1 (ivs d.toList)]=
  vgo W ⟨hNo,[],1⟩ ks (VFr.of []) [.sl nl 3 1 (ivs (Sort.reverseLoop i j d).toList)]
 |n,i,j,d,hn,hj,hd,hi,ks=>by
  rw[Sort.reverseLoop]
  by_cases h:i<j
  ·cases n with
   |zero=>omega
   |succ n=>
    obtain⟨j,rfl⟩: ∃j',j=j'+1:=⟨j-1,by omega⟩
    have hsz:=Sort.size_swp d i (j+1)
    have ih:=y21 n (i+1) j (Sort.swp d i (j+1)) (by omega) (by omega) (by omega) (by omega) ks
    rw[←va8,Int.natCast_add,Int.natCast_one]at ih
    have l1:=vz2 (d:=d) (i:=i) (by omega)
    have l2:=vz2 (d:=d) (i:=j+1) hj
    have hlen:=wr6 d
    have e0:((j+1:Nat):Int)-1=(j:Int):=by omega
    rw[if_pos h,show j+1-1=j by omega,←ih,sb5 c195L0.eq_def]
    generalize j+1=j1 at*
    simp(disch:=first|omega|fail) only[push_cast,seval,vrl,if_pos,if_neg,e0,l1,l2,hlen]
  ·rw[if_neg h,sb5 c195L0.eq_def]
   simp(disch:=first|omega|fail) only[push_cast,seval,vrl,if_pos,if_neg]
theorem x14{a b:Nat}{d:Array Int}(hab:a<b)(hb:b≤d.size)(hd:d.size≤100000):
 o24 W 195 [.own 0 [], .x (.int .i64 a), .x (.int .i64 b)] [.sl nl 3 1 (ivs d.toList)]=some (.tup [],[],[.sl nl 3 1 (ivs (Sort.reverseRange d a b).toList)]):=by
 have e:=fun ks=>y21 (nl:=nl) (b-1-a) a (b-1) d (by omega) (by omega) hd (by omega) ks
 have e0:(b:Int)-1=((b-1:Nat):Int):=by omega
 unfold Sort.reverseRange
 generalize b-1=b1 at*
 rw[o08 rfl T195 rfl]
 unfold F195 c195
 simp(disch:=first|omega|fail) only[push_cast,seval,vrl,if_pos,if_neg,e0]
 rw[e]
 simp(disch:=first|omega|fail) only[push_cast,seval,vrl,if_pos,if_neg]
end
section
variable {bb:Bool} {nl e:Nat} {d:Array Int}
theorem km5{a b s:Nat}(ha:a<d.size)(hb:b<d.size)(hd:d.size≤100000)(hs:s≤1000):
 o24 W 229 [.fz bb (.sl nl 0 1 (ivs d.toList)), .x (.int .i64 a), .x (.int .i64 b), .own 0 []] [.pt e [.v (.int .i64 s)]]=
  some (.tup [.x (.int .i64 (Sort.order2 Sort.ltInt d a b s).1), .x (.int .i64 (Sort.order2 Sort.ltInt d a b s).2.1)],[],[.pt e [.v (.int .i64 (Sort.order2 Sort.ltInt d a b s).2.2)]]):=by
 have l1:=vz2 (d:=d) (i:=a) ha
 have l2:=vz2 (d:=d) (i:=b) hb
 have hlen:=wr6 d
 have w:=yg4 (x:=d[b]!) (y:=d[a]!)
 unfold Sort.order2
 rw[o08 rfl T229 rfl]
 unfold F229 c229
 cases hl:Sort.ltInt d[b]! d[a]! with
 |true=>
  rw[hl]at w
  rw[if_pos rfl,Int.natCast_add,Int.natCast_one]
  simp(disch:=first|omega|fail) only[push_cast,seval,vrl,if_pos,if_neg,l1,l2,w,hlen]
 |false=>
  rw[hl]at w
  rw[if_neg (by decide)]
  simp(disch:=first|omega|fail) only[push_cast,seval,vrl,if_pos,if_neg,l1,l2,w,hlen]
theorem gc9{α:Type} [Inhabited α](lt:α→α→Bool)(d:Array α){a b s n:Nat}(ha:a<n)(hb:b<n):(Sort.order2 lt d a b s).1<n∧(Sort.order2 lt d a b s).2.1<n∧(Sort.order2 lt d a b s).2.2≤s+1:=by
 unfold Sort.order2
 split
 ·exact⟨hb,ha,by simp⟩
 ·exact⟨ha,hb,by simp⟩
theorem uo9{a b c s:Nat}(ha:a<d.size)(hb:b<d.size)(hc:c<d.size)(hd:d.size≤100000)(hs:s≤100):
 o24 W 220 [.fz bb (.sl nl 0 1 (ivs d.toList)), .x (.int .i64 a), .x (.int .i64 b), .x (.int .i64 c), .own 0 []] [.pt e [.v (.int .i64 s)]]=
  some (.x (.int .i64 (Sort.median Sort.ltInt d a b c s).1),[],[.pt e [.v (.int .i64 (Sort.median Sort.ltInt d a b c s).2)]]):=by
 have w1:=km5 (bb:=bb) (nl:=nl) (e:=e) (s:=s) ha hb hd (by omega)
 obtain⟨i1,i2,i3⟩:=gc9 Sort.ltInt d (s:=s) ha hb
 unfold Sort.median
 simp only[]
 generalize Sort.order2 Sort.ltInt d a b s=r1 at*
 have w2:=km5 (bb:=bb) (nl:=nl) (e:=e) (s:=r1.2.2) i2 hc hd (by omega)
 obtain⟨j1,j2,j3⟩:=gc9 Sort.ltInt d (s:=r1.2.2) i2 hc
 generalize Sort.order2 Sort.ltInt d r1.2.1 c r1.2.2=r2 at*
 have w3:=km5 (bb:=bb) (nl:=nl) (e:=e) (s:=r2.2.2) i1 j1 hd (by omega)
 generalize Sort.order2 Sort.ltInt d r1.1 r2.1 r2.2.2=r3 at*
 rw[o08 rfl T220 rfl]
 unfold F220 c220
 simp(disch:=first|omega|fail) only[push_cast,seval,vrl,if_pos,if_neg,w1,w2,w3]
theorem gb0{a s:Nat}(h0:1≤a)(ha:a+1<d.size)(hd:d.size≤100000)(hs:s≤100):
 o24 W 219 [.fz bb (.sl nl 0 1 (ivs d.toList)), .x (.int .i64 a), .own 0 []] [.pt e [.v (.int .i64 s)]]=
  some (.x (.int .i64 (Sort.medianAdjacent Sort.ltInt d a s).1),[],[.pt e [.v (.int .i64 (Sort.medianAdjacent Sort.ltInt d a s).2)]]):=by
 have w1:=uo9 (bb:=bb) (nl:=nl) (e:=e) (a:=a-1) (b:=a) (c:=a+1) (s:=s) (by omega) (by omega) ha hd hs
 have e0:(a:Int)-1=((a-1:Nat):Int):=by omega
 have e1:(a:Int)+1=((a+1:Nat):Int):=by omega
 unfold Sort.medianAdjacent
 generalize a-1=a1 at*
 generalize a+1=a2 at*
 rw[o08 rfl T219 rfl]
 unfold F219 c219
 simp(disch:=first|omega|fail) only[push_cast,seval,vrl,if_pos,if_neg,e0,e1,w1]
end
section
variable {nl:Nat}
theorem c61{a:Nat}{d:Array Int}(ha:a<d.size)(hd:d.size≤100000){j:Nat}(hj:j<d.size): ∀(n i:Nat),j+1-i≤n→i≤100000→ ∀ks,
 vgoL W ⟨hNo,[.tmp 8, .tmp 9],1⟩ [0,1,10,11] c199L0 (.blk 0 [0,1,10,11]::ks) [(0, .own 0 []),(1, .x (.int .i64 a)),(10, .x (.int .i64 i)),(11, .x (.int .i64 j))] [.sl nl 3 1 (ivs d.toList)]=
  vgo W ⟨hNo,[.tmp 8, .tmp 9],1⟩ ks (VFr.of [(0, .own 0 []),(1, .x (.int .i64 a)),(10, .x (.int .i64 (Sort.scanUp (fun x=>Sort.ltInt x d[a]!) d j i))),(11, .x (.int .i64 j))]) [.sl nl 3 1 (ivs d.toList)]
 |n,i,hn,hi,ks=>by
  have hlen:=wr6 d
  have l0:=vz2 (d:=d) (i:=a) ha
  rw[Sort.scanUp]
  by_cases h:i≤j
  ·have l1:=vz2 (d:=d) (i:=i) (by omega)
   have w:=yg4 (x:=d[i]!) (y:=d[a]!)
   cases hl:Sort.ltInt d[i]! d[a]! with
   |true=>
    rw[hl]at w
    cases n with
    |zero=>omega
    |succ n=>
     have ih:=c61 ha hd hj n (i+1) (by omega) (by omega) ks
     rw[Int.natCast_add i,Int.natCast_one]at ih
     rw[if_pos (by simpa using h),←ih,sb5 c199L0.eq_def]
     simp(disch:=first|omega|fail) only[push_cast,seval,vrl,if_pos,if_neg,l0,l1,w,hlen]
   |false=>
    rw[hl]at w
    rw[if_neg (by simp),sb5 c199L0.eq_def]
    simp(disch:=first|omega|fail) only[push_cast,seval,vrl,if_pos,if_neg,l0,l1,w,hlen]
  ·rw[if_neg (by simp;omega),sb5 c199L0.eq_def]
   simp(disch:=first|omega|fail) only[push_cast,seval,vrl,if_pos,if_neg]
theorem hy4{a i:Nat}{d:Array Int}(ha:a<d.size)(hd:d.size≤100000)(hi:1≤i)(hi2:i≤100000): ∀(j:Nat),j<d.size→ ∀ks,
 vgoL W ⟨hNo,[.tmp 8, .tmp 9],1⟩ [0,1,10,11] c199L1 (.blk 2 [0,1,10,11]::ks) [(0, .own 0 []),(1, .x (.int .i64 a)),(10, .x (.int .i64 i)),(11, .x (.int .i64 j))] [.sl nl 3 1 (ivs d.toList)]=
  vgo W ⟨hNo,[.tmp 8, .tmp 9],1⟩ ks (VFr.of [(0, .own 0 []),(1, .x (.int .i64 a)),(10, .x (.int .i64 i)),(11, .x (.int .i64 (Sort.scanDown (fun x=> !Sort.ltInt x d[a]!) d i j)))]) [.sl nl 3 1 (ivs d.toList)]
 |0,hj,ks=>by
  rw[Sort.scanDown,sb5 c199L1.eq_def]
  simp(disch:=first|omega|fail) only[push_cast,seval,vrl,if_pos,if_neg]
 |j+1,hj,ks=>by
  have hlen:=wr6 d
  have l0:=vz2 (d:=d) (i:=a) ha
  rw[Sort.scanDown]
  by_cases h:i≤j+1
  ·have l1:=vz2 (d:=d) (i:=j+1) hj
   have w:=yg4 (x:=d[j+1]!) (y:=d[a]!)
   cases hl:Sort.ltInt d[j+1]! d[a]! with
   |false=>
    rw[hl]at w
    have ih:=hy4 ha hd hi hi2 j (by omega) ks
    have e0:((j+1:Nat):Int)-1=(j:Int):=by omega
    rw[if_pos (by simpa using h),←ih,sb5 c199L1.eq_def]
    generalize j+1=j1 at*
    simp(disch:=first|omega|fail) only[push_cast,seval,vrl,if_pos,if_neg,e0,l0,l1,w,hlen]
   |true=>
    rw[hl]at w
    rw[if_neg (by simp),sb5 c199L1.eq_def]
    generalize j+1=j1 at*
    simp(disch:=first|omega|fail) only[push_cast,seval,vrl,if_pos,if_neg,l0,l1,w,hlen]
  ·rw[if_neg (by simp;omega),sb5 c199L1.eq_def]
   simp(disch:=first|omega|fail) only[push_cast,seval,vrl,if_pos,if_neg]
theorem di6{a:Nat}{d:Array Int}(ha:a<d.size)(hd:d.size≤100000){j:Nat}(hj:j<d.size): ∀(n i:Nat),j+1-i≤n→i≤100000→ ∀ks,
 vgoL W ⟨hNo,[.tmp 8, .tmp 9],1⟩ [0,1,10,11] c199L2 (.blk 6 [0,1,10,11]::ks) [(0, .own 0 []),(1, .x (.int .i64 a)),(10, .x (.int .i64 i)),(11, .x (.int .i64 j))] [.sl nl 3 1 (ivs d.toList)]=
  vgo W ⟨hNo,[.tmp 8, .tmp 9],1⟩ ks (VFr.of [(0, .own 0 []),(1, .x (.int .i64 a)),(10, .x (.int .i64 (Sort.scanUp (fun x=>Sort.ltInt x d[a]!) d j i))),(11, .x (.int .i64 j))]) [.sl nl 3 1 (ivs d.toList)]
 |n,i,hn,hi,ks=>by
  have hlen:=wr6 d
  have l0:=vz2 (d:=d) (i:=a) ha
  rw[Sort.scanUp]
  by_cases h:i≤j
  ·have l1:=vz2 (d:=d) (i:=i) (by omega)
   have w:=yg4 (x:=d[i]!) (y:=d[a]!)
   cases hl:Sort.ltInt d[i]! d[a]! with
   |true=>
    rw[hl]at w
    cases n with
    |zero=>omega
    |succ n=>
     have ih:=di6 ha hd hj n (i+1) (by omega) (by omega) ks
     rw[Int.natCast_add i,Int.natCast_one]at ih
     rw[if_pos (by simpa using h),←ih,sb5 c199L2.eq_def]
     simp(disch:=first|omega|fail) only[push_cast,seval,vrl,if_pos,if_neg,l0,l1,w,hlen]
   |false=>
    rw[hl]at w
    rw[if_neg (by simp),sb5 c199L2.eq_def]
    simp(disch:=first|omega|fail) only[push_cast,seval,vrl,if_pos,if_neg,l0,l1,w,hlen]
  ·rw[if_neg (by simp;omega),sb5 c199L2.eq_def]
   simp(disch:=first|omega|fail) only[push_cast,seval,vrl,if_pos,if_neg]
theorem az5{a i:Nat}{d:Array Int}(ha:a<d.size)(hd:d.size≤100000)(hi:1≤i)(hi2:i≤100000): ∀(j:Nat),j<d.size→ ∀ks,
 vgoL W ⟨hNo,[.tmp 8, .tmp 9],1⟩ [0,1,10,11] c199L3 (.blk 8 [0,1,10,11]::ks) [(0, .own 0 []),(1, .x (.int .i64 a)),(10, .x (.int .i64 i)),(11, .x (.int .i64 j))] [.sl nl 3 1 (ivs d.toList)]=
  vgo W ⟨hNo,[.tmp 8, .tmp 9],1⟩ ks (VFr.of [(0, .own 0 []),(1, .x (.int .i64 a)),(10, .x (.int .i64 i)),(11, .x (.int .i64 (Sort.scanDown (fun x=> !Sort.ltInt x d[a]!) d i j)))]) [.sl nl 3 1 (ivs d.toList)]
 |0,hj,ks=>by
  rw[Sort.scanDown,sb5 c199L3.eq_def]
  simp(disch:=first|omega|fail) only[push_cast,seval,vrl,if_pos,if_neg]
 |j+1,hj,ks=>by
  have hlen:=wr6 d
  have l0:=vz2 (d:=d) (i:=a) ha
  rw[Sort.scanDown]
  by_cases h:i≤j+1
  ·have l1:=vz2 (d:=d) (i:=j+1) hj
   have w:=yg4 (x:=d[j+1]!) (y:=d[a]!)
   cases hl:Sort.ltInt d[j+1]! d[a]! with
   |false=>
    rw[hl]at w
    have ih:=az5 ha hd hi hi2 j (by omega) ks
    have e0:((j+1:Nat):Int)-1=(j:Int):=by omega
    rw[if_pos (by simpa using h),←ih,sb5 c199L3.eq_def]
    generalize j+1=j1 at*
    simp(disch:=first|omega|fail) only[push_cast,seval,vrl,if_pos,if_neg,e0,l0,l1,w,hlen]
   |true=>
    rw[hl]at w
    rw[if_neg (by simp),sb5 c199L3.eq_def]
    generalize j+1=j1 at*
    simp(disch:=first|omega|fail) only[push_cast,seval,vrl,if_pos,if_neg,l0,l1,w,hlen]
  ·rw[if_neg (by simp;omega),sb5 c199L3.eq_def]
   simp(disch:=first|omega|fail) only[push_cast,seval,vrl,if_pos,if_neg]
theorem zs6{α:Type} [Inhabited α](p:α→Bool)(d:Array α)(j i:Nat)(h:i≤j+1):Sort.scanUp p d j i≤j+1:=(Sort.scanUp_spec p d j _ i rfl).2.1 h
theorem es0{α:Type} [Inhabited α]{p q:α→Bool}(hq: ∀x,q x= !p x)(d:Array α){i j:Nat}(hi:1≤i)(h: ¬Sort.scanUp p d j i>Sort.scanDown q d (Sort.scanUp p d j i) j):Sort.scanUp p d j i<Sort.scanDown q d (Sort.scanUp p d j i) j:=by
 obtain⟨u1,u2,u3,u4⟩:=Sort.scanUp_spec p d j _ i rfl
 obtain⟨v1,v2,v3,v4⟩:=Sort.scanDown_spec q d (Sort.scanUp p d j i) j
 have f1:=u4 (by omega)
 have f2:=v4 (by omega) (by omega)
 rw[hq]at f2
 rcases Nat.lt_or_ge (Sort.scanUp p d j i) (Sort.scanDown q d (Sort.scanUp p d j i) j)with h'|h'
 ·exact h'
 ·have e:Sort.scanUp p d j i=Sort.scanDown q d (Sort.scanUp p d j i) j:=by omega
  rw[←e,f1]at f2
  cases f2
theorem xe3{a:Nat}: ∀(n i j:Nat) (d:Array Int),j+1-i≤n→a<i→i≤j+1→j<d.size→d.size≤90000→ ∀ks,
 vgoL W ⟨hNo,[.tmp 8, .tmp 9],1⟩ [0,1,10,11] c199L4 (.blk 4 [0,1,11]::ks) [(0, .own 0 []),(1, .x (.int .i64 a)),(10, .x (.int .i64 i)),(11, .x (.int .i64 j))] [.sl nl 3 1 (ivs d.toList)]=
  vgo W ⟨hNo,[.tmp 8, .tmp 9],1⟩ ks (VFr.of [(0, .own 0 []),(1, .x (.int .i64 a)),(11, .x (.int .i64 ((Sort.partLoop Sort.ltInt a i j d).1)))]) [.sl nl 3 1 (ivs (Sort.partLoop Sort.ltInt a i j d).2.toList)]
 |n,i,j,d,hn,ha,hij,hj,hd,ks=>by
  have e1:=fun ks=>di6 (nl:=nl) (a:=a) (d:=d) (by omega) (by omega) hj (j+1-i) i (Nat.le_refl _) (by omega) ks
  have g1:=Sort.scanUp_ge (fun x=>Sort.ltInt x d[a]!) d j i
  have g2:=zs6 (fun x=>Sort.ltInt x d[a]!) d j i hij
  have g4:=es0 (p:=fun x=>Sort.ltInt x d[a]!) (q:=fun x=> !Sort.ltInt x d[a]!) (fun _=>rfl) d (i:=i) (j:=j) (by omega)
  rw[Sort.partLoop_eq]
  generalize Sort.scanUp (fun x=>Sort.ltInt x d[a]!) d j i=i2 at*
  have e2:=fun ks=>az5 (nl:=nl) (a:=a) (i:=i2) (d:=d) (by omega) (by omega) (by omega) (by omega) j hj ks
  have g3:=Sort.scanDown_le (fun x=> !Sort.ltInt x d[a]!) d i2 j
  generalize Sort.scanDown (fun x=> !Sort.ltInt x d[a]!) d i2 j=j2 at*
  by_cases h:i2>j2
  ·rw[if_pos h,sb5 c199L4.eq_def]
   simp(disch:=first|omega|fail) only[push_cast,seval,vrl,if_pos,if_neg]
   rw[e1]
   simp(disch:=first|omega|fail) only[push_cast,seval,vrl,if_pos,if_neg]
   rw[e2]
   simp(disch:=first|omega|fail) only[push_cast,seval,vrl,if_pos,if_neg]
  ·have g5:=g4 h
   rw[if_neg h]
   cases n with
   |zero=>omega
   |succ n=>
    have hsz:=Sort.size_swp d i2 j2
    have ih:=xe3 (a:=a) n (i2+1) (j2-1) (Sort.swp d i2 j2) (by omega) (by omega) (by omega) (by omega) (by omega) ks
    rw[Int.natCast_add i2,Int.natCast_one]at ih
    rw[←ih,←va8,sb5 c199L4.eq_def]
    have l1:=vz2 (d:=d) (i:=i2) (by omega)
    have l2:=vz2 (d:=d) (i:=j2) (by omega)
    have hlen:=wr6 d
    have e0:(j2:Int)-1=((j2-1:Nat):Int):=by omega
    generalize j2-1=j3 at*
    simp(disch:=first|omega|fail) only[push_cast,seval,vrl,if_pos,if_neg]
    rw[e1]
    simp(disch:=first|omega|fail) only[push_cast,seval,vrl,if_pos,if_neg]
    rw[e2]
    simp(disch:=first|omega|fail) only[push_cast,seval,vrl,if_pos,if_neg,l1,l2,hlen,e0]
theorem tl9(a:Nat): ∀(n i j:Nat) (d:Array Int),j+1-i≤n→(Sort.partLoop Sort.ltInt a i j d).1≤j∧(Sort.partLoop Sort.ltInt a i j d).2.size=d.size
 |n,i,j,d,hn=>by
  have g1:=Sort.scanUp_ge (fun x=>Sort.ltInt x d[a]!) d j i
  rw[Sort.partLoop_eq]
  generalize Sort.scanUp (fun x=>Sort.ltInt x d[a]!) d j i=i2 at*
  have g3:=Sort.scanDown_le (fun x=> !Sort.ltInt x d[a]!) d i2 j
  generalize Sort.scanDown (fun x=> !Sort.ltInt x d[a]!) d i2 j=j2 at*
  by_cases h:i2>j2
  ·rw[if_pos h];exact⟨g3,rfl⟩
  ·rw[if_neg h]
   cases n with
   |zero=>omega
   |succ n=>
    obtain⟨h1,h2⟩:=tl9 a n (i2+1) (j2-1) (Sort.swp d i2 j2) (by omega)
    rw[Sort.size_swp]at h2
    exact⟨by omega,h2⟩
theorem n92{a b p:Nat}{d:Array Int}(hab:a+1<b)(hp:p<d.size)(hb:b≤d.size)(hd:d.size≤90000):
 o24 W 199 [.own 0 [], .x (.int .i64 a), .x (.int .i64 b), .x (.int .i64 p)] [.sl nl 3 1 (ivs d.toList)]=
  some (.tup [.x (.int .i64 (Sort.partition Sort.ltInt d a b p).1), .x (.bool (Sort.partition Sort.ltInt d a b p).2.1)],[],[.sl nl 3 1 (ivs (Sort.partition Sort.ltInt d a b p).2.2.toList)]):=by
 have l1:=vz2 (d:=d) (i:=a) (by omega)
 have l2:=vz2 (d:=d) (i:=p) hp
 have hlen:=wr6 d
 have hsw:=va8 d a p
 have hsz:=Sort.size_swp d a p
 obtain⟨B,hB⟩: ∃B,B=b-1:=⟨_,rfl⟩
 obtain⟨A,hA⟩: ∃A,A=a+1:=⟨_,rfl⟩
 have hb1:(b:Int)-1=(B:Int):=by omega
 have ha1:(a:Int)+1=(A:Int):=by omega
 unfold Sort.partition
 simp only[]
 rw[←hB,←hA,o08 rfl T199 rfl]
 unfold F199 c199
 simp(disch:=first|omega|fail) only[push_cast,seval,vrl,if_pos,if_neg,l1,l2,hlen,ha1,hb1]
 rw[hsw]
 generalize Sort.swp d a p=d1 at*
 have e1:=fun ks=>c61 (nl:=nl) (a:=a) (d:=d1) (by omega) (by omega) (j:=B) (by omega) (B+1-A) A (Nat.le_refl _) (by omega) ks
 rw[e1]
 have g1:=Sort.scanUp_ge (fun x=>Sort.ltInt x d1[a]!) d1 B A
 have g2:=zs6 (fun x=>Sort.ltInt x d1[a]!) d1 B A (by omega)
 have g4:=es0 (p:=fun x=>Sort.ltInt x d1[a]!) (q:=fun x=> !Sort.ltInt x d1[a]!) (fun _=>rfl) d1 (i:=A) (j:=B) (by omega)
 generalize Sort.scanUp (fun x=>Sort.ltInt x d1[a]!) d1 B A=i2 at*
 simp(disch:=first|omega|fail) only[push_cast,seval,vrl,if_pos,if_neg]
 have e2:=fun ks=>hy4 (nl:=nl) (a:=a) (i:=i2) (d:=d1) (by omega) (by omega) (by omega) (by omega) B (by omega) ks
 rw[e2]
 have g3:=Sort.scanDown_le (fun x=> !Sort.ltInt x d1[a]!) d1 i2 B
 generalize Sort.scanDown (fun x=> !Sort.ltInt x d1[a]!) d1 i2 B=j2 at*
 have k1:=vz2 (d:=d1) (i:=a) (by omega)
 have k2:=vz2 (d:=d1) (i:=j2) (by omega)
 have hlen1:=wr6 d1
 by_cases h:i2>j2
 ·have hs2:=va8 d1 j2 a
  rw[if_pos h,←hs2]
  simp(disch:=first|omega|fail) only[push_cast,seval,vrl,if_pos,if_neg,k1,k2,hlen1]
 ·have g5:=g4 h
  have k3:=vz2 (d:=d1) (i:=i2) (by omega)
  have hs2:=va8 d1 i2 j2
  have hsz2:=Sort.size_swp d1 i2 j2
  rw[if_neg h]
  obtain⟨I,hI⟩: ∃I,I=i2+1:=⟨_,rfl⟩
  obtain⟨J,hJ⟩: ∃J,J=j2-1:=⟨_,rfl⟩
  have e0:(j2:Int)-1=(J:Int):=by omega
  have e9:(i2:Int)+1=(I:Int):=by omega
  rw[←hI,←hJ]
  simp(disch:=first|omega|fail) only[push_cast,seval,vrl,if_pos,if_neg,k1,k2,k3,hlen1,e0,e9]
  rw[hs2]
  generalize Sort.swp d1 i2 j2=d2 at*
  have e3:=fun ks=>xe3 (nl:=nl) (a:=a) (J+1-I) I J d2 (Nat.le_refl _) (by omega) (by omega) (by omega) (by omega) ks
  have hfs:=tl9 a (J+1-I) I J d2 (Nat.le_refl _)
  rw[e3]
  generalize Sort.partLoop Sort.ltInt a I J d2=r at*
  have m1:=vz2 (d:=r.2) (i:=a) (by omega)
  have m2:=vz2 (d:=r.2) (i:=r.1) (by omega)
  have hlen2:=wr6 r.2
  have hs3:=va8 r.2 r.1 a
  rw[←hs3]
  simp(disch:=first|omega|fail) only[push_cast,seval,vrl,if_pos,if_neg,m1,m2,hlen2]
end
section
variable {nl:Nat}
theorem ue8{a:Nat}{d:Array Int}(ha:a<d.size)(hd:d.size≤100000){j:Nat}(hj:j<d.size): ∀(n i:Nat),j+1-i≤n→i≤100000→ ∀ks,
 vgoL W ⟨hNo,[.tmp 8],1⟩ [0,1,9,10] c198L0 (.blk 2 [0,1,9,10]::ks) [(0, .own 0 []),(1, .x (.int .i64 a)),(9, .x (.int .i64 i)),(10, .x (.int .i64 j))] [.sl nl 3 1 (ivs d.toList)]=
  vgo W ⟨hNo,[.tmp 8],1⟩ ks (VFr.of [(0, .own 0 []),(1, .x (.int .i64 a)),(9, .x (.int .i64 (Sort.scanUp (fun x=> !Sort.ltInt d[a]! x) d j i))),(10, .x (.int .i64 j))]) [.sl nl 3 1 (ivs d.toList)]
 |n,i,hn,hi,ks=>by
  have hlen:=wr6 d
  have l0:=vz2 (d:=d) (i:=a) ha
  rw[Sort.scanUp]
  by_cases h:i≤j
  ·have l1:=vz2 (d:=d) (i:=i) (by omega)
   have w:=yg4 (x:=d[a]!) (y:=d[i]!)
   cases hl:Sort.ltInt d[a]! d[i]! with
   |false=>
    rw[hl]at w
    cases n with
    |zero=>omega
    |succ n=>
     have ih:=ue8 ha hd hj n (i+1) (by omega) (by omega) ks
     rw[Int.natCast_add i,Int.natCast_one]at ih
     rw[if_pos (by simpa using h),←ih,sb5 c198L0.eq_def]
     simp(disch:=first|omega|fail) only[push_cast,seval,vrl,if_pos,if_neg,l0,l1,w,hlen]
   |true=>
    rw[hl]at w
    rw[if_neg (by simp),sb5 c198L0.eq_def]
    simp(disch:=first|omega|fail) only[push_cast,seval,vrl,if_pos,if_neg,l0,l1,w,hlen]
  ·rw[if_neg (by simp;omega),sb5 c198L0.eq_def]
   simp(disch:=first|omega|fail) only[push_cast,seval,vrl,if_pos,if_neg]
theorem ke2{a i:Nat}{d:Array Int}(ha:a<d.size)(hd:d.size≤100000)(hi:1≤i)(hi2:i≤100000): ∀(j:Nat),j<d.size→ ∀ks,
 vgoL W ⟨hNo,[.tmp 8],1⟩ [0,1,9,10] c198L1 (.blk 4 [0,1,9,10]::ks) [(0, .own 0 []),(1, .x (.int .i64 a)),(9, .x (.int .i64 i)),(10, .x (.int .i64 j))] [.sl nl 3 1 (ivs d.toList)]=
  vgo W ⟨hNo,[.tmp 8],1⟩ ks (VFr.of [(0, .own 0 []),(1, .x (.int .i64 a)),(9, .x (.int .i64 i)),(10, .x (.int .i64 (Sort.scanDown (fun x=>Sort.ltInt d[a]! x) d i j)))]) [.sl nl 3 1 (ivs d.toList)]
 |0,hj,ks=>by
  rw[Sort.scanDown,sb5 c198L1.eq_def]
  simp(disch:=first|omega|fail) only[push_cast,seval,vrl,if_pos,if_neg]
 |j+1,hj,ks=>by
  have hlen:=wr6 d
  have l0:=vz2 (d:=d) (i:=a) ha
  rw[Sort.scanDown]
  by_cases h:i≤j+1
  ·have l1:=vz2 (d:=d) (i:=j+1) hj
   have w:=yg4 (x:=d[a]!) (y:=d[j+1]!)
   cases hl:Sort.ltInt d[a]! d[j+1]! with
   |true=>
    rw[hl]at w
    have ih:=ke2 ha hd hi hi2 j (by omega) ks
    have e0:((j+1:Nat):Int)-1=(j:Int):=by omega
    rw[if_pos (by simpa using h),←ih,sb5 c198L1.eq_def]
    generalize j+1=j1 at*
    simp(disch:=first|omega|fail) only[push_cast,seval,vrl,if_pos,if_neg,e0,l0,l1,w,hlen]
   |false=>
    rw[hl]at w
    rw[if_neg (by simp),sb5 c198L1.eq_def]
    generalize j+1=j1 at*
    simp(disch:=first|omega|fail) only[push_cast,seval,vrl,if_pos,if_neg,l0,l1,w,hlen]
  ·rw[if_neg (by simp;omega),sb5 c198L1.eq_def]
   simp(disch:=first|omega|fail) only[push_cast,seval,vrl,if_pos,if_neg]
theorem vi9{a:Nat}: ∀(n i j:Nat) (d:Array Int),j+1-i≤n→a<i→i≤j+1→j<d.size→d.size≤90000→ ∀ks,
 vgoL W ⟨hNo,[.tmp 8],1⟩ [0,1,9,10] c198L2 (.blk 0 [9]::ks) [(0, .own 0 []),(1, .x (.int .i64 a)),(9, .x (.int .i64 i)),(10, .x (.int .i64 j))] [.sl nl 3 1 (ivs d.toList)]=
  vgo W ⟨hNo,[.tmp 8],1⟩ ks (VFr.of [(9, .x (.int .i64 ((Sort.partEqLoop Sort.ltInt a i j d).1)))]) [.sl nl 3 1 (ivs (Sort.partEqLoop Sort.ltInt a i j d).2.toList)]
 |n,i,j,d,hn,ha,hij,hj,hd,ks=>by
  have e1:=fun ks=>ue8 (nl:=nl) (a:=a) (d:=d) (by omega) (by omega) hj (j+1-i) i (Nat.le_refl _) (by omega) ks
  have g1:=Sort.scanUp_ge (fun x=> !Sort.ltInt d[a]! x) d j i
  have g2:=zs6 (fun x=> !Sort.ltInt d[a]! x) d j i hij
  have g4:=es0 (p:=fun x=> !Sort.ltInt d[a]! x) (q:=fun x=>Sort.ltInt d[a]! x) (fun _=>(Bool.not_not _).symm) d (i:=i) (j:=j) (by omega)
  rw[Sort.partEqLoop_eq]
  generalize Sort.scanUp (fun x=> !Sort.ltInt d[a]! x) d j i=i2 at*
  have e2:=fun ks=>ke2 (nl:=nl) (a:=a) (i:=i2) (d:=d) (by omega) (by omega) (by omega) (by omega) j hj ks
  have g3:=Sort.scanDown_le (fun x=>Sort.ltInt d[a]! x) d i2 j
  generalize Sort.scanDown (fun x=>Sort.ltInt d[a]! x) d i2 j=j2 at*
  by_cases h:i2>j2
  ·rw[if_pos h,sb5 c198L2.eq_def]
   simp(disch:=first|omega|fail) only[push_cast,seval,vrl,if_pos,if_neg]
   rw[e1]
   simp(disch:=first|omega|fail) only[push_cast,seval,vrl,if_pos,if_neg]
   rw[e2]
   simp(disch:=first|omega|fail) only[push_cast,seval,vrl,if_pos,if_neg]
  ·have g5:=g4 h
   rw[if_neg h]
   cases n with
   |zero=>omega
   |succ n=>
    have hsz:=Sort.size_swp d i2 j2
    have ih:=vi9 (a:=a) n (i2+1) (j2-1) (Sort.swp d i2 j2) (by omega) (by omega) (by omega) (by omega) (by omega) ks
    rw[Int.natCast_add i2,Int.natCast_one]at ih
    rw[←ih,←va8,sb5 c198L2.eq_def]
    have l1:=vz2 (d:=d) (i:=i2) (by omega)
    have l2:=vz2 (d:=d) (i:=j2) (by omega)
    have hlen:=wr6 d
    have e0:(j2:Int)-1=((j2-1:Nat):Int):=by omega
    generalize j2-1=j3 at*
    simp(disch:=first|omega|fail) only[push_cast,seval,vrl,if_pos,if_neg]
    rw[e1]
    simp(disch:=first|omega|fail) only[push_cast,seval,vrl,if_pos,if_neg]
    rw[e2]
    simp(disch:=first|omega|fail) only[push_cast,seval,vrl,if_pos,if_neg,l1,l2,hlen,e0]
theorem h06{a b p:Nat}{d:Array Int}(hab:a+1<b)(hp:p<d.size)(hb:b≤d.size)(hd:d.size≤90000):
 o24 W 198 [.own 0 [], .x (.int .i64 a), .x (.int .i64 b), .x (.int .i64 p)] [.sl nl 3 1 (ivs d.toList)]=
  some (.x (.int .i64 (Sort.partitionEqual Sort.ltInt d a b p).1),[],[.sl nl 3 1 (ivs (Sort.partitionEqual Sort.ltInt d a b p).2.toList)]):=by
 have l1:=vz2 (d:=d) (i:=a) (by omega)
 have l2:=vz2 (d:=d) (i:=p) hp
 have hlen:=wr6 d
 have hsw:=va8 d a p
 have hsz:=Sort.size_swp d a p
 have hb1:(b:Int)-1=((b-1:Nat):Int):=by omega
 have ha1:(a:Int)+1=((a+1:Nat):Int):=by omega
 unfold Sort.partitionEqual
 have e:=fun ks=>vi9 (nl:=nl) (a:=a) (b-1+1-(a+1)) (a+1) (b-1) (Sort.swp d a p) (Nat.le_refl _) (by omega) (by omega) (by omega) (by omega) ks
 rw[←hsw]at e
 generalize b-1=b1 at*
 generalize a+1=a1 at*
 rw[o08 rfl T198 rfl]
 unfold F198 c198
 simp(disch:=first|omega|fail) only[push_cast,seval,vrl,if_pos,if_neg,l1,l2,hlen,ha1,hb1]
 rw[e]
 simp(disch:=first|omega|fail) only[push_cast,seval,vrl,if_pos,if_neg]
theorem ga9{a b:Nat}{z8:Int}{d:Array Int}(hb:b≤d.size)(hd:d.size≤90000): ∀(n i:Nat),b-i≤n→1≤i→i≤90001→ ∀ks,
 vgoL W ⟨hNo,[.tmp 6],1⟩ [0,1,2,7,8] c196L0 (.blk 2 [0,1,2,7,8]::ks) [(0, .own 0 []),(1, .x (.int .i64 a)),(2, .x (.int .i64 b)),(7, .x (.int .i64 i)),(8, .x (.int .i64 z8))] [.sl nl 3 1 (ivs d.toList)]=
  vgo W ⟨hNo,[.tmp 6],1⟩ ks (VFr.of [(0, .own 0 []),(1, .x (.int .i64 a)),(2, .x (.int .i64 b)),(7, .x (.int .i64 (Sort.scanSorted Sort.ltInt d b i))),(8, .x (.int .i64 z8))]) [.sl nl 3 1 (ivs d.toList)]
 |n,i,hn,h1,hi,ks=>by
  have hlen:=wr6 d
  rw[Sort.scanSorted]
  by_cases h:i<b
  ·have l1:=vz2 (d:=d) (i:=i) (by omega)
   have l2:=vz2 (d:=d) (i:=i-1) (by omega)
   have e0:(i:Int)-1=((i-1:Nat):Int):=by omega
   have w:=yg4 (x:=d[i]!) (y:=d[i-1]!)
   cases hl:Sort.ltInt d[i]! d[i-1]! with
   |false=>
    rw[hl]at w
    cases n with
    |zero=>omega
    |succ n=>
     have ih:=ga9 (a:=a) (z8:=z8) hb hd n (i+1) (by omega) (by omega) (by omega) ks
     rw[Int.natCast_add i,Int.natCast_one]at ih
     rw[if_pos (by simpa using h),←ih,sb5 c196L0.eq_def]
     generalize i-1=i0 at*
     simp(disch:=first|omega|fail) only[push_cast,seval,vrl,if_pos,if_neg,e0,l1,l2,w,hlen]
   |true=>
    rw[hl]at w
    rw[if_neg (by simp),sb5 c196L0.eq_def]
    generalize i-1=i0 at*
    simp(disch:=first|omega|fail) only[push_cast,seval,vrl,if_pos,if_neg,e0,l1,l2,w,hlen]
  ·rw[if_neg (by simp;omega),sb5 c196L0.eq_def]
   simp(disch:=first|omega|fail) only[push_cast,seval,vrl,if_pos,if_neg]
theorem a99{a b i:Nat}{z8:Int}: ∀(j:Nat) (d:Array Int),j<d.size→d.size≤90000→ ∀ks,
 vgoL W ⟨hNo,[.tmp 6],1⟩ [0,1,2,7,8,9] c196L1 (.blk 4 [0,1,2,7,8]::ks) [(0, .own 0 []),(1, .x (.int .i64 a)),(2, .x (.int .i64 b)),(7, .x (.int .i64 i)),(8, .x (.int .i64 z8)),(9, .x (.int .i64 j))] [.sl nl 3 1 (ivs d.toList)]=
  vgo W ⟨hNo,[.tmp 6],1⟩ ks (VFr.of [(0, .own 0 []),(1, .x (.int .i64 a)),(2, .x (.int .i64 b)),(7, .x (.int .i64 i)),(8, .x (.int .i64 z8))]) [.sl nl 3 1 (ivs (Sort.shiftDown Sort.ltInt j d).toList)]
 |0,d,hj,hd,ks=>by
  rw[Sort.shiftDown,sb5 c196L1.eq_def]
  simp(disch:=first|omega|fail) only[push_cast,seval,vrl,if_pos,if_neg]
 |j+1,d,hj,hd,ks=>by
  have hlen:=wr6 d
  have l1:=vz2 (d:=d) (i:=j+1) hj
  have l2:=vz2 (d:=d) (i:=j) (by omega)
  have e0:((j+1:Nat):Int)-1=(j:Int):=by omega
  have w:=yg4 (x:=d[j+1]!) (y:=d[j]!)
  rw[Sort.shiftDown]
  cases hl:Sort.ltInt d[j+1]! d[j]! with
  |true=>
   rw[hl]at w
   have hsz:=Sort.size_swp d (j+1) j
   have ih:=a99 (a:=a) (b:=b) (i:=i) (z8:=z8) j (Sort.swp d (j+1) j) (by omega) (by omega) ks
   rw[←va8]at ih
   rw[if_neg (by decide),←ih,sb5 c196L1.eq_def]
   generalize j+1=j1 at*
   simp(disch:=first|omega|fail) only[push_cast,seval,vrl,if_pos,if_neg,e0,l1,l2,w,hlen]
  |false=>
   rw[hl]at w
   rw[if_pos (by decide),sb5 c196L1.eq_def]
   generalize j+1=j1 at*
   simp(disch:=first|omega|fail) only[push_cast,seval,vrl,if_pos,if_neg,e0,l1,l2,w,hlen]
theorem r73{a b i:Nat}{z8:Int}: ∀(n j:Nat) (d:Array Int),b-j≤n→1≤j→j≤90001→b≤d.size→d.size≤90000→ ∀ks,
 vgoL W ⟨hNo,[.tmp 6],1⟩ [0,1,2,7,8,10] c196L2 (.blk 6 [0,1,2,7,8]::ks) [(0, .own 0 []),(1, .x (.int .i64 a)),(2, .x (.int .i64 b)),(7, .x (.int .i64 i)),(8, .x (.int .i64 z8)),(10, .x (.int .i64 j))] [.sl nl 3 1 (ivs d.toList)]=
  vgo W ⟨hNo,[.tmp 6],1⟩ ks (VFr.of [(0, .own 0 []),(1, .x (.int .i64 a)),(2, .x (.int .i64 b)),(7, .x (.int .i64 i)),(8, .x (.int .i64 z8))]) [.sl nl 3 1 (ivs (Sort.shiftUp Sort.ltInt b j d).toList)]
 |n,j,d,hn,hj,hj2,hb,hd,ks=>by
  have hlen:=wr6 d
  rw[Sort.shiftUp]
  by_cases h:j<b
  ·have l1:=vz2 (d:=d) (i:=j) (by omega)
   have l2:=vz2 (d:=d) (i:=j-1) (by omega)
   have e0:(j:Int)-1=((j-1:Nat):Int):=by omega
   have w:=yg4 (x:=d[j]!) (y:=d[j-1]!)
   rw[if_pos h]
   cases hl:Sort.ltInt d[j]! d[j-1]! with
   |true=>
    rw[hl]at w
    cases n with
    |zero=>omega
    |succ n=>
     have hsz:=Sort.size_swp d j (j-1)
     have ih:=r73 (a:=a) (b:=b) (i:=i) (z8:=z8) n (j+1) (Sort.swp d j (j-1)) (by omega) (by omega) (by omega) (by omega) (by omega) ks
     rw[←va8,Int.natCast_add j,Int.natCast_one]at ih
     rw[if_neg (by decide),←ih,sb5 c196L2.eq_def]
     generalize j-1=j0 at*
     simp(disch:=first|omega|fail) only[push_cast,seval,vrl,if_pos,if_neg,e0,l1,l2,w,hlen]
   |false=>
    rw[hl]at w
    rw[if_pos (by decide),sb5 c196L2.eq_def]
    generalize j-1=j0 at*
    simp(disch:=first|omega|fail) only[push_cast,seval,vrl,if_pos,if_neg,e0,l1,l2,w,hlen]
  ·rw[if_neg h,sb5 c196L2.eq_def]
   simp(disch:=first|omega|fail) only[push_cast,seval,vrl,if_pos,if_neg]
theorem ga8{α:Type} [Inhabited α](lt:α→α→Bool): ∀(j:Nat) (d:Array α),(Sort.shiftDown lt j d).size=d.size
 |0,d=>rfl
 |j+1,d=>by
  rw[Sort.shiftDown]
  split
  ·rfl
  ·rw[ga8 lt j,Sort.size_swp]
theorem j34{α:Type} [Inhabited α](lt:α→α→Bool)(b:Nat): ∀(n j:Nat) (d:Array α),b-j≤n→(Sort.shiftUp lt b j d).size=d.size
 |n,j,d,hn=>by
  rw[Sort.shiftUp]
  split
  ·split
   ·rfl
   ·cases n with
    |zero=>omega
    |succ n=>rw[j34 lt b n _ _ (by omega),Sort.size_swp]
  ·rfl
theorem mh0{α:Type} [Inhabited α](lt:α→α→Bool)(d:Array α)(b:Nat): ∀(n i:Nat),b-i≤n→i≤Sort.scanSorted lt d b i∧(i≤b→Sort.scanSorted lt d b i≤b)
 |n,i,hn=>by
  rw[Sort.scanSorted]
  split
  ·rename_i h
   have hib:i<b:=by simp at h;omega
   cases n with
   |zero=>omega
   |succ n=>
    have:=mh0 lt d b n (i+1) (by omega)
    exact⟨by omega,fun _=>this.2 (by omega)⟩
  ·exact⟨Nat.le_refl _,fun h=>h⟩
theorem gd6{a b:Nat}(hab:a<b): ∀(s i:Nat) (d:Array Int),s≤5→a<i→i≤b→b≤d.size→d.size≤90000→ ∀ks,(∀fr R,vgo W ⟨hNo,[.tmp 6],1⟩ ks fr R=vret ⟨hNo,[.tmp 6],1⟩ (fr.set 6 (.x (.bool false))) R)→
 vgoL W ⟨hNo,[.tmp 6],1⟩ [0,1,2,7,8] c196L3 (.blk 0 []::ks) [(0, .own 0 []),(1, .x (.int .i64 a)),(2, .x (.int .i64 b)),(7, .x (.int .i64 i)),(8, .x (.int .i64 (5-(s:Int))))] [.sl nl 3 1 (ivs d.toList)]=
  some (.x (.bool (Sort.partialIns Sort.ltInt a b s i d).2),[],[.sl nl 3 1 (ivs (Sort.partialIns Sort.ltInt a b s i d).1.toList)])
 |0,i,d,hs,ha,hi,hb,hd,ks,hk=>by
  rw[Sort.partialIns,sb5 c196L3.eq_def]
  simp(disch:=first|omega|fail) only[push_cast,seval,vrl,if_pos,if_neg,hk]
 |s+1,i,d,hs,ha,hi,hb,hd,ks,hk=>by
  have e1:=fun ks=>ga9 (nl:=nl) (a:=a) (z8:=5-((s+1:Nat):Int)) hb hd (b-i) i (Nat.le_refl _) (by omega) (by omega) ks
  have g1:=mh0 Sort.ltInt d b (b-i) i (Nat.le_refl _)
  rw[Sort.partialIns]
  simp only[]
  generalize Sort.scanSorted Sort.ltInt d b i=i2 at*
  have g2:=g1.2 hi
  have e9:(5:Int)-((s+1:Nat):Int)+1=5-(s:Int):=by omega
  have e8:(5:Int)-((s+1:Nat):Int)<5:=by omega
  have e7:0≤(5:Int)-((s+1:Nat):Int):=by omega
  generalize hz:(5:Int)-((s+1:Nat):Int)=z8 at*
  by_cases h1:i2=b
  ·rw[if_pos h1,sb5 c196L3.eq_def]
   simp(disch:=first|omega|fail) only[push_cast,seval,vrl,if_pos,if_neg]
   rw[e1]
   simp(disch:=first|omega|fail) only[push_cast,seval,vrl,if_pos,if_neg,h1]
  ·rw[if_neg h1]
   have h1': ¬(i2:Int)=(b:Int):=by omega
   by_cases h2:b-a<50
   ·rw[if_pos h2,sb5 c196L3.eq_def]
    simp(disch:=first|omega|fail) only[push_cast,seval,vrl,if_pos,if_neg]
    rw[e1]
    simp(disch:=first|omega|fail) only[push_cast,seval,vrl,if_pos,if_neg,nb8 h1']
   ·rw[if_neg h2]
    have hlen:=wr6 d
    have l1:=vz2 (d:=d) (i:=i2) (by omega)
    have l2:=vz2 (d:=d) (i:=i2-1) (by omega)
    have e0:(i2:Int)-1=((i2-1:Nat):Int):=by omega
    have hsw:=va8 d i2 (i2-1)
    have hsz:=Sort.size_swp d i2 (i2-1)
    have e5:=fun ks=>a99 (nl:=nl) (a:=a) (b:=b) (i:=i2) (z8:=z8) (i2-1) (Sort.swp d i2 (i2-1)) (by omega) (by omega) ks
    have hs1:=ga8 Sort.ltInt (i2-1) (Sort.swp d i2 (i2-1))
    obtain⟨d2,hd2⟩: ∃d2,d2=if i2-a≥2 then Sort.shiftDown Sort.ltInt (i2-1) (Sort.swp d i2 (i2-1))else Sort.swp d i2 (i2-1):=⟨_,rfl⟩
    have hsz2:d2.size=d.size:=by rw[hd2];split<;>omega
    have e6:=fun ks=>r73 (nl:=nl) (a:=a) (b:=b) (i:=i2) (z8:=z8) (b-(i2+1)) (i2+1) d2 (Nat.le_refl _) (by omega) (by omega) (by omega) (by omega) ks
    have hs2:=j34 Sort.ltInt b (b-(i2+1)) (i2+1) d2 (Nat.le_refl _)
    obtain⟨d3,hd3⟩: ∃d3,d3=if b-i2≥2 then Sort.shiftUp Sort.ltInt b (i2+1) d2 else d2:=⟨_,rfl⟩
    have hsz3:d3.size=d.size:=by rw[hd3];split<;>omega
    have ih:=gd6 hab s i2 d3 (by omega) (by omega) (by omega) (by omega) (by omega) ks hk
    rw[←hd2,←hd3,←ih]
    rw[←hsw]at e5
    obtain⟨I,hI⟩: ∃I,I=i2+1:=⟨_,rfl⟩
    obtain⟨J,hJ⟩: ∃J,J=i2-1:=⟨_,rfl⟩
    have e10:(i2:Int)+1=(I:Int):=by omega
    rw[←hI]at e6 hd3
    rw[←hJ]at e5 e0 l2 hsw hd2
    rw[sb5 c196L3.eq_def]
    simp(disch:=first|omega|fail) only[push_cast,seval,vrl,if_pos,if_neg]
    rw[e1]
    by_cases h3:i2-a≥2
    ·rw[if_pos h3]at hd2
     have h3':2≤(i2:Int)-(a:Int):=by omega
     by_cases h4:b-i2≥2
     ·rw[if_pos h4]at hd3
      have h4':2≤(b:Int)-(i2:Int):=by omega
      simp(disch:=first|omega|fail) only[push_cast,seval,vrl,if_pos,if_neg,nb8 h1',l1,l2,hlen,e0,h3']
      rw[e5,←hd2]
      simp(disch:=first|omega|fail) only[push_cast,seval,vrl,if_pos,if_neg,e10,h4']
      rw[e6,←hd3]
      simp(disch:=first|omega|fail) only[push_cast,seval,vrl,if_pos,if_neg,e9]
     ·rw[if_neg h4]at hd3
      have h4': ¬2≤(b:Int)-(i2:Int):=by omega
      simp(disch:=first|omega|fail) only[push_cast,seval,vrl,if_pos,if_neg,nb8 h1',l1,l2,hlen,e0,h3']
      rw[e5,←hd2,←hd3]
      simp(disch:=first|omega|fail) only[push_cast,seval,vrl,if_pos,if_neg,e9,h4']
    ·rw[if_neg h3]at hd2
     have h3': ¬2≤(i2:Int)-(a:Int):=by omega
     by_cases h4:b-i2≥2
     ·rw[if_pos h4]at hd3
      have h4':2≤(b:Int)-(i2:Int):=by omega
      simp(disch:=first|omega|fail) only[push_cast,seval,vrl,if_pos,if_neg,nb8 h1',l1,l2,hlen,e0,h3',e10,h4']
      rw[hsw,←hd2,e6,←hd3]
      simp(disch:=first|omega|fail) only[push_cast,seval,vrl,if_pos,if_neg,e9]
     ·omega
theorem s62{a b:Nat}{d:Array Int}(hab:a<b)(hb:b≤d.size)(hd:d.size≤90000):
 o24 W 196 [.own 0 [], .x (.int .i64 a), .x (.int .i64 b)] [.sl nl 3 1 (ivs d.toList)]=
  some (.x (.bool (Sort.partialInsertionSort Sort.ltInt d a b).2),[],[.sl nl 3 1 (ivs (Sort.partialInsertionSort Sort.ltInt d a b).1.toList)]):=by
 have e:=fun ks hk=>gd6 (nl:=nl) hab 5 (a+1) d (by omega) (by omega) (by omega) hb hd ks hk
 rw[show(5:Int)-((5:Nat):Int)=0 by decide]at e
 unfold Sort.partialInsertionSort
 obtain⟨A,hA⟩: ∃A,A=a+1:=⟨_,rfl⟩
 have ha1:(a:Int)+1=(A:Int):=by omega
 rw[←hA]at e⊢
 rw[o08 rfl T196 rfl]
 unfold F196 c196
 simp(disch:=first|omega|fail) only[push_cast,seval,vrl,if_pos,if_neg,ha1]
 rw[e]
 intro fr R
 simp(disch:=first|omega|fail) only[push_cast,seval,vrl,if_pos,if_neg]
end
theorem re0:((List.range 256).all fun i=>match({data:= #[0,1,2,2,3,3,3,3,4,4,4,4,4,4,4,4,5,5,5,5,5,5,5,5,5,5,5,5,5,5,5,5,6,6,6,6,6,6,6,6,6,6,6,6,6,6,6,6,6,6,6,6,6,6,6,6,6,6,6,6,6,6,6,6,7,7,7,7,7,7,7,7,7,7,7,7,7,7,7,7,7,7,7,7,7,7,7,7,7,7,7,7,7,7,7,7,7,7,7,7,7,7,7,7,7,7,7,7,7,7,7,7,7,7,7,7,7,7,7,7,7,7,7,7,7,7,7,7,8,8,8,8,8,8,8,8,8,8,8,8,8,8,8,8,8,8,8,8,8,8,8,8,8,8,8,8,8,8,8,8,8,8,8,8,8,8,8,8,8,8,8,8,8,8,8,8,8,8,8,8,8,8,8,8,8,8,8,8,8,8,8,8,8,8,8,8,8,8,8,8,8,8,8,8,8,8,8,8,8,8,8,8,8,8,8,8,8,8,8,8,8,8,8,8,8,8,8,8,8,8,8,8,8,8,8,8,8,8,8,8,8,8,8,8,8,8,8,8,8,8,8,8,8,8,8,8]}:ByteArray)[i]? with
 |some b=>decide (b.toNat=Sort.bitsLen i)
 |none=>false)=true:=by kernel_rfl
theorem su3{i:Nat}(h:i<256): ∃b:UInt8,({data:= #[0,1,2,2,3,3,3,3,4,4,4,4,4,4,4,4,5,5,5,5,5,5,5,5,5,5,5,5,5,5,5,5,6,6,6,6,6,6,6,6,6,6,6,6,6,6,6,6,6,6,6,6,6,6,6,6,6,6,6,6,6,6,6,6,7,7,7,7,7,7,7,7,7,7,7,7,7,7,7,7,7,7,7,7,7,7,7,7,7,7,7,7,7,7,7,7,7,7,7,7,7,7,7,7,7,7,7,7,7,7,7,7,7,7,7,7,7,7,7,7,7,7,7,7,7,7,7,7,8,8,8,8,8,8,8,8,8,8,8,8,8,8,8,8,8,8,8,8,8,8,8,8,8,8,8,8,8,8,8,8,8,8,8,8,8,8,8,8,8,8,8,8,8,8,8,8,8,8,8,8,8,8,8,8,8,8,8,8,8,8,8,8,8,8,8,8,8,8,8,8,8,8,8,8,8,8,8,8,8,8,8,8,8,8,8,8,8,8,8,8,8,8,8,8,8,8,8,8,8,8,8,8,8,8,8,8,8,8,8,8,8,8,8,8,8,8,8,8,8,8,8,8,8,8,8,8]}:ByteArray)[i]? =some b∧b.toNat=Sort.bitsLen i:=by
 have h1:=List.all_eq_true.1 re0 i (List.mem_range.2 h)
 split at h1
 ·rename_i b hb
  exact⟨b,hb,of_decide_eq_true h1⟩
 ·cases h1
theorem x11{n:Nat}(h:256≤n):Sort.bitsLen n=8+Sort.bitsLen (n/256):=by
 have h1:Sort.bitsLen n≤8+Sort.bitsLen (n/256):=by
  rw[Sort.bitsLen_le_iff,Nat.pow_add]
  have:=Sort.lt_two_pow_bitsLen (n/256)
  generalize 2^Sort.bitsLen (n/256)=P at*
  have e:(2:Nat)^8=256:=by decide
  rw[e]
  have:=Nat.div_add_mod n 256
  have:=Nat.mod_lt n (show 0<256 by decide)
  have:=Nat.mul_le_mul_left 256 (show n/256+1≤P by omega)
  omega
 have h2:9≤Sort.bitsLen n:=by
  refine Nat.lt_of_not_le fun h3=> ?_
  have:=(Sort.bitsLen_le_iff n 8).1 h3
  omega
 have h3:Sort.bitsLen (n/256)≤Sort.bitsLen n-8:=by
  rw[Sort.bitsLen_le_iff]
  have h4:=Sort.lt_two_pow_bitsLen n
  obtain⟨k,hk⟩: ∃k,Sort.bitsLen n=k+8:=⟨Sort.bitsLen n-8,by omega⟩
  rw[hk,Nat.pow_add]at h4
  rw[hk,show k+8-8=k by omega]
  exact Nat.div_lt_of_lt_mul (by rw[Nat.mul_comm];exact h4)
 omega
theorem wq9{n:Nat}(h:n<65536):Sort.bitsLen n≤16:=(Sort.bitsLen_le_iff n 16).2 h
theorem ua5{n:Nat}(h:n<65536):o24 W 187 [.x (.int .u64 n)] []=some (.x (.int .i64 (Sort.bitsLen n)),[],[]):=by
 by_cases h1:256≤n
 ·obtain⟨b,h2,h3⟩:=su3 (i:=n/256) (by omega)
  have hbl:=wq9 (n:=n/256) (by omega)
  have e1:(n:Int).fdiv (2^min 8 (IntKind.bits .u64))=((n/256:Nat):Int):=by
   rw[show(2:Int)^min 8 (IntKind.bits .u64)=256 by decide,Int.fdiv_eq_ediv_of_nonneg _ (by decide)];omega
  have hn:n/256<256:=by omega
  have hw8:IntKind.wrap .u8 ((n/256:Nat):Int)=((n/256:Nat):Int):=by unfold IntKind.wrap;simp[IntKind.bits,IntKind.signed];omega
  rw[x11 h1,Int.natCast_add]
  generalize n/256=m at*
  rw[o08 rfl T187 rfl]
  unfold F187 c187
  simp(disch:=first|omega|fail) only[push_cast,seval,vrl,if_pos,if_neg,e1,hw8,h2,h3]
 ·obtain⟨b,h2,h3⟩:=su3 (i:=n) (by omega)
  have hbl:=wq9 (n:=n) (by omega)
  have hw8:IntKind.wrap .u8 (n:Int)=(n:Int):=by unfold IntKind.wrap;simp[IntKind.bits,IntKind.signed];omega
  rw[o08 rfl T187 rfl]
  unfold F187 c187
  simp(disch:=first|omega|fail) only[push_cast,seval,vrl,if_pos,if_neg,hw8,h2,h3]
theorem ub0{n:Nat}(h:n<65536):o24 W 143 [.x (.int .u64 n)] []=some (.x (.int .i64 (Sort.bitsLen n)),[],[]):=by
 have e:=ua5 h
 rw[o08 rfl T143 rfl]
 unfold F143 c143
 simp(disch:=first|omega|fail) only[push_cast,seval,vrl,if_pos,if_neg,e]
theorem la4(x:Int){y:Int}(h0:0≤y)(h1:y<18446744073709551616):0≤Go.bits .and .u64 x y∧Go.bits .and .u64 x y≤y:=by
 have hb: ∀z:Int,z=18446744073709551616→True:=fun _ _=>trivial
 have e:Go.bits .and .u64 x y=IntKind.wrap .u64 (((BitVec.ofInt 64 x&&&BitVec.ofInt 64 y).toNat:Nat):Int):=rfl
 have h2:(BitVec.ofInt 64 x&&&BitVec.ofInt 64 y).toNat≤(BitVec.ofInt 64 y).toNat:=by
  rw[BitVec.toNat_and];exact Nat.and_le_right
 have h3:(BitVec.ofInt 64 y).toNat=y.toNat:=by
  rw[BitVec.toNat_ofInt]
  have:y%((2^64:Nat):Int)=y:=Int.emod_eq_of_lt h0 (by simpa using h1)
  rw[this]
 rw[h3]at h2
 rw[e]
 generalize (BitVec.ofInt 64 x&&&BitVec.ofInt 64 y).toNat=k at*
 have h4:IntKind.wrap .u64 (k:Int)=(k:Int):=by
  unfold IntKind.wrap
  simp[IntKind.bits,IntKind.signed]
  omega
 rw[h4]
 omega
def nxA(r:Int):Int:=Go.bits .xor .u64 r (IntKind.wrap .u64 (r*2^min 13 (IntKind.bits .u64)))
def nxB(r:Int):Int:=Go.bits .xor .u64 r (r.fdiv (2^min 7 (IntKind.bits .u64)))
def nxC(r:Int):Int:=Go.bits .xor .u64 r (IntKind.wrap .u64 (r*2^min 17 (IntKind.bits .u64)))
theorem ll0{e:Nat}{r:Int}:o24 W 214 [.own 0 []] [.pt e [.v (.int .u64 r)]]=some (.x (.int .u64 (nxC (nxB (nxA r)))),[],[.pt e [.v (.int .u64 (nxC (nxB (nxA r))))]]):=by
 rw[o08 rfl T214 rfl]
 unfold F214 c214 nxC nxB nxA
 simp(disch:=first|omega|fail) only[push_cast,seval,vrl,if_pos,if_neg]
theorem x45{n:Nat}(h:n<65536):o24 W 213 [.x (.int .i64 n)] []=some (.x (.int .u64 ((2^Sort.bitsLen n:Nat):Int)),[],[]):=by
 have e:=ub0 h
 have hbl:=wq9 h
 have hw:IntKind.wrap .u64 (n:Int)=(n:Int):=by unfold IntKind.wrap;simp[IntKind.bits,IntKind.signed];omega
 have hp:2^Sort.bitsLen n≤2^16:=Nat.pow_le_pow_right (by decide) hbl
 have e1:IntKind.wrap .u64 (1*2^min (Sort.bitsLen n) (IntKind.bits .u64))=((2^Sort.bitsLen n:Nat):Int):=by
  rw[show min (Sort.bitsLen n) (IntKind.bits .u64)=Sort.bitsLen n from Nat.min_eq_left (Nat.le_trans hbl (by decide)),Int.one_mul]
  have h2:((2:Int)^Sort.bitsLen n)=((2^Sort.bitsLen n:Nat):Int):=by simp
  rw[h2]
  generalize 2^Sort.bitsLen n=k at*
  unfold IntKind.wrap
  simp[IntKind.bits,IntKind.signed]
  omega
 generalize Sort.bitsLen n=k at*
 generalize 2^k=P at*
 rw[o08 rfl T213 rfl]
 unfold F213 c213
 simp(disch:=first|omega|fail) only[push_cast,seval,vrl,if_pos,if_neg,hw,e,e1]
section
variable {bb:Bool} {nl:Nat} {d:Array Int}
set_option maxHeartbeats 4000000
theorem co4{a b:Nat}(hab:8≤b-a)(hb:b≤d.size)(hd:d.size≤60000):
 o24 W 194 [.fz bb (.sl nl 0 1 (ivs d.toList)), .x (.int .i64 a), .x (.int .i64 b)] []=
  some (.tup [.x (.int .i64 (Sort.choosePivot Sort.ltInt d a b).1), .x (.int .i64 (Sort.hintCode (Sort.choosePivot Sort.ltInt d a b).2))],[],[]):=by
 rw[Sort.choosePivot_eq]
 unfold Sort.rawPivot Sort.hintOf
 obtain⟨n,hn⟩: ∃n,n=b-a:=⟨_,rfl⟩
 obtain⟨Q,hQ⟩: ∃Q,Q=n/4:=⟨_,rfl⟩
 have e0:(b:Int)-(a:Int)=(n:Int):=by omega
 have e1:(n:Int).tdiv 4=(Q:Int):=by rw[Int.tdiv_eq_ediv_of_nonneg (by omega)];omega
 obtain⟨I,hI⟩: ∃I,I=a+Q*1:=⟨_,rfl⟩
 obtain⟨J,hJ⟩: ∃J,J=a+Q*2:=⟨_,rfl⟩
 obtain⟨K,hK⟩: ∃K,K=a+Q*3:=⟨_,rfl⟩
 have e2:(a:Int)+(Q:Int)*1=(I:Int):=by omega
 have e2':(a:Int)+(Q:Int)=(I:Int):=by omega
 have e3:(a:Int)+(Q:Int)*2=(J:Int):=by omega
 have e4:(a:Int)+(Q:Int)*3=(K:Int):=by omega
 simp only[←hn,←hQ,←hI,←hJ,←hK]
 rw[←hn]at hab
 rw[if_pos (show n≥8 from hab)]
 have hQn:4*Q≤n∧n≤4*Q+3:=by omega
 by_cases h50:n≥50
 ·rw[if_pos h50]
  have w1:=gb0 (bb:=bb) (nl:=nl) (e:=3) (d:=d) (a:=I) (s:=0) (by omega) (by omega) (by omega) (by omega)
  have m1:=Sort.medianAdjacent_mem Sort.ltInt d I 0
  have c1:=Sort.medianAdjacent_count Sort.ltInt d I 0
  generalize Sort.medianAdjacent Sort.ltInt d I 0=r1 at*
  have w2:=gb0 (bb:=bb) (nl:=nl) (e:=3) (d:=d) (a:=J) (s:=r1.2) (by omega) (by omega) (by omega) (by omega)
  have m2:=Sort.medianAdjacent_mem Sort.ltInt d J r1.2
  have c2:=Sort.medianAdjacent_count Sort.ltInt d J r1.2
  generalize Sort.medianAdjacent Sort.ltInt d J r1.2=r2 at*
  have w3:=gb0 (bb:=bb) (nl:=nl) (e:=3) (d:=d) (a:=K) (s:=r2.2) (by omega) (by omega) (by omega) (by omega)
  have m3:=Sort.medianAdjacent_mem Sort.ltInt d K r2.2
  have c3:=Sort.medianAdjacent_count Sort.ltInt d K r2.2
  generalize Sort.medianAdjacent Sort.ltInt d K r2.2=r3 at*
  have w4:=uo9 (bb:=bb) (nl:=nl) (e:=3) (d:=d) (a:=r1.1) (b:=r2.1) (c:=r3.1) (s:=r3.2) (by omega) (by omega) (by omega) (by omega) (by omega)
  generalize Sort.median Sort.ltInt d r1.1 r2.1 r3.1 r3.2=r4 at*
  rw[Int.natCast_zero]at w1
  rw[o08 rfl T194 rfl]
  unfold F194 c194
  by_cases h0:r4.2=0
  ·have h0':(r4.2:Int)=0:=by omega
   rw[if_pos h0]
   simp(disch:=first|omega|fail) only[push_cast,seval,vrl,if_pos,if_neg,e0,e1,e2,e2',e3,e4,w1,w2,w3,w4,Sort.hintCode,h0']
  ·have h0': ¬(r4.2:Int)=0:=by omega
   rw[if_neg h0]
   by_cases h12:r4.2=12
   ·have h12':(r4.2:Int)=12:=by omega
    rw[if_pos h12]
    simp(disch:=first|omega|fail) only[push_cast,seval,vrl,if_pos,if_neg,e0,e1,e2,e2',e3,e4,w1,w2,w3,w4,Sort.hintCode,h12']
   ·have h12': ¬(r4.2:Int)=12:=by omega
    rw[if_neg h12]
    simp(disch:=first|omega|fail) only[push_cast,seval,vrl,if_pos,if_neg,e0,e1,e2,e2',e3,e4,w1,w2,w3,w4,Sort.hintCode,nb8 h0',nb8 h12']
 ·rw[if_neg h50]
  have w4:=uo9 (bb:=bb) (nl:=nl) (e:=3) (d:=d) (a:=I) (b:=J) (c:=K) (s:=0) (by omega) (by omega) (by omega) (by omega) (by omega)
  generalize Sort.median Sort.ltInt d I J K 0=r4 at*
  rw[Int.natCast_zero]at w4
  rw[o08 rfl T194 rfl]
  unfold F194 c194
  by_cases h0:r4.2=0
  ·have h0':(r4.2:Int)=0:=by omega
   rw[if_pos h0]
   simp(disch:=first|omega|fail) only[push_cast,seval,vrl,if_pos,if_neg,e0,e1,e2,e2',e3,e4,w4,Sort.hintCode,h0']
  ·have h0': ¬(r4.2:Int)=0:=by omega
   rw[if_neg h0]
   by_cases h12:r4.2=12
   ·have h12':(r4.2:Int)=12:=by omega
    rw[if_pos h12]
    simp(disch:=first|omega|fail) only[push_cast,seval,vrl,if_pos,if_neg,e0,e1,e2,e2',e3,e4,w4,Sort.hintCode,h12']
   ·have h12': ¬(r4.2:Int)=12:=by omega
    rw[if_neg h12]
    simp(disch:=first|omega|fail) only[push_cast,seval,vrl,if_pos,if_neg,e0,e1,e2,e2',e3,e4,w4,Sort.hintCode,nb8 h0',nb8 h12']
end
section
variable {nl:Nat}
theorem iq2{a b n e:Nat}{z8:Int}(hn:n=b-a)(h8:8≤n)(hp:0≤z8-1∧z8-1<2*(n:Int)): ∀(k idx:Nat) (d:Array Int) (r:Int),idx+k=a+n/4*2+2→a≤idx→b≤d.size→d.size≤60000→ ∃(d':Array Int) (r':Int),Sort.PermIn a b d d'∧ ∀ks,
 vgoL W ⟨hNo,[],1⟩ [0,1,6,7,8,9] c193L0 (.blk 0 []::ks) [(0, .own 0 []),(1, .x (.int .i64 a)),(6, .x (.int .i64 n)),(7, .own 1 []),(8, .x (.int .u64 z8)),(9, .x (.int .i64 idx))] [.sl nl 3 1 (ivs d.toList), .pt e [.v (.int .u64 r)]]=
  vgo W ⟨hNo,[],1⟩ ks (VFr.of []) [.sl nl 3 1 (ivs d'.toList), .pt e [.v (.int .u64 r')]]
 |0,idx,d,r,hi,ha,hb,hd=>by
  refine⟨d,r,Sort.permIn_refl _ _ _,fun ks=> ?_⟩
  obtain⟨Q,hQ⟩: ∃Q,Q=n/4:=⟨_,rfl⟩
  have e1:(n:Int).tdiv 4=(Q:Int):=by rw[Int.tdiv_eq_ediv_of_nonneg (by omega)];omega
  rw[←hQ]at hi
  rw[sb5 c193L0.eq_def]
  simp(disch:=first|omega|fail) only[push_cast,seval,vrl,if_pos,if_neg,e1]
 |k+1,idx,d,r,hi,ha,hb,hd=>by
  obtain⟨Q,hQ⟩: ∃Q,Q=n/4:=⟨_,rfl⟩
  have e1:(n:Int).tdiv 4=(Q:Int):=by rw[Int.tdiv_eq_ediv_of_nonneg (by omega)];omega
  have hnx:=ll0 (e:=e) (r:=r)
  obtain⟨r1,hr1⟩: ∃r1,r1=nxC (nxB (nxA r)):=⟨_,rfl⟩
  rw[←hr1]at hnx
  have hand:=la4 r1 hp.1 (by omega)
  obtain⟨o1,ho1⟩: ∃o1:Nat,Go.bits .and .u64 r1 (z8-1)=(o1:Int):=⟨(Go.bits .and .u64 r1 (z8-1)).toNat,by omega⟩
  rw[ho1]at hand
  have hwz:IntKind.wrap .u64 (z8-1)=z8-1:=by
   unfold IntKind.wrap
   simp[IntKind.bits,IntKind.signed]
   omega
  have hlen:=wr6 d
  have hsb:idx<b:=by omega
  by_cases ho:n≤o1
  ·obtain⟨o2,ho2⟩: ∃o2,o2=o1-n:=⟨_,rfl⟩
   have e2:(o1:Int)-(n:Int)=(o2:Int):=by omega
   obtain⟨A,hA⟩: ∃A,A=a+o2:=⟨_,rfl⟩
   have e3:(a:Int)+(o2:Int)=(A:Int):=by omega
   have hsz:=Sort.size_swp d idx A
   obtain⟨d',r',h1,h2⟩:=iq2 (e:=e) hn h8 hp k (idx+1) (Sort.swp d idx A) r1 (by omega) (by omega) (by omega) (by omega)
   refine⟨d',r',Sort.permIn_trans _ _ _ _ _ (Sort.swp_permIn d a b idx A ha hsb (by omega) (by omega) hb) h1,fun ks=> ?_⟩
   have ih:=h2 ks
   rw[←va8,Int.natCast_add idx,Int.natCast_one]at ih
   have l1:=vz2 (d:=d) (i:=idx) (by omega)
   have l2:=vz2 (d:=d) (i:=A) (by omega)
   rw[←hQ]at hi
   rw[←ih,sb5 c193L0.eq_def]
   simp(disch:=first|omega|fail) only[push_cast,seval,vrl,if_pos,if_neg,e1,hnx,hwz,ho1,e2,e3,l1,l2,hlen]
  ·obtain⟨A,hA⟩: ∃A,A=a+o1:=⟨_,rfl⟩
   have e3:(a:Int)+(o1:Int)=(A:Int):=by omega
   have hsz:=Sort.size_swp d idx A
   obtain⟨d',r',h1,h2⟩:=iq2 (e:=e) hn h8 hp k (idx+1) (Sort.swp d idx A) r1 (by omega) (by omega) (by omega) (by omega)
   refine⟨d',r',Sort.permIn_trans _ _ _ _ _ (Sort.swp_permIn d a b idx A ha hsb (by omega) (by omega) hb) h1,fun ks=> ?_⟩
   have ih:=h2 ks
   rw[←va8,Int.natCast_add idx,Int.natCast_one]at ih
   have l1:=vz2 (d:=d) (i:=idx) (by omega)
   have l2:=vz2 (d:=d) (i:=A) (by omega)
   rw[←hQ]at hi
   rw[←ih,sb5 c193L0.eq_def]
   simp(disch:=first|omega|fail) only[push_cast,seval,vrl,if_pos,if_neg,e1,hnx,hwz,ho1,e3,l1,l2,hlen]
theorem v48{a b:Nat}{d:Array Int}(hab:12<b-a)(hb:b≤d.size)(hd:d.size≤60000): ∃d':Array Int,Sort.PermIn a b d d'∧
 o24 W 193 [.own 0 [], .x (.int .i64 a), .x (.int .i64 b)] [.sl nl 3 1 (ivs d.toList)]=some (.tup [],[],[.sl nl 3 1 (ivs d'.toList)]):=by
 obtain⟨n,hn⟩: ∃n,n=b-a:=⟨_,rfl⟩
 obtain⟨Q,hQ⟩: ∃Q,Q=n/4:=⟨_,rfl⟩
 obtain⟨X,hX⟩: ∃X,X=a+Q*2-1:=⟨_,rfl⟩
 have e0:(b:Int)-(a:Int)=(n:Int):=by omega
 have e1:(n:Int).tdiv 4=(Q:Int):=by rw[Int.tdiv_eq_ediv_of_nonneg (by omega)];omega
 have e2:(a:Int)+(Q:Int)*2-1=(X:Int):=by omega
 have hp2:=x45 (n:=n) (by omega)
 have hpl:=Sort.two_pow_bitsLen_le (n:=n) (by omega)
 have hpp:0<2^Sort.bitsLen n:=Nat.two_pow_pos _
 have hw:IntKind.wrap .u64 (n:Int)=(n:Int):=by
  unfold IntKind.wrap
  simp[IntKind.bits,IntKind.signed]
  omega
 obtain⟨d',r',h1,h2⟩:=iq2 (nl:=nl) (a:=a) (b:=b) (n:=n) (e:=207) (z8:=((2^Sort.bitsLen n:Nat):Int)) hn (by omega) (by omega) 3 X d (n:Int) (by omega) (by omega) hb hd
 refine⟨d',h1, ?_⟩
 generalize 2^Sort.bitsLen n=P at*
 rw[o08 rfl T193 rfl]
 unfold F193 c193
 simp(disch:=first|omega|fail) only[push_cast,seval,vrl,if_pos,if_neg,e0,e1,e2,hp2,hw]
 rw[h2]
 simp(disch:=first|omega|fail) only[push_cast,seval,vrl,if_pos,if_neg]
end
set_option maxHeartbeats 4000000
def inB:ACode→ACode
 | .block _ _ b=>b
 |c=>c
abbrev pqC:Ctx:=⟨hNo,[],1⟩
abbrev pqK:List It:=[.blk 1 [0,1,2,3,8,9], .lp [0,1,2,3,8,9] c146L0, .blk 0 []]
def PqOK(nl a b limit:Nat)(wb wp:Bool)(d:Array Int):Prop:= ∃d':Array Int,Sort.PermIn a b d d'∧Sort.SortedIn Sort.ltInt a b d'∧ ∀ks,ks=[]→
 vgoL W ⟨hNo,[],1⟩ [0,1,2,3,8,9] c146L0 (.blk 0 []::ks) [(0, .own 0 []),(1, .x (.int .i64 a)),(2, .x (.int .i64 b)),(3, .x (.int .i64 limit)),(8, .x (.bool wb)),(9, .x (.bool wp))] [.sl nl 3 1 (ivs d.toList)]=some (.tup [],[],[.sl nl 3 1 (ivs d'.toList)])
def gy3(nl N:Nat):Prop:= ∀(a b limit:Nat) (wb wp:Bool) (d:Array Int),b-a<N→a≤b→b≤d.size→d.size≤60000→limit≤100→Sort.Below Sort.ltInt a b d→PqOK nl a b limit wb wp d
theorem a06{nl a b limit:Nat}{d:Array Int}(h:PqOK nl a b limit true true d): ∃d':Array Int,Sort.PermIn a b d d'∧Sort.SortedIn Sort.ltInt a b d'∧o24 W 146 [.own 0 [], .x (.int .i64 a), .x (.int .i64 b), .x (.int .i64 limit)] [.sl nl 3 1 (ivs d.toList)]=some (.tup [],[],[.sl nl 3 1 (ivs d'.toList)]):=by
 obtain⟨d',h1,h2,h3⟩:=h
 refine⟨d',h1,h2, ?_⟩
 have e:=h3 [] rfl
 rw[o08 rfl T146 rfl]
 unfold F146 c146
 simp(disch:=first|omega|fail) only[push_cast,seval,vrl,if_pos,if_neg]
 rw[e]
structure PqF (fr:VFr) (a b limit:Nat) (wb wp:Bool) (p:Nat):Prop where
 f0:fr 0=some (.own 0 [])
 f1:fr 1=some (.x (.int .i64 a))
 f2:fr 2=some (.x (.int .i64 b))
 f3:fr 3=some (.x (.int .i64 limit))
 f8:fr 8=some (.x (.bool wb))
 f9:fr 9=some (.x (.bool wp))
 f10:fr 10=some (.x (.int .i64 ((b-a:Nat):Int)))
 f11:fr 11=some (.x (.int .i64 p))
theorem pq_b{nl N a b limit p:Nat}{wb wp:Bool}{d:Array Int}(IH:gy3 nl N)(hN:b-a≤N)(h12:12<b-a)(hb:b≤d.size)(hd:d.size≤60000)(hl:limit≤100)(hB:Sort.Below Sort.ltInt a b d)(hp1:a≤p)(hp2:p<b):
 ∃d':Array Int,Sort.PermIn a b d d'∧Sort.SortedIn Sort.ltInt a b d'∧ ∀fr,PqF fr a b limit wb wp p→vgo W pqC (.code (seqR 7 (inB c146L0))::pqK) fr [.sl nl 3 1 (ivs d.toList)]=some (.tup [],[],[.sl nl 3 1 (ivs d'.toList)]):=by
 have hlen:=wr6 d
 have l2:=vz2 (d:=d) (i:=p) (by omega)
 by_cases heq:0<a∧Sort.ltInt d[a-1]! d[p]! =false
 ·obtain⟨ha,hlt⟩:=heq
  have l1:=vz2 (d:=d) (i:=a-1) (by omega)
  have w:=yg4 (x:=d[a-1]!) (y:=d[p]!)
  rw[hlt]at w
  have e0:(a:Int)-1=((a-1:Nat):Int):=by omega
  have e1:=h06 (nl:=nl) (a:=a) (b:=b) (p:=p) (d:=d) (by omega) (by omega) hb (by omega)
  obtain⟨r1,r2,r3,r4,r5⟩:=Sort.round_eq Sort.swo_ltInt (Sort.partitionEqual_holds _) ha hp1 hp2 hb hB hlt (mid:=(Sort.partitionEqual Sort.ltInt d a b p).1) (d4:=(Sort.partitionEqual Sort.ltInt d a b p).2) rfl
  generalize Sort.partitionEqual Sort.ltInt d a b p=r at*
  obtain⟨d',k1,k2,k3⟩:=IH r.1 b limit wb wp r.2 (by omega) r2 (by omega) (by omega) hl r4
  obtain⟨q1,q2⟩:=r5 d' k1 k2
  refine⟨d',q1,q2,fun fr hF=> ?_⟩
  obtain⟨f0,f1,f2,f3,f8,f9,f10,f11⟩:=hF
  have ih:=k3 [] rfl
  obtain⟨q,hq⟩: ∃q,q=seqR 7 (inB c146L0):=⟨_,rfl⟩
  rw[←hq,←ih]
  rw[c146L0.eq_def]at hq
  simp only[inB,seqR]at hq
  generalize a-1=a1 at*
  rw[hq]
  unfold pqK pqC
  simp(disch:=first|omega|fail) only[push_cast,seval,vrl,if_pos,if_neg,f0,f1,f2,f3,f8,f9,f10,f11,l1,l2,w,hlen,e0,e1]
 ·have e1:=n92 (nl:=nl) (a:=a) (b:=b) (p:=p) (d:=d) (by omega) (by omega) hb (by omega)
  obtain⟨r1,r2,r3,r4,r5,r6,r7⟩:=Sort.round_part Sort.swo_ltInt (Sort.partition_holds _) hp1 hp2 hb hB (mid:=(Sort.partition Sort.ltInt d a b p).1) (ap:=(Sort.partition Sort.ltInt d a b p).2.1) (d4:=(Sort.partition Sort.ltInt d a b p).2.2) rfl
  have hlay:=fun(w0:Bool) (L:Array Int) (x y:Nat) (h:y-x<N) (h1:x≤y) (h2:y≤L.size) (h3:L.size≤60000) (h4:Sort.Below Sort.ltInt x y L)=>IH x y limit w0 (Sort.partition Sort.ltInt d a b p).2.1 L h h1 h2 h3 hl h4
  have hcal:=fun(L:Array Int) (x y:Nat) (h:y-x<N) (h1:x≤y) (h2:y≤L.size) (h3:L.size≤60000) (h4:Sort.Below Sort.ltInt x y L)=>a06 (IH x y limit true true L h h1 h2 h3 hl h4)
  generalize Sort.partition Sort.ltInt d a b p=r at*
  obtain⟨mid,ap,d4⟩:=r
  simp only[]at r1 r2 r3 r4 r5 r6 r7 hlay e1
  obtain⟨n,hn⟩: ∃n,n=b-a:=⟨_,rfl⟩
  obtain⟨Q,hQ⟩: ∃Q,Q=n/8:=⟨_,rfl⟩
  obtain⟨u,hu⟩: ∃u,u=mid-a:=⟨_,rfl⟩
  obtain⟨v,hv⟩: ∃v,v=b-mid:=⟨_,rfl⟩
  obtain⟨M,hM⟩: ∃M,M=mid+1:=⟨_,rfl⟩
  have e2:(n:Int).tdiv 8=(Q:Int):=by rw[Int.tdiv_eq_ediv_of_nonneg (by omega)];omega
  have e3:(mid:Int)-(a:Int)=(u:Int):=by omega
  have e4:(b:Int)-(mid:Int)=(v:Int):=by omega
  have e5:(mid:Int)+1=(M:Int):=by omega
  rw[←hM]at r5 r6 r7
  obtain⟨q,hq⟩: ∃q,q=seqR 7 (inB c146L0):=⟨_,rfl⟩
  rw[←hq]
  rw[c146L0.eq_def]at hq
  simp only[inB,seqR]at hq
  by_cases huv:u<v
  ·obtain⟨L,k1,k2,k3⟩:=hcal d4 a mid (by omega) r1 (by omega) (by omega) r4
   obtain⟨g1,g2⟩:=r6 L k1 k2
   obtain⟨d',m1,m2,m3⟩:=hlay (decide (Q≤u)) L M b (by omega) (by omega) (by rw[k1.1];omega) (by rw[k1.1];omega) g1
   obtain⟨q1,q2⟩:=g2 d' m1 m2
   refine⟨d',q1,q2,fun fr hF=> ?_⟩
   obtain⟨f0,f1,f2,f3,f8,f9,f10,f11⟩:=hF
   rw[←hn]at f10
   have ih:=m3 [] rfl
   have hdc:decide ((Q:Int)≤(u:Int))=decide (Q≤u):=decide_eq_decide.2 (by omega)
   by_cases ha:0<a
   ·have l1:=vz2 (d:=d) (i:=a-1) (by omega)
    have w:=yg4 (x:=d[a-1]!) (y:=d[p]!)
    rw[show Sort.ltInt d[a-1]! d[p]! =true by
     cases hlt:Sort.ltInt d[a-1]! d[p]! with
     |true=>rfl
     |false=>exact absurd ⟨ha,hlt⟩ heq]at w
    have e0:(a:Int)-1=((a-1:Nat):Int):=by omega
    generalize a-1=a1 at*
    rw[←ih,hq]
    unfold pqK pqC
    simp(disch:=first|omega|fail) only[push_cast,seval,vrl,if_pos,if_neg,f0,f1,f2,f3,f8,f9,f10,f11,l1,l2,w,hlen,e0,e1,e2,e3,e4,e5,k3,hdc]
   ·have ha0:a=0:=by omega
    rw[←ih,hq]
    unfold pqK pqC
    simp(disch:=first|omega|fail) only[push_cast,seval,vrl,if_pos,if_neg,f0,f1,f2,f3,f8,f9,f10,f11,l2,hlen,e1,e2,e3,e4,e5,k3,hdc]
  ·obtain⟨L,k1,k2,k3⟩:=hcal d4 M b (by omega) (by omega) (by omega) (by omega) r5
   obtain⟨g1,g2⟩:=r7 L k1 k2
   obtain⟨d',m1,m2,m3⟩:=hlay (decide (Q≤v)) L a mid (by omega) r1 (by rw[k1.1];omega) (by rw[k1.1];omega) g1
   obtain⟨q1,q2⟩:=g2 d' m1 m2
   refine⟨d',q1,q2,fun fr hF=> ?_⟩
   obtain⟨f0,f1,f2,f3,f8,f9,f10,f11⟩:=hF
   rw[←hn]at f10
   have ih:=m3 [] rfl
   have hdc:decide ((Q:Int)≤(v:Int))=decide (Q≤v):=decide_eq_decide.2 (by omega)
   by_cases ha:0<a
   ·have l1:=vz2 (d:=d) (i:=a-1) (by omega)
    have w:=yg4 (x:=d[a-1]!) (y:=d[p]!)
    rw[show Sort.ltInt d[a-1]! d[p]! =true by
     cases hlt:Sort.ltInt d[a-1]! d[p]! with
     |true=>rfl
     |false=>exact absurd ⟨ha,hlt⟩ heq]at w
    have e0:(a:Int)-1=((a-1:Nat):Int):=by omega
    generalize a-1=a1 at*
    rw[←ih,hq]
    unfold pqK pqC
    simp(disch:=first|omega|fail) only[push_cast,seval,vrl,if_pos,if_neg,f0,f1,f2,f3,f8,f9,f10,f11,l1,l2,w,hlen,e0,e1,e2,e3,e4,e5,k3,hdc]
   ·have ha0:a=0:=by omega
    rw[←ih,hq]
    unfold pqK pqC
    simp(disch:=first|omega|fail) only[push_cast,seval,vrl,if_pos,if_neg,f0,f1,f2,f3,f8,f9,f10,f11,l2,hlen,e1,e2,e3,e4,e5,k3,hdc]
theorem pq_a{nl N a b limit p:Nat}{h:Int}{wb wp:Bool}{d:Array Int}(IH:gy3 nl N)(hN:b-a≤N)(h12:12<b-a)(hb:b≤d.size)(hd:d.size≤60000)(hl:limit≤100)(hB:Sort.Below Sort.ltInt a b d)(hp1:a≤p)(hp2:p<b):
 ∃d':Array Int,Sort.PermIn a b d d'∧Sort.SortedIn Sort.ltInt a b d'∧ ∀fr,PqF fr a b limit wb wp p→fr 12=some (.x (.int .i64 h))→vgo W pqC (.code (seqR 6 (inB c146L0))::pqK) fr [.sl nl 3 1 (ivs d.toList)]=some (.tup [],[],[.sl nl 3 1 (ivs d'.toList)]):=by
 obtain⟨rest,hrest⟩: ∃rest,rest=seqR 7 (inB c146L0):=⟨_,rfl⟩
 obtain⟨q,hq⟩: ∃q,q=seqR 6 (inB c146L0):=⟨_,rfl⟩
 by_cases hc:wb=true∧wp=true∧h=1
 ·obtain⟨rfl,rfl,rfl⟩:=hc
  have e1:=s62 (nl:=nl) (a:=a) (b:=b) (d:=d) (by omega) hb (by omega)
  obtain⟨s1,s2⟩:=Sort.partialInsertionSort_holds Sort.swo_ltInt d a b (by omega) hb hB
  generalize Sort.partialInsertionSort Sort.ltInt d a b=r at*
  obtain⟨d3,fl⟩:=r
  simp only[]at s1 s2 e1
  cases fl with
  |true=>
   refine⟨d3,s1,s2 rfl,fun fr hF hh=> ?_⟩
   obtain⟨f0,f1,f2,f3,f8,f9,f10,f11⟩:=hF
   rw[←hq]
   rw[c146L0.eq_def]at hrest hq
   simp only[inB,seqR]at hrest hq
   rw[←hrest]at hq
   rw[hq]
   unfold pqK pqC
   simp(disch:=first|omega|fail) only[push_cast,seval,vrl,if_pos,if_neg,f0,f1,f2,f3,f8,f9,f10,f11,hh,e1]
  |false=>
   obtain⟨d',k1,k2,k3⟩:=pq_b (nl:=nl) (limit:=limit) (wb:=true) (wp:=true) (p:=p) IH hN h12 (by rw[s1.1];exact hb) (by rw[s1.1];exact hd) hl (hB.perm hb s1) hp1 hp2
   refine⟨d',Sort.permIn_trans _ _ _ _ _ s1 k1,k2,fun fr hF hh=> ?_⟩
   rw[←hrest]at k3
   obtain⟨f0,f1,f2,f3,f8,f9,f10,f11⟩:=hF
   rw[←hq]
   rw[c146L0.eq_def]at hrest hq
   simp only[inB,seqR]at hrest hq
   rw[←hrest]at hq
   rw[hq]
   unfold pqK pqC at*
   simp(disch:=first|omega|fail) only[push_cast,seval,vrl,if_pos,if_neg,f0,f1,f2,f3,f8,f9,f10,f11,hh,e1]
   refine k3 _ ⟨?_, ?_, ?_, ?_, ?_, ?_, ?_, ?_⟩<;>simp(disch:=first|omega|fail) only[push_cast,seval,vrl,if_pos,if_neg,f0,f1,f2,f3,f8,f9,f10,f11]
 ·obtain⟨d',k1,k2,k3⟩:=pq_b (nl:=nl) (limit:=limit) (wb:=wb) (wp:=wp) (p:=p) IH hN h12 hb hd hl hB hp1 hp2
  refine⟨d',k1,k2,fun fr hF hh=> ?_⟩
  rw[←hrest]at k3
  obtain⟨f0,f1,f2,f3,f8,f9,f10,f11⟩:=hF
  rw[←hq]
  rw[c146L0.eq_def]at hrest hq
  simp only[inB,seqR]at hrest hq
  rw[←hrest]at hq
  rw[hq]
  unfold pqK pqC at*
  cases wb with
  |false=>
   simp(disch:=first|omega|fail) only[push_cast,seval,vrl,if_pos,if_neg,f0,f1,f2,f3,f8,f9,f10,f11,hh]
   refine k3 _ ⟨?_, ?_, ?_, ?_, ?_, ?_, ?_, ?_⟩<;>simp(disch:=first|omega|fail) only[push_cast,seval,vrl,if_pos,if_neg,f0,f1,f2,f3,f8,f9,f10,f11]
  |true=>
   cases wp with
   |false=>
    simp(disch:=first|omega|fail) only[push_cast,seval,vrl,if_pos,if_neg,f0,f1,f2,f3,f8,f9,f10,f11,hh]
    refine k3 _ ⟨?_, ?_, ?_, ?_, ?_, ?_, ?_, ?_⟩<;>simp(disch:=first|omega|fail) only[push_cast,seval,vrl,if_pos,if_neg,f0,f1,f2,f3,f8,f9,f10,f11]
   |true=>
    have hh1: ¬h=1:=fun e=>hc ⟨rfl,rfl,e⟩
    simp(disch:=first|omega|fail) only[push_cast,seval,vrl,if_pos,if_neg,f0,f1,f2,f3,f8,f9,f10,f11,hh,nb8 hh1]
    refine k3 _ ⟨?_, ?_, ?_, ?_, ?_, ?_, ?_, ?_⟩<;>simp(disch:=first|omega|fail) only[push_cast,seval,vrl,if_pos,if_neg,f0,f1,f2,f3,f8,f9,f10,f11]
set_option maxHeartbeats 4000000
theorem pq_c{nl N a b limit:Nat}{wb wp:Bool}{d:Array Int}(IH:gy3 nl N)(hN:b-a≤N)(h12:12<b-a)(hb:b≤d.size)(hd:d.size≤60000)(hl:limit≤100)(hB:Sort.Below Sort.ltInt a b d):
 ∃d':Array Int,Sort.PermIn a b d d'∧Sort.SortedIn Sort.ltInt a b d'∧ ∀fr,fr 0=some (.own 0 [])→fr 1=some (.x (.int .i64 a))→fr 2=some (.x (.int .i64 b))→fr 3=some (.x (.int .i64 limit))→fr 8=some (.x (.bool wb))→fr 9=some (.x (.bool wp))→fr 10=some (.x (.int .i64 ((b-a:Nat):Int)))→
  vgo W pqC (.code (seqR 4 (inB c146L0))::pqK) fr [.sl nl 3 1 (ivs d.toList)]=some (.tup [],[],[.sl nl 3 1 (ivs d'.toList)]):=by
 obtain⟨rest,hrest⟩: ∃rest,rest=seqR 6 (inB c146L0):=⟨_,rfl⟩
 obtain⟨q,hq⟩: ∃q,q=seqR 4 (inB c146L0):=⟨_,rfl⟩
 have w1:=fun nl bb=>co4 (nl:=nl) (bb:=bb) (a:=a) (b:=b) (d:=d) (by omega) hb hd
 have hp:=Sort.choosePivot_holds Sort.ltInt d a b (by omega)
 generalize Sort.choosePivot Sort.ltInt d a b=c at*
 obtain⟨p,hn⟩:=c
 simp only[]at hp w1
 cases hn with
 |decreasing=>
  have s1:=Sort.reverseRange_holds d a b (by omega) hb
  have e1:=x14 (nl:=nl) (a:=a) (b:=b) (d:=d) (by omega) hb (by omega)
  generalize Sort.reverseRange d a b=d2 at*
  obtain⟨P,hP⟩: ∃P,P=b-1-(p-a):=⟨_,rfl⟩
  have e2:(b:Int)-1-((p:Int)-(a:Int))=(P:Int):=by omega
  obtain⟨d',k1,k2,k3⟩:=pq_a (nl:=nl) (limit:=limit) (h:=1) (wb:=wb) (wp:=wp) (p:=P) IH hN h12 (by rw[s1.1];exact hb) (by rw[s1.1];exact hd) hl (hB.perm hb s1) (by omega) (by omega)
  refine⟨d',Sort.permIn_trans _ _ _ _ _ s1 k1,k2,fun fr f0 f1 f2 f3 f8 f9 f10=> ?_⟩
  rw[←hrest]at k3
  rw[←hq]
  rw[c146L0.eq_def]at hrest hq
  simp only[inB,seqR]at hrest hq
  rw[←hrest]at hq
  rw[hq]
  unfold pqK pqC at*
  simp(disch:=first|omega|fail) only[push_cast,seval,vrl,if_pos,if_neg,f0,f1,f2,f3,f8,f9,f10,w1,e1,e2,Sort.hintCode]
  refine k3 _ ⟨?_, ?_, ?_, ?_, ?_, ?_, ?_, ?_⟩ ?_<;>simp(disch:=first|omega|fail) only[push_cast,seval,vrl,if_pos,if_neg,f0,f1,f2,f3,f8,f9,f10]
 |increasing=>
  obtain⟨d',k1,k2,k3⟩:=pq_a (nl:=nl) (limit:=limit) (h:=1) (wb:=wb) (wp:=wp) (p:=p) IH hN h12 hb hd hl hB hp.1 hp.2
  refine⟨d',k1,k2,fun fr f0 f1 f2 f3 f8 f9 f10=> ?_⟩
  rw[←hrest]at k3
  rw[←hq]
  rw[c146L0.eq_def]at hrest hq
  simp only[inB,seqR]at hrest hq
  rw[←hrest]at hq
  rw[hq]
  unfold pqK pqC at*
  simp(disch:=first|omega|fail) only[push_cast,seval,vrl,if_pos,if_neg,f0,f1,f2,f3,f8,f9,f10,w1,Sort.hintCode]
  refine k3 _ ⟨?_, ?_, ?_, ?_, ?_, ?_, ?_, ?_⟩ ?_<;>simp(disch:=first|omega|fail) only[push_cast,seval,vrl,if_pos,if_neg,f0,f1,f2,f3,f8,f9,f10]
 |unknown=>
  obtain⟨d',k1,k2,k3⟩:=pq_a (nl:=nl) (limit:=limit) (h:=0) (wb:=wb) (wp:=wp) (p:=p) IH hN h12 hb hd hl hB hp.1 hp.2
  refine⟨d',k1,k2,fun fr f0 f1 f2 f3 f8 f9 f10=> ?_⟩
  rw[←hrest]at k3
  rw[←hq]
  rw[c146L0.eq_def]at hrest hq
  simp only[inB,seqR]at hrest hq
  rw[←hrest]at hq
  rw[hq]
  unfold pqK pqC at*
  simp(disch:=first|omega|fail) only[push_cast,seval,vrl,if_pos,if_neg,f0,f1,f2,f3,f8,f9,f10,w1,Sort.hintCode]
  refine k3 _ ⟨?_, ?_, ?_, ?_, ?_, ?_, ?_, ?_⟩ ?_<;>simp(disch:=first|omega|fail) only[push_cast,seval,vrl,if_pos,if_neg,f0,f1,f2,f3,f8,f9,f10]
theorem yg3(nl:Nat): ∀N,gy3 nl N
 |0=>fun a b limit wb wp d h=>by omega
 |N+1=>fun a b limit wb wp d h hab hb hd hl hB=>by
  have IH:=yg3 nl N
  obtain⟨n,hn⟩: ∃n,n=b-a:=⟨_,rfl⟩
  have e0:(b:Int)-(a:Int)=(n:Int):=by omega
  by_cases h12:b-a≤12
  ·obtain⟨s1,s2⟩:=Sort.insertionSort_holds Sort.swo_ltInt d a b hab hb
   have e1:=ki8 (nl:=nl) (a:=a) (b:=b) (d:=d) hb (by omega) (by omega)
   refine⟨_,s1,s2,fun ks hk=> ?_⟩
   rw[hk,sb5 c146L0.eq_def]
   simp(disch:=first|omega|fail) only[push_cast,seval,vrl,if_pos,if_neg,e0,e1]
  ·by_cases hl0:limit=0
   ·subst hl0
    obtain⟨s1,s2⟩:=Sort.heapSort_holds Sort.swo_ltInt d a b hab hb
    have e1:=og6 (nl:=nl) (a:=a) (b:=b) (d:=d) (by omega) hb (by omega)
    refine⟨_,s1,s2,fun ks hk=> ?_⟩
    rw[hk,sb5 c146L0.eq_def]
    simp(disch:=first|omega|fail) only[push_cast,seval,vrl,if_pos,if_neg,e0,e1]
   ·obtain⟨rest,hrest⟩: ∃rest,rest=seqR 4 (inB c146L0):=⟨_,rfl⟩
    have hl0': ¬(limit:Int)=0:=by omega
    obtain⟨q,hq⟩: ∃q,q=c146L0:=⟨_,rfl⟩
    cases wb with
    |true=>
     obtain⟨d',k1,k2,k3⟩:=pq_c (nl:=nl) (limit:=limit) (wb:=true) (wp:=wp) IH (by omega) (by omega) hb hd hl hB
     refine⟨d',k1,k2,fun ks hk=> ?_⟩
     rw[←hrest]at k3
     rw[hk,sb5 c146L0.eq_def]
     rw[c146L0.eq_def]at hrest
     simp only[inB,seqR]at hrest
     rw[←hrest]
     unfold pqK pqC at k3
     rw[←hn]at k3
     simp(disch:=first|omega|fail) only[push_cast,seval,vrl,if_pos,if_neg,e0,nb8 hl0']
     refine k3 _ ?_ ?_ ?_ ?_ ?_ ?_ ?_<;>simp(disch:=first|omega|fail) only[push_cast,seval,vrl,if_pos,if_neg]
    |false=>
     obtain⟨d1,s1,e1⟩:=v48 (nl:=nl) (a:=a) (b:=b) (d:=d) (by omega) hb hd
     obtain⟨l1,hl1⟩: ∃l1,l1=limit-1:=⟨_,rfl⟩
     have e2:(limit:Int)-1=(l1:Int):=by omega
     obtain⟨d',k1,k2,k3⟩:=pq_c (nl:=nl) (limit:=l1) (wb:=false) (wp:=wp) IH (by omega) (by omega) (by rw[s1.1];exact hb) (by rw[s1.1];exact hd) (by omega) (hB.perm hb s1)
     refine⟨d',Sort.permIn_trans _ _ _ _ _ s1 k1,k2,fun ks hk=> ?_⟩
     rw[←hrest]at k3
     rw[hk,sb5 c146L0.eq_def]
     rw[c146L0.eq_def]at hrest
     simp only[inB,seqR]at hrest
     rw[←hrest]
     unfold pqK pqC at k3
     rw[←hn]at k3
     simp(disch:=first|omega|fail) only[push_cast,seval,vrl,if_pos,if_neg,e0,e1,e2,nb8 hl0']
     refine k3 _ ?_ ?_ ?_ ?_ ?_ ?_ ?_<;>simp(disch:=first|omega|fail) only[push_cast,seval,vrl,if_pos,if_neg]
theorem m81{nl:Nat}{zs:List Int}(hl:zs.length≤60000):o24 W 106 [.own 0 []] [.sl nl 3 1 (ivs zs)]=some (.tup [],[],[.sl nl 3 1 (ivs (zs.mergeSort fun x y=>decide (x≤y)))]):=by
 have hbl:=wq9 (n:=zs.length) (by omega)
 obtain⟨d',h1,h2,h3⟩:=a06 (yg3 nl (zs.length+1) 0 zs.length (Sort.bitsLen zs.length) true true zs.toArray (by omega) (by omega) (by simp) (by simpa using hl) (by omega) (.inl rfl))
 have hu:=Sort.sorted_unique_holds Sort.swo_ltInt (fun x y h1 h2=>by
  have a1:=of_decide_eq_false h1
  have a2:=of_decide_eq_false h2
  omega) zs.toArray d' (by simpa using h1) (by simpa using h2)
 have he:(fun x y:Int=> !Sort.ltInt y x)=fun x y=>decide (x≤y):=funext fun x=>funext fun y=>by
  unfold Sort.ltInt
  rw[←decide_not]
  exact decide_eq_decide.2 (by omega)
 rw[he]at hu
 simp only[List.toList_toArray]at hu h3
 rw[hu]at h3
 have e1:=ub0 (n:=zs.length) (by omega)
 have hw:IntKind.wrap .u64 (zs.length:Int)=(zs.length:Int):=by
  unfold IntKind.wrap
  simp[IntKind.bits,IntKind.signed]
  omega
 rw[Int.natCast_zero]at h3
 generalize zs.mergeSort (fun x y=>decide (x≤y))=zs' at*
 rw[o08 rfl T106 rfl]
 unfold F106 c106
 simp(disch:=first|omega|fail) only[push_cast,seval,vrl,if_pos,if_neg,hw,e1,h3]
set_option maxHeartbeats 4000000
def stL(a v:Int):List Int:=[2*v*a-v*v,v*v]
def losI:Nat→List Int
 |0=>[1]
 |k+1=>(losI k).flatMap (stL ((2^2^k:Nat):Int))
theorem ej4: ∀k,(losI k).length=2^k
 |0=>rfl
 |k+1=>by
  have h: ∀l:List Int,(l.flatMap (stL ((2^2^k:Nat):Int))).length=l.length*2:=fun l=>by
   induction l with
   |nil=>rfl
   |cons a l ih=>rw[List.flatMap_cons,List.length_append,ih,List.length_cons,Nat.add_mul];simp[stL];omega
  rw[losI,h,ej4 k,Nat.pow_succ]
theorem uk5{A v:Int}(h0:0≤v)(h1:v≤A):0≤2*v*A-v*v∧2*v*A-v*v≤A*A∧0≤v*v∧v*v≤A*A∧2*v*A≤2*(A*A)∧0≤2*v*A:=by
 have a1:v*v≤v*A:=Int.mul_le_mul_of_nonneg_left h1 h0
 have a2:v*A≤A*A:=Int.mul_le_mul_of_nonneg_right h1 (by omega)
 have a3:0≤v*v:=Int.mul_nonneg h0 h0
 have a4:0≤(A-v)*(A-v):=Int.mul_nonneg (by omega) (by omega)
 have a5:(A-v)*(A-v)=A*A-2*(v*A)+v*v:=by
  rw[Int.sub_mul,Int.mul_sub,Int.mul_sub,Int.mul_comm A v];omega
 have a6:2*v*A=2*(v*A):=Int.mul_assoc 2 v A
 omega
theorem qm2: ∀k,∀v∈losI k,0≤v∧v≤((2^2^k:Nat):Int)
 |0,v,h=>by rw[losI,List.mem_singleton]at h;subst h;decide
 |k+1,v,h=>by
  rw[losI]at h
  obtain⟨u,hu,hv⟩:=List.mem_flatMap.1 h
  obtain⟨h1,h2⟩:=qm2 k u hu
  have h3:=uk5 h1 h2
  have e:((2^2^(k+1):Nat):Int)=((2^2^k:Nat):Int)*((2^2^k:Nat):Int):=by
   rw[←Int.natCast_mul,←Nat.pow_add,Nat.pow_succ]
   congr 2;omega
  rw[e]
  generalize ((2^2^k:Nat):Int)=A at*
  unfold stL at hv
  rcases List.mem_cons.1 hv with hv|hv
  ·subst hv;omega
  ·rw[List.mem_singleton]at hv;subst hv;omega
def polE(m:Int):Int:=if m<0∨5<m then 4 else 0
theorem two2{k:Nat}(hk:k≤4):IntKind.wrap .u64 (1*2^min k (IntKind.bits .u64))=((2^k:Nat):Int)∧1*(2:Int)^min (2^k) (IntKind.bits .i64)=((2^2^k:Nat):Int)∧((2^2^k:Nat):Int)≤65536∧1≤((2^2^k:Nat):Int)∧2^k≤16:=by
 have h:k=0∨k=1∨k=2∨k=3∨k=4:=by omega
 rcases h with rfl|rfl|rfl|rfl|rfl<;>decide
theorem ww2{f:Int→List Int}{l:List Int}{i:Nat}{x:Int}(h:l[i]? =some x):(l.take (i+1)).flatMap f=(l.take i).flatMap f++f x:=by
 rw[List.take_add_one,h]
 simp
theorem nf0(a:Int)(l:List Int):(l.flatMap (stL a)).length=l.length*2:=by
 induction l with
 |nil=>rfl
 |cons x l ih=>rw[List.flatMap_cons,List.length_append,ih,List.length_cons,Nat.add_mul];simp[stL];omega
theorem hj8{m:Int}:o24 W 103 [.x (.int .i64 m)] []=some (.x (.int .i64 (polE m)),[],[]):=by
 rw[o08 rfl T103 rfl]
 unfold F103 c103 polE
 by_cases h:m<0∨5<m
 ·rw[if_pos h]
  by_cases h1:m<0
  ·simp(disch:=first|omega|fail) only[push_cast,seval,vrl,if_pos,if_neg]
  ·simp(disch:=first|omega|fail) only[push_cast,seval,vrl,if_pos,if_neg]
 ·rw[if_neg h]
  simp(disch:=first|omega|fail) only[push_cast,seval,vrl,if_pos,if_neg]
theorem zh1(l:List Int)(x y:Int):ivs l++[Tree.v (.int .i64 x), .v (.int .i64 y)]=ivs (l++[x,y]):=by unfold ivs;rw[List.map_append];rfl
theorem ki7{m k:Nat}(hk:k≤4)(hm:m≤5){nl1 nl2:Nat}{l:List Int}(hl:l.length≤32)(hv: ∀v∈l,0≤v∧v≤((2^2^k:Nat):Int)): ∀(d i:Nat),i+d=l.length→ ∀ks,
 vgoL W ⟨h49,[.tmp 2, .tmp 3],0⟩ [7,8,17,18,24,25,26] c49L0 (.blk 2 [8,17,18]::ks) [(7, .x (.int .i64 (2^2^k:Nat))),(8, .own 0 []),(17, .x (.int .i64 m)),(18, .x (.int .i64 k)),(24, .own 1 []),(25, .x (.int .i64 l.length)),(26, .x (.int .i64 i))] [.sl nl1 3 1 (ivs ((l.take i).flatMap (stL ((2^2^k:Nat):Int)))), .sl nl2 3 1 (ivs l)]=
  vgo W ⟨h49,[.tmp 2, .tmp 3],0⟩ ks (VFr.of [(8, .own 0 []),(17, .x (.int .i64 m)),(18, .x (.int .i64 k))]) [.sl nl1 3 1 (ivs (l.flatMap (stL ((2^2^k:Nat):Int)))), .sl nl2 3 1 (ivs l)]
 |0,i,hi,ks=>by
  rw[List.take_of_length_le (by omega),sb5 c49L0.eq_def]
  simp(disch:=first|omega|fail) only[push_cast,seval,vrl,if_pos,if_neg]
 |d+1,i,hi,ks=>by
  obtain⟨x,hx⟩:=ge6 (l:=l) (i:=i) (by omega)
  have h1:=iat hx
  have hin:=hv x (List.mem_of_getElem? hx)
  obtain⟨_,_,t3,t4,_⟩:=two2 hk
  have hst:=uk5 hin.1 hin.2
  have hfl:=nf0 ((2^2^k:Nat):Int) (l.take i)
  have htl:(l.take i).length≤32:=by rw[List.length_take];omega
  have ih:=ki7 hk hm (nl1:=nl1) (nl2:=nl2) hl hv d (i+1) (by omega) ks
  rw[ww2 hx,Int.natCast_add i,Int.natCast_one]at ih
  unfold stL at ih hfl⊢
  generalize hA:((2^2^k:Nat):Int)=A at*
  have hAA:A*A≤4294967296:=by
   have:=Int.mul_le_mul_of_nonneg_left t3 (show 0≤A by omega)
   omega
  have hxa:x*2*A=2*x*A:=by rw[Int.mul_comm x 2]
  generalize hp:2*x*A=p at*
  generalize hq:x*x=q at*
  rw[←ih,sb5 c49L0.eq_def]
  simp(disch:=first|omega|fail) only[push_cast,seval,vrl,if_pos,if_neg,h1,hp,hq,zh1,hfl]
def nlK(k:Nat):Nat:=if k=0 then 0 else 1
theorem he1{m:Nat}(hm:m≤5): ∀(d k:Nat),k+d=m→ ∀ks,
 vgoL W ⟨h49,[.tmp 2, .tmp 3],0⟩ [5,17,18] c49L1 (.blk 0 [5]::ks) [(5, .own 0 []),(17, .x (.int .i64 m)),(18, .x (.int .i64 k))] [.sl (nlK k) 3 1 (ivs (losI k))]=
  vgo W ⟨h49,[.tmp 2, .tmp 3],0⟩ ks (VFr.of [(5, .own 0 [])]) [.sl (nlK m) 3 1 (ivs (losI m))]
 |0,k,hi,ks=>by
  obtain rfl:k=m:=by omega
  rw[sb5 c49L1.eq_def]
  simp(disch:=first|omega|fail) only[push_cast,seval,vrl,if_pos,if_neg]
 |d+1,k,hi,ks=>by
  have hk:k≤4:=by omega
  obtain⟨t1,t2,t3,t4,t5⟩:=two2 hk
  have hll:=ej4 k
  have e1:=fun nl2 ks=>ki7 hk hm (nl1:=1) (nl2:=nl2) (l:=losI k) (by omega) (qm2 k) (losI k).length 0 (by omega) ks
  have ih:=he1 hm d (k+1) (by omega) ks
  rw[show nlK (k+1)=1 by unfold nlK;rw[if_neg (by omega)],losI,Int.natCast_add k,Int.natCast_one]at ih
  simp only[List.take_zero,List.flatMap_nil,lz6,Int.natCast_zero]at e1
  have hpk:(((2^k:Nat):Int)).toNat=2^k:=Int.toNat_natCast _
  have hpk2:(0:Int)≤((2^k:Nat):Int):=by omega
  rw[←ih,sb5 c49L1.eq_def]
  generalize hP:2^k=P at*
  generalize ((2^P:Nat):Int)=A at*
  simp(disch:=first|omega|fail) only[push_cast,seval,vrl,if_pos,if_neg,t1,t2]
  rw[e1]
  simp(disch:=first|omega|fail) only[push_cast,seval,vrl,if_pos,if_neg]
theorem y02{m:Int}(h:polE m≠0):o24 W 49 [.x (.int .i64 m)] []=some (.tup [.own 0 [], .x (.int .i64 (polE m))],[.sl 1 3 1 []],[]):=by
 have e:=hj8 (m:=m)
 rw[o08 rfl T49 rfl]
 unfold F49 c49
 simp(disch:=first|omega|fail) only[push_cast,seval,vrl,if_pos,if_neg,e,nb8 h]
theorem rm0{m:Nat}(hm:m≤5):polE (m:Int)=0:=by unfold polE;rw[if_neg (by omega)]
theorem rp8{m:Nat}(hm:m≤5):o24 W 49 [.x (.int .i64 m)] []=some (.tup [.own 0 [], .x (.int .i64 0)],[.sl (nlK m) 3 1 (ivs (losI m))],[]):=by
 have e0:=hj8 (m:=(m:Int))
 rw[rm0 hm]at e0
 have e:=fun ks=>he1 hm m 0 (by omega) ks
 simp only[Int.natCast_zero,show nlK 0=0 from rfl,show losI 0=[1]from rfl]at e
 rw[o08 rfl T49 rfl]
 unfold F49 c49
 simp(disch:=first|omega|fail) only[push_cast,seval,vrl,if_pos,if_neg,e0,show [Tree.v (.int .i64 1)]=ivs [1]from rfl]
 rw[e]
 simp(disch:=first|omega|fail) only[push_cast,seval,vrl,if_pos,if_neg]
theorem fm4{k:Nat}(hk:k≤4){nl1 nl2:Nat}{l:List Int}(hl:l.length≤32)(hv: ∀v∈l,0≤v∧v≤((2^2^k:Nat):Int)): ∀(d i:Nat),i+d=l.length→ ∀ks,
 vgoL W ⟨h48,[.tmp 2],0⟩ [3,4,5,6] c48L0 (.blk 0 [5]::ks) [(3, .own 0 []),(4, .x (.int .i64 (2^2^k:Nat))),(5, .own 1 []),(6, .x (.int .i64 i))] [.sl nl2 3 1 (ivs l), .sl nl1 3 1 (ivs ((l.take i).flatMap (stL ((2^2^k:Nat):Int))))]=
  vgo W ⟨h48,[.tmp 2],0⟩ ks (VFr.of [(5, .own 1 [])]) [.sl nl2 3 1 (ivs l), .sl nl1 3 1 (ivs (l.flatMap (stL ((2^2^k:Nat):Int))))]
 |0,i,hi,ks=>by
  rw[List.take_of_length_le (by omega),sb5 c48L0.eq_def]
  simp(disch:=first|omega|fail) only[push_cast,seval,vrl,if_pos,if_neg]
 |d+1,i,hi,ks=>by
  obtain⟨x,hx⟩:=ge6 (l:=l) (i:=i) (by omega)
  have h1:=iat hx
  have hin:=hv x (List.mem_of_getElem? hx)
  obtain⟨_,_,t3,t4,_⟩:=two2 hk
  have hst:=uk5 hin.1 hin.2
  have hfl:=nf0 ((2^2^k:Nat):Int) (l.take i)
  have htl:(l.take i).length≤32:=by rw[List.length_take];omega
  have ih:=fm4 hk (nl1:=nl1) (nl2:=nl2) hl hv d (i+1) (by omega) ks
  rw[ww2 hx,Int.natCast_add i,Int.natCast_one]at ih
  unfold stL at ih hfl⊢
  generalize hA:((2^2^k:Nat):Int)=A at*
  have hAA:A*A≤4294967296:=by
   have:=Int.mul_le_mul_of_nonneg_left t3 (show 0≤A by omega)
   omega
  generalize hp:2*x*A=p at*
  generalize hq:x*x=q at*
  rw[←ih,sb5 c48L0.eq_def]
  simp(disch:=first|omega|fail) only[push_cast,seval,vrl,if_pos,if_neg,h1,hp,hq,zh1,hfl]
theorem m55: ∀{m:Nat},m≤5→o24 W 48 [.x (.int .i64 m)] []=some (.own 0 [],[.sl (nlK m) 3 1 (ivs (losI m))],[])
 |0,_=>by
  rw[o08 rfl T48 rfl]
  unfold F48 c48
  simp(disch:=first|omega|fail) only[push_cast,seval,vrl,if_pos,if_neg]
  rfl
 |k+1,hm=>by
  have hk:k≤4:=by omega
  obtain⟨t1,t2,t3,t4,t5⟩:=two2 hk
  have hll:=ej4 k
  have e0:=m55 (m:=k) (by omega)
  have e1:=fun nl2 ks=>fm4 hk (nl1:=1) (nl2:=nl2) (l:=losI k) (by omega) (qm2 k) (losI k).length 0 (by omega) ks
  simp only[List.take_zero,List.flatMap_nil,lz6,Int.natCast_zero]at e1
  rw[show nlK (k+1)=1 by unfold nlK;rw[if_neg (by omega)],losI]
  have em:((k+1:Nat):Int)-1=(k:Int):=by omega
  have hk0: ¬((k+1:Nat):Int)=0:=by omega
  have hpk:(((2^k:Nat):Int)).toNat=2^k:=Int.toNat_natCast _
  have hpk2:(0:Int)≤((2^k:Nat):Int):=by omega
  generalize hP:2^k=P at*
  generalize ((2^P:Nat):Int)=A at*
  generalize hM:k+1=M at*
  rw[o08 rfl T48 rfl]
  unfold F48 c48
  simp(disch:=first|omega|fail) only[push_cast,seval,vrl,if_pos,if_neg,em,nb8 hk0,e0,t1,t2]
  rw[e1]
  simp(disch:=first|omega|fail) only[push_cast,seval,vrl,if_pos,if_neg]
def cmpB(l:List Int)(x y:Int):Int:=if gi l x=gi l y then y-x else gi l x-gi l y
theorem ot8{bb:Bool}{nl:Nat}{l:List Int}(hl:l.length≤100)(hv: ∀v∈l,0≤v∧v≤4294967296){x y:Int}(hx:0≤x∧x<(l.length:Int))(hy:0≤y∧y<(l.length:Int)):
 o24 W 105 [.x (.int .i64 x), .x (.int .i64 y), .fz bb (.pt 0 [.sl nl 0 1 (ivs l)])] []=some (.x (.int .i64 (cmpB l x y)),[],[]):=by
 obtain⟨i,rfl⟩: ∃i:Nat,x=i:=⟨x.toNat,by omega⟩
 obtain⟨j,rfl⟩: ∃j:Nat,y=j:=⟨y.toNat,by omega⟩
 obtain⟨a,ha⟩:=ge6 (l:=l) (i:=i) (by omega)
 obtain⟨b,hb⟩:=ge6 (l:=l) (i:=j) (by omega)
 have h1:=iat ha
 have h2:=iat hb
 have i1:=hv a (List.mem_of_getElem? ha)
 have i2:=hv b (List.mem_of_getElem? hb)
 have g1:gi l (i:Int)=a:=by unfold gi;rw[Int.toNat_natCast,List.getD_eq_getElem?_getD,ha];rfl
 have g2:gi l (j:Int)=b:=by unfold gi;rw[Int.toNat_natCast,List.getD_eq_getElem?_getD,hb];rfl
 unfold cmpB
 rw[g1,g2]
 rw[o08 rfl T105 rfl]
 unfold F105 c105
 by_cases h:a=b
 ·rw[if_pos h]
  simp(disch:=first|omega|fail) only[push_cast,seval,vrl,if_pos,if_neg,g1,g2,h]
 ·rw[if_neg h]
  simp(disch:=first|omega|fail) only[push_cast,seval,vrl,if_pos,if_neg,g1,g2,nb8 h]
set_option maxHeartbeats 4000000
def ordP:Nat→List Nat
 |0=>[0]
 |1=>[1,0]
 |2=>[3,2,1,0]
 |3=>[7,6,5,3,4,2,1,0]
 |4=>[15,14,13,11,7,12,10,9,6,5,3,8,4,2,1,0]
 |5=>[31,30,29,27,23,15,28,26,25,22,21,14,19,13,24,11,20,7,18,12,17,10,9,6,5,3,16,8,4,2,1,0]
 |_=>[]
def pnI(l:List Nat):List Int:=l.map fun x:Nat=>(x:Int)
theorem ip1(l:List Nat):(pnI l).length=l.length:=by simp[pnI]
def idA(n:Nat):List Int:=pnI (List.range n)
theorem pa9:((List.range 6).all fun m=>decide ((ordP m).length=2^m)&&decide (ordP m).Nodup&&(ordP m).all (fun x=>decide (x<2^m))&&decide ((mr1 (ltC (cmpB (losI m))) (idA (2^m)).toArray).toList=pnI (ordP m)))=true:=by kernel_rfl
theorem j17{m:Nat}(hm:m≤5):(ordP m).length=2^m∧(ordP m).Nodup∧(∀x∈ordP m,x<2^m)∧(mr1 (ltC (cmpB (losI m))) (idA (2^m)).toArray).toList=pnI (ordP m):=by
 have h:=List.all_eq_true.1 pa9 m (List.mem_range.2 (by omega))
 simp only[Bool.and_eq_true,decide_eq_true_eq,List.all_eq_true]at h
 exact⟨h.1.1.1,h.1.1.2,h.1.2,h.2⟩
def ev3(m k:Nat):List Nat:=(List.range (2^m)).filter fun x=>decide (x∈(ordP m).take k)
theorem z39{m k:Nat}(hm:m≤5):((pnI (ordP m)).take k).mergeSort (fun x y=>decide (x≤y))=pnI (ev3 m k):=by
 obtain⟨h1,h2,h3,_⟩:=j17 hm
 have hp:((ordP m).take k).Perm (ev3 m k):=by
  refine(List.perm_ext_iff_of_nodup (List.Sublist.nodup (List.take_sublist _ _) h2) (List.Pairwise.filter _ List.nodup_range)).2 fun x=> ?_
  rw[List.mem_filter,List.mem_range,decide_eq_true_eq]
  exact⟨fun h=>⟨h3 x (List.mem_of_mem_take h),h⟩,fun h=>h.2⟩
 have hp2:((pnI (ordP m)).take k).Perm (pnI (ev3 m k)):=by
  unfold pnI
  rw[←List.map_take]
  exact hp.map _
 refine List.Perm.eq_of_pairwise (le:=fun x y:Int=>decide (x≤y)=true) (fun a b _ _ h1 h2=> ?_) (List.pairwise_mergeSort ?_ ?_ _) ?_ ((List.mergeSort_perm _ _).trans hp2)
 ·have:=of_decide_eq_true h1
  have:=of_decide_eq_true h2
  omega
 ·intro a b c h1 h2
  have:=of_decide_eq_true h1
  have:=of_decide_eq_true h2
  exact decide_eq_true (by omega)
 ·intro a b
  rw[Bool.or_eq_true,decide_eq_true_eq,decide_eq_true_eq];omega
 ·unfold pnI ev3
  rw[List.pairwise_map]
  exact List.Pairwise.imp (fun{a b} h=>decide_eq_true (by omega)) (List.Pairwise.filter _ List.pairwise_lt_range)
def idL(n i:Nat):List Int:=(List.range n).map fun x=>if x<i then(x:Int)else 0
theorem qj4(n i:Nat):(idL n i).length=n:=by simp[idL]
theorem ga4(n:Nat):idL n 0=List.replicate n 0:=by
 unfold idL
 refine List.ext_getElem (by simp) fun j h1 h2=> ?_
 rw[List.getElem_map,List.getElem_range,if_neg (by omega),List.getElem_replicate]
theorem gu6(n:Nat):idL n n=idA n:=by
 unfold idL idA pnI
 exact List.map_congr_left fun x hx=>if_pos (List.mem_range.1 hx)
theorem o73{n i:Nat}(hi:i<n):(idL n i).set i (i:Int)=idL n (i+1):=by
 unfold idL
 refine List.ext_getElem (by simp) fun j h1 h2=> ?_
 rw[List.getElem_set]
 simp only[List.getElem_map,List.getElem_range]
 by_cases h:i=j
 ·rw[if_pos h,if_pos (by omega),h]
 ·rw[if_neg h]
  by_cases h3:j<i
  ·rw[if_pos h3,if_pos (by omega)]
  ·rw[if_neg h3,if_neg (by omega)]
theorem cn5{n:Nat}(hn:n≤100){k:Int}{B:Tree}: ∀(d i:Nat),i+d=n→ ∀ks,
 vgoL W ⟨h51,[.tmp 4, .tmp 5],0⟩ [1,6,8,30,31] c51L0 (.blk 0 [1,6,8]::ks) [(1, .x (.int .i64 k)),(6, .own 0 []),(8, .own 1 []),(30, .x (.int .i64 n)),(31, .x (.int .i64 i))] [B, .sl 0 3 1 (ivs (idL n i))]=
  vgo W ⟨h51,[.tmp 4, .tmp 5],0⟩ ks (VFr.of [(1, .x (.int .i64 k)),(6, .own 0 []),(8, .own 1 [])]) [B, .sl 0 3 1 (ivs (idA n))]
 |0,i,hi,ks=>by
  obtain rfl:i=n:=by omega
  rw[gu6,sb5 c51L0.eq_def]
  simp(disch:=first|omega|fail) only[push_cast,seval,vrl,if_pos,if_neg]
 |d+1,i,hi,ks=>by
  have ih:=cn5 hn (k:=k) (B:=B) d (i+1) (by omega) ks
  have hs:=o73 (n:=n) (i:=i) (by omega)
  have hl:=qj4 n i
  rw[←hs,Int.natCast_add,Int.natCast_one]at ih
  rw[←ih,sb5 c51L0.eq_def]
  simp(disch:=first|omega|fail) only[push_cast,seval,vrl,if_pos,if_neg,hl]
def besE(m k:Int):Int:=if polE m=0 then(if k<0∨((2^m.toNat:Nat):Int)<k then 6 else 0)else polE m
theorem vv0{m k:Int}(h:besE m k≠0):o24 W 51 [.x (.int .i64 m), .x (.int .i64 k)] []=some (.tup [.x (.slice none 0 0), .x (.int .i64 (besE m k))],[],[]):=by
 unfold besE at h⊢
 by_cases h1:polE m=0
 ·rw[if_pos h1]at h⊢
  have hk:k<0∨((2^m.toNat:Nat):Int)<k:=Classical.byContradiction fun hx=>h (if_neg hx)
  rw[if_pos hk]
  obtain⟨M,rfl⟩: ∃M:Nat,m=M:=⟨m.toNat,by unfold polE at h1;split at h1<;>omega⟩
  have hM:M≤5:=by unfold polE at h1;split at h1<;>omega
  rw[Int.toNat_natCast]at hk
  have e1:=rp8 hM
  have hll:=ej4 M
  generalize 2^M=n at*
  generalize losI M=l at*
  rw[o08 rfl T51 rfl]
  unfold F51 c51
  by_cases hk0:k<0
  ·simp(disch:=first|omega|fail) only[push_cast,seval,vrl,if_pos,if_neg,e1,hll]
  ·simp(disch:=first|omega|fail) only[push_cast,seval,vrl,if_pos,if_neg,e1,hll]
 ·rw[if_neg h1]
  have e1:=y02 h1
  rw[o08 rfl T51 rfl]
  unfold F51 c51
  simp(disch:=first|omega|fail) only[push_cast,seval,vrl,if_pos,if_neg,e1,nb8 h1]
theorem k00{m k:Nat}(hm:m≤5)(hk:k≤2^m):o24 W 51 [.x (.int .i64 m), .x (.int .i64 k)] []=some (.tup [.own 0 [], .x (.int .i64 0)],[.sl 0 3 1 (ivs (pnI (ev3 m k)))],[]):=by
 have e1:=rp8 hm
 have hll:=ej4 m
 have hin:=qm2 m
 obtain⟨o1,o2,o3,o4⟩:=j17 hm
 have hbs:=z39 (k:=k) hm
 have h32:2^m≤32:=by
  have:2^m≤2^5:=Nat.pow_le_pow_right (by decide) hm
  omega
 have hbig:((2^2^m:Nat):Int)≤4294967296:=by
  have:2^2^m≤2^32:=Nat.pow_le_pow_right (by decide) h32
  have e:(2:Nat)^32=4294967296:=by decide
  omega
 have e2:=fun B ks=>cn5 (n:=2^m) (by omega) (k:=(k:Int)) (B:=B) (2^m) 0 (by omega) ks
 rw[ga4]at e2
 have e3:=uw2 (nl:=0) (f:=105) (bb:=false) (t:= .pt 0 [.sl 2 0 1 (ivs (losI m))]) (cmp:=cmpB (losI m)) (P:=fun x=>0≤x∧x<((2^m:Nat):Int)) rfl (fun x y hx hy=>ot8 (by omega) (fun v hv=>by have:=hin v hv;omega) (by rw[hll];exact hx) (by rw[hll];exact hy)) (d:=(idA (2^m)).toArray) (fun i hi=>by
  have hi':i<2^m:=by simpa [idA,pnI]using hi
  have:(idA (2^m)).toArray[i]! =(i:Int):=by
   rw[getElem!_pos _ i hi]
   simp[idA,pnI]
  show 0≤_∧_
  rw[this];omega) (by simp[idA,pnI];omega)
 rw[o4]at e3
 simp only[List.toList_toArray]at e3
 have e4:=m81 (nl:=0) (zs:=(pnI (ordP m)).take k) (by rw[List.length_take,ip1];omega)
 rw[hbs]at e4
 have hol:=ip1 (ordP m)
 rw[o1]at hol
 have hil:(idA (2^m)).length=2^m:=by simp[idA,pnI]
 simp only[Int.natCast_zero]at e2
 generalize losI m=l at*
 generalize pnI (ordP m)=o at*
 generalize pnI (ev3 m k)=be at*
 generalize 2^m=n at*
 generalize idA n=ia at*
 rw[o08 rfl T51 rfl]
 unfold F51 c51
 simp(disch:=first|omega|fail) only[push_cast,seval,vrl,if_pos,if_neg,e1,hll]
 rw[e2]
 simp(disch:=first|omega|fail) only[push_cast,seval,vrl,if_pos,if_neg,hil,e3,hol,e4]
end Go.Proofs.Ytodbgomfeacdhaa
