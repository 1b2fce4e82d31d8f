/-
  The fields of the table are fields. No condition. What is known of fields in the first machine, for the second. No condition. What rows span; their one form. No condition. Rows one by one into what th ..
-/
import Derived.Test.YtodbgomfeacdhaaK6
import Derived.Test.YtodbgomfeacdhaaKAD
import Derived.Test.YtodbgomfeacdhaaK5
import Derived.Test.YtodbgomfeacdhaaK2
set_option linter.unusedVariables false
set_option linter.unusedSimpArgs false
set_option linter.unusedSectionVars false
set_option maxRecDepth 100000
namespace Go.Proofs.Ytodbgomfeacdhaa
open Go.Am Go.Alg
section
variable {q p g:Int} {m:Nat} {mod:List Int}
end
class IsFld (q:Int):Prop where
 ok: ∃p m g mod,fldN q.toNat=some (p,m,g,mod)
structure El (q:Int) where
 v:Int
 lo:0≤v
 hi:v<q
theorem El.ext'{q:Int}{a b:El q}(h:a.v=b.v):a=b:=by
 obtain⟨a,h1,h2⟩:=a
 obtain⟨b,h3,h4⟩:=b
 cases h;rfl
instance {q:Int}:DecidableEq (El q):=fun a b=>if h:a.v=b.v then .isTrue (El.ext' h)else .isFalse fun e=>h (e▸rfl)
theorem jj8{q p g:Int}{m:Nat}{mod:List Int}(hn:fldN q.toNat=some (p,m,g,mod)):FOk q p m mod∧Tabs q g∧1≤g∧g<q:=by
 obtain⟨h2,h64⟩:=ug0 hn
 have h:=hi9 hn
 rw[show((q.toNat:Nat):Int)=q by omega]at h
 exact⟨h.1,cb4 hn,h.2.2.1,h.2.2.2.1⟩
theorem El.ok{q:Int}(a:El q):fok q a.v=true:=iy2 ⟨a.lo,a.hi⟩
theorem do9{q p g:Int}{m:Nat}{mod:List Int}(hn:fldN q.toNat=some (p,m,g,mod))(a b:El q):fadd q a.v b.v=addN p m a.v b.v:=by
 rw[fadd,a.ok,b.ok,(y65 hn).1,(y65 hn).2];rfl
theorem pu7{q p g:Int}{m:Nat}{mod:List Int}(hn:fldN q.toNat=some (p,m,g,mod))(a:El q):fneg q a.v=negN p m a.v:=by
 rw[fneg,a.ok,(y65 hn).1,(y65 hn).2];rfl
section
variable {q:Int} [hq:IsFld q]
theorem aw0:2≤q:=by
 obtain⟨p,m,g,mod,hn⟩:=hq.ok
 exact(jj8 hn).1.q2
theorem wg2(a b:El q):0≤fadd q a.v b.v∧fadd q a.v b.v<q:=by
 obtain⟨p,m,g,mod,hn⟩:=hq.ok
 have hf:=(jj8 hn).1
 have:=hf.p2
 have hb:=kq3 (p:=p) (by omega) m a.v b.v
 rw[hf.pm]at hb
 rw[do9 hn];exact hb
theorem ca9(a:El q):0≤fneg q a.v∧fneg q a.v<q:=by
 obtain⟨p,m,g,mod,hn⟩:=hq.ok
 have hf:=(jj8 hn).1
 have:=hf.p2
 have hb:=ul1 (p:=p) (by omega) m a.v
 rw[hf.pm]at hb
 rw[pu7 hn];exact hb
theorem jo8(a b:El q):0≤fmul q a.v b.v∧fmul q a.v b.v<q:=by
 obtain⟨p,m,g,mod,hn⟩:=hq.ok
 obtain⟨hf,t,_⟩:=jj8 hn
 have h2:=hf.q2
 rw[fmul,a.ok,b.ok]
 cases h0:(a.v==0)||(b.v==0)with
 |true=>exact⟨Int.le_refl _,by show(0:Int)<q;omega⟩
 |false=>
  have:=zd3 t h2 (flog q a.v+flog q b.v)
  exact⟨by show 0≤fexp q _;omega,this.2.1⟩
instance :Zero (El q):=⟨⟨0,Int.le_refl _,by have:=aw0 (q:=q);omega⟩⟩
instance :One (El q):=⟨⟨1,by omega,by have:=aw0 (q:=q);omega⟩⟩
instance :Add (El q):=⟨fun a b=>⟨fadd q a.v b.v,(wg2 a b).1,(wg2 a b).2⟩⟩
instance :Mul (El q):=⟨fun a b=>⟨fmul q a.v b.v,(jo8 a b).1,(jo8 a b).2⟩⟩
instance :Neg (El q):=⟨fun a=>⟨fneg q a.v,(ca9 a).1,(ca9 a).2⟩⟩
end
def vs{q:Int}(l:List (El q)):List Int:=l.map El.v
section
variable {q:Int}
theorem fi2(l:List (El q)):(vs l).length=l.length:=by simp[vs]
end
end Go.Proofs.Ytodbgomfeacdhaa
namespace Go.Proofs.Ytodbgomfeacdhaa
open Go.Am Go.Vm Go.Alg
theorem ea6{zs:List Int}{i:Nat}(hi:i<zs.length):(ints zs)[i]? =some (.int .i64 (gi zs (i:Int))):=by
 have:=c13 (zs:=zs) (i:=(i:Int)) (by omega) (by omega)
 rwa [Int.toNat_natCast]at this
theorem zj7{h:H}{Z:Nat→Prop}{zs:List Int}{l:List Value}:RdL h Z (ivs zs) l↔l=ints zs:=by
 induction zs generalizing l with
 |nil=>exact⟨fun hr=>by rw[show ivs []=[]from rfl,RdL]at hr;exact hr,fun e=>by subst e;rw[show ivs []=[]from rfl,RdL];rfl⟩
 |cons z zs ih=>
  rw[show ivs (z::zs)= .v (.int .i64 z)::ivs zs from rfl,RdL]
  constructor
  ·rintro⟨w,l',rfl,h1,h2⟩
   rw[Rd]at h1
   rw[h1,ih.1 h2];rfl
  ·rintro rfl
   exact⟨_,_,rfl,by rw[Rd],ih.2 rfl⟩
theorem pd9{h:H}{Z:Nat→Prop}{e:Nat}{zs:List Int}{sa:Option Addr}{c:Nat}(hr:RdI h sa c zs)(hz: ∀o,sa.map (·.block)=some o→Z o):Rd h Z (.sl 2 e 1 (ivs zs)) (.slice sa zs.length c):=by
 rw[Rd]
 rcases hr with⟨rfl,rfl,rfl⟩|⟨h1,o,off,r,rfl,h2,h3,h4⟩
 ·exact .inl ⟨rfl,by decide,by decide,rfl⟩
 ·refine .inr ⟨o,off,_,c,r,rfl,hz o rfl,h2,h3,by decide,by rw[gf1,Nat.mul_one],h1,fun h=>(by cases h),zj7.2 ?_⟩
  rw[gf1]
  refine List.ext_getElem? fun i=> ?_
  by_cases hi:i<zs.length
  ·rw[ea6 hi,List.getElem?_take,if_pos hi,List.getElem?_drop]
   have:=h4 (i:Int) (by omega) (by omega)
   rwa [Int.toNat_natCast]at this
  ·rw[List.getElem?_eq_none (by rw[List.length_take];omega),List.getElem?_eq_none (by rw[iq5];omega)]
def lvs(nl:Nat)(m:List (List Int)):List Tree:=m.map fun l=> .sl nl 0 1 (ivs l)
theorem nb9(nl:Nat)(m:List (List Int)):(lvs nl m).length=m.length:=by simp[lvs]
theorem li3{nl:Nat}{m:List (List Int)}{i:Nat}{l:List Int}(h:m[i]? =some l):(lvs nl m)[i]? =some (.sl nl 0 1 (ivs l)):=by
 unfold lvs;rw[List.getElem?_map,h];rfl
theorem gl3{h:H}{Z:Nat→Prop}{e:Nat}{m:List (List Int)}{sa:Option Addr}{c:Nat}(hr:RdLL h sa c m)(hu:ss4 h 1 sa=true)(hz: ∀o,o<h.length→Z o):Rd h Z (.sl 2 e 1 (lvs 2 m)) (.slice sa m.length c):=by
 rw[Rd]
 rcases hr with⟨rfl,rfl,rfl⟩|⟨o,r,rfl,h1,h2,h3,h4⟩
 ·exact .inl ⟨rfl,by decide,by decide,rfl⟩
 ·refine .inr ⟨o,0,_,c,r,rfl,hz o (h44 h2),h2,fun ho=> ?_,by decide,by rw[nb9,Nat.mul_one],h1,fun h=>(by cases h),xo1.2 ⟨?_,fun i t w h5 h6=> ?_⟩⟩
  ·unfold ss4 at hu
   simp only[h2,ho]at hu
   simpa using hu
  ·rw[nb9,List.drop_zero,List.length_take];omega
  ·unfold lvs at h5
   rw[List.getElem?_map]at h5
   obtain⟨l,h7,rfl⟩:=Option.map_eq_some_iff.1 h5
   obtain⟨a,c',h8,h9⟩:=h4 i l h7
   rw[List.getElem?_take]at h6
   split at h6
   ·rw[List.getElem?_drop,Nat.zero_add,h8]at h6
    cases h6
    refine pd9 h9 fun o' ho'=>hz o' ?_
    rcases h9 with⟨rfl,_⟩|⟨_,o2,off,r2,rfl,h10,_⟩
    ·cases ho'
    ·cases ho';exact h44 h10
   ·cases h6
def allZ(h:H):Nat→Prop:=fun o=>o<h.length
theorem bh6(h:H):Inv h [] (allZ h) (allZ h):=⟨by rw[okL];trivial,fun x=>by simp[fpL],fun o ho=>by simp[fpL]at ho,fun o ho=>by simp[fpL]at ho,fun o ho=>ho,fun o ho=>ho⟩
theorem vlaw{W:VW}(hP: ∀f p vs C r,W.P f=some p→p vs C=some r→VOK W.T f vs C r){h:H}{f:FuncId}{xs0:List AV}{ws:List Value}(hv:VRL h [] (allZ h) (allZ h) xs0 ws){b:Bool}(e:o24 W f xs0 []=some (.x (.bool b),[],[])): ∃h',call W.T f ws h=some (.bool b,h'):=by
 obtain⟨w,h',K,S,Z',Zp',h1,P⟩:=lw9 hP e h [] _ _ ws (bh6 h) rfl hv fun k hk=>by cases hk
 have:=P.v
 rw[Vm.VR]at this
 subst this
 exact⟨h',h1⟩
def pFt(q p:Int)(m:Nat)(g:Int)(mod:List Int):Tree:= .ex (.pt 187 [.v (.int .i64 q), .v (.int .i64 p), .v (.int .i64 m), .fz (.sl 2 0 1 (ivs mod)), .v (.int .i64 g), .sl 0 3 1 (ivs (tabs q.toNat).1), .sl 0 3 1 (ivs (tabs q.toNat).2)])
def pF(q:Int):Tree:=match fldN q.toNat with
 |some (p,m,g,mod)=>pFt q p m g mod
 |none=> .junk
noncomputable def vP:FuncId→Option (List AV→Rts→Option VRes)
 |_=>none
noncomputable def W:VW:=⟨T,vP,vH,vM,ct⟩
@[push_cast] theorem W_M(f:FuncId):W.M f=vM f:=rfl
@[push_cast] theorem W_H(f:FuncId):W.H f=vH f:=rfl
@[push_cast] theorem W_ct:W.ct=ct:=rfl
theorem lw2(f:FuncId)(p:List AV→Rts→Option VRes)(xs0:List AV)(C:Rts)(r:VRes)(hp:W.P f=some p)(he:p xs0 C=some r):VOK W.T f xs0 C r:=by
 have hp:vP f=some p:=hp
 show VOK T f xs0 C r
 unfold vP at hp
 split at hp
 ·cases hp
section
variable {q:Int} [IsFld q] {b:Bool} {x y:Int}
end
end Go.Proofs.Ytodbgomfeacdhaa
namespace Go.Alg
section
variable {K:Type} [FK K]
section
variable {n:Nat} {A B:List (Nat×(Nat→K))}
def wf(l:List K):Nat→K:=fun i=>l.getD i 0
end
end
end Go.Alg
namespace Go.Alg
section
variable {α:Type}
end
section
variable {K:Type} [FK K]
section
variable {n:Nat} {A:List (Nat×List K)}
end
end
end Go.Alg
namespace Go.Alg
section
variable {α:Type} {M:List (List α)} {P:List Nat}
end
section
variable {K:Type} [FK K]
section
variable {n c:Nat} {M0 M:List (List K)} {P:List Nat}
end
end
end Go.Alg
namespace Go.Alg
section
variable {K:Type} [FK K]
end
end Go.Alg
namespace Go.Proofs.Ytodbgomfeacdhaa
open Go.Am Go.Vm Go.Alg
def lls(nl:Nat)(m:List (List Int)):List Tree:=m.map fun l=> .sl nl 3 1 (ivs l)
theorem qf0(nl:Nat)(m:List (List Int)):(lls nl m).length=m.length:=by simp[lls]
theorem lg8(nl:Nat)(m:List (List Int)):jj5 (lls nl m)=lvs nl m:=by
 rw[gz0]
 unfold lls lvs
 rw[List.map_map]
 refine List.map_congr_left fun l _=> ?_
 show strip _=_
 rw[strip,ap3]
theorem lr8(nl:Nat)(m:List (List Int)):jj5 (lvs nl m)=lvs nl m:=by
 rw[gz0]
 unfold lvs
 rw[List.map_map]
 refine List.map_congr_left fun l _=> ?_
 show strip _=_
 rw[strip,ap3]
theorem ng3(nl:Nat)(m:List (List Int))(l:List Int):lls nl m++[.sl nl 3 1 (ivs l)]=lls nl (m++[l]):=by unfold lls;rw[List.map_append];rfl
theorem y81(nl:Nat)(m:List (List Int))(i:Nat)(l:List Int):(lls nl m).set i (.sl nl 3 1 (ivs l))=lls nl (m.set i l):=by unfold lls;rw[List.map_set]
theorem mm0(nl:Nat)(m:List (List Int))(n:Nat):(lls nl m).take n=lls nl (m.take n):=by unfold lls;rw[List.map_take]
theorem by3(nl:Nat)(m:List (List Int))(n:Nat):(lls nl m).drop n=lls nl (m.drop n):=by unfold lls;rw[List.map_drop]
theorem rj0(nl:Nat)(m:List (List Int))(n:Nat):(lvs nl m).take n=lvs nl (m.take n):=by unfold lvs;rw[List.map_take]
theorem ff4(nl:Nat)(m:List (List Int))(n:Nat):(lvs nl m).drop n=lvs nl (m.drop n):=by unfold lvs;rw[List.map_drop]
@[push_cast] theorem wf0{q:Int} [h:IsFld q]:isNode (pF q)=true:=by
 obtain⟨p,m,g,mod,hn⟩:=h.ok
 unfold pF;rw[hn];rfl
@[push_cast] theorem v60{q:Int} [h:IsFld q]{b:Bool}:ofz b (pF q)=some (.fz b (pF q)):=by
 obtain⟨p,m,g,mod,hn⟩:=h.ok
 unfold pF;rw[hn];rfl
attribute [push_cast 50] List.isEmpty_nil List.isEmpty_cons nb9 qf0 lg8 lr8 ng3 mm0 by3 rj0 ff4 fi2 List.map_nil ite_self List.set_cons_zero List.set_cons_succ List.set_nil List.take_zero List.take_nil List.drop_zero List.drop_nil List.take_succ_cons List.drop_succ_cons List.take_length List.length_map List.flatMap_nil List.flatMap_cons gf1 pl3 l78 ap3 so0 nc5 yp5 u42 cs7 Int.natCast_add Int.natCast_one Int.natCast_zero Int.toNat_natCast Nat.div_one Nat.mul_one List.length_set List.all_cons List.all_nil List.length_append List.length_replicate List.length_take List.length_drop Int.zero_add
theorem vrl:(∀{zs:List Int} {i:Nat},i<zs.length→(ivs zs)[i]? =some (.v (.int .i64 (gi zs (i:Int)))))∧(∀(zs:List Int) (i:Nat) (x:Int),(ivs zs).set i (.v (.int .i64 x))=ivs (zs.set i x))∧(∀(nl:Nat) (m:List (List Int)) (i:Nat) (l:List Int),(lls nl m).set i (.sl nl 3 1 (ivs l))=lls nl (m.set i l))∧(∀{n b:Nat},n≤1000000→b≤1000→few n b=true)∧(∀{x:Int},-9223372036854775808≤x→x≤9223372036854775807→IntKind.wrap .i64 x=x)∧(∀{a b:Int},a<b→decide (a<b)=true)∧(∀{a b:Int},b≤a→decide (a<b)=false)∧(∀{a b:Int},a≤b→decide (a≤b)=true)∧(∀{a b:Int},b<a→decide (a≤b)=false)∧(∀{a b:Int},a=b→decide (a=b)=true)∧ ∀{a b:Int},¬a=b→decide (a=b)=false:=⟨ui5,lu7,y81,bj9,wrap64,dec_lt,cw6,nl2,qc6,mr8,nb8⟩
theorem iat{l:List Int}{i:Nat}{a:Int}(h:l[i]? =some a):(ivs l)[i]? =some (.v (.int .i64 a)):=by
 unfold ivs;rw[List.getElem?_map,h];rfl
theorem lat{nl:Nat}{m:List (List Int)}{i:Nat}{l:List Int}(h:m[i]? =some l):(lvs nl m)[i]? =some (.sl nl 0 1 (ivs l)):=li3 h
def jks(n:Nat):List Tree:=List.replicate n .junk
@[push_cast] theorem gc3(n:Nat):(jks n).length=n:=List.length_replicate ..
def nl0:Nat→Nat
 |0=>1
 |_+1=>0
def nl1:Nat→Nat
 |0=>0
 |_+1=>1
@[push_cast] theorem o09(n:Nat):nl0 (n+1)=0:=rfl
@[push_cast] theorem m17(n:Nat):nl1 (n+1)=1:=rfl
@[push_cast] theorem vt2:nl0 0=1:=rfl
@[push_cast] theorem og7:nl1 0=0:=rfl
section
variable {b:Bool} {nl:Nat} {l:List Int}
section
variable {k:FuncId} {t:Tree} {p:Int→Bool}
end
section
variable {k:FuncId} {t:Tree} {p:List Int→Bool} {m:List (List Int)} {nr:Nat} {bl:Bool}
end
end
section
variable {b b':Bool} {nl nl' nr nr':Nat}
theorem ec0{l:List (List Int)}(hl:l.length≤9223372036854775807): ∀(d i:Nat) (n:Int),i+d=l.length→ ∃m:Int,∀(b:Bool) (nl nr:Nat) ks,
 vgoL W ⟨hNo,[.tmp 2],0⟩ [0,3,4] c17L0 (.blk 0 [3]::ks) [(0, .fz b (.sl nl 0 1 (lvs nr l))),(3, .x (.int .i64 n)),(4, .x (.int .i64 i))] []=vgo W ⟨hNo,[.tmp 2],0⟩ ks (VFr.of [(3, .x (.int .i64 m))]) []
 |0,i,n,hi=>by
  refine⟨n,fun b nl nr ks=> ?_⟩
  rw[sb5 c17L0.eq_def]
  simp(disch:=first|omega|fail) only[push_cast,seval,vrl,if_pos,if_neg]
 |d+1,i,n,hi=>by
  obtain⟨r,hr⟩:=ge6 (l:=l) (i:=i) (by omega)
  have h1:=fun nr=>lat (nl:=nr) hr
  by_cases hn:n≤6000
  ·obtain⟨m,hm⟩:=ec0 hl d (i+1) (IntKind.wrap .i64 (n+r.length)) (by omega)
   refine⟨m,fun b nl nr ks=> ?_⟩
   have ih:=hm b nl nr ks
   rw[Int.natCast_add,Int.natCast_one]at ih
   rw[←ih,sb5 c17L0.eq_def]
   simp(disch:=first|omega|fail) only[push_cast,seval,vrl,if_pos,if_neg,h1,nl2 hn]
  ·refine⟨n,fun b nl nr ks=> ?_⟩
   rw[sb5 c17L0.eq_def]
   simp(disch:=first|omega|fail) only[push_cast,seval,vrl,if_pos,if_neg,h1]
theorem tr6{l:List (List Int)}(hl:l.length≤9223372036854775807): ∃z:Bool,∀b nl nr,o24 W 17 [.fz b (.sl nl 0 1 (lvs nr l))] []=some (.x (.bool z),[],[]):=by
 obtain⟨m,e⟩:=ec0 hl l.length 0 l.length (by omega)
 simp only[Int.natCast_zero]at e
 refine⟨decide (6000<m),fun b nl nr=> ?_⟩
 rw[o08 rfl T17 rfl]
 unfold F17 c17
 simp(disch:=first|omega|fail) only[push_cast,seval,vrl,if_pos,if_neg]
 rw[e]
 simp(disch:=first|omega|fail) only[push_cast,seval,vrl,if_pos,if_neg]
section
variable {q:Int} [IsFld q]
end
end
def uvs(l:List Int):List Tree:=l.map fun z=> .v (.int .u64 z)
@[push_cast] theorem a30(l:List Int):(uvs l).length=l.length:=by simp[uvs]
theorem uat{l:List Int}{i:Nat}{a:Int}(h:l[i]? =some a):(uvs l)[i]? =some (.v (.int .u64 a)):=by unfold uvs;rw[List.getElem?_map,h];rfl
def andU(a b:Int):Int:=Go.bits .and .u64 a b
def cntU(s:Int):List Int→Nat
 | []=>0
 |x::l=>(if andU x s=s then 1 else 0)+cntU s l
section
variable {b:Bool} {nl:Nat} {sets:List Int} {s:Int}
theorem fs9(hs:sets.length≤100000){want:Int}: ∀(d i n:Nat),i+d=sets.length→n≤i→ ∀ks,
 vgoL W ⟨hNo,[.tmp 12, .tmp 13],0⟩ [1,4,5,14,15] c86L0 (.blk 0 [5,14]::ks) [(1, .fz b (.sl nl 0 1 (uvs sets))),(4, .x (.int .u64 s)),(5, .x (.int .i64 want)),(14, .x (.int .i64 n)),(15, .x (.int .i64 i))] []=
  vgo W ⟨hNo,[.tmp 12, .tmp 13],0⟩ ks (VFr.of [(5, .x (.int .i64 want)),(14, .x (.int .i64 (n+cntU s (sets.drop i):Nat)))]) []
 |0,i,n,hi,hn,ks=>by
  rw[oh9 (by omega),sb5 c86L0.eq_def]
  show _=vgo W ⟨hNo,[.tmp 12, .tmp 13],0⟩ ks (VFr.of [(5, .x (.int .i64 want)),(14, .x (.int .i64 (n+0:Nat)))]) []
  rw[Nat.add_zero]
  simp(disch:=first|omega|fail) only[push_cast,seval,vrl,if_pos,if_neg]
 |d+1,i,n,hi,hn,ks=>by
  obtain⟨x,hx⟩:=ge6 (l:=sets) (i:=i) (by omega)
  have h1:=uat hx
  have ih:=fs9 hs (want:=want) d (i+1) (n+if andU x s=s then 1 else 0) (by omega) (by split<;>omega) ks
  rw[ja2 hx,cntU]
  rw[Nat.add_assoc]at ih
  rw[←ih,sb5 c86L0.eq_def]
  by_cases h:andU x s=s
  ·rw[if_pos h,Int.natCast_add,Int.natCast_one,Int.natCast_add,Int.natCast_one]
   unfold andU at h
   simp(disch:=first|omega|fail) only[push_cast,seval,vrl,if_pos,if_neg,h1,h]
  ·rw[if_neg h,Nat.add_zero,Int.natCast_add,Int.natCast_one]
   unfold andU at h
   simp(disch:=first|omega|fail) only[push_cast,seval,vrl,if_pos,if_neg,h1,nb8 h]
end
def orU(s:Int)(v:Nat):Int:=Go.bits .or .u64 s (IntKind.wrap .u64 (1*2^min v (IntKind.bits .u64)))
section
variable {b:Bool} {nl:Nat} {sets:List Int} {n:Nat}
def cntS(sets:List Int)(s:Int):Int:=(cntU s sets:Int)
def w45(sets:List Int)(n t:Nat):Prop:= ∀(v:Nat) (s want:Int),v≤n→
 (∀m,desP orU (cntS sets) s (risL n (n+1) t v) want=some m→ ∀b nl,o24 W 86 [.x (.int .i64 n), .fz b (.sl nl 0 1 (uvs sets)), .x (.int .i64 t), .x (.int .i64 v), .x (.int .u64 s), .x (.int .i64 want)] []=some (.tup [.x (.int .i64 m), .x (.bool true)],[],[]))∧
 (desP orU (cntS sets) s (risL n (n+1) t v) want=none→ ∃k:Int,∀b nl,o24 W 86 [.x (.int .i64 n), .fz b (.sl nl 0 1 (uvs sets)), .x (.int .i64 t), .x (.int .i64 v), .x (.int .u64 s), .x (.int .i64 want)] []=some (.tup [.x (.int .i64 k), .x (.bool false)],[],[]))
theorem fq7(hs:sets.length≤100000)(hn:n≤64){t:Nat}(ht:t<n){s:Int}(ih:w45 sets n t): ∀(d v:Nat) (want:Int),v+d=n→
 (∀m,desP orU (cntS sets) s (risL n (n+1) (t+1) v) want=some m→ ∀b nl ks,vgoL W ⟨hNo,[.tmp 12, .tmp 13],0⟩ [0,1,2,4,5,16] c86L1 (.blk 2 [5]::ks) [(0, .x (.int .i64 n)),(1, .fz b (.sl nl 0 1 (uvs sets))),(2, .x (.int .i64 ((t:Int)+1))),(4, .x (.int .u64 s)),(5, .x (.int .i64 want)),(16, .x (.int .i64 v))] []=vgo W ⟨hNo,[.tmp 12, .tmp 13],0⟩ ks (VFr.of [(5, .x (.int .i64 m))]) [])∧
 (desP orU (cntS sets) s (risL n (n+1) (t+1) v) want=none→ ∀b nl ks,vgoL W ⟨hNo,[.tmp 12, .tmp 13],0⟩ [0,1,2,4,5,16] c86L1 (.blk 2 [5]::ks) [(0, .x (.int .i64 n)),(1, .fz b (.sl nl 0 1 (uvs sets))),(2, .x (.int .i64 ((t:Int)+1))),(4, .x (.int .u64 s)),(5, .x (.int .i64 want)),(16, .x (.int .i64 v))] []=some (.tup [.x (.int .i64 0), .x (.bool false)],[],[]))
 |0,v,want,hd=>by
  obtain rfl:v=n:=by omega
  rw[vk2 v (by omega),desP]
  refine⟨fun m hm b nl ks=> ?_,fun h=>by cases h⟩
  cases hm
  have hc:(v:Int)-((t:Int)+1)<v:=by omega
  rw[sb5 c86L1.eq_def]
  simp(disch:=first|omega|fail) only[push_cast,seval,vrl,if_pos,if_neg,qc6 hc]
 |d+1,v,want,hd=>by
  by_cases h:v+(t+1)≤n
  ·obtain⟨i1,i2⟩:=ih (v+1) (orU s v) want (by omega)
   have hc:(v:Int)≤(n:Int)-((t:Int)+1):=by omega
   have ht1:(t:Int)+1-1=(t:Int):=by omega
   rw[Int.natCast_add,Int.natCast_one]at i1 i2
   unfold orU at i1 i2
   rw[risL,if_pos h,b68,g58,ky1 n n (n+1) t (v+1) (by omega) (by omega),ky1 n n (n+1) (t+1) (v+1) (by omega) (by omega)]
   cases hx:desP orU (cntS sets) (orU s v) (risL n (n+1) t (v+1)) want with
   |none=>
    obtain⟨k,i2⟩:=i2 hx
    refine⟨fun m hm=>by simp at hm,fun _ b nl ks=> ?_⟩
    rw[sb5 c86L1.eq_def]
    simp(disch:=first|omega|fail) only[push_cast,seval,vrl,if_pos,if_neg,nl2 hc,ht1,i2]
   |some w2=>
    have i1:=i1 w2 hx
    obtain⟨j1,j2⟩:=fq7 hs hn ht (s:=s) ih d (v+1) w2 (by omega)
    rw[Int.natCast_add,Int.natCast_one]at j1 j2
    refine⟨fun m hm b nl ks=> ?_,fun hm b nl ks=> ?_⟩
    ·rw[←j1 m hm b nl ks,sb5 c86L1.eq_def]
     simp(disch:=first|omega|fail) only[push_cast,seval,vrl,if_pos,if_neg,nl2 hc,ht1,i1]
    ·rw[←j2 hm b nl ks,sb5 c86L1.eq_def]
     simp(disch:=first|omega|fail) only[push_cast,seval,vrl,if_pos,if_neg,nl2 hc,ht1,i1]
  ·rw[vk2 n h,desP]
   refine⟨fun m hm b nl ks=> ?_,fun h=>by cases h⟩
   cases hm
   have hc:(n:Int)-((t:Int)+1)<v:=by omega
   rw[sb5 c86L1.eq_def]
   simp(disch:=first|omega|fail) only[push_cast,seval,vrl,if_pos,if_neg,qc6 hc]
theorem ua7(hs:sets.length≤100000)(hn:n≤64): ∀t:Nat,t≤n→w45 sets n t
 |0,_=>by
  intro v s want hv
  have e:=fun b nl ks=>fs9 (b:=b) (nl:=nl) (s:=s) hs (want:=want) sets.length 0 0 (by omega) (by omega) ks
  rw[List.drop_zero,Nat.zero_add]at e
  simp only[Int.natCast_zero]at e
  rw[risL,desP,desP,List.foldl_nil]
  unfold cntS
  by_cases h1:want<0
  ·rw[if_pos (.inl h1)]
   refine⟨fun m hm b nl=> ?_,fun h=>by cases h⟩
   cases hm
   rw[o08 rfl T86 rfl]
   unfold F86 c86
   simp(disch:=first|omega|fail) only[push_cast,seval,vrl,if_pos,if_neg]
   rw[e]
   simp(disch:=first|omega|fail) only[push_cast,seval,vrl,if_pos,if_neg,dec_lt h1]
  ·by_cases h2:((cntU s sets:Nat):Int)=want
   ·rw[if_pos (.inr h2)]
    refine⟨fun m hm b nl=> ?_,fun h=>by cases h⟩
    cases hm
    rw[o08 rfl T86 rfl]
    unfold F86 c86
    simp(disch:=first|omega|fail) only[push_cast,seval,vrl,if_pos,if_neg]
    rw[e]
    simp(disch:=first|omega|fail) only[push_cast,seval,vrl,if_pos,if_neg,cw6 (Int.not_lt.1 h1),mr8 h2]
   ·rw[if_neg (fun h=>h.elim h1 h2)]
    refine⟨fun m hm=>(by cases hm),fun _=>⟨cntU s sets,fun b nl=> ?_⟩⟩
    rw[o08 rfl T86 rfl]
    unfold F86 c86
    simp(disch:=first|omega|fail) only[push_cast,seval,vrl,if_pos,if_neg]
    rw[e]
    simp(disch:=first|omega|fail) only[push_cast,seval,vrl,if_pos,if_neg,cw6 (Int.not_lt.1 h1),nb8 h2]
 |t+1,ht=>by
  intro v s want hv
  have ih:=ua7 hs hn t (by omega)
  obtain⟨j1,j2⟩:=fq7 hs hn (by omega) (s:=s) ih (n-v) v want (by omega)
  have hne: ¬(t:Int)+1=0:=by omega
  refine⟨fun m hm b nl=> ?_,fun hm=>⟨0,fun b nl=> ?_⟩⟩
  ·rw[Int.natCast_add,Int.natCast_one,o08 rfl T86 rfl]
   unfold F86 c86
   simp(disch:=first|omega|fail) only[push_cast,seval,vrl,if_pos,if_neg,nb8 hne]
   rw[j1 m hm]
   simp(disch:=first|omega|fail) only[push_cast,seval,vrl,if_pos,if_neg]
  ·rw[Int.natCast_add,Int.natCast_one,o08 rfl T86 rfl]
   unfold F86 c86
   simp(disch:=first|omega|fail) only[push_cast,seval,vrl,if_pos,if_neg,nb8 hne]
   rw[j2 hm]
end
def setI(l:List Int)(s:Int):Int:=l.foldl (fun s v=>orU s v.toNat) s
section
variable {b:Bool} {nl nr:Nat} {l:List Int}
theorem x07(hl:l.length≤9223372036854775807)(h0: ∀v∈l,0≤v): ∀(d i:Nat) (s:Int),i+d=l.length→ ∀ks,
 vgoL W ⟨hNo,[.tmp 2],0⟩ [0,3,4] c85L0 (.blk 0 [3]::ks) [(0, .fz b (.sl nl 0 1 (ivs l))),(3, .x (.int .u64 s)),(4, .x (.int .i64 i))] []=
  vgo W ⟨hNo,[.tmp 2],0⟩ ks (VFr.of [(3, .x (.int .u64 (setI (l.drop i) s)))]) []
 |0,i,s,hi,ks=>by
  rw[oh9 (by omega),sb5 c85L0.eq_def,show setI [] s=s from rfl]
  simp(disch:=first|omega|fail) only[push_cast,seval,vrl,if_pos,if_neg]
 |d+1,i,s,hi,ks=>by
  obtain⟨x,hx⟩:=ge6 (l:=l) (i:=i) (by omega)
  have hx0:=h0 x (List.mem_of_getElem? hx)
  have h1:=iat hx
  have ih:=x07 hl h0 d (i+1) (orU s x.toNat) (by omega) ks
  rw[Int.natCast_add,Int.natCast_one]at ih
  rw[ja2 hx,show setI (x::l.drop (i+1)) s=setI (l.drop (i+1)) (orU s x.toNat)from rfl,←ih,sb5 c85L0.eq_def]
  unfold orU
  simp(disch:=first|omega|fail) only[push_cast,seval,vrl,if_pos,if_neg,h1]
theorem pn4(hl:l.length≤9223372036854775807)(h0: ∀v∈l,0≤v):o24 W 85 [.fz b (.sl nl 0 1 (ivs l))] []=some (.x (.int .u64 (setI l 0)),[],[]):=by
 have e:=fun ks=>x07 (b:=b) (nl:=nl) hl h0 l.length 0 0 (by omega) ks
 rw[List.drop_zero]at e
 simp only[Int.natCast_zero]at e
 rw[o08 rfl T85 rfl]
 unfold F85 c85
 simp(disch:=first|omega|fail) only[push_cast,seval,vrl,if_pos,if_neg]
 rw[e]
 simp(disch:=first|omega|fail) only[push_cast,seval,vrl,if_pos,if_neg]
end
@[push_cast] theorem by4(zs:List Int):(uvs zs).all isV=true:=by simp[uvs,isV]
@[push_cast] theorem bf0(zs:List Int):(uvs zs).all Go.Vm.plain=true:=by simp[uvs,Go.Vm.plain]
@[push_cast] theorem l49(zs:List Int):jj5 (uvs zs)=uvs zs:=by rw[gz0];simp[uvs,strip]
@[push_cast] theorem va6(zs:List Int):(uvs zs).map fzT=uvs zs:=by simp[uvs,fzT]
@[push_cast] theorem e07(zs:List Int)(x:Int):uvs zs++[Tree.v (.int .u64 x)]=uvs (zs++[x]):=by unfold uvs;rw[List.map_append];rfl
theorem vd5:uvs []=([]:List Tree):=rfl
def gl4(B:List (List Int)):List Int:=B.map fun l=>setI l 0
theorem nc1(B:List (List Int)):(gl4 B).length=B.length:=by simp[gl4]
theorem gn2{B:List (List Int)}{i:Nat}{l:List Int}(h:B[i]? =some l):(gl4 B)[i]? =some (setI l 0):=by unfold gl4;rw[List.getElem?_map,h];rfl
section
variable {b:Bool} {nl nr:Nat} {B:List (List Int)} {n t:Nat}
theorem ab9(hB:B.length≤4096)(hl: ∀l∈B,l.length≤9223372036854775807)(h0: ∀l∈B,∀v∈l,0≤v): ∀(d i:Nat),i+d=B.length→ ∀ks,
 vgoL W ⟨h31,[.tmp 6, .tmp 7],0⟩ [0,1,2,8,9] c31L0 (.blk 0 [0,2,8]::ks) [(0, .x (.int .i64 n)),(1, .fz b (.sl nl 0 1 (lvs nr B))),(2, .x (.int .i64 t)),(8, .own 0 []),(9, .x (.int .i64 i))] [.sl 1 107 1 (uvs ((gl4 B).take i))]=
  vgo W ⟨h31,[.tmp 6, .tmp 7],0⟩ ks (VFr.of [(0, .x (.int .i64 n)),(2, .x (.int .i64 t)),(8, .own 0 [])]) [.sl 1 107 1 (uvs (gl4 B))]
 |0,i,hi,ks=>by
  rw[List.take_of_length_le (by rw[nc1];omega),sb5 c31L0.eq_def]
  simp(disch:=first|omega|fail) only[push_cast,seval,vrl,if_pos,if_neg]
 |d+1,i,hi,ks=>by
  obtain⟨l,h⟩:=ge6 (l:=B) (i:=i) (by omega)
  have hm:=List.mem_of_getElem? h
  have h1:=li3 (nl:=nr) h
  have e1:=fun b nl=>pn4 (b:=b) (nl:=nl) (hl l hm) (h0 l hm)
  have ih:=ab9 hB hl h0 d (i+1) (by omega) ks
  have hs:=nc1 B
  rw[Int.natCast_add,Int.natCast_one,List.take_add_one,gn2 h,Option.toList_some]at ih
  rw[←ih,sb5 c31L0.eq_def]
  simp(disch:=first|omega|fail) only[push_cast,seval,vrl,if_pos,if_neg,h1,e1,hs]
theorem q96(hB:B.length≤4096)(hl: ∀l∈B,l.length≤9223372036854775807)(h0: ∀l∈B,∀v∈l,0≤v)(hn:n≤64)(ht:t≤n):
 o24 W 31 [.x (.int .i64 n), .fz b (.sl nl 0 1 (lvs nr B)), .x (.int .i64 t)] []=match desP orU (cntS (gl4 B)) 0 (risL n (n+1) t 0) (-1)with
  |some m=>some (.tup [.x (.int .i64 m), .x (.bool true)],[],[])
  |none=>some (.tup [.x (.int .i64 0), .x (.bool false)],[],[]):=by
 have hs:=nc1 B
 have e:=fun ks=>ab9 (b:=b) (nl:=nl) (nr:=nr) (n:=n) (t:=t) hB hl h0 B.length 0 (by omega) ks
 rw[List.take_zero,vd5]at e
 simp only[Int.natCast_zero]at e
 obtain⟨j1,j2⟩:=ua7 (sets:=gl4 B) (n:=n) (by omega) hn t ht 0 0 (-1) (Nat.zero_le _)
 simp only[Int.natCast_zero]at j1 j2
 rw[o08 rfl T31 rfl]
 unfold F31 c31
 simp(disch:=first|omega|fail) only[push_cast,seval,vrl,if_pos,if_neg]
 rw[e]
 cases hd:desP orU (cntS (gl4 B)) 0 (risL n (n+1) t 0) (-1)with
 |some m=>
  have j1:=j1 m hd
  simp(disch:=first|omega|fail) only[push_cast,seval,vrl,if_pos,if_neg,j1]
 |none=>
  obtain⟨k,j2⟩:=j2 hd
  simp(disch:=first|omega|fail) only[push_cast,seval,vrl,if_pos,if_neg,j2]
end
theorem ub9: ∀n k:Nat,bin (n+2) k+bin (n+2) (k+1)+1≤2^(n+2)
 |0,0=>by decide
 |0,1=>by decide
 |0,k+2=>by
  rw[wd9 2 (k+2+1) (by omega)]
  cases k with
  |zero=>decide
  |succ k=>rw[wd9 2 (k+1+2) (by omega)];decide
 |n+1,0=>by
  have h:=ub9 n 0
  have e:bin (n+1+2) 1=bin (n+2) 0+bin (n+2) 1:=rfl
  rw[m51]at h e
  have h:1+bin (n+2) 1+1≤2^(n+2):=h
  show bin (n+1+2) 0+bin (n+1+2) 1+1≤2^(n+2)*2
  have h2:4≤2^(n+2):=by rw[Nat.pow_add];have:=Nat.one_le_two_pow (n:=n);omega
  rw[m51,e]
  omega
 |n+1,k+1=>by
  have h1:=ub9 n k
  have h2:=ub9 n (k+1)
  have e1:bin (n+1+2) (k+1)=bin (n+2) k+bin (n+2) (k+1):=rfl
  have e2:bin (n+1+2) (k+1+1)=bin (n+2) (k+1)+bin (n+2) (k+1+1):=rfl
  rw[e1,e2,show 2^(n+1+2)=2^(n+2)*2 from rfl]
  omega
theorem oq8{n k:Nat}(hn:n≤64):((bin n k:Nat):Int)≤9223372036854775807:=by
 have key:bin n k≤9223372036854775807:=by
  by_cases h:n≤62
  ·have h1:=s77 n k
   have h2:2^n≤2^62:=Nat.pow_le_pow_right (by omega) h
   omega
  ·obtain⟨m,rfl⟩: ∃m,n=m+3:=⟨n-3,by omega⟩
   cases k with
   |zero=>rw[m51];omega
   |succ k=>
    have h1:=ub9 m k
    have e:bin (m+3) (k+1)=bin (m+2) k+bin (m+2) (k+1):=rfl
    have h2:2^(m+2)≤2^63:=Nat.pow_le_pow_right (by omega) (by omega)
    rw[e]
    omega
 omega
section
variable {n:Nat}
def ofJ(m:Nat)(f:Nat→Int):List Int:=(List.range m).map f
theorem c88(m:Nat)(f:Nat→Int):(ofJ m f).length=m:=by simp[ofJ]
theorem bu4{m:Nat}{f:Nat→Int}{j:Nat}(h:j<m):(ofJ m f)[j]? =some (f j):=by
 unfold ofJ;rw[List.getElem?_map,List.getElem?_range h];rfl
theorem pn9{m:Nat}{f g:Nat→Int}{j:Nat}{v:Int}(h: ∀t,t<m→g t=if t=j then v else f t):(ofJ m f).set j v=ofJ m g:=by
 refine List.ext_getElem? fun t=> ?_
 rw[List.getElem?_set]
 by_cases ht:t<m
 ·rw[bu4 ht,bu4 ht,h t ht,c88]
  by_cases hj:j=t
  ·subst hj;rw[if_pos rfl,if_pos ht,if_pos rfl]
  ·rw[if_neg hj,if_neg fun e=>hj e.symm]
 ·rw[List.getElem?_eq_none (l:=ofJ m g) (by rw[c88];omega)]
  by_cases hj:j=t
  ·subst hj;rw[if_pos rfl,if_neg (by rw[c88];omega)]
  ·rw[if_neg hj,List.getElem?_eq_none (by rw[c88];omega)]
def mixJ(i j t:Nat):Int:=if j<t then((bin (i+1) t:Nat):Int)else((bin i t:Nat):Int)
theorem kx3(hn:n≤64){k i:Nat}(hi:i<n): ∀(j:Nat),j≤n→ ∀ks,
 vgoL W ⟨hNo,[.tmp 4],0⟩ [0,1,5,6,7] c82L0 (.blk 2 [0,1,5,6]::ks) [(0, .x (.int .i64 n)),(1, .x (.int .i64 k)),(5, .own 0 []),(6, .x (.int .i64 i)),(7, .x (.int .i64 j))] [.sl 0 3 1 (ivs (ofJ (n+1) (mixJ i j)))]=
  vgo W ⟨hNo,[.tmp 4],0⟩ ks (VFr.of [(0, .x (.int .i64 n)),(1, .x (.int .i64 k)),(5, .own 0 []),(6, .x (.int .i64 i))]) [.sl 0 3 1 (ivs (ofJ (n+1) (mixJ i 0)))]
 |0,hj,ks=>by
  rw[sb5 c82L0.eq_def]
  simp(disch:=first|omega|fail) only[push_cast,seval,vrl,if_pos,if_neg]
 |j+1,hj,ks=>by
  have ih:=kx3 hn (k:=k) hi j (by omega) ks
  have e1:=iat (bu4 (f:=mixJ i (j+1)) (show j+1<n+1 by omega))
  have e2:=iat (bu4 (f:=mixJ i (j+1)) (show j<n+1 by omega))
  have m1:mixJ i (j+1) (j+1)=((bin i (j+1):Nat):Int):=by unfold mixJ;rw[if_neg (by omega)]
  have m2:mixJ i (j+1) j=((bin i j:Nat):Int):=by unfold mixJ;rw[if_neg (by omega)]
  have hb:((bin (i+1) (j+1):Nat):Int)=((bin i (j+1):Nat):Int)+((bin i j:Nat):Int):=by rw[bin,Int.natCast_add,Int.add_comm]
  have b1:=oq8 (n:=i) (k:=j+1) (by omega)
  have b2:=oq8 (n:=i) (k:=j) (by omega)
  have b3:=oq8 (n:=i+1) (k:=j+1) (by omega)
  rw[hb]at b3
  have hs:(ofJ (n+1) (mixJ i (j+1))).set (j+1) (((bin i (j+1):Nat):Int)+((bin i j:Nat):Int))=ofJ (n+1) (mixJ i j):=pn9 fun t ht=>by
   unfold mixJ
   by_cases h1:t=j+1
   ·rw[if_pos h1,h1,if_pos (by omega),hb]
   ·rw[if_neg h1]
    by_cases h2:j<t
    ·rw[if_pos h2,if_pos (by omega)]
    ·rw[if_neg h2,if_neg (by omega)]
  rw[m1]at e1
  rw[m2]at e2
  have hlen:=c88 (n+1) (mixJ i (j+1))
  have g1:((j:Int)+1).toNat=j+1:=by omega
  have g2:((j:Int)+1-1).toNat=j:=by omega
  have g3:(j:Int)+1-1=(j:Int):=by omega
  rw[←hs]at ih
  rw[Int.natCast_add,Int.natCast_one,←ih,sb5 c82L0.eq_def]
  generalize ofJ (n+1) (mixJ i (j+1))=Z at*
  simp(disch:=first|omega|fail) only[push_cast,seval,vrl,if_pos,if_neg,e1,e2,hlen,g1,g2,g3]
theorem jh8(hn:n≤64){k:Nat}: ∀(c i:Nat),i+c=n→ ∀ks,
 vgoL W ⟨hNo,[.tmp 4],0⟩ [0,1,5,6] c82L1 (.blk 0 [1,5]::ks) [(0, .x (.int .i64 n)),(1, .x (.int .i64 k)),(5, .own 0 []),(6, .x (.int .i64 i))] [.sl 0 3 1 (ivs (ofJ (n+1) fun t=>((bin i t:Nat):Int)))]=
  vgo W ⟨hNo,[.tmp 4],0⟩ ks (VFr.of [(1, .x (.int .i64 k)),(5, .own 0 [])]) [.sl 0 3 1 (ivs (ofJ (n+1) fun t=>((bin n t:Nat):Int)))]
 |0,i,hi,ks=>by
  obtain rfl:i=n:=by omega
  rw[sb5 c82L1.eq_def]
  simp(disch:=first|omega|fail) only[push_cast,seval,vrl,if_pos,if_neg]
 |c+1,i,hi,ks=>by
  have ih:=jh8 hn (k:=k) c (i+1) (by omega) ks
  have e:=fun ks=>kx3 hn (k:=k) (show i<n by omega) n (Nat.le_refl n) ks
  have m1:ofJ (n+1) (mixJ i n)=ofJ (n+1) fun t=>((bin i t:Nat):Int):=List.map_congr_left fun t ht=>by
   have:=List.mem_range.1 ht
   unfold mixJ;rw[if_neg (by omega)]
  have m2:ofJ (n+1) (mixJ i 0)=ofJ (n+1) fun t=>((bin (i+1) t:Nat):Int):=List.map_congr_left fun t ht=>by
   unfold mixJ
   by_cases h:0<t
   ·rw[if_pos h]
   ·rw[if_neg h,show t=0 by omega,m51,m51]
  rw[m1,m2]at e
  rw[Int.natCast_add,Int.natCast_one]at ih
  rw[←ih,sb5 c82L1.eq_def]
  generalize ofJ (n+1) (fun t=>((bin i t:Nat):Int))=Z0 at*
  generalize ofJ (n+1) (fun t=>((bin (i+1) t:Nat):Int))=Z1 at*
  simp(disch:=first|omega|fail) only[push_cast,seval,vrl,if_pos,if_neg]
  rw[e]
  simp(disch:=first|omega|fail) only[push_cast,seval,vrl,if_pos,if_neg]
theorem a65(hn:n≤64){k:Nat}(hk:k≤n):o24 W 82 [.x (.int .i64 n), .x (.int .i64 k)] []=some (.x (.int .i64 (bin n k:Nat)),[],[]):=by
 have e:=fun ks=>jh8 hn (k:=k) n 0 (by omega) ks
 have h0:ofJ (n+1) (fun t=>((bin 0 t:Nat):Int))=(List.replicate (n+1) (0:Int)).set 0 1:=by
  refine List.ext_getElem? fun t=> ?_
  rw[List.getElem?_set]
  by_cases ht:t<n+1
  ·rw[bu4 ht,List.getElem?_replicate,if_pos ht]
   cases t with
   |zero=>simp[bin]
   |succ t=>rw[if_neg (by omega)];simp[bin]
  ·rw[List.getElem?_eq_none (by rw[c88];omega),if_neg (by omega),List.getElem?_replicate,if_neg ht]
 rw[h0]at e
 have e1:=iat (bu4 (f:=fun t=>((bin n t:Nat):Int)) (show k<n+1 by omega))
 have hlen:=c88 (n+1) (fun t=>((bin n t:Nat):Int))
 have g1:((n:Int)+1).toNat=n+1:=by omega
 have c1: ¬(n:Int)<(k:Int):=by omega
 have c0: ¬(k:Int)<0:=by omega
 simp only[Int.natCast_zero]at e
 generalize ofJ (n+1) (fun t=>((bin n t:Nat):Int))=Z at*
 rw[o08 rfl T82 rfl]
 unfold F82 c82
 simp(disch:=first|omega|fail) only[push_cast,seval,vrl,if_pos,if_neg,g1,cs7,List.length_replicate]
 rw[e]
 simp(disch:=first|omega|fail) only[push_cast,seval,vrl,if_pos,if_neg,e1,hlen]
end
def smB(n:Nat):Nat→Nat→Bool
 |0,_=>true
 |d+1,k=>if 50000<bin n k then false else smB n d (k+1)
section
variable {n t:Nat}
theorem ua8(hn:n≤64)(ht:t≤n): ∀(d k:Nat),k+d=t+1→ ∀ks,
 vgoL W ⟨hNo,[.tmp 4],0⟩ [0,1,5] c29L0 (.blk 0 []::ks) [(0, .x (.int .i64 n)),(1, .x (.int .i64 t)),(5, .x (.int .i64 k))] []=if smB n d k=true then vgo W ⟨hNo,[.tmp 4],0⟩ ks (VFr.of []) []else some (.x (.bool false),[],[])
 |0,k,hk,ks=>by
  have hc:(t:Int)<(k:Int):=by omega
  rw[smB,if_pos rfl,sb5 c29L0.eq_def]
  simp(disch:=first|omega|fail) only[push_cast,seval,vrl,if_pos,if_neg,qc6 hc]
 |d+1,k,hk,ks=>by
  have ih:=ua8 hn ht d (k+1) (by omega) ks
  have hc:(k:Int)≤(t:Int):=by omega
  have e1:=a65 hn (k:=k) (by omega)
  rw[Int.natCast_add,Int.natCast_one]at ih
  rw[smB]
  by_cases h:50000<bin n k
  ·have h':(50000:Int)<(bin n k:Int):=by omega
   rw[if_pos h,if_neg Bool.false_ne_true,sb5 c29L0.eq_def]
   simp(disch:=first|omega|fail) only[push_cast,seval,vrl,if_pos,if_neg,nl2 hc,e1,dec_lt h']
  ·have h':(bin n k:Int)≤50000:=by omega
   rw[if_neg h,←ih,sb5 c29L0.eq_def]
   simp(disch:=first|omega|fail) only[push_cast,seval,vrl,if_pos,if_neg,nl2 hc,e1,cw6 h']
theorem cv1(hn:n≤64)(ht:t≤n):o24 W 29 [.x (.int .i64 n), .x (.int .i64 t)] []=some (.x (.bool (smB n t 1)),[],[]):=by
 have e:=fun ks=>ua8 hn ht (t+1) 0 (by omega) ks
 simp only[Int.natCast_zero]at e
 have h0:smB n (t+1) 0=smB n t 1:=by rw[smB,m51,if_neg (by decide)]
 rw[h0]at e
 rw[o08 rfl T29 rfl]
 unfold F29 c29
 simp(disch:=first|omega|fail) only[push_cast,seval,vrl,if_pos,if_neg]
 rw[e]
 cases smB n t 1 with
 |true=>
  rw[if_pos rfl]
  simp(disch:=first|omega|fail) only[push_cast,seval,vrl,if_pos,if_neg]
 |false=>rw[if_neg Bool.false_ne_true]
theorem ua4(hn:n≤64)(ht:t≤n): ∀(d i:Nat),i+d=t→bin n i≤50000→ ∀ks,
 vgoL W ⟨hNo,[.tmp 4],0⟩ [0,5,7,8] c83L0 (.blk 0 [5]::ks) [(0, .x (.int .i64 n)),(5, .x (.int .i64 (bin n i:Nat))),(7, .x (.int .i64 t)),(8, .x (.int .i64 i))] []=if smB n d (i+1)=true then vgo W ⟨hNo,[.tmp 4],0⟩ ks (VFr.of [(5, .x (.int .i64 (bin n t:Nat)))]) []else some (.x (.int .i64 (-1)),[],[])
 |0,i,hi,hb,ks=>by
  obtain rfl:i=t:=by omega
  rw[smB,if_pos rfl,sb5 c83L0.eq_def]
  simp(disch:=first|omega|fail) only[push_cast,seval,vrl,if_pos,if_neg]
 |d+1,i,hi,hb,ks=>by
  have hm:0≤((bin n i:Nat):Int)*((n:Int)-(i:Int))∧((bin n i:Nat):Int)*((n:Int)-(i:Int))≤50000*64:=⟨Int.mul_nonneg (by omega) (by omega),Int.mul_le_mul (by omega) (by omega) (by omega) (by omega)⟩
  have hst:=rk7 (n:=n) (i:=i) (by omega)
  have hs2:=oq8 (n:=n) (k:=i+1) hn
  have hz: ¬(i:Int)+1=0:=by omega
  rw[smB]
  by_cases h:50000<bin n (i+1)
  ·have h':(50000:Int)<(bin n (i+1):Int):=by omega
   rw[if_pos h,if_neg Bool.false_ne_true,sb5 c83L0.eq_def]
   simp(disch:=first|omega|fail) only[push_cast,seval,vrl,if_pos,if_neg,hz,hst,dec_lt h']
  ·have h':(bin n (i+1):Int)≤50000:=by omega
   have ih:=ua4 hn ht d (i+1) (by omega) (by omega) ks
   rw[Int.natCast_add,Int.natCast_one]at ih
   rw[if_neg h,←ih,sb5 c83L0.eq_def]
   simp(disch:=first|omega|fail) only[push_cast,seval,vrl,if_pos,if_neg,hz,hst,cw6 h']
theorem by6(hn:n≤64)(ht:t≤n):o24 W 83 [.x (.int .i64 n), .x (.int .i64 t)] []=some (.x (.int .i64 (if smB n t 1=true then((bin n t:Nat):Int)else-1)),[],[]):=by
 have e:=fun ks=>ua4 hn ht t 0 (by omega) (by rw[m51];omega) ks
 rw[m51]at e
 simp only[Int.natCast_zero,Int.natCast_one,Nat.zero_add]at e
 rw[o08 rfl T83 rfl]
 unfold F83 c83
 simp(disch:=first|omega|fail) only[push_cast,seval,vrl,if_pos,if_neg]
 rw[e]
 cases smB n t 1 with
 |true=>
  rw[if_pos rfl,if_pos rfl]
  simp(disch:=first|omega|fail) only[push_cast,seval,vrl,if_pos,if_neg]
 |false=>rw[if_neg Bool.false_ne_true,if_neg Bool.false_ne_true]
end
def okI(n:Nat)(l:List Int):Bool:=l.all fun v=>decide (0≤v)&&decide (v<(n:Int))
section
variable {b:Bool} {nl nr:Nat} {B:List (List Int)} {n:Nat} {t m:Int}
theorem xy1(hB:B.length≤4096)(hn:n≤64){l:List Int}(hl:l.length≤9223372036854775807){i:Nat}{A:List Int}: ∀(d j:Nat) (s:Int),j+d=l.length→ ∀ks,
 vgoL W ⟨hNo,[(.cell 6 false 1),(.cell 7 false 1),(.cell 8 false 1)],0⟩ [0,2,6,7,8,9,12,33,34,35,39,40,41] c30L0 (.blk 2 [0,2,6,7,8,9,12,33,34,35]::ks) [(0, .x (.int .i64 n)),(2, .x (.int .i64 t)),(6, .own 0 []),(7, .own 1 []),(8, .own 2 []),(9, .own 3 []),(12, .x (.int .u64 s)),(33, .fz b (.sl nl 0 1 (lvs nr B))),(34, .x (.int .i64 B.length)),(35, .x (.int .i64 i)),(39, .fz b (.sl nr 0 1 (ivs l))),(40, .x (.int .i64 l.length)),(41, .x (.int .i64 j))] [.pt 3 [.v (.int .i64 m)], .pt 4 [.v (.bool false)], .pt 31 [.v (.int .i64 0)], .pt 106 [.sl 2 107 1 (uvs A)]]=
  if okI n (l.drop j)=true then vgo W ⟨hNo,[(.cell 6 false 1),(.cell 7 false 1),(.cell 8 false 1)],0⟩ ks (VFr.of [(0, .x (.int .i64 n)),(2, .x (.int .i64 t)),(6, .own 0 []),(7, .own 1 []),(8, .own 2 []),(9, .own 3 []),(12, .x (.int .u64 (setI (l.drop j) s))),(33, .fz b (.sl nl 0 1 (lvs nr B))),(34, .x (.int .i64 B.length)),(35, .x (.int .i64 i))]) [.pt 3 [.v (.int .i64 m)], .pt 4 [.v (.bool false)], .pt 31 [.v (.int .i64 0)], .pt 106 [.sl 2 107 1 (uvs A)]]else some (.tup [.x (.int .i64 0), .x (.bool false), .x (.int .i64 10)],[],[])
 |0,j,s,hj,ks=>by
  rw[oh9 (by omega),show okI n []=true from rfl,if_pos rfl,show setI [] s=s from rfl,sb5 c30L0.eq_def]
  simp(disch:=first|omega|fail) only[push_cast,seval,vrl,if_pos,if_neg]
 |d+1,j,s,hj,ks=>by
  obtain⟨x,hx⟩:=ge6 (l:=l) (i:=j) (by omega)
  have h1:=iat hx
  have ih:=xy1 hB hn hl (i:=i) (A:=A) d (j+1) (orU s x.toNat) (by omega) ks
  rw[Int.natCast_add,Int.natCast_one]at ih
  rw[ja2 hx,show okI n (x::l.drop (j+1))=((decide (0≤x)&&decide (x<(n:Int)))&&okI n (l.drop (j+1)))from rfl,show setI (x::l.drop (j+1)) s=setI (l.drop (j+1)) (orU s x.toNat)from rfl]
  by_cases h0:x<0
  ·rw[decide_eq_false (Int.not_le.2 h0),Bool.false_and,Bool.false_and,if_neg Bool.false_ne_true,sb5 c30L0.eq_def]
   simp(disch:=first|omega|fail) only[push_cast,seval,vrl,if_pos,if_neg,h1,dec_lt h0]
  ·by_cases h2:x<(n:Int)
   ·rw[decide_eq_true (Int.not_lt.1 h0),decide_eq_true h2,Bool.true_and,Bool.true_and,←ih,sb5 c30L0.eq_def]
    unfold orU
    have hx0:0≤x:=Int.not_lt.1 h0
    simp(disch:=first|omega|fail) only[push_cast,seval,vrl,if_pos,if_neg,h1,cw6 hx0,qc6 h2]
   ·rw[decide_eq_false h2,Bool.and_false,Bool.false_and,if_neg Bool.false_ne_true,sb5 c30L0.eq_def]
    simp(disch:=first|omega|fail) only[push_cast,seval,vrl,if_pos,if_neg,h1,cw6 (Int.not_lt.1 h0),nl2 (Int.not_lt.1 h2)]
theorem xn3(hB:B.length≤4096)(hn:n≤64)(hl: ∀l∈B,l.length≤9223372036854775807): ∀(d i:Nat),i+d=B.length→ ∀ks,
 vgoL W ⟨hNo,[(.cell 6 false 1),(.cell 7 false 1),(.cell 8 false 1)],0⟩ [0,2,6,7,8,9,33,34,35] c30L1 (.blk 0 [0,2,6,7,8,9]::ks) [(0, .x (.int .i64 n)),(2, .x (.int .i64 t)),(6, .own 0 []),(7, .own 1 []),(8, .own 2 []),(9, .own 3 []),(33, .fz b (.sl nl 0 1 (lvs nr B))),(34, .x (.int .i64 B.length)),(35, .x (.int .i64 i))] [.pt 3 [.v (.int .i64 m)], .pt 4 [.v (.bool false)], .pt 31 [.v (.int .i64 0)], .pt 106 [.sl 2 107 1 (uvs ((gl4 B).take i))]]=
  if((B.drop i).all (okI n))=true then vgo W ⟨hNo,[(.cell 6 false 1),(.cell 7 false 1),(.cell 8 false 1)],0⟩ ks (VFr.of [(0, .x (.int .i64 n)),(2, .x (.int .i64 t)),(6, .own 0 []),(7, .own 1 []),(8, .own 2 []),(9, .own 3 [])]) [.pt 3 [.v (.int .i64 m)], .pt 4 [.v (.bool false)], .pt 31 [.v (.int .i64 0)], .pt 106 [.sl 2 107 1 (uvs (gl4 B))]]else some (.tup [.x (.int .i64 0), .x (.bool false), .x (.int .i64 10)],[],[])
 |0,i,hi,ks=>by
  rw[List.drop_eq_nil_of_le (by omega),List.all_nil,if_pos rfl,List.take_of_length_le (by rw[nc1];omega),sb5 c30L1.eq_def]
  simp(disch:=first|omega|fail) only[push_cast,seval,vrl,if_pos,if_neg]
 |d+1,i,hi,ks=>by
  obtain⟨l,h⟩:=ge6 (l:=B) (i:=i) (by omega)
  have hm:=List.mem_of_getElem? h
  have h1:=li3 (nl:=nr) h
  have e:=fun ks=>xy1 (b:=b) (nl:=nl) (nr:=nr) (t:=t) (m:=m) hB hn (hl l hm) (i:=i) (A:=(gl4 B).take i) l.length 0 0 (by omega) ks
  rw[List.drop_zero]at e
  simp only[Int.natCast_zero]at e
  have ih:=xn3 hB hn hl d (i+1) (by omega) ks
  have hs:=nc1 B
  rw[Int.natCast_add,Int.natCast_one,List.take_add_one,gn2 h,Option.toList_some]at ih
  rw[ja2 h,List.all_cons,sb5 c30L1.eq_def]
  simp(disch:=first|omega|fail) only[push_cast,seval,vrl,if_pos,if_neg,h1]
  rw[e]
  cases ho:okI n l with
  |true=>
   rw[if_pos rfl,Bool.true_and,←ih]
   simp(disch:=first|omega|fail) only[push_cast,seval,vrl,if_pos,if_neg,hs]
  |false=>rw[if_neg Bool.false_ne_true,Bool.false_and,if_neg Bool.false_ne_true]
end
def nI(l:List Nat):List Int:=l.map fun v:Nat=>(v:Int)
theorem ux5(l:List Nat):(nI l).length=l.length:=by simp[nI]
theorem v44{p s:List Nat}{v i:Nat}(hi:p.length=i):(ivs (nI (p++v::s)))[i]? =some (.v (.int .i64 v)):=iat (by unfold nI;subst hi;simp)
theorem in4{p s:List Nat}{v w i:Nat}(hi:p.length=i):(nI (p++v::s)).set i (w:Int)=nI (p++w::s):=by unfold nI;subst hi;simp
theorem ks7: ∀(t v:Nat),upL v t=List.range' v t
 |0,_=>rfl
 |t+1,v=>by rw[upL,ks7 t,List.range'_succ]
theorem tl8(t:Nat):ofJ t (fun j=>(j:Int))=nI (upL 0 t):=by unfold ofJ nI;rw[ks7,←List.range_eq_range']
section
variable {n t:Nat} {T0 T1 T2 T3:Tree}
theorem ml6(ht:t≤64): ∀(d i:Nat),i+d=t→ ∀ks,
 vgoL W ⟨hNo,[(.cell 6 false 1),(.cell 7 false 1),(.cell 8 false 1)],0⟩ [6,7,8,9,112,113,115,122,123,291] c30L2 (.blk 0 [6,7,8,9,112,113,115,291]::ks) [(6, .own 0 []),(7, .own 1 []),(8, .own 2 []),(9, .own 3 []),(112, .own 4 []),(113, .own 5 []),(115, .own 6 []),(122, .x (.int .i64 t)),(123, .x (.int .i64 i)),(291, .x (.bool false))] [T0,T1,T2,T3, .pt 3 [.v (.int .i64 t)], .pt 3 [.v (.int .i64 n)], .sl 0 3 1 (ivs (ofJ t fun j=>if j<i then(j:Int)else 0))]=
  vgo W ⟨hNo,[(.cell 6 false 1),(.cell 7 false 1),(.cell 8 false 1)],0⟩ ks (VFr.of [(6, .own 0 []),(7, .own 1 []),(8, .own 2 []),(9, .own 3 []),(112, .own 4 []),(113, .own 5 []),(115, .own 6 []),(291, .x (.bool false))]) [T0,T1,T2,T3, .pt 3 [.v (.int .i64 t)], .pt 3 [.v (.int .i64 n)], .sl 0 3 1 (ivs (nI (upL 0 t)))]
 |0,i,hi,ks=>by
  obtain rfl:i=t:=by omega
  have e:ofJ i (fun j=>if j<i then(j:Int)else 0)=nI (upL 0 i):=by
   rw[←tl8]
   exact List.map_congr_left fun j hj=>by rw[if_pos (List.mem_range.1 hj)]
  rw[e,sb5 c30L2.eq_def]
  simp(disch:=first|omega|fail) only[push_cast,seval,vrl,if_pos,if_neg]
 |d+1,i,hi,ks=>by
  have ih:=ml6 ht d (i+1) (by omega) ks
  have hs:(ofJ t fun j=>if j<i then(j:Int)else 0).set i (i:Int)=ofJ t fun j=>if j<i+1 then(j:Int)else 0:=pn9 fun j hj=>by
   by_cases h:j=i
   ·rw[h,if_pos (by omega),if_pos rfl]
   ·rw[if_neg h]
    by_cases h2:j<i
    ·rw[if_pos h2,if_pos (by omega)]
    ·rw[if_neg h2,if_neg (by omega)]
  have hl:=c88 t fun j=>if j<i then(j:Int)else 0
  rw[←hs,Int.natCast_add,Int.natCast_one]at ih
  rw[←ih,sb5 c30L2.eq_def]
  generalize (ofJ t fun j=>if j<i then(j:Int)else 0)=Z at*
  simp(disch:=first|omega|fail) only[push_cast,seval,vrl,if_pos,if_neg,hl]
theorem ea9{l:List Nat}(hl:l.length≤64): ∀(d j:Nat) (s:Int),j+d=l.length→ ∀ks,
 vgoL W ⟨hNo,[(.cell 6 false 1),(.cell 7 false 1),(.cell 8 false 1)],0⟩ [6,7,8,9,112,113,115,186,187,188,189,196,257,258,259,291] c30L3 (.blk 6 [6,7,8,9,112,113,115,186,187,188,189,196,291]::ks) [(6, .own 0 []),(7, .own 1 []),(8, .own 2 []),(9, .own 3 []),(112, .own 4 []),(113, .own 5 []),(115, .own 6 []),(186, .own 0 []),(187, .own 1 []),(188, .own 2 []),(189, .own 3 []),(196, .x (.int .u64 s)),(257, .own 6 []),(258, .x (.int .i64 l.length)),(259, .x (.int .i64 j)),(291, .x (.bool false))] [T0,T1,T2,T3, .pt 3 [.v (.int .i64 t)], .pt 3 [.v (.int .i64 n)], .sl 0 3 1 (ivs (nI l))]=
  vgo W ⟨hNo,[(.cell 6 false 1),(.cell 7 false 1),(.cell 8 false 1)],0⟩ ks (VFr.of [(6, .own 0 []),(7, .own 1 []),(8, .own 2 []),(9, .own 3 []),(112, .own 4 []),(113, .own 5 []),(115, .own 6 []),(186, .own 0 []),(187, .own 1 []),(188, .own 2 []),(189, .own 3 []),(196, .x (.int .u64 ((l.drop j).foldl orU s))),(291, .x (.bool false))]) [T0,T1,T2,T3, .pt 3 [.v (.int .i64 t)], .pt 3 [.v (.int .i64 n)], .sl 0 3 1 (ivs (nI l))]
 |0,j,s,hj,ks=>by
  rw[List.drop_eq_nil_of_le (by omega),List.foldl_nil,sb5 c30L3.eq_def]
  simp(disch:=first|omega|fail) only[push_cast,seval,vrl,if_pos,if_neg]
 |d+1,j,s,hj,ks=>by
  obtain⟨x,hx⟩:=ge6 (l:=l) (i:=j) (by omega)
  have h1:=iat (l:=nI l) (i:=j) (a:=(x:Int)) (by unfold nI;rw[List.getElem?_map,hx];rfl)
  have ih:=ea9 hl d (j+1) (orU s x) (by omega) ks
  have hnl:=ux5 l
  rw[Int.natCast_add,Int.natCast_one]at ih
  rw[ja2 hx,List.foldl_cons,←ih,sb5 c30L3.eq_def]
  unfold orU
  simp(disch:=first|omega|fail) only[push_cast,seval,vrl,if_pos,if_neg,h1,hnl]
theorem z61{sets:List Int}(hs:sets.length≤100000){s:Int}{L:Tree}: ∀(d j k:Nat),j+d=sets.length→k≤j→ ∀ks,
 vgoL W ⟨hNo,[(.cell 6 false 1),(.cell 7 false 1),(.cell 8 false 1)],0⟩ [6,7,8,9,112,113,115,186,187,188,196,199,268,269,270,291] c30L4 (.blk 8 [6,7,8,9,112,113,115,186,187,188,199,291]::ks) [(6, .own 0 []),(7, .own 1 []),(8, .own 2 []),(9, .own 3 []),(112, .own 4 []),(113, .own 5 []),(115, .own 6 []),(186, .own 0 []),(187, .own 1 []),(188, .own 2 []),(196, .x (.int .u64 s)),(199, .x (.int .i64 k)),(268, .own 3 [0]),(269, .x (.int .i64 sets.length)),(270, .x (.int .i64 j)),(291, .x (.bool false))] [T0,T1,T2, .pt 106 [.sl 2 107 1 (uvs sets)], .pt 3 [.v (.int .i64 t)], .pt 3 [.v (.int .i64 n)],L]=
  vgo W ⟨hNo,[(.cell 6 false 1),(.cell 7 false 1),(.cell 8 false 1)],0⟩ ks (VFr.of [(6, .own 0 []),(7, .own 1 []),(8, .own 2 []),(9, .own 3 []),(112, .own 4 []),(113, .own 5 []),(115, .own 6 []),(186, .own 0 []),(187, .own 1 []),(188, .own 2 []),(199, .x (.int .i64 (k+cntU s (sets.drop j):Nat))),(291, .x (.bool false))]) [T0,T1,T2, .pt 106 [.sl 2 107 1 (uvs sets)], .pt 3 [.v (.int .i64 t)], .pt 3 [.v (.int .i64 n)],L]
 |0,j,k,hj,hk,ks=>by
  rw[oh9 (by omega),sb5 c30L4.eq_def]
  show _=vgo W ⟨hNo,[(.cell 6 false 1),(.cell 7 false 1),(.cell 8 false 1)],0⟩ ks (VFr.of [(6, .own 0 []),(7, .own 1 []),(8, .own 2 []),(9, .own 3 []),(112, .own 4 []),(113, .own 5 []),(115, .own 6 []),(186, .own 0 []),(187, .own 1 []),(188, .own 2 []),(199, .x (.int .i64 (k+0:Nat))),(291, .x (.bool false))]) [T0,T1,T2, .pt 106 [.sl 2 107 1 (uvs sets)], .pt 3 [.v (.int .i64 t)], .pt 3 [.v (.int .i64 n)],L]
  rw[Nat.add_zero]
  simp(disch:=first|omega|fail) only[push_cast,seval,vrl,if_pos,if_neg]
 |d+1,j,k,hj,hk,ks=>by
  obtain⟨x,hx⟩:=ge6 (l:=sets) (i:=j) (by omega)
  have h1:=uat hx
  have ih:=z61 hs (s:=s) (L:=L) d (j+1) (k+if andU x s=s then 1 else 0) (by omega) (by split<;>omega) ks
  rw[ja2 hx,cntU]
  rw[Nat.add_assoc]at ih
  rw[←ih,sb5 c30L4.eq_def]
  by_cases h:andU x s=s
  ·rw[if_pos h,Int.natCast_add,Int.natCast_one,Int.natCast_add,Int.natCast_one]
   unfold andU at h
   simp(disch:=first|omega|fail) only[push_cast,seval,vrl,if_pos,if_neg,h1,h]
  ·rw[if_neg h,Nat.add_zero,Int.natCast_add,Int.natCast_one]
   unfold andU at h
   simp(disch:=first|omega|fail) only[push_cast,seval,vrl,if_pos,if_neg,h1,nb8 h]
structure Goes (n:Nat) (l:List Nat) (j:Int):Prop where
 no:j<0→nxtL n l=none
 yes:0≤j→ ∃p v s,l=p++v::s∧(p.length:Int)=j∧endL n s∧v+1+(s.length+1)≤n
theorem z83{n:Nat}: ∀{p s:List Nat},bdL n (p++s)→bdL n s
 | [],s,h=>h
 |v::p,s,h=>z83 h.2
theorem a54(hn:n≤64)(ht64:t≤64): ∀(i:Nat) (p s:List Nat),p.length=i→(p++s).length=t→bdL n (p++s)→endL n s→ ∃j:Int,-1≤j∧Goes n (p++s) j∧ ∀ks,
 vgoL W ⟨hNo,[(.cell 6 false 1),(.cell 7 false 1),(.cell 8 false 1)],0⟩ [6,7,8,9,112,113,115,117,291] c30L5 (.blk 4 [6,7,8,9,112,113,115,117,291]::ks) [(6, .own 0 []),(7, .own 1 []),(8, .own 2 []),(9, .own 3 []),(112, .own 4 []),(113, .own 5 []),(115, .own 6 []),(117, .x (.int .i64 ((i:Int)-1))),(291, .x (.bool false))] [T0,T1,T2,T3, .pt 3 [.v (.int .i64 t)], .pt 3 [.v (.int .i64 n)], .sl 0 3 1 (ivs (nI (p++s)))]=
  vgo W ⟨hNo,[(.cell 6 false 1),(.cell 7 false 1),(.cell 8 false 1)],0⟩ ks (VFr.of [(6, .own 0 []),(7, .own 1 []),(8, .own 2 []),(9, .own 3 []),(112, .own 4 []),(113, .own 5 []),(115, .own 6 []),(117, .x (.int .i64 j)),(291, .x (.bool false))]) [T0,T1,T2,T3, .pt 3 [.v (.int .i64 t)], .pt 3 [.v (.int .i64 n)], .sl 0 3 1 (ivs (nI (p++s)))]
 |0,p,s,hi,ht,hb,he=>by
  obtain rfl:p=[]:=List.eq_nil_of_length_eq_zero hi
  refine⟨-1,by omega,⟨fun _=>he,fun h=>absurd h (by decide)⟩,fun ks=> ?_⟩
  rw[sb5 c30L5.eq_def]
  simp(disch:=first|omega|fail) only[push_cast,seval,vrl,if_pos,if_neg]
 |i+1,p,s,hi,ht,hb,he=>by
  obtain⟨p',a,rfl⟩: ∃p' a,p=p'++[a]:=⟨p.dropLast,p.getLast (by intro h;subst h;simp at hi),(List.dropLast_concat_getLast _).symm⟩
  have hp'l:p'.length=i:=by simpa using hi
  rw[List.append_assoc,List.singleton_append]at ht hb⊢
  have hb2:=z83 hb
  have hlen:p'.length+(s.length+1)=t:=by simpa using ht
  have h1:=v44 (s:=s) (v:=a) hp'l
  have hnl:=ux5 (p'++a::s)
  rw[ht]at hnl
  have hw:((i+1:Nat):Int)-1=(i:Int):=by omega
  rw[hw]
  by_cases hm:a+(s.length+1)=n
  ·obtain⟨j,j0,j1,j2⟩:=a54 hn ht64 i p' (a::s) hp'l ht hb (ea4 n he hm)
   refine⟨j,j0,j1,fun ks=> ?_⟩
   have hd:(a:Int)=(n:Int)-(t:Int)+(i:Int):=by omega
   rw[←j2 ks,sb5 c30L5.eq_def]
   simp(disch:=first|omega|fail) only[push_cast,seval,vrl,if_pos,if_neg,h1,hnl,mr8 hd]
  ·have hb3:=hb2.1
   refine⟨i,by omega,⟨fun h=>absurd h (by omega),fun _=>⟨p',a,s,rfl,by omega,he,by omega⟩⟩,fun ks=> ?_⟩
   have hd: ¬(a:Int)=(n:Int)-(t:Int)+(i:Int):=by omega
   rw[sb5 c30L5.eq_def]
   simp(disch:=first|omega|fail) only[push_cast,seval,vrl,if_pos,if_neg,h1,hnl,nb8 hd]
theorem r64(hn:n≤64): ∀(r q:List Nat) (w k:Nat),q.length+1=k→k+r.length=t→w+(r.length+1)≤n→t≤64→ ∀ks,
 vgoL W ⟨hNo,[(.cell 6 false 1),(.cell 7 false 1),(.cell 8 false 1)],0⟩ [6,7,8,9,112,113,115,118,291] c30L6 (.blk 6 [6,7,8,9,112,113,115,291]::ks) [(6, .own 0 []),(7, .own 1 []),(8, .own 2 []),(9, .own 3 []),(112, .own 4 []),(113, .own 5 []),(115, .own 6 []),(118, .x (.int .i64 k)),(291, .x (.bool false))] [T0,T1,T2,T3, .pt 3 [.v (.int .i64 t)], .pt 3 [.v (.int .i64 n)], .sl 0 3 1 (ivs (nI (q++w::r)))]=
  vgo W ⟨hNo,[(.cell 6 false 1),(.cell 7 false 1),(.cell 8 false 1)],0⟩ ks (VFr.of [(6, .own 0 []),(7, .own 1 []),(8, .own 2 []),(9, .own 3 []),(112, .own 4 []),(113, .own 5 []),(115, .own 6 []),(291, .x (.bool false))]) [T0,T1,T2,T3, .pt 3 [.v (.int .i64 t)], .pt 3 [.v (.int .i64 n)], .sl 0 3 1 (ivs (nI (q++upL w (r.length+1))))]
 | [],q,w,k,hq,hk,hw,ht,ks=>by
   have hkt:k=t:=by simpa using hk
   subst hkt
   rw[sb5 c30L6.eq_def]
   simp(disch:=first|omega|fail) only[push_cast,seval,vrl,if_pos,if_neg]
   rfl
 |x::r,q,w,k,hq,hk,hw,ht,ks=>by
  rw[List.length_cons]at hk hw
  have ih:=r64 hn r (q++[w]) (w+1) (k+1) (by simp;omega) (by omega) (by omega) ht ks
  rw[List.append_assoc,List.singleton_append,List.append_assoc,List.singleton_append]at ih
  have h1:=v44 (p:=q) (s:=x::r) (v:=w) rfl
  have h2:(nI (q++w::x::r)).set k ((w:Int)+1)=nI (q++w::(w+1)::r):=by
   have:=in4 (p:=q++[w]) (s:=r) (v:=x) (w:=w+1) (i:=k) (by simp;omega)
   rw[List.append_assoc,List.append_assoc]at this
   simpa using this
  have hnl:=ux5 (q++w::x::r)
  have hlen:(q++w::x::r).length=t:=by simp;omega
  rw[hlen]at hnl
  have g1:(k:Int)-1=(q.length:Int):=by omega
  rw[←h2,Int.natCast_add,Int.natCast_one]at ih
  rw[List.length_cons,show upL w (r.length+1+1)=w::upL (w+1) (r.length+1)from rfl,←ih,sb5 c30L6.eq_def]
  generalize nI (q++w::x::r)=Z at*
  simp(disch:=first|omega|fail) only[push_cast,seval,vrl,if_pos,if_neg,h1,hnl,g1]
end
set_option maxHeartbeats 1600000
section
variable {n t:Nat} {sets:List Int}
theorem ug3(hs:sets.length≤100000)(hn:n≤64)(htn:t≤n){l:List Nat}(hl:l.length=t){m:Int}(h: ¬(m<0∨cntS sets (l.foldl orU 0)=m))(ks kz)(hks:ks= .blk 1000 [291,6,7,8]::kz):
 vgoL W ⟨hNo,[(.cell 6 false 1),(.cell 7 false 1),(.cell 8 false 1)],0⟩ [6,7,8,9,112,113,115,291] c30L7 (.blk 2 [6,7,8,9,291]::ks) [(6, .own 0 []),(7, .own 1 []),(8, .own 2 []),(9, .own 3 []),(112, .own 4 []),(113, .own 5 []),(115, .own 6 []),(291, .x (.bool false))] [.pt 3 [.v (.int .i64 m)], .pt 4 [.v (.bool false)], .pt 31 [.v (.int .i64 0)], .pt 106 [.sl 2 107 1 (uvs sets)], .pt 3 [.v (.int .i64 t)], .pt 3 [.v (.int .i64 n)], .sl 0 3 1 (ivs (nI l))]=
  vgo W ⟨hNo,[(.cell 6 false 1),(.cell 7 false 1),(.cell 8 false 1)],0⟩ kz (VFr.of [(291, .x (.bool true)),(6, .own 0 []),(7, .own 1 []),(8, .own 2 [])]) [.pt 3 [.v (.int .i64 0)], .pt 4 [.v (.bool false)], .pt 31 [.v (.int .i64 0)], .pt 106 [.sl 2 107 1 (uvs sets)], .pt 3 [.v (.int .i64 t)], .pt 3 [.v (.int .i64 n)], .sl 0 3 1 (ivs (nI l))]:=by
 have e3:=fun T0 T1 T2 T3 ks=>ea9 (t:=t) (n:=n) (T0:=T0) (T1:=T1) (T2:=T2) (T3:=T3) (l:=l) (by omega) l.length 0 0 (by omega) ks
 rw[List.drop_zero]at e3
 have e4:=fun T0 T1 T2 L ks=>z61 (t:=t) (n:=n) (T0:=T0) (T1:=T1) (T2:=T2) (L:=L) (sets:=sets) hs (s:=l.foldl orU 0) sets.length 0 0 (by omega) (by omega) ks
 rw[List.drop_zero,Nat.zero_add]at e4
 simp only[Int.natCast_zero]at e3 e4
 have hnl:=ux5 l
 have hle:(t:Int)≤(n:Int):=by omega
 unfold cntS at h
 have hm:0≤m:=Classical.byContradiction fun h2=>h (.inl (by omega))
 have hne: ¬((cntU (l.foldl orU 0) sets:Nat):Int)=m:=fun h2=>h (.inr h2)
 rw[hks,sb5 c30L7.eq_def]
 simp(disch:=first|omega|fail) only[push_cast,seval,vrl,if_pos,if_neg,nl2 hle,hnl]
 rw[e3]
 simp(disch:=first|omega|fail) only[push_cast,seval,vrl,if_pos,if_neg]
 rw[e4]
 simp(disch:=first|omega|fail) only[push_cast,seval,vrl,if_pos,if_neg,nl2 hm,nb8 hne]
theorem iy7(hs:sets.length≤100000)(hn:n≤64)(htn:t≤n){l:List Nat}(hl:l.length=t)(hb:bdL n l){m:Int}(h:m<0∨cntS sets (l.foldl orU 0)=m):
 (nxtL n l=none→ ∀ks kz,ks= .blk 1000 [291,6,7,8]::kz→vgoL W ⟨hNo,[(.cell 6 false 1),(.cell 7 false 1),(.cell 8 false 1)],0⟩ [6,7,8,9,112,113,115,291] c30L7 (.blk 2 [6,7,8,9,291]::ks) [(6, .own 0 []),(7, .own 1 []),(8, .own 2 []),(9, .own 3 []),(112, .own 4 []),(113, .own 5 []),(115, .own 6 []),(291, .x (.bool false))] [.pt 3 [.v (.int .i64 m)], .pt 4 [.v (.bool false)], .pt 31 [.v (.int .i64 0)], .pt 106 [.sl 2 107 1 (uvs sets)], .pt 3 [.v (.int .i64 t)], .pt 3 [.v (.int .i64 n)], .sl 0 3 1 (ivs (nI l))]=
   vgo W ⟨hNo,[(.cell 6 false 1),(.cell 7 false 1),(.cell 8 false 1)],0⟩ kz (VFr.of [(291, .x (.bool false)),(6, .own 0 []),(7, .own 1 []),(8, .own 2 [])]) [.pt 3 [.v (.int .i64 (cntS sets (l.foldl orU 0)))], .pt 4 [.v (.bool false)], .pt 31 [.v (.int .i64 0)], .pt 106 [.sl 2 107 1 (uvs sets)], .pt 3 [.v (.int .i64 t)], .pt 3 [.v (.int .i64 n)], .sl 0 3 1 (ivs (nI l))])∧
 (∀l',nxtL n l=some l'→ ∀ks kz,ks= .blk 1000 [291,6,7,8]::kz→vgoL W ⟨hNo,[(.cell 6 false 1),(.cell 7 false 1),(.cell 8 false 1)],0⟩ [6,7,8,9,112,113,115,291] c30L7 (.blk 2 [6,7,8,9,291]::ks) [(6, .own 0 []),(7, .own 1 []),(8, .own 2 []),(9, .own 3 []),(112, .own 4 []),(113, .own 5 []),(115, .own 6 []),(291, .x (.bool false))] [.pt 3 [.v (.int .i64 m)], .pt 4 [.v (.bool false)], .pt 31 [.v (.int .i64 0)], .pt 106 [.sl 2 107 1 (uvs sets)], .pt 3 [.v (.int .i64 t)], .pt 3 [.v (.int .i64 n)], .sl 0 3 1 (ivs (nI l))]=
   vgoL W ⟨hNo,[(.cell 6 false 1),(.cell 7 false 1),(.cell 8 false 1)],0⟩ [6,7,8,9,112,113,115,291] c30L7 (.blk 2 [6,7,8,9,291]::ks) [(6, .own 0 []),(7, .own 1 []),(8, .own 2 []),(9, .own 3 []),(112, .own 4 []),(113, .own 5 []),(115, .own 6 []),(291, .x (.bool false))] [.pt 3 [.v (.int .i64 (cntS sets (l.foldl orU 0)))], .pt 4 [.v (.bool false)], .pt 31 [.v (.int .i64 0)], .pt 106 [.sl 2 107 1 (uvs sets)], .pt 3 [.v (.int .i64 t)], .pt 3 [.v (.int .i64 n)], .sl 0 3 1 (ivs (nI l'))]):=by
 have e3:=fun T0 T1 T2 T3 ks=>ea9 (t:=t) (n:=n) (T0:=T0) (T1:=T1) (T2:=T2) (T3:=T3) (l:=l) (by omega) l.length 0 0 (by omega) ks
 rw[List.drop_zero]at e3
 have e4:=fun T0 T1 T2 L ks=>z61 (t:=t) (n:=n) (T0:=T0) (T1:=T1) (T2:=T2) (L:=L) (sets:=sets) hs (s:=l.foldl orU 0) sets.length 0 0 (by omega) (by omega) ks
 rw[List.drop_zero,Nat.zero_add]at e4
 simp only[Int.natCast_zero]at e3 e4
 have hnl:=ux5 l
 have hle:(t:Int)≤(n:Int):=by omega
 have hfind:=fun T0 T1 T2 T3=>a54 (t:=t) (T0:=T0) (T1:=T1) (T2:=T2) (T3:=T3) hn (by omega) t l [] hl (by rw[List.append_nil];exact hl) (by rw[List.append_nil];exact hb) rfl
 simp only[List.append_nil]at hfind
 obtain⟨j,j0,j1,j2⟩:=hfind (.pt 3 [.v (.int .i64 (cntU (l.foldl orU 0) sets:Nat))]) (.pt 4 [.v (.bool false)]) (.pt 31 [.v (.int .i64 0)]) (.pt 106 [.sl 2 107 1 (uvs sets)])
 unfold cntS at h⊢
 refine⟨fun hno ks kz hks=> ?_,fun l' hyes ks kz hks=> ?_⟩
 ·have hj:j<0:=Classical.byContradiction fun h2=>by
   obtain⟨p,v,s,q1,q2,q3,q4⟩:=j1.yes (by omega)
   have:=jf4 n q3 q4 p
   rw[←q1,hno]at this
   cases this
  rw[hks,sb5 c30L7.eq_def]
  by_cases hm:0≤m
  ·have he:((cntU (l.foldl orU 0) sets:Nat):Int)=m:=h.resolve_left (by omega)
   simp(disch:=first|omega|fail) only[push_cast,seval,vrl,if_pos,if_neg,nl2 hle,hnl]
   rw[e3]
   simp(disch:=first|omega|fail) only[push_cast,seval,vrl,if_pos,if_neg]
   rw[e4]
   simp(disch:=first|omega|fail) only[push_cast,seval,vrl,if_pos,if_neg,nl2 hm,mr8 he]
   rw[j2]
   simp(disch:=first|omega|fail) only[push_cast,seval,vrl,if_pos,if_neg,dec_lt hj]
  ·have hm':m<0:=by omega
   simp(disch:=first|omega|fail) only[push_cast,seval,vrl,if_pos,if_neg,nl2 hle,hnl]
   rw[e3]
   simp(disch:=first|omega|fail) only[push_cast,seval,vrl,if_pos,if_neg]
   rw[e4]
   simp(disch:=first|omega|fail) only[push_cast,seval,vrl,if_pos,if_neg,qc6 hm']
   rw[j2]
   simp(disch:=first|omega|fail) only[push_cast,seval,vrl,if_pos,if_neg,dec_lt hj]
 ·have hj:0≤j:=Classical.byContradiction fun h2=>by
   have:=j1.no (by omega)
   rw[hyes]at this
   cases this
  obtain⟨p,v,s,q1,q2,q3,q4⟩:=j1.yes hj
  have hnx:=jf4 n q3 q4 p
  rw[←q1,hyes]at hnx
  cases hnx
  have hpl:p.length+(s.length+1)=t:=by rw[←hl,q1];simp
  have e6:=fun T0 T1 T2 T3 ks=>r64 (t:=t) (T0:=T0) (T1:=T1) (T2:=T2) (T3:=T3) hn s p (v+1) (p.length+1) rfl (by omega) (by omega) (by omega) ks
  have n1:=v44 (p:=p) (s:=s) (v:=v) rfl
  have n2:(nI (p++v::s)).set p.length ((v:Int)+1)=nI (p++(v+1)::s):=in4 (w:=v+1) rfl
  rw[←q1]at n1 n2
  rw[←n2,Int.natCast_add,Int.natCast_one]at e6
  subst q2
  rw[hks,sb5 c30L7.eq_def]
  by_cases hm:0≤m
  ·have he:((cntU (l.foldl orU 0) sets:Nat):Int)=m:=h.resolve_left (by omega)
   simp(disch:=first|omega|fail) only[push_cast,seval,vrl,if_pos,if_neg,nl2 hle,hnl]
   rw[e3]
   simp(disch:=first|omega|fail) only[push_cast,seval,vrl,if_pos,if_neg]
   rw[e4]
   simp(disch:=first|omega|fail) only[push_cast,seval,vrl,if_pos,if_neg,nl2 hm,mr8 he]
   rw[j2]
   simp(disch:=first|omega|fail) only[push_cast,seval,vrl,if_pos,if_neg,cw6 hj,n1,hnl]
   rw[e6]
   simp(disch:=first|omega|fail) only[push_cast,seval,vrl,if_pos,if_neg]
  ·have hm':m<0:=by omega
   simp(disch:=first|omega|fail) only[push_cast,seval,vrl,if_pos,if_neg,nl2 hle,hnl]
   rw[e3]
   simp(disch:=first|omega|fail) only[push_cast,seval,vrl,if_pos,if_neg]
   rw[e4]
   simp(disch:=first|omega|fail) only[push_cast,seval,vrl,if_pos,if_neg,qc6 hm']
   rw[j2]
   simp(disch:=first|omega|fail) only[push_cast,seval,vrl,if_pos,if_neg,cw6 hj,n1,hnl]
   rw[e6]
   simp(disch:=first|omega|fail) only[push_cast,seval,vrl,if_pos,if_neg]
theorem au8(hs:sets.length≤100000)(hn:n≤64)(htn:t≤n): ∀(d:Nat) (l:List Nat) (m:Int),(aftL n l).length≤d→l.length=t→bdL n l→ ∃L:Tree,∀ks kz,ks= .blk 1000 [291,6,7,8]::kz→
 (∀m',desP orU (cntS sets) 0 (aftL n l) m=some m'→vgoL W ⟨hNo,[(.cell 6 false 1),(.cell 7 false 1),(.cell 8 false 1)],0⟩ [6,7,8,9,112,113,115,291] c30L7 (.blk 2 [6,7,8,9,291]::ks) [(6, .own 0 []),(7, .own 1 []),(8, .own 2 []),(9, .own 3 []),(112, .own 4 []),(113, .own 5 []),(115, .own 6 []),(291, .x (.bool false))] [.pt 3 [.v (.int .i64 m)], .pt 4 [.v (.bool false)], .pt 31 [.v (.int .i64 0)], .pt 106 [.sl 2 107 1 (uvs sets)], .pt 3 [.v (.int .i64 t)], .pt 3 [.v (.int .i64 n)], .sl 0 3 1 (ivs (nI l))]=vgo W ⟨hNo,[(.cell 6 false 1),(.cell 7 false 1),(.cell 8 false 1)],0⟩ kz (VFr.of [(291, .x (.bool false)),(6, .own 0 []),(7, .own 1 []),(8, .own 2 [])]) [.pt 3 [.v (.int .i64 m')], .pt 4 [.v (.bool false)], .pt 31 [.v (.int .i64 0)], .pt 106 [.sl 2 107 1 (uvs sets)], .pt 3 [.v (.int .i64 t)], .pt 3 [.v (.int .i64 n)],L])∧
 (desP orU (cntS sets) 0 (aftL n l) m=none→vgoL W ⟨hNo,[(.cell 6 false 1),(.cell 7 false 1),(.cell 8 false 1)],0⟩ [6,7,8,9,112,113,115,291] c30L7 (.blk 2 [6,7,8,9,291]::ks) [(6, .own 0 []),(7, .own 1 []),(8, .own 2 []),(9, .own 3 []),(112, .own 4 []),(113, .own 5 []),(115, .own 6 []),(291, .x (.bool false))] [.pt 3 [.v (.int .i64 m)], .pt 4 [.v (.bool false)], .pt 31 [.v (.int .i64 0)], .pt 106 [.sl 2 107 1 (uvs sets)], .pt 3 [.v (.int .i64 t)], .pt 3 [.v (.int .i64 n)], .sl 0 3 1 (ivs (nI l))]=vgo W ⟨hNo,[(.cell 6 false 1),(.cell 7 false 1),(.cell 8 false 1)],0⟩ kz (VFr.of [(291, .x (.bool true)),(6, .own 0 []),(7, .own 1 []),(8, .own 2 [])]) [.pt 3 [.v (.int .i64 0)], .pt 4 [.v (.bool false)], .pt 31 [.v (.int .i64 0)], .pt 106 [.sl 2 107 1 (uvs sets)], .pt 3 [.v (.int .i64 t)], .pt 3 [.v (.int .i64 n)],L])
 |0,l,m,hd,hl,hb=>by rw[yp8]at hd;simp at hd
 |d+1,l,m,hd,hl,hb=>by
  rw[yp8]at hd⊢
  rw[desP]
  by_cases h:m<0∨cntS sets (l.foldl orU 0)=m
  ·rw[if_pos h]
   obtain⟨t1,t2⟩:=iy7 hs hn htn hl hb h
   cases hnx:nxtL n l with
   |none=>
    refine⟨.sl 0 3 1 (ivs (nI l)),fun ks kz hks=>⟨fun m' hm'=> ?_,fun hm'=> ?_⟩⟩
    ·rw[t1 hnx ks kz hks]
     cases hm'
     rfl
    ·cases hm'
   |some l'=>
    rw[hnx]at hd
    obtain⟨L,ih⟩:=au8 hs hn htn d l' (cntS sets (l.foldl orU 0)) (by simpa using hd) ((et8 n hnx).trans hl) (wh9 n hb hnx)
    refine⟨L,fun ks kz hks=> ?_⟩
    obtain⟨i1,i2⟩:=ih ks kz hks
    exact⟨fun m' hm'=>by rw[t2 l' hnx ks kz hks];exact i1 m' hm',fun hm'=>by rw[t2 l' hnx ks kz hks];exact i2 hm'⟩
  ·rw[if_neg h]
   exact⟨.sl 0 3 1 (ivs (nI l)),fun ks kz hks=>⟨fun m' hm'=>(by cases hm'),fun _=>ug3 hs hn htn hl h ks kz hks⟩⟩
end
set_option maxHeartbeats 1600000
theorem ae5{n t:Int}:o24 W 84 [.x (.int .i64 n), .x (.int .i64 t)] []=some (.fn 139 [.own 0 [], .own 1 []],[.pt 3 [.v (.int .i64 t)], .pt 3 [.v (.int .i64 n)]],[]):=by
 rw[o08 rfl T84 rfl]
 unfold F84 c84
 simp(disch:=first|omega|fail) only[push_cast,seval,vrl,if_pos,if_neg]
theorem fz1(t:Nat):ofJ t (fun j=>if j<0 then(j:Int)else 0)=List.replicate t 0:=by
 refine List.ext_getElem? fun i=> ?_
 by_cases h:i<t
 ·rw[bu4 h,List.getElem?_replicate,if_pos h,if_neg (Nat.not_lt_zero i)]
 ·rw[List.getElem?_eq_none (by rw[c88];omega),List.getElem?_replicate,if_neg h]
section
variable {b:Bool} {nl nr:Nat} {B:List (List Int)}
theorem wi5{n t:Int}(hl:B.length≤9223372036854775807)(h:n<1∨64<n∨(4096:Int)<B.length):o24 W 30 [.x (.int .i64 n), .fz b (.sl nl 0 1 (lvs nr B)), .x (.int .i64 t)] []=some (.tup [.x (.int .i64 0), .x (.bool false), .x (.int .i64 4)],[],[]):=by
 rw[o08 rfl T30 rfl]
 unfold F30 c30
 by_cases h1:n<1
 ·simp(disch:=first|omega|fail) only[push_cast,seval,vrl,if_pos,if_neg,dec_lt h1]
 ·by_cases h2:64<n
  ·simp(disch:=first|omega|fail) only[push_cast,seval,vrl,if_pos,if_neg,cw6 (Int.not_lt.1 h1),dec_lt h2]
  ·have h3:=(h.resolve_left h1).resolve_left h2
   simp(disch:=first|omega|fail) only[push_cast,seval,vrl,if_pos,if_neg,cw6 (Int.not_lt.1 h1),cw6 (Int.not_lt.1 h2),dec_lt h3]
theorem jw2{n:Nat}{t:Int}(h1:1≤n)(hn:n≤64)(hB:B.length≤4096)(hl: ∀l∈B,l.length≤9223372036854775807)(h:B.all (okI n)=false):o24 W 30 [.x (.int .i64 n), .fz b (.sl nl 0 1 (lvs nr B)), .x (.int .i64 t)] []=some (.tup [.x (.int .i64 0), .x (.bool false), .x (.int .i64 10)],[],[]):=by
 have e:=fun ks=>xn3 (b:=b) (nl:=nl) (nr:=nr) (t:=t) (m:=0) hB hn hl B.length 0 (by omega) ks
 rw[List.drop_zero,List.take_zero,vd5,h]at e
 simp only[Int.natCast_zero,Bool.false_eq_true,if_false]at e
 have c1:(1:Int)≤n:=by omega
 have c2:(n:Int)≤64:=by omega
 have c3:(B.length:Int)≤4096:=by omega
 rw[o08 rfl T30 rfl]
 unfold F30 c30
 simp(disch:=first|omega|fail) only[push_cast,seval,vrl,if_pos,if_neg,cw6 c1,cw6 c2,cw6 c3]
 rw[e]
theorem k92{n:Nat}{t:Int}(h1:1≤n)(hn:n≤64)(hB:B.length≤4096)(hl: ∀l∈B,l.length≤9223372036854775807)(h:B.all (okI n)=true)(ht:t<0∨(n:Int)<t):o24 W 30 [.x (.int .i64 n), .fz b (.sl nl 0 1 (lvs nr B)), .x (.int .i64 t)] []=some (.tup [.x (.int .i64 0), .x (.bool false), .x (.int .i64 6)],[],[]):=by
 have e:=fun ks=>xn3 (b:=b) (nl:=nl) (nr:=nr) (t:=t) (m:=0) hB hn hl B.length 0 (by omega) ks
 rw[List.drop_zero,List.take_zero,vd5,h]at e
 simp only[Int.natCast_zero,if_true]at e
 have c1:(1:Int)≤n:=by omega
 have c2:(n:Int)≤64:=by omega
 have c3:(B.length:Int)≤4096:=by omega
 rw[o08 rfl T30 rfl]
 unfold F30 c30
 simp(disch:=first|omega|fail) only[push_cast,seval,vrl,if_pos,if_neg,cw6 c1,cw6 c2,cw6 c3]
 rw[e]
 by_cases h2:t<0
 ·simp(disch:=first|omega|fail) only[push_cast,seval,vrl,if_pos,if_neg,dec_lt h2]
 ·have h3:=ht.resolve_left h2
  simp(disch:=first|omega|fail) only[push_cast,seval,vrl,if_pos,if_neg,cw6 (Int.not_lt.1 h2),dec_lt h3]
theorem yg4{n t:Nat}(h1:1≤n)(hn:n≤64)(hB:B.length≤4096)(hl: ∀l∈B,l.length≤9223372036854775807)(h:B.all (okI n)=true)(ht:t≤n)(hs:smB n t 1=false):o24 W 30 [.x (.int .i64 n), .fz b (.sl nl 0 1 (lvs nr B)), .x (.int .i64 t)] []=some (.tup [.x (.int .i64 0), .x (.bool false), .x (.int .i64 4)],[],[]):=by
 have e:=fun ks=>xn3 (b:=b) (nl:=nl) (nr:=nr) (t:=t) (m:=0) hB hn hl B.length 0 (by omega) ks
 rw[List.drop_zero,List.take_zero,vd5,h]at e
 simp only[Int.natCast_zero,if_true]at e
 have e2:=by6 hn ht
 rw[hs,if_neg Bool.false_ne_true]at e2
 have c1:(1:Int)≤n:=by omega
 have c2:(n:Int)≤64:=by omega
 have c3:(B.length:Int)≤4096:=by omega
 have c4:(0:Int)≤t:=by omega
 have c5:(t:Int)≤n:=by omega
 rw[o08 rfl T30 rfl]
 unfold F30 c30
 simp(disch:=first|omega|fail) only[push_cast,seval,vrl,if_pos,if_neg,cw6 c1,cw6 c2,cw6 c3]
 rw[e]
 simp(disch:=first|omega|fail) only[push_cast,seval,vrl,if_pos,if_neg,cw6 c4,cw6 c5,e2]
theorem qh6{n t:Nat}(h1:1≤n)(hn:n≤64)(hB:B.length≤4096)(hl: ∀l∈B,l.length≤9223372036854775807)(h:B.all (okI n)=true)(ht:t≤n)(hs:smB n t 1=true):o24 W 30 [.x (.int .i64 n), .fz b (.sl nl 0 1 (lvs nr B)), .x (.int .i64 t)] []=match desP orU (cntS (gl4 B)) 0 (risL n (n+1) t 0) (-1)with
 |some m=>some (.tup [.x (.int .i64 m), .x (.bool true), .x (.int .i64 0)],[],[])
 |none=>some (.tup [.x (.int .i64 0), .x (.bool false), .x (.int .i64 0)],[],[]):=by
 have e:=fun ks=>xn3 (b:=b) (nl:=nl) (nr:=nr) (t:=t) (m:=0) hB hn hl B.length 0 (by omega) ks
 rw[List.drop_zero,List.take_zero,vd5,h]at e
 simp only[Int.natCast_zero,if_true]at e
 have e2:=by6 hn ht
 rw[hs,if_pos rfl]at e2
 have e3:=ae5 (n:=n) (t:=t)
 have e4:=fun T0 T1 T2 T3 ks=>ml6 (n:=n) (t:=t) (T0:=T0) (T1:=T1) (T2:=T2) (T3:=T3) (by omega) t 0 (by omega) ks
 rw[fz1]at e4
 simp only[Int.natCast_zero]at e4
 obtain⟨L,e5⟩:=au8 (sets:=gl4 B) (by rw[nc1];omega) hn ht (aftL n (upL 0 t)).length (upL 0 t) (-1) (Nat.le_refl _) (ve2 t 0) (cn9 n t 0 (by omega))
 rw[←or3 n t (n+1) 0 (by omega) (by omega)]at e5
 have c1:(1:Int)≤n:=by omega
 have c2:(n:Int)≤64:=by omega
 have c3:(B.length:Int)≤4096:=by omega
 have c4:(0:Int)≤t:=by omega
 have c5:(t:Int)≤n:=by omega
 have c6:(0:Int)≤(bin n t:Nat):=by omega
 have hul:(nI (upL 0 t)).length=t:=by rw[ux5,ve2]
 rw[o08 rfl T30 rfl]
 unfold F30 c30
 simp(disch:=first|omega|fail) only[push_cast,seval,vrl,if_pos,if_neg,cw6 c1,cw6 c2,cw6 c3]
 rw[e]
 simp(disch:=first|omega|fail) only[push_cast,seval,vrl,if_pos,if_neg,cw6 c4,cw6 c5,e2,cw6 c6,e3]
 rw[e4]
 simp(disch:=first|omega|fail) only[push_cast,seval,vrl,if_pos,if_neg]
 cases hd:desP orU (cntS (gl4 B)) 0 (risL n (n+1) t 0) (-1)with
 |some m=>
  rw[(e5 _ _ rfl).1 m hd]
  simp(disch:=first|omega|fail) only[push_cast,seval,vrl,if_pos,if_neg]
 |none=>
  rw[(e5 _ _ rfl).2 hd]
  simp(disch:=first|omega|fail) only[push_cast,seval,vrl,if_pos,if_neg]
end
set_option maxHeartbeats 1600000
section
variable {b:Bool} {nl nr:Nat} {B:List (List Int)}
def plE(n:Nat)(l:List Int):Int:=if okI n l=true then 0 else 10
theorem jm1{n t:Int}(hB:B.length≤4096){l:List Int}{i k:Nat}(hi:B[i]? =some l)(hl:l.length≤9223372036854775807)(hk:k≤l.length)(ks):
 vgoL W ⟨hNo,[.tmp 6],0⟩ [0,1,2,7,8,9] c5L0 (.blk 2 [0,1,2,7,8]::ks) [(0, .x (.int .i64 n)),(1, .fz b (.sl nl 0 1 (lvs nr B))),(2, .x (.int .i64 t)),(7, .x (.int .i64 10)),(8, .x (.int .i64 i)),(9, .x (.int .i64 k))] []=vgo W ⟨hNo,[.tmp 6],0⟩ ks (VFr.of [(0, .x (.int .i64 n)),(1, .fz b (.sl nl 0 1 (lvs nr B))),(2, .x (.int .i64 t)),(7, .x (.int .i64 10)),(8, .x (.int .i64 i))]) []:=by
 have h1:=li3 (nl:=nr) hi
 have hil:i<B.length:=(List.getElem?_eq_some_iff.1 hi).1
 rw[sb5 c5L0.eq_def]
 by_cases h:(k:Int)<(l.length:Int)
 ·simp(disch:=first|omega|fail) only[push_cast,seval,vrl,if_pos,if_neg,h1,dec_lt h]
 ·simp(disch:=first|omega|fail) only[push_cast,seval,vrl,if_pos,if_neg,h1,cw6 (Int.not_lt.1 h)]
theorem xs5{n:Nat}{t:Int}(hB:B.length≤4096){l:List Int}{i:Nat}(hi:B[i]? =some l)(hl:l.length≤9223372036854775807): ∀(d k:Nat),k+d=l.length→ ∀ks,
 vgoL W ⟨hNo,[.tmp 6],0⟩ [0,1,2,7,8,9] c5L0 (.blk 2 [0,1,2,7,8]::ks) [(0, .x (.int .i64 n)),(1, .fz b (.sl nl 0 1 (lvs nr B))),(2, .x (.int .i64 t)),(7, .x (.int .i64 0)),(8, .x (.int .i64 i)),(9, .x (.int .i64 k))] []=vgo W ⟨hNo,[.tmp 6],0⟩ ks (VFr.of [(0, .x (.int .i64 n)),(1, .fz b (.sl nl 0 1 (lvs nr B))),(2, .x (.int .i64 t)),(7, .x (.int .i64 (plE n (l.drop k)))),(8, .x (.int .i64 i))]) []
 |0,k,hk,ks=>by
  have h1:=li3 (nl:=nr) hi
  have hil:i<B.length:=(List.getElem?_eq_some_iff.1 hi).1
  have hkl:(l.length:Int)≤(k:Int):=by omega
  rw[oh9 (by omega),show plE n []=0 from rfl,sb5 c5L0.eq_def]
  simp(disch:=first|omega|fail) only[push_cast,seval,vrl,if_pos,if_neg,h1,cw6 hkl]
 |d+1,k,hk,ks=>by
  have h1:=li3 (nl:=nr) hi
  have hil:i<B.length:=(List.getElem?_eq_some_iff.1 hi).1
  obtain⟨x,hx⟩:=ge6 (l:=l) (i:=k) (by omega)
  have h2:=iat hx
  have hkl:(k:Int)<(l.length:Int):=by omega
  rw[ja2 hx]
  unfold plE
  rw[show okI n (x::l.drop (k+1))=((decide (0≤x)&&decide (x<(n:Int)))&&okI n (l.drop (k+1)))from rfl]
  by_cases h0:x<0
  ·have ex:=fun ks=>jm1 (b:=b) (nl:=nl) (nr:=nr) (n:=n) (t:=t) hB hi (by omega) (k:=k+1) (by omega) ks
   rw[Int.natCast_add,Int.natCast_one]at ex
   rw[decide_eq_false (Int.not_le.2 h0),Bool.false_and,Bool.false_and,if_neg Bool.false_ne_true,←ex,sb5 c5L0.eq_def]
   simp(disch:=first|omega|fail) only[push_cast,seval,vrl,if_pos,if_neg,h1,h2,dec_lt hkl,dec_lt h0]
  ·by_cases h3:x<(n:Int)
   ·have ih:=xs5 (n:=n) (t:=t) hB hi hl d (k+1) (by omega) ks
    rw[Int.natCast_add,Int.natCast_one]at ih
    unfold plE at ih
    rw[decide_eq_true (Int.not_lt.1 h0),decide_eq_true h3,Bool.true_and,Bool.true_and,←ih,sb5 c5L0.eq_def]
    simp(disch:=first|omega|fail) only[push_cast,seval,vrl,if_pos,if_neg,h1,h2,dec_lt hkl,cw6 (Int.not_lt.1 h0),qc6 h3]
   ·have ex:=fun ks=>jm1 (b:=b) (nl:=nl) (nr:=nr) (n:=n) (t:=t) hB hi (by omega) (k:=k+1) (by omega) ks
    rw[Int.natCast_add,Int.natCast_one]at ex
    rw[decide_eq_false h3,Bool.and_false,Bool.false_and,if_neg Bool.false_ne_true,←ex,sb5 c5L0.eq_def]
    simp(disch:=first|omega|fail) only[push_cast,seval,vrl,if_pos,if_neg,h1,h2,dec_lt hkl,cw6 (Int.not_lt.1 h0),nl2 (Int.not_lt.1 h3)]
theorem vm7{n t e:Int}(hB:B.length≤9223372036854775807)(he:e≠0){i:Nat}(hi:i≤B.length)(ks):
 vgoL W ⟨hNo,[.tmp 6],0⟩ [0,1,2,7,8] c5L1 (.blk 0 [0,1,2,7]::ks) [(0, .x (.int .i64 n)),(1, .fz b (.sl nl 0 1 (lvs nr B))),(2, .x (.int .i64 t)),(7, .x (.int .i64 e)),(8, .x (.int .i64 i))] []=vgo W ⟨hNo,[.tmp 6],0⟩ ks (VFr.of [(0, .x (.int .i64 n)),(1, .fz b (.sl nl 0 1 (lvs nr B))),(2, .x (.int .i64 t)),(7, .x (.int .i64 e))]) []:=by
 rw[sb5 c5L1.eq_def]
 by_cases h:(i:Int)<(B.length:Int)
 ·simp(disch:=first|omega|fail) only[push_cast,seval,vrl,if_pos,if_neg,dec_lt h,nb8 he]
 ·simp(disch:=first|omega|fail) only[push_cast,seval,vrl,if_pos,if_neg,cw6 (Int.not_lt.1 h)]
def plB(n:Nat)(B:List (List Int)):Int:=if B.all (okI n)=true then 0 else 10
theorem fv6{n:Nat}{t:Int}(hB:B.length≤4096)(hl: ∀l∈B,l.length≤9223372036854775807): ∀(d i:Nat),i+d=B.length→ ∀ks,
 vgoL W ⟨hNo,[.tmp 6],0⟩ [0,1,2,7,8] c5L1 (.blk 0 [0,1,2,7]::ks) [(0, .x (.int .i64 n)),(1, .fz b (.sl nl 0 1 (lvs nr B))),(2, .x (.int .i64 t)),(7, .x (.int .i64 0)),(8, .x (.int .i64 i))] []=vgo W ⟨hNo,[.tmp 6],0⟩ ks (VFr.of [(0, .x (.int .i64 n)),(1, .fz b (.sl nl 0 1 (lvs nr B))),(2, .x (.int .i64 t)),(7, .x (.int .i64 (plB n (B.drop i))))]) []
 |0,i,hi,ks=>by
  have hkl:(B.length:Int)≤(i:Int):=by omega
  rw[List.drop_eq_nil_of_le (by omega),show plB n []=0 from rfl,sb5 c5L1.eq_def]
  simp(disch:=first|omega|fail) only[push_cast,seval,vrl,if_pos,if_neg,cw6 hkl]
 |d+1,i,hi,ks=>by
  obtain⟨l,h⟩:=ge6 (l:=B) (i:=i) (by omega)
  have hkl:(i:Int)<(B.length:Int):=by omega
  have e:=fun ks=>xs5 (b:=b) (nl:=nl) (nr:=nr) (n:=n) (t:=t) hB h (hl l (List.mem_of_getElem? h)) l.length 0 (by omega) ks
  rw[List.drop_zero]at e
  simp only[Int.natCast_zero]at e
  rw[ja2 h]
  unfold plB
  rw[List.all_cons]
  cases ho:okI n l with
  |true=>
   have ih:=fv6 (n:=n) (t:=t) hB hl d (i+1) (by omega) ks
   rw[Int.natCast_add,Int.natCast_one]at ih
   unfold plB at ih
   simp only[plE,ho,if_true]at e
   rw[Bool.true_and,←ih,sb5 c5L1.eq_def]
   simp(disch:=first|omega|fail) only[push_cast,seval,vrl,if_pos,if_neg,dec_lt hkl]
   rw[e]
   simp(disch:=first|omega|fail) only[push_cast,seval,vrl,if_pos,if_neg]
  |false=>
   have ex:=fun ks=>vm7 (b:=b) (nl:=nl) (nr:=nr) (B:=B) (n:=n) (t:=t) (e:=10) (by omega) (by decide) (i:=i+1) (by omega) ks
   rw[Int.natCast_add,Int.natCast_one]at ex
   simp only[plE,ho,Bool.false_eq_true,if_false]at e
   rw[Bool.false_and,if_neg Bool.false_ne_true,←ex,sb5 c5L1.eq_def]
   simp(disch:=first|omega|fail) only[push_cast,seval,vrl,if_pos,if_neg,dec_lt hkl]
   rw[e]
   simp(disch:=first|omega|fail) only[push_cast,seval,vrl,if_pos,if_neg]
end
theorem ee7{n t:Int}{nl:Nat}{b:Bool}{B:List (List Int)}(hBl:B.length≤9223372036854775807)(hl: ∀l∈B,l.length≤9223372036854775807):
 o24 W 5 [.x (.int .i64 n), .fz b (.sl nl 0 1 (lvs 2 B)), .x (.int .i64 t)] []=some (.x (.bool true),[],[]):=by
 obtain⟨z1,w1⟩:=tr6 hBl
 cases z1 with
 |true=>
  rw[o08 rfl T5 rfl]
  unfold F5 c5
  simp(disch:=first|omega|fail) only[push_cast,seval,vrl,if_pos,if_neg,w1]
 |false=>
 by_cases hlim:n<1∨64<n∨(4096:Int)<B.length
 ·have e1:=fun b nl=>wi5 (b:=b) (nl:=nl) (nr:=2) (B:=B) (t:=t) hBl hlim
  have ex:=fun ks=>vm7 (b:=b) (nl:=nl) (nr:=2) (B:=B) (n:=n) (t:=t) (e:=4) hBl (by decide) (i:=0) (by omega) ks
  simp only[Int.natCast_zero]at ex
  rw[o08 rfl T5 rfl]
  unfold F5 c5
  by_cases h1:n<1
  ·simp(disch:=first|omega|fail) only[push_cast,seval,vrl,if_pos,if_neg,w1,dec_lt h1]
   rw[ex]
   simp(disch:=first|omega|fail) only[push_cast,seval,vrl,if_pos,if_neg,e1]
  ·by_cases h2:64<n
   ·simp(disch:=first|omega|fail) only[push_cast,seval,vrl,if_pos,if_neg,w1,cw6 (Int.not_lt.1 h1),dec_lt h2]
    rw[ex]
    simp(disch:=first|omega|fail) only[push_cast,seval,vrl,if_pos,if_neg,e1]
   ·have h3:=(hlim.resolve_left h1).resolve_left h2
    simp(disch:=first|omega|fail) only[push_cast,seval,vrl,if_pos,if_neg,w1,cw6 (Int.not_lt.1 h1),cw6 (Int.not_lt.1 h2),dec_lt h3]
    rw[ex]
    simp(disch:=first|omega|fail) only[push_cast,seval,vrl,if_pos,if_neg,e1]
 ·have h1: ¬n<1:=fun h=>hlim (.inl h)
  have h2: ¬64<n:=fun h=>hlim (.inr (.inl h))
  have h3: ¬(4096:Int)<B.length:=fun h=>hlim (.inr (.inr h))
  obtain⟨n,rfl⟩: ∃k:Nat,n=(k:Int):=⟨n.toNat,by omega⟩
  have hn1:1≤n:=by omega
  have hn:n≤64:=by omega
  have hB:B.length≤4096:=by omega
  have e0:=fun ks=>fv6 (b:=b) (nl:=nl) (nr:=2) (n:=n) (t:=t) hB hl B.length 0 (by omega) ks
  rw[List.drop_zero]at e0
  simp only[Int.natCast_zero]at e0
  unfold plB at e0
  cases hall:B.all (okI n)with
  |false=>
   simp only[hall,Bool.false_eq_true,if_false]at e0
   have e1:=fun b nl=>jw2 (b:=b) (nl:=nl) (nr:=2) (t:=t) hn1 hn hB hl hall
   rw[o08 rfl T5 rfl]
   unfold F5 c5
   simp(disch:=first|omega|fail) only[push_cast,seval,vrl,if_pos,if_neg,w1,cw6 (Int.not_lt.1 h1),cw6 (Int.not_lt.1 h2),cw6 (Int.not_lt.1 h3)]
   rw[e0]
   simp(disch:=first|omega|fail) only[push_cast,seval,vrl,if_pos,if_neg,e1]
  |true=>
   simp only[hall,if_true]at e0
   by_cases ht:t<0∨(n:Int)<t
   ·have e1:=fun b nl=>k92 (b:=b) (nl:=nl) (nr:=2) (t:=t) hn1 hn hB hl hall ht
    rw[o08 rfl T5 rfl]
    unfold F5 c5
    simp(disch:=first|omega|fail) only[push_cast,seval,vrl,if_pos,if_neg,w1,cw6 (Int.not_lt.1 h1),cw6 (Int.not_lt.1 h2),cw6 (Int.not_lt.1 h3)]
    rw[e0]
    by_cases ht0:t<0
    ·simp(disch:=first|omega|fail) only[push_cast,seval,vrl,if_pos,if_neg,dec_lt ht0,e1]
    ·have ht1:=ht.resolve_left ht0
     simp(disch:=first|omega|fail) only[push_cast,seval,vrl,if_pos,if_neg,cw6 (Int.not_lt.1 ht0),dec_lt ht1,e1]
   ·have ht0: ¬t<0:=fun h=>ht (.inl h)
    have ht1: ¬(n:Int)<t:=fun h=>ht (.inr h)
    obtain⟨t,rfl⟩: ∃k:Nat,t=(k:Int):=⟨t.toNat,by omega⟩
    have htn:t≤n:=by omega
    have es:=cv1 hn htn
    cases hsm:smB n t 1 with
    |false=>
     rw[hsm]at es
     have e1:=fun b nl=>yg4 (b:=b) (nl:=nl) (nr:=2) hn1 hn hB hl hall htn hsm
     rw[o08 rfl T5 rfl]
     unfold F5 c5
     simp(disch:=first|omega|fail) only[push_cast,seval,vrl,if_pos,if_neg,w1,cw6 (Int.not_lt.1 h1),cw6 (Int.not_lt.1 h2),cw6 (Int.not_lt.1 h3)]
     rw[e0]
     simp(disch:=first|omega|fail) only[push_cast,seval,vrl,if_pos,if_neg,cw6 (Int.not_lt.1 ht0),cw6 (Int.not_lt.1 ht1),es,e1]
    |true=>
     rw[hsm]at es
     have e1:=fun b nl=>qh6 (b:=b) (nl:=nl) (nr:=2) hn1 hn hB hl hall htn hsm
     have e2:=fun b nl=>q96 (b:=b) (nl:=nl) (nr:=2) (n:=n) (t:=t) hB hl (fun l hm v hv=>by
      have h4:=List.all_eq_true.1 (List.all_eq_true.1 hall l hm) v hv
      rw[Bool.and_eq_true]at h4
      exact of_decide_eq_true h4.1) hn htn
     cases hd:desP orU (cntS (gl4 B)) 0 (risL n (n+1) t 0) (-1)with
     |some m=>
      simp only[hd]at e1 e2
      rw[o08 rfl T5 rfl]
      unfold F5 c5
      simp(disch:=first|omega|fail) only[push_cast,seval,vrl,if_pos,if_neg,w1,cw6 (Int.not_lt.1 h1),cw6 (Int.not_lt.1 h2),cw6 (Int.not_lt.1 h3)]
      rw[e0]
      simp(disch:=first|omega|fail) only[push_cast,seval,vrl,if_pos,if_neg,cw6 (Int.not_lt.1 ht0),cw6 (Int.not_lt.1 ht1),es,e1,e2]
     |none=>
      simp only[hd]at e1 e2
      rw[o08 rfl T5 rfl]
      unfold F5 c5
      simp(disch:=first|omega|fail) only[push_cast,seval,vrl,if_pos,if_neg,w1,cw6 (Int.not_lt.1 h1),cw6 (Int.not_lt.1 h2),cw6 (Int.not_lt.1 h3)]
      rw[e0]
      simp(disch:=first|omega|fail) only[push_cast,seval,vrl,if_pos,if_neg,cw6 (Int.not_lt.1 ht0),cw6 (Int.not_lt.1 ht1),es,e1,e2]
section
variable {h:H} {l:List AV} {ws:List Value}
theorem a23:Vm.VRL h [] (allZ h) (allZ h) [] []:=by rw[Vm.VRL]
theorem dp0(r:Vm.VRL h [] (allZ h) (allZ h) l ws)(v:Value):Vm.VRL h [] (allZ h) (allZ h) (.x v::l) (v::ws):=by
 rw[Vm.VRL];exact⟨v,ws,rfl,by rw[Vm.VR],r⟩
theorem ds5(r:Vm.VRL h [] (allZ h) (allZ h) l ws){sa:Option Addr}{c:Nat}{m:List (List Int)}(hr:RdLL h sa c m)(hu:ss4 h 1 sa=true):Vm.VRL h [] (allZ h) (allZ h) (.fz true (.sl 2 0 1 (lvs 2 m))::l) (.slice sa m.length c::ws):=by
 rw[Vm.VRL];exact⟨_,ws,rfl,by rw[Vm.VR];exact gl3 hr hu fun _ ho=>ho,r⟩
end
theorem xe5(h:H)(a0:Int)(_: -9223372036854775808≤a0)(_:a0≤9223372036854775807)(s1:Option Addr)(c1:Nat)(z1:List (List Int))(r1:RdLL h s1 c1 z1)(u1:ss4 h 1 s1=true)(_:z1.length≤9223372036854775807)(_: ∀l∈z1,l.length≤9223372036854775807)(a2:Int)(_: -9223372036854775808≤a2)(_:a2≤9223372036854775807):
 ∃h',call T 5 [.int .i64 a0, .slice s1 z1.length c1, .int .i64 a2] h=some (.bool true,h'):=
 vlaw lw2 (dp0 (ds5 (dp0 a23 _) r1 u1) _) (by apply ee7<;>assumption)
end Go.Proofs.Ytodbgomfeacdhaa
