/-
  The fields of the table are fields. No condition. What is known of fields in the first machine, for the second. No condition. What rows span; their one form. No condition. Rows one by one into what th ..
-/
import Derived.Test.YtmhbpecdpiapgaaK6
import Derived.Test.YtmhbpecdpiapgaaKAD
import Derived.Test.YtmhbpecdpiapgaaK5
set_option linter.unusedVariables false
set_option linter.unusedSimpArgs false
set_option linter.unusedSectionVars false
set_option maxRecDepth 100000
namespace Go.Proofs.Ytmhbpecdpiapgaa
open Go.Am Go.Alg
section
variable {q p g:Int} {m:Nat} {mod:List Int}
end
class IsFld (q:Int):Prop where
 ok: ∃p m g mod,fldN q.toNat=some (p,m,g,mod)
structure El (q:Int) where
 v:Int
 lo:0≤v
 hi:v<q
theorem El.ext'{q:Int}{a b:El q}(h:a.v=b.v):a=b:=by
 obtain⟨a,h1,h2⟩:=a
 obtain⟨b,h3,h4⟩:=b
 cases h;rfl
instance {q:Int}:DecidableEq (El q):=fun a b=>if h:a.v=b.v then .isTrue (El.ext' h)else .isFalse fun e=>h (e▸rfl)
theorem jj8{q p g:Int}{m:Nat}{mod:List Int}(hn:fldN q.toNat=some (p,m,g,mod)):FOk q p m mod∧Tabs q g∧1≤g∧g<q:=by
 obtain⟨h2,h64⟩:=ug0 hn
 have h:=hi9 hn
 rw[show((q.toNat:Nat):Int)=q by omega]at h
 exact⟨h.1,cb4 hn,h.2.2.1,h.2.2.2.1⟩
theorem El.ok{q:Int}(a:El q):fok q a.v=true:=iy2 ⟨a.lo,a.hi⟩
theorem do9{q p g:Int}{m:Nat}{mod:List Int}(hn:fldN q.toNat=some (p,m,g,mod))(a b:El q):fadd q a.v b.v=addN p m a.v b.v:=by
 rw[fadd,a.ok,b.ok,(y65 hn).1,(y65 hn).2];rfl
theorem pu7{q p g:Int}{m:Nat}{mod:List Int}(hn:fldN q.toNat=some (p,m,g,mod))(a:El q):fneg q a.v=negN p m a.v:=by
 rw[fneg,a.ok,(y65 hn).1,(y65 hn).2];rfl
section
variable {q:Int} [hq:IsFld q]
theorem aw0:2≤q:=by
 obtain⟨p,m,g,mod,hn⟩:=hq.ok
 exact(jj8 hn).1.q2
theorem wg2(a b:El q):0≤fadd q a.v b.v∧fadd q a.v b.v<q:=by
 obtain⟨p,m,g,mod,hn⟩:=hq.ok
 have hf:=(jj8 hn).1
 have:=hf.p2
 have hb:=kq3 (p:=p) (by omega) m a.v b.v
 rw[hf.pm]at hb
 rw[do9 hn];exact hb
theorem cb0(a:El q):0≤fneg q a.v∧fneg q a.v<q:=by
 obtain⟨p,m,g,mod,hn⟩:=hq.ok
 have hf:=(jj8 hn).1
 have:=hf.p2
 have hb:=ul1 (p:=p) (by omega) m a.v
 rw[hf.pm]at hb
 rw[pu7 hn];exact hb
theorem jo8(a b:El q):0≤fmul q a.v b.v∧fmul q a.v b.v<q:=by
 obtain⟨p,m,g,mod,hn⟩:=hq.ok
 obtain⟨hf,t,_⟩:=jj8 hn
 have h2:=hf.q2
 rw[fmul,a.ok,b.ok]
 cases h0:(a.v==0)||(b.v==0)with
 |true=>exact⟨Int.le_refl _,by show(0:Int)<q;omega⟩
 |false=>
  have:=zd3 t h2 (flog q a.v+flog q b.v)
  exact⟨by show 0≤fexp q _;omega,this.2.1⟩
instance :Zero (El q):=⟨⟨0,Int.le_refl _,by have:=aw0 (q:=q);omega⟩⟩
instance :One (El q):=⟨⟨1,by omega,by have:=aw0 (q:=q);omega⟩⟩
instance :Add (El q):=⟨fun a b=>⟨fadd q a.v b.v,(wg2 a b).1,(wg2 a b).2⟩⟩
instance :Mul (El q):=⟨fun a b=>⟨fmul q a.v b.v,(jo8 a b).1,(jo8 a b).2⟩⟩
instance :Neg (El q):=⟨fun a=>⟨fneg q a.v,(cb0 a).1,(cb0 a).2⟩⟩
end
def vs{q:Int}(l:List (El q)):List Int:=l.map El.v
def ge{K:Type} [FK K](l:List K)(i:Nat):K:=l.getD i 0
section
variable {q:Int}
theorem fi2(l:List (El q)):(vs l).length=l.length:=by simp[vs]
theorem rp2:vs ([]:List (El q))=[]:=rfl
end
end Go.Proofs.Ytmhbpecdpiapgaa
namespace Go.Proofs.Ytmhbpecdpiapgaa
open Go.Am Go.Vm Go.Alg
theorem d40{zs:List Int}{i:Nat}(hi:i<zs.length):(ints zs)[i]? =some (.int .i64 (gi zs (i:Int))):=by
 have:=c13 (zs:=zs) (i:=(i:Int)) (by omega) (by omega)
 rwa [Int.toNat_natCast]at this
theorem zj7{h:H}{Z:Nat→Prop}{zs:List Int}{l:List Value}:RdL h Z (ivs zs) l↔l=ints zs:=by
 induction zs generalizing l with
 |nil=>exact⟨fun hr=>by rw[show ivs []=[]from rfl,RdL]at hr;exact hr,fun e=>by subst e;rw[show ivs []=[]from rfl,RdL];rfl⟩
 |cons z zs ih=>
  rw[show ivs (z::zs)= .v (.int .i64 z)::ivs zs from rfl,RdL]
  constructor
  ·rintro⟨w,l',rfl,h1,h2⟩
   rw[Rd]at h1
   rw[h1,ih.1 h2];rfl
  ·rintro rfl
   exact⟨_,_,rfl,by rw[Rd],ih.2 rfl⟩
theorem ex4{h:H}{Z:Nat→Prop}{zs:List Int}{l:List Value}:ExL h Z (ivs zs) l↔l=ints zs:=by
 induction zs generalizing l with
 |nil=>exact⟨fun hr=>by rw[show ivs []=[]from rfl,ExL]at hr;exact hr,fun e=>by subst e;rw[show ivs []=[]from rfl,ExL];rfl⟩
 |cons z zs ih=>
  rw[show ivs (z::zs)= .v (.int .i64 z)::ivs zs from rfl,ExL]
  constructor
  ·rintro⟨w,l',rfl,h1,h2⟩
   rw[Ex]at h1
   rw[h1,ih.1 h2];rfl
  ·rintro rfl
   exact⟨_,_,rfl,by rw[Ex],ih.2 rfl⟩
theorem pd9{h:H}{Z:Nat→Prop}{e:Nat}{zs:List Int}{sa:Option Addr}{c:Nat}(hr:RdI h sa c zs)(hz: ∀o,sa.map (·.block)=some o→Z o):Rd h Z (.sl 2 e 1 (ivs zs)) (.slice sa zs.length c):=by
 rw[Rd]
 rcases hr with⟨rfl,rfl,rfl⟩|⟨h1,o,off,r,rfl,h2,h3,h4⟩
 ·exact .inl ⟨rfl,by decide,by decide,rfl⟩
 ·refine .inr ⟨o,off,_,c,r,rfl,hz o rfl,h2,h3,by decide,by rw[gf1,Nat.mul_one],h1,fun h=>(by cases h),zj7.2 ?_⟩
  rw[gf1]
  refine List.ext_getElem? fun i=> ?_
  by_cases hi:i<zs.length
  ·rw[d40 hi,List.getElem?_take,if_pos hi,List.getElem?_drop]
   have:=h4 (i:Int) (by omega) (by omega)
   rwa [Int.toNat_natCast]at this
  ·rw[List.getElem?_eq_none (by rw[List.length_take];omega),List.getElem?_eq_none (by rw[iq5];omega)]
def lvs(nl:Nat)(m:List (List Int)):List Tree:=m.map fun l=> .sl nl 0 1 (ivs l)
theorem nb9(nl:Nat)(m:List (List Int)):(lvs nl m).length=m.length:=by simp[lvs]
def allZ(h:H):Nat→Prop:=fun o=>o<h.length
theorem bh6(h:H):Inv h [] (allZ h) (allZ h):=⟨by rw[okL];trivial,fun x=>by simp[fpL],fun o ho=>by simp[fpL]at ho,fun o ho=>by simp[fpL]at ho,fun o ho=>ho,fun o ho=>ho⟩
theorem vlaw{W:VW}(hP: ∀f p vs C r,W.P f=some p→p vs C=some r→VOK W.T f vs C r){h:H}{f:FuncId}{xs0:List AV}{ws:List Value}(hv:VRL h [] (allZ h) (allZ h) xs0 ws){b:Bool}(e:o24 W f xs0 []=some (.x (.bool b),[],[])): ∃h',call W.T f ws h=some (.bool b,h'):=by
 obtain⟨w,h',K,S,Z',Zp',h1,P⟩:=lw9 hP e h [] _ _ ws (bh6 h) rfl hv fun k hk=>by cases hk
 have:=P.v
 rw[Vm.VR]at this
 subst this
 exact⟨h',h1⟩
theorem sk2{h h':H}{Z Zp:Nat→Prop}(i:Inv h [] Z Zp)(hp:h<+:h')(v:Value):Post h [] Zp 0 (.x v,[],[]) v h' [] [] Z Zp:=by
 refine⟨rfl,rfl,⟨by rw[List.nil_append,okL];trivial,fun x=>by simp[fpL],fun o ho=>by simp[fpL]at ho,fun o ho=>by simp[fpL]at ho,fun o ho=> ?_,i.zp⟩,⟨hp.length_le,fun o ho _=>cb2 hp ho,fun o ho=>by simp[fpL]at ho,fun o ho=>ho,fun o ho=> .inl ho⟩,by rw[Vm.VR],rfl,fun i a k h1=>by simp at h1⟩
 have:=i.zlt o ho;have:=hp.length_le;omega
def pFt(q p:Int)(m:Nat)(g:Int)(mod:List Int):Tree:= .ex (.pt 173 [.v (.int .i64 q), .v (.int .i64 p), .v (.int .i64 m), .fz (.sl 2 0 1 (ivs mod)), .v (.int .i64 g), .sl 0 3 1 (ivs (tabs q.toNat).1), .sl 0 3 1 (ivs (tabs q.toNat).2)])
def pF(q:Int):Tree:=match fldN q.toNat with
 |some (p,m,g,mod)=>pFt q p m g mod
 |none=> .junk
def rFl(q p:Int)(m:Nat)(g:Int)(mod:List Int):List AV:=[.x (.int .i64 q), .x (.int .i64 p), .x (.int .i64 m), .x (.int .i64 g), .fz true (.ex (.sl 1 3 1 (ivs mod)))]
def rFs(q:Int):List AV:=match fldN q.toNat with
 |some (p,m,g,mod)=>rFl q p m g mod
 |none=>[]
def pNew:List AV→Rts→Option VRes
 | [.x (.int .i64 q)],[]=>match fldN q.toNat with
   |some _=>some (.tup [.fz true (pF q), .x (.int .i64 0)],[],[])
   |none=>some (.tup [.x (.pointer none), .x (.int .i64 1)],[],[])
 |_,_=>none
def kb1:List AV→Rts→Option VRes
 | [.x (.int .i64 q)],[]=>match fldN q.toNat with
   |some _=>some (.tup [.agg (rFs q), .x (.int .i64 0)],[],[])
   |none=>some (.tup [.agg [.x (.int .i64 0), .x (.int .i64 0), .x (.int .i64 0), .x (.int .i64 0), .x (.slice none 0 0)], .x (.int .i64 1)],[],[])
 |_,_=>none
theorem a64{h h':H}{Z Zp:Nat→Prop}(i:Inv h [] Z Zp)(hp:h<+:h'){a:AV}{w:Value}(hv:Vm.VR h' [] (fun o=>h.length≤o∧o<h'.length) (fun o=>h.length≤o∧o<h'.length) a w): ∃Z' Zp',Post h [] Zp 0 (a,[],[]) w h' [] [] Z' Zp':=by
 refine⟨fun o=>Z o∨(h.length≤o∧o<h'.length),fun o=>Zp o∨(h.length≤o∧o<h'.length),rfl,rfl,⟨by rw[List.nil_append,okL];trivial,fun x=>by simp[fpL],fun o ho=>by simp[fpL]at ho,fun o ho=>by simp[fpL]at ho,fun o ho=> ?_,fun o ho=>ho.imp (i.zp o) id⟩,⟨hp.length_le,fun o ho _=>cb2 hp ho,fun o ho=>by simp[fpL]at ho,fun o ho=> .inl ho,fun o ho=>ho.imp id fun h=> .inr h.1⟩,Vm.VR.move (fun o ho=> .inr ho) (fun o ho=> .inr ho) (fun _ _=>rfl) (fun _ _=>rfl) (Stab.refl [] []) hv rfl,rfl,fun i a k h1=>by simp at h1⟩
 rcases ho with ho|ho
 ·have:=i.zlt o ho;have:=hp.length_le;omega
 ·exact ho.2
theorem lo5{xs0:List AV}{C:Rts}{r:VRes}(he:pNew xs0 C=some r):VOK T 76 xs0 C r:=by
 unfold pNew at he
 split at he
 ·rename_i q
  intro h Ac Z Zp ws i hC hv hk
  obtain rfl:Ac=[]:=by cases Ac with
   |nil=>rfl
   |cons=>cases hC
  rw[Vm.VRL]at hv
  obtain⟨w,ws',rfl,h1,h2⟩:=hv
  rw[Vm.VRL]at h2
  rw[Vm.VR]at h1
  subst h1 h2
  split at he
  ·rename_i x hn
   obtain⟨p,m,g,mod⟩:=x
   cases he
   obtain⟨h',F,hp,hF,⟨om,fm,cm,ho,hM,⟨E,L,q1,q2,hFr,hE,hL,q3,q4⟩⟩,e⟩:=e24 q hn h
   have hFl:=h42 hFr
   have hEl:=h42 hE
   have hLl:=h42 hL
   have hom:om<h'.length:=by
    rcases hM with⟨h0,_⟩|⟨_,o,off,r,h0,h1,_⟩
    ·cases h0
    ·cases h0;exact h42 h1
   have hzo: ∀o,(some (⟨om,fm,none⟩:Addr)).map (·.block)=some o→h.length≤o∧o<h'.length:=fun o ho'=>by
    have e1:om=o:=by simpa using ho'
    subst e1;exact⟨by omega,hom⟩
   have hrd:Rd h' (fun o=>h.length≤o∧o<h'.length) (pF q) (.pointer (some ⟨F,0,none⟩)):=by
    have hq2:=ug0 hn
    unfold pF
    rw[hn]
    simp only[pFt]
    rw[Rd,Ex]
    refine⟨F,_,rfl,⟨hF,hFl⟩,hFr,rfl,rfl,rfl, ?_⟩
    rw[ExL];refine⟨_,_,rfl,by unfold Ex;rfl, ?_⟩
    rw[ExL];refine⟨_,_,rfl,by unfold Ex;rfl, ?_⟩
    rw[ExL];refine⟨_,_,rfl,by unfold Ex;rfl, ?_⟩
    rw[ExL];refine⟨_,_,rfl,by unfold Ex;exact pd9 hM hzo, ?_⟩
    rw[ExL];refine⟨_,_,rfl,by unfold Ex;rfl, ?_⟩
    rw[ExL];refine⟨_,_,rfl,by unfold Ex;exact⟨E,_,_,rfl,⟨by omega,hEl⟩,hE,rfl,rfl,rfl,by decide,by rw[gf1,Nat.mul_one,q3],fun h=>(by cases h),ex4.2 rfl⟩, ?_⟩
    rw[ExL];refine⟨_,_,rfl,by unfold Ex;exact⟨L,_,_,rfl,⟨by omega,hLl⟩,hL,rfl,rfl,rfl,by decide,by rw[gf1,Nat.mul_one,q4],fun h=>(by cases h),ex4.2 rfl⟩, ?_⟩
    rw[ExL]
   obtain⟨Z',Zp',P⟩:=a64 (a:= .tup [.fz true (pF q), .x (.int .i64 0)]) (w:= .tuple #[.pointer (some ⟨F,0,none⟩), .int .i64 0]) i hp (by
    rw[Vm.VR]
    exact⟨[_,_],rfl, .cons (by rw[Vm.VR];exact hrd) (.cons (by rw[Vm.VR]) .nil)⟩)
   exact⟨_,h',[],[],Z',Zp',e,P⟩
  ·rename_i hn
   cases he
   obtain⟨h',hp,e⟩:=e84 q hn h
   obtain⟨Z',Zp',P⟩:=a64 (a:= .tup [.x (.pointer none), .x (.int .i64 1)]) (w:= .tuple #[.pointer none, .int .i64 1]) i hp (by
    rw[Vm.VR]
    exact⟨[_,_],rfl, .cons (by rw[Vm.VR]) (.cons (by rw[Vm.VR]) .nil)⟩)
   exact⟨_,h',[],[],Z',Zp',e,P⟩
 ·cases he
theorem l07{xs0:List AV}{C:Rts}{r:VRes}(he:kb1 xs0 C=some r):VOK T 95 xs0 C r:=by
 unfold kb1 at he
 split at he
 ·rename_i q
  intro h Ac Z Zp ws i hC hv hk
  obtain rfl:Ac=[]:=by cases Ac with
   |nil=>rfl
   |cons=>cases hC
  rw[Vm.VRL]at hv
  obtain⟨w,ws',rfl,h1,h2⟩:=hv
  rw[Vm.VRL]at h2
  rw[Vm.VR]at h1
  subst h1 h2
  split at he
  ·rename_i x hn
   obtain⟨p,m,g,mod⟩:=x
   cases he
   obtain⟨h',om,cm,hp,⟨ho,rfl,hr⟩,e⟩:=yl2 q hn h
   obtain⟨Z',Zp',P⟩:=a64 (a:= .tup [.agg (rFs q), .x (.int .i64 0)]) (w:= .tuple #[fv q p m g (.slice (some ⟨om,0,none⟩) mod.length mod.length), .int .i64 0]) i hp (by
    have hml:=(hi9 hn).1.ml
    rw[Vm.VR]
    refine⟨[_,_],rfl, .cons ?_ (.cons (by rw[Vm.VR]) .nil)⟩
    unfold rFs
    rw[hn]
    simp only[rFl]
    rw[Vm.VR]
    refine⟨[_,_,_,_,_],rfl, .cons (by rw[Vm.VR]) (.cons (by rw[Vm.VR]) (.cons (by rw[Vm.VR]) (.cons (by rw[Vm.VR]) (.cons ?_ .nil))))⟩
    rw[Vm.VR,Rd,Ex]
    refine⟨om,_,_,rfl,⟨ho,h42 hr⟩,hr,rfl,rfl,rfl,by decide,by rw[gf1,Nat.mul_one],fun _ h0=> ?_,ex4.2 rfl⟩
    have:=congrArg List.length h0
    rw[gf1,hml]at this
    simp at this)
   exact⟨_,h',[],[],Z',Zp',e,P⟩
  ·rename_i hn
   cases he
   obtain⟨h',hp,e⟩:=wb8 q hn h
   obtain⟨Z',Zp',P⟩:=a64 (a:= .tup [.agg [.x (.int .i64 0), .x (.int .i64 0), .x (.int .i64 0), .x (.int .i64 0), .x (.slice none 0 0)], .x (.int .i64 1)]) (w:= .tuple #[fv 0 0 0 0 (.slice none 0 0), .int .i64 1]) i hp (by
    rw[Vm.VR]
    refine⟨[_,_],rfl, .cons ?_ (.cons (by rw[Vm.VR]) .nil)⟩
    rw[Vm.VR]
    exact⟨[_,_,_,_,_],rfl, .cons (by rw[Vm.VR]) (.cons (by rw[Vm.VR]) (.cons (by rw[Vm.VR]) (.cons (by rw[Vm.VR]) (.cons (by rw[Vm.VR]) .nil))))⟩)
   exact⟨_,h',[],[],Z',Zp',e,P⟩
 ·cases he
def vh0:List AV→Option (List Int)
 | []=>some []
 | .x (.int .i64 a)::l=>match vh0 l with
   |some r=>some (a::r)
   |none=>none
 |_=>none
theorem po3: ∀{xs:List AV} {l:List Int},vh0 xs=some l→xs=l.map fun a=> .x (.int .i64 a)
 | [],l,h=>by cases h;rfl
 |a::xs,l,h=>by
  unfold vh0 at h
  split at h
  ·rename_i h0;cases h0
  ·rename_i h0
   cases h0
   split at h
   ·rename_i h1
    cases h
    rw[po3 h1];rfl
   ·cases h
  ·cases h
def pI(g:List Int→Option Int):List AV→Rts→Option VRes
 |xs,[]=>match vh0 xs with
  |some l=>match g l with
   |some v=>some (.x (.int .i64 v),[],[])
   |none=>none
  |none=>none
 |_,_=>none
theorem w38{f:FuncId}{g:List Int→Option Int}(H: ∀l v,g l=some v→ ∀h:H,∃h':Am.H,h<+:h'∧call T f (l.map fun a=> .int .i64 a) h=some (.int .i64 v,h')){xs0:List AV}{C:Rts}{r:VRes}(he:pI g xs0 C=some r):VOK T f xs0 C r:=by
 unfold pI at he
 split at he
 ·split at he
  ·rename_i l hl
   split at he
   ·rename_i v hv
    cases he
    have hx:=po3 hl
    subst hx
    intro h Ac Z Zp ws i hC hvl hk
    obtain rfl:Ac=[]:=by cases Ac with
     |nil=>rfl
     |cons=>cases hC
    have hw:ws=l.map fun a=> .int .i64 a:=by
     clear hl hv H i hk hC
     induction l generalizing ws with
     |nil=>rw[List.map_nil,VRL]at hvl;exact hvl
     |cons a l ih=>
      rw[List.map_cons,VRL]at hvl
      obtain⟨w',ws'',rfl,k1,k2⟩:=hvl
      rw[Vm.VR]at k1
      rw[k1,ih _ k2];rfl
    subst hw
    obtain⟨h',p,e⟩:=H l v hv h
    exact⟨_,h',[],[],Z,Zp,e,sk2 i p _⟩
   ·cases he
  ·cases he
 ·cases he
theorem sd0{f:FuncId}{g:List Int→Option Int}{l:List Int}{v:Int}(h:g l=some v):pI g (l.map fun a=> .x (.int .i64 a)) []=some (.x (.int .i64 v),[],[]):=by
 have: ∀l:List Int,vh0 (l.map fun a=> .x (.int .i64 a))=some l:=fun l=>by
  induction l with
  |nil=>rfl
  |cons a l ih=>rw[List.map_cons,vh0,ih]
 unfold pI
 simp only[this,h]
noncomputable def vP:FuncId→Option (List AV→Rts→Option VRes)
 |76=>some pNew
 |95=>some kb1
 |101=>some (pI gPow)
 |99=>some (pI gPow)
 |100=>some (pI e39)
 |34=>some (pI e39)
 |36=>some (pI gCnt)
 |33=>some (pI gCnt)
 |179=>some (pI gCho)
 |109=>some xg2
 |_=>none
noncomputable def W:VW:=⟨T,vP,vH,vM,ct⟩
@[push_cast] theorem W_M(f:FuncId):W.M f=vM f:=rfl
@[push_cast] theorem W_H(f:FuncId):W.H f=vH f:=rfl
@[push_cast] theorem W_ct:W.ct=ct:=rfl
theorem lw2(f:FuncId)(p:List AV→Rts→Option VRes)(xs0:List AV)(C:Rts)(r:VRes)(hp:W.P f=some p)(he:p xs0 C=some r):VOK W.T f xs0 C r:=by
 have hp:vP f=some p:=hp
 show VOK T f xs0 C r
 unfold vP at hp
 split at hp
 ·cases hp;exact(fun _=>lo5 he) 76
 ·cases hp;exact(fun _=>l07 he) 95
 ·cases hp;exact w38 (f:=101) om7 he
 ·cases hp;exact w38 (f:=99) le1 he
 ·cases hp;exact w38 (f:=100) ox3 he
 ·cases hp;exact w38 (f:=34) sy1 he
 ·cases hp;exact w38 (f:=36) b06 he
 ·cases hp;exact w38 (f:=33) zg3 he
 ·cases hp;exact w38 (f:=179) b82 he
 ·cases hp;exact(fun _=>xk8 he) 109
 ·cases hp
section
variable {q:Int} [IsFld q] {b:Bool} {x y:Int}
theorem gh1: ∃d,fldN q.toNat=some d:=by
 obtain⟨p,m,g,mod,hn⟩:= ‹IsFld q›.ok
 exact⟨_,hn⟩
@[push_cast] theorem ev4:o24 W 76 [.x (.int .i64 q)] []=some (.tup [.fz true (pF q), .x (.int .i64 0)],[],[]):=(xr5 rfl).trans (by obtain⟨d,hd⟩:=gh1 (q:=q);unfold pNew;simp only[hd])
@[push_cast] theorem uw8:o24 W 95 [.x (.int .i64 q)] []=some (.tup [.agg (rFs q), .x (.int .i64 0)],[],[]):=(xr5 rfl).trans (by obtain⟨d,hd⟩:=gh1 (q:=q);unfold kb1;simp only[hd])
end
theorem ug9{q:Int}(hn:fldN q.toNat=none):o24 W 76 [.x (.int .i64 q)] []=some (.tup [.x (.pointer none), .x (.int .i64 1)],[],[]):=(xr5 rfl).trans (by unfold pNew;simp only[hn])
theorem fg0{q:Int}(hn:fldN q.toNat=none):o24 W 95 [.x (.int .i64 q)] []=some (.tup [.agg [.x (.int .i64 0), .x (.int .i64 0), .x (.int .i64 0), .x (.int .i64 0), .x (.slice none 0 0)], .x (.int .i64 1)],[],[]):=(xr5 rfl).trans (by unfold kb1;simp only[hn])
theorem xb1{l:List Int}{v:Int}(h:gPow l=some v):o24 W 101 (l.map fun a=> .x (.int .i64 a)) []=some (.x (.int .i64 v),[],[]):=(xr5 rfl).trans (sd0 (f:=101) h)
theorem jo9{l:List Int}{v:Int}(h:gPow l=some v):o24 W 99 (l.map fun a=> .x (.int .i64 a)) []=some (.x (.int .i64 v),[],[]):=(xr5 rfl).trans (sd0 (f:=99) h)
theorem k09{l:List Int}{v:Int}(h:e39 l=some v):o24 W 100 (l.map fun a=> .x (.int .i64 a)) []=some (.x (.int .i64 v),[],[]):=(xr5 rfl).trans (sd0 (f:=100) h)
theorem zy5{l:List Int}{v:Int}(h:e39 l=some v):o24 W 34 (l.map fun a=> .x (.int .i64 a)) []=some (.x (.int .i64 v),[],[]):=(xr5 rfl).trans (sd0 (f:=34) h)
theorem cw7{l:List Int}{v:Int}(h:gCnt l=some v):o24 W 36 (l.map fun a=> .x (.int .i64 a)) []=some (.x (.int .i64 v),[],[]):=(xr5 rfl).trans (sd0 (f:=36) h)
theorem yi7{l:List Int}{v:Int}(h:gCnt l=some v):o24 W 33 (l.map fun a=> .x (.int .i64 a)) []=some (.x (.int .i64 v),[],[]):=(xr5 rfl).trans (sd0 (f:=33) h)
theorem c97{l:List Int}{v:Int}(h:gCho l=some v):o24 W 179 (l.map fun a=> .x (.int .i64 a)) []=some (.x (.int .i64 v),[],[]):=(xr5 rfl).trans (sd0 (f:=179) h)
theorem fo4{q:Int}{b:Bool}{nl:Nat}{zs:List Int}(h:zs.length≤100):o24 W 109 [.x (.int .i64 q), .fz b (.sl nl 0 1 (ivs zs))] []=some (.tup [.own 0 [], .x (.int .i64 (bo5 q zs).1)],[.sl (nlT (bo5 q zs).2) 3 1 (ivs (bo5 q zs).2)],[]):=(xr5 rfl).trans (v79 h)
end Go.Proofs.Ytmhbpecdpiapgaa
namespace Go.Alg
section
variable {K:Type} [FK K]
section
variable {n:Nat} {A B:List (Nat×(Nat→K))}
def wf(l:List K):Nat→K:=fun i=>l.getD i 0
end
end
end Go.Alg
namespace Go.Alg
section
variable {α:Type}
end
section
variable {K:Type} [FK K]
section
variable {n:Nat} {A:List (Nat×List K)}
end
end
end Go.Alg
namespace Go.Alg
section
variable {α:Type} {M:List (List α)} {P:List Nat}
end
section
variable {K:Type} [FK K]
section
variable {n c:Nat} {M0 M:List (List K)} {P:List Nat}
end
end
end Go.Alg
namespace Go.Alg
section
variable {K:Type} [FK K]
end
end Go.Alg
namespace Go.Proofs.Ytmhbpecdpiapgaa
open Go.Am Go.Vm Go.Alg
def lls(nl:Nat)(m:List (List Int)):List Tree:=m.map fun l=> .sl nl 3 1 (ivs l)
theorem qf0(nl:Nat)(m:List (List Int)):(lls nl m).length=m.length:=by simp[lls]
theorem lg8(nl:Nat)(m:List (List Int)):jj5 (lls nl m)=lvs nl m:=by
 rw[gz0]
 unfold lls lvs
 rw[List.map_map]
 refine List.map_congr_left fun l _=> ?_
 show strip _=_
 rw[strip,ap3]
theorem lr8(nl:Nat)(m:List (List Int)):jj5 (lvs nl m)=lvs nl m:=by
 rw[gz0]
 unfold lvs
 rw[List.map_map]
 refine List.map_congr_left fun l _=> ?_
 show strip _=_
 rw[strip,ap3]
theorem ng3(nl:Nat)(m:List (List Int))(l:List Int):lls nl m++[.sl nl 3 1 (ivs l)]=lls nl (m++[l]):=by unfold lls;rw[List.map_append];rfl
theorem y81(nl:Nat)(m:List (List Int))(i:Nat)(l:List Int):(lls nl m).set i (.sl nl 3 1 (ivs l))=lls nl (m.set i l):=by unfold lls;rw[List.map_set]
theorem mm0(nl:Nat)(m:List (List Int))(n:Nat):(lls nl m).take n=lls nl (m.take n):=by unfold lls;rw[List.map_take]
theorem by3(nl:Nat)(m:List (List Int))(n:Nat):(lls nl m).drop n=lls nl (m.drop n):=by unfold lls;rw[List.map_drop]
theorem rj0(nl:Nat)(m:List (List Int))(n:Nat):(lvs nl m).take n=lvs nl (m.take n):=by unfold lvs;rw[List.map_take]
theorem ff4(nl:Nat)(m:List (List Int))(n:Nat):(lvs nl m).drop n=lvs nl (m.drop n):=by unfold lvs;rw[List.map_drop]
theorem lz6:ivs []=([]:List Tree):=rfl
theorem x25(nl:Nat):lls nl []=([]:List Tree):=rfl
structure RFo (q p m g:Int) (t:Tree):Prop where
 e:rFs q=[.x (.int .i64 q), .x (.int .i64 p), .x (.int .i64 m), .x (.int .i64 g), .fz true t]
 n:isNode t=true
 o:ofz true t=some (.fz true t)
theorem k75(q:Int) [h:IsFld q]: ∃(p m g:Int) (t:Tree),RFo q p m g t:=by
 obtain⟨p,m,g,mod,hn⟩:=h.ok
 exact⟨p,m,g, .ex (.sl 1 3 1 (ivs mod)),by unfold rFs;rw[hn];rfl,rfl,rfl⟩
@[push_cast] theorem wf0{q:Int} [h:IsFld q]:isNode (pF q)=true:=by
 obtain⟨p,m,g,mod,hn⟩:=h.ok
 unfold pF;rw[hn];rfl
@[push_cast] theorem v59{q:Int} [h:IsFld q]{b:Bool}:ofz b (pF q)=some (.fz b (pF q)):=by
 obtain⟨p,m,g,mod,hn⟩:=h.ok
 unfold pF;rw[hn];rfl
attribute [push_cast 50] List.isEmpty_nil List.isEmpty_cons nb9 qf0 lg8 lr8 ng3 mm0 by3 rj0 ff4 fi2 List.map_nil ite_self List.set_cons_zero List.set_cons_succ List.set_nil List.take_zero List.take_nil List.drop_zero List.drop_nil List.take_succ_cons List.drop_succ_cons List.take_length List.length_map List.flatMap_nil List.flatMap_cons gf1 pl3 l78 ap3 so0 nc5 yp5 u42 cs7 Int.natCast_add Int.natCast_one Int.natCast_zero Int.toNat_natCast Nat.div_one Nat.mul_one List.length_set List.all_cons List.all_nil List.length_append List.length_replicate List.length_take List.length_drop Int.zero_add
theorem vrl:(∀{zs:List Int} {i:Nat},i<zs.length→(ivs zs)[i]? =some (.v (.int .i64 (gi zs (i:Int)))))∧(∀(zs:List Int) (i:Nat) (x:Int),(ivs zs).set i (.v (.int .i64 x))=ivs (zs.set i x))∧(∀(nl:Nat) (m:List (List Int)) (i:Nat) (l:List Int),(lls nl m).set i (.sl nl 3 1 (ivs l))=lls nl (m.set i l))∧(∀{n b:Nat},n≤1000000→b≤1000→few n b=true)∧(∀{x:Int},-9223372036854775808≤x→x≤9223372036854775807→IntKind.wrap .i64 x=x)∧(∀{a b:Int},a<b→decide (a<b)=true)∧(∀{a b:Int},b≤a→decide (a<b)=false)∧(∀{a b:Int},a≤b→decide (a≤b)=true)∧(∀{a b:Int},b<a→decide (a≤b)=false)∧(∀{a b:Int},a=b→decide (a=b)=true)∧ ∀{a b:Int},¬a=b→decide (a=b)=false:=⟨ui5,lu7,y81,bj9,wrap64,dec_lt,cw6,nl2,qc6,mr8,nb8⟩
theorem iat{l:List Int}{i:Nat}{a:Int}(h:l[i]? =some a):(ivs l)[i]? =some (.v (.int .i64 a)):=by
 unfold ivs;rw[List.getElem?_map,h];rfl
def jks(n:Nat):List Tree:=List.replicate n .junk
@[push_cast] theorem gc3(n:Nat):(jks n).length=n:=List.length_replicate ..
def nl0:Nat→Nat
 |0=>1
 |_+1=>0
def nl1:Nat→Nat
 |0=>0
 |_+1=>1
@[push_cast] theorem o09(n:Nat):nl0 (n+1)=0:=rfl
@[push_cast] theorem m17(n:Nat):nl1 (n+1)=1:=rfl
@[push_cast] theorem vt2:nl0 0=1:=rfl
@[push_cast] theorem og7:nl1 0=0:=rfl
section
variable {b:Bool} {nl:Nat} {l:List Int}
section
variable {k:FuncId} {t:Tree} {p:Int→Bool}
end
section
variable {k:FuncId} {t:Tree} {p:List Int→Bool} {m:List (List Int)} {nr:Nat} {bl:Bool}
end
end
section
variable {b b':Bool} {nl nl' nr nr':Nat}
theorem ft0{l k:List Int}(hl:l.length≤9223372036854775807)(hk:k.length=l.length): ∀(d i:Nat),i+d=l.length→ ∀ks,
 vgoL W ⟨hNo,[.tmp 4],0⟩ [0,1,5] c19L0 (.blk 0 []::ks) [(0, .fz b (.sl nl 0 1 (ivs l))),(1, .fz b' (.sl nl' 0 1 (ivs k))),(5, .x (.int .i64 i))] []=
  if l.drop i=k.drop i then vgo W ⟨hNo,[.tmp 4],0⟩ ks (VFr.of []) []else some (.x (.bool false),[],[])
 |0,i,hi,ks=>by
  rw[oh9 (by omega),oh9 (by omega),if_pos rfl,sb5 c19L0.eq_def]
  simp(disch:=first|omega|fail) only[push_cast,seval,vrl,if_pos,if_neg]
 |d+1,i,hi,ks=>by
  have ih:=ft0 hl hk d (i+1) (by omega) ks
  obtain⟨a,ha⟩:=ge6 (l:=l) (i:=i) (by omega)
  obtain⟨c,hc⟩:=ge6 (l:=k) (i:=i) (by omega)
  have h1:=iat ha
  have h2:=iat hc
  rw[i62 ha,i62 hc]
  rw[Int.natCast_add,Int.natCast_one]at ih
  by_cases h:a=c
  ·have hiff:(a::l.drop (i+1)=c::k.drop (i+1))=(l.drop (i+1)=k.drop (i+1)):=by rw[h];simp
   simp only[hiff]
   rw[←ih,sb5 c19L0.eq_def]
   simp(disch:=first|omega|fail) only[push_cast,seval,vrl,if_pos,if_neg,h1,h2,h]
  ·rw[if_neg (by intro e;exact h (List.cons.inj e).1),sb5 c19L0.eq_def]
   simp(disch:=first|omega|fail) only[push_cast,seval,vrl,if_pos,if_neg,h1,h2,nb8 h]
theorem nb2{l k:List Int}(hl:l.length≤9223372036854775807):o24 W 19 [.fz b (.sl nl 0 1 (ivs l)), .fz b' (.sl nl' 0 1 (ivs k))] []=some (.x (.bool (decide (l=k))),[],[]):=by
 by_cases hk:k.length=l.length
 ·have e:=fun ks=>ft0 (b:=b) (b':=b') (nl:=nl) (nl':=nl') hl hk l.length 0 (by omega) ks
  simp only[Int.natCast_zero,List.take_zero,List.drop_zero,rp2,lz6,x25,List.map_nil,List.length_nil]at e
  rw[o10 rfl T19 rfl]
  unfold F19 c19
  simp(disch:=first|omega|fail) only[push_cast,seval,vrl,if_pos,if_neg,hk]
  rw[e]
  by_cases h:l=k
  ·rw[if_pos h,decide_eq_true h]
   simp(disch:=first|omega|fail) only[push_cast,seval,vrl,if_pos,if_neg]
  ·rw[if_neg h,decide_eq_false h]
 ·have h: ¬l=k:=fun e=>hk (by rw[e])
  have h8: ¬(l.length:Int)=(k.length:Int):=by omega
  rw[decide_eq_false h,o10 rfl T19 rfl]
  unfold F19 c19
  simp(disch:=first|omega|fail) only[push_cast,seval,vrl,if_pos,if_neg,nb8 h8]
theorem ea2{l k:List Int}{e f:Int}(hl:l.length≤9223372036854775807):o24 W 27 [.fz b (.sl nl 0 1 (ivs l)), .x (.int .i64 e), .fz b' (.sl nl' 0 1 (ivs k)), .x (.int .i64 f)] []=some (.x (.bool (if f=0 then decide (e=0)&&decide (l=k)else decide (e=f)&&decide (l.length=0))),[],[]):=by
 have h1:=fun b b' nl nl'=>nb2 (b:=b) (b':=b') (nl:=nl) (nl':=nl') (k:=k) hl
 by_cases hf:f=0
 ·rw[if_pos hf]
  by_cases h0:e=0
  ·rw[decide_eq_true h0,Bool.true_and,o10 rfl T27 rfl]
   unfold F27 c27
   simp(disch:=first|omega|fail) only[push_cast,seval,vrl,if_pos,if_neg,hf,h0,h1]
  ·rw[decide_eq_false h0,Bool.false_and,o10 rfl T27 rfl]
   unfold F27 c27
   simp(disch:=first|omega|fail) only[push_cast,seval,vrl,if_pos,if_neg,hf,nb8 h0]
 ·rw[if_neg hf]
  by_cases h0:e=f
  ·subst h0
   rw[decide_eq_true rfl,Bool.true_and,o10 rfl T27 rfl]
   unfold F27 c27
   by_cases hz:l.length=0
   ·rw[decide_eq_true hz]
    simp(disch:=first|omega|fail) only[push_cast,seval,vrl,if_pos,if_neg,nb8 hf,hz]
   ·rw[decide_eq_false hz]
    simp(disch:=first|omega|fail) only[push_cast,seval,vrl,if_pos,if_neg,nb8 hf]
  ·rw[decide_eq_false h0,Bool.false_and,o10 rfl T27 rfl]
   unfold F27 c27
   simp(disch:=first|omega|fail) only[push_cast,seval,vrl,if_pos,if_neg,nb8 hf,nb8 h0]
theorem ib6{l k:Int}{e f:Int}:o24 W 28 [.x (.int .i64 l), .x (.int .i64 e), .x (.int .i64 k), .x (.int .i64 f)] []=some (.x (.bool (if f=0 then decide (e=0)&&decide (l=k)else decide (e=f)&&decide (l=0))),[],[]):=by
 by_cases hf:f=0
 ·rw[if_pos hf]
  by_cases h0:e=0
  ·rw[decide_eq_true h0,Bool.true_and,o10 rfl T28 rfl]
   unfold F28 c28
   simp(disch:=first|omega|fail) only[push_cast,seval,vrl,if_pos,if_neg,hf,h0]
  ·rw[decide_eq_false h0,Bool.false_and,o10 rfl T28 rfl]
   unfold F28 c28
   simp(disch:=first|omega|fail) only[push_cast,seval,vrl,if_pos,if_neg,hf,nb8 h0]
 ·rw[if_neg hf]
  by_cases h0:e=f
  ·subst h0
   rw[decide_eq_true rfl,Bool.true_and,o10 rfl T28 rfl]
   unfold F28 c28
   simp(disch:=first|omega|fail) only[push_cast,seval,vrl,if_pos,if_neg,nb8 hf]
  ·rw[decide_eq_false h0,Bool.false_and,o10 rfl T28 rfl]
   unfold F28 c28
   simp(disch:=first|omega|fail) only[push_cast,seval,vrl,if_pos,if_neg,nb8 hf,nb8 h0]
section
variable {q:Int} [IsFld q]
end
end
theorem b45{Q:Int}(hQ:0≤Q)(n i:Nat):0≤qb Q n i:=by
 unfold qb;exact Int.mul_nonneg (by omega) (Int.pow_nonneg hQ)
theorem lm3(f:Nat→Int): ∀m,sm f (m+1)=f 0+sm (fun i=>f (i+1)) m
 |0=>by simp[sm]
 |m+1=>by rw[sm,lm3 f m,sm];omega
theorem sa4{Q:Int}(hQ:0≤Q): ∀n m,sm (qb Q n) m≤(Q+1)^n
 |0,m=>by
  cases m with
  |zero=>simp[sm]
  |succ m=>
   rw[lm3,d32 fun t ht=>by unfold qb;simp[bin],vk9];simp
 |n+1,m=>by
  have hp:0≤(Q+1)^n:=Int.pow_nonneg (by omega)
  cases m with
  |zero=>rw[sm];exact Int.pow_nonneg (by omega)
  |succ m=>
   have h1:=sa4 hQ n (m+1)
   have h2:=sa4 hQ n m
   have h3:=Int.mul_le_mul_of_nonneg_left h2 hQ
   have e:sm (fun i=>qb Q (n+1) (i+1)) m=sm (fun i=>qb Q n (i+1)) m+Q*sm (qb Q n) m:=by
    rw[←xf3,←qa1]
    exact vh6 fun t _=>ak5 Q n t
   rw[lm3,vk9]at h1⊢
   rw[e,Int.pow_succ,Int.mul_add,Int.mul_one]
   have:(Q+1)^n*Q=Q*(Q+1)^n:=Int.mul_comm _ _
   omega
theorem wi3{f:Nat→Int}(hf: ∀i,0≤f i){a b:Nat}(h:a≤b):sm f a≤sm f b:=by
 induction b with
 |zero=>rw[show a=0 by omega];exact Int.le_refl _
 |succ b ih=>
  by_cases hab:a=b+1
  ·rw[hab];exact Int.le_refl _
  ·have:=ih (by omega);have:=hf b;rw[sm];omega
theorem kt7{Q:Int}(hQ:0≤Q)(n i:Nat):qb Q n i≤(Q+1)^n:=by
 have h1:=sa4 hQ n (i+1)
 have h2:=wi3 (b45 hQ n) (Nat.zero_le i)
 rw[sm]at h1
 rw[show sm (qb Q n) 0=0 from rfl]at h2
 omega
def hv3(q:Int)(n r:Nat):Int:=sm (qb (q-1) n) (r+1)
theorem kf4{q:Int}(h2:2≤q){n:Nat}(hc:0≤capP q n 1):capP q n 1=q^n∧q^n≤1073741824:=by
 have:=du1 h2 n 1 (by omega) (by omega) hc
 rwa [Int.one_mul]at this
theorem c14{q:Int}(h2:2≤q){n:Nat}(hc:0≤capP q n 1)(r:Nat):1≤hv3 q n r∧hv3 q n r≤1073741824:=by
 obtain⟨_,h⟩:=kf4 h2 hc
 have h1:=sa4 (Q:=q-1) (by omega) n (r+1)
 rw[show q-1+1=q by omega]at h1
 have h3:=wi3 (b45 (Q:=q-1) (by omega) n) (show 1≤r+1 by omega)
 rw[show sm (qb (q-1) n) 1=0+qb (q-1) n 0 from rfl,vk9]at h3
 unfold hv3
 omega
theorem js4{q:Int}(h2:2≤q){n i:Nat}(hc:0≤capP q n 1){j:Nat}(hj:j≤i):0≤((bin n i:Nat):Int)*(q-1)^j∧((bin n i:Nat):Int)*(q-1)^j≤1073741824:=by
 obtain⟨_,h⟩:=kf4 h2 hc
 have h1:=kt7 (Q:=q-1) (by omega) n i
 rw[show q-1+1=q by omega]at h1
 have hp:0≤(q-1)^j:=Int.pow_nonneg (by omega)
 obtain⟨d,rfl⟩: ∃d,i=j+d:=⟨i-j,by omega⟩
 have hd:1≤(q-1)^d:=Int.pow_pos (by omega)
 have h3:(q-1)^j*1≤(q-1)^j*(q-1)^d:=Int.mul_le_mul_of_nonneg_left hd hp
 have h4:=Int.mul_le_mul_of_nonneg_left h3 (show 0≤((bin n (j+d):Nat):Int) by omega)
 unfold qb at h1
 rw[Int.pow_add]at h1
 refine⟨Int.mul_nonneg (by omega) hp, ?_⟩
 rw[Int.mul_one]at h4
 omega
section
variable {q:Int} {n:Nat}
theorem ft2{k:Int}(h2:2≤q)(h64:q≤64)(k0:0≤k)(k1:k≤9223372036854775807):o24 W 101 [.x (.int .i64 q), .x (.int .i64 k)] []=some (.x (.int .i64 (capP q k.toNat 1)),[],[]):=
 xb1 (l:=[q,k]) (by unfold gPow;simp only[];rw[if_pos ⟨h2,h64,k0,k1⟩])
theorem ww1{k:Int}(h2:2≤q)(h64:q≤64)(k0:0≤k)(k1:k≤9223372036854775807):o24 W 99 [.x (.int .i64 q), .x (.int .i64 k)] []=some (.x (.int .i64 (capP q k.toNat 1)),[],[]):=
 jo9 (l:=[q,k]) (by unfold gPow;simp only[];rw[if_pos ⟨h2,h64,k0,k1⟩])
theorem ft1{k x:Nat}(h2:2≤q)(h64:q≤64)(hn:n≤30)(hk:k≤n)(hx:x≤n):o24 W 100 [.x (.int .i64 q), .x (.int .i64 n), .x (.int .i64 k), .x (.int .i64 x)] []=some (.x (.int .i64 (krN q n k x)),[],[]):=
 k09 (l:=[q,n,k,x]) (by unfold e39;simp only[];rw[if_pos ⟨h2,h64,by omega,by omega,by omega,by omega,by omega,by omega⟩];rfl)
theorem qy3{k x:Nat}(h2:2≤q)(h64:q≤64)(hn:n≤30)(hk:k≤n)(hx:x≤n):o24 W 34 [.x (.int .i64 q), .x (.int .i64 n), .x (.int .i64 k), .x (.int .i64 x)] []=some (.x (.int .i64 (krN q n k x)),[],[]):=
 zy5 (l:=[q,n,k,x]) (by unfold e39;simp only[];rw[if_pos ⟨h2,h64,by omega,by omega,by omega,by omega,by omega,by omega⟩];rfl)
theorem xa8{k:Int}(hk:k≤9223372036854775807):o24 W 36 [.x (.int .i64 q), .x (.int .i64 k)] []=some (.x (.int .i64 (cntE q k)),[],[]):=
 cw7 (l:=[q,k]) (by unfold gCnt;simp only[];rw[if_pos hk])
theorem bj1{k:Int}(hk:k≤9223372036854775807):o24 W 33 [.x (.int .i64 q), .x (.int .i64 k)] []=some (.x (.int .i64 (cntE q k)),[],[]):=
 yi7 (l:=[q,k]) (by unfold gCnt;simp only[];rw[if_pos hk])
theorem s57{k:Nat}(hn:n≤30)(hk:k≤1000):o24 W 179 [.x (.int .i64 n), .x (.int .i64 k)] []=some (.x (.int .i64 (bin n k:Nat)),[],[]):=
 c97 (l:=[n,k]) (by unfold gCho;simp only[];rw[if_pos ⟨by omega,by omega,by omega,by omega⟩];rfl)
theorem s66(h2:2≤q)(h64:q≤64)(hc:0≤capP q n 1){i:Nat}(hi:i≤100){r:Int}{s:Int}: ∀(c j:Nat),j+c=i→ ∀ks,
 vgoL W ⟨hNo,[.tmp 6],0⟩ [0,1,2,7,8,9,18,19] c182L0 (.blk 2 [0,1,2,7,8,9]::ks) [(0, .x (.int .i64 q)),(1, .x (.int .i64 n)),(2, .x (.int .i64 r)),(7, .x (.int .i64 s)),(8, .x (.int .i64 i)),(9, .x (.int .i64 (((bin n i:Nat):Int)*(q-1)^j))),(18, .x (.int .i64 i)),(19, .x (.int .i64 j))] []=
  vgo W ⟨hNo,[.tmp 6],0⟩ ks (VFr.of [(0, .x (.int .i64 q)),(1, .x (.int .i64 n)),(2, .x (.int .i64 r)),(7, .x (.int .i64 s)),(8, .x (.int .i64 i)),(9, .x (.int .i64 (qb (q-1) n i)))]) []
 |0,j,hj,ks=>by
  obtain rfl:j=i:=by omega
  unfold qb
  rw[sb5 c182L0.eq_def]
  simp(disch:=first|omega|fail) only[push_cast,seval,vrl,if_pos,if_neg]
 |c+1,j,hj,ks=>by
  have ih:=s66 h2 h64 hc hi (r:=r) (s:=s) c (j+1) (by omega) ks
  have p1:=js4 h2 hc (n:=n) (i:=i) (j:=j+1) (by omega)
  have e1:((bin n i:Nat):Int)*(q-1)^(j+1)=((bin n i:Nat):Int)*(q-1)^j*(q-1):=by rw[Int.pow_succ,Int.mul_assoc]
  have w0:IntKind.wrap .i64 (q-1)=q-1:=wrap64 (by omega) (by omega)
  have w1:IntKind.wrap .i64 (((bin n i:Nat):Int)*(q-1)^j*(q-1))=((bin n i:Nat):Int)*(q-1)^j*(q-1):=by rw[←e1];exact wrap64 (by omega) (by omega)
  rw[e1,Int.natCast_add,Int.natCast_one]at ih
  rw[←ih,sb5 c182L0.eq_def]
  generalize ((bin n i:Nat):Int)*(q-1)^j=B at*
  simp(disch:=first|omega|fail) only[push_cast,seval,vrl,if_pos,if_neg,w0,w1]
theorem x84(h2:2≤q)(h64:q≤64)(hn:n≤30)(hc:0≤capP q n 1){r:Nat}(hr:r≤30): ∀(c i:Nat),i+c=r+1→ ∀ks,
 vgoL W ⟨hNo,[.tmp 6],0⟩ [0,1,2,7,8] c182L1 (.blk 0 [7]::ks) [(0, .x (.int .i64 q)),(1, .x (.int .i64 n)),(2, .x (.int .i64 r)),(7, .x (.int .i64 (sm (qb (q-1) n) i))),(8, .x (.int .i64 i))] []=
  vgo W ⟨hNo,[.tmp 6],0⟩ ks (VFr.of [(7, .x (.int .i64 (hv3 q n r)))]) []
 |0,i,hi,ks=>by
  obtain rfl:i=r+1:=by omega
  unfold hv3
  have c1: ¬(((r+1:Nat):Int)≤(r:Int)):=by omega
  rw[sb5 c182L1.eq_def]
  simp(disch:=first|omega|fail) only[push_cast,seval,vrl,if_pos,if_neg,qc6 (Int.not_le.1 c1)]
 |c+1,i,hi,ks=>by
  have ih:=x84 h2 h64 hn hc hr c (i+1) (by omega) ks
  have e1:=s57 (n:=n) (k:=i) hn (by omega)
  have e2:=fun r s ks=>s66 (n:=n) h2 h64 hc (i:=i) (by omega) (r:=r) (s:=s) i 0 (by omega) ks
  simp only[Int.pow_zero,Int.mul_one,Int.natCast_zero]at e2
  have b1:=c14 h2 hc i
  have b2:=wi3 (b45 (Q:=q-1) (by omega) n) (Nat.zero_le i)
  have b3:=b45 (Q:=q-1) (by omega) n i
  rw[show sm (qb (q-1) n) 0=0 from rfl]at b2
  unfold hv3 at b1
  have hs:sm (qb (q-1) n) (i+1)=sm (qb (q-1) n) i+qb (q-1) n i:=rfl
  rw[hs]at ih b1
  rw[Int.natCast_add,Int.natCast_one]at ih
  rw[←ih,sb5 c182L1.eq_def]
  generalize sm (qb (q-1) n) i=S at*
  generalize qb (q-1) n i=B at*
  simp(disch:=first|omega|fail) only[push_cast,seval,vrl,if_pos,if_neg,e1]
  rw[e2]
  simp(disch:=first|omega|fail) only[push_cast,seval,vrl,if_pos,if_neg]
theorem mm7(h2:2≤q)(h64:q≤64)(hn:n≤30)(hc:0≤capP q n 1){r:Nat}(hr:r≤30):o24 W 182 [.x (.int .i64 q), .x (.int .i64 n), .x (.int .i64 r)] []=some (.x (.int .i64 (hv3 q n r)),[],[]):=by
 have e:=fun ks=>x84 h2 h64 hn hc hr (r+1) 0 (by omega) ks
 rw[show sm (qb (q-1) n) 0=0 from rfl]at e
 simp only[Int.natCast_zero]at e
 rw[o10 rfl T182 rfl]
 unfold F182 c182
 simp(disch:=first|omega|fail) only[push_cast,seval,vrl,if_pos,if_neg]
 rw[e]
 simp(disch:=first|omega|fail) only[push_cast,seval,vrl,if_pos,if_neg]
def ofI(m:Nat)(f:Nat→Int):List Int:=(List.range m).map f
theorem w92(m:Nat)(f:Nat→Int):(ofI m f).length=m:=by simp[ofI]
theorem qc4{m:Nat}{f:Nat→Int}{j:Nat}(h:j<m):(ofI m f)[j]? =some (f j):=by
 unfold ofI;rw[List.getElem?_map,List.getElem?_range h];rfl
theorem js0{m:Nat}{f g:Nat→Int}{j:Nat}{v:Int}(h: ∀t,t<m→g t=if t=j then v else f t):(ofI m f).set j v=ofI m g:=by
 refine List.ext_getElem? fun t=> ?_
 rw[List.getElem?_set]
 by_cases ht:t<m
 ·rw[qc4 ht,qc4 ht,h t ht,w92]
  by_cases hj:j=t
  ·subst hj;rw[if_pos rfl,if_pos ht,if_pos rfl]
  ·rw[if_neg hj,if_neg fun e=>hj e.symm]
 ·rw[List.getElem?_eq_none (l:=ofI m g) (by rw[w92];omega)]
  by_cases hj:j=t
  ·subst hj;rw[if_pos rfl,if_neg (by rw[w92];omega)]
  ·rw[if_neg hj,List.getElem?_eq_none (by rw[w92];omega)]
def mixB(i j t:Nat):Int:=if j<t then((bin (i+1) t:Nat):Int)else((bin i t:Nat):Int)
theorem rm3{n k:Nat}(hn:n≤30):((bin n k:Nat):Int)≤1073741824:=fk3 hn
theorem nm2(hn:n≤30){k i:Nat}(hi:i<n): ∀(j:Nat),j≤n→ ∀ks,
 vgoL W ⟨hNo,[.tmp 4],0⟩ [0,1,5,6,7] c180L0 (.blk 2 [0,1,5,6]::ks) [(0, .x (.int .i64 n)),(1, .x (.int .i64 k)),(5, .own 0 []),(6, .x (.int .i64 i)),(7, .x (.int .i64 j))] [.sl 0 3 1 (ivs (ofI (n+1) (mixB i j)))]=
  vgo W ⟨hNo,[.tmp 4],0⟩ ks (VFr.of [(0, .x (.int .i64 n)),(1, .x (.int .i64 k)),(5, .own 0 []),(6, .x (.int .i64 i))]) [.sl 0 3 1 (ivs (ofI (n+1) (mixB i 0)))]
 |0,hj,ks=>by
  rw[sb5 c180L0.eq_def]
  simp(disch:=first|omega|fail) only[push_cast,seval,vrl,if_pos,if_neg]
 |j+1,hj,ks=>by
  have ih:=nm2 hn (k:=k) hi j (by omega) ks
  have e1:=iat (qc4 (f:=mixB i (j+1)) (show j+1<n+1 by omega))
  have e2:=iat (qc4 (f:=mixB i (j+1)) (show j<n+1 by omega))
  have m1:mixB i (j+1) (j+1)=((bin i (j+1):Nat):Int):=by unfold mixB;rw[if_neg (by omega)]
  have m2:mixB i (j+1) j=((bin i j:Nat):Int):=by unfold mixB;rw[if_neg (by omega)]
  have hb:((bin (i+1) (j+1):Nat):Int)=((bin i (j+1):Nat):Int)+((bin i j:Nat):Int):=by rw[bin,Int.natCast_add,Int.add_comm]
  have b1:=rm3 (n:=i) (k:=j+1) (by omega)
  have b2:=rm3 (n:=i) (k:=j) (by omega)
  have hs:(ofI (n+1) (mixB i (j+1))).set (j+1) (((bin i (j+1):Nat):Int)+((bin i j:Nat):Int))=ofI (n+1) (mixB i j):=js0 fun t ht=>by
   unfold mixB
   by_cases h1:t=j+1
   ·rw[if_pos h1,h1,if_pos (by omega),hb]
   ·rw[if_neg h1]
    by_cases h2:j<t
    ·rw[if_pos h2,if_pos (by omega)]
    ·rw[if_neg h2,if_neg (by omega)]
  rw[m1]at e1
  rw[m2]at e2
  have hlen:=w92 (n+1) (mixB i (j+1))
  have g1:((j:Int)+1).toNat=j+1:=by omega
  have g2:((j:Int)+1-1).toNat=j:=by omega
  have g3:(j:Int)+1-1=(j:Int):=by omega
  rw[←hs]at ih
  rw[Int.natCast_add,Int.natCast_one,←ih,sb5 c180L0.eq_def]
  generalize ofI (n+1) (mixB i (j+1))=Z at*
  simp(disch:=first|omega|fail) only[push_cast,seval,vrl,if_pos,if_neg,e1,e2,hlen,g1,g2,g3]
theorem qx5(hn:n≤30){k:Nat}: ∀(c i:Nat),i+c=n→ ∀ks,
 vgoL W ⟨hNo,[.tmp 4],0⟩ [0,1,5,6] c180L1 (.blk 0 [1,5]::ks) [(0, .x (.int .i64 n)),(1, .x (.int .i64 k)),(5, .own 0 []),(6, .x (.int .i64 i))] [.sl 0 3 1 (ivs (ofI (n+1) fun t=>((bin i t:Nat):Int)))]=
  vgo W ⟨hNo,[.tmp 4],0⟩ ks (VFr.of [(1, .x (.int .i64 k)),(5, .own 0 [])]) [.sl 0 3 1 (ivs (ofI (n+1) fun t=>((bin n t:Nat):Int)))]
 |0,i,hi,ks=>by
  obtain rfl:i=n:=by omega
  rw[sb5 c180L1.eq_def]
  simp(disch:=first|omega|fail) only[push_cast,seval,vrl,if_pos,if_neg]
 |c+1,i,hi,ks=>by
  have ih:=qx5 hn (k:=k) c (i+1) (by omega) ks
  have e:=fun ks=>nm2 hn (k:=k) (show i<n by omega) n (Nat.le_refl n) ks
  have m1:ofI (n+1) (mixB i n)=ofI (n+1) fun t=>((bin i t:Nat):Int):=List.map_congr_left fun t ht=>by
   have:=List.mem_range.1 ht
   unfold mixB;rw[if_neg (by omega)]
  have m2:ofI (n+1) (mixB i 0)=ofI (n+1) fun t=>((bin (i+1) t:Nat):Int):=List.map_congr_left fun t ht=>by
   unfold mixB
   by_cases h:0<t
   ·rw[if_pos h]
   ·rw[if_neg h,show t=0 by omega,m51,m51]
  rw[m1,m2]at e
  rw[Int.natCast_add,Int.natCast_one]at ih
  rw[←ih,sb5 c180L1.eq_def]
  generalize ofI (n+1) (fun t=>((bin i t:Nat):Int))=Z0 at*
  generalize ofI (n+1) (fun t=>((bin (i+1) t:Nat):Int))=Z1 at*
  simp(disch:=first|omega|fail) only[push_cast,seval,vrl,if_pos,if_neg]
  rw[e]
  simp(disch:=first|omega|fail) only[push_cast,seval,vrl,if_pos,if_neg]
theorem u04(hn:n≤30){k:Nat}(hk:k≤n):o24 W 180 [.x (.int .i64 n), .x (.int .i64 k)] []=some (.x (.int .i64 (bin n k:Nat)),[],[]):=by
 have e:=fun ks=>qx5 hn (k:=k) n 0 (by omega) ks
 have h0:ofI (n+1) (fun t=>((bin 0 t:Nat):Int))=(List.replicate (n+1) (0:Int)).set 0 1:=by
  refine List.ext_getElem? fun t=> ?_
  rw[List.getElem?_set]
  by_cases ht:t<n+1
  ·rw[qc4 ht,List.getElem?_replicate,if_pos ht]
   cases t with
   |zero=>simp[bin]
   |succ t=>rw[if_neg (by omega)];simp[bin]
  ·rw[List.getElem?_eq_none (by rw[w92];omega),if_neg (by omega),List.getElem?_replicate,if_neg ht]
 rw[h0]at e
 have e1:=iat (qc4 (f:=fun t=>((bin n t:Nat):Int)) (show k<n+1 by omega))
 have hlen:=w92 (n+1) (fun t=>((bin n t:Nat):Int))
 have g1:((n:Int)+1).toNat=n+1:=by omega
 have c1: ¬(n:Int)<(k:Int):=by omega
 have c0: ¬(k:Int)<0:=by omega
 simp only[Int.natCast_zero]at e
 generalize ofI (n+1) (fun t=>((bin n t:Nat):Int))=Z at*
 rw[o10 rfl T180 rfl]
 unfold F180 c180
 simp(disch:=first|omega|fail) only[push_cast,seval,vrl,if_pos,if_neg,g1,cs7,List.length_replicate]
 rw[e]
 simp(disch:=first|omega|fail) only[push_cast,seval,vrl,if_pos,if_neg,e1,hlen]
theorem vm3(h2:2≤q)(h64:q≤64)(hc:0≤capP q n 1){i:Nat}(hi:i≤100){r:Int}{s:Int}: ∀(c j:Nat),j+c=i→ ∀ks,
 vgoL W ⟨hNo,[.tmp 6],0⟩ [0,1,2,7,8,9,10] c102L0 (.blk 2 [0,1,2,7,8,9]::ks) [(0, .x (.int .i64 q)),(1, .x (.int .i64 n)),(2, .x (.int .i64 r)),(7, .x (.int .i64 s)),(8, .x (.int .i64 i)),(9, .x (.int .i64 (((bin n i:Nat):Int)*(q-1)^j))),(10, .x (.int .i64 j))] []=
  vgo W ⟨hNo,[.tmp 6],0⟩ ks (VFr.of [(0, .x (.int .i64 q)),(1, .x (.int .i64 n)),(2, .x (.int .i64 r)),(7, .x (.int .i64 s)),(8, .x (.int .i64 i)),(9, .x (.int .i64 (qb (q-1) n i)))]) []
 |0,j,hj,ks=>by
  obtain rfl:j=i:=by omega
  unfold qb
  rw[sb5 c102L0.eq_def]
  simp(disch:=first|omega|fail) only[push_cast,seval,vrl,if_pos,if_neg]
 |c+1,j,hj,ks=>by
  have ih:=vm3 h2 h64 hc hi (r:=r) (s:=s) c (j+1) (by omega) ks
  have p1:=js4 h2 hc (n:=n) (i:=i) (j:=j+1) (by omega)
  have e1:((bin n i:Nat):Int)*(q-1)^(j+1)=((bin n i:Nat):Int)*(q-1)^j*(q-1):=by rw[Int.pow_succ,Int.mul_assoc]
  have w0:IntKind.wrap .i64 (q-1)=q-1:=wrap64 (by omega) (by omega)
  have w1:IntKind.wrap .i64 (((bin n i:Nat):Int)*(q-1)^j*(q-1))=((bin n i:Nat):Int)*(q-1)^j*(q-1):=by rw[←e1];exact wrap64 (by omega) (by omega)
  rw[e1,Int.natCast_add,Int.natCast_one]at ih
  rw[←ih,sb5 c102L0.eq_def]
  generalize ((bin n i:Nat):Int)*(q-1)^j=B at*
  simp(disch:=first|omega|fail) only[push_cast,seval,vrl,if_pos,if_neg,w0,w1]
theorem bh9(h2:2≤q)(h64:q≤64)(hn:n≤30)(hc:0≤capP q n 1){r:Nat}(hr:r≤n): ∀(c i:Nat),i+c=r+1→ ∀ks,
 vgoL W ⟨hNo,[.tmp 6],0⟩ [0,1,2,7,8] c102L1 (.blk 0 [7]::ks) [(0, .x (.int .i64 q)),(1, .x (.int .i64 n)),(2, .x (.int .i64 r)),(7, .x (.int .i64 (sm (qb (q-1) n) i))),(8, .x (.int .i64 i))] []=
  vgo W ⟨hNo,[.tmp 6],0⟩ ks (VFr.of [(7, .x (.int .i64 (hv3 q n r)))]) []
 |0,i,hi,ks=>by
  obtain rfl:i=r+1:=by omega
  unfold hv3
  have c1: ¬(((r+1:Nat):Int)≤(r:Int)):=by omega
  rw[sb5 c102L1.eq_def]
  simp(disch:=first|omega|fail) only[push_cast,seval,vrl,if_pos,if_neg,qc6 (Int.not_le.1 c1)]
 |c+1,i,hi,ks=>by
  have ih:=bh9 h2 h64 hn hc hr c (i+1) (by omega) ks
  have e1:=u04 (n:=n) (k:=i) hn (by omega)
  have e2:=fun r s ks=>vm3 (n:=n) h2 h64 hc (i:=i) (by omega) (r:=r) (s:=s) i 0 (by omega) ks
  simp only[Int.pow_zero,Int.mul_one,Int.natCast_zero]at e2
  have b1:=c14 h2 hc i
  have b2:=wi3 (b45 (Q:=q-1) (by omega) n) (Nat.zero_le i)
  have b3:=b45 (Q:=q-1) (by omega) n i
  rw[show sm (qb (q-1) n) 0=0 from rfl]at b2
  unfold hv3 at b1
  have hs:sm (qb (q-1) n) (i+1)=sm (qb (q-1) n) i+qb (q-1) n i:=rfl
  rw[hs]at ih b1
  rw[Int.natCast_add,Int.natCast_one]at ih
  rw[←ih,sb5 c102L1.eq_def]
  generalize sm (qb (q-1) n) i=S at*
  generalize qb (q-1) n i=B at*
  simp(disch:=first|omega|fail) only[push_cast,seval,vrl,if_pos,if_neg,e1]
  rw[e2]
  simp(disch:=first|omega|fail) only[push_cast,seval,vrl,if_pos,if_neg]
theorem pb4(h2:2≤q)(h64:q≤64)(hn:n≤30)(hc:0≤capP q n 1){r:Nat}(hr:r≤n):o24 W 102 [.x (.int .i64 q), .x (.int .i64 n), .x (.int .i64 r)] []=some (.x (.int .i64 (hv3 q n r)),[],[]):=by
 have e:=fun ks=>bh9 h2 h64 hn hc hr (r+1) 0 (by omega) ks
 rw[show sm (qb (q-1) n) 0=0 from rfl]at e
 simp only[Int.natCast_zero]at e
 rw[o10 rfl T102 rfl]
 unfold F102 c102
 simp(disch:=first|omega|fail) only[push_cast,seval,vrl,if_pos,if_neg]
 rw[e]
 simp(disch:=first|omega|fail) only[push_cast,seval,vrl,if_pos,if_neg]
end
def argW(q n d:Int):Int:=if cntE q n=0 then(if d<1∨n<d then 10 else 0)else cntE q n
section
variable {q n d:Int}
theorem lq8(hn:n≤9223372036854775807):o24 W 181 [.x (.int .i64 q), .x (.int .i64 n), .x (.int .i64 d)] []=some (.x (.int .i64 (argW q n d)),[],[]):=by
 have e1:=xa8 (q:=q) hn
 unfold argW
 rw[o10 rfl T181 rfl]
 unfold F181 c181
 by_cases h0:cntE q n=0
 ·rw[if_pos h0]
  rw[h0]at e1
  by_cases d1:d<1
  ·rw[if_pos (show d<1∨n<d from .inl d1)]
   simp(disch:=first|omega|fail) only[push_cast,seval,vrl,if_pos,if_neg,e1,dec_lt d1]
  ·by_cases dn:n<d
   ·rw[if_pos (show d<1∨n<d from .inr dn)]
    simp(disch:=first|omega|fail) only[push_cast,seval,vrl,if_pos,if_neg,e1,cw6 (Int.not_lt.1 d1),dec_lt dn]
   ·rw[if_neg (show¬(d<1∨n<d) by omega)]
    simp(disch:=first|omega|fail) only[push_cast,seval,vrl,if_pos,if_neg,e1,cw6 (Int.not_lt.1 d1),cw6 (Int.not_lt.1 dn)]
 ·rw[if_neg h0]
  simp(disch:=first|omega|fail) only[push_cast,seval,vrl,if_pos,if_neg,e1,nb8 h0]
theorem hq7(h:argW q n d=0):cntE q n=0∧1≤d∧d≤n:=by
 unfold argW at h
 by_cases h0:cntE q n=0
 ·rw[if_pos h0]at h
  by_cases h1:d<1∨n<d
  ·rw[if_pos h1]at h;cases h
  ·exact⟨h0,by omega,by omega⟩
 ·rw[if_neg h0]at h;exact absurd h h0
theorem e69(hn:n≤9223372036854775807)(h:argW q n d≠0):o24 W 104 [.x (.int .i64 q), .x (.int .i64 n), .x (.int .i64 d)] []=some (.tup [.x (.int .i64 0), .x (.int .i64 (argW q n d))],[],[]):=by
 have e1:=lq8 (q:=q) (n:=n) (d:=d) hn
 rw[o10 rfl T104 rfl]
 unfold F104 c104
 simp(disch:=first|omega|fail) only[push_cast,seval,vrl,if_pos,if_neg,e1,nb8 h]
theorem hc0(hn:n≤9223372036854775807)(h:argW q n d≠0):o24 W 105 [.x (.int .i64 q), .x (.int .i64 n), .x (.int .i64 d)] []=some (.tup [.x (.int .i64 0), .x (.int .i64 (argW q n d))],[],[]):=by
 have e1:=lq8 (q:=q) (n:=n) (d:=d) hn
 rw[o10 rfl T105 rfl]
 unfold F105 c105
 simp(disch:=first|omega|fail) only[push_cast,seval,vrl,if_pos,if_neg,e1,nb8 h]
theorem l68(hn:n≤9223372036854775807)(h:argW q n d≠0):o24 W 106 [.x (.int .i64 q), .x (.int .i64 n), .x (.int .i64 d)] []=some (.tup [.x (.int .i64 0), .x (.int .i64 (argW q n d))],[],[]):=by
 have e1:=lq8 (q:=q) (n:=n) (d:=d) hn
 rw[o10 rfl T106 rfl]
 unfold F106 c106
 simp(disch:=first|omega|fail) only[push_cast,seval,vrl,if_pos,if_neg,e1,nb8 h]
theorem fe2(hn:n≤9223372036854775807)(h:argW q n d≠0):o24 W 107 [.x (.int .i64 q), .x (.int .i64 n), .x (.int .i64 d)] []=some (.tup [.x (.int .i64 0), .x (.int .i64 (argW q n d))],[],[]):=by
 have e1:=lq8 (q:=q) (n:=n) (d:=d) hn
 rw[o10 rfl T107 rfl]
 unfold F107 c107
 simp(disch:=first|omega|fail) only[push_cast,seval,vrl,if_pos,if_neg,e1,nb8 h]
end
section
variable {q:Int} {n d:Nat}
def hamV(q:Int)(n d:Nat):Int:=(capP q n 1).tdiv (hv3 q n ((d-1)/2))
def sinV(q:Int)(n d:Nat):Int:=capP q (n-d+1) 1
def ploV(q:Int)(n d:Nat):Int:=if q*(d:Int)≤(n:Int)*(q-1)then 0 else(q*(d:Int)).tdiv (q*(d:Int)-(n:Int)*(q-1))
def varV(q:Int)(n d:Nat):Int:=(capP q n 1+hv3 q n (d-1)-1).tdiv (hv3 q n (d-1))
theorem ei4{a b:Int}(ha:0≤a)(hb:0<b):0≤a.tdiv b∧a.tdiv b≤a:=by
 rw[Int.tdiv_eq_ediv_of_nonneg ha]
 exact⟨Int.ediv_nonneg ha (by omega),Int.ediv_le_self _ ha⟩
theorem xz6(h2:2≤q)(h64:q≤64)(hn:n≤30)(hc:0≤capP q n 1)(hd:1≤d)(hdn:d≤n)(hA:argW q n d=0):o24 W 104 [.x (.int .i64 q), .x (.int .i64 n), .x (.int .i64 d)] []=some (.tup [.x (.int .i64 (hamV q n d)), .x (.int .i64 0)],[],[]):=by
 have e1:=lq8 (q:=q) (n:=(n:Int)) (d:=(d:Int)) (by omega)
 rw[hA]at e1
 have e2:=ft2 (k:=(n:Int)) h2 h64 (by omega) (by omega)
 rw[Int.toNat_natCast]at e2
 have e3:=mm7 h2 h64 hn hc (r:=(d-1)/2) (by omega)
 have b1:=c14 h2 hc ((d-1)/2)
 have w1:((d:Int)-1).tdiv 2=(((d-1)/2:Nat):Int):=by rw[Int.tdiv_eq_ediv_of_nonneg (by omega)];omega
 have hr30:(d-1)/2≤30:=by omega
 have hp:=(kf4 h2 hc)
 have b3:=ei4 hc (b:=hv3 q n ((d-1)/2)) (by omega)
 have hz: ¬hv3 q n ((d-1)/2)=0:=by omega
 unfold hamV
 rw[o10 rfl T104 rfl]
 unfold F104 c104
 generalize (d-1)/2=r at*
 generalize hv3 q n r=B at*
 generalize capP q n 1=P at*
 simp(disch:=first|omega|fail) only[push_cast,seval,vrl,if_pos,if_neg,e1,e2,w1,e3,hz]
theorem oe9(h2:2≤q)(h64:q≤64)(hn:n≤30)(hd:1≤d)(hdn:d≤n)(hA:argW q n d=0):o24 W 105 [.x (.int .i64 q), .x (.int .i64 n), .x (.int .i64 d)] []=some (.tup [.x (.int .i64 (sinV q n d)), .x (.int .i64 0)],[],[]):=by
 have e1:=lq8 (q:=q) (n:=(n:Int)) (d:=(d:Int)) (by omega)
 rw[hA]at e1
 have e2:=ft2 (k:=(n:Int)-(d:Int)+1) h2 h64 (by omega) (by omega)
 rw[show((n:Int)-(d:Int)+1).toNat=n-d+1 by omega]at e2
 unfold sinV
 rw[o10 rfl T105 rfl]
 unfold F105 c105
 simp(disch:=first|omega|fail) only[push_cast,seval,vrl,if_pos,if_neg,e1,e2]
theorem gr5(h2:2≤q)(h64:q≤64)(hn:n≤30)(hd:1≤d)(hdn:d≤n)(hA:argW q n d=0):o24 W 106 [.x (.int .i64 q), .x (.int .i64 n), .x (.int .i64 d)] []=some (.tup [.x (.int .i64 (ploV q n d)), .x (.int .i64 0)],[],[]):=by
 have e1:=lq8 (q:=q) (n:=(n:Int)) (d:=(d:Int)) (by omega)
 rw[hA]at e1
 have m1:=f16 (x:=q) (y:=(d:Int)) (A:=64) (B:=30) (by omega) (by omega)
 have m2:=f16 (x:=(n:Int)) (y:=q-1) (A:=30) (B:=64) (by omega) (by omega)
 have m3:0≤q*(d:Int):=Int.mul_nonneg (by omega) (by omega)
 unfold ploV
 rw[o10 rfl T106 rfl]
 unfold F106 c106
 generalize hX:q*(d:Int)=X at*
 generalize hY:(n:Int)*(q-1)=Y at*
 by_cases h:X≤Y
 ·rw[if_pos h]
  simp(disch:=first|omega|fail) only[push_cast,seval,vrl,if_pos,if_neg,e1,hX,hY,nl2 h]
 ·rw[if_neg h]
  have hz: ¬X-Y=0:=by omega
  have b3:=ei4 m3 (b:=X-Y) (by omega)
  simp(disch:=first|omega|fail) only[push_cast,seval,vrl,if_pos,if_neg,e1,hX,hY,qc6 (Int.not_le.1 h),hz]
theorem jh0(h2:2≤q)(h64:q≤64)(hn:n≤30)(hc:0≤capP q n 1)(hd:1≤d)(hdn:d≤n)(hA:argW q n d=0):o24 W 107 [.x (.int .i64 q), .x (.int .i64 n), .x (.int .i64 d)] []=some (.tup [.x (.int .i64 (varV q n d)), .x (.int .i64 0)],[],[]):=by
 have e1:=lq8 (q:=q) (n:=(n:Int)) (d:=(d:Int)) (by omega)
 rw[hA]at e1
 have e2:=ft2 (k:=(n:Int)) h2 h64 (by omega) (by omega)
 rw[Int.toNat_natCast]at e2
 have e3:=mm7 h2 h64 hn hc (r:=d-1) (by omega)
 rw[show((d-1:Nat):Int)=(d:Int)-1 by omega]at e3
 have b1:=c14 h2 hc (d-1)
 have hp:=(kf4 h2 hc)
 have b3:=ei4 (a:=capP q n 1+hv3 q n (d-1)-1) (by omega) (b:=hv3 q n (d-1)) (by omega)
 have hz: ¬hv3 q n (d-1)=0:=by omega
 unfold varV
 rw[o10 rfl T107 rfl]
 unfold F107 c107
 generalize hv3 q n (d-1)=B at*
 generalize capP q n 1=P at*
 simp(disch:=first|omega|fail) only[push_cast,seval,vrl,if_pos,if_neg,e1,e2,e3,hz]
theorem xf9{a b:Int}(ha:0≤a)(ha2:a≤9000000000)(hb:1≤b)(hb2:b≤9000000000):o24 W 103 [.x (.int .i64 a), .x (.int .i64 b)] []=some (.x (.int .i64 ((a+b-1).tdiv b)),[],[]):=by
 have b3:=ei4 (a:=a+b-1) (by omega) (b:=b) (by omega)
 have hz: ¬b=0:=by omega
 rw[o10 rfl T103 rfl]
 unfold F103 c103
 simp(disch:=first|omega|fail) only[push_cast,seval,vrl,if_pos,if_neg,hz]
end
theorem fi5{a e:Int}(h:e≠0→a=0):o24 W 28 [.x (.int .i64 a), .x (.int .i64 e), .x (.int .i64 a), .x (.int .i64 e)] []=some (.x (.bool true),[],[]):=by
 have:=ib6 (l:=a) (k:=a) (e:=e) (f:=e)
 by_cases he:e=0
 ·rw[if_pos he,decide_eq_true he,decide_eq_true rfl]at this
  exact this
 ·rw[if_neg he,decide_eq_true rfl,decide_eq_true (h he)]at this
  exact this
theorem a03{e k:Int}(h:e≠0):o24 W 28 [.x (.int .i64 0), .x (.int .i64 e), .x (.int .i64 k), .x (.int .i64 e)] []=some (.x (.bool true),[],[]):=by
 have:=ib6 (l:=0) (k:=k) (e:=e) (f:=e)
 rw[if_neg h,decide_eq_true rfl,decide_eq_true rfl]at this
 exact this
theorem hi8{q n d:Int}(hn:n≤9223372036854775807)(hA:argW q n d≠0):o24 W 37 [.x (.int .i64 q), .x (.int .i64 n), .x (.int .i64 d), .x (.int .i64 (cntE q n))] []=some (.x (.bool true),[],[]):=by
 have e1:=e69 (q:=q) (n:=n) (d:=d) hn hA
 have e2:=hc0 (q:=q) (n:=n) (d:=d) hn hA
 have e3:=l68 (q:=q) (n:=n) (d:=d) hn hA
 have e4:=fe2 (q:=q) (n:=n) (d:=d) hn hA
 have hA':=hA
 unfold argW at hA' e1 e2 e3 e4
 rw[o10 rfl T37 rfl]
 unfold F37 c37
 by_cases h0:cntE q n=0
 ·rw[if_pos h0]at hA' e1 e2 e3 e4
  have hd:d<1∨n<d:=Classical.byContradiction fun h=>hA' (by rw[if_neg h])
  rw[if_pos hd]at e1 e2 e3 e4
  have nk:=a03 (e:=10) (k:=0) (by decide)
  by_cases c1:d<1
  ·simp(disch:=first|omega|fail) only[push_cast,seval,vrl,if_pos,if_neg,h0,dec_lt c1,e1,e2,e3,e4,nk]
  ·have c2:n<d:=by omega
   simp(disch:=first|omega|fail) only[push_cast,seval,vrl,if_pos,if_neg,h0,cw6 (Int.not_lt.1 c1),dec_lt c2,e1,e2,e3,e4,nk]
 ·rw[if_neg h0]at e1 e2 e3 e4
  have nk:=a03 (e:=cntE q n) (k:=0) h0
  simp(disch:=first|omega|fail) only[push_cast,seval,vrl,if_pos,if_neg,nb8 h0,e1,e2,e3,e4,nk]
theorem zp7{q n d:Int}(hA:argW q n d=0):o24 W 37 [.x (.int .i64 q), .x (.int .i64 n), .x (.int .i64 d), .x (.int .i64 (cntE q n))] []=some (.x (.bool true),[],[]):=by
 obtain⟨h0,d1,dn⟩:=hq7 hA
 obtain⟨h2,h64,n1,n30⟩:=v88 h0
 have hc:=w29 h0
 obtain⟨N,rfl⟩: ∃N:Nat,n=N:=⟨n.toNat,by omega⟩
 obtain⟨D,rfl⟩: ∃D:Nat,d=D:=⟨d.toNat,by omega⟩
 rw[Int.toNat_natCast]at hc
 have e1:=xz6 (d:=D) h2 h64 (by omega) hc (by omega) (by omega) hA
 have e2:=oe9 (d:=D) h2 h64 (by omega) (by omega) (by omega) hA
 have e3:=gr5 (d:=D) h2 h64 (by omega) (by omega) (by omega) hA
 have e4:=jh0 (d:=D) h2 h64 (by omega) hc (by omega) (by omega) hA
 have f1:=ww1 (k:=(N:Int)) h2 h64 (by omega) (by omega)
 rw[Int.toNat_natCast]at f1
 have f2:=pb4 h2 h64 (n:=N) (by omega) hc (r:=(D-1)/2) (by omega)
 have f3:=pb4 h2 h64 (n:=N) (by omega) hc (r:=D-1) (by omega)
 rw[show((D-1:Nat):Int)=(D:Int)-1 by omega]at f3
 have f4:=ww1 (k:=(N:Int)-(D:Int)+1) h2 h64 (by omega) (by omega)
 rw[show((N:Int)-(D:Int)+1).toNat=N-D+1 by omega]at f4
 have b1:=c14 h2 hc ((D-1)/2)
 have b2:=c14 h2 hc (D-1)
 have hp:=kf4 h2 hc
 have f5:=xf9 (a:=capP q N 1) (b:=hv3 q N (D-1)) hc (by omega) (by omega) (by omega)
 have w1:((D:Int)-1).tdiv 2=(((D-1)/2:Nat):Int):=by rw[Int.tdiv_eq_ediv_of_nonneg (by omega)];omega
 have hr30:(D-1)/2≤30:=by omega
 have b3:=ei4 hc (b:=hv3 q N ((D-1)/2)) (by omega)
 have hz: ¬hv3 q N ((D-1)/2)=0:=by omega
 have m1:=f16 (x:=q) (y:=(D:Int)) (A:=64) (B:=30) (by omega) (by omega)
 have m2:=f16 (x:=(N:Int)) (y:=q-1) (A:=30) (B:=64) (by omega) (by omega)
 have m3:0≤q*(D:Int):=Int.mul_nonneg (by omega) (by omega)
 have nk:=fun a=>fi5 (a:=a) (e:=0) (fun h=>absurd rfl h)
 unfold hamV at e1
 unfold sinV at e2
 unfold ploV at e3
 unfold varV at e4
 rw[h0,o10 rfl T37 rfl]
 unfold F37 c37
 generalize (D-1)/2=r at*
 generalize hv3 q N r=B1 at*
 generalize hv3 q N (D-1)=B2 at*
 generalize capP q N 1=P at*
 generalize capP q (N-D+1) 1=P2 at*
 generalize hX:q*(D:Int)=X at*
 generalize hY:(N:Int)*(q-1)=Y at*
 by_cases h:Y<X
 ·rw[if_neg (by omega)]at e3
  have hz2: ¬X-Y=0:=by omega
  have b4:=ei4 m3 (b:=X-Y) (by omega)
  simp(disch:=first|omega|fail) only[push_cast,seval,vrl,if_pos,if_neg,hX,hY,f1,w1,f2,hz,f4,f3,f5,dec_lt h,hz2,e1,e2,e3,e4,nk]
 ·rw[if_pos (by omega)]at e3
  simp(disch:=first|omega|fail) only[push_cast,seval,vrl,if_pos,if_neg,hX,hY,f1,w1,f2,hz,f4,f3,f5,cw6 (Int.not_lt.1 h),e1,e2,e3,e4,nk]
theorem mm9{q n d:Int}(hn:n≤9223372036854775807):o24 W 37 [.x (.int .i64 q), .x (.int .i64 n), .x (.int .i64 d), .x (.int .i64 (cntE q n))] []=some (.x (.bool true),[],[]):=by
 by_cases hA:argW q n d=0
 ·exact zp7 hA
 ·exact hi8 hn hA
section
variable {q all:Int} {n k:Nat} {zs:List Int}
def hiN(q:Int)(n k:Nat)(zs:List Int):Nat→Int:=tot (tK q n k) fun x=>(vK zs x).tdiv 32768
def loN(q:Int)(n k:Nat)(zs:List Int):Nat→Int:=tot (tK q n k) fun x=>(vK zs x).tmod 32768
theorem hilo: ∀i,32768*hiN q n k zs i+loN q n k zs i=tot (tK q n k) (vK zs) i
 |0=>rfl
 |i+1=>by
  have ih:=hilo i
  have e:=Int.mul_tdiv_add_tmod (vK zs i) 32768
  unfold hiN loN at ih⊢
  rw[tot,tot,tot,←ih]
  generalize tot (tK q n k) (fun x=>(vK zs x).tdiv 32768) i=a at*
  generalize tot (tK q n k) (fun x=>(vK zs x).tmod 32768) i=b at*
  generalize (vK zs i).tdiv 32768=c at*
  generalize (vK zs i).tmod 32768=d at*
  generalize tK q n k i=t at*
  rw[←e]
  grind
theorem ac2{v:Int}(h0:0≤v)(h1:v≤1073741824):0≤v.tdiv 32768∧v.tdiv 32768≤32768∧0≤v.tmod 32768∧v.tmod 32768≤32768:=by
 rw[Int.tdiv_eq_ediv_of_nonneg h0,Int.tmod_eq_emod_of_nonneg h0]
 omega
theorem jz3(h2:2≤q)(hc:0≤capP q n 1)(hv: ∀i,0≤vK zs i∧vK zs i≤1073741824): ∀i:Nat,(-((i:Int)*35184372088832)≤hiN q n k zs i∧hiN q n k zs i≤(i:Int)*35184372088832)∧(-((i:Int)*35184372088832)≤loN q n k zs i∧loN q n k zs i≤(i:Int)*35184372088832)
 |0=>by simp[hiN,loN,tot]
 |i+1=>by
  have ih:=jz3 h2 hc hv i
  have ht:=d15 (k:=k) h2 hc i
  have hp:=ac2 (hv i).1 (hv i).2
  have m1:=f16 (x:=tK q n k i) (y:=(vK zs i).tdiv 32768) (A:=1073741824) (B:=32768) ht (by omega)
  have m2:=f16 (x:=tK q n k i) (y:=(vK zs i).tmod 32768) (A:=1073741824) (B:=32768) ht (by omega)
  unfold hiN loN at ih⊢
  rw[tot,tot]
  omega
theorem fh9(h2:2≤q)(hc:0≤capP q n 1)(hv: ∀i,0≤vK zs i∧vK zs i≤1073741824): ∀i:Nat,-(1073741824*sv (vK zs) i)≤32768*hiN q n k zs i∧32768*hiN q n k zs i≤1073741824*sv (vK zs) i
 |0=>by simp[hiN,tot,sv]
 |i+1=>by
  have ih:=fh9 h2 hc hv i
  have ht:=d15 (k:=k) h2 hc i
  have hp:=ac2 (hv i).1 (hv i).2
  have e:=Int.mul_tdiv_add_tmod (vK zs i) 32768
  have m1:=f16 (x:=tK q n k i) (y:=32768*(vK zs i).tdiv 32768) (A:=1073741824) (B:=vK zs i) ht (by omega)
  have e2:tK q n k i*(32768*(vK zs i).tdiv 32768)=32768*(tK q n k i*(vK zs i).tdiv 32768):=by grind
  rw[e2]at m1
  unfold hiN at ih⊢
  rw[tot,sv,Int.mul_add,Int.mul_add]
  omega
theorem us9{X:Int}(ha:0<all)(h: -(1073741824*all)≤32768*X∧32768*X≤1073741824*all): -1073741824≤X.tdiv all*32768∧X.tdiv all*32768≤1073741824:=by
 have h1:(X.tdiv all).natAbs*all.natAbs≤X.natAbs:=by
  rw[Int.natAbs_tdiv]
  exact Nat.div_mul_le_self _ _
 have h3:(32768*X).natAbs≤1073741824*all.natAbs:=by omega
 have h4:32768*((X.tdiv all).natAbs*all.natAbs)≤1073741824*all.natAbs:=by
  have:(32768*X).natAbs=32768*X.natAbs:=by rw[Int.natAbs_mul];rfl
  omega
 have h5:32768*(X.tdiv all).natAbs*all.natAbs≤1073741824*all.natAbs:=by rw[Nat.mul_assoc];exact h4
 have h6:=Nat.le_of_mul_le_mul_right h5 (by omega)
 omega
variable {b:Bool} {nl:Nat}
theorem oh2(h2:2≤q)(h64:q≤64)(hn:n≤30)(hc:0≤capP q n 1)(hl:zs.length=n+1)(hv: ∀i,0≤vK zs i∧vK zs i≤1073741824)(hk:k≤n){T0:Tree}: ∀(m x:Nat),x+m=n+1→ ∀ks,
 vgoL W ⟨h108,[.tmp 6, .tmp 7],0⟩ [0,1,2,8,9,10,11,12,13] c108L0 (.blk 2 [0,1,2,8,9,10,11,12]::ks) [(0, .x (.int .i64 q)),(1, .fz b (.sl nl 0 1 (ivs zs))),(2, .x (.int .i64 all)),(8, .x (.int .i64 n)),(9, .own 0 []),(10, .x (.int .i64 k)),(11, .x (.int .i64 (hiN q n k zs x))),(12, .x (.int .i64 (loN q n k zs x))),(13, .x (.int .i64 x))] [T0]=
  vgo W ⟨h108,[.tmp 6, .tmp 7],0⟩ ks (VFr.of [(0, .x (.int .i64 q)),(1, .fz b (.sl nl 0 1 (ivs zs))),(2, .x (.int .i64 all)),(8, .x (.int .i64 n)),(9, .own 0 []),(10, .x (.int .i64 k)),(11, .x (.int .i64 (hiN q n k zs (n+1)))),(12, .x (.int .i64 (loN q n k zs (n+1))))]) [T0]
 |0,x,hx,ks=>by
  obtain rfl:x=n+1:=by omega
  have c1: ¬((n+1:Nat):Int)≤(n:Int):=by omega
  rw[sb5 c108L0.eq_def]
  simp(disch:=first|omega|fail) only[push_cast,seval,vrl,if_pos,if_neg,qc6 (Int.not_le.1 c1)]
 |m+1,x,hx,ks=>by
  have ih:=oh2 h2 h64 hn hc hl hv hk (T0:=T0) m (x+1) (by omega) ks
  have e1:=qy3 (k:=k) (x:=x) h2 h64 hn hk (by omega)
  have et:krN q n k x=tK q n k x:=by unfold tK;rw[if_pos (by omega)]
  rw[et]at e1
  have hg:gi zs (x:Int)=vK zs x:=rfl
  have e2:(ivs zs)[x]? =some (.v (.int .i64 (vK zs x))):=by rw[ui5 (by omega),hg]
  have ht:=d15 (k:=k) h2 hc x
  have hp:=ac2 (hv x).1 (hv x).2
  have m1:=f16 (x:=tK q n k x) (y:=(vK zs x).tdiv 32768) (A:=1073741824) (B:=32768) ht (by omega)
  have m2:=f16 (x:=tK q n k x) (y:=(vK zs x).tmod 32768) (A:=1073741824) (B:=32768) ht (by omega)
  have hi1:=(jz3 (k:=k) h2 hc hv x)
  have hi2:hiN q n k zs (x+1)=hiN q n k zs x+tK q n k x*(vK zs x).tdiv 32768:=rfl
  have hi3:loN q n k zs (x+1)=loN q n k zs x+tK q n k x*(vK zs x).tmod 32768:=rfl
  have c1:(x:Int)≤(n:Int):=by omega
  have hxl:x<zs.length:=by omega
  rw[hi2,hi3,Int.natCast_add,Int.natCast_one]at ih
  rw[←ih,sb5 c108L0.eq_def]
  clear hi2 hi3 hv
  generalize hiN q n k zs x=A at*
  generalize loN q n k zs x=B at*
  generalize tK q n k x=t at*
  generalize vK zs x=v at*
  have w1:IntKind.wrap .i64 (v.tdiv 32768)=v.tdiv 32768:=wrap64 (by omega) (by omega)
  have w2:IntKind.wrap .i64 (t*v.tdiv 32768)=t*v.tdiv 32768:=wrap64 (by omega) (by omega)
  have w3:IntKind.wrap .i64 (A+t*v.tdiv 32768)=A+t*v.tdiv 32768:=wrap64 (by omega) (by omega)
  have w4:IntKind.wrap .i64 (t*v.tmod 32768)=t*v.tmod 32768:=wrap64 (by omega) (by omega)
  have w5:IntKind.wrap .i64 (B+t*v.tmod 32768)=B+t*v.tmod 32768:=wrap64 (by omega) (by omega)
  generalize hP:v.tdiv 32768=P at*
  generalize hM:v.tmod 32768=M at*
  have z1: ¬(32768:Int)=0:=by decide
  simp(disch:=first|omega|fail) only[push_cast,seval,vrl,if_pos,if_neg,nl2 c1,e1,e2,hxl,z1,hP,hM,w1,w2,w3,w4,w5]
theorem cr0(h2:2≤q)(h64:q≤64)(hn:n≤30)(hc:0≤capP q n 1)(hl:zs.length=n+1)(hv: ∀i,0≤vK zs i∧vK zs i≤1073741824)(ha:0<all)(ha2:all≤1073741824)(hs:sv (vK zs) (n+1)≤all): ∀(m k:Nat) (A:List Int),k+m=n+1→A.length=k→ ∀ks,
 vgoL W ⟨h108,[.tmp 6, .tmp 7],0⟩ [0,1,2,8,9,10] c108L1 (.blk 0 [9]::ks) [(0, .x (.int .i64 q)),(1, .fz b (.sl nl 0 1 (ivs zs))),(2, .x (.int .i64 all)),(8, .x (.int .i64 n)),(9, .own 0 []),(10, .x (.int .i64 k))] [.sl 1 3 1 (ivs A)]=
  match dlst q n zs all m k with
  |some l=>vgo W ⟨h108,[.tmp 6, .tmp 7],0⟩ ks (VFr.of [(9, .own 0 [])]) [.sl 1 3 1 (ivs (A++l))]
  |none=>some (.tup [.own 0 [], .x (.bool false)],[.sl 1 3 1 []],[])
 |0,k,A,hk,hA,ks=>by
  have c1: ¬(k:Int)≤(n:Int):=by omega
  have hd0:dlst q n zs all 0 k=some []:=rfl
  rw[hd0,sb5 c108L1.eq_def]
  dsimp only
  rw[List.append_nil]
  simp(disch:=first|omega|fail) only[push_cast,seval,vrl,if_pos,if_neg,qc6 (Int.not_le.1 c1)]
 |m+1,k,A,hk,hA,ks=>by
  have hkn:k≤n:=by omega
  have e1:=fun T0 ks=>oh2 (b:=b) (nl:=nl) (all:=all) h2 h64 hn hc hl hv hkn (T0:=T0) (n+1) 0 (Nat.zero_add _) ks
  rw[show hiN q n k zs 0=0 from rfl,show loN q n k zs 0=0 from rfl]at e1
  simp only[Int.natCast_zero]at e1
  have hvn: ∀i,0≤vK zs i:=fun i=>(hv i).1
  obtain⟨f1,f2,f3⟩:=sw2 (t:=tK q n k) (v:=vK zs) ha (n+1)
  have f4:=pw8 (t:=tK q n k) (v:=vK zs) (B:=1073741824) (by decide) ha (d15 h2 hc) hvn hs
  have hi:=jz3 (k:=k) h2 hc hv (n+1)
  have hx:=hilo (q:=q) (n:=n) (k:=k) (zs:=zs) (n+1)
  obtain⟨g1,g2⟩:=lk4 ha f1 f2 f3 hx
  have i1:=dx8 (hiN q n k zs (n+1)) ha
  have i2:=of7 (A:=1125899906842624) (hiN q n k zs (n+1)) ha (by omega)
  have i3:=of7 (A:=1152921504606846976) ((hiN q n k zs (n+1)).tmod all*32768+loN q n k zs (n+1)) ha (by omega)
  have i4:=fh9 (k:=k) h2 hc hv (n+1)
  have i5:1073741824*sv (vK zs) (n+1)≤1073741824*all:=Int.mul_le_mul_of_nonneg_left hs (by decide)
  have i6:=us9 (X:=hiN q n k zs (n+1)) ha (by omega)
  have c1:(k:Int)≤(n:Int):=by omega
  have ha0: ¬all=0:=by omega
  have hAl:A.length≤100:=by omega
  rw[dlst]
  generalize hw:(shF (tK q n k) (vK zs) all (n+1)).1=w at*
  generalize hr:(shF (tK q n k) (vK zs) all (n+1)).2=r at*
  generalize hiN q n k zs (n+1)=X at*
  generalize loN q n k zs (n+1)=Y at*
  have w1:IntKind.wrap .i64 (X.tmod all*32768)=X.tmod all*32768:=wrap64 (by omega) (by omega)
  have w2:IntKind.wrap .i64 (X.tmod all*32768+Y)=X.tmod all*32768+Y:=wrap64 (by omega) (by omega)
  have w3:IntKind.wrap .i64 (X.tdiv all)=X.tdiv all:=wrap64 (by omega) (by omega)
  have w4:IntKind.wrap .i64 (X.tdiv all*32768)=X.tdiv all*32768:=wrap64 (by omega) (by omega)
  have w5:IntKind.wrap .i64 ((X.tmod all*32768+Y).tdiv all)=(X.tmod all*32768+Y).tdiv all:=wrap64 (by omega) (by omega)
  have w6:IntKind.wrap .i64 (X.tdiv all*32768+(X.tmod all*32768+Y).tdiv all)=X.tdiv all*32768+(X.tmod all*32768+Y).tdiv all:=wrap64 (by omega) (by omega)
  generalize hq1:X.tdiv all=Q1 at*
  generalize hq2:X.tmod all=Q2 at*
  generalize hq3:Q2*32768+Y=Q3 at*
  generalize hq4:Q3.tdiv all=Q4 at*
  generalize hq5:Q3.tmod all=Q5 at*
  generalize hq6:Q1*32768+Q4=Q6 at*
  clear f1 hx hi i1 i2 i3 i4 i5 i6
  by_cases hok:r=0∧0≤w
  ·rw[if_pos hok]
   have z5:=g1.2 hok.1
   have z6:=g2 hok.1
   have z7: ¬Q6<0:=by omega
   have ih:=cr0 h2 h64 hn hc hl (by assumption) ha ha2 (by assumption) m (k+1) (A++[Q6]) (by omega) (by rw[List.length_append,hA];rfl) ks
   rw[Int.natCast_add,Int.natCast_one]at ih
   rw[sb5 c108L1.eq_def]
   cases hd:dlst q n zs all m (k+1)with
   |some l=>
    rw[hd]at ih
    simp only[Option.map_some]
    simp only[List.append_assoc,List.singleton_append]at ih
    rw[←z6]
    rw[←ih]
    simp(disch:=first|omega|fail) only[push_cast,seval,vrl,if_pos,if_neg,nl2 c1]
    rw[e1]
    simp(disch:=first|omega|fail) only[push_cast,seval,vrl,if_pos,if_neg,ha0,w1,w2,w3,w4,w5,w6,hq1,hq2,hq3,hq4,hq5,hq6,mr8 z5,cw6 (Int.not_lt.1 z7),hAl]
   |none=>
    rw[hd]at ih
    simp only[Option.map_none]at ih⊢
    rw[←ih]
    simp(disch:=first|omega|fail) only[push_cast,seval,vrl,if_pos,if_neg,nl2 c1]
    rw[e1]
    simp(disch:=first|omega|fail) only[push_cast,seval,vrl,if_pos,if_neg,ha0,w1,w2,w3,w4,w5,w6,hq1,hq2,hq3,hq4,hq5,hq6,mr8 z5,cw6 (Int.not_lt.1 z7),hAl]
  ·rw[if_neg hok,sb5 c108L1.eq_def]
   simp only[]
   by_cases z5:Q5=0
   ·have hr0:=g1.1 z5
    have z6:=g2 hr0
    have z7:Q6<0:=by
     refine Classical.byContradiction fun h=>hok ⟨hr0,by omega⟩
    simp(disch:=first|omega|fail) only[push_cast,seval,vrl,if_pos,if_neg,nl2 c1]
    rw[e1]
    simp(disch:=first|omega|fail) only[push_cast,seval,vrl,if_pos,if_neg,ha0,w1,w2,w3,w4,w5,w6,hq1,hq2,hq3,hq4,hq5,hq6,mr8 z5,dec_lt z7]
   ·simp(disch:=first|omega|fail) only[push_cast,seval,vrl,if_pos,if_neg,nl2 c1]
    rw[e1]
    simp(disch:=first|omega|fail) only[push_cast,seval,vrl,if_pos,if_neg,ha0,w1,w2,w3,w4,w5,w6,hq1,hq2,hq3,hq4,hq5,hq6,nb8 z5]
end
section
variable {q all:Int} {n:Nat} {zs:List Int} {b:Bool} {nl:Nat}
theorem qx1(h2:2≤q)(h64:q≤64)(hn:n≤30)(hc:0≤capP q n 1)(hl:zs.length=n+1)(hv: ∀i,0≤vK zs i∧vK zs i≤1073741824)(ha:0<all)(ha2:all≤1073741824)(hs:sv (vK zs) (n+1)≤all):
 o24 W 108 [.x (.int .i64 q), .fz b (.sl nl 0 1 (ivs zs)), .x (.int .i64 all)] []=match dlst q n zs all (n+1) 0 with
  |some l=>some (.tup [.own 0 [], .x (.bool true)],[.sl 1 3 1 (ivs l)],[])
  |none=>some (.tup [.own 0 [], .x (.bool false)],[.sl 1 3 1 []],[]):=by
 have e:=fun ks=>cr0 (b:=b) (nl:=nl) h2 h64 hn hc hl hv ha ha2 hs (n+1) 0 [] (Nat.zero_add _) rfl ks
 simp only[Int.natCast_zero,lz6,List.nil_append]at e
 have hw:IntKind.wrap .i64 ((zs.length:Int)-1)=(n:Int):=by rw[wrap64 (by omega) (by omega)];omega
 rw[o10 rfl T108 rfl]
 unfold F108 c108
 cases hd:dlst q n zs all (n+1) 0 with
 |some l=>
  simp only[hd]at e
  simp(disch:=first|omega|fail) only[push_cast,seval,vrl,if_pos,if_neg,hw]
  rw[e]
  simp(disch:=first|omega|fail) only[push_cast,seval,vrl,if_pos,if_neg]
 |none=>
  simp only[hd]at e
  simp(disch:=first|omega|fail) only[push_cast,seval,vrl,if_pos,if_neg,hw]
  rw[e]
theorem fg6(h2:2≤q)(h64:q≤64)(hn:n≤30)(hc:0≤capP q n 1)(hl:zs.length=n+1): ∀(m i:Nat),i+m=n+1→dbad (capP q n 1) (zs.take i)=false→
 ∃s:Int,(dbad (capP q n 1) zs=false→s=sv (vK zs) (n+1))∧ ∀ks,
  vgoL W ⟨hNo,[.tmp 4],0⟩ [0,1,5,6,7,8] c38L0 (.blk 0 [0,1,5,6,7]::ks) [(0, .x (.int .i64 q)),(1, .fz b (.sl nl 0 1 (ivs zs))),(5, .x (.int .i64 n)),(6, .x (.int .i64 0)),(7, .x (.int .i64 (sv (vK zs) i))),(8, .x (.int .i64 i))] []=
   vgo W ⟨hNo,[.tmp 4],0⟩ ks (VFr.of [(0, .x (.int .i64 q)),(1, .fz b (.sl nl 0 1 (ivs zs))),(5, .x (.int .i64 n)),(6, .x (.int .i64 (if dbad (capP q n 1) zs=true then 2 else 0))),(7, .x (.int .i64 s))]) []
 |0,i,hi,hb0=>by
  obtain rfl:i=n+1:=by omega
  rw[List.take_of_length_le (by omega)]at hb0
  refine⟨sv (vK zs) (n+1),fun _=>rfl,fun ks=> ?_⟩
  have c1: ¬((n+1:Nat):Int)≤(n:Int):=by omega
  rw[hb0,if_neg Bool.false_ne_true,sb5 c38L0.eq_def]
  simp(disch:=first|omega|fail) only[push_cast,seval,vrl,if_pos,if_neg,qc6 (Int.not_le.1 c1)]
 |m+1,i,hi,hb0=>by
  obtain⟨v,hv⟩:=ge6 (l:=zs) (i:=i) (by omega)
  have hvk:vK zs i=v:=by unfold vK gi;rw[Int.toNat_natCast,List.getD_eq_getElem?_getD,hv];rfl
  have htk:zs.take (i+1)=zs.take i++[v]:=by rw[List.take_add_one,hv];rfl
  have hsb:=kf0 (p:=capP q n 1) (by have:=kf4 h2 hc;omega) i (by omega) hb0
  have e0:=iat hv
  have hil:i<zs.length:=by omega
  have c1:(i:Int)≤(n:Int):=by omega
  have e1:=ww1 (k:=(n:Int)) h2 h64 (by omega) (by omega)
  rw[Int.toNat_natCast]at e1
  have hp:=kf4 h2 hc
  by_cases hbad:v<0∨capP q n 1<v
  ·have hall:dbad (capP q n 1) zs=true:=by
    unfold dbad
    refine List.any_eq_true.2 ⟨v,List.mem_of_getElem? hv, ?_⟩
    rw[Bool.or_eq_true,decide_eq_true_eq,decide_eq_true_eq];exact hbad
   refine⟨sv (vK zs) i,fun h=>(by rw[hall]at h;cases h),fun ks=> ?_⟩
   have stop:vgoL W ⟨hNo,[.tmp 4],0⟩ [0,1,5,6,7,8] c38L0 (.blk 0 [0,1,5,6,7]::ks) [(0, .x (.int .i64 q)),(1, .fz b (.sl nl 0 1 (ivs zs))),(5, .x (.int .i64 n)),(6, .x (.int .i64 2)),(7, .x (.int .i64 (sv (vK zs) i))),(8, .x (.int .i64 ((i:Int)+1)))] []=vgo W ⟨hNo,[.tmp 4],0⟩ ks (VFr.of [(0, .x (.int .i64 q)),(1, .fz b (.sl nl 0 1 (ivs zs))),(5, .x (.int .i64 n)),(6, .x (.int .i64 2)),(7, .x (.int .i64 (sv (vK zs) i)))]) []:=by
    rw[sb5 c38L0.eq_def]
    by_cases h9:(i:Int)+1≤(n:Int)
    ·simp(disch:=first|omega|fail) only[push_cast,seval,vrl,if_pos,if_neg,nl2 h9]
    ·simp(disch:=first|omega|fail) only[push_cast,seval,vrl,if_pos,if_neg,qc6 (Int.not_le.1 h9)]
   rw[hall,if_pos rfl,←stop,sb5 c38L0.eq_def]
   clear stop
   by_cases h1:v<0
   ·simp(disch:=first|omega|fail) only[push_cast,seval,vrl,if_pos,if_neg,nl2 c1,e0,hil,dec_lt h1]
   ·have h3:capP q n 1<v:=by omega
    simp(disch:=first|omega|fail) only[push_cast,seval,vrl,if_pos,if_neg,nl2 c1,e0,hil,cw6 (Int.not_lt.1 h1),e1,dec_lt h3]
  ·have h1: ¬v<0:=fun h=>hbad (.inl h)
   have h3: ¬capP q n 1<v:=fun h=>hbad (.inr h)
   obtain⟨s,a1,a2⟩:=fg6 h2 h64 hn hc hl m (i+1) (by omega) (by
    rw[htk];unfold dbad at hb0⊢
    rw[List.any_append,hb0,Bool.false_or,List.any_cons,List.any_nil,Bool.or_false,cw6 (Int.not_lt.1 h1),cw6 (Int.not_lt.1 h3)];rfl)
   refine⟨s,a1,fun ks=> ?_⟩
   have ih:=a2 ks
   have hsi:sv (vK zs) (i+1)=sv (vK zs) i+v:=by rw[sv,hvk]
   rw[hsi,Int.natCast_add,Int.natCast_one]at ih
   rw[←ih,sb5 c38L0.eq_def]
   generalize sv (vK zs) i=S at*
   simp(disch:=first|omega|fail) only[push_cast,seval,vrl,if_pos,if_neg,nl2 c1,e0,hil,cw6 (Int.not_lt.1 h1),e1,cw6 (Int.not_lt.1 h3)]
end
theorem ta3{e:Int}(h:e≠0)(b b':Bool)(nl nl':Nat):o24 W 27 [.fz b (.sl nl 0 1 []), .x (.int .i64 e), .fz b' (.sl nl' 0 1 []), .x (.int .i64 e)] []=some (.x (.bool true),[],[]):=by
 have:=ea2 (b:=b) (nl:=nl) (b':=b') (nl':=nl') (l:=[]) (k:=[]) (e:=e) (f:=e) (by simp)
 rw[if_neg h,decide_eq_true (rfl:e=e),decide_eq_true (show([]:List Int).length=0 from rfl),Bool.and_true]at this
 simpa only[lz6]using this
theorem ym5{l:List Int}(hl:l.length≤9223372036854775807)(b b':Bool)(nl nl':Nat):o24 W 27 [.fz b (.sl nl 0 1 (ivs l)), .x (.int .i64 0), .fz b' (.sl nl' 0 1 (ivs l)), .x (.int .i64 0)] []=some (.x (.bool true),[],[]):=by
 have:=ea2 (b:=b) (nl:=nl) (b':=b') (nl':=nl') (l:=l) (k:=l) (e:=0) (f:=0) hl
 rw[if_pos rfl,decide_eq_true (rfl:(0:Int)=0),decide_eq_true (rfl:l=l),Bool.and_true]at this
 exact this
theorem d33{q all:Int}{n:Nat}{zs:List Int}: ∀(m k:Nat) (l:List Int),dlst q n zs all m k=some l→l.length=m
 |0,k,l,h=>by rw[dlst]at h;cases h;rfl
 |m+1,k,l,h=>by
  rw[dlst]at h
  split at h
  ·cases hd:dlst q n zs all m (k+1)with
   |none=>rw[hd]at h;cases h
   |some r=>
    rw[hd]at h
    simp only[Option.map_some,Option.some.injEq]at h
    rw[←h,List.length_cons,d33 m (k+1) r hd]
  ·cases h
section
variable {q:Int} {zs:List Int} {b:Bool} {nl:Nat}
theorem hg4(hl:zs.length≤100):o24 W 38 [.x (.int .i64 q), .fz b (.sl nl 0 1 (ivs zs))] []=some (.x (.bool true),[],[]):=by
 have e1:=bj1 (q:=q) (k:=(zs.length:Int)-1) (by omega)
 have hd:=fun b nl=>fo4 (q:=q) (b:=b) (nl:=nl) hl
 by_cases hE:cntE q ((zs.length:Int)-1)=0
 ·obtain⟨h2,h64,n1,n30⟩:=v88 hE
  have hc:=w29 hE
  obtain⟨n,hn⟩: ∃n:Nat,zs.length=n+1:=⟨zs.length-1,by omega⟩
  have hni:(zs.length:Int)-1=(n:Int):=by omega
  rw[hni,Int.toNat_natCast]at hc
  have hw:IntKind.wrap .i64 ((zs.length:Int)-1)=(n:Int):=by rw[wrap64 (by omega) (by omega)];omega
  rw[hni]at e1 hE
  rw[hE]at e1
  obtain⟨s,a1,a2⟩:=fg6 (b:=b) (nl:=nl) h2 h64 (by omega) hc hn (n+1) 0 (Nat.zero_add _) rfl
  rw[show sv (vK zs) 0=0 from rfl]at a2
  simp only[Int.natCast_zero]at a2
  have e2:=ww1 (k:=(n:Int)) h2 h64 (by omega) (by omega)
  rw[Int.toNat_natCast]at e2
  have hp:=kf4 h2 hc
  unfold bo5 at hd
  rw[hni]at hd
  simp only[if_pos hE,hn,Nat.add_sub_cancel]at hd
  by_cases hb:dbad (capP q n 1) zs=true
  ·simp only[if_pos hb]at a2 hd
   have e9:=ta3 (e:=2) (by decide)
   rw[o10 rfl T38 rfl]
   unfold F38 c38
   simp(disch:=first|omega|fail) only[push_cast,seval,vrl,if_pos,if_neg,hw,e1]
   rw[a2]
   simp(disch:=first|omega|fail) only[push_cast,seval,vrl,if_pos,if_neg,hd,lz6,e9]
  ·simp only[if_neg hb]at a2 hd
   rw[Bool.not_eq_true]at hb
   obtain rfl:=a1 hb
   have hsb:=kf0 (p:=capP q n 1) (zs:=zs) (by omega) (n+1) (by omega) (by rw[List.take_of_length_le (by omega)];exact hb)
   have hvn:=fun i=>q52 hb i
   by_cases hb2:capP q n 1<sv (vK zs) (n+1)
   ·simp only[if_pos hb2]at hd
    have e9:=ta3 (e:=2) (by decide)
    rw[o10 rfl T38 rfl]
    unfold F38 c38
    simp(disch:=first|omega|fail) only[push_cast,seval,vrl,if_pos,if_neg,hw,e1]
    rw[a2]
    simp(disch:=first|omega|fail) only[push_cast,seval,vrl,if_pos,if_neg,e2,dec_lt hb2,hd,lz6,e9]
   ·simp only[if_neg hb2]at hd
    by_cases hb3:sv (vK zs) (n+1)=0
    ·simp only[if_pos hb3]at hd
     have e9:=ta3 (e:=5) (by decide)
     rw[hb3]at hb2 a2
     rw[o10 rfl T38 rfl]
     unfold F38 c38
     simp(disch:=first|omega|fail) only[push_cast,seval,vrl,if_pos,if_neg,hw,e1]
     rw[a2]
     simp(disch:=first|omega|fail) only[push_cast,seval,vrl,if_pos,if_neg,e2,cw6 (Int.not_lt.1 hb2),hd,lz6,e9]
    ·simp only[if_neg hb3]at hd
     have hv2: ∀i,0≤vK zs i∧vK zs i≤1073741824:=fun i=>⟨hvn i,by
      unfold vK gi
      rw[Int.toNat_natCast,List.getD_eq_getElem?_getD]
      cases hv:zs[i]? with
      |none=>exact(by decide:(0:Int)≤1073741824)
      |some v=>have:=(ht3 hb (List.mem_of_getElem? hv)).2;show v≤_;omega⟩
     have e3:=fun b nl=>qx1 (b:=b) (nl:=nl) (all:=sv (vK zs) (n+1)) h2 h64 (show n≤30 by omega) hc hn hv2 (by omega) (by omega) (Int.le_refl _)
     cases hx:dlst q n zs (sv (vK zs) (n+1)) (n+1) 0 with
     |some l=>
      have hll:=d33 _ _ _ hx
      simp only[hx]at hd e3
      have e9:=ym5 (l:=l) (by omega)
      rw[o10 rfl T38 rfl]
      unfold F38 c38
      simp(disch:=first|omega|fail) only[push_cast,seval,vrl,if_pos,if_neg,hw,e1]
      rw[a2]
      generalize sv (vK zs) (n+1)=S at*
      simp(disch:=first|omega|fail) only[push_cast,seval,vrl,if_pos,if_neg,e2,cw6 (Int.not_lt.1 hb2),nb8 hb3,e3,Bool.not_true,Bool.not_false,hd,lz6,e9]
     |none=>
      simp only[hx]at hd e3
      have e9:=ta3 (e:=3) (by decide)
      rw[o10 rfl T38 rfl]
      unfold F38 c38
      simp(disch:=first|omega|fail) only[push_cast,seval,vrl,if_pos,if_neg,hw,e1]
      rw[a2]
      generalize sv (vK zs) (n+1)=S at*
      simp(disch:=first|omega|fail) only[push_cast,seval,vrl,if_pos,if_neg,e2,cw6 (Int.not_lt.1 hb2),nb8 hb3,e3,Bool.not_true,Bool.not_false,hd,lz6,e9]
 ·unfold bo5 at hd
  simp only[if_neg hE]at hd
  have e9:=ta3 hE
  have stop: ∀ks,vgoL W ⟨hNo,[.tmp 4],0⟩ [0,1,5,6,7,8] c38L0 (.blk 0 [0,1,5,6,7]::ks) [(0, .x (.int .i64 q)),(1, .fz b (.sl nl 0 1 (ivs zs))),(5, .x (.int .i64 ((zs.length:Int)-1))),(6, .x (.int .i64 (cntE q ((zs.length:Int)-1)))),(7, .x (.int .i64 0)),(8, .x (.int .i64 0))] []=vgo W ⟨hNo,[.tmp 4],0⟩ ks (VFr.of [(0, .x (.int .i64 q)),(1, .fz b (.sl nl 0 1 (ivs zs))),(5, .x (.int .i64 ((zs.length:Int)-1))),(6, .x (.int .i64 (cntE q ((zs.length:Int)-1)))),(7, .x (.int .i64 0))]) []:=fun ks=>by
   rw[sb5 c38L0.eq_def]
   generalize cntE q ((zs.length:Int)-1)=E at*
   by_cases h9:(0:Int)≤(zs.length:Int)-1
   ·simp(disch:=first|omega|fail) only[push_cast,seval,vrl,if_pos,if_neg,nl2 h9,nb8 hE]
   ·simp(disch:=first|omega|fail) only[push_cast,seval,vrl,if_pos,if_neg,qc6 (Int.not_le.1 h9)]
  rw[o10 rfl T38 rfl]
  unfold F38 c38
  generalize cntE q ((zs.length:Int)-1)=E at*
  simp(disch:=first|omega|fail) only[push_cast,seval,vrl,if_pos,if_neg,e1]
  rw[stop]
  simp(disch:=first|omega|fail) only[push_cast,seval,vrl,if_pos,if_neg,nb8 hE,hd,lz6,e9]
end
def griS(q d:Int):Nat→Int×Int
 |0=>(0,d)
 |i+1=>((griS q d i).1+(griS q d i).2,((griS q d i).2+q-1).tdiv q)
theorem bn5{q d:Int}(h2:2≤q)(d1:1≤d)(d64:d≤64): ∀i:Nat,1≤(griS q d i).2∧(griS q d i).2≤64∧0≤(griS q d i).1∧(griS q d i).1≤(i:Int)*64
 |0=>by simp[griS];omega
 |i+1=>by
  obtain⟨a1,a2,a3,a4⟩:=bn5 h2 d1 d64 i
  rw[griS]
  simp only[]
  generalize (griS q d i).2=e at*
  generalize (griS q d i).1=s at*
  rw[Int.tdiv_eq_ediv_of_nonneg (by omega)]
  have b1:1≤(e+q-1)/q:=Int.le_ediv_of_mul_le (by omega) (by omega)
  have b2:(e+q-1)/q<e+1:=by
   refine Int.ediv_lt_of_lt_mul (by omega) ?_
   have:e*1≤e*q:=Int.mul_le_mul_of_nonneg_left (by omega) (by omega)
   rw[Int.add_mul]
   omega
  omega
section
variable {q:Int} {k d:Nat}
theorem gr9(h2:2≤q)(h64:q≤64){d:Int}(d1:1≤d)(d64:d≤64)(hk:k≤64): ∀(c i:Nat),i+c=k→ ∀ks,
 vgoL W ⟨hNo,[.tmp 6, .tmp 7],0⟩ [0,2,10,33,34] c110L0 (.blk 0 [10]::ks) [(0, .x (.int .i64 q)),(2, .x (.int .i64 (griS q d i).2)),(10, .x (.int .i64 (griS q d i).1)),(33, .x (.int .i64 k)),(34, .x (.int .i64 i))] []=
  vgo W ⟨hNo,[.tmp 6, .tmp 7],0⟩ ks (VFr.of [(10, .x (.int .i64 (griS q d k).1))]) []
 |0,i,hi,ks=>by
  obtain rfl:i=k:=by omega
  rw[sb5 c110L0.eq_def]
  simp(disch:=first|omega|fail) only[push_cast,seval,vrl,if_pos,if_neg]
 |c+1,i,hi,ks=>by
  have ih:=gr9 h2 h64 d1 d64 hk c (i+1) (by omega) ks
  obtain⟨a1,a2,a3,a4⟩:=bn5 h2 d1 d64 i
  obtain⟨b1,b2,_,_⟩:=bn5 h2 d1 d64 (i+1)
  rw[griS]at ih b1 b2
  simp only[]at ih b1 b2
  rw[Int.natCast_add,Int.natCast_one]at ih
  have hz: ¬q=0:=by omega
  rw[←ih,sb5 c110L0.eq_def]
  generalize (griS q d i).2=e at*
  generalize (griS q d i).1=s at*
  have w1:IntKind.wrap .i64 ((e+q-1).tdiv q)=(e+q-1).tdiv q:=wrap64 (by omega) (by omega)
  generalize hQ:(e+q-1).tdiv q=Q at*
  simp(disch:=first|omega|fail) only[push_cast,seval,vrl,if_pos,if_neg,hz,hQ,w1]
theorem zu4(h2:2≤q)(h64:q≤64){d a b:Int}(d1:1≤d)(d64:d≤64)(hk:k≤64): ∀(c i:Nat),i+c=k→ ∀ks,
 vgoL W ⟨hNo,[.tmp 6],0⟩ [0,1,2,8,9,10,11,12] c39L0 (.blk 0 [8,9,10,11]::ks) [(0, .x (.int .i64 q)),(1, .x (.int .i64 k)),(2, .x (.int .i64 (griS q d i).2)),(8, .x (.int .i64 0)),(9, .x (.int .i64 a)),(10, .x (.int .i64 b)),(11, .x (.int .i64 (griS q d i).1)),(12, .x (.int .i64 i))] []=
  vgo W ⟨hNo,[.tmp 6],0⟩ ks (VFr.of [(8, .x (.int .i64 0)),(9, .x (.int .i64 a)),(10, .x (.int .i64 b)),(11, .x (.int .i64 (griS q d k).1))]) []
 |0,i,hi,ks=>by
  obtain rfl:i=k:=by omega
  rw[sb5 c39L0.eq_def]
  simp(disch:=first|omega|fail) only[push_cast,seval,vrl,if_pos,if_neg]
 |c+1,i,hi,ks=>by
  have ih:=zu4 h2 h64 (a:=a) (b:=b) d1 d64 hk c (i+1) (by omega) ks
  obtain⟨a1,a2,a3,a4⟩:=bn5 h2 d1 d64 i
  have e1:=xf9 (a:=(griS q d i).2) (b:=q) (by omega) (by omega) (by omega) (by omega)
  rw[griS]at ih
  simp only[]at ih
  rw[Int.natCast_add,Int.natCast_one]at ih
  rw[←ih,sb5 c39L0.eq_def]
  generalize (griS q d i).2=e at*
  generalize (griS q d i).1=s at*
  simp(disch:=first|omega|fail) only[push_cast,seval,vrl,if_pos,if_neg,e1]
end
section
variable {q:Int}
def griE(q k d:Int):Int:=if fldN q.toNat=none then 1 else if k<1∨64<k∨d<1∨64<d then 4 else 0
theorem hl3{k d:Int}:o24 W 110 [.x (.int .i64 q), .x (.int .i64 k), .x (.int .i64 d)] []=some (.tup [.x (.int .i64 (if griE q k d=0 then(griS q d k.toNat).1 else 0)), .x (.int .i64 (griE q k d))],[],[]):=by
 unfold griE
 cases hn:fldN q.toNat with
 |none=>
  have e0:=ug9 hn
  rw[if_pos rfl,o10 rfl T110 rfl]
  unfold F110 c110
  simp(disch:=first|omega|fail) only[push_cast,seval,vrl,if_pos,if_neg,e0]
 |some x=>
  obtain⟨p0,m0,g0,mod⟩:=x
  haveI:IsFld q:=⟨⟨p0,m0,g0,mod,hn⟩⟩
  obtain⟨q2,q64⟩:=ug0 hn
  rw[if_neg (show¬some (p0,m0,g0,mod)=none by simp),o10 rfl T110 rfl]
  unfold F110 c110
  by_cases h:k<1∨64<k∨d<1∨64<d
  ·rw[if_pos h,if_neg (show¬(4:Int)=0 by decide)]
   by_cases c1:k<1
   ·simp(disch:=first|omega|fail) only[push_cast,seval,vrl,if_pos,if_neg,dec_lt c1]
   ·by_cases c2:64<k
    ·simp(disch:=first|omega|fail) only[push_cast,seval,vrl,if_pos,if_neg,cw6 (Int.not_lt.1 c1),dec_lt c2]
    ·by_cases c3:d<1
     ·simp(disch:=first|omega|fail) only[push_cast,seval,vrl,if_pos,if_neg,cw6 (Int.not_lt.1 c1),cw6 (Int.not_lt.1 c2),dec_lt c3]
     ·have c4:64<d:=by omega
      simp(disch:=first|omega|fail) only[push_cast,seval,vrl,if_pos,if_neg,cw6 (Int.not_lt.1 c1),cw6 (Int.not_lt.1 c2),cw6 (Int.not_lt.1 c3),dec_lt c4]
  ·have c1: ¬k<1:=by omega
   have c2: ¬64<k:=by omega
   have c3: ¬d<1:=by omega
   have c4: ¬64<d:=by omega
   obtain⟨K,rfl⟩: ∃K:Nat,k=K:=⟨k.toNat,by omega⟩
   have e:=fun ks=>gr9 (q:=q) (k:=K) (by omega) (by omega) (d:=d) (by omega) (by omega) (by omega) K 0 (Nat.zero_add K) ks
   rw[show(griS q d 0).1=0 from rfl,show(griS q d 0).2=d from rfl]at e
   simp only[Int.natCast_zero]at e
   rw[if_neg h,if_pos rfl,Int.toNat_natCast]
   simp(disch:=first|omega|fail) only[push_cast,seval,vrl,if_pos,if_neg,cw6 (Int.not_lt.1 c1),cw6 (Int.not_lt.1 c2),cw6 (Int.not_lt.1 c3),cw6 (Int.not_lt.1 c4)]
   rw[e]
   simp(disch:=first|omega|fail) only[push_cast,seval,vrl,if_pos,if_neg]
theorem xh3{k d:Int}:o24 W 39 [.x (.int .i64 q), .x (.int .i64 k), .x (.int .i64 d)] []=some (.x (.bool true),[],[]):=by
 have e1:=hl3 (q:=q) (k:=k) (d:=d)
 have stop: ∀(e a b D:Int),e≠0→ ∀ks,vgoL W ⟨hNo,[.tmp 6],0⟩ [0,1,2,8,9,10,11,12] c39L0 (.blk 0 [8,9,10,11]::ks) [(0, .x (.int .i64 q)),(1, .x (.int .i64 k)),(2, .x (.int .i64 D)),(8, .x (.int .i64 e)),(9, .x (.int .i64 a)),(10, .x (.int .i64 b)),(11, .x (.int .i64 0)),(12, .x (.int .i64 0))] []=vgo W ⟨hNo,[.tmp 6],0⟩ ks (VFr.of [(8, .x (.int .i64 e)),(9, .x (.int .i64 a)),(10, .x (.int .i64 b)),(11, .x (.int .i64 0))]) []:=fun e a b D he ks=>by
  rw[sb5 c39L0.eq_def]
  by_cases h9:(0:Int)<k
  ·simp(disch:=first|omega|fail) only[push_cast,seval,vrl,if_pos,if_neg,dec_lt h9,nb8 he]
  ·simp(disch:=first|omega|fail) only[push_cast,seval,vrl,if_pos,if_neg,cw6 (Int.not_lt.1 h9)]
 unfold griE at e1
 cases hn:fldN q.toNat with
 |none=>
  have e0:=fg0 hn
  simp only[if_pos hn]at e1
  have nk:=a03 (e:=1) (k:=0) (by decide)
  have st:=fun a b D ks=>stop 1 a b D (by decide) ks
  rw[o10 rfl T39 rfl]
  unfold F39 c39
  simp(disch:=first|omega|fail) only[push_cast,seval,vrl,if_pos,if_neg,e0,e1]
  rw[st]
  simp(disch:=first|omega|fail) only[push_cast,seval,vrl,if_pos,if_neg,nk]
 |some x=>
  obtain⟨p0,m0,g0,mod⟩:=x
  haveI:IsFld q:=⟨⟨p0,m0,g0,mod,hn⟩⟩
  obtain⟨q2,q64⟩:=ug0 hn
  obtain⟨p,m,g,t,u⟩:=k75 q
  have e0:=uw8 (q:=q)
  rw[u.e]at e0
  have ht:=u.n
  have ho:=u.o
  simp only[if_neg (show¬fldN q.toNat=none by rw[hn];simp)]at e1
  rw[o10 rfl T39 rfl]
  unfold F39 c39
  by_cases h:k<1∨64<k∨d<1∨64<d
  ·simp only[if_pos h,if_neg (show¬(4:Int)=0 by decide)]at e1
   have nk:=a03 (e:=4) (k:=0) (by decide)
   have st:=fun a b D ks=>stop 4 a b D (by decide) ks
   by_cases c1:k<1
   ·simp(disch:=first|omega|fail) only[push_cast,seval,vrl,if_pos,if_neg,e0,ht,ho,dec_lt c1,e1]
    rw[st]
    simp(disch:=first|omega|fail) only[push_cast,seval,vrl,if_pos,if_neg,nk]
   ·by_cases c2:64<k
    ·simp(disch:=first|omega|fail) only[push_cast,seval,vrl,if_pos,if_neg,e0,ht,ho,cw6 (Int.not_lt.1 c1),dec_lt c2,e1]
     rw[st]
     simp(disch:=first|omega|fail) only[push_cast,seval,vrl,if_pos,if_neg,nk]
    ·by_cases c3:d<1
     ·simp(disch:=first|omega|fail) only[push_cast,seval,vrl,if_pos,if_neg,e0,ht,ho,cw6 (Int.not_lt.1 c1),cw6 (Int.not_lt.1 c2),dec_lt c3,e1]
      rw[st]
      simp(disch:=first|omega|fail) only[push_cast,seval,vrl,if_pos,if_neg,nk]
     ·have c4:64<d:=by omega
      simp(disch:=first|omega|fail) only[push_cast,seval,vrl,if_pos,if_neg,e0,ht,ho,cw6 (Int.not_lt.1 c1),cw6 (Int.not_lt.1 c2),cw6 (Int.not_lt.1 c3),dec_lt c4,e1]
      rw[st]
      simp(disch:=first|omega|fail) only[push_cast,seval,vrl,if_pos,if_neg,nk]
  ·have c1: ¬k<1:=by omega
   have c2: ¬64<k:=by omega
   have c3: ¬d<1:=by omega
   have c4: ¬64<d:=by omega
   obtain⟨K,rfl⟩: ∃K:Nat,k=K:=⟨k.toNat,by omega⟩
   simp only[if_neg h,if_pos (show(0:Int)=0 from rfl),Int.toNat_natCast]at e1
   have nk:=fi5 (a:=(griS q d K).1) (e:=0) (fun h=>absurd rfl h)
   have e:=fun a b ks=>zu4 (q:=q) (k:=K) (by omega) (by omega) (d:=d) (a:=a) (b:=b) (by omega) (by omega) (by omega) K 0 (Nat.zero_add K) ks
   rw[show(griS q d 0).1=0 from rfl,show(griS q d 0).2=d from rfl]at e
   simp only[Int.natCast_zero]at e
   clear stop
   simp(disch:=first|omega|fail) only[push_cast,seval,vrl,if_pos,if_neg,e0,ht,ho,cw6 (Int.not_lt.1 c1),cw6 (Int.not_lt.1 c2),cw6 (Int.not_lt.1 c3),cw6 (Int.not_lt.1 c4),e1]
   rw[e]
   simp(disch:=first|omega|fail) only[push_cast,seval,vrl,if_pos,if_neg,nk]
def kraE(q n k x:Int):Int:=if cntE q n=0 then(if k<0∨n<k∨x<0∨n<x then 10 else 0)else cntE q n
theorem ah4{n k x:Int}(hn:n≤9223372036854775807):o24 W 35 [.x (.int .i64 q), .x (.int .i64 n), .x (.int .i64 k), .x (.int .i64 x)] []=some (.tup [.x (.int .i64 (if kraE q n k x=0 then krN q n.toNat k.toNat x.toNat else 0)), .x (.int .i64 (kraE q n k x))],[],[]):=by
 have e1:=xa8 (q:=q) hn
 unfold kraE
 by_cases h0:cntE q n=0
 ·obtain⟨h2,h64,n1,n30⟩:=v88 h0
  rw[h0]at e1
  rw[if_pos h0,o10 rfl T35 rfl]
  unfold F35 c35
  by_cases h:k<0∨n<k∨x<0∨n<x
  ·rw[if_pos h,if_neg (show¬(10:Int)=0 by decide)]
   by_cases c1:k<0
   ·simp(disch:=first|omega|fail) only[push_cast,seval,vrl,if_pos,if_neg,e1,dec_lt c1]
   ·by_cases c2:n<k
    ·simp(disch:=first|omega|fail) only[push_cast,seval,vrl,if_pos,if_neg,e1,cw6 (Int.not_lt.1 c1),dec_lt c2]
    ·by_cases c3:x<0
     ·simp(disch:=first|omega|fail) only[push_cast,seval,vrl,if_pos,if_neg,e1,cw6 (Int.not_lt.1 c1),cw6 (Int.not_lt.1 c2),dec_lt c3]
     ·have c4:n<x:=by omega
      simp(disch:=first|omega|fail) only[push_cast,seval,vrl,if_pos,if_neg,e1,cw6 (Int.not_lt.1 c1),cw6 (Int.not_lt.1 c2),cw6 (Int.not_lt.1 c3),dec_lt c4]
  ·have c1: ¬k<0:=by omega
   have c2: ¬n<k:=by omega
   have c3: ¬x<0:=by omega
   have c4: ¬n<x:=by omega
   obtain⟨N,rfl⟩: ∃N:Nat,n=N:=⟨n.toNat,by omega⟩
   obtain⟨K,rfl⟩: ∃K:Nat,k=K:=⟨k.toNat,by omega⟩
   obtain⟨X,rfl⟩: ∃X:Nat,x=X:=⟨x.toNat,by omega⟩
   have e2:=ft1 (q:=q) (n:=N) (k:=K) (x:=X) h2 h64 (by omega) (by omega) (by omega)
   rw[if_neg h,if_pos rfl]
   simp only[Int.toNat_natCast]
   simp(disch:=first|omega|fail) only[push_cast,seval,vrl,if_pos,if_neg,e1,cw6 (Int.not_lt.1 c1),cw6 (Int.not_lt.1 c2),cw6 (Int.not_lt.1 c3),cw6 (Int.not_lt.1 c4),e2]
 ·rw[if_neg h0,if_neg h0,o10 rfl T35 rfl]
  unfold F35 c35
  simp(disch:=first|omega|fail) only[push_cast,seval,vrl,if_pos,if_neg,e1,nb8 h0]
variable {zs:List Int} {b:Bool} {nl:Nat}
theorem z91{n d x:Int}(hn:n≤9223372036854775807)(hl:zs.length≤9223372036854775807):o24 W 5 [.x (.int .i64 q), .x (.int .i64 n), .x (.int .i64 d), .x (.int .i64 x), .fz b (.sl nl 0 1 (ivs zs))] []=some (.x (.bool true),[],[]):=by
 rw[o10 rfl T5 rfl]
 unfold F5 c5
 by_cases h100:100<zs.length
 ·simp(disch:=first|omega|fail) only[push_cast,seval,vrl,if_pos,if_neg]
 have hl100: ¬(100:Int)<(zs.length:Int):=by omega
 have e1:=bj1 (q:=q) hn
 have e2:=xa8 (q:=q) hn
 have e3:=ah4 (q:=q) (k:=d) (x:=x) hn
 have e4:=mm9 (q:=q) (d:=d) hn
 have e5:=fun b nl=>hg4 (q:=q) (b:=b) (nl:=nl) (zs:=zs) (by omega)
 have e6:=xh3 (q:=q) (k:=n) (d:=d)
 unfold kraE at e3
 by_cases h0:cntE q n=0
 ·obtain⟨h2,h64,n1,n30⟩:=v88 h0
  simp only[if_pos h0]at e3
  rw[h0]at e1 e2 e4
  by_cases h:d<0∨n<d∨x<0∨n<x
  ·simp only[if_pos h,if_neg (show¬(10:Int)=0 by decide)]at e3
   have nk:=a03 (e:=10) (k:=0) (by decide)
   by_cases c1:d<0
   ·simp(disch:=first|omega|fail) only[push_cast,seval,vrl,if_pos,if_neg,cw6 (Int.not_lt.1 hl100),e1,dec_lt c1,e3,e2,nk,e4,e5,e6]
   ·by_cases c2:n<d
    ·simp(disch:=first|omega|fail) only[push_cast,seval,vrl,if_pos,if_neg,cw6 (Int.not_lt.1 hl100),e1,cw6 (Int.not_lt.1 c1),dec_lt c2,e3,e2,nk,e4,e5,e6]
    ·by_cases c3:x<0
     ·simp(disch:=first|omega|fail) only[push_cast,seval,vrl,if_pos,if_neg,cw6 (Int.not_lt.1 hl100),e1,cw6 (Int.not_lt.1 c1),cw6 (Int.not_lt.1 c2),dec_lt c3,e3,e2,nk,e4,e5,e6]
     ·have c4:n<x:=by omega
      simp(disch:=first|omega|fail) only[push_cast,seval,vrl,if_pos,if_neg,cw6 (Int.not_lt.1 hl100),e1,cw6 (Int.not_lt.1 c1),cw6 (Int.not_lt.1 c2),cw6 (Int.not_lt.1 c3),dec_lt c4,e3,e2,nk,e4,e5,e6]
  ·have c1: ¬d<0:=by omega
   have c2: ¬n<d:=by omega
   have c3: ¬x<0:=by omega
   have c4: ¬n<x:=by omega
   simp only[if_neg h,if_pos (show(0:Int)=0 from rfl)]at e3
   obtain⟨N,rfl⟩: ∃N:Nat,n=N:=⟨n.toNat,by omega⟩
   obtain⟨K,rfl⟩: ∃K:Nat,d=K:=⟨d.toNat,by omega⟩
   obtain⟨X,rfl⟩: ∃X:Nat,x=X:=⟨x.toNat,by omega⟩
   simp only[Int.toNat_natCast]at e3
   have e7:=qy3 (q:=q) (n:=N) (k:=K) (x:=X) h2 h64 (by omega) (by omega) (by omega)
   have nk:=fi5 (a:=krN q N K X) (e:=0) (fun h=>absurd rfl h)
   simp(disch:=first|omega|fail) only[push_cast,seval,vrl,if_pos,if_neg,cw6 (Int.not_lt.1 hl100),e1,cw6 (Int.not_lt.1 c1),cw6 (Int.not_lt.1 c2),cw6 (Int.not_lt.1 c3),cw6 (Int.not_lt.1 c4),e7,e3,e2,nk,e4,e5,e6]
 ·simp only[if_neg h0]at e3
  have nk:=a03 (e:=cntE q n) (k:=0) h0
  simp(disch:=first|omega|fail) only[push_cast,seval,vrl,if_pos,if_neg,cw6 (Int.not_lt.1 hl100),e1,nb8 h0,e3,e2,nk,e4,e5,e6]
end
section
variable {h:H} {l:List AV} {ws:List Value}
theorem a23:Vm.VRL h [] (allZ h) (allZ h) [] []:=by rw[Vm.VRL]
theorem dp0(r:Vm.VRL h [] (allZ h) (allZ h) l ws)(v:Value):Vm.VRL h [] (allZ h) (allZ h) (.x v::l) (v::ws):=by
 rw[Vm.VRL];exact⟨v,ws,rfl,by rw[Vm.VR],r⟩
theorem qj4{sa:Option Addr}{c:Nat}{zs:List Int}(hr:RdI h sa c zs): ∀o,sa.map (·.block)=some o→allZ h o:=fun o ho=>by
 rcases hr with⟨rfl,_⟩|⟨_,o2,off,r2,rfl,h1,_⟩
 ·cases ho
 ·cases ho;exact h42 h1
theorem sk6(r:Vm.VRL h [] (allZ h) (allZ h) l ws){sa:Option Addr}{c:Nat}{zs:List Int}(hr:RdI h sa c zs):Vm.VRL h [] (allZ h) (allZ h) (.fz true (.sl 2 0 1 (ivs zs))::l) (.slice sa zs.length c::ws):=by
 rw[Vm.VRL];exact⟨_,ws,rfl,by rw[Vm.VR];exact pd9 hr (qj4 hr),r⟩
end
theorem yg4(h:H)(a0:Int)(_: -9223372036854775808≤a0)(_:a0≤9223372036854775807)(a1:Int)(_: -9223372036854775808≤a1)(_:a1≤9223372036854775807)(a2:Int)(_: -9223372036854775808≤a2)(_:a2≤9223372036854775807)(a3:Int)(_: -9223372036854775808≤a3)(_:a3≤9223372036854775807)(s4:Option Addr)(c4:Nat)(z4:List Int)(r4:RdI h s4 c4 z4)(_:ss4 h 1 s4=true)(_:z4.length≤9223372036854775807):
 ∃h',call T 5 [.int .i64 a0, .int .i64 a1, .int .i64 a2, .int .i64 a3, .slice s4 z4.length c4] h=some (.bool true,h'):=
 vlaw lw2 (dp0 (dp0 (dp0 (dp0 (sk6 a23 r4) _) _) _) _) (by apply z91<;>assumption)
end Go.Proofs.Ytmhbpecdpiapgaa
