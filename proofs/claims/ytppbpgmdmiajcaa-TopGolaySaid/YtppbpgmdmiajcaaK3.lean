/-
  The second machine: calls, what is given and given back, its runs. No condition. The second machine and the first: trees with the names of their objects, and that they lie so in memory. No condition.  ..
-/
import Derived.Test.YtppbpgmdmiajcaaK0
import Derived.Test.YtppbpgmdmiajcaaK2
set_option linter.unusedVariables false
set_option linter.unusedSimpArgs false
set_option linter.unusedSectionVars false
set_option maxRecDepth 100000
namespace Go.Vm
open Go.Am
mutual
def np8(R:Rts)(u:Nat):AV→Option AV
 | .x (.slice none 0 0)=>if u=0 then none else some (.fz true (.sl 1 0 u []))
 | .x v=>some (.x v)
 | .fz b t=>some (.fz b t)
 | .fzc b cs i=>some (.fzc b cs i)
 | .own r p=>match rget R r p with
   |some (.fz t)=>some (.fz true t)
   |some s=>if isNode s then some (.fz false (strip s))else none
   |none=>none
 | .sub r p u0 lo n=>match rget R r p with
   |some (.sl nl e w cs)=>if(lo+n)*w≤cs.length∧w=u0 then some (.fz false (.sl (if nl=0 then 0 else 2) 0 w (jj5 ((cs.drop (lo*w)).take (n*w)))))else none
   |_=>none
 | .cell r p i=>if k12 R (.o r p i)then match rget R r p with
   |some s=>match s.kids with
    |some cs=>some (.fzc false (jj5 cs) i)
    |none=>none
   |none=>none else none
 | .agg l=>match re2 R u l with
   |some l=>some (.agg l)
   |none=>none
 | .tup _=>none
 | .fn f l=>match re2 R u l with
   |some l=>some (.fn f l)
   |none=>none
def re2(R:Rts)(u:Nat):List AV→Option (List AV)
 | []=>some []
 |a::l=>match np8 R u a,re2 R u l with
  |some a,some l=>some (a::l)
  |_,_=>none
end
def vpx(u:Nat):Value→AV
 | .slice none 0 0=>if u=0 then .x (.slice none 0 0)else .fz true (.sl 1 0 u [])
 |v=> .x v
mutual
def h05(u:Nat)(R:Rts):AV→Option (AV×Rts)
 | .x v=>some (vpx u v,R)
 | .fz true t=>some (.fz true t,R)
 | .fzc true cs i=>some (.fzc true cs i,R)
 | .own r p=>match rget R r p with
   |some (.fz t)=>some (.fz true t,R)
   |some s=>if isNode s then some (.fz true (strip s),rset R r p (.fz (strip s)))else none
   |none=>none
 | .agg l=>match og4 u R l with
   |some (l,R1)=>some (.agg l,R1)
   |none=>none
 |_=>none
def og4(u:Nat)(R:Rts):List AV→Option (List AV×Rts)
 | []=>some ([],R)
 |a::l=>match h05 u R a with
  |some (a,R1)=>match og4 u R1 l with
   |some (l,R2)=>some (a::l,R2)
   |none=>none
  |none=>none
end
structure Lent where
 R:Rts
 C:Rts
 B:List (Nat×List Nat)
def cb9(s:Lent)(e u:Nat):AV→Option (AV×Lent)
 | .own r p=>match rget s.R r p with
   |some k=>if isNode k&&s.B.all (fun b=> !(Nat.beq b.1 r&&p.isPrefixOf b.2))then some (.own s.C.length [],⟨rset s.R r p .junk,s.C++[k],s.B++[(r,p)]⟩)else none
   |none=>none
 | .x (.slice none 0 0)=>if u=0 then none else some (.own s.C.length [],⟨s.R++[.junk],s.C++[.sl 1 e u []],s.B++[(s.R.length,[])]⟩)
 |_=>none
def dl9(u:Nat)(s:Lent):AV→Option (AV×Rts)
 | .own r p=>if s.B.all (fun b=> !(Nat.beq b.1 r&&p.isPrefixOf b.2))then h05 u s.R (.own r p)else none
 | .fz true t=>some (.fz true t,s.R)
 |_=>none
def me2:List Mode→Lent→List AV→Option (List (Option AV)×Lent)
 | [],s,l=>some (l.map fun _=>none,s)
 |_,s,[]=>some ([],s)
 |m::ms,s,a::l=>match m with
  | .bor _=>match me2 ms s l with
    |some (l,s)=>some (none::l,s)
    |none=>none
  | .own e u=>match cb9 s e u a with
    |some (a,s1)=>match me2 ms s1 l with
     |some (l,s2)=>some (some a::l,s2)
     |none=>none
    |none=>none
  | .perm u=>match(if s.B.isEmpty then h05 u s.R a else dl9 u s a)with
    |some (a,R1)=>match me2 ms ⟨R1,s.C,s.B⟩ l with
     |some (l,s2)=>some (some a::l,s2)
     |none=>none
    |none=>none
def sr7:List Mode→Nat
 | .bor u::_=>u
 |_=>1
def ub3(R:Rts):List Mode→List AV→List (Option AV)→Option (List AV)
 |_,[],_=>some []
 |ms,a::l,some b::bs=>match ub3 R ms.tail l bs with
  |some r=>some (b::r)
  |none=>none
 |ms,a::l,none::bs=>match np8 R (sr7 ms) a,ub3 R ms.tail l bs with
  |some b,some r=>some (b::r)
  |_,_=>none
 |_,_::_,[]=>none
def kj1(ms:List Mode)(R:Rts)(l:List AV):Option (List AV×Lent):=match ms with
 | []=>match re2 R 1 l with
   |some l=>some (l,⟨R,[],[]⟩)
   |none=>none
 |ms=>match me2 ms ⟨R,[],[]⟩ l with
  |some (bs,s)=>match ub3 s.R ms l bs with
   |some l=>some (l,s)
   |none=>none
  |none=>none
def so3:Rts→List (Nat×List Nat)→Rts→Rts
 |R,(r,p)::B,t::ts=>so3 (rset R r p t) B ts
 |R,_,_=>R
def deep(t:Tree):Bool:=match t.kids with
 |some cs=> !cs.all isV
 |none=>false
def uc8:List (Nat×List Nat)→Rts→List Nat
 |(r,p)::B,t::ts=>if deep t then r::uc8 B ts else uc8 B ts
 |_,_=>[]
mutual
def ei9(n:Nat):AV→AV
 | .x v=> .x v
 | .fz b t=> .fz b t
 | .fzc b cs i=> .fzc b cs i
 | .own r p=> .own (r+n) p
 | .sub r p u lo m=> .sub (r+n) p u lo m
 | .cell r p i=> .cell (r+n) p i
 | .agg l=> .agg (mk1 n l)
 | .tup l=> .tup (mk1 n l)
 | .fn f l=> .fn f (mk1 n l)
def mk1(n:Nat):List AV→List AV
 | []=>[]
 |a::l=>ei9 n a::mk1 n l
end
mutual
def vout(R:Rts)(k:Nat):AV→Option (AV×Rts×Rts)
 | .x v=>some (.x v,R,[])
 | .fz true t=>some (.fz true t,R,[])
 | .fzc true cs i=>some (.fzc true cs i,R,[])
 | .own r p=>match rget R r p with
   |some (.fz t)=>some (.fz true t,R,[])
   |some s=>if isNode s then some (.own k [],rset R r p .junk,[s])else none
   |none=>none
 | .sub r p w lo n=>match rget R r p with
   |some (.sl nl e u cs)=>if(lo+n)*u≤cs.length∧u=w then some (.own k [],rset R r p .junk,[.sl (if nl=0 then 0 else 2) e u ((cs.drop (lo*u)).take (n*u))])else none
   |_=>none
 | .agg l=>match vx6 R k l with
   |some (l,R1,S)=>some (.agg l,R1,S)
   |none=>none
 | .tup l=>match vx6 R k l with
   |some (l,R1,S)=>some (.tup l,R1,S)
   |none=>none
 | .fn f l=>match vx6 R k l with
   |some (l,R1,S)=>some (.fn f l,R1,S)
   |none=>none
 |_=>none
def vx6(R:Rts)(k:Nat):List AV→Option (List AV×Rts×Rts)
 | []=>some ([],R,[])
 |a::l=>match vout R k a with
  |some (a,R1,S1)=>match vx6 R1 (k+S1.length) l with
   |some (l,R2,S2)=>some (a::l,R2,S1++S2)
   |none=>none
  |none=>none
end
def og6(R:Rts)(fr:VFr):ARes→Option AV
 | .tmp t=>fr t
 | .cell t agg n=>match fr t with
   |some a=>match vptr R a with
    |some pa=>match agg with
     |true=>if n=0 then none else match hq6 R pa n with
      |some l=>some (.agg l)
      |none=>none
     |false=>vy4 R pa
    |none=>none
   |none=>none
def zp6(R:Rts)(fr:VFr):List ARes→Option (List AV)
 | []=>some []
 |r::rs=>match og6 R fr r,zp6 R fr rs with
  |some v,some vs=>some (v::vs)
  |_,_=>none
structure Ctx where
 h:Hint
 rs:List ARes
 n:Nat
def vone:List AV→AV
 | [v]=>v
 |vs=> .tup vs
def vret(c:Ctx)(fr:VFr)(R:Rts):Option VRes:=match zp6 R fr c.rs with
 |some l=>match vout R 0 (vone l)with
  |some (v,R1,S)=>some (v,S,R1.take c.n)
  |none=>none
 |none=>none
mutual
def rts(acc:List Nat):AV→List Nat
 | .own r _=>bif memN r acc then acc else acc++[r]
 | .sub r _ _ _ _=>bif memN r acc then acc else acc++[r]
 | .cell r _ _=>bif memN r acc then acc else acc++[r]
 | .agg l=>rtsL acc l
 | .tup l=>rtsL acc l
 | .fn _ l=>rtsL acc l
 |_=>acc
def rtsL(acc:List Nat):List AV→List Nat
 | []=>acc
 |a::l=>rtsL (rts acc a) l
end
def rtsF(acc:List Nat):List (Nat×AV)→List Nat
 | []=>acc
 |a::l=>rtsF (rts acc a.2) l
def place(r:Nat):List Nat→Nat
 | []=>0
 |a::l=>bif Nat.beq r a then 0 else place r l+1
mutual
def vren(ids:List Nat):AV→AV
 | .x v=> .x v
 | .fz b t=> .fz b t
 | .fzc b cs i=> .fzc b cs i
 | .own r p=> .own (place r ids) p
 | .sub r p u lo m=> .sub (place r ids) p u lo m
 | .cell r p i=> .cell (place r ids) p i
 | .agg l=> .agg (px1 ids l)
 | .tup l=> .tup (px1 ids l)
 | .fn f l=> .fn f (px1 ids l)
def px1(ids:List Nat):List AV→List AV
 | []=>[]
 |a::l=>vren ids a::px1 ids l
end
def h09(ids:List Nat):List (Nat×AV)→List (Nat×AV)
 | []=>[]
 |(s,a)::l=>(s,vren ids a)::h09 ids l
def x53(R:Rts):List Nat→Rts
 | []=>[]
 |r::l=>(R[r]?.getD .junk)::x53 R l
def hh3:Nat→List Nat
 |0=>[]
 |n+1=>hh3 n++[n]
mutual
def by8(r:Nat):AV→Bool
 | .own s p=>(Nat.beq s r)&& !p.isEmpty
 | .sub s p _ _ _=>(Nat.beq s r)&& !p.isEmpty
 | .cell s p _=>(Nat.beq s r)&& !p.isEmpty
 | .agg l=>dr4 r l
 | .tup l=>dr4 r l
 | .fn _ l=>dr4 r l
 |_=>false
def dr4(r:Nat):List AV→Bool
 | []=>false
 |a::l=>by8 r a||dr4 r l
end
def VFr.inv1(fr:VFr)(r:Nat):VFr:=fun t=>match fr t with
 |some a=>bif by8 r a then none else some a
 |none=>none
def VFr.inv(fr:VFr):List Nat→VFr
 | []=>fr
 |r::l=>(fr.inv1 r).inv l
def vgd(fr:VFr):Option (Nat×Bool)→Option Bool
 |none=>some true
 |some (s,want)=>match fr s with
  |some (.x (.bool b))=>some (b==want)
  |some (.tup _)=>some false
  |_=>none
abbrev VGo:=Ctx→List It→VFr→Rts→Option VRes
def s21(W:VW)(g:VGo)(f:FuncId)(vs:List AV)(C:Rts):Option VRes:=
 match W.P f with
 |some p=>p vs C
 |none=>match W.T f with
  |some F=>if vs.length=F.nargs then g ⟨W.H f,F.results,C.length⟩ [.code F.code] (VFr.args 0 vs) C else none
  |none=>none
def j61(ms:List Mode)(s:Lent):VRes→Option AV×Rts×Option (List Nat)
 |(v,S,K)=>(some (ei9 (so3 s.R s.B K).length v),so3 s.R s.B K++S,match ms with
    | []=>none
    |_=>some (uc8 s.B K))
def vdo(W:VW)(g:VGo)(R:Rts)(chk:Bool)(f:FuncId)(vs:List AV):Option (Option AV×Rts×Option (List Nat)):=
 match kj1 (W.M f) R vs with
 |some (vs,s)=>if chk&& !s.B.isEmpty then none else match s21 W g f vs s.C with
  |some r=>some (j61 (W.M f) s r)
  |none=>none
 |none=>none
def e26(y:List Nat):Operand→Bool
 | .tmp t=>memN t y
 |_=>false
def bt7:Option AV→Bool
 |some (.fz _ t)=>isNode t
 |some (.fzc _ _ _)=>true
 |_=>false
def gd0(fr:VFr)(y:List Nat)(dt:Bool)(o:AOper):Bool:=match o.chk,o.op with
 |true, .ld _ _ a=> !e26 y a&&(match dt with
  |false=>true
  |true=>bt7 (vev fr a))
 |_,_=>true
def ej2(W:VW)(g:VGo)(h:Hint)(o:AOper)(fr:VFr)(R:Rts)(y:List Nat)(dt:Bool):Option (Option AV×Rts×Option (List Nat)):=
 match o.op with
 | .call f args=>match vevs fr args with
   |some vs=>vdo W g R o.chk f vs
   |none=>none
 | .calld x args=>match vev fr x,vevs fr args with
   |some (.fn f cap),some vs=>vdo W g R o.chk f (vs++cap)
   |_,_=>none
 |op=>if gd0 fr y dt o then vop W h o.dst fr R op else none
def vw0(y:List Nat):AOp→Bool
 | .mv x=> !e26 y x
 | .ld _ _ a=> !e26 y a
 | .nilck x=> !e26 y x
 | .faddr _ x=> !e26 y x
 | .fld _ _ _ x=> !e26 y x
 | .iaddr _ x _=> !e26 y x
 | .iaddrA _ _ x _=> !e26 y x
 | .idxA _ _ _ x _=> !e26 y x
 | .ext _ x=> !e26 y x
 |_=>false
def iv1(d:Nat):List Nat→List Nat
 | []=>[]
 |a::l=>bif Nat.beq a d then iv1 d l else a::iv1 d l
def vadr(fr:VFr)(y:List Nat):AOp→Bool
 | .mv x=> !e26 y x
 | .nilck x=> !e26 y x&&bt7 (vev fr x)
 | .faddr _ x=> !e26 y x&&bt7 (vev fr x)
 | .iaddr _ x _=> !e26 y x&&bt7 (vev fr x)
 | .iaddrA _ _ x _=> !e26 y x&&bt7 (vev fr x)
 |_=>false
def qq0(fr:VFr)(y:List Nat)(dt:Bool)(o:AOper):List Nat:=match o.dst with
 |none=>y
 |some d=>match dt with
  |false=>if vw0 y o.op then iv1 d y else d::y
  |true=>if vadr fr y o.op then iv1 d y else d::y
structure VReg where
 fr:VFr
 R:Rts
 y:List Nat
 dt:Bool
def m63(o:AOper)(s:VReg):Option AV×Rts×Option (List Nat)→VReg
 |(v,R,none)=>⟨s.fr.put o.dst v,R,qq0 s.fr s.y s.dt o,s.dt⟩
 |(v,R,some ks)=>⟨(s.fr.inv ks).put o.dst v,R,(match o.dst with
  |none=>s.y
  |some d=>d::s.y),true⟩
def pp0(o:AOper)(s:VReg):VReg:=⟨s.fr.put o.dst (some (.tup [])),s.R,match o.dst with
 |none=>s.y
 |some d=>d::s.y,s.dt⟩
def yi8(W:VW)(g:VGo)(h:Hint)(o:AOper)(s:VReg):Option VReg:=match vgd s.fr o.guard with
 |some false=>some (pp0 o s)
 |some true=>match ej2 W g h o s.fr s.R s.y s.dt with
  |some r=>some (m63 o s r)
  |none=>none
 |none=>none
def x27(W:VW)(g:VGo)(h:Hint):List AOper→VReg→Option VReg
 | [],s=>some s
 |o::l,s=>match yi8 W g h o s with
  |some s=>x27 W g h l s
  |none=>none
def ja9(c:Ctx)(l:List (Nat×AV))(R:Rts):List (Nat×AV)×Rts:=
 (h09 (rtsF (hh3 c.n) l) l,x53 R (rtsF (hh3 c.n) l))
def vF(W:VW)(g:VGo)(c:Ctx):List It→VFr→Rts→Option VRes
 | [],fr,R=>vret c fr R
 | .code .ret::_,fr,R=>vret c fr R
 | .code .skip::ks,fr,R=>g c ks fr R
 | .code .stuck::_,_,_=>none
 | .code (.seq a b)::ks,fr,R=>g c (.code a:: .code b::ks) fr R
 | .code (.cond x a b)::ks,fr,R=>match vev fr x with
   |some (.x (.bool t))=>g c (.code (if t then a else b)::ks) fr R
   |_=>none
 | .code (.block id ko a)::ks,fr,R=>g c (.code a:: .blk id ko::ks) fr R
 | .code (.loop kh a)::ks,fr,R=>g c (.code a:: .lp kh a::ks) (VFr.of (ja9 c (fr.keep kh) R).1) (ja9 c (fr.keep kh) R).2
 | .code (.exit id)::ks,fr,R=>match gc2 id ks with
   |some (ko,k)=>g c k (VFr.of (fr.keep ko)) R
   |none=>none
 | .code (.region l)::ks,fr,R=>match x27 W g c.h l ⟨fr,R,[],false⟩with
   |some s=>g c ks s.fr s.R
   |none=>none
 | .blk _ ko::ks,fr,R=>g c ks (VFr.of (fr.keep ko)) R
 | .lp kh a::ks,fr,R=>g c (.code a:: .lp kh a::ks) (VFr.of (ja9 c (fr.keep kh) R).1) (ja9 c (fr.keep kh) R).2
def vN(W:VW):Nat→VGo
 |0,_,_,_,_=>none
 |n+1,c,ks,fr,R=>vF W (vN W n) c ks fr R
def VLe(g g':VGo):Prop:= ∀c ks fr R r,g c ks fr R=some r→g' c ks fr R=some r
section
variable {W:VW} {g g':VGo}
theorem gb2(hg:VLe g g'){f vs C r}(he:s21 W g f vs C=some r):s21 W g' f vs C=some r:=by
 unfold s21 at*
 split at he
 ·exact he
 ·split at he
  ·split at he
   ·rw[if_pos ‹_›];exact hg _ _ _ _ _ he
   ·cases he
  ·cases he
theorem pi2(hg:VLe g g'){R chk f vs r}(he:vdo W g R chk f vs=some r):vdo W g' R chk f vs=some r:=by
 unfold vdo at*
 split at he
 ·split at he
  ·cases he
  ·rw[if_neg ‹_›]
   split at he
   ·rename_i h1
    rw[gb2 hg h1];exact he
   ·cases he
 ·cases he
theorem o82(hg:VLe g g'){h o fr R y dt r}(he:ej2 W g h o fr R y dt=some r):ej2 W g' h o fr R y dt=some r:=by
 unfold ej2 at*
 split at he
 ·split at he
  ·exact pi2 hg he
  ·cases he
 ·split at he
  ·exact pi2 hg he
  ·cases he
 ·exact he
theorem sh2(hg:VLe g g'){h o s r}(he:yi8 W g h o s=some r):yi8 W g' h o s=some r:=by
 unfold yi8 at*
 split at he
 ·exact he
 ·split at he
  ·rename_i h1;rw[o82 hg h1];exact he
  ·cases he
 ·cases he
theorem ss6(hg:VLe g g'){h:Hint}: ∀{l s r},x27 W g h l s=some r→x27 W g' h l s=some r
 | [],s,r,hr=>hr
 |o::l,s,r,hr=>by
  simp only[x27]at hr⊢
  split at hr
  ·rename_i hs
   rw[sh2 hg hs]
   exact ss6 hg hr
  ·cases hr
theorem le4(hg:VLe g g'):VLe (vF W g) (vF W g'):=by
 intro c ks fr R r hr
 unfold vF at hr⊢
 split at hr<;>first|exact hg _ _ _ _ _ hr|(cases hr;done)|skip
 ·exact hr
 ·exact hr
 ·split at hr
  ·exact hg _ _ _ _ _ hr
  ·cases hr
 ·split at hr
  ·exact hg _ _ _ _ _ hr
  ·cases hr
 ·split at hr
  ·rename_i hs
   rw[ss6 hg hs]
   exact hg _ _ _ _ _ hr
  ·cases hr
end
theorem vu1{W:VW}(n:Nat):VLe (vN W n) (vN W (n+1)):=by
 induction n with
 |zero=>intro c ks fr R r hr;cases hr
 |succ n ih=>exact le4 ih
theorem cq0{W:VW}{n m:Nat}(h:n≤m):VLe (vN W n) (vN W m):=by
 induction h with
 |refl=>intro _ _ _ _ _ h;exact h
 |step _ ih=>intro c ks fr R r hr;exact vu1 _ _ _ _ _ _ (ih _ _ _ _ _ hr)
open Classical in
noncomputable def vgo (W:VW):VGo:=fun c ks fr R=>
 if hx: ∃r,∃n,vN W n c ks fr R=some r then some (Classical.choose hx)else none
theorem yi2{W:VW}{c ks fr R r}:vgo W c ks fr R=some r↔ ∃n,vN W n c ks fr R=some r:=by
 unfold vgo
 constructor
 ·intro he
  split at he
  ·rename_i hx
   have:=jl7 hx
   simp only[hx3]at he
   rw[he]at this
   exact this
  ·cases he
 ·rintro⟨n,hn⟩
  have hx: ∃r,∃n,vN W n c ks fr R=some r:=⟨r,n,hn⟩
  rw[dif_pos hx]
  obtain⟨m,hm⟩:=jl7 hx
  have h1:=cq0 (uy4 n m) _ _ _ _ _ hn
  have h2:=cq0 (x26 n m) _ _ _ _ _ hm
  rw[h1]at h2
  exact h2.symm
section
variable {W:VW}
theorem gb1{f vs C r}(he:s21 W (vgo W) f vs C=some r): ∃n,s21 W (vN W n) f vs C=some r:=by
 unfold s21 at he⊢
 split at he
 ·exact⟨0,he⟩
 ·split at he
  ·split at he
   ·rename_i hl
    obtain⟨n,hn⟩:=yi2.1 he
    exact⟨n,by rw[if_pos hl];exact hn⟩
   ·cases he
  ·cases he
theorem z32{R chk f vs r}(he:vdo W (vgo W) R chk f vs=some r): ∃n,vdo W (vN W n) R chk f vs=some r:=by
 unfold vdo at he⊢
 split at he
 ·split at he
  ·cases he
  ·split at he
   ·rename_i h2
    obtain⟨n,hn⟩:=gb1 h2
    exact⟨n,by rw[if_neg ‹_›,hn];exact he⟩
   ·cases he
 ·cases he
theorem y58{h o fr R y dt r}(he:ej2 W (vgo W) h o fr R y dt=some r): ∃n,ej2 W (vN W n) h o fr R y dt=some r:=by
 unfold ej2 at he⊢
 split at he
 ·split at he
  ·exact z32 he
  ·cases he
 ·split at he
  ·exact z32 he
  ·cases he
 ·exact⟨0,he⟩
theorem oj9{h o s r}(he:yi8 W (vgo W) h o s=some r): ∃n,yi8 W (vN W n) h o s=some r:=by
 unfold yi8 at he⊢
 split at he
 ·exact⟨0,he⟩
 ·split at he
  ·rename_i h1
   obtain⟨n,hn⟩:=y58 h1
   exact⟨n,by rw[hn];exact he⟩
  ·cases he
 ·cases he
theorem bd5{h:Hint}: ∀{l s r},x27 W (vgo W) h l s=some r→ ∃n,x27 W (vN W n) h l s=some r
 | [],s,r,he=>⟨0,he⟩
 |o::l,s,r,he=>by
  simp only[x27]at he⊢
  split at he
  ·rename_i h1
   obtain⟨n,hn⟩:=oj9 h1
   obtain⟨m,hm⟩:=bd5 he
   refine⟨max n m, ?_⟩
   rw[sh2 (cq0 (uy4 n m)) hn]
   exact ss6 (cq0 (x26 n m)) hm
  ·cases he
theorem hh8{c ks fr R r}(he:vF W (vgo W) c ks fr R=some r): ∃n,vF W (vN W n) c ks fr R=some r:=by
 have one: ∀{c ks fr R r},vgo W c ks fr R=some r→ ∃n,vN W n c ks fr R=some r:=fun h=>yi2.1 h
 unfold vF at he⊢
 split at he<;>first|exact one he|(cases he;done)|skip
 ·exact⟨0,he⟩
 ·exact⟨0,he⟩
 ·split at he
  ·exact one he
  ·cases he
 ·split at he
  ·exact one he
  ·cases he
 ·split at he
  ·rename_i h1
   obtain⟨n,hn⟩:=bd5 h1
   obtain⟨m,hm⟩:=one he
   refine⟨max n m, ?_⟩
   simp only[ss6 (cq0 (uy4 n m)) hn]
   exact cq0 (x26 n m) _ _ _ _ _ hm
  ·cases he
theorem y68(c:Ctx)(ks:List It)(fr:VFr)(R:Rts):vgo W c ks fr R=vF W (vgo W) c ks fr R:=by
 have hle: ∀n,VLe (vN W n) (vgo W):=fun n c ks fr R r hr=>yi2.2 ⟨n,hr⟩
 cases hg:vF W (vgo W) c ks fr R with
 |some r=>
  obtain⟨n,hn⟩:=hh8 hg
  exact yi2.2 ⟨n+1,hn⟩
 |none=>
  cases hx:vgo W c ks fr R with
  |none=>rfl
  |some r=>
   obtain⟨n,hn⟩:=yi2.1 hx
   cases n with
   |zero=>cases hn
   |succ n=>
    have:=le4 (hle n) c ks fr R r hn
    rw[hg]at this
    cases this
end
noncomputable def o24 (W:VW) (f:FuncId) (vs:List AV) (C:Rts):Option VRes:=s21 W (vgo W) f vs C
end Go.Vm
namespace Go.Vm
open Go.Am
inductive AT where
 |v (x:Value)
 |sl (o off n c nl e u:Nat) (cs:List AT)
 |nil (nl e u:Nat)
 |pt (o e:Nat) (cs:List AT)
 |mp (o e:Nat) (cs:List AT)
 |fn (f:FuncId)
 |fz (w:Value) (t:Tree)
 |junk (w:Value)
def AT.val:AT→Value
 | .v x=>x
 | .sl o off n c _ _ _ _=> .slice (some ⟨o,off,none⟩) n c
 | .nil _ _ _=> .slice none 0 0
 | .pt o _ _=> .pointer (some ⟨o,0,none⟩)
 | .mp o _ _=> .map (some o)
 | .fn f=> .func (.func f) #[] #[]
 | .fz w _=>w
 | .junk w=>w
mutual
def AT.era:AT→Tree
 | .v x=> .v x
 | .sl _ _ _ _ nl e u cs=> .sl nl e u (eraL cs)
 | .nil nl e u=> .sl nl e u []
 | .pt _ e cs=> .pt e (eraL cs)
 | .mp _ e cs=> .mp e (eraL cs)
 | .fn f=> .fn f []
 | .fz _ t=> .fz t
 | .junk _=> .junk
def eraL:List AT→List Tree
 | []=>[]
 |a::l=>a.era::eraL l
end
mutual
def AT.fp:AT→List Nat
 | .sl o _ _ _ _ _ _ cs=>o::fpL cs
 | .pt o _ cs=>o::fpL cs
 | .mp o _ cs=>o::fpL cs
 |_=>[]
def fpL:List AT→List Nat
 | []=>[]
 |a::l=>a.fp++fpL l
end
mutual
def Rd(h:H)(Z:Nat→Prop):Tree→Value→Prop
 | .v x,w=>w=x
 | .sl nl e u cs,w=>(cs=[]∧nl≠0∧0<u∧w= .slice none 0 0)∨ ∃o off n c r,w= .slice (some ⟨o,off,none⟩) n c∧Z o∧h.row o=some r∧(r.own=true→r.unit=u)∧0<u∧n*u=cs.length∧n≤c∧(nl=1→cs≠[])∧RdL h Z cs ((r.cells.drop off).take cs.length)
 | .pt e cs,w=> ∃o r,w= .pointer (some ⟨o,0,none⟩)∧Z o∧h.row o=some r∧RdL h Z cs r.cells
 | .mp e cs,w=> ∃o r,w= .map (some o)∧Z o∧(h.row o=some r∧r.own=true)∧RdL h Z cs r.cells
 | .fn f cs,w=> ∃caps,w= .func (.func f) #[] (List.toArray caps)∧RdL h Z cs caps
 | .fz t,w=>Rd h Z t w
 | .junk,_=>True
 | .ex t,w=>Ex h Z t w
def RdL(h:H)(Z:Nat→Prop):List Tree→List Value→Prop
 | [],l=>l=[]
 |t::ts,l=> ∃w l',l=w::l'∧Rd h Z t w∧RdL h Z ts l'
def Ex(h:H)(Z:Nat→Prop):Tree→Value→Prop
 | .v x,w=>w=x
 | .sl nl e u cs,w=> ∃o n r,w= .slice (some ⟨o,0,none⟩) n n∧Z o∧h.row o=some r∧r.own=true∧r.elem=e∧r.unit=u∧0<u∧n*u=cs.length∧(nl=1→cs≠[])∧ExL h Z cs r.cells
 | .pt e cs,w=> ∃o r,w= .pointer (some ⟨o,0,none⟩)∧Z o∧h.row o=some r∧r.own=true∧r.elem=e∧r.unit=0∧ExL h Z cs r.cells
 | .fz t,w=>Rd h Z t w
 |_,_=>False
def ExL(h:H)(Z:Nat→Prop):List Tree→List Value→Prop
 | [],l=>l=[]
 |t::ts,l=> ∃w l',l=w::l'∧Ex h Z t w∧ExL h Z ts l'
end
mutual
def ok(h:H)(Z:Nat→Prop):AT→Prop
 | .v _=>True
 | .sl o off n c nl e u cs=> ∃r,h.row o=some r∧r.own=true∧r.elem=e∧r.unit=u∧0<u∧n*u=cs.length∧n≤c∧((nl=1→cs≠[])∧off+cs.length≤r.cells.length)∧(r.cells.drop off).take cs.length=cs.map AT.val∧okL h Z cs
 | .nil nl e u=>nl≠0∧0<u
 | .pt o e cs=> ∃r,h.row o=some r∧(r.own=true∧r.unit=0)∧r.cells=cs.map AT.val∧okL h Z cs
 | .mp o e cs=> ∃r,h.row o=some r∧(r.own=true∧r.unit=0)∧r.cells=cs.map AT.val∧okL h Z cs
 | .fn _=>True
 | .fz w t=>Rd h Z t w
 | .junk w=>one w=true
def okL(h:H)(Z:Nat→Prop):List AT→Prop
 | []=>True
 |a::l=>ok h Z a∧okL h Z l
end
theorem dk4: ∀l:List AT,eraL l=l.map AT.era
 | []=>rfl
 |a::l=>by rw[eraL,nf9,dk4 l]
theorem gz0: ∀l:List Tree,jj5 l=l.map strip
 | []=>rfl
 |a::l=>by rw[jj5,nf9,gz0 l]
theorem zq7: ∀l:List AT,fpL l=l.flatMap AT.fp
 | []=>rfl
 |a::l=>by rw[fpL,List.flatMap_cons,zq7 l]
theorem ga5{h:H}{Z:Nat→Prop}: ∀{l:List AT},okL h Z l↔ ∀a∈l,ok h Z a
 | []=>by simp[okL]
 |a::l=>by rw[okL,ga5 (l:=l)];simp
theorem RdL.len{h:H}{Z:Nat→Prop}: ∀{ts:List Tree} {l:List Value},RdL h Z ts l→l.length=ts.length
 | [],l,hr=>by rw[RdL]at hr;rw[hr];rfl
 |t::ts,l,hr=>by
  rw[RdL]at hr
  obtain⟨w,l',rfl,_,hr⟩:=hr
  rw[q90,q90,hr.len]
theorem RdL.at{h:H}{Z:Nat→Prop}: ∀{ts:List Tree} {l:List Value} {i:Nat} {t:Tree},RdL h Z ts l→ts[i]? =some t→ ∃w,l[i]? =some w∧Rd h Z t w
 | [],l,i,t,hr,ht=>by simp at ht
 |t'::ts,l,i,t,hr,ht=>by
  rw[RdL]at hr
  obtain⟨w,l',rfl,h1,h2⟩:=hr
  cases i with
  |zero=>simp at ht;subst ht;exact⟨w,rfl,h1⟩
  |succ i=>exact h2.at (i:=i) (by simpa using ht)
theorem xo1{h:H}{Z:Nat→Prop}: ∀{ts:List Tree} {l:List Value},RdL h Z ts l↔l.length=ts.length∧ ∀(i:Nat) (t:Tree) (w:Value),ts[i]? =some t→l[i]? =some w→Rd h Z t w
 | [],l=>by
   rw[RdL]
   exact⟨fun e=>by subst e;simp,fun⟨e,_⟩=>js1 e⟩
 |t::ts,l=>by
  rw[RdL]
  constructor
  ·rintro⟨w,l',rfl,h1,h2⟩
   obtain⟨e,k⟩:=xo1.1 h2
   refine⟨by rw[q90,q90,e],fun i t' w' h3 h4=> ?_⟩
   cases i with
   |zero=>simp at h3 h4;subst h3;subst h4;exact h1
   |succ i=>exact k i t' w' (by simpa using h3) (by simpa using h4)
  ·rintro⟨e,k⟩
   cases l with
   |nil=>simp at e
   |cons w l'=>exact⟨w,l',rfl,k 0 t w rfl rfl,xo1.2 ⟨by simpa using e,fun i t' w' h3 h4=>k (i+1) t' w' (by simpa using h3) (by simpa using h4)⟩⟩
theorem RdL.sub{h:H}{Z:Nat→Prop}{ts:List Tree}{l:List Value}(hr:RdL h Z ts l)(a b:Nat):RdL h Z ((ts.drop a).take b) ((l.drop a).take b):=by
 obtain⟨e,k⟩:=xo1.1 hr
 refine xo1.2 ⟨by simp only[vb8,h50,e],fun i t w h1 h2=> ?_⟩
 rw[td4]at h1 h2
 split at h1
 ·rw[if_pos ‹_›]at h2
  rw[s96]at h1 h2
  exact k _ t w h1 h2
 ·cases h1
def Same(h h':H)(Z:Nat→Prop):Prop:= ∀o,Z o→h'.row o=h.row o
mutual
theorem Rd.mono{h h':H}{Z Z':Nat→Prop}(hz: ∀o,Z o→Z' o)(hs:Same h h' Z): ∀{t:Tree} {w:Value},Rd h Z t w→Rd h' Z' t w
 | .v x,w,hr=>by rw[Rd]at hr⊢;exact hr
 | .sl nl e u cs,w,hr=>by
   rw[Rd]at hr⊢
   rcases hr with hr|⟨o,off,n,c,r,h1,h2,h3,h4,h5,h6,h7,h8,h9⟩
   ·exact .inl hr
   ·exact .inr ⟨o,off,n,c,r,h1,hz o h2,by rw[hs o h2];exact h3,h4,h5,h6,h7,h8,RdL.mono hz hs h9⟩
 | .pt e cs,w,hr=>by
   rw[Rd]at hr⊢
   obtain⟨o,r,h1,h2,h3,h4⟩:=hr
   exact⟨o,r,h1,hz o h2,by rw[hs o h2];exact h3,RdL.mono hz hs h4⟩
 | .mp e cs,w,hr=>by
   rw[Rd]at hr⊢
   obtain⟨o,r,h1,h2,h3,h4⟩:=hr
   exact⟨o,r,h1,hz o h2,by rw[hs o h2];exact h3,RdL.mono hz hs h4⟩
 | .fn f cs,w,hr=>by
   rw[Rd]at hr⊢
   obtain⟨caps,h1,h2⟩:=hr
   exact⟨caps,h1,RdL.mono hz hs h2⟩
 | .fz t,w,hr=>by rw[Rd]at hr⊢;exact Rd.mono hz hs hr
 | .junk,w,hr=>by rw[Rd];trivial
 | .ex t,w,hr=>by rw[Rd]at hr⊢;exact Ex.mono hz hs hr
theorem RdL.mono{h h':H}{Z Z':Nat→Prop}(hz: ∀o,Z o→Z' o)(hs:Same h h' Z): ∀{ts:List Tree} {l:List Value},RdL h Z ts l→RdL h' Z' ts l
 | [],l,hr=>by rw[RdL]at hr⊢;exact hr
 |t::ts,l,hr=>by
  rw[RdL]at hr⊢
  obtain⟨w,l',h1,h2,h3⟩:=hr
  exact⟨w,l',h1,Rd.mono hz hs h2,RdL.mono hz hs h3⟩
theorem Ex.mono{h h':H}{Z Z':Nat→Prop}(hz: ∀o,Z o→Z' o)(hs:Same h h' Z): ∀{t:Tree} {w:Value},Ex h Z t w→Ex h' Z' t w
 | .v x,w,hr=>by rw[Ex]at hr⊢;exact hr
 | .sl nl e u cs,w,hr=>by
   rw[Ex]at hr⊢
   obtain⟨o,n,r,h1,h2,h3,h4⟩:=hr
   obtain⟨h5,h6,h7,h8,h9,h10,h11⟩:=h4
   exact⟨o,n,r,h1,hz o h2,by rw[hs o h2];exact h3,h5,h6,h7,h8,h9,h10,ExL.mono hz hs h11⟩
 | .pt e cs,w,hr=>by
   rw[Ex]at hr⊢
   obtain⟨o,r,h1,h2,h3,h4,h5,h6,h7⟩:=hr
   exact⟨o,r,h1,hz o h2,by rw[hs o h2];exact h3,h4,h5,h6,ExL.mono hz hs h7⟩
 | .mp e cs,w,hr=>by rw[Ex]at hr;exact hr.elim;all_goals simp
 | .fn f cs,w,hr=>by rw[Ex]at hr;exact hr.elim;all_goals simp
 | .fz t,w,hr=>by rw[Ex]at hr⊢;exact Rd.mono hz hs hr
 | .junk,w,hr=>by rw[Ex]at hr;exact hr.elim;all_goals simp
 | .ex t,w,hr=>by rw[Ex]at hr;exact hr.elim;all_goals simp
theorem ExL.mono{h h':H}{Z Z':Nat→Prop}(hz: ∀o,Z o→Z' o)(hs:Same h h' Z): ∀{ts:List Tree} {l:List Value},ExL h Z ts l→ExL h' Z' ts l
 | [],l,hr=>by rw[ExL]at hr⊢;exact hr
 |t::ts,l,hr=>by
  rw[ExL]at hr⊢
  obtain⟨w,l',h1,h2,h3⟩:=hr
  exact⟨w,l',h1,Ex.mono hz hs h2,ExL.mono hz hs h3⟩
end
theorem ExL.len{h:H}{Z:Nat→Prop}: ∀{ts:List Tree} {l:List Value},ExL h Z ts l→l.length=ts.length
 | [],l,hr=>by rw[ExL]at hr;rw[hr];rfl
 |t::ts,l,hr=>by
  rw[ExL]at hr
  obtain⟨w,l',rfl,_,hr⟩:=hr
  rw[q90,q90,hr.len]
mutual
theorem Ex.rd{h:H}{Z:Nat→Prop}: ∀{t:Tree} {w:Value},Ex h Z t w→Rd h Z t w
 | .v x,w,hr=>by rw[Ex]at hr;rw[Rd];exact hr
 | .sl nl e u cs,w,hr=>by
   rw[Ex]at hr
   obtain⟨o,n,r,h1,h2,h3,h4,h5,h6,h7,h8,h9,h10⟩:=hr
   rw[Rd]
   refine .inr ⟨o,0,n,n,r,h1,h2,h3,fun _=>h6,h7,h8,jj6 _,h9, ?_⟩
   rw[sv4,sp3 (by rw[h10.len];exact jj6 _)]
   exact ExL.rd h10
 | .pt e cs,w,hr=>by
   rw[Ex]at hr
   obtain⟨o,r,h1,h2,h3,h4,h5,h6,h7⟩:=hr
   rw[Rd];exact⟨o,r,h1,h2,h3,ExL.rd h7⟩
 | .mp e cs,w,hr=>by rw[Ex]at hr;exact hr.elim;all_goals simp
 | .fn f cs,w,hr=>by rw[Ex]at hr;exact hr.elim;all_goals simp
 | .fz t,w,hr=>by rw[Ex]at hr;rw[Rd];exact hr
 | .junk,w,hr=>by rw[Rd];trivial
 | .ex t,w,hr=>by rw[Ex]at hr;exact hr.elim;all_goals simp
theorem ExL.rd{h:H}{Z:Nat→Prop}: ∀{ts:List Tree} {l:List Value},ExL h Z ts l→RdL h Z ts l
 | [],l,hr=>by rw[ExL]at hr;rw[RdL];exact hr
 |t::ts,l,hr=>by
  rw[ExL]at hr
  rw[RdL]
  obtain⟨w,l',h1,h2,h3⟩:=hr
  exact⟨w,l',h1,Ex.rd h2,ExL.rd h3⟩
end
mutual
theorem ok.keep{h h':H}{Z Z':Nat→Prop}(hz: ∀o,Z o→Z' o)(hs:Same h h' Z): ∀{a:AT},ok h Z a→(∀o∈a.fp,h'.row o=h.row o)→ok h' Z' a
 | .v x,_,_=>by rw[ok];trivial
 | .sl o off n c nl e u cs,hk,hf=>by
   rw[ok]at hk⊢
   rw[AT.fp]at hf
   obtain⟨r,h1,h2,h3,h4,h5,h6,h7,h8,h9,h10⟩:=hk
   exact⟨r,by rw[hf o (by simp)];exact h1,h2,h3,h4,h5,h6,h7,h8,h9,okL.keep hz hs h10 fun o' ho'=>hf o' (by simp[ho'])⟩
 | .nil nl e u,hk,_=>by rw[ok]at hk⊢;exact hk
 | .pt o e cs,hk,hf=>by
   rw[ok]at hk⊢
   rw[AT.fp]at hf
   obtain⟨r,h1,h2,h3,h4⟩:=hk
   exact⟨r,by rw[hf o (by simp)];exact h1,h2,h3,okL.keep hz hs h4 fun o' ho'=>hf o' (by simp[ho'])⟩
 | .mp o e cs,hk,hf=>by
   rw[ok]at hk⊢
   rw[AT.fp]at hf
   obtain⟨r,h1,h2,h3,h4⟩:=hk
   exact⟨r,by rw[hf o (by simp)];exact h1,h2,h3,okL.keep hz hs h4 fun o' ho'=>hf o' (by simp[ho'])⟩
 | .fn f,_,_=>by rw[ok];trivial
 | .fz w t,hk,_=>by rw[ok]at hk⊢;exact Rd.mono hz hs hk
 | .junk w,hk,_=>by rw[ok]at hk⊢;exact hk
theorem okL.keep{h h':H}{Z Z':Nat→Prop}(hz: ∀o,Z o→Z' o)(hs:Same h h' Z): ∀{l:List AT},okL h Z l→(∀o∈fpL l,h'.row o=h.row o)→okL h' Z' l
 | [],_,_=>by rw[okL];trivial
 |a::l,hk,hf=>by
  rw[okL]at hk⊢
  rw[fpL]at hf
  exact⟨ok.keep hz hs hk.1 fun o ho=>hf o (by simp[ho]),okL.keep hz hs hk.2 fun o ho=>hf o (by simp[ho])⟩
end
mutual
theorem ok.rd{h:H}{Z Z':Nat→Prop}(hz: ∀o,Z o→Z' o): ∀{a:AT},ok h Z a→(∀o∈a.fp,Z' o)→Rd h Z' (strip a.era) a.val
 | .v x,_,_=>by rw[AT.era,strip,Rd];rfl
 | .sl o off n c nl e u cs,hk,hf=>by
   rw[ok]at hk
   rw[AT.fp]at hf
   obtain⟨r,h1,h2,h3,h4,h5,h6,h7,h8,h9,h10⟩:=hk
   rw[AT.era,strip,Rd]
   have hl:(jj5 (eraL cs)).length=cs.length:=by rw[gz0,dk4];simp
   refine .inr ⟨o,off,n,c,r,rfl,hf o (by simp),h1,fun _=>h4,h5,by rw[hl];exact h6,h7,fun hn e=>h8.1 hn ?_, ?_⟩
   ·rw[e]at hl;exact js1 hl.symm
   ·rw[hl,h9];exact okL.rd hz h10 fun o' ho'=>hf o' (by simp[ho'])
 | .nil nl e u,hk,_=>by
   rw[ok]at hk
   rw[AT.era,strip,jj5,Rd]
   exact .inl ⟨rfl,hk.1,hk.2,rfl⟩
 | .pt o e cs,hk,hf=>by
   rw[ok]at hk
   rw[AT.fp]at hf
   obtain⟨r,h1,h2,h3,h4⟩:=hk
   rw[AT.era,strip,Rd]
   exact⟨o,r,rfl,hf o (by simp),h1,by rw[h3];exact okL.rd hz h4 fun o' ho'=>hf o' (by simp[ho'])⟩
 | .mp o e cs,hk,hf=>by
   rw[ok]at hk
   rw[AT.fp]at hf
   obtain⟨r,h1,h2,h3,h4⟩:=hk
   rw[AT.era,strip,Rd]
   exact⟨o,r,rfl,hf o (by simp),⟨h1,h2.1⟩,by rw[h3];exact okL.rd hz h4 fun o' ho'=>hf o' (by simp[ho'])⟩
 | .fn f,_,_=>by
   rw[AT.era,strip,jj5,Rd]
   exact⟨[],rfl,by rw[RdL]⟩
 | .fz w t,hk,_=>by
   rw[ok]at hk
   rw[AT.era,strip]
   exact Rd.mono hz (fun _ _=>rfl) hk
 | .junk w,_,_=>by rw[AT.era,strip,Rd];trivial
theorem okL.rd{h:H}{Z Z':Nat→Prop}(hz: ∀o,Z o→Z' o): ∀{l:List AT},okL h Z l→(∀o∈fpL l,Z' o)→RdL h Z' (jj5 (eraL l)) (l.map AT.val)
 | [],_,_=>by rw[eraL,jj5,RdL];rfl
 |a::l,hk,hf=>by
  rw[okL]at hk
  rw[fpL]at hf
  rw[eraL,jj5,RdL]
  exact⟨_,_,rfl,ok.rd hz hk.1 fun o ho=>hf o (by simp[ho]),okL.rd hz hk.2 fun o ho=>hf o (by simp[ho])⟩
end
def AT.kids:AT→Option (List AT)
 | .sl _ _ _ _ _ _ _ cs=>some cs
 | .nil _ _ _=>some []
 | .pt _ _ cs=>some cs
 | .mp _ _ cs=>some cs
 |_=>none
def AT.setKids:AT→List AT→AT
 | .sl o off n c nl e u _,cs=> .sl o off n c nl e u cs
 | .pt o e _,cs=> .pt o e cs
 | .mp o e _,cs=> .mp o e cs
 |t,_=>t
def AT.get:AT→List Nat→Option AT
 |t,[]=>some t
 |t,i::p=>match t.kids with
  |some cs=>match cs[i]? with
   |some k=>k.get p
   |none=>none
  |none=>none
def AT.upd:AT→List Nat→AT→AT
 |_,[],s=>s
 |t,i::p,s=>match t.kids with
  |some cs=>match cs[i]? with
   |some k=>t.setKids (cs.set i (k.upd p s))
   |none=>t
  |none=>t
def AT.isV:AT→Bool
 | .v _=>true
 |_=>false
theorem wb1(a:AT):a.era.kids=a.kids.map eraL:=by
 cases a<;>rfl
theorem vw3{a:AT}{cs cs':List AT}(hk:a.kids=some cs)(hl:cs'.length=cs.length):(a.setKids cs').era=a.era.setKids (eraL cs'):=by
 cases a with
 |sl=>rfl
 |pt=>rfl
 |mp=>rfl
 |nil nl e u=>
  cases hk
  obtain rfl:cs'=[]:=js1 (by simpa using hl)
  rfl
 |v=>cases hk
 |fn=>cases hk
 |fz=>cases hk
 |junk=>cases hk
theorem df8(a:AT)(cs:List AT):(a.setKids cs).val=a.val:=by cases a<;>rfl
theorem ua7(a:AT)(cs:List AT):(a.setKids cs).isV=a.isV:=by cases a<;>rfl
theorem xt0: ∀(p:List Nat) (a:AT),a.era.get p=(a.get p).map AT.era
 | [],a=>rfl
 |i::p,a=>by
  simp only[Tree.get,AT.get,wb1]
  cases a.kids with
  |none=>rfl
  |some cs=>
   simp only[eb5]
   rw[dk4,us5]
   cases cs[i]? with
   |none=>rfl
   |some k=>exact xt0 p k
theorem mg2(s:AT): ∀(p:List Nat) (a:AT),(a.upd p s).era=a.era.upd p s.era
 | [],a=>rfl
 |i::p,a=>by
  simp only[Tree.upd,AT.upd,wb1]
  cases hk:a.kids with
  |none=>rfl
  |some cs=>
   simp only[eb5]
   rw[dk4,us5]
   cases cs[i]? with
   |none=>rfl
   |some k=>
    simp only[eb5]
    rw[vw3 hk (by simp),dk4,fx9,mg2 s p k]
theorem p33{s:AT}: ∀{p:List Nat} {a k:AT},a.get p=some k→s.val=k.val→(a.upd p s).val=a.val
 | [],a,k,h1,h2=>by cases h1;exact h2
 |i::p,a,k,h1,h2=>by
  simp only[AT.upd,AT.get]at h1⊢
  cases hk:a.kids with
  |none=>rfl
  |some cs=>
   simp only[]
   cases hc:cs[i]? with
   |none=>rfl
   |some b=>exact df8 _ _
theorem vw2{a:AT}{cs:List AT}(hk:a.kids=some cs):(a.fp=[]∧cs=[])∨ ∃o,a.fp=o::fpL cs∧ ∀cs',(a.setKids cs').fp=o::fpL cs':=by
 cases a with
 |sl o off n c nl e u l=>cases hk;exact .inr ⟨o,by rw[AT.fp],fun cs'=>by rw[AT.setKids,AT.fp]⟩
 |pt o e l=>cases hk;exact .inr ⟨o,by rw[AT.fp],fun cs'=>by rw[AT.setKids,AT.fp]⟩
 |mp o e l=>cases hk;exact .inr ⟨o,by rw[AT.fp],fun cs'=>by rw[AT.setKids,AT.fp]⟩
 |nil=>cases hk;exact .inl ⟨by rw[AT.fp];all_goals simp,rfl⟩
 |v=>cases hk
 |fn=>cases hk
 |fz=>cases hk
 |junk=>cases hk
theorem ju4(x:Nat): ∀{cs:List AT} {i:Nat} {k s:AT},cs[i]? =some k→(fpL (cs.set i s)).count x+k.fp.count x=(fpL cs).count x+s.fp.count x
 | [],i,k,s,h=>by simp at h
 |a::cs,0,k,s,h=>by
  simp at h;subst h
  rw[kv0,fpL,fpL,m34,m34];omega
 |a::cs,i+1,k,s,h=>by
  rw[List.set_cons_succ,fpL,fpL,m34,m34]
  have:=ju4 x (cs:=cs) (i:=i) (k:=k) (s:=s) (by simpa using h)
  omega
theorem rh1(x:Nat){s:AT}: ∀{p:List Nat} {a k:AT},a.get p=some k→(a.upd p s).fp.count x+k.fp.count x=a.fp.count x+s.fp.count x
 | [],a,k,h=>by cases h;rw[AT.upd];omega
 |i::p,a,k,h=>by
  simp only[AT.upd,AT.get]at h⊢
  cases hk:a.kids with
  |none=>rw[hk]at h;cases h
  |some cs=>
   rw[hk]at h
   simp only[]at h⊢
   cases hc:cs[i]? with
   |none=>rw[hc]at h;cases h
   |some b=>
    rw[hc]at h
    simp only[]at h⊢
    have h1:=rh1 x (s:=s) h
    have h2:=ju4 x (s:=b.upd p s) hc
    rcases vw2 hk with⟨_,rfl⟩|⟨o,e1,e2⟩
    ·simp at hc
    ·rw[e1,e2,xi6,xi6];omega
theorem un1(x:Nat){p:List Nat}{a k:AT}(h:a.get p=some k):k.fp.count x≤a.fp.count x:=by
 have:=rh1 x (s:= .junk .nilFunc) h
 rw[show(AT.junk .nilFunc).fp=[]from by rw[AT.fp]<;>simp]at this
 simp at this;omega
theorem iu1{h h':H}{Z Z':Nat→Prop}{a:AT}{cs cs':List AT}(hk:a.kids=some cs)(ha:ok h Z a)(hl:cs'.map AT.val=cs.map AT.val)(hr: ∀o,a.fp=o::fpL cs→h'.row o=h.row o)(hcs:okL h' Z' cs'):ok h' Z' (a.setKids cs'):=by
 have hlen:cs'.length=cs.length:=by have:=congrArg List.length hl;simpa using this
 cases a with
 |sl o off n c nl e u l=>
  cases hk
  rw[ok]at ha
  rw[AT.setKids,ok]
  obtain⟨r,h1,h2,h3,h4,h5,h6,h7,h8,h9,h10⟩:=ha
  exact⟨r,by rw[hr o (by rw[AT.fp])];exact h1,h2,h3,h4,h5,by rw[hlen];exact h6,h7,⟨fun hn e=>h8.1 hn (by rw[e]at hlen;exact js1 hlen.symm),by rw[hlen];exact h8.2⟩,by rw[hlen,hl];exact h9,hcs⟩
 |pt o e l=>
  cases hk
  rw[ok]at ha
  rw[AT.setKids,ok]
  obtain⟨r,h1,h2,h3,h4⟩:=ha
  exact⟨r,by rw[hr o (by rw[AT.fp])];exact h1,h2,by rw[hl];exact h3,hcs⟩
 |mp o e l=>
  cases hk
  rw[ok]at ha
  rw[AT.setKids,ok]
  obtain⟨r,h1,h2,h3,h4⟩:=ha
  exact⟨r,by rw[hr o (by rw[AT.fp])];exact h1,h2,by rw[hl];exact h3,hcs⟩
 |nil nl e u=>rw[AT.setKids];rw[ok]at ha⊢;exact ha;all_goals simp
 |v=>cases hk
 |fn=>cases hk
 |fz=>cases hk
 |junk=>cases hk
theorem by5{h:H}{Z:Nat→Prop}{a:AT}{cs:List AT}(hk:a.kids=some cs)(ha:ok h Z a):okL h Z cs:=by
 cases a with
 |sl=>cases hk;rw[ok]at ha;obtain⟨r,h1,h2,h3,h4,h5,h6,h7,h8,h9,h10⟩:=ha;exact h10
 |pt=>cases hk;rw[ok]at ha;obtain⟨r,h1,h2,h3,h4⟩:=ha;exact h4
 |mp=>cases hk;rw[ok]at ha;obtain⟨r,h1,h2,h3,h4⟩:=ha;exact h4
 |nil=>cases hk;rw[okL];trivial
 |v=>cases hk
 |fn=>cases hk
 |fz=>cases hk
 |junk=>cases hk
theorem xf2{h:H}{Z:Nat→Prop}: ∀{p:List Nat} {a k:AT},a.get p=some k→ok h Z a→ok h Z k
 | [],a,k,h1,h2=>by cases h1;exact h2
 |i::p,a,k,h1,h2=>by
  simp only[AT.get]at h1
  cases hk:a.kids with
  |none=>rw[hk]at h1;cases h1
  |some cs=>
   rw[hk]at h1
   simp only[]at h1
   cases hc:cs[i]? with
   |none=>rw[hc]at h1;cases h1
   |some b=>
    rw[hc]at h1
    exact xf2 (p:=p) h1 (ga5.1 (by5 hk h2) b (vf6 hc))
theorem ea9{x:Nat}{l:List Nat}:x∈l↔0<l.count x:=List.count_pos_iff.symm
theorem i85{x:Nat}{cs:List AT}{i:Nat}{k:AT}(hc:cs[i]? =some k)(hx:x∈k.fp):x∈fpL cs:=by
 rw[zq7,c90];exact⟨k,vf6 hc,hx⟩
theorem kr3{h h':H}{Z Z':Nat→Prop}(hz: ∀o,Z o→Z' o)(hs:Same h h' Z){s:AT}: ∀{p:List Nat} {a k:AT},a.get p=some k→ok h Z a→(∀x,a.fp.count x≤1)→s.val=k.val→ok h' Z' s→(∀o∈a.fp,o∉k.fp→h'.row o=h.row o)→ok h' Z' (a.upd p s)
 | [],a,k,h1,h2,hn,hv,h3,h4=>by cases h1;exact h3
 |i::p,a,k,h1,h2,hn,hv,h3,h4=>by
  simp only[AT.get,AT.upd]at h1⊢
  cases hk:a.kids with
  |none=>rw[hk]at h1;cases h1
  |some cs=>
   rw[hk]at h1
   simp only[]at h1⊢
   cases hc:cs[i]? with
   |none=>rw[hc]at h1;cases h1
   |some b=>
    rw[hc]at h1
    simp only[]at h1⊢
    rcases vw2 hk with⟨_,rfl⟩|⟨o,e1,e2⟩
    ·simp at hc
    ·have hsub: ∀x,k.fp.count x≤b.fp.count x:=fun x=>un1 x h1
     have hcs: ∀x,(fpL cs).count x≤1∧(x=o→(fpL cs).count x=0):=fun x=>by
      have:=hn x
      rw[e1,xi6]at this
      refine⟨by omega,fun e=> ?_⟩
      subst e
      simp at this
      exact this
     have hb: ∀x,b.fp.count x≤(fpL cs).count x:=fun x=>by
      have:=ju4 x (s:= .junk .nilFunc) hc
      rw[show(AT.junk .nilFunc).fp=[]from by rw[AT.fp]<;>simp]at this
      simp at this;omega
     have hbval:(b.upd p s).val=b.val:=p33 h1 hv
     refine iu1 hk h2 ?_ (fun o' ho'=> ?_) (ga5.2 fun a' ha'=> ?_)
     ·rw[fx9,hbval]
      refine v63 fun j=> ?_
      rw[gy2]
      split
      ·subst_vars
       split
       ·rw[us5,hc];rfl
       ·rw[pb5 (by omega)]
      ·rfl
     ·have:o'=o:=by rw[e1]at ho';cases ho';rfl
      subst this
      refine h4 o' (by rw[e1];simp) fun hm=> ?_
      have:=(hcs o').2 rfl
      have:=hb o'
      have:=hsub o'
      have:=ea9.1 hm
      omega
     ·obtain⟨j,hj,rfl⟩:=zd4 ha'
      rw[List.getElem_set]
      split
      ·refine kr3 hz hs h1 (ga5.1 (by5 hk h2) b (vf6 hc)) (fun x=>by have:=hb x;have:=(hcs x).1;omega) hv h3 fun o' ho' hno=>h4 o' (by rw[e1];simp[i85 hc ho']) hno
      ·rename_i hij
       rw[kb7]at hj
       have hmem:cs[j]? =some cs[j]:=wu3 hj
       refine ok.keep hz hs (ga5.1 (by5 hk h2) _ (ws6 hj)) fun o' ho'=>h4 o' (by rw[e1];simp[i85 hmem ho']) fun hm=> ?_
       --it stands in two of them
       have h5:=ju4 o' (s:= .junk .nilFunc) hc
       rw[show(AT.junk .nilFunc).fp=[]from by rw[AT.fp]<;>simp]at h5
       have h6:o'∈fpL (cs.set i (.junk .nilFunc)):=i85 (i:=j) (k:=cs[j]) (by rw[b17 hij];exact hmem) ho'
       have:=ea9.1 h6
       have:=ea9.1 hm
       have:=hsub o'
       have:=(hcs o').1
       simp at h5;omega
end Go.Vm
namespace Go.Vm
open Go.Am
def aget(A:List AT)(r:Nat)(p:List Nat):Option AT:=match A[r]? with
 |some a=>a.get p
 |none=>none
def aset(A:List AT)(r:Nat)(p:List Nat)(s:AT):List AT:=match A[r]? with
 |some a=>A.set r (a.upd p s)
 |none=>A
theorem p00(A:List AT)(r:Nat)(p:List Nat):rget (A.map AT.era) r p=(aget A r p).map AT.era:=by
 unfold rget aget
 rw[us5]
 cases A[r]? with
 |none=>rfl
 |some a=>exact xt0 p a
theorem ao8(A:List AT)(r:Nat)(p:List Nat)(s:AT):rset (A.map AT.era) r p s.era=(aset A r p s).map AT.era:=by
 unfold rset aset
 rw[us5]
 cases A[r]? with
 |none=>rfl
 |some a=>
  simp only[eb5]
  rw[fx9,mg2]
theorem mc9{A:List AT}{r:Nat}{p:List Nat}{t:Tree}(h:rget (A.map AT.era) r p=some t): ∃k,aget A r p=some k∧k.era=t:=by
 rw[p00]at h
 exact km1.1 h
theorem hl4(A:List AT)(r:Nat)(p:List Nat)(s:AT):(aset A r p s).length=A.length:=by
 unfold aset;split
 ·rw[kb7]
 ·rfl
theorem vs7{A:List AT}{r:Nat}{p:List Nat}{k:AT}(h:aget A r p=some k):r<A.length:=by
 unfold aget at h
 split at h
 ·rename_i h1;exact(ck5.1 h1).1
 ·cases h
theorem z88(x:Nat){A:List AT}{r:Nat}{p:List Nat}{k s:AT}(h:aget A r p=some k):(fpL (aset A r p s)).count x+k.fp.count x=(fpL A).count x+s.fp.count x:=by
 unfold aget at h
 unfold aset
 cases ha:A[r]? with
 |none=>rw[ha]at h;cases h
 |some a=>
  rw[ha]at h
  simp only[]at h⊢
  have h1:=rh1 x (s:=s) h
  have h2:=ju4 x (s:=a.upd p s) ha
  omega
theorem bm6(x:Nat){A:List AT}{r:Nat}{p:List Nat}{k:AT}(h:aget A r p=some k):k.fp.count x≤(fpL A).count x:=by
 have:=z88 x (s:= .junk .nilFunc) h
 rw[show(AT.junk .nilFunc).fp=[]from by rw[AT.fp]<;>simp]at this
 simp at this;omega
theorem xv9(A B:List AT):fpL (A++B)=fpL A++fpL B:=by simp only[zq7,List.flatMap_append]
structure Inv (h:H) (A:List AT) (Z Zp:Nat→Prop):Prop where
 okA:okL h Zp A
 nd: ∀x,(fpL A).count x≤1
 lt: ∀o∈fpL A,o<h.length
 nz: ∀o∈fpL A,¬Z o
 zlt: ∀o,Z o→o<h.length
 zp: ∀o,Zp o→Z o
structure Ext (h:H) (A:List AT) (Zp:Nat→Prop) (h':H) (A':List AT) (Zp':Nat→Prop):Prop where
 len:h.length≤h'.length
 keep: ∀o,o<h.length→o∉fpL A→h'[o]? =h[o]?
 fp: ∀o∈fpL A',o∈fpL A∨h.length≤o
 zp: ∀o,Zp o→Zp' o
 zn: ∀o,Zp' o→Zp o∨o∈fpL A∨h.length≤o
theorem Ext.refl(h:H)(A:List AT)(Zp:Nat→Prop):Ext h A Zp h A Zp:=⟨jj6 _,fun _ _ _=>rfl,fun _ h=> .inl h,fun _ h=>h,fun _ h=> .inl h⟩
theorem Ext.trans{h h1 h2:H}{A A1 A2:List AT}{Z Z1 Z2:Nat→Prop}(a:Ext h A Z h1 A1 Z1)(b:Ext h1 A1 Z1 h2 A2 Z2):Ext h A Z h2 A2 Z2:=by
 have:=a.len
 have:=b.len
 refine⟨by omega,fun o ho hn=> ?_,fun o ho=> ?_,fun o ho=>b.zp o (a.zp o ho),fun o ho=> ?_⟩
 ·rw[b.keep o (by omega) fun hm=> ?_,a.keep o ho hn]
  rcases a.fp o hm with h|h
  ·exact hn h
  ·omega
 ·rcases b.fp o ho with h|h
  ·exact a.fp o h
  ·exact .inr (by omega)
 ·rcases b.zn o ho with h|h|h
  ·exact a.zn o h
  ·rcases a.fp o h with h|h
   ·exact .inr (.inl h)
   ·exact .inr (.inr h)
  ·exact .inr (.inr (by omega))
theorem Ext.same{h h':H}{A A':List AT}{Z Zp Zp':Nat→Prop}(e:Ext h A Zp h' A' Zp')(i:Inv h A Z Zp):Same h h' Z:=fun o ho=>by
 unfold H.row
 rw[e.keep o (i.zlt o ho) fun hm=>i.nz o hm ho]
structure Stab (A A':List AT) (ks:List Nat):Prop where
 len:A.length≤A'.length
 get: ∀(r:Nat) (p:List Nat) (b':AT),r<A.length→(r∈ks→p=[])→aget A' r p=some b'→b'.isV=false→ ∃b,aget A r p=some b∧b.isV=false∧b'.val=b.val
 pin: ∀(r:Nat) (a a':AT),A[r]? =some a→A'[r]? =some a'→a'.val=a.val∧(a.isV=false→a'.isV=false)
theorem Stab.refl(A:List AT)(ks:List Nat):Stab A A ks:=⟨jj6 _,fun r p b' _ _ h1 h2=>⟨b',h1,h2,rfl⟩,fun r a a' h1 h2=>by rw[h1]at h2;cases h2;exact⟨rfl,id⟩⟩
theorem gr7{A N:List AT}{r:Nat}(p:List Nat)(hr:r<A.length):aget (A++N) r p=aget A r p:=by
 unfold aget;rw[bu4 hr]
theorem Stab.app{A A':List AT}{ks:List Nat}(s:Stab A A' ks)(N:List AT):Stab A (A'++N) ks:=by
 refine⟨by rw[j82];have:=s.len;omega,fun r p b' hr hk h1 h2=> ?_,fun r a a' h1 h2=> ?_⟩
 ·rw[gr7 p (by have:=s.len;omega)]at h1
  exact s.get r p b' hr hk h1 h2
 ·have:=(ck5.1 h1).1
  rw[bu4 (by have:=s.len;omega)]at h2
  exact s.pin r a a' h1 h2
theorem Stab.trans{A B C:List AT}{ks:List Nat}(a:Stab A B ks)(b:Stab B C ks):Stab A C ks:=by
 refine⟨md7 a.len b.len,fun r p b' hr hk h1 h2=> ?_,fun r x z h1 h2=> ?_⟩
 ·obtain⟨c,c1,c2,c3⟩:=b.get r p b' (by have:=a.len;omega) hk h1 h2
  obtain⟨d,d1,d2,d3⟩:=a.get r p c hr hk c1 c2
  exact⟨d,d1,d2,c3.trans d3⟩
 ·have hr:=(ck5.1 h1).1
  have hrb:r<B.length:=by have:=a.len;omega
  have h3:B[r]? =some B[r]:=wu3 hrb
  have p1:=b.pin r _ z h3 h2
  have p2:=a.pin r x _ h1 h3
  exact⟨p1.1.trans p2.1,fun hx=>p1.2 (p2.2 hx)⟩
theorem Stab.weak{A B:List AT}{ks ls:List Nat}(a:Stab A B ks)(h: ∀r∈ks,r∈ls):Stab A B ls:=⟨a.len,fun r p b' hr hk h1 h2=>a.get r p b' hr (fun hm=>hk (h r hm)) h1 h2,a.pin⟩
theorem oy0{s:AT}: ∀{p:List Nat} {a k:AT},a.get p=some k→s.isV=false→a.isV=false→(a.upd p s).isV=false
 | [],a,k,h1,h2,_=>h2
 |i::p,a,k,h1,h2,h3=>by
  simp only[AT.upd,AT.get]at h1⊢
  cases hk:a.kids with
  |none=>exact h3
  |some cs=>
   simp only[]
   cases hc:cs[i]? with
   |none=>exact h3
   |some b=>simp only[];rw[ua7];exact h3
def Sub(k s:AT):Prop:= ∀q b',s.get q=some b'→b'.isV=false→ ∃b,k.get q=some b∧b.isV=false∧b'.val=b.val
theorem Sub.leaf{k s:AT}(hs:s.kids=none)(hv:s.val=k.val)(hk:k.isV=false):Sub k s:=by
 intro q b' h1 h2
 cases q with
 |nil=>cases h1;exact⟨k,rfl,hk,hv⟩
 |cons i q=>simp only[AT.get,hs]at h1;cases h1
theorem ot1{s:AT}: ∀{p:List Nat} {a k:AT},a.get p=some k→s.val=k.val→k.isV=false→s.isV=false→ ∀{q:List Nat} {b':AT},(Sub k s∨q=[])→(a.upd p s).get q=some b'→b'.isV=false→ ∃b,a.get q=some b∧b.isV=false∧b'.val=b.val
 | [],a,k,h1,hv,hk,hsv,q,b',hS,h2,h3=>by
   cases h1
   rcases hS with hS|rfl
   ·exact hS q b' h2 h3
   ·cases h2;exact⟨a,rfl,hk,hv⟩
 |i::p,a,k,h1,hv,hk,hsv,q,b',hS,h2,h3=>by
  simp only[AT.get,AT.upd]at h1 h2
  cases hc:a.kids with
  |none=>rw[hc]at h1;cases h1
  |some cs=>
   rw[hc]at h1 h2
   simp only[]at h1 h2
   cases hi:cs[i]? with
   |none=>rw[hi]at h1;cases h1
   |some c=>
    rw[hi]at h1 h2
    simp only[]at h1 h2
    cases q with
    |nil=>
     cases h2
     rw[ua7]at h3
     exact⟨a,rfl,h3,df8 _ _⟩
    |cons j q=>
     have hkk:(a.setKids (cs.set i (c.upd p s))).kids=some (cs.set i (c.upd p s)):=by
      cases a with
      |sl=>rfl
      |pt=>rfl
      |mp=>rfl
      |nil=>cases hc;simp at hi
      |v=>cases hc
      |fn=>cases hc
      |fz=>cases hc
      |junk=>cases hc
     simp only[AT.get,hkk]at h2
     simp only[AT.get,hc]
     by_cases hij:i=j
     ·subst hij
      have hlt:=(ck5.1 hi).1
      rw[j13 hlt]at h2
      rw[hi]
      exact ot1 h1 hv hk hsv (hS.imp id fun e=>by cases e) h2 h3
     ·rw[b17 hij]at h2
      cases hj:cs[j]? with
      |none=>rw[hj]at h2;cases h2
      |some d=>rw[hj]at h2;exact⟨b',h2,h3,rfl⟩
theorem Stab.upd{A:List AT}{r:Nat}{p:List Nat}{k s:AT}(hk:aget A r p=some k)(hv:s.val=k.val)(h1:k.isV=false)(h2:s.isV=false){ks:List Nat}(hS:Sub k s∨r∈ks):Stab A (aset A r p s) ks:=by
 have hr:=vs7 hk
 unfold aget at hk
 have hA:A[r]? =some A[r]:=wu3 hr
 rw[hA]at hk
 simp only[]at hk
 have hset:aset A r p s=A.set r (A[r].upd p s):=by unfold aset;rw[hA]
 refine⟨by rw[hl4];exact jj6 _,fun r' q b' hr' hkill h3 h4=> ?_,fun r' a a' h3 h4=> ?_⟩
 ·rw[hset]at h3
  unfold aget at h3⊢
  by_cases he:r=r'
  ·subst he
   rw[j13 hr]at h3
   rw[hA]
   exact ot1 hk hv h1 h2 (hS.imp id fun hm=>hkill hm) h3 h4
  ·rw[b17 he]at h3
   exact⟨b',h3,h4,rfl⟩
 ·rw[hset]at h4
  by_cases he:r=r'
  ·subst he
   rw[j13 hr]at h4
   rw[hA]at h3
   cases h3;cases h4
   exact⟨p33 hk hv,fun hx=>oy0 hk h2 hx⟩
  ·rw[b17 he,h3]at h4
   cases h4;exact⟨rfl,id⟩
theorem ca4{h:H}{Z:Nat→Prop}{A B:List AT}:okL h Z (A++B)↔okL h Z A∧okL h Z B:=by
 rw[ga5,ga5,ga5];simp only[bk2]
 exact⟨fun k=>⟨fun a ha=>k a (.inl ha),fun a ha=>k a (.inr ha)⟩,fun k a ha=>ha.elim (k.1 a) (k.2 a)⟩
theorem Inv.new{h h':H}{A C N:List AT}{Z Zp Zx:Nat→Prop}(i:Inv h (A++C) Z Zp)(hlen:h.length≤h'.length)(hkeep: ∀o,o<h.length→h'[o]? =h[o]?)(hN:okL h' (fun o=>Zp o∨Zx o) N)(hc: ∀x,x<h.length→(fpL N).count x≤(fpL C).count x)(hd: ∀x,h.length≤x→(fpL N).count x≤1)(hb: ∀o∈fpL N,o<h'.length)
 (hx: ∀o,Zx o→(o∈fpL C∨h.length≤o)∧o<h'.length∧o∉fpL N):Inv h' (A++N) (fun o=>Z o∨Zx o) (fun o=>Zp o∨Zx o)∧Ext h (A++C) Zp h' (A++N) (fun o=>Zp o∨Zx o):=by
 have hrow: ∀o,o<h.length→h'.row o=h.row o:=fun o ho=>by unfold H.row;rw[hkeep o ho]
 have hac: ∀x,(fpL A).count x+(fpL C).count x≤1:=fun x=>by have:=i.nd x;rwa [xv9,m34]at this
 have hA: ∀o,o∈fpL A→o<h.length∧ ¬Z o:=fun o ho=>⟨i.lt o (by rw[xv9];simp[ho]),i.nz o (by rw[xv9];simp[ho])⟩
 have hC: ∀o,o∈fpL C→o<h.length∧ ¬Z o:=fun o ho=>⟨i.lt o (by rw[xv9];simp[ho]),i.nz o (by rw[xv9];simp[ho])⟩
 have hNC: ∀o,o∈fpL N→o<h.length→o∈fpL C:=fun o ho hl=>ea9.2 (by have:=ea9.1 ho;have:=hc o hl;omega)
 refine⟨⟨ca4.2 ⟨okL.keep (fun o ho=> .inl ho) (fun o ho=>hrow o (i.zlt o (i.zp o ho))) (ca4.1 i.okA).1 fun o ho=>hrow o (hA o ho).1,hN⟩,fun x=> ?_,fun o ho=> ?_,fun o ho=> ?_,fun o ho=> ?_,fun o ho=> ?_⟩,hlen,fun o ho _=>hkeep o ho,fun o ho=> ?_,fun o ho=> .inl ho,fun o ho=> ?_⟩
 ·rw[xv9,m34]
  have h1:=hac x
  by_cases hl:x<h.length
  ·have:=hc x hl;omega
  ·have:(fpL A).count x=0:=xe3.2 fun hm=>hl (hA x hm).1
   have:=hd x (by omega);omega
 ·rw[xv9]at ho
  rcases bk2.1 ho with ho|ho
  ·have:=(hA o ho).1;omega
  ·exact hb o ho
 ·rw[xv9]at ho
  rcases bk2.1 ho with ho|ho
  ·rintro(hz|hz)
   ·exact(hA o ho).2 hz
   ·rcases(hx o hz).1 with h1|h1
    ·have:=hac o;have:=ea9.1 ho;have:=ea9.1 h1;omega
    ·have:=(hA o ho).1;omega
  ·rintro(hz|hz)
   ·exact(hC o (hNC o ho (i.zlt o hz))).2 hz
   ·exact(hx o hz).2.2 ho
 ·rcases ho with ho|ho
  ·have:=i.zlt o ho;omega
  ·exact(hx o ho).2.1
 ·exact ho.imp (i.zp o) id
 ·rw[xv9]at ho
  rw[xv9]
  rcases bk2.1 ho with ho|ho
  ·exact .inl (by simp[ho])
  ·by_cases hl:o<h.length
   ·exact .inl (by simp[hNC o ho hl])
   ·exact .inr (by omega)
 ·rcases ho with ho|ho
  ·exact .inl ho
  ·rw[xv9]
   rcases(hx o ho).1 with h1|h1
   ·exact .inr (.inl (by simp[h1]))
   ·exact .inr (.inr h1)
theorem Inv.upd{h h':H}{A C N:List AT}{Z Zp Zx:Nat→Prop}{r:Nat}{p:List Nat}{k s:AT}(i:Inv h (A++C) Z Zp)(hk:aget A r p=some k)(hlen:h.length≤h'.length)(hkeep: ∀o,o<h.length→o∉k.fp→h'[o]? =h[o]?)
 (hv:s.val=k.val) (hs:ok h' (fun o=>Zp o∨Zx o) s) (hN:okL h' (fun o=>Zp o∨Zx o) N) (hc: ∀x,x<h.length→s.fp.count x+(fpL N).count x≤k.fp.count x+(fpL C).count x) (hd: ∀x,h.length≤x→s.fp.count x+(fpL N).count x≤1) (hb: ∀o,o∈s.fp∨o∈fpL N→o<h'.length)
 (hx: ∀o,Zx o→(o∈k.fp∨o∈fpL C∨h.length≤o)∧o<h'.length∧o∉s.fp∧o∉fpL N):
 Inv h' (aset A r p s++N) (fun o=>Z o∨Zx o) (fun o=>Zp o∨Zx o)∧Ext h (A++C) Zp h' (aset A r p s++N) (fun o=>Zp o∨Zx o):=by
 have hac: ∀x,(fpL A).count x+(fpL C).count x≤1:=fun x=>by have:=i.nd x;rwa [xv9,m34]at this
 have hA': ∀o,o∈fpL A→o<h.length∧ ¬Z o:=fun o ho=>⟨i.lt o (by rw[xv9];simp[ho]),i.nz o (by rw[xv9];simp[ho])⟩
 have hC: ∀o,o∈fpL C→o<h.length∧ ¬Z o:=fun o ho=>⟨i.lt o (by rw[xv9];simp[ho]),i.nz o (by rw[xv9];simp[ho])⟩
 have hkm: ∀o,o∈k.fp→o∈fpL A:=fun o ho=>ea9.2 (by have:=ea9.1 ho;have:=bm6 o hk;omega)
 have hrow: ∀o,o<h.length→o∉k.fp→h'.row o=h.row o:=fun o ho hn=>by unfold H.row;rw[hkeep o ho hn]
 have hzk: ∀o,Z o→o∉k.fp:=fun o ho hm=>(hA' o (hkm o hm)).2 ho
 have hsame:Same h h' Zp:=fun o ho=>hrow o (i.zlt o (i.zp o ho)) (hzk o (i.zp o ho))
 have hcnt: ∀x,(fpL (aset A r p s++N)).count x+k.fp.count x=(fpL A).count x+s.fp.count x+(fpL N).count x:=fun x=>by
  rw[xv9,m34]
  have:=z88 x (s:=s) hk
  omega
 have hmem: ∀o,o∈fpL (aset A r p s++N)→(o∈fpL A∧o∉k.fp)∨o∈s.fp∨o∈fpL N:=fun o ho=>by
  have h1:=ea9.1 ho
  have h2:=hcnt o
  have h3:=hac o
  by_cases hm:o∈k.fp
  ·have h4:=ea9.1 hm
   by_cases h5:o∈s.fp
   ·exact .inr (.inl h5)
   ·refine .inr (.inr (ea9.2 ?_))
    have:s.fp.count o=0:=xe3.2 h5
    omega
  ·have h4:k.fp.count o=0:=xe3.2 hm
   by_cases h5:o∈s.fp
   ·exact .inr (.inl h5)
   ·by_cases h6:o∈fpL N
    ·exact .inr (.inr h6)
    ·have:s.fp.count o=0:=xe3.2 h5
     have:(fpL N).count o=0:=xe3.2 h6
     exact .inl ⟨ea9.2 (by omega),hm⟩
 have hold: ∀o,o<h.length→(o∈s.fp∨o∈fpL N)→o∈k.fp∨o∈fpL C:=fun o ho hm=>by
  have h1:=hc o ho
  by_cases h2:o∈k.fp
  ·exact .inl h2
  ·have:k.fp.count o=0:=xe3.2 h2
   refine .inr (ea9.2 ?_)
   rcases hm with hm|hm<;>have:=ea9.1 hm<;>omega
 refine⟨⟨ca4.2 ⟨ga5.2 fun a ha=> ?_,hN⟩,fun x=> ?_,fun o ho=> ?_,fun o ho=> ?_,fun o ho=> ?_,fun o ho=> ?_⟩,hlen,fun o ho hn=>hkeep o ho fun hm=>hn (by rw[xv9];simp[hkm o hm]),fun o ho=> ?_,fun o ho=> .inl ho,fun o ho=> ?_⟩
 ·--roots
  have hr:=vs7 hk
  have hA:A[r]? =some A[r]:=wu3 hr
  have hset:aset A r p s=A.set r (A[r].upd p s):=by unfold aset;rw[hA]
  have hokA:=(ca4.1 i.okA).1
  unfold aget at hk
  rw[hA]at hk
  simp only[]at hk
  rw[hset]at ha
  obtain⟨j,hj,rfl⟩:=zd4 ha
  rw[kb7]at hj
  rw[List.getElem_set]
  have hAc: ∀x,A[r].fp.count x≤(fpL A).count x:=fun x=>bm6 x (A:=A) (r:=r) (p:=[]) (by unfold aget;rw[hA];rfl)
  split
  ·refine kr3 (fun o ho=> .inl ho) hsame hk (ga5.1 hokA _ (ws6 hr)) (fun x=>by have:=hAc x;have:=hac x;omega) hv hs fun o ho hn=>hrow o (hA' o (i85 hA ho)).1 hn
  ·rename_i hne
   have hAj:A[j]? =some A[j]:=wu3 hj
   refine ok.keep (fun o ho=> .inl ho) hsame (ga5.1 hokA _ (ws6 hj)) fun o ho=>hrow o (hA' o (i85 hAj ho)).1 fun hm=> ?_
   have h5:=ju4 o (s:= .junk .nilFunc) hA
   rw[show(AT.junk .nilFunc).fp=[]from by rw[AT.fp]<;>simp]at h5
   have h6:o∈fpL (A.set r (.junk .nilFunc)):=i85 (i:=j) (k:=A[j]) (by rw[b17 hne];exact hAj) ho
   have:=ea9.1 h6
   have:=ea9.1 hm
   have:=un1 o hk
   have:=hac o
   simp at h5;omega
 ·have h1:=hcnt x
  have h2:=hac x
  by_cases hxl:x<h.length
  ·have:=hc x hxl;omega
  ·have h3:=hd x (by omega)
   have:(fpL A).count x=0:=xe3.2 fun hm=>hxl (hA' x hm).1
   omega
 ·rcases hmem o ho with⟨h1,_⟩|h1
  ·have:=(hA' o h1).1;omega
  ·exact hb o h1
 ·rintro(hz|hz)
  ·rcases hmem o ho with⟨h1,_⟩|h1
   ·exact(hA' o h1).2 hz
   ·rcases hold o (i.zlt o hz) h1 with h2|h2
    ·exact hzk o hz h2
    ·exact(hC o h2).2 hz
  ·obtain⟨h1,h2,h3,h4⟩:=hx o hz
   rcases hmem o ho with⟨h5,h6⟩|h5|h5
   ·rcases h1 with h1|h1|h1
    ·exact h6 h1
    ·have:=hac o;have:=ea9.1 h1;have:=ea9.1 h5;omega
    ·have:=(hA' o h5).1;omega
   ·exact h3 h5
   ·exact h4 h5
 ·rcases ho with ho|ho
  ·have:=i.zlt o ho;omega
  ·exact(hx o ho).2.1
 ·exact ho.imp (i.zp o) id
 ·rw[xv9 A C]
  by_cases hl:o<h.length
  ·rcases hmem o ho with⟨h1,_⟩|h1
   ·exact .inl (by simp[h1])
   ·rcases hold o hl h1 with h2|h2
    ·exact .inl (by simp[hkm o h2])
    ·exact .inl (by simp[h2])
  ·exact .inr (by omega)
 ·rw[xv9 A C]
  rcases ho with ho|ho
  ·exact .inl ho
  ·rcases(hx o ho).1 with h1|h1|h1
   ·exact .inr (.inl (by simp[hkm o h1]))
   ·exact .inr (.inl (by simp[h1]))
   ·exact .inr (.inr h1)
def pick(b:Bool)(Z Zp:Nat→Prop):Nat→Prop:=match b with
 |true=>Zp
 |false=>Z
mutual
def VR(h:H)(A:List AT)(Z Zp:Nat→Prop):AV→Value→Prop
 | .x v,w=>w=v
 | .fz b t,w=>Rd h (pick b Z Zp) t w
 | .fzc b cs i,w=> ∃o off r,w= .pointer (some ⟨o,off+i,none⟩)∧pick b Z Zp o∧h.row o=some r∧RdL h (pick b Z Zp) cs ((r.cells.drop off).take cs.length)
 | .own r p,w=>r<A.length∧ ∀b,aget A r p=some b→b.isV=false→b.val=w
 | .sub r p u lo n,w=>r<A.length∧ ∀b,aget A r p=some b→b.isV=false→match b.val with
   | .slice (some ⟨o,off,none⟩) _ _=> ∃lo' c',w= .slice (some ⟨o,off+lo'*u,none⟩) n c'∧n≤c'∧lo'≤lo∧(0<n→lo'=lo)
   | .slice none _ _=>n=0∧w= .slice none 0 0
   |_=>True
 | .cell r p i,w=>r<A.length∧ ∀b,aget A r p=some b→b.isV=false→match b.val with
   | .slice (some ⟨o,off,none⟩) _ _=>w= .pointer (some ⟨o,off+i,none⟩)
   | .pointer (some ⟨o,off,none⟩)=>w= .pointer (some ⟨o,off+i,none⟩)
   | .map (some o)=>w= .pointer (some ⟨o,0+i,none⟩)
   |_=>True
 | .agg l,w=> ∃ws,w= .agg (List.toArray ws)∧VRL h A Z Zp l ws
 | .tup l,w=> ∃ws,w= .tuple (List.toArray ws)∧VRL h A Z Zp l ws
 | .fn f l,w=> ∃ws,w= .func (.func f) #[] (List.toArray ws)∧VRL h A Z Zp l ws
def VRL(h:H)(A:List AT)(Z Zp:Nat→Prop):List AV→List Value→Prop
 | [],ws=>ws=[]
 |a::l,ws=> ∃w ws',ws=w::ws'∧VR h A Z Zp a w∧VRL h A Z Zp l ws'
end
section
variable {h:H} {A:List AT} {Z Zp:Nat→Prop}
theorem VRL.len: ∀{l:List AV} {ws:List Value},VRL h A Z Zp l ws→ws.length=l.length
 | [],ws,hr=>by rw[VRL]at hr;rw[hr];rfl
 |a::l,ws,hr=>by
  rw[VRL]at hr
  obtain⟨w,ws',rfl,_,hr⟩:=hr
  rw[q90,q90,hr.len]
theorem VRL.nil:VRL h A Z Zp [] []:=by rw[VRL]
theorem VRL.cons{a:AV}{l:List AV}{w:Value}{ws:List Value}(h1:VR h A Z Zp a w)(h2:VRL h A Z Zp l ws):VRL h A Z Zp (a::l) (w::ws):=by rw[VRL];exact⟨w,ws,rfl,h1,h2⟩
theorem VRL.at: ∀{l:List AV} {ws:List Value} {i:Nat} {a:AV},VRL h A Z Zp l ws→l[i]? =some a→ ∃w,ws[i]? =some w∧VR h A Z Zp a w
 | [],ws,i,a,hr,ha=>by simp at ha
 |b::l,ws,i,a,hr,ha=>by
  rw[VRL]at hr
  obtain⟨w,ws',rfl,h1,h2⟩:=hr
  cases i with
  |zero=>simp at ha;subst ha;exact⟨w,rfl,h1⟩
  |succ i=>exact h2.at (i:=i) (by simpa using ha)
theorem eo0: ∀{l:List AV} {ws:List Value},VRL h A Z Zp l ws↔ws.length=l.length∧ ∀(i:Nat) (a:AV) (w:Value),l[i]? =some a→ws[i]? =some w→VR h A Z Zp a w
 | [],ws=>by
   rw[VRL]
   exact⟨fun e=>by subst e;simp,fun⟨e,_⟩=>js1 e⟩
 |b::l,ws=>by
  rw[VRL]
  constructor
  ·rintro⟨w,l',rfl,h1,h2⟩
   obtain⟨e,k⟩:=eo0.1 h2
   refine⟨by rw[q90,q90,e],fun i t' w' h3 h4=> ?_⟩
   cases i with
   |zero=>simp at h3 h4;subst h3;subst h4;exact h1
   |succ i=>exact k i t' w' (by simpa using h3) (by simpa using h4)
  ·rintro⟨e,k⟩
   cases ws with
   |nil=>simp at e
   |cons w l'=>exact⟨w,l',rfl,k 0 b w rfl rfl,eo0.2 ⟨by simpa using e,fun i t' w' h3 h4=>k (i+1) t' w' (by simpa using h3) (by simpa using h4)⟩⟩
theorem VRL.app{l m:List AV}{ws us:List Value}(h1:VRL h A Z Zp l ws)(h2:VRL h A Z Zp m us):VRL h A Z Zp (l++m) (ws++us):=by
 induction l generalizing ws with
 |nil=>rw[VRL]at h1;subst h1;exact h2
 |cons a l ih=>
  rw[VRL]at h1
  obtain⟨w,ws',rfl,k1,k2⟩:=h1
  exact .cons k1 (ih k2)
theorem VRL.sub{l:List AV}{ws:List Value}(hr:VRL h A Z Zp l ws)(a b:Nat):VRL h A Z Zp ((l.drop a).take b) ((ws.drop a).take b):=by
 obtain⟨e,k⟩:=eo0.1 hr
 refine eo0.2 ⟨by simp only[vb8,h50,e],fun i t w h1 h2=> ?_⟩
 rw[td4]at h1 h2
 split at h1
 ·rw[if_pos ‹_›]at h2
  rw[s96]at h1 h2
  exact k _ t w h1 h2
 ·cases h1
end
def je7(ks:List Nat)(a:AV):Bool:=ks.any fun r=>by8 r a
theorem mi7(ks:List Nat)(a:AV)(l:List AV)(h:(ks.any fun r=>dr4 r (a::l))=false):je7 ks a=false∧(ks.any fun r=>dr4 r l)=false:=by
 unfold je7
 rw[qb7]at h
 refine⟨qb7.2 fun r hr=> ?_,qb7.2 fun r hr=> ?_⟩
 ·have:=h r hr
  rw[dr4]at this
  simp at this;simp[this.1]
 ·have:=h r hr
  rw[dr4]at this
  simp at this;simp[this.2]
theorem s60{ks:List Nat}{r:Nat}{p:List Nat}(h:(ks.any fun s=>(Nat.beq r s)&& !p.isEmpty)=false):r∈ks→p=[]:=by
 intro hm
 have:=qb7.1 h r hm
 cases p with
 |nil=>rfl
 |cons i p=>simp at this
mutual
theorem VR.move{h h':H}{A A':List AT}{Z Z' Zp Zp':Nat→Prop}(hz: ∀o,Z o→Z' o)(hp: ∀o,Zp o→Zp' o)(hs:Same h h' Z)(hs2:Same h h' Zp){ks:List Nat}(st:Stab A A' ks): ∀{a:AV} {w:Value},VR h A Z Zp a w→je7 ks a=false→VR h' A' Z' Zp' a w
 | .x v,w,hr,_=>by rw[VR]at hr⊢;exact hr
 | .fz b t,w,hr,_=>by
   rw[VR]at hr⊢
   cases b with
   |true=>exact Rd.mono hp hs2 hr
   |false=>exact Rd.mono hz hs hr
 | .fzc b cs i,w,hr,_=>by
   rw[VR]at hr⊢
   obtain⟨o,off,r,h1,h2,h3,h4⟩:=hr
   cases b with
   |true=>exact⟨o,off,r,h1,hp o h2,by rw[hs2 o h2];exact h3,RdL.mono hp hs2 h4⟩
   |false=>exact⟨o,off,r,h1,hz o h2,by rw[hs o h2];exact h3,RdL.mono hz hs h4⟩
 | .own r p,w,hr,hk=>by
   rw[VR]at hr⊢
   unfold je7 at hk
   simp only[by8]at hk
   refine⟨by have:=st.len;omega,fun b' h1 h2=> ?_⟩
   obtain⟨b,h3,h4,h5⟩:=st.get r p b' hr.1 (s60 hk) h1 h2
   rw[h5];exact hr.2 b h3 h4
 | .sub r p u lo n,w,hr,hk=>by
   rw[VR]at hr⊢
   unfold je7 at hk
   simp only[by8]at hk
   refine⟨by have:=st.len;omega,fun b' h1 h2=> ?_⟩
   obtain⟨b,h3,h4,h5⟩:=st.get r p b' hr.1 (s60 hk) h1 h2
   rw[h5];exact hr.2 b h3 h4
 | .cell r p i,w,hr,hk=>by
   rw[VR]at hr⊢
   unfold je7 at hk
   simp only[by8]at hk
   refine⟨by have:=st.len;omega,fun b' h1 h2=> ?_⟩
   obtain⟨b,h3,h4,h5⟩:=st.get r p b' hr.1 (s60 hk) h1 h2
   rw[h5];exact hr.2 b h3 h4
 | .agg l,w,hr,hk=>by
   rw[VR]at hr⊢
   unfold je7 at hk
   simp only[by8]at hk
   obtain⟨ws,h1,h2⟩:=hr
   exact⟨ws,h1,VRL.move hz hp hs hs2 st h2 hk⟩
 | .tup l,w,hr,hk=>by
   rw[VR]at hr⊢
   unfold je7 at hk
   simp only[by8]at hk
   obtain⟨ws,h1,h2⟩:=hr
   exact⟨ws,h1,VRL.move hz hp hs hs2 st h2 hk⟩
 | .fn f l,w,hr,hk=>by
   rw[VR]at hr⊢
   unfold je7 at hk
   simp only[by8]at hk
   obtain⟨ws,h1,h2⟩:=hr
   exact⟨ws,h1,VRL.move hz hp hs hs2 st h2 hk⟩
theorem VRL.move{h h':H}{A A':List AT}{Z Z' Zp Zp':Nat→Prop}(hz: ∀o,Z o→Z' o)(hp: ∀o,Zp o→Zp' o)(hs:Same h h' Z)(hs2:Same h h' Zp){ks:List Nat}(st:Stab A A' ks): ∀{l:List AV} {ws:List Value},VRL h A Z Zp l ws→(ks.any fun r=>dr4 r l)=false→VRL h' A' Z' Zp' l ws
 | [],ws,hr,_=>by rw[VRL]at hr⊢;exact hr
 |a::l,ws,hr,hk=>by
  rw[VRL]at hr⊢
  obtain⟨w,ws',h1,h2,h3⟩:=hr
  obtain⟨k1,k2⟩:=mi7 ks a l hk
  exact⟨w,ws',h1,VR.move hz hp hs hs2 st h2 k1,VRL.move hz hp hs hs2 st h3 k2⟩
end
def FRV(h:H)(A:List AT)(Z Zp:Nat→Prop)(fr:VFr)(f:Fr):Prop:= ∀s a,fr s=some a→ ∃w,f s=some w∧VR h A Z Zp a w
end Go.Vm
namespace Go.Vm
open Go.Am
theorem ft8: ∀{p:List Nat} {a k c:AT} {cs:List AT} {i:Nat},a.get p=some k→k.kids=some cs→cs[i]? =some c→a.get (p++[i])=some c
 | [],a,k,c,cs,i,h1,h2,h3=>by cases h1;simp only[m51,AT.get,h2,h3]
 |j::p,a,k,c,cs,i,h1,h2,h3=>by
  simp only[rs6,AT.get]at h1⊢
  cases hk:a.kids with
  |none=>rw[hk]at h1;cases h1
  |some ds=>
   rw[hk]at h1
   simp only[]at h1⊢
   cases hj:ds[j]? with
   |none=>rw[hj]at h1;cases h1
   |some d=>rw[hj]at h1;exact ft8 (p:=p) h1 h2 h3
theorem kq1{A:List AT}{r:Nat}{p:List Nat}{k c:AT}{cs:List AT}{i:Nat}(h1:aget A r p=some k)(h2:k.kids=some cs)(h3:cs[i]? =some c):aget A r (p++[i])=some c:=by
 unfold aget at h1⊢
 cases ha:A[r]? with
 |none=>rw[ha]at h1;cases h1
 |some a=>rw[ha]at h1;exact ft8 h1 h2 h3
theorem xb8{cs:List AT}{i:Nat}{t:Tree}(h:(eraL cs)[i]? =some t): ∃c,cs[i]? =some c∧c.era=t:=by
 rw[dk4,us5]at h
 exact km1.1 h
theorem i47(cs:List AT):(eraL cs).length=cs.length:=by rw[dk4];simp
def base:AT→Option (Nat×Nat)
 | .sl o off _ _ _ _ _ _=>some (o,off)
 | .pt o _ _=>some (o,0)
 | .mp o _ _=>some (o,0)
 |_=>none
section
variable {h:H} {A:List AT} {Z Zp:Nat→Prop} {fr:VFr} {f:Fr}
theorem lw8(i:Inv h A Z Zp){r:Nat}{p:List Nat}{k:AT}(hk:aget A r p=some k):ok h Zp k:=by
 unfold aget at hk
 cases ha:A[r]? with
 |none=>rw[ha]at hk;cases hk
 |some a=>rw[ha]at hk;exact xf2 hk (ga5.1 i.okA a (vf6 ha))
theorem VRL.xs: ∀l:List Value,VRL h A Z Zp (l.map AV.x) l
 | []=> .nil
 |v::l=> .cons (by rw[VR]) (VRL.xs l)
theorem ah7{v:Value}(hc:closed v=true):ev f (.const v)=some v:=by
 simp only[ev];rw[if_pos hc]
theorem cj0(hf:FRV h A Z Zp fr f){o:Operand}{a:AV}(he:vev fr o=some a): ∃w,ev f o=some w∧VR h A Z Zp a w:=by
 cases o with
 |tmp t=>exact hf t a he
 |global n=>cases he
 |func g=>cases he;exact⟨_,rfl,by rw[VR];exact⟨[],rfl, .nil⟩⟩
 |const v=>
  cases v with
  |agg cs=>
   simp only[vev]at he
   split at he
   ·cases he
    refine⟨.agg cs,ah7 (v:= .agg cs) ‹_›, ?_⟩
    rw[VR]
    exact⟨cs.toList,by simp,VRL.xs _⟩
   ·cases he
  |tuple cs=>cases he
  |_=>
   simp only[vev]at he
   split at he
   ·cases he
    exact⟨_,ah7 ‹_›,by rw[VR]⟩
   ·cases he
theorem hv3(hf:FRV h A Z Zp fr f){o:Operand}{v:Value}(he:vx fr o=some v):ev f o=some v:=by
 unfold vx at he
 split at he
 ·rename_i h1
  cases he
  obtain⟨w,h2,h3⟩:=cj0 hf h1
  rw[VR]at h3
  rw[h2,h3]
 ·cases he
theorem c07(hf:FRV h A Z Zp fr f): ∀{os:List Operand} {vs:List Value},vxs fr os=some vs→evs f os=some vs
 | [],vs,he=>by cases he;rfl
 |o::os,vs,he=>by
  simp only[vxs]at he
  split at he
  ·rename_i h1 h2
   cases he
   simp only[evs,hv3 hf h1,c07 hf h2]
  ·cases he
theorem fk3(hf:FRV h A Z Zp fr f){o:Option Operand}{v:Option Int}(he:vxo fr o=some v):evo f o=some v:=by
 cases o with
 |none=>exact he
 |some o=>
  simp only[vxo]at he
  split at he
  ·rename_i h1
   simp only[evo,hv3 hf h1]
   exact he
  ·cases he
theorem ys0(hf:FRV h A Z Zp fr f): ∀{os:List Operand} {l:List AV},vevs fr os=some l→ ∃ws,evs f os=some ws∧VRL h A Z Zp l ws
 | [],l,he=>by cases he;exact⟨[],rfl, .nil⟩
 |o::os,l,he=>by
  simp only[vevs]at he
  split at he
  ·rename_i h1 h2
   cases he
   obtain⟨w,h3,h4⟩:=cj0 hf h1
   obtain⟨ws,h5,h6⟩:=ys0 hf h2
   exact⟨w::ws,by simp only[evs,h3,h5], .cons h4 h6⟩
  ·cases he
mutual
theorem g04{b:Bool}: ∀{t:Tree} {a:AV} {w:Value},ofz b t=some a→Rd h (pick b Z Zp) t w→VR h A Z Zp a w
 | .v x,a,w,he,hr=>by cases he;rw[Rd]at hr;rw[VR];exact hr
 | .sl nl e u cs,a,w,he,hr=>by cases he;rw[VR];exact hr
 | .pt e cs,a,w,he,hr=>by cases he;rw[VR];exact hr
 | .mp e cs,a,w,he,hr=>by cases he;rw[VR];exact hr
 | .fn g cs,a,w,he,hr=>by
   rw[ofz]at he
   split at he
   ·cases he
    rw[Rd]at hr
    obtain⟨caps,h1,h2⟩:=hr
    rw[VR]
    exact⟨caps,h1,zi2 ‹_› h2⟩
   ·cases he
 | .fz t,a,w,he,hr=>by
   rw[ofz]at he
   rw[Rd]at hr
   exact g04 he hr
 | .junk,a,w,he,hr=>by cases he
 | .ex t,a,w,he,hr=>by
   cases t with
   |sl=>cases he;rw[VR];exact hr
   |pt=>cases he;rw[VR];exact hr
   |mp=>cases he
   |_=>cases he
theorem zi2{b:Bool}: ∀{ts:List Tree} {l:List AV} {ws:List Value},ofzL b ts=some l→RdL h (pick b Z Zp) ts ws→VRL h A Z Zp l ws
 | [],l,ws,he,hr=>by cases he;rw[RdL]at hr;rw[VRL];exact hr
 |t::ts,l,ws,he,hr=>by
  rw[ofzL]at he
  split at he
  ·cases he
   rw[RdL]at hr
   obtain⟨w,ws',h1,h2,h3⟩:=hr
   rw[VRL]
   exact⟨w,ws',h1,g04 ‹_› h2,zi2 ‹_› h3⟩
  ·cases he
end
theorem nm1(i:Inv h A Z Zp){r:Nat}{p:List Nat}{k:AT}{cs:List AT}(hk:aget A r p=some k)(hc:k.kids=some cs)(hne:cs≠[]):
 ∃o off row,base k=some (o,off)∧o∈k.fp∧h.row o=some row∧row.own=true∧(∀j c,cs[j]? =some c→row.cells[off+j]? =some c.val):=by
 have hok:=lw8 i hk
 cases k with
 |sl o off n c nl e u l=>
  cases hc
  rw[ok]at hok
  obtain⟨row,h1,h2,h3,h4,h5,h6,h7,h8,h9,h10⟩:=hok
  refine⟨o,off,row,rfl,by rw[AT.fp];simp,h1,h2,fun j c hj=> ?_⟩
  have hlt:=(ck5.1 hj).1
  have h11:((row.cells.drop off).take cs.length)[j]? =some c.val:=by rw[h9,us5,hj];rfl
  rw[td4,if_pos hlt,s96]at h11
  exact h11
 |pt o e l=>
  cases hc
  rw[ok]at hok
  obtain⟨row,h1,h2,h3,h4⟩:=hok
  refine⟨o,0,row,rfl,by rw[AT.fp];simp,h1,h2.1,fun j c hj=> ?_⟩
  rw[e03,h3,us5,hj];rfl
 |mp o e l=>
  cases hc
  rw[ok]at hok
  obtain⟨row,h1,h2,h3,h4⟩:=hok
  refine⟨o,0,row,rfl,by rw[AT.fp];simp,h1,h2.1,fun j c hj=> ?_⟩
  rw[e03,h3,us5,hj];rfl
 |nil=>cases hc;exact absurd rfl hne
 |v=>cases hc
 |fn=>cases hc
 |fz=>cases hc
 |junk=>cases hc
theorem nm0{k:AT}{cs:List AT}(hc:k.kids=some cs):k.isV=false:=by
 cases k<;>first|rfl|cases hc
theorem a47{k:AT}{ts:List Tree}(h:k.era.kids=some ts): ∃cs,k.kids=some cs∧eraL cs=ts:=by
 rw[wb1]at h;exact km1.1 h
theorem wd1{r:Nat}{p:List Nat}{j:Nat}{w:Value}{k:AT}{o off:Nat}(hr:VR h A Z Zp (.cell r p j) w)(hk:aget A r p=some k)(hb:base k=some (o,off)):w= .pointer (some ⟨o,off+j,none⟩):=by
 rw[VR]at hr
 cases k with
 |sl o' off' n c nl e u l=>cases hb;exact hr.2 _ hk rfl
 |pt o' e l=>cases hb;exact hr.2 _ hk rfl
 |mp o' e l=>cases hb;exact hr.2 _ hk rfl
 |_=>cases hb
theorem ok8{b:Bool}{e:Nat}{cs:List Tree}{w:Value}(hr:Rd h (pick b Z Zp) (.pt e cs) w):VR h A Z Zp (.fzc b cs 0) w:=by
 rw[Rd]at hr
 obtain⟨o,row,h1,h2,h3,h4⟩:=hr
 rw[VR]
 refine⟨o,0,row,h1,h2,h3, ?_⟩
 rw[sv4,sp3 (by rw[h4.len];exact jj6 _)]
 exact h4
theorem n52{k:AT}{t:Tree}(h:k.era= .fz t): ∃w,k= .fz w t:=by
 cases k<;>first|(cases h;done)|skip
 cases h;exact⟨_,rfl⟩
theorem pq5{k:AT}{e:Nat}{cs:List Tree}(h:k.era= .pt e cs): ∃o l,k= .pt o e l∧eraL l=cs:=by
 cases k<;>first|(cases h;done)|skip
 rw[AT.era]at h;cases h;exact⟨_,_,rfl,rfl⟩
theorem jg7{k:AT}{nl e u:Nat}{cs:List Tree}(h:k.era= .sl nl e u cs):(k= .nil nl e u∧cs=[])∨ ∃o off n c l,k= .sl o off n c nl e u l∧eraL l=cs:=by
 cases k<;>first|(cases h;done)|skip
 ·rw[AT.era]at h;cases h;exact .inr ⟨_,_,_,_,_,rfl,rfl⟩
 ·rw[AT.era]at h;cases h;exact .inl ⟨rfl,rfl⟩
theorem dm7(i:Inv h A Z Zp){a:AV}{pa:VP}{w:Value}(he:vptr (A.map AT.era) a=some pa)(hr:VR h A Z Zp a w):VR h A Z Zp pa.av w:=by
 cases a with
 |cell r p i=>cases he;exact hr
 |fzc b cs i=>cases he;exact hr
 |own r p=>
  simp only[vptr]at he
  rw[VR]at hr
  split at he
  ·rename_i h1
   cases he
   obtain⟨k,h2,h3⟩:=mc9 h1
   obtain⟨o,l,rfl,_⟩:=pq5 h3
   show VR h A Z Zp (.cell r p 0) w
   rw[VR]
   refine⟨hr.1,fun b hb hbv=> ?_⟩
   rw[h2]at hb;cases hb
   exact(hr.2 _ h2 rfl).symm
  ·rename_i h1
   cases he
   obtain⟨k,h2,h3⟩:=mc9 h1
   obtain⟨w',rfl⟩:=n52 h3
   have:=lw8 i h2
   rw[ok]at this
   have hw:w'=w:=hr.2 _ h2 rfl
   subst hw
   exact ok8 (b:=true) this
  ·cases he
 |fz b t=>
  cases t with
  |pt e cs=>
   cases he
   rw[VR]at hr
   exact ok8 hr
  |mp e cs=>cases he
  |ex t=>
   cases t with
   |pt e cs=>
    cases he
    rw[VR,Rd]at hr
    exact ok8 hr.rd
   |mp e cs=>cases he
   |_=>cases he
  |_=>cases he
 |_=>cases he
theorem hj6(i:Inv h A Z Zp){pa:VP}{a:AV}{w:Value}(he:vy4 (A.map AT.era) pa=some a)(hr:VR h A Z Zp pa.av w): ∃o off x,w= .pointer (some ⟨o,off,none⟩)∧h.ld1 o off=some x∧VR h A Z Zp a x:=by
 cases pa with
 |o r p j=>
  simp only[vy4]at he
  split at he
  ·rename_i s h1
   split at he
   ·rename_i ts h2
    split at he
    ·rename_i t h3
     obtain⟨k,h4,h5⟩:=mc9 h1
     subst h5
     obtain⟨cs,h6,h7⟩:=a47 h2
     subst h7
     obtain⟨c,h8,h9⟩:=xb8 h3
     subst h9
     obtain⟨o,off,row,b1,b2,b3,b4,b5⟩:=nm1 i h4 h6 (by intro e;subst e;simp at h8)
     have hw:=wd1 hr h4 b1
     have hld:h.ld1 o (off+j)=some c.val:=by rw[ng1 b3];exact b5 j c h8
     refine⟨o,off+j,c.val,hw,hld, ?_⟩
     have hsn:=kq1 h4 h6 h8
     cases c with
     |v x=>cases he;rw[VR];rfl
     |fn g=>cases he;rw[VR];exact⟨[],rfl, .nil⟩
     |junk=>cases he
     |fz w' t=>
      have:=lw8 i hsn
      rw[ok]at this
      exact g04 (b:=true) he this
     |sl o' off' n c nl e u l=>
      cases he
      rw[VR]
      exact⟨vs7 h4,fun b hb _=>by rw[hsn]at hb;cases hb;rfl⟩
     |nil nl e u=>
      cases he
      rw[VR]
      exact⟨vs7 h4,fun b hb _=>by rw[hsn]at hb;cases hb;rfl⟩
     |pt o' e l=>
      cases he
      rw[VR]
      exact⟨vs7 h4,fun b hb _=>by rw[hsn]at hb;cases hb;rfl⟩
     |mp o' e l=>
      cases he
      rw[VR]
      exact⟨vs7 h4,fun b hb _=>by rw[hsn]at hb;cases hb;rfl⟩
    ·cases he
   ·cases he
  ·cases he
 |f b cs j=>
  simp only[vy4]at he
  split at he
  ·rename_i t h1
   have hr:VR h A Z Zp (.fzc b cs j) w:=hr
   rw[VR]at hr
   obtain⟨o,off,row,e1,e2,e3,e4⟩:=hr
   obtain⟨x,e5,e6⟩:=e4.at h1
   rw[td4]at e5
   split at e5
   ·rw[s96]at e5
    exact⟨o,off+j,x,e1,by rw[ng1 e3];exact e5,g04 he e6⟩
   ·cases e5
  ·cases he
theorem kj4{pa:VP}{o off k:Nat}(hr:VR h A Z Zp pa.av (.pointer (some ⟨o,off,none⟩))):VR h A Z Zp (pa.off k).av (.pointer (some ⟨o,off+k,none⟩)):=by
 cases pa with
 |o r p j=>
  have hr:VR h A Z Zp (.cell r p j) _:=hr
  show VR h A Z Zp (.cell r p (j+k)) _
  rw[VR]at hr⊢
  refine⟨hr.1,fun b hb hv=> ?_⟩
  have:=hr.2 b hb hv
  split at this
  ·cases this;rw[q61]
  ·cases this;rw[q61]
  ·cases this;rw[q61]
  ·trivial
 |f b cs j=>
  have hr:VR h A Z Zp (.fzc b cs j) _:=hr
  show VR h A Z Zp (.fzc b cs (j+k)) _
  rw[VR]at hr⊢
  obtain⟨o',off',row,e1,e2⟩:=hr
  cases e1
  exact⟨o,off',row,by rw[q61],e2⟩
theorem bj0{pa:VP}{w:Value}(i:Inv h A Z Zp)(hl:k12 (A.map AT.era) pa=true)(hr:VR h A Z Zp pa.av w): ∃o off,w= .pointer (some ⟨o,off,none⟩):=by
 cases pa with
 |o r p j=>
  simp only[k12]at hl
  split at hl
  ·rename_i h1
   obtain⟨k,h2,h3⟩:=mc9 h1
   obtain⟨o,l,rfl,_⟩:=pq5 h3
   exact⟨_,_,wd1 hr h2 rfl⟩
  ·rename_i h1
   obtain⟨k,h2,h3⟩:=mc9 h1
   rcases jg7 h3 with⟨rfl,rfl⟩|⟨o,off,n,c,l,rfl,_⟩
   ·simp at hl
   ·exact⟨_,_,wd1 hr h2 rfl⟩
  ·cases hl
 |f b cs j=>
  have hr:VR h A Z Zp (.fzc b cs j) w:=hr
  rw[VR]at hr
  obtain⟨o,off,row,e1,_⟩:=hr
  exact⟨_,_,e1⟩
theorem uy9{h:H}{o off n:Nat}{ws:List Value}{x:Value}(h1:n=0∧ws=[]∨h.lds o off n=some ws)(h2:h.ld1 o (off+n)=some x):h.lds o off (n+1)=some (ws++[x]):=by
 unfold H.ld1 at h2
 unfold H.lds at h1⊢
 cases hr:h.row o with
 |none=>rw[hr]at h2;cases h2
 |some r=>
  rw[hr]at h1 h2
  simp only[]at h1 h2⊢
  have hlt:=(ck5.1 h2).1
  rw[if_pos (by omega)]
  have:(r.cells.drop off).take n=ws:=by
   rcases h1 with⟨rfl,rfl⟩|h1
   ·rfl
   ·rw[if_pos (by omega)]at h1;cases h1;rfl
  rw[da3,this,s96,h2];rfl
theorem es2(i:Inv h A Z Zp){pa:VP}{o off:Nat}(hr:VR h A Z Zp pa.av (.pointer (some ⟨o,off,none⟩))): ∀{n:Nat} {l:List AV},hq6 (A.map AT.era) pa n=some l→ ∃ws,(n=0∧ws=[]∨h.lds o off n=some ws)∧VRL h A Z Zp l ws
 |0,l,he=>by cases he;exact⟨[], .inl ⟨rfl,rfl⟩, .nil⟩
 |n+1,l,he=>by
  simp only[hq6]at he
  split at he
  ·rename_i l' x h1 h2
   cases he
   obtain⟨ws,h3,h4⟩:=es2 i hr h1
   obtain⟨o',off',y,e1,e2,e3⟩:=hj6 i h2 (kj4 hr)
   cases e1
   exact⟨ws++[y], .inr (uy9 h3 e2),h4.app (.cons e3 .nil)⟩
  ·cases he
theorem p03(i:Inv h A Z Zp){pa:VP}{w:Value}{n:Nat}{l:List AV}(hn:n≠0)(he:hq6 (A.map AT.era) pa n=some l)(hr:VR h A Z Zp pa.av w): ∃o off,w= .pointer (some ⟨o,off,none⟩):=by
 have h0: ∀(m:Nat) (l:List AV),hq6 (A.map AT.era) pa (m+1)=some l→ ∃x,vy4 (A.map AT.era) pa=some x:=by
  intro m
  induction m with
  |zero=>
   intro l he
   simp only[hq6]at he
   split at he
   ·rename_i x _ h2
    have:pa.off 0=pa:=by cases pa<;>rfl
    rw[this]at h2
    exact⟨_,h2⟩
   ·cases he
  |succ m ih=>
   intro l he
   rw[hq6]at he
   split at he
   ·rename_i h1 _;exact ih _ h1
   ·cases he
 obtain⟨m,rfl⟩: ∃m,n=m+1:=⟨n-1,by omega⟩
 obtain⟨x,hx⟩:=h0 m l he
 obtain⟨o,off,_,e,_⟩:=hj6 i hx hr
 exact⟨o,off,e⟩
def SR(h:H)(A:List AT)(Z Zp:Nat→Prop):VS→Value→Prop
 | .o r p nl e u cs lo n,w=> ∃k nl0,aget A r p=some k∧(nl=nl0∨nl=if nl0=0 then 0 else 2)∧(nl=1→lo=0∧n*u=cs.length)∧(lo+n)*u≤cs.length∧0<u∧((k= .nil nl0 e u∧cs=[]∧n=0∧lo=0∧nl0≠0∧w= .slice none 0 0)∨
    ∃o off n0 c0 l lo' c',k= .sl o off n0 c0 nl0 e u l∧eraL l=cs∧(nl0=1→cs≠[])∧w= .slice (some ⟨o,off+lo'*u,none⟩) n c'∧n≤c'∧lo'≤lo∧(0<n→lo'=lo))
 | .f b nl u cs,w=> ∃e,Rd h (pick b Z Zp) (.sl nl e u cs) w
 | .nil,w=>w= .slice none 0 0
theorem cd4(i:Inv h A Z Zp){a:AV}{S:VS}{w:Value}(he:vsl (A.map AT.era) a=some S)(hr:VR h A Z Zp a w):SR h A Z Zp S w:=by
 cases a with
 |own r p=>
  simp only[vsl]at he
  rw[VR]at hr
  split at he
  ·rename_i nl e u cs h1
   cases he
   obtain⟨k,h2,h3⟩:=mc9 h1
   have hok:=lw8 i h2
   rcases jg7 h3 with⟨rfl,rfl⟩|⟨o,off,n,c,l,rfl,rfl⟩
   ·rw[ok]at hok
    have hw:=hr.2 _ h2 rfl
    refine⟨_,nl,h2, .inl rfl,fun _=>⟨rfl,by simp⟩,by simp,hok.2, .inl ⟨rfl,rfl,by simp,rfl,hok.1,hw.symm⟩⟩
    all_goals simp
   ·rw[ok]at hok
    obtain⟨row,h4,h5,h6,h7,h8,h9,h10,h11,h12,h13⟩:=hok
    have hw:=hr.2 _ h2 rfl
    have hn:(eraL l).length/u=n:=by rw[i47,←h9,jw5 _ h8]
    rw[hn]
    refine⟨_,nl,h2, .inl rfl,fun _=>⟨rfl,by rw[i47];exact h9⟩,by rw[i47,e03,h9];exact jj6 _,h8, .inr ⟨o,off,n,c,l,0,c,rfl,rfl,fun e1 e2=>h11.1 e1 ?_,by rw[v88,zy9];exact hw.symm,h10,jj6 _,fun _=>rfl⟩⟩
    have:=congrArg List.length e2
    rw[i47]at this
    exact js1 this
  ·rename_i nl e u cs h1
   cases he
   obtain⟨k,h2,h3⟩:=mc9 h1
   obtain⟨w',rfl⟩:=n52 h3
   have:=lw8 i h2
   rw[ok]at this
   have hw:w'=w:=hr.2 _ h2 rfl
   subst hw
   exact⟨e,this⟩
  ·cases he
 |sub r p u0 lo n=>
  simp only[vsl]at he
  rw[VR]at hr
  split at he
  ·rename_i nl e u cs h1
   split at he
   ·rename_i hc
    obtain⟨hc,rfl⟩:=hc
    cases he
    obtain⟨k,h2,h3⟩:=mc9 h1
    have hok:=lw8 i h2
    have hnl1: ¬(if nl=0 then 0 else 2)=1:=by split<;>omega
    rcases jg7 h3 with⟨rfl,rfl⟩|⟨o,off,n',c,l,rfl,rfl⟩
    ·rw[ok]at hok
     obtain⟨e1,e2⟩:n=0∧w= .slice none 0 0:=hr.2 _ h2 rfl
     subst e1;subst e2
     have hlo:lo=0:=by
      have h0:=hok.2
      have h1:lo*u=0:=by simpa using hc
      rcases Nat.mul_eq_zero.1 h1 with h1|h1
      ·exact h1
      ·omega
     subst hlo
     exact⟨_,nl,h2, .inr rfl,fun e=>absurd e hnl1,by simp,hok.2, .inl ⟨rfl,rfl,rfl,rfl,hok.1,rfl⟩⟩
    ·rw[ok]at hok
     obtain⟨row,h4,h5,h6,h7,h8,h9,h10,h11,h12,h13⟩:=hok
     obtain⟨lo',c',e1,e2,e3,e4⟩:=hr.2 _ h2 rfl
     refine⟨_,nl,h2, .inr rfl,fun e=>absurd e hnl1,hc,h8, .inr ⟨o,off,n',c,l,lo',c',rfl,rfl,fun e1 e2=>h11.1 e1 ?_,e1,e2,e3,e4⟩⟩
     have:=congrArg List.length e2
     rw[i47]at this
     exact js1 this
   ·cases he
  ·cases he
 |fz b t=>
  cases t with
  |sl nl e u cs=>cases he;rw[VR]at hr;exact⟨e,hr⟩
  |ex t=>
   cases t with
   |sl nl e u cs=>cases he;rw[VR,Rd]at hr;exact⟨e,hr.rd⟩
   |_=>cases he
  |_=>cases he
 |x v=>
  simp only[vsl]at he
  split at he
  ·rename_i e;cases e
  ·rename_i e;cases e
  ·rename_i e;cases e
  ·rename_i e;cases e
  ·rename_i e;cases e;cases he;rw[VR]at hr;exact hr
  ·cases he
 |_=>cases he
end
end Go.Vm
namespace Go.Vm
open Go.Am
section
variable {h:H} {A:List AT} {Z Zp:Nat→Prop} {fr:VFr} {f:Fr}
theorem yi5{k:AT}{e:Nat}{cs:List Tree}(h:k.era= .mp e cs): ∃o l,k= .mp o e l∧eraL l=cs:=by
 cases k<;>first|(cases h;done)|skip
 rw[AT.era]at h;cases h;exact⟨_,_,rfl,rfl⟩
theorem at0{kd:IntKind}{k:Int}: ∀{cs:List Tree} {ws:List Value} (j0:Nat) {r:Option Nat},ws.length=cs.length→(∀(i:Nat) (x:Value),cs[i]? =some (Tree.v x)→ws[i]? =some x)→kg9 kd k j0 cs=some r→
 (r=none∧gn2 kd k ws=some none)∨ ∃j v,r=some (j0+j)∧ws[j]? =some v∧gn2 kd k ws=some (some v)
 | [],ws,j0,r,hl,hv,he=>by
   obtain rfl:=js1 hl
   cases he
   exact .inl ⟨rfl,rfl⟩
 | [t],ws,j0,r,hl,hv,he=>by
   cases t<;>first|(cases he;done)|skip
   rename_i x
   cases x<;>cases he
 |t::t2::cs,ws,j0,r,hl,hv,he=>by
  obtain⟨w,w2,ws,rfl⟩: ∃w w2 ws',ws=w::w2::ws':=by
   cases ws with
   |nil=>simp at hl
   |cons w ws=>cases ws with
    |nil=>simp at hl
    |cons w2 ws=>exact⟨w,w2,ws,rfl⟩
  have ih:=fun j0 r=>at0 (kd:=kd) (k:=k) (cs:=cs) (ws:=ws) j0 (r:=r) (by simpa using hl) (fun i x hi=>by simpa using hv (i+2) x (by simpa using hi))
  cases t<;>try (cases he;done)
  rename_i x
  cases x<;>try (cases he;done)
  rename_i kd' j
  have hw:w= .int kd' j:=by simpa using hv 0 _ rfl
  subst hw
  simp only[kg9]at he
  simp only[gn2]
  split at he
  ·rename_i hk
   rw[if_pos hk]
   split at he
   ·rename_i hj
    cases he
    rw[if_pos hj]
    exact .inr ⟨1,w2,rfl,rfl,rfl⟩
   ·rename_i hj
    rw[if_neg hj]
    rcases ih _ _ he with h1|⟨j',v,h1,h2,h3⟩
    ·exact .inl h1
    ·exact .inr ⟨j'+2,v,by rw[h1];congr 1;omega,by simpa using h2,h3⟩
  ·cases he
theorem vo2(i:Inv h A Z Zp){a:AV}{M:VM}{w:Value}(he:vmap (A.map AT.era) a=some M)(hr:VR h A Z Zp a w): ∃o row,w= .map (some o)∧h.row o=some row∧row.own=true∧row.cells.length=M.cs.length∧
 (∀(j:Nat) (x:Value),M.cs[j]? =some (Tree.v x)→row.cells[j]? =some x)∧ ∀(j:Nat) (t:Tree) (a:AV),M.cs[j]? =some t→VM.ld j t M=some a→ ∃x,row.cells[j]? =some x∧VR h A Z Zp a x:=by
 have frz: ∀{b:Bool} {e:Nat} {cs:List Tree} {w:Value},Rd h (pick b Z Zp) (.mp e cs) w→ ∃o row,w= .map (some o)∧h.row o=some row∧row.own=true∧row.cells.length=(VM.f b cs).cs.length∧
  (∀(j:Nat) (x:Value),(VM.f b cs).cs[j]? =some (Tree.v x)→row.cells[j]? =some x)∧ ∀(j:Nat) (t:Tree) (a:AV),(VM.f b cs).cs[j]? =some t→VM.ld j t (.f b cs)=some a→ ∃x,row.cells[j]? =some x∧VR h A Z Zp a x:=by
  intro b e cs w hr
  rw[Rd]at hr
  obtain⟨o,row,h1,h2,h3,h4⟩:=hr
  refine⟨o,row,h1,h3.1,h3.2,h4.len,fun j x hj=> ?_,fun j t a hj ha=> ?_⟩
  ·obtain⟨w',k1,k2⟩:=h4.at hj
   rw[Rd]at k2
   rw[k1,k2]
  ·obtain⟨w',k1,k2⟩:=h4.at hj
   exact⟨w',k1,g04 ha k2⟩
 cases a with
 |own r p=>
  simp only[vmap]at he
  rw[VR]at hr
  split at he
  ·rename_i h1
   cases he
   obtain⟨k,h2,h3⟩:=mc9 h1
   obtain⟨o,l,rfl,rfl⟩:=yi5 h3
   have hk:=lw8 i h2
   rw[ok]at hk
   obtain⟨row,k1,k2,k3,k4⟩:=hk
   have hw:AT.val (.mp o _ l)=w:=hr.2 _ h2 rfl
   subst hw
   refine⟨o,row,rfl,k1,k2.1,by rw[k3];show _=(eraL l).length;rw[i47,q11],fun j x hj=> ?_,fun j t a hj ha=> ?_⟩
   ·obtain⟨b,b1,b2⟩:=xb8 (show(eraL l)[j]? =some (.v x)from hj)
    rw[k3,us5,b1]
    cases b<;>first|(cases b2;rfl)|(cases b2;done)
   ·have hcell:VR h A Z Zp (VP.o r p j).av (.pointer (some ⟨o,0+j,none⟩)):=by
     show VR h A Z Zp (.cell r p j) _
     rw[VR]
     refine⟨hr.1,fun b hb hbv=> ?_⟩
     rw[h2]at hb;cases hb
     rfl
    have hld:vy4 (A.map AT.era) (.o r p j)=some a:=by
     simp only[vy4,h1]
     show(match(eraL l)[j]? with|some k=>ia8 r p j k|none=>none)=some a
     rw[show(eraL l)[j]? =some t from hj]
     exact ha
    obtain⟨o',off,x,e1,e2,e3⟩:=hj6 i hld hcell
    cases e1
    unfold H.ld1 at e2
    rw[k1]at e2
    exact⟨x,by simpa using e2,e3⟩
  ·rename_i h1
   cases he
   obtain⟨k,h2,h3⟩:=mc9 h1
   obtain⟨w',rfl⟩:=n52 h3
   have:=lw8 i h2
   rw[ok]at this
   have hw:w'=w:=hr.2 _ h2 rfl
   subst hw
   exact frz (b:=true) this
  ·cases he
 |fz b t=>
  cases t with
  |mp e cs=>
   cases he
   rw[VR]at hr
   exact frz hr
  |_=>cases he
 |_=>cases he
theorem dz6(i:Inv h A Z Zp)(hf:FRV h A Z Zp fr f){op:AOp}(hnb: ∀agg n x,op≠ .ldb agg n x){a:AV}(he:lu1 fr (A.map AT.era) op=some a): ∃v,aop f h op=some (some v,h)∧VR h A Z Zp a v:=by
 cases op with
 |mv x=>
  simp only[lu1]at he
  obtain⟨w,h2,h3⟩:=cj0 hf he
  exact⟨w,by simp only[aop,h2],h3⟩
 |mget kd z m k=>
  simp only[lu1]at he
  split at he
  ·rename_i b kd' j h1 h2
   split at he
   ·rename_i hk
    subst hk
    split at he
    ·rename_i M h4
     obtain⟨w,k2,k3⟩:=cj0 hf h1
     obtain⟨o,row,rfl,q1,q2,q3,q4,q5⟩:=vo2 i h4 k3
     have k4:=hv3 hf h2
     split at he
     ·rename_i h5
      cases he
      rcases at0 0 q3 q4 h5 with⟨_,e1⟩|⟨_,_,e1,_⟩
      ·exact⟨z,oe0.2 ⟨o,j,row,none,k2,k4,q1,q2,e1,rfl⟩,by rw[VR]⟩
      ·cases e1
     ·rename_i j' h5
      split at he
      ·rename_i t h6
       obtain⟨x,e2,e3⟩:=q5 _ _ _ h6 he
       rcases at0 0 q3 q4 h5 with⟨e1,_⟩|⟨j2,v,e1,e4,e5⟩
       ·cases e1
       ·rw[e03]at e1
        cases e1
        rw[e2]at e4
        cases e4
        exact⟨x,oe0.2 ⟨o,j,row,some x,k2,k4,q1,q2,e5,rfl⟩,e3⟩
      ·cases he
     ·cases he
    ·cases he
   ·cases he
  ·cases he
 |ld agg n x=>
  simp only[lu1]at he
  split at he
  ·rename_i b h1
   obtain⟨w,h2,h3⟩:=cj0 hf h1
   split at he
   ·rename_i pa h4
    have h5:=dm7 i h4 h3
    cases agg with
    |true=>
     simp only[]at he
     split at he
     ·cases he
     ·rename_i hn
      split at he
      ·rename_i l h6
       cases he
       obtain⟨o,off,rfl⟩:=p03 i hn h6 h5
       obtain⟨ws,h7,h8⟩:=es2 i h5 h6
       rcases h7 with⟨h7,_⟩|h7
       ·exact absurd h7 hn
       ·exact⟨.agg ws.toArray,by simp only[aop,h2];rw[if_neg (by simp)];simp only[h7],by rw[VR];exact⟨ws,rfl,h8⟩⟩
      ·cases he
    |false=>
     obtain⟨o,off,x,rfl,h6,h7⟩:=hj6 i he h5
     exact⟨x,by simp only[aop,h2];rw[if_neg (by simp)];simp only[h6],h7⟩
   ·cases he
  ·cases he
 |nilck x=>
  simp only[lu1]at he
  split at he
  ·rename_i b h1
   obtain⟨w,h2,h3⟩:=cj0 hf h1
   split at he
   ·rename_i pa h4
    split at he
    ·rename_i hl
     cases he
     obtain⟨o,off,rfl⟩:=bj0 i hl (dm7 i h4 h3)
     exact⟨_,by simp only[aop,h2],h3⟩
    ·cases he
   ·cases he
  ·cases he
 |faddr k x=>
  simp only[lu1]at he
  split at he
  ·rename_i b h1
   obtain⟨w,h2,h3⟩:=cj0 hf h1
   split at he
   ·rename_i pa h4
    split at he
    ·rename_i hl
     cases he
     have h5:=dm7 i h4 h3
     obtain⟨o,off,rfl⟩:=bj0 i hl h5
     exact⟨_,by simp only[aop,h2];rw[if_neg (by simp)],kj4 h5⟩
    ·cases he
   ·cases he
  ·cases he
 |fld agg off n x=>
  simp only[lu1]at he
  split at he
  ·rename_i cs h1
   obtain⟨w,h2,h3⟩:=cj0 hf h1
   rw[VR]at h3
   obtain⟨ws,rfl,h4⟩:=h3
   cases agg with
   |true=>
    cases he
    refine⟨.agg ((ws.drop off).take n).toArray, ?_,by rw[VR];exact⟨_,rfl,h4.sub off n⟩⟩
    simp only[aop,h2]
    congr 3
    simp[List.extract_eq_take_drop]
   |false=>
    simp only[]at he
    split at he
    ·rename_i b h5
     cases he
     obtain⟨v,h6,h7⟩:=h4.at h5
     exact⟨v,by simp only[aop,h2];rw[y64,h6],h7⟩
    ·cases he
  ·cases he
 |iaddr size x y=>
  simp only[lu1]at he
  split at he
  ·rename_i b k j h1 h1'
   obtain⟨w,h2,h3⟩:=cj0 hf h1
   have hj:=hv3 hf h1'
   split at he
   ·rename_i r p nl e u cs lo n h4
    split at he
    ·rename_i hc
     obtain⟨c1,c2,c3⟩:=hc
     cases he
     obtain⟨kk,nl0,q1,q2,q3,q4,q5,q6⟩:=cd4 i h4 h3
     rcases q6 with⟨_,_,e0,_⟩|⟨o,off,n0,c0,l,lo',c',rfl,rfl,q7,rfl,q8,q9',q9⟩
     ·omega
     ·have q10:=q9 (by omega)
      refine⟨_,by simp only[aop,h2,hj];rw[if_pos (by omega),if_neg (by simp)], ?_⟩
      rw[VR]
      refine⟨vs7 q1,fun b hb _=> ?_⟩
      rw[q1]at hb;cases hb
      show _=_
      rw[q10,c3,ur9,q61]
    ·cases he
   ·rename_i b' nl u cs h4
    split at he
    ·rename_i hc
     obtain⟨c1,c2,c3⟩:=hc
     cases he
     obtain⟨e,q⟩:=cd4 i h4 h3
     rw[Rd]at q
     rcases q with⟨rfl,_⟩|⟨o,off,n,c,row,rfl,q2,q3,q4,q5,q6,q7,q8,q9⟩
     ·simp at c2
     ·have:j.toNat<n:=by
       rw[←q6]at c2
       exact Nat.lt_of_mul_lt_mul_right c2
      refine⟨_,by simp only[aop,h2,hj];rw[if_pos (by omega),if_neg (by simp)], ?_⟩
      rw[VR]
      exact⟨o,off,row,by rw[c3],q2,q3,q9⟩
    ·cases he
   ·cases he
  ·cases he
 |iaddrA len size x y=>
  simp only[lu1]at he
  split at he
  ·rename_i b k j h1 h1'
   obtain⟨w,h2,h3⟩:=cj0 hf h1
   have hj:=hv3 hf h1'
   split at he
   ·rename_i pa h4
    split at he
    ·rename_i hc
     cases he
     have h5:=dm7 i h4 h3
     obtain⟨o,off,rfl⟩:=bj0 i hc.2.2 h5
     exact⟨_,by simp only[aop,h2,hj];rw[if_pos ⟨hc.1,hc.2.1⟩,if_neg (by simp)],kj4 h5⟩
    ·cases he
   ·cases he
  ·cases he
 |idxA len size agg x y=>
  simp only[lu1]at he
  split at he
  ·rename_i cs k j h1 h1'
   obtain⟨w,h2,h3⟩:=cj0 hf h1
   have hj:=hv3 hf h1'
   rw[VR]at h3
   obtain⟨ws,rfl,h4⟩:=h3
   split at he
   ·rename_i hc
    cases agg with
    |true=>
     cases he
     refine⟨.agg ((ws.drop (j.toNat*size)).take size).toArray, ?_,by rw[VR];exact⟨_,rfl,h4.sub _ _⟩⟩
     simp only[aop,h2,hj]
     rw[if_pos hc]
     congr 3
     simp[List.extract_eq_take_drop]
    |false=>
     simp only[]at he
     split at he
     ·rename_i b h5
      cases he
      obtain⟨v,h6,h7⟩:=h4.at h5
      exact⟨v,by simp only[aop,h2,hj];rw[if_pos hc,y64,h6],h7⟩
     ·cases he
   ·cases he
  ·cases he
 |ext k x=>
  simp only[lu1]at he
  split at he
  ·rename_i cs h1
   obtain⟨w,h2,h3⟩:=cj0 hf h1
   rw[VR]at h3
   obtain⟨ws,rfl,h4⟩:=h3
   split at he
   ·rename_i b h5
    cases he
    obtain⟨v,h6,h7⟩:=h4.at h5
    exact⟨v,by simp only[aop,h2];rw[y64,h6],h7⟩
   ·cases he
  ·cases he
 |capt g n k x=>
  simp only[lu1]at he
  split at he
  ·rename_i f cs h1
   obtain⟨w,h2,h3⟩:=cj0 hf h1
   rw[VR]at h3
   obtain⟨ws,rfl,h4⟩:=h3
   split at he
   ·rename_i hg
    split at he
    ·rename_i b h5
     cases he
     obtain⟨v,h6,h7⟩:=h4.at h5
     refine⟨v, ?_,h7⟩
     simp only[aop,h2]
     rw[if_pos ⟨hg.1,by rw[List.size_toArray,h4.len];exact hg.2⟩,y64,h6]
    ·cases he
   ·cases he
  ·cases he
 |ldb agg n x=>exact absurd rfl (hnb _ _ _)
 |_=>cases he
theorem rp0{R:Rts}{a:AV}{pa:VP}(h:vbx R a=some pa):vptr R a=some pa:=by
 unfold vbx at h
 split at h
 ·split at h
  ·rename_i h1
   simp only[vptr,h1];exact h
  ·cases h
 ·split at h
  ·exact h
  ·cases h
 ·cases h
theorem sc0{R:Rts}{agg:Bool}{n:Nat}{x:Operand}{a:AV}(he:lu1 fr R (.ldb agg n x)=some a):lu1 fr R (.ld agg n x)=some a∧ ∃b pa,vev fr x=some b∧vbx R b=some pa:=by
 simp only[lu1]at he⊢
 split at he
 ·rename_i b h1
  split at he
  ·rename_i pa h2
   rw[rp0 h2]
   exact⟨he,b,pa,h1,h2⟩
  ·cases he
 ·cases he
theorem pc3(i:Inv h A Z Zp){a:AV}{pa:VP}{w:Value}(he:vbx (A.map AT.era) a=some pa)(hr:VR h A Z Zp a w): ∃o off r,w= .pointer (some ⟨o,off,none⟩)∧h.row o=some r∧r.unit=0:=by
 unfold vbx at he
 split at he
 ·split at he
  ·rename_i r p e cs h1
   obtain⟨k,h2,h3⟩:=mc9 h1
   obtain⟨o,l,rfl,_⟩:=pq5 h3
   have:=lw8 i h2
   rw[ok]at this
   obtain⟨r,k1,k2,_⟩:=this
   rw[VR]at hr
   exact⟨o,0,r,(hr.2 _ h2 rfl).symm,k1,k2.2⟩
  ·cases he
 ·split at he
  ·rename_i r p j _ e cs h1
   obtain⟨k,h2,h3⟩:=mc9 h1
   obtain⟨o,l,rfl,_⟩:=pq5 h3
   have:=lw8 i h2
   rw[ok]at this
   obtain⟨r,k1,k2,_⟩:=this
   exact⟨o,0+j,r,wd1 hr h2 rfl,k1,k2.2⟩
  ·cases he
 ·cases he
theorem look_ok(i:Inv h A Z Zp)(hf:FRV h A Z Zp fr f){op:AOp}{a:AV}(he:lu1 fr (A.map AT.era) op=some a): ∃v,aop f h op=some (some v,h)∧VR h A Z Zp a v:=by
 cases hop:op with
 |ldb agg n x=>
  rw[hop]at he
  obtain⟨h1,b,pa,h2,h3⟩:=sc0 he
  obtain⟨v,k1,k2⟩:=dz6 i hf (fun _ _ _ h=>by cases h) h1
  obtain⟨w,k3,k4⟩:=cj0 hf h2
  obtain⟨o,off,r,rfl,k5,k6⟩:=pc3 i h3 k4
  refine⟨v, ?_,k2⟩
  rw[fd7,if_pos (by unfold bx boxed;simp only[k3,k5,k6];rfl)]
  exact k1
 |_=>rw[←hop];exact dz6 i hf (fun _ _ _ h=>by rw[hop]at h;cases h) he
theorem cz0{h h':H}(hp:h<+:h'){op:AOp}(hnb: ∀agg n x,op≠ .ldb agg n x){a:AV}{R:Rts}(hl:lu1 fr R op=some a){v:Value}(he:aop f h op=some (some v,h)):aop f h' op=some (some v,h'):=by
 have hrow: ∀{o:Nat} {r:Row},h.row o=some r→h'.row o=some r:=fun{o r} hr=>by rw[m20 hp (h42 hr)];exact hr
 cases op with
 |mv x=>
  simp only[aop]at he⊢
  split at he
  ·cases he;rfl
  ·cases he
 |mget kd z m k=>
  obtain⟨o,j,r,v',h1,h2,h3,h4,h5,h6⟩:=oe0.1 he
  cases h6
  exact oe0.2 ⟨o,j,r,v',h1,h2,hrow h3,h4,h5,rfl⟩
 |ld agg n x=>
  simp only[aop]at he⊢
  split at he
  ·split at he
   ·cases he
   ·rw[if_neg ‹_›]
    split at he
    ·unfold H.lds at he⊢
     split at he
     ·rename_i h2
      split at h2
      ·rename_i r hr
       rw[hrow hr]
       simp only[h2]
       cases he;rfl
      ·cases h2
     ·cases he
    ·unfold H.ld1 at he⊢
     split at he
     ·rename_i h2
      split at h2
      ·rename_i r hr
       rw[hrow hr]
       simp only[h2]
       cases he;rfl
      ·cases h2
     ·cases he
  ·cases he
 |nilck x=>
  simp only[aop]at he⊢
  split at he
  ·cases he;rfl
  ·cases he
 |faddr k x=>
  simp only[aop]at he⊢
  split at he
  ·split at he
   ·cases he
   ·rw[if_neg ‹_›];cases he;rfl
  ·cases he
 |fld agg off n x=>
  simp only[aop]at he⊢
  split at he
  ·split at he
   ·cases he;rfl
   ·split at he
    ·cases he;rfl
    ·cases he
  ·cases he
 |iaddr size x y=>
  simp only[aop]at he⊢
  split at he
  ·split at he
   ·rw[if_pos ‹_›]
    split at he
    ·cases he
    ·rw[if_neg ‹_›];cases he;rfl
   ·cases he
  ·cases he
 |iaddrA len size x y=>
  simp only[aop]at he⊢
  split at he
  ·split at he
   ·rw[if_pos ‹_›]
    split at he
    ·cases he
    ·rw[if_neg ‹_›];cases he;rfl
   ·cases he
  ·cases he
 |idxA len size agg x y=>
  simp only[aop]at he⊢
  split at he
  ·split at he
   ·rw[if_pos ‹_›]
    split at he
    ·cases he;rfl
    ·split at he
     ·cases he;rfl
     ·cases he
   ·cases he
  ·cases he
 |ext k x=>
  simp only[aop]at he⊢
  split at he
  ·split at he
   ·cases he;rfl
   ·cases he
  ·cases he
 |capt g n k x=>
  simp only[aop]at he⊢
  split at he
  ·split at he
   ·rw[if_pos ‹_›]
    split at he
    ·cases he;rfl
    ·cases he
   ·cases he
  ·cases he
 |ldb agg n x=>exact absurd rfl (hnb _ _ _)
 |_=>cases hl
theorem z44{h h':H}(hp:h<+:h'){op:AOp}{a:AV}{R:Rts}(hl:lu1 fr R op=some a){v:Value}(he:aop f h op=some (some v,h)):aop f h' op=some (some v,h'):=by
 cases hop:op with
 |ldb agg n x=>
  rw[hop]at hl he
  obtain⟨h1,h2⟩:=zx2 he
  rw[fd7,if_pos (vd3 hp h1)]
  exact cz0 hp (fun _ _ _ h=>by cases h) (sc0 hl).1 h2
 |_=>rw[←hop];exact cz0 hp (fun _ _ _ h=>by rw[hop]at h;cases h) hl he
end
end Go.Vm
namespace Go.Vm
open Go.Am
theorem sx1{A C:List AT}{r:Nat}(p:List Nat)(s:AT)(hr:r<A.length):aset (A++C) r p s=aset A r p s++C:=by
 unfold aset
 rw[bu4 hr,wu3 hr]
 simp only[]
 rw[List.set_append_left _ _ hr]
theorem op8(w:Value):(AT.junk w).fp=[]:=by rw[AT.fp]<;>simp
theorem v_fp(w:Value):(AT.v w).fp=[]:=by rw[AT.fp]<;>simp
theorem zq0(w:Value)(t:Tree):(AT.fz w t).fp=[]:=by rw[AT.fp]<;>simp
theorem g56(f:FuncId):(AT.fn f).fp=[]:=by rw[AT.fp]<;>simp
theorem uu7(nl e u:Nat):(AT.nil nl e u).fp=[]:=by rw[AT.fp]<;>simp
theorem zr4(a:AT):fpL [a]=a.fp:=by rw[fpL,fpL,nw0]
theorem vd4{h:H}{Z:Nat→Prop}{a:AT}:okL h Z [a]↔ok h Z a:=by rw[okL,okL];simp
theorem l61{k:AT}(h:isNode k.era=true):k.isV=false:=by cases k<;>first|rfl|(simp[AT.era,isNode]at h)
section
variable {h:H} {A C:List AT} {Z Zp:Nat→Prop}
theorem gs6{Z':Nat→Prop}{t:Tree}{w:Value}(hn:isNode t=true)(hr:Rd h Z' t w):one w=true:=by
 cases t with
 |sl nl e u cs=>
  rw[Rd]at hr
  rcases hr with⟨_,_,_,rfl⟩|⟨o,off,n,c,r,rfl,_⟩<;>rfl
 |pt e cs=>
  rw[Rd]at hr
  obtain⟨o,r,rfl,_⟩:=hr
  rfl
 |mp e cs=>
  rw[Rd]at hr
  obtain⟨o,r,rfl,_⟩:=hr
  rfl
 |ex t=>
  rw[Rd]at hr
  cases t with
  |sl nl e u cs=>
   rw[Ex]at hr
   obtain⟨o,n,r,rfl,_⟩:=hr
   rfl
  |pt e cs=>
   rw[Ex]at hr
   obtain⟨o,r,rfl,_⟩:=hr
   rfl
  |_=>cases hn
 |_=>cases hn
def nk6:AT→AT
 | .sl o off n c _ e u cs=> .sl o off n c 2 e u cs
 | .nil _ e u=> .nil 2 e u
 |t=>t
theorem gr2(k:AT):(nk6 k).era=dull k.era:=by cases k<;>rfl
theorem wd8(k:AT):(nk6 k).val=k.val:=by cases k<;>rfl
theorem qm8(k:AT):(nk6 k).fp=k.fp:=by cases k<;>first|rfl|(simp only[nk6,AT.fp])
theorem ub9{Z':Nat→Prop}{k:AT}(h1:ok h Z' k):ok h Z' (nk6 k):=by
 cases k with
 |sl o off n c nl e u cs=>
  rw[ok]at h1
  rw[nk6,ok]
  obtain⟨r,k1,k2,k3,k4,k5,k6,k7,k8,k9⟩:=h1
  exact⟨r,k1,k2,k3,k4,k5,k6,k7,⟨fun h=>(by cases h),k8.2⟩,k9⟩
 |nil nl e u=>
  rw[ok]at h1
  rw[nk6,ok]
  exact⟨by decide,h1.2⟩
 |_=>exact h1
theorem gi1{k:AT}(hn:isNode k.era=true):one k.val=true:=by cases k<;>first|rfl|(simp[AT.era,isNode]at hn)
theorem ho6{h:H}{Z:Nat→Prop}{k:AT}(hp: ¬plain k.era=true)(ho:ok h Z k):one k.val=true:=by cases k<;>first|rfl|(rw[ok]at ho;exact ho)|(simp[AT.era,plain]at hp)
theorem w93(i:Inv h (A++C) Z Zp){sh:Bool}{a:AV}{w:Value}{t:Tree}{R1:Rts}(he:vput sh (A.map AT.era) a=some (t,R1))(hr:VR h A Z Zp a w):
 ∃A1 c Z1 Zp1,R1=A1.map AT.era∧c.era=t∧c.val=w∧one w=true∧Inv h (A1++(C++[c])) Z1 Zp1∧Ext h (A++C) Zp h (A1++(C++[c])) Zp1∧Stab A A1 []∧(∀o,Z o→Z1 o)∧A1.length=A.length:=by
 --a new cell that owns nothing
 have lite: ∀(c:AT) (Zx:Nat→Prop),c.fp=[]→ok h (fun o=>Zp o∨False) c→ ∃Z1 Zp1,Inv h (A++(C++[c])) Z1 Zp1∧Ext h (A++C) Zp h (A++(C++[c])) Zp1∧(∀o,Z o→Z1 o):=fun c Zx hc hk=>by
  obtain⟨i1,e1⟩:=Inv.new (h':=h) (A:=A++C) (C:=[]) (N:=[c]) (Zx:=fun _=>False) (by rw[nw0];exact i) (jj6 _) (fun _ _=>rfl) (vd4.2 hk) (fun x _=>by rw[zr4,hc];simp) (fun x _=>by rw[zr4,hc];simp) (fun o ho=>by rw[zr4,hc]at ho;cases ho) (fun o ho=>ho.elim)
  rw[nw0]at e1
  rw[eh9]at i1 e1
  exact⟨_,_,i1,e1,fun o ho=> .inl ho⟩
 have hA:Inv h (A++C) Z Zp→ ∀{r p k},aget A r p=some k→ok h Zp k:=fun i r p k hk=>lw8 i (by rw[gr7 p (vs7 hk)];exact hk)
 cases a with
 |x v=>
  simp only[vput]at he
  split at he
  ·cases he
   rw[VR]at hr
   subst hr
   obtain⟨Z1,Zp1,i1,e1,e2⟩:=lite (.v w) (fun _=>False) (v_fp _) (by rw[ok];trivial)
   exact⟨A, .v w,Z1,Zp1,rfl,rfl,rfl, ‹_›,i1,e1,Stab.refl _ _,e2,rfl⟩
  ·cases he
 |fz b t'=>
  cases b with
  |false=>cases he
  |true=>
   simp only[vput]at he
   split at he
   ·rename_i hn
    cases he
    rw[VR]at hr
    obtain⟨Z1,Zp1,i1,e1,e2⟩:=lite (.fz w t') (fun _=>False) (zq0 _ _) (by rw[ok];exact Rd.mono (fun o ho=> .inl ho) (fun _ _=>rfl) hr)
    exact⟨A, .fz w t',Z1,Zp1,rfl,rfl,rfl,gs6 hn hr,i1,e1,Stab.refl _ _,e2,rfl⟩
   ·cases he
 |own r p=>
  simp only[vput]at he
  rw[VR]at hr
  split at he
  ·rename_i t' h1
   split at he
   ·rename_i hn
    cases he
    obtain⟨k,h2,h3⟩:=mc9 h1
    obtain⟨w',rfl⟩:=n52 h3
    have hk:=hA i h2
    rw[ok]at hk
    have hw:w'=w:=hr.2 _ h2 rfl
    subst hw
    obtain⟨Z1,Zp1,i1,e1,e2⟩:=lite (.fz w' t') (fun _=>False) (zq0 _ _) (by rw[ok];exact Rd.mono (fun o ho=> .inl ho) (fun _ _=>rfl) hk)
    exact⟨A, .fz w' t',Z1,Zp1,rfl,rfl,rfl,gs6 hn hk,i1,e1,Stab.refl _ _,e2,rfl⟩
   ·cases he
  ·rename_i h1
   cases he
   obtain⟨k,h2,h3⟩:=mc9 h1
   have hk:=hA i h2
   have hj: ∃w',k= .junk w':=by cases k<;>first|exact⟨_,rfl⟩|cases h3
   obtain⟨w',rfl⟩:=hj
   rw[ok]at hk
   have hw:w'=w:=hr.2 _ h2 rfl
   subst hw
   obtain⟨Z1,Zp1,i1,e1,e2⟩:=lite (.junk w') (fun _=>False) (op8 _) (by rw[ok];exact hk)
   exact⟨A, .junk w',Z1,Zp1,rfl,rfl,rfl,hk,i1,e1,Stab.refl _ _,e2,rfl⟩
  ·rename_i s hne hne2 h1
   split at he
   ·rename_i hn
    obtain⟨k,h2,rfl⟩:=mc9 h1
    have hlt:=vs7 h2
    have hkv:=l61 hn
    have hok:=hA i h2
    have hw:k.val=w:=hr.2 _ h2 hkv
    subst hw
    have hone:one k.val=true:=by cases k<;>first|rfl|(simp[AT.era,isNode]at hn)
    have hkm: ∀o,o∈k.fp→o<h.length:=fun o ho=>i.lt o (by rw[xv9];refine zk7 _ (ea9.2 ?_);have:=ea9.1 ho;have:=bm6 o h2;omega)
    have hnk: ∀x,h.length≤x→k.fp.count x=0:=fun x hx=>xe3.2 fun hm=>by have:=hkm x hm;omega
    have h2':aget (A++C) r p=some k:=by rw[gr7 p hlt];exact h2
    split at he
    ·cases he
     obtain⟨i1,e1⟩:=Inv.upd (h':=h) (A:=A++C) (C:=[]) (N:=[.fz k.val (strip k.era)]) (s:= .fz k.val (strip k.era)) (Zx:=fun o=>o∈k.fp) (by rw[nw0];exact i) h2' (jj6 _) (fun _ _ _=>rfl) rfl
      (by rw[ok];exact ok.rd (fun o ho=> .inl ho) hok fun o ho=> .inr ho) (vd4.2 (by rw[ok];exact ok.rd (fun o ho=> .inl ho) hok fun o ho=> .inr ho)) (fun x _=>by rw[zr4,zq0];simp) (fun x _=>by rw[zr4,zq0];simp) (fun o ho=>by rw[zr4,zq0]at ho;simp at ho)
      (fun o ho=>⟨.inl ho,hkm o ho,by rw[zq0];simp,by rw[zr4,zq0];simp⟩)
     rw[nw0]at e1
     rw[sx1 p _ hlt,eh9]at i1 e1
     exact⟨aset A r p (.fz k.val (strip k.era)), .fz k.val (strip k.era),_,_,(ao8 A r p (.fz k.val (strip k.era))),rfl,rfl,hone,i1,e1,Stab.upd (s:= .fz k.val (strip k.era)) h2 rfl hkv rfl (.inl (Sub.leaf rfl rfl hkv)),fun o ho=> .inl ho,hl4 _ _ _ _⟩
    ·cases he
     obtain⟨i1,e1⟩:=Inv.upd (h':=h) (A:=A++C) (C:=[]) (N:=[nk6 k]) (s:= .junk k.val) (Zx:=fun o=>False) (by rw[nw0];exact i) h2' (jj6 _) (fun _ _ _=>rfl) rfl
      (by rw[ok];exact hone) (vd4.2 (ok.keep (fun o ho=> .inl ho) (fun _ _=>rfl) (ub9 hok) fun _ _=>rfl)) (fun x _=>by rw[zr4,op8,qm8];simp) (fun x hx=>by rw[zr4,op8,qm8,hnk x hx];simp) (fun o ho=>by rw[zr4,op8,qm8]at ho;simp at ho;exact hkm o ho)
      (fun o ho=>ho.elim)
     rw[nw0]at e1
     rw[sx1 p _ hlt,eh9]at i1 e1
     exact⟨aset A r p (.junk k.val),nk6 k,_,_,(ao8 A r p (.junk k.val)),gr2 k,wd8 k,hone,i1,e1,Stab.upd (s:= .junk k.val) h2 rfl hkv rfl (.inl (Sub.leaf rfl rfl hkv)),fun o ho=> .inl ho,hl4 _ _ _ _⟩
   ·cases he
  ·cases he
 |fn g l=>
  cases l with
  |nil=>
   cases he
   rw[VR]at hr
   obtain⟨ws,rfl,h2⟩:=hr
   rw[VRL]at h2
   subst h2
   obtain⟨Z1,Zp1,i1,e1,e2⟩:=lite (.fn g) (fun _=>False) (g56 _) (by rw[ok];trivial)
   exact⟨A, .fn g,Z1,Zp1,rfl,rfl,rfl,rfl,i1,e1,Stab.refl _ _,e2,rfl⟩
  |cons=>cases he
 |_=>cases he
theorem p91{sh:Bool}: ∀{l:List AV} {A C:List AT} {Z Zp:Nat→Prop} {ws:List Value} {ts:List Tree} {R1:Rts} (i:Inv h (A++C) Z Zp) (he:az9 sh (A.map AT.era) l=some (ts,R1)) (hr:VRL h A Z Zp l ws),
 ∃A1 D Z1 Zp1,R1=A1.map AT.era∧eraL D=ts∧D.map AT.val=ws∧(∀w∈ws,one w=true)∧Inv h (A1++(C++D)) Z1 Zp1∧Ext h (A++C) Zp h (A1++(C++D)) Zp1∧Stab A A1 []∧(∀o,Z o→Z1 o)∧A1.length=A.length
 | [],A,C,Z,Zp,ws,ts,R1,i,he,hr=>by
   cases he
   rw[VRL]at hr;subst hr
   exact⟨A,[],Z,Zp,rfl,rfl,rfl,fun w hw=>(by cases hw),by rw[nw0];exact i,by rw[nw0];exact Ext.refl _ _ _,Stab.refl _ _,fun _ ho=>ho,rfl⟩
 |a::l,A,C,Z,Zp,ws,ts,R1,i,he,hr=>by
  simp only[az9]at he
  split at he
  ·rename_i t R2 h1
   split at he
   ·rename_i ts' R3 h2
    cases he
    rw[VRL]at hr
    obtain⟨w,ws',rfl,h3,h4⟩:=hr
    obtain⟨A1,c,Z1,Zp1,rfl,b2,b3,b4,i1,e1,s1,z1,l1⟩:=w93 i h1 h3
    have hsame:Same h h Z:=fun _ _=>rfl
    have h4':VRL h A1 Z1 Zp1 l ws':=VRL.move z1 e1.zp hsame (fun _ _=>rfl) s1 h4 rfl
    obtain⟨A2,D,Z2,Zp2,rfl,c2,c3,c4,i2,e2,s2,z2,l2⟩:=p91 (C:=C++[c]) i1 h2 h4'
    rw[eh9 C [c] D]at i2 e2
    refine⟨A2,c::D,Z2,Zp2,rfl,by rw[eraL,b2,c2],by rw[nf9,b3,c3],fun x hx=> ?_,i2,e1.trans e2,s1.trans s2,fun o ho=>z2 o (z1 o ho),by omega⟩
    rcases r04.1 hx with rfl|hx
    ·exact b4
    ·exact c4 x hx
   ·cases he
  ·cases he
theorem nn8{w:Value}(h:one w=true):w.cells= #[w]∧flat w=true:=by
 cases w<;>first|exact⟨rfl,rfl⟩|cases h
theorem vr1{sh:Bool}{R R1:Rts}{ts:List Tree}{a:AV}{w:Value}(he:az9 sh R (cellsOf a)=some (ts,R1))(hr:VR h A Z Zp a w): ∃ws,VRL h A Z Zp (cellsOf a) ws∧((∀x∈ws,one x=true)→w.cells.toList=ws∧flat w=true):=by
 cases a with
 |agg l=>
  rw[VR]at hr
  obtain⟨ws,rfl,h1⟩:=hr
  exact⟨ws,h1,fun _=>⟨rfl,rfl⟩⟩
 |_=>
  refine⟨[w], .cons hr .nil,fun h1=> ?_⟩
  obtain⟨e1,e2⟩:=nn8 (h1 w (by simp))
  exact⟨by rw[e1],e2⟩
end
end Go.Vm
namespace Go.Vm
open Go.Am
structure Step (h:H) (A:List AT) (Z Zp:Nat→Prop) (r:Option AV×Rts×Option (List Nat)) (w:Option Value) (h':H) (A':List AT) (Z' Zp':Nat→Prop):Prop where
 R:r.2.1=A'.map AT.era
 inv:Inv h' A' Z' Zp'
 ext:Ext h A Zp h' A' Zp'
 st:Stab A A' (r.2.2.getD [])
 z: ∀o,Z o→Z' o
 v:match r.1,w with
  |some a,some w=>VR h' A' Z' Zp' a w
  |none,none=>True
  |_,_=>False
 clean:r.2.2=none→h<+:h'∧ ∃N,A'=A++N
section
variable {h:H} {A:List AT} {Z Zp:Nat→Prop} {fr:VFr} {f:Fr}
theorem Step.same(i:Inv h A Z Zp){a:AV}{w:Value}(hr:VR h A Z Zp a w):Step h A Z Zp (some a,A.map AT.era,none) (some w) h A Z Zp:=
 ⟨rfl,i,Ext.refl _ _ _,Stab.refl _ _,fun _ h=>h,hr,fun _=>⟨je0 _,[],by simp⟩⟩
theorem zg5{ct:CT}{h:H}{Z:Nat→Prop}{e:Nat}: ∀(zs:List Value) (i:Nat),∃l:List AT,eraL l=r48 ct e i zs∧l.map AT.val=zs∧fpL l=[]∧okL h Z l
 | [],i=>⟨[],rfl,rfl,rfl,by rw[okL];trivial⟩
 |z::zs,i=>by
  obtain⟨l,h1,h2,h3,h4⟩:=zg5 (ct:=ct) (h:=h) (Z:=Z) (e:=e) zs (i+1)
  obtain⟨c,c1,c2,c3,c4⟩: ∃c:AT,c.era=ia9 (ct e i) z∧c.val=z∧c.fp=[]∧ok h Z c:=by
   unfold ia9
   split
   ·split
    ·exact⟨.v _,rfl,rfl,v_fp _,by rw[ok];trivial⟩
    ·exact⟨.nil 2 _ _,rfl,rfl,uu7 _ _ _,by rw[ok];exact⟨by decide,by omega⟩⟩
   ·exact⟨.v _,rfl,rfl,v_fp _,by rw[ok];trivial⟩
  refine⟨c::l,by rw[eraL,r48,c1,h1],by rw[nf9,c2,h2],by rw[fpL,c3,h3];rfl,by rw[okL];exact⟨c4,h4⟩⟩
theorem gr6(zs:List Value): ∀n,(rep zs n).length=n*zs.length
 |0=>by simp[rep]
 |n+1=>by rw[rep,j82,gr6 zs n,ur9];omega
theorem x43{h:H}{Z:Nat→Prop}{l:List AT}(hf:fpL l=[])(hk:okL h Z l): ∀n,∃m:List AT,eraL m=repT (eraL l) n∧m.map AT.val=rep (l.map AT.val) n∧fpL m=[]∧okL h Z m
 |0=>⟨[],rfl,rfl,rfl,by rw[okL];trivial⟩
 |n+1=>by
  obtain⟨m,h1,h2,h3,h4⟩:=x43 hf hk n
  refine⟨l++m,by rw[repT,←h1];simp[dk4],by rw[rep,←h2];simp,by rw[xv9,hf,h3];rfl,ca4.2 ⟨hk,h4⟩⟩
theorem b95(zs:List Value): ∀(n m:Nat),n≤m→(rep zs m).take (n*zs.length)=rep zs n
 |0,m,_=>by simp[rep]
 |n+1,m,hm=>by
  obtain⟨k,rfl⟩: ∃k,m=k+1:=⟨m-1,by omega⟩
  rw[rep,rep,ur9,Nat.one_mul,Nat.add_comm,List.take_append,sp3 (by omega),Nat.add_sub_cancel_left,b95 zs n k (by omega)]
theorem j21(i:Inv h A Z Zp){a:AV}{w:Value}(hk:oa5 (A.map AT.era) a=true)(hr:VR h A Z Zp a w):one w=true:=by
 cases a with
 |x v=>rw[VR]at hr;subst hr;exact hk
 |fz b t=>rw[VR]at hr;exact gs6 hk hr
 |fzc b cs j=>rw[VR]at hr;obtain⟨o,off,r,rfl,_⟩:=hr;rfl
 |own r p=>
  rw[VR]at hr
  simp only[oa5]at hk
  split at hk
  ·rename_i h1
   obtain⟨k,h2,h3⟩:=mc9 h1
   obtain⟨w',rfl⟩:=n52 h3
   have:=lw8 i h2
   rw[ok]at this
   have hw:w'=w:=hr.2 _ h2 rfl
   subst hw
   exact gs6 hk this
  ·rename_i h1
   obtain⟨k,h2,rfl⟩:=mc9 h1
   rw[←hr.2 _ h2 (l61 hk)]
   cases k<;>first|rfl|(simp[AT.era,isNode]at hk)
  ·cases hk
 |cell r p j=>
  have hl:k12 (A.map AT.era) (.o r p j)=true:=hk
  obtain⟨o,off,rfl⟩:=bj0 i hl hr
  rfl
 |fn g l=>rw[VR]at hr;obtain⟨ws,rfl,_⟩:=hr;rfl
 |_=>cases hk
theorem ky5(i:Inv h A Z Zp){k:Nat}{a:AV}{b:Bool}{w:Value}(he:wb3 (A.map AT.era) k a=some b)(hr:VR h A Z Zp a w):anil k w=some b:=by
 have sl: ∀{o:Addr} {n c:Nat},anil 0 (.slice (some o) n c)=some false:=rfl
 unfold wb3 at he
 split at he
 ·rw[VR]at hr;subst hr;exact he
 ·split at he
  ·rename_i h1
   obtain⟨kk,nl0,q1,q2,q3,q4,q5,q6⟩:=cd4 i h1 hr
   cases he
   rcases q6 with⟨_,_,_,_,e1,_⟩|⟨o,off,n0,c0,l,lo',c',rfl,rfl,q7,rfl,q8,q9',q9⟩
   ·rcases q2 with q2|q2
    ·exact absurd q2.symm e1
    ·rw[if_neg e1]at q2;cases q2
   ·rfl
  ·rename_i h1
   obtain⟨kk,nl0,q1,q2,q3,q4,q5,q6⟩:=cd4 i h1 hr
   cases he
   rcases q6 with⟨_,rfl,_,_,e1,rfl⟩|⟨o,off,n0,c0,l,lo',c',rfl,rfl,q7,rfl,q8,q9',q9⟩
   ·rfl
   ·have:nl0=1:=by
     rcases q2 with q2|q2
     ·exact q2.symm
     ·split at q2<;>cases q2
    have h2:=q7 this
    show some false=_
    cases hl:eraL l with
    |nil=>exact absurd hl h2
    |cons=>rfl
  ·rename_i n h1
   obtain⟨kk,nl0,q1,q2,q3,q4,q5,q6⟩:=cd4 i h1 hr
   split at he
   ·cases he
   ·cases he
    rcases q6 with⟨_,_,e0,_⟩|⟨o,off,n0,c0,l,lo',c',rfl,rfl,q7,rfl,q8,q9',q9⟩
    ·omega
    ·rfl
  ·rename_i h1
   obtain⟨e,q⟩:=cd4 i h1 hr
   rw[Rd]at q
   cases he
   rcases q with⟨_,q,_⟩|⟨o,off,n,c,row,rfl,_⟩
   ·exact absurd rfl q
   ·rfl
  ·rename_i cs h1
   obtain⟨e,q⟩:=cd4 i h1 hr
   rw[Rd]at q
   cases he
   rcases q with⟨rfl,q,_,rfl⟩|⟨o,off,n,c,row,rfl,_,_,_,_,_,_,q,_⟩
   ·rfl
   ·have h2:=q rfl
    cases cs with
    |nil=>exact absurd rfl h2
    |cons=>rfl
  ·rename_i cs h1
   obtain⟨e,q⟩:=cd4 i h1 hr
   rw[Rd]at q
   split at he
   ·cases he
   ·rename_i hne
    cases he
    rcases q with⟨rfl,q,_,rfl⟩|⟨o,off,n,c,row,rfl,_⟩
    ·exact absurd rfl hne
    ·rfl
  ·rename_i h1
   have:=cd4 i h1 hr
   cases he
   rw[show w= .slice none 0 0 from this];rfl
  ·cases he
 ·split at he
  ·rename_i pa h1
   split at he
   ·rename_i hl
    cases he
    obtain⟨o,off,rfl⟩:=bj0 i hl (dm7 i h1 hr)
    rfl
   ·cases he
  ·cases he
 ·cases he
  rw[VR]at hr
  obtain⟨ws,rfl,_⟩:=hr
  rfl
 ·cases he
end
end Go.Vm
namespace Go.Vm
open Go.Am
section
variable {α β:Type}
theorem ij9: ∀(ts cs:List α) (i:Nat),(setL cs i ts).length=cs.length
 | [],cs,i=>rfl
 |t::ts,cs,i=>by rw[setL,ij9 ts,kb7]
theorem vo4: ∀(ts cs:List α) (i j:Nat),i+ts.length≤cs.length→(setL cs i ts)[j]? =if i≤j∧j<i+ts.length then ts[j-i]? else cs[j]?
 | [],cs,i,j,h=>by rw[setL,if_neg (by simp only[fo5];omega)]
 |t::ts,cs,i,j,h=>by
  rw[q90]at h
  rw[setL,vo4 ts _ _ _ (by rw[kb7];omega),gy2,q90]
  by_cases h1:i+1≤j∧j<i+1+ts.length
  ·rw[if_pos h1,if_pos (by omega),show j-i=j-(i+1)+1 by omega,ok0]
  ·rw[if_neg h1]
   by_cases h2:i=j
   ·subst h2
    rw[if_pos rfl,if_pos (by omega),if_pos (by omega),ob6];rfl
   ·rw[if_neg h2,if_neg (by omega)]
theorem yb7(g:α→β): ∀(ts cs:List α) (i:Nat),(setL cs i ts).map g=setL (cs.map g) i (ts.map g)
 | [],cs,i=>rfl
 |t::ts,cs,i=>by rw[setL,yb7 g ts,fx9];rfl
theorem g81{ts cs:List α}{i off:Nat}(h:off+i+ts.length≤cs.length):(setL cs (off+i) ts).drop off=setL (cs.drop off) i ts:=by
 refine v63 fun j=> ?_
 rw[s96,vo4 _ _ _ _ h,vo4 _ _ _ _ (by rw[h50];omega),s96]
 by_cases h1:i≤j∧j<i+ts.length
 ·rw[if_pos h1,if_pos (by omega),show off+j-(off+i)=j-i by omega]
 ·rw[if_neg h1,if_neg (by omega)]
theorem oh0{ts cs:List α}{i m:Nat}(h:i+ts.length≤m)(hm:m≤cs.length):(setL cs i ts).take m=setL (cs.take m) i ts:=by
 refine v63 fun j=> ?_
 rw[td4,vo4 _ _ _ _ (by omega),vo4 _ _ _ _ (by rw[vb8];omega),td4]
 by_cases h1:i≤j∧j<i+ts.length
 ·rw[if_pos h1,if_pos (by omega),if_pos h1]
 ·rw[if_neg h1,if_neg h1]
theorem dw1{l ws:List Value}{i:Nat}(h:i+ws.length≤l.length):hu1 l i ws=setL l i ws:=by
 refine v63 fun j=> ?_
 rw[vo4 _ _ _ _ h]
 unfold hu1
 have hl:(l.take i).length=i:=by rw[vb8];omega
 by_cases h1:j<i
 ·rw[if_neg (by omega),eh9,bu4 (by omega),td4,if_pos h1]
 ·by_cases h2:j<i+ws.length
  ·rw[if_pos (by omega),bu4 (by rw[j82];omega),lp1 (by omega),hl]
  ·rw[if_neg (by omega),lp1 (by rw[j82];omega),j82,hl,s96]
   congr 1;omega
end
theorem pf0(x:Nat): ∀(D cs:List AT) (i:Nat),(fpL (setL cs i D)).count x≤(fpL cs).count x+(fpL D).count x
 | [],cs,i=>by rw[setL];omega
 |d::D,cs,i=>by
  rw[setL]
  have h1:=pf0 x D (cs.set i d) (i+1)
  have h2:(fpL (cs.set i d)).count x≤(fpL cs).count x+d.fp.count x:=by
   cases hc:cs[i]? with
   |none=>rw[List.set_eq_of_length_le (by have:=fu5.1 hc;omega)];omega
   |some k=>have:=ju4 x (s:=d) hc;omega
  rw[fpL,m34]
  omega
theorem a71{k:AT}{cs cs':List AT}(hk:k.kids=some cs)(hl:cs'.length=cs.length):(k.setKids cs').kids=some cs':=by
 cases k with
 |sl=>rfl
 |pt=>rfl
 |mp=>rfl
 |nil=>cases hk;obtain rfl:cs'=[]:=js1 (by simpa using hl);rfl
 |v=>cases hk
 |fn=>cases hk
 |fz=>cases hk
 |junk=>cases hk
theorem ay2{k:AT}{cs cs':List AT}(hk:k.kids=some cs)(hl:cs'.length=cs.length)(x:Nat):(k.setKids cs').fp.count x+(fpL cs).count x=k.fp.count x+(fpL cs').count x:=by
 rcases vw2 hk with⟨e1,rfl⟩|⟨o,e1,e2⟩
 ·obtain rfl:cs'=[]:=js1 (by simpa using hl)
  cases k<;>first|(cases hk;done)|(simp only[AT.setKids])<;>(cases hk;rfl)
 ·rw[e1,e2,xi6,xi6];omega
theorem Sub.kids{k:AT}{cs cs':List AT}(hk:k.kids=some cs)(hl:cs'.length=cs.length)(hkv:k.isV=false)(hS: ∀(j:Nat) (c':AT),cs'[j]? =some c'→ ∃c:AT,cs[j]? =some c∧Sub c c'):Sub k (k.setKids cs'):=by
 intro q b' h1 h2
 cases q with
 |nil=>cases h1;exact⟨k,rfl,hkv,df8 _ _⟩
 |cons j q=>
  simp only[AT.get,a71 hk hl]at h1
  simp only[AT.get,hk]
  cases hc:cs'[j]? with
  |none=>rw[hc]at h1;cases h1
  |some c'=>
   rw[hc]at h1
   obtain⟨c,h3,h4⟩:=hS j c' hc
   rw[h3]
   exact h4 q b' h1 h2
theorem Sub.refl(k:AT):Sub k k:=fun q b' h1 h2=>⟨b',h1,h2,rfl⟩
theorem Sub.v{k:AT}(x:Value):Sub k (.v x):=by
 intro q b' h1 h2
 cases q with
 |nil=>cases h1;cases h2
 |cons j q=>simp only[AT.get]at h1;cases h1
theorem zv3{h:H}{o o':Nat}{b:Ob}(hne:o'≠o):(h.set o b)[o']? =h[o']? :=b17 fun e=>hne e.symm
section
variable {h:H} {A:List AT} {Z Zp:Nat→Prop} {fr:VFr} {f:Fr}
theorem dp1{A1 D:List AT}{Z1 Zp1:Nat→Prop}(i1:Inv h (A1++D) Z1 Zp1){ws:List Value}(hD:D.map AT.val=ws)(hne:D≠[]){r:Nat}{p:List Nat}{j:Nat}{w:Value}(hr:VR h A1 Z1 Zp1 (.cell r p j) w){R2:Rts}(he:z26 (A1.map AT.era) r p j (eraL D)=some R2):
 ∃o off h' A2,w= .pointer (some ⟨o,off,none⟩)∧h.sts o off ws=some h'∧R2=A2.map AT.era∧(∃Z2 Zp2,Inv h' A2 Z2 Zp2∧Ext h (A1++D) Zp1 h' A2 Zp2∧(∀o,Z1 o→Z2 o))∧Stab A1 A2 (if(eraL D).all isV then []else [r]):=by
 unfold z26 at he
 split at he
 ·rename_i s h1
  split at he
  ·rename_i ts h2
   split at he
   ·rename_i hlen
    cases he
    obtain⟨k,h3,h4⟩:=mc9 h1
    subst h4
    obtain⟨cs,h5,h6⟩:=a47 h2
    subst h6
    rw[i47,i47]at hlen
    have hDl:0<D.length:=py7.2 hne
    have hcs:cs≠[]:=by intro e;subst e;rw[fo5]at hlen;omega
    have hlt:=vs7 h3
    have h3':aget (A1++D) r p=some k:=by rw[gr7 p hlt];exact h3
    obtain⟨o,off,row,b1,b2,b3,b4,b5⟩:=nm1 i1 h3' h5 hcs
    have hw:=wd1 hr h3 b1
    have hok:=lw8 i1 h3'
    have hwl:ws.length=D.length:=by rw[←hD];simp
    have hrl:off+cs.length≤row.cells.length:=by
     have:=(ck5.1 (b5 (cs.length-1) _ (wu3 (by have:=py7.2 hcs;omega)))).1
     have:=py7.2 hcs
     omega
    have hsts:h.sts o (off+j) ws=some (h.set o (.row {row with cells:=hu1 row.cells (off+j) ws})):=by
     unfold H.sts
     rw[b3]
     simp only[]
     rw[if_pos (by rw[b4];simp;omega)]
    have hol:o<h.length:=h42 b3
    have hokA:(o∈fpL A1):=ea9.2 (by have:=ea9.1 b2;have:=bm6 o h3;omega)
    have hac: ∀x,(fpL A1).count x+(fpL D).count x≤1:=fun x=>by have:=i1.nd x;rwa [xv9,m34]at this
    have hkn: ∀x,k.fp.count x≤1:=fun x=>by have:=bm6 x h3;have:=hac x;omega
    have hoD:o∉fpL D:=fun hm=>by have:=ea9.1 hm;have:=ea9.1 hokA;have:=hac o;omega
    have hocs:o∉fpL cs:=fun hm=>by
     rcases vw2 h5 with⟨_,e⟩|⟨o',e1,e2⟩
     ·exact hcs e
     ·have hk1:=hkn o
      rw[e1,xi6]at hk1
      have hcsp:(fpL cs).count o≥1:=ea9.1 hm
      have hoo:o'=o:=by
       cases k with
       |sl=>cases h5;cases b1;rw[AT.fp]at e1;cases e1;rfl
       |pt=>cases h5;cases b1;rw[AT.fp]at e1;cases e1;rfl
       |mp=>cases h5;cases b1;rw[AT.fp]at e1;cases e1;rfl
       |_=>cases b1
      subst hoo
      rw[if_pos (by simp)]at hk1
      omega
    have hrow': ∀o',o'≠o→H.row (h.set o (.row {row with cells:=hu1 row.cells (off+j) ws})) o'=h.row o':=fun o' hne=>jl1 fun e=>hne e.symm
    have hokd:=ga5.1 i1.okA
    have hokc:=ga5.1 (by5 h5 hok)
    have hsl:(setL cs j D).length=cs.length:=ij9 _ _ _
    have hchild:okL (h.set o (.row {row with cells:=hu1 row.cells (off+j) ws})) (fun x=>Zp1 x∨False) (setL cs j D):=by
     refine ga5.2 fun c hc=> ?_
     obtain⟨m,hm⟩:=es9 hc
     rw[vo4 _ _ _ _ hlen]at hm
     have hz: ∀x,Zp1 x→x≠o:=fun x hx e=>i1.nz o (by rw[xv9];simp[hokA]) (e▸i1.zp x hx)
     split at hm
     ·have hcD:=vf6 hm
      exact ok.keep (fun x hx=> .inl hx) (fun x hx=>hrow' x (hz x hx)) (hokd c (by simp[hcD])) fun x hx=>hrow' x fun e=>hoD (by rw[←e,zq7,c90];exact⟨c,hcD,hx⟩)
     ·have hcc:=vf6 hm
      exact ok.keep (fun x hx=> .inl hx) (fun x hx=>hrow' x (hz x hx)) (hokc c hcc) fun x hx=>hrow' x fun e=>hocs (by rw[←e,zq7,c90];exact⟨c,hcc,hx⟩)
    have hsok:ok (h.set o (.row {row with cells:=hu1 row.cells (off+j) ws})) (fun x=>Zp1 x∨False) (k.setKids (setL cs j D)):=by
     have hspl:hu1 row.cells (off+j) ws=setL row.cells (off+j) ws:=dw1 (by omega)
     cases k with
     |sl o' off' n c nl e u l=>
      cases h5;cases b1
      rw[ok]at hok
      obtain⟨row',k1,k2,k3,k4,k5,k6,k7,k8,k9,k10⟩:=hok
      rw[b3]at k1;cases k1
      rw[AT.setKids,ok]
      refine⟨_,tr3 hol,k2,k3,k4,k5,by rw[hsl];exact k6,k7,⟨fun e1 e2=>k8.1 e1 (by rw[e2]at hsl;exact js1 hsl.symm), ?_⟩, ?_,hchild⟩
      ·show off+_≤(hu1 row.cells (off+j) ws).length
       rw[hspl,ij9,ij9];exact hrl
      show((hu1 row.cells (off+j) ws).drop off).take _=_
      rw[hsl,hspl,g81 (by omega),oh0 (by omega) (by rw[h50];omega),k9,yb7,hD]
     |pt o' e l=>
      cases h5;cases b1
      rw[ok]at hok
      obtain⟨row',k1,k2,k3,k4⟩:=hok
      rw[b3]at k1;cases k1
      rw[AT.setKids,ok]
      refine⟨_,tr3 hol,k2, ?_,hchild⟩
      show hu1 row.cells (0+j) ws=_
      rw[hspl,e03,k3,yb7,hD]
     |mp o' e l=>
      cases h5;cases b1
      rw[ok]at hok
      obtain⟨row',k1,k2,k3,k4⟩:=hok
      rw[b3]at k1;cases k1
      rw[AT.setKids,ok]
      refine⟨_,tr3 hol,k2, ?_,hchild⟩
      show hu1 row.cells (0+j) ws=_
      rw[hspl,e03,k3,yb7,hD]
     |_=>cases b1
    have hsv:(k.setKids (setL cs j D)).isV=false:=by rw[ua7];exact nm0 h5
    obtain⟨i2,e2⟩:=Inv.upd (A:=A1) (C:=D) (N:=[]) (s:=k.setKids (setL cs j D)) (Zx:=fun _=>False) i1 h3 (h':=h.set o (.row {row with cells:=hu1 row.cells (off+j) ws})) (by rw[kb7];exact jj6 _)
     (fun x _ hx=>zv3 fun e=>hx (e▸b2)) (df8 _ _) hsok (by rw[okL];trivial) (fun x _=>by have:=ay2 h5 hsl x;have:=pf0 x D cs j;simp[fpL];omega)
     (fun x hx=>by
       have h1:=ay2 h5 hsl x
       have h2:=pf0 x D cs j
       have h3:=bm6 x h3
       have h4:=hac x
       simp[fpL];omega)
     (fun x hx=>by
       rw[kb7]
       have h1:=ay2 h5 hsl x
       have h2:=pf0 x D cs j
       have h3:=bm6 x h3
       rcases hx with hx|hx
       ·have h4:=ea9.1 hx
        refine i1.lt x (ea9.2 ?_)
        rw[xv9,m34];omega
       ·simp[fpL]at hx)
     (fun x hx=>hx.elim)
    rw[nw0]at i2 e2
    refine⟨o,off+j,_,aset A1 r p (k.setKids (setL cs j D)),hw,hsts, ?_,⟨_,_,i2,e2,fun x hx=> .inl hx⟩, ?_⟩
    ·rw[←ao8,vw3 h5 hsl,dk4 (setL cs j D),yb7,dk4,dk4]
    ·refine Stab.upd h3 (df8 _ _) (nm0 h5) hsv ?_
     by_cases hall:(eraL D).all isV=true
     ·rw[if_pos hall]
      refine .inl (Sub.kids h5 hsl (nm0 h5) fun m c' hm=> ?_)
      have hm0:=hm
      rw[vo4 _ _ _ _ hlen]at hm
      split at hm
      ·have hcD:=vf6 hm
       have:isV c'.era=true:=p92.1 hall c'.era (by rw[dk4];exact vf1.2 ⟨c',hcD,rfl⟩)
       have hml:m<cs.length:=by have:=(ck5.1 hm0).1;omega
       refine⟨_,wu3 hml, ?_⟩
       cases c' with
       |v x=>exact Sub.v x
       |_=>simp[AT.era,isV]at this
      ·exact⟨c',hm,Sub.refl _⟩
     ·rw[if_neg hall];exact .inr (by simp)
   ·cases he
  ·cases he
 ·cases he
end
end Go.Vm
namespace Go.Vm
open Go.Am
section
variable {α:Type}
theorem dn3{ts cs:List α}{i:Nat}(h:i+ts.length≤cs.length):setL cs i ts=cs.take i++ts++cs.drop (i+ts.length):=by
 refine v63 fun j=> ?_
 rw[vo4 _ _ _ _ h]
 have hl:(cs.take i).length=i:=by rw[vb8];omega
 by_cases h1:j<i
 ·rw[if_neg (by omega),eh9,bu4 (by omega),td4,if_pos h1]
 ·by_cases h2:j<i+ts.length
  ·rw[if_pos (by omega),bu4 (by rw[j82];omega),lp1 (by omega),hl]
  ·rw[if_neg (by omega),lp1 (by rw[j82];omega),j82,hl,s96]
   congr 1;omega
theorem xh6(l:List α){a b L:Nat}(h:a+b≤L):((l.take L).drop a).take b=(l.drop a).take b:=by
 refine v63 fun j=> ?_
 rw[td4,td4,s96,s96,td4]
 by_cases h1:j<b
 ·rw[if_pos h1,if_pos h1,if_pos (by omega)]
 ·rw[if_neg h1,if_neg h1]
theorem sx8{l:List α}{a b:Nat}(h:a+b≤l.length):((l.drop a).take b).length=b:=by rw[vb8,h50];omega
theorem ji8(l:List α)(a b:Nat):l.take a++(l.drop a).take b++l.drop (a+b)=l:=by
 rw[eh9,←pb3,qr5,qr5]
end
theorem lg5{c:AT}(h:plain c.era=true):c.fp=[]:=by
 cases c with
 |v x=>exact v_fp _
 |fz w t=>exact zq0 _ _
 |_=>simp[AT.era,plain]at h
def jkA(c:AT):AT:=if plain c.era then c else .junk c.val
theorem ke1(c:AT):(jkA c).era=jk c.era:=by
 unfold jkA jk;split
 ·rfl
 ·rfl
theorem p26(c:AT):(jkA c).val=c.val:=by
 unfold jkA;split<;>rfl
theorem y09(c:AT):(jkA c).fp=[]:=by
 unfold jkA;split
 ·exact lg5 ‹_›
 ·exact op8 _
theorem e68(c:AT):Sub c (jkA c):=by
 unfold jkA;split
 ·exact Sub.refl _
 ·rename_i hn
  refine Sub.leaf rfl rfl ?_
  cases c<;>first|rfl|(exfalso;exact hn rfl)
theorem mb9(l:List AT):fpL (l.map jkA)=[]:=by
 rw[zq7,List.flatMap_map]
 simp[y09]
theorem ot2{l:List AT}(h:(eraL l).all plain=true):fpL l=[]:=by
 rw[zq7,qw7]
 intro c hc
 exact lg5 (p92.1 h c.era (by rw[dk4];exact vf1.2 ⟨c,hc,rfl⟩))
theorem gc1(l:List AT)(a b x:Nat):(fpL ((l.drop a).take b)).count x≤(fpL l).count x:=by
 rw[←ji8 l a b,xv9,xv9,m34,m34,ji8];omega
theorem xg5(l:List AT)(a b:Nat):eraL ((l.drop a).take b)=((eraL l).drop a).take b:=by
 rw[dk4,dk4,iw6,gd3]
theorem nc9(l m:List AT):eraL (l++m)=eraL l++eraL m:=by simp only[dk4,hm3]
section
variable {h:H} {A:List AT} {Z Zp:Nat→Prop} {fr:VFr} {f:Fr}
theorem pd7{o off n c size:Nat}{row:Row}{vs:List Value}(hs:0<size)(hr:h.row o=some row)(hv:(row.cells.drop off).take (n*size)=vs)(hl:vs.length=n*size):b38 h size n (.slice (some ⟨o,off,none⟩) n c)=some vs:=by
 unfold b38
 simp only[]
 by_cases h0:n=0
 ·subst h0
  rw[if_pos rfl]
  rw[v88]at hl
  rw[js1 hl]
 ·rw[if_neg h0,if_pos (jj6 _)]
  simp only[cv9,oo9]
  unfold H.lds
  rw[hr]
  simp only[]
  have h1:0<n*size:=Nat.mul_pos (by omega) hs
  have:off+n*size≤row.cells.length:=by
   rw[←hv,vb8,h50]at hl;omega
  rw[if_pos this,hv]
theorem jk2{o off n0 c0 nl e u:Nat}{l:List AT}(hk:ok h Zp (.sl o off n0 c0 nl e u l)){lo n lo':Nat}(hc:(lo+n)*u≤l.length)(h1:lo'≤lo)(h2:0<n→lo'=lo): ∃row,h.row o=some row∧row.own=true∧row.elem=e∧row.unit=u∧off+lo'*u+n*u≤row.cells.length∧(row.cells.drop (off+lo'*u)).take (n*u)=((l.drop (lo*u)).take (n*u)).map AT.val:=by
 rw[ok]at hk
 obtain⟨row,k1,k2,k3,k4,k5,k6,k7,k8,k9,k10⟩:=hk
 rw[ur9]at hc
 have hlo:lo'*u≤lo*u:=wg6 u h1
 refine⟨row,k1,k2,k3,k4, ?_, ?_⟩
 ·have:=k8.2
  by_cases hn:n=0
  ·subst hn;omega
  ·rw[h2 (by omega)];omega
 ·by_cases hn:n=0
  ·subst hn;simp
  ·rw[h2 (by omega),←pb3,←xh6 (row.cells.drop off) (L:=l.length) (by omega),k9,iw6,gd3]
theorem gu0{Z':Nat→Prop}: ∀{cs:List Tree} {vs:List Value},RdL h Z' cs vs→ ∃D:List AT,eraL D=cs.map fzT∧fpL D=[]∧D.map AT.val=vs∧okL h Z' D
 | [],vs,hr=>by rw[RdL]at hr;subst hr;exact⟨[],rfl,rfl,rfl,by rw[okL];trivial⟩
 |t::cs,vs,hr=>by
  rw[RdL]at hr
  obtain⟨w,vs',rfl,h1,h2⟩:=hr
  obtain⟨D,d1,d2,d3,d4⟩:=gu0 h2
  obtain⟨c,c1,c2,c3,c4⟩: ∃c:AT,c.era=fzT t∧c.val=w∧c.fp=[]∧ok h Z' c:=by
   cases t with
   |v x=>rw[Rd]at h1;subst h1;exact⟨.v w,rfl,rfl,v_fp _,by rw[ok];trivial⟩
   |_=>exact⟨.fz w _,rfl,rfl,zq0 _ _,by rw[ok];exact h1⟩
  exact⟨c::D,by rw[eraL,c1,d1];rfl,by rw[fpL,c3,d2];rfl,by rw[nf9,c2,d3],by rw[okL];exact⟨c4,d4⟩⟩
theorem ih3{Z' Z'':Nat→Prop}: ∀{cs:List Tree} {vs:List Value},cs.all isV=true→RdL h Z' cs vs→ ∃D:List AT,eraL D=cs∧fpL D=[]∧D.map AT.val=vs∧okL h Z'' D
 | [],vs,_,hr=>by rw[RdL]at hr;subst hr;exact⟨[],rfl,rfl,rfl,by rw[okL];trivial⟩
 |t::cs,vs,hv,hr=>by
  rw[RdL]at hr
  obtain⟨w,vs',rfl,h1,h2⟩:=hr
  rw[List.all_cons,b83]at hv
  obtain⟨D,d1,d2,d3,d4⟩:=ih3 (Z'':=Z'') hv.2 h2
  cases t with
  |v x=>rw[Rd]at h1;subst h1;exact⟨.v w::D,by rw[eraL,d1];rfl,by rw[fpL,v_fp,d2];rfl,by rw[nf9,d3];rfl,by rw[okL];exact⟨by rw[ok];trivial,d4⟩⟩
  |_=>simp[isV]at hv
theorem yj8(i:Inv h A Z Zp){X:VS}{wx:Value}(hx:SR h A Z Zp X wx){size:Nat}{news:List Tree}{R1:Rts}(he:vsrc (A.map AT.era) size X=some (news,R1)):
 ∃A1 D Z1 Zp1 m b d,R1=A1.map AT.era∧eraL D=news∧wx= .slice b m d∧m*size=D.length∧b38 h size m wx=some (D.map AT.val)∧Inv h (A1++D) Z1 Zp1∧Ext h A Zp h (A1++D) Zp1∧Stab A A1 []∧(∀o,Z o→Z1 o)∧A1.length=A.length:=by
 have lite: ∀(D:List AT),fpL D=[]→okL h Zp D→ ∃Z1 Zp1,Inv h (A++D) Z1 Zp1∧Ext h A Zp h (A++D) Zp1∧(∀o,Z o→Z1 o):=fun D hD hk=>by
  obtain⟨i1,e1⟩:=Inv.new (h':=h) (A:=A) (C:=[]) (N:=D) (Zx:=fun _=>False) (by rw[nw0];exact i) (jj6 _) (fun _ _=>rfl) (okL.keep (fun o ho=> .inl ho) (fun _ _=>rfl) hk fun _ _=>rfl) (fun x _=>by rw[hD];simp) (fun x _=>by rw[hD];simp) (fun o ho=>by rw[hD]at ho;cases ho) (fun o ho=>ho.elim)
  rw[nw0]at e1
  exact⟨_,_,i1,e1,fun o ho=> .inl ho⟩
 cases X with
 |nil=>
  cases he
  cases hx
  exact⟨A,[],Z,Zp,0,none,0,rfl,rfl,rfl,by simp,rfl,by rw[nw0];exact i,by rw[nw0];exact Ext.refl _ _ _,Stab.refl _ _,fun _ ho=>ho,rfl⟩
 |f b nl u cs=>
  simp only[vsrc]at he
  split at he
  ·rename_i hu
   subst hu
   obtain⟨e,hx⟩:=hx
   rw[Rd]at hx
   have hD: ∃D:List AT,R1=A.map AT.era∧eraL D=news∧fpL D=[]∧cs.length=D.length∧ ∀vs,RdL h (pick b Z Zp) cs vs→ ∃D:List AT,eraL D=news∧fpL D=[]∧D.map AT.val=vs∧okL h Zp D:=by
    cases b with
    |true=>
     cases he
     refine⟨cs.map (fun t=>match t with| .v x=> .v x|t=> .fz .nilFunc t),rfl, ?_, ?_,by simp,fun vs hv=>gu0 hv⟩
     ·rw[dk4,uk6]
      refine ny8 fun t _=> ?_
      cases t<;>rfl
     ·rw[zq7,List.flatMap_map,qw7]
      intro t _
      cases t<;>first|exact v_fp _|exact zq0 _ _
    |false=>
     simp only[o35,wj1]at he
     split at he
     ·rename_i hv
      simp only[hx3,br6]at he
      obtain⟨e1,e2⟩:=he
      subst e1;subst e2
      refine⟨cs.map (fun t=>match t with| .v x=> .v x|t=> .fz .nilFunc t),rfl, ?_, ?_,by simp,fun vs hv2=>ih3 hv hv2⟩
      ·rw[dk4,uk6]
       conv=>rhs;rw[←List.map_id cs]
       refine ny8 fun t ht=> ?_
       have:=p92.1 hv t ht
       cases t<;>first|rfl|(simp[isV]at this)
      ·rw[zq7,List.flatMap_map,qw7]
       intro t _
       cases t<;>first|exact v_fp _|exact zq0 _ _
     ·cases he
   obtain⟨D0,g1,g2,g3,g4,g5⟩:=hD
   rcases hx with⟨rfl,_,hu0,rfl⟩|⟨o,off,n,c,row,rfl,x2,x3,x4,x5,x6,x7,x8,x9⟩
   ·have:D0=[]:=js1 (by rw[←g4];rfl)
    subst this
    exact⟨A,[],Z,Zp,0,none,0,g1,g2,rfl,by simp,rfl,by rw[nw0];exact i,by rw[nw0];exact Ext.refl _ _ _,Stab.refl _ _,fun _ ho=>ho,rfl⟩
   ·obtain⟨D,d1,d2,d3,d4⟩:=g5 _ x9
    have hl:=congrArg List.length d3
    rw[q11,x9.len]at hl
    obtain⟨Z1,Zp1,i1,e1,z1⟩:=lite D d2 d4
    refine⟨A,D,Z1,Zp1,n,_,c,g1,d1,rfl,by rw[hl];exact x6, ?_,i1,e1,Stab.refl _ _,z1,rfl⟩
    exact pd7 x5 x3 (by rw[x6,d3]) (by rw[q11,hl];exact x6.symm)
  ·cases he
 |o r p nl e u cs lo n=>
  simp only[vsrc,jp2]at he
  split at he
  ·rename_i hu
   subst hu
   obtain⟨k,nl0,q1,q2,q3,q4,q5,q6⟩:=hx
   rcases q6 with⟨rfl,rfl,rfl,rfl,_,rfl⟩|⟨o,off,n0,c0,l,lo',c',rfl,rfl,q7,rfl,q8,q9',q9⟩
   ·simp at he
    obtain⟨rfl,rfl⟩:=he
    exact⟨A,[],Z,Zp,0,none,0,rfl,rfl,rfl,by simp,rfl,by rw[nw0];exact i,by rw[nw0];exact Ext.refl _ _ _,Stab.refl _ _,fun _ ho=>ho,rfl⟩
   ·have hok:=lw8 i q1
    rw[i47]at q4
    obtain⟨row,r1,r2,r3,r4,r5,r6⟩:=jk2 hok q4 q9' q9
    have hseg:lo*u+n*u≤l.length:=by rw[←ur9];exact q4
    have hpl:((l.drop (lo*u)).take (n*u)).length=n*u:=sx8 hseg
    have hsrc:=pd7 (c:=c') q5 r1 r6 (by rw[q11,hpl])
    rw[←xg5]at he
    have hokc:=ga5.1 (by5 rfl hok)
    have hpc: ∀c∈(l.drop (lo*u)).take (n*u),c∈l:=fun c hc=>lq8 (tn5 hc)
    have hokp:okL h Zp ((l.drop (lo*u)).take (n*u)):=ga5.2 fun c hc=>hokc c (hpc c hc)
    split at he
    ·rename_i hpl2
     cases he
     obtain⟨Z1,Zp1,i1,e1,z1⟩:=lite _ (ot2 hpl2) hokp
     exact⟨A,_,Z1,Zp1,n,_,c',rfl,rfl,rfl,hpl.symm,hsrc,i1,e1,Stab.refl _ _,z1,rfl⟩
    ·rw[p00,q1]at he
     cases he
     have hl2:(setL l (lo*u) (((l.drop (lo*u)).take (n*u)).map jkA)).length=l.length:=ij9 _ _ _
     have hml:(((l.drop (lo*u)).take (n*u)).map jkA).length=n*u:=by rw[q11,hpl]
     have hsp:=dn3 (ts:=((l.drop (lo*u)).take (n*u)).map jkA) (cs:=l) (i:=lo*u) (by rw[hml];exact hseg)
     rw[hml]at hsp
     have hcnt: ∀x,(fpL (setL l (lo*u) (((l.drop (lo*u)).take (n*u)).map jkA))).count x+(fpL ((l.drop (lo*u)).take (n*u))).count x=(fpL l).count x:=fun x=>by
      conv=>rhs;rw[←ji8 l (lo*u) (n*u)]
      rw[hsp,xv9,xv9,xv9,xv9,mb9]
      simp only[m34,List.count_nil];omega
     have hvals:(setL l (lo*u) (((l.drop (lo*u)).take (n*u)).map jkA)).map AT.val=l.map AT.val:=by
      conv=>rhs;rw[←ji8 l (lo*u) (n*u)]
      rw[hsp]
      simp only[hm3,uk6]
      congr 2
      exact ny8 fun c _=>p26 c
     have hsok:okL h (fun x=>Zp x∨False) (setL l (lo*u) (((l.drop (lo*u)).take (n*u)).map jkA)):=by
      refine ga5.2 fun c hc=> ?_
      rw[hsp]at hc
      have key:c∈l→ok h (fun x=>Zp x∨False) c:=fun hm=>ok.keep (fun x hx=> .inl hx) (fun _ _=>rfl) (hokc c hm) fun _ _=>rfl
      rcases bk2.1 hc with hc|hc
      ·rcases bk2.1 hc with hc|hc
       ·exact key (tn5 hc)
       ·obtain⟨c0,h0,rfl⟩:=vf1.1 hc
        unfold jkA
        split
        ·exact ok.keep (fun x hx=> .inl hx) (fun _ _=>rfl) (hokp|>ga5.1|>fun f=>f c0 h0) fun _ _=>rfl
        ·rw[ok];exact ho6 ‹_› (ga5.1 hokp c0 h0)
      ·exact key (lq8 hc)
     have hkk:(AT.sl o off n0 c0 nl0 e u l).kids=some l:=rfl
     have hse:ok h (fun x=>Zp x∨False) ((AT.sl o off n0 c0 nl0 e u l).setKids (setL l (lo*u) (((l.drop (lo*u)).take (n*u)).map jkA))):=iu1 hkk hok hvals (fun _ _=>rfl) hsok
     obtain⟨i1,e1⟩:=Inv.upd (h':=h) (A:=A) (C:=[]) (N:=(l.drop (lo*u)).take (n*u)) (s:=(AT.sl o off n0 c0 nl0 e u l).setKids (setL l (lo*u) (((l.drop (lo*u)).take (n*u)).map jkA))) (Zx:=fun o=>False) (by rw[nw0];exact i) q1 (jj6 _) (fun _ _ _=>rfl) rfl
      hse (okL.keep (fun x hx=> .inl hx) (fun _ _=>rfl) hokp fun _ _=>rfl) (fun x _=>by have h1:=ay2 hkk hl2 x;have h2:=hcnt x;omega) (fun x hx=>by
       have h1:=ay2 hkk hl2 x;have h2:=hcnt x;have h3:=bm6 x q1;have h4:=i.nd x;omega) (fun x hx=>by
       have h1:=ay2 hkk hl2 x;have h2:=hcnt x;have h3:=bm6 x q1
       refine i.lt x (ea9.2 ?_)
       rcases hx with hx|hx<;>have:=ea9.1 hx<;>omega) (fun o ho=>ho.elim)
     rw[nw0]at e1
     refine⟨_,_,_,_,n,_,c', ?_,rfl,rfl,hpl.symm,hsrc,i1,e1,Stab.upd (s:=(AT.sl o off n0 c0 nl0 e u l).setKids (setL l (lo*u) (((l.drop (lo*u)).take (n*u)).map jkA))) q1 rfl rfl rfl (.inl (Sub.kids hkk hl2 rfl fun j c' hj=> ?_)),fun o ho=> .inl ho,hl4 _ _ _ _⟩
     ·rw[←ao8,vw3 hkk hl2,dk4 (setL _ _ _),yb7,uk6,←dk4]
      rw[show(List.map (AT.era∘jkA) ((l.drop (lo*u)).take (n*u)))=(eraL ((l.drop (lo*u)).take (n*u))).map jk from by rw[dk4,uk6];exact ny8 fun c _=>ke1 c]
      simp only[dk4]
     ·rw[vo4 _ _ _ _ (by rw[hml];exact hseg)]at hj
      split at hj
      ·rename_i hr
       rw[hml]at hr
       rw[us5]at hj
       obtain⟨c0,h0,rfl⟩:=km1.1 hj
       rw[td4]at h0
       split at h0
       ·rw[s96]at h0
        refine⟨c0, ?_,e68 c0⟩
        rw[←h0];congr 1;omega
       ·cases h0
      ·exact⟨c',hj,Sub.refl _⟩
  ·cases he
end
end Go.Vm
namespace Go.Vm
open Go.Am
section
variable {h:H} {A:List AT} {Z Zp:Nat→Prop} {fr:VFr} {f:Fr}
theorem Inv.left{D:List AT}(i:Inv h (A++D) Z Zp):Inv h A Z Zp:=
 ⟨(ca4.1 i.okA).1,fun x=>by have:=i.nd x;rw[xv9,m34]at this;omega,fun o ho=>i.lt o (by rw[xv9];simp[ho]),fun o ho=>i.nz o (by rw[xv9];simp[ho]),i.zlt,i.zp⟩
theorem Step.grow(i:Inv h A Z Zp){A1 D:List AT}{Z1 Zp1:Nat→Prop}(i1:Inv h (A1++D) Z1 Zp1)(e1:Ext h A Zp h (A1++D) Zp1)(s1:Stab A A1 [])(z1: ∀o,Z o→Z1 o){r:Nat}{p:List Nat}{k kn:AT}(hk:aget A1 r p=some k)(hkv:k.isV=false)(hone:one k.val=true){h':H}(hlen:h.length≤h'.length)
 (hkeep: ∀o,o<h.length→o∉k.fp→h'[o]? =h[o]?) (hok:ok h' (fun o=>Zp1 o∨False) kn) (hc: ∀x,x<h.length→kn.fp.count x≤k.fp.count x+(fpL D).count x) (hd: ∀x,h.length≤x→kn.fp.count x≤1) (hb: ∀o∈kn.fp,o<h'.length) (hknv:kn.isV=false):
 ∃A' Z2 Zp2,Step h A Z Zp (some (.own A1.length []),rset (A1.map AT.era) r p .junk++[kn.era],some []) (some kn.val) h' A' Z2 Zp2:=by
 obtain⟨i2,e2⟩:=Inv.upd (A:=A1) (C:=D) (N:=[kn]) (s:= .junk k.val) (Zx:=fun _=>False) i1 hk hlen hkeep rfl (by rw[ok];exact hone) (vd4.2 hok) (fun x hx=>by rw[op8,zr4];simpa using hc x hx) (fun x hx=>by rw[op8,zr4];simpa using hd x hx)
  (fun o ho=>by rw[op8,zr4]at ho;exact hb o (by simpa using ho)) (fun o ho=>ho.elim)
 refine⟨aset A1 r p (.junk k.val)++[kn],_,_, ?_,i2,e1.trans e2, ?_,fun o ho=> .inl (z1 o ho), ?_,fun hn=>by cases hn⟩
 ·show rset _ _ _ _++_=_
  rw[hm3,←ao8];rfl
 ·exact(s1.trans (Stab.upd (s:= .junk k.val) hk rfl hkv rfl (.inl (Sub.leaf rfl rfl hkv)))).app [kn]
 ·show VR _ _ _ _ (.own A1.length []) kn.val
  rw[VR]
  refine⟨by simp[hl4],fun b hb _=> ?_⟩
  unfold aget at hb
  rw[lp1 (by rw[hl4];exact jj6 _),hl4,ob6]at hb
  cases hb
  rfl
theorem ga2{size m bytes n:Nat}{D:List AT}(hs:0<size)(hm:m*size=D.length){news:List Tree}(he:eraL D=news):news.length/size=m:=by
 rw[←he,i47,←hm,jw5 _ hs]
theorem nu6(i:Inv h A Z Zp){s:AV}{ws:Value}(hs:VR h A Z Zp s ws){A1 D:List AT}{Z1 Zp1:Nat→Prop}{m:Nat}{elem size bytes:Nat}{news:List Tree}(hD:eraL D=news)(hm:m*size=D.length)(i1:Inv h (A1++D) Z1 Zp1)(e1:Ext h A Zp h (A1++D) Zp1)(s1:Stab A A1 [])(z1: ∀o,Z o→Z1 o){r:Nat}{p:List Nat}{nl e u:Nat}{cs:List Tree}{lo n:Nat}(hS:vsl (A1.map AT.era) s=some (.o r p nl e u cs lo n))(he:e=elem)(hu:u=size)(hf:few (n+news.length/u) bytes=true):
 ∃sa n1 c1 v h' A' Z' Zp',ws= .slice sa n1 c1∧aput elem size bytes h sa n1 c1 m (D.map AT.val)=some (v,h')∧Step h A Z Zp (some (.own (A1.map AT.era).length []),rset (A1.map AT.era) r p .junk++[.sl nl e u ((cs.drop (lo*u)).take (n*u)++news)],some []) (some v) h' A' Z' Zp':=by
 subst he;subst hu
 have hs1:VR h A1 Z1 Zp1 s ws:=VR.move z1 e1.zp (fun _ _=>rfl) (fun _ _=>rfl) s1 hs rfl
 obtain⟨k,nl0,q1,q2,q3,q4,q5,q6⟩:=cd4 i1.left hS hs1
 have hlm:news.length/u=m:=ga2 (bytes:=bytes) (n:=n) q5 hm hD
 rw[hlm]at hf
 rw[q11]
 have hDv:(D.map AT.val).length=m*u:=by rw[q11,hm]
 have hD1: ∀x,(fpL D).count x≤1:=fun x=>by have:=i1.nd x;rw[xv9,m34]at this;omega
 have hDlt: ∀o∈fpL D,o<h.length:=fun o ho=>i1.lt o (by rw[xv9];simp[ho])
 have hokD:=(ca4.1 i1.okA).2
 have hnl:nl≠0↔nl0≠0:=by
  rcases q2 with rfl|rfl
  ·exact Iff.rfl
  ·split<;>simp_all
 rcases q6 with⟨rfl,rfl,rfl,rfl,hn0,rfl⟩|⟨o,off,n0,c0,l,lo',c',rfl,rfl,q7,rfl,q8,q9',q9⟩
 ·rw[e03]at hf
  by_cases hm0:m=0
  ·subst hm0
   obtain rfl:D=[]:=js1 (by rw[←hm];simp)
   cases hD
   obtain⟨A',Z2,Zp2,st⟩:=Step.grow (kn:= .nil nl e u) (h':=h) i i1 e1 s1 z1 q1 rfl rfl (jj6 _) (fun _ _ _=>rfl) (by rw[ok];exact⟨hnl.2 hn0,q5⟩) (fun x _=>by rw[uu7];simp) (fun x _=>by rw[uu7];simp) (fun o ho=>by rw[uu7]at ho;cases ho) rfl
   refine⟨_,_,_,_,h,A',Z2,Zp2,rfl, ?_,by simpa [AT.era,eraL]using st⟩
   unfold aput
   simp
   rfl
  ·have hcn: ∀x,x<h.length→(AT.sl h.length 0 m m nl e u D).fp.count x≤(fpL D).count x:=fun x hx=>by
    rw[AT.fp,xi6,if_neg (by simp;omega)];exact jj6 _
   obtain⟨A',Z2,Zp2,st⟩:=Step.grow (kn:= .sl h.length 0 m m nl e u D) (h':=h++[.row ⟨D.map AT.val,e,u,true⟩]) i i1 e1 s1 z1 q1 rfl rfl (by simp) (fun o ho _=>bu4 ho)
    (by
      rw[ok]
      refine⟨_,cv8,rfl,rfl,rfl,q5,hm,jj6 _,⟨fun _ e0=>hm0 ?_,by simp⟩,by rw[sv4,sp3 (by simp)],okL.keep (fun o ho=> .inl ho) (fun o ho=>z45 (i1.zlt o (i1.zp o ho))) hokD fun o ho=>z45 (hDlt o ho)⟩
      rw[e0]at hm
      rcases Nat.mul_eq_zero.1 hm with h1|h1
      ·exact h1
      ·omega)
    (fun x hx=>by have:=hcn x hx;omega) (fun x hx=>by
      rw[AT.fp,xi6]
      have:(fpL D).count x=0:=xe3.2 fun hm=>by have:=hDlt x hm;omega
      rw[this];split<;>omega) (fun o ho=>by
      rw[AT.fp]at ho
      rcases r04.1 ho with rfl|ho
      ·simp
      ·have:=hDlt o ho;simp;omega) rfl
   refine⟨_,_,_,_,_,A',Z2,Zp2,rfl, ?_,by simpa [AT.era,hD]using st⟩
   unfold aput
   simp only[]
   rw[if_pos (by simp),if_neg hm0,if_pos hf];rfl
 ·have hok:=lw8 i1.left q1
  rw[i47]at q4
  obtain⟨row,r1,r2,r3,r4,r5,r6⟩:=jk2 hok q4 q9' q9
  have hseg:lo*u+n*u≤l.length:=by rw[←ur9];exact q4
  have hpl:((l.drop (lo*u)).take (n*u)).length=n*u:=sx8 hseg
  have hol:o<h.length:=h42 r1
  have hokl:o∈(AT.sl o off n0 c0 nl0 e u l).fp:=by rw[AT.fp];simp
  have hkA: ∀x,(AT.sl o off n0 c0 nl0 e u l).fp.count x≤(fpL A1).count x:=fun x=>bm6 x q1
  have hac: ∀x,(fpL A1).count x+(fpL D).count x≤1:=fun x=>by have:=i1.nd x;rwa [xv9,m34]at this
  have hkc: ∀x,(AT.sl o off n0 c0 nl0 e u l).fp.count x=(fpL l).count x+if(o==x)=true then 1 else 0:=fun x=>by rw[AT.fp,xi6]
  have hoD:o∉fpL D:=fun hm=>by have:=ea9.1 hm;have:=ea9.1 hokl;have:=hkA o;have:=hac o;omega
  have hol':o∉fpL l:=fun hm=>by
   have h1:=ea9.1 hm;have h2:=hkc o;have h3:=hkA o;have h4:=hac o
   rw[if_pos (by simp)]at h2;omega
  have hlA: ∀x∈fpL l,x<h.length:=fun x hx=>i1.left.lt x (ea9.2 (by have:=ea9.1 hx;have:=hkA x;have:=hkc x;omega))
  have hrow: ∀x,x<h.length→x≠o→H.row (kill h o++[.row ⟨(row.cells.drop (off+lo'*u)).take (n*u)++D.map AT.val,e,u,true⟩]) x=h.row x:=fun x hx hne=>by
   rw[z45 (by rw[q89];exact hx),zz6 fun e=>hne e.symm]
  have hzo: ∀x,Zp1 x→x≠o:=fun x hx e=>i1.nz o (by rw[xv9];exact zk7 _ (ea9.2 (by have:=ea9.1 hokl;have:=hkA o;omega))) (e▸i1.zp x hx)
  have hkl:(kill h o).length=h.length:=q89
  obtain⟨A',Z2,Zp2,st⟩:=Step.grow (kn:= .sl h.length 0 (n+m) (n+m) nl e u ((l.drop (lo*u)).take (n*u)++D)) (h':=kill h o++[.row ⟨(row.cells.drop (off+lo'*u)).take (n*u)++D.map AT.val,e,u,true⟩]) i i1 e1 s1 z1 q1 rfl rfl (by simp[hkl])
   (fun x hx hn=>by
     rw[bu4 (by rw[hkl];exact hx)]
     exact zv3 fun e=>hn (e▸hokl))
   (by
     rw[ok]
     refine⟨_,rr6 hkl.symm,rfl,rfl,rfl,q5,by rw[j82,hpl,←hm,ur9],jj6 _,⟨fun e1' e0=> ?_,by show 0+_≤List.length (_++_);rw[j82,hpl,j82,r6,q11,q11,hpl];omega⟩, ?_,ca4.2 ⟨ga5.2 fun c hc=> ?_,okL.keep (fun o ho=> .inl ho) (fun x hx=>hrow x (i1.zlt x (i1.zp x hx)) (hzo x hx)) hokD fun x hx=>hrow x (hDlt x hx) fun e=>hoD (e▸hx)⟩⟩
     ·obtain⟨e2,e3⟩:=q3 e1'
      have:nl0=1:=by
       rcases q2 with q2|q2
       ·rw[←q2];exact e1'
       ·rw[q2]at e1';split at e1'<;>cases e1'
      have h5:=q7 this
      have h6:=congrArg List.length e0
      rw[j82,hpl,e3,fo5]at h6
      exact h5 (js1 (by omega))
     ·rw[sv4,r6,←hm3,sp3 (by simp)]
     ·have hcl:c∈l:=lq8 (tn5 hc)
      have hfl: ∀x∈c.fp,x∈fpL l:=fun x hx=>by rw[zq7,c90];exact⟨c,hcl,hx⟩
      exact ok.keep (fun o ho=> .inl ho) (fun x hx=>hrow x (i1.zlt x (i1.zp x hx)) (hzo x hx)) (ga5.1 (by5 rfl hok) c hcl) fun x hx=>hrow x (hlA x (hfl x hx)) fun e=>hol' (e▸hfl x hx))
   (fun x hx=>by
     rw[AT.fp,xi6,if_neg (by simp;omega),xv9,m34,hkc]
     have:=gc1 l (lo*u) (n*u) x;omega)
   (fun x hx=>by
     rw[AT.fp,xi6,xv9,m34]
     have h1:(fpL D).count x=0:=xe3.2 fun hm=>by have:=hDlt x hm;omega
     have h2:(fpL l).count x=0:=xe3.2 fun hm=>by have:=hlA x hm;omega
     have:=gc1 l (lo*u) (n*u) x
     split<;>omega)
   (fun x hx=>by
     rw[AT.fp]at hx
     rw[rl9,hkl]
     rcases r04.1 hx with rfl|hx
     ·omega
     ·rw[xv9]at hx
      rcases bk2.1 hx with hx|hx
      ·have:=hlA x (ea9.2 (by have:=ea9.1 hx;have:=gc1 l (lo*u) (n*u) x;omega));omega
      ·have:=hDlt x hx;omega) rfl
  refine⟨_,_,_,_,_,A',Z2,Zp2,rfl, ?_,by simpa [AT.era,hD,nc9,xg5]using st⟩
  unfold aput
  simp only[r1]
  rw[if_pos (by simp[r2,r3,r4,q8,hf];exact r5)]
  rfl
theorem zk4(i:Inv h A Z Zp){s:AV}{ws wx:Value}(hs:VR h A Z Zp s ws){X:VS}(hX:SR h A Z Zp X wx){elem size bytes:Nat}{news:List Tree}{R1:Rts}(hsrc:vsrc (A.map AT.era) size X=some (news,R1)){r:Nat}{p:List Nat}{nl e u:Nat}{cs:List Tree}{lo n:Nat}(hS:vsl R1 s=some (.o r p nl e u cs lo n))(he:e=elem)(hu:u=size)(hf:few (n+news.length/u) bytes=true):
 ∃v h' A' Z' Zp',aapp elem size bytes h ws wx=some (v,h')∧Step h A Z Zp (some (.own R1.length []),rset R1 r p .junk++[.sl nl e u ((cs.drop (lo*u)).take (n*u)++news)],some []) (some v) h' A' Z' Zp':=by
 obtain⟨A1,D,Z1,Zp1,m,b,d,rfl,hD,rfl,hm,hsc,i1,e1,s1,z1,l1⟩:=yj8 i hX hsrc
 obtain⟨sa,n1,c1,v,h',A',Z',Zp',rfl,g1,g2⟩:=nu6 (elem:=elem) i hs hD hm i1 e1 s1 z1 hS he hu hf
 exact⟨v,h',A',Z',Zp',by unfold aapp;simp only[hsc,g1],g2⟩
theorem bb3(i:Inv h A Z Zp)(m:Nat): ∃D Z1 Zp1,eraL D=repT [.v (.int .i64 0)] m∧D.map AT.val=List.replicate m (.int .i64 0)∧m*1=D.length∧Inv h (A++D) Z1 Zp1∧Ext h A Zp h (A++D) Zp1∧(∀o,Z o→Z1 o):=by
 have hr: ∀m:Nat,eraL (List.replicate m (AT.v (.int .i64 0)))=repT [.v (.int .i64 0)] m:=by
  intro m
  induction m with
  |zero=>rfl
  |succ m ih=>rw[lg2,repT,←ih];simp[dk4,AT.era]
 have hD:fpL (List.replicate m (AT.v (.int .i64 0)))=[]:=by
  rw[zq7,qw7]
  intro t ht
  rw[ug1 ht];exact v_fp _
 have hk:okL h Zp (List.replicate m (AT.v (.int .i64 0))):=ga5.2 fun t ht=>by
  rw[ug1 ht,ok];trivial
 obtain⟨i1,e1⟩:=Inv.new (h':=h) (A:=A) (C:=[]) (N:=List.replicate m (AT.v (.int .i64 0))) (Zx:=fun _=>False) (by rw[nw0];exact i) (jj6 _) (fun _ _=>rfl) (okL.keep (fun o ho=> .inl ho) (fun _ _=>rfl) hk fun _ _=>rfl) (fun x _=>by rw[hD];simp) (fun x _=>by rw[hD];simp) (fun o ho=>by rw[hD]at ho;cases ho) (fun o ho=>ho.elim)
 rw[nw0]at e1
 exact⟨_,_,_,hr m,by rw[List.map_replicate];rfl,by simp,i1,e1,fun o ho=> .inl ho⟩
theorem v74(t:Tree): ∀m,(repT [t] m).length=m
 |0=>rfl
 |m+1=>by rw[repT,j82,v74 t m];simp;omega
theorem c45(i:Inv h A Z Zp){s:AV}{ws:Value}(hs:VR h A Z Zp s ws){elem bytes m:Nat}{r:Nat}{p:List Nat}{nl e u:Nat}{cs:List Tree}{lo n:Nat}(hS:vsl (A.map AT.era) s=some (.o r p nl e u cs lo n))(he:e=elem)(hu:u=1)(hf:few (n+m) bytes=true):
 ∃sa n1 c1 v h' A' Z' Zp',ws= .slice sa n1 c1∧aput elem 1 bytes h sa n1 c1 m (List.replicate m (.int .i64 0))=some (v,h')∧Step h A Z Zp (some (.own (A.map AT.era).length []),rset (A.map AT.era) r p .junk++[.sl nl e u ((cs.drop (lo*u)).take (n*u)++repT [.v (.int .i64 0)] m)],some []) (some v) h' A' Z' Zp':=by
 obtain⟨D,Z1,Zp1,hD,hv,hm,i1,e1,z1⟩:=bb3 i m
 rw[←hv]
 exact nu6 i hs hD hm i1 e1 (Stab.refl _ _) z1 hS he hu (by rw[hu,Nat.div_one,v74];exact hf)
end
end Go.Vm
namespace Go.Vm
open Go.Am
theorem cb1{h h':H}{o:Nat}(hp:h<+:h')(ho:o<h.length):h'[o]? =h[o]? :=by
 obtain⟨t,rfl⟩:=hp
 exact bu4 ho
theorem nv6(l:List Value):(l.map AT.v).map AT.val=l:=by
 rw[uk6]
 conv=>rhs;rw[←List.map_id l]
 rfl
section
variable {h:H} {A:List AT} {Z Zp:Nat→Prop} {fr:VFr} {f:Fr}
theorem Step.fresh(i:Inv h A Z Zp){A1 D:List AT}{Z1 Zp1:Nat→Prop}(i1:Inv h (A1++D) Z1 Zp1)(e1:Ext h A Zp h (A1++D) Zp1)(s1:Stab A A1 [])(z1: ∀o,Z o→Z1 o){kn:AT}{h':H}(hp:h<+:h')
 (hok:ok h' (fun o=>Zp1 o∨False) kn) (hc: ∀x,x<h.length→kn.fp.count x≤(fpL D).count x) (hd: ∀x,h.length≤x→kn.fp.count x≤1) (hb: ∀o∈kn.fp,o<h'.length) {ks:Option (List Nat)} (hks:ks=none→A1=A):
 ∃A' Z2 Zp2,Step h A Z Zp (some (.own A1.length []),A1.map AT.era++[kn.era],ks) (some kn.val) h' A' Z2 Zp2:=by
 obtain⟨i2,e2⟩:=Inv.new (A:=A1) (C:=D) (N:=[kn]) (Zx:=fun _=>False) i1 hp.length_le (fun o ho=>cb1 hp ho) (vd4.2 hok) (fun x hx=>by rw[zr4];exact hc x hx) (fun x hx=>by rw[zr4];exact hd x hx) (fun o ho=>by rw[zr4]at ho;exact hb o ho) (fun o ho=>ho.elim)
 refine⟨A1++[kn],_,_,by simp,i2,e1.trans e2,(s1.app [kn]).weak (fun r hr=>by cases hr),fun o ho=> .inl (z1 o ho), ?_,fun hn=>⟨hp,[kn],by rw[hks hn]⟩⟩
 show VR _ _ _ _ (.own A1.length []) kn.val
 rw[VR]
 refine⟨by simp,fun b hb _=> ?_⟩
 unfold aget at hb
 rw[lp1 (jj6 _),ob6]at hb
 cases hb
 rfl
theorem e47(i:Inv h A Z Zp){A1 D:List AT}{Z1 Zp1:Nat→Prop}(i1:Inv h (A1++D) Z1 Zp1)(e1:Ext h A Zp h (A1++D) Zp1)(s1:Stab A A1 [])(z1: ∀o,Z o→Z1 o){kn:AT}{row:Row}(hfp:kn.fp=h.length::fpL D)
 (hok:okL (h++[.row row]) (fun o=>Zp1 o∨False) D→ok (h++[.row row]) (fun o=>Zp1 o∨False) kn) {ks:Option (List Nat)} (hks:ks=none→A1=A):
 ∃A' Z2 Zp2,Step h A Z Zp (some (.own A1.length []),A1.map AT.era++[kn.era],ks) (some kn.val) (h++[.row row]) A' Z2 Zp2:=by
 have hDlt: ∀o∈fpL D,o<h.length:=fun o ho=>i1.lt o (by rw[xv9];simp[ho])
 refine Step.fresh i i1 e1 s1 z1 (w63 _ _) (hok (okL.keep (fun o ho=> .inl ho) (fun o ho=>z45 (i1.zlt o (i1.zp o ho))) (ca4.1 i1.okA).2 fun o ho=>z45 (hDlt o ho))) (fun x hx=> ?_) (fun x hx=> ?_) (fun x hx=> ?_) hks
 ·rw[hfp,xi6,if_neg (by simp;omega)];exact jj6 _
 ·have:(fpL D).count x=0:=xe3.2 fun hm=>by have:=hDlt x hm;omega
  rw[hfp,xi6,this];split<;>omega
 ·rw[hfp]at hx
  rw[rl9]
  rcases r04.1 hx with rfl|hx
  ·omega
  ·have:=hDlt x hx;omega
theorem qe2(i:Inv h A Z Zp){A1 D:List AT}{Z1 Zp1:Nat→Prop}{m:Nat}{elem size bytes:Nat}{news:List Tree}(hD:eraL D=news)(hm:m*size=D.length)(i1:Inv h (A1++D) Z1 Zp1)(e1:Ext h A Zp h (A1++D) Zp1)(s1:Stab A A1 [])(z1: ∀o,Z o→Z1 o)(hu:size≠0)(hf:few (news.length/size) bytes=true):
 ∃v h' A' Z' Zp',aput elem size bytes h none 0 0 m (D.map AT.val)=some (v,h')∧Step h A Z Zp (some (.own (A1.map AT.era).length []),A1.map AT.era++[.sl 1 elem size news],some []) (some v) h' A' Z' Zp':=by
 have hlm:news.length/size=m:=ga2 (bytes:=bytes) (n:=0) (by omega) hm hD
 rw[hlm]at hf
 rw[q11]
 by_cases hm0:m=0
 ·subst hm0
  obtain rfl:D=[]:=js1 (by rw[←hm];simp)
  cases hD
  obtain⟨A',Z2,Zp2,st⟩:=Step.fresh (kn:= .nil 1 elem size) (h':=h) (ks:=some []) i i1 e1 s1 z1 (je0 _) (by rw[ok];exact⟨by decide,by omega⟩) (fun x _=>by rw[uu7];simp) (fun x _=>by rw[uu7];simp) (fun o ho=>by rw[uu7]at ho;cases ho) (fun h=>by cases h)
  refine⟨_,h,A',Z2,Zp2, ?_,by simpa [AT.era,eraL]using st⟩
  unfold aput
  simp
  rfl
 ·obtain⟨A',Z2,Zp2,st⟩:=e47 (kn:= .sl h.length 0 m m 1 elem size D) (row:=⟨D.map AT.val,elem,size,true⟩) (ks:=some []) i i1 e1 s1 z1 (by rw[AT.fp]) (fun hk=>by
   rw[ok]
   refine⟨_,cv8,rfl,rfl,rfl,by omega,hm,jj6 _,⟨fun _ e0=>hm0 ?_,by simp⟩,by rw[sv4,sp3 (by simp)],hk⟩
   rw[e0]at hm
   rcases Nat.mul_eq_zero.1 hm with h1|h1
   ·exact h1
   ·omega) (fun h=>by cases h)
  refine⟨_,_,A',Z2,Zp2, ?_,by simpa [AT.era,hD]using st⟩
  unfold aput
  simp only[]
  rw[if_pos (by simp),if_neg hm0,if_pos hf];rfl
theorem qk7(i:Inv h A Z Zp){wx:Value}{X:VS}(hX:SR h A Z Zp X wx){elem size bytes:Nat}{news:List Tree}{R1:Rts}(hsrc:vsrc (A.map AT.era) size X=some (news,R1))(hu:size≠0)(hf:few (news.length/size) bytes=true):
 ∃v h' A' Z' Zp',aapp elem size bytes h (.slice none 0 0) wx=some (v,h')∧Step h A Z Zp (some (.own R1.length []),R1++[.sl 1 elem size news],some []) (some v) h' A' Z' Zp':=by
 obtain⟨A1,D,Z1,Zp1,m,b,d,rfl,hD,rfl,hm,hsc,i1,e1,s1,z1,l1⟩:=yj8 i hX hsrc
 obtain⟨v,h',A',Z',Zp',g1,g2⟩:=qe2 (elem:=elem) (bytes:=bytes) i hD hm i1 e1 s1 z1 hu hf
 exact⟨v,h',A',Z',Zp',by unfold aapp;simp only[hsc,g1],g2⟩
theorem uk9(i:Inv h A Z Zp){elem bytes m:Nat}(hf:few m bytes=true):
 ∃v h' A' Z' Zp',aput elem 1 bytes h none 0 0 m (List.replicate m (.int .i64 0))=some (v,h')∧Step h A Z Zp (some (.own (A.map AT.era).length []),A.map AT.era++[.sl 1 elem 1 (repT [.v (.int .i64 0)] m)],some []) (some v) h' A' Z' Zp':=by
 obtain⟨D,Z1,Zp1,hD,hv,hm,i1,e1,z1⟩:=bb3 i m
 rw[←hv]
 exact qe2 i hD hm i1 e1 (Stab.refl _ _) z1 (by decide) (by rw[Nat.div_one,v74];exact hf)
theorem wd9: ∀{t:Tree} {cs:List Tree},t.kids=some cs→t.setKids cs=t
 | .sl _ _ _ _,cs,h=>by cases h;rfl
 | .pt _ _,cs,h=>by cases h;rfl
 | .mp _ _,cs,h=>by cases h;rfl
 | .v _,cs,h=>by cases h
 | .fn _ _,cs,h=>by cases h
 | .fz _,cs,h=>by cases h
 | .junk,cs,h=>by cases h
 | .ex _,cs,h=>by cases h
theorem e62: ∀{p:List Nat} {t s:Tree},t.get p=some s→t.upd p s=t
 | [],t,s,h=>by cases h;rfl
 |i::p,t,s,h=>by
  simp only[Tree.get,Tree.upd]at h⊢
  cases hk:t.kids with
  |none=>rfl
  |some cs=>
   rw[hk]at h
   simp only[]at h⊢
   cases hc:cs[i]? with
   |none=>rfl
   |some c=>
    rw[hc]at h
    simp only[]
    rw[e62 h]
    have:cs.set i c=cs:=by
     obtain⟨h1,h2⟩:=ck5.1 hc
     rw[←h2];exact List.set_getElem_self h1
    rw[this,wd9 hk]
theorem by7{R:Rts}{r:Nat}{p:List Nat}{s:Tree}(h:rget R r p=some s):rset R r p s=R:=by
 unfold rget at h
 unfold rset
 cases hr:R[r]? with
 |none=>rfl
 |some t=>
  rw[hr]at h
  simp only[]at h⊢
  rw[e62 h]
  obtain⟨h1,h2⟩:=ck5.1 hr
  rw[←h2];exact List.set_getElem_self h1
theorem qe9(i:Inv h A Z Zp){S:VS}{ws:Value}(hS:SR h A Z Zp S ws){size:Nat}(hu:S.unit size=size)(hs:size≠0)(hv:S.part.all isV=true): ∃vs b m d,ws= .slice b m d∧m*size=S.part.length∧S.part=vs.map Tree.v∧b38 h size m ws=some vs:=by
 have pure: ∀{ts:List Tree},ts.all isV=true→ ∃vs:List Value,ts=vs.map Tree.v:=fun{ts} hv=>by
  induction ts with
  |nil=>exact⟨[],rfl⟩
  |cons t ts ih=>
   rw[List.all_cons,b83]at hv
   obtain⟨vs,rfl⟩:=ih hv.2
   cases t with
   |v x=>exact⟨x::vs,rfl⟩
   |_=>simp[isV]at hv
 obtain⟨vs,hvs⟩:=pure hv
 cases S with
 |nil=>
  cases hS
  refine⟨[],none,0,0,rfl,by simp[VS.part,jp2],rfl,rfl⟩
 |f b nl u cs=>
  have hu:u=size:=hu
  subst hu
  obtain⟨e,hx⟩:=hS
  rw[Rd]at hx
  have hvs:cs=vs.map Tree.v:=hvs
  rcases hx with⟨rfl,_,hu0,rfl⟩|⟨o,off,n,c,row,rfl,x2,x3,x4,x5,x6,x7,x8,x9⟩
  ·exact⟨[],none,0,0,rfl,by simp[VS.part,jp2],rfl,rfl⟩
  ·have hd:(row.cells.drop off).take cs.length=vs:=by
    obtain⟨l1,l2⟩:=xo1.1 x9
    refine v63 fun j=> ?_
    by_cases hj:j<cs.length
    ·have hj2:j<vs.length:=by rw[hvs]at hj;simpa using hj
     have h1:cs[j]? =some (.v vs[j]):=by
      subst hvs
      rw[us5,wu3 hj2];rfl
     have h2:((row.cells.drop off).take cs.length)[j]? =some (((row.cells.drop off).take cs.length)[j]'(by omega)):=wu3 (by omega)
     have h3:=l2 j _ _ h1 h2
     rw[Rd]at h3
     rw[h2,h3]
     rw[wu3]
    ·rw[pb5 (by omega),pb5 (by rw[hvs]at hj;simpa using hj)]
   refine⟨vs,_,n,c,rfl,x6,hvs,pd7 x5 x3 (by rw[x6];exact hd) (by rw[x6,hvs];simp)⟩
 |o r p nl e u cs lo n=>
  have hu:u=size:=hu
  subst hu
  obtain⟨k,nl0,q1,q2,q3,q4,q5,q6⟩:=hS
  rcases q6 with⟨rfl,rfl,rfl,rfl,_,rfl⟩|⟨o,off,n0,c0,l,lo',c',rfl,rfl,q7,rfl,q8,q9',q9⟩
  ·exact⟨[],none,0,0,rfl,by simp[VS.part,jp2],by simp[VS.part,jp2],rfl⟩
  ·have hok:=lw8 i q1
   rw[i47]at q4
   obtain⟨row,r1,r2,r3,r4,r5,r6⟩:=jk2 hok q4 q9' q9
   have hseg:lo*u+n*u≤l.length:=by rw[←ur9];exact q4
   have hpl:((l.drop (lo*u)).take (n*u)).length=n*u:=sx8 hseg
   have hvs':eraL ((l.drop (lo*u)).take (n*u))=vs.map Tree.v:=by rw[xg5];rw[←hvs];simp only[VS.part,jp2]
   have hval:((l.drop (lo*u)).take (n*u)).map AT.val=vs:=by
    generalize (l.drop (lo*u)).take (n*u)=D at hvs'
    clear hvs hpl r6
    induction D generalizing vs with
    |nil=>cases vs with
     |nil=>rfl
     |cons=>cases hvs'
    |cons c D ih=>cases vs with
     |nil=>cases hvs'
     |cons v vs=>
      rw[eraL,nf9,il0]at hvs'
      rw[nf9,ih vs hvs'.2]
      congr 1
      cases c<;>first|(cases hvs'.1;done)|skip
      have:=hvs'.1
      rw[AT.era]at this;cases this;rfl
   refine⟨vs,_,n,c',rfl,by rw[show(VS.o r p nl e u (eraL l) lo n).part=_ from rfl];simp only[VS.part,jp2];rw[←xg5,i47,hpl],hvs,pd7 q5 r1 (by rw[r6,hval]) (by rw[←hval,q11,hpl])⟩
theorem wt9(i:Inv h A Z Zp){wd ws:Value}{r:Nat}{p:List Nat}{nl e u:Nat}{cs:List Tree}{lo n:Nat}(hD:SR h A Z Zp (.o r p nl e u cs lo n) wd){S:VS}(hS:SR h A Z Zp S ws){size:Nat}(hu:u=size)(hv:S.part.all isV=true)(hu2:S.unit size=size){t:Tree}(ht:rget (A.map AT.era) r p=some t):
 ∃v h' A' Z' Zp',acpy size h wd ws=some (v,h')∧Step h A Z Zp (some (.x (.int .i64 (min (S.part.length/size) n:Nat))),rset (A.map AT.era) r p (t.setKids (setL cs (lo*u) (S.part.take (n*u)))),some []) (some v) h' A' Z' Zp':=by
 subst hu
 obtain⟨k,nl0,q1,q2,q3,q4,q5,q6⟩:=hD
 obtain⟨vs,b,m,d,rfl,hm,hp,hsc⟩:=qe9 i hS hu2 (by omega) hv
 have hlm:S.part.length/u=m:=by rw[←hm,jw5 _ q5]
 rw[hlm]
 have hk2:t=k.era:=by rw[p00,q1]at ht;cases ht;rfl
 have hkk:t.kids=some cs:=by
  rw[hk2]
  rcases q6 with⟨rfl,rfl,_⟩|⟨o,off,n0,c0,l,lo',c',rfl,rfl,_⟩<;>rfl
 by_cases h0:min m n=0
 ·have hx:setL cs (lo*u) (S.part.take (n*u))=cs:=by
   have:S.part.take (n*u)=[]:=by
    rcases Nat.le_total m n with hmn|hmn
    ·have:m=0:=by omega
     have:S.part=[]:=js1 (by rw[←hm,this];simp)
     rw[this];simp
    ·have:n=0:=by omega
     rw[this];simp
   rw[this];rfl
  rw[hx,wd9 hkk,by7 ht,h0]
  refine⟨.int .i64 0,h,A,Z,Zp, ?_,⟨rfl,i,Ext.refl _ _ _,Stab.refl _ _,fun _ ho=>ho,by show VR _ _ _ _ (.x _) _;rw[VR];rfl,fun hn=>by cases hn⟩⟩
  have hsc0:b38 h u 0 (.slice b m d)=some []:=by unfold b38;simp
  rcases q6 with⟨_,_,_,_,_,rfl⟩|⟨o,off,n0,c0,l,lo',c',_,_,_,rfl,_⟩
  ·unfold acpy
   simp only[Nat.min_zero,hsc0];rfl
  ·unfold acpy
   simp only[h0,hsc0];rfl
 ·rcases q6 with⟨_,_,e0,_⟩|⟨o,off,n0,c0,l,lo',c',rfl,rfl,q7,rfl,q8,q9',q9⟩
  ·omega
  ·have hn0:0<n:=by omega
   have hlo:=q9 hn0
   subst hlo
   have hsc2:b38 h u (min m n) (.slice b m d)=some (vs.take (n*u)):=by
    unfold b38 at hsc⊢
    simp only[]at hsc⊢
    rw[if_neg (by omega),if_pos (by omega)]
    rw[if_neg (by omega),if_pos (jj6 _)]at hsc
    cases b with
    |none=>cases hsc
    |some b=>
     simp only[]at hsc⊢
     split at hsc
     ·rw[if_pos ‹_›]
      unfold H.lds at hsc⊢
      split at hsc
      ·split at hsc
       ·cases hsc
        have:min m n*u≤m*u:=wg6 u (Nat.min_le_left _ _)
        rw[if_pos (by omega)]
        rw[List.take_take]
        congr 2
        rcases Nat.le_total m n with hmn|hmn
        ·rw[xp9 hmn]
         have:m*u≤n*u:=wg6 u hmn
         omega
        ·rw[Nat.min_eq_right hmn]
         have:n*u≤m*u:=wg6 u hmn
         omega
       ·cases hsc
      ·cases hsc
     ·cases hsc
   --the cells in hand
   have hDf:fpL ((vs.take (n*u)).map AT.v)=[]:=by rw[zq7,List.flatMap_map,qw7];intro v _;exact v_fp _
   have hDe:eraL ((vs.take (n*u)).map AT.v)=S.part.take (n*u):=by rw[dk4,uk6,hp,←iw6];rfl
   obtain⟨i1,e1⟩:=Inv.new (h':=h) (A:=A) (C:=[]) (N:=(vs.take (n*u)).map AT.v) (Zx:=fun _=>False) (by rw[nw0];exact i) (jj6 _) (fun _ _=>rfl) (ga5.2 fun a ha=>by obtain⟨v,_,rfl⟩:=vf1.1 ha;rw[ok];trivial) (fun x _=>by rw[hDf];simp) (fun x _=>by rw[hDf];simp) (fun o ho=>by rw[hDf]at ho;cases ho) (fun o ho=>ho.elim)
   rw[nw0]at e1
   have hvl:vs.length=m*u:=by rw[hm,hp];simp
   have hne:(vs.take (n*u)).map AT.v≠[]:=by
    intro e
    have:=congrArg List.length e
    rw[q11,vb8,hvl,fo5]at this
    have h1:0<n*u:=Nat.mul_pos hn0 q5
    have h2:0<m*u:=Nat.mul_pos (by omega) q5
    omega
   rw[i47]at q4
   have hlen2:lo'*u+(S.part.take (n*u)).length≤(eraL l).length:=by
    rw[i47,vb8]
    rw[ur9]at q4;omega
   have hw:z26 (A.map AT.era) r p (lo'*u) (eraL ((vs.take (n*u)).map AT.v))=some (rset (A.map AT.era) r p (t.setKids (setL (eraL l) (lo'*u) (S.part.take (n*u))))):=by
    unfold z26
    rw[ht]
    simp only[hkk]
    rw[hDe,if_pos hlen2]
   have hcell:VR h A (fun o=>Z o∨False) (fun o=>Zp o∨False) (.cell r p (lo'*u)) (.pointer (some ⟨o,off+lo'*u,none⟩)):=by
    rw[VR]
    exact⟨vs7 q1,fun b hb _=>by rw[q1]at hb;cases hb;rfl⟩
   obtain⟨o2,off2,h',A2,w1,w2,w3,⟨Z2,Zp2,i2,e2,z2⟩,w5⟩:=dp1 i1 (ws:=vs.take (n*u)) (nv6 _) hne hcell hw
   cases w1
   refine⟨.int .i64 (min m n:Nat),h',A2,Z2,Zp2, ?_,⟨w3,i2,e1.trans e2, ?_,fun o ho=>z2 o (.inl ho),by show VR _ _ _ _ (.x _) _;rw[VR],fun hn=>by cases hn⟩⟩
   ·unfold acpy
    simp only[hsc2]
    rw[if_neg h0]
    simp only[cv9,oo9,w2]
   ·rw[hDe,if_pos (p92.2 fun x hx=>p92.1 hv x (tn5 hx))]at w5
    exact w5
end
end Go.Vm
