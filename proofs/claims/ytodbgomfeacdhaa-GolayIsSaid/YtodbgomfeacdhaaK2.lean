/-
  A second small machine of my own, over the first one: the same code, but with what memory holds as trees of values, so that nothing is said of addresses. Here: its values, what is owned, one operation ..
-/
import Derived.Test.YtodbgomfeacdhaaK1
set_option linter.unusedVariables false
set_option linter.unusedSimpArgs false
set_option linter.unusedSectionVars false
set_option maxRecDepth 100000
namespace Go.Vm
open Go.Am
inductive Tree where
 |v (x:Value)
 |sl (nl e u:Nat) (cs:List Tree)
 |pt (e:Nat) (cs:List Tree)
 |fn (f:FuncId) (cs:List Tree)
 |fz (t:Tree)
 |junk
 |ex (t:Tree)
inductive AV where
 |x (v:Value)
 |fz (pm:Bool) (t:Tree)
 |fzc (pm:Bool) (cs:List Tree) (i:Nat)
 |own (r:Nat) (p:List Nat)
 |sub (r:Nat) (p:List Nat) (u lo n:Nat)
 |cell (r:Nat) (p:List Nat) (i:Nat)
 |agg (l:List AV)
 |tup (l:List AV)
 |fn (f:FuncId) (l:List AV)
abbrev VFr:=Nat→Option AV
def VFr.set(fr:VFr)(s:Nat)(v:AV):VFr:=fun t=>bif Nat.beq t s then some v else fr t
def VFr.del(fr:VFr)(s:Nat):VFr:=fun t=>bif Nat.beq t s then none else fr t
def VFr.of:List (Nat×AV)→VFr
 | [],_=>none
 |(k,v)::r,t=>bif Nat.beq t k then some v else VFr.of r t
def VFr.put(fr:VFr):Option Nat→Option AV→VFr
 |some s,some v=>fr.set s v
 |some s,none=>fr.del s
 |none,_=>fr
def VFr.keep(fr:VFr):List Nat→List (Nat×AV)
 | []=>[]
 |k::ks=>match fr k with
  |some v=>(k,v)::fr.keep ks
  |none=>fr.keep ks
def VFr.args:Nat→List AV→VFr
 |_,[],_=>none
 |n,v::r,t=>bif Nat.beq t n then some v else VFr.args (n+1) r t
mutual
def strip:Tree→Tree
 | .v x=> .v x
 | .sl nl e u cs=> .sl nl 0 u (jj5 cs)
 | .pt e cs=> .pt 0 (jj5 cs)
 | .fn f cs=> .fn f (jj5 cs)
 | .fz t=>t
 | .junk=> .junk
 | .ex t=> .ex t
def jj5:List Tree→List Tree
 | []=>[]
 |t::l=>strip t::jj5 l
end
def Tree.kids:Tree→Option (List Tree)
 | .sl _ _ _ cs=>some cs
 | .pt _ cs=>some cs
 |_=>none
def Tree.setKids:Tree→List Tree→Tree
 | .sl nl e u _,cs=> .sl nl e u cs
 | .pt e _,cs=> .pt e cs
 |t,_=>t
def Tree.get:Tree→List Nat→Option Tree
 |t,[]=>some t
 |t,i::p=>match t.kids with
  |some cs=>match cs[i]? with
   |some k=>k.get p
   |none=>none
  |none=>none
def Tree.upd:Tree→List Nat→Tree→Tree
 |_,[],s=>s
 |t,i::p,s=>match t.kids with
  |some cs=>match cs[i]? with
   |some k=>t.setKids (cs.set i (k.upd p s))
   |none=>t
  |none=>t
def isNode:Tree→Bool
 | .sl .. =>true
 | .pt .. =>true
 | .ex (.sl ..)=>true
 | .ex (.pt ..)=>true
 |_=>false
def hc9:Tree→Bool
 | .sl .. =>true
 | .pt .. =>true
 |_=>false
theorem k60{t:Tree}(h:hc9 t=true):isNode t=true:=by cases t<;>first|rfl|cases h
def isV:Tree→Bool
 | .v _=>true
 |_=>false
def plain:Tree→Bool
 | .v _=>true
 | .fz _=>true
 |_=>false
abbrev Rts:=List Tree
def rget(R:Rts)(r:Nat)(p:List Nat):Option Tree:=match R[r]? with
 |some t=>t.get p
 |none=>none
def rset(R:Rts)(r:Nat)(p:List Nat)(s:Tree):Rts:=match R[r]? with
 |some t=>R.set r (t.upd p s)
 |none=>R
def setL{α:Type}:List α→Nat→List α→List α
 |cs,_,[]=>cs
 |cs,i,t::ts=>setL (cs.set i t) (i+1) ts
def vev(fr:VFr):Operand→Option AV
 | .tmp t=>fr t
 | .const (.agg cs)=>if cs.all tc5 then some (.agg (cs.toList.map AV.x))else none
 | .const (.tuple cs)=>none
 | .const v=>if tc5 v then some (.x v)else none
 | .global _=>none
 | .func f=>some (.fn f [])
def vevs(fr:VFr):List Operand→Option (List AV)
 | []=>some []
 |x::r=>match vev fr x,vevs fr r with
  |some v,some vs=>some (v::vs)
  |_,_=>none
def vx(fr:VFr)(o:Operand):Option Value:=match vev fr o with
 |some (.x v)=>some v
 |_=>none
def vxs(fr:VFr):List Operand→Option (List Value)
 | []=>some []
 |x::r=>match vx fr x,vxs fr r with
  |some v,some vs=>some (v::vs)
  |_,_=>none
def vxo(fr:VFr):Option Operand→Option (Option Int)
 |none=>some none
 |some x=>match vx fr x with
  |some v=>match bound v with
   |some i=>some (some i)
   |none=>none
  |none=>none
def one:Value→Bool
 | .agg _=>false
 | .tuple _=>false
 |_=>true
def cellsOf:AV→List AV
 | .agg l=>l
 |a=>[a]
mutual
def ofz(b:Bool):Tree→Option AV
 | .v x=>some (.x x)
 | .sl nl e u cs=>some (.fz b (.sl nl e u cs))
 | .pt e cs=>some (.fz b (.pt e cs))
 | .fn f cs=>match ofzL b cs with
   |some l=>some (.fn f l)
   |none=>none
 | .fz t=>ofz b t
 | .junk=>none
 | .ex (.sl nl e u cs)=>some (.fz b (.ex (.sl nl e u cs)))
 | .ex (.pt e cs)=>some (.fz b (.ex (.pt e cs)))
 | .ex _=>none
def ofzL(b:Bool):List Tree→Option (List AV)
 | []=>some []
 |t::l=>match ofz b t,ofzL b l with
  |some a,some r=>some (a::r)
  |_,_=>none
end
def dull:Tree→Tree
 | .sl _ e u cs=> .sl 2 e u cs
 |t=>t
def vput(sh:Bool)(R:Rts):AV→Option (Tree×Rts)
 | .x v=>if one v then some (.v v,R)else none
 | .fz true t=>if isNode t then some (.fz t,R)else none
 | .own r p=>match rget R r p with
   |some (.fz t)=>if isNode t then some (.fz t,R)else none
   |some .junk=>some (.junk,R)
   |some s=>if isNode s then if sh then some (.fz (strip s),rset R r p (.fz (strip s)))else some (dull s,rset R r p .junk)else none
   |none=>none
 | .fn f []=>some (.fn f [],R)
 |_=>none
def az9(sh:Bool):Rts→List AV→Option (List Tree×Rts)
 |R,[]=>some ([],R)
 |R,a::l=>match vput sh R a with
  |some (t,R1)=>match az9 sh R1 l with
   |some (ts,R2)=>some (t::ts,R2)
   |none=>none
  |none=>none
inductive VP where
 |o (r:Nat) (p:List Nat) (i:Nat)
 |f (b:Bool) (cs:List Tree) (i:Nat)
def vptr(R:Rts):AV→Option VP
 | .cell r p i=>some (.o r p i)
 | .own r p=>match rget R r p with
   |some (.pt _ _)=>some (.o r p 0)
   |some (.fz (.pt _ cs))=>some (.f true cs 0)
   |_=>none
 | .fzc b cs i=>some (.f b cs i)
 | .fz b (.pt _ cs)=>some (.f b cs 0)
 | .fz b (.ex (.pt _ cs))=>some (.f b cs 0)
 |_=>none
inductive VS where
 |o (r:Nat) (p:List Nat) (nl e u:Nat) (cs:List Tree) (lo n:Nat)
 |f (b:Bool) (nl u:Nat) (cs:List Tree)
 |nil
def vsl(R:Rts):AV→Option VS
 | .own r p=>match rget R r p with
   |some (.sl nl e u cs)=>some (.o r p nl e u cs 0 (cs.length/u))
   |some (.fz (.sl nl _ u cs))=>some (.f true nl u cs)
   |_=>none
 | .sub r p w lo n=>match rget R r p with
   |some (.sl nl e u cs)=>if(lo+n)*u≤cs.length∧u=w then some (.o r p (if nl=0 then 0 else 2) e u cs lo n)else none
   |_=>none
 | .fz b (.sl nl _ u cs)=>some (.f b nl u cs)
 | .fz b (.ex (.sl nl _ u cs))=>some (.f b nl u cs)
 | .x (.slice none 0 0)=>some .nil
 |_=>none
def ia8(r:Nat)(p:List Nat)(i:Nat):Tree→Option AV
 | .v x=>some (.x x)
 | .fz t=>ofz true t
 | .fn f cs=>if cs.all isV then match ofzL false cs with
   |some l=>some (.fn f l)
   |none=>none else none
 | .junk=>none
 | .ex _=>none
 | .sl .. =>some (.own r (p++[i]))
 | .pt .. =>some (.own r (p++[i]))
def vy4(R:Rts):VP→Option AV
 | .o r p i=>match rget R r p with
   |some s=>match s.kids with
    |some cs=>match cs[i]? with
     |some k=>ia8 r p i k
     |none=>none
    |none=>none
   |none=>none
 | .f b cs i=>match cs[i]? with
   |some k=>ofz b k
   |none=>none
def ek8(R:Rts)(r:Nat)(p:List Nat)(i:Nat):Option (AV×Rts):=match rget R r p with
 |some s=>match s.kids with
  |some cs=>match cs[i]? with
   |some k=>if hc9 k then some (.own R.length [],rset R r (p++[i]) .junk++[k])else none
   |none=>none
  |none=>none
 |none=>none
def VP.off(k:Nat):VP→VP
 | .o r p i=> .o r p (i+k)
 | .f b cs i=> .f b cs (i+k)
def k12(R:Rts):VP→Bool
 | .f .. =>true
 | .o r p i=>match rget R r p with
   |some (.pt _ _)=>true
   |some (.sl _ _ _ cs)=>decide (i<cs.length)
   |_=>false
def VP.av:VP→AV
 | .o r p i=> .cell r p i
 | .f b cs i=> .fzc b cs i
def hq6(R:Rts)(a:VP):Nat→Option (List AV)
 |0=>some []
 |n+1=>match hq6 R a n,vy4 R (a.off n)with
  |some l,some x=>some (l++[x])
  |_,_=>none
def z26(R:Rts)(r:Nat)(p:List Nat)(i:Nat)(ts:List Tree):Option Rts:=match rget R r p with
 |some s=>match s.kids with
  |some cs=>if i+ts.length≤cs.length then some (rset R r p (s.setKids (setL cs i ts)))else none
  |none=>none
 |none=>none
def cut(lo n u:Nat)(cs:List Tree):List Tree:=if lo=0∧n*u=cs.length then cs else(cs.drop (lo*u)).take (n*u)
theorem jp2(lo n u:Nat)(cs:List Tree):cut lo n u cs=(cs.drop (lo*u)).take (n*u):=by
 unfold cut
 split
 ·rename_i h
  rw[h.1,h.2,Nat.zero_mul,List.drop_zero,List.take_length]
 ·rfl
def VS.part:VS→List Tree
 | .o _ _ _ _ u cs lo n=>cut lo n u cs
 | .f _ _ _ cs=>cs
 | .nil=>[]
def VS.unit(size:Nat):VS→Nat
 | .o _ _ _ _ u _ _ _=>u
 | .f _ _ u _=>u
 | .nil=>size
def fzT:Tree→Tree
 | .v x=> .v x
 |t=> .fz t
def jk(t:Tree):Tree:=if plain t then t else .junk
def vsrc(R:Rts)(size:Nat):VS→Option (List Tree×Rts)
 | .o r p nl e u cs lo n=>if u=size then
    if(cut lo n u cs).all plain then some (cut lo n u cs,R)
    else match rget R r p with
     |some t=>some (cut lo n u cs,rset R r p (t.setKids (setL cs (lo*u) ((cut lo n u cs).map jk))))
     |none=>none
   else none
 | .f b nl u cs=>if u=size then if b then some (cs.map fzT,R)else if cs.all isV then some (cs,R)else none else none
 | .nil=>some ([],R)
abbrev CT:=Nat→Nat→Option (Nat×Nat)
def ia9:Option (Nat×Nat)→Value→Tree
 |some (e,u), .slice none 0 0=>if u=0 then .v (.slice none 0 0)else .sl 2 e u []
 |_,v=> .v v
def r48(ct:CT)(e:Nat):Nat→List Value→List Tree
 |_,[]=>[]
 |i,v::l=>ia9 (ct e i) v::r48 ct e (i+1) l
def repT(ts:List Tree):Nat→List Tree
 |0=>[]
 |n+1=>ts++repT ts n
inductive Mode where
 |bor (u:Nat)
 |own (e u:Nat)
 |perm (u:Nat)
structure Hint where
 nil:List (Nat×Nat×Nat)
 take:List Nat
 share:List Nat
 move:List Nat
def memN(s:Nat):List Nat→Bool
 | []=>false
 |a::l=>bif Nat.beq s a then true else memN s l
def jk4(s:Nat):List (Nat×Nat×Nat)→Option (Nat×Nat)
 | []=>none
 |(a,e,u)::l=>bif Nat.beq s a then some (e,u)else jk4 s l
def memO:Option Nat→List Nat→Bool
 |some s,l=>memN s l
 |none,_=>false
def g57(l:List Nat):Operand→Bool
 | .tmp s=>memN s l
 |_=>false
def er6(l:List Nat):List Operand→Bool
 | []=>false
 |x::r=>bif g57 l x then true else er6 l r
abbrev VRes:=AV×Rts×Rts
structure VW where
 T:Tab
 P:FuncId→Option (List AV→Rts→Option VRes)
 H:FuncId→Hint
 M:FuncId→List Mode
 ct:CT
def vnil(h:Hint)(R:Rts)(d:Option Nat):AV→AV×Rts
 | .x (.slice none 0 0)=>match d with
   |some s=>match jk4 s h.nil with
    |some (e,u)=>if u=0 then(.x (.slice none 0 0),R)else(.own R.length [],R++[.sl 1 e u []])
    |none=>(.x (.slice none 0 0),R)
   |none=>(.x (.slice none 0 0),R)
 |a=>(a,R)
def vmvd(h:Hint)(d:Option Nat):AV→Option (List Nat)
 | .x (.slice none 0 0)=>match d with
   |some s=>match jk4 s h.nil with
    |some (e,u)=>if u=0 then none else some []
    |none=>none
   |none=>none
 |_=>none
def oa5(R:Rts):AV→Bool
 | .x v=>one v
 | .fz _ t=>isNode t
 | .fzc .. =>true
 | .own r p=>match rget R r p with
   |some (.fz t)=>isNode t
   |some s=>isNode s
   |none=>false
 | .cell r p i=>k12 R (.o r p i)
 | .fn .. =>true
 |_=>false
def p54(R:Rts)(places:Nat→Option (Nat×Nat))(cells:List AV):List (Nat×AV)→Option (List AV)
 | []=>some cells
 |(i,v)::rest=>
  match places i with
  |none=>none
  |some (off,size)=>
   if(cellsOf v).length≠size|| !(cellsOf v).all (oa5 R)||off+size>cells.length then none
   else p54 R places (setL cells off (cellsOf v)) rest
def vevp(fr:VFr):List (Nat×Operand)→Option (List (Nat×AV))
 | []=>some []
 |(i,x)::r=>match vev fr x,vevp fr r with
  |some v,some vs=>some ((i,v)::vs)
  |_,_=>none
def wb3(R:Rts):Nat→AV→Option Bool
 |k, .x v=>anil k v
 |0,a=>match vsl R a with
  |some (.o _ _ 0 _ _ _ _ _)=>some false
  |some (.o _ _ 1 _ _ cs 0 _)=>some cs.isEmpty
  |some (.o _ _ _ _ _ _ _ n)=>if n=0 then none else some false
  |some (.f _ 0 _ _)=>some false
  |some (.f _ 1 _ cs)=>some cs.isEmpty
  |some (.f _ _ _ cs)=>if cs.isEmpty then none else some false
  |some .nil=>some true
  |none=>none
 |1,a=>match vptr R a with
  |some pa=>if k12 R pa then some false else none
  |none=>none
 |2, .fn _ _=>some false
 |_,_=>none
def vbx(R:Rts):AV→Option VP
 | .own r p=>match rget R r p with
   |some (.pt _ _)=>some (.o r p 0)
   |_=>none
 | .cell r p i=>match rget R r p with
   |some (.pt _ _)=>some (.o r p i)
   |_=>none
 |_=>none
def lu1(fr:VFr)(R:Rts):AOp→Option AV
 | .mv x=>vev fr x
 | .ld agg n a=>match vev fr a with
   |some a=>match vptr R a with
    |some pa=>match agg with
     |true=>if n=0 then none else match hq6 R pa n with
      |some l=>some (.agg l)
      |none=>none
     |false=>vy4 R pa
    |none=>none
   |none=>none
 | .nilck x=>match vev fr x with
   |some a=>match vptr R a with
    |some pa=>if k12 R pa then some a else none
    |none=>none
   |_=>none
 | .faddr off x=>match vev fr x with
   |some a=>match vptr R a with
    |some pa=>if k12 R pa then some (pa.off off).av else none
    |none=>none
   |none=>none
 | .fld agg off n x=>match vev fr x with
   |some (.agg cs)=>match agg with
    |true=>some (.agg ((cs.drop off).take n))
    |false=>match cs[off]? with
     |some v=>some v
     |none=>none
   |_=>none
 | .iaddr size x i=>match vev fr x,vx fr i with
   |some a,some (.int _ i)=>match vsl R a with
    |some (.o r p nl e u cs lo n)=>if 0≤i∧i.toNat<n∧u=size then some (.cell r p ((lo+i.toNat)*u))else none
    |some (.f b nl u cs)=>if 0≤i∧i.toNat*u<cs.length∧u=size then some (.fzc b cs (i.toNat*u))else none
    |_=>none
   |_,_=>none
 | .iaddrA len size x i=>match vev fr x,vx fr i with
   |some a,some (.int _ i)=>match vptr R a with
    |some pa=>if 0≤i∧i<len∧k12 R pa=true then some (pa.off (i.toNat*size)).av else none
    |none=>none
   |_,_=>none
 | .idxA len size agg x i=>match vev fr x,vx fr i with
   |some (.agg cs),some (.int _ i)=>
    if 0≤i∧i<len then match agg with
     |true=>some (.agg ((cs.drop (i.toNat*size)).take size))
     |false=>match cs[i.toNat*size]? with
      |some v=>some v
      |none=>none
    else none
   |_,_=>none
 | .ext i x=>match vev fr x with
   |some (.tup vs)=>match vs[i]? with
    |some v=>some v
    |none=>none
   |_=>none
 | .ldb agg n a=>match vev fr a with
   |some a=>match vbx R a with
    |some pa=>match agg with
     |true=>if n=0 then none else match hq6 R pa n with
      |some l=>some (.agg l)
      |none=>none
     |false=>vy4 R pa
    |none=>none
   |none=>none
 |_=>none
def vop(W:VW)(h:Hint)(d:Option Nat)(fr:VFr)(R:Rts):AOp→Option (Option AV×Rts×Option (List Nat))
 | .mv x=>match vev fr x with
   |some a=>some (some (vnil h R d a).1,(vnil h R d a).2,vmvd h d a)
   |none=>none
 | .pick c a b=>match vx fr c with
   |some (.bool t)=>match vev fr (if t then a else b)with
    |some v=>some (some v,R,none)
    |none=>none
   |_=>none
 | .bin op x y=>match vx fr x,vx fr y with
   |some a,some b=>match abin op a b with
    |some v=>some (some (.x v),R,none)
    |none=>none
   |_,_=>none
 | .eqb neg x y=>match vx fr x,vx fr y with
   |some (.bool a),some (.bool b)=>some (some (.x (.bool (neg !=(a==b)))),R,none)
   |_,_=>none
 | .eqn neg kind x=>match vev fr x with
   |some a=>match wb3 R kind a with
    |some b=>some (some (.x (.bool (neg !=b))),R,none)
    |none=>none
   |none=>none
 | .un op x=>match vx fr x with
   |some a=>match aun op a with
    |some v=>some (some (.x v),R,none)
    |none=>none
   |none=>none
 | .conv k x=>match vx fr x with
   |some (.int _ n)=>some (some (.x (.int k (k.wrap n))),R,none)
   |_=>none
 | .alloc elem zs=>some (some (.own R.length []),R++[.pt elem (r48 W.ct elem 0 zs)],none)
 | .box elem size x=>match vev fr x with
   |some a=>if(cellsOf a).length=size then match az9 (g57 h.share x) R (cellsOf a)with
    |some (ts,R1)=>some (some (.own R1.length []),R1++[.pt elem ts],some [])
    |none=>none else none
   |none=>none
 | .build zs places parts=>match vevp fr parts with
   |some vs=>match p54 R (fun i=>places[i]?) (zs.map AV.x) vs with
    |some cs=>some (some (.agg cs),R,none)
    |none=>none
   |none=>none
 | .mkSl elem size len parts=>match vevs fr parts with
   |some vs=>if vs.all (fun a=>(cellsOf a).length==size)&&vs.length==len&&size !=0 then match az9 (er6 h.share parts) R (vs.flatMap cellsOf)with
    |some (ts,R1)=>some (some (.own R1.length []),R1++[.sl 0 elem size ts],some [])
    |none=>none else none
   |none=>none
 | .st n a x=>match vev fr a,vev fr x with
   |some a,some v=>match vptr R a with
    |some (.o r p i)=>if(cellsOf v).length=n∧n≠0 then match az9 (g57 h.share x) R (cellsOf v)with
     |some (ts,R1)=>match z26 R1 r p i ts with
      |some R2=>some (none,R2,some (if ts.all isV then []else [r]))
      |none=>none
     |none=>none else none
    |_=>none
   |_,_=>none
 | .mkf f cap=>match vevs fr cap with
   |some vs=>some (some (.fn f vs),R,none)
   |none=>none
 | .mks elem size bytes zs l c=>match vx fr l,vx fr c with
   |some (.int _ l),some (.int _ c)=>
    if 0≤l∧l≤c∧c≤1099511627776∧c*bytes≤140737488355328∧zs.length=size∧size≠0 then
     some (some (.own R.length []),R++[.sl 0 elem size (repT (r48 W.ct elem 0 zs) l.toNat)],none)else none
   |_,_=>none
 | .sl size x lo hi=>match vev fr x,vxo fr lo,vxo fr hi with
   |some a,some lo,some hi=>match vsl R a with
    |some (.o r p nl e u cs lo0 n0)=>
     if 0≤lo.getD 0∧lo.getD 0≤hi.getD n0∧hi.getD n0≤n0∧u=size then
      match memO d h.move with
      |true=>some (some (.own R.length []),rset R r p .junk++[.sl (if nl=0 then 0 else 2) e u ((cs.drop ((lo0+(lo.getD 0).toNat)*u)).take ((hi.getD n0-lo.getD 0).toNat*u))],some [])
      |false=>some (some (.sub r p u (lo0+(lo.getD 0).toNat) (hi.getD n0-lo.getD 0).toNat),R,none)
     else none
    |some (.f b nl u cs)=>
     if 0≤lo.getD 0∧lo.getD 0≤hi.getD ((cs.length/u:Nat):Int)∧hi.getD ((cs.length/u:Nat):Int)≤(cs.length/u:Nat)∧u=size then
      some (some (.fz b (.sl (if nl=0 then 0 else 2) 0 u ((cs.drop ((lo.getD 0).toNat*u)).take ((hi.getD ((cs.length/u:Nat):Int)-lo.getD 0).toNat*u)))),R,none)
     else none
    |some .nil=>if lo.getD 0=0∧hi.getD 0=0 then some (some (.x (.slice none 0 0)),R,none)else none
    |none=>none
   |_,_,_=>none
 | .sls x lo hi=>match vx fr x,vxo fr lo,vxo fr hi with
   |some (.string s),some lo,some hi=>
    if 0≤lo.getD 0∧lo.getD 0≤hi.getD s.size∧hi.getD s.size≤s.size then some (some (.x (.string (s.extract (lo.getD 0).toNat (hi.getD s.size).toNat))),R,none)else none
   |_,_,_=>none
 | .sl3 x hi mx=>match vev fr x,vx fr hi,vx fr mx with
   |some a,some (.int _ i),some (.int _ j)=>match vsl R a with
    |some (.o r p nl e u cs lo0 n0)=>if 0≤i∧i≤j∧j≤n0 then some (some (.sub r p u lo0 i.toNat),R,none)else none
    |some (.f b nl u cs)=>if 0≤i∧i≤j∧j≤(cs.length/u:Nat)then some (some (.fz b (.sl (if nl=0 then 0 else 2) 0 u (cs.take (i.toNat*u)))),R,none)else none
    |some .nil=>if i=0∧j=0 then some (some (.x (.slice none 0 0)),R,none)else none
    |none=>none
   |_,_,_=>none
 | .idxS x i=>match vx fr x,vx fr i with
   |some (.string s),some (.int _ i)=>if 0≤i then match s[i.toNat]? with
     |some b=>some (some (.x (.int .u8 b.toNat)),R,none)
     |none=>none else none
   |_,_=>none
 | .len x=>match vev fr x with
   |some a=>match vsl R a with
    |some (.o r p nl e u cs lo n)=>some (some (.x (.int .i64 n)),R,none)
    |some (.f b nl u cs)=>some (some (.x (.int .i64 (cs.length/u:Nat))),R,none)
    |some .nil=>some (some (.x (.int .i64 0)),R,none)
    |none=>none
   |_=>none
 | .lenS x=>match vx fr x with
   |some (.string s)=>some (some (.x (.int .i64 s.size)),R,none)
   |_=>none
 | .lenK n=>some (some (.x (.int .i64 n)),R,none)
 | .minmax mx xs=>match vxs fr xs with
   |some vs=>match vs with
    | .int k n::r=>match ho3 k r with
      |some l=>some (some (.x (.int k (l.foldl (mm mx) n))),R,none)
      |none=>none
    |_=>none
   |none=>none
 | .app elem size bytes s x=>match vev fr s,vev fr x with
   |some s,some x=>match vsl R x with
    |some X=>match vsrc R size X with
     |some (news,R1)=>match vsl R1 s with
      |some (.o r p nl e u cs lo n)=>
       if e=elem∧u=size∧few (n+news.length/u) bytes=true then
        some (some (.own R1.length []),rset R1 r p .junk++[.sl nl e u (cut lo n u cs++news)],some [])
       else none
      |some .nil=>if size≠0∧few (news.length/size) bytes=true then some (some (.own R1.length []),R1++[.sl 1 elem size news],some [])else none
      |_=>none
     |none=>none
    |none=>none
   |_,_=>none
 | .cpy size d s=>match vev fr d,vev fr s with
   |some d,some s=>match vsl R d,vsl R s with
    |some (.o r p nl e u cs lo n),some S=>
     if u=size∧S.part.all isV=true∧S.unit size=size then
      match rget R r p with
      |some t=>some (some (.x (.int .i64 (min (S.part.length/size) n:Nat))),rset R r p (t.setKids (setL cs (lo*u) (S.part.take (n*u)))),some [])
      |none=>none
     else none
    |_,_=>none
   |_,_=>none
 | .appz elem bytes s x=>match vev fr s,vx fr x with
   |some s,some (.int .i64 m)=>if 0≤m∧m≤1099511627776 then match vsl R s with
     |some (.o r p nl e u cs lo n)=>if e=elem∧u=1∧few (n+m.toNat) bytes=true then some (some (.own R.length []),rset R r p .junk++[.sl nl e u (cut lo n u cs++repT [.v (.int .i64 0)] m.toNat)],some [])else none
     |some .nil=>if few m.toNat bytes=true then some (some (.own R.length []),R++[.sl 1 elem 1 (repT [.v (.int .i64 0)] m.toNat)],some [])else none
     |_=>none
    else none
   |_,_=>none
 | .call .. | .calld .. =>none
 | .ld agg n a=>if !agg&&memO d h.take then match vev fr a with
    |some a=>match vptr R a with
     |some (.o r p i)=>match ek8 R r p i with
      |some (v,R1)=>some (some v,R1,some [])
      |none=>none
     |_=>none
    |none=>none
   else match lu1 fr R (.ld agg n a)with
    |some v=>some (some v,R,none)
    |none=>none
 |op=>match lu1 fr R op with
  |some v=>some (some v,R,none)
  |none=>none
end Go.Vm
namespace Go.Vm
open Go.Am
mutual
def np8(R:Rts)(u:Nat):AV→Option AV
 | .x (.slice none 0 0)=>if u=0 then none else some (.fz true (.sl 1 0 u []))
 | .x v=>some (.x v)
 | .fz b t=>some (.fz b t)
 | .fzc b cs i=>some (.fzc b cs i)
 | .own r p=>match rget R r p with
   |some (.fz t)=>some (.fz true t)
   |some s=>if isNode s then some (.fz false (strip s))else none
   |none=>none
 | .sub r p u0 lo n=>match rget R r p with
   |some (.sl nl e w cs)=>if(lo+n)*w≤cs.length∧w=u0 then some (.fz false (.sl (if nl=0 then 0 else 2) 0 w (jj5 ((cs.drop (lo*w)).take (n*w)))))else none
   |_=>none
 | .cell r p i=>if k12 R (.o r p i)then match rget R r p with
   |some s=>match s.kids with
    |some cs=>some (.fzc false (jj5 cs) i)
    |none=>none
   |none=>none else none
 | .agg l=>match re2 R u l with
   |some l=>some (.agg l)
   |none=>none
 | .tup _=>none
 | .fn f l=>match re2 R u l with
   |some l=>some (.fn f l)
   |none=>none
def re2(R:Rts)(u:Nat):List AV→Option (List AV)
 | []=>some []
 |a::l=>match np8 R u a,re2 R u l with
  |some a,some l=>some (a::l)
  |_,_=>none
end
def vpx(u:Nat):Value→AV
 | .slice none 0 0=>if u=0 then .x (.slice none 0 0)else .fz true (.sl 1 0 u [])
 |v=> .x v
mutual
def h05(u:Nat)(R:Rts):AV→Option (AV×Rts)
 | .x v=>some (vpx u v,R)
 | .fz true t=>some (.fz true t,R)
 | .fzc true cs i=>some (.fzc true cs i,R)
 | .own r p=>match rget R r p with
   |some (.fz t)=>some (.fz true t,R)
   |some s=>if isNode s then some (.fz true (strip s),rset R r p (.fz (strip s)))else none
   |none=>none
 | .agg l=>match og4 u R l with
   |some (l,R1)=>some (.agg l,R1)
   |none=>none
 |_=>none
def og4(u:Nat)(R:Rts):List AV→Option (List AV×Rts)
 | []=>some ([],R)
 |a::l=>match h05 u R a with
  |some (a,R1)=>match og4 u R1 l with
   |some (l,R2)=>some (a::l,R2)
   |none=>none
  |none=>none
end
structure Lent where
 R:Rts
 C:Rts
 B:List (Nat×List Nat)
def cb9(s:Lent)(e u:Nat):AV→Option (AV×Lent)
 | .own r p=>match rget s.R r p with
   |some k=>if isNode k&&s.B.all (fun b=> !(Nat.beq b.1 r&&p.isPrefixOf b.2))then some (.own s.C.length [],⟨rset s.R r p .junk,s.C++[k],s.B++[(r,p)]⟩)else none
   |none=>none
 | .x (.slice none 0 0)=>if u=0 then none else some (.own s.C.length [],⟨s.R++[.junk],s.C++[.sl 1 e u []],s.B++[(s.R.length,[])]⟩)
 |_=>none
def me2:List Mode→Lent→List AV→Option (List (Option AV)×Lent)
 | [],s,l=>some (l.map fun _=>none,s)
 |_,s,[]=>some ([],s)
 |m::ms,s,a::l=>match m with
  | .bor _=>match me2 ms s l with
    |some (l,s)=>some (none::l,s)
    |none=>none
  | .own e u=>match cb9 s e u a with
    |some (a,s1)=>match me2 ms s1 l with
     |some (l,s2)=>some (some a::l,s2)
     |none=>none
    |none=>none
  | .perm u=>match(if s.B.isEmpty then h05 u s.R a else none)with
    |some (a,R1)=>match me2 ms ⟨R1,s.C,s.B⟩ l with
     |some (l,s2)=>some (some a::l,s2)
     |none=>none
    |none=>none
def sr7:List Mode→Nat
 | .bor u::_=>u
 |_=>1
def ub4(R:Rts):List Mode→List AV→List (Option AV)→Option (List AV)
 |_,[],_=>some []
 |ms,a::l,some b::bs=>match ub4 R ms.tail l bs with
  |some r=>some (b::r)
  |none=>none
 |ms,a::l,none::bs=>match np8 R (sr7 ms) a,ub4 R ms.tail l bs with
  |some b,some r=>some (b::r)
  |_,_=>none
 |_,_::_,[]=>none
def kj1(ms:List Mode)(R:Rts)(l:List AV):Option (List AV×Lent):=match ms with
 | []=>match re2 R 1 l with
   |some l=>some (l,⟨R,[],[]⟩)
   |none=>none
 |ms=>match me2 ms ⟨R,[],[]⟩ l with
  |some (bs,s)=>match ub4 s.R ms l bs with
   |some l=>some (l,s)
   |none=>none
  |none=>none
def so3:Rts→List (Nat×List Nat)→Rts→Rts
 |R,(r,p)::B,t::ts=>so3 (rset R r p t) B ts
 |R,_,_=>R
def deep(t:Tree):Bool:=match t.kids with
 |some cs=> !cs.all isV
 |none=>false
def uc8:List (Nat×List Nat)→Rts→List Nat
 |(r,p)::B,t::ts=>if deep t then r::uc8 B ts else uc8 B ts
 |_,_=>[]
mutual
def ei9(n:Nat):AV→AV
 | .x v=> .x v
 | .fz b t=> .fz b t
 | .fzc b cs i=> .fzc b cs i
 | .own r p=> .own (r+n) p
 | .sub r p u lo m=> .sub (r+n) p u lo m
 | .cell r p i=> .cell (r+n) p i
 | .agg l=> .agg (mk1 n l)
 | .tup l=> .tup (mk1 n l)
 | .fn f l=> .fn f (mk1 n l)
def mk1(n:Nat):List AV→List AV
 | []=>[]
 |a::l=>ei9 n a::mk1 n l
end
mutual
def vout(R:Rts)(k:Nat):AV→Option (AV×Rts×Rts)
 | .x v=>some (.x v,R,[])
 | .fz true t=>some (.fz true t,R,[])
 | .fzc true cs i=>some (.fzc true cs i,R,[])
 | .own r p=>match rget R r p with
   |some (.fz t)=>some (.fz true t,R,[])
   |some s=>if isNode s then some (.own k [],rset R r p .junk,[s])else none
   |none=>none
 | .sub r p w lo n=>match rget R r p with
   |some (.sl nl e u cs)=>if(lo+n)*u≤cs.length∧u=w then some (.own k [],rset R r p .junk,[.sl (if nl=0 then 0 else 2) e u ((cs.drop (lo*u)).take (n*u))])else none
   |_=>none
 | .agg l=>match vx6 R k l with
   |some (l,R1,S)=>some (.agg l,R1,S)
   |none=>none
 | .tup l=>match vx6 R k l with
   |some (l,R1,S)=>some (.tup l,R1,S)
   |none=>none
 | .fn f l=>match vx6 R k l with
   |some (l,R1,S)=>some (.fn f l,R1,S)
   |none=>none
 |_=>none
def vx6(R:Rts)(k:Nat):List AV→Option (List AV×Rts×Rts)
 | []=>some ([],R,[])
 |a::l=>match vout R k a with
  |some (a,R1,S1)=>match vx6 R1 (k+S1.length) l with
   |some (l,R2,S2)=>some (a::l,R2,S1++S2)
   |none=>none
  |none=>none
end
def og6(R:Rts)(fr:VFr):ARes→Option AV
 | .tmp t=>fr t
 | .cell t agg n=>match fr t with
   |some a=>match vptr R a with
    |some pa=>match agg with
     |true=>if n=0 then none else match hq6 R pa n with
      |some l=>some (.agg l)
      |none=>none
     |false=>vy4 R pa
    |none=>none
   |none=>none
def zp6(R:Rts)(fr:VFr):List ARes→Option (List AV)
 | []=>some []
 |r::rs=>match og6 R fr r,zp6 R fr rs with
  |some v,some vs=>some (v::vs)
  |_,_=>none
structure Ctx where
 h:Hint
 rs:List ARes
 n:Nat
def vone:List AV→AV
 | [v]=>v
 |vs=> .tup vs
def vret(c:Ctx)(fr:VFr)(R:Rts):Option VRes:=match zp6 R fr c.rs with
 |some l=>match vout R 0 (vone l)with
  |some (v,R1,S)=>some (v,S,R1.take c.n)
  |none=>none
 |none=>none
mutual
def rts(acc:List Nat):AV→List Nat
 | .own r _=>bif memN r acc then acc else acc++[r]
 | .sub r _ _ _ _=>bif memN r acc then acc else acc++[r]
 | .cell r _ _=>bif memN r acc then acc else acc++[r]
 | .agg l=>rtsL acc l
 | .tup l=>rtsL acc l
 | .fn _ l=>rtsL acc l
 |_=>acc
def rtsL(acc:List Nat):List AV→List Nat
 | []=>acc
 |a::l=>rtsL (rts acc a) l
end
def rtsF(acc:List Nat):List (Nat×AV)→List Nat
 | []=>acc
 |a::l=>rtsF (rts acc a.2) l
def place(r:Nat):List Nat→Nat
 | []=>0
 |a::l=>bif Nat.beq r a then 0 else place r l+1
mutual
def vren(ids:List Nat):AV→AV
 | .x v=> .x v
 | .fz b t=> .fz b t
 | .fzc b cs i=> .fzc b cs i
 | .own r p=> .own (place r ids) p
 | .sub r p u lo m=> .sub (place r ids) p u lo m
 | .cell r p i=> .cell (place r ids) p i
 | .agg l=> .agg (px1 ids l)
 | .tup l=> .tup (px1 ids l)
 | .fn f l=> .fn f (px1 ids l)
def px1(ids:List Nat):List AV→List AV
 | []=>[]
 |a::l=>vren ids a::px1 ids l
end
def h09(ids:List Nat):List (Nat×AV)→List (Nat×AV)
 | []=>[]
 |(s,a)::l=>(s,vren ids a)::h09 ids l
def x53(R:Rts):List Nat→Rts
 | []=>[]
 |r::l=>(R[r]?.getD .junk)::x53 R l
def hh2:Nat→List Nat
 |0=>[]
 |n+1=>hh2 n++[n]
mutual
def by9(r:Nat):AV→Bool
 | .own s p=>(Nat.beq s r)&& !p.isEmpty
 | .sub s p _ _ _=>(Nat.beq s r)&& !p.isEmpty
 | .cell s p _=>(Nat.beq s r)&& !p.isEmpty
 | .agg l=>dr4 r l
 | .tup l=>dr4 r l
 | .fn _ l=>dr4 r l
 |_=>false
def dr4(r:Nat):List AV→Bool
 | []=>false
 |a::l=>by9 r a||dr4 r l
end
def VFr.inv1(fr:VFr)(r:Nat):VFr:=fun t=>match fr t with
 |some a=>bif by9 r a then none else some a
 |none=>none
def VFr.inv(fr:VFr):List Nat→VFr
 | []=>fr
 |r::l=>(fr.inv1 r).inv l
def vgd(fr:VFr):Option (Nat×Bool)→Option Bool
 |none=>some true
 |some (s,want)=>match fr s with
  |some (.x (.bool b))=>some (b==want)
  |some (.tup _)=>some false
  |_=>none
abbrev VGo:=Ctx→List It→VFr→Rts→Option VRes
def s20(W:VW)(g:VGo)(f:FuncId)(vs:List AV)(C:Rts):Option VRes:=
 match W.P f with
 |some p=>p vs C
 |none=>match W.T f with
  |some F=>if vs.length=F.nargs then g ⟨W.H f,F.results,C.length⟩ [.code F.code] (VFr.args 0 vs) C else none
  |none=>none
def j62(ms:List Mode)(s:Lent):VRes→Option AV×Rts×Option (List Nat)
 |(v,S,K)=>(some (ei9 (so3 s.R s.B K).length v),so3 s.R s.B K++S,match ms with
    | []=>none
    |_=>some (uc8 s.B K))
def vdo(W:VW)(g:VGo)(R:Rts)(chk:Bool)(f:FuncId)(vs:List AV):Option (Option AV×Rts×Option (List Nat)):=
 match kj1 (W.M f) R vs with
 |some (vs,s)=>if chk&& !s.B.isEmpty then none else match s20 W g f vs s.C with
  |some r=>some (j62 (W.M f) s r)
  |none=>none
 |none=>none
def e26(y:List Nat):Operand→Bool
 | .tmp t=>memN t y
 |_=>false
def bt7:Option AV→Bool
 |some (.fz _ t)=>isNode t
 |some (.fzc _ _ _)=>true
 |_=>false
def gd0(fr:VFr)(y:List Nat)(dt:Bool)(o:AOper):Bool:=match o.chk,o.op with
 |true, .ld _ _ a=> !e26 y a&&(match dt with
  |false=>true
  |true=>bt7 (vev fr a))
 |_,_=>true
def ej2(W:VW)(g:VGo)(h:Hint)(o:AOper)(fr:VFr)(R:Rts)(y:List Nat)(dt:Bool):Option (Option AV×Rts×Option (List Nat)):=
 match o.op with
 | .call f args=>match vevs fr args with
   |some vs=>vdo W g R o.chk f vs
   |none=>none
 | .calld x args=>match vev fr x,vevs fr args with
   |some (.fn f cap),some vs=>vdo W g R o.chk f (vs++cap)
   |_,_=>none
 |op=>if gd0 fr y dt o then vop W h o.dst fr R op else none
def vw0(y:List Nat):AOp→Bool
 | .mv x=> !e26 y x
 | .ld _ _ a=> !e26 y a
 | .nilck x=> !e26 y x
 | .faddr _ x=> !e26 y x
 | .fld _ _ _ x=> !e26 y x
 | .iaddr _ x _=> !e26 y x
 | .iaddrA _ _ x _=> !e26 y x
 | .idxA _ _ _ x _=> !e26 y x
 | .ext _ x=> !e26 y x
 |_=>false
def iv1(d:Nat):List Nat→List Nat
 | []=>[]
 |a::l=>bif Nat.beq a d then iv1 d l else a::iv1 d l
def vadr(fr:VFr)(y:List Nat):AOp→Bool
 | .mv x=> !e26 y x
 | .nilck x=> !e26 y x&&bt7 (vev fr x)
 | .faddr _ x=> !e26 y x&&bt7 (vev fr x)
 | .iaddr _ x _=> !e26 y x&&bt7 (vev fr x)
 | .iaddrA _ _ x _=> !e26 y x&&bt7 (vev fr x)
 |_=>false
def qq0(fr:VFr)(y:List Nat)(dt:Bool)(o:AOper):List Nat:=match o.dst with
 |none=>y
 |some d=>match dt with
  |false=>if vw0 y o.op then iv1 d y else d::y
  |true=>if vadr fr y o.op then iv1 d y else d::y
structure VReg where
 fr:VFr
 R:Rts
 y:List Nat
 dt:Bool
def m63(o:AOper)(s:VReg):Option AV×Rts×Option (List Nat)→VReg
 |(v,R,none)=>⟨s.fr.put o.dst v,R,qq0 s.fr s.y s.dt o,s.dt⟩
 |(v,R,some ks)=>⟨(s.fr.inv ks).put o.dst v,R,(match o.dst with
  |none=>s.y
  |some d=>d::s.y),true⟩
def pp0(o:AOper)(s:VReg):VReg:=⟨s.fr.put o.dst (some (.tup [])),s.R,match o.dst with
 |none=>s.y
 |some d=>d::s.y,s.dt⟩
def yi8(W:VW)(g:VGo)(h:Hint)(o:AOper)(s:VReg):Option VReg:=match vgd s.fr o.guard with
 |some false=>some (pp0 o s)
 |some true=>match ej2 W g h o s.fr s.R s.y s.dt with
  |some r=>some (m63 o s r)
  |none=>none
 |none=>none
def x27(W:VW)(g:VGo)(h:Hint):List AOper→VReg→Option VReg
 | [],s=>some s
 |o::l,s=>match yi8 W g h o s with
  |some s=>x27 W g h l s
  |none=>none
def ja9(c:Ctx)(l:List (Nat×AV))(R:Rts):List (Nat×AV)×Rts:=
 (h09 (rtsF (hh2 c.n) l) l,x53 R (rtsF (hh2 c.n) l))
def vF(W:VW)(g:VGo)(c:Ctx):List It→VFr→Rts→Option VRes
 | [],fr,R=>vret c fr R
 | .code .ret::_,fr,R=>vret c fr R
 | .code .skip::ks,fr,R=>g c ks fr R
 | .code .stuck::_,_,_=>none
 | .code (.seq a b)::ks,fr,R=>g c (.code a:: .code b::ks) fr R
 | .code (.cond x a b)::ks,fr,R=>match vev fr x with
   |some (.x (.bool t))=>g c (.code (if t then a else b)::ks) fr R
   |_=>none
 | .code (.block id ko a)::ks,fr,R=>g c (.code a:: .blk id ko::ks) fr R
 | .code (.loop kh a)::ks,fr,R=>g c (.code a:: .lp kh a::ks) (VFr.of (ja9 c (fr.keep kh) R).1) (ja9 c (fr.keep kh) R).2
 | .code (.exit id)::ks,fr,R=>match gc2 id ks with
   |some (ko,k)=>g c k (VFr.of (fr.keep ko)) R
   |none=>none
 | .code (.region l)::ks,fr,R=>match x27 W g c.h l ⟨fr,R,[],false⟩with
   |some s=>g c ks s.fr s.R
   |none=>none
 | .blk _ ko::ks,fr,R=>g c ks (VFr.of (fr.keep ko)) R
 | .lp kh a::ks,fr,R=>g c (.code a:: .lp kh a::ks) (VFr.of (ja9 c (fr.keep kh) R).1) (ja9 c (fr.keep kh) R).2
def vN(W:VW):Nat→VGo
 |0,_,_,_,_=>none
 |n+1,c,ks,fr,R=>vF W (vN W n) c ks fr R
def VLe(g g':VGo):Prop:= ∀c ks fr R r,g c ks fr R=some r→g' c ks fr R=some r
section
variable {W:VW} {g g':VGo}
theorem gb4(hg:VLe g g'){f vs C r}(he:s20 W g f vs C=some r):s20 W g' f vs C=some r:=by
 unfold s20 at*
 split at he
 ·exact he
 ·split at he
  ·split at he
   ·rw[if_pos ‹_›];exact hg _ _ _ _ _ he
   ·cases he
  ·cases he
theorem pi2(hg:VLe g g'){R chk f vs r}(he:vdo W g R chk f vs=some r):vdo W g' R chk f vs=some r:=by
 unfold vdo at*
 split at he
 ·split at he
  ·cases he
  ·rw[if_neg ‹_›]
   split at he
   ·rename_i h1
    rw[gb4 hg h1];exact he
   ·cases he
 ·cases he
theorem o82(hg:VLe g g'){h o fr R y dt r}(he:ej2 W g h o fr R y dt=some r):ej2 W g' h o fr R y dt=some r:=by
 unfold ej2 at*
 split at he
 ·split at he
  ·exact pi2 hg he
  ·cases he
 ·split at he
  ·exact pi2 hg he
  ·cases he
 ·exact he
theorem sh2(hg:VLe g g'){h o s r}(he:yi8 W g h o s=some r):yi8 W g' h o s=some r:=by
 unfold yi8 at*
 split at he
 ·exact he
 ·split at he
  ·rename_i h1;rw[o82 hg h1];exact he
  ·cases he
 ·cases he
theorem ss6(hg:VLe g g'){h:Hint}: ∀{l s r},x27 W g h l s=some r→x27 W g' h l s=some r
 | [],s,r,hr=>hr
 |o::l,s,r,hr=>by
  simp only[x27]at hr⊢
  split at hr
  ·rename_i hs
   rw[sh2 hg hs]
   exact ss6 hg hr
  ·cases hr
theorem le4(hg:VLe g g'):VLe (vF W g) (vF W g'):=by
 intro c ks fr R r hr
 unfold vF at hr⊢
 split at hr<;>first|exact hg _ _ _ _ _ hr|(cases hr;done)|skip
 ·exact hr
 ·exact hr
 ·split at hr
  ·exact hg _ _ _ _ _ hr
  ·cases hr
 ·split at hr
  ·exact hg _ _ _ _ _ hr
  ·cases hr
 ·split at hr
  ·rename_i hs
   rw[ss6 hg hs]
   exact hg _ _ _ _ _ hr
  ·cases hr
end
theorem vu1{W:VW}(n:Nat):VLe (vN W n) (vN W (n+1)):=by
 induction n with
 |zero=>intro c ks fr R r hr;cases hr
 |succ n ih=>exact le4 ih
theorem cq0{W:VW}{n m:Nat}(h:n≤m):VLe (vN W n) (vN W m):=by
 induction h with
 |refl=>intro _ _ _ _ _ h;exact h
 |step _ ih=>intro c ks fr R r hr;exact vu1 _ _ _ _ _ _ (ih _ _ _ _ _ hr)
open Classical in
noncomputable def vgo (W:VW):VGo:=fun c ks fr R=>
 if hx: ∃r,∃n,vN W n c ks fr R=some r then some (Classical.choose hx)else none
theorem yi2{W:VW}{c ks fr R r}:vgo W c ks fr R=some r↔ ∃n,vN W n c ks fr R=some r:=by
 unfold vgo
 constructor
 ·intro he
  split at he
  ·rename_i hx
   have:=Classical.choose_spec hx
   simp only[Option.some.injEq]at he
   rw[he]at this
   exact this
  ·cases he
 ·rintro⟨n,hn⟩
  have hx: ∃r,∃n,vN W n c ks fr R=some r:=⟨r,n,hn⟩
  rw[dif_pos hx]
  obtain⟨m,hm⟩:=Classical.choose_spec hx
  have h1:=cq0 (Nat.le_max_left n m) _ _ _ _ _ hn
  have h2:=cq0 (Nat.le_max_right n m) _ _ _ _ _ hm
  rw[h1]at h2
  exact h2.symm
section
variable {W:VW}
theorem gb3{f vs C r}(he:s20 W (vgo W) f vs C=some r): ∃n,s20 W (vN W n) f vs C=some r:=by
 unfold s20 at he⊢
 split at he
 ·exact⟨0,he⟩
 ·split at he
  ·split at he
   ·rename_i hl
    obtain⟨n,hn⟩:=yi2.1 he
    exact⟨n,by rw[if_pos hl];exact hn⟩
   ·cases he
  ·cases he
theorem z32{R chk f vs r}(he:vdo W (vgo W) R chk f vs=some r): ∃n,vdo W (vN W n) R chk f vs=some r:=by
 unfold vdo at he⊢
 split at he
 ·split at he
  ·cases he
  ·split at he
   ·rename_i h2
    obtain⟨n,hn⟩:=gb3 h2
    exact⟨n,by rw[if_neg ‹_›,hn];exact he⟩
   ·cases he
 ·cases he
theorem y58{h o fr R y dt r}(he:ej2 W (vgo W) h o fr R y dt=some r): ∃n,ej2 W (vN W n) h o fr R y dt=some r:=by
 unfold ej2 at he⊢
 split at he
 ·split at he
  ·exact z32 he
  ·cases he
 ·split at he
  ·exact z32 he
  ·cases he
 ·exact⟨0,he⟩
theorem oj9{h o s r}(he:yi8 W (vgo W) h o s=some r): ∃n,yi8 W (vN W n) h o s=some r:=by
 unfold yi8 at he⊢
 split at he
 ·exact⟨0,he⟩
 ·split at he
  ·rename_i h1
   obtain⟨n,hn⟩:=y58 h1
   exact⟨n,by rw[hn];exact he⟩
  ·cases he
 ·cases he
theorem bd5{h:Hint}: ∀{l s r},x27 W (vgo W) h l s=some r→ ∃n,x27 W (vN W n) h l s=some r
 | [],s,r,he=>⟨0,he⟩
 |o::l,s,r,he=>by
  simp only[x27]at he⊢
  split at he
  ·rename_i h1
   obtain⟨n,hn⟩:=oj9 h1
   obtain⟨m,hm⟩:=bd5 he
   refine⟨max n m, ?_⟩
   rw[sh2 (cq0 (Nat.le_max_left n m)) hn]
   exact ss6 (cq0 (Nat.le_max_right n m)) hm
  ·cases he
theorem hh8{c ks fr R r}(he:vF W (vgo W) c ks fr R=some r): ∃n,vF W (vN W n) c ks fr R=some r:=by
 have one: ∀{c ks fr R r},vgo W c ks fr R=some r→ ∃n,vN W n c ks fr R=some r:=fun h=>yi2.1 h
 unfold vF at he⊢
 split at he<;>first|exact one he|(cases he;done)|skip
 ·exact⟨0,he⟩
 ·exact⟨0,he⟩
 ·split at he
  ·exact one he
  ·cases he
 ·split at he
  ·exact one he
  ·cases he
 ·split at he
  ·rename_i h1
   obtain⟨n,hn⟩:=bd5 h1
   obtain⟨m,hm⟩:=one he
   refine⟨max n m, ?_⟩
   simp only[ss6 (cq0 (Nat.le_max_left n m)) hn]
   exact cq0 (Nat.le_max_right n m) _ _ _ _ _ hm
  ·cases he
theorem y68(c:Ctx)(ks:List It)(fr:VFr)(R:Rts):vgo W c ks fr R=vF W (vgo W) c ks fr R:=by
 have hle: ∀n,VLe (vN W n) (vgo W):=fun n c ks fr R r hr=>yi2.2 ⟨n,hr⟩
 cases hg:vF W (vgo W) c ks fr R with
 |some r=>
  obtain⟨n,hn⟩:=hh8 hg
  exact yi2.2 ⟨n+1,hn⟩
 |none=>
  cases hx:vgo W c ks fr R with
  |none=>rfl
  |some r=>
   obtain⟨n,hn⟩:=yi2.1 hx
   cases n with
   |zero=>cases hn
   |succ n=>
    have:=le4 (hle n) c ks fr R r hn
    rw[hg]at this
    cases this
end
noncomputable def o24 (W:VW) (f:FuncId) (vs:List AV) (C:Rts):Option VRes:=s20 W (vgo W) f vs C
end Go.Vm
namespace Go.Vm
open Go.Am
inductive AT where
 |v (x:Value)
 |sl (o off n c nl e u:Nat) (cs:List AT)
 |nil (nl e u:Nat)
 |pt (o e:Nat) (cs:List AT)
 |fn (f:FuncId)
 |fz (w:Value) (t:Tree)
 |junk (w:Value)
def AT.val:AT→Value
 | .v x=>x
 | .sl o off n c _ _ _ _=> .slice (some ⟨o,off,none⟩) n c
 | .nil _ _ _=> .slice none 0 0
 | .pt o _ _=> .pointer (some ⟨o,0,none⟩)
 | .fn f=> .func (.func f) #[] #[]
 | .fz w _=>w
 | .junk w=>w
mutual
def AT.era:AT→Tree
 | .v x=> .v x
 | .sl _ _ _ _ nl e u cs=> .sl nl e u (eraL cs)
 | .nil nl e u=> .sl nl e u []
 | .pt _ e cs=> .pt e (eraL cs)
 | .fn f=> .fn f []
 | .fz _ t=> .fz t
 | .junk _=> .junk
def eraL:List AT→List Tree
 | []=>[]
 |a::l=>a.era::eraL l
end
mutual
def AT.fp:AT→List Nat
 | .sl o _ _ _ _ _ _ cs=>o::fpL cs
 | .pt o _ cs=>o::fpL cs
 |_=>[]
def fpL:List AT→List Nat
 | []=>[]
 |a::l=>a.fp++fpL l
end
mutual
def Rd(h:H)(Z:Nat→Prop):Tree→Value→Prop
 | .v x,w=>w=x
 | .sl nl e u cs,w=>(cs=[]∧nl≠0∧0<u∧w= .slice none 0 0)∨ ∃o off n c r,w= .slice (some ⟨o,off,none⟩) n c∧Z o∧h.row o=some r∧(r.own=true→r.unit=u)∧0<u∧n*u=cs.length∧n≤c∧(nl=1→cs≠[])∧RdL h Z cs ((r.cells.drop off).take cs.length)
 | .pt e cs,w=> ∃o r,w= .pointer (some ⟨o,0,none⟩)∧Z o∧h.row o=some r∧RdL h Z cs r.cells
 | .fn f cs,w=> ∃caps,w= .func (.func f) #[] (List.toArray caps)∧RdL h Z cs caps
 | .fz t,w=>Rd h Z t w
 | .junk,_=>True
 | .ex t,w=>Ex h Z t w
def RdL(h:H)(Z:Nat→Prop):List Tree→List Value→Prop
 | [],l=>l=[]
 |t::ts,l=> ∃w l',l=w::l'∧Rd h Z t w∧RdL h Z ts l'
def Ex(h:H)(Z:Nat→Prop):Tree→Value→Prop
 | .v x,w=>w=x
 | .sl nl e u cs,w=> ∃o n r,w= .slice (some ⟨o,0,none⟩) n n∧Z o∧h.row o=some r∧r.own=true∧r.elem=e∧r.unit=u∧0<u∧n*u=cs.length∧(nl=1→cs≠[])∧ExL h Z cs r.cells
 | .pt e cs,w=> ∃o r,w= .pointer (some ⟨o,0,none⟩)∧Z o∧h.row o=some r∧r.own=true∧r.elem=e∧r.unit=0∧ExL h Z cs r.cells
 | .fz t,w=>Rd h Z t w
 |_,_=>False
def ExL(h:H)(Z:Nat→Prop):List Tree→List Value→Prop
 | [],l=>l=[]
 |t::ts,l=> ∃w l',l=w::l'∧Ex h Z t w∧ExL h Z ts l'
end
mutual
def ok(h:H)(Z:Nat→Prop):AT→Prop
 | .v _=>True
 | .sl o off n c nl e u cs=> ∃r,h.row o=some r∧r.own=true∧r.elem=e∧r.unit=u∧0<u∧n*u=cs.length∧n≤c∧((nl=1→cs≠[])∧off+cs.length≤r.cells.length)∧(r.cells.drop off).take cs.length=cs.map AT.val∧okL h Z cs
 | .nil nl e u=>nl≠0∧0<u
 | .pt o e cs=> ∃r,h.row o=some r∧(r.own=true∧r.unit=0)∧r.cells=cs.map AT.val∧okL h Z cs
 | .fn _=>True
 | .fz w t=>Rd h Z t w
 | .junk w=>one w=true
def okL(h:H)(Z:Nat→Prop):List AT→Prop
 | []=>True
 |a::l=>ok h Z a∧okL h Z l
end
theorem dk4: ∀l:List AT,eraL l=l.map AT.era
 | []=>rfl
 |a::l=>by rw[eraL,List.map_cons,dk4 l]
theorem gz0: ∀l:List Tree,jj5 l=l.map strip
 | []=>rfl
 |a::l=>by rw[jj5,List.map_cons,gz0 l]
theorem zq7: ∀l:List AT,fpL l=l.flatMap AT.fp
 | []=>rfl
 |a::l=>by rw[fpL,List.flatMap_cons,zq7 l]
theorem ga8{h:H}{Z:Nat→Prop}: ∀{l:List AT},okL h Z l↔ ∀a∈l,ok h Z a
 | []=>by simp[okL]
 |a::l=>by rw[okL,ga8 (l:=l)];simp
theorem RdL.len{h:H}{Z:Nat→Prop}: ∀{ts:List Tree} {l:List Value},RdL h Z ts l→l.length=ts.length
 | [],l,hr=>by rw[RdL]at hr;rw[hr];rfl
 |t::ts,l,hr=>by
  rw[RdL]at hr
  obtain⟨w,l',rfl,_,hr⟩:=hr
  rw[List.length_cons,List.length_cons,hr.len]
theorem RdL.at{h:H}{Z:Nat→Prop}: ∀{ts:List Tree} {l:List Value} {i:Nat} {t:Tree},RdL h Z ts l→ts[i]? =some t→ ∃w,l[i]? =some w∧Rd h Z t w
 | [],l,i,t,hr,ht=>by simp at ht
 |t'::ts,l,i,t,hr,ht=>by
  rw[RdL]at hr
  obtain⟨w,l',rfl,h1,h2⟩:=hr
  cases i with
  |zero=>simp at ht;subst ht;exact⟨w,rfl,h1⟩
  |succ i=>exact h2.at (i:=i) (by simpa using ht)
theorem xo1{h:H}{Z:Nat→Prop}: ∀{ts:List Tree} {l:List Value},RdL h Z ts l↔l.length=ts.length∧ ∀(i:Nat) (t:Tree) (w:Value),ts[i]? =some t→l[i]? =some w→Rd h Z t w
 | [],l=>by
   rw[RdL]
   exact⟨fun e=>by subst e;simp,fun⟨e,_⟩=>List.eq_nil_of_length_eq_zero e⟩
 |t::ts,l=>by
  rw[RdL]
  constructor
  ·rintro⟨w,l',rfl,h1,h2⟩
   obtain⟨e,k⟩:=xo1.1 h2
   refine⟨by rw[List.length_cons,List.length_cons,e],fun i t' w' h3 h4=> ?_⟩
   cases i with
   |zero=>simp at h3 h4;subst h3;subst h4;exact h1
   |succ i=>exact k i t' w' (by simpa using h3) (by simpa using h4)
  ·rintro⟨e,k⟩
   cases l with
   |nil=>simp at e
   |cons w l'=>exact⟨w,l',rfl,k 0 t w rfl rfl,xo1.2 ⟨by simpa using e,fun i t' w' h3 h4=>k (i+1) t' w' (by simpa using h3) (by simpa using h4)⟩⟩
theorem RdL.sub{h:H}{Z:Nat→Prop}{ts:List Tree}{l:List Value}(hr:RdL h Z ts l)(a b:Nat):RdL h Z ((ts.drop a).take b) ((l.drop a).take b):=by
 obtain⟨e,k⟩:=xo1.1 hr
 refine xo1.2 ⟨by simp only[List.length_take,List.length_drop,e],fun i t w h1 h2=> ?_⟩
 rw[List.getElem?_take]at h1 h2
 split at h1
 ·rw[if_pos ‹_›]at h2
  rw[List.getElem?_drop]at h1 h2
  exact k _ t w h1 h2
 ·cases h1
def Same(h h':H)(Z:Nat→Prop):Prop:= ∀o,Z o→h'.row o=h.row o
mutual
theorem Rd.mono{h h':H}{Z Z':Nat→Prop}(hz: ∀o,Z o→Z' o)(hs:Same h h' Z): ∀{t:Tree} {w:Value},Rd h Z t w→Rd h' Z' t w
 | .v x,w,hr=>by rw[Rd]at hr⊢;exact hr
 | .sl nl e u cs,w,hr=>by
   rw[Rd]at hr⊢
   rcases hr with hr|⟨o,off,n,c,r,h1,h2,h3,h4,h5,h6,h7,h8,h9⟩
   ·exact .inl hr
   ·exact .inr ⟨o,off,n,c,r,h1,hz o h2,by rw[hs o h2];exact h3,h4,h5,h6,h7,h8,RdL.mono hz hs h9⟩
 | .pt e cs,w,hr=>by
   rw[Rd]at hr⊢
   obtain⟨o,r,h1,h2,h3,h4⟩:=hr
   exact⟨o,r,h1,hz o h2,by rw[hs o h2];exact h3,RdL.mono hz hs h4⟩
 | .fn f cs,w,hr=>by
   rw[Rd]at hr⊢
   obtain⟨caps,h1,h2⟩:=hr
   exact⟨caps,h1,RdL.mono hz hs h2⟩
 | .fz t,w,hr=>by rw[Rd]at hr⊢;exact Rd.mono hz hs hr
 | .junk,w,hr=>by rw[Rd];trivial
 | .ex t,w,hr=>by rw[Rd]at hr⊢;exact Ex.mono hz hs hr
theorem RdL.mono{h h':H}{Z Z':Nat→Prop}(hz: ∀o,Z o→Z' o)(hs:Same h h' Z): ∀{ts:List Tree} {l:List Value},RdL h Z ts l→RdL h' Z' ts l
 | [],l,hr=>by rw[RdL]at hr⊢;exact hr
 |t::ts,l,hr=>by
  rw[RdL]at hr⊢
  obtain⟨w,l',h1,h2,h3⟩:=hr
  exact⟨w,l',h1,Rd.mono hz hs h2,RdL.mono hz hs h3⟩
theorem Ex.mono{h h':H}{Z Z':Nat→Prop}(hz: ∀o,Z o→Z' o)(hs:Same h h' Z): ∀{t:Tree} {w:Value},Ex h Z t w→Ex h' Z' t w
 | .v x,w,hr=>by rw[Ex]at hr⊢;exact hr
 | .sl nl e u cs,w,hr=>by
   rw[Ex]at hr⊢
   obtain⟨o,n,r,h1,h2,h3,h4⟩:=hr
   obtain⟨h5,h6,h7,h8,h9,h10,h11⟩:=h4
   exact⟨o,n,r,h1,hz o h2,by rw[hs o h2];exact h3,h5,h6,h7,h8,h9,h10,ExL.mono hz hs h11⟩
 | .pt e cs,w,hr=>by
   rw[Ex]at hr⊢
   obtain⟨o,r,h1,h2,h3,h4,h5,h6,h7⟩:=hr
   exact⟨o,r,h1,hz o h2,by rw[hs o h2];exact h3,h4,h5,h6,ExL.mono hz hs h7⟩
 | .fn f cs,w,hr=>by rw[Ex]at hr;exact hr.elim;all_goals simp
 | .fz t,w,hr=>by rw[Ex]at hr⊢;exact Rd.mono hz hs hr
 | .junk,w,hr=>by rw[Ex]at hr;exact hr.elim;all_goals simp
 | .ex t,w,hr=>by rw[Ex]at hr;exact hr.elim;all_goals simp
theorem ExL.mono{h h':H}{Z Z':Nat→Prop}(hz: ∀o,Z o→Z' o)(hs:Same h h' Z): ∀{ts:List Tree} {l:List Value},ExL h Z ts l→ExL h' Z' ts l
 | [],l,hr=>by rw[ExL]at hr⊢;exact hr
 |t::ts,l,hr=>by
  rw[ExL]at hr⊢
  obtain⟨w,l',h1,h2,h3⟩:=hr
  exact⟨w,l',h1,Ex.mono hz hs h2,ExL.mono hz hs h3⟩
end
theorem ExL.len{h:H}{Z:Nat→Prop}: ∀{ts:List Tree} {l:List Value},ExL h Z ts l→l.length=ts.length
 | [],l,hr=>by rw[ExL]at hr;rw[hr];rfl
 |t::ts,l,hr=>by
  rw[ExL]at hr
  obtain⟨w,l',rfl,_,hr⟩:=hr
  rw[List.length_cons,List.length_cons,hr.len]
mutual
theorem Ex.rd{h:H}{Z:Nat→Prop}: ∀{t:Tree} {w:Value},Ex h Z t w→Rd h Z t w
 | .v x,w,hr=>by rw[Ex]at hr;rw[Rd];exact hr
 | .sl nl e u cs,w,hr=>by
   rw[Ex]at hr
   obtain⟨o,n,r,h1,h2,h3,h4,h5,h6,h7,h8,h9,h10⟩:=hr
   rw[Rd]
   refine .inr ⟨o,0,n,n,r,h1,h2,h3,fun _=>h6,h7,h8,Nat.le_refl _,h9, ?_⟩
   rw[List.drop_zero,List.take_of_length_le (by rw[h10.len];exact Nat.le_refl _)]
   exact ExL.rd h10
 | .pt e cs,w,hr=>by
   rw[Ex]at hr
   obtain⟨o,r,h1,h2,h3,h4,h5,h6,h7⟩:=hr
   rw[Rd];exact⟨o,r,h1,h2,h3,ExL.rd h7⟩
 | .fn f cs,w,hr=>by rw[Ex]at hr;exact hr.elim;all_goals simp
 | .fz t,w,hr=>by rw[Ex]at hr;rw[Rd];exact hr
 | .junk,w,hr=>by rw[Rd];trivial
 | .ex t,w,hr=>by rw[Ex]at hr;exact hr.elim;all_goals simp
theorem ExL.rd{h:H}{Z:Nat→Prop}: ∀{ts:List Tree} {l:List Value},ExL h Z ts l→RdL h Z ts l
 | [],l,hr=>by rw[ExL]at hr;rw[RdL];exact hr
 |t::ts,l,hr=>by
  rw[ExL]at hr
  rw[RdL]
  obtain⟨w,l',h1,h2,h3⟩:=hr
  exact⟨w,l',h1,Ex.rd h2,ExL.rd h3⟩
end
mutual
theorem ok.keep{h h':H}{Z Z':Nat→Prop}(hz: ∀o,Z o→Z' o)(hs:Same h h' Z): ∀{a:AT},ok h Z a→(∀o∈a.fp,h'.row o=h.row o)→ok h' Z' a
 | .v x,_,_=>by rw[ok];trivial
 | .sl o off n c nl e u cs,hk,hf=>by
   rw[ok]at hk⊢
   rw[AT.fp]at hf
   obtain⟨r,h1,h2,h3,h4,h5,h6,h7,h8,h9,h10⟩:=hk
   exact⟨r,by rw[hf o (by simp)];exact h1,h2,h3,h4,h5,h6,h7,h8,h9,okL.keep hz hs h10 fun o' ho'=>hf o' (by simp[ho'])⟩
 | .nil nl e u,hk,_=>by rw[ok]at hk⊢;exact hk
 | .pt o e cs,hk,hf=>by
   rw[ok]at hk⊢
   rw[AT.fp]at hf
   obtain⟨r,h1,h2,h3,h4⟩:=hk
   exact⟨r,by rw[hf o (by simp)];exact h1,h2,h3,okL.keep hz hs h4 fun o' ho'=>hf o' (by simp[ho'])⟩
 | .fn f,_,_=>by rw[ok];trivial
 | .fz w t,hk,_=>by rw[ok]at hk⊢;exact Rd.mono hz hs hk
 | .junk w,hk,_=>by rw[ok]at hk⊢;exact hk
theorem okL.keep{h h':H}{Z Z':Nat→Prop}(hz: ∀o,Z o→Z' o)(hs:Same h h' Z): ∀{l:List AT},okL h Z l→(∀o∈fpL l,h'.row o=h.row o)→okL h' Z' l
 | [],_,_=>by rw[okL];trivial
 |a::l,hk,hf=>by
  rw[okL]at hk⊢
  rw[fpL]at hf
  exact⟨ok.keep hz hs hk.1 fun o ho=>hf o (by simp[ho]),okL.keep hz hs hk.2 fun o ho=>hf o (by simp[ho])⟩
end
mutual
theorem ok.rd{h:H}{Z Z':Nat→Prop}(hz: ∀o,Z o→Z' o): ∀{a:AT},ok h Z a→(∀o∈a.fp,Z' o)→Rd h Z' (strip a.era) a.val
 | .v x,_,_=>by rw[AT.era,strip,Rd];rfl
 | .sl o off n c nl e u cs,hk,hf=>by
   rw[ok]at hk
   rw[AT.fp]at hf
   obtain⟨r,h1,h2,h3,h4,h5,h6,h7,h8,h9,h10⟩:=hk
   rw[AT.era,strip,Rd]
   have hl:(jj5 (eraL cs)).length=cs.length:=by rw[gz0,dk4];simp
   refine .inr ⟨o,off,n,c,r,rfl,hf o (by simp),h1,fun _=>h4,h5,by rw[hl];exact h6,h7,fun hn e=>h8.1 hn ?_, ?_⟩
   ·rw[e]at hl;exact List.eq_nil_of_length_eq_zero hl.symm
   ·rw[hl,h9];exact okL.rd hz h10 fun o' ho'=>hf o' (by simp[ho'])
 | .nil nl e u,hk,_=>by
   rw[ok]at hk
   rw[AT.era,strip,jj5,Rd]
   exact .inl ⟨rfl,hk.1,hk.2,rfl⟩
 | .pt o e cs,hk,hf=>by
   rw[ok]at hk
   rw[AT.fp]at hf
   obtain⟨r,h1,h2,h3,h4⟩:=hk
   rw[AT.era,strip,Rd]
   exact⟨o,r,rfl,hf o (by simp),h1,by rw[h3];exact okL.rd hz h4 fun o' ho'=>hf o' (by simp[ho'])⟩
 | .fn f,_,_=>by
   rw[AT.era,strip,jj5,Rd]
   exact⟨[],rfl,by rw[RdL]⟩
 | .fz w t,hk,_=>by
   rw[ok]at hk
   rw[AT.era,strip]
   exact Rd.mono hz (fun _ _=>rfl) hk
 | .junk w,_,_=>by rw[AT.era,strip,Rd];trivial
theorem okL.rd{h:H}{Z Z':Nat→Prop}(hz: ∀o,Z o→Z' o): ∀{l:List AT},okL h Z l→(∀o∈fpL l,Z' o)→RdL h Z' (jj5 (eraL l)) (l.map AT.val)
 | [],_,_=>by rw[eraL,jj5,RdL];rfl
 |a::l,hk,hf=>by
  rw[okL]at hk
  rw[fpL]at hf
  rw[eraL,jj5,RdL]
  exact⟨_,_,rfl,ok.rd hz hk.1 fun o ho=>hf o (by simp[ho]),okL.rd hz hk.2 fun o ho=>hf o (by simp[ho])⟩
end
def AT.kids:AT→Option (List AT)
 | .sl _ _ _ _ _ _ _ cs=>some cs
 | .nil _ _ _=>some []
 | .pt _ _ cs=>some cs
 |_=>none
def AT.setKids:AT→List AT→AT
 | .sl o off n c nl e u _,cs=> .sl o off n c nl e u cs
 | .pt o e _,cs=> .pt o e cs
 |t,_=>t
def AT.get:AT→List Nat→Option AT
 |t,[]=>some t
 |t,i::p=>match t.kids with
  |some cs=>match cs[i]? with
   |some k=>k.get p
   |none=>none
  |none=>none
def AT.upd:AT→List Nat→AT→AT
 |_,[],s=>s
 |t,i::p,s=>match t.kids with
  |some cs=>match cs[i]? with
   |some k=>t.setKids (cs.set i (k.upd p s))
   |none=>t
  |none=>t
def AT.isV:AT→Bool
 | .v _=>true
 |_=>false
theorem wb1(a:AT):a.era.kids=a.kids.map eraL:=by
 cases a<;>rfl
theorem vw3{a:AT}{cs cs':List AT}(hk:a.kids=some cs)(hl:cs'.length=cs.length):(a.setKids cs').era=a.era.setKids (eraL cs'):=by
 cases a with
 |sl=>rfl
 |pt=>rfl
 |nil nl e u=>
  cases hk
  obtain rfl:cs'=[]:=List.eq_nil_of_length_eq_zero (by simpa using hl)
  rfl
 |v=>cases hk
 |fn=>cases hk
 |fz=>cases hk
 |junk=>cases hk
theorem df8(a:AT)(cs:List AT):(a.setKids cs).val=a.val:=by cases a<;>rfl
theorem ua4(a:AT)(cs:List AT):(a.setKids cs).isV=a.isV:=by cases a<;>rfl
theorem xt0: ∀(p:List Nat) (a:AT),a.era.get p=(a.get p).map AT.era
 | [],a=>rfl
 |i::p,a=>by
  simp only[Tree.get,AT.get,wb1]
  cases a.kids with
  |none=>rfl
  |some cs=>
   simp only[Option.map_some]
   rw[dk4,List.getElem?_map]
   cases cs[i]? with
   |none=>rfl
   |some k=>exact xt0 p k
theorem mg2(s:AT): ∀(p:List Nat) (a:AT),(a.upd p s).era=a.era.upd p s.era
 | [],a=>rfl
 |i::p,a=>by
  simp only[Tree.upd,AT.upd,wb1]
  cases hk:a.kids with
  |none=>rfl
  |some cs=>
   simp only[Option.map_some]
   rw[dk4,List.getElem?_map]
   cases cs[i]? with
   |none=>rfl
   |some k=>
    simp only[Option.map_some]
    rw[vw3 hk (by simp),dk4,List.map_set,mg2 s p k]
theorem p33{s:AT}: ∀{p:List Nat} {a k:AT},a.get p=some k→s.val=k.val→(a.upd p s).val=a.val
 | [],a,k,h1,h2=>by cases h1;exact h2
 |i::p,a,k,h1,h2=>by
  simp only[AT.upd,AT.get]at h1⊢
  cases hk:a.kids with
  |none=>rfl
  |some cs=>
   simp only[]
   cases hc:cs[i]? with
   |none=>rfl
   |some b=>exact df8 _ _
theorem vw2{a:AT}{cs:List AT}(hk:a.kids=some cs):(a.fp=[]∧cs=[])∨ ∃o,a.fp=o::fpL cs∧ ∀cs',(a.setKids cs').fp=o::fpL cs':=by
 cases a with
 |sl o off n c nl e u l=>cases hk;exact .inr ⟨o,by rw[AT.fp],fun cs'=>by rw[AT.setKids,AT.fp]⟩
 |pt o e l=>cases hk;exact .inr ⟨o,by rw[AT.fp],fun cs'=>by rw[AT.setKids,AT.fp]⟩
 |nil=>cases hk;exact .inl ⟨by rw[AT.fp];all_goals simp,rfl⟩
 |v=>cases hk
 |fn=>cases hk
 |fz=>cases hk
 |junk=>cases hk
theorem ju4(x:Nat): ∀{cs:List AT} {i:Nat} {k s:AT},cs[i]? =some k→(fpL (cs.set i s)).count x+k.fp.count x=(fpL cs).count x+s.fp.count x
 | [],i,k,s,h=>by simp at h
 |a::cs,0,k,s,h=>by
  simp at h;subst h
  rw[List.set_cons_zero,fpL,fpL,List.count_append,List.count_append];omega
 |a::cs,i+1,k,s,h=>by
  rw[List.set_cons_succ,fpL,fpL,List.count_append,List.count_append]
  have:=ju4 x (cs:=cs) (i:=i) (k:=k) (s:=s) (by simpa using h)
  omega
theorem rh1(x:Nat){s:AT}: ∀{p:List Nat} {a k:AT},a.get p=some k→(a.upd p s).fp.count x+k.fp.count x=a.fp.count x+s.fp.count x
 | [],a,k,h=>by cases h;rw[AT.upd];omega
 |i::p,a,k,h=>by
  simp only[AT.upd,AT.get]at h⊢
  cases hk:a.kids with
  |none=>rw[hk]at h;cases h
  |some cs=>
   rw[hk]at h
   simp only[]at h⊢
   cases hc:cs[i]? with
   |none=>rw[hc]at h;cases h
   |some b=>
    rw[hc]at h
    simp only[]at h⊢
    have h1:=rh1 x (s:=s) h
    have h2:=ju4 x (s:=b.upd p s) hc
    rcases vw2 hk with⟨_,rfl⟩|⟨o,e1,e2⟩
    ·simp at hc
    ·rw[e1,e2,List.count_cons,List.count_cons];omega
theorem un1(x:Nat){p:List Nat}{a k:AT}(h:a.get p=some k):k.fp.count x≤a.fp.count x:=by
 have:=rh1 x (s:= .junk .nilFunc) h
 rw[show(AT.junk .nilFunc).fp=[]from by rw[AT.fp]<;>simp]at this
 simp at this;omega
theorem iu1{h h':H}{Z Z':Nat→Prop}{a:AT}{cs cs':List AT}(hk:a.kids=some cs)(ha:ok h Z a)(hl:cs'.map AT.val=cs.map AT.val)(hr: ∀o,a.fp=o::fpL cs→h'.row o=h.row o)(hcs:okL h' Z' cs'):ok h' Z' (a.setKids cs'):=by
 have hlen:cs'.length=cs.length:=by have:=congrArg List.length hl;simpa using this
 cases a with
 |sl o off n c nl e u l=>
  cases hk
  rw[ok]at ha
  rw[AT.setKids,ok]
  obtain⟨r,h1,h2,h3,h4,h5,h6,h7,h8,h9,h10⟩:=ha
  exact⟨r,by rw[hr o (by rw[AT.fp])];exact h1,h2,h3,h4,h5,by rw[hlen];exact h6,h7,⟨fun hn e=>h8.1 hn (by rw[e]at hlen;exact List.eq_nil_of_length_eq_zero hlen.symm),by rw[hlen];exact h8.2⟩,by rw[hlen,hl];exact h9,hcs⟩
 |pt o e l=>
  cases hk
  rw[ok]at ha
  rw[AT.setKids,ok]
  obtain⟨r,h1,h2,h3,h4⟩:=ha
  exact⟨r,by rw[hr o (by rw[AT.fp])];exact h1,h2,by rw[hl];exact h3,hcs⟩
 |nil nl e u=>rw[AT.setKids];rw[ok]at ha⊢;exact ha;all_goals simp
 |v=>cases hk
 |fn=>cases hk
 |fz=>cases hk
 |junk=>cases hk
theorem by5{h:H}{Z:Nat→Prop}{a:AT}{cs:List AT}(hk:a.kids=some cs)(ha:ok h Z a):okL h Z cs:=by
 cases a with
 |sl=>cases hk;rw[ok]at ha;obtain⟨r,h1,h2,h3,h4,h5,h6,h7,h8,h9,h10⟩:=ha;exact h10
 |pt=>cases hk;rw[ok]at ha;obtain⟨r,h1,h2,h3,h4⟩:=ha;exact h4
 |nil=>cases hk;rw[okL];trivial
 |v=>cases hk
 |fn=>cases hk
 |fz=>cases hk
 |junk=>cases hk
theorem xf2{h:H}{Z:Nat→Prop}: ∀{p:List Nat} {a k:AT},a.get p=some k→ok h Z a→ok h Z k
 | [],a,k,h1,h2=>by cases h1;exact h2
 |i::p,a,k,h1,h2=>by
  simp only[AT.get]at h1
  cases hk:a.kids with
  |none=>rw[hk]at h1;cases h1
  |some cs=>
   rw[hk]at h1
   simp only[]at h1
   cases hc:cs[i]? with
   |none=>rw[hc]at h1;cases h1
   |some b=>
    rw[hc]at h1
    exact xf2 (p:=p) h1 (ga8.1 (by5 hk h2) b (List.mem_of_getElem? hc))
theorem ea8{x:Nat}{l:List Nat}:x∈l↔0<l.count x:=List.count_pos_iff.symm
theorem i85{x:Nat}{cs:List AT}{i:Nat}{k:AT}(hc:cs[i]? =some k)(hx:x∈k.fp):x∈fpL cs:=by
 rw[zq7,List.mem_flatMap];exact⟨k,List.mem_of_getElem? hc,hx⟩
theorem kr3{h h':H}{Z Z':Nat→Prop}(hz: ∀o,Z o→Z' o)(hs:Same h h' Z){s:AT}: ∀{p:List Nat} {a k:AT},a.get p=some k→ok h Z a→(∀x,a.fp.count x≤1)→s.val=k.val→ok h' Z' s→(∀o∈a.fp,o∉k.fp→h'.row o=h.row o)→ok h' Z' (a.upd p s)
 | [],a,k,h1,h2,hn,hv,h3,h4=>by cases h1;exact h3
 |i::p,a,k,h1,h2,hn,hv,h3,h4=>by
  simp only[AT.get,AT.upd]at h1⊢
  cases hk:a.kids with
  |none=>rw[hk]at h1;cases h1
  |some cs=>
   rw[hk]at h1
   simp only[]at h1⊢
   cases hc:cs[i]? with
   |none=>rw[hc]at h1;cases h1
   |some b=>
    rw[hc]at h1
    simp only[]at h1⊢
    rcases vw2 hk with⟨_,rfl⟩|⟨o,e1,e2⟩
    ·simp at hc
    ·have hsub: ∀x,k.fp.count x≤b.fp.count x:=fun x=>un1 x h1
     have hcs: ∀x,(fpL cs).count x≤1∧(x=o→(fpL cs).count x=0):=fun x=>by
      have:=hn x
      rw[e1,List.count_cons]at this
      refine⟨by omega,fun e=> ?_⟩
      subst e
      simp at this
      exact this
     have hb: ∀x,b.fp.count x≤(fpL cs).count x:=fun x=>by
      have:=ju4 x (s:= .junk .nilFunc) hc
      rw[show(AT.junk .nilFunc).fp=[]from by rw[AT.fp]<;>simp]at this
      simp at this;omega
     have hbval:(b.upd p s).val=b.val:=p33 h1 hv
     refine iu1 hk h2 ?_ (fun o' ho'=> ?_) (ga8.2 fun a' ha'=> ?_)
     ·rw[List.map_set,hbval]
      refine List.ext_getElem? fun j=> ?_
      rw[List.getElem?_set]
      split
      ·subst_vars
       split
       ·rw[List.getElem?_map,hc];rfl
       ·rw[List.getElem?_eq_none (by omega)]
      ·rfl
     ·have:o'=o:=by rw[e1]at ho';cases ho';rfl
      subst this
      refine h4 o' (by rw[e1];simp) fun hm=> ?_
      have:=(hcs o').2 rfl
      have:=hb o'
      have:=hsub o'
      have:=ea8.1 hm
      omega
     ·obtain⟨j,hj,rfl⟩:=List.getElem_of_mem ha'
      rw[List.getElem_set]
      split
      ·refine kr3 hz hs h1 (ga8.1 (by5 hk h2) b (List.mem_of_getElem? hc)) (fun x=>by have:=hb x;have:=(hcs x).1;omega) hv h3 fun o' ho' hno=>h4 o' (by rw[e1];simp[i85 hc ho']) hno
      ·rename_i hij
       rw[List.length_set]at hj
       have hmem:cs[j]? =some cs[j]:=List.getElem?_eq_getElem hj
       refine ok.keep hz hs (ga8.1 (by5 hk h2) _ (List.getElem_mem hj)) fun o' ho'=>h4 o' (by rw[e1];simp[i85 hmem ho']) fun hm=> ?_
       --it stands in two of them
       have h5:=ju4 o' (s:= .junk .nilFunc) hc
       rw[show(AT.junk .nilFunc).fp=[]from by rw[AT.fp]<;>simp]at h5
       have h6:o'∈fpL (cs.set i (.junk .nilFunc)):=i85 (i:=j) (k:=cs[j]) (by rw[List.getElem?_set_ne hij];exact hmem) ho'
       have:=ea8.1 h6
       have:=ea8.1 hm
       have:=hsub o'
       have:=(hcs o').1
       simp at h5;omega
end Go.Vm
namespace Go.Vm
open Go.Am
def aget(A:List AT)(r:Nat)(p:List Nat):Option AT:=match A[r]? with
 |some a=>a.get p
 |none=>none
def aset(A:List AT)(r:Nat)(p:List Nat)(s:AT):List AT:=match A[r]? with
 |some a=>A.set r (a.upd p s)
 |none=>A
theorem p00(A:List AT)(r:Nat)(p:List Nat):rget (A.map AT.era) r p=(aget A r p).map AT.era:=by
 unfold rget aget
 rw[List.getElem?_map]
 cases A[r]? with
 |none=>rfl
 |some a=>exact xt0 p a
theorem ao8(A:List AT)(r:Nat)(p:List Nat)(s:AT):rset (A.map AT.era) r p s.era=(aset A r p s).map AT.era:=by
 unfold rset aset
 rw[List.getElem?_map]
 cases A[r]? with
 |none=>rfl
 |some a=>
  simp only[Option.map_some]
  rw[List.map_set,mg2]
theorem mc9{A:List AT}{r:Nat}{p:List Nat}{t:Tree}(h:rget (A.map AT.era) r p=some t): ∃k,aget A r p=some k∧k.era=t:=by
 rw[p00]at h
 exact Option.map_eq_some_iff.1 h
theorem hl4(A:List AT)(r:Nat)(p:List Nat)(s:AT):(aset A r p s).length=A.length:=by
 unfold aset;split
 ·rw[List.length_set]
 ·rfl
theorem vs7{A:List AT}{r:Nat}{p:List Nat}{k:AT}(h:aget A r p=some k):r<A.length:=by
 unfold aget at h
 split at h
 ·rename_i h1;exact(List.getElem?_eq_some_iff.1 h1).1
 ·cases h
theorem z88(x:Nat){A:List AT}{r:Nat}{p:List Nat}{k s:AT}(h:aget A r p=some k):(fpL (aset A r p s)).count x+k.fp.count x=(fpL A).count x+s.fp.count x:=by
 unfold aget at h
 unfold aset
 cases ha:A[r]? with
 |none=>rw[ha]at h;cases h
 |some a=>
  rw[ha]at h
  simp only[]at h⊢
  have h1:=rh1 x (s:=s) h
  have h2:=ju4 x (s:=a.upd p s) ha
  omega
theorem bm6(x:Nat){A:List AT}{r:Nat}{p:List Nat}{k:AT}(h:aget A r p=some k):k.fp.count x≤(fpL A).count x:=by
 have:=z88 x (s:= .junk .nilFunc) h
 rw[show(AT.junk .nilFunc).fp=[]from by rw[AT.fp]<;>simp]at this
 simp at this;omega
theorem xv9(A B:List AT):fpL (A++B)=fpL A++fpL B:=by simp only[zq7,List.flatMap_append]
structure Inv (h:H) (A:List AT) (Z Zp:Nat→Prop):Prop where
 okA:okL h Zp A
 nd: ∀x,(fpL A).count x≤1
 lt: ∀o∈fpL A,o<h.length
 nz: ∀o∈fpL A,¬Z o
 zlt: ∀o,Z o→o<h.length
 zp: ∀o,Zp o→Z o
structure Ext (h:H) (A:List AT) (Zp:Nat→Prop) (h':H) (A':List AT) (Zp':Nat→Prop):Prop where
 len:h.length≤h'.length
 keep: ∀o,o<h.length→o∉fpL A→h'[o]? =h[o]?
 fp: ∀o∈fpL A',o∈fpL A∨h.length≤o
 zp: ∀o,Zp o→Zp' o
 zn: ∀o,Zp' o→Zp o∨o∈fpL A∨h.length≤o
theorem Ext.refl(h:H)(A:List AT)(Zp:Nat→Prop):Ext h A Zp h A Zp:=⟨Nat.le_refl _,fun _ _ _=>rfl,fun _ h=> .inl h,fun _ h=>h,fun _ h=> .inl h⟩
theorem Ext.trans{h h1 h2:H}{A A1 A2:List AT}{Z Z1 Z2:Nat→Prop}(a:Ext h A Z h1 A1 Z1)(b:Ext h1 A1 Z1 h2 A2 Z2):Ext h A Z h2 A2 Z2:=by
 have:=a.len
 have:=b.len
 refine⟨by omega,fun o ho hn=> ?_,fun o ho=> ?_,fun o ho=>b.zp o (a.zp o ho),fun o ho=> ?_⟩
 ·rw[b.keep o (by omega) fun hm=> ?_,a.keep o ho hn]
  rcases a.fp o hm with h|h
  ·exact hn h
  ·omega
 ·rcases b.fp o ho with h|h
  ·exact a.fp o h
  ·exact .inr (by omega)
 ·rcases b.zn o ho with h|h|h
  ·exact a.zn o h
  ·rcases a.fp o h with h|h
   ·exact .inr (.inl h)
   ·exact .inr (.inr h)
  ·exact .inr (.inr (by omega))
theorem Ext.same{h h':H}{A A':List AT}{Z Zp Zp':Nat→Prop}(e:Ext h A Zp h' A' Zp')(i:Inv h A Z Zp):Same h h' Z:=fun o ho=>by
 unfold H.row
 rw[e.keep o (i.zlt o ho) fun hm=>i.nz o hm ho]
structure Stab (A A':List AT) (ks:List Nat):Prop where
 len:A.length≤A'.length
 get: ∀(r:Nat) (p:List Nat) (b':AT),r<A.length→(r∈ks→p=[])→aget A' r p=some b'→b'.isV=false→ ∃b,aget A r p=some b∧b.isV=false∧b'.val=b.val
 pin: ∀(r:Nat) (a a':AT),A[r]? =some a→A'[r]? =some a'→a'.val=a.val∧(a.isV=false→a'.isV=false)
theorem Stab.refl(A:List AT)(ks:List Nat):Stab A A ks:=⟨Nat.le_refl _,fun r p b' _ _ h1 h2=>⟨b',h1,h2,rfl⟩,fun r a a' h1 h2=>by rw[h1]at h2;cases h2;exact⟨rfl,id⟩⟩
theorem gr7{A N:List AT}{r:Nat}(p:List Nat)(hr:r<A.length):aget (A++N) r p=aget A r p:=by
 unfold aget;rw[List.getElem?_append_left hr]
theorem Stab.app{A A':List AT}{ks:List Nat}(s:Stab A A' ks)(N:List AT):Stab A (A'++N) ks:=by
 refine⟨by rw[List.length_append];have:=s.len;omega,fun r p b' hr hk h1 h2=> ?_,fun r a a' h1 h2=> ?_⟩
 ·rw[gr7 p (by have:=s.len;omega)]at h1
  exact s.get r p b' hr hk h1 h2
 ·have:=(List.getElem?_eq_some_iff.1 h1).1
  rw[List.getElem?_append_left (by have:=s.len;omega)]at h2
  exact s.pin r a a' h1 h2
theorem Stab.trans{A B C:List AT}{ks:List Nat}(a:Stab A B ks)(b:Stab B C ks):Stab A C ks:=by
 refine⟨Nat.le_trans a.len b.len,fun r p b' hr hk h1 h2=> ?_,fun r x z h1 h2=> ?_⟩
 ·obtain⟨c,c1,c2,c3⟩:=b.get r p b' (by have:=a.len;omega) hk h1 h2
  obtain⟨d,d1,d2,d3⟩:=a.get r p c hr hk c1 c2
  exact⟨d,d1,d2,c3.trans d3⟩
 ·have hr:=(List.getElem?_eq_some_iff.1 h1).1
  have hrb:r<B.length:=by have:=a.len;omega
  have h3:B[r]? =some B[r]:=List.getElem?_eq_getElem hrb
  have p1:=b.pin r _ z h3 h2
  have p2:=a.pin r x _ h1 h3
  exact⟨p1.1.trans p2.1,fun hx=>p1.2 (p2.2 hx)⟩
theorem Stab.weak{A B:List AT}{ks ls:List Nat}(a:Stab A B ks)(h: ∀r∈ks,r∈ls):Stab A B ls:=⟨a.len,fun r p b' hr hk h1 h2=>a.get r p b' hr (fun hm=>hk (h r hm)) h1 h2,a.pin⟩
theorem oy0{s:AT}: ∀{p:List Nat} {a k:AT},a.get p=some k→s.isV=false→a.isV=false→(a.upd p s).isV=false
 | [],a,k,h1,h2,_=>h2
 |i::p,a,k,h1,h2,h3=>by
  simp only[AT.upd,AT.get]at h1⊢
  cases hk:a.kids with
  |none=>exact h3
  |some cs=>
   simp only[]
   cases hc:cs[i]? with
   |none=>exact h3
   |some b=>simp only[];rw[ua4];exact h3
def Sub(k s:AT):Prop:= ∀q b',s.get q=some b'→b'.isV=false→ ∃b,k.get q=some b∧b.isV=false∧b'.val=b.val
theorem Sub.leaf{k s:AT}(hs:s.kids=none)(hv:s.val=k.val)(hk:k.isV=false):Sub k s:=by
 intro q b' h1 h2
 cases q with
 |nil=>cases h1;exact⟨k,rfl,hk,hv⟩
 |cons i q=>simp only[AT.get,hs]at h1;cases h1
theorem ot1{s:AT}: ∀{p:List Nat} {a k:AT},a.get p=some k→s.val=k.val→k.isV=false→s.isV=false→ ∀{q:List Nat} {b':AT},(Sub k s∨q=[])→(a.upd p s).get q=some b'→b'.isV=false→ ∃b,a.get q=some b∧b.isV=false∧b'.val=b.val
 | [],a,k,h1,hv,hk,hsv,q,b',hS,h2,h3=>by
   cases h1
   rcases hS with hS|rfl
   ·exact hS q b' h2 h3
   ·cases h2;exact⟨a,rfl,hk,hv⟩
 |i::p,a,k,h1,hv,hk,hsv,q,b',hS,h2,h3=>by
  simp only[AT.get,AT.upd]at h1 h2
  cases hc:a.kids with
  |none=>rw[hc]at h1;cases h1
  |some cs=>
   rw[hc]at h1 h2
   simp only[]at h1 h2
   cases hi:cs[i]? with
   |none=>rw[hi]at h1;cases h1
   |some c=>
    rw[hi]at h1 h2
    simp only[]at h1 h2
    cases q with
    |nil=>
     cases h2
     rw[ua4]at h3
     exact⟨a,rfl,h3,df8 _ _⟩
    |cons j q=>
     have hkk:(a.setKids (cs.set i (c.upd p s))).kids=some (cs.set i (c.upd p s)):=by
      cases a with
      |sl=>rfl
      |pt=>rfl
      |nil=>cases hc;simp at hi
      |v=>cases hc
      |fn=>cases hc
      |fz=>cases hc
      |junk=>cases hc
     simp only[AT.get,hkk]at h2
     simp only[AT.get,hc]
     by_cases hij:i=j
     ·subst hij
      have hlt:=(List.getElem?_eq_some_iff.1 hi).1
      rw[List.getElem?_set_self hlt]at h2
      rw[hi]
      exact ot1 h1 hv hk hsv (hS.imp id fun e=>by cases e) h2 h3
     ·rw[List.getElem?_set_ne hij]at h2
      cases hj:cs[j]? with
      |none=>rw[hj]at h2;cases h2
      |some d=>rw[hj]at h2;exact⟨b',h2,h3,rfl⟩
theorem Stab.upd{A:List AT}{r:Nat}{p:List Nat}{k s:AT}(hk:aget A r p=some k)(hv:s.val=k.val)(h1:k.isV=false)(h2:s.isV=false){ks:List Nat}(hS:Sub k s∨r∈ks):Stab A (aset A r p s) ks:=by
 have hr:=vs7 hk
 unfold aget at hk
 have hA:A[r]? =some A[r]:=List.getElem?_eq_getElem hr
 rw[hA]at hk
 simp only[]at hk
 have hset:aset A r p s=A.set r (A[r].upd p s):=by unfold aset;rw[hA]
 refine⟨by rw[hl4];exact Nat.le_refl _,fun r' q b' hr' hkill h3 h4=> ?_,fun r' a a' h3 h4=> ?_⟩
 ·rw[hset]at h3
  unfold aget at h3⊢
  by_cases he:r=r'
  ·subst he
   rw[List.getElem?_set_self hr]at h3
   rw[hA]
   exact ot1 hk hv h1 h2 (hS.imp id fun hm=>hkill hm) h3 h4
  ·rw[List.getElem?_set_ne he]at h3
   exact⟨b',h3,h4,rfl⟩
 ·rw[hset]at h4
  by_cases he:r=r'
  ·subst he
   rw[List.getElem?_set_self hr]at h4
   rw[hA]at h3
   cases h3;cases h4
   exact⟨p33 hk hv,fun hx=>oy0 hk h2 hx⟩
  ·rw[List.getElem?_set_ne he,h3]at h4
   cases h4;exact⟨rfl,id⟩
theorem ca4{h:H}{Z:Nat→Prop}{A B:List AT}:okL h Z (A++B)↔okL h Z A∧okL h Z B:=by
 rw[ga8,ga8,ga8];simp only[List.mem_append]
 exact⟨fun k=>⟨fun a ha=>k a (.inl ha),fun a ha=>k a (.inr ha)⟩,fun k a ha=>ha.elim (k.1 a) (k.2 a)⟩
theorem Inv.new{h h':H}{A C N:List AT}{Z Zp Zx:Nat→Prop}(i:Inv h (A++C) Z Zp)(hlen:h.length≤h'.length)(hkeep: ∀o,o<h.length→h'[o]? =h[o]?)(hN:okL h' (fun o=>Zp o∨Zx o) N)(hc: ∀x,x<h.length→(fpL N).count x≤(fpL C).count x)(hd: ∀x,h.length≤x→(fpL N).count x≤1)(hb: ∀o∈fpL N,o<h'.length)
 (hx: ∀o,Zx o→(o∈fpL C∨h.length≤o)∧o<h'.length∧o∉fpL N):Inv h' (A++N) (fun o=>Z o∨Zx o) (fun o=>Zp o∨Zx o)∧Ext h (A++C) Zp h' (A++N) (fun o=>Zp o∨Zx o):=by
 have hrow: ∀o,o<h.length→h'.row o=h.row o:=fun o ho=>by unfold H.row;rw[hkeep o ho]
 have hac: ∀x,(fpL A).count x+(fpL C).count x≤1:=fun x=>by have:=i.nd x;rwa [xv9,List.count_append]at this
 have hA: ∀o,o∈fpL A→o<h.length∧ ¬Z o:=fun o ho=>⟨i.lt o (by rw[xv9];simp[ho]),i.nz o (by rw[xv9];simp[ho])⟩
 have hC: ∀o,o∈fpL C→o<h.length∧ ¬Z o:=fun o ho=>⟨i.lt o (by rw[xv9];simp[ho]),i.nz o (by rw[xv9];simp[ho])⟩
 have hNC: ∀o,o∈fpL N→o<h.length→o∈fpL C:=fun o ho hl=>ea8.2 (by have:=ea8.1 ho;have:=hc o hl;omega)
 refine⟨⟨ca4.2 ⟨okL.keep (fun o ho=> .inl ho) (fun o ho=>hrow o (i.zlt o (i.zp o ho))) (ca4.1 i.okA).1 fun o ho=>hrow o (hA o ho).1,hN⟩,fun x=> ?_,fun o ho=> ?_,fun o ho=> ?_,fun o ho=> ?_,fun o ho=> ?_⟩,hlen,fun o ho _=>hkeep o ho,fun o ho=> ?_,fun o ho=> .inl ho,fun o ho=> ?_⟩
 ·rw[xv9,List.count_append]
  have h1:=hac x
  by_cases hl:x<h.length
  ·have:=hc x hl;omega
  ·have:(fpL A).count x=0:=List.count_eq_zero.2 fun hm=>hl (hA x hm).1
   have:=hd x (by omega);omega
 ·rw[xv9]at ho
  rcases List.mem_append.1 ho with ho|ho
  ·have:=(hA o ho).1;omega
  ·exact hb o ho
 ·rw[xv9]at ho
  rcases List.mem_append.1 ho with ho|ho
  ·rintro(hz|hz)
   ·exact(hA o ho).2 hz
   ·rcases(hx o hz).1 with h1|h1
    ·have:=hac o;have:=ea8.1 ho;have:=ea8.1 h1;omega
    ·have:=(hA o ho).1;omega
  ·rintro(hz|hz)
   ·exact(hC o (hNC o ho (i.zlt o hz))).2 hz
   ·exact(hx o hz).2.2 ho
 ·rcases ho with ho|ho
  ·have:=i.zlt o ho;omega
  ·exact(hx o ho).2.1
 ·exact ho.imp (i.zp o) id
 ·rw[xv9]at ho
  rw[xv9]
  rcases List.mem_append.1 ho with ho|ho
  ·exact .inl (by simp[ho])
  ·by_cases hl:o<h.length
   ·exact .inl (by simp[hNC o ho hl])
   ·exact .inr (by omega)
 ·rcases ho with ho|ho
  ·exact .inl ho
  ·rw[xv9]
   rcases(hx o ho).1 with h1|h1
   ·exact .inr (.inl (by simp[h1]))
   ·exact .inr (.inr h1)
theorem Inv.upd{h h':H}{A C N:List AT}{Z Zp Zx:Nat→Prop}{r:Nat}{p:List Nat}{k s:AT}(i:Inv h (A++C) Z Zp)(hk:aget A r p=some k)(hlen:h.length≤h'.length)(hkeep: ∀o,o<h.length→o∉k.fp→h'[o]? =h[o]?)
 (hv:s.val=k.val) (hs:ok h' (fun o=>Zp o∨Zx o) s) (hN:okL h' (fun o=>Zp o∨Zx o) N) (hc: ∀x,x<h.length→s.fp.count x+(fpL N).count x≤k.fp.count x+(fpL C).count x) (hd: ∀x,h.length≤x→s.fp.count x+(fpL N).count x≤1) (hb: ∀o,o∈s.fp∨o∈fpL N→o<h'.length)
 (hx: ∀o,Zx o→(o∈k.fp∨o∈fpL C∨h.length≤o)∧o<h'.length∧o∉s.fp∧o∉fpL N):
 Inv h' (aset A r p s++N) (fun o=>Z o∨Zx o) (fun o=>Zp o∨Zx o)∧Ext h (A++C) Zp h' (aset A r p s++N) (fun o=>Zp o∨Zx o):=by
 have hac: ∀x,(fpL A).count x+(fpL C).count x≤1:=fun x=>by have:=i.nd x;rwa [xv9,List.count_append]at this
 have hA': ∀o,o∈fpL A→o<h.length∧ ¬Z o:=fun o ho=>⟨i.lt o (by rw[xv9];simp[ho]),i.nz o (by rw[xv9];simp[ho])⟩
 have hC: ∀o,o∈fpL C→o<h.length∧ ¬Z o:=fun o ho=>⟨i.lt o (by rw[xv9];simp[ho]),i.nz o (by rw[xv9];simp[ho])⟩
 have hkm: ∀o,o∈k.fp→o∈fpL A:=fun o ho=>ea8.2 (by have:=ea8.1 ho;have:=bm6 o hk;omega)
 have hrow: ∀o,o<h.length→o∉k.fp→h'.row o=h.row o:=fun o ho hn=>by unfold H.row;rw[hkeep o ho hn]
 have hzk: ∀o,Z o→o∉k.fp:=fun o ho hm=>(hA' o (hkm o hm)).2 ho
 have hsame:Same h h' Zp:=fun o ho=>hrow o (i.zlt o (i.zp o ho)) (hzk o (i.zp o ho))
 have hcnt: ∀x,(fpL (aset A r p s++N)).count x+k.fp.count x=(fpL A).count x+s.fp.count x+(fpL N).count x:=fun x=>by
  rw[xv9,List.count_append]
  have:=z88 x (s:=s) hk
  omega
 have hmem: ∀o,o∈fpL (aset A r p s++N)→(o∈fpL A∧o∉k.fp)∨o∈s.fp∨o∈fpL N:=fun o ho=>by
  have h1:=ea8.1 ho
  have h2:=hcnt o
  have h3:=hac o
  by_cases hm:o∈k.fp
  ·have h4:=ea8.1 hm
   by_cases h5:o∈s.fp
   ·exact .inr (.inl h5)
   ·refine .inr (.inr (ea8.2 ?_))
    have:s.fp.count o=0:=List.count_eq_zero.2 h5
    omega
  ·have h4:k.fp.count o=0:=List.count_eq_zero.2 hm
   by_cases h5:o∈s.fp
   ·exact .inr (.inl h5)
   ·by_cases h6:o∈fpL N
    ·exact .inr (.inr h6)
    ·have:s.fp.count o=0:=List.count_eq_zero.2 h5
     have:(fpL N).count o=0:=List.count_eq_zero.2 h6
     exact .inl ⟨ea8.2 (by omega),hm⟩
 have hold: ∀o,o<h.length→(o∈s.fp∨o∈fpL N)→o∈k.fp∨o∈fpL C:=fun o ho hm=>by
  have h1:=hc o ho
  by_cases h2:o∈k.fp
  ·exact .inl h2
  ·have:k.fp.count o=0:=List.count_eq_zero.2 h2
   refine .inr (ea8.2 ?_)
   rcases hm with hm|hm<;>have:=ea8.1 hm<;>omega
 refine⟨⟨ca4.2 ⟨ga8.2 fun a ha=> ?_,hN⟩,fun x=> ?_,fun o ho=> ?_,fun o ho=> ?_,fun o ho=> ?_,fun o ho=> ?_⟩,hlen,fun o ho hn=>hkeep o ho fun hm=>hn (by rw[xv9];simp[hkm o hm]),fun o ho=> ?_,fun o ho=> .inl ho,fun o ho=> ?_⟩
 ·--roots
  have hr:=vs7 hk
  have hA:A[r]? =some A[r]:=List.getElem?_eq_getElem hr
  have hset:aset A r p s=A.set r (A[r].upd p s):=by unfold aset;rw[hA]
  have hokA:=(ca4.1 i.okA).1
  unfold aget at hk
  rw[hA]at hk
  simp only[]at hk
  rw[hset]at ha
  obtain⟨j,hj,rfl⟩:=List.getElem_of_mem ha
  rw[List.length_set]at hj
  rw[List.getElem_set]
  have hAc: ∀x,A[r].fp.count x≤(fpL A).count x:=fun x=>bm6 x (A:=A) (r:=r) (p:=[]) (by unfold aget;rw[hA];rfl)
  split
  ·refine kr3 (fun o ho=> .inl ho) hsame hk (ga8.1 hokA _ (List.getElem_mem hr)) (fun x=>by have:=hAc x;have:=hac x;omega) hv hs fun o ho hn=>hrow o (hA' o (i85 hA ho)).1 hn
  ·rename_i hne
   have hAj:A[j]? =some A[j]:=List.getElem?_eq_getElem hj
   refine ok.keep (fun o ho=> .inl ho) hsame (ga8.1 hokA _ (List.getElem_mem hj)) fun o ho=>hrow o (hA' o (i85 hAj ho)).1 fun hm=> ?_
   have h5:=ju4 o (s:= .junk .nilFunc) hA
   rw[show(AT.junk .nilFunc).fp=[]from by rw[AT.fp]<;>simp]at h5
   have h6:o∈fpL (A.set r (.junk .nilFunc)):=i85 (i:=j) (k:=A[j]) (by rw[List.getElem?_set_ne hne];exact hAj) ho
   have:=ea8.1 h6
   have:=ea8.1 hm
   have:=un1 o hk
   have:=hac o
   simp at h5;omega
 ·have h1:=hcnt x
  have h2:=hac x
  by_cases hxl:x<h.length
  ·have:=hc x hxl;omega
  ·have h3:=hd x (by omega)
   have:(fpL A).count x=0:=List.count_eq_zero.2 fun hm=>hxl (hA' x hm).1
   omega
 ·rcases hmem o ho with⟨h1,_⟩|h1
  ·have:=(hA' o h1).1;omega
  ·exact hb o h1
 ·rintro(hz|hz)
  ·rcases hmem o ho with⟨h1,_⟩|h1
   ·exact(hA' o h1).2 hz
   ·rcases hold o (i.zlt o hz) h1 with h2|h2
    ·exact hzk o hz h2
    ·exact(hC o h2).2 hz
  ·obtain⟨h1,h2,h3,h4⟩:=hx o hz
   rcases hmem o ho with⟨h5,h6⟩|h5|h5
   ·rcases h1 with h1|h1|h1
    ·exact h6 h1
    ·have:=hac o;have:=ea8.1 h1;have:=ea8.1 h5;omega
    ·have:=(hA' o h5).1;omega
   ·exact h3 h5
   ·exact h4 h5
 ·rcases ho with ho|ho
  ·have:=i.zlt o ho;omega
  ·exact(hx o ho).2.1
 ·exact ho.imp (i.zp o) id
 ·rw[xv9 A C]
  by_cases hl:o<h.length
  ·rcases hmem o ho with⟨h1,_⟩|h1
   ·exact .inl (by simp[h1])
   ·rcases hold o hl h1 with h2|h2
    ·exact .inl (by simp[hkm o h2])
    ·exact .inl (by simp[h2])
  ·exact .inr (by omega)
 ·rw[xv9 A C]
  rcases ho with ho|ho
  ·exact .inl ho
  ·rcases(hx o ho).1 with h1|h1|h1
   ·exact .inr (.inl (by simp[hkm o h1]))
   ·exact .inr (.inl (by simp[h1]))
   ·exact .inr (.inr h1)
def pick(b:Bool)(Z Zp:Nat→Prop):Nat→Prop:=match b with
 |true=>Zp
 |false=>Z
mutual
def VR(h:H)(A:List AT)(Z Zp:Nat→Prop):AV→Value→Prop
 | .x v,w=>w=v
 | .fz b t,w=>Rd h (pick b Z Zp) t w
 | .fzc b cs i,w=> ∃o off r,w= .pointer (some ⟨o,off+i,none⟩)∧pick b Z Zp o∧h.row o=some r∧RdL h (pick b Z Zp) cs ((r.cells.drop off).take cs.length)
 | .own r p,w=>r<A.length∧ ∀b,aget A r p=some b→b.isV=false→b.val=w
 | .sub r p u lo n,w=>r<A.length∧ ∀b,aget A r p=some b→b.isV=false→match b.val with
   | .slice (some ⟨o,off,none⟩) _ _=> ∃lo' c',w= .slice (some ⟨o,off+lo'*u,none⟩) n c'∧n≤c'∧lo'≤lo∧(0<n→lo'=lo)
   | .slice none _ _=>n=0∧w= .slice none 0 0
   |_=>True
 | .cell r p i,w=>r<A.length∧ ∀b,aget A r p=some b→b.isV=false→match b.val with
   | .slice (some ⟨o,off,none⟩) _ _=>w= .pointer (some ⟨o,off+i,none⟩)
   | .pointer (some ⟨o,off,none⟩)=>w= .pointer (some ⟨o,off+i,none⟩)
   |_=>True
 | .agg l,w=> ∃ws,w= .agg (List.toArray ws)∧VRL h A Z Zp l ws
 | .tup l,w=> ∃ws,w= .tuple (List.toArray ws)∧VRL h A Z Zp l ws
 | .fn f l,w=> ∃ws,w= .func (.func f) #[] (List.toArray ws)∧VRL h A Z Zp l ws
def VRL(h:H)(A:List AT)(Z Zp:Nat→Prop):List AV→List Value→Prop
 | [],ws=>ws=[]
 |a::l,ws=> ∃w ws',ws=w::ws'∧VR h A Z Zp a w∧VRL h A Z Zp l ws'
end
section
variable {h:H} {A:List AT} {Z Zp:Nat→Prop}
theorem VRL.len: ∀{l:List AV} {ws:List Value},VRL h A Z Zp l ws→ws.length=l.length
 | [],ws,hr=>by rw[VRL]at hr;rw[hr];rfl
 |a::l,ws,hr=>by
  rw[VRL]at hr
  obtain⟨w,ws',rfl,_,hr⟩:=hr
  rw[List.length_cons,List.length_cons,hr.len]
theorem VRL.nil:VRL h A Z Zp [] []:=by rw[VRL]
theorem VRL.cons{a:AV}{l:List AV}{w:Value}{ws:List Value}(h1:VR h A Z Zp a w)(h2:VRL h A Z Zp l ws):VRL h A Z Zp (a::l) (w::ws):=by rw[VRL];exact⟨w,ws,rfl,h1,h2⟩
theorem VRL.at: ∀{l:List AV} {ws:List Value} {i:Nat} {a:AV},VRL h A Z Zp l ws→l[i]? =some a→ ∃w,ws[i]? =some w∧VR h A Z Zp a w
 | [],ws,i,a,hr,ha=>by simp at ha
 |b::l,ws,i,a,hr,ha=>by
  rw[VRL]at hr
  obtain⟨w,ws',rfl,h1,h2⟩:=hr
  cases i with
  |zero=>simp at ha;subst ha;exact⟨w,rfl,h1⟩
  |succ i=>exact h2.at (i:=i) (by simpa using ha)
theorem eo0: ∀{l:List AV} {ws:List Value},VRL h A Z Zp l ws↔ws.length=l.length∧ ∀(i:Nat) (a:AV) (w:Value),l[i]? =some a→ws[i]? =some w→VR h A Z Zp a w
 | [],ws=>by
   rw[VRL]
   exact⟨fun e=>by subst e;simp,fun⟨e,_⟩=>List.eq_nil_of_length_eq_zero e⟩
 |b::l,ws=>by
  rw[VRL]
  constructor
  ·rintro⟨w,l',rfl,h1,h2⟩
   obtain⟨e,k⟩:=eo0.1 h2
   refine⟨by rw[List.length_cons,List.length_cons,e],fun i t' w' h3 h4=> ?_⟩
   cases i with
   |zero=>simp at h3 h4;subst h3;subst h4;exact h1
   |succ i=>exact k i t' w' (by simpa using h3) (by simpa using h4)
  ·rintro⟨e,k⟩
   cases ws with
   |nil=>simp at e
   |cons w l'=>exact⟨w,l',rfl,k 0 b w rfl rfl,eo0.2 ⟨by simpa using e,fun i t' w' h3 h4=>k (i+1) t' w' (by simpa using h3) (by simpa using h4)⟩⟩
theorem VRL.app{l m:List AV}{ws us:List Value}(h1:VRL h A Z Zp l ws)(h2:VRL h A Z Zp m us):VRL h A Z Zp (l++m) (ws++us):=by
 induction l generalizing ws with
 |nil=>rw[VRL]at h1;subst h1;exact h2
 |cons a l ih=>
  rw[VRL]at h1
  obtain⟨w,ws',rfl,k1,k2⟩:=h1
  exact .cons k1 (ih k2)
theorem VRL.sub{l:List AV}{ws:List Value}(hr:VRL h A Z Zp l ws)(a b:Nat):VRL h A Z Zp ((l.drop a).take b) ((ws.drop a).take b):=by
 obtain⟨e,k⟩:=eo0.1 hr
 refine eo0.2 ⟨by simp only[List.length_take,List.length_drop,e],fun i t w h1 h2=> ?_⟩
 rw[List.getElem?_take]at h1 h2
 split at h1
 ·rw[if_pos ‹_›]at h2
  rw[List.getElem?_drop]at h1 h2
  exact k _ t w h1 h2
 ·cases h1
end
def je7(ks:List Nat)(a:AV):Bool:=ks.any fun r=>by9 r a
theorem mi7(ks:List Nat)(a:AV)(l:List AV)(h:(ks.any fun r=>dr4 r (a::l))=false):je7 ks a=false∧(ks.any fun r=>dr4 r l)=false:=by
 unfold je7
 rw[List.any_eq_false]at h
 refine⟨List.any_eq_false.2 fun r hr=> ?_,List.any_eq_false.2 fun r hr=> ?_⟩
 ·have:=h r hr
  rw[dr4]at this
  simp at this;simp[this.1]
 ·have:=h r hr
  rw[dr4]at this
  simp at this;simp[this.2]
theorem s60{ks:List Nat}{r:Nat}{p:List Nat}(h:(ks.any fun s=>(Nat.beq r s)&& !p.isEmpty)=false):r∈ks→p=[]:=by
 intro hm
 have:=List.any_eq_false.1 h r hm
 cases p with
 |nil=>rfl
 |cons i p=>simp at this
mutual
theorem VR.move{h h':H}{A A':List AT}{Z Z' Zp Zp':Nat→Prop}(hz: ∀o,Z o→Z' o)(hp: ∀o,Zp o→Zp' o)(hs:Same h h' Z)(hs2:Same h h' Zp){ks:List Nat}(st:Stab A A' ks): ∀{a:AV} {w:Value},VR h A Z Zp a w→je7 ks a=false→VR h' A' Z' Zp' a w
 | .x v,w,hr,_=>by rw[VR]at hr⊢;exact hr
 | .fz b t,w,hr,_=>by
   rw[VR]at hr⊢
   cases b with
   |true=>exact Rd.mono hp hs2 hr
   |false=>exact Rd.mono hz hs hr
 | .fzc b cs i,w,hr,_=>by
   rw[VR]at hr⊢
   obtain⟨o,off,r,h1,h2,h3,h4⟩:=hr
   cases b with
   |true=>exact⟨o,off,r,h1,hp o h2,by rw[hs2 o h2];exact h3,RdL.mono hp hs2 h4⟩
   |false=>exact⟨o,off,r,h1,hz o h2,by rw[hs o h2];exact h3,RdL.mono hz hs h4⟩
 | .own r p,w,hr,hk=>by
   rw[VR]at hr⊢
   unfold je7 at hk
   simp only[by9]at hk
   refine⟨by have:=st.len;omega,fun b' h1 h2=> ?_⟩
   obtain⟨b,h3,h4,h5⟩:=st.get r p b' hr.1 (s60 hk) h1 h2
   rw[h5];exact hr.2 b h3 h4
 | .sub r p u lo n,w,hr,hk=>by
   rw[VR]at hr⊢
   unfold je7 at hk
   simp only[by9]at hk
   refine⟨by have:=st.len;omega,fun b' h1 h2=> ?_⟩
   obtain⟨b,h3,h4,h5⟩:=st.get r p b' hr.1 (s60 hk) h1 h2
   rw[h5];exact hr.2 b h3 h4
 | .cell r p i,w,hr,hk=>by
   rw[VR]at hr⊢
   unfold je7 at hk
   simp only[by9]at hk
   refine⟨by have:=st.len;omega,fun b' h1 h2=> ?_⟩
   obtain⟨b,h3,h4,h5⟩:=st.get r p b' hr.1 (s60 hk) h1 h2
   rw[h5];exact hr.2 b h3 h4
 | .agg l,w,hr,hk=>by
   rw[VR]at hr⊢
   unfold je7 at hk
   simp only[by9]at hk
   obtain⟨ws,h1,h2⟩:=hr
   exact⟨ws,h1,VRL.move hz hp hs hs2 st h2 hk⟩
 | .tup l,w,hr,hk=>by
   rw[VR]at hr⊢
   unfold je7 at hk
   simp only[by9]at hk
   obtain⟨ws,h1,h2⟩:=hr
   exact⟨ws,h1,VRL.move hz hp hs hs2 st h2 hk⟩
 | .fn f l,w,hr,hk=>by
   rw[VR]at hr⊢
   unfold je7 at hk
   simp only[by9]at hk
   obtain⟨ws,h1,h2⟩:=hr
   exact⟨ws,h1,VRL.move hz hp hs hs2 st h2 hk⟩
theorem VRL.move{h h':H}{A A':List AT}{Z Z' Zp Zp':Nat→Prop}(hz: ∀o,Z o→Z' o)(hp: ∀o,Zp o→Zp' o)(hs:Same h h' Z)(hs2:Same h h' Zp){ks:List Nat}(st:Stab A A' ks): ∀{l:List AV} {ws:List Value},VRL h A Z Zp l ws→(ks.any fun r=>dr4 r l)=false→VRL h' A' Z' Zp' l ws
 | [],ws,hr,_=>by rw[VRL]at hr⊢;exact hr
 |a::l,ws,hr,hk=>by
  rw[VRL]at hr⊢
  obtain⟨w,ws',h1,h2,h3⟩:=hr
  obtain⟨k1,k2⟩:=mi7 ks a l hk
  exact⟨w,ws',h1,VR.move hz hp hs hs2 st h2 k1,VRL.move hz hp hs hs2 st h3 k2⟩
end
def FRV(h:H)(A:List AT)(Z Zp:Nat→Prop)(fr:VFr)(f:Fr):Prop:= ∀s a,fr s=some a→ ∃w,f s=some w∧VR h A Z Zp a w
end Go.Vm
namespace Go.Vm
open Go.Am
theorem ft8: ∀{p:List Nat} {a k c:AT} {cs:List AT} {i:Nat},a.get p=some k→k.kids=some cs→cs[i]? =some c→a.get (p++[i])=some c
 | [],a,k,c,cs,i,h1,h2,h3=>by cases h1;simp only[List.nil_append,AT.get,h2,h3]
 |j::p,a,k,c,cs,i,h1,h2,h3=>by
  simp only[List.cons_append,AT.get]at h1⊢
  cases hk:a.kids with
  |none=>rw[hk]at h1;cases h1
  |some ds=>
   rw[hk]at h1
   simp only[]at h1⊢
   cases hj:ds[j]? with
   |none=>rw[hj]at h1;cases h1
   |some d=>rw[hj]at h1;exact ft8 (p:=p) h1 h2 h3
theorem kq1{A:List AT}{r:Nat}{p:List Nat}{k c:AT}{cs:List AT}{i:Nat}(h1:aget A r p=some k)(h2:k.kids=some cs)(h3:cs[i]? =some c):aget A r (p++[i])=some c:=by
 unfold aget at h1⊢
 cases ha:A[r]? with
 |none=>rw[ha]at h1;cases h1
 |some a=>rw[ha]at h1;exact ft8 h1 h2 h3
theorem xb8{cs:List AT}{i:Nat}{t:Tree}(h:(eraL cs)[i]? =some t): ∃c,cs[i]? =some c∧c.era=t:=by
 rw[dk4,List.getElem?_map]at h
 exact Option.map_eq_some_iff.1 h
theorem i47(cs:List AT):(eraL cs).length=cs.length:=by rw[dk4];simp
def base:AT→Option (Nat×Nat)
 | .sl o off _ _ _ _ _ _=>some (o,off)
 | .pt o _ _=>some (o,0)
 |_=>none
section
variable {h:H} {A:List AT} {Z Zp:Nat→Prop} {fr:VFr} {f:Fr}
theorem lw8(i:Inv h A Z Zp){r:Nat}{p:List Nat}{k:AT}(hk:aget A r p=some k):ok h Zp k:=by
 unfold aget at hk
 cases ha:A[r]? with
 |none=>rw[ha]at hk;cases hk
 |some a=>rw[ha]at hk;exact xf2 hk (ga8.1 i.okA a (List.mem_of_getElem? ha))
theorem VRL.xs: ∀l:List Value,VRL h A Z Zp (l.map AV.x) l
 | []=> .nil
 |v::l=> .cons (by rw[VR]) (VRL.xs l)
theorem ah7{v:Value}(hc:closed v=true):ev f (.const v)=some v:=by
 simp only[ev];rw[if_pos hc]
theorem cj0(hf:FRV h A Z Zp fr f){o:Operand}{a:AV}(he:vev fr o=some a): ∃w,ev f o=some w∧VR h A Z Zp a w:=by
 cases o with
 |tmp t=>exact hf t a he
 |global n=>cases he
 |func g=>cases he;exact⟨_,rfl,by rw[VR];exact⟨[],rfl, .nil⟩⟩
 |const v=>
  cases v with
  |agg cs=>
   simp only[vev]at he
   split at he
   ·cases he
    refine⟨.agg cs,ah7 (v:= .agg cs) ‹_›, ?_⟩
    rw[VR]
    exact⟨cs.toList,by simp,VRL.xs _⟩
   ·cases he
  |tuple cs=>cases he
  |_=>
   simp only[vev]at he
   split at he
   ·cases he
    exact⟨_,ah7 ‹_›,by rw[VR]⟩
   ·cases he
theorem hv3(hf:FRV h A Z Zp fr f){o:Operand}{v:Value}(he:vx fr o=some v):ev f o=some v:=by
 unfold vx at he
 split at he
 ·rename_i h1
  cases he
  obtain⟨w,h2,h3⟩:=cj0 hf h1
  rw[VR]at h3
  rw[h2,h3]
 ·cases he
theorem c07(hf:FRV h A Z Zp fr f): ∀{os:List Operand} {vs:List Value},vxs fr os=some vs→evs f os=some vs
 | [],vs,he=>by cases he;rfl
 |o::os,vs,he=>by
  simp only[vxs]at he
  split at he
  ·rename_i h1 h2
   cases he
   simp only[evs,hv3 hf h1,c07 hf h2]
  ·cases he
theorem fk3(hf:FRV h A Z Zp fr f){o:Option Operand}{v:Option Int}(he:vxo fr o=some v):evo f o=some v:=by
 cases o with
 |none=>exact he
 |some o=>
  simp only[vxo]at he
  split at he
  ·rename_i h1
   simp only[evo,hv3 hf h1]
   exact he
  ·cases he
theorem ys0(hf:FRV h A Z Zp fr f): ∀{os:List Operand} {l:List AV},vevs fr os=some l→ ∃ws,evs f os=some ws∧VRL h A Z Zp l ws
 | [],l,he=>by cases he;exact⟨[],rfl, .nil⟩
 |o::os,l,he=>by
  simp only[vevs]at he
  split at he
  ·rename_i h1 h2
   cases he
   obtain⟨w,h3,h4⟩:=cj0 hf h1
   obtain⟨ws,h5,h6⟩:=ys0 hf h2
   exact⟨w::ws,by simp only[evs,h3,h5], .cons h4 h6⟩
  ·cases he
mutual
theorem g04{b:Bool}: ∀{t:Tree} {a:AV} {w:Value},ofz b t=some a→Rd h (pick b Z Zp) t w→VR h A Z Zp a w
 | .v x,a,w,he,hr=>by cases he;rw[Rd]at hr;rw[VR];exact hr
 | .sl nl e u cs,a,w,he,hr=>by cases he;rw[VR];exact hr
 | .pt e cs,a,w,he,hr=>by cases he;rw[VR];exact hr
 | .fn g cs,a,w,he,hr=>by
   rw[ofz]at he
   split at he
   ·cases he
    rw[Rd]at hr
    obtain⟨caps,h1,h2⟩:=hr
    rw[VR]
    exact⟨caps,h1,zi2 ‹_› h2⟩
   ·cases he
 | .fz t,a,w,he,hr=>by
   rw[ofz]at he
   rw[Rd]at hr
   exact g04 he hr
 | .junk,a,w,he,hr=>by cases he
 | .ex t,a,w,he,hr=>by
   cases t with
   |sl=>cases he;rw[VR];exact hr
   |pt=>cases he;rw[VR];exact hr
   |_=>cases he
theorem zi2{b:Bool}: ∀{ts:List Tree} {l:List AV} {ws:List Value},ofzL b ts=some l→RdL h (pick b Z Zp) ts ws→VRL h A Z Zp l ws
 | [],l,ws,he,hr=>by cases he;rw[RdL]at hr;rw[VRL];exact hr
 |t::ts,l,ws,he,hr=>by
  rw[ofzL]at he
  split at he
  ·cases he
   rw[RdL]at hr
   obtain⟨w,ws',h1,h2,h3⟩:=hr
   rw[VRL]
   exact⟨w,ws',h1,g04 ‹_› h2,zi2 ‹_› h3⟩
  ·cases he
end
theorem nm1(i:Inv h A Z Zp){r:Nat}{p:List Nat}{k:AT}{cs:List AT}(hk:aget A r p=some k)(hc:k.kids=some cs)(hne:cs≠[]):
 ∃o off row,base k=some (o,off)∧o∈k.fp∧h.row o=some row∧row.own=true∧(∀j c,cs[j]? =some c→row.cells[off+j]? =some c.val):=by
 have hok:=lw8 i hk
 cases k with
 |sl o off n c nl e u l=>
  cases hc
  rw[ok]at hok
  obtain⟨row,h1,h2,h3,h4,h5,h6,h7,h8,h9,h10⟩:=hok
  refine⟨o,off,row,rfl,by rw[AT.fp];simp,h1,h2,fun j c hj=> ?_⟩
  have hlt:=(List.getElem?_eq_some_iff.1 hj).1
  have h11:((row.cells.drop off).take cs.length)[j]? =some c.val:=by rw[h9,List.getElem?_map,hj];rfl
  rw[List.getElem?_take,if_pos hlt,List.getElem?_drop]at h11
  exact h11
 |pt o e l=>
  cases hc
  rw[ok]at hok
  obtain⟨row,h1,h2,h3,h4⟩:=hok
  refine⟨o,0,row,rfl,by rw[AT.fp];simp,h1,h2.1,fun j c hj=> ?_⟩
  rw[Nat.zero_add,h3,List.getElem?_map,hj];rfl
 |nil=>cases hc;exact absurd rfl hne
 |v=>cases hc
 |fn=>cases hc
 |fz=>cases hc
 |junk=>cases hc
theorem nm0{k:AT}{cs:List AT}(hc:k.kids=some cs):k.isV=false:=by
 cases k<;>first|rfl|cases hc
theorem a47{k:AT}{ts:List Tree}(h:k.era.kids=some ts): ∃cs,k.kids=some cs∧eraL cs=ts:=by
 rw[wb1]at h;exact Option.map_eq_some_iff.1 h
theorem wd1{r:Nat}{p:List Nat}{j:Nat}{w:Value}{k:AT}{o off:Nat}(hr:VR h A Z Zp (.cell r p j) w)(hk:aget A r p=some k)(hb:base k=some (o,off)):w= .pointer (some ⟨o,off+j,none⟩):=by
 rw[VR]at hr
 cases k with
 |sl o' off' n c nl e u l=>cases hb;exact hr.2 _ hk rfl
 |pt o' e l=>cases hb;exact hr.2 _ hk rfl
 |_=>cases hb
theorem ok8{b:Bool}{e:Nat}{cs:List Tree}{w:Value}(hr:Rd h (pick b Z Zp) (.pt e cs) w):VR h A Z Zp (.fzc b cs 0) w:=by
 rw[Rd]at hr
 obtain⟨o,row,h1,h2,h3,h4⟩:=hr
 rw[VR]
 refine⟨o,0,row,h1,h2,h3, ?_⟩
 rw[List.drop_zero,List.take_of_length_le (by rw[h4.len];exact Nat.le_refl _)]
 exact h4
theorem n52{k:AT}{t:Tree}(h:k.era= .fz t): ∃w,k= .fz w t:=by
 cases k<;>first|(cases h;done)|skip
 cases h;exact⟨_,rfl⟩
theorem pq5{k:AT}{e:Nat}{cs:List Tree}(h:k.era= .pt e cs): ∃o l,k= .pt o e l∧eraL l=cs:=by
 cases k<;>first|(cases h;done)|skip
 rw[AT.era]at h;cases h;exact⟨_,_,rfl,rfl⟩
theorem jg7{k:AT}{nl e u:Nat}{cs:List Tree}(h:k.era= .sl nl e u cs):(k= .nil nl e u∧cs=[])∨ ∃o off n c l,k= .sl o off n c nl e u l∧eraL l=cs:=by
 cases k<;>first|(cases h;done)|skip
 ·rw[AT.era]at h;cases h;exact .inr ⟨_,_,_,_,_,rfl,rfl⟩
 ·rw[AT.era]at h;cases h;exact .inl ⟨rfl,rfl⟩
theorem dm7(i:Inv h A Z Zp){a:AV}{pa:VP}{w:Value}(he:vptr (A.map AT.era) a=some pa)(hr:VR h A Z Zp a w):VR h A Z Zp pa.av w:=by
 cases a with
 |cell r p i=>cases he;exact hr
 |fzc b cs i=>cases he;exact hr
 |own r p=>
  simp only[vptr]at he
  rw[VR]at hr
  split at he
  ·rename_i h1
   cases he
   obtain⟨k,h2,h3⟩:=mc9 h1
   obtain⟨o,l,rfl,_⟩:=pq5 h3
   show VR h A Z Zp (.cell r p 0) w
   rw[VR]
   refine⟨hr.1,fun b hb hbv=> ?_⟩
   rw[h2]at hb;cases hb
   exact(hr.2 _ h2 rfl).symm
  ·rename_i h1
   cases he
   obtain⟨k,h2,h3⟩:=mc9 h1
   obtain⟨w',rfl⟩:=n52 h3
   have:=lw8 i h2
   rw[ok]at this
   have hw:w'=w:=hr.2 _ h2 rfl
   subst hw
   exact ok8 (b:=true) this
  ·cases he
 |fz b t=>
  cases t with
  |pt e cs=>
   cases he
   rw[VR]at hr
   exact ok8 hr
  |ex t=>
   cases t with
   |pt e cs=>
    cases he
    rw[VR,Rd]at hr
    exact ok8 hr.rd
   |_=>cases he
  |_=>cases he
 |_=>cases he
theorem hj6(i:Inv h A Z Zp){pa:VP}{a:AV}{w:Value}(he:vy4 (A.map AT.era) pa=some a)(hr:VR h A Z Zp pa.av w): ∃o off x,w= .pointer (some ⟨o,off,none⟩)∧h.ld1 o off=some x∧VR h A Z Zp a x:=by
 cases pa with
 |o r p j=>
  simp only[vy4]at he
  split at he
  ·rename_i s h1
   split at he
   ·rename_i ts h2
    split at he
    ·rename_i t h3
     obtain⟨k,h4,h5⟩:=mc9 h1
     subst h5
     obtain⟨cs,h6,h7⟩:=a47 h2
     subst h7
     obtain⟨c,h8,h9⟩:=xb8 h3
     subst h9
     obtain⟨o,off,row,b1,b2,b3,b4,b5⟩:=nm1 i h4 h6 (by intro e;subst e;simp at h8)
     have hw:=wd1 hr h4 b1
     have hld:h.ld1 o (off+j)=some c.val:=by rw[ng1 b3];exact b5 j c h8
     refine⟨o,off+j,c.val,hw,hld, ?_⟩
     have hsn:=kq1 h4 h6 h8
     cases c with
     |v x=>cases he;rw[VR];rfl
     |fn g=>cases he;rw[VR];exact⟨[],rfl, .nil⟩
     |junk=>cases he
     |fz w' t=>
      have:=lw8 i hsn
      rw[ok]at this
      exact g04 (b:=true) he this
     |sl o' off' n c nl e u l=>
      cases he
      rw[VR]
      exact⟨vs7 h4,fun b hb _=>by rw[hsn]at hb;cases hb;rfl⟩
     |nil nl e u=>
      cases he
      rw[VR]
      exact⟨vs7 h4,fun b hb _=>by rw[hsn]at hb;cases hb;rfl⟩
     |pt o' e l=>
      cases he
      rw[VR]
      exact⟨vs7 h4,fun b hb _=>by rw[hsn]at hb;cases hb;rfl⟩
    ·cases he
   ·cases he
  ·cases he
 |f b cs j=>
  simp only[vy4]at he
  split at he
  ·rename_i t h1
   have hr:VR h A Z Zp (.fzc b cs j) w:=hr
   rw[VR]at hr
   obtain⟨o,off,row,e1,e2,e3,e4⟩:=hr
   obtain⟨x,e5,e6⟩:=e4.at h1
   rw[List.getElem?_take]at e5
   split at e5
   ·rw[List.getElem?_drop]at e5
    exact⟨o,off+j,x,e1,by rw[ng1 e3];exact e5,g04 he e6⟩
   ·cases e5
  ·cases he
theorem kj4{pa:VP}{o off k:Nat}(hr:VR h A Z Zp pa.av (.pointer (some ⟨o,off,none⟩))):VR h A Z Zp (pa.off k).av (.pointer (some ⟨o,off+k,none⟩)):=by
 cases pa with
 |o r p j=>
  have hr:VR h A Z Zp (.cell r p j) _:=hr
  show VR h A Z Zp (.cell r p (j+k)) _
  rw[VR]at hr⊢
  refine⟨hr.1,fun b hb hv=> ?_⟩
  have:=hr.2 b hb hv
  split at this
  ·cases this;rw[Nat.add_assoc]
  ·cases this;rw[Nat.add_assoc]
  ·trivial
 |f b cs j=>
  have hr:VR h A Z Zp (.fzc b cs j) _:=hr
  show VR h A Z Zp (.fzc b cs (j+k)) _
  rw[VR]at hr⊢
  obtain⟨o',off',row,e1,e2⟩:=hr
  cases e1
  exact⟨o,off',row,by rw[Nat.add_assoc],e2⟩
theorem bj0{pa:VP}{w:Value}(i:Inv h A Z Zp)(hl:k12 (A.map AT.era) pa=true)(hr:VR h A Z Zp pa.av w): ∃o off,w= .pointer (some ⟨o,off,none⟩):=by
 cases pa with
 |o r p j=>
  simp only[k12]at hl
  split at hl
  ·rename_i h1
   obtain⟨k,h2,h3⟩:=mc9 h1
   obtain⟨o,l,rfl,_⟩:=pq5 h3
   exact⟨_,_,wd1 hr h2 rfl⟩
  ·rename_i h1
   obtain⟨k,h2,h3⟩:=mc9 h1
   rcases jg7 h3 with⟨rfl,rfl⟩|⟨o,off,n,c,l,rfl,_⟩
   ·simp at hl
   ·exact⟨_,_,wd1 hr h2 rfl⟩
  ·cases hl
 |f b cs j=>
  have hr:VR h A Z Zp (.fzc b cs j) w:=hr
  rw[VR]at hr
  obtain⟨o,off,row,e1,_⟩:=hr
  exact⟨_,_,e1⟩
theorem uy9{h:H}{o off n:Nat}{ws:List Value}{x:Value}(h1:n=0∧ws=[]∨h.lds o off n=some ws)(h2:h.ld1 o (off+n)=some x):h.lds o off (n+1)=some (ws++[x]):=by
 unfold H.ld1 at h2
 unfold H.lds at h1⊢
 cases hr:h.row o with
 |none=>rw[hr]at h2;cases h2
 |some r=>
  rw[hr]at h1 h2
  simp only[]at h1 h2⊢
  have hlt:=(List.getElem?_eq_some_iff.1 h2).1
  rw[if_pos (by omega)]
  have:(r.cells.drop off).take n=ws:=by
   rcases h1 with⟨rfl,rfl⟩|h1
   ·rfl
   ·rw[if_pos (by omega)]at h1;cases h1;rfl
  rw[List.take_add_one,this,List.getElem?_drop,h2];rfl
theorem es2(i:Inv h A Z Zp){pa:VP}{o off:Nat}(hr:VR h A Z Zp pa.av (.pointer (some ⟨o,off,none⟩))): ∀{n:Nat} {l:List AV},hq6 (A.map AT.era) pa n=some l→ ∃ws,(n=0∧ws=[]∨h.lds o off n=some ws)∧VRL h A Z Zp l ws
 |0,l,he=>by cases he;exact⟨[], .inl ⟨rfl,rfl⟩, .nil⟩
 |n+1,l,he=>by
  simp only[hq6]at he
  split at he
  ·rename_i l' x h1 h2
   cases he
   obtain⟨ws,h3,h4⟩:=es2 i hr h1
   obtain⟨o',off',y,e1,e2,e3⟩:=hj6 i h2 (kj4 hr)
   cases e1
   exact⟨ws++[y], .inr (uy9 h3 e2),h4.app (.cons e3 .nil)⟩
  ·cases he
theorem p03(i:Inv h A Z Zp){pa:VP}{w:Value}{n:Nat}{l:List AV}(hn:n≠0)(he:hq6 (A.map AT.era) pa n=some l)(hr:VR h A Z Zp pa.av w): ∃o off,w= .pointer (some ⟨o,off,none⟩):=by
 have h0: ∀(m:Nat) (l:List AV),hq6 (A.map AT.era) pa (m+1)=some l→ ∃x,vy4 (A.map AT.era) pa=some x:=by
  intro m
  induction m with
  |zero=>
   intro l he
   simp only[hq6]at he
   split at he
   ·rename_i x _ h2
    have:pa.off 0=pa:=by cases pa<;>rfl
    rw[this]at h2
    exact⟨_,h2⟩
   ·cases he
  |succ m ih=>
   intro l he
   rw[hq6]at he
   split at he
   ·rename_i h1 _;exact ih _ h1
   ·cases he
 obtain⟨m,rfl⟩: ∃m,n=m+1:=⟨n-1,by omega⟩
 obtain⟨x,hx⟩:=h0 m l he
 obtain⟨o,off,_,e,_⟩:=hj6 i hx hr
 exact⟨o,off,e⟩
def SR(h:H)(A:List AT)(Z Zp:Nat→Prop):VS→Value→Prop
 | .o r p nl e u cs lo n,w=> ∃k nl0,aget A r p=some k∧(nl=nl0∨nl=if nl0=0 then 0 else 2)∧(nl=1→lo=0∧n*u=cs.length)∧(lo+n)*u≤cs.length∧0<u∧((k= .nil nl0 e u∧cs=[]∧n=0∧lo=0∧nl0≠0∧w= .slice none 0 0)∨
    ∃o off n0 c0 l lo' c',k= .sl o off n0 c0 nl0 e u l∧eraL l=cs∧(nl0=1→cs≠[])∧w= .slice (some ⟨o,off+lo'*u,none⟩) n c'∧n≤c'∧lo'≤lo∧(0<n→lo'=lo))
 | .f b nl u cs,w=> ∃e,Rd h (pick b Z Zp) (.sl nl e u cs) w
 | .nil,w=>w= .slice none 0 0
theorem cd4(i:Inv h A Z Zp){a:AV}{S:VS}{w:Value}(he:vsl (A.map AT.era) a=some S)(hr:VR h A Z Zp a w):SR h A Z Zp S w:=by
 cases a with
 |own r p=>
  simp only[vsl]at he
  rw[VR]at hr
  split at he
  ·rename_i nl e u cs h1
   cases he
   obtain⟨k,h2,h3⟩:=mc9 h1
   have hok:=lw8 i h2
   rcases jg7 h3 with⟨rfl,rfl⟩|⟨o,off,n,c,l,rfl,rfl⟩
   ·rw[ok]at hok
    have hw:=hr.2 _ h2 rfl
    refine⟨_,nl,h2, .inl rfl,fun _=>⟨rfl,by simp⟩,by simp,hok.2, .inl ⟨rfl,rfl,by simp,rfl,hok.1,hw.symm⟩⟩
    all_goals simp
   ·rw[ok]at hok
    obtain⟨row,h4,h5,h6,h7,h8,h9,h10,h11,h12,h13⟩:=hok
    have hw:=hr.2 _ h2 rfl
    have hn:(eraL l).length/u=n:=by rw[i47,←h9,Nat.mul_div_cancel _ h8]
    rw[hn]
    refine⟨_,nl,h2, .inl rfl,fun _=>⟨rfl,by rw[i47];exact h9⟩,by rw[i47,Nat.zero_add,h9];exact Nat.le_refl _,h8, .inr ⟨o,off,n,c,l,0,c,rfl,rfl,fun e1 e2=>h11.1 e1 ?_,by rw[Nat.zero_mul,Nat.add_zero];exact hw.symm,h10,Nat.le_refl _,fun _=>rfl⟩⟩
    have:=congrArg List.length e2
    rw[i47]at this
    exact List.eq_nil_of_length_eq_zero this
  ·rename_i nl e u cs h1
   cases he
   obtain⟨k,h2,h3⟩:=mc9 h1
   obtain⟨w',rfl⟩:=n52 h3
   have:=lw8 i h2
   rw[ok]at this
   have hw:w'=w:=hr.2 _ h2 rfl
   subst hw
   exact⟨e,this⟩
  ·cases he
 |sub r p u0 lo n=>
  simp only[vsl]at he
  rw[VR]at hr
  split at he
  ·rename_i nl e u cs h1
   split at he
   ·rename_i hc
    obtain⟨hc,rfl⟩:=hc
    cases he
    obtain⟨k,h2,h3⟩:=mc9 h1
    have hok:=lw8 i h2
    have hnl1: ¬(if nl=0 then 0 else 2)=1:=by split<;>omega
    rcases jg7 h3 with⟨rfl,rfl⟩|⟨o,off,n',c,l,rfl,rfl⟩
    ·rw[ok]at hok
     obtain⟨e1,e2⟩:n=0∧w= .slice none 0 0:=hr.2 _ h2 rfl
     subst e1;subst e2
     have hlo:lo=0:=by
      have h0:=hok.2
      have h1:lo*u=0:=by simpa using hc
      rcases Nat.mul_eq_zero.1 h1 with h1|h1
      ·exact h1
      ·omega
     subst hlo
     exact⟨_,nl,h2, .inr rfl,fun e=>absurd e hnl1,by simp,hok.2, .inl ⟨rfl,rfl,rfl,rfl,hok.1,rfl⟩⟩
    ·rw[ok]at hok
     obtain⟨row,h4,h5,h6,h7,h8,h9,h10,h11,h12,h13⟩:=hok
     obtain⟨lo',c',e1,e2,e3,e4⟩:=hr.2 _ h2 rfl
     refine⟨_,nl,h2, .inr rfl,fun e=>absurd e hnl1,hc,h8, .inr ⟨o,off,n',c,l,lo',c',rfl,rfl,fun e1 e2=>h11.1 e1 ?_,e1,e2,e3,e4⟩⟩
     have:=congrArg List.length e2
     rw[i47]at this
     exact List.eq_nil_of_length_eq_zero this
   ·cases he
  ·cases he
 |fz b t=>
  cases t with
  |sl nl e u cs=>cases he;rw[VR]at hr;exact⟨e,hr⟩
  |ex t=>
   cases t with
   |sl nl e u cs=>cases he;rw[VR,Rd]at hr;exact⟨e,hr.rd⟩
   |_=>cases he
  |_=>cases he
 |x v=>
  simp only[vsl]at he
  split at he
  ·rename_i e;cases e
  ·rename_i e;cases e
  ·rename_i e;cases e
  ·rename_i e;cases e
  ·rename_i e;cases e;cases he;rw[VR]at hr;exact hr
  ·cases he
 |_=>cases he
end
end Go.Vm
namespace Go.Vm
open Go.Am
section
variable {h:H} {A:List AT} {Z Zp:Nat→Prop} {fr:VFr} {f:Fr}
theorem dz5(i:Inv h A Z Zp)(hf:FRV h A Z Zp fr f){op:AOp}(hnb: ∀agg n x,op≠ .ldb agg n x){a:AV}(he:lu1 fr (A.map AT.era) op=some a): ∃v,aop f h op=some (some v,h)∧VR h A Z Zp a v:=by
 cases op with
 |mv x=>
  simp only[lu1]at he
  obtain⟨w,h2,h3⟩:=cj0 hf he
  exact⟨w,by simp only[aop,h2],h3⟩
 |ld agg n x=>
  simp only[lu1]at he
  split at he
  ·rename_i b h1
   obtain⟨w,h2,h3⟩:=cj0 hf h1
   split at he
   ·rename_i pa h4
    have h5:=dm7 i h4 h3
    cases agg with
    |true=>
     simp only[]at he
     split at he
     ·cases he
     ·rename_i hn
      split at he
      ·rename_i l h6
       cases he
       obtain⟨o,off,rfl⟩:=p03 i hn h6 h5
       obtain⟨ws,h7,h8⟩:=es2 i h5 h6
       rcases h7 with⟨h7,_⟩|h7
       ·exact absurd h7 hn
       ·exact⟨.agg ws.toArray,by simp only[aop,h2];rw[if_neg (by simp)];simp only[h7],by rw[VR];exact⟨ws,rfl,h8⟩⟩
      ·cases he
    |false=>
     obtain⟨o,off,x,rfl,h6,h7⟩:=hj6 i he h5
     exact⟨x,by simp only[aop,h2];rw[if_neg (by simp)];simp only[h6],h7⟩
   ·cases he
  ·cases he
 |nilck x=>
  simp only[lu1]at he
  split at he
  ·rename_i b h1
   obtain⟨w,h2,h3⟩:=cj0 hf h1
   split at he
   ·rename_i pa h4
    split at he
    ·rename_i hl
     cases he
     obtain⟨o,off,rfl⟩:=bj0 i hl (dm7 i h4 h3)
     exact⟨_,by simp only[aop,h2],h3⟩
    ·cases he
   ·cases he
  ·cases he
 |faddr k x=>
  simp only[lu1]at he
  split at he
  ·rename_i b h1
   obtain⟨w,h2,h3⟩:=cj0 hf h1
   split at he
   ·rename_i pa h4
    split at he
    ·rename_i hl
     cases he
     have h5:=dm7 i h4 h3
     obtain⟨o,off,rfl⟩:=bj0 i hl h5
     exact⟨_,by simp only[aop,h2];rw[if_neg (by simp)],kj4 h5⟩
    ·cases he
   ·cases he
  ·cases he
 |fld agg off n x=>
  simp only[lu1]at he
  split at he
  ·rename_i cs h1
   obtain⟨w,h2,h3⟩:=cj0 hf h1
   rw[VR]at h3
   obtain⟨ws,rfl,h4⟩:=h3
   cases agg with
   |true=>
    cases he
    refine⟨.agg ((ws.drop off).take n).toArray, ?_,by rw[VR];exact⟨_,rfl,h4.sub off n⟩⟩
    simp only[aop,h2]
    congr 3
    simp[List.extract_eq_take_drop]
   |false=>
    simp only[]at he
    split at he
    ·rename_i b h5
     cases he
     obtain⟨v,h6,h7⟩:=h4.at h5
     exact⟨v,by simp only[aop,h2];rw[y64,h6],h7⟩
    ·cases he
  ·cases he
 |iaddr size x y=>
  simp only[lu1]at he
  split at he
  ·rename_i b k j h1 h1'
   obtain⟨w,h2,h3⟩:=cj0 hf h1
   have hj:=hv3 hf h1'
   split at he
   ·rename_i r p nl e u cs lo n h4
    split at he
    ·rename_i hc
     obtain⟨c1,c2,c3⟩:=hc
     cases he
     obtain⟨kk,nl0,q1,q2,q3,q4,q5,q6⟩:=cd4 i h4 h3
     rcases q6 with⟨_,_,e0,_⟩|⟨o,off,n0,c0,l,lo',c',rfl,rfl,q7,rfl,q8,q9',q9⟩
     ·omega
     ·have q10:=q9 (by omega)
      refine⟨_,by simp only[aop,h2,hj];rw[if_pos (by omega),if_neg (by simp)], ?_⟩
      rw[VR]
      refine⟨vs7 q1,fun b hb _=> ?_⟩
      rw[q1]at hb;cases hb
      show _=_
      rw[q10,c3,Nat.add_mul,Nat.add_assoc]
    ·cases he
   ·rename_i b' nl u cs h4
    split at he
    ·rename_i hc
     obtain⟨c1,c2,c3⟩:=hc
     cases he
     obtain⟨e,q⟩:=cd4 i h4 h3
     rw[Rd]at q
     rcases q with⟨rfl,_⟩|⟨o,off,n,c,row,rfl,q2,q3,q4,q5,q6,q7,q8,q9⟩
     ·simp at c2
     ·have:j.toNat<n:=by
       rw[←q6]at c2
       exact Nat.lt_of_mul_lt_mul_right c2
      refine⟨_,by simp only[aop,h2,hj];rw[if_pos (by omega),if_neg (by simp)], ?_⟩
      rw[VR]
      exact⟨o,off,row,by rw[c3],q2,q3,q9⟩
    ·cases he
   ·cases he
  ·cases he
 |iaddrA len size x y=>
  simp only[lu1]at he
  split at he
  ·rename_i b k j h1 h1'
   obtain⟨w,h2,h3⟩:=cj0 hf h1
   have hj:=hv3 hf h1'
   split at he
   ·rename_i pa h4
    split at he
    ·rename_i hc
     cases he
     have h5:=dm7 i h4 h3
     obtain⟨o,off,rfl⟩:=bj0 i hc.2.2 h5
     exact⟨_,by simp only[aop,h2,hj];rw[if_pos ⟨hc.1,hc.2.1⟩,if_neg (by simp)],kj4 h5⟩
    ·cases he
   ·cases he
  ·cases he
 |idxA len size agg x y=>
  simp only[lu1]at he
  split at he
  ·rename_i cs k j h1 h1'
   obtain⟨w,h2,h3⟩:=cj0 hf h1
   have hj:=hv3 hf h1'
   rw[VR]at h3
   obtain⟨ws,rfl,h4⟩:=h3
   split at he
   ·rename_i hc
    cases agg with
    |true=>
     cases he
     refine⟨.agg ((ws.drop (j.toNat*size)).take size).toArray, ?_,by rw[VR];exact⟨_,rfl,h4.sub _ _⟩⟩
     simp only[aop,h2,hj]
     rw[if_pos hc]
     congr 3
     simp[List.extract_eq_take_drop]
    |false=>
     simp only[]at he
     split at he
     ·rename_i b h5
      cases he
      obtain⟨v,h6,h7⟩:=h4.at h5
      exact⟨v,by simp only[aop,h2,hj];rw[if_pos hc,y64,h6],h7⟩
     ·cases he
   ·cases he
  ·cases he
 |ext k x=>
  simp only[lu1]at he
  split at he
  ·rename_i cs h1
   obtain⟨w,h2,h3⟩:=cj0 hf h1
   rw[VR]at h3
   obtain⟨ws,rfl,h4⟩:=h3
   split at he
   ·rename_i b h5
    cases he
    obtain⟨v,h6,h7⟩:=h4.at h5
    exact⟨v,by simp only[aop,h2];rw[y64,h6],h7⟩
   ·cases he
  ·cases he
 |ldb agg n x=>exact absurd rfl (hnb _ _ _)
 |_=>cases he
theorem rp0{R:Rts}{a:AV}{pa:VP}(h:vbx R a=some pa):vptr R a=some pa:=by
 unfold vbx at h
 split at h
 ·split at h
  ·rename_i h1
   simp only[vptr,h1];exact h
  ·cases h
 ·split at h
  ·exact h
  ·cases h
 ·cases h
theorem sc0{R:Rts}{agg:Bool}{n:Nat}{x:Operand}{a:AV}(he:lu1 fr R (.ldb agg n x)=some a):lu1 fr R (.ld agg n x)=some a∧ ∃b pa,vev fr x=some b∧vbx R b=some pa:=by
 simp only[lu1]at he⊢
 split at he
 ·rename_i b h1
  split at he
  ·rename_i pa h2
   rw[rp0 h2]
   exact⟨he,b,pa,h1,h2⟩
  ·cases he
 ·cases he
theorem pc3(i:Inv h A Z Zp){a:AV}{pa:VP}{w:Value}(he:vbx (A.map AT.era) a=some pa)(hr:VR h A Z Zp a w): ∃o off r,w= .pointer (some ⟨o,off,none⟩)∧h.row o=some r∧r.unit=0:=by
 unfold vbx at he
 split at he
 ·split at he
  ·rename_i r p e cs h1
   obtain⟨k,h2,h3⟩:=mc9 h1
   obtain⟨o,l,rfl,_⟩:=pq5 h3
   have:=lw8 i h2
   rw[ok]at this
   obtain⟨r,k1,k2,_⟩:=this
   rw[VR]at hr
   exact⟨o,0,r,(hr.2 _ h2 rfl).symm,k1,k2.2⟩
  ·cases he
 ·split at he
  ·rename_i r p j _ e cs h1
   obtain⟨k,h2,h3⟩:=mc9 h1
   obtain⟨o,l,rfl,_⟩:=pq5 h3
   have:=lw8 i h2
   rw[ok]at this
   obtain⟨r,k1,k2,_⟩:=this
   exact⟨o,0+j,r,wd1 hr h2 rfl,k1,k2.2⟩
  ·cases he
 ·cases he
theorem look_ok(i:Inv h A Z Zp)(hf:FRV h A Z Zp fr f){op:AOp}{a:AV}(he:lu1 fr (A.map AT.era) op=some a): ∃v,aop f h op=some (some v,h)∧VR h A Z Zp a v:=by
 cases hop:op with
 |ldb agg n x=>
  rw[hop]at he
  obtain⟨h1,b,pa,h2,h3⟩:=sc0 he
  obtain⟨v,k1,k2⟩:=dz5 i hf (fun _ _ _ h=>by cases h) h1
  obtain⟨w,k3,k4⟩:=cj0 hf h2
  obtain⟨o,off,r,rfl,k5,k6⟩:=pc3 i h3 k4
  refine⟨v, ?_,k2⟩
  rw[fd7,if_pos (by unfold bx boxed;simp only[k3,k5,k6];rfl)]
  exact k1
 |_=>rw[←hop];exact dz5 i hf (fun _ _ _ h=>by rw[hop]at h;cases h) he
theorem cz0{h h':H}(hp:h<+:h'){op:AOp}(hnb: ∀agg n x,op≠ .ldb agg n x){a:AV}{R:Rts}(hl:lu1 fr R op=some a){v:Value}(he:aop f h op=some (some v,h)):aop f h' op=some (some v,h'):=by
 have hrow: ∀{o:Nat} {r:Row},h.row o=some r→h'.row o=some r:=fun{o r} hr=>by rw[m20 hp (h44 hr)];exact hr
 cases op with
 |mv x=>
  simp only[aop]at he⊢
  split at he
  ·cases he;rfl
  ·cases he
 |ld agg n x=>
  simp only[aop]at he⊢
  split at he
  ·split at he
   ·cases he
   ·rw[if_neg ‹_›]
    split at he
    ·unfold H.lds at he⊢
     split at he
     ·rename_i h2
      split at h2
      ·rename_i r hr
       rw[hrow hr]
       simp only[h2]
       cases he;rfl
      ·cases h2
     ·cases he
    ·unfold H.ld1 at he⊢
     split at he
     ·rename_i h2
      split at h2
      ·rename_i r hr
       rw[hrow hr]
       simp only[h2]
       cases he;rfl
      ·cases h2
     ·cases he
  ·cases he
 |nilck x=>
  simp only[aop]at he⊢
  split at he
  ·cases he;rfl
  ·cases he
 |faddr k x=>
  simp only[aop]at he⊢
  split at he
  ·split at he
   ·cases he
   ·rw[if_neg ‹_›];cases he;rfl
  ·cases he
 |fld agg off n x=>
  simp only[aop]at he⊢
  split at he
  ·split at he
   ·cases he;rfl
   ·split at he
    ·cases he;rfl
    ·cases he
  ·cases he
 |iaddr size x y=>
  simp only[aop]at he⊢
  split at he
  ·split at he
   ·rw[if_pos ‹_›]
    split at he
    ·cases he
    ·rw[if_neg ‹_›];cases he;rfl
   ·cases he
  ·cases he
 |iaddrA len size x y=>
  simp only[aop]at he⊢
  split at he
  ·split at he
   ·rw[if_pos ‹_›]
    split at he
    ·cases he
    ·rw[if_neg ‹_›];cases he;rfl
   ·cases he
  ·cases he
 |idxA len size agg x y=>
  simp only[aop]at he⊢
  split at he
  ·split at he
   ·rw[if_pos ‹_›]
    split at he
    ·cases he;rfl
    ·split at he
     ·cases he;rfl
     ·cases he
   ·cases he
  ·cases he
 |ext k x=>
  simp only[aop]at he⊢
  split at he
  ·split at he
   ·cases he;rfl
   ·cases he
  ·cases he
 |ldb agg n x=>exact absurd rfl (hnb _ _ _)
 |_=>cases hl
theorem z44{h h':H}(hp:h<+:h'){op:AOp}{a:AV}{R:Rts}(hl:lu1 fr R op=some a){v:Value}(he:aop f h op=some (some v,h)):aop f h' op=some (some v,h'):=by
 cases hop:op with
 |ldb agg n x=>
  rw[hop]at hl he
  obtain⟨h1,h2⟩:=zx2 he
  rw[fd7,if_pos (vd3 hp h1)]
  exact cz0 hp (fun _ _ _ h=>by cases h) (sc0 hl).1 h2
 |_=>rw[←hop];exact cz0 hp (fun _ _ _ h=>by rw[hop]at h;cases h) hl he
end
end Go.Vm
namespace Go.Vm
open Go.Am
theorem sx1{A C:List AT}{r:Nat}(p:List Nat)(s:AT)(hr:r<A.length):aset (A++C) r p s=aset A r p s++C:=by
 unfold aset
 rw[List.getElem?_append_left hr,List.getElem?_eq_getElem hr]
 simp only[]
 rw[List.set_append_left _ _ hr]
theorem op8(w:Value):(AT.junk w).fp=[]:=by rw[AT.fp]<;>simp
theorem v_fp(w:Value):(AT.v w).fp=[]:=by rw[AT.fp]<;>simp
theorem zq0(w:Value)(t:Tree):(AT.fz w t).fp=[]:=by rw[AT.fp]<;>simp
theorem g56(f:FuncId):(AT.fn f).fp=[]:=by rw[AT.fp]<;>simp
theorem uu7(nl e u:Nat):(AT.nil nl e u).fp=[]:=by rw[AT.fp]<;>simp
theorem zr4(a:AT):fpL [a]=a.fp:=by rw[fpL,fpL,List.append_nil]
theorem vd4{h:H}{Z:Nat→Prop}{a:AT}:okL h Z [a]↔ok h Z a:=by rw[okL,okL];simp
theorem l60{k:AT}(h:isNode k.era=true):k.isV=false:=by cases k<;>first|rfl|(simp[AT.era,isNode]at h)
section
variable {h:H} {A C:List AT} {Z Zp:Nat→Prop}
theorem gs6{Z':Nat→Prop}{t:Tree}{w:Value}(hn:isNode t=true)(hr:Rd h Z' t w):one w=true:=by
 cases t with
 |sl nl e u cs=>
  rw[Rd]at hr
  rcases hr with⟨_,_,_,rfl⟩|⟨o,off,n,c,r,rfl,_⟩<;>rfl
 |pt e cs=>
  rw[Rd]at hr
  obtain⟨o,r,rfl,_⟩:=hr
  rfl
 |ex t=>
  rw[Rd]at hr
  cases t with
  |sl nl e u cs=>
   rw[Ex]at hr
   obtain⟨o,n,r,rfl,_⟩:=hr
   rfl
  |pt e cs=>
   rw[Ex]at hr
   obtain⟨o,r,rfl,_⟩:=hr
   rfl
  |_=>cases hn
 |_=>cases hn
def nk6:AT→AT
 | .sl o off n c _ e u cs=> .sl o off n c 2 e u cs
 | .nil _ e u=> .nil 2 e u
 |t=>t
theorem gr2(k:AT):(nk6 k).era=dull k.era:=by cases k<;>rfl
theorem wd8(k:AT):(nk6 k).val=k.val:=by cases k<;>rfl
theorem qm8(k:AT):(nk6 k).fp=k.fp:=by cases k<;>first|rfl|(simp only[nk6,AT.fp])
theorem ub9{Z':Nat→Prop}{k:AT}(h1:ok h Z' k):ok h Z' (nk6 k):=by
 cases k with
 |sl o off n c nl e u cs=>
  rw[ok]at h1
  rw[nk6,ok]
  obtain⟨r,k1,k2,k3,k4,k5,k6,k7,k8,k9⟩:=h1
  exact⟨r,k1,k2,k3,k4,k5,k6,k7,⟨fun h=>(by cases h),k8.2⟩,k9⟩
 |nil nl e u=>
  rw[ok]at h1
  rw[nk6,ok]
  exact⟨by decide,h1.2⟩
 |_=>exact h1
theorem gi1{k:AT}(hn:isNode k.era=true):one k.val=true:=by cases k<;>first|rfl|(simp[AT.era,isNode]at hn)
theorem ho6{h:H}{Z:Nat→Prop}{k:AT}(hp: ¬plain k.era=true)(ho:ok h Z k):one k.val=true:=by cases k<;>first|rfl|(rw[ok]at ho;exact ho)|(simp[AT.era,plain]at hp)
theorem w93(i:Inv h (A++C) Z Zp){sh:Bool}{a:AV}{w:Value}{t:Tree}{R1:Rts}(he:vput sh (A.map AT.era) a=some (t,R1))(hr:VR h A Z Zp a w):
 ∃A1 c Z1 Zp1,R1=A1.map AT.era∧c.era=t∧c.val=w∧one w=true∧Inv h (A1++(C++[c])) Z1 Zp1∧Ext h (A++C) Zp h (A1++(C++[c])) Zp1∧Stab A A1 []∧(∀o,Z o→Z1 o)∧A1.length=A.length:=by
 --a new cell that owns nothing
 have lite: ∀(c:AT) (Zx:Nat→Prop),c.fp=[]→ok h (fun o=>Zp o∨False) c→ ∃Z1 Zp1,Inv h (A++(C++[c])) Z1 Zp1∧Ext h (A++C) Zp h (A++(C++[c])) Zp1∧(∀o,Z o→Z1 o):=fun c Zx hc hk=>by
  obtain⟨i1,e1⟩:=Inv.new (h':=h) (A:=A++C) (C:=[]) (N:=[c]) (Zx:=fun _=>False) (by rw[List.append_nil];exact i) (Nat.le_refl _) (fun _ _=>rfl) (vd4.2 hk) (fun x _=>by rw[zr4,hc];simp) (fun x _=>by rw[zr4,hc];simp) (fun o ho=>by rw[zr4,hc]at ho;cases ho) (fun o ho=>ho.elim)
  rw[List.append_nil]at e1
  rw[List.append_assoc]at i1 e1
  exact⟨_,_,i1,e1,fun o ho=> .inl ho⟩
 have hA:Inv h (A++C) Z Zp→ ∀{r p k},aget A r p=some k→ok h Zp k:=fun i r p k hk=>lw8 i (by rw[gr7 p (vs7 hk)];exact hk)
 cases a with
 |x v=>
  simp only[vput]at he
  split at he
  ·cases he
   rw[VR]at hr
   subst hr
   obtain⟨Z1,Zp1,i1,e1,e2⟩:=lite (.v w) (fun _=>False) (v_fp _) (by rw[ok];trivial)
   exact⟨A, .v w,Z1,Zp1,rfl,rfl,rfl, ‹_›,i1,e1,Stab.refl _ _,e2,rfl⟩
  ·cases he
 |fz b t'=>
  cases b with
  |false=>cases he
  |true=>
   simp only[vput]at he
   split at he
   ·rename_i hn
    cases he
    rw[VR]at hr
    obtain⟨Z1,Zp1,i1,e1,e2⟩:=lite (.fz w t') (fun _=>False) (zq0 _ _) (by rw[ok];exact Rd.mono (fun o ho=> .inl ho) (fun _ _=>rfl) hr)
    exact⟨A, .fz w t',Z1,Zp1,rfl,rfl,rfl,gs6 hn hr,i1,e1,Stab.refl _ _,e2,rfl⟩
   ·cases he
 |own r p=>
  simp only[vput]at he
  rw[VR]at hr
  split at he
  ·rename_i t' h1
   split at he
   ·rename_i hn
    cases he
    obtain⟨k,h2,h3⟩:=mc9 h1
    obtain⟨w',rfl⟩:=n52 h3
    have hk:=hA i h2
    rw[ok]at hk
    have hw:w'=w:=hr.2 _ h2 rfl
    subst hw
    obtain⟨Z1,Zp1,i1,e1,e2⟩:=lite (.fz w' t') (fun _=>False) (zq0 _ _) (by rw[ok];exact Rd.mono (fun o ho=> .inl ho) (fun _ _=>rfl) hk)
    exact⟨A, .fz w' t',Z1,Zp1,rfl,rfl,rfl,gs6 hn hk,i1,e1,Stab.refl _ _,e2,rfl⟩
   ·cases he
  ·rename_i h1
   cases he
   obtain⟨k,h2,h3⟩:=mc9 h1
   have hk:=hA i h2
   have hj: ∃w',k= .junk w':=by cases k<;>first|exact⟨_,rfl⟩|cases h3
   obtain⟨w',rfl⟩:=hj
   rw[ok]at hk
   have hw:w'=w:=hr.2 _ h2 rfl
   subst hw
   obtain⟨Z1,Zp1,i1,e1,e2⟩:=lite (.junk w') (fun _=>False) (op8 _) (by rw[ok];exact hk)
   exact⟨A, .junk w',Z1,Zp1,rfl,rfl,rfl,hk,i1,e1,Stab.refl _ _,e2,rfl⟩
  ·rename_i s hne hne2 h1
   split at he
   ·rename_i hn
    obtain⟨k,h2,rfl⟩:=mc9 h1
    have hlt:=vs7 h2
    have hkv:=l60 hn
    have hok:=hA i h2
    have hw:k.val=w:=hr.2 _ h2 hkv
    subst hw
    have hone:one k.val=true:=by cases k<;>first|rfl|(simp[AT.era,isNode]at hn)
    have hkm: ∀o,o∈k.fp→o<h.length:=fun o ho=>i.lt o (by rw[xv9];refine List.mem_append_left _ (ea8.2 ?_);have:=ea8.1 ho;have:=bm6 o h2;omega)
    have hnk: ∀x,h.length≤x→k.fp.count x=0:=fun x hx=>List.count_eq_zero.2 fun hm=>by have:=hkm x hm;omega
    have h2':aget (A++C) r p=some k:=by rw[gr7 p hlt];exact h2
    split at he
    ·cases he
     obtain⟨i1,e1⟩:=Inv.upd (h':=h) (A:=A++C) (C:=[]) (N:=[.fz k.val (strip k.era)]) (s:= .fz k.val (strip k.era)) (Zx:=fun o=>o∈k.fp) (by rw[List.append_nil];exact i) h2' (Nat.le_refl _) (fun _ _ _=>rfl) rfl
      (by rw[ok];exact ok.rd (fun o ho=> .inl ho) hok fun o ho=> .inr ho) (vd4.2 (by rw[ok];exact ok.rd (fun o ho=> .inl ho) hok fun o ho=> .inr ho)) (fun x _=>by rw[zr4,zq0];simp) (fun x _=>by rw[zr4,zq0];simp) (fun o ho=>by rw[zr4,zq0]at ho;simp at ho)
      (fun o ho=>⟨.inl ho,hkm o ho,by rw[zq0];simp,by rw[zr4,zq0];simp⟩)
     rw[List.append_nil]at e1
     rw[sx1 p _ hlt,List.append_assoc]at i1 e1
     exact⟨aset A r p (.fz k.val (strip k.era)), .fz k.val (strip k.era),_,_,(ao8 A r p (.fz k.val (strip k.era))),rfl,rfl,hone,i1,e1,Stab.upd (s:= .fz k.val (strip k.era)) h2 rfl hkv rfl (.inl (Sub.leaf rfl rfl hkv)),fun o ho=> .inl ho,hl4 _ _ _ _⟩
    ·cases he
     obtain⟨i1,e1⟩:=Inv.upd (h':=h) (A:=A++C) (C:=[]) (N:=[nk6 k]) (s:= .junk k.val) (Zx:=fun o=>False) (by rw[List.append_nil];exact i) h2' (Nat.le_refl _) (fun _ _ _=>rfl) rfl
      (by rw[ok];exact hone) (vd4.2 (ok.keep (fun o ho=> .inl ho) (fun _ _=>rfl) (ub9 hok) fun _ _=>rfl)) (fun x _=>by rw[zr4,op8,qm8];simp) (fun x hx=>by rw[zr4,op8,qm8,hnk x hx];simp) (fun o ho=>by rw[zr4,op8,qm8]at ho;simp at ho;exact hkm o ho)
      (fun o ho=>ho.elim)
     rw[List.append_nil]at e1
     rw[sx1 p _ hlt,List.append_assoc]at i1 e1
     exact⟨aset A r p (.junk k.val),nk6 k,_,_,(ao8 A r p (.junk k.val)),gr2 k,wd8 k,hone,i1,e1,Stab.upd (s:= .junk k.val) h2 rfl hkv rfl (.inl (Sub.leaf rfl rfl hkv)),fun o ho=> .inl ho,hl4 _ _ _ _⟩
   ·cases he
  ·cases he
 |fn g l=>
  cases l with
  |nil=>
   cases he
   rw[VR]at hr
   obtain⟨ws,rfl,h2⟩:=hr
   rw[VRL]at h2
   subst h2
   obtain⟨Z1,Zp1,i1,e1,e2⟩:=lite (.fn g) (fun _=>False) (g56 _) (by rw[ok];trivial)
   exact⟨A, .fn g,Z1,Zp1,rfl,rfl,rfl,rfl,i1,e1,Stab.refl _ _,e2,rfl⟩
  |cons=>cases he
 |_=>cases he
theorem p91{sh:Bool}: ∀{l:List AV} {A C:List AT} {Z Zp:Nat→Prop} {ws:List Value} {ts:List Tree} {R1:Rts} (i:Inv h (A++C) Z Zp) (he:az9 sh (A.map AT.era) l=some (ts,R1)) (hr:VRL h A Z Zp l ws),
 ∃A1 D Z1 Zp1,R1=A1.map AT.era∧eraL D=ts∧D.map AT.val=ws∧(∀w∈ws,one w=true)∧Inv h (A1++(C++D)) Z1 Zp1∧Ext h (A++C) Zp h (A1++(C++D)) Zp1∧Stab A A1 []∧(∀o,Z o→Z1 o)∧A1.length=A.length
 | [],A,C,Z,Zp,ws,ts,R1,i,he,hr=>by
   cases he
   rw[VRL]at hr;subst hr
   exact⟨A,[],Z,Zp,rfl,rfl,rfl,fun w hw=>(by cases hw),by rw[List.append_nil];exact i,by rw[List.append_nil];exact Ext.refl _ _ _,Stab.refl _ _,fun _ ho=>ho,rfl⟩
 |a::l,A,C,Z,Zp,ws,ts,R1,i,he,hr=>by
  simp only[az9]at he
  split at he
  ·rename_i t R2 h1
   split at he
   ·rename_i ts' R3 h2
    cases he
    rw[VRL]at hr
    obtain⟨w,ws',rfl,h3,h4⟩:=hr
    obtain⟨A1,c,Z1,Zp1,rfl,b2,b3,b4,i1,e1,s1,z1,l1⟩:=w93 i h1 h3
    have hsame:Same h h Z:=fun _ _=>rfl
    have h4':VRL h A1 Z1 Zp1 l ws':=VRL.move z1 e1.zp hsame (fun _ _=>rfl) s1 h4 rfl
    obtain⟨A2,D,Z2,Zp2,rfl,c2,c3,c4,i2,e2,s2,z2,l2⟩:=p91 (C:=C++[c]) i1 h2 h4'
    rw[List.append_assoc C [c] D]at i2 e2
    refine⟨A2,c::D,Z2,Zp2,rfl,by rw[eraL,b2,c2],by rw[List.map_cons,b3,c3],fun x hx=> ?_,i2,e1.trans e2,s1.trans s2,fun o ho=>z2 o (z1 o ho),by omega⟩
    rcases List.mem_cons.1 hx with rfl|hx
    ·exact b4
    ·exact c4 x hx
   ·cases he
  ·cases he
theorem nn8{w:Value}(h:one w=true):w.cells= #[w]∧flat w=true:=by
 cases w<;>first|exact⟨rfl,rfl⟩|cases h
theorem vr1{sh:Bool}{R R1:Rts}{ts:List Tree}{a:AV}{w:Value}(he:az9 sh R (cellsOf a)=some (ts,R1))(hr:VR h A Z Zp a w): ∃ws,VRL h A Z Zp (cellsOf a) ws∧((∀x∈ws,one x=true)→w.cells.toList=ws∧flat w=true):=by
 cases a with
 |agg l=>
  rw[VR]at hr
  obtain⟨ws,rfl,h1⟩:=hr
  exact⟨ws,h1,fun _=>⟨rfl,rfl⟩⟩
 |_=>
  refine⟨[w], .cons hr .nil,fun h1=> ?_⟩
  obtain⟨e1,e2⟩:=nn8 (h1 w (by simp))
  exact⟨by rw[e1],e2⟩
end
end Go.Vm
namespace Go.Vm
open Go.Am
structure Step (h:H) (A:List AT) (Z Zp:Nat→Prop) (r:Option AV×Rts×Option (List Nat)) (w:Option Value) (h':H) (A':List AT) (Z' Zp':Nat→Prop):Prop where
 R:r.2.1=A'.map AT.era
 inv:Inv h' A' Z' Zp'
 ext:Ext h A Zp h' A' Zp'
 st:Stab A A' (r.2.2.getD [])
 z: ∀o,Z o→Z' o
 v:match r.1,w with
  |some a,some w=>VR h' A' Z' Zp' a w
  |none,none=>True
  |_,_=>False
 clean:r.2.2=none→h<+:h'∧ ∃N,A'=A++N
section
variable {h:H} {A:List AT} {Z Zp:Nat→Prop} {fr:VFr} {f:Fr}
theorem Step.same(i:Inv h A Z Zp){a:AV}{w:Value}(hr:VR h A Z Zp a w):Step h A Z Zp (some a,A.map AT.era,none) (some w) h A Z Zp:=
 ⟨rfl,i,Ext.refl _ _ _,Stab.refl _ _,fun _ h=>h,hr,fun _=>⟨List.prefix_refl _,[],by simp⟩⟩
theorem zg5{ct:CT}{h:H}{Z:Nat→Prop}{e:Nat}: ∀(zs:List Value) (i:Nat),∃l:List AT,eraL l=r48 ct e i zs∧l.map AT.val=zs∧fpL l=[]∧okL h Z l
 | [],i=>⟨[],rfl,rfl,rfl,by rw[okL];trivial⟩
 |z::zs,i=>by
  obtain⟨l,h1,h2,h3,h4⟩:=zg5 (ct:=ct) (h:=h) (Z:=Z) (e:=e) zs (i+1)
  obtain⟨c,c1,c2,c3,c4⟩: ∃c:AT,c.era=ia9 (ct e i) z∧c.val=z∧c.fp=[]∧ok h Z c:=by
   unfold ia9
   split
   ·split
    ·exact⟨.v _,rfl,rfl,v_fp _,by rw[ok];trivial⟩
    ·exact⟨.nil 2 _ _,rfl,rfl,uu7 _ _ _,by rw[ok];exact⟨by decide,by omega⟩⟩
   ·exact⟨.v _,rfl,rfl,v_fp _,by rw[ok];trivial⟩
  refine⟨c::l,by rw[eraL,r48,c1,h1],by rw[List.map_cons,c2,h2],by rw[fpL,c3,h3];rfl,by rw[okL];exact⟨c4,h4⟩⟩
theorem gr6(zs:List Value): ∀n,(rep zs n).length=n*zs.length
 |0=>by simp[rep]
 |n+1=>by rw[rep,List.length_append,gr6 zs n,Nat.add_mul];omega
theorem x43{h:H}{Z:Nat→Prop}{l:List AT}(hf:fpL l=[])(hk:okL h Z l): ∀n,∃m:List AT,eraL m=repT (eraL l) n∧m.map AT.val=rep (l.map AT.val) n∧fpL m=[]∧okL h Z m
 |0=>⟨[],rfl,rfl,rfl,by rw[okL];trivial⟩
 |n+1=>by
  obtain⟨m,h1,h2,h3,h4⟩:=x43 hf hk n
  refine⟨l++m,by rw[repT,←h1];simp[dk4],by rw[rep,←h2];simp,by rw[xv9,hf,h3];rfl,ca4.2 ⟨hk,h4⟩⟩
theorem b95(zs:List Value): ∀(n m:Nat),n≤m→(rep zs m).take (n*zs.length)=rep zs n
 |0,m,_=>by simp[rep]
 |n+1,m,hm=>by
  obtain⟨k,rfl⟩: ∃k,m=k+1:=⟨m-1,by omega⟩
  rw[rep,rep,Nat.add_mul,Nat.one_mul,Nat.add_comm,List.take_append,List.take_of_length_le (by omega),Nat.add_sub_cancel_left,b95 zs n k (by omega)]
theorem j21(i:Inv h A Z Zp){a:AV}{w:Value}(hk:oa5 (A.map AT.era) a=true)(hr:VR h A Z Zp a w):one w=true:=by
 cases a with
 |x v=>rw[VR]at hr;subst hr;exact hk
 |fz b t=>rw[VR]at hr;exact gs6 hk hr
 |fzc b cs j=>rw[VR]at hr;obtain⟨o,off,r,rfl,_⟩:=hr;rfl
 |own r p=>
  rw[VR]at hr
  simp only[oa5]at hk
  split at hk
  ·rename_i h1
   obtain⟨k,h2,h3⟩:=mc9 h1
   obtain⟨w',rfl⟩:=n52 h3
   have:=lw8 i h2
   rw[ok]at this
   have hw:w'=w:=hr.2 _ h2 rfl
   subst hw
   exact gs6 hk this
  ·rename_i h1
   obtain⟨k,h2,rfl⟩:=mc9 h1
   rw[←hr.2 _ h2 (l60 hk)]
   cases k<;>first|rfl|(simp[AT.era,isNode]at hk)
  ·cases hk
 |cell r p j=>
  have hl:k12 (A.map AT.era) (.o r p j)=true:=hk
  obtain⟨o,off,rfl⟩:=bj0 i hl hr
  rfl
 |fn g l=>rw[VR]at hr;obtain⟨ws,rfl,_⟩:=hr;rfl
 |_=>cases hk
theorem ky5(i:Inv h A Z Zp){k:Nat}{a:AV}{b:Bool}{w:Value}(he:wb3 (A.map AT.era) k a=some b)(hr:VR h A Z Zp a w):anil k w=some b:=by
 have sl: ∀{o:Addr} {n c:Nat},anil 0 (.slice (some o) n c)=some false:=rfl
 unfold wb3 at he
 split at he
 ·rw[VR]at hr;subst hr;exact he
 ·split at he
  ·rename_i h1
   obtain⟨kk,nl0,q1,q2,q3,q4,q5,q6⟩:=cd4 i h1 hr
   cases he
   rcases q6 with⟨_,_,_,_,e1,_⟩|⟨o,off,n0,c0,l,lo',c',rfl,rfl,q7,rfl,q8,q9',q9⟩
   ·rcases q2 with q2|q2
    ·exact absurd q2.symm e1
    ·rw[if_neg e1]at q2;cases q2
   ·rfl
  ·rename_i h1
   obtain⟨kk,nl0,q1,q2,q3,q4,q5,q6⟩:=cd4 i h1 hr
   cases he
   rcases q6 with⟨_,rfl,_,_,e1,rfl⟩|⟨o,off,n0,c0,l,lo',c',rfl,rfl,q7,rfl,q8,q9',q9⟩
   ·rfl
   ·have:nl0=1:=by
     rcases q2 with q2|q2
     ·exact q2.symm
     ·split at q2<;>cases q2
    have h2:=q7 this
    show some false=_
    cases hl:eraL l with
    |nil=>exact absurd hl h2
    |cons=>rfl
  ·rename_i n h1
   obtain⟨kk,nl0,q1,q2,q3,q4,q5,q6⟩:=cd4 i h1 hr
   split at he
   ·cases he
   ·cases he
    rcases q6 with⟨_,_,e0,_⟩|⟨o,off,n0,c0,l,lo',c',rfl,rfl,q7,rfl,q8,q9',q9⟩
    ·omega
    ·rfl
  ·rename_i h1
   obtain⟨e,q⟩:=cd4 i h1 hr
   rw[Rd]at q
   cases he
   rcases q with⟨_,q,_⟩|⟨o,off,n,c,row,rfl,_⟩
   ·exact absurd rfl q
   ·rfl
  ·rename_i cs h1
   obtain⟨e,q⟩:=cd4 i h1 hr
   rw[Rd]at q
   cases he
   rcases q with⟨rfl,q,_,rfl⟩|⟨o,off,n,c,row,rfl,_,_,_,_,_,_,q,_⟩
   ·rfl
   ·have h2:=q rfl
    cases cs with
    |nil=>exact absurd rfl h2
    |cons=>rfl
  ·rename_i cs h1
   obtain⟨e,q⟩:=cd4 i h1 hr
   rw[Rd]at q
   split at he
   ·cases he
   ·rename_i hne
    cases he
    rcases q with⟨rfl,q,_,rfl⟩|⟨o,off,n,c,row,rfl,_⟩
    ·exact absurd rfl hne
    ·rfl
  ·rename_i h1
   have:=cd4 i h1 hr
   cases he
   rw[show w= .slice none 0 0 from this];rfl
  ·cases he
 ·split at he
  ·rename_i pa h1
   split at he
   ·rename_i hl
    cases he
    obtain⟨o,off,rfl⟩:=bj0 i hl (dm7 i h1 hr)
    rfl
   ·cases he
  ·cases he
 ·cases he
  rw[VR]at hr
  obtain⟨ws,rfl,_⟩:=hr
  rfl
 ·cases he
end
end Go.Vm
namespace Go.Vm
open Go.Am
section
variable {α β:Type}
theorem ij9: ∀(ts cs:List α) (i:Nat),(setL cs i ts).length=cs.length
 | [],cs,i=>rfl
 |t::ts,cs,i=>by rw[setL,ij9 ts,List.length_set]
theorem vo4: ∀(ts cs:List α) (i j:Nat),i+ts.length≤cs.length→(setL cs i ts)[j]? =if i≤j∧j<i+ts.length then ts[j-i]? else cs[j]?
 | [],cs,i,j,h=>by rw[setL,if_neg (by simp only[List.length_nil];omega)]
 |t::ts,cs,i,j,h=>by
  rw[List.length_cons]at h
  rw[setL,vo4 ts _ _ _ (by rw[List.length_set];omega),List.getElem?_set,List.length_cons]
  by_cases h1:i+1≤j∧j<i+1+ts.length
  ·rw[if_pos h1,if_pos (by omega),show j-i=j-(i+1)+1 by omega,List.getElem?_cons_succ]
  ·rw[if_neg h1]
   by_cases h2:i=j
   ·subst h2
    rw[if_pos rfl,if_pos (by omega),if_pos (by omega),Nat.sub_self];rfl
   ·rw[if_neg h2,if_neg (by omega)]
theorem yb7(g:α→β): ∀(ts cs:List α) (i:Nat),(setL cs i ts).map g=setL (cs.map g) i (ts.map g)
 | [],cs,i=>rfl
 |t::ts,cs,i=>by rw[setL,yb7 g ts,List.map_set];rfl
theorem g81{ts cs:List α}{i off:Nat}(h:off+i+ts.length≤cs.length):(setL cs (off+i) ts).drop off=setL (cs.drop off) i ts:=by
 refine List.ext_getElem? fun j=> ?_
 rw[List.getElem?_drop,vo4 _ _ _ _ h,vo4 _ _ _ _ (by rw[List.length_drop];omega),List.getElem?_drop]
 by_cases h1:i≤j∧j<i+ts.length
 ·rw[if_pos h1,if_pos (by omega),show off+j-(off+i)=j-i by omega]
 ·rw[if_neg h1,if_neg (by omega)]
theorem oh0{ts cs:List α}{i m:Nat}(h:i+ts.length≤m)(hm:m≤cs.length):(setL cs i ts).take m=setL (cs.take m) i ts:=by
 refine List.ext_getElem? fun j=> ?_
 rw[List.getElem?_take,vo4 _ _ _ _ (by omega),vo4 _ _ _ _ (by rw[List.length_take];omega),List.getElem?_take]
 by_cases h1:i≤j∧j<i+ts.length
 ·rw[if_pos h1,if_pos (by omega),if_pos h1]
 ·rw[if_neg h1,if_neg h1]
theorem dw1{l ws:List Value}{i:Nat}(h:i+ws.length≤l.length):hu1 l i ws=setL l i ws:=by
 refine List.ext_getElem? fun j=> ?_
 rw[vo4 _ _ _ _ h]
 unfold hu1
 have hl:(l.take i).length=i:=by rw[List.length_take];omega
 by_cases h1:j<i
 ·rw[if_neg (by omega),List.append_assoc,List.getElem?_append_left (by omega),List.getElem?_take,if_pos h1]
 ·by_cases h2:j<i+ws.length
  ·rw[if_pos (by omega),List.getElem?_append_left (by rw[List.length_append];omega),List.getElem?_append_right (by omega),hl]
  ·rw[if_neg (by omega),List.getElem?_append_right (by rw[List.length_append];omega),List.length_append,hl,List.getElem?_drop]
   congr 1;omega
end
theorem pf0(x:Nat): ∀(D cs:List AT) (i:Nat),(fpL (setL cs i D)).count x≤(fpL cs).count x+(fpL D).count x
 | [],cs,i=>by rw[setL];omega
 |d::D,cs,i=>by
  rw[setL]
  have h1:=pf0 x D (cs.set i d) (i+1)
  have h2:(fpL (cs.set i d)).count x≤(fpL cs).count x+d.fp.count x:=by
   cases hc:cs[i]? with
   |none=>rw[List.set_eq_of_length_le (by have:=List.getElem?_eq_none_iff.1 hc;omega)];omega
   |some k=>have:=ju4 x (s:=d) hc;omega
  rw[fpL,List.count_append]
  omega
theorem a71{k:AT}{cs cs':List AT}(hk:k.kids=some cs)(hl:cs'.length=cs.length):(k.setKids cs').kids=some cs':=by
 cases k with
 |sl=>rfl
 |pt=>rfl
 |nil=>cases hk;obtain rfl:cs'=[]:=List.eq_nil_of_length_eq_zero (by simpa using hl);rfl
 |v=>cases hk
 |fn=>cases hk
 |fz=>cases hk
 |junk=>cases hk
theorem ay2{k:AT}{cs cs':List AT}(hk:k.kids=some cs)(hl:cs'.length=cs.length)(x:Nat):(k.setKids cs').fp.count x+(fpL cs).count x=k.fp.count x+(fpL cs').count x:=by
 rcases vw2 hk with⟨e1,rfl⟩|⟨o,e1,e2⟩
 ·obtain rfl:cs'=[]:=List.eq_nil_of_length_eq_zero (by simpa using hl)
  cases k<;>first|(cases hk;done)|(simp only[AT.setKids])<;>(cases hk;rfl)
 ·rw[e1,e2,List.count_cons,List.count_cons];omega
theorem Sub.kids{k:AT}{cs cs':List AT}(hk:k.kids=some cs)(hl:cs'.length=cs.length)(hkv:k.isV=false)(hS: ∀(j:Nat) (c':AT),cs'[j]? =some c'→ ∃c:AT,cs[j]? =some c∧Sub c c'):Sub k (k.setKids cs'):=by
 intro q b' h1 h2
 cases q with
 |nil=>cases h1;exact⟨k,rfl,hkv,df8 _ _⟩
 |cons j q=>
  simp only[AT.get,a71 hk hl]at h1
  simp only[AT.get,hk]
  cases hc:cs'[j]? with
  |none=>rw[hc]at h1;cases h1
  |some c'=>
   rw[hc]at h1
   obtain⟨c,h3,h4⟩:=hS j c' hc
   rw[h3]
   exact h4 q b' h1 h2
theorem Sub.refl(k:AT):Sub k k:=fun q b' h1 h2=>⟨b',h1,h2,rfl⟩
theorem Sub.v{k:AT}(x:Value):Sub k (.v x):=by
 intro q b' h1 h2
 cases q with
 |nil=>cases h1;cases h2
 |cons j q=>simp only[AT.get]at h1;cases h1
theorem zv3{h:H}{o o':Nat}{b:Ob}(hne:o'≠o):(h.set o b)[o']? =h[o']? :=List.getElem?_set_ne fun e=>hne e.symm
section
variable {h:H} {A:List AT} {Z Zp:Nat→Prop} {fr:VFr} {f:Fr}
theorem dp1{A1 D:List AT}{Z1 Zp1:Nat→Prop}(i1:Inv h (A1++D) Z1 Zp1){ws:List Value}(hD:D.map AT.val=ws)(hne:D≠[]){r:Nat}{p:List Nat}{j:Nat}{w:Value}(hr:VR h A1 Z1 Zp1 (.cell r p j) w){R2:Rts}(he:z26 (A1.map AT.era) r p j (eraL D)=some R2):
 ∃o off h' A2,w= .pointer (some ⟨o,off,none⟩)∧h.sts o off ws=some h'∧R2=A2.map AT.era∧(∃Z2 Zp2,Inv h' A2 Z2 Zp2∧Ext h (A1++D) Zp1 h' A2 Zp2∧(∀o,Z1 o→Z2 o))∧Stab A1 A2 (if(eraL D).all isV then []else [r]):=by
 unfold z26 at he
 split at he
 ·rename_i s h1
  split at he
  ·rename_i ts h2
   split at he
   ·rename_i hlen
    cases he
    obtain⟨k,h3,h4⟩:=mc9 h1
    subst h4
    obtain⟨cs,h5,h6⟩:=a47 h2
    subst h6
    rw[i47,i47]at hlen
    have hDl:0<D.length:=List.length_pos_iff.2 hne
    have hcs:cs≠[]:=by intro e;subst e;rw[List.length_nil]at hlen;omega
    have hlt:=vs7 h3
    have h3':aget (A1++D) r p=some k:=by rw[gr7 p hlt];exact h3
    obtain⟨o,off,row,b1,b2,b3,b4,b5⟩:=nm1 i1 h3' h5 hcs
    have hw:=wd1 hr h3 b1
    have hok:=lw8 i1 h3'
    have hwl:ws.length=D.length:=by rw[←hD];simp
    have hrl:off+cs.length≤row.cells.length:=by
     have:=(List.getElem?_eq_some_iff.1 (b5 (cs.length-1) _ (List.getElem?_eq_getElem (by have:=List.length_pos_iff.2 hcs;omega)))).1
     have:=List.length_pos_iff.2 hcs
     omega
    have hsts:h.sts o (off+j) ws=some (h.set o (.row {row with cells:=hu1 row.cells (off+j) ws})):=by
     unfold H.sts
     rw[b3]
     simp only[]
     rw[if_pos (by rw[b4];simp;omega)]
    have hol:o<h.length:=h44 b3
    have hokA:(o∈fpL A1):=ea8.2 (by have:=ea8.1 b2;have:=bm6 o h3;omega)
    have hac: ∀x,(fpL A1).count x+(fpL D).count x≤1:=fun x=>by have:=i1.nd x;rwa [xv9,List.count_append]at this
    have hkn: ∀x,k.fp.count x≤1:=fun x=>by have:=bm6 x h3;have:=hac x;omega
    have hoD:o∉fpL D:=fun hm=>by have:=ea8.1 hm;have:=ea8.1 hokA;have:=hac o;omega
    have hocs:o∉fpL cs:=fun hm=>by
     rcases vw2 h5 with⟨_,e⟩|⟨o',e1,e2⟩
     ·exact hcs e
     ·have hk1:=hkn o
      rw[e1,List.count_cons]at hk1
      have hcsp:(fpL cs).count o≥1:=ea8.1 hm
      have hoo:o'=o:=by
       cases k with
       |sl=>cases h5;cases b1;rw[AT.fp]at e1;cases e1;rfl
       |pt=>cases h5;cases b1;rw[AT.fp]at e1;cases e1;rfl
       |_=>cases b1
      subst hoo
      rw[if_pos (by simp)]at hk1
      omega
    have hrow': ∀o',o'≠o→H.row (h.set o (.row {row with cells:=hu1 row.cells (off+j) ws})) o'=h.row o':=fun o' hne=>jl1 fun e=>hne e.symm
    have hokd:=ga8.1 i1.okA
    have hokc:=ga8.1 (by5 h5 hok)
    have hsl:(setL cs j D).length=cs.length:=ij9 _ _ _
    have hchild:okL (h.set o (.row {row with cells:=hu1 row.cells (off+j) ws})) (fun x=>Zp1 x∨False) (setL cs j D):=by
     refine ga8.2 fun c hc=> ?_
     obtain⟨m,hm⟩:=List.getElem?_of_mem hc
     rw[vo4 _ _ _ _ hlen]at hm
     have hz: ∀x,Zp1 x→x≠o:=fun x hx e=>i1.nz o (by rw[xv9];simp[hokA]) (e▸i1.zp x hx)
     split at hm
     ·have hcD:=List.mem_of_getElem? hm
      exact ok.keep (fun x hx=> .inl hx) (fun x hx=>hrow' x (hz x hx)) (hokd c (by simp[hcD])) fun x hx=>hrow' x fun e=>hoD (by rw[←e,zq7,List.mem_flatMap];exact⟨c,hcD,hx⟩)
     ·have hcc:=List.mem_of_getElem? hm
      exact ok.keep (fun x hx=> .inl hx) (fun x hx=>hrow' x (hz x hx)) (hokc c hcc) fun x hx=>hrow' x fun e=>hocs (by rw[←e,zq7,List.mem_flatMap];exact⟨c,hcc,hx⟩)
    have hsok:ok (h.set o (.row {row with cells:=hu1 row.cells (off+j) ws})) (fun x=>Zp1 x∨False) (k.setKids (setL cs j D)):=by
     have hspl:hu1 row.cells (off+j) ws=setL row.cells (off+j) ws:=dw1 (by omega)
     cases k with
     |sl o' off' n c nl e u l=>
      cases h5;cases b1
      rw[ok]at hok
      obtain⟨row',k1,k2,k3,k4,k5,k6,k7,k8,k9,k10⟩:=hok
      rw[b3]at k1;cases k1
      rw[AT.setKids,ok]
      refine⟨_,tr3 hol,k2,k3,k4,k5,by rw[hsl];exact k6,k7,⟨fun e1 e2=>k8.1 e1 (by rw[e2]at hsl;exact List.eq_nil_of_length_eq_zero hsl.symm), ?_⟩, ?_,hchild⟩
      ·show off+_≤(hu1 row.cells (off+j) ws).length
       rw[hspl,ij9,ij9];exact hrl
      show((hu1 row.cells (off+j) ws).drop off).take _=_
      rw[hsl,hspl,g81 (by omega),oh0 (by omega) (by rw[List.length_drop];omega),k9,yb7,hD]
     |pt o' e l=>
      cases h5;cases b1
      rw[ok]at hok
      obtain⟨row',k1,k2,k3,k4⟩:=hok
      rw[b3]at k1;cases k1
      rw[AT.setKids,ok]
      refine⟨_,tr3 hol,k2, ?_,hchild⟩
      show hu1 row.cells (0+j) ws=_
      rw[hspl,Nat.zero_add,k3,yb7,hD]
     |_=>cases b1
    have hsv:(k.setKids (setL cs j D)).isV=false:=by rw[ua4];exact nm0 h5
    obtain⟨i2,e2⟩:=Inv.upd (A:=A1) (C:=D) (N:=[]) (s:=k.setKids (setL cs j D)) (Zx:=fun _=>False) i1 h3 (h':=h.set o (.row {row with cells:=hu1 row.cells (off+j) ws})) (by rw[List.length_set];exact Nat.le_refl _)
     (fun x _ hx=>zv3 fun e=>hx (e▸b2)) (df8 _ _) hsok (by rw[okL];trivial) (fun x _=>by have:=ay2 h5 hsl x;have:=pf0 x D cs j;simp[fpL];omega)
     (fun x hx=>by
       have h1:=ay2 h5 hsl x
       have h2:=pf0 x D cs j
       have h3:=bm6 x h3
       have h4:=hac x
       simp[fpL];omega)
     (fun x hx=>by
       rw[List.length_set]
       have h1:=ay2 h5 hsl x
       have h2:=pf0 x D cs j
       have h3:=bm6 x h3
       rcases hx with hx|hx
       ·have h4:=ea8.1 hx
        refine i1.lt x (ea8.2 ?_)
        rw[xv9,List.count_append];omega
       ·simp[fpL]at hx)
     (fun x hx=>hx.elim)
    rw[List.append_nil]at i2 e2
    refine⟨o,off+j,_,aset A1 r p (k.setKids (setL cs j D)),hw,hsts, ?_,⟨_,_,i2,e2,fun x hx=> .inl hx⟩, ?_⟩
    ·rw[←ao8,vw3 h5 hsl,dk4 (setL cs j D),yb7,dk4,dk4]
    ·refine Stab.upd h3 (df8 _ _) (nm0 h5) hsv ?_
     by_cases hall:(eraL D).all isV=true
     ·rw[if_pos hall]
      refine .inl (Sub.kids h5 hsl (nm0 h5) fun m c' hm=> ?_)
      have hm0:=hm
      rw[vo4 _ _ _ _ hlen]at hm
      split at hm
      ·have hcD:=List.mem_of_getElem? hm
       have:isV c'.era=true:=List.all_eq_true.1 hall c'.era (by rw[dk4];exact List.mem_map.2 ⟨c',hcD,rfl⟩)
       have hml:m<cs.length:=by have:=(List.getElem?_eq_some_iff.1 hm0).1;omega
       refine⟨_,List.getElem?_eq_getElem hml, ?_⟩
       cases c' with
       |v x=>exact Sub.v x
       |_=>simp[AT.era,isV]at this
      ·exact⟨c',hm,Sub.refl _⟩
     ·rw[if_neg hall];exact .inr (by simp)
   ·cases he
  ·cases he
 ·cases he
end
end Go.Vm
namespace Go.Vm
open Go.Am
section
variable {α:Type}
theorem dn3{ts cs:List α}{i:Nat}(h:i+ts.length≤cs.length):setL cs i ts=cs.take i++ts++cs.drop (i+ts.length):=by
 refine List.ext_getElem? fun j=> ?_
 rw[vo4 _ _ _ _ h]
 have hl:(cs.take i).length=i:=by rw[List.length_take];omega
 by_cases h1:j<i
 ·rw[if_neg (by omega),List.append_assoc,List.getElem?_append_left (by omega),List.getElem?_take,if_pos h1]
 ·by_cases h2:j<i+ts.length
  ·rw[if_pos (by omega),List.getElem?_append_left (by rw[List.length_append];omega),List.getElem?_append_right (by omega),hl]
  ·rw[if_neg (by omega),List.getElem?_append_right (by rw[List.length_append];omega),List.length_append,hl,List.getElem?_drop]
   congr 1;omega
theorem xh6(l:List α){a b L:Nat}(h:a+b≤L):((l.take L).drop a).take b=(l.drop a).take b:=by
 refine List.ext_getElem? fun j=> ?_
 rw[List.getElem?_take,List.getElem?_take,List.getElem?_drop,List.getElem?_drop,List.getElem?_take]
 by_cases h1:j<b
 ·rw[if_pos h1,if_pos h1,if_pos (by omega)]
 ·rw[if_neg h1,if_neg h1]
theorem sx8{l:List α}{a b:Nat}(h:a+b≤l.length):((l.drop a).take b).length=b:=by rw[List.length_take,List.length_drop];omega
theorem ji8(l:List α)(a b:Nat):l.take a++(l.drop a).take b++l.drop (a+b)=l:=by
 rw[List.append_assoc,←List.drop_drop,List.take_append_drop,List.take_append_drop]
end
theorem lg5{c:AT}(h:plain c.era=true):c.fp=[]:=by
 cases c with
 |v x=>exact v_fp _
 |fz w t=>exact zq0 _ _
 |_=>simp[AT.era,plain]at h
def jkA(c:AT):AT:=if plain c.era then c else .junk c.val
theorem ke1(c:AT):(jkA c).era=jk c.era:=by
 unfold jkA jk;split
 ·rfl
 ·rfl
theorem p26(c:AT):(jkA c).val=c.val:=by
 unfold jkA;split<;>rfl
theorem y09(c:AT):(jkA c).fp=[]:=by
 unfold jkA;split
 ·exact lg5 ‹_›
 ·exact op8 _
theorem e68(c:AT):Sub c (jkA c):=by
 unfold jkA;split
 ·exact Sub.refl _
 ·rename_i hn
  refine Sub.leaf rfl rfl ?_
  cases c<;>first|rfl|(exfalso;exact hn rfl)
theorem mb9(l:List AT):fpL (l.map jkA)=[]:=by
 rw[zq7,List.flatMap_map]
 simp[y09]
theorem ot2{l:List AT}(h:(eraL l).all plain=true):fpL l=[]:=by
 rw[zq7,List.flatMap_eq_nil_iff]
 intro c hc
 exact lg5 (List.all_eq_true.1 h c.era (by rw[dk4];exact List.mem_map.2 ⟨c,hc,rfl⟩))
theorem gc1(l:List AT)(a b x:Nat):(fpL ((l.drop a).take b)).count x≤(fpL l).count x:=by
 rw[←ji8 l a b,xv9,xv9,List.count_append,List.count_append,ji8];omega
theorem xg5(l:List AT)(a b:Nat):eraL ((l.drop a).take b)=((eraL l).drop a).take b:=by
 rw[dk4,dk4,List.map_take,List.map_drop]
theorem nc9(l m:List AT):eraL (l++m)=eraL l++eraL m:=by simp only[dk4,List.map_append]
section
variable {h:H} {A:List AT} {Z Zp:Nat→Prop} {fr:VFr} {f:Fr}
theorem pd7{o off n c size:Nat}{row:Row}{vs:List Value}(hs:0<size)(hr:h.row o=some row)(hv:(row.cells.drop off).take (n*size)=vs)(hl:vs.length=n*size):b38 h size n (.slice (some ⟨o,off,none⟩) n c)=some vs:=by
 unfold b38
 simp only[]
 by_cases h0:n=0
 ·subst h0
  rw[if_pos rfl]
  rw[Nat.zero_mul]at hl
  rw[List.eq_nil_of_length_eq_zero hl]
 ·rw[if_neg h0,if_pos (Nat.le_refl _)]
  simp only[cv9,if_true]
  unfold H.lds
  rw[hr]
  simp only[]
  have h1:0<n*size:=Nat.mul_pos (by omega) hs
  have:off+n*size≤row.cells.length:=by
   rw[←hv,List.length_take,List.length_drop]at hl;omega
  rw[if_pos this,hv]
theorem jk2{o off n0 c0 nl e u:Nat}{l:List AT}(hk:ok h Zp (.sl o off n0 c0 nl e u l)){lo n lo':Nat}(hc:(lo+n)*u≤l.length)(h1:lo'≤lo)(h2:0<n→lo'=lo): ∃row,h.row o=some row∧row.own=true∧row.elem=e∧row.unit=u∧off+lo'*u+n*u≤row.cells.length∧(row.cells.drop (off+lo'*u)).take (n*u)=((l.drop (lo*u)).take (n*u)).map AT.val:=by
 rw[ok]at hk
 obtain⟨row,k1,k2,k3,k4,k5,k6,k7,k8,k9,k10⟩:=hk
 rw[Nat.add_mul]at hc
 have hlo:lo'*u≤lo*u:=Nat.mul_le_mul_right u h1
 refine⟨row,k1,k2,k3,k4, ?_, ?_⟩
 ·have:=k8.2
  by_cases hn:n=0
  ·subst hn;omega
  ·rw[h2 (by omega)];omega
 ·by_cases hn:n=0
  ·subst hn;simp
  ·rw[h2 (by omega),←List.drop_drop,←xh6 (row.cells.drop off) (L:=l.length) (by omega),k9,List.map_take,List.map_drop]
theorem gu0{Z':Nat→Prop}: ∀{cs:List Tree} {vs:List Value},RdL h Z' cs vs→ ∃D:List AT,eraL D=cs.map fzT∧fpL D=[]∧D.map AT.val=vs∧okL h Z' D
 | [],vs,hr=>by rw[RdL]at hr;subst hr;exact⟨[],rfl,rfl,rfl,by rw[okL];trivial⟩
 |t::cs,vs,hr=>by
  rw[RdL]at hr
  obtain⟨w,vs',rfl,h1,h2⟩:=hr
  obtain⟨D,d1,d2,d3,d4⟩:=gu0 h2
  obtain⟨c,c1,c2,c3,c4⟩: ∃c:AT,c.era=fzT t∧c.val=w∧c.fp=[]∧ok h Z' c:=by
   cases t with
   |v x=>rw[Rd]at h1;subst h1;exact⟨.v w,rfl,rfl,v_fp _,by rw[ok];trivial⟩
   |_=>exact⟨.fz w _,rfl,rfl,zq0 _ _,by rw[ok];exact h1⟩
  exact⟨c::D,by rw[eraL,c1,d1];rfl,by rw[fpL,c3,d2];rfl,by rw[List.map_cons,c2,d3],by rw[okL];exact⟨c4,d4⟩⟩
theorem ih3{Z' Z'':Nat→Prop}: ∀{cs:List Tree} {vs:List Value},cs.all isV=true→RdL h Z' cs vs→ ∃D:List AT,eraL D=cs∧fpL D=[]∧D.map AT.val=vs∧okL h Z'' D
 | [],vs,_,hr=>by rw[RdL]at hr;subst hr;exact⟨[],rfl,rfl,rfl,by rw[okL];trivial⟩
 |t::cs,vs,hv,hr=>by
  rw[RdL]at hr
  obtain⟨w,vs',rfl,h1,h2⟩:=hr
  rw[List.all_cons,Bool.and_eq_true]at hv
  obtain⟨D,d1,d2,d3,d4⟩:=ih3 (Z'':=Z'') hv.2 h2
  cases t with
  |v x=>rw[Rd]at h1;subst h1;exact⟨.v w::D,by rw[eraL,d1];rfl,by rw[fpL,v_fp,d2];rfl,by rw[List.map_cons,d3];rfl,by rw[okL];exact⟨by rw[ok];trivial,d4⟩⟩
  |_=>simp[isV]at hv
theorem yj8(i:Inv h A Z Zp){X:VS}{wx:Value}(hx:SR h A Z Zp X wx){size:Nat}{news:List Tree}{R1:Rts}(he:vsrc (A.map AT.era) size X=some (news,R1)):
 ∃A1 D Z1 Zp1 m b d,R1=A1.map AT.era∧eraL D=news∧wx= .slice b m d∧m*size=D.length∧b38 h size m wx=some (D.map AT.val)∧Inv h (A1++D) Z1 Zp1∧Ext h A Zp h (A1++D) Zp1∧Stab A A1 []∧(∀o,Z o→Z1 o)∧A1.length=A.length:=by
 have lite: ∀(D:List AT),fpL D=[]→okL h Zp D→ ∃Z1 Zp1,Inv h (A++D) Z1 Zp1∧Ext h A Zp h (A++D) Zp1∧(∀o,Z o→Z1 o):=fun D hD hk=>by
  obtain⟨i1,e1⟩:=Inv.new (h':=h) (A:=A) (C:=[]) (N:=D) (Zx:=fun _=>False) (by rw[List.append_nil];exact i) (Nat.le_refl _) (fun _ _=>rfl) (okL.keep (fun o ho=> .inl ho) (fun _ _=>rfl) hk fun _ _=>rfl) (fun x _=>by rw[hD];simp) (fun x _=>by rw[hD];simp) (fun o ho=>by rw[hD]at ho;cases ho) (fun o ho=>ho.elim)
  rw[List.append_nil]at e1
  exact⟨_,_,i1,e1,fun o ho=> .inl ho⟩
 cases X with
 |nil=>
  cases he
  cases hx
  exact⟨A,[],Z,Zp,0,none,0,rfl,rfl,rfl,by simp,rfl,by rw[List.append_nil];exact i,by rw[List.append_nil];exact Ext.refl _ _ _,Stab.refl _ _,fun _ ho=>ho,rfl⟩
 |f b nl u cs=>
  simp only[vsrc]at he
  split at he
  ·rename_i hu
   subst hu
   obtain⟨e,hx⟩:=hx
   rw[Rd]at hx
   have hD: ∃D:List AT,R1=A.map AT.era∧eraL D=news∧fpL D=[]∧cs.length=D.length∧ ∀vs,RdL h (pick b Z Zp) cs vs→ ∃D:List AT,eraL D=news∧fpL D=[]∧D.map AT.val=vs∧okL h Zp D:=by
    cases b with
    |true=>
     cases he
     refine⟨cs.map (fun t=>match t with| .v x=> .v x|t=> .fz .nilFunc t),rfl, ?_, ?_,by simp,fun vs hv=>gu0 hv⟩
     ·rw[dk4,List.map_map]
      refine List.map_congr_left fun t _=> ?_
      cases t<;>rfl
     ·rw[zq7,List.flatMap_map,List.flatMap_eq_nil_iff]
      intro t _
      cases t<;>first|exact v_fp _|exact zq0 _ _
    |false=>
     simp only[Bool.false_eq_true,if_false]at he
     split at he
     ·rename_i hv
      simp only[Option.some.injEq,Prod.mk.injEq]at he
      obtain⟨e1,e2⟩:=he
      subst e1;subst e2
      refine⟨cs.map (fun t=>match t with| .v x=> .v x|t=> .fz .nilFunc t),rfl, ?_, ?_,by simp,fun vs hv2=>ih3 hv hv2⟩
      ·rw[dk4,List.map_map]
       conv=>rhs;rw[←List.map_id cs]
       refine List.map_congr_left fun t ht=> ?_
       have:=List.all_eq_true.1 hv t ht
       cases t<;>first|rfl|(simp[isV]at this)
      ·rw[zq7,List.flatMap_map,List.flatMap_eq_nil_iff]
       intro t _
       cases t<;>first|exact v_fp _|exact zq0 _ _
     ·cases he
   obtain⟨D0,g1,g2,g3,g4,g5⟩:=hD
   rcases hx with⟨rfl,_,hu0,rfl⟩|⟨o,off,n,c,row,rfl,x2,x3,x4,x5,x6,x7,x8,x9⟩
   ·have:D0=[]:=List.eq_nil_of_length_eq_zero (by rw[←g4];rfl)
    subst this
    exact⟨A,[],Z,Zp,0,none,0,g1,g2,rfl,by simp,rfl,by rw[List.append_nil];exact i,by rw[List.append_nil];exact Ext.refl _ _ _,Stab.refl _ _,fun _ ho=>ho,rfl⟩
   ·obtain⟨D,d1,d2,d3,d4⟩:=g5 _ x9
    have hl:=congrArg List.length d3
    rw[List.length_map,x9.len]at hl
    obtain⟨Z1,Zp1,i1,e1,z1⟩:=lite D d2 d4
    refine⟨A,D,Z1,Zp1,n,_,c,g1,d1,rfl,by rw[hl];exact x6, ?_,i1,e1,Stab.refl _ _,z1,rfl⟩
    exact pd7 x5 x3 (by rw[x6,d3]) (by rw[List.length_map,hl];exact x6.symm)
  ·cases he
 |o r p nl e u cs lo n=>
  simp only[vsrc,jp2]at he
  split at he
  ·rename_i hu
   subst hu
   obtain⟨k,nl0,q1,q2,q3,q4,q5,q6⟩:=hx
   rcases q6 with⟨rfl,rfl,rfl,rfl,_,rfl⟩|⟨o,off,n0,c0,l,lo',c',rfl,rfl,q7,rfl,q8,q9',q9⟩
   ·simp at he
    obtain⟨rfl,rfl⟩:=he
    exact⟨A,[],Z,Zp,0,none,0,rfl,rfl,rfl,by simp,rfl,by rw[List.append_nil];exact i,by rw[List.append_nil];exact Ext.refl _ _ _,Stab.refl _ _,fun _ ho=>ho,rfl⟩
   ·have hok:=lw8 i q1
    rw[i47]at q4
    obtain⟨row,r1,r2,r3,r4,r5,r6⟩:=jk2 hok q4 q9' q9
    have hseg:lo*u+n*u≤l.length:=by rw[←Nat.add_mul];exact q4
    have hpl:((l.drop (lo*u)).take (n*u)).length=n*u:=sx8 hseg
    have hsrc:=pd7 (c:=c') q5 r1 r6 (by rw[List.length_map,hpl])
    rw[←xg5]at he
    have hokc:=ga8.1 (by5 rfl hok)
    have hpc: ∀c∈(l.drop (lo*u)).take (n*u),c∈l:=fun c hc=>List.mem_of_mem_drop (List.mem_of_mem_take hc)
    have hokp:okL h Zp ((l.drop (lo*u)).take (n*u)):=ga8.2 fun c hc=>hokc c (hpc c hc)
    split at he
    ·rename_i hpl2
     cases he
     obtain⟨Z1,Zp1,i1,e1,z1⟩:=lite _ (ot2 hpl2) hokp
     exact⟨A,_,Z1,Zp1,n,_,c',rfl,rfl,rfl,hpl.symm,hsrc,i1,e1,Stab.refl _ _,z1,rfl⟩
    ·rw[p00,q1]at he
     cases he
     have hl2:(setL l (lo*u) (((l.drop (lo*u)).take (n*u)).map jkA)).length=l.length:=ij9 _ _ _
     have hml:(((l.drop (lo*u)).take (n*u)).map jkA).length=n*u:=by rw[List.length_map,hpl]
     have hsp:=dn3 (ts:=((l.drop (lo*u)).take (n*u)).map jkA) (cs:=l) (i:=lo*u) (by rw[hml];exact hseg)
     rw[hml]at hsp
     have hcnt: ∀x,(fpL (setL l (lo*u) (((l.drop (lo*u)).take (n*u)).map jkA))).count x+(fpL ((l.drop (lo*u)).take (n*u))).count x=(fpL l).count x:=fun x=>by
      conv=>rhs;rw[←ji8 l (lo*u) (n*u)]
      rw[hsp,xv9,xv9,xv9,xv9,mb9]
      simp only[List.count_append,List.count_nil];omega
     have hvals:(setL l (lo*u) (((l.drop (lo*u)).take (n*u)).map jkA)).map AT.val=l.map AT.val:=by
      conv=>rhs;rw[←ji8 l (lo*u) (n*u)]
      rw[hsp]
      simp only[List.map_append,List.map_map]
      congr 2
      exact List.map_congr_left fun c _=>p26 c
     have hsok:okL h (fun x=>Zp x∨False) (setL l (lo*u) (((l.drop (lo*u)).take (n*u)).map jkA)):=by
      refine ga8.2 fun c hc=> ?_
      rw[hsp]at hc
      have key:c∈l→ok h (fun x=>Zp x∨False) c:=fun hm=>ok.keep (fun x hx=> .inl hx) (fun _ _=>rfl) (hokc c hm) fun _ _=>rfl
      rcases List.mem_append.1 hc with hc|hc
      ·rcases List.mem_append.1 hc with hc|hc
       ·exact key (List.mem_of_mem_take hc)
       ·obtain⟨c0,h0,rfl⟩:=List.mem_map.1 hc
        unfold jkA
        split
        ·exact ok.keep (fun x hx=> .inl hx) (fun _ _=>rfl) (hokp|>ga8.1|>fun f=>f c0 h0) fun _ _=>rfl
        ·rw[ok];exact ho6 ‹_› (ga8.1 hokp c0 h0)
      ·exact key (List.mem_of_mem_drop hc)
     have hkk:(AT.sl o off n0 c0 nl0 e u l).kids=some l:=rfl
     have hse:ok h (fun x=>Zp x∨False) ((AT.sl o off n0 c0 nl0 e u l).setKids (setL l (lo*u) (((l.drop (lo*u)).take (n*u)).map jkA))):=iu1 hkk hok hvals (fun _ _=>rfl) hsok
     obtain⟨i1,e1⟩:=Inv.upd (h':=h) (A:=A) (C:=[]) (N:=(l.drop (lo*u)).take (n*u)) (s:=(AT.sl o off n0 c0 nl0 e u l).setKids (setL l (lo*u) (((l.drop (lo*u)).take (n*u)).map jkA))) (Zx:=fun o=>False) (by rw[List.append_nil];exact i) q1 (Nat.le_refl _) (fun _ _ _=>rfl) rfl
      hse (okL.keep (fun x hx=> .inl hx) (fun _ _=>rfl) hokp fun _ _=>rfl) (fun x _=>by have h1:=ay2 hkk hl2 x;have h2:=hcnt x;omega) (fun x hx=>by
       have h1:=ay2 hkk hl2 x;have h2:=hcnt x;have h3:=bm6 x q1;have h4:=i.nd x;omega) (fun x hx=>by
       have h1:=ay2 hkk hl2 x;have h2:=hcnt x;have h3:=bm6 x q1
       refine i.lt x (ea8.2 ?_)
       rcases hx with hx|hx<;>have:=ea8.1 hx<;>omega) (fun o ho=>ho.elim)
     rw[List.append_nil]at e1
     refine⟨_,_,_,_,n,_,c', ?_,rfl,rfl,hpl.symm,hsrc,i1,e1,Stab.upd (s:=(AT.sl o off n0 c0 nl0 e u l).setKids (setL l (lo*u) (((l.drop (lo*u)).take (n*u)).map jkA))) q1 rfl rfl rfl (.inl (Sub.kids hkk hl2 rfl fun j c' hj=> ?_)),fun o ho=> .inl ho,hl4 _ _ _ _⟩
     ·rw[←ao8,vw3 hkk hl2,dk4 (setL _ _ _),yb7,List.map_map,←dk4]
      rw[show(List.map (AT.era∘jkA) ((l.drop (lo*u)).take (n*u)))=(eraL ((l.drop (lo*u)).take (n*u))).map jk from by rw[dk4,List.map_map];exact List.map_congr_left fun c _=>ke1 c]
      simp only[dk4]
     ·rw[vo4 _ _ _ _ (by rw[hml];exact hseg)]at hj
      split at hj
      ·rename_i hr
       rw[hml]at hr
       rw[List.getElem?_map]at hj
       obtain⟨c0,h0,rfl⟩:=Option.map_eq_some_iff.1 hj
       rw[List.getElem?_take]at h0
       split at h0
       ·rw[List.getElem?_drop]at h0
        refine⟨c0, ?_,e68 c0⟩
        rw[←h0];congr 1;omega
       ·cases h0
      ·exact⟨c',hj,Sub.refl _⟩
  ·cases he
end
end Go.Vm
namespace Go.Vm
open Go.Am
section
variable {h:H} {A:List AT} {Z Zp:Nat→Prop} {fr:VFr} {f:Fr}
theorem Inv.left{D:List AT}(i:Inv h (A++D) Z Zp):Inv h A Z Zp:=
 ⟨(ca4.1 i.okA).1,fun x=>by have:=i.nd x;rw[xv9,List.count_append]at this;omega,fun o ho=>i.lt o (by rw[xv9];simp[ho]),fun o ho=>i.nz o (by rw[xv9];simp[ho]),i.zlt,i.zp⟩
theorem Step.grow(i:Inv h A Z Zp){A1 D:List AT}{Z1 Zp1:Nat→Prop}(i1:Inv h (A1++D) Z1 Zp1)(e1:Ext h A Zp h (A1++D) Zp1)(s1:Stab A A1 [])(z1: ∀o,Z o→Z1 o){r:Nat}{p:List Nat}{k kn:AT}(hk:aget A1 r p=some k)(hkv:k.isV=false)(hone:one k.val=true){h':H}(hlen:h.length≤h'.length)
 (hkeep: ∀o,o<h.length→o∉k.fp→h'[o]? =h[o]?) (hok:ok h' (fun o=>Zp1 o∨False) kn) (hc: ∀x,x<h.length→kn.fp.count x≤k.fp.count x+(fpL D).count x) (hd: ∀x,h.length≤x→kn.fp.count x≤1) (hb: ∀o∈kn.fp,o<h'.length) (hknv:kn.isV=false):
 ∃A' Z2 Zp2,Step h A Z Zp (some (.own A1.length []),rset (A1.map AT.era) r p .junk++[kn.era],some []) (some kn.val) h' A' Z2 Zp2:=by
 obtain⟨i2,e2⟩:=Inv.upd (A:=A1) (C:=D) (N:=[kn]) (s:= .junk k.val) (Zx:=fun _=>False) i1 hk hlen hkeep rfl (by rw[ok];exact hone) (vd4.2 hok) (fun x hx=>by rw[op8,zr4];simpa using hc x hx) (fun x hx=>by rw[op8,zr4];simpa using hd x hx)
  (fun o ho=>by rw[op8,zr4]at ho;exact hb o (by simpa using ho)) (fun o ho=>ho.elim)
 refine⟨aset A1 r p (.junk k.val)++[kn],_,_, ?_,i2,e1.trans e2, ?_,fun o ho=> .inl (z1 o ho), ?_,fun hn=>by cases hn⟩
 ·show rset _ _ _ _++_=_
  rw[List.map_append,←ao8];rfl
 ·exact(s1.trans (Stab.upd (s:= .junk k.val) hk rfl hkv rfl (.inl (Sub.leaf rfl rfl hkv)))).app [kn]
 ·show VR _ _ _ _ (.own A1.length []) kn.val
  rw[VR]
  refine⟨by simp[hl4],fun b hb _=> ?_⟩
  unfold aget at hb
  rw[List.getElem?_append_right (by rw[hl4];exact Nat.le_refl _),hl4,Nat.sub_self]at hb
  cases hb
  rfl
theorem ga2{size m bytes n:Nat}{D:List AT}(hs:0<size)(hm:m*size=D.length){news:List Tree}(he:eraL D=news):news.length/size=m:=by
 rw[←he,i47,←hm,Nat.mul_div_cancel _ hs]
theorem nu6(i:Inv h A Z Zp){s:AV}{ws:Value}(hs:VR h A Z Zp s ws){A1 D:List AT}{Z1 Zp1:Nat→Prop}{m:Nat}{elem size bytes:Nat}{news:List Tree}(hD:eraL D=news)(hm:m*size=D.length)(i1:Inv h (A1++D) Z1 Zp1)(e1:Ext h A Zp h (A1++D) Zp1)(s1:Stab A A1 [])(z1: ∀o,Z o→Z1 o){r:Nat}{p:List Nat}{nl e u:Nat}{cs:List Tree}{lo n:Nat}(hS:vsl (A1.map AT.era) s=some (.o r p nl e u cs lo n))(he:e=elem)(hu:u=size)(hf:few (n+news.length/u) bytes=true):
 ∃sa n1 c1 v h' A' Z' Zp',ws= .slice sa n1 c1∧aput elem size bytes h sa n1 c1 m (D.map AT.val)=some (v,h')∧Step h A Z Zp (some (.own (A1.map AT.era).length []),rset (A1.map AT.era) r p .junk++[.sl nl e u ((cs.drop (lo*u)).take (n*u)++news)],some []) (some v) h' A' Z' Zp':=by
 subst he;subst hu
 have hs1:VR h A1 Z1 Zp1 s ws:=VR.move z1 e1.zp (fun _ _=>rfl) (fun _ _=>rfl) s1 hs rfl
 obtain⟨k,nl0,q1,q2,q3,q4,q5,q6⟩:=cd4 i1.left hS hs1
 have hlm:news.length/u=m:=ga2 (bytes:=bytes) (n:=n) q5 hm hD
 rw[hlm]at hf
 rw[List.length_map]
 have hDv:(D.map AT.val).length=m*u:=by rw[List.length_map,hm]
 have hD1: ∀x,(fpL D).count x≤1:=fun x=>by have:=i1.nd x;rw[xv9,List.count_append]at this;omega
 have hDlt: ∀o∈fpL D,o<h.length:=fun o ho=>i1.lt o (by rw[xv9];simp[ho])
 have hokD:=(ca4.1 i1.okA).2
 have hnl:nl≠0↔nl0≠0:=by
  rcases q2 with rfl|rfl
  ·exact Iff.rfl
  ·split<;>simp_all
 rcases q6 with⟨rfl,rfl,rfl,rfl,hn0,rfl⟩|⟨o,off,n0,c0,l,lo',c',rfl,rfl,q7,rfl,q8,q9',q9⟩
 ·rw[Nat.zero_add]at hf
  by_cases hm0:m=0
  ·subst hm0
   obtain rfl:D=[]:=List.eq_nil_of_length_eq_zero (by rw[←hm];simp)
   cases hD
   obtain⟨A',Z2,Zp2,st⟩:=Step.grow (kn:= .nil nl e u) (h':=h) i i1 e1 s1 z1 q1 rfl rfl (Nat.le_refl _) (fun _ _ _=>rfl) (by rw[ok];exact⟨hnl.2 hn0,q5⟩) (fun x _=>by rw[uu7];simp) (fun x _=>by rw[uu7];simp) (fun o ho=>by rw[uu7]at ho;cases ho) rfl
   refine⟨_,_,_,_,h,A',Z2,Zp2,rfl, ?_,by simpa [AT.era,eraL]using st⟩
   unfold aput
   simp
   rfl
  ·have hcn: ∀x,x<h.length→(AT.sl h.length 0 m m nl e u D).fp.count x≤(fpL D).count x:=fun x hx=>by
    rw[AT.fp,List.count_cons,if_neg (by simp;omega)];exact Nat.le_refl _
   obtain⟨A',Z2,Zp2,st⟩:=Step.grow (kn:= .sl h.length 0 m m nl e u D) (h':=h++[.row ⟨D.map AT.val,e,u,true⟩]) i i1 e1 s1 z1 q1 rfl rfl (by simp) (fun o ho _=>List.getElem?_append_left ho)
    (by
      rw[ok]
      refine⟨_,cv8,rfl,rfl,rfl,q5,hm,Nat.le_refl _,⟨fun _ e0=>hm0 ?_,by simp⟩,by rw[List.drop_zero,List.take_of_length_le (by simp)],okL.keep (fun o ho=> .inl ho) (fun o ho=>z45 (i1.zlt o (i1.zp o ho))) hokD fun o ho=>z45 (hDlt o ho)⟩
      rw[e0]at hm
      rcases Nat.mul_eq_zero.1 hm with h1|h1
      ·exact h1
      ·omega)
    (fun x hx=>by have:=hcn x hx;omega) (fun x hx=>by
      rw[AT.fp,List.count_cons]
      have:(fpL D).count x=0:=List.count_eq_zero.2 fun hm=>by have:=hDlt x hm;omega
      rw[this];split<;>omega) (fun o ho=>by
      rw[AT.fp]at ho
      rcases List.mem_cons.1 ho with rfl|ho
      ·simp
      ·have:=hDlt o ho;simp;omega) rfl
   refine⟨_,_,_,_,_,A',Z2,Zp2,rfl, ?_,by simpa [AT.era,hD]using st⟩
   unfold aput
   simp only[]
   rw[if_pos (by simp),if_neg hm0,if_pos hf];rfl
 ·have hok:=lw8 i1.left q1
  rw[i47]at q4
  obtain⟨row,r1,r2,r3,r4,r5,r6⟩:=jk2 hok q4 q9' q9
  have hseg:lo*u+n*u≤l.length:=by rw[←Nat.add_mul];exact q4
  have hpl:((l.drop (lo*u)).take (n*u)).length=n*u:=sx8 hseg
  have hol:o<h.length:=h44 r1
  have hokl:o∈(AT.sl o off n0 c0 nl0 e u l).fp:=by rw[AT.fp];simp
  have hkA: ∀x,(AT.sl o off n0 c0 nl0 e u l).fp.count x≤(fpL A1).count x:=fun x=>bm6 x q1
  have hac: ∀x,(fpL A1).count x+(fpL D).count x≤1:=fun x=>by have:=i1.nd x;rwa [xv9,List.count_append]at this
  have hkc: ∀x,(AT.sl o off n0 c0 nl0 e u l).fp.count x=(fpL l).count x+if(o==x)=true then 1 else 0:=fun x=>by rw[AT.fp,List.count_cons]
  have hoD:o∉fpL D:=fun hm=>by have:=ea8.1 hm;have:=ea8.1 hokl;have:=hkA o;have:=hac o;omega
  have hol':o∉fpL l:=fun hm=>by
   have h1:=ea8.1 hm;have h2:=hkc o;have h3:=hkA o;have h4:=hac o
   rw[if_pos (by simp)]at h2;omega
  have hlA: ∀x∈fpL l,x<h.length:=fun x hx=>i1.left.lt x (ea8.2 (by have:=ea8.1 hx;have:=hkA x;have:=hkc x;omega))
  have hrow: ∀x,x<h.length→x≠o→H.row (kill h o++[.row ⟨(row.cells.drop (off+lo'*u)).take (n*u)++D.map AT.val,e,u,true⟩]) x=h.row x:=fun x hx hne=>by
   rw[z45 (by rw[q89];exact hx),zz6 fun e=>hne e.symm]
  have hzo: ∀x,Zp1 x→x≠o:=fun x hx e=>i1.nz o (by rw[xv9];exact List.mem_append_left _ (ea8.2 (by have:=ea8.1 hokl;have:=hkA o;omega))) (e▸i1.zp x hx)
  have hkl:(kill h o).length=h.length:=q89
  obtain⟨A',Z2,Zp2,st⟩:=Step.grow (kn:= .sl h.length 0 (n+m) (n+m) nl e u ((l.drop (lo*u)).take (n*u)++D)) (h':=kill h o++[.row ⟨(row.cells.drop (off+lo'*u)).take (n*u)++D.map AT.val,e,u,true⟩]) i i1 e1 s1 z1 q1 rfl rfl (by simp[hkl])
   (fun x hx hn=>by
     rw[List.getElem?_append_left (by rw[hkl];exact hx)]
     exact zv3 fun e=>hn (e▸hokl))
   (by
     rw[ok]
     refine⟨_,rr6 hkl.symm,rfl,rfl,rfl,q5,by rw[List.length_append,hpl,←hm,Nat.add_mul],Nat.le_refl _,⟨fun e1' e0=> ?_,by show 0+_≤List.length (_++_);rw[List.length_append,hpl,List.length_append,r6,List.length_map,List.length_map,hpl];omega⟩, ?_,ca4.2 ⟨ga8.2 fun c hc=> ?_,okL.keep (fun o ho=> .inl ho) (fun x hx=>hrow x (i1.zlt x (i1.zp x hx)) (hzo x hx)) hokD fun x hx=>hrow x (hDlt x hx) fun e=>hoD (e▸hx)⟩⟩
     ·obtain⟨e2,e3⟩:=q3 e1'
      have:nl0=1:=by
       rcases q2 with q2|q2
       ·rw[←q2];exact e1'
       ·rw[q2]at e1';split at e1'<;>cases e1'
      have h5:=q7 this
      have h6:=congrArg List.length e0
      rw[List.length_append,hpl,e3,List.length_nil]at h6
      exact h5 (List.eq_nil_of_length_eq_zero (by omega))
     ·rw[List.drop_zero,r6,←List.map_append,List.take_of_length_le (by simp)]
     ·have hcl:c∈l:=List.mem_of_mem_drop (List.mem_of_mem_take hc)
      have hfl: ∀x∈c.fp,x∈fpL l:=fun x hx=>by rw[zq7,List.mem_flatMap];exact⟨c,hcl,hx⟩
      exact ok.keep (fun o ho=> .inl ho) (fun x hx=>hrow x (i1.zlt x (i1.zp x hx)) (hzo x hx)) (ga8.1 (by5 rfl hok) c hcl) fun x hx=>hrow x (hlA x (hfl x hx)) fun e=>hol' (e▸hfl x hx))
   (fun x hx=>by
     rw[AT.fp,List.count_cons,if_neg (by simp;omega),xv9,List.count_append,hkc]
     have:=gc1 l (lo*u) (n*u) x;omega)
   (fun x hx=>by
     rw[AT.fp,List.count_cons,xv9,List.count_append]
     have h1:(fpL D).count x=0:=List.count_eq_zero.2 fun hm=>by have:=hDlt x hm;omega
     have h2:(fpL l).count x=0:=List.count_eq_zero.2 fun hm=>by have:=hlA x hm;omega
     have:=gc1 l (lo*u) (n*u) x
     split<;>omega)
   (fun x hx=>by
     rw[AT.fp]at hx
     rw[rl9,hkl]
     rcases List.mem_cons.1 hx with rfl|hx
     ·omega
     ·rw[xv9]at hx
      rcases List.mem_append.1 hx with hx|hx
      ·have:=hlA x (ea8.2 (by have:=ea8.1 hx;have:=gc1 l (lo*u) (n*u) x;omega));omega
      ·have:=hDlt x hx;omega) rfl
  refine⟨_,_,_,_,_,A',Z2,Zp2,rfl, ?_,by simpa [AT.era,hD,nc9,xg5]using st⟩
  unfold aput
  simp only[r1]
  rw[if_pos (by simp[r2,r3,r4,q8,hf];exact r5)]
  rfl
theorem zk4(i:Inv h A Z Zp){s:AV}{ws wx:Value}(hs:VR h A Z Zp s ws){X:VS}(hX:SR h A Z Zp X wx){elem size bytes:Nat}{news:List Tree}{R1:Rts}(hsrc:vsrc (A.map AT.era) size X=some (news,R1)){r:Nat}{p:List Nat}{nl e u:Nat}{cs:List Tree}{lo n:Nat}(hS:vsl R1 s=some (.o r p nl e u cs lo n))(he:e=elem)(hu:u=size)(hf:few (n+news.length/u) bytes=true):
 ∃v h' A' Z' Zp',aapp elem size bytes h ws wx=some (v,h')∧Step h A Z Zp (some (.own R1.length []),rset R1 r p .junk++[.sl nl e u ((cs.drop (lo*u)).take (n*u)++news)],some []) (some v) h' A' Z' Zp':=by
 obtain⟨A1,D,Z1,Zp1,m,b,d,rfl,hD,rfl,hm,hsc,i1,e1,s1,z1,l1⟩:=yj8 i hX hsrc
 obtain⟨sa,n1,c1,v,h',A',Z',Zp',rfl,g1,g2⟩:=nu6 (elem:=elem) i hs hD hm i1 e1 s1 z1 hS he hu hf
 exact⟨v,h',A',Z',Zp',by unfold aapp;simp only[hsc,g1],g2⟩
theorem bb3(i:Inv h A Z Zp)(m:Nat): ∃D Z1 Zp1,eraL D=repT [.v (.int .i64 0)] m∧D.map AT.val=List.replicate m (.int .i64 0)∧m*1=D.length∧Inv h (A++D) Z1 Zp1∧Ext h A Zp h (A++D) Zp1∧(∀o,Z o→Z1 o):=by
 have hr: ∀m:Nat,eraL (List.replicate m (AT.v (.int .i64 0)))=repT [.v (.int .i64 0)] m:=by
  intro m
  induction m with
  |zero=>rfl
  |succ m ih=>rw[List.replicate_succ,repT,←ih];simp[dk4,AT.era]
 have hD:fpL (List.replicate m (AT.v (.int .i64 0)))=[]:=by
  rw[zq7,List.flatMap_eq_nil_iff]
  intro t ht
  rw[List.eq_of_mem_replicate ht];exact v_fp _
 have hk:okL h Zp (List.replicate m (AT.v (.int .i64 0))):=ga8.2 fun t ht=>by
  rw[List.eq_of_mem_replicate ht,ok];trivial
 obtain⟨i1,e1⟩:=Inv.new (h':=h) (A:=A) (C:=[]) (N:=List.replicate m (AT.v (.int .i64 0))) (Zx:=fun _=>False) (by rw[List.append_nil];exact i) (Nat.le_refl _) (fun _ _=>rfl) (okL.keep (fun o ho=> .inl ho) (fun _ _=>rfl) hk fun _ _=>rfl) (fun x _=>by rw[hD];simp) (fun x _=>by rw[hD];simp) (fun o ho=>by rw[hD]at ho;cases ho) (fun o ho=>ho.elim)
 rw[List.append_nil]at e1
 exact⟨_,_,_,hr m,by rw[List.map_replicate];rfl,by simp,i1,e1,fun o ho=> .inl ho⟩
theorem v74(t:Tree): ∀m,(repT [t] m).length=m
 |0=>rfl
 |m+1=>by rw[repT,List.length_append,v74 t m];simp;omega
theorem c39(i:Inv h A Z Zp){s:AV}{ws:Value}(hs:VR h A Z Zp s ws){elem bytes m:Nat}{r:Nat}{p:List Nat}{nl e u:Nat}{cs:List Tree}{lo n:Nat}(hS:vsl (A.map AT.era) s=some (.o r p nl e u cs lo n))(he:e=elem)(hu:u=1)(hf:few (n+m) bytes=true):
 ∃sa n1 c1 v h' A' Z' Zp',ws= .slice sa n1 c1∧aput elem 1 bytes h sa n1 c1 m (List.replicate m (.int .i64 0))=some (v,h')∧Step h A Z Zp (some (.own (A.map AT.era).length []),rset (A.map AT.era) r p .junk++[.sl nl e u ((cs.drop (lo*u)).take (n*u)++repT [.v (.int .i64 0)] m)],some []) (some v) h' A' Z' Zp':=by
 obtain⟨D,Z1,Zp1,hD,hv,hm,i1,e1,z1⟩:=bb3 i m
 rw[←hv]
 exact nu6 i hs hD hm i1 e1 (Stab.refl _ _) z1 hS he hu (by rw[hu,Nat.div_one,v74];exact hf)
end
end Go.Vm
