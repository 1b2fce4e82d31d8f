/-
  The order of operations that hang on nothing of one another does not matter to the small machine. No condition. Two memories of the small machine that are the same but for the names of their objects,  ..
-/
import Derived.Test.YtppbpgmdmiajcaaK0
import Derived.Orders
import Derived.AtR
import Derived.RangeFuncRecord
set_option linter.unusedVariables false
set_option linter.unusedSimpArgs false
set_option linter.unusedSectionVars false
set_option maxRecDepth 100000
namespace Go.Am
def tmpsOf:List Operand→List Nat
 | []=>[]
 | .tmp t::r=>t::tmpsOf r
 |_::r=>tmpsOf r
def AOp.opds:AOp→List Operand
 | .mv x| .eqn _ _ x| .un _ x| .conv _ x| .box _ _ x| .ld _ _ x| .ldb _ _ x| .nilck x| .faddr _ x| .fld _ _ _ x| .len x| .lenS x| .ext _ x| .capt _ _ _ x=>[x]
 | .pick c a b=>[c,a,b]
 | .bin _ x y| .eqb _ x y| .st _ x y| .mks _ _ _ _ x y| .iaddr _ x y| .iaddrA _ _ x y| .idxA _ _ _ x y| .idxS x y| .app _ _ _ x y| .appz _ _ x y| .cpy _ x y| .mget _ _ x y=>[x,y]
 | .alloc .. | .lenK _| .mmk _=>[]
 | .build _ _ ps=>ps.map (·.2)
 | .mkSl _ _ _ xs| .mkf _ xs| .minmax _ xs| .call _ xs=>xs
 | .sl _ x lo hi| .sls x lo hi=>x::(lo.toList++hi.toList)
 | .sl3 x hi mx| .mput _ x hi mx=>[x,hi,mx]
 | .calld x xs=>x::xs
def AOper.looks(o:AOper):List Nat:=tmpsOf o.op.opds++(match o.guard with|some (s,_)=>[s]|none=>[])
def AOp.cls:AOp→Nat
 | .ld .. | .sl .. | .ldb .. | .mget .. =>1
 | .alloc .. | .box .. | .mkSl .. | .mks .. | .call .. | .calld .. | .mmk .. =>2
 | .st .. | .app .. | .cpy .. | .appz .. | .mput .. =>3
 |_=>0
def AOp.isCall:AOp→Bool
 | .call .. | .calld .. =>true
 |_=>false
def AOp.isLd:AOp→Bool
 | .ld .. =>true
 |_=>false
def AOp.isLdb:AOp→Bool
 | .ldb .. =>true
 |_=>false
def AOp.isAppU:AOp→Bool
 | .app _ size _ _ _=>size !=0
 |_=>false
def ts2(a b:AOper):Bool:=
 (match a.dst with|some d=> !b.looks.contains d&&b.dst !=some d|none=>true)&&(match b.dst with|some d=> !a.looks.contains d|none=>true)&&
 (a.op.cls==0||b.op.cls==0||(a.op.cls==1&&b.op.cls==1)||(a.op.cls==1&&b.op.cls==2&&(!b.op.isCall||b.chk))||
  (a.op.cls==2&&b.op.isLd&&(!a.op.isCall||a.chk)&&b.chk)||(a.op.isLdb&&b.op.isAppU))
theorem jz4{fr fr':Fr}: ∀{x:Operand},(∀t∈tmpsOf [x],fr t=fr' t)→ev fr x=ev fr' x
 | .tmp t,h=>h t (by simp[tmpsOf])
 | .const _,_=>rfl
 | .global _,_=>rfl
 | .func _,_=>rfl
theorem zz2{t:Nat}{x:Operand}{xs:List Operand}:t∈tmpsOf (x::xs)↔t∈tmpsOf [x]∨t∈tmpsOf xs:=by
 cases x<;>simp[tmpsOf]
theorem hw4{t:Nat}{xs ys:List Operand}:t∈tmpsOf (xs++ys)↔t∈tmpsOf xs∨t∈tmpsOf ys:=by
 induction xs with
 |nil=>simp[tmpsOf]
 |cons x xs ih=>rw[rs6,zz2,ih,zz2 (xs:=xs),or_assoc]
theorem jb9{fr fr':Fr}: ∀{xs:List Operand},(∀t∈tmpsOf xs,fr t=fr' t)→evs fr xs=evs fr' xs
 | [],_=>rfl
 |x::xs,h=>by
  simp only[evs]
  rw[jz4 (x:=x) fun t ht=>h t (zz2.2 (.inl ht)),jb9 fun t ht=>h t (zz2.2 (.inr ht))]
theorem nj0{fr fr':Fr}: ∀{xs:List (Nat×Operand)},(∀t∈tmpsOf (xs.map (·.2)),fr t=fr' t)→evp fr xs=evp fr' xs
 | [],_=>rfl
 |(i,x)::xs,h=>by
  simp only[evp]
  rw[nf9]at h
  rw[jz4 (x:=x) fun t ht=>h t (zz2.2 (.inl ht)),nj0 fun t ht=>h t (zz2.2 (.inr ht))]
theorem ey1{fr fr':Fr}{x:Option Operand}(h: ∀t∈tmpsOf x.toList,fr t=fr' t):evo fr x=evo fr' x:=by
 cases x with
 |none=>rfl
 |some x=>simp only[evo];rw[jz4 (x:=x) (by simpa using h)]
theorem e66{fr fr':Fr}{op:AOp}(h:H)(he: ∀t∈tmpsOf op.opds,fr t=fr' t):aop fr h op=aop fr' h op:=by
 have one: ∀{x:Operand} {xs:List Operand},(∀t∈tmpsOf (x::xs),fr t=fr' t)→ev fr x=ev fr' x∧ ∀t∈tmpsOf xs,fr t=fr' t:=fun h=>
  ⟨jz4 fun t ht=>h t (zz2.2 (.inl ht)),fun t ht=>h t (zz2.2 (.inr ht))⟩
 cases op<;>simp only[AOp.opds]at he<;>simp only[aop]
 case pick c a b=>
  obtain⟨h1,he⟩:=one he
  obtain⟨h2,he⟩:=one he
  obtain⟨h3,he⟩:=one he
  rw[h1]
  split
  ·rename_i t _
   cases t<;>simp[h2,h3]
  ·rfl
 case build zs pl ps=>rw[nj0 he]
 case mkSl=>rw[jb9 he]
 case mkf=>rw[jb9 he]
 case minmax=>rw[jb9 he]
 case sl size x lo hi=>
  obtain⟨h1,he⟩:=one he
  rw[h1,ey1 (x:=lo) fun t ht=>he t (hw4.2 (.inl ht)),ey1 (x:=hi) fun t ht=>he t (hw4.2 (.inr ht))]
 case sl3 x hi mx=>
  obtain⟨h1,he⟩:=one he
  obtain⟨h2,he⟩:=one he
  obtain⟨h3,he⟩:=one he
  rw[h1,h2,h3]
 case ldb agg n a=>
  obtain⟨h1,he⟩:=one he
  have hbx:bx fr h a=bx fr' h a:=by unfold bx;rw[h1]
  rw[hbx,h1]
 case sls x lo hi=>
  obtain⟨h1,he⟩:=one he
  rw[h1,ey1 (x:=lo) fun t ht=>he t (hw4.2 (.inl ht)),ey1 (x:=hi) fun t ht=>he t (hw4.2 (.inr ht))]
 all_goals first
  |rfl
  |(obtain⟨h1,he⟩:=one he;obtain⟨h2,he⟩:=one he;obtain⟨h3,he⟩:=one he;rw[h1,h2,h3];done)
  |(obtain⟨h1,he⟩:=one he;obtain⟨h2,he⟩:=one he;rw[h1,h2])
  |(obtain⟨h1,he⟩:=one he;rw[h1])
theorem gn3{fr:Fr}{h:H}{op:AOp}{v:Option Value}{h':H}(ha:aop fr h op=some (v,h')):h.length≤h'.length:=by
 have hput: ∀{elem size bytes sa n c m news v h'},aput elem size bytes h sa n c m news=some (v,h')→h.length≤h'.length:=by
  intro elem size bytes sa n c m news v h' hc
  unfold aput at hc
  (repeat' split at hc)<;>first|(cases hc;done)|(cases hc;simp[kill])
 have happ: ∀{elem size bytes s x v h'},aapp elem size bytes h s x=some (v,h')→h.length≤h'.length:=by
  intro elem size bytes s x v h' hc
  unfold aapp aput at hc
  (repeat' split at hc)<;>first|(cases hc;done)|(cases hc;simp[kill])
 have hst: ∀{o off vs h'},H.sts h o off vs=some h'→h.length≤h'.length:=by
  intro o off vs h' hc
  unfold H.sts at hc
  (repeat' split at hc)<;>first|(cases hc;done)|(cases hc;simp)
 have hcp: ∀{size d s v h'},acpy size h d s=some (v,h')→h.length≤h'.length:=by
  intro size d s v h' hc
  unfold acpy at hc
  (repeat' split at hc)<;>first|(cases hc;done)|(cases hc;exact hst ‹_›)|(cases hc;simp)
 cases op<;>simp only[aop]at ha<;>(repeat' split at ha)<;>first
  |(cases ha;done)
  |(cases ha;exact happ ‹_›)
  |(cases ha;exact hput ‹_›)
  |(cases ha;exact hst ‹_›)
  |(cases ha;exact hcp ‹_›)
  |(cases ha;simp)
theorem w20{T:Tab}{g:List ARes→List It→Fr→H→Res}(hg: ∀rs ks fr h v h',g rs ks fr h=some (v,h')→h.length≤h'.length){f vs}{h:H}{v}{h':H}(he:enter T g f vs h=some (v,h')):h.length≤h'.length:=by
 unfold enter at he
 split at he
 ·split at he
  ·exact hg _ _ _ _ _ _ he
  ·cases he
 ·cases he
theorem ya3{α:Type}{chk:Bool}{h h':H}{r:Option α}{x:α}(hb:behind chk h h' r=some x):r=some x∧(chk=true→h<+:h'):=by
 unfold behind at hb
 cases chk with
 |false=>exact⟨hb,fun h=>by cases h⟩
 |true=>simp only at hb;split at hb
        ·exact⟨hb,fun _=> ‹_›⟩
        ·cases hb
theorem sn9{α:Type}{chk:Bool}{h h':H}{r:Option α}(hc:chk=true→h<+:h'):behind chk h h' r=r:=by
 unfold behind
 cases chk with
 |false=>rfl
 |true=>simp only;rw[if_pos (hc rfl)]
theorem jw1{T:Tab}{g:List ARes→List It→Fr→H→Res}(hg: ∀rs ks fr h v h',g rs ks fr h=some (v,h')→h.length≤h'.length){n0 o fr}{h:H}{v}{h':H}(hs:core T g n0 o fr h=some (v,h')):h.length≤h'.length:=by
 unfold core at hs
 split at hs
 ·cases hs;exact jj6 _
 ·split at hs
  ·split at hs
   ·split at hs
    ·rename_i he
     have:=(ya3 hs).1
     cases this
     exact w20 hg he
    ·cases hs
   ·cases hs
  ·split at hs
   ·split at hs
    ·split at hs
     ·rename_i he
      have:=(ya3 hs).1
      cases this
      exact w20 hg he
     ·cases hs
    ·cases hs
   ·cases hs
  ·split at hs
   ·exact gn3 hs
   ·cases hs
 ·cases hs
theorem lr9{T:Tab}{g:List ARes→List It→Fr→H→Res}(hg: ∀rs ks fr h v h',g rs ks fr h=some (v,h')→h.length≤h'.length){n0 o fr}{h:H}{fr'}{h':H}(hs:km6 T g n0 o fr h=some (fr',h')):h.length≤h'.length:=by
 unfold km6 at hs
 split at hs
 ·cases hs;exact jw1 hg ‹_›
 ·cases hs
theorem c80{T:Tab}{g:List ARes→List It→Fr→H→Res}(hg: ∀rs ks fr h v h',g rs ks fr h=some (v,h')→h.length≤h'.length){n0:Nat}: ∀{l fr} {h:H} {fr'} {h':H},gf4 T g n0 l fr h=some (fr',h')→h.length≤h'.length
 | [],fr,h,fr',h',hs=>by cases hs;exact jj6 _
 |o::l,fr,h,fr',h',hs=>by
  simp only[gf4]at hs
  split at hs
  ·exact md7 (lr9 hg ‹_›) (c80 hg hs)
  ·cases hs
theorem oa1{T:Tab}: ∀(n:Nat) rs ks fr h v h',goN T n rs ks fr h=some (v,h')→h.length≤h'.length
 |0,_,_,_,_,_,_,hs=>by cases hs
 |n+1,rs,ks,fr,h,v,h',hs=>by
  have ih:=oa1 (T:=T) n
  have hret: ∀{fr:Fr} {v h'},retv rs fr h=some (v,h')→h.length≤h'.length:=by
   intro fr v h' hr
   unfold retv at hr
   split at hr<;>first|(cases hr;done)|(cases hr;exact jj6 _)
  simp only[goN]at hs
  unfold gF at hs
  split at hs<;>first|exact ih _ _ _ _ _ _ hs|(cases hs;done)|skip
  ·exact hret hs
  ·exact hret hs
  ·split at hs
   ·exact ih _ _ _ _ _ _ hs
   ·cases hs
  ·split at hs
   ·exact ih _ _ _ _ _ _ hs
   ·cases hs
  ·split at hs
   ·exact md7 (c80 ih ‹_›) (ih _ _ _ _ _ _ hs)
   ·cases hs
theorem sl0{T:Tab}{g:List ARes→List It→Fr→H→Res}{n0:Nat}{o:AOper}{fr:Fr}{h:H}:
 km6 T g n0 o fr h=(core T g n0 o fr h).map fun p=>(fr.put o.dst p.1,p.2):=by
 unfold km6
 cases core T g n0 o fr h<;>rfl
theorem qd9{fr fr':Fr}{g:Option (Nat×Bool)}(h: ∀s b,g=some (s,b)→fr s=fr' s):gd fr g=gd fr' g:=by
 cases g with
 |none=>rfl
 |some p=>obtain⟨s,b⟩:=p;have:=h s b rfl;simp only[gd,this]
theorem kn6{fr fr':Fr}{n0:Nat}{o:AOper}(h: ∀t∈tmpsOf o.op.opds,fr t=fr' t):wb6 n0 fr o=wb6 n0 fr' o:=by
 obtain⟨dst,op,guard,chk⟩:=o
 cases chk with
 |false=>cases op<;>rfl
 |true=>
  cases op<;>first|rfl|skip
  rename_i agg n a
  have:=jz4 (fr:=fr) (fr':=fr') (x:=a) h
  simp only[wb6,this]
theorem c52{T:Tab}{g:List ARes→List It→Fr→H→Res}{n0:Nat}{o:AOper}{fr fr':Fr}{h:H}(he: ∀t∈o.looks,fr t=fr' t):core T g n0 o fr h=core T g n0 o fr' h:=by
 have h1: ∀t∈tmpsOf o.op.opds,fr t=fr' t:=fun t ht=>he t (zk7 _ ht)
 have hg:gd fr o.guard=gd fr' o.guard:=qd9 fun s b hgd=>he s (List.mem_append_right _ (by simp[hgd]))
 have ho:wb6 n0 fr o=wb6 n0 fr' o:=kn6 h1
 unfold core
 rw[hg]
 split
 ·rfl
 ·split
  ·rename_i f args hop;rw[hop]at h1;rw[jb9 (xs:=args) h1]
  ·rename_i x args hop
   rw[hop]at h1
   have e1:ev fr x=ev fr' x:=jz4 fun t ht=>h1 t (zz2.2 (.inl ht))
   have e2:evs fr args=evs fr' args:=jb9 fun t ht=>h1 t (zz2.2 (.inr ht))
   rw[e1,e2]
  ·rw[ho,e66 h h1]
 ·rfl
theorem n64{h:H}{b:List Ob}{o:Nat}(ho:o<h.length):H.row (h++b) o=h.row o:=by
 unfold H.row;rw[bu4 ho]
theorem m20{h h':H}(hp:h<+:h'){o:Nat}(ho:o<h.length):h'.row o=h.row o:=by
 obtain⟨t,rfl⟩:=hp
 exact n64 ho
theorem h42{h:H}{o:Nat}{r:Row}(hr:h.row o=some r):o<h.length:=by
 unfold H.row at hr
 split at hr
 ·rename_i hh
  exact(ck5.1 hh).1
 ·cases hr
theorem rf7{T:Tab}{g:List ARes→List It→Fr→H→Res}{n0:Nat}{o:AOper}{fr:Fr}{h:H}(hc:o.op.cls=0){p}(hs:core T g n0 o fr h=some p):p.2=h∧ ∀h2,core T g n0 o fr h2=some (p.1,h2):=by
 unfold core at hs⊢
 split at hs
 ·cases hs;rename_i hg;exact⟨rfl,fun h2=>by simp only⟩
 ·split at hs
  ·rename_i hop;rw[hop]at hc;cases hc
  ·rename_i hop;rw[hop]at hc;cases hc
  ·rename_i hne1 hne2
   split at hs
   ·rename_i hold
    have key: ∀(op:AOp),op.cls=0→ ∀{p},aop fr h op=some p→p.2=h∧ ∀h2,aop fr h2 op=some (p.1,h2):=by
     intro op hc p hp
     cases op<;>simp only[AOp.cls]at hc<;>first|(exfalso;revert hc;decide)|skip
     all_goals (simp only[aop]at hp⊢)
     all_goals ((repeat' split at hp)<;>first|(cases hp;done)|(cases hp;exact⟨rfl,fun h2=>by simp_all⟩))
    obtain⟨h1,h2⟩:=key o.op hc hs
    exact⟨h1,fun h3=>by rw[if_pos hold];exact h2 h3⟩
   ·cases hs
 ·cases hs
theorem vd3{fr:Fr}{h h2:H}{a:Operand}(h12:h<+:h2)(hb:bx fr h a=true):bx fr h2 a=true:=by
 unfold bx at hb⊢
 split at hb
 ·unfold boxed at hb⊢
  split at hb
  ·rename_i hr
   rw[m20 h12 (h42 hr),hr];exact hb
  ·cases hb
 ·cases hb
theorem bh5{fr:Fr}{h:H}{agg:Bool}{n:Nat}{a:Operand}{p:Option Value×H}(hp:aop fr h (.ld agg n a)=some p):p.2=h∧ ∀h2,h<+:h2→aop fr h2 (.ld agg n a)=some (p.1,h2):=by
 simp only[aop]at hp⊢
 split at hp
 ·split at hp
  ·cases hp
  ·rename_i hsp
   split at hp
   ·split at hp
    ·rename_i hl
     cases hp
     refine⟨rfl,fun h2 h12=> ?_⟩
     rw[if_neg hsp]
     unfold H.lds at hl
     split at hl
     ·rename_i r hr
      unfold H.lds
      rw[m20 h12 (h42 hr),hr]
      simp only at hl⊢
      rw[hl]
     ·cases hl
    ·cases hp
   ·split at hp
    ·rename_i hl
     cases hp
     refine⟨rfl,fun h2 h12=> ?_⟩
     rw[if_neg hsp]
     unfold H.ld1 at hl
     split at hl
     ·rename_i r hr
      unfold H.ld1
      rw[m20 h12 (h42 hr),hr]
      simp only at hl⊢
      rw[hl]
     ·cases hl
    ·cases hp
 ·cases hp
theorem sl5{T:Tab}{g:List ARes→List It→Fr→H→Res}{n0:Nat}{o:AOper}{fr:Fr}{h:H}(hc:o.op.cls=1){p}(hs:core T g n0 o fr h=some p):p.2=h∧ ∀h2,h<+:h2→core T g n0 o fr h2=some (p.1,h2):=by
 unfold core at hs⊢
 split at hs
 ·cases hs;exact⟨rfl,fun h2 _=>by simp only⟩
 ·split at hs
  ·rename_i hop;rw[hop]at hc;cases hc
  ·rename_i hop;rw[hop]at hc;cases hc
  ·split at hs
   ·rename_i hold
    have key: ∀(op:AOp),op.cls=1→ ∀{p},aop fr h op=some p→p.2=h∧ ∀h2,h<+:h2→aop fr h2 op=some (p.1,h2):=by
     intro op hc p hp
     cases op<;>simp only[AOp.cls]at hc<;>first|(exfalso;revert hc;decide)|skip
     case ld agg n a=>exact bh5 hp
     case mget kd z m k=>
      obtain⟨o,i,r,v,h1,h2,h3,h4,h5,rfl⟩:=oe0.1 hp
      exact⟨rfl,fun h2' h12=>oe0.2 ⟨o,i,r,v,h1,h2,(m20 h12 (h42 h3)).trans h3,h4,h5,rfl⟩⟩
     case ldb agg n a=>
      obtain⟨hb,hp⟩:=zx2 hp
      obtain⟨e1,e2⟩:=bh5 hp
      exact⟨e1,fun h2 h12=>by rw[fd7,if_pos (vd3 h12 hb)];exact e2 h2 h12⟩
     case sl size x lo hi=>
      simp only[aop]at hp⊢
      split at hp
      ·rename_i sa l c _ _ _ _ _
       split at hp
       ·rename_i hcond
        cases hp
        refine⟨rfl,fun h2 h12=> ?_⟩
        have hu:ss4 h2 size sa=true:=by
         have:=hcond.2.2.2
         unfold ss4 at this⊢
         cases sa with
         |none=>rfl
         |some p=>
          simp only at this⊢
          split at this
          ·rename_i r hr
           rw[m20 h12 (h42 hr),hr]
           exact this
          ·cases this
        rw[if_pos ⟨hcond.1,hcond.2.1,hcond.2.2.1,hu⟩]
       ·cases hp
      ·cases hp
    obtain⟨h1,h2⟩:=key o.op hc hs
    exact⟨h1,fun h3 h13=>by rw[if_pos hold];exact h2 h3 h13⟩
   ·cases hs
 ·cases hs
theorem uh4{T:Tab}{g:List ARes→List It→Fr→H→Res}{n0:Nat}{o:AOper}{fr:Fr}{h:H}(hc:o.op.cls=2)(hk:(!o.op.isCall||o.chk)=true){p}(hs:core T g n0 o fr h=some p):h<+:p.2:=by
 unfold core at hs
 split at hs
 ·cases hs;exact je0 _
 ·split at hs
  ·rename_i hop
   rw[hop]at hk
   split at hs
   ·split at hs
    ·obtain⟨h1,h2⟩:=ya3 hs
     cases h1
     exact h2 (by simpa [AOp.isCall]using hk)
    ·cases hs
   ·cases hs
  ·rename_i hop
   rw[hop]at hk
   split at hs
   ·split at hs
    ·split at hs
     ·obtain⟨h1,h2⟩:=ya3 hs
      cases h1
      exact h2 (by simpa [AOp.isCall]using hk)
     ·cases hs
    ·cases hs
   ·cases hs
  ·rename_i hne1 hne2
   split at hs
   ·have key: ∀(op:AOp),op.cls=2→(∀f xs,op≠ .call f xs)→(∀x xs,op≠ .calld x xs)→ ∀{p},aop fr h op=some p→h<+:p.2:=by
     intro op hc n1 n2 p hp
     cases op<;>simp only[AOp.cls]at hc<;>first|(exfalso;revert hc;decide)|skip
     case call=>exact absurd rfl (n1 _ _)
     case calld=>exact absurd rfl (n2 _ _)
     all_goals (simp only[aop]at hp)
     all_goals ((repeat' split at hp)<;>first|(cases hp;done)|(cases hp;exact w63 _ _))
    exact key o.op hc (fun f xs he=>hne1 f xs he) (fun x xs he=>hne2 x xs he) hs
   ·cases hs
 ·cases hs
theorem j47{T:Tab}{g:List ARes→List It→Fr→H→Res}{n0:Nat}{o:AOper}{fr:Fr}{h h2:H}(hl:o.op.isLd=true)(hck:o.chk=true)(hn:n0≤h.length)(h12:h<+:h2){p}(hs:core T g n0 o fr h2=some p):
 p.2=h2∧core T g n0 o fr h=some (p.1,h):=by
 unfold core at hs⊢
 split at hs
 ·cases hs;exact⟨rfl,rfl⟩
 ·cases hop:o.op<;>rw[hop]at hl<;>first|(cases hl;done)|skip
  rename_i agg n a
  rw[hop]at hs
  simp only at hs⊢
  split at hs
  ·rename_i hold
   rw[if_pos hold]
   unfold wb6 at hold
   rw[hck,hop]at hold
   simp only at hold
   simp only[aop]at hs⊢
   split at hs
   ·rename_i ad had
    rw[had]at hold
    simp only[jn8]at hold
    split at hs
    ·cases hs
    ·rename_i hsp
     simp only[hsp,wj1,o35]
     have hrow:h2.row ad.block=h.row ad.block:=m20 h12 (by omega)
     split at hs
     ·split at hs
      ·rename_i hlds
       cases hs
       refine⟨rfl, ?_⟩
       unfold H.lds at hlds⊢
       rw[hrow]at hlds
       rw[hlds]
      ·cases hs
     ·split at hs
      ·rename_i hlds
       cases hs
       refine⟨rfl, ?_⟩
       unfold H.ld1 at hlds⊢
       rw[hrow]at hlds
       rw[hlds]
      ·cases hs
   ·cases hs
  ·cases hs
 ·cases hs
theorem ef4{T:Tab}{g:List ARes→List It→Fr→H→Res}{n0:Nat}{o1 o2:AOper}(h1:o1.op.isLdb=true)(h2:o2.op.isAppU=true){fr:Fr}{h:H}{p1 p2}(s1:core T g n0 o1 fr h=some p1)(s2:core T g n0 o2 fr h=some p2):
 p1.2=h∧core T g n0 o1 fr p2.2=some (p1.1,p2.2):=by
 have hc1:o1.op.cls=1:=by cases hop:o1.op<;>rw[hop]at h1<;>first|rfl|cases h1
 refine⟨(sl5 hc1 s1).1, ?_⟩
 have hkeep: ∀o r,h.row o=some r→r.unit=0→H.row p2.2 o=some r:=by
  intro o r hr hu
  have hlt:=h42 hr
  unfold core at s2
  split at s2
  ·cases s2;exact hr
  ·cases hop:o2.op<;>rw[hop]at h2<;>first|(cases h2;done)|skip
   rename_i elem size bytes s x
   have hsz:size≠0:=by simpa [AOp.isAppU]using h2
   rw[hop]at s2
   simp only at s2
   split at s2
   ·simp only[aop]at s2
    split at s2
    ·split at s2
     ·rename_i hap
      cases s2
      unfold aapp aput at hap
      split at hap<;>first|(cases hap;done)|skip
      split at hap<;>first|(cases hap;done)|skip
      split at hap
      ·split at hap<;>first|(cases hap;done)|skip
       split at hap
       ·cases hap;exact hr
       ·split at hap
        ·cases hap;rw[n64 hlt];exact hr
        ·cases hap
      ·split at hap<;>first|(cases hap;done)|skip
       rename_i r2 hr2
       split at hap
       ·rename_i hcond
        cases hap
        simp only[b83,ui3]at hcond
        rw[n64 (by simp[kill];exact hlt)]
        unfold kill
        show(match(h.set _ Ob.dead)[o]? with|some (.row r)=>some r|_=>none)=some r
        rw[b17]
        ·exact hr
        ·rintro rfl
         rw[hr]at hr2
         cases hr2
         exact hsz (hcond.1.1.1.2.symm.trans hu)
       ·cases hap
     ·cases s2
    ·cases s2
   ·cases s2
  ·cases s2
 unfold core at s1⊢
 split at s1
 ·cases s1;rfl
 ·cases hop:o1.op<;>rw[hop]at h1<;>first|(cases h1;done)|skip
  rename_i agg n a
  rw[hop]at s1
  simp only at s1⊢
  split at s1
  ·rename_i hold
   rw[if_pos hold]
   obtain⟨hb,hl⟩:=zx2 s1
   have hb':=hb
   unfold bx at hb'
   cases hev:ev fr a with
   |none=>rw[hev]at hb';cases hb'
   |some v=>
    rw[hev]at hb'
    split at hb'
    ·rename_i ad e
     cases e
     unfold boxed at hb'
     split at hb'
     ·rename_i r hr
      have hu:r.unit=0:=by simpa using hb'
      have hk:=hkeep _ r hr hu
      have hb2:bx fr p2.2 a=true:=by unfold bx boxed;rw[hev];simp only[hk];simpa using hu
      rw[fd7,if_pos hb2]
      simp only[aop,hev]at hl⊢
      split at hl
      ·cases hl
      ·rename_i hsp
       rw[if_neg hsp]
       have e1: ∀off n,H.lds p2.2 ad.block off n=h.lds ad.block off n:=fun off n=>by unfold H.lds;rw[hk,hr]
       have e2: ∀off,H.ld1 p2.2 ad.block off=h.ld1 ad.block off:=fun off=>by unfold H.ld1;rw[hk,hr]
       rw[e1,e2]
       cases agg with
       |true=>
        simp only at hl⊢
        split at hl
        ·rename_i hl2;cases hl;rfl
        ·cases hl
       |false=>
        simp only at hl⊢
        split at hl
        ·rename_i hl2;cases hl;rfl
        ·cases hl
     ·cases hb'
    ·cases hb'
  ·cases s1
 ·cases s1
theorem dd0{fr:Fr}{d:Option Nat}{v:Option Value}{t:Nat}(h:d≠some t):fr.put d v t=fr t:=by
 cases d with
 |none=>rfl
 |some s=>
  have hne:Nat.beq t s=false:=by
   cases hb:Nat.beq t s with
   |false=>rfl
   |true=>exact absurd (by rw[bg4 hb]) h
  cases v with
  |none=>simp[Fr.put,Fr.del,hne]
  |some v=>simp[Fr.put,Fr.set,hne]
theorem bg1{fr fr':Fr}{s:Nat}{v:Option Value}:fr.put (some s) v s=fr'.put (some s) v s:=by
 cases v<;>simp[Fr.put,Fr.del,Fr.set]
theorem put_comm{fr:Fr}{d e:Option Nat}{v u:Option Value}(h: ∀s,d=some s→e≠some s):(fr.put d v).put e u=(fr.put e u).put d v:=by
 funext t
 by_cases h1:e=some t
 ·have h2:d≠some t:=fun h3=>h t h3 h1
  rw[dd0 (d:=d) h2,h1]
  exact bg1
 ·rw[dd0 h1]
  by_cases h2:d=some t
  ·rw[h2];exact bg1
  ·rw[dd0 h2,dd0 h2,dd0 h1]
theorem swap{T:Tab}{g:List ARes→List It→Fr→H→Res}{n0:Nat}{o1 o2:AOper}(hs:ts2 o1 o2=true){fr fr1 fr2:Fr}{h h1 h2:H}(hn:n0≤h.length)
 (s1:km6 T g n0 o1 fr h=some (fr1,h1)) (s2:km6 T g n0 o2 fr1 h1=some (fr2,h2)):
 ∃fr1' h1',km6 T g n0 o2 fr h=some (fr1',h1')∧km6 T g n0 o1 fr1' h1'=some (fr2,h2):=by
 simp only[ts2,b83]at hs
 obtain⟨⟨ha,hb⟩,hcls⟩:=hs
 have d1: ∀d,o1.dst=some d→d∉o2.looks∧o2.dst≠some d:=by
  intro d hd
  rw[hd]at ha
  simpa using ha
 have d2: ∀d,o2.dst=some d→d∉o1.looks:=by
  intro d hd
  rw[hd]at hb
  simpa using hb
 rw[sl0]at s1 s2
 cases c1:core T g n0 o1 fr h with
 |none=>rw[c1]at s1;cases s1
 |some p1=>
  rw[c1]at s1
  simp only[eb5,hx3,br6]at s1
  obtain⟨rfl,rfl⟩:=s1
  cases c2:core T g n0 o2 (fr.put o1.dst p1.1) p1.2 with
  |none=>rw[c2]at s2;cases s2
  |some p2=>
   rw[c2]at s2
   simp only[eb5,hx3,br6]at s2
   obtain⟨rfl,rfl⟩:=s2
   have e2: ∀h,core T g n0 o2 (fr.put o1.dst p1.1) h=core T g n0 o2 fr h:=fun h=>c52 fun t ht=>dd0 fun hd=>(d1 t hd).1 ht
   have e1: ∀u h,core T g n0 o1 (fr.put o2.dst u) h=core T g n0 o1 fr h:=fun u h=>c52 fun t ht=>dd0 fun hd=>d2 t hd ht
   rw[e2]at c2
   have fin: ∀h1',core T g n0 o2 fr h=some (p2.1,h1')→core T g n0 o1 fr h1'=some (p1.1,p2.2)→
    ∃fr1' h1',km6 T g n0 o2 fr h=some (fr1',h1')∧km6 T g n0 o1 fr1' h1'=some ((fr.put o1.dst p1.1).put o2.dst p2.1,p2.2):=by
    intro h1' k1 k2
    refine⟨fr.put o2.dst p2.1,h1',by rw[sl0,k1];rfl, ?_⟩
    rw[sl0,e1,k2]
    simp only[eb5,hx3,br6,and_true]
    exact(put_comm fun s h1 h2=>(d1 s h1).2 h2).symm
   simp only[ey6,b83,ui3]at hcls
   rcases hcls with((((h0|h0)|⟨h0,h0'⟩)|⟨⟨h0,h0'⟩,hk⟩)|⟨⟨⟨h0,hl⟩,hk⟩,hck⟩)|⟨hb1,hb2⟩
   ·obtain⟨q1,q2⟩:=rf7 h0 c1
    rw[q1]at c2
    exact fin p2.2 c2 (q2 _)
   ·obtain⟨q1,q2⟩:=rf7 h0 c2
    exact fin h (q2 h) (by rw[q1];exact c1)
   ·obtain⟨q1,q2⟩:=sl5 h0 c1
    rw[q1]at c2
    obtain⟨q3,q4⟩:=sl5 h0' c2
    exact fin p2.2 c2 (by rw[q3];exact q2 h (je0 _))
   ·obtain⟨q1,q2⟩:=sl5 h0 c1
    rw[q1]at c2
    exact fin p2.2 c2 (q2 _ (uh4 h0' (by simpa using hk) c2))
   ·have q1:=uh4 h0 (by simpa using hk) c1
    obtain⟨q2,q3⟩:=j47 hl hck hn q1 c2
    exact fin h q3 (by rw[q2];exact c1)
   ·have hc1:o1.op.cls=1:=by cases hop:o1.op<;>rw[hop]at hb1<;>first|rfl|cases hb1
    rw[(sl5 hc1 c1).1]at c2
    exact fin p2.2 c2 (ef4 hb1 hb2 c1 c2).2
end Go.Am
namespace Go.Am
def plain:Value→Bool
 | .pointer (some _)| .slice (some _) _ _| .map (some _)| .func .. | .agg _| .tuple _=>false
 |_=>true
abbrev Rel:=Nat→Nat→Prop
inductive E (ρ:Rel) (n:Nat):Value→Value→Prop
 |atom (v:Value):plain v=true→E ρ n v v
 |ptr (o o2 off:Nat):ρ o o2→o<n→E ρ n (.pointer (some ⟨o,off,none⟩)) (.pointer (some ⟨o2,off,none⟩))
 |sl (o o2 off l c:Nat):ρ o o2→o<n→E ρ n (.slice (some ⟨o,off,none⟩) l c) (.slice (some ⟨o2,off,none⟩) l c)
 |mp (o o2:Nat):ρ o o2→o<n→E ρ n (.map (some o)) (.map (some o2))
 |func (f:FuncId) (cs cs2:Array Value):cs.size=cs2.size→(∀i (h:i<cs.size) (h':i<cs2.size),E ρ n cs[i] cs2[i])→E ρ n (.func (.func f) #[] cs) (.func (.func f) #[] cs2)
 |agg (cs cs2:Array Value):cs.size=cs2.size→(∀i (h:i<cs.size) (h':i<cs2.size),E ρ n cs[i] cs2[i])→E ρ n (.agg cs) (.agg cs2)
 |tuple (cs cs2:Array Value):cs.size=cs2.size→(∀i (h:i<cs.size) (h':i<cs2.size),E ρ n cs[i] cs2[i])→E ρ n (.tuple cs) (.tuple cs2)
theorem E.mono{ρ ρ':Rel}{n n':Nat}{v v2:Value}(h:E ρ n v v2)(hr: ∀o o2,o<n→ρ o o2→ρ' o o2∧o<n'):E ρ' n' v v2:=by
 induction h with
 |atom v hp=>exact .atom v hp
 |ptr o o2 off h1 h2=>exact .ptr o o2 off (hr _ _ h2 h1).1 (hr _ _ h2 h1).2
 |sl o o2 off l c h1 h2=>exact .sl o o2 off l c (hr _ _ h2 h1).1 (hr _ _ h2 h1).2
 |mp o o2 h1 h2=>exact .mp o o2 (hr _ _ h2 h1).1 (hr _ _ h2 h1).2
 |func f cs cs2 hs _ ih=>exact .func f cs cs2 hs ih
 |agg cs cs2 hs _ ih=>exact .agg cs cs2 hs ih
 |tuple cs cs2 hs _ ih=>exact .tuple cs cs2 hs ih
theorem E.comp{ρ σ τ:Rel}{n m k:Nat}{v v2 v3:Value}(h:E ρ n v v2)(h2:E σ m v2 v3)(hr: ∀o o2 o3,ρ o o2→o<n→σ o2 o3→o2<m→τ o o3∧o<k):E τ k v v3:=by
 induction h generalizing v3 with
 |atom v hp=>
  cases h2 with
  |atom _ _=>exact .atom v hp
  |ptr=>cases hp
  |sl=>cases hp
  |mp=>cases hp
  |func=>cases hp
  |agg=>cases hp
  |tuple=>cases hp
 |ptr o o2 off h1 hn=>cases h2 with
  |ptr _ o3 _ h3 hm=>exact .ptr _ _ _ (hr _ _ _ h1 hn h3 hm).1 (hr _ _ _ h1 hn h3 hm).2
  |atom _ hp=>cases hp
 |sl o o2 off l c h1 hn=>cases h2 with
  |sl _ o3 _ _ _ h3 hm=>exact .sl _ _ _ _ _ (hr _ _ _ h1 hn h3 hm).1 (hr _ _ _ h1 hn h3 hm).2
  |atom _ hp=>cases hp
 |mp o o2 h1 hn=>cases h2 with
  |mp _ o3 h3 hm=>exact .mp _ _ (hr _ _ _ h1 hn h3 hm).1 (hr _ _ _ h1 hn h3 hm).2
  |atom _ hp=>cases hp
 |func f cs cs2 hs _ ih=>cases h2 with
  |func _ _ cs3 hs2 h4=>exact .func _ _ _ (hs.trans hs2) fun i h h'=>ih i h (by omega) (h4 i (by omega) h')
  |atom _ hp=>cases hp
 |agg cs cs2 hs _ ih=>cases h2 with
  |agg _ cs3 hs2 h4=>exact .agg _ _ (hs.trans hs2) fun i h h'=>ih i h (by omega) (h4 i (by omega) h')
  |atom _ hp=>cases hp
 |tuple cs cs2 hs _ ih=>cases h2 with
  |tuple _ cs3 hs2 h4=>exact .tuple _ _ (hs.trans hs2) fun i h h'=>ih i h (by omega) (h4 i (by omega) h')
  |atom _ hp=>cases hp
theorem E.eq{n:Nat}{v v2:Value}(h:E Eq n v v2):v=v2:=by
 have arr: ∀{cs cs2:Array Value},cs.size=cs2.size→(∀i (h:i<cs.size) (h':i<cs2.size),cs[i]=cs2[i])→cs=cs2:=fun hs ih=>Array.ext hs ih
 induction h with
 |atom v hp=>rfl
 |ptr o o2 off h1 hn=>cases h1;rfl
 |sl o o2 off l c h1 hn=>cases h1;rfl
 |mp o o2 h1 hn=>cases h1;rfl
 |func f cs cs2 hs _ ih=>rw[arr hs ih]
 |agg cs cs2 hs _ ih=>rw[arr hs ih]
 |tuple cs cs2 hs _ ih=>rw[arr hs ih]
theorem E.symm{ρ:Rel}{n m:Nat}{v v2:Value}(h:E ρ n v v2)(hr: ∀o o2,ρ o o2→o<n→o2<m):E (fun a b=>ρ b a) m v2 v:=by
 induction h with
 |atom v hp=>exact .atom v hp
 |ptr o o2 off h1 h2=>exact .ptr _ _ _ h1 (hr _ _ h1 h2)
 |sl o o2 off l c h1 h2=>exact .sl _ _ _ _ _ h1 (hr _ _ h1 h2)
 |mp o o2 h1 h2=>exact .mp _ _ h1 (hr _ _ h1 h2)
 |func f cs cs2 hs _ ih=>exact .func _ _ _ hs.symm fun i h h'=>ih i h' h
 |agg cs cs2 hs _ ih=>exact .agg _ _ hs.symm fun i h h'=>ih i h' h
 |tuple cs cs2 hs _ ih=>exact .tuple _ _ hs.symm fun i h h'=>ih i h' h
def LE(ρ:Rel)(n:Nat)(l l2:List Value):Prop:=l.length=l2.length∧ ∀(i:Nat) (v:Value),l[i]? =some v→ ∃v2,l2[i]? =some v2∧E ρ n v v2
section
variable {ρ:Rel} {n:Nat}
theorem LE.nil:LE ρ n [] []:=⟨rfl,fun i v h=>by simp at h⟩
theorem LE.cons{v v2:Value}{l l2:List Value}(hv:E ρ n v v2)(hl:LE ρ n l l2):LE ρ n (v::l) (v2::l2):=by
 refine⟨by simp[hl.1],fun i u h=> ?_⟩
 cases i with
 |zero=>simp at h;subst h;exact⟨v2,rfl,hv⟩
 |succ i=>simpa using hl.2 i u (by simpa using h)
theorem LE.mono{ρ':Rel}{n':Nat}{l l2:List Value}(h:LE ρ n l l2)(hr: ∀o o2,o<n→ρ o o2→ρ' o o2∧o<n'):LE ρ' n' l l2:=
 ⟨h.1,fun i v hv=>let⟨v2,h1,h2⟩:=h.2 i v hv;⟨v2,h1,h2.mono hr⟩⟩
theorem LE.up{n':Nat}{l l2:List Value}(h:LE ρ n l l2)(hn:n≤n'):LE ρ n' l l2:=h.mono fun o o2 h1 h2=>⟨h2,by omega⟩
theorem LE.append{a a2 b b2:List Value}(ha:LE ρ n a a2)(hb:LE ρ n b b2):LE ρ n (a++b) (a2++b2):=by
 refine⟨by simp[ha.1,hb.1],fun i v h=> ?_⟩
 by_cases hi:i<a.length
 ·rw[bu4 hi]at h
  rw[bu4 (by rw[←ha.1];exact hi)]
  exact ha.2 i v h
 ·rw[lp1 (by omega)]at h
  rw[lp1 (by rw[←ha.1];omega),←ha.1]
  exact hb.2 _ v h
theorem LE.take{a a2:List Value}(ha:LE ρ n a a2)(k:Nat):LE ρ n (a.take k) (a2.take k):=by
 refine⟨by simp[ha.1],fun i v h=> ?_⟩
 rw[td4]at h⊢
 split at h
 ·rw[if_pos ‹_›];exact ha.2 i v h
 ·cases h
theorem LE.drop{a a2:List Value}(ha:LE ρ n a a2)(k:Nat):LE ρ n (a.drop k) (a2.drop k):=by
 refine⟨by simp[ha.1],fun i v h=> ?_⟩
 rw[s96]at h⊢
 exact ha.2 _ v h
theorem LE.hu1{a a2 b b2:List Value}(ha:LE ρ n a a2)(hb:LE ρ n b b2)(off:Nat):LE ρ n (hu1 a off b) (hu1 a2 off b2):=by
 unfold Am.hu1
 rw[hb.1]
 exact((ha.take off).append hb).append (ha.drop _)
theorem LE.of_arrays{cs cs2:Array Value}(hs:cs.size=cs2.size)(h: ∀i (h:i<cs.size) (h':i<cs2.size),E ρ n cs[i] cs2[i]):LE ρ n cs.toList cs2.toList:=by
 refine⟨by simpa using hs,fun i v hv=> ?_⟩
 rw[Array.getElem?_toList]at hv⊢
 obtain⟨hi,he⟩:=un8.1 hv
 exact⟨cs2[i]'(by omega),by simp[hs▸hi],he▸h i hi (by omega)⟩
theorem LE.arrays{l l2:List Value}(h:LE ρ n l l2): ∀i (h:i<l.toArray.size) (h':i<l2.toArray.size),E ρ n l.toArray[i] l2.toArray[i]:=by
 intro i h1 h2
 obtain⟨v',h3,h4⟩:=h.2 i l[i] (by simp[wu3 (show i<l.length by simpa using h1)])
 simp at h1 h2⊢
 rw[wu3 h2]at h3
 simp at h3
 rw[h3];exact h4
theorem LE.agg{l l2:List Value}(h:LE ρ n l l2):E ρ n (.agg l.toArray) (.agg l2.toArray):= .agg _ _ (by simpa using h.1) h.arrays
theorem LE.tuple{l l2:List Value}(h:LE ρ n l l2):E ρ n (.tuple l.toArray) (.tuple l2.toArray):= .tuple _ _ (by simpa using h.1) h.arrays
theorem LE.func{l l2:List Value}(f:FuncId)(h:LE ρ n l l2):E ρ n (.func (.func f) #[] l.toArray) (.func (.func f) #[] l2.toArray):= .func _ _ _ (by simpa using h.1) h.arrays
theorem LE.none{l l2:List Value}(h:LE ρ n l l2){i:Nat}(hi:l[i]? =Option.none):l2[i]? =Option.none:=by
 rw[fu5]at hi⊢;rw[←h.1];exact hi
theorem LE.comp{σ τ:Rel}{m k:Nat}{l l2 l3:List Value}(h:LE ρ n l l2)(h2:LE σ m l2 l3)(hr: ∀o o2 o3,ρ o o2→o<n→σ o2 o3→o2<m→τ o o3∧o<k):LE τ k l l3:=
 ⟨h.1.trans h2.1,fun i v hv=>let⟨v2,h3,h4⟩:=h.2 i v hv;let⟨v3,h5,h6⟩:=h2.2 i v2 h3;⟨v3,h5,h4.comp h6 hr⟩⟩
theorem LE.symm{m:Nat}{l l2:List Value}(h:LE ρ n l l2)(hr: ∀o o2,ρ o o2→o<n→o2<m):LE (fun a b=>ρ b a) m l2 l:=
 ⟨h.1.symm,fun i v hv=>by
   have hi:i<l.length:=by rw[h.1];exact(ck5.1 hv).1
   obtain⟨v2,h1,h2⟩:=h.2 i l[i] (wu3 hi)
   rw[hv]at h1;cases h1
   exact⟨_,wu3 hi,h2.symm hr⟩⟩
theorem LE.eq{l l2:List Value}(h:LE Eq n l l2):l=l2:=by
 refine v63 fun i=> ?_
 cases hl:l[i]? with
 |none=>rw[h.none hl]
 |some v=>obtain⟨v2,h1,h2⟩:=h.2 i v hl;rw[h1,h2.eq]
theorem E.pl{v v2:Value}(h:E ρ n v v2)(hp:plain v=true):v2=v:=by
 cases h<;>first|rfl|cases hp
theorem E.int{k:IntKind}{i:Int}{v2:Value}(h:E ρ n (.int k i) v2):v2= .int k i:=h.pl rfl
theorem E.bool{b:Bool}{v2:Value}(h:E ρ n (.bool b) v2):v2= .bool b:=h.pl rfl
theorem E.str{b:ByteArray}{v2:Value}(h:E ρ n (.string b) v2):v2= .string b:=h.pl rfl
theorem E.bq1{a:Addr}{v2:Value}(h:E ρ n (.pointer (some a)) v2): ∃o2,a.spot=none∧ρ a.block o2∧a.block<n∧v2= .pointer (some ⟨o2,a.off,none⟩):=by
 cases h with
 |ptr o o2 off h1 h2=>exact⟨o2,rfl,h1,h2,rfl⟩
 |atom _ hp=>cases hp
theorem E.wy5{a:Addr}{l c:Nat}{v2:Value}(h:E ρ n (.slice (some a) l c) v2): ∃o2,a.spot=none∧ρ a.block o2∧a.block<n∧v2= .slice (some ⟨o2,a.off,none⟩) l c:=by
 cases h with
 |sl o o2 off l c h1 h2=>exact⟨o2,rfl,h1,h2,rfl⟩
 |atom _ hp=>cases hp
theorem E.mp_inv{o:Nat}{v2:Value}(h:E ρ n (.map (some o)) v2): ∃o2,ρ o o2∧o<n∧v2= .map (some o2):=by
 cases h with
 |mp _ o2 h1 h2=>exact⟨o2,h1,h2,rfl⟩
 |atom _ hp=>cases hp
theorem E.lg1{cs:Array Value}{v2:Value}(h:E ρ n (.agg cs) v2): ∃cs2,v2= .agg cs2∧LE ρ n cs.toList cs2.toList:=by
 cases h with
 |agg _ cs2 hs hh=>exact⟨cs2,rfl,LE.of_arrays hs hh⟩
 |atom _ hp=>cases hp
theorem E.da1{cs:Array Value}{v2:Value}(h:E ρ n (.tuple cs) v2): ∃cs2,v2= .tuple cs2∧LE ρ n cs.toList cs2.toList:=by
 cases h with
 |tuple _ cs2 hs hh=>exact⟨cs2,rfl,LE.of_arrays hs hh⟩
 |atom _ hp=>cases hp
theorem E.func_inv{c:Fn}{first cs:Array Value}{v2:Value}(h:E ρ n (.func c first cs) v2): ∃f cs2,c= .func f∧first= #[]∧v2= .func (.func f) #[] cs2∧LE ρ n cs.toList cs2.toList:=by
 cases h with
 |func f _ cs2 hs hh=>exact⟨f,cs2,rfl,rfl,rfl,LE.of_arrays hs hh⟩
 |atom _ hp=>cases hp
theorem E.cells{v v2:Value}(h:E ρ n v v2):LE ρ n v.cells.toList v2.cells.toList:=by
 cases h with
 |agg cs cs2 hs hh=>exact LE.of_arrays hs hh
 |atom v hp=>
  cases v<;>first|(cases hp;done)|exact LE.cons (.atom _ hp) LE.nil
 |ptr o o2 off h1 h2=>exact LE.cons (.ptr _ _ _ h1 h2) LE.nil
 |sl o o2 off l c h1 h2=>exact LE.cons (.sl _ _ _ _ _ h1 h2) LE.nil
 |mp o o2 h1 h2=>exact LE.cons (.mp _ _ h1 h2) LE.nil
 |func f cs cs2 hs hh=>exact LE.cons (.func _ _ _ hs hh) LE.nil
 |tuple cs cs2 hs hh=>exact LE.cons (.tuple _ _ hs hh) LE.nil
theorem E.cells_size{v v2:Value}(h:E ρ n v v2):v2.cells.size=v.cells.size:=by have:=h.cells.1;simpa using this.symm
theorem E.flat{v v2:Value}(h:E ρ n v v2):flat v2=flat v:=by cases h<;>rfl
theorem E.one{v v2:Value}(h:E ρ n v v2):v2.oneCell'=v.oneCell':=by cases h<;>rfl
theorem gk5{v:Value}(h:tc5 v=true):E ρ n v v:=by
 unfold tc5 at h
 split at h<;>first|(cases h;done)|exact .atom _ rfl
theorem ni8{v:Value}(h:closed v=true):E ρ n v v:=by
 unfold closed at h
 split at h
 ·rename_i cs
  rw[Array.all_eq_true]at h
  exact .agg cs cs rfl fun i hi _=>gk5 (h i hi)
 ·rename_i cs
  rw[Array.all_eq_true]at h
  exact .tuple cs cs rfl fun i hi _=>gk5 (h i hi)
 ·exact gk5 h
theorem LE.rep{l l2:List Value}(h:LE ρ n l l2): ∀k,LE ρ n (rep l k) (rep l2 k)
 |0=>LE.nil
 |k+1=>h.append (LE.rep h k)
end
end Go.Am
namespace Go.Am
def OE(ρ:Rel)(n:Nat):Option Ob→Option Ob→Prop
 |none,none=>True
 |some .dead,some .dead=>True
 |some (.row r),some (.row r2)=>r.elem=r2.elem∧r.unit=r2.unit∧r.own=r2.own∧LE ρ n r.cells r2.cells
 |_,_=>False
theorem OE.mono{ρ ρ':Rel}{n n':Nat}{a b:Option Ob}(h:OE ρ n a b)(hr: ∀o o2,o<n→ρ o o2→ρ' o o2∧o<n'):OE ρ' n' a b:=by
 unfold OE at h⊢
 split at h
 ·trivial
 ·trivial
 ·exact⟨h.1,h.2.1,h.2.2.1,h.2.2.2.mono hr⟩
 ·cases h
theorem OE.comp{ρ σ τ:Rel}{n m k:Nat}{a b c:Option Ob}(h:OE ρ n a b)(h2:OE σ m b c)(hr: ∀o o2 o3,ρ o o2→o<n→σ o2 o3→o2<m→τ o o3∧o<k):OE τ k a c:=by
 unfold OE at h
 split at h
 ·cases c with
  |none=>trivial
  |some c=>cases c<;>cases h2
 ·cases c with
  |none=>cases h2
  |some c=>cases c with
   |dead=>trivial
   |row _=>cases h2
 ·cases c with
  |none=>cases h2
  |some c=>cases c with
   |dead=>cases h2
   |row _=>exact⟨h.1.trans h2.1,h.2.1.trans h2.2.1,h.2.2.1.trans h2.2.2.1,h.2.2.2.comp h2.2.2.2 hr⟩
 ·cases h
theorem OE.symm{ρ:Rel}{n m:Nat}{a b:Option Ob}(h:OE ρ n a b)(hr: ∀o o2,ρ o o2→o<n→o2<m):OE (fun x y=>ρ y x) m b a:=by
 unfold OE at h
 split at h
 ·trivial
 ·trivial
 ·exact⟨h.1.symm,h.2.1.symm,h.2.2.1.symm,h.2.2.2.symm hr⟩
 ·cases h
theorem OE.eq{n:Nat}{a b:Option Ob}(h:OE Eq n a b):a=b:=by
 unfold OE at h
 split at h
 ·rfl
 ·rfl
 ·rename_i r r2
  obtain⟨h1,h2,h3,h4⟩:=h
  have:=h4.eq
  cases r;cases r2;simp_all
 ·cases h
structure ME (ρ:Rel) (h h2:H):Prop where
 uni: ∀o o2 p p2,ρ o o2→ρ p p2→(o=p↔o2=p2)
 new: ∀j,ρ (h.length+j) (h2.length+j)
 get: ∀o o2,ρ o o2→OE ρ h.length h[o]? h2[o2]?
structure Post (ρ:Rel) (h h' h2 h2':H):Prop where
 me:ME ρ h' h2'
 more: ∃m,h'.length=h.length+m∧h2'.length=h2.length+m
 keep: ∀o,o<h.length→(∀o2,¬ρ o o2)→h'[o]? =h[o]?
 keep2: ∀o2,o2<h2.length→(∀o,¬ρ o o2)→h2'[o2]? =h2[o2]?
section
variable {ρ:Rel} {h h2 h' h2':H}
theorem ME.lt(hm:ME ρ h h2){o o2:Nat}(hr:ρ o o2)(ho:o<h.length):o2<h2.length:=by
 by_cases hlt:o2<h2.length
 ·exact hlt
 ·have:=(hm.uni _ _ _ _ hr (hm.new (o2-h2.length))).2 (by omega)
  omega
theorem ME.lt'(hm:ME ρ h h2){o o2:Nat}(hr:ρ o o2)(ho:o2<h2.length):o<h.length:=by
 by_cases hlt:o<h.length
 ·exact hlt
 ·have:=(hm.uni _ _ _ _ hr (hm.new (o-h.length))).1 (by omega)
  omega
theorem ME.row(hm:ME ρ h h2){o o2:Nat}(hr:ρ o o2){r:Row}(h1:h.row o=some r): ∃r2,h2.row o2=some r2∧r2.elem=r.elem∧r2.unit=r.unit∧r2.own=r.own∧LE ρ h.length r.cells r2.cells:=by
 have hg:=hm.get _ _ hr
 unfold H.row at h1
 split at h1
 ·rename_i r' he
  cases h1
  rw[he]at hg
  cases hh:h2[o2]? with
  |none=>rw[hh]at hg;cases hg
  |some b=>rw[hh]at hg;cases b with
   |dead=>cases hg
   |row r2=>exact⟨r2,by unfold H.row;rw[hh],hg.1.symm,hg.2.1.symm,hg.2.2.1.symm,hg.2.2.2⟩
 ·cases h1
theorem Post.refl(hm:ME ρ h h2):Post ρ h h h2 h2:=⟨hm,⟨0,rfl,rfl⟩,fun _ _ _=>rfl,fun _ _ _=>rfl⟩
theorem Post.trans{h'' h2'':H}(a:Post ρ h h' h2 h2')(b:Post ρ h' h'' h2' h2''):Post ρ h h'' h2 h2'':=by
 obtain⟨m,m1,m2⟩:=a.more
 obtain⟨k,k1,k2⟩:=b.more
 exact⟨b.me,⟨m+k,by omega,by omega⟩,fun o ho hn=>(b.keep o (by omega) hn).trans (a.keep o ho hn),fun o ho hn=>(b.keep2 o (by omega) hn).trans (a.keep2 o ho hn)⟩
theorem Post.len(a:Post ρ h h' h2 h2'):h.length≤h'.length:=by obtain⟨m,m1,_⟩:=a.more;omega
theorem Post.len2(a:Post ρ h h' h2 h2'):h2.length≤h2'.length:=by obtain⟨m,_,m1⟩:=a.more;omega
theorem Post.pre(hm:ME ρ h h2)(a:Post ρ h h' h2 h2')(hp:h<+:h'):h2<+:h2':=by
 rw[List.prefix_iff_getElem?]
 intro k hk
 have hl2:=a.len2
 by_cases hc: ∃o,ρ o k
 ·obtain⟨o,ho⟩:=hc
  have hol:=hm.lt' ho hk
  obtain⟨t,rfl⟩:=hp
  have g1:=hm.get _ _ ho
  have g2:=a.me.get _ _ ho
  rw[bu4 hol]at g2
  have hlt: ∀x y,ρ x y→x<h.length→y<h2.length:=fun x y h1 h2=>hm.lt h1 h2
  have:=(g1.symm (m:=h2.length) hlt).comp (τ:=Eq) (k:=h2.length) g2 (fun x y z h1 h3 h4 h5=>⟨(a.me.uni _ _ _ _ h1 h4).1 rfl,h3⟩)
  rw[←this.eq,wu3 hk]
 ·rw[a.keep2 k hk (fun o ho=>hc ⟨o,ho⟩),wu3 hk]
theorem ME.push(hm:ME ρ h h2){r r2:Row}(h1:r.elem=r2.elem)(h3:r.unit=r2.unit)(h4:r.own=r2.own)(hc:LE ρ h.length r.cells r2.cells):Post ρ h (h++[.row r]) h2 (h2++[.row r2]):=by
 refine⟨⟨hm.uni,fun j=> ?_,fun o o2 ho=> ?_⟩,⟨1,by simp,by simp⟩,fun o ho _=>bu4 ho,fun o ho _=>bu4 ho⟩
 ·have:=hm.new (j+1)
  simp only[j82,q90,fo5]
  rw[show h.length+(0+1)+j=h.length+(j+1) by omega,show h2.length+(0+1)+j=h2.length+(j+1) by omega]
  exact this
 ·have hup: ∀{a b},OE ρ h.length a b→OE ρ (h++[Ob.row r]).length a b:=fun h=>h.mono fun _ _ h1 h2=>⟨h2,by simp;omega⟩
  by_cases hol:o<h.length
  ·have:=hm.lt ho hol
   rw[bu4 hol,bu4 this]
   exact hup (hm.get _ _ ho)
  ·have he:=(hm.uni _ _ _ _ ho (hm.new (o-h.length))).1 (by omega)
   rw[he,lp1 (by omega),lp1 (by omega),Nat.add_sub_cancel_left]
   cases hk:o-h.length with
   |zero=>exact hup ⟨h1,h3,h4,hc⟩
   |succ k=>simp[OE]
theorem ME.push'(hm:ME ρ h h2){cs cs2:List Value}{e u:Nat}{o:Bool}(hc:LE ρ h.length cs cs2):Post ρ h (h++[.row ⟨cs,e,u,o⟩]) h2 (h2++[.row ⟨cs2,e,u,o⟩]):=hm.push rfl rfl rfl hc
theorem ME.set(hm:ME ρ h h2){o o2:Nat}(ho:ρ o o2){b b2:Ob}(hb:OE ρ h.length (some b) (some b2)):Post ρ h (h.set o b) h2 (h2.set o2 b2):=by
 refine⟨⟨hm.uni,fun j=>by simpa using hm.new j,fun p p2 hp=> ?_⟩,⟨0,by simp,by simp⟩,fun p hp hn=> ?_,fun p hp hn=> ?_⟩
 ·rw[kb7,gy2,gy2]
  by_cases he:o=p
  ·have he2:=(hm.uni _ _ _ _ ho hp).1 he
   subst he;subst he2
   by_cases hl:o<h.length
   ·have:=hm.lt ho hl
    simp only[hl,this,oo9];exact hb
   ·have: ¬o2<h2.length:=fun h=>hl (hm.lt' ho h)
    simp only[hl,this,oo9,wj1];trivial
  ·rw[if_neg he,if_neg fun e=>he ((hm.uni _ _ _ _ ho hp).2 e)]
   exact hm.get _ _ hp
 ·rw[b17];rintro rfl;exact hn _ ho
 ·rw[b17];rintro rfl;exact hn _ ho
theorem ME.kill(hm:ME ρ h h2){o o2:Nat}(ho:ρ o o2):Post ρ h (Go.Am.kill h o) h2 (Go.Am.kill h2 o2):=hm.set ho trivial
theorem ME.ld1(hm:ME ρ h h2){o o2 off:Nat}(ho:ρ o o2){v:Value}(hl:h.ld1 o off=some v): ∃v2,h2.ld1 o2 off=some v2∧E ρ h.length v v2:=by
 unfold H.ld1 at hl⊢
 split at hl
 ·rename_i r hr
  obtain⟨r2,h1,_,_,_,h5⟩:=hm.row ho hr
  rw[h1];exact h5.2 _ _ hl
 ·cases hl
theorem ME.lds(hm:ME ρ h h2){o o2 off n:Nat}(ho:ρ o o2){vs:List Value}(hl:h.lds o off n=some vs): ∃vs2,h2.lds o2 off n=some vs2∧LE ρ h.length vs vs2:=by
 unfold H.lds at hl⊢
 split at hl
 ·rename_i r hr
  obtain⟨r2,h1,_,_,_,h5⟩:=hm.row ho hr
  rw[h1]
  split at hl
  ·rename_i hn
   cases hl
   exact⟨_,if_pos (by rw[←h5.1];exact hn),(h5.drop _).take _⟩
  ·cases hl
 ·cases hl
theorem ME.sts(hm:ME ρ h h2){o o2 off:Nat}(ho:ρ o o2){vs vs2:List Value}(hv:LE ρ h.length vs vs2)(hs:h.sts o off vs=some h'): ∃h2',h2.sts o2 off vs2=some h2'∧Post ρ h h' h2 h2':=by
 unfold H.sts at hs⊢
 split at hs
 ·rename_i r hr
  obtain⟨r2,h1,h3,h4,h5,h6⟩:=hm.row ho hr
  rw[h1]
  split at hs
  ·rename_i hn
   cases hs
   refine⟨_,if_pos (by rw[←h6.1,←hv.1,h5];exact hn),hm.set ho ⟨h3.symm,h4.symm,h5.symm,h6.hu1 hv _⟩⟩
  ·cases hs
 ·cases hs
theorem ME.src(hm:ME ρ h h2){size n:Nat}{x x2:Value}(hx:E ρ h.length x x2){vs:List Value}(hs:b38 h size n x=some vs): ∃vs2,b38 h2 size n x2=some vs2∧LE ρ h.length vs vs2:=by
 unfold b38 at hs
 split at hs
 ·rename_i a l c
  cases a with
  |none=>
   rw[hx.pl rfl]
   unfold b38
   simp only at hs⊢
   split at hs
   ·cases hs;exact⟨[],by rw[if_pos ‹_›],LE.nil⟩
   ·split at hs<;>cases hs
  |some a=>
   obtain⟨o2,q1,q2,q3,rfl⟩:=hx.wy5
   unfold b38
   simp only at hs⊢
   split at hs
   ·cases hs;exact⟨[],by rw[if_pos ‹_›],LE.nil⟩
   ·rw[if_neg ‹_›]
    split at hs
    ·rw[if_pos ‹_›]
     split at hs
     ·obtain⟨vs2,k1,k2⟩:=hm.lds q2 hs
      exact⟨vs2,by simp[k1],k2⟩
     ·cases hs
    ·cases hs
 ·cases hs
def OVE(ρ:Rel)(n:Nat):Option Value→Option Value→Prop
 |none,none=>True
 |some v,some v2=>E ρ n v v2
 |_,_=>False
def FE(ρ:Rel)(n:Nat)(fr fr2:Fr):Prop:= ∀t v,fr t=some v→ ∃v2,fr2 t=some v2∧E ρ n v v2
variable {fr fr2:Fr}
theorem FE.mono{ρ':Rel}{n n':Nat}(hF:FE ρ n fr fr2)(hr: ∀o o2,o<n→ρ o o2→ρ' o o2∧o<n'):FE ρ' n' fr fr2:=fun t v hv=>let⟨v2,h1,h2⟩:=hF t v hv;⟨v2,h1,h2.mono hr⟩
theorem FE.up{n n':Nat}(hF:FE ρ n fr fr2)(hn:n≤n'):FE ρ n' fr fr2:=hF.mono fun _ _ h1 h2=>⟨h2,by omega⟩
theorem FE.put{n:Nat}(hF:FE ρ n fr fr2)(d:Option Nat){v v2:Option Value}(hv:OVE ρ n v v2):FE ρ n (fr.put d v) (fr2.put d v2):=by
 intro t u hu
 cases d with
 |none=>exact hF t u hu
 |some s=>
  cases v with
  |none=>
   cases v2 with
   |none=>
    simp only[Fr.put,Fr.del]at hu⊢
    cases hb:Nat.beq t s with
    |true=>rw[hb]at hu;cases hu
    |false=>rw[hb]at hu;exact hF t u hu
   |some _=>cases hv
  |some v=>
   cases v2 with
   |none=>cases hv
   |some v2=>
    simp only[Fr.put,Fr.set]at hu⊢
    cases hb:Nat.beq t s with
    |true=>rw[hb]at hu;cases hu;exact⟨v2,rfl,hv⟩
    |false=>rw[hb]at hu;exact hF t u hu
theorem sq7{n:Nat}(hF:FE ρ n fr fr2){x:Operand}{v:Value}(hx:ev fr x=some v): ∃v2,ev fr2 x=some v2∧E ρ n v v2:=by
 cases x with
 |tmp t=>exact hF t v hx
 |const c=>
  simp only[ev]at hx⊢
  split at hx
  ·rename_i hcl;cases hx;exact⟨v,by rw[if_pos hcl],ni8 hcl⟩
  ·cases hx
 |global g=>cases hx
 |func f=>cases hx;exact⟨_,rfl, .func f #[] #[] rfl (fun i h _=>by simp at h)⟩
theorem ce4{n:Nat}(hF:FE ρ n fr fr2): ∀{xs:List Operand} {vs:List Value},evs fr xs=some vs→ ∃vs2,evs fr2 xs=some vs2∧LE ρ n vs vs2
 | [],vs,hx=>by cases hx;exact⟨[],rfl,LE.nil⟩
 |x::xs,vs,hx=>by
  simp only[evs]at hx
  split at hx
  ·rename_i v vs' h1 h2
   cases hx
   obtain⟨v2,e1,e2⟩:=sq7 hF h1
   obtain⟨vs2,e3,e4⟩:=ce4 hF h2
   exact⟨v2::vs2,by simp[evs,e1,e3],LE.cons e2 e4⟩
  ·cases hx
theorem dp7{n:Nat}(hF:FE ρ n fr fr2){x:Option Operand}{r:Option Int}(hx:evo fr x=some r):evo fr2 x=some r:=by
 cases x with
 |none=>exact hx
 |some x=>
  simp only[evo]at hx⊢
  split at hx
  ·rename_i v hv
   obtain⟨v2,e1,e2⟩:=sq7 hF hv
   rw[e1]
   split at hx
   ·rename_i i hi
    cases hx
    cases v<;>first|(cases hi;done)|skip
    rw[e2.int];cases hi;rfl
   ·cases hx
  ·cases hx
def LPE(ρ:Rel)(n:Nat):List (Nat×Value)→List (Nat×Value)→Prop
 | [],[]=>True
 |(i,v)::l,(j,v2)::l2=>i=j∧E ρ n v v2∧LPE ρ n l l2
 |_,_=>False
theorem gg5{n:Nat}(hF:FE ρ n fr fr2): ∀{xs:List (Nat×Operand)} {vs:List (Nat×Value)},evp fr xs=some vs→ ∃vs2,evp fr2 xs=some vs2∧LPE ρ n vs vs2
 | [],vs,hx=>by cases hx;exact⟨[],rfl,trivial⟩
 |(i,x)::xs,vs,hx=>by
  simp only[evp]at hx
  split at hx
  ·rename_i v vs' h1 h2
   cases hx
   obtain⟨v2,e1,e2⟩:=sq7 hF h1
   obtain⟨vs2,e3,e4⟩:=gg5 hF h2
   exact⟨(i,v2)::vs2,by simp[evp,e1,e3],rfl,e2,e4⟩
  ·cases hx
theorem s94{n:Nat}{pl:Nat→Option (Nat×Nat)}: ∀{vs vs2:List (Nat×Value)} {cs cs2 out:List Value},LPE ρ n vs vs2→LE ρ n cs cs2→ah0 pl cs vs=some out→ ∃out2,ah0 pl cs2 vs2=some out2∧LE ρ n out out2
 | [],[],cs,cs2,out,_,hc,he=>by cases he;exact⟨cs2,rfl,hc⟩
 | [],_::_,_,_,_,hl,_,_=>by cases hl
 |_::_,[],_,_,_,hl,_,_=>by simp[LPE]at hl
 |(i,v)::vs,(j,v2)::vs2,cs,cs2,out,hl,hc,he=>by
  simp only[LPE]at hl
  obtain⟨rfl,h1,h2⟩:=hl
  simp only[ah0]at he⊢
  split at he
  ·cases he
  ·rename_i off size hp
   rw[h1.cells_size,h1.flat,←hc.1]
   split at he
   ·cases he
   ·rename_i hcond
    rw[if_neg hcond]
    exact s94 h2 (hc.hu1 h1.cells off) he
end
end Go.Am
namespace Go.Am
theorem xt8{op:BinOp}{a b v:Value}(h:abin op a b=some v):plain a=true∧plain b=true∧plain v=true:=by
 unfold abin at h
 split at h
 ·refine⟨rfl,rfl, ?_⟩
  split at h
  ·unfold th5 at h;split at h<;>first|(cases h;done)|(cases h;rfl)
  ·unfold th5 at h;split at h<;>first|(cases h;done)|(cases h;rfl)
  ·split at h
   ·unfold aint at h
    split at h<;>first|(cases h;done)|(cases h;rfl)|(split at h<;>first|(cases h;done)|(cases h;rfl))
   ·cases h
 ·refine⟨rfl,rfl, ?_⟩
  unfold astr at h
  split at h<;>first|(cases h;done)|(cases h;rfl)|(split at h<;>first|(cases h;done)|(cases h;rfl))
 ·cases h
theorem xf6{op:UnOp}{a v:Value}(h:aun op a=some v):plain a=true∧plain v=true:=by
 unfold aun at h
 split at h<;>first|(cases h;done)|(cases h;exact⟨rfl,rfl⟩)
theorem as8{ρ:Rel}{n k:Nat}{v v2:Value}{b:Bool}(hv:E ρ n v v2)(h:anil k v=some b):anil k v2=some b:=by
 unfold anil at h⊢
 cases hv<;>(split at h<;>first|(cases h;done)|(simp_all;done)|(rename_i heq;cases heq;simpa using h)|(rename_i heq;obtain⟨h1,h2,h3⟩:=heq;cases h1;simpa using h))
theorem y96{ρ:Rel}{n:Nat}{k:IntKind}: ∀{vs vs2:List Value} {l:List Int},LE ρ n vs vs2→ho0 k vs=some l→vs2=vs
 | [],vs2,l,hl,_=>List.length_eq_zero_iff.1 hl.1.symm
 |v::vs,vs2,l,hl,h=>by
  cases v<;>simp only[ho0]at h<;>first|(cases h;done)|skip
  split at h
  ·split at h
   ·rename_i l' hl'
    cases vs2 with
    |nil=>have:=hl.1;simp at this
    |cons u us=>
     obtain⟨u',h1,h2⟩:=hl.2 0 _ rfl
     simp at h1;subst h1
     have:=y96 (vs:=vs) (vs2:=us) ⟨by have:=hl.1;simpa using this,fun i v hv=>by simpa using hl.2 (i+1) v (by simpa using hv)⟩ hl'
     rw[h2.int,this]
   ·cases h
  ·cases h
theorem n41{ρ:Rel}{n size:Nat}: ∀{vs vs2:List Value},LE ρ n vs vs2→sized size vs2=sized size vs∧LE ρ n (cat vs) (cat vs2)
 | [],vs2,hl=>by rw[List.length_eq_zero_iff.1 hl.1.symm];exact⟨rfl,LE.nil⟩
 |v::vs,[],hl=>by have:=hl.1;simp at this
 |v::vs,u::us,hl=>by
  obtain⟨u',h1,h2⟩:=hl.2 0 _ rfl
  simp at h1;subst h1
  obtain⟨h3,h4⟩:=n41 (size:=size) (vs:=vs) (vs2:=us) ⟨by have:=hl.1;simpa using this,fun i v hv=>by simpa using hl.2 (i+1) v (by simpa using hv)⟩
  exact⟨by simp only[sized];rw[h2.cells_size,h2.flat,h3],h2.cells.append h4⟩
theorem LE.self{ρ:Rel}{n:Nat}{l:List Value}(h:l.all tc5=true):LE ρ n l l:=by
 rw[p92]at h
 exact⟨rfl,fun i v hv=>⟨v,hv,gk5 (h v (vf6 hv))⟩⟩
theorem pn3{l:Array Value}{a b:Nat}:(l.extract a b)=((l.toList.drop a).take (b-a)).toArray:=by
 apply ld7.1
 simp only[Array.toList_extract,List.extract_eq_take_drop]
section
variable {ρ:Rel} {h h2 h' h2':H} {fr fr2:Fr}
theorem lk4(hm:ME ρ h h2){size l c:Nat}{a:Addr}{o2:Nat}(hr:ρ a.block o2)(hu:ss4 h size (some a)=true):ss4 h2 size (some ⟨o2,a.off,none⟩)=true:=by
 unfold ss4 at hu⊢
 simp only at hu⊢
 split at hu
 ·rename_i r hrow
  obtain⟨r2,h1,_,h3,h4,_⟩:=hm.row hr hrow
  rw[h1];simp only[h3,h4];exact hu
 ·cases hu
theorem y95(hm:ME ρ h h2){elem:TypeId}{size bytes n c m:Nat}{sa:Option Addr}{news news2:List Value}{s2 v:Value}(hs:E ρ h.length (.slice sa n c) s2)(k2:LE ρ h.length news news2)(ha:aput elem size bytes h sa n c m news=some (v,h')):
 ∃sa2 v2 h2',s2= .slice sa2 n c∧aput elem size bytes h2 sa2 n c m news2=some (v2,h2')∧E ρ h'.length v v2∧Post ρ h h' h2 h2':=by
 unfold aput at ha
 split at ha
 ·--onto nothing
  have:=hs.pl rfl
  subst this
  unfold aput
  split at ha
  ·rename_i h0
   rw[if_pos h0]
   split at ha
   ·cases ha;rw[if_pos ‹_›]
    exact⟨_,_,_,rfl,rfl, .atom _ rfl, .refl hm⟩
   ·rw[if_neg ‹_›]
    split at ha
    ·cases ha
     rw[if_pos ‹_›]
     refine⟨_,_,_,rfl,rfl, .sl _ _ _ _ _ ?_ (by simp),hm.push rfl rfl rfl k2⟩
     have:=hm.new 0;simpa using this
    ·cases ha
  ·cases ha
 ·--onto a row
  rename_i a
  obtain⟨o2,q1,q2,q3,rfl⟩:=hs.wy5
  unfold aput
  split at ha
  ·rename_i r hr
   obtain⟨r2,e1,e2,e3,e4,e5⟩:=hm.row q2 hr
   split at ha
   ·rename_i hc
    cases ha
    have hk:=hm.kill q2
    have hp:=hk.me.push (r:=⟨(r.cells.drop a.off).take (n*size)++news,elem,size,true⟩) (r2:=⟨(r2.cells.drop a.off).take (n*size)++news2,elem,size,true⟩) rfl rfl rfl
     ((((e5.drop _).take _).append k2).up (by simp[kill]))
    refine⟨some ⟨o2,a.off,none⟩, .slice (some ⟨h2.length,0,none⟩) (n+m) (n+m),kill h2 o2++[.row ⟨(r2.cells.drop a.off).take (n*size)++news2,elem,size,true⟩],rfl, ?_, .sl _ _ _ _ _ ?_ (by simp[kill]),hk.trans hp⟩
    ·simp only[e1]
     rw[if_pos (by rw[e2,e3,e4,←e5.1];simp only[q1]at hc;exact hc)]
    have:=hm.new 0;simpa using this
   ·cases ha
  ·cases ha
theorem y28(hm:ME ρ h h2){elem:TypeId}{size bytes:Nat}{s x s2 x2 v:Value}(hs:E ρ h.length s s2)(hx:E ρ h.length x x2)(ha:aapp elem size bytes h s x=some (v,h')):
 ∃v2 h2',aapp elem size bytes h2 s2 x2=some (v2,h2')∧E ρ h'.length v v2∧Post ρ h h' h2 h2':=by
 unfold aapp at ha
 split at ha
 ·rename_i sa n c b m d
  split at ha
  ·rename_i news hnews
   obtain⟨news2,k1,k2⟩:=hm.src hx hnews
   obtain⟨b2,rfl⟩: ∃b2,x2= .slice b2 m d:=by
    cases b with
    |none=>exact⟨none,hx.pl rfl⟩
    |some b=>obtain⟨_,_,_,_,rfl⟩:=hx.wy5;exact⟨_,rfl⟩
   obtain⟨sa2,v2,h2',rfl,g1,g2,g3⟩:=y95 hm hs k2 ha
   exact⟨v2,h2',by unfold aapp;simp only[k1,g1],g2,g3⟩
  ·cases ha
 ·cases ha
theorem m31(hm:ME ρ h h2){size:Nat}{s x s2 x2 v:Value}(hs:E ρ h.length s s2)(hx:E ρ h.length x x2)(ha:acpy size h s x=some (v,h')):
 ∃v2 h2',acpy size h2 s2 x2=some (v2,h2')∧E ρ h'.length v v2∧Post ρ h h' h2 h2':=by
 unfold acpy at ha
 split at ha
 ·rename_i da dl dc sa sl sc
  split at ha
  ·rename_i cs hcs
   obtain⟨cs2,k1,k2⟩:=hm.src hx hcs
   obtain⟨b2,rfl⟩: ∃b2,x2= .slice b2 sl sc:=by
    cases sa with
    |none=>exact⟨none,hx.pl rfl⟩
    |some b=>obtain⟨_,_,_,_,rfl⟩:=hx.wy5;exact⟨_,rfl⟩
   have hd: ∃da2,s2= .slice da2 dl dc:=by
    cases da with
    |none=>exact⟨none,hs.pl rfl⟩
    |some b=>obtain⟨_,_,_,_,rfl⟩:=hs.wy5;exact⟨_,rfl⟩
   split at ha
   ·cases ha
    obtain⟨da2,rfl⟩:=hd
    unfold acpy
    simp only[k1]
    rw[if_pos ‹_›]
    exact⟨_,_,rfl, .atom _ rfl, .refl hm⟩
   ·rename_i h0
    split at ha
    ·rename_i a
     obtain⟨o2,q1,q2,q3,rfl⟩:=hs.wy5
     unfold acpy
     simp only[k1]
     rw[if_neg h0]
     split at ha
     ·split at ha
      ·rename_i h3 hst
       cases ha
       obtain⟨h2',e1,e2⟩:=hm.sts q2 k2 hst
       exact⟨_,h2',by simp[e1], .atom _ rfl,e2⟩
      ·cases ha
     ·cases ha
    ·cases ha
  ·cases ha
 ·cases ha
def AOp.good:AOp→Bool
 | .alloc _ zs| .build zs _ _| .mks _ _ _ zs _ _=>zs.all tc5
 | .mget _ z _ _=>tc5 z
 |_=>true
theorem tv1(hF:FE ρ h.length fr fr2)(hm:ME ρ h h2){a:Operand}(hb:bx fr h a=true):bx fr2 h2 a=true:=by
 unfold bx at hb
 split at hb
 ·rename_i p hp
  obtain⟨v2,e1,e2⟩:=sq7 hF hp
  obtain⟨o2,q1,q2,q3,rfl⟩:=e2.bq1
  unfold bx
  rw[e1]
  unfold boxed at hb⊢
  split at hb
  ·rename_i r hr
   obtain⟨r2,k1,_,k3,_,_⟩:=hm.row q2 hr
   simp only[k1,k3];exact hb
  ·cases hb
 ·cases hb
theorem i01(hF:FE ρ h.length fr fr2)(hm:ME ρ h h2){agg:Bool}{n:Nat}{x:Operand}{v:Option Value}(ha:aop fr h (.ld agg n x)=some (v,h')):
 ∃v2 h2',aop fr2 h2 (.ld agg n x)=some (v2,h2')∧OVE ρ h'.length v v2∧Post ρ h h' h2 h2':=by
 have pure: ∀{u u2:Value},aop fr2 h2 (.ld agg n x)=some (some u2,h2)→E ρ h.length u u2→ ∃v2 h2',aop fr2 h2 (.ld agg n x)=some (v2,h2')∧OVE ρ h.length (some u) v2∧Post ρ h h h2 h2':=
  fun h1 h2'=>⟨_,_,h1,h2', .refl hm⟩
 simp only[aop]at ha
 split at ha
 ·rename_i a h3
  obtain⟨a2,e1,e2⟩:=sq7 hF h3
  obtain⟨o2,q1,q2,q3,rfl⟩:=e2.bq1
  split at ha
  ·cases ha
  ·split at ha
   ·split at ha
    ·rename_i cs hcs
     cases ha
     obtain⟨cs2,e3,e4⟩:=hm.lds q2 hcs
     exact pure (by simp[aop,e1,e3]) e4.agg
    ·cases ha
   ·split at ha
    ·rename_i u hu
     cases ha
     obtain⟨u2,e3,e4⟩:=hm.ld1 q2 hu
     exact pure (by simp[aop,e1,e3]) e4
    ·cases ha
 ·cases ha
section
variable {n:Nat}
theorem LE.two{a b:Value}{l l2:List Value}(h:LE ρ n (a::b::l) l2): ∃a2 b2 l2',l2=a2::b2::l2'∧E ρ n a a2∧E ρ n b b2∧LE ρ n l l2':=by
 match l2,h with
 | [],h=>exact absurd h.1 (by simp)
 | [_],h=>exact absurd h.1 (by simp)
 |a2::b2::l2',h=>
  refine⟨a2,b2,l2',rfl, ?_, ?_,by have:=h.1;simpa using this,fun i v hv=>h.2 (i+2) v hv⟩
  ·obtain⟨x,h1,h2⟩:=h.2 0 a rfl
   cases h1;exact h2
  ·obtain⟨x,h1,h2⟩:=h.2 1 b rfl
   cases h1;exact h2
theorem LE.none'{l2:List Value}(h:LE ρ n [] l2):l2=[]:=by cases l2 with
 |nil=>rfl
 |cons a l=>exact absurd h.1 (by simp)
theorem a05{kd:IntKind}{i:Int}: ∀{l l2:List Value},LE ρ n l l2→ ∀{v},gn2 kd i l=some v→ ∃v2,gn2 kd i l2=some v2∧ ∀z,tc5 z=true→E ρ n (v.getD z) (v2.getD z)
 | [],l2,h,v,hv=>by
   cases h.none'
   cases hv
   exact⟨none,rfl,fun z hz=>gk5 hz⟩
 | [a],l2,h,v,hv=>by cases a<;>cases hv
 |a::b::l,l2,h,v,hv=>by
  obtain⟨a2,b2,l2',rfl,h1,h2,h3⟩:=h.two
  have ih:=fun v (hv:gn2 kd i l=some v)=>a05 h3 hv
  cases a<;>try (cases hv;done)
  rename_i kd' j
  cases h1.int
  simp only[gn2]at hv⊢
  by_cases hk:kd'=kd
  ·rw[if_pos hk]at hv⊢
   by_cases hj:j=i
   ·rw[if_pos hj]at hv⊢
    cases hv
    exact⟨_,rfl,fun z _=>h2⟩
   ·rw[if_neg hj]at hv⊢
    exact ih v hv
  ·rw[if_neg hk]at hv;cases hv
theorem hx9{kd:IntKind}{i:Int}{x x2:Value}(hx:E ρ n x x2): ∀{l l2:List Value},LE ρ n l l2→ ∀{cs},mset kd i x l=some cs→ ∃cs2,mset kd i x2 l2=some cs2∧LE ρ n cs cs2
 | [],l2,h,cs,hv=>by
   cases h.none'
   cases hv
   exact⟨_,rfl,LE.cons (.atom _ rfl) (LE.cons hx LE.nil)⟩
 | [a],l2,h,v,hv=>by cases a<;>cases hv
 |a::b::l,l2,h,cs,hv=>by
  obtain⟨a2,b2,l2',rfl,h1,h2,h3⟩:=h.two
  have ih:=fun cs (hv:mset kd i x l=some cs)=>hx9 hx h3 hv
  cases a<;>try (cases hv;done)
  rename_i kd' j
  cases h1.int
  simp only[mset]at hv⊢
  by_cases hk:kd'=kd
  ·rw[if_pos hk]at hv⊢
   by_cases hj:j=i
   ·rw[if_pos hj]at hv⊢
    cases hv
    exact⟨_,rfl,LE.cons h1 (LE.cons hx h3)⟩
   ·rw[if_neg hj]at hv⊢
    cases hc:mset kd i x l with
    |none=>rw[hc]at hv;cases hv
    |some cs'=>
     rw[hc]at hv
     cases hv
     obtain⟨cs2,k1,k2⟩:=ih cs' hc
     rw[k1]
     exact⟨_,rfl,LE.cons h1 (LE.cons h2 k2)⟩
  ·rw[if_neg hk]at hv;cases hv
end
theorem hn9(hF:FE ρ h.length fr fr2)(hm:ME ρ h h2){op:AOp}(hg:op.good=true){v:Option Value}(ha:aop fr h op=some (v,h')):
 ∃v2 h2',aop fr2 h2 op=some (v2,h2')∧OVE ρ h'.length v v2∧Post ρ h h' h2 h2':=by
 have pure: ∀{u u2:Value},aop fr2 h2 op=some (some u2,h2)→E ρ h.length u u2→ ∃v2 h2',aop fr2 h2 op=some (v2,h2')∧OVE ρ h.length (some u) v2∧Post ρ h h h2 h2':=
  fun h1 h2'=>⟨_,_,h1,h2', .refl hm⟩
 have new0:ρ h.length h2.length:=by have:=hm.new 0;simpa using this
 cases op with
 |mv x=>
  simp only[aop]at ha
  split at ha
  ·rename_i u hu
   cases ha
   obtain⟨u2,e1,e2⟩:=sq7 hF hu
   exact pure (by simp only[aop,e1]) e2
  ·cases ha
 |pick c a b=>
  simp only[aop]at ha
  split at ha
  ·rename_i t ht
   obtain⟨c2,e1,e2⟩:=sq7 hF ht
   rw[e2.bool]at e1
   split at ha
   ·rename_i u hu
    cases ha
    obtain⟨u2,e3,e4⟩:=sq7 hF hu
    exact pure (by simp only[aop,e1,e3]) e4
   ·cases ha
  ·cases ha
 |bin o x y=>
  simp only[aop]at ha
  split at ha
  ·rename_i a b h3 h4
   split at ha
   ·rename_i u hu
    cases ha
    obtain⟨p1,p2,p3⟩:=xt8 hu
    obtain⟨a2,e1,e2⟩:=sq7 hF h3
    obtain⟨b2,e3,e4⟩:=sq7 hF h4
    rw[e2.pl p1]at e1
    rw[e4.pl p2]at e3
    exact pure (by simp only[aop,e1,e3,hu]) (.atom _ p3)
   ·cases ha
  ·cases ha
 |eqb neg x y=>
  simp only[aop]at ha
  split at ha
  ·rename_i a b h3 h4
   cases ha
   obtain⟨a2,e1,e2⟩:=sq7 hF h3
   obtain⟨b2,e3,e4⟩:=sq7 hF h4
   rw[e2.bool]at e1
   rw[e4.bool]at e3
   exact pure (by simp only[aop,e1,e3]) (.atom _ rfl)
  ·cases ha
 |eqn neg k x=>
  simp only[aop]at ha
  split at ha
  ·rename_i a h3
   split at ha
   ·rename_i b hb
    cases ha
    obtain⟨a2,e1,e2⟩:=sq7 hF h3
    exact pure (by simp only[aop,e1,as8 e2 hb]) (.atom _ rfl)
   ·cases ha
  ·cases ha
 |un o x=>
  simp only[aop]at ha
  split at ha
  ·rename_i a h3
   split at ha
   ·rename_i u hu
    cases ha
    obtain⟨p1,p3⟩:=xf6 hu
    obtain⟨a2,e1,e2⟩:=sq7 hF h3
    rw[e2.pl p1]at e1
    exact pure (by simp only[aop,e1,hu]) (.atom _ p3)
   ·cases ha
  ·cases ha
 |conv k x=>
  simp only[aop]at ha
  split at ha
  ·rename_i h3
   cases ha
   obtain⟨a2,e1,e2⟩:=sq7 hF h3
   rw[e2.int]at e1
   exact pure (by simp only[aop,e1]) (.atom _ rfl)
  ·cases ha
 |alloc elem zs=>
  simp only[aop]at ha
  cases ha
  exact⟨some (.pointer (some ⟨h2.length,0,none⟩)),h2++[.row ⟨zs,elem,0,true⟩],rfl,E.ptr _ _ _ new0 (by simp),hm.push' (LE.self (show zs.all tc5=true from hg))⟩
 |box elem size x=>
  simp only[aop]at ha
  split at ha
  ·rename_i u hu
   split at ha
   ·rename_i hc
    cases ha
    obtain⟨u2,e1,e2⟩:=sq7 hF hu
    exact⟨some (.pointer (some ⟨h2.length,0,none⟩)),h2++[.row ⟨u2.cells.toList,elem,0,true⟩],by simp only[aop,e1];rw[if_pos (by rw[e2.cells_size,e2.flat];exact hc)],E.ptr _ _ _ new0 (by simp),hm.push' e2.cells⟩
   ·cases ha
  ·cases ha
 |build zs places parts=>
  simp only[aop]at ha
  split at ha
  ·rename_i vs hvs
   split at ha
   ·rename_i cs hcs
    cases ha
    obtain⟨vs2,e1,e2⟩:=gg5 hF hvs
    obtain⟨cs2,e3,e4⟩:=s94 e2 (LE.self (show zs.all tc5=true from hg)) hcs
    exact pure (by simp only[aop,e1,e3]) e4.agg
   ·cases ha
  ·cases ha
 |mkSl elem size len parts=>
  simp only[aop]at ha
  split at ha
  ·rename_i vs hvs
   split at ha
   ·rename_i hc
    cases ha
    obtain⟨vs2,e1,e2⟩:=ce4 hF hvs
    obtain⟨e3,e4⟩:=n41 (size:=size) e2
    exact⟨some (.slice (some ⟨h2.length,0,none⟩) len len),h2++[.row ⟨cat vs2,elem,size,true⟩],by simp only[aop,e1];rw[if_pos (by rw[e3,←e2.1];exact hc)],E.sl _ _ _ _ _ new0 (by simp),hm.push' e4⟩
   ·cases ha
  ·cases ha
 |ld agg n x=>exact i01 hF hm ha
 |ldb agg n x=>
  obtain⟨hb,ha⟩:=zx2 ha
  obtain⟨v2,h2',k1,k2,k3⟩:=i01 hF hm ha
  exact⟨v2,h2',by rw[fd7,if_pos (tv1 hF hm hb)];exact k1,k2,k3⟩
 |mmk elem=>
  simp only[aop]at ha
  cases ha
  exact⟨_,_,rfl,E.mp _ _ new0 (by simp),hm.push' LE.nil⟩
 |mget kd z m k=>
  obtain⟨o,i,r,w,h1,h3,h4,h5,h6,h7⟩:=oe0.1 ha
  cases h7
  obtain⟨a2,e1,e2⟩:=sq7 hF h1
  obtain⟨k2,e3,e4⟩:=sq7 hF h3
  obtain⟨o2,q1,q2,rfl⟩:=e2.mp_inv
  cases e4.int
  obtain⟨r2,s1,s2,s3,s4,s5⟩:=hm.row q1 h4
  obtain⟨w2,t1,t2⟩:=a05 s5 h6
  exact pure (oe0.2 ⟨o2,i,r2,w2,e1,e3,s1,s4.trans h5,t1,rfl⟩) (t2 z hg)
 |mput kd m k x=>
  obtain⟨o,i,w,r,cs,h1,h3,h0,h8,h4,h5,h6,h7⟩:=si8.1 ha
  cases h7
  obtain⟨a2,e1,e2⟩:=sq7 hF h1
  obtain⟨k2,e3,e4⟩:=sq7 hF h3
  obtain⟨w2,e5,e6⟩:=sq7 hF h0
  obtain⟨o2,q1,q2,rfl⟩:=e2.mp_inv
  cases e4.int
  obtain⟨r2,s1,s2,s3,s4,s5⟩:=hm.row q1 h4
  obtain⟨cs2,t1,t2⟩:=hx9 e6 s5 h6
  exact⟨_,_,si8.2 ⟨o2,i,w2,r2,cs2,e1,e3,e5,e6.one.trans h8,s1,s4.trans h5,t1,rfl⟩,trivial,hm.set q1 ⟨s2.symm,s3.symm,s4.symm,t2⟩⟩
 |st n x y=>
  simp only[aop]at ha
  split at ha
  ·rename_i a u h3 h4
   obtain⟨a2,e1,e2⟩:=sq7 hF h3
   obtain⟨u2,e3,e4⟩:=sq7 hF h4
   obtain⟨o2,q1,q2,q3,rfl⟩:=e2.bq1
   split at ha
   ·cases ha
   ·rename_i hc
    split at ha
    ·rename_i h3' hst
     cases ha
     obtain⟨h2',k1,k2⟩:=hm.sts q2 e4.cells hst
     exact⟨none,h2',by simp only[aop,e1,e3];rw[if_neg (by rw[e4.cells_size,e4.flat];rw[q1]at hc;exact hc)];simp only[k1],trivial,k2⟩
    ·cases ha
  ·cases ha
 |nilck x=>
  simp only[aop]at ha
  split at ha
  ·rename_i a h3
   cases ha
   obtain⟨a2,e1,e2⟩:=sq7 hF h3
   obtain⟨o2,q1,q2,q3,rfl⟩:=e2.bq1
   exact pure (by simp only[aop,e1]) e2
  ·cases ha
 |mkf f cap=>
  simp only[aop]at ha
  split at ha
  ·rename_i vs hvs
   cases ha
   obtain⟨vs2,e1,e2⟩:=ce4 hF hvs
   exact pure (by simp only[aop,e1]) (e2.func f)
  ·cases ha
 |mks elem size bytes zs l c=>
  simp only[aop]at ha
  split at ha
  ·rename_i kl l' kc c' h3 h4
   split at ha
   ·rename_i hc
    cases ha
    obtain⟨l2,e1,e2⟩:=sq7 hF h3
    obtain⟨c2,e3,e4⟩:=sq7 hF h4
    rw[e2.int]at e1
    rw[e4.int]at e3
    exact⟨some (.slice (some ⟨h2.length,0,none⟩) l'.toNat c'.toNat),h2++[.row ⟨rep zs c'.toNat,elem,size,true⟩],by simp only[aop,e1,e3];rw[if_pos hc],E.sl _ _ _ _ _ new0 (by simp),hm.push' (LE.rep (LE.self (show zs.all tc5=true from hg)) _)⟩
   ·cases ha
  ·cases ha
 |sl size x lo hi=>
  simp only[aop]at ha
  split at ha
  ·rename_i a l c lo' hi' h3 h4 h5
   split at ha
   ·rename_i hc
    cases ha
    obtain⟨x2,e1,e2⟩:=sq7 hF h3
    have e3:=dp7 hF h4
    have e4:=dp7 hF h5
    cases a with
    |none=>
     rw[e2.pl rfl]at e1
     exact pure (by simp only[aop,e1,e3,e4];rw[if_pos ⟨hc.1,hc.2.1,hc.2.2.1,rfl⟩]) (.atom _ (by split<;>rfl))
    |some a=>
     obtain⟨o2,q1,q2,q3,rfl⟩:=e2.wy5
     refine pure (by simp only[aop,e1,e3,e4];rw[if_pos ⟨hc.1,hc.2.1,hc.2.2.1,lk4 (l:=l) (c:=c) hm q2 hc.2.2.2⟩]) ?_
     have hsp:a=⟨a.block,a.off,none⟩:=by rw[←q1]
     split
     ·rw[hsp];exact .sl _ _ _ _ _ q2 q3
     ·exact .sl _ _ _ _ _ q2 q3
   ·cases ha
  ·cases ha
 |sl3 x hi mx=>
  simp only[aop]at ha
  split at ha
  ·rename_i a l c k1 I k2 J h3 h4 h5
   split at ha
   ·rename_i hc
    cases ha
    obtain⟨x2,e1,e2⟩:=sq7 hF h3
    obtain⟨y2,e3,e4⟩:=sq7 hF h4
    obtain⟨z2,e5,e6⟩:=sq7 hF h5
    rw[e4.pl rfl]at e3
    rw[e6.pl rfl]at e5
    cases a with
    |none=>
     rw[e2.pl rfl]at e1
     exact pure (by simp only[aop,e1,e3,e5];rw[if_pos hc]) (.atom _ rfl)
    |some a=>
     obtain⟨o2,q1,q2,q3,rfl⟩:=e2.wy5
     refine pure (by simp only[aop,e1,e3,e5];rw[if_pos hc]) ?_
     have hsp:a=⟨a.block,a.off,none⟩:=by rw[←q1]
     rw[hsp];exact .sl _ _ _ _ _ q2 q3
   ·cases ha
  ·cases ha
 |sls x lo hi=>
  simp only[aop]at ha
  split at ha
  ·rename_i s lo' hi' h3 h4 h5
   split at ha
   ·rename_i hc
    cases ha
    obtain⟨x2,e1,e2⟩:=sq7 hF h3
    rw[e2.str]at e1
    exact pure (by simp only[aop,e1,dp7 hF h4,dp7 hF h5];rw[if_pos hc]) (.atom _ rfl)
   ·cases ha
  ·cases ha
 |faddr off x=>
  simp only[aop]at ha
  split at ha
  ·rename_i a h3
   obtain⟨a2,e1,e2⟩:=sq7 hF h3
   obtain⟨o2,q1,q2,q3,rfl⟩:=e2.bq1
   split at ha
   ·cases ha
   ·cases ha
    exact pure (by simp[aop,e1]) (.ptr _ _ _ q2 q3)
  ·cases ha
 |fld agg off n x=>
  simp only[aop]at ha
  split at ha
  ·rename_i cs h3
   obtain⟨x2,e1,e2⟩:=sq7 hF h3
   obtain⟨cs2,rfl,e3⟩:=e2.lg1
   split at ha
   ·cases ha
    refine pure (by simp only[aop,e1];rfl) ?_
    rw[pn3,pn3]
    exact((e3.drop _).take _).agg
   ·split at ha
    ·rename_i u hu
     cases ha
     obtain⟨u2,k1,k2⟩:=e3.2 off u (by simpa using hu)
     exact pure (by simp only[aop,e1];rw[show cs2[off]? =some u2 by simpa using k1]) k2
    ·cases ha
  ·cases ha
 |iaddr size x i=>
  simp only[aop]at ha
  split at ha
  ·rename_i a l c k j h3 h4
   obtain⟨x2,e1,e2⟩:=sq7 hF h3
   obtain⟨i2,e3,e4⟩:=sq7 hF h4
   rw[e4.int]at e3
   obtain⟨o2,q1,q2,q3,rfl⟩:=e2.wy5
   split at ha
   ·rename_i hc
    split at ha
    ·cases ha
    ·cases ha
     exact pure (by simp only[aop,e1,e3];rw[if_pos hc];rfl) (.ptr _ _ _ q2 q3)
   ·cases ha
  ·cases ha
 |iaddrA len size x i=>
  simp only[aop]at ha
  split at ha
  ·rename_i a k j h3 h4
   obtain⟨x2,e1,e2⟩:=sq7 hF h3
   obtain⟨i2,e3,e4⟩:=sq7 hF h4
   rw[e4.int]at e3
   obtain⟨o2,q1,q2,q3,rfl⟩:=e2.bq1
   split at ha
   ·rename_i hc
    split at ha
    ·cases ha
    ·cases ha
     exact pure (by simp only[aop,e1,e3];rw[if_pos hc];rfl) (.ptr _ _ _ q2 q3)
   ·cases ha
  ·cases ha
 |idxA len size agg x i=>
  simp only[aop]at ha
  split at ha
  ·rename_i cs k j h3 h4
   obtain⟨x2,e1,e2⟩:=sq7 hF h3
   obtain⟨i2,e3,e4⟩:=sq7 hF h4
   rw[e4.int]at e3
   obtain⟨cs2,rfl,e5⟩:=e2.lg1
   split at ha
   ·rename_i hc
    split at ha
    ·cases ha
     refine pure (by simp only[aop,e1,e3];rw[if_pos hc]) ?_
     rw[pn3,pn3]
     exact((e5.drop _).take _).agg
    ·split at ha
     ·rename_i u hu
      cases ha
      obtain⟨u2,k1,k2⟩:=e5.2 _ u (by simpa using hu)
      exact pure (by simp only[aop,e1,e3];rw[if_pos hc,show cs2[j.toNat*size]? =some u2 by simpa using k1]) k2
     ·cases ha
   ·cases ha
  ·cases ha
 |idxS x i=>
  simp only[aop]at ha
  split at ha
  ·rename_i s k j h3 h4
   obtain⟨x2,e1,e2⟩:=sq7 hF h3
   obtain⟨i2,e3,e4⟩:=sq7 hF h4
   rw[e4.int]at e3
   rw[e2.str]at e1
   split at ha
   ·rename_i hc
    split at ha
    ·rename_i b hb
     cases ha
     exact pure (by simp only[aop,e1,e3];rw[if_pos hc,hb]) (.atom _ rfl)
    ·cases ha
   ·cases ha
  ·cases ha
 |len x=>
  simp only[aop]at ha
  split at ha
  ·rename_i a n c h3
   cases ha
   obtain⟨x2,e1,e2⟩:=sq7 hF h3
   cases a with
   |none=>rw[e2.pl rfl]at e1;exact pure (by simp only[aop,e1]) (.atom _ rfl)
   |some a=>
    obtain⟨o2,q1,q2,q3,rfl⟩:=e2.wy5
    exact pure (by simp only[aop,e1]) (.atom _ rfl)
  ·cases ha
 |lenS x=>
  simp only[aop]at ha
  split at ha
  ·rename_i s h3
   cases ha
   obtain⟨x2,e1,e2⟩:=sq7 hF h3
   rw[e2.str]at e1
   exact pure (by simp only[aop,e1]) (.atom _ rfl)
  ·cases ha
 |lenK n=>
  simp only[aop]at ha
  cases ha
  exact pure (by simp only[aop]) (.atom _ rfl)
 |minmax mx xs=>
  simp only[aop]at ha
  split at ha
  ·rename_i vs hvs
   obtain⟨vs2,e1,e2⟩:=ce4 hF hvs
   split at ha
   ·rename_i k n r
    split at ha
    ·rename_i l hl
     cases ha
     have hall:ho0 k (.int k n::r)=some (n::l):=by simp[ho0,hl]
     have:=y96 e2 hall
     subst this
     exact pure (by simp only[aop,e1,hl]) (.atom _ rfl)
    ·cases ha
   ·cases ha
  ·cases ha
 |app elem size bytes s x=>
  simp only[aop]at ha
  split at ha
  ·rename_i s' x' h3 h4
   obtain⟨s2,e1,e2⟩:=sq7 hF h3
   obtain⟨x2,e3,e4⟩:=sq7 hF h4
   split at ha
   ·rename_i u h3' hap
    cases ha
    obtain⟨v2,h2',k1,k2,k3⟩:=y28 hm e2 e4 hap
    exact⟨some v2,h2',by simp only[aop,e1,e3,k1],k2,k3⟩
   ·cases ha
  ·cases ha
 |appz elem bytes s x=>
  simp only[aop]at ha
  split at ha
  ·rename_i sa n c m h3 h4
   obtain⟨s2,e1,e2⟩:=sq7 hF h3
   obtain⟨x2,e3,e4⟩:=sq7 hF h4
   have:=e4.pl rfl
   subst this
   split at ha
   ·rename_i hm0
    split at ha
    ·rename_i u h3' hap
     cases ha
     obtain⟨sa2,v2,h2',rfl,k1,k2,k3⟩:=y95 hm e2 (LE.self (by rw[p92];intro a ha;rw[ug1 ha];rfl)) hap
     exact⟨some v2,h2',by simp only[aop,e1,e3,k1];rw[if_pos hm0],k2,k3⟩
    ·cases ha
   ·cases ha
  ·cases ha
 |cpy size s x=>
  simp only[aop]at ha
  split at ha
  ·rename_i s' x' h3 h4
   obtain⟨s2,e1,e2⟩:=sq7 hF h3
   obtain⟨x2,e3,e4⟩:=sq7 hF h4
   split at ha
   ·rename_i u h3' hap
    cases ha
    obtain⟨v2,h2',k1,k2,k3⟩:=m31 hm e2 e4 hap
    exact⟨some v2,h2',by simp only[aop,e1,e3,k1],k2,k3⟩
   ·cases ha
  ·cases ha
 |ext i x=>
  simp only[aop]at ha
  split at ha
  ·rename_i vs h3
   obtain⟨x2,e1,e2⟩:=sq7 hF h3
   obtain⟨vs2,rfl,e3⟩:=e2.da1
   split at ha
   ·rename_i u hu
    cases ha
    obtain⟨u2,k1,k2⟩:=e3.2 i u (by simpa using hu)
    exact pure (by simp only[aop,e1];rw[show vs2[i]? =some u2 by simpa using k1]) k2
   ·cases ha
  ·cases ha
 |capt g n i x=>
  simp only[aop]at ha
  split at ha
  ·rename_i f first cs h3
   obtain⟨x2,e1,e2⟩:=sq7 hF h3
   obtain⟨f2,cs2,hf2,rfl,rfl,e3⟩:=e2.func_inv
   cases hf2
   split at ha
   ·rename_i hc
    split at ha
    ·rename_i u hu
     cases ha
     obtain⟨u2,k1,k2⟩:=e3.2 i u (by simpa using hu)
     exact pure (by simp only[aop,e1];rw[if_pos ⟨hc.1,by rw[←hc.2];simpa using e3.1.symm⟩,show cs2[i]? =some u2 by simpa using k1]) k2
    ·cases ha
   ·cases ha
  ·cases ha
 |call f args=>cases ha
 |calld x args=>cases ha
end
end Go.Am
namespace Go.Am
def ev3:ACode→Bool
 | .region l=>l.all fun o=>o.op.good
 | .seq a b| .cond _ a b=>ev3 a&&ev3 b
 | .block _ _ c| .loop _ c=>ev3 c
 |_=>true
def dl0:List It→Bool
 | []=>true
 | .code c::ks=>ev3 c&&dl0 ks
 | .blk .. ::ks=>dl0 ks
 | .lp _ c::ks=>ev3 c&&dl0 ks
def x28(T:Tab):Prop:= ∀f F,T f=some F→ev3 F.code=true
def EmbG(ρ:Rel)(g:List ARes→List It→Fr→H→Res):Prop:=
 ∀rs ks fr fr2 h h2 v h',dl0 ks=true→FE ρ h.length fr fr2→ME ρ h h2→g rs ks fr h=some (v,h')→ ∃v2 h2',g rs ks fr2 h2=some (v2,h2')∧E ρ h'.length v v2∧Post ρ h h' h2 h2'
section
variable {ρ:Rel} {h h2 h':H} {fr fr2:Fr} {T:Tab} {g:List ARes→List It→Fr→H→Res}
theorem wr0{n:Nat}(hF:FE ρ n fr fr2){x:Option (Nat×Bool)}{b:Bool}(hg:gd fr x=some b):gd fr2 x=some b:=by
 cases x with
 |none=>exact hg
 |some p=>
  obtain⟨s,want⟩:=p
  simp only[gd]at hg⊢
  split at hg
  ·rename_i b' hb
   obtain⟨v2,e1,e2⟩:=hF _ _ hb
   rw[e2.bool]at e1
   rw[e1];exact hg
  ·rename_i vs hb
   obtain⟨v2,e1,e2⟩:=hF _ _ hb
   obtain⟨cs2,rfl,_⟩:=e2.da1
   rw[e1];exact hg
  ·cases hg
theorem oo1{n:Nat}: ∀{vs vs2:List Value} (k:Nat),LE ρ n vs vs2→FE ρ n (Fr.args k vs) (Fr.args k vs2)
 | [],vs2,k,hl,t,v,hv=>by cases hv
 |u::vs,[],k,hl,t,v,hv=>by have:=hl.1;simp at this
 |u::vs,u2::vs2,k,hl,t,v,hv=>by
  obtain⟨u',h1,h2⟩:=hl.2 0 _ rfl
  simp at h1;subst h1
  simp only[Fr.args]at hv⊢
  cases hb:Nat.beq t k with
  |true=>rw[hb]at hv;cases hv;exact⟨u2,rfl,h2⟩
  |false=>
   rw[hb]at hv
   exact oo1 (k+1) (vs:=vs) (vs2:=vs2) ⟨by have:=hl.1;simpa using this,fun i v hv=>by simpa using hl.2 (i+1) v (by simpa using hv)⟩ t v hv
theorem kx4(hg:EmbG ρ g)(hT:x28 T)(hm:ME ρ h h2){f:FuncId}{vs vs2:List Value}(hl:LE ρ h.length vs vs2){v:Value}(he:enter T g f vs h=some (v,h')):
 ∃v2 h2',enter T g f vs2 h2=some (v2,h2')∧E ρ h'.length v v2∧Post ρ h h' h2 h2':=by
 unfold enter at he⊢
 split at he
 ·rename_i F hF
  split at he
  ·rename_i hn
   obtain⟨v2,h2',k1,k2⟩:=hg _ _ _ _ _ _ _ _ (by simp[dl0,hT f F hF]) (oo1 0 hl) hm he
   exact⟨v2,h2',by rw[if_pos (by rw[←hl.1];exact hn)];exact k1,k2⟩
  ·cases he
 ·cases he
theorem kb2{n n0 n02:Nat}(hF:FE ρ n fr fr2)(hold: ∀o o2,ρ o o2→o<n0→o2<n02){o:AOper}(ho:wb6 n0 fr o=true):wb6 n02 fr2 o=true:=by
 obtain⟨dst,op,guard,chk⟩:=o
 cases chk with
 |false=>cases op<;>rfl
 |true=>
  cases op<;>first|rfl|skip
  rename_i agg k a
  simp only[wb6]at ho⊢
  split at ho
  ·rename_i p hp
   obtain⟨v2,e1,e2⟩:=sq7 hF hp
   obtain⟨o2,q1,q2,q3,rfl⟩:=e2.bq1
   rw[e1]
   simp only[jn8]at ho⊢
   exact hold _ _ q2 ho
  ·cases ho
theorem gk7{chk:Bool}(hm:ME ρ h h2){h2':H}(hp:Post ρ h h' h2 h2'){α:Type}{r:Option α}{x:α}(hb:behind chk h h' r=some x){β:Type}{r2:Option β}:behind chk h2 h2' r2=r2:=
 sn9 fun hc=>hp.pre hm ((ya3 hb).2 hc)
theorem w39(hg:EmbG ρ g)(hT:x28 T){n0 n02:Nat}(hold: ∀o o2,ρ o o2→o<n0→o2<n02){o:AOper}(ho:o.op.good=true)(hF:FE ρ h.length fr fr2)(hm:ME ρ h h2){v:Option Value}(hs:core T g n0 o fr h=some (v,h')):
 ∃v2 h2',core T g n02 o fr2 h2=some (v2,h2')∧OVE ρ h'.length v v2∧Post ρ h h' h2 h2':=by
 unfold core at hs
 split at hs
 ·rename_i hgd
  cases hs
  exact⟨some (.tuple #[]),h2,by unfold core;rw[wr0 hF hgd],E.tuple #[] #[] rfl (fun i hi=>absurd hi (by simp)), .refl hm⟩
 ·rename_i hgd
  split at hs
  ·rename_i f args hop
   split at hs
   ·rename_i vs hvs
    obtain⟨vs2,e1,e2⟩:=ce4 hF hvs
    split at hs
    ·rename_i u h3 he
     have hb:=(ya3 hs).1
     cases hb
     obtain⟨v2,h2',k1,k2,k3⟩:=kx4 hg hT hm e2 he
     exact⟨some v2,h2',by unfold core;simp only[wr0 hF hgd,hop,e1,k1];exact gk7 hm k3 hs,k2,k3⟩
    ·cases hs
   ·cases hs
  ·rename_i x args hop
   split at hs
   ·rename_i f first cap vs hx hvs
    obtain⟨x2,e1,e2⟩:=sq7 hF hx
    obtain⟨vs2,e3,e4⟩:=ce4 hF hvs
    obtain⟨f',cap2,q1,rfl,rfl,q3⟩:=e2.func_inv
    cases q1
    split at hs
    ·split at hs
     ·rename_i u h3 he
      have hb:=(ya3 hs).1
      cases hb
      obtain⟨v2,h2',k1,k2,k3⟩:=kx4 hg hT hm (e4.append q3) he
      exact⟨some v2,h2',by unfold core;simp only[wr0 hF hgd,hop,e1,e3];rw[if_pos (show(#[]:Array Value).isEmpty=true from rfl)];simp only[k1];exact gk7 hm k3 hs,k2,k3⟩
     ·cases hs
    ·cases hs
   ·cases hs
  ·rename_i hne1 hne2
   split at hs
   ·rename_i hol
    obtain⟨v2,h2',k1,k2,k3⟩:=hn9 hF hm ho hs
    refine⟨v2,h2', ?_,k2,k3⟩
    unfold core
    simp only[wr0 hF hgd]
    rw[if_pos (kb2 hF hold hol)];exact k1
   ·cases hs
 ·cases hs
theorem a52(hg:EmbG ρ g)(hT:x28 T){n0 n02:Nat}(hold: ∀o o2,ρ o o2→o<n0→o2<n02){o:AOper}(ho:o.op.good=true)(hF:FE ρ h.length fr fr2)(hm:ME ρ h h2){fr':Fr}(hs:km6 T g n0 o fr h=some (fr',h')):
 ∃fr2' h2',km6 T g n02 o fr2 h2=some (fr2',h2')∧FE ρ h'.length fr' fr2'∧Post ρ h h' h2 h2':=by
 unfold km6 at hs
 split at hs
 ·rename_i v h3 hc
  cases hs
  obtain⟨v2,h2',k1,k2,k3⟩:=w39 hg hT hold ho hF hm hc
  exact⟨_,h2',by unfold km6;rw[k1],(hF.up k3.len).put _ k2,k3⟩
 ·cases hs
theorem yh3(hg:EmbG ρ g)(hT:x28 T){n0 n02:Nat}(hold: ∀o o2,ρ o o2→o<n0→o2<n02): ∀{l:List AOper} {fr fr2:Fr} {h h2 h':H} {fr':Fr},(l.all fun o=>o.op.good)=true→FE ρ h.length fr fr2→ME ρ h h2→gf4 T g n0 l fr h=some (fr',h')→
 ∃fr2' h2',gf4 T g n02 l fr2 h2=some (fr2',h2')∧FE ρ h'.length fr' fr2'∧Post ρ h h' h2 h2'
 | [],fr,fr2,h,h2,h',fr',_,hF,hm,hs=>by cases hs;exact⟨fr2,h2,rfl,hF, .refl hm⟩
 |o::l,fr,fr2,h,h2,h',fr',ho,hF,hm,hs=>by
  simp only[List.all_cons,b83]at ho
  simp only[gf4]at hs
  split at hs
  ·rename_i fr1 h1 h3
   obtain⟨fr21,h21,k1,k2,k3⟩:=a52 hg hT hold ho.1 hF hm h3
   obtain⟨fr22,h22,k4,k5,k6⟩:=yh3 hg hT hold ho.2 k2 k3.me hs
   exact⟨fr22,h22,by simp only[gf4,k1];exact k4,k5,k3.trans k6⟩
  ·cases hs
theorem nq8{n:Nat}(hF:FE ρ n fr fr2)(ks:List Nat):FE ρ n (Fr.of (hy3 fr ks)) (Fr.of (hy3 fr2 ks)):=by
 have spec: ∀(fr:Fr) (ks:List Nat) (t:Nat),Fr.of (hy3 fr ks) t=if t∈ks then fr t else none:=by
  intro fr ks t
  induction ks with
  |nil=>rfl
  |cons k ks ih=>
   simp only[hy3]
   cases hk:fr k with
   |none=>
    simp only[ih,r04]
    by_cases ht:t=k
    ·subst ht;simp[hk]
    ·simp[ht]
   |some v=>
    simp only[Fr.of,ih,r04]
    cases hb:Nat.beq t k with
    |true=>obtain rfl:=bg4 hb;simp[hk]
    |false=>
     have:t≠k:=by rintro rfl;rw[b55]at hb;cases hb
     simp[this]
 intro t v hv
 rw[spec]at hv⊢
 split at hv
 ·rw[if_pos ‹_›];exact hF t v hv
 ·cases hv
theorem o47(hF:FE ρ h.length fr fr2)(hm:ME ρ h h2): ∀{rs:List ARes} {vs:List Value},ress fr h rs=some vs→ ∃vs2,ress fr2 h2 rs=some vs2∧LE ρ h.length vs vs2
 | [],vs,hs=>by cases hs;exact⟨[],rfl,LE.nil⟩
 |r::rs,vs,hs=>by
  simp only[ress]at hs
  split at hs
  ·rename_i v vs' h3 h4
   cases hs
   obtain⟨vs2,k1,k2⟩:=o47 hF hm h4
   have: ∃v2,res1 fr2 h2 r=some v2∧E ρ h.length v v2:=by
    cases r with
    |tmp t=>exact hF t v h3
    |cell t agg n=>
     simp only[res1]at h3⊢
     split at h3
     ·rename_i a ha
      obtain⟨a2,e1,e2⟩:=hF t _ ha
      obtain⟨o2,q1,q2,q3,rfl⟩:=e2.bq1
      rw[e1]
      split at h3
      ·cases h3
      ·split at h3
       ·split at h3
        ·rename_i cs hcs
         cases h3
         obtain⟨cs2,e3,e4⟩:=hm.lds q2 hcs
         exact⟨_,by simp[e3],e4.agg⟩
        ·cases h3
       ·obtain⟨u2,e3,e4⟩:=hm.ld1 q2 h3
        exact⟨u2,by simp[e3],e4⟩
     ·cases h3
   obtain⟨v2,k3,k4⟩:=this
   exact⟨v2::vs2,by simp[ress,k1,k3],LE.cons k4 k2⟩
  ·cases hs
theorem ly4(hF:FE ρ h.length fr fr2)(hm:ME ρ h h2){rs:List ARes}{v:Value}(hs:retv rs fr h=some (v,h')): ∃v2 h2',retv rs fr2 h2=some (v2,h2')∧E ρ h'.length v v2∧Post ρ h h' h2 h2':=by
 unfold retv at hs
 split at hs
 ·rename_i u hu
  cases hs
  obtain⟨vs2,k1,k2⟩:=o47 hF hm hu
  obtain⟨u2,k3,k4⟩:=k2.2 0 _ rfl
  obtain rfl:vs2=[u2]:=by
   have hl:=k2.1
   match vs2,hl,k3 with
   | [x],_,k3=>simp at k3;rw[k3]
  exact⟨u2,h2,by unfold retv;rw[k1],k4, .refl hm⟩
 ·rename_i vs hne hu
  cases hs
  obtain⟨vs2,k1,k2⟩:=o47 hF hm hu
  refine⟨.tuple vs2.toArray,h2, ?_,k2.tuple, .refl hm⟩
  unfold retv
  rw[k1]
  split
  ·rename_i u he
   cases he
   have hl:=k2.1
   match vs,hl,hne with
   | [x],_,hne=>exact absurd rfl (hne x)
  ·rename_i he;cases he;rfl
  ·rename_i he;cases he
 ·cases hs
theorem wa1{id:Nat}: ∀{ks:List It} {ko:List Nat} {k:List It},dl0 ks=true→gc2 id ks=some (ko,k)→dl0 k=true
 | [],_,_,_,h=>by cases h
 | .code c::ks,_,_,hg,h=>by simp only[dl0,b83]at hg;exact wa1 hg.2 h
 | .lp _ c::ks,_,_,hg,h=>by simp only[dl0,b83]at hg;exact wa1 hg.2 h
 | .blk id' ko::ks,_,_,hg,h=>by
   simp only[gc2]at h
   simp only[dl0]at hg
   split at h
   ·cases h;exact hg
   ·exact wa1 hg h
theorem mf9(hg:EmbG ρ g)(hT:x28 T):EmbG ρ (gF T g):=by
 intro rs ks fr fr2 h h2 v h' hgood hF hm hs
 unfold gF at hs
 split at hs
 ·exact ly4 hF hm hs
 ·exact ly4 hF hm hs
 ·simp only[dl0,ev3,ed0]at hgood
  exact hg _ _ _ _ _ _ _ _ hgood hF hm hs
 ·cases hs
 ·simp only[dl0,ev3,b83]at hgood
  exact hg _ _ _ _ _ _ _ _ (by simp[dl0,hgood]) hF hm hs
 ·split at hs
  ·rename_i t ht
   obtain⟨c2,e1,e2⟩:=sq7 hF ht
   rw[e2.bool]at e1
   simp only[dl0,ev3,b83]at hgood
   obtain⟨v2,h2',k1,k2⟩:=hg _ _ _ _ _ _ _ _ (by cases t<;>simp[dl0,hgood]) hF hm hs
   exact⟨v2,h2',by unfold gF;simp only[e1];exact k1,k2⟩
  ·cases hs
 ·simp only[dl0,ev3,b83]at hgood
  exact hg _ _ _ _ _ _ _ _ (by simp[dl0,hgood]) hF hm hs
 ·simp only[dl0,ev3,b83]at hgood
  exact hg _ _ _ _ _ _ _ _ (by simp[dl0,hgood]) (nq8 hF _) hm hs
 ·split at hs
  ·rename_i ko k hp
   simp only[dl0,ev3,ed0]at hgood
   obtain⟨v2,h2',k1,k2⟩:=hg _ _ _ _ _ _ _ _ (wa1 hgood hp) (nq8 hF ko) hm hs
   exact⟨v2,h2',by unfold gF;simp only[hp];exact k1,k2⟩
  ·cases hs
 ·split at hs
  ·rename_i fr1 h1 hrun
   simp only[dl0,ev3,b83]at hgood
   obtain⟨fr21,h21,k1,k2,k3⟩:=yh3 hg hT (fun o o2 hr ho=>hm.lt hr ho) hgood.1 hF hm hrun
   obtain⟨v2,h2',k4,k5,k6⟩:=hg _ _ _ _ _ _ _ _ hgood.2 k2 k3.me hs
   exact⟨v2,h2',by unfold gF;simp only[k1];exact k4,k5,k3.trans k6⟩
  ·cases hs
 ·simp only[dl0]at hgood
  exact hg _ _ _ _ _ _ _ _ hgood (nq8 hF _) hm hs
 ·simp only[dl0,b83]at hgood
  exact hg _ _ _ _ _ _ _ _ (by simp[dl0,hgood]) (nq8 hF _) hm hs
theorem ab0(hT:x28 T): ∀n,EmbG ρ (goN T n)
 |0=>fun _ _ _ _ _ _ _ _ _ _ _ hs=>by cases hs
 |n+1=>mf9 (ab0 hT n) hT
end
end Go.Am
namespace Go.Am
structure WFs (fr:Fr) (h:H):Prop where
 fe:FE Eq h.length fr fr
 me:ME Eq h h
structure Eqv (n0:Nat) (fr:Fr) (h:H) (fr2:Fr) (h2:H):Prop where
 ex: ∃π:Rel,FE π h.length fr fr2∧ME π h h2∧h.length=h2.length∧(∀o,o<n0→π o o)∧(∀o,o<h.length→ ∃o2,π o o2)
theorem WFs.eqv{fr:Fr}{h:H}(hw:WFs fr h)(n0:Nat):Eqv n0 fr h fr h:=⟨Eq,hw.fe,hw.me,rfl,fun _ _=>rfl,fun o _=>⟨o,rfl⟩⟩
theorem ME.comp{ρ σ:Rel}{h h2 h3:H}(a:ME ρ h h2)(b:ME σ h2 h3):ME (fun o o3=> ∃o2,ρ o o2∧σ o2 o3) h h3:=by
 refine⟨fun o o3 p p3 ⟨o2,h1,h2⟩ ⟨p2,h3,h4⟩=>(a.uni _ _ _ _ h1 h3).trans (b.uni _ _ _ _ h2 h4),fun j=>⟨_,a.new j,b.new j⟩,fun o o3 ⟨o2,h1,h2⟩=> ?_⟩
 exact(a.get _ _ h1).comp (b.get _ _ h2) fun x y z h1 h2 h3 h4=>⟨⟨y,h1,h3⟩,h2⟩
theorem Eqv.trans{n0:Nat}{fr fr2 fr3:Fr}{h h2 h3:H}(a:Eqv n0 fr h fr2 h2)(b:Eqv n0 fr2 h2 fr3 h3):Eqv n0 fr h fr3 h3:=by
 obtain⟨π,a1,a2,a3,a4,a5⟩:=a.ex
 obtain⟨σ,b1,b2,b3,b4,b5⟩:=b.ex
 refine⟨_,fun t v hv=> ?_,a2.comp b2,a3.trans b3,fun o ho=>⟨o,a4 o ho,b4 o ho⟩,fun o ho=> ?_⟩
 ·obtain⟨v2,k1,k2⟩:=a1 t v hv
  obtain⟨v3,k3,k4⟩:=b1 t v2 k1
  exact⟨v3,k3,k2.comp k4 fun x y z h1 h2 h3 h4=>⟨⟨y,h1,h3⟩,h2⟩⟩
 ·obtain⟨o2,h1⟩:=a5 o ho
  obtain⟨o3,h2⟩:=b5 o2 (a2.lt h1 ho)
  exact⟨o3,o2,h1,h2⟩
section
variable {T:Tab} {g:List ARes→List It→Fr→H→Res} {n0:Nat}
theorem WFs.run(hg: ∀ρ,EmbG ρ g)(hT:x28 T){l:List AOper}(hl:(l.all fun o=>o.op.good)=true){fr fr':Fr}{h h':H}(hw:WFs fr h)(hs:gf4 T g n0 l fr h=some (fr',h')):WFs fr' h':=by
 obtain⟨fr2,h2,k1,k2,k3⟩:=yh3 (hg Eq) hT (n0:=n0) (n02:=n0) (fun o o2 h1 h2=>h1▸h2) hl hw.fe hw.me hs
 rw[hs]at k1
 cases k1
 exact⟨k2,k3.me⟩
theorem Eqv.run(hg: ∀ρ,EmbG ρ g)(hT:x28 T){l:List AOper}(hl:(l.all fun o=>o.op.good)=true){fr fr2 fr':Fr}{h h2 h':H}(hn:n0≤h.length)(he:Eqv n0 fr h fr2 h2)(hs:gf4 T g n0 l fr h=some (fr',h')):
 ∃fr2' h2',gf4 T g n0 l fr2 h2=some (fr2',h2')∧Eqv n0 fr' h' fr2' h2':=by
 obtain⟨π,a1,a2,a3,a4,a5⟩:=he.ex
 obtain⟨fr2',h2',k1,k2,k3⟩:=yh3 (hg π) hT (n0:=n0) (n02:=n0) (fun o o2 h1 h2=>by
  have:=(a2.uni _ _ _ _ h1 (a4 o h2)).1 rfl;omega) hl a1 a2 hs
 obtain⟨m,m1,m2⟩:=k3.more
 refine⟨fr2',h2',k1,π,k2,k3.me,by omega,a4,fun o ho=> ?_⟩
 by_cases hlt:o<h.length
 ·exact a5 o hlt
 ·exact⟨h2.length+(o-h.length),by have:=a2.new (o-h.length);rwa [show h.length+(o-h.length)=o by omega]at this⟩
def AOp.isNew:AOp→Bool
 | .alloc .. | .box .. | .mkSl .. | .mks .. =>true
 |_=>false
theorem gy5{op:AOp}(hn:op.isNew=true)(hgood:op.good=true){fr:Fr}{h h':H}{v:Option Value}(ha:aop fr h op=some (v,h')):
 ∃(mk:Nat→Value) (r:Row),(∀h2,aop fr h2 op=some (some (mk h2.length),h2++[.row r]))∧(∀(ρ:Rel) n o o2,ρ o o2→o<n→E ρ n (mk o) (mk o2))∧(∀n,FE Eq n fr fr→LE Eq n r.cells r.cells):=by
 cases op<;>first|(cases hn;done)|skip
 case alloc elem zs=>
  exact⟨fun o=> .pointer (some ⟨o,0,none⟩),⟨zs,elem,0,true⟩,fun h2=>rfl,fun ρ n o o2 h1 h2=> .ptr _ _ _ h1 h2,fun n _=>LE.self (show zs.all tc5=true from hgood)⟩
 case box elem size x=>
  simp only[aop]at ha
  split at ha
  ·rename_i u hu
   split at ha
   ·rename_i hc
    refine⟨fun o=> .pointer (some ⟨o,0,none⟩),⟨u.cells.toList,elem,0,true⟩,fun h2=>by simp only[aop,hu];rw[if_pos hc],fun ρ n o o2 h1 h2=> .ptr _ _ _ h1 h2,fun n hF=> ?_⟩
    obtain⟨u2,e1,e2⟩:=sq7 hF hu
    rw[hu]at e1;cases e1
    exact e2.cells
   ·cases ha
  ·cases ha
 case mkSl elem size len parts=>
  simp only[aop]at ha
  split at ha
  ·rename_i vs hvs
   split at ha
   ·rename_i hc
    refine⟨fun o=> .slice (some ⟨o,0,none⟩) len len,⟨cat vs,elem,size,true⟩,fun h2=>by simp only[aop,hvs];rw[if_pos hc],fun ρ n o o2 h1 h2=> .sl _ _ _ _ _ h1 h2,fun n hF=> ?_⟩
    obtain⟨vs2,e1,e2⟩:=ce4 hF hvs
    rw[hvs]at e1;cases e1
    exact(n41 (size:=size) e2).2
   ·cases ha
  ·cases ha
 case mks elem size bytes zs l c=>
  simp only[aop]at ha
  split at ha
  ·rename_i kl l' kc c' h3 h4
   split at ha
   ·rename_i hc
    exact⟨fun o=> .slice (some ⟨o,0,none⟩) l'.toNat c'.toNat,⟨rep zs c'.toNat,elem,size,true⟩,fun h2=>by simp only[aop,h3,h4];rw[if_pos hc],fun ρ n o o2 h1 h2=> .sl _ _ _ _ _ h1 h2,fun n hF=>LE.rep (LE.self (show zs.all tc5=true from hgood)) _⟩
   ·cases ha
  ·cases ha
theorem op1{o:AOper}(hn:o.op.isNew=true)(hgood:o.op.good=true){fr:Fr}{h h':H}{v:Option Value}(ha:core T g n0 o fr h=some (v,h')):
 (∀h2,core T g n0 o fr h2=some (v,h2))∨
 ∃(mk:Nat→Value) (r:Row),(∀h2,core T g n0 o fr h2=some (some (mk h2.length),h2++[.row r]))∧(∀(ρ:Rel) n o o2,ρ o o2→o<n→E ρ n (mk o) (mk o2))∧(∀n,FE Eq n fr fr→LE Eq n r.cells r.cells):=by
 unfold core at ha
 split at ha
 ·rename_i hgd
  cases ha
  exact .inl fun h2=>by unfold core;rw[hgd]
 ·rename_i hgd
  split at ha
  ·rename_i hop;rw[hop]at hn;cases hn
  ·rename_i hop;rw[hop]at hn;cases hn
  ·rename_i hne1 hne2
   split at ha
   ·rename_i hol
    obtain⟨mk,r,k1,k2,k3⟩:=gy5 hn hgood ha
    refine .inr ⟨mk,r,fun h2=> ?_,k2,k3⟩
    unfold core
    simp only[hgd]
    rw[if_pos hol]
    exact k1 h2
   ·cases ha
 ·cases ha
theorem sn7{o:AOper}(hc:o.op.cls=1){fr:Fr}{h hx:H}{n:Nat}(hF:FE Eq n fr fr)(hsub: ∀x r,x<n→H.row hx x=some r→h.row x=some r){v:Option Value}{h':H}(hs:core T g n0 o fr hx=some (v,h')):core T g n0 o fr h=some (v,h):=by
 have hx':=(sl5 hc hs).1
 simp only at hx'
 subst hx'
 unfold core at hs⊢
 split at hs
 ·cases hs;rfl
 ·split at hs
  ·rename_i hop;rw[hop]at hc;cases hc
  ·rename_i hop;rw[hop]at hc;cases hc
  ·rename_i hne1 hne2
   split at hs
   ·rename_i hold
    rw[if_pos hold]
    have key: ∀{agg:Bool} {k:Nat} {a:Operand},aop fr h' (.ld agg k a)=some (v,h')→aop fr h (.ld agg k a)=some (v,h):=by
     intro agg k a hs
     simp only[aop]at hs⊢
     split at hs
     ·rename_i ad had
      obtain⟨v2,e1,e2⟩:=sq7 hF had
      obtain⟨o2,q1,q2,q3,rfl⟩:=e2.bq1
      split at hs
      ·cases hs
      ·rename_i hsp
       rw[if_neg hsp]
       split at hs
       ·unfold H.lds at hs⊢
        split at hs
        ·rename_i cs hcs
         split at hcs
         ·rename_i r hr
          rw[hsub _ _ q3 hr]
          cases hs
          simp only[hcs]
         ·cases hcs
        ·cases hs
       ·unfold H.ld1 at hs⊢
        split at hs
        ·rename_i u hu
         split at hu
         ·rename_i r hr
          rw[hsub _ _ q3 hr]
          cases hs
          simp only[hu]
         ·cases hu
        ·cases hs
     ·cases hs
    have keyb: ∀{a:Operand},bx fr h' a=true→bx fr h a=true:=by
     intro a hb
     unfold bx at hb⊢
     cases hev:ev fr a with
     |none=>rw[hev]at hb;cases hb
     |some w=>
      rw[hev]at hb
      split at hb
      ·rename_i ad e
       cases e
       obtain⟨v2,e1,e2⟩:=sq7 hF hev
       obtain⟨o2,q1,q2,q3,rfl⟩:=e2.bq1
       unfold boxed at hb⊢
       split at hb
       ·rename_i r hr
        simp only[hsub _ _ q3 hr];exact hb
       ·cases hb
      ·cases hb
    cases hop:o.op<;>rw[hop]at hc<;>simp only[AOp.cls]at hc<;>first|(exfalso;revert hc;decide)|skip
    case ld agg k a=>rw[hop]at hs;exact key hs
    case mget kd z m k=>
     rw[hop]at hs
     obtain⟨o1,i,r,w,h1,h3,h4,h5,h6,h7⟩:=oe0.1 hs
     cases h7
     obtain⟨v2,e1,e2⟩:=sq7 hF h1
     obtain⟨o2,q1,q2,rfl⟩:=e2.mp_inv
     exact oe0.2 ⟨o1,i,r,w,h1,h3,hsub _ _ q2 h4,h5,h6,rfl⟩
    case ldb agg k a=>
     rw[hop]at hs
     obtain⟨hb,hs⟩:=zx2 hs
     show aop fr h (.ldb agg k a)=_
     rw[fd7,if_pos (keyb hb)];exact key hs
    case sl size x lo hi=>
     rw[hop]at hs
     simp only[aop]at hs⊢
     split at hs
     ·rename_i a l c lo' hi' h3 h4 h5
      split at hs
      ·rename_i hcond
       cases hs
       have hu:ss4 h size a=true:=by
        have hu:=hcond.2.2.2
        cases a with
        |none=>rfl
        |some a=>
         obtain⟨v2,e1,e2⟩:=sq7 hF h3
         obtain⟨o2,q1,q2,q3,rfl⟩:=e2.wy5
         unfold ss4 at hu⊢
         simp only at hu⊢
         split at hu
         ·rename_i r hr;rw[hsub _ _ q3 hr];exact hu
         ·cases hu
       rw[if_pos ⟨hcond.1,hcond.2.1,hcond.2.2.1,hu⟩]
      ·cases hs
     ·cases hs
   ·cases hs
 ·cases hs
def AOp.isApp:AOp→Bool
 | .app .. =>true
 |_=>false
theorem np7{h:H}{x y:Nat}{r:Row}(hx:x<h.length)(hr:H.row (kill h y) x=some r):h.row x=some r:=by
 unfold H.row kill at*
 by_cases he:y=x
 ·rw[he,j13 hx]at hr;cases hr
 ·rw[b17 he]at hr;exact hr
theorem a27{o:AOper}(hc:o.op.isApp=true){fr:Fr}{h h':H}{v:Option Value}(hs:core T g n0 o fr h=some (v,h')): ∀x r,x<h.length→H.row h' x=some r→h.row x=some r:=by
 have happ: ∀{elem size bytes s x v h'},aapp elem size bytes h s x=some (v,h')→ ∀x r,x<h.length→H.row h' x=some r→h.row x=some r:=by
  intro elem size bytes s x v h' hap x r hx hr
  unfold aapp aput at hap
  split at hap<;>first|(cases hap;done)|skip
  split at hap<;>first|(cases hap;done)|skip
  split at hap
  ·split at hap<;>first|(cases hap;done)|skip
   split at hap
   ·cases hap;exact hr
   ·split at hap
    ·cases hap;rwa [n64 hx]at hr
    ·cases hap
  ·split at hap<;>first|(cases hap;done)|skip
   split at hap
   ·cases hap
    rw[n64 (by simp[kill];exact hx)]at hr
    exact np7 hx hr
   ·cases hap
 unfold core at hs
 split at hs
 ·cases hs;exact fun _ _ _ h=>h
 ·cases hop:o.op<;>rw[hop]at hc<;>first|(cases hc;done)|skip
  rw[hop]at hs
  simp only at hs
  split at hs
  ·simp only[aop]at hs
   split at hs
   ·split at hs
    ·rename_i hap
     cases hs
     exact happ hap
    ·cases hs
   ·cases hs
  ·cases hs
 ·cases hs
def adds(o:AOper):Bool:=Nat.ble o.op.cls 2&&(!o.op.isCall||o.chk)
theorem ga6{o:AOper}(ha:adds o=true){fr:Fr}{h:H}{p}(hs:core T g n0 o fr h=some p):h<+:p.2:=by
 simp only[adds,b83]at ha
 have h2:=fy2 ha.1
 by_cases h0:o.op.cls=0
 ·rw[(rf7 h0 hs).1];exact je0 _
 ·by_cases h1:o.op.cls=1
  ·rw[(sl5 h1 hs).1];exact je0 _
  ·exact uh4 (by omega) ha.2 hs
def cut(N p:Nat):Rel:=fun o o2=>(o<N∧o2=o)∨(N+p≤o∧o2+p=o)
def ins(N p:Nat):Rel:=fun o o2=>(o<N∧o2=o)∨(N≤o∧o2=o+p)
def flip(N p q:Nat):Rel:=fun o o2=>(o<N∧o2=o)∨(N≤o∧o<N+p∧o2=o+q)∨(N+p≤o∧o<N+p+q∧o2+p=o)∨(N+p+q≤o∧o2=o)
theorem ii6{h h':H}{o:Nat}(hp:h<+:h')(ho:o<h.length):h'[o]? =h[o]? :=by
 obtain⟨t,rfl⟩:=hp
 exact bu4 ho
theorem OE.none{ρ:Rel}{n:Nat}{h h2:H}{o o2:Nat}(h1:h.length≤o)(h3:h2.length≤o2):OE ρ n h[o]? h2[o2]? :=by
 rw[pb5 h1,pb5 h3];trivial
theorem ME.cut{h h1:H}(hw:ME Eq h h)(hp:h<+:h1):ME (cut h.length (h1.length-h.length)) h1 h:=by
 have hl:=hp.length_le
 refine⟨fun o o2 p p2 h3 h4=>by unfold Am.cut at h3 h4;omega,fun j=>by unfold Am.cut;omega,fun o o2 ho=> ?_⟩
 unfold Am.cut at ho
 rcases ho with⟨h3,rfl⟩|⟨h3,h4⟩
 ·rw[ii6 hp h3]
  exact(hw.get _ _ rfl).mono fun x y h5 h6=>⟨.inl ⟨h5,h6.symm⟩,by omega⟩
 ·exact OE.none (by omega) (by omega)
theorem ME.ins{h h1:H}(hw:ME Eq h h)(hp:h<+:h1):ME (ins h.length (h1.length-h.length)) h h1:=by
 have hl:=hp.length_le
 refine⟨fun o o2 p p2 h3 h4=>by unfold Am.ins at h3 h4;omega,fun j=>by unfold Am.ins;omega,fun o o2 ho=> ?_⟩
 unfold Am.ins at ho
 rcases ho with⟨h3,rfl⟩|⟨h3,h4⟩
 ·rw[ii6 hp h3]
  exact(hw.get _ _ rfl).mono fun x y h5 h6=>⟨.inl ⟨h5,h6.symm⟩,by omega⟩
 ·exact OE.none (by omega) (by omega)
theorem FE.into{ρ:Rel}{n m:Nat}{fr:Fr}(hF:FE Eq n fr fr)(hr: ∀o,o<n→ρ o o)(hn:n≤m):FE ρ m fr fr:=hF.mono fun x y h5 h6=>⟨h6▸hr x h5,by omega⟩
def gw4(a b:AOper):Bool:=
 (match a.dst with|some d=> !b.looks.contains d&&b.dst !=some d|none=>true)&&(match b.dst with|some d=> !a.looks.contains d|none=>true)&&
 (a.op.isNew||b.op.isNew||(adds a&&adds b)||(a.op.isApp&&b.op.cls==1))
theorem OVE.mono{ρ ρ':Rel}{n n':Nat}{v v2:Option Value}(h:OVE ρ n v v2)(hr: ∀o o2,o<n→ρ o o2→ρ' o o2∧o<n'):OVE ρ' n' v v2:=by
 cases v<;>cases v2<;>first|exact h|exact E.mono h hr
theorem ia1{N p q:Nat}(hn:n0≤N){fr:Fr}{hc hs:H}(hF:FE Eq N fr fr)(lc:hc.length=N+p+q)(ls:hs.length=N+p+q)
 (g1: ∀o,o<N→OE (flip N p q) hc.length hc[o]? hs[o]?) (g2: ∀o,N≤o→o<N+p→OE (flip N p q) hc.length hc[o]? hs[o+q]?) (g3: ∀o,N≤o→o<N+q→OE (flip N p q) hc.length hc[o+p]? hs[o]?)
 {d1 d2:Option Nat} (hd: ∀s,d1=some s→d2≠some s) {v1 v2 u1 u2:Option Value} (hv1:OVE (flip N p q) hc.length v1 u1) (hv2:OVE (flip N p q) hc.length v2 u2):
 Eqv n0 ((fr.put d1 v1).put d2 v2) hc ((fr.put d2 u2).put d1 u1) hs:=by
 refine⟨flip N p q, ?_,⟨fun o o2 x x2 h3 h4=>by unfold flip at h3 h4;omega,fun j=>by unfold flip;omega,fun o o2 ho=> ?_⟩,by omega,fun o ho=>by unfold flip;omega,fun o ho=> ?_⟩
 ·rw[←put_comm hd]
  exact((hF.into (fun o ho=> .inl ⟨ho,rfl⟩) (by omega)).put _ hv1).put _ hv2
 ·unfold flip at ho
  rcases ho with⟨h1,rfl⟩|⟨h1,h2,rfl⟩|⟨h1,h2,h3⟩|⟨h1,rfl⟩
  ·exact g1 _ h1
  ·exact g2 _ h1 h2
  ·obtain rfl:o=o2+p:=h3.symm
   exact g3 o2 (by omega) (by omega)
  ·exact OE.none (by omega) (by omega)
 ·by_cases h1:o<N
  ·exact⟨o, .inl ⟨h1,rfl⟩⟩
  ·by_cases h2:o<N+p
   ·exact⟨o+q, .inr (.inl ⟨by omega,h2,rfl⟩)⟩
   ·exact⟨o-p, .inr (.inr (.inl ⟨by omega,by omega,by omega⟩))⟩
theorem eo3(hg: ∀ρ,EmbG ρ g)(hT:x28 T){o1 o2:AOper}(hs:gw4 o1 o2=true)(q1:o1.op.good=true)(q2:o2.op.good=true){fr fr1 fr2:Fr}{h h1 h2:H}(hn:n0≤h.length)(hw:WFs fr h)
 (s1:km6 T g n0 o1 fr h=some (fr1,h1)) (s2:km6 T g n0 o2 fr1 h1=some (fr2,h2)):
 ∃fr1' h1' fr2' h2',km6 T g n0 o2 fr h=some (fr1',h1')∧km6 T g n0 o1 fr1' h1'=some (fr2',h2')∧Eqv n0 fr2 h2 fr2' h2':=by
 have hwf:WFs fr2 h2:=WFs.run (n0:=n0) hg hT (l:=[o1,o2]) (by simp[q1,q2]) hw (by simp only[gf4,s1,s2])
 simp only[gw4,b83]at hs
 obtain⟨⟨ha,hb⟩,hcls⟩:=hs
 have d1: ∀d,o1.dst=some d→d∉o2.looks∧o2.dst≠some d:=by
  intro d hd
  rw[hd]at ha
  simpa using ha
 have d2: ∀d,o2.dst=some d→d∉o1.looks:=by
  intro d hd
  rw[hd]at hb
  simpa using hb
 have dd: ∀s,o1.dst=some s→o2.dst≠some s:=fun s hs=>(d1 s hs).2
 rw[sl0]at s1 s2
 cases c1:core T g n0 o1 fr h with
 |none=>rw[c1]at s1;cases s1
 |some p1=>
  obtain⟨v1,hx⟩:=p1
  rw[c1]at s1
  simp only[eb5,hx3,br6]at s1
  obtain⟨rfl,rfl⟩:=s1
  cases c2:core T g n0 o2 (fr.put o1.dst v1) hx with
  |none=>rw[c2]at s2;cases s2
  |some p2=>
   obtain⟨v2,hy⟩:=p2
   rw[c2]at s2
   simp only[eb5,hx3,br6]at s2
   obtain⟨rfl,rfl⟩:=s2
   have e2: ∀u h,core T g n0 o2 (fr.put o1.dst u) h=core T g n0 o2 fr h:=fun u h=>c52 fun t ht=>dd0 fun hd=>(d1 t hd).1 ht
   have e1: ∀u h,core T g n0 o1 (fr.put o2.dst u) h=core T g n0 o1 fr h:=fun u h=>c52 fun t ht=>dd0 fun hd=>d2 t hd ht
   rw[e2]at c2
   have fin: ∀{u2 hb u1 hs},core T g n0 o2 fr h=some (u2,hb)→core T g n0 o1 fr hb=some (u1,hs)→Eqv n0 ((fr.put o1.dst v1).put o2.dst v2) hy ((fr.put o2.dst u2).put o1.dst u1) hs→
    ∃fr1' h1' fr2' h2',km6 T g n0 o2 fr h=some (fr1',h1')∧km6 T g n0 o1 fr1' h1'=some (fr2',h2')∧Eqv n0 ((fr.put o1.dst v1).put o2.dst v2) hy fr2' h2':=by
    intro u2 hb u1 hs k1 k2 k3
    exact⟨fr.put o2.dst u2,hb,_,hs,by rw[sl0,k1];rfl,by rw[sl0,e1,k2];rfl,k3⟩
   have same:core T g n0 o2 fr h=some (v2,h)∧core T g n0 o1 fr h=some (v1,hy)∨(core T g n0 o2 fr h=some (v2,hy)∧core T g n0 o1 fr hy=some (v1,hy))→
    ∃fr1' h1' fr2' h2',km6 T g n0 o2 fr h=some (fr1',h1')∧km6 T g n0 o1 fr1' h1'=some (fr2',h2')∧Eqv n0 ((fr.put o1.dst v1).put o2.dst v2) hy fr2' h2':=by
    rintro(⟨k1,k2⟩|⟨k1,k2⟩)
    ·exact fin k1 k2 (by rw[←put_comm dd];exact hwf.eqv n0)
    ·exact fin k1 k2 (by rw[←put_comm dd];exact hwf.eqv n0)
   have cutS: ∀{k:Nat},h.length+k≤hx.length→h<+:hx→ ∃u2 hb,core T g n0 o2 fr h=some (u2,hb)∧OVE (cut h.length (hx.length-h.length)) hy.length v2 u2∧Post (cut h.length (hx.length-h.length)) hx hy h hb:=by
    intro k hk hp
    exact w39 (hg _) hT (n0:=n0) (n02:=n0) (fun o o2 h3 h4=>by unfold cut at h3;omega) q2 (hw.fe.into (fun o ho=> .inl ⟨ho,rfl⟩) hp.length_le) (hw.me.cut hp) c2
   have insS: ∀{hb:H},h<+:hb→ ∃u1 hs,core T g n0 o1 fr hb=some (u1,hs)∧OVE (ins h.length (hb.length-h.length)) hx.length v1 u1∧Post (ins h.length (hb.length-h.length)) h hx hb hs:=by
    intro hb hp
    exact w39 (hg _) hT (n0:=n0) (n02:=n0) (fun o o2 h3 h4=>by unfold ins at h3;omega) q1 (hw.fe.into (fun o ho=> .inl ⟨ho,rfl⟩) (jj6 _)) (hw.me.ins hp) c1
   simp only[ey6,b83]at hcls
   rcases hcls with((h0|h0)|⟨h0,h0'⟩)|⟨h0,h0'⟩
   ·--the first makes one object
    rcases op1 h0 q1 c1 with k|⟨mk,r,k1,k2,k3⟩
    ·have:=k h
     rw[c1]at this;cases this
     exact same (.inr ⟨c2,k _⟩)
    ·have:=k1 h
     rw[c1]at this;cases this
     have hp:h<+:h++[Ob.row r]:=w63 _ _
     have hl:(h++[Ob.row r]).length-h.length=1:=by simp
     obtain⟨u2,hb,m1,m2,m3⟩:=cutS (k:=0) (by simp) hp
     rw[hl]at m2 m3
     obtain⟨m,l1,l2⟩:=m3.more
     simp only[j82,q90,fo5]at l1
     refine fin m1 (k1 hb) (ia1 (p:=1) (q:=m) hn hw.fe (by omega) (by simp;omega) (fun o ho=> ?_) (fun o ho1 ho2=> ?_) (fun o ho1 ho2=> ?_) dd ?_ (m2.mono ?_))
     ·rw[bu4 (by omega)]
      exact(m3.me.get o o (.inl ⟨ho,rfl⟩)).mono fun x y h5 h6=>⟨by unfold cut at h6;unfold flip;omega,h5⟩
     ·obtain rfl:o=h.length:=by omega
      rw[m3.keep _ (by simp) (fun o2 ho=>by unfold cut at ho;omega),show h.length+m=hb.length by omega]
      simp only[j82,q90,fo5,lp1 (jj6 _),ob6,rw5]
      exact⟨rfl,rfl,rfl,(k3 _ hw.fe).mono fun x y h5 h6=>⟨.inl ⟨h5,h6.symm⟩,by omega⟩⟩
     ·rw[bu4 (by omega)]
      exact(m3.me.get (o+1) o (.inr ⟨by omega,rfl⟩)).mono fun x y h5 h6=>⟨by unfold cut at h6;unfold flip;omega,h5⟩
     ·exact k2 _ _ _ _ (by unfold flip;omega) (by omega)
     ·exact fun x y h5 h6=>⟨by unfold cut at h6;unfold flip;omega,h5⟩
   ·--the second does
    rcases op1 h0 q2 c2 with k|⟨mk,r,k1,k2,k3⟩
    ·have:=k hx
     rw[c2]at this;cases this
     exact same (.inl ⟨k _,c1⟩)
    ·have:=k1 hx
     rw[c2]at this;cases this
     have hp:h<+:h++[Ob.row r]:=w63 _ _
     have hl:(h++[Ob.row r]).length-h.length=1:=by simp
     obtain⟨u1,hs,m1,m2,m3⟩:=insS hp
     rw[hl]at m2 m3
     obtain⟨m,l1,l2⟩:=m3.more
     simp only[j82,q90,fo5]at l2
     refine fin (k1 h) m1 (ia1 (p:=m) (q:=1) hn hw.fe (by simp;omega) (by omega) (fun o ho=> ?_) (fun o ho1 ho2=> ?_) (fun o ho1 ho2=> ?_) dd (m2.mono ?_) ?_)
     ·rw[bu4 (by omega)]
      exact(m3.me.get o o (.inl ⟨ho,rfl⟩)).mono fun x y h5 h6=>⟨by unfold ins at h6;unfold flip;omega,by simp;omega⟩
     ·rw[bu4 (by omega)]
      exact(m3.me.get o (o+1) (.inr ⟨by omega,rfl⟩)).mono fun x y h5 h6=>⟨by unfold ins at h6;unfold flip;omega,by simp;omega⟩
     ·obtain rfl:o=h.length:=by omega
      rw[m3.keep2 _ (by simp) (fun o2 ho=>by unfold ins at ho;omega),show h.length+m=hx.length by omega]
      simp only[lp1 (jj6 _),ob6,rw5]
      exact⟨rfl,rfl,rfl,(k3 _ hw.fe).mono fun x y h5 h6=>⟨.inl ⟨h5,h6.symm⟩,by simp;omega⟩⟩
     ·exact fun x y h5 h6=>⟨by unfold ins at h6;unfold flip;omega,by simp;omega⟩
     ·exact k2 _ _ _ _ (by unfold flip;omega) (by simp)
   ·--both only add
    have p1:=ga6 h0 c1
    have p2:=ga6 h0' c2
    simp only at p1 p2
    obtain⟨u2,hb,m1,m2,m3⟩:=cutS (k:=0) (by simpa using p1.length_le) p1
    have p3:=m3.pre (hw.me.cut p1) p2
    obtain⟨u1,hs,n1,n2,n3⟩:=insS p3
    have p4:=n3.pre (hw.me.ins p3) p1
    have L1:=p1.length_le
    have L2:=p2.length_le
    have L3:=p3.length_le
    obtain⟨a,a1,a2⟩:=m3.more
    obtain⟨b,b1,b2⟩:=n3.more
    refine fin m1 n1 (ia1 (p:=b) (q:=a) hn hw.fe (by omega) (by omega) (fun o ho=> ?_) (fun o ho1 ho2=> ?_) (fun o ho1 ho2=> ?_) dd (n2.mono ?_) (m2.mono ?_))
    ·rw[ii6 p2 (by omega),ii6 p1 ho,ii6 p4 (by omega),ii6 p3 ho]
     exact(hw.me.get o o rfl).mono fun x y h5 h6=>⟨.inl ⟨h5,h6.symm⟩,by omega⟩
    ·rw[ii6 p2 (by omega)]
     exact(n3.me.get o (o+a) (.inr ⟨by omega,by omega⟩)).mono fun x y h5 h6=>⟨by unfold ins at h6;unfold flip;omega,by omega⟩
    ·rw[ii6 p4 (by omega)]
     exact(m3.me.get (o+b) o (.inr ⟨by omega,by omega⟩)).mono fun x y h5 h6=>⟨by unfold cut at h6;unfold flip;omega,by omega⟩
    ·exact fun x y h5 h6=>⟨by unfold ins at h6;unfold flip;omega,by omega⟩
    ·exact fun x y h5 h6=>⟨by unfold cut at h6;unfold flip;omega,by omega⟩
   ·--an append,and a look at what is still there
    have h1:o2.op.cls=1:=by simpa using h0'
    have e:=(sl5 h1 c2).1
    simp only at e
    subst e
    exact same (.inl ⟨sn7 h1 hw.fe (a27 h0 c1) c2,c1⟩)
end
end Go.Am
namespace Go.Am
section
variable {T:Tab} {g:List ARes→List It→Fr→H→Res} {n0:Nat}
theorem df4: ∀{l1 l2:List AOper} {fr:Fr} {h:H} {r},gf4 T g n0 (l1++l2) fr h=some r↔ ∃fr1 h1,gf4 T g n0 l1 fr h=some (fr1,h1)∧gf4 T g n0 l2 fr1 h1=some r
 | [],l2,fr,h,r=>by
   constructor
   ·intro hr;exact⟨fr,h,rfl,hr⟩
   ·rintro⟨fr1,h1,he,hr⟩;cases he;exact hr
 |o::l1,l2,fr,h,r=>by
  simp only[rs6,gf4]
  cases km6 T g n0 o fr h with
  |none=>simp
  |some p=>obtain⟨fr1,h1⟩:=p;simp only;exact df4
def es5(a b:AOper):Bool:=ts2 a b||gw4 a b
theorem ub2(hg: ∀rs ks fr h v h',g rs ks fr h=some (v,h')→h.length≤h'.length)(hE: ∀ρ,EmbG ρ g)(hT:x28 T){o1 o2:AOper}(hs:es5 o1 o2=true)(q1:o1.op.good=true)(q2:o2.op.good=true){fr fr1 fr2:Fr}{h h1 h2:H}(hn:n0≤h.length)(hw:WFs fr h)
 (s1:km6 T g n0 o1 fr h=some (fr1,h1)) (s2:km6 T g n0 o2 fr1 h1=some (fr2,h2)):
 ∃fr1' h1' fr2' h2',km6 T g n0 o2 fr h=some (fr1',h1')∧km6 T g n0 o1 fr1' h1'=some (fr2',h2')∧Eqv n0 fr2 h2 fr2' h2':=by
 simp only[es5,ey6]at hs
 rcases hs with hs|hs
 ·obtain⟨fr1',h1',k1,k2⟩:=swap hs hn s1 s2
  have hwf:WFs fr2 h2:=WFs.run (n0:=n0) hE hT (l:=[o1,o2]) (by simp[q1,q2]) hw (by simp only[gf4,s1,s2])
  exact⟨fr1',h1',fr2,h2,k1,k2,hwf.eqv n0⟩
 ·exact eo3 hE hT hs q1 q2 hn hw s1 s2
theorem xi0(hg: ∀rs ks fr h v h',g rs ks fr h=some (v,h')→h.length≤h'.length)(hE: ∀ρ,EmbG ρ g)(hT:x28 T){o:AOper}(ho:o.op.good=true): ∀{l:List AOper} {fr fr':Fr} {h h':H},(l.all fun o=>o.op.good)=true→n0≤h.length→WFs fr h→(∀x∈l,es5 o x=true)→
 gf4 T g n0 (o::l) fr h=some (fr',h')→ ∃fr2 h2,gf4 T g n0 (l++[o]) fr h=some (fr2,h2)∧Eqv n0 fr' h' fr2 h2
 | [],fr,fr',h,h',_,hn,hw,_,hr=>⟨fr',h',hr,(WFs.run (n0:=n0) hE hT (l:=[o]) (by simp[ho]) hw hr).eqv n0⟩
 |x::l,fr,fr',h,h',hl,hn,hw,hs,hr=>by
  simp only[List.all_cons,b83]at hl
  simp only[gf4]at hr
  cases h1:km6 T g n0 o fr h with
  |none=>rw[h1]at hr;cases hr
  |some p1=>
   obtain⟨f1,g1⟩:=p1
   rw[h1]at hr
   simp only at hr
   cases h2:km6 T g n0 x f1 g1 with
   |none=>rw[h2]at hr;cases hr
   |some p2=>
    obtain⟨f2,g2⟩:=p2
    rw[h2]at hr
    simp only at hr
    obtain⟨f3,g3,f4,g4,k1,k2,k3⟩:=ub2 hg hE hT (hs x (by simp)) ho hl.1 hn hw h1 h2
    have l1:=lr9 hg h1
    have l2:=lr9 hg h2
    have l3:=lr9 hg k1
    have l4:=lr9 hg k2
    obtain⟨f5,g5,k4,k5⟩:=k3.run hE hT hl.2 (by omega) hr
    have hw3:WFs f3 g3:=WFs.run (n0:=n0) hE hT (l:=[x]) (by simp[hl.1]) hw (by simp only[gf4,k1])
    obtain⟨f6,g6,k6,k7⟩:=xi0 hg hE hT ho (l:=l) (fr:=f3) (h:=g3) hl.2 (by omega) hw3 (fun y hy=>hs y (by simp[hy])) (by simp only[gf4,k2];exact k4)
    exact⟨f6,g6,by simp only[rs6,gf4,k1];exact k6,k5.trans k7⟩
theorem tv5(hg: ∀rs ks fr h v h',g rs ks fr h=some (v,h')→h.length≤h'.length)(hE: ∀ρ,EmbG ρ g)(hT:x28 T)(A:Nat→AOper)(hA: ∀i,(A i).op.good=true): ∀(S L:List Nat) {fr fr':Fr} {h h':H},n0≤h.length→WFs fr h→S.Pairwise (· < ·)→L.Perm S→
 (∀L1 x L2,L=L1++x::L2→ ∀i∈S,i<x→es5 (A i) (A x)=false→i∈L1)→
 gf4 T g n0 (S.map A) fr h=some (fr',h')→ ∃fr2 h2,gf4 T g n0 (L.map A) fr h=some (fr2,h2)∧Eqv n0 fr' h' fr2 h2
 | [],L,fr,fr',h,h',hn,hw,_,hp,_,hr=>by
   obtain rfl:=List.perm_nil.1 hp
   cases hr
   exact⟨fr,h,rfl,hw.eqv n0⟩
 |i::S,L,fr,fr',h,h',hn,hw,hsrt,hp,hord,hr=>by
  have hall: ∀M:List Nat,((M.map A).all fun o=>o.op.good)=true:=fun M=>by rw[p92];intro x hx;obtain⟨y,_,rfl⟩:=vf1.1 hx;exact hA y
  have hnd:L.Nodup:=(hp.nodup_iff).2 (hsrt.imp fun h=>Nat.ne_of_lt h)
  have hi:i∈L:=hp.mem_iff.2 (by simp)
  obtain⟨L1,L2,rfl⟩:=List.append_of_mem hi
  have hp':(L1++L2).Perm S:=(List.Perm.cons_inv ((List.perm_middle.symm).trans hp))
  have hsrt':S.Pairwise (· < ·):=hsrt.of_cons
  have hmin: ∀x∈S,i<x:=fun x hx=>List.rel_of_pairwise_cons hsrt hx
  simp only[nf9,gf4]at hr
  cases h1:km6 T g n0 (A i) fr h with
  |none=>rw[h1]at hr;cases hr
  |some p1=>
   obtain⟨f1,g1⟩:=p1
   rw[h1]at hr
   simp only at hr
   have hn1:n0≤g1.length:=md7 hn (lr9 hg h1)
   have hw1:WFs f1 g1:=WFs.run (n0:=n0) hE hT (l:=[A i]) (by simp[hA]) hw (by simp only[gf4,h1])
   obtain⟨f2,g2,e2,ih⟩:=tv5 hg hE hT A hA S (L1++L2) (fr:=f1) (h:=g1) hn1 hw1 hsrt' hp' (fun M1 x M2 he k hk hkx hsw=>by
    have hki:k≠i:=fun e=>by have:=hmin k hk;omega
    rcases List.append_eq_append_iff.1 he with⟨a',e1,e2⟩|⟨c',e1,e2⟩
    ·--x lies in L2
     have:=hord (L1++i::a') x M2 (by rw[e2];simp) k (by simp[hk]) hkx hsw
     rw[e1]
     simp only[bk2,r04]at this⊢
     rcases this with h|h|h
     ·exact .inl h
     ·exact absurd h hki
     ·exact .inr h
    ·cases c' with
     |nil=>
      simp only[m51]at e2
      have:=hord (L1++[i]) x M2 (by rw[←e2];simp) k (by simp[hk]) hkx hsw
      simp only[nw0]at e1
      rw[←e1]
      simp only[bk2,q05]at this
      rcases this with h|h
      ·exact h
      ·exact absurd h hki
     |cons y c'=>
      simp only[rs6,il0]at e2
      obtain⟨rfl,e2⟩:=e2
      exact hord M1 x (c'++i::L2) (by rw[e1];simp) k (by simp[hk]) hkx hsw) hr
   rw[hm3,df4]at e2
   obtain⟨fr2,h2,k1,k2⟩:=e2
   obtain⟨f3,g3,k3,k4⟩: ∃f3 g3,gf4 T g n0 (L1.map A++[A i]) fr h=some (f3,g3)∧Eqv n0 fr2 h2 f3 g3:=by
    refine xi0 hg hE hT (hA i) (hall L1) hn hw (fun x hx=> ?_) (by simp only[gf4,h1];exact k1)
    obtain⟨y,hy,rfl⟩:=vf1.1 hx
    cases hsw:es5 (A i) (A y)with
    |true=>rfl
    |false=>
     obtain⟨M1,M2,e⟩:=List.append_of_mem hy
     have hyS:y∈S:=hp'.mem_iff.1 (by simp[hy])
     have:=hord M1 y (M2++i::L2) (by rw[e];simp) i (by simp) (hmin y hyS) hsw
     have hiL1:i∈L1:=by rw[e];simp[this]
     exact absurd rfl ((m71.1 hnd).2.2 i hiL1 i (by simp))
   obtain⟨f4,g4,k5,k6⟩:=k4.run hE hT (hall L2) (md7 hn1 (c80 hg k1)) k2
   refine⟨f4,g4, ?_,ih.trans k6⟩
   rw[show(L1++i::L2).map A=(L1.map A++[A i])++L2.map A by simp,df4]
   exact⟨f3,g3,k3,k5⟩
end
inductive Dep (ops:Array Oper):Nat→Nat→Prop
 |edge {i j:Nat} {o:Oper} {e:Edge}:ops[j]? =some o→e∈o.after→Region.binds .any e=true→e.on=i→Dep ops i j
 |trans {i k j:Nat}:Dep ops i k→Dep ops k j→Dep ops i j
def force{α:Sort _}:Nat→(Nat→α)→α
 |0,k=>k 0
 |n+1,k=>k (n+1)
theorem force_eq{α:Sort _}(n:Nat)(k:Nat→α):force n k=k n:=by cases n<;>rfl
def wn1(W acc:Nat):List Edge→Nat
 | []=>0
 |e::l=>if Region.binds .any e&&decide (e.on<W)then(2^e.on|||((acc>>>(W*e.on))%2^W))|||wn1 W acc l else wn1 W acc l
def befN(W:Nat):List Oper→Nat→Nat→Nat
 | [],_,acc=>acc
 |o::r,j,acc=>force (acc|||(wn1 W acc o.after.toList<<<(W*j))) fun a=>befN W r (j+1) a
theorem jv6{W acc k:Nat}: ∀{l:List Edge},(wn1 W acc l).testBit k=true→k<W∧ ∃e∈l,Region.binds .any e=true∧(k=e.on∨acc.testBit (W*e.on+k)=true)
 | [],h=>by simp[wn1]at h
 |e::l,h=>by
  simp only[wn1]at h
  split at h
  ·rename_i hb
   simp only[b83,jn8]at hb
   simp only[Nat.testBit_or,Nat.testBit_two_pow,Nat.testBit_mod_two_pow,Nat.testBit_shiftRight,ey6,b83,jn8]at h
   rcases h with(h|h)|h
   ·exact⟨by omega,e,by simp,hb.1, .inl h.symm⟩
   ·exact⟨h.1,e,by simp,hb.1, .inr h.2⟩
   ·obtain⟨h1,e',h2,h3⟩:=jv6 h
    exact⟨h1,e',by simp[h2],h3⟩
  ·obtain⟨h1,e',h2,h3⟩:=jv6 h
   exact⟨h1,e',by simp[h2],h3⟩
theorem ea1(ops:Array Oper)(W:Nat): ∀(r:List Oper) (j acc:Nat),(∀k,r[k]? =ops[j+k]?)→(∀j' i,i<W→acc.testBit (W*j'+i)=true→Dep ops i j')→
 ∀j' i,i<W→(befN W r j acc).testBit (W*j'+i)=true→Dep ops i j'
 | [],j,acc,_,hacc=>hacc
 |o::r,j,acc,hr,hacc=>by
  simp only[befN,force_eq]
  refine ea1 ops W r (j+1) _ (fun k=> ?_) ?_
  ·have:=hr (k+1)
   rw[show j+1+k=j+(k+1) by omega,←this]
   rfl
  ·intro j' i hi h
   simp only[Nat.testBit_or,Nat.testBit_shiftLeft,ey6,b83,jn8]at h
   rcases h with h|⟨h1,h2⟩
   ·exact hacc j' i hi h
   ·obtain⟨h3,e,he,hb,h4⟩:=jv6 h2
    have ho:ops[j]? =some o:=by have:=hr 0;simpa using this.symm
    have q1:W*j<W*(j'+1):=by rw[Nat.mul_succ];omega
    have q2:W*j'<W*(j+1):=by rw[Nat.mul_succ];omega
    have r1:=Nat.lt_of_mul_lt_mul_left q1
    have r2:=Nat.lt_of_mul_lt_mul_left q2
    obtain rfl:j'=j:=by omega
    have hk:W*j'+i-W*j'=i:=by omega
    rw[hk]at h4
    rcases h4 with h4|h4
    ·exact .edge ho (by simpa using he) hb h4.symm
    ·exact .trans (hacc _ _ hi h4) (.edge ho (by simpa using he) hb rfl)
def bm0(ops:Array Oper):Bool:=ops.toList.zipIdx.all fun(o,j)=>o.after.toList.all fun e=> !Region.binds .any e||decide (e.on<j)
theorem r68{ops:Array Oper}(h:bm0 ops=true){j:Nat}{o:Oper}(ho:ops[j]? =some o){e:Edge}(he:e∈o.after)(hb:Region.binds .any e=true):e.on<j:=by
 unfold bm0 at h
 rw[p92]at h
 have hm:(o,j)∈ops.toList.zipIdx:=by
  rw[b08];simpa using ho
 have:=h (o,j) hm
 simp only[p92]at this
 have:=this e (by simpa using he)
 simpa [hb]using this
structure Topo (ops:Array Oper) (L:List Nat):Prop where
 perm:L.Perm (List.range ops.size)
 ahead: ∀L1 j L2,L=L1++j::L2→ ∀o,ops[j]? =some o→ ∀e∈o.after,Region.binds .any e=true→e.on∈L1
theorem Topo.dep{ops:Array Oper}{L:List Nat}(h:Topo ops L){i j:Nat}(hd:Dep ops i j): ∀L1 L2,L=L1++j::L2→i∈L1:=by
 induction hd with
 |edge ho he hb hi=>intro L1 L2 hl;rw[←hi];exact h.ahead L1 _ L2 hl _ ho _ he hb
 | @trans i k j hik hkj ih1 ih2=>
   intro L1 L2 hl
   have hk:=ih2 L1 L2 hl
   obtain⟨A,C,rfl⟩:=List.append_of_mem hk
   have:=ih1 A (C++j::L2) (by rw[hl];simp)
   simp[this]
theorem bo6(ops:Array Oper)(hdn:bm0 ops=true): ∀(fuel t:Nat) (listed:Array Bool) (D:List Nat),listed.size=ops.size→(∀i,i<ops.size→(listed.getD i true=true↔i∈D))→D.Nodup→(∀i∈D,i<ops.size)→
 D.length+fuel=ops.size→
 ∃L,Region.linearise.go .any ops fuel t listed []=L∧(D++L).Perm (List.range ops.size)∧
  ∀L1 j L2,L=L1++j::L2→ ∀o,ops[j]? =some o→ ∀e∈o.after,Region.binds .any e=true→e.on∈D∨e.on∈L1
 |0,t,listed,D,hs,hl,hnd,hlt,hlen=>by
  refine⟨[],rfl, ?_,fun L1 j L2 h=>by simp at h⟩
  rw[nw0,List.perm_ext_iff_of_nodup hnd s08]
  intro i
  constructor
  ·intro hi;exact l16.2 (hlt i hi)
  ·intro hi
   by_cases hD:i∈D
   ·exact hD
   ·have hc:(i::D).Nodup:=y50.2 ⟨hD,hnd⟩
    have:=hc.length_le_of_subset (l₂:=List.range ops.size) (fun x hx=>by
     rcases r04.1 hx with rfl|hx
     ·exact hi
     ·exact l16.2 (hlt x hx))
    simp at this
    omega
 |fuel+1,t,listed,D,hs,hl,hnd,hlt,hlen=>by
  have hfalse: ∀i,i<ops.size→(listed.getD i false=true↔i∈D):=by
   intro i hi
   rw[←hl i hi]
   have:i<listed.size:=by omega
   simp[he8,this]
  have hne:Region.ready .any ops listed≠[]:=by
   intro hnil
   have hall: ∀k i,i<k→i<ops.size→i∈D:=by
    intro k
    induction k with
    |zero=>intro i hi;omega
    |succ k ih=>
     intro i hik hi
     cases hli:listed.getD i true with
     |true=>exact(hl i hi).1 hli
     |false=>
      exfalso
      have:i∈Region.ready .any ops listed:=by
       rw[mem_ready]
       refine⟨hli,ops[i],ra6 hi,fun e he hb=> ?_⟩
       have hdn':=r68 hdn (ra6 hi) he hb
       exact(hfalse _ (by omega)).2 (ih _ (by omega) (by omega))
      rw[hnil]at this
      cases this
   have hsub:List.range ops.size ⊆ D:=fun i hi=>hall ops.size i (l16.1 hi) (l16.1 hi)
   have:=(s08 (n:=ops.size)).length_le_of_subset hsub
   simp at this
   omega
  have hlen0:0<(Region.ready .any ops listed).length:=py7.2 hne
  have hmod:t%(Region.ready .any ops listed).length<(Region.ready .any ops listed).length:=Nat.mod_lt _ hlen0
  have hget:(Region.ready .any ops listed)[t%(Region.ready .any ops listed).length]? =some ((Region.ready .any ops listed)[t%(Region.ready .any ops listed).length]):=wu3 hmod
  generalize hi:(Region.ready .any ops listed)[t%(Region.ready .any ops listed).length]=i at hget
  have him:i∈Region.ready .any ops listed:=by rw[←hi];exact ws6 _
  obtain⟨h1,o,ho,hedges⟩:=mem_ready.1 him
  have hin:i<ops.size:=(un8.1 ho).1
  have hiD:i∉D:=fun h=>by rw[(hl i hin).2 h]at h1;cases h1
  obtain⟨L,hL,hp,ha⟩:=bo6 ops hdn fuel (t/(Region.ready .any ops listed).length) (listed.setIfInBounds i true) (D++[i]) (by simpa using hs) (fun j hj=>by
   by_cases hij:i=j
   ·subst hij
    have:i<listed.size:=by omega
    simp[he8,this]
   ·rw[getD_set_ne true hij,hl j hj]
    simp[Ne.symm hij]) (by
   rw[m71]
   exact⟨hnd,by simp,fun a ha b hb=>by simp at hb;subst hb;exact fun e=>hiD (e▸ha)⟩) (fun j hj=>by
   simp only[bk2,q05]at hj
   rcases hj with hj|rfl
   ·exact hlt j hj
   ·exact hin) (by simp;omega)
  refine⟨i::L, ?_,by simpa using hp,fun L1 j L2 he o' ho' e hem hb=> ?_⟩
  ·simp only[Region.linearise.go]
   change (match(Region.ready .any ops listed)[t%(Region.ready .any ops listed).length]? with
    |some i=>Region.linearise.go .any ops fuel (t/(Region.ready .any ops listed).length) (listed.setIfInBounds i true) [i]
    |none=>[].reverse)=i::L
   rw[hget]
   simp only
   rw[linearise_go_acc,hL]
   rfl
  ·cases L1 with
   |nil=>
    simp only[m51,il0]at he
    obtain⟨rfl,_⟩:=he
    rw[ho]at ho'
    cases ho'
    have:=hedges e hem hb
    have hlt':e.on<ops.size:=by have:=r68 hdn ho hem hb;omega
    exact .inl ((hfalse _ hlt').1 this)
   |cons x L1=>
    simp only[rs6,il0]at he
    obtain⟨rfl,he⟩:=he
    rcases ha L1 j L2 he o' ho' e hem hb with h|h
    ·simp only[bk2,q05]at h
     rcases h with h|h
     ·exact .inl h
     ·exact .inr (by simp[h])
    ·exact .inr (by simp[h])
theorem vr2{ops:Array Oper}(hdn:bm0 ops=true)(t:Nat):Topo ops (Region.schedule true ops t):=by
 obtain⟨L,hL,hp,ha⟩:=bo6 ops hdn ops.size t (Array.replicate ops.size false) [] (by simp) (fun i hi=>by simp[hi]) (by simp) (by simp) (by simp)
 have e:Region.schedule true ops t=L:=by
  simp only[Region.schedule,Bool.true_or,oo9]
  exact hL
 rw[e]
 refine⟨by simpa using hp,fun L1 j L2 he o ho e hem hb=> ?_⟩
 rcases ha L1 j L2 he o ho e hem hb with h|h
 ·cases h
 ·exact h
def zz8(ops:List Oper)(l:List AOper):Bool:=
 force (befN ops.length ops 0 0) fun b=>
 l.zipIdx.all fun(x,j)=>(l.take j).zipIdx.all fun(y,i)=>(decide (i<ops.length)&&b.testBit (ops.length*j+i))||es5 y x
def m73(ops:List Oper)(l:List (AOper×Nat)):Bool:=
 force (befN ops.length ops 0 0) fun b=>
 l.zipIdx.all fun(x,j)=>(l.take j).all fun y=>(decide (y.2<ops.length)&&b.testBit (ops.length*x.2+y.2))||es5 y.1 x.1
theorem bm3{ops:Array Oper}{l:List (AOper×Nat)}(h:m73 ops.toList l=true){i j:Nat}(hij:i<j){x y:AOper×Nat}(hx:l[j]? =some x)(hy:l[i]? =some y):Dep ops y.2 x.2∨es5 y.1 x.1=true:=by
 unfold m73 at h
 rw[force_eq,p92]at h
 have h1:=h (x,j) (b08.2 hx)
 simp only[p92]at h1
 have h2:=h1 y (vf6 (by rw[td4,if_pos hij];exact hy))
 simp only[ey6,b83,jn8]at h2
 rcases h2 with h2|h2
 ·exact .inl (ea1 ops _ ops.toList 0 0 (fun k=>by simp) (fun j' i hi h=>by simp at h) x.2 y.2 h2.1 h2.2)
 ·exact .inr h2
structure OrdOK (n:Nat) (π:List Nat):Prop where
 nd:π.Nodup
 lt: ∀i∈π,i<n
 len:π.length=n
theorem OrdOK.range(n:Nat):OrdOK n (List.range n):=⟨s08,fun i h=>l16.1 h,List.length_range⟩
theorem OrdOK.mem{n:Nat}{π:List Nat}(h:OrdOK n π){i:Nat}(hi:i<n):i∈π:=by
 by_cases hD:i∈π
 ·exact hD
 ·have hc:(i::π).Nodup:=y50.2 ⟨hD,h.nd⟩
  have:=hc.length_le_of_subset (l₂:=List.range n) (fun x hx=>by
   rcases r04.1 hx with rfl|hx
   ·exact l16.2 hi
   ·exact l16.2 (h.lt x hx))
  have hl:=h.len
  simp at this
  omega
theorem OrdOK.perm{n:Nat}{π:List Nat}(h:OrdOK n π):π.Perm (List.range n):=by
 rw[List.perm_ext_iff_of_nodup h.nd s08]
 exact fun i=>⟨fun hi=>l16.2 (h.lt i hi),fun hi=>h.mem (l16.1 hi)⟩
theorem rt5{π:List Nat}{i:Nat}(hi:i∈π):π[π.idxOf i]? =some i:=by
 have hlt:=List.idxOf_lt_length_iff.2 hi
 rw[wu3 hlt,List.getElem_idxOf hlt]
theorem x42{π:List Nat}(hn:π.Nodup){a i:Nat}(h:π[a]? =some i):π.idxOf i=a:=by
 obtain⟨h1,h2⟩:=ck5.1 h
 have h3:=rt5 (vf6 h)
 obtain⟨h4,h5⟩:=ck5.1 h3
 rw[List.nodup_iff_pairwise_ne]at hn
 have hp:=List.pairwise_iff_getElem.1 hn
 rcases Nat.lt_trichotomy (π.idxOf i) a with h|h|h
 ·exact absurd (h5.trans h2.symm) (hp _ _ h4 h1 h)
 ·exact h
 ·exact absurd (h2.trans h5.symm) (hp _ _ h1 h4 h)
theorem l80{T:Tab}{g:List ARes→List It→Fr→H→Res}(hg: ∀rs ks fr h v h',g rs ks fr h=some (v,h')→h.length≤h'.length)(hE: ∀ρ,EmbG ρ g)(hT:x28 T){ops:Array Oper}{l:List AOper}(hlen:l.length=ops.size)(hgood:(l.all fun o=>o.op.good)=true)
 {π:List Nat} (ho:OrdOK ops.size π) (d:AOper) (hd:d.op.good=true)
 (hdn:bm0 ops=true) (hc:m73 ops.toList (π.map fun i=>(l.getD i d,i))=true) (t:Nat) {fr fr':Fr} {h h':H} (hw:WFs fr h) (hr:gf4 T g h.length (π.map fun i=>l.getD i d) fr h=some (fr',h')):
 ∃fr2 h2,gf4 T g h.length ((Region.schedule true ops t).map fun i=>l.getD i d) fr h=some (fr2,h2)∧Eqv h.length fr' h' fr2 h2:=by
 have ht:=vr2 hdn t
 have hgA: ∀i,(l.getD i d).op.good=true:=fun i=>by
  simp only[os6]
  cases hi:l[i]? with
  |none=>exact hd
  |some o=>exact(p92.1 hgood) o (vf6 hi)
 have hS:(List.range ops.size).map (fun a=>l.getD (π.getD a 0) d)=π.map fun i=>l.getD i d:=by
  apply v63
  intro a
  by_cases ha:a<ops.size
  ·have ha':a<π.length:=by rw[ho.len];exact ha
   rw[us5,iq9 ha,us5,wu3 ha']
   show some (l.getD (π.getD a 0) d)=some (l.getD π[a] d)
   rw[os6 (l:=π),wu3 ha'];rfl
  ·rw[pb5 (by simp;omega),pb5 (by simp[ho.len];omega)]
 have hmem: ∀i∈Region.schedule true ops t,i∈π:=fun i hi=>ho.mem (l16.1 (ht.perm.mem_iff.1 hi))
 have hL:((Region.schedule true ops t).map fun i=>π.idxOf i).map (fun a=>l.getD (π.getD a 0) d)=(Region.schedule true ops t).map fun i=>l.getD i d:=by
  rw[uk6]
  refine ny8 fun i hi=> ?_
  show l.getD (π.getD (π.idxOf i) 0) d=_
  rw[os6 (l:=π),rt5 (hmem i hi)];rfl
 have hP:((Region.schedule true ops t).map fun i=>π.idxOf i).Perm (List.range ops.size):=by
  have h1:=(ht.perm.trans ho.perm.symm).map (fun i=>π.idxOf i)
  have h2:π.map (fun i=>π.idxOf i)=List.range ops.size:=by
   apply v63
   intro a
   by_cases ha:a<ops.size
   ·have ha':a<π.length:=by rw[ho.len];exact ha
    rw[us5,iq9 ha,wu3 ha']
    exact congrArg some (x42 ho.nd (wu3 ha'))
   ·rw[pb5 (by simp[ho.len];omega),pb5 (by simp;omega)]
  rw[h2]at h1
  exact h1
 have key:=tv5 hg hE hT (n0:=h.length) (fun a=>l.getD (π.getD a 0) d) (fun i=>hgA _) (List.range ops.size) ((Region.schedule true ops t).map fun i=>π.idxOf i) (fr:=fr) (fr':=fr') (h:=h) (h':=h') (jj6 _) hw List.pairwise_lt_range hP
  (fun L1 x L2 he i hi hix hsw=>by
    obtain⟨M1,M2,e1,e2,e3⟩:=List.map_eq_append_iff.1 he
    obtain⟨y,M3,rfl,e4,e5⟩:=List.map_eq_cons_iff.1 e3
    have hi':=l16.1 hi
    have hy:y∈π:=hmem y (by rw[e1];simp)
    have hx1:π[x]? =some y:=by rw[←e4];exact rt5 hy
    have hil:i<π.length:=by rw[ho.len];exact hi'
    have hi1:π[i]? =some π[i]:=wu3 hil
    rcases bm3 hc hix (x:=(l.getD y d,y)) (y:=(l.getD π[i] d,π[i])) (by rw[us5,hx1];rfl) (by rw[us5,hi1];rfl)with hd|hd
    ·have:=ht.dep hd M1 M3 e1
     rw[←e2]
     exact vf1.2 ⟨_,this,x42 ho.nd hi1⟩
    ·have ha:l.getD (π.getD i 0) d=l.getD π[i] d:=by rw[os6 (l:=π),hi1];rfl
     have hb:l.getD (π.getD x 0) d=l.getD y d:=by rw[os6 (l:=π),hx1];rfl
     rw[ha,hb]at hsw
     exact absurd (hd.symm.trans hsw) (by decide)) (by rw[hS];exact hr)
 rw[hL]at key
 exact key
end Go.Am
namespace Go.Am
open Go.RowKit (Below)
structure CO1 (P:Program) (nt:Nat) (ops:Array Oper) (o:Oper) (ao:AOper):Prop where
 dst:ao.dst=o.dst
 lt: ∀d,o.dst=some d→d<nt
 op:sv3 P o=some ao.op
 gd:(o.guard=none∧ao.guard=none)∨ ∃j b s,o.guard=some (j,b)∧(ops[j]?).bind (·.dst)=some s∧ao.guard=some (s,b)
def AOper.inText(ao:AOper):AOper:={ao with op:=ao.op.inText}
abbrev CO(P:Program)(nt:Nat)(ops:Array Oper)(o:Oper)(ao:AOper):Prop:=CO1 P nt ops o ao.inText
def opNo:AOper:=⟨none, .lenK 0,none,false⟩
structure RegOK (P:Program) (nt:Nat) (ops:Array Oper) (draw:Bool) (l:List AOper) (π:List Nat):Prop where
 len:l.length=ops.size
 op: ∀(i:Nat) o,ops[i]? =some o→ ∃ao,l[i]? =some ao∧CO P nt ops o ao
 txt:draw=false→π=List.range ops.size
 ord:OrdOK ops.size π
 dr:draw=true→bm0 ops=true∧m73 ops.toList (π.map fun i=>(l.getD i opNo,i))=true
def shx(o:Nat):Operand→Operand
 | .tmp t=> .tmp (t+o)
 |x=>x
def AOp.sh(o:Nat):AOp→AOp
 | .mv x=> .mv (shx o x)
 | .pick c a b=> .pick (shx o c) (shx o a) (shx o b)
 | .bin op x y=> .bin op (shx o x) (shx o y)
 | .eqb n x y=> .eqb n (shx o x) (shx o y)
 | .eqn n k x=> .eqn n k (shx o x)
 | .un op x=> .un op (shx o x)
 | .conv k x=> .conv k (shx o x)
 | .alloc e zs=> .alloc e zs
 | .box e s x=> .box e s (shx o x)
 | .build zs pl ps=> .build zs pl (ps.map fun p=>(p.1,shx o p.2))
 | .mkSl e s l ps=> .mkSl e s l (ps.map (shx o))
 | .ld g n a=> .ld g n (shx o a)
 | .st n a x=> .st n (shx o a) (shx o x)
 | .nilck x=> .nilck (shx o x)
 | .mkf f c=> .mkf f (c.map (shx o))
 | .mks e s b zs l c=> .mks e s b zs (shx o l) (shx o c)
 | .sl s x lo hi=> .sl s (shx o x) (lo.map (shx o)) (hi.map (shx o))
 | .sls x lo hi=> .sls (shx o x) (lo.map (shx o)) (hi.map (shx o))
 | .sl3 x hi mx=> .sl3 (shx o x) (shx o hi) (shx o mx)
 | .faddr off x=> .faddr off (shx o x)
 | .fld g off n x=> .fld g off n (shx o x)
 | .iaddr s x i=> .iaddr s (shx o x) (shx o i)
 | .iaddrA l s x i=> .iaddrA l s (shx o x) (shx o i)
 | .idxA l s g x i=> .idxA l s g (shx o x) (shx o i)
 | .idxS x i=> .idxS (shx o x) (shx o i)
 | .len x=> .len (shx o x)
 | .lenS x=> .lenS (shx o x)
 | .lenK n=> .lenK n
 | .minmax m xs=> .minmax m (xs.map (shx o))
 | .app e s b x y=> .app e s b (shx o x) (shx o y)
 | .cpy s d x=> .cpy s (shx o d) (shx o x)
 | .ext i x=> .ext i (shx o x)
 | .call f xs=> .call f (xs.map (shx o))
 | .calld x xs=> .calld (shx o x) (xs.map (shx o))
 | .ldb g n a=> .ldb g n (shx o a)
 | .appz e b x y=> .appz e b (shx o x) (shx o y)
 | .capt f n i x=> .capt f n i (shx o x)
 | .mmk e=> .mmk e
 | .mget k z x y=> .mget k z (shx o x) (shx o y)
 | .mput k x y z=> .mput k (shx o x) (shx o y) (shx o z)
def AOper.sh(o:Nat)(x:AOper):AOper:=⟨x.dst.map (· +o),x.op.sh o,x.guard.map fun g=>(g.1+o,g.2),x.chk⟩
def Fr.win(fr:Fr)(o nt:Nat):Fr:=fun t=>bif Nat.blt t nt then fr (t+o)else none
theorem uf3{fr:Fr}{o nt t:Nat}(h:t<nt):fr.win o nt t=fr (t+o):=by
 unfold Fr.win
 cases hb:Nat.blt t nt with
 |true=>rfl
 |false=>exact absurd (Nat.ble_eq_true_of_le h) (by rw[show Nat.ble (t+1) nt=Nat.blt t nt from rfl,hb];decide)
theorem sz2{fr:Fr}{o nt t:Nat}(h: ¬t<nt):fr.win o nt t=none:=by
 unfold Fr.win
 cases hb:Nat.blt t nt with
 |true=>exact absurd (fy2 hb) h
 |false=>rfl
def shF(fr:Fr)(o:Nat):Fr:=fun t=>fr (t+o)
theorem vk0{fr:Fr}{o:Nat}(x:Operand):ev fr (shx o x)=ev (shF fr o) x:=by cases x<;>rfl
theorem r14{fr:Fr}{o:Nat}: ∀xs:List Operand,evs fr (xs.map (shx o))=evs (shF fr o) xs
 | []=>rfl
 |x::xs=>by simp only[nf9,evs,vk0,r14 xs]
theorem jg8{fr:Fr}{o:Nat}: ∀xs:List (Nat×Operand),evp fr (xs.map fun p=>(p.1,shx o p.2))=evp (shF fr o) xs
 | []=>rfl
 |(i,x)::xs=>by simp only[nf9,evp,vk0,jg8 xs]
theorem l60{fr:Fr}{o:Nat}(x:Option Operand):evo fr (x.map (shx o))=evo (shF fr o) x:=by
 cases x with
 |none=>rfl
 |some x=>simp only[eb5,evo,vk0]
theorem oq3{fr:Fr}{o:Nat}{h:H}(op:AOp):aop fr h (op.sh o)=aop (shF fr o) h op:=by
 cases op
 case pick c a b=>
  simp only[AOp.sh,aop,vk0]
  cases ev (shF fr o) c with
  |none=>rfl
  |some v=>
   cases v with
   |bool t=>cases t<;>simp only[o35,wj1,oo9,vk0]
   |_=>rfl
 case ldb agg n a=>
  have hbx:bx fr h (shx o a)=bx (shF fr o) h a:=by unfold bx;rw[vk0]
  simp only[AOp.sh,aop,vk0,hbx]
 all_goals simp only[AOp.sh,aop,vk0,r14,jg8,l60]
theorem dd6{fr:Fr}{o:Nat}(g:Option (Nat×Bool)):gd fr (g.map fun g=>(g.1+o,g.2))=gd (shF fr o) g:=by
 cases g with
 |none=>rfl
 |some g=>rfl
theorem tw1{fr:Fr}{o n0:Nat}(x:AOper):wb6 n0 fr (x.sh o)=wb6 n0 (shF fr o) x:=by
 obtain⟨d,op,g,c⟩:=x
 cases c with
 |false=>rfl
 |true=>cases op<;>first|rfl|(simp only[wb6,AOper.sh,AOp.sh,vk0])
theorem ifc{α:Type}{b c:Prop} [Decidable b] [Decidable c]{x y u v:α}(h:b↔c)(h1:x=u)(h2:y=v):(if b then x else y)=if c then u else v:=by
 subst h1 h2
 by_cases hc:c
 ·rw[if_pos hc,if_pos (h.2 hc)]
 ·rw[if_neg hc,if_neg (fun e=>hc (h.1 e))]
theorem y91{T:Tab}{g:List ARes→List It→Fr→H→Res}{n0 o:Nat}{fr:Fr}{h:H}(x:AOper):core T g n0 (x.sh o) fr h=core T g n0 x (shF fr o) h:=by
 have ho:=tw1 (fr:=fr) (o:=o) (n0:=n0) x
 obtain⟨d,op,gu,c⟩:=x
 unfold core
 simp only[AOper.sh]
 rw[dd6]
 cases gd (shF fr o) gu with
 |none=>rfl
 |some b=>
  cases b with
  |false=>rfl
  |true=>
   cases op with
   |call f xs=>simp only[AOp.sh,r14]
   |calld y xs=>simp only[AOp.sh,r14,vk0]
   |_=>
    exact ifc (Iff.of_eq (congrArg (· =true) ho)) (oq3 _) rfl
theorem pc9{fr:Fr}{d:Option Nat}{v:Option Value}{t:Nat}(h:d≠some t):fr.put d v t=fr t:=by
 cases d with
 |none=>rfl
 |some d=>
  have hb:Nat.beq t d=false:=by
   cases hb:Nat.beq t d with
   |false=>rfl
   |true=>exact absurd (by rw[beq_true hb]) h
  cases v with
  |none=>show(bif Nat.beq t d then none else fr t)=fr t;rw[hb];rfl
  |some v=>show(bif Nat.beq t d then some v else fr t)=fr t;rw[hb];rfl
theorem qd0{fr:Fr}{d:Nat}{v:Option Value}:fr.put (some d) v d=v:=by
 cases v with
 |none=>show(bif Nat.beq d d then none else fr d)=none;rw[b55];rfl
 |some v=>show(bif Nat.beq d d then some v else fr d)=some v;rw[b55];rfl
def q08(nt:Nat)(x:AOper):Prop:=(∀t∈x.looks,t<nt)∧ ∀d,x.dst=some d→d<nt
theorem p15{fr:Fr}{o nt:Nat}(d:Option Nat)(hd: ∀t,d=some t→t<nt)(v:Option Value):(fr.put (d.map (· +o)) v).win o nt=(fr.win o nt).put d v:=by
 funext t
 by_cases ht:t<nt
 ·rw[uf3 ht]
  by_cases he:d=some t
  ·subst he
   rw[eb5,qd0,qd0]
  ·rw[pc9 (fun e=>he (by
    cases d with
    |none=>cases e
    |some d=>rw[eb5]at e;have:=pk4 e;rw[show d=t by omega])),pc9 he,uf3 ht]
 ·rw[sz2 ht,pc9 (fun e=>ht (hd t e)),sz2 ht]
theorem zd6{T:Tab}{g:List ARes→List It→Fr→H→Res}{n0 o nt:Nat}: ∀{l:List AOper} {fr fr1:Fr} {h h1:H},(∀x∈l,q08 nt x)→gf4 T g n0 (l.map (AOper.sh o)) fr h=some (fr1,h1)→
 gf4 T g n0 l (fr.win o nt) h=some (fr1.win o nt,h1)∧ ∀t,(∀x∈l,x.dst.map (· +o)≠some t)→fr1 t=fr t
 | [],fr,fr1,h,h1,_,hr=>by cases hr;exact⟨rfl,fun _ _=>rfl⟩
 |x::l,fr,fr1,h,h1,hl,hr=>by
  have hx:=hl x rn8
  have hcw:core T g n0 x (shF fr o) h=core T g n0 x (fr.win o nt) h:=c52 fun t ht=>by rw[uf3 (hx.1 t ht)];rfl
  simp only[nf9,gf4,km6,y91,hcw]at hr⊢
  cases hc:core T g n0 x (fr.win o nt) h with
  |none=>rw[hc]at hr;cases hr
  |some p=>
   obtain⟨v,h2⟩:=p
   rw[hc]at hr
   simp only[]at hr⊢
   obtain⟨k1,k2⟩:=zd6 (fun y hy=>hl y (iz7 _ hy)) hr
   rw[show(AOper.sh o x).dst=x.dst.map (· +o)from rfl,p15 _ hx.2]at k1
   exact⟨k1,fun t ht=>(k2 t fun y hy=>ht y (iz7 _ hy)).trans (pc9 (ht x rn8))⟩
def cOK(nt:Nat):Operand→Prop
 | .tmp t=>t<nt
 |_=>True
theorem jr1{fr:Fr}{o nt:Nat}{c:Operand}(h:cOK nt c):ev fr (shx o c)=ev (fr.win o nt) c:=by
 cases c with
 |tmp t=>exact(uf3 h).symm
 |_=>rfl
theorem FR.sub{φ:Ren}{n nt:Nat}{fr fr2:Fr}{tmps:Array Value}(h:FR φ n nt fr tmps)(hs: ∀t v,fr2 t=some v→fr t=some v):FR φ n nt fr2 tmps:=
 ⟨h.1,fun t v hv=>h.2 t v (hs t v hv)⟩
theorem e79{fr:Fr}{o nt:Nat}{ks:List Nat}{t:Nat}{v:Value}(h:(Fr.of (hy3 fr ks)).win o nt t=some v):fr.win o nt t=some v:=by
 by_cases ht:t<nt
 ·rw[uf3 ht]at h⊢;exact lr7 fr ks _ _ h
 ·rw[sz2 ht]at h;cases h
inductive CRo (P:Program) (nt o:Nat) (Y:List Nat) (X:List Nat→Code→ACode→Prop):List Nat→Code→ACode→Prop
 |skip {S:List Nat}:CRo P nt o Y X S .skip .skip
 |region {S:List Nat} (id:Nat) (ops:Array Oper) (draw:Bool) (l:List AOper) (π:List Nat):RegOK P nt ops draw l π→(∀x∈l,q08 nt x)→(∀(i:Nat) x,ops[i]? =some x→ ∀d,x.dst=some d→d∉Y)→CRo P nt o Y X S (.region id ops draw) (.region ((π.map fun i=>l.getD i opNo).map (AOper.sh o)))
 |seq {S:List Nat} {a b:Code} {a' b':ACode}:CRo P nt o Y X S a a'→CRo P nt o Y X S b b'→CRo P nt o Y X S (.seq a b) (.seq a' b')
 |cond {S:List Nat} {c:Operand} {a b:Code} {a' b':ACode}:cOK nt c→CRo P nt o Y X S a a'→CRo P nt o Y X S b b'→CRo P nt o Y X S (.cond c a b) (.cond (shx o c) a' b')
 |block {S:List Nat} {id:Nat} {ko:List Nat} {a:Code} {a':ACode}:CRo P nt o Y X (id::S) a a'→CRo P nt o Y X S (.block id a) (.block id ko a')
 |loop {S:List Nat} {kh:List Nat} {a:Code} {a':ACode}:CRo P nt o Y X S a a'→CRo P nt o Y X S (.loop a) (.loop kh a')
 |exit {S:List Nat} {id:Nat}:id∈S→CRo P nt o Y X S (.exit id) (.exit id)
 |stuck {S:List Nat} {c:Code}:CRo P nt o Y X S c .stuck
 |extra {S:List Nat} {c:Code} {c':ACode}:X S c c'→CRo P nt o Y X S c c'
inductive IRo (P:Program) (nt o:Nat) (Y:List Nat) (X:List Nat→Code→ACode→Prop) (Z:List It→List Item→Prop):List Nat→List It→List Item→Prop
 |base {ks:List It} {k:List Item}:Z ks k→IRo P nt o Y X Z [] ks k
 |code {S:List Nat} {c:Code} {c':ACode} {ks k}:CRo P nt o Y X S c c'→IRo P nt o Y X Z S ks k→IRo P nt o Y X Z S (.code c'::ks) (.code c::k)
 |blk {S:List Nat} {id:Nat} {ko:List Nat} {ks k}:IRo P nt o Y X Z S ks k→IRo P nt o Y X Z (id::S) (.blk id ko::ks) (.inBlock id::k)
 |lp {S:List Nat} {kh:List Nat} {c:Code} {c':ACode} {ks k}:CRo P nt o Y X S c c'→IRo P nt o Y X Z S ks k→IRo P nt o Y X Z S (.lp kh c'::ks) (.inLoop c::k)
def RR(P:Program):List ResultVar→List ARes→Prop
 | [],[]=>True
 | .tmp t::r, .tmp t'::r'=>t=t'∧RR P r r'
 | .cell a t::r, .cell a' agg n::r'=>a=a'∧(∃d i,P.underlying t=some d∧P.info? t=some i∧agg=cw9 d∧n=i.size)∧RR P r r'
 |_,_=>False
inductive X3 (J M3:Nat):List Nat→Code→ACode→Prop
 |ret {S:List Nat}:M3∉S→X3 J M3 S .ret (.seq (.region [⟨some J, .mv (.const (.bool true)),none,false⟩]) (.exit M3))
structure RgD where
 nt1:Nat
 nt2:Nat
 M:Nat
 M3:Nat
 K3:List Nat
 Y:List Nat
 Kb:List Nat
 ps:List Nat
 cA:ACode
 cB:ACode
def RgD.o2(R:RgD):Nat:=R.nt1
def RgD.o3(R:RgD):Nat:=R.nt1+R.nt2
def RgD.J(R:RgD):Nat:=R.nt1+R.nt2+R.nt1
def RgD.moves(R:RgD)(args:List Operand):List AOper:=
 ⟨some R.J, .pick (.tmp R.J) (.tmp (R.J+1)) (.const (.bool false)),none,false⟩::(R.Kb.map fun t=>⟨some (t+R.o3), .mv (.tmp t),none,false⟩)++(R.ps.zip args).map fun p=>⟨some (p.1+R.o3), .mv (shx R.o2 p.2),none,false⟩
inductive PreOK (P:Program) (nt:Nat) (Y:List Nat) (ops:Array Oper):Nat→List (Option AOper)→Prop
 |nil {i:Nat}:PreOK P nt Y ops i []
 |op {i:Nat} {o:Oper} {ao:AOper} {l:List (Option AOper)}:ops[i]? =some o→CO P nt ops o ao→q08 nt ao→(∀d,o.dst=some d→d∉Y)→PreOK P nt Y ops (i+1) l→PreOK P nt Y ops i (some ao::l)
 |mv {i:Nat} {o:Oper} {d:Nat} {l:List (Option AOper)}:ops[i]? =some o→(o.op= .move (.tmp 0)∨o.op= .assign (.tmp 0))→o.guard=none→o.dst=some d→d≠0→d∈Y→PreOK P nt Y ops (i+1) l→PreOK P nt Y ops i (none::l)
inductive X2 (P:Program) (R:RgD):List Nat→Code→ACode→Prop
 |ret {S:List Nat}:R.M∉S→X2 P R S .ret (.exit R.M)
 |yield {S:List Nat} (id:Nat) (ops:Array Oper) (pre:List (Option AOper)) (post:List AOper) (y d:Nat) (o:Oper) (c:Call):
   PreOK P R.nt2 R.Y ops 0 pre→ops[pre.length]? =some o→o.op= .call c→c.callee= .value (.tmp y)→(y=0∨ ∃i x,i<pre.length∧pre[i]? =some none∧ops[i]? =some x∧x.dst=some y)→(∀x∈c.args.toList,cOK R.nt2 x)→c.args.size=R.ps.length→
   o.dst=some d→d<R.nt2→d∉R.Y→o.guard=none→PreOK P R.nt2 R.Y ops (pre.length+1) (post.map some)→pre.length+1+post.length=ops.size→
   X2 P R S (.region id ops false) (.seq (.region ((pre.filterMap fun x=>x).map (AOper.sh R.o2)++R.moves c.args.toList)) (.seq (.block R.M3 R.K3 (.seq R.cA R.cB)) (.region (⟨some (d+R.o2), .un .not (.tmp R.J),none,false⟩::post.map (AOper.sh R.o2)))))
def bp2(nt1:Nat)(kf nc f:Nat):List AOper:=(List.range nc).map fun i=>⟨some (nt1+1+i), .capt kf nc i (.tmp f),none,false⟩
structure RgOK (P:Program) (R:RgD) (f kf nc:Nat) (ps:Array Tmp) (assign body:Code) (K0 K1:List Nat) (cIt:ACode):Prop where
 fn: ∃fn2 body2,P.funcs[kf]? =some fn2∧fn2.body=some body2∧(fn2.name== "runtime.NumGoroutine")=false∧fn2.results= #[]∧fn2.ntmps=R.nt2∧CRo P R.nt2 R.o2 R.Y (X2 P R) [] body2 cIt
 asg:CRo P R.nt1 R.o3 [] (fun _ _ _=>False) [] assign R.cA
 bod:CRo P R.nt1 R.o3 [] (X3 R.J R.M3) [] body R.cB
 hf:f<R.nt1
 hnc:0<nc∧nc+1≤R.nt2
 hy:0∈R.Y∧ ∀y∈R.Y,y=0∨nc<y
 hylt: ∀y∈R.Y,y<R.nt2
 hK0: ∀t∈K0,t<R.nt1
 hK1: ∀t∈K1,t<R.nt1
 hKb: ∀t∈R.Kb,t<R.nt1∧t∉R.ps
 hps:ps.toList=R.ps∧R.ps.Nodup∧ ∀t∈R.ps,t<R.nt1
 hK3: ∀t∈R.K3,t<R.o3∨t=R.J
inductive XG (l L:Nat):List Nat→Code→ACode→Prop
 |goto {S:List Nat}:L∉S→XG l L S (.goto l) (.exit L)
structure ScOK (P:Program) (nt l L K:Nat) (a b:Code) (a' b':ACode):Prop where
 no:findLabel a l=none
 ne:L≠K
 fa:CRo P nt 0 [] (fun _ _ _=>False) [] a a'
 fb:CRo P nt 0 [] (XG l L) [] b b'
def scA(L K:Nat)(kL ko kh:List Nat)(b':ACode):ACode:= .block K ko (.loop kh (.block L kL (.seq b' (.exit K))))
inductive X1 (P:Program) (nt:Nat):List Nat→Code→ACode→Prop
 |ret {S:List Nat}:X1 P nt S .ret .ret
 |scope {S:List Nat} (l L K:Nat) (kL ko kh:List Nat) (a b:Code) (a' b':ACode):ScOK P nt l L K a b a' b'→X1 P nt S (.scope (.seq a (.seq (.label l) b))) (.seq a' (scA L K kL ko kh b'))
 |range {S:List Nat} (R:RgD) (f kf nc:Nat) (ps:Array Tmp) (assign body:Code) (K0 K1:List Nat) (cIt:ACode):R.nt1=nt→RgOK P R f kf nc ps assign body K0 K1 cIt→
   X1 P nt S (.rangeFunc (.tmp f) ps assign body) (.seq (.block 0 K0 .skip) (.seq (.region (⟨some R.J, .mv (.const (.bool false)),none,false⟩::bp2 R.nt1 kf nc f))
    (.seq (.block R.M (R.J::K1) cIt) (.cond (.tmp R.J) (.seq (.block 0 K1 .skip) .ret) (.block 0 K1 .skip)))))
abbrev CR(P:Program)(nt:Nat):List Nat→Code→ACode→Prop:=CRo P nt 0 [] (X1 P nt)
structure FunOK (P:Program) (f:FuncId) (F:AFun):Prop where
 nargs:F.nargs≤F.ntmps
 ok: ∃fn body,P.funcs[f]? =some fn∧fn.body=some body∧CR P F.ntmps [] body F.code∧fn.ntmps=F.ntmps∧RR P fn.results.toList F.results∧(fn.name== "runtime.NumGoroutine")=false
 good:ev3 F.code=true
theorem rw2{P:Program}{o:Oper}{op:AOp}(h:sv3 P o=some op):op.good=true:=by
 have arr: ∀{cs:Array Value},cs.all tc5=true→cs.toList.all tc5=true:=fun h=>by simpa using h
 unfold sv3 at h
 split at h<;>first
  |(cases h;done)
  |(cases h;rfl)
  |((repeat' split at h)<;>first
     |(cases h;done)
     |(cases h;rfl)
     |(rename_i hz;cases h;exact hz)
     |(rename_i hz;cases h;exact arr hz)
     |(rename_i hz;cases h;simp only[b83]at hz;exact arr hz.1.1))
theorem u13{op:AOp}(h:op.inText.good=true):op.good=true:=by cases op<;>first|exact h|rfl
theorem RegOK.good{P:Program}{nt:Nat}{ops:Array Oper}{draw:Bool}{l:List AOper}{π:List Nat}(h:RegOK P nt ops draw l π):(l.all fun o=>o.op.good)=true:=by
 rw[p92]
 intro x hx
 obtain⟨i,hi,rfl⟩:=zd4 hx
 have hi':i<ops.size:=by rw[←h.len];exact hi
 obtain⟨ao,e1,e2⟩:=h.op i ops[i] (ra6 hi')
 rw[wu3 hi]at e1
 cases e1
 exact u13 (rw2 e2.op)
theorem bz6{P:Program}{nt o:Nat}{Y:List Nat}{X:List Nat→Code→ACode→Prop}{Z:List It→List Item→Prop}{id:Nat}: ∀{S:List Nat} {ks:List It} {k:List Item},IRo P nt o Y X Z S ks k→id∈S→ ∃ko ks' k' S',gc2 id ks=some (ko,ks')∧exitTo id k=some k'∧IRo P nt o Y X Z S' ks' k'
 |_,_,_, .base _,h=>by cases h
 |_,_,_, .code _ hk,h=>by simp only[gc2,exitTo];exact bz6 hk h
 |_,_,_, .lp _ hk,h=>by simp only[gc2,exitTo];exact bz6 hk h
 |_,_,_, .blk (id:=id') (ko:=ko) hk,h=>by
  simp only[gc2,exitTo]
  by_cases he:id'=id
  ·exact⟨ko,_,_,_,by rw[if_pos he],by rw[if_pos (by simpa using he)],hk⟩
  ·rw[if_neg he,if_neg (by simpa using he)]
   exact bz6 hk (by rcases r04.1 h with e|e;exact absurd e.symm he;exact e)
theorem is1{P:Program}{nt o:Nat}{Y:List Nat}{X:List Nat→Code→ACode→Prop}{Z:List It→List Item→Prop}{id:Nat}: ∀{S:List Nat} {ks:List It} {k:List Item},IRo P nt o Y X Z S ks k→id∉S→ ∃ks0 k0,Z ks0 k0∧gc2 id ks=gc2 id ks0
 |_,_,_, .base hz,h=>⟨_,_,hz,rfl⟩
 |_,_,_, .code _ hk,h=>by obtain⟨a,b,h1,h2⟩:=is1 hk h;exact⟨a,b,h1,by simp only[gc2];exact h2⟩
 |_,_,_, .lp _ hk,h=>by obtain⟨a,b,h1,h2⟩:=is1 hk h;exact⟨a,b,h1,by simp only[gc2];exact h2⟩
 |_,_,_, .blk (id:=id') hk,h=>by
  obtain⟨a,b,h1,h2⟩:=is1 hk (fun e=>h (iz7 _ e))
  exact⟨a,b,h1,by simp only[gc2];rw[if_neg (fun e=>h (by rw[e];exact rn8))];exact h2⟩
section
variable {P:Program} {B:Nat→Prop}
def xj3(tmps:Array Value):ResultVar→Sem Value
 | .tmp t=>pure (tmps.getD t undef)
 | .cell a t=>do loadVar t (←asAddr (tmps.getD a undef))
theorem ax5(fn:Func)(tmps:Array Value):results fn tmps=(do
 let vs←fn.results.mapM (xj3 tmps)
 pure (if h:vs.size=1 then vs[0]else .tuple vs)):=by
 unfold results
 congr 1
theorem r44{φ:Ren}{nt:Nat}{fr:Fr}{h:H}{tmps:Array Value}{w:World}(hF:FR φ h.length nt fr tmps)(hH:HR φ B h w): ∀{rs:List ResultVar} {ars:List ARes} {vs:List Value},RR P rs ars→ress fr h ars=some vs→
 ∃vs',(rs.mapM (xj3 tmps)).run P w= .ok vs' w∧LR φ h.length vs vs'
 | [],[],vs,_,hs=>by cases hs;exact⟨[],by simp,LR.nil _ _⟩
 | [],_::_,_,hr,_=>by simp[RR]at hr
 | .tmp _::_,[],_,hr,_=>by simp[RR]at hr
 | .cell _ _::_,[],_,hr,_=>by simp[RR]at hr
 | .tmp t::rs, .cell _ _ _::ars,vs,hr,_=>by simp[RR]at hr
 | .cell _ _::rs, .tmp t::ars,vs,hr,_=>by simp[RR]at hr
 | .tmp t::rs, .tmp t'::ars,vs,hr,hs=>by
   simp only[RR]at hr
   obtain⟨rfl,hr⟩:=hr
   simp only[ress,res1]at hs
   split at hs
   ·rename_i v vs2 h1 h2
    cases hs
    obtain⟨v',e1,e2⟩:=hF.2 t v h1
    obtain⟨vs',e3,e4⟩:=r44 hF hH hr h2
    refine⟨v'::vs', ?_,LR.cons e2 e4⟩
    simp[List.mapM_cons,xj3,e1,e3]
   ·cases hs
 | .cell a t::rs, .cell a' agg n::ars,vs,hr,hs=>by
   simp only[RR]at hr
   obtain⟨rfl,⟨d,i,hd,hi,rfl,rfl⟩,hr⟩:=hr
   simp only[ress,res1]at hs
   split at hs
   ·rename_i v vs2 h1 h2
    cases hs
    obtain⟨vs',e3,e4⟩:=r44 hF hH hr h2
    split at h1
    ·rename_i p hp
     obtain⟨v',e1,e2⟩:=hF.2 a _ hp
     obtain⟨hsp,hlt,hmp,rfl⟩:=bq1 e2
     simp only[hsp,qv9,o35,wj1]at h1
     have key: ∃u,(loadVar t ⟨(φ p.block).blk,(φ p.block).sh+p.off,none⟩).run P w= .ok u w∧VR φ h.length v u:=by
      split at h1
      ·rename_i hag
       split at h1
       ·rename_i cs hcs
        cases h1
        obtain⟨hlen,hone,cs',k1,k2⟩:=hH.cells hmp hcs
        have hl:=run_loadCells_list (P:=P) w ⟨(φ p.block).blk,(φ p.block).sh+p.off,none⟩ cs' k2
        rw[←k1.1,hlen]at hl
        exact⟨_,by simp[loadVar,y71 hd,hag,run_sizeOf hi,hl],k1.agg hone⟩
       ·cases h1
      ·rename_i hag
       unfold H.ld1 at h1
       split at h1
       ·rename_i r hr2
        obtain⟨u,k1,k2⟩:=hH.cell hr2 hmp h1
        exact⟨u,by simp[loadVar,y71 hd,hag,k1],k2⟩
       ·cases h1
     obtain⟨u,k1,k2⟩:=key
     refine⟨u::vs', ?_,LR.cons k2 e4⟩
     simp[List.mapM_cons,xj3,e1,asAddr,k1,e3]
    ·cases h1
   ·cases hs
theorem kl3{φ:Ren}{nt:Nat}{fr:Fr}{h h':H}{tmps:Array Value}{w:World}{fn:Func}{ars:List ARes}{v:Value}(hF:FR φ h.length nt fr tmps)(hH:HR φ B h w)(hr:RR P fn.results.toList ars)(hs:retv ars fr h=some (v,h')):
 h'=h∧ ∃v',(results fn tmps).run P w= .ok v' w∧VR φ h.length v v':=by
 unfold retv at hs
 have key: ∀vs,ress fr h ars=some vs→ ∃vs',(fn.results.mapM (xj3 tmps)).run P w= .ok vs'.toArray w∧LR φ h.length vs vs':=by
  intro vs hvs
  obtain⟨vs',h1,h2⟩:=r44 (P:=P) hF hH hr hvs
  exact⟨vs',by rw[Array.mapM_eq_mapM_toList];simp[h1],h2⟩
 split at hs
 ·rename_i v1 h1
  cases hs
  obtain⟨vs',h2,h3⟩:=key _ h1
  obtain⟨v',h4,h5⟩:=h3.2 0 v rfl
  have hl:vs'.length=1:=by rw[←h3.1];rfl
  obtain rfl:vs'=[v']:=by
   match vs',hl,h4 with
   | [x],_,h4=>simp at h4;rw[h4]
  refine⟨rfl,v', ?_,h5⟩
  rw[ax5]
  simp only[Sem.run_bind,h2]
  simp
 ·rename_i vs hne h1
  cases hs
  obtain⟨vs',h2,h3⟩:=key _ h1
  refine⟨rfl, .tuple vs'.toArray, ?_,h3.tuple⟩
  have hl:vs'.length≠1:=by
   intro hl
   rw[←h3.1]at hl
   match vs,hl,hne with
   | [x],_,hne=>exact hne x rfl
  rw[ax5]
  simp only[Sem.run_bind,h2]
  simp[hl]
 ·cases hs
variable {T:Tab} {g:List ARes→List It→Fr→H→Res}
def zb8(P:Program)(B:Nat→Prop)(T:Tab)(g:List ARes→List It→Fr→H→Res)(f:FuncId):Prop:=
 ∀vs vs' h h' v,enter T g f vs h=some (v,h')→ ∀(φ:Ren) (w:World),LR φ h.length vs vs'→HR φ B h w→
  Calls P f vs'.toArray w fun e w'=> ∃φ' v',e= .returned v'∧VR φ' h'.length v v'∧HR φ' B h' w'∧Ext φ h.length φ'∧Bel B w w'
def ga0(P:Program)(f:FuncId):Prop:= ∃fn body,P.funcs[f]? =some fn∧fn.body=some body∧(fn.name== "runtime.NumGoroutine")=false
structure PrimOK (P:Program) (T:Tab) (f:FuncId):Prop where
 body:ga0 P f
 good: ∀F,T f=some F→ev3 F.code=true
 ok:(∀f F,T f=some F→ga0 P f)→ ∀B n,(∀m,m<n→ ∀f',zb8 P B T (goN T m) f')→zb8 P B T (goN T n) f
def xp2(P:Program)(T:Tab):Prop:= ∀f F,T f=some F→FunOK P f F∨PrimOK P T f
theorem xp2.body(hT:xp2 P T)(f:FuncId)(F:AFun)(hF:T f=some F):ga0 P f:=by
 rcases hT f F hF with h1|h1
 ·obtain⟨fn,body,h1,h2,_,_,_,h6⟩:=h1.ok
  exact⟨fn,body,h1,h2,h6⟩
 ·exact h1.body
theorem xp2.good(hT:xp2 P T):x28 T:=fun f F hF=>by
 rcases hT f F hF with h1|h1
 ·exact h1.good
 ·exact h1.good F hF
theorem js6{f:FuncId}{vs vs':List Value}{h h':H}{v:Value}(hT: ∀f F,T f=some F→ga0 P f)(he:enter T g f vs h=some (v,h'))(w:World):
 (callFunc f vs'.toArray).run P w= .ok (.enter f vs'.toArray) w:=by
 have key:ga0 P f:=by
  unfold enter at he
  split at he
  ·rename_i F hF
   exact hT f F hF
  ·cases he
 obtain⟨fn,body,h1,h2,h6⟩:=key
 have h7: ¬fn.name= "runtime.NumGoroutine" :=by simpa using h6
 simp[callFunc,h1,h7,h2]
theorem ap9{P:Program}{o:Oper}{op:AOp}(h:sv3 P o=some op): ∀c,o.op≠ .defer c:=by
 intro c hc
 unfold sv3 at h
 rw[hc]at h
 simp at h
theorem ad4(hT:xp2 P T)(hC: ∀f,zb8 P B T g f)(hg: ∀rs ks fr h v h',g rs ks fr h=some (v,h')→h.length≤h'.length){nt:Nat}{ops:Array Oper}{i:Nat}{rest:List Nat}{o:Oper}{ao:AOper}(ho:ops[i]? =some o)(hc:CO1 P nt ops o ao){n0:Nat}{fr fr1:Fr}{h h1:H}
 (hs:km6 T g n0 ao fr h=some (fr1,h1)) {φ:Ren} {w:World} {a:Act} {b:Frame} {cs:List Frame} {k:List Item} (hF:FR φ h.length nt fr a.tmps) (hH:HR φ B h w):
 ∃φ' w' v',Steps P (lone (b.atR a (.inRegion ops (i::rest)::k)) cs w) (lone (b.atR (a.put o.dst v') (.inRegion ops rest::k)) cs w')∧FR φ' h1.length nt fr1 (a.put o.dst v').tmps∧HR φ' B h1 w'∧Ext φ h.length φ'∧h.length≤h1.length∧Bel B w w':=by
 have hlen:=lr9 hg hs
 unfold km6 at hs
 split at hs
 ·rename_i v h2 hcore
  cases hs
  --the guard
  have hguard: ∀bb,gd fr ao.guard=some bb→Region.wanted o (yielded ops a.tmps)=bb:=by
   intro bb hb
   rcases hc.gd with⟨g1,g2⟩|⟨j,want,s,g1,g2,g3⟩
   ·rw[g2]at hb;cases hb;simp[Region.wanted,g1]
   ·rw[g3]at hb
    simp only[gd]at hb
    split at hb
    ·rename_i b' hb'
     cases hb
     obtain⟨v',e1,e2⟩:=hF.2 s _ hb'
     rw[xz4 e2]at e1
     have:yielded ops a.tmps j=some b':=by
      unfold yielded;rw[g2];simp[e1]
     simp[Region.wanted,g1,this]
    ·rename_i vs' hb'
     cases hb
     obtain⟨v',e1,e2⟩:=hF.2 s _ hb'
     have:yielded ops a.tmps j=none:=by
      unfold yielded;rw[g2];cases e2;simp[e1]
     simp[Region.wanted,g1,this]
    ·cases hb
  have hput: ∀{φ':Ren} {v':Value},FR φ' h1.length nt fr a.tmps→(∀u,v=some u→VR φ' h1.length u v')→FR φ' h1.length nt (fr.put ao.dst v) (a.put o.dst v').tmps:=by
   intro φ' v' q1 q3
   rw[hc.dst]
   exact q1.put o.dst hc.lt v v' q3
  have hfin: ∀v,(b.atR a (.inRegion ops (i::rest)::k)).finish v=b.atR (a.put o.dst v) (.inRegion ops rest::k):=by
   intro v;rw[Frame.finish_atR,ho];rfl
  unfold core at hcore
  split at hcore
  ·rename_i hgd
   cases hcore
   have hw:=hguard false hgd
   have hst:=stepR_op_skip (P:=P) (b:=b) (a:=a) (k:=k) (cs:=cs) (w:=w) (ops:=ops) (i:=i) (rest:=rest) (by simp[ho,hw])
   rw[ho]at hst
   exact⟨φ,w,undef, .one hst,hput hF (fun u hu=>by cases hu;exact .tuple #[] #[] rfl (fun i hi=>absurd hi (by simp))),hH,Ext.refl _ _,jj6 _,Bel.refl _ _⟩
  ·rename_i hgd
   have hw:=hguard true hgd
   have hG:=stepGR_op (P:=P) (b:=b) (a:=a) (k:=k) (cs:=cs) (w:=w) (rest:=rest) ho hw
   rw[Oper.semAt_eq _ _ _ (ap9 hc.op)]at hG
   have hcall: ∀{f:FuncId} {vs vs':List Value} {u:Value},enter T g f vs h=some (u,h1)→v=some u→LR φ h.length vs vs'→(execOp a.eval o).run P w=(callFunc f vs'.toArray).run P w→
    ∃φ' w' v',Steps P (lone (b.atR a (.inRegion ops (i::rest)::k)) cs w) (lone (b.atR (a.put o.dst v') (.inRegion ops rest::k)) cs w')∧FR φ' h1.length nt (fr.put ao.dst v) (a.put o.dst v').tmps∧HR φ' B h1 w'∧Ext φ h.length φ'∧h.length≤h1.length∧Bel B w w':=by
    intro f vs vs' u he hvu hL hrun
    have e1:=js6 (vs':=vs') hT.body he w
    obtain⟨_,w',fr',⟨φ',v',rfl,e5,e6,e7,e8⟩,e2,e3,e4⟩:=hC f vs vs' h h1 u he φ w hL hH (b.atR a (.inRegion ops (i::rest)::k)::cs)
    rw[e1]at hrun
    have henter:step P (lone (b.atR a (.inRegion ops (i::rest)::k)) cs w)= .next (lone (Frame.enter P f vs'.toArray .normal) (b.atR a (.inRegion ops (i::rest)::k)::cs) w):=
     step_lone_go (by rw[hG];simp[stepG.apply,hrun,Frame.atR])
    refine⟨φ',w',v', .head henter (Steps.trans e2 (.one ?_)),hput (hF.mono e7 hlen) (fun x hx=> ?_),e6,e7,hlen,e8⟩
    ·rw[←hfin];exact step_leave_returned e4
    ·rw[hvu]at hx;cases hx;exact e5
   split at hcore
   ·--a call by name
    rename_i f args hop
    split at hcore
    ·rename_i vs hvs
     split at hcore
     ·rename_i u h3 he
      have hb:=(ya3 hcore).1
      cases hb
      have hL:=p23 hF hvs
      refine hcall he rfl hL ?_
      have hco:=hc.op
      rw[hop]at hco
      --read off the operation
      have hopc: ∃c:Call,o.op= .call c∧c.callee= .value (.func f)∧c.args.toList=args:=by
       unfold sv3 at hco
       split at hco<;>first
        |(cases hco;done)
        |((repeat' split at hco)<;>first|(cases hco;done)|skip)
       all_goals first
        |(cases hco;exact⟨_, ‹_›, ‹_›,rfl⟩)
      obtain⟨c,hc1,hc2,hc3⟩:=hopc
      have hev:c.args.map a.eval=(args.map a.eval).toArray:=by rw[←hc3];apply ld7.1;simp
      simp[execOp,hc1,resolve,hc2,hev,Act.eval,Deferred.ofValue,invoke]
     ·cases hcore
    ·cases hcore
   ·rename_i x args hop
    split at hcore
    ·rename_i f first cap vs hx hvs
     split at hcore
     ·rename_i hemp
      split at hcore
      ·rename_i u h3 he
       have hb:=(ya3 hcore).1
       cases hb
       have hL:=p23 hF hvs
       have hxv:=az8 hF hx
       have hcap: ∃cap',a.eval x= .func (.func f) #[] cap'∧LR φ h.length cap.toList cap'.toList:=by
        generalize a.eval x=y at hxv
        cases hxv with
        |func _ _ cs' hsz hh=>exact⟨cs',rfl,LR.of_arrays hsz hh⟩
       obtain⟨cap',hx1,hx2⟩:=hcap
       refine hcall he rfl (hL.append hx2) ?_
       have hco:=hc.op
       rw[hop]at hco
       have hopc: ∃c:Call,o.op= .call c∧c.callee= .value x∧c.args.toList=args:=by
        unfold sv3 at hco
        split at hco<;>first
         |(cases hco;done)
         |((repeat' split at hco)<;>first|(cases hco;done)|skip)
        all_goals first
         |(cases hco;exact⟨_, ‹_›, ‹_›,rfl⟩)
       obtain⟨c,hc1,hc2,hc3⟩:=hopc
       have hev:c.args.map a.eval=(args.map a.eval).toArray:=by rw[←hc3];apply ld7.1;simp
       have happ:((args.map a.eval).toArray++cap')=(args.map a.eval++cap'.toList).toArray:=by apply ld7.1;simp
       simp[execOp,hc1,resolve,hc2,hev,hx1,Deferred.ofValue,invoke]
       rw[←happ]
      ·cases hcore
     ·cases hcore
    ·cases hcore
   ·split at hcore
    ·obtain⟨φ',v',w',r1,r2,r3,r4,r5,r6⟩:=e32 hc.op hF hH hcore
     cases v with
     |some u=>
      refine⟨φ',w',v', .one (step_lone_go ?_),hput (hF.mono r4 r5) r2,r3,r4,r5,r6⟩
      rw[hG,←hfin];simp[stepG.apply,r1]
     |none=>
      refine⟨φ',w',undef, .one (step_lone_go ?_),hput (hF.mono r4 r5) (fun u hu=>by cases hu),r3,r4,r5,r6⟩
      rw[hG,←hfin];simp[stepG.apply,r1]
    ·cases hcore
  ·cases hcore
 ·cases hs
theorem ib1{n0:Nat}{o:AOper}{fr:Fr}{h:H}{r:Fr×H}(hs:km6 T g n0 o fr h=some r):km6 T g n0 {o with op:=o.op.inText,chk:=o.chk&& !o.op.isLdb} fr h=some r:=by
 obtain⟨dst,op,gu,chk⟩:=o
 cases op with
 |ldb agg n a=>
  unfold km6 core at hs⊢
  simp only[AOp.inText,AOp.isLdb,Bool.not_true,Bool.and_false]
  split at hs
  ·rename_i v h2 hc
   cases hs
   split at hc
   ·rename_i hg;cases hc;simp only[hg]
   ·rename_i hg
    simp only[hg]
    have hc:(if wb6 n0 fr ⟨dst, .ldb agg n a,gu,chk⟩then aop fr h (.ldb agg n a)else none)=some (v,h2):=hc
    split at hc
    ·have h3:=(zx2 hc).2
     have ho:wb6 n0 fr ⟨dst, .ld agg n a,gu,false⟩=true:=rfl
     rw[if_pos ho,h3]
    ·cases hc
   ·cases hc
  ·cases hs
 |_=>simpa [AOp.inText,AOp.isLdb]using hs
theorem ic4(hT:xp2 P T)(hC: ∀f,zb8 P B T g f)(hg: ∀rs ks fr h v h',g rs ks fr h=some (v,h')→h.length≤h'.length){nt:Nat}{ops:Array Oper}{i:Nat}{rest:List Nat}{o:Oper}{ao:AOper}(ho:ops[i]? =some o)(hc:CO P nt ops o ao){n0:Nat}{fr fr1:Fr}{h h1:H}
 (hs:km6 T g n0 ao fr h=some (fr1,h1)) {φ:Ren} {w:World} {a:Act} {b:Frame} {cs:List Frame} {k:List Item} (hF:FR φ h.length nt fr a.tmps) (hH:HR φ B h w):
 ∃φ' w' v',Steps P (lone (b.atR a (.inRegion ops (i::rest)::k)) cs w) (lone (b.atR (a.put o.dst v') (.inRegion ops rest::k)) cs w')∧FR φ' h1.length nt fr1 (a.put o.dst v').tmps∧HR φ' B h1 w'∧Ext φ h.length φ'∧h.length≤h1.length∧Bel B w w':=
 ad4 hT hC hg ho (ao:={ao with op:=ao.op.inText,chk:=ao.chk&& !ao.op.isLdb}) ⟨hc.dst,hc.lt,hc.op,hc.gd⟩ (ib1 hs) hF hH
open Classical in
noncomputable def Ren.by (φ:Ren) (π:Rel):Ren:=fun o=>if hx: ∃o2,π o o2 then φ (Classical.choose hx)else φ o
theorem Ren.by_eq{φ:Ren}{π:Rel}{h h2:H}(hm:ME π h h2){o o2:Nat}(hr:π o o2):φ.by π o=φ o2:=by
 unfold Ren.by
 have hx: ∃o2,π o o2:=⟨o2,hr⟩
 rw[dif_pos hx,(hm.uni _ _ _ _ (jl7 hx) hr).1 rfl]
theorem VR.by{φ:Ren}{π:Rel}{h h2:H}(hm:ME π h h2){v v2 v':Value}(he:E π h.length v v2)(hv:VR φ h2.length v2 v'):VR (φ.by π) h.length v v':=by
 induction he generalizing v' with
 |atom v hp=>
  cases hv<;>first|(cases hp;done)|(constructor;done)
 |ptr o o2 off h1 h3=>
  cases hv with
  |ptr _ _ h4 h5=>rw[←Ren.by_eq (φ:=φ) hm h1]at h5⊢;exact .ptr _ _ h3 h5
 |mp o o2 h1 h3=>
  cases hv with
  |map _ h4 h5=>rw[←Ren.by_eq (φ:=φ) hm h1]at h5⊢;exact .map _ h3 h5
 |sl o o2 off l c h1 h3=>
  cases hv with
  |sl _ _ _ _ c' q h4 hmp h5 h6 h7=>rw[←Ren.by_eq (φ:=φ) hm h1]at hmp h6 h7⊢;exact .sl _ _ _ _ _ _ h3 hmp h5 h6 h7
  |slz _ _ x h4 h5=>exact .slz _ _ _ h3 (by rw[Ren.by_eq (φ:=φ) hm h1];exact h5)
 |func f cs cs2 hs _ ih=>
  cases hv with
  |func _ _ cs' hs2 hh=>exact .func _ _ _ (hs.trans hs2) fun i h h'=>ih i h (by omega) (hh i (by omega) h')
 |agg cs cs2 hs h0 ih=>
  cases hv with
  |agg _ cs' hs2 h1 hh=>exact .agg _ _ (hs.trans hs2) (fun i h=>by rw[←(h0 i h (by omega)).one];exact h1 i (by omega)) fun i h h'=>ih i h (by omega) (hh i (by omega) h')
 |tuple cs cs2 hs _ ih=>
  cases hv with
  |tuple _ cs' hs2 hh=>exact .tuple _ _ (hs.trans hs2) fun i h h'=>ih i h (by omega) (hh i (by omega) h')
theorem MRel.by{φ:Ren}{π:Rel}{h h2:H}(hm:ME π h h2){cs2:List Value}{es:List MapEntry}(hr:MRel φ h2.length cs2 es): ∀{cs:List Value},LE π h.length cs cs2→MRel (φ.by π) h.length cs es:=by
 induction hr with
 |nil=>
  intro cs hl
  cases cs with
  |nil=>exact .nil
  |cons a l=>exact absurd hl.1 (by simp)
 | @cons k i c e cs2 es h1 h3 h4 ih=>
   intro cs hl
   match cs,hl with
   | [],hl=>exact absurd hl.1 (by simp)
   | [_],hl=>exact absurd hl.1 (by simp)
   |a::b::cs,hl=>
    obtain⟨a2,b2,l2,q1,q2,q3,q4⟩:=hl.two
    cases q1
    have:a= .int k i:=by cases q2 with|atom _ _=>rfl
    subst this
    exact .cons h1 (h3.by hm q3) (ih q4)
theorem VR.self{φ:Ren}{n:Nat}{v v':Value}(h:VR φ n v v'):E Eq n v v:=by
 induction h with
 |ptr o off ho=>exact .ptr _ _ _ rfl ho
 |map o ho=>exact .mp _ _ rfl ho
 |sl o off l c c' q ho=>exact .sl _ _ _ _ _ rfl ho
 |slz o off x ho=>exact .sl _ _ _ _ _ rfl ho
 |func f cs cs' hs _ ih=>exact .func _ _ _ rfl fun i h h'=>ih i h (by omega)
 |agg cs cs' hs h1 _ ih=>exact .agg _ _ rfl fun i h h'=>ih i h (by omega)
 |tuple cs cs' hs _ ih=>exact .tuple _ _ rfl fun i h h'=>ih i h (by omega)
 |_=>exact .atom _ rfl
theorem MRel.at{φ:Ren}{n:Nat}{cs:List Value}{es:List MapEntry}(h:MRel φ n cs es): ∀{i:Nat} {v:Value},cs[i]? =some v→ ∃v',VR φ n v v':=by
 induction h with
 |nil=>intro i v hv;simp at hv
 | @cons k j c e cs es h1 h2 h3 ih=>
   intro i v hv
   match i,hv with
   |0,hv=>cases hv;exact⟨_, .int _ _⟩
   |1,hv=>cases hv;exact⟨_,h2⟩
   |i+2,hv=>exact ih hv
theorem HR.self{φ:Ren}{h:H}{w:World}(hH:HR φ B h w){o:Nat}{r:Row}(hr:h.row o=some r){i:Nat}{v:Value}(hv:r.cells[i]? =some v): ∃v',VR φ h.length v v':=by
 cases ho:r.own with
 |false=>
  obtain⟨_,v',_,h2⟩:=(hH.ro o r hr ho).2 i v hv
  exact⟨v',h2⟩
 |true=>
  cases hm:(φ o).mp with
  |false=>
   obtain⟨v',_,h2⟩:=hH.cell hr hm hv
   exact⟨v',h2⟩
  |true=>
   obtain⟨_,_,es,ck,_,h4⟩:=hH.mpo o r hr ho hm
   exact h4.at hv
theorem WFs.of{φ:Ren}{nt:Nat}{fr:Fr}{tmps:Array Value}{h:H}{w:World}(hF:FR φ h.length nt fr tmps)(hH:HR φ B h w):WFs fr h:=by
 refine⟨fun t v hv=>let⟨v',_,h2⟩:=hF.2 t v hv;⟨v,hv,h2.self⟩,⟨fun o o2 p p2 h1 h2=>by subst h1;subst h2;rfl,fun j=>rfl,fun o o2 he=> ?_⟩⟩
 subst he
 cases ho:h[o]? with
 |none=>trivial
 |some b=>cases b with
  |dead=>trivial
  |row r=>
   have hr:h.row o=some r:=by unfold H.row;rw[ho]
   refine⟨rfl,rfl,rfl,rfl,fun i v hv=>⟨v,hv, ?_⟩⟩
   obtain⟨v',h2⟩:=hH.self hr hv
   exact h2.self
theorem Eqv.model{n0 nt:Nat}{fr fr2:Fr}{h h2:H}{φ:Ren}{tmps:Array Value}{w:World}(he:Eqv n0 fr h fr2 h2)(hF:FR φ h2.length nt fr2 tmps)(hH:HR φ B h2 w):
 ∃φ':Ren,FR φ' h.length nt fr tmps∧HR φ' B h w∧ ∀o,o<n0→φ' o=φ o:=by
 obtain⟨π,a1,a2,a3,a4,a5⟩:=he.ex
 have hrow: ∀{o r},h.row o=some r→ ∃o2 r2,π o o2∧φ.by π o=φ o2∧h2.row o2=some r2∧r2.elem=r.elem∧r2.unit=r.unit∧r2.own=r.own∧LE π h.length r.cells r2.cells:=by
  intro o r hr
  obtain⟨o2,ho⟩:=a5 o (fz4 hr)
  obtain⟨r2,k1,k2,k3,k4,k5⟩:=a2.row ho hr
  exact⟨o2,r2,ho,Ren.by_eq a2 ho,k1,k2,k3,k4,k5⟩
 refine⟨φ.by π,⟨hF.1,fun t v hv=> ?_⟩,⟨fun o r hr ho hm=> ?_,fun o r hr ho hm=> ?_,fun o r hr ho=> ?_,fun o r hr c hc=> ?_,fun o o' r r' hr hr' ho ho' hb=> ?_,hH.size⟩,fun o ho=>Ren.by_eq a2 (a4 o ho)⟩
 ·obtain⟨v2,k1,k2⟩:=a1 t v hv
  obtain⟨v',k3,k4⟩:=hF.2 t v2 k1
  exact⟨v',k3,k4.by a2 k2⟩
 ·obtain⟨o2,r2,k1,k2,k3,k4,k5,k6,k7⟩:=hrow hr
  rw[k2]at hm⊢
  obtain⟨m1,m2,es,ck,m4,m5⟩:=hH.mpo o2 r2 k3 (k6.trans ho) hm
  exact⟨m1.trans k5,m2,es,ck,m4,m5.by a2 k7⟩
 ·obtain⟨o2,r2,k1,k2,k3,k4,k5,k6,k7⟩:=hrow hr
  rw[k2]at hm⊢
  obtain⟨m1,m2,m3,cur,m4,m5,m6⟩:=hH.own o2 r2 k3 (k6.trans ho) hm
  refine⟨m1,m2.trans k5,m3,cur,by rw[m4,k4],m5,fun i c hc=> ?_⟩
  obtain⟨c2,n1,n2⟩:=k7.2 i c hc
  obtain⟨v,n3,n4⟩:=m6 i c2 n1
  exact⟨v,n3,n4.by a2 n2⟩
 ·obtain⟨o2,r2,k1,k2,k3,k4,k5,k6,k7⟩:=hrow hr
  obtain⟨m1,m3⟩:=hH.ro o2 r2 k3 (k6.trans ho)
  rw[k2]
  refine⟨m1,fun i c hc=> ?_⟩
  obtain⟨c2,n1,n2⟩:=k7.2 i c hc
  obtain⟨m2,v,n3,n4⟩:=m3 i c2 n1
  exact⟨m2,v,n3,n4.by a2 n2⟩
 ·obtain⟨o2,r2,k1,k2,k3,k4,k5,k6,k7⟩:=hrow hr
  obtain⟨i,hi,he⟩:=zd4 hc
  obtain⟨c2,n1,n2⟩:=k7.2 i c (by rw[wu3 hi,he])
  rw[←n2.one]
  exact hH.one o2 r2 k3 c2 (vf6 n1)
 ·obtain⟨o2,r2,k1,k2,k3,k4,k5,k6,k7⟩:=hrow hr
  obtain⟨p2,s2,l1,l2,l3,l4,l5,l6,l7⟩:=hrow hr'
  rw[k2,l2]at hb
  have:=hH.inj o2 p2 r2 s2 k3 l3 (k6.trans ho) (l6.trans ho') hb
  exact(a2.uni _ _ _ _ k1 l1).2 this
end
end Go.Am
