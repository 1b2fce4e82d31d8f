/-
  Polynomials over a field: parted, with what is left; there is but one way. Condition: a field. Polynomials: may one be, trimmed, added, in the second machine. Conditions: those of each theorem. Sums,  ..
-/
import Derived.Test.YtoglhlonhmmieaaK7
import Derived.Test.YtoglhlonhmmieaaKCode
import Derived.Test.YtoglhlonhmmieaaK5
import Derived.Test.YtoglhlonhmmieaaK6
set_option linter.unusedVariables false
set_option linter.unusedSimpArgs false
set_option linter.unusedSectionVars false
set_option maxRecDepth 100000
namespace Go.Alg
section
variable {K:Type} [FK K]
end
end Go.Alg
namespace Go.Proofs.Ytoglhlonhmmieaa
open Go.Am Go.Vm Go.Alg
section
variable {q:Int} {b:Bool} {nl:Nat} {l:List Int}
end
section
variable {q:Int} [IsFld q] {b:Bool} {nl:Nat} {a:List (El q)}
end
end Go.Proofs.Ytoglhlonhmmieaa
namespace Go.Alg
section
variable {K:Type} [FK K]
end
end Go.Alg
namespace Go.Proofs.Ytoglhlonhmmieaa
open Go.Am Go.Vm Go.Alg
section
variable {q:Int} {b b':Bool} {nl nl':Nat}
end
section
variable {q:Int} {b b':Bool} {nl nl':Nat}
end
end Go.Proofs.Ytoglhlonhmmieaa
namespace Go.Alg
section
variable {K:Type} [FK K]
open Classical in
end
end Go.Alg
namespace Go.Alg
section
variable {K:Type} [FK K]
end
end Go.Alg
namespace Go.Proofs.Ytoglhlonhmmieaa
open Go.Am Go.Vm Go.Alg
section
variable {raw:List Int} {b:Bool} {nl:Nat}
end
section
variable {a c:List Int} {b b':Bool} {nl nl':Nat}
end
section
variable {q:Int} {b:Bool} {nl:Nat} {xs:List Int} {k:Int}
end
section
variable {q:Int} [hq:IsFld q]
variable {b b':Bool} {nl nl':Nat} {X m:List (El q)}
end
section
variable {q:Int}
def oV:Option (El q)→Int
 |none=> -1
 |some x=>x.v
def ws(W:List (Option (El q))):List Int:=W.map oV
end
section
variable {q:Int} {b b':Bool} {nl nl':Nat}
end
section
variable {q p m g:Int} {t:Tree} {b b':Bool} {nl nl':Nat} {l:List Int}
variable {xs:List Int} {k:Int}
variable {w:List Int}
end
section
variable {q p m g:Int} [IsFld q] {t:Tree} {b b':Bool} {nl nl':Nat} {a:List (El q)} {x:El q}
end
section
variable {q p m g:Int} [IsFld q] {t:Tree} {b b':Bool} {nl nl' nr n7 n8:Nat} {M:List (List (El q))} {A:List (Nat×List (El q))} {N:Nat}
end
section
variable {q:Int} [IsFld q] {b b':Bool} {nl nl' nr:Nat} {M:List (List (El q))} {y:List (El q)} {n R:Nat}
section
variable {T5:Tree} {c at' n0:Nat}
end
end
section
variable {q:Int} {b b':Bool} {nl nl' nr e:Nat}
end
section
variable {α:Type} {n:Nat}
end
section
variable {q:Int} [IsFld q] {b b':Bool} {nl nl' nr:Nat} {M:List (List (El q))} {n:Nat}
end
section
variable {q:Int} {b b':Bool} {nl nl' nr e:Nat}
end
end Go.Proofs.Ytoglhlonhmmieaa
namespace Go.Alg
section
variable {K:Type} [FK K]
end
end Go.Alg
namespace Go.Proofs.Ytoglhlonhmmieaa
open Go.Am Go.Vm Go.Alg
section
variable {q:Int} [h:IsFld q]
end
section
variable {q:Int} [IsFld q] {b b':Bool} {nl nl':Nat} {P:List (El q×El q)} {k:Nat}
end
section
variable {q p m g:Int} [IsFld q] {t:Tree} {b b' b2:Bool} {nl nl' nl2:Nat} {a:List (El q)} {X:List (El q)} {U:List (Option (El q))}
end
section
variable {K:Type} [FK K]
end
section
variable {q p m g:Int} [IsFld q] {t:Tree} {b b':Bool} {nl nl':Nat} {c:List (El q)} {top:El q}
end
end Go.Proofs.Ytoglhlonhmmieaa
namespace Go.Proofs.Ytoglhlonhmmieaa
open Go.Am
@[push_cast] theorem py6{α:Type}{h:H}{r:Option α}:behind true h h r=r:=zy7 (List.prefix_refl h)
section
variable {h:H} {sa:Option Addr} {c:Nat} {l:List Int}
end
section
variable {h0:H} {sr:Option Addr} {cr:Nat} {raw:List Int}
end
section
variable {h:H} {sa:Option Addr} {C:Nat} {cs:List (List Int)}
end
section
variable {h:H}
end
def qr3(q:Int):List Int→List Int×Bool
 | []=>([],false)
 |a::l=>match qr3 q l with
  |(l',true)=>(a::l',true)
  |(l',false)=>if a+1<q then((a+1)::l',true)else(0::l',false)
theorem pd1(q:Int): ∀l,(qr3 q l).1.length=l.length
 | []=>rfl
 |a::l=>by
  have ih:=pd1 q l
  rw[qr3]
  generalize qr3 q l=x at ih⊢
  obtain⟨l',b⟩:=x
  cases b
  ·simp only
   split<;>simpa using ih
  ·simpa using ih
theorem vq6{q:Int}{s s':List Int}(h:qr3 q s=(s',true)): ∀p:List Int,qr3 q (p++s)=(p++s',true)
 | []=>h
 |a::p=>by rw[List.cons_append,qr3,vq6 h p];rfl
def valS(q:Nat):List Int→Nat
 | []=>0
 |a::l=>a.toNat*q^l.length+valS q l
def digS(q:Int)(l:List Int):Prop:= ∀a∈l,0≤a∧a<q
theorem uc1{q:Nat}: ∀{l:List Int},digS q l→valS q l<q^l.length
 | [],_=>by simp[valS]
 |a::l,h=>by
  have h1:=h a (by simp)
  have ih:=uc1 (l:=l) fun b hb=>h b (by simp[hb])
  rw[valS,List.length_cons,Nat.pow_succ,Nat.mul_comm (q^l.length)]
  have h2:(a.toNat+1)*q^l.length≤q*q^l.length:=Nat.mul_le_mul_right _ (by omega)
  rw[Nat.add_mul,Nat.one_mul]at h2
  omega
theorem jd2{q:Nat}(hq:0<q): ∀{l:List Int},digS q l→digS q (qr3 q l).1∧(if(qr3 q l).2=true then valS q (qr3 q l).1=valS q l+1 else valS q l+1=q^l.length∧ ∀a∈(qr3 q l).1,a=0)
 | [],_=>by simp[qr3,valS,digS]
 |a::l,h=>by
  have h1:=h a (by simp)
  obtain⟨k1,k2⟩:=jd2 hq (l:=l) fun b hb=>h b (by simp[hb])
  have hl:=pd1 q l
  rw[qr3]
  generalize hx:qr3 q l=x at k1 k2 hl⊢
  obtain⟨l',b⟩:=x
  simp only at k1 k2 hl
  cases b with
  |true=>
   simp only[if_true]at k2⊢
   refine⟨fun c hc=> ?_, ?_⟩
   ·rcases List.mem_cons.1 hc with rfl|hc
    ·exact h1
    ·exact k1 c hc
   ·rw[valS,valS,hl,k2];omega
  |false=>
   simp only[Bool.false_eq_true,if_false]at k2⊢
   have hz: ∀{m:List Int},(∀a∈m,a=0)→valS q m=0:=by
    intro m
    induction m with
    |nil=>intro _;rfl
    |cons c m ih=>intro hm;rw[valS,ih fun a ha=>hm a (by simp[ha]),hm c (by simp)];simp
   by_cases hlt:a+1<q
   ·rw[if_pos hlt]
    simp only[if_true]
    refine⟨fun c hc=> ?_, ?_⟩
    ·rcases List.mem_cons.1 hc with rfl|hc
     ·omega
     ·exact k1 c hc
    ·rw[valS,valS,hz k2.2,hl,Nat.add_zero,Nat.add_assoc,k2.1,show(a+1).toNat=a.toNat+1 by omega,Nat.add_mul,Nat.one_mul]
   ·rw[if_neg hlt]
    simp only[Bool.false_eq_true,if_false]
    refine⟨fun c hc=> ?_, ?_,fun c hc=> ?_⟩
    ·rcases List.mem_cons.1 hc with rfl|hc
     ·omega
     ·exact k1 c hc
    ·rw[valS,List.length_cons,Nat.add_assoc,k2.1,show a.toNat=q-1 by omega,Nat.pow_succ,Nat.mul_comm (q^l.length),Nat.sub_mul,Nat.one_mul]
     have:q^l.length≤q*q^l.length:=Nat.le_mul_of_pos_left _ hq
     omega
    ·rcases List.mem_cons.1 hc with rfl|hc
     ·rfl
     ·exact k2.2 c hc
section
variable {hF:H} {q:Int}
theorem ri5{p s:List Int}{a b:Int}{i:Nat}(hi:p.length=i):(p++a::s).set i b=p++b::s:=by
 subst hi;simp
end
end Go.Proofs.Ytoglhlonhmmieaa
namespace Go.Proofs.Ytoglhlonhmmieaa
open Go.Am Go.Vm Go.Alg
theorem qe6{p s:List Int}{a:Int}{i:Nat}(hi:p.length=i):(ivs (p++a::s))[i]? =some (.v (.int .i64 a)):=iat (by subst hi;simp)
section
variable {q:Int} {nl:Nat}
end
section
variable {q:Int}
variable {b b':Bool} {nl nl':Nat} {xs w:List Int} {k:Int}
end
theorem q_hi{q:Int} [hq:IsFld q]:q≤64:=by
 obtain⟨p,m,g,mod,hn⟩:=hq.ok
 exact(jj8 hn).1.q64
section
variable {q:Int} [IsFld q]
def elE(q:Int) [IsFld q](a:Int):El q:=if h:0≤a∧a<q then⟨a,h.1,h.2⟩else 0
theorem sx0{a:Int}(h:0≤a∧a<q):(elE q a).v=a:=by unfold elE;rw[dif_pos h]
theorem c86{l:List Int}(h:digS q l):vs (l.map (elE q))=l:=by
 unfold vs
 rw[List.map_map]
 conv=>rhs;rw[←List.map_id l]
 exact List.map_congr_left fun a ha=>sx0 (h a ha)
theorem oa6(z:List (El q)):digS q (vs z):=fun a ha=>by
 obtain⟨x,_,rfl⟩:=List.mem_map.1 ha
 exact⟨x.lo,x.hi⟩
def yv5(z:List (El q)):List (El q):=(qr3 q (vs z)).1.map (elE q)
theorem z55: ∃p:Nat,q=(p:Int)∧2≤p∧p≤64:=⟨q.toNat,by have:=aw0 (q:=q);omega,by have:=aw0 (q:=q);omega,by have:=q_hi (q:=q);omega⟩
theorem mw7(z:List (El q)):vs (yv5 z)=(qr3 q (vs z)).1:=by
 obtain⟨p,hp,h2,_⟩:=z55 (q:=q)
 refine c86 ?_
 have:=(jd2 (q:=p) (by omega) (l:=vs z) (by rw[←hp];exact oa6 z)).1
 rwa [←hp]at this
theorem l71(z:List (El q)):(yv5 z).length=z.length:=by
 have:=congrArg List.length (mw7 z)
 rwa [fi2,pd1,fi2]at this
theorem nc8{p:Nat}: ∀(d:Nat) (n:Nat),fewQ (p:Int) d (n:Int)=true→n≤4096→n*p^d≤4096
 |0,n,_,hn=>by simpa using hn
 |d+1,n,h,hn=>by
  rw[fewQ]at h
  split at h
  ·cases h
  ·rename_i h1
   rw[←Int.natCast_mul]at h h1
   have:=nc8 d (n*p) h (by omega)
   rw[Nat.mul_assoc,←Nat.pow_succ']at this
   exact this
structure Left (q:Int) (p:Nat) (n:Nat) (z:List (El q)):Prop where
 e:q=(p:Int)
 h:valS p (vs z)+n+1=p^z.length
theorem Left.last{p:Nat}{z:List (El q)}(h:Left q p 0 z):(qr3 q (vs z)).2=false:=by
 have hq:=aw0 (q:=q)
 have h1:=jd2 (q:=p) (by have:=h.e;omega) (l:=vs z) (by rw[←h.e];exact oa6 z)
 rw[←h.e]at h1
 cases hb:(qr3 q (vs z)).2 with
 |false=>rfl
 |true=>
  have h2:=h1.2
  rw[hb,if_pos rfl]at h2
  have h3:=uc1 (q:=p) (l:=(qr3 q (vs z)).1) (by rw[←h.e];exact h1.1)
  rw[pd1,fi2]at h3
  have:=h.h
  omega
theorem Left.more{p n:Nat}{z:List (El q)}(h:Left q p (n+1) z):(qr3 q (vs z)).2=true∧Left q p n (yv5 z):=by
 have hq:=aw0 (q:=q)
 have h1:=jd2 (q:=p) (by have:=h.e;omega) (l:=vs z) (by rw[←h.e];exact oa6 z)
 rw[←h.e]at h1
 have h0:=h.h
 cases hb:(qr3 q (vs z)).2 with
 |false=>
  have h2:=h1.2
  rw[hb,if_neg (by decide),fi2]at h2
  omega
 |true=>
  have h2:=h1.2
  rw[hb,if_pos rfl]at h2
  exact⟨rfl,h.e,by rw[mw7,l71];omega⟩
theorem Left.start{p:Nat}(e:q=(p:Int))(K:Nat):Left q p (p^K-1) (List.replicate K (0:El q)):=by
 have hq:=aw0 (q:=q)
 refine⟨e, ?_⟩
 have h0: ∀k:Nat,valS p (vs (List.replicate k (0:El q)))=0:=by
  intro k
  induction k with
  |zero=>rfl
  |succ k ih=>rw[List.replicate_succ,show vs ((0:El q)::List.replicate k 0)=0::vs (List.replicate k 0)from rfl,valS,ih];simp
 rw[h0,List.length_replicate]
 have:0<p^K:=Nat.pow_pos (by omega)
 omega
end
section
variable {q p m g:Int} [IsFld q] {t:Tree} {b b' b2:Bool} {nl nl' nl2:Nat} {X Y:List (El q)} {r:Int} {K:Nat}
end
section
variable {q n:Int} {nl nr:Nat} {M:List (List Int)}
end
section
variable {q:Int} [IsFld q] {k nl nr:Nat} {N:List (List (El q))}
theorem kh1(h1:0≤q)(h2:q≤64){M:List (List Int)}{K:Nat}(hK:K≤1000): ∀(d i:Nat) (n:Int),i+d=K→0≤n→n≤4096→ ∃n':Int,∀ks,
 vgoL W ⟨hNo,[(.cell 2 true 3), .tmp 3],0⟩ [1,2,5,17,18] c48L0 (.blk 0 [1,2]::ks) [(1, .own 0 []),(2, .own 1 []),(5, .x (.int .i64 n)),(17, .x (.int .i64 K)),(18, .x (.int .i64 i))] [.pt 25 [.v (.int .i64 q), .v (.int .i64 k), .sl 2 22 1 (lls 2 M)], .pt 25 [.v (.int .i64 0), .v (.int .i64 0), .sl 2 22 1 []]]=
  if fewQ q d n=true then vgo W ⟨hNo,[(.cell 2 true 3), .tmp 3],0⟩ ks (VFr.of [(1, .own 0 []),(2, .own 1 [])]) [.pt 25 [.v (.int .i64 q), .v (.int .i64 k), .sl 2 22 1 (lls 2 M)], .pt 25 [.v (.int .i64 0), .v (.int .i64 0), .sl 2 22 1 []]]
  else some (.tup [.agg [.x (.int .i64 0), .x (.int .i64 0), .x (.slice none 0 0)], .x (.int .i64 4)],[],[])
 |0,i,n,hi,h0,hn=>by
  refine⟨n,fun ks=> ?_⟩
  rw[fewQ,if_pos rfl,sb5 c48L0.eq_def]
  simp(disch:=first|omega|fail) only[push_cast,seval,vrl,if_pos,if_neg]
 |d+1,i,n,hi,hn,hn2=>by
  have hb0:0≤n*q:=Int.mul_nonneg hn h1
  have hb1:n*q≤4096*64:=Int.mul_le_mul hn2 h2 h1 (by decide)
  have hb2:n*q≤262144:=by omega
  rw[fewQ]
  by_cases h:4096<n*q
  ·rw[if_pos h]
   refine⟨n,fun ks=> ?_⟩
   rw[if_neg (by decide),sb5 c48L0.eq_def]
   simp(disch:=first|omega|fail) only[push_cast,seval,vrl,if_pos,if_neg,dec_lt h]
  ·obtain⟨n',ih⟩:=kh1 h1 h2 (M:=M) hK d (i+1) (n*q) (by omega) hb0 (by omega)
   refine⟨n',fun ks=> ?_⟩
   have ih:=ih ks
   rw[Int.natCast_add,Int.natCast_one]at ih
   rw[if_neg h,←ih,sb5 c48L0.eq_def]
   simp(disch:=first|omega|fail) only[push_cast,seval,vrl,if_pos,if_neg,cw6 (Int.not_lt.1 h)]
theorem lw9(he:gi9 q k (N.map vs)=0)(h0:0<k)(hk:k≤64)(hl:N.length≤64)(hr: ∀r∈N,r.length=k):
 o24 W 48 [.agg [.x (.int .i64 q), .x (.int .i64 k), .fz true (.sl nl 0 1 (lvs nr (N.map vs)))]] []=if fewQ q (redR N).length 1=true then some (.tup [.agg [.x (.int .i64 q), .x (.int .i64 k), .own 0 []], .x (.int .i64 0)],[.sl 2 22 1 (lls 2 (pvR (redR N)))],[])
  else some (.tup [.agg [.x (.int .i64 0), .x (.int .i64 0), .x (.slice none 0 0)], .x (.int .i64 4)],[],[]):=by
 have e1:=fun nl nr=>ob1 (nl:=nl) (nr:=nr) he h0 hk hl hr
 have hle:=ew4 hr
 have hq:=aw0 (q:=q)
 obtain⟨n',e⟩:=kh1 (q:=q) (k:=k) (M:=pvR (redR N)) (by omega) q_hi (K:=(redR N).length) (by omega) (redR N).length 0 1 (by omega) (by omega) (by omega)
 simp only[Int.natCast_zero,List.take_zero,List.drop_zero,rp2,lz6,x25,List.map_nil,List.length_nil]at e
 have h1:=nu3 (redR N)
 rw[o10 rfl T48 rfl]
 unfold F48 c48
 simp(disch:=first|omega|fail) only[push_cast,seval,vrl,if_pos,if_neg,e1,h1]
 rw[e]
 cases fewQ q (redR N).length 1 with
 |true=>
  rw[if_pos rfl,if_pos rfl]
  simp(disch:=first|omega|fail) only[push_cast,seval,vrl,if_pos,if_neg]
 |false=>rw[if_neg (by decide),if_neg (by decide)]
theorem q96{M:List (List Int)}:o24 W 49 [.agg [.x (.int .i64 q), .x (.int .i64 k), .fz true (.sl nl 0 1 (lvs nr M))]] []=some (.fn 89 [.own 0 []],[.pt 25 [.v (.int .i64 q), .v (.int .i64 k), .fz (.sl nl 0 1 (lvs nr M))]],[]):=by
 rw[o10 rfl T49 rfl]
 unfold F49 c49
 simp(disch:=first|omega|fail) only[push_cast,seval,vrl,if_pos,if_neg]
end
section
variable {q:Int} [IsFld q] {k nl nr nl2 nlo:Nat} {b:Bool} {R:List (List (El q))}
def wdL(k:Nat)(R:List (List (El q))):Nat→List (El q)→List (List (El q))
 |0,z=>[encL k z R]
 |n+1,z=>encL k z R::wdL k R n (yv5 z)
def inc1(o:List Int)(w:List (El q)):List Int:=o.set (wtW (vs w)) (o.getD (wtW (vs w)) 0+1)
theorem c40(o:List Int)(w:List (El q)):(inc1 o w).length=o.length:=by unfold inc1;rw[List.length_set]
structure CntOK (k m:Nat) (o:List Int):Prop where
 len:o.length=k+1
 lo: ∀x∈o,0≤x∧x≤(m:Int)
theorem CntOK.next{m:Nat}{o:List Int}(h:CntOK k m o){w:List (El q)}(hw:w.length=k):CntOK k (m+1) (inc1 o w):=by
 refine⟨by rw[c40,h.len],fun x hx=> ?_⟩
 unfold inc1 at hx
 have hwt:=p55 (vs w)
 rw[fi2]at hwt
 rcases List.mem_or_eq_of_mem_set hx with hx|hx
 ·have:=h.lo x hx;omega
 ·have hm:o.getD (wtW (vs w)) 0∈o:=by
   rw[List.getD_eq_getElem?_getD,List.getElem?_eq_getElem (by rw[h.len];omega),Option.getD_some]
   exact List.getElem_mem _
  have:=h.lo _ hm
  omega
theorem CntOK.at'{m:Nat}{o:List Int}(h:CntOK k m o){w:List (El q)}(hw:w.length=k):o[wtW (vs w)]? =some (o.getD (wtW (vs w)) 0)∧0≤o.getD (wtW (vs w)) 0∧o.getD (wtW (vs w)) 0≤(m:Int)∧wtW (vs w)<o.length:=by
 have hwt:=p55 (vs w)
 rw[fi2]at hwt
 have hlt:wtW (vs w)<o.length:=by rw[h.len];omega
 have e:o[wtW (vs w)]? =some (o.getD (wtW (vs w)) 0):=by rw[List.getD_eq_getElem?_getD,List.getElem?_eq_getElem hlt,Option.getD_some]
 exact⟨e,(h.lo _ (List.mem_of_getElem? e)).1,(h.lo _ (List.mem_of_getElem? e)).2,hlt⟩
def v66:Nat→List (El q)→List (El q)
 |0,z=>yv5 z
 |n+1,z=>v66 n (yv5 z)
theorem le0(hq:q≤1000000){T:Tree}: ∀(i:Nat) (p s s':List Int),p.length=i→(p++s).length≤1000000→(∀a∈p,0≤a∧a<q)→qr3 q s=(s',false)→ ∃j:Int,(0≤j↔(qr3 q (p++s)).2=true)∧ ∀ks,
 vgoL W ⟨hNo,[.tmp 2, .tmp 3],0⟩ [5,33,35,37,38,113] c11L0 (.blk 2 [5,33,35,37,38,113]::ks) [(5, .own 0 []),(33, .own 1 []),(35, .fz true (pF q)),(37, .own 2 []),(38, .x (.int .i64 ((i:Int)-1))),(113, .x (.bool false))] [T, .pt 25 [.v (.int .i64 q), .v (.int .i64 k), .fz (.sl nl 0 1 (lvs nr (R.map vs)))], .sl nl2 3 1 (ivs (p++s'))]=
  vgo W ⟨hNo,[.tmp 2, .tmp 3],0⟩ ks (VFr.of [(5, .own 0 []),(33, .own 1 []),(35, .fz true (pF q)),(37, .own 2 []),(38, .x (.int .i64 j)),(113, .x (.bool false))]) [T, .pt 25 [.v (.int .i64 q), .v (.int .i64 k), .fz (.sl nl 0 1 (lvs nr (R.map vs)))], .sl nl2 3 1 (ivs (qr3 q (p++s)).1)]
 |0,p,s,s',hi,hn,hd,hs=>by
  obtain rfl:p=[]:=List.eq_nil_of_length_eq_zero hi
  rw[List.nil_append,List.nil_append,hs]
  refine⟨-1,by simp,fun ks=> ?_⟩
  rw[sb5 c11L0.eq_def]
  simp(disch:=first|omega|fail) only[push_cast,seval,vrl,if_pos,if_neg]
 |i+1,p,s,s',hi,hn,hd,hs=>by
  obtain⟨p',a,rfl⟩: ∃p' a,p=p'++[a]:=⟨p.dropLast,p.getLast (by intro h;subst h;simp at hi),(List.dropLast_concat_getLast _).symm⟩
  have hp'l:p'.length=i:=by simpa using hi
  have ha:=hd a (by simp)
  rw[List.append_assoc,List.singleton_append]at hn⊢
  rw[List.append_assoc,List.singleton_append]
  have hsl:s'.length=s.length:=by have:=pd1 q s;rw[hs]at this;exact this
  have hlen:(p'++a::s').length≤1000000:=by simp[hsl]at hn⊢;omega
  have hi2:i<(p'++a::s').length:=by simp;omega
  have l1:=qe6 (s:=s') (a:=a) hp'l
  have l2:=qe6 (s:=s') (a:=a+1) hp'l
  have t1:=ri5 (s:=s') (a:=a) (b:=a+1) hp'l
  have t2:=ri5 (s:=s') (a:=a+1) (b:=0) hp'l
  have e2:(p'++(a+1)::s').length=(p'++a::s').length:=by simp
  have hw:((i+1:Nat):Int)-1=(i:Int):=by omega
  rw[hw]
  by_cases hlt:a+1<q
  ·have hnx:qr3 q (a::s)=((a+1)::s',true):=by rw[qr3,hs];simp only;rw[if_pos hlt]
   rw[vq6 hnx p']
   refine⟨i,⟨fun _=>rfl,fun _=>by omega⟩,fun ks=> ?_⟩
   rw[sb5 c11L0.eq_def]
   simp(disch:=first|omega|fail) only[push_cast,seval,vrl,if_pos,if_neg,l1,l2,t1,e2,dec_lt hlt]
  ·have hnx:qr3 q (a::s)=(0::s',false):=by rw[qr3,hs];simp only;rw[if_neg hlt]
   obtain⟨j,j1,j2⟩:=le0 hq (T:=T) i p' (a::s) (0::s') hp'l hn (fun c hc=>hd c (by simp[hc])) hnx
   refine⟨j,j1,fun ks=> ?_⟩
   rw[←j2 ks,sb5 c11L0.eq_def]
   simp(disch:=first|omega|fail) only[push_cast,seval,vrl,if_pos,if_neg,l1,l2,t1,t2,e2,cw6 (Int.not_lt.1 hlt)]
theorem ie9(hm:R.length≤64)(hR: ∀r∈R,r.length=k)(hk:k≤64){pp:Nat}: ∀(n m:Nat) (z:List (El q)) (o:List Int),Left q pp n z→z.length=R.length→CntOK k m o→m+n≤100000→ ∀ks kz,ks= .blk 1000 [113,5]::kz→
 vgoL W ⟨hNo,[.tmp 2, .tmp 3],0⟩ [5,33,35,37,113] c11L1 (.blk 0 [5,113]::ks) [(5, .own 0 []),(33, .own 1 []),(35, .fz true (pF q)),(37, .own 2 []),(113, .x (.bool false))] [.pt 22 [.sl nlo 3 1 (ivs o)], .pt 25 [.v (.int .i64 q), .v (.int .i64 k), .fz (.sl nl 0 1 (lvs nr (R.map vs)))], .sl 0 3 1 (ivs (vs z))]=
  vgo W ⟨hNo,[.tmp 2, .tmp 3],0⟩ kz (VFr.of [(113, .x (.bool false)),(5, .own 0 [])]) [.pt 22 [.sl nlo 3 1 (ivs ((wdL k R n z).foldl inc1 o))], .pt 25 [.v (.int .i64 q), .v (.int .i64 k), .fz (.sl nl 0 1 (lvs nr (R.map vs)))], .sl 0 3 1 (ivs (vs (v66 n z)))]:=by
 have hqh:=q_hi (q:=q)
 have turn: ∀(m:Nat) (z:List (El q)) (o:List Int),z.length=R.length→CntOK k m o→m≤100000→ ∃j:Int,(0≤j↔(qr3 q (vs z)).2=true)∧ ∀ks kz,ks= .blk 1000 [113,5]::kz→
  (0≤j→vgoL W ⟨hNo,[.tmp 2, .tmp 3],0⟩ [5,33,35,37,113] c11L1 (.blk 0 [5,113]::ks) [(5, .own 0 []),(33, .own 1 []),(35, .fz true (pF q)),(37, .own 2 []),(113, .x (.bool false))] [.pt 22 [.sl nlo 3 1 (ivs o)], .pt 25 [.v (.int .i64 q), .v (.int .i64 k), .fz (.sl nl 0 1 (lvs nr (R.map vs)))], .sl 0 3 1 (ivs (vs z))]=
    vgoL W ⟨hNo,[.tmp 2, .tmp 3],0⟩ [5,33,35,37,113] c11L1 (.blk 0 [5,113]::ks) [(5, .own 0 []),(33, .own 1 []),(35, .fz true (pF q)),(37, .own 2 []),(113, .x (.bool false))] [.pt 22 [.sl nlo 3 1 (ivs (inc1 o (encL k z R)))], .pt 25 [.v (.int .i64 q), .v (.int .i64 k), .fz (.sl nl 0 1 (lvs nr (R.map vs)))], .sl 0 3 1 (ivs (vs (yv5 z)))])∧
  (j<0→vgoL W ⟨hNo,[.tmp 2, .tmp 3],0⟩ [5,33,35,37,113] c11L1 (.blk 0 [5,113]::ks) [(5, .own 0 []),(33, .own 1 []),(35, .fz true (pF q)),(37, .own 2 []),(113, .x (.bool false))] [.pt 22 [.sl nlo 3 1 (ivs o)], .pt 25 [.v (.int .i64 q), .v (.int .i64 k), .fz (.sl nl 0 1 (lvs nr (R.map vs)))], .sl 0 3 1 (ivs (vs z))]=
    vgo W ⟨hNo,[.tmp 2, .tmp 3],0⟩ kz (VFr.of [(113, .x (.bool false)),(5, .own 0 [])]) [.pt 22 [.sl nlo 3 1 (ivs (inc1 o (encL k z R)))], .pt 25 [.v (.int .i64 q), .v (.int .i64 k), .fz (.sl nl 0 1 (lvs nr (R.map vs)))], .sl 0 3 1 (ivs (vs (yv5 z)))]):=by
  intro m z o hz ho hm'
  obtain⟨j,j1,j2⟩:=le0 (q:=q) (k:=k) (nl:=nl) (nr:=nr) (R:=R) (nl2:=0) (by omega) (T:= .pt 22 [.sl nlo 3 1 (ivs (inc1 o (encL k z R)))]) z.length (vs z) [] [] (by rw[fi2]) (by rw[List.append_nil,fi2];omega) (fun a ha=>oa6 z a ha) rfl
  rw[List.append_nil]at j1
  simp only[List.append_nil]at j2
  rw[←mw7]at j2
  have e1:=fun b nl nr nl2=>gm8 (q:=q) (k:=k) (b:=b) (nl:=nl) (nr:=nr) (nl2:=nl2) (m:=z) (R:=R) hz (by omega) hR (by omega)
  have e2:=fun b nl=>fd2 (b:=b) (nl:=nl) (a:=vs (encL k z R)) (by rw[fi2,b87];omega)
  obtain⟨o1,o2,o3,o4⟩:=ho.at' (w:=encL k z R) (b87 z R)
  have h1:=iat o1
  have hzl:(vs z).length=z.length:=fi2 z
  refine⟨j,j1,fun ks kz hks=>⟨fun hj=> ?_,fun hj=> ?_⟩⟩
  ·rw[hks,sb5 c11L1.eq_def]
   simp(disch:=first|omega|fail) only[push_cast,seval,vrl,if_pos,if_neg,e1,e2,h1,hzl]
   rw[show o.set (wtW (vs (encL k z R))) (o.getD (wtW (vs (encL k z R))) 0+1)=inc1 o (encL k z R)from rfl,j2]
   simp(disch:=first|omega|fail) only[push_cast,seval,vrl,if_pos,if_neg,cw6 hj]
  ·rw[hks,sb5 c11L1.eq_def]
   simp(disch:=first|omega|fail) only[push_cast,seval,vrl,if_pos,if_neg,e1,e2,h1,hzl]
   rw[show o.set (wtW (vs (encL k z R))) (o.getD (wtW (vs (encL k z R))) 0+1)=inc1 o (encL k z R)from rfl,j2]
   simp(disch:=first|omega|fail) only[push_cast,seval,vrl,if_pos,if_neg,dec_lt hj]
 intro n
 induction n with
 |zero=>
  intro m z o hl hz ho hm' ks kz hks
  obtain⟨j,j1,j2⟩:=turn m z o hz ho (by omega)
  have hlast:=hl.last
  rw[hlast]at j1
  rw[((j2 ks kz hks).2 (by by_cases h:0≤j;exact absurd (j1.1 h) (by decide);omega)),wdL,List.foldl_cons,List.foldl_nil,v66]
 |succ n ih=>
  intro m z o hl hz ho hm' ks kz hks
  obtain⟨j,j1,j2⟩:=turn m z o hz ho (by omega)
  obtain⟨l1,l2⟩:=hl.more
  rw[(j2 ks kz hks).1 (j1.2 l1),wdL,List.foldl_cons,v66]
  exact ih (m+1) (yv5 z) (inc1 o (encL k z R)) l2 (by rw[l71,hz]) (ho.next (b87 z R)) (by omega) ks kz hks
def allW(k:Nat)(R:List (List (El q))):List (List (El q)):=wdL k R (q.toNat^R.length-1) (List.replicate R.length 0)
def wgt(k:Nat)(R:List (List (El q))):List Int:=(allW k R).foldl inc1 (List.replicate (k+1) 0)
theorem kp0:CntOK k 0 (List.replicate (k+1) 0):=⟨by simp,fun x hx=>by rw[(List.mem_replicate.1 hx).2];omega⟩
theorem i28(h:fewQ q R.length 1=true):q.toNat^R.length≤4096:=by
 have hq:=aw0 (q:=q)
 have:=nc8 (p:=q.toNat) R.length 1 (by rw[Int.toNat_of_nonneg (by omega)];exact h) (by omega)
 omega
theorem ir7{N:List (List (El q))}(he:gi9 q k (N.map vs)=0)(h0:0<k)(hk:k≤64)(hl:N.length≤64)(hr: ∀r∈N,r.length=k)(hf:fewQ q (redR N).length 1=true):
 o24 W 11 [.agg [.x (.int .i64 q), .x (.int .i64 k), .fz true (.sl nl 0 1 (lvs nr (N.map vs)))]] []=some (.tup [.own 0 [], .x (.int .i64 0)],[.sl 2 3 1 (ivs (wgt k (p78 (redR N))))],[]):=by
 have e1:=fun nl nr=>lw9 (nl:=nl) (nr:=nr) he h0 hk hl hr
 simp only[hf,if_true]at e1
 obtain⟨r1,r2,_⟩:=bi2 hr
 have hle:=ew4 hr
 have hq:=aw0 (q:=q)
 have hrl:(p78 (redR N)).length=(redR N).length:=gb3
 have hpw:=i28 (q:=q) (R:=p78 (redR N)) (by rw[hrl];exact hf)
 have e2:=fun nl nr=>q96 (q:=q) (k:=k) (nl:=nl) (nr:=nr) (M:=pvR (redR N))
 have e3:=fun nlo nl nr ks kz hks=>ie9 (q:=q) (k:=k) (nlo:=nlo) (nl:=nl) (nr:=nr) (R:=p78 (redR N)) (by omega) (zu4 r2) hk (pp:=q.toNat) (q.toNat^(p78 (redR N)).length-1) 0 (List.replicate (p78 (redR N)).length 0) (List.replicate (k+1) 0) (Left.start (by omega) _) (by simp) kp0 (by omega) ks kz hks
 rw[←lo1]at e3
 have h1:=nu3 (redR N)
 have hz:List.replicate (redR N).length (0:Int)=vs (List.replicate (p78 (redR N)).length (0:El q)):=by rw[hrl,←qj2];rfl
 obtain⟨K,hK⟩: ∃K,K=k+1:=⟨_,rfl⟩
 unfold wgt allW
 rw[←hK]at e3⊢
 rw[o10 rfl T11 rfl]
 unfold F11 c11
 have hk1:((k:Int)+1).toNat=K:=by omega
 simp(disch:=first|omega|fail) only[push_cast,seval,vrl,if_pos,if_neg,e1,e2,h1,hz,hk1]
 rw[e3 _ _ _ _ _ rfl]
 simp(disch:=first|omega|fail) only[push_cast,seval,vrl,if_pos,if_neg]
end
section
variable {q n:Int} {nl nr:Nat} {M:List (List Int)}
end
section
variable {q:Int} [IsFld q] {k nl nr nl2:Nat} {b:Bool} {R:List (List (El q))}
end
def yv0:Nat→List Int→Int
 |_,[]=>0
 |i,x::l=>if 0<x then(i:Int)else yv0 (i+1) l
section
variable {b:Bool} {nl:Nat} {l:List Int}
def jq9(l:List Int):Int:=yv0 1 (l.drop 1)
theorem bi6(hl:l.length≤9223372036854775807): ∀(d i:Nat),i+d=l.length→1≤i→ ∀ks,
 vgoL W ⟨hNo,[.tmp 2, .tmp 3],0⟩ [4,6] c16L0 (.blk 0 []::ks) [(4, .own 0 []),(6, .x (.int .i64 i))] [.sl nl 3 1 (ivs l)]=if yv0 i (l.drop i)=0 then vgo W ⟨hNo,[.tmp 2, .tmp 3],0⟩ ks (VFr.of []) [.sl nl 3 1 (ivs l)]else some (.tup [.x (.int .i64 (yv0 i (l.drop i))), .x (.int .i64 0)],[],[])
 |0,i,hi,h1,ks=>by
  rw[oh9 (by omega),yv0,if_pos rfl,sb5 c16L0.eq_def]
  simp(disch:=first|omega|fail) only[push_cast,seval,vrl,if_pos,if_neg]
 |d+1,i,hi,hi1,ks=>by
  obtain⟨x,hx⟩:=ge6 (l:=l) (i:=i) (by omega)
  have h1:=iat hx
  have ih:=bi6 hl d (i+1) (by omega) (by omega) ks
  rw[Int.natCast_add,Int.natCast_one]at ih
  rw[i62 hx,yv0]
  by_cases h:0<x
  ·rw[if_pos h,if_neg (by omega),sb5 c16L0.eq_def]
   simp(disch:=first|omega|fail) only[push_cast,seval,vrl,if_pos,if_neg,h1,dec_lt h]
  ·rw[if_neg h,←ih,sb5 c16L0.eq_def]
   simp(disch:=first|omega|fail) only[push_cast,seval,vrl,if_pos,if_neg,h1,cw6 (Int.not_lt.1 h)]
theorem ia2{q n:Int}{nl nr nl':Nat}{M:List (List Int)}(hl:l.length≤9223372036854775807)(hl1:1≤l.length)(h: ∀nl nr,o24 W 11 [.agg [.x (.int .i64 q), .x (.int .i64 n), .fz true (.sl nl 0 1 (lvs nr M))]] []=some (.tup [.own 0 [], .x (.int .i64 0)],[.sl nl' 3 1 (ivs l)],[])):
 o24 W 16 [.agg [.x (.int .i64 q), .x (.int .i64 n), .fz true (.sl nl 0 1 (lvs nr M))]] []=some (.tup [.x (.int .i64 (jq9 l)), .x (.int .i64 0)],[],[]):=by
 have e:=fun nl ks=>bi6 (nl:=nl) hl (l.length-1) 1 (by omega) (by omega) ks
 simp only[Int.natCast_one]at e
 unfold jq9
 rw[o10 rfl T16 rfl]
 unfold F16 c16
 simp(disch:=first|omega|fail) only[push_cast,seval,vrl,if_pos,if_neg,h]
 rw[e]
 by_cases h:yv0 1 (l.drop 1)=0
 ·rw[if_pos h,h]
  simp(disch:=first|omega|fail) only[push_cast,seval,vrl,if_pos,if_neg]
 ·rw[if_neg h]
end
section
variable {q:Int} [IsFld q] {k nl nr:Nat} {N:List (List (El q))}
theorem rc0(R:List (List (El q))):(wgt k R).length=k+1:=by
 unfold wgt
 have: ∀(l:List (List (El q))) (o:List Int),(l.foldl inc1 o).length=o.length:=by
  intro l
  induction l with
  |nil=>intro o;rfl
  |cons a l ih=>intro o;rw[List.foldl_cons,ih,c40]
 rw[this];simp
end
section
variable {q:Int} [IsFld q] {k:Nat}
theorem mg6(o:List Int)(w:List (El q)){d:Nat}(hd:d<o.length):(inc1 o w).getD d 0=o.getD d 0+if wtW (vs w)=d then 1 else 0:=by
 unfold inc1
 simp only[List.getD_eq_getElem?_getD,List.getElem?_set]
 by_cases h:wtW (vs w)=d
 ·rw[if_pos h,if_pos h,if_pos (by rw[h];exact hd),h,Option.getD_some,List.getElem?_eq_getElem hd]
 ·rw[if_neg h,if_neg h,Int.add_zero]
theorem xm0(d:Nat): ∀(L:List (List (El q))) (o:List Int),d<o.length→(L.foldl inc1 o).getD d 0=o.getD d 0+((L.filter fun w=>decide (wtW (vs w)=d)).length:Int)
 | [],o,hd=>by simp
 |w::L,o,hd=>by
  rw[List.foldl_cons,xm0 d L (inc1 o w) (by rw[c40];exact hd),mg6 o w hd,List.filter_cons]
  by_cases h:wtW (vs w)=d
  ·rw[if_pos h,if_pos (by simpa using h),List.length_cons];omega
  ·rw[if_neg h,if_neg (by simpa using h)];omega
theorem hu4{R:List (List (El q))}{d:Nat}(hd:d≤k):(wgt k R).getD d 0=(((allW k R).filter fun w=>decide (wtW (vs w)=d)).length:Int):=by
 unfold wgt
 rw[xm0 d _ _ (by simp;omega)]
 have:(List.replicate (k+1) (0:Int)).getD d 0=0:=by rw[List.getD_eq_getElem?_getD,List.getElem?_replicate];split<;>rfl
 rw[this,Int.zero_add]
end
theorem id6{p:Nat}: ∀{l l':List Int},digS p l→digS p l'→l.length=l'.length→valS p l=valS p l'→l=l'
 | [],[],_,_,_,_=>rfl
 |a::l,b::l',h,h',hl,hv=>by
  have hl':l.length=l'.length:=by simpa using hl
  have h1:=uc1 (l:=l) fun c hc=>h c (by simp[hc])
  have h2:=uc1 (l:=l') fun c hc=>h' c (by simp[hc])
  have h3:=h a (by simp)
  have h4:=h' b (by simp)
  rw[valS,valS,←hl']at hv
  rw[←hl']at h2
  generalize p^l.length=M at*
  have e:a.toNat=b.toNat:=by
   rcases Nat.lt_trichotomy a.toNat b.toNat with h5|h5|h5
   ·have h6:(a.toNat+1)*M≤b.toNat*M:=Nat.mul_le_mul_right _ h5
    rw[Nat.add_mul]at h6;omega
   ·exact h5
   ·have h6:(b.toNat+1)*M≤a.toNat*M:=Nat.mul_le_mul_right _ h5
    rw[Nat.add_mul]at h6;omega
  rw[e]at hv
  rw[id6 (fun c hc=>h c (by simp[hc])) (fun c hc=>h' c (by simp[hc])) hl' (by omega),show a=b by omega]
section
variable {q:Int} [IsFld q] {p k:Nat} {R:List (List (El q))}
theorem gu8{n:Nat}{z:List (El q)}(h:Left q p (n+1) z):valS p (vs (yv5 z))=valS p (vs z)+1:=by
 have h2:=h.more.2.h
 have h1:=h.h
 rw[l71]at h2
 omega
end
end Go.Proofs.Ytoglhlonhmmieaa
namespace Go.Alg
section
variable {α β:Type}
def sZ:List α→(α→Int)→Int
 | [],_=>0
 |a::l,f=>f a+sZ l f
theorem pj8{f g:α→Int}: ∀{l:List α},(∀a∈l,f a=g a)→sZ l f=sZ l g
 | [],_=>rfl
 |a::l,h=>by rw[sZ,sZ,h a (by simp),pj8 fun b hb=>h b (by simp[hb])]
theorem tf8{f g:α→Int}: ∀{l:List α},(∀a∈l,f a≤g a)→sZ l f≤sZ l g
 | [],_=>Int.le_refl _
 |a::l,h=>by
  have h1:=h a (by simp)
  have h2:=tf8 (l:=l) fun b hb=>h b (by simp[hb])
  rw[sZ,sZ];omega
theorem kf2(f g:α→Int): ∀l:List α,sZ l (fun a=>f a+g a)=sZ l f+sZ l g
 | []=>rfl
 |a::l=>by rw[sZ,sZ,sZ,kf2 f g l];omega
theorem e95(c:Int)(f:α→Int): ∀l:List α,sZ l (fun a=>c*f a)=c*sZ l f
 | []=>by simp[sZ]
 |a::l=>by rw[sZ,sZ,e95 c f l,Int.mul_add]
theorem qx5(c:Int)(f:α→Int)(l:List α):sZ l (fun a=>f a*c)=sZ l f*c:=by
 rw[Int.mul_comm,←e95]
 exact pj8 fun a _=>Int.mul_comm _ _
theorem bs3(c:Int): ∀l:List α,sZ l (fun _=>c)=l.length*c
 | []=>by simp[sZ]
 |a::l=>by rw[sZ,bs3 c l,List.length_cons,Int.natCast_add,Int.add_mul];omega
theorem jr2(l:List α):sZ l (fun _=>0)=0:=by rw[bs3];simp
theorem wp6(f:α→β→Int)(m:List β): ∀l:List α,sZ l (fun a=>sZ m fun b=>f a b)=sZ m fun b=>sZ l fun a=>f a b
 | []=>by
   simp only[sZ]
   rw[jr2]
 |a::l=>by
  simp only[sZ]
  rw[wp6 f m l,←kf2]
variable [DecidableEq α]
end
end Go.Alg
namespace Go.Proofs.Ytoglhlonhmmieaa
open Go.Am Go.Vm Go.Alg
section
variable {α β:Type}
theorem e02(f:α→Int): ∀l l':List α,sZ (l++l') f=sZ l f+sZ l' f
 | [],l'=>by simp[sZ]
 |a::l,l'=>by rw[List.cons_append,sZ,sZ,e02 f l l'];omega
theorem p04(g:β→α)(f:α→Int): ∀l:List β,sZ (l.map g) f=sZ l fun b=>f (g b)
 | []=>rfl
 |b::l=>by rw[List.map_cons,sZ,sZ,p04 g f l]
theorem vy7(g:β→List α)(f:α→Int): ∀l:List β,sZ (l.flatMap g) f=sZ l fun b=>sZ (g b) f
 | []=>rfl
 |b::l=>by rw[List.flatMap_cons,e02,vy7 g f l,sZ]
theorem pk2{f:α→Int}{l l':List α}(h:l.Perm l'):sZ l f=sZ l' f:=by
 induction h with
 |nil=>rfl
 |cons a _ ih=>rw[sZ,sZ,ih]
 |swap a b l=>rw[sZ,sZ,sZ,sZ];omega
 |trans _ _ h1 h2=>rw[h1,h2]
theorem pz0(p:α→Bool): ∀l:List α,sZ l (fun a=>if p a then 1 else 0)=((l.filter p).length:Int)
 | []=>rfl
 |a::l=>by
  rw[sZ,pz0 p l,List.filter_cons]
  cases p a<;>simp<;>omega
theorem aw8(p:α→Bool)(f:α→Int): ∀l:List α,sZ l (fun a=>if p a then f a else 0)=sZ (l.filter p) f
 | []=>rfl
 |a::l=>by
  rw[sZ,aw8 p f l,List.filter_cons]
  cases p a<;>simp[sZ]
end
section
variable {q:Int} [IsFld q]
def els(q:Int) [IsFld q]:List (El q):=(List.range q.toNat).map fun i:Nat=>elE q (i:Int)
theorem w66(a:El q):a∈els q:=by
 refine List.mem_map.2 ⟨a.v.toNat,List.mem_range.2 (by have:=a.lo;have:=a.hi;omega),El.ext' ?_⟩
 rw[sx0 (by have:=a.lo;have:=a.hi;omega)]
 have:=a.lo;omega
theorem w55:(els q).Nodup:=by
 unfold els
 refine List.Pairwise.map _ (fun a b h=>h) (List.Pairwise.imp_of_mem (R:=fun a b:Nat=>a≠b) ?_ List.nodup_range)
 intro a b ha hb hab e
 have ha:=List.mem_range.1 ha
 have hb:=List.mem_range.1 hb
 have:=congrArg El.v e
 rw[sx0 (by omega),sx0 (by omega)]at this
 omega
theorem au9:(els q).length=q.toNat:=by simp[els]
theorem kq5:((els q).length:Int)=q:=by rw[au9];have:=aw0 (q:=q);omega
def nz(q:Int) [IsFld q]:List (El q):=(els q).filter fun a=>decide (a≠0)
theorem yy6:(els q).Perm (0::nz q):=by
 refine(List.perm_ext_iff_of_nodup w55 ?_).2 fun a=>⟨fun _=> ?_,fun _=>w66 a⟩
 ·refine List.nodup_cons.2 ⟨fun h=> ?_,List.Pairwise.filter _ w55⟩
  have:=(List.mem_filter.1 h).2
  simp at this
 ·by_cases h:a=0
  ·simp[h]
  ·exact List.mem_cons_of_mem _ (List.mem_filter.2 ⟨w66 a,by simpa using h⟩)
theorem bk1{a:El q}(h:a∈nz q):a≠0:=by simpa using(List.mem_filter.1 h).2
theorem n45(f:El q→Int):sZ (els q) f=f 0+sZ (nz q) f:=by rw[pk2 yy6];rfl
theorem ua6:((nz q).length:Int)=q-1:=by
 have h:=(yy6 (q:=q)).length_eq
 have h2:=kq5 (q:=q)
 rw[List.length_cons]at h
 omega
theorem y60(f:El q→Int){s:El q}(hs:s≠0)(t:El q):sZ (els q) (fun a=>f (s*a+t))=sZ (els q) f:=by
 rw[←p04 (fun a=>s*a+t) f]
 refine pk2 ((List.perm_ext_iff_of_nodup ?_ w55).2 fun a=>⟨fun _=>w66 a,fun _=> ?_⟩)
 ·refine List.Pairwise.map _ (fun a b h=>h) (List.Pairwise.imp (fun{a b} hab e=>hab ?_) w55)
  exact mul_left hs (gb2 e)
 ·refine List.mem_map.2 ⟨FK.inv s*(a-t),w66 _, ?_⟩
  rw[←FK.mul_assoc,FK.mul_inv s hs,one_mul,fj9]
def gg(a:El q):Int:=if a=0 then q-1 else-1
theorem kk8:sZ (els q) (gg (q:=q))=0:=by
 rw[n45]
 have h:sZ (nz q) (gg (q:=q))=sZ (nz q) (fun _=> -1):=pj8 fun a ha=>by unfold gg;rw[if_neg (bk1 ha)]
 rw[h,bs3,ua6]
 unfold gg
 rw[if_pos rfl];omega
theorem aj0{s:El q}(hs:s≠0)(t:El q):sZ (nz q) (fun a=>gg (s*a+t))= -gg t:=by
 have h:=y60 gg hs t
 rw[kk8,n45,mul_zero,zero_add]at h
 omega
def allV(q:Int) [IsFld q]:Nat→List (List (El q))
 |0=>[[]]
 |n+1=>(els q).flatMap fun a=>(allV q n).map (a:: ·)
theorem cm8: ∀{n:Nat} {v:List (El q)},v∈allV q n↔v.length=n
 |0,v=>by rw[allV,List.mem_singleton,List.length_eq_zero_iff]
 |n+1,v=>by
  rw[allV,List.mem_flatMap]
  constructor
  ·rintro⟨a,_,h⟩
   obtain⟨w,hw,rfl⟩:=List.mem_map.1 h
   rw[List.length_cons,cm8.1 hw]
  ·intro h
   cases v with
   |nil=>cases h
   |cons a w=>exact⟨a,w66 a,List.mem_map.2 ⟨w,cm8.2 (by simpa using h),rfl⟩⟩
theorem lb7(n:Nat)(f:List (El q)→Int):sZ (allV q (n+1)) f=sZ (els q) fun a=>sZ (allV q n) fun v=>f (a::v):=by
 rw[allV,vy7]
 exact pj8 fun a _=>p04 _ _ _
theorem hs3: ∀(l:List (El q)) (m:List (List (El q))),l.Nodup→m.Nodup→(l.flatMap fun a=>m.map (a:: ·)).Nodup
 | [],m,_,_=>List.nodup_nil
 |a::l,m,hl,hm=>by
  rw[List.nodup_cons]at hl
  rw[List.flatMap_cons,List.nodup_append]
  refine⟨?_,hs3 l m hl.2 hm, ?_⟩
  ·exact List.Pairwise.map _ (fun a b h=>h) (List.Pairwise.imp (fun{x y} h e=>h (List.cons.inj e).2) hm)
  ·intro x hx y hy e
   obtain⟨u,_,rfl⟩:=List.mem_map.1 hx
   obtain⟨b,hb,hy⟩:=List.mem_flatMap.1 hy
   obtain⟨w,_,rfl⟩:=List.mem_map.1 hy
   exact hl.1 ((List.cons.inj e).1▸hb)
theorem o63: ∀n,(allV q n).Nodup
 |0=>by rw[allV];simp
 |n+1=>hs3 _ _ w55 (o63 n)
theorem s37: ∀n,((allV q n).length:Int)=q^n
 |0=>by rw[Int.pow_zero];rfl
 |n+1=>by
  have h1:=lb7 (q:=q) n fun _=>1
  rw[bs3,Int.mul_one]at h1
  rw[h1]
  simp only[bs3,Int.mul_one]
  rw[s37 n,kq5,Int.pow_succ,Int.mul_comm]
def dotL:List (El q)→List (El q)→El q
 |a::u,b::v=>a*b+dotL u v
 |_,_=>0
def wtE(v:List (El q)):Nat:=wtW (vs v)
theorem xq7(a:El q)(v:List (El q)):wtE (a::v)=(if a=0 then 0 else 1)+wtE v:=by
 unfold wtE
 rw[e55,wtW]
 congr 1
 by_cases h:a=0
 ·rw[if_pos h,if_pos (r57.2 h)]
 ·rw[if_neg h,if_neg fun e=>h (r57.1 e)]
def kW:List (El q)→Nat→Int
 | [],0=>1
 | [],_+1=>0
 |a::u,0=>kW u 0
 |a::u,k+1=>kW u (k+1)+(if a=0 then q-1 else-1)*kW u k
theorem cx9: ∀(u:List (El q)) (k:Nat) (c:El q),sZ (allV q u.length) (fun v=>if wtE v=k then gg (dotL u v+c)else 0)=gg c*kW u k
 | [],k,c=>by
   show sZ [[]] _=_
   cases k with
   |zero=>
    show(if wtE ([]:List (El q))=0 then gg (0+c)else 0)+0=gg c*1
    rw[if_pos (show wtE ([]:List (El q))=0 from rfl),zero_add];omega
   |succ k=>
    show(if wtE ([]:List (El q))=k+1 then gg (0+c)else 0)+0=gg c*0
    rw[if_neg (by show¬0=k+1;omega)];omega
 |a::u,k,c=>by
  rw[List.length_cons,lb7,n45]
  have h0:sZ (allV q u.length) (fun v=>if wtE (0::v)=k then gg (dotL (a::u) (0::v)+c)else 0)=gg c*kW u k:=by
   rw[←cx9 u k c]
   refine pj8 fun v _=> ?_
   rw[xq7,if_pos rfl,Nat.zero_add,dotL,mul_zero,zero_add]
  rw[h0]
  cases k with
  |zero=>
   have h1:sZ (nz q) (fun b=>sZ (allV q u.length) fun v=>if wtE (b::v)=0 then gg (dotL (a::u) (b::v)+c)else 0)=sZ (nz q) fun _=>0:=by
    refine pj8 fun b hb=> ?_
    rw[pj8 (g:=fun _=>0) fun v _=>if_neg (show¬wtE (b::v)=0 by rw[xq7,if_neg (bk1 hb)];omega)]
    exact jr2 _
   rw[h1,jr2,kW,Int.add_zero]
  |succ k=>
   have h1:sZ (nz q) (fun b=>sZ (allV q u.length) fun v=>if wtE (b::v)=k+1 then gg (dotL (a::u) (b::v)+c)else 0)=sZ (nz q) fun b=>gg (a*b+c)*kW u k:=by
    refine pj8 fun b hb=> ?_
    rw[←cx9 u k (a*b+c)]
    refine pj8 fun v _=> ?_
    rw[xq7,if_neg (bk1 hb),dotL]
    by_cases hw:wtE v=k
    ·rw[if_pos hw,if_pos (by omega),FK.add_comm (a*b),FK.add_assoc]
    ·rw[if_neg hw,if_neg (by omega)]
   rw[h1,qx5,kW,Int.mul_add]
   congr 1
   by_cases ha:a=0
   ·subst ha
    have h2:sZ (nz q) (fun b=>gg (0*b+c))=sZ (nz q) fun _=>gg c:=pj8 fun b _=>by rw[zero_mul,zero_add]
    rw[h2,bs3,ua6,if_pos rfl,Int.mul_comm (q-1),Int.mul_assoc]
   ·rw[aj0 ha,if_neg ha]
    rw[Int.neg_mul,Int.neg_mul,Int.mul_neg,Int.one_mul]
theorem wp7: ∀(s:List (El q)) (c:El q),sZ (allV q s.length) (fun z=>gg (dotL z s+c))=if s.all (fun a=>decide (a=0))then q^s.length*gg c else 0
 | [],c=>by
   have h0:sZ (allV q ([]:List (El q)).length) (fun z=>gg (dotL z []+c))=gg (0+c)+0:=rfl
   rw[h0,if_pos (show([]:List (El q)).all (fun a=>decide (a=0))=true from rfl),zero_add,List.length_nil,Int.pow_zero];omega
 |a::s,c=>by
  rw[List.length_cons,lb7,List.all_cons]
  have h1:(fun b=>sZ (allV q s.length) fun z=>gg (dotL (b::z) (a::s)+c))=fun b=>if s.all (fun a=>decide (a=0))then q^s.length*gg (a*b+c)else 0:=funext fun b=>by
   rw[←wp7 s (a*b+c)]
   refine pj8 fun z _=> ?_
   rw[dotL,FK.mul_comm b,FK.add_comm (a*b),FK.add_assoc]
  rw[h1]
  cases hs:s.all (fun a=>decide (a=0))with
  |false=>simp only[Bool.and_false];exact jr2 _
  |true=>
   simp only[Bool.and_true,if_true]
   rw[e95]
   by_cases ha:a=0
   ·subst ha
    have h2:sZ (els q) (fun b=>gg (0*b+c))=sZ (els q) fun _=>gg c:=pj8 fun b _=>by rw[zero_mul,zero_add]
    rw[h2,bs3,kq5,if_pos (by simp),Int.pow_succ,Int.mul_assoc]
   ·rw[y60 gg ha c,kk8,if_neg (by simpa using ha),Int.mul_zero]
end
section
variable {r m k:Nat}
end
end Go.Proofs.Ytoglhlonhmmieaa
namespace Go.Proofs.Ytoglhlonhmmieaa
section
variable {α:Type}
end
section
variable {r m:Nat}
end
end Go.Proofs.Ytoglhlonhmmieaa
namespace Go.Proofs.Ytoglhlonhmmieaa
open Go.Am Go.Vm Go.Alg
section
end
section
variable {l:List Nat} {c:Nat→Bool} {N:Nat}
end
section
variable {r m:Int}
end
section
variable {l:List Nat} {m:Nat}
end
section
variable {r m:Nat}
end
end Go.Proofs.Ytoglhlonhmmieaa
namespace Go.Proofs.Ytoglhlonhmmieaa
section
variable {r m:Nat}
end
end Go.Proofs.Ytoglhlonhmmieaa
namespace Go.Proofs.Ytoglhlonhmmieaa
open Go.Am Go.Vm Go.Alg
section
variable {r m:Nat}
end
section
variable {K:Type} [FK K]
theorem am7(N:Nat)(a:List K): ∀(Q:List (List K)) (k:Nat) (x:List K) (i:Nat),x.length=N→i<N→wf (prow N a Q k x) i=wf x i+sumN Q.length fun j=>wf a (k+j)*wf (nth Q j) i
 | [],k,x,i,hx,hi=>by rw[prow];show _=wf x i+sumN 0 _;rw[wr8,FK.add_zero]
 |w::Q,k,x,i,hx,hi=>by
  rw[prow,am7 N a Q (k+1) _ i (by rw[ev4];exact hx) hi,ga7 _ _ _ _ _ _ (by omega),if_pos (by omega),List.length_cons,c68,FK.add_assoc]
  congr 2
  exact rc1 fun j _=>by rw[show k+1+j=k+(j+1) by omega];rfl
end
section
variable {q:Int} [IsFld q] {k:Nat} {R:List (List (El q))}
theorem mb7(z:List (El q)){i:Nat}(hi:i<k):wf (encL k z R) i=sumN R.length fun j=>wf z j*wf (nth R j) i:=by
 unfold encL
 rw[am7 k z R 0 _ i (by simp) hi,i67 (by simpa using hi),List.getElem_replicate,zero_add]
 refine ox7 fun j _=> ?_
 rw[Nat.zero_add]
end
section
variable {q:Int} [IsFld q] {k:Nat}
theorem xq8: ∀(u v:List (El q)) {n:Nat},u.length=n→v.length=n→dotL u v=dotF n (wf u) (wf v)
 | [],[],n,h,_=>by subst h;rfl
 |a::u,b::v,n,h,h'=>by
  obtain⟨m,rfl⟩: ∃m,n=m+1:=⟨u.length,by simpa using h.symm⟩
  rw[dotL,xq8 u v (n:=m) (by simpa using h) (by simpa using h')]
  unfold dotF
  rw[c68]
  rfl
theorem qm4{α:Type}(f:α→El q)(d:α)(l:List α){j:Nat}(hj:j<l.length):wf (l.map f) j=f (l.getD j d):=by
 rw[i67 (by simpa using hj),List.getElem_map,List.getD_eq_getElem?_getD,List.getElem?_eq_getElem hj]
 rfl
theorem xm7{R:List (List (El q))}{z:List (El q)}(hz:z.length=R.length)(w:Nat→El q):dotF k (wf (encL k z R)) w=dotL z (R.map fun r=>dotF k (wf r) w):=by
 rw[xq8 z _ hz (by simp)]
 unfold dotF
 have h1:sumN k (fun i=>wf (encL k z R) i*w i)=sumN k fun i=>sumN R.length fun j=>wf z j*(wf (nth R j) i*w i):=rc1 fun i hi=>by
  rw[mb7 z hi]
  unfold sumN
  rw[←ue3]
  exact ox7 fun j _=>FK.mul_assoc _ _ _
 rw[h1]
 unfold sumN
 rw[j53]
 refine ox7 fun j hj=> ?_
 have hj:=List.mem_range.1 hj
 rw[ro9,qm4 (fun r=>sumL (List.range k) fun i=>wf r i*w i) ([]:List (El q)) R hj]
 rfl
def dx1(k:Nat)(R:List (List (El q)))(v:List (El q)):Bool:=R.all fun r=>decide (dotF k (wf r) (wf v)=0)
def cntC(k:Nat)(R:List (List (El q)))(j:Nat):Int:=(((allV q R.length).filter fun z=>decide (wtE (encL k z R)=j)).length:Int)
def cntD(k:Nat)(R:List (List (El q)))(j:Nat):Int:=(((allV q k).filter fun v=>decide (wtE v=j)&&dx1 k R v).length:Int)
theorem gt8(R:List (List (El q)))(j:Nat):sZ (allV q R.length) (fun z=>kW (encL k z R) j)=q^R.length*cntD k R j:=by
 have hq:=aw0 (q:=q)
 have hg:gg (0:El q)=q-1:=by unfold gg;rw[if_pos rfl]
 have e1:sZ (allV q R.length) (fun z=>sZ (allV q k) fun v=>if wtE v=j then gg (dotL (encL k z R) v+0)else 0)=(q-1)*sZ (allV q R.length) fun z=>kW (encL k z R) j:=by
  rw[←e95]
  refine pj8 fun z _=> ?_
  have h:=cx9 (encL k z R) j 0
  rw[b87,hg]at h
  exact h
 have e2:sZ (allV q R.length) (fun z=>sZ (allV q k) fun v=>if wtE v=j then gg (dotL (encL k z R) v+0)else 0)=(q-1)*(q^R.length*cntD k R j):=by
  rw[wp6]
  have h1:sZ (allV q k) (fun v=>sZ (allV q R.length) fun z=>if wtE v=j then gg (dotL (encL k z R) v+0)else 0)=sZ (allV q k) fun v=>if(decide (wtE v=j)&&dx1 k R v)=true then q^R.length*(q-1)else 0:=by
   refine pj8 fun v hv=> ?_
   have hvl:=cm8.1 hv
   by_cases hw:wtE v=j
   ·simp only[if_pos hw,decide_eq_true hw,Bool.true_and]
    have h2:=wp7 (R.map fun r=>dotF k (wf r) (wf v)) 0
    rw[List.length_map,hg]at h2
    have h3:sZ (allV q R.length) (fun z=>gg (dotL (encL k z R) v+0))=sZ (allV q R.length) fun z=>gg (dotL z (R.map fun r=>dotF k (wf r) (wf v))+0):=pj8 fun z hz=>by
     rw[xq8 _ v (b87 _ _) hvl,xm7 (cm8.1 hz)]
    rw[h3,h2,List.all_map]
    rfl
   ·simp only[if_neg hw,decide_eq_false hw,Bool.false_and]
    exact jr2 _
  rw[h1,aw8 (fun v=>decide (wtE v=j)&&dx1 k R v) (fun _=>q^R.length*(q-1)),bs3]
  unfold cntD
  rw[Int.mul_comm (q-1),Int.mul_comm (q^R.length) (q-1),Int.mul_comm _ ((q-1)*q^R.length),Int.mul_comm _ (q-1),Int.mul_assoc]
 rw[e1]at e2
 exact Int.eq_of_mul_eq_mul_left (by omega) e2
theorem yj1(Q:Int)(x r:Nat):kS Q x r 0=1:=by unfold kS;simp[sm,sb,sgn,m51,vk9]
theorem we2(f:Nat→Int): ∀m,sm f (m+1)=f 0+sm (fun i=>f (i+1)) m
 |0=>by simp[sm]
 |m+1=>by rw[sm,we2 f m,sm];omega
theorem za0(Q:Int)(x r k:Nat):kS Q (x+1) r (k+1)=kS Q x r (k+1)-kS Q x r k:=by
 unfold kS
 rw[we2,we2 (fun t=>sb x t*qb Q r (k+1-t))]
 have e:sm (fun i=>sb (x+1) (i+1)*qb Q r (k+1-(i+1))) (k+1)=sm (fun i=>sb x (i+1)*qb Q r (k+1-(i+1))+ -1*(sb x i*qb Q r (k-i))) (k+1):=vh6 fun t _=>by
  rw[o69,show k+1-(t+1)=k-t by omega,Int.sub_mul];omega
 rw[e,qa1,xf3]
 have h0:sb (x+1) 0=sb x 0:=by simp[sb,m51]
 rw[h0];omega
theorem b54(v:List (El q)):wtE v≤v.length:=by
 have:=p55 (vs v)
 rw[fi2]at this
 exact this
theorem ny3: ∀(u:List (El q)) (k:Nat),kW u k=kS (q-1) (wtE u) (u.length-wtE u) k
 | [],0=>by rw[kW,yj1]
 | [],k+1=>by
   rw[kW]
   show 0=kS (q-1) 0 0 (k+1)
   rw[←wp4];simp[kA]
 |a::u,0=>by rw[kW,ny3 u 0,yj1,yj1]
 |a::u,k+1=>by
  have h:=b54 u
  rw[kW,ny3 u (k+1),ny3 u k,xq7,List.length_cons]
  by_cases ha:a=0
  ·rw[if_pos ha,if_pos ha,Nat.zero_add,show u.length+1-wtE u=(u.length-wtE u)+1 by omega,iw9]
  ·rw[if_neg ha,if_neg ha,Nat.add_comm 1,show u.length+1-(wtE u+1)=u.length-wtE u by omega,za0];omega
theorem a57(hc:0≤capP q k 1){u:List (El q)}(hu:u.length=k)(j:Nat):kW u j=krN q k j (wtE u):=by
 have h1:=b54 u
 rw[(o19 aw0 (by omega) hc).1,ny3,hu]
 have:=wp4 (q-1) (wtE u) (k-wtE u) j
 rw[show wtE u+(k-wtE u)=k by omega]at this
 exact this.symm
def mdL:Nat→List (El q)→List (List (El q))
 |0,z=>[z]
 |n+1,z=>z::mdL n (yv5 z)
theorem db2(R:List (List (El q))): ∀(n:Nat) (z:List (El q)),wdL k R n z=(mdL n z).map fun z=>encL k z R
 |0,z=>rfl
 |n+1,z=>by rw[wdL,mdL,List.map_cons,db2 R n]
theorem hz9{p:Nat}: ∀(n:Nat) (z:List (El q)),Left q p n z→ ∀y∈mdL n z,y.length=z.length∧valS p (vs z)≤valS p (vs y)
 |0,z,_,y,hy=>by rw[mdL,List.mem_singleton]at hy;subst hy;exact⟨rfl,Nat.le_refl _⟩
 |n+1,z,hl,y,hy=>by
  rw[mdL]at hy
  rcases List.mem_cons.1 hy with h|h
  ·subst h;exact⟨rfl,Nat.le_refl _⟩
  ·have h1:=hz9 n _ hl.more.2 y h
   have h2:=gu8 hl
   rw[l71]at h1
   exact⟨h1.1,by omega⟩
theorem ua3{p:Nat}: ∀(n:Nat) (z:List (El q)),Left q p n z→(mdL n z).Nodup
 |0,z,_=>by rw[mdL];simp
 |n+1,z,hl=>by
  rw[mdL,List.nodup_cons]
  refine⟨fun h=> ?_,ua3 n _ hl.more.2⟩
  have h1:=(hz9 n _ hl.more.2 z h).2
  have h2:=gu8 hl
  omega
theorem do0{p:Nat}: ∀(n:Nat) (z z0:List (El q)),Left q p n z→z0.length=z.length→valS p (vs z)≤valS p (vs z0)→z0∈mdL n z
 |n,z,z0,hl,hlen,hv=>by
  by_cases he:valS p (vs z)=valS p (vs z0)
  ·have hz:z0=z:=qa5 (id6 (p:=p) (by rw[←hl.e];exact oa6 z0) (by rw[←hl.e];exact oa6 z) (by rw[fi2,fi2,hlen]) he.symm)
   rw[hz]
   cases n with
   |zero=>rw[mdL];exact List.mem_singleton.2 rfl
   |succ n=>rw[mdL];exact List.mem_cons_self
  ·cases n with
   |zero=>
    have h1:=hl.h
    have h2:=uc1 (q:=p) (l:=vs z0) (by rw[←hl.e];exact oa6 z0)
    rw[fi2,hlen]at h2
    omega
   |succ n=>
    rw[mdL]
    have h3:=gu8 hl
    exact List.mem_cons_of_mem _ (do0 n (yv5 z) z0 hl.more.2 (by rw[l71,hlen]) (by omega))
theorem qa2(R:List (List (El q))):(allW k R).Perm ((allV q R.length).map fun z=>encL k z R):=by
 have hq:=aw0 (q:=q)
 have hl:=Left.start (q:=q) (p:=q.toNat) (by omega) R.length
 unfold allW
 rw[db2]
 refine List.Perm.map _ ((List.perm_ext_iff_of_nodup (ua3 _ _ hl) (o63 _)).2 fun z=> ?_)
 constructor
 ·intro h
  exact cm8.2 (by have:=(hz9 _ _ hl z h).1;simpa using this)
 ·intro h
  have hz:=cm8.1 h
  refine do0 _ _ z hl (by simp[hz]) ?_
  have h1:=hl.h
  rw[List.length_replicate]at h1
  have h2:0<q.toNat^R.length:=Nat.pow_pos (by omega)
  omega
theorem a95(R:List (List (El q))){j:Nat}(hj:j≤k):(wgt k R).getD j 0=cntC k R j:=by
 rw[hu4 hj]
 unfold cntC
 have h:=((qa2 (k:=k) R).filter fun w=>decide (wtW (vs w)=j)).length_eq
 rw[h,List.filter_map,List.length_map]
 rfl
theorem da9{R:List (List (El q))}(hR: ∀r∈R,r.length=k)(hi:wu9 (R.map wf)){z z':List (El q)}(hz:z.length=R.length)(hz':z'.length=R.length)(h:encL k z R=encL k z' R):z=z':=by
 refine ou8 (by rw[hz,hz']) (funext fun j=> ?_)
 by_cases hj:j<R.length
 ·have h0:=hi ((List.range R.length).map fun j=>wf z j-wf z' j) (by simp) (fun i=> ?_) (wf z j-wf z' j) (List.mem_map.2 ⟨j,List.mem_range.2 hj,rfl⟩)
  ·exact sub_eq_zero.1 h0
  ·rw[nu5 (fun p:El q×(Nat→El q)=>p.1*p.2 i) (0:El q) (fun _=>(0:El q)) _ _ (by simp)]
   simp only[List.length_map,List.length_range]
   have e: ∀j,j<R.length→((List.range R.length).map fun j=>wf z j-wf z' j).getD j 0*((R.map wf).getD j fun _=>0) i=wf z j*wf (nth R j) i-wf z' j*wf (nth R j) i:=fun j hj=>by
    rw[List.getD_eq_getElem?_getD,List.getD_eq_getElem?_getD,List.getElem?_map,List.getElem?_map,List.getElem?_range hj,List.getElem?_eq_getElem hj]
    show(wf z j-wf z' j)*wf R[j] i=_
    have hn:nth R j=R[j]:=by unfold nth;rw[List.getD_eq_getElem?_getD,List.getElem?_eq_getElem hj];rfl
    rw[sub_mul,hn]
   rw[rc1 e]
   unfold sumN
   rw[b15]
   by_cases hik:i<k
   ·have h1:=mb7 (R:=R) z hik
    have h2:=mb7 (R:=R) z' hik
    unfold sumN at h1 h2
    rw[←h1,←h2,h,sub_self]
   ·rw[tx6,tx6,sub_self]
    ·intro j hj
     have hj:=List.mem_range.1 hj
     have hn:nth R j=R[j]:=by unfold nth;rw[List.getD_eq_getElem?_getD,List.getElem?_eq_getElem hj];rfl
     rw[hn,ez8 (l:=R[j]) (k:=i) (by rw[hR _ (List.getElem_mem hj)];omega),mul_zero]
    ·intro j hj
     have hj:=List.mem_range.1 hj
     have hn:nth R j=R[j]:=by unfold nth;rw[List.getD_eq_getElem?_getD,List.getElem?_eq_getElem hj];rfl
     rw[hn,ez8 (l:=R[j]) (k:=i) (by rw[hR _ (List.getElem_mem hj)];omega),mul_zero]
 ·rw[ez8 (by omega),ez8 (by omega)]
theorem xs9{l l':List (El q)}(hl:l.length=l'.length)(h: ∀i,i<l.length→wf l i=wf l' i):l=l':=ou8 hl (funext fun i=>by
 by_cases hi:i<l.length
 ·exact h i hi
 ·rw[ez8 (l:=l) (by omega),ez8 (l:=l') (by omega)])
end
section
variable {q:Int} [IsFld q] {k:Nat}
end
theorem sf1{α:Type}(p:α→Prop)(f:α→Nat): ∀(n:Nat) (a:α),f a≤n→p a→ ∃a,p a∧ ∀b,p b→f a≤f b
 |0,a,hf,ha=>⟨a,ha,fun b _=>by omega⟩
 |n+1,a,hf,ha=>by
  by_cases h: ∃b,p b∧f b<f a
  ·obtain⟨b,hb,hlt⟩:=h
   exact sf1 p f n b (by omega) hb
  ·refine⟨a,ha,fun b hb=> ?_⟩
   exact Nat.le_of_not_lt fun hlt=>h ⟨b,hb,hlt⟩
section
variable {q:Int} [IsFld q]
def comb:List (El q)→List (Nat→El q)→Nat→El q
 |a::z,r::R,i=>a*r i+comb z R i
 |_,_,_=>0
def wtP(P:List Nat)(f:Nat→El q):Nat:=(P.filter fun i=>decide (f i≠0)).length
def nzL(z:List (El q)):Prop:= ∃a∈z,a≠0
def ins0:Nat→List (El q)→List (El q)
 |0,z=>0::z
 |j+1,a::z=>a::ins0 j z
 |_+1,[]=>[0]
def del{α:Type}:Nat→List α→List α
 |0,_::R=>R
 |_,[]=>[]
 |j+1,r::R=>r::del j R
theorem ys9: ∀(j:Nat) (z:List (El q)) (R:List (Nat→El q)) (i:Nat),j<R.length→z.length+1=R.length→comb (ins0 j z) R i=comb z (del j R) i
 |_,_,[],_,h,_=>by cases h
 |0,z,r::R,i,_,_=>by rw[ins0,del,comb,zero_mul,zero_add]
 |j+1,[],r::R,i,h,h2=>by
  have h1:j+1<R.length+1:=by simpa using h
  have h3:1=R.length+1:=by simpa using h2
  omega
 |j+1,a::z,r::R,i,h,h2=>by
  rw[ins0,del,comb,comb,ys9 j z R i (by simpa using h) (by simpa using h2)]
theorem en8{α:Type}: ∀(j:Nat) (R:List α),j<R.length→(del j R).length+1=R.length
 |_,[],h=>by cases h
 |0,_::R,_=>by rw[del,List.length_cons]
 |j+1,r::R,h=>by rw[del,List.length_cons,List.length_cons,en8 j R (by simpa using h)]
theorem p93: ∀(j:Nat) (z:List (El q)),j≤z.length→(ins0 j z).length=z.length+1
 |0,z,_=>by rw[ins0,List.length_cons]
 |j+1,[],h=>by simp at h
 |j+1,a::z,h=>by rw[ins0,List.length_cons,List.length_cons,p93 j z (by simpa using h)]
theorem w58: ∀(j:Nat) (z:List (El q)),nzL z→nzL (ins0 j z)
 |0,z,⟨a,h1,h2⟩=>⟨a,List.mem_cons_of_mem _ h1,h2⟩
 |j+1,[],h=>by obtain⟨a,h,_⟩:=h;cases h
 |j+1,b::z,⟨a,h1,h2⟩=>by
  rw[ins0]
  rcases List.mem_cons.1 h1 with h|h
  ·exact⟨b,List.mem_cons_self,h▸h2⟩
  ·obtain⟨c,h3,h4⟩:=w58 j z ⟨a,h,h2⟩
   exact⟨c,List.mem_cons_of_mem _ h3,h4⟩
theorem ty1: ∀(j:Nat) (z:List (El q)),j≤z.length→(ins0 j z).getD j 0=0
 |0,z,_=>rfl
 |j+1,[],h=>by simp at h
 |j+1,a::z,h=>by rw[ins0,List.getD_cons_succ,ty1 j z (by simpa using h)]
def ik6(c:El q):List (El q)→List (El q)→List (El q)
 |a::z,b::y=>(a-c*b)::ik6 c z y
 |z,_=>z
theorem xq9(c:El q): ∀z y:List (El q),(ik6 c z y).length=z.length
 | [],_=>rfl
 |a::z,[]=>rfl
 |a::z,b::y=>by rw[ik6,List.length_cons,List.length_cons,xq9 c z y]
theorem xa4(c:El q): ∀(z y:List (El q)) (j:Nat),z.length=y.length→(ik6 c z y).getD j 0=z.getD j 0-c*y.getD j 0
 | [],[],j,_=>by
   show(0:El q)=0-c*0
   rw[mul_zero,sub_zero]
 |a::z,b::y,0,_=>rfl
 |a::z,b::y,j+1,h=>by
  rw[ik6,List.getD_cons_succ,List.getD_cons_succ,List.getD_cons_succ,xa4 c z y j (by simpa using h)]
theorem o46(a b z y:El q):(a-b)+(z-y)=(a+z)-(b+y):=by
 rw[sub_eq,sub_eq,sub_eq,tp9,FK.add_assoc a,FK.add_assoc a,FK.add_comm (-b),FK.add_assoc,FK.add_comm (-y)]
theorem wx0(c:El q): ∀(z y:List (El q)) (R:List (Nat→El q)) (i:Nat),z.length=y.length→comb (ik6 c z y) R i=comb z R i-c*comb y R i
 | [],[],R,i,_=>by
   show(0:El q)=0-c*0
   rw[mul_zero,sub_zero]
 |a::z,b::y,[],i,_=>by
  show(0:El q)=0-c*0
  rw[mul_zero,sub_zero]
 |a::z,b::y,r::R,i,h=>by
  rw[ik6,comb,comb,comb,wx0 c z y R i (by simpa using h),FK.mul_add,sub_mul,FK.mul_assoc,o46]
theorem ki0{z:List (El q)}{j:Nat}(h:z.getD j 0≠0):nzL z:=by
 by_cases hj:j<z.length
 ·refine⟨z[j],List.getElem_mem hj, ?_⟩
  rw[List.getD_eq_getElem?_getD,List.getElem?_eq_getElem hj]at h
  exact h
 ·rw[List.getD_eq_getElem?_getD,List.getElem?_eq_none (by omega)]at h
  exact absurd rfl h
theorem differ{c:El q}(hc:c≠0)(x:El q):sZ (els q) (fun a=>if x-a*c=0 then 0 else 1)=q-1:=by
 have h:=y60 (fun b:El q=>if b=0 then(0:Int)else 1) hc (-x)
 have h1:(fun a:El q=>if x-a*c=0 then(0:Int)else 1)=fun a=>if c*a+ -x=0 then 0 else 1:=funext fun a=>by
  have:(x-a*c=0)↔(c*a+ -x=0):=by
   rw[FK.mul_comm a,←sub_eq,sub_eq_zero,sub_eq_zero]
   exact eq_comm
  by_cases h2:x-a*c=0
  ·rw[if_pos h2,if_pos (this.1 h2)]
  ·rw[if_neg h2,if_neg fun e=>h2 (this.2 e)]
 rw[h1,h,n45,if_pos rfl]
 have h2:sZ (nz q) (fun b:El q=>if b=0 then(0:Int)else 1)=sZ (nz q) fun _=>1:=pj8 fun b hb=>by rw[if_neg (bk1 hb)]
 rw[h2,bs3,ua6];omega
theorem g99(f:Nat→El q): ∀P:List Nat,(wtP P f:Int)=sZ P fun i=>if f i=0 then 0 else 1
 | []=>rfl
 |i::P=>by
  unfold wtP
  rw[List.filter_cons,sZ,←g99 f P]
  unfold wtP
  by_cases h:f i=0
  ·rw[if_pos h,if_neg (by simpa using h)];omega
  ·rw[if_neg h,if_pos (by simpa using h),List.length_cons];omega
theorem ls0{α:Type}(p:α→Bool)(f:α→Int): ∀l:List α,sZ l f=sZ (l.filter p) f+sZ (l.filter fun a=> !p a) f
 | []=>rfl
 |a::l=>by
  rw[sZ,ls0 p f l,List.filter_cons,List.filter_cons]
  cases p a<;>simp[sZ]<;>omega
theorem ri1{P:List Nat}{x c:Nat→El q}{d:Nat}(hc:wtP P c=d)(h: ∀a:El q,d≤wtP P fun i=>x i-a*c i):(d:Int)≤q*wtP (P.filter fun i=>decide (c i=0)) x:=by
 have hsw:sZ (els q) (fun a=>(wtP P (fun i=>x i-a*c i):Int))=sZ P fun i=>sZ (els q) fun a=>if x i-a*c i=0 then 0 else 1:=by
  have:(fun a:El q=>(wtP P (fun i=>x i-a*c i):Int))=fun a=>sZ P fun i=>if x i-a*c i=0 then 0 else 1:=funext fun a=>g99 _ P
  rw[this,wp6]
 have hge:q*(d:Int)≤sZ (els q) (fun a=>(wtP P (fun i=>x i-a*c i):Int)):=by
  have:=tf8 (l:=els q) (f:=fun _=>(d:Int)) (g:=fun a=>(wtP P (fun i=>x i-a*c i):Int)) fun a _=>by have:=h a;omega
  rwa [bs3,kq5]at this
 rw[hsw,ls0 (fun i=>decide (c i=0))]at hge
 have h0:sZ (P.filter fun i=>decide (c i=0)) (fun i=>sZ (els q) fun a=>if x i-a*c i=0 then(0:Int)else 1)=q*wtP (P.filter fun i=>decide (c i=0)) x:=by
  rw[g99,←e95]
  refine pj8 fun i hi=> ?_
  have hci:c i=0:=of_decide_eq_true (List.mem_filter.1 hi).2
  rw[hci]
  simp only[mul_zero,sub_zero]
  rw[bs3,kq5]
 have h1:sZ (P.filter fun i=> !decide (c i=0)) (fun i=>sZ (els q) fun a=>if x i-a*c i=0 then(0:Int)else 1)=(q-1)*d:=by
  have e:sZ (P.filter fun i=> !decide (c i=0)) (fun i=>sZ (els q) fun a=>if x i-a*c i=0 then(0:Int)else 1)=sZ (P.filter fun i=> !decide (c i=0)) fun _=>q-1:=pj8 fun i hi=>by
   have hci:c i≠0:=by simpa using(List.mem_filter.1 hi).2
   exact differ hci (x i)
  rw[e,bs3]
  have:(P.filter fun i=> !decide (c i=0)).length=d:=by
   rw[←hc];unfold wtP
   congr 2
   funext i
   simp
  rw[this,Int.mul_comm]
 rw[h0,h1,Int.sub_mul,Int.one_mul]at hge
 omega
def grN(q:Int):Nat→Int→Int
 |0,_=>0
 |m+1,d=>d+grN q m ((d+q-1)/q)
theorem rr2: ∀(m:Nat) {d d':Int},d≤d'→grN q m d≤grN q m d'
 |0,_,_,_=>Int.le_refl _
 |m+1,d,d',h=>by
  have hq:=aw0 (q:=q)
  have:=rr2 m (Int.ediv_le_ediv (a:=d+q-1) (b:=d'+q-1) (c:=q) (by omega) (by omega))
  rw[grN,grN];omega
theorem bw3{α:Type}(p:α→Bool): ∀l:List α,(l.filter p).length+(l.filter fun a=> !p a).length=l.length
 | []=>rfl
 |a::l=>by
  have:=bw3 p l
  rw[List.filter_cons,List.filter_cons]
  cases p a<;>simp<;>omega
theorem m65: ∀(m:Nat) (R:List (Nat→El q)) (P:List Nat) (d:Nat),R.length=m→(∀z:List (El q),z.length=m→nzL z→d≤wtP P (comb z R))→grN q m d≤P.length
 |0,R,P,d,_,_=>by rw[grN];omega
 |m+1,R,P,d,hR,h=>by
  have hq:=aw0 (q:=q)
  obtain⟨z0,⟨hz0,hn0⟩,hmin⟩:=sf1 (fun z:List (El q)=>z.length=m+1∧nzL z) (fun z=>wtP P (comb z R)) (wtP P (comb ((1:El q)::List.replicate m 0) R)) ((1:El q)::List.replicate m 0) (Nat.le_refl _) ⟨by simp,⟨1,List.mem_cons_self,ki7⟩⟩
  obtain⟨b,hb,hb0⟩:=hn0
  obtain⟨j,hj,rfl⟩:=List.mem_iff_getElem.1 hb
  have hgj:z0.getD j 0=z0[j]:=by rw[List.getD_eq_getElem?_getD,List.getElem?_eq_getElem hj];rfl
  have hd:=h z0 hz0 ⟨z0[j],hb,hb0⟩
  obtain⟨D,hD⟩: ∃D,D=wtP P (comb z0 R):=⟨_,rfl⟩
  have hdel:=en8 j R (by omega)
  have ih:=m65 m (del j R) (P.filter fun i=>decide (comb z0 R i=0)) (((D:Int)+q-1)/q).toNat (by omega) fun z hz hzn=>by
   have hins:=p93 j z (by omega)
   have hres:=ri1 (P:=P) (x:=comb (ins0 j z) R) (c:=comb z0 R) hD.symm fun a=>by
    have hl:(ik6 a (ins0 j z) z0).length=m+1:=by rw[xq9,hins];omega
    have hnz:nzL (ik6 a (ins0 j z) z0):=by
     by_cases ha:a=0
     ·obtain⟨e,he,he0⟩:=w58 j z hzn
      obtain⟨t,ht,rfl⟩:=List.mem_iff_getElem.1 he
      refine ki0 (j:=t) ?_
      rw[xa4 a _ _ t (by omega),ha,zero_mul,sub_zero,List.getD_eq_getElem?_getD,List.getElem?_eq_getElem ht]
      exact he0
     ·refine ki0 (j:=j) ?_
      rw[xa4 a _ _ j (by omega),ty1 j z (by omega),zero_sub,hgj]
      exact fun e=>hl5 ha hb0 (neg_eq_zero.1 e)
    have h1:=hmin _ ⟨hl,hnz⟩
    have h2:comb (ik6 a (ins0 j z) z0) R=fun i=>comb (ins0 j z) R i-a*comb z0 R i:=funext fun i=>wx0 a _ _ R i (by omega)
    rw[h2]at h1
    rw[hD];exact h1
   have hc:comb (ins0 j z) R=comb z (del j R):=funext fun i=>ys9 j z R i (by omega) (by omega)
   rw[hc]at hres
   have h3:((D:Int)+q-1)/q≤(wtP (P.filter fun i=>decide (comb z0 R i=0)) (comb z (del j R)):Int):=by
    have:((D:Int)+q-1)/q<(wtP (P.filter fun i=>decide (comb z0 R i=0)) (comb z (del j R)):Int)+1:=by
     refine Int.ediv_lt_of_lt_mul (by omega) ?_
     rw[Int.add_mul,Int.one_mul,Int.mul_comm _ q];omega
    omega
   omega
  have hpos:0≤((D:Int)+q-1)/q:=Int.ediv_nonneg (by omega) (by omega)
  rw[show(((((D:Int)+q-1)/q).toNat:Nat):Int)=((D:Int)+q-1)/q by omega]at ih
  have hparts:=bw3 (fun i=>decide (comb z0 R i=0)) P
  have hS:(P.filter fun i=> !decide (comb z0 R i=0)).length=D:=by
   rw[hD];unfold wtP
   congr 2
   funext i
   simp
  have hm:=rr2 (q:=q) (m+1) (show(d:Int)≤(D:Int) by omega)
  rw[grN,grN]at hm
  rw[grN]
  omega
theorem e88: ∀(m:Nat) {d:Int},1≤d→d+(m:Int)≤grN q (m+1) d
 |0,d,_=>by rw[grN,grN];omega
 |m+1,d,h=>by
  have hq:=aw0 (q:=q)
  have h1:1≤(d+q-1)/q:=by
   have:q*1≤d+q-1:=by omega
   exact Int.le_ediv_of_mul_le (by omega) (by omega)
  have:=e88 m h1
  rw[grN];omega
end
section
variable {q:Int} [IsFld q] {k:Nat}
theorem ts3: ∀{v c:List (El q)},v.length=c.length→ik6 1 (ik6 (-1) v c) c=v∧ik6 (-1) (ik6 1 v c) c=v
 | [],[],_=>⟨rfl,rfl⟩
 |a::v,b::c,h=>by
  obtain⟨h1,h2⟩:=ts3 (v:=v) (c:=c) (by simpa using h)
  rw[ik6,ik6,ik6,ik6,h1,h2]
  have e1:(-1:El q)*b= -b:=by rw[neg_mul,one_mul]
  rw[e1,one_mul,sub_eq,sub_eq,sub_eq,sub_eq,neg_neg,FK.add_assoc,FK.add_assoc,FK.add_comm (-b) b,←sub_eq,sub_self,FK.add_comm a,zero_add]
  exact⟨rfl,rfl⟩
theorem wx3(c:El q){z y:List (El q)}(h:z.length=y.length):(ik6 c z y).length=z.length:=by
 rw[xq9 c z y]
theorem bi3(n:Nat){c:List (El q)}(hc:c.length=n)(F:List (El q)→Int):sZ (allV q n) (fun v=>F (ik6 1 v c))=sZ (allV q n) F:=by
 have hp:((allV q n).map fun v=>ik6 1 v c).Perm (allV q n):=by
  refine(List.perm_ext_iff_of_nodup ?_ (o63 n)).2 fun v=> ?_
  ·refine List.Pairwise.map _ (fun a b h=>h) (List.Pairwise.imp_of_mem (R:=fun a b=>a≠b) ?_ (o63 n))
   intro a b ha hb hab e
   have ha:=cm8.1 ha
   have hb:=cm8.1 hb
   exact hab (by rw[←(ts3 (v:=a) (c:=c) (by omega)).2,e,(ts3 (v:=b) (c:=c) (by omega)).2])
  ·rw[List.mem_map,cm8]
   constructor
   ·rintro⟨w,hw,rfl⟩
    have hw:=cm8.1 hw
    rw[wx3 1 (by omega),hw]
   ·intro hv
    exact⟨ik6 (-1) v c,cm8.2 (by rw[wx3 _ (by omega),hv]),(ts3 (by omega)).1⟩
 rw[←p04 (fun v=>ik6 1 v c) F,pk2 hp]
theorem pe9: ∀{v a b:List (El q)},v.length=a.length→v.length=b.length→wtE (ik6 1 a b)≤wtE (ik6 1 v a)+wtE (ik6 1 v b)
 | [],[],[],_,_=>Nat.zero_le _
 |x::v,a::u,b::w,h1,h2=>by
  have ih:=pe9 (v:=v) (a:=u) (b:=w) (by simpa using h1) (by simpa using h2)
  rw[ik6,ik6,ik6,xq7,xq7,xq7,one_mul,one_mul]
  by_cases e1:x-a=0
  ·by_cases e2:x-b=0
   ·have:a-b=0:=by rw[←sub_eq_zero.1 e1,sub_eq_zero.1 e2,sub_self]
    rw[if_pos this];omega
   ·rw[if_neg e2];split<;>omega
  ·rw[if_neg e1];split<;>omega
theorem r32{z y:List (El q)}(h:z.length=y.length)(j:Nat):wf (ik6 1 z y) j=wf z j-wf y j:=by
 unfold wf
 rw[xa4 1 z y j h,one_mul]
theorem c79{R:List (List (El q))}(hR: ∀r∈R,r.length=k){z y:List (El q)}(h:z.length=y.length):encL k (ik6 1 z y) R=ik6 1 (encL k z R) (encL k y R):=by
 refine xs9 (by rw[wx3 1 (by rw[b87,b87]),b87,b87]) fun i hi=> ?_
 rw[b87]at hi
 rw[r32 (by rw[b87,b87]),mb7 _ hi,mb7 _ hi,mb7 _ hi]
 unfold sumN
 rw[←b15]
 refine ox7 fun j _=> ?_
 rw[r32 h,sub_mul]
theorem gi2: ∀{z y:List (El q)},z.length=y.length→z≠y→nzL (ik6 1 z y)
 | [],[],_,h=>absurd rfl h
 |a::z,b::y,hl,h=>by
  rw[ik6,one_mul]
  by_cases e:a-b=0
  ·have hab:=sub_eq_zero.1 e
   obtain⟨x,hx,h0⟩:=gi2 (z:=z) (y:=y) (by simpa using hl) (fun e2=>h (by rw[hab,e2]))
   exact⟨x,List.mem_cons_of_mem _ hx,h0⟩
  ·exact⟨_,List.mem_cons_self,e⟩
theorem kt9:gg (0:El q)=q-1:=if_pos rfl
theorem if4: ∀(n j:Nat),kW (List.replicate n (0:El q)) j=qb (q-1) n j
 |0,0=>by rw[vk9];rfl
 |0,j+1=>by
  show(0:Int)=_
  unfold qb
  rw[bin];simp
 |n+1,0=>by
  rw[List.replicate_succ,kW,if4 n 0,vk9,vk9]
 |n+1,j+1=>by rw[List.replicate_succ,kW,if4 n (j+1),if4 n j,if_pos rfl,ak5]
theorem fx8: ∀(v:List (El q)) (n:Nat),dotL (List.replicate n (0:El q)) v=0
 | [],0=>rfl
 | [],n+1=>rfl
 |a::v,0=>rfl
 |a::v,n+1=>by rw[List.replicate_succ,dotL,zero_mul,zero_add,fx8 v n]
theorem oc4(n j:Nat):sZ (allV q n) (fun v=>if wtE v=j then 1 else 0)=qb (q-1) n j:=by
 have hq:=aw0 (q:=q)
 have h:=cx9 (List.replicate n (0:El q)) j 0
 rw[List.length_replicate,if4,kt9]at h
 have h2:sZ (allV q n) (fun v=>if wtE v=j then gg (dotL (List.replicate n (0:El q)) v+0)else 0)=sZ (allV q n) fun v=>(q-1)*if wtE v=j then 1 else 0:=pj8 fun v _=>by
  rw[fx8,zero_add,kt9]
  split<;>simp
 rw[h2,e95]at h
 exact Int.eq_of_mul_eq_mul_left (by omega) h
theorem hc4(n:Nat): ∀t:Nat,sZ (allV q n) (fun v=>if wtE v≤t then 1 else 0)=sm (qb (q-1) n) (t+1)
 |0=>by
  rw[sm,sm,←oc4 n 0,Int.zero_add]
  exact pj8 fun v _=>by
   by_cases h:wtE v=0
   ·rw[if_pos h,if_pos (by omega)]
   ·rw[if_neg h,if_neg (by omega)]
 |t+1=>by
  rw[sm,←hc4 n t,←oc4 n (t+1),←kf2]
  exact pj8 fun v _=>by
   by_cases h:wtE v≤t
   ·rw[if_pos h,if_pos (by omega),if_neg (by omega)];rfl
   ·by_cases h2:wtE v=t+1
    ·rw[if_neg h,if_pos (by omega),if_pos h2];rfl
    ·rw[if_neg h,if_neg (by omega),if_neg h2];rfl
theorem zf8{α:Type}{l:List α}(hn:l.Nodup)(h: ∀a∈l,∀b∈l,a=b):l.length≤1:=by
 match l,hn,h with
 | [],_,_=>simp
 | [a],_,_=>simp
 |a::b::l,hn,h=>
  rw[List.nodup_cons]at hn
  exact absurd (by rw[h a (by simp) b (by simp)];simp) hn.1
theorem zi9{R:List (List (El q))}(hR: ∀r∈R,r.length=k){d t:Nat}(ht:2*t<d)(hd: ∀z:List (El q),z.length=R.length→nzL z→d≤wtE (encL k z R)):q^R.length*sm (qb (q-1) k) (t+1)≤q^k:=by
 have e1:sZ (allV q R.length) (fun z=>sZ (allV q k) fun v=>if wtE (ik6 1 v (encL k z R))≤t then 1 else 0)=q^R.length*sm (qb (q-1) k) (t+1):=by
  rw[←s37,←hc4 k t,←bs3]
  exact pj8 fun z _=>bi3 k (b87 z R) fun v=>if wtE v≤t then 1 else 0
 rw[←e1,wp6]
 have e2:(q^k:Int)=sZ (allV q k) fun _=>1:=by rw[bs3,s37,Int.mul_one]
 rw[e2]
 refine tf8 fun v hv=> ?_
 have hv:=cm8.1 hv
 have h1:=pz0 (fun z=>decide (wtE (ik6 1 v (encL k z R))≤t)) (allV q R.length)
 simp only[decide_eq_true_eq]at h1
 rw[h1]
 have h2:=zf8 (List.Pairwise.filter (fun z=>decide (wtE (ik6 1 v (encL k z R))≤t)) (o63 (q:=q) R.length)) fun a ha b hb=>by
  obtain⟨ha1,ha2⟩:=List.mem_filter.1 ha
  obtain⟨hb1,hb2⟩:=List.mem_filter.1 hb
  have ha1:=cm8.1 ha1
  have hb1:=cm8.1 hb1
  have ha2:=of_decide_eq_true ha2
  have hb2:=of_decide_eq_true hb2
  refine Classical.byContradiction fun hab=> ?_
  have h3:=hd _ (by rw[wx3 1 (by omega),ha1]) (gi2 (z:=a) (y:=b) (by omega) hab)
  rw[c79 hR (by omega)]at h3
  have h4:=pe9 (v:=v) (a:=encL k a R) (b:=encL k b R) (by rw[b87,hv]) (by rw[b87,hv])
  omega
 omega
end
section
variable {q:Int} [IsFld q] {k:Nat}
theorem kW_0: ∀u:List (El q),kW u 0=1
 | []=>rfl
 |a::u=>by rw[kW,kW_0 u]
theorem kW_1: ∀u:List (El q),kW u 1=(q-1)*u.length-q*wtE u
 | []=>by
   show(0:Int)=(q-1)*((0:Nat):Int)-q*((0:Nat):Int)
   simp
 |a::u=>by
  rw[kW,kW_1 u,kW_0,xq7,List.length_cons]
  by_cases h:a=0
  ·rw[if_pos h,if_pos h,Nat.zero_add,Int.natCast_add,Int.mul_add]
   simp
   omega
  ·rw[if_neg h,if_neg h,Int.natCast_add,Int.natCast_add,Int.mul_add,Int.mul_add]
   simp
   omega
theorem hh1(z:List (El q)):z=List.replicate z.length 0∨nzL z:=by
 induction z with
 |nil=>exact .inl rfl
 |cons a z ih=>
  by_cases ha:a=0
  ·rcases ih with h|⟨x,hx,h0⟩
   ·left
    rw[List.length_cons,List.replicate_succ,←h,ha]
   ·exact .inr ⟨x,List.mem_cons_of_mem _ hx,h0⟩
  ·exact .inr ⟨a,List.mem_cons_self,ha⟩
theorem mp9(r:Nat)(c:Int):sZ (allV q r) (fun z=>if z=List.replicate r (0:El q)then c else 0)=c:=by
 have h1:=aw8 (fun z=>decide (z=List.replicate r (0:El q))) (fun _=>c) (allV q r)
 simp only[decide_eq_true_eq]at h1
 rw[h1,bs3]
 have h2:=zf8 (List.Pairwise.filter (fun z=>decide (z=List.replicate r (0:El q))) (o63 (q:=q) r)) fun a ha b hb=>by
  rw[of_decide_eq_true (List.mem_filter.1 ha).2,of_decide_eq_true (List.mem_filter.1 hb).2]
 have h3:List.replicate r (0:El q)∈(allV q r).filter fun z=>decide (z=List.replicate r (0:El q)):=List.mem_filter.2 ⟨cm8.2 (by simp),by simp⟩
 have h4:=List.length_pos_of_mem h3
 rw[show((allV q r).filter fun z=>decide (z=List.replicate r (0:El q))).length=1 by omega]
 simp
theorem de0{R:List (List (El q))}:encL k (List.replicate R.length 0) R=List.replicate k (0:El q):=by
 refine xs9 (by rw[b87];simp) fun i hi=> ?_
 rw[b87]at hi
 rw[mb7 _ hi,i67 (by simpa using hi),List.getElem_replicate]
 unfold sumN
 refine tx6 fun j hj=> ?_
 have hj:=List.mem_range.1 hj
 rw[i67 (by simpa using hj),List.getElem_replicate,zero_mul]
theorem ax4{R:List (List (El q))}{G:List (El q)→Int}{A e:Int}(h0:G (List.replicate k 0)=A+e)(h1: ∀z:List (El q),z.length=R.length→nzL z→G (encL k z R)≤e):sZ (allV q R.length) (fun z=>G (encL k z R))≤A+q^R.length*e:=by
 have h2:sZ (allV q R.length) (fun z=>G (encL k z R))≤sZ (allV q R.length) fun z=>(if z=List.replicate R.length (0:El q)then A else 0)+e:=by
  refine tf8 fun z hz=> ?_
  have hz:=cm8.1 hz
  rcases hh1 z with h|h
  ·rw[hz]at h
   rw[if_pos h,h,de0,h0]
   omega
  ·have:=h1 z hz h
   by_cases hc:z=List.replicate R.length (0:El q)
   ·exfalso
    obtain⟨x,hx,hx0⟩:=h
    rw[hc]at hx
    exact hx0 (List.eq_of_mem_replicate hx)
   ·rw[if_neg hc];omega
 rw[kf2,mp9,bs3,s37]at h2
 exact h2
theorem sh0{R:List (List (El q))}{d:Nat}(hd: ∀z:List (El q),z.length=R.length→nzL z→d≤wtE (encL k z R)):q^R.length*(q*d-k*(q-1))≤q*d:=by
 have hq:=aw0 (q:=q)
 have h1:=gt8 (k:=k) R 1
 have h2:=ax4 (k:=k) (R:=R) (G:=fun u=>kW u 1) (A:=q*d) (e:=(q-1)*k-q*d) (by
  show kW (List.replicate k (0:El q)) 1=_
  rw[if4]
  have h:=kW_1 (List.replicate k (0:El q))
  rw[if4,List.length_replicate]at h
  have hw:wtE (List.replicate k (0:El q))=0:=by
   have: ∀n,wtE (List.replicate n (0:El q))=0:=fun n=>by
    induction n with
    |zero=>rfl
    |succ n ih=>rw[List.replicate_succ,xq7,if_pos rfl,ih]
   exact this k
  rw[hw]at h
  rw[h]
  simp
  omega) fun z hz hn=>by
  show kW (encL k z R) 1≤_
  rw[kW_1,b87]
  have:=hd z hz hn
  have:=Int.mul_le_mul_of_nonneg_left (show(d:Int)≤(wtE (encL k z R):Int) by omega) (show(0:Int)≤q by omega)
  omega
 rw[h1]at h2
 have h3:(0:Int)≤q^R.length*cntD k R 1:=Int.mul_nonneg (Int.le_of_lt (Int.pow_pos (by omega))) (by unfold cntD;omega)
 have h4:q^R.length*((q-1)*k-q*d)= -(q^R.length*(q*d-k*(q-1))):=by
  rw[←Int.mul_neg,Int.mul_comm (q-1)]
  congr 1
  omega
 omega
theorem fh7(R:List (List (El q))):1≤cntD k R 0:=by
 unfold cntD
 have h:List.replicate k (0:El q)∈(allV q k).filter fun v=>decide (wtE v=0)&&dx1 k R v:=by
  refine List.mem_filter.2 ⟨cm8.2 (by simp), ?_⟩
  have hw: ∀n,wtE (List.replicate n (0:El q))=0:=fun n=>by
   induction n with
   |zero=>rfl
   |succ n ih=>rw[List.replicate_succ,xq7,if_pos rfl,ih]
  rw[decide_eq_true (hw k),Bool.true_and]
  unfold dx1
  rw[List.all_eq_true]
  intro r hr
  refine decide_eq_true ?_
  unfold dotF sumN
  refine tx6 fun j hj=> ?_
  have hj:=List.mem_range.1 hj
  rw[i67 (l:=List.replicate k (0:El q)) (by simpa using hj),List.getElem_replicate,mul_zero]
 have:=List.length_pos_of_mem h
 omega
theorem co2{α:Type}(l:List α)(g:α→Nat→Int): ∀n,sZ l (fun a=>sm (g a) n)=sm (fun j=>sZ l fun a=>g a j) n
 |0=>by
  show sZ l (fun _=>0)=0
  exact jr2 l
 |n+1=>by
  show sZ l (fun a=>sm (g a) n+g a n)=_
  rw[kf2,co2 l g n]
  rfl
theorem ms4{f:Nat→Int}{A:Int}(h0:A≤f 0)(h: ∀j,0≤f j): ∀n,A≤sm f (n+1)
 |0=>by rw[sm,sm];omega
 |n+1=>by
  have:=ms4 h0 h n
  have:=h (n+1)
  rw[sm];omega
theorem b84{R:List (List (El q))}{d:Nat}(hd: ∀z:List (El q),z.length=R.length→nzL z→d≤wtE (encL k z R)){f:Nat→Int}{N:Nat}(hf: ∀j,0≤f j)(hF: ∀u:List (El q),u.length=k→d≤wtE u→sm (fun j=>f j*kW u j) (N+1)≤0):q^R.length*f 0≤sm (fun j=>f j*kW (List.replicate k (0:El q)) j) (N+1):=by
 have hq:=aw0 (q:=q)
 have h2:=ax4 (k:=k) (R:=R) (G:=fun u=>sm (fun j=>f j*kW u j) (N+1)) (A:=sm (fun j=>f j*kW (List.replicate k (0:El q)) j) (N+1)) (e:=0) (by simp) fun z hz hn=>hF _ (b87 _ _) (hd z hz hn)
 rw[Int.mul_zero,Int.add_zero,co2]at h2
 refine Int.le_trans (ms4 ?_ (fun j=> ?_) N) h2
 ·rw[e95,gt8]
  have h3:=fh7 (k:=k) R
  have h4:=Int.mul_le_mul_of_nonneg_left h3 (Int.le_of_lt (show(0:Int)<q^R.length from Int.pow_pos (by omega)))
  have h5:=Int.mul_le_mul_of_nonneg_left h4 (hf 0)
  rw[Int.mul_one]at h5
  rw[Int.mul_comm]
  exact h5
 ·rw[e95,gt8]
  exact Int.mul_nonneg (hf j) (Int.mul_nonneg (Int.le_of_lt (Int.pow_pos (by omega))) (by unfold cntD;omega))
end
theorem b45{Q:Int}(hQ:0≤Q)(n i:Nat):0≤qb Q n i:=by
 unfold qb;exact Int.mul_nonneg (by omega) (Int.pow_nonneg hQ)
theorem lm3(f:Nat→Int): ∀m,sm f (m+1)=f 0+sm (fun i=>f (i+1)) m
 |0=>by simp[sm]
 |m+1=>by rw[sm,lm3 f m,sm];omega
theorem sa3{Q:Int}(hQ:0≤Q): ∀n m,sm (qb Q n) m≤(Q+1)^n
 |0,m=>by
  cases m with
  |zero=>simp[sm]
  |succ m=>
   rw[lm3,eb2 fun t ht=>by unfold qb;simp[bin],vk9];simp
 |n+1,m=>by
  have hp:0≤(Q+1)^n:=Int.pow_nonneg (by omega)
  cases m with
  |zero=>rw[sm];exact Int.pow_nonneg (by omega)
  |succ m=>
   have h1:=sa3 hQ n (m+1)
   have h2:=sa3 hQ n m
   have h3:=Int.mul_le_mul_of_nonneg_left h2 hQ
   have e:sm (fun i=>qb Q (n+1) (i+1)) m=sm (fun i=>qb Q n (i+1)) m+Q*sm (qb Q n) m:=by
    rw[←xf3,←qa1]
    exact vh6 fun t _=>ak5 Q n t
   rw[lm3,vk9]at h1⊢
   rw[e,Int.pow_succ,Int.mul_add,Int.mul_one]
   have:(Q+1)^n*Q=Q*(Q+1)^n:=Int.mul_comm _ _
   omega
theorem wi3{f:Nat→Int}(hf: ∀i,0≤f i){a b:Nat}(h:a≤b):sm f a≤sm f b:=by
 induction b with
 |zero=>rw[show a=0 by omega];exact Int.le_refl _
 |succ b ih=>
  by_cases hab:a=b+1
  ·rw[hab];exact Int.le_refl _
  ·have:=ih (by omega);have:=hf b;rw[sm];omega
theorem kt7{Q:Int}(hQ:0≤Q)(n i:Nat):qb Q n i≤(Q+1)^n:=by
 have h1:=sa3 hQ n (i+1)
 have h2:=wi3 (b45 hQ n) (Nat.zero_le i)
 rw[sm]at h1
 rw[show sm (qb Q n) 0=0 from rfl]at h2
 omega
def hv3(q:Int)(n r:Nat):Int:=sm (qb (q-1) n) (r+1)
theorem kf4{q:Int}(h2:2≤q){n:Nat}(hc:0≤capP q n 1):capP q n 1=q^n∧q^n≤1073741824:=by
 have:=du1 h2 n 1 (by omega) (by omega) hc
 rwa [Int.one_mul]at this
theorem c14{q:Int}(h2:2≤q){n:Nat}(hc:0≤capP q n 1)(r:Nat):1≤hv3 q n r∧hv3 q n r≤1073741824:=by
 obtain⟨_,h⟩:=kf4 h2 hc
 have h1:=sa3 (Q:=q-1) (by omega) n (r+1)
 rw[show q-1+1=q by omega]at h1
 have h3:=wi3 (b45 (Q:=q-1) (by omega) n) (show 1≤r+1 by omega)
 rw[show sm (qb (q-1) n) 1=0+qb (q-1) n 0 from rfl,vk9]at h3
 unfold hv3
 omega
theorem js4{q:Int}(h2:2≤q){n i:Nat}(hc:0≤capP q n 1){j:Nat}(hj:j≤i):0≤((bin n i:Nat):Int)*(q-1)^j∧((bin n i:Nat):Int)*(q-1)^j≤1073741824:=by
 obtain⟨_,h⟩:=kf4 h2 hc
 have h1:=kt7 (Q:=q-1) (by omega) n i
 rw[show q-1+1=q by omega]at h1
 have hp:0≤(q-1)^j:=Int.pow_nonneg (by omega)
 obtain⟨d,rfl⟩: ∃d,i=j+d:=⟨i-j,by omega⟩
 have hd:1≤(q-1)^d:=Int.pow_pos (by omega)
 have h3:(q-1)^j*1≤(q-1)^j*(q-1)^d:=Int.mul_le_mul_of_nonneg_left hd hp
 have h4:=Int.mul_le_mul_of_nonneg_left h3 (show 0≤((bin n (j+d):Nat):Int) by omega)
 unfold qb at h1
 rw[Int.pow_add]at h1
 refine⟨Int.mul_nonneg (by omega) hp, ?_⟩
 rw[Int.mul_one]at h4
 omega
section
variable {q:Int} {n:Nat}
theorem ft0{k:Int}(h2:2≤q)(h64:q≤64)(k0:0≤k)(k1:k≤9223372036854775807):o24 W 52 [.x (.int .i64 q), .x (.int .i64 k)] []=some (.x (.int .i64 (capP q k.toNat 1)),[],[]):=
 xb1 (l:=[q,k]) (by unfold gPow;simp only[];rw[if_pos ⟨h2,h64,k0,k1⟩])
theorem ww1{k:Int}(h2:2≤q)(h64:q≤64)(k0:0≤k)(k1:k≤9223372036854775807):o24 W 13 [.x (.int .i64 q), .x (.int .i64 k)] []=some (.x (.int .i64 (capP q k.toNat 1)),[],[]):=
 jo9 (l:=[q,k]) (by unfold gPow;simp only[];rw[if_pos ⟨h2,h64,k0,k1⟩])
theorem ft1{k x:Nat}(h2:2≤q)(h64:q≤64)(hn:n≤30)(hk:k≤n)(hx:x≤n):o24 W 91 [.x (.int .i64 q), .x (.int .i64 n), .x (.int .i64 k), .x (.int .i64 x)] []=some (.x (.int .i64 (krN q n k x)),[],[]):=
 k09 (l:=[q,n,k,x]) (by unfold e39;simp only[];rw[if_pos ⟨h2,h64,by omega,by omega,by omega,by omega,by omega,by omega⟩];rfl)
theorem xa8{k:Int}(hk:k≤9223372036854775807):o24 W 51 [.x (.int .i64 q), .x (.int .i64 k)] []=some (.x (.int .i64 (cntE q k)),[],[]):=
 cw7 (l:=[q,k]) (by unfold gCnt;simp only[];rw[if_pos hk])
theorem s57{k:Nat}(hn:n≤30)(hk:k≤1000):o24 W 99 [.x (.int .i64 n), .x (.int .i64 k)] []=some (.x (.int .i64 (bin n k:Nat)),[],[]):=
 da0 (l:=[n,k]) (by unfold gCho;simp only[];rw[if_pos ⟨by omega,by omega,by omega,by omega⟩];rfl)
theorem s66(h2:2≤q)(h64:q≤64)(hc:0≤capP q n 1){i:Nat}(hi:i≤100){r:Int}{s:Int}: ∀(c j:Nat),j+c=i→ ∀ks,
 vgoL W ⟨hNo,[.tmp 6],0⟩ [0,1,2,7,8,9,18,19] c57L0 (.blk 2 [0,1,2,7,8,9]::ks) [(0, .x (.int .i64 q)),(1, .x (.int .i64 n)),(2, .x (.int .i64 r)),(7, .x (.int .i64 s)),(8, .x (.int .i64 i)),(9, .x (.int .i64 (((bin n i:Nat):Int)*(q-1)^j))),(18, .x (.int .i64 i)),(19, .x (.int .i64 j))] []=
  vgo W ⟨hNo,[.tmp 6],0⟩ ks (VFr.of [(0, .x (.int .i64 q)),(1, .x (.int .i64 n)),(2, .x (.int .i64 r)),(7, .x (.int .i64 s)),(8, .x (.int .i64 i)),(9, .x (.int .i64 (qb (q-1) n i)))]) []
 |0,j,hj,ks=>by
  obtain rfl:j=i:=by omega
  unfold qb
  rw[sb5 c57L0.eq_def]
  simp(disch:=first|omega|fail) only[push_cast,seval,vrl,if_pos,if_neg]
 |c+1,j,hj,ks=>by
  have ih:=s66 h2 h64 hc hi (r:=r) (s:=s) c (j+1) (by omega) ks
  have p1:=js4 h2 hc (n:=n) (i:=i) (j:=j+1) (by omega)
  have e1:((bin n i:Nat):Int)*(q-1)^(j+1)=((bin n i:Nat):Int)*(q-1)^j*(q-1):=by rw[Int.pow_succ,Int.mul_assoc]
  have w0:IntKind.wrap .i64 (q-1)=q-1:=wrap64 (by omega) (by omega)
  have w1:IntKind.wrap .i64 (((bin n i:Nat):Int)*(q-1)^j*(q-1))=((bin n i:Nat):Int)*(q-1)^j*(q-1):=by rw[←e1];exact wrap64 (by omega) (by omega)
  rw[e1,Int.natCast_add,Int.natCast_one]at ih
  rw[←ih,sb5 c57L0.eq_def]
  generalize ((bin n i:Nat):Int)*(q-1)^j=B at*
  simp(disch:=first|omega|fail) only[push_cast,seval,vrl,if_pos,if_neg,w0,w1]
theorem x84(h2:2≤q)(h64:q≤64)(hn:n≤30)(hc:0≤capP q n 1){r:Nat}(hr:r≤30): ∀(c i:Nat),i+c=r+1→ ∀ks,
 vgoL W ⟨hNo,[.tmp 6],0⟩ [0,1,2,7,8] c57L1 (.blk 0 [7]::ks) [(0, .x (.int .i64 q)),(1, .x (.int .i64 n)),(2, .x (.int .i64 r)),(7, .x (.int .i64 (sm (qb (q-1) n) i))),(8, .x (.int .i64 i))] []=
  vgo W ⟨hNo,[.tmp 6],0⟩ ks (VFr.of [(7, .x (.int .i64 (hv3 q n r)))]) []
 |0,i,hi,ks=>by
  obtain rfl:i=r+1:=by omega
  unfold hv3
  have c1: ¬(((r+1:Nat):Int)≤(r:Int)):=by omega
  rw[sb5 c57L1.eq_def]
  simp(disch:=first|omega|fail) only[push_cast,seval,vrl,if_pos,if_neg,qc6 (Int.not_le.1 c1)]
 |c+1,i,hi,ks=>by
  have ih:=x84 h2 h64 hn hc hr c (i+1) (by omega) ks
  have e1:=s57 (n:=n) (k:=i) hn (by omega)
  have e2:=fun r s ks=>s66 (n:=n) h2 h64 hc (i:=i) (by omega) (r:=r) (s:=s) i 0 (by omega) ks
  simp only[Int.pow_zero,Int.mul_one,Int.natCast_zero]at e2
  have b1:=c14 h2 hc i
  have b2:=wi3 (b45 (Q:=q-1) (by omega) n) (Nat.zero_le i)
  have b3:=b45 (Q:=q-1) (by omega) n i
  rw[show sm (qb (q-1) n) 0=0 from rfl]at b2
  unfold hv3 at b1
  have hs:sm (qb (q-1) n) (i+1)=sm (qb (q-1) n) i+qb (q-1) n i:=rfl
  rw[hs]at ih b1
  rw[Int.natCast_add,Int.natCast_one]at ih
  rw[←ih,sb5 c57L1.eq_def]
  generalize sm (qb (q-1) n) i=S at*
  generalize qb (q-1) n i=B at*
  simp(disch:=first|omega|fail) only[push_cast,seval,vrl,if_pos,if_neg,e1]
  rw[e2]
  simp(disch:=first|omega|fail) only[push_cast,seval,vrl,if_pos,if_neg]
theorem mm7(h2:2≤q)(h64:q≤64)(hn:n≤30)(hc:0≤capP q n 1){r:Nat}(hr:r≤30):o24 W 57 [.x (.int .i64 q), .x (.int .i64 n), .x (.int .i64 r)] []=some (.x (.int .i64 (hv3 q n r)),[],[]):=by
 have e:=fun ks=>x84 h2 h64 hn hc hr (r+1) 0 (by omega) ks
 rw[show sm (qb (q-1) n) 0=0 from rfl]at e
 simp only[Int.natCast_zero]at e
 rw[o10 rfl T57 rfl]
 unfold F57 c57
 simp(disch:=first|omega|fail) only[push_cast,seval,vrl,if_pos,if_neg]
 rw[e]
 simp(disch:=first|omega|fail) only[push_cast,seval,vrl,if_pos,if_neg]
def ofI(m:Nat)(f:Nat→Int):List Int:=(List.range m).map f
theorem w92(m:Nat)(f:Nat→Int):(ofI m f).length=m:=by simp[ofI]
theorem qc4{m:Nat}{f:Nat→Int}{j:Nat}(h:j<m):(ofI m f)[j]? =some (f j):=by
 unfold ofI;rw[List.getElem?_map,List.getElem?_range h];rfl
end
section
variable {q:Int} [IsFld q] {k:Nat}
theorem b24: ∀n:Nat,wtE (List.replicate n (0:El q))=0
 |0=>rfl
 |n+1=>by rw[List.replicate_succ,xq7,if_pos rfl,b24 n]
theorem q52: ∀v:List (El q),wtE v=0→v=List.replicate v.length 0
 | [],_=>rfl
 |a::v,h=>by
  rw[xq7]at h
  by_cases ha:a=0
  ·rw[if_pos ha]at h
   rw[List.length_cons,List.replicate_succ,←q52 v (by omega),ha]
  ·rw[if_neg ha]at h;omega
theorem s90(h1:1≤k):cntE q (k:Int)=if capP q k 1<0 then 4 else 0:=by
 obtain⟨p0,m0,g0,mod,hn⟩:= ‹IsFld q›.ok
 unfold cntE
 rw[hn]
 simp only
 rw[if_neg (by omega),Int.toNat_natCast]
end
section
variable {raw:List Int} {b:Bool} {nl:Nat}
set_option maxHeartbeats 4000000
end
def argW(q n d:Int):Int:=if cntE q n=0 then(if d<1∨n<d then 10 else 0)else cntE q n
section
variable {q n d:Int}
theorem lq8(hn:n≤9223372036854775807):o24 W 56 [.x (.int .i64 q), .x (.int .i64 n), .x (.int .i64 d)] []=some (.x (.int .i64 (argW q n d)),[],[]):=by
 have e1:=xa8 (q:=q) hn
 unfold argW
 rw[o10 rfl T56 rfl]
 unfold F56 c56
 by_cases h0:cntE q n=0
 ·rw[if_pos h0]
  rw[h0]at e1
  by_cases d1:d<1
  ·rw[if_pos (show d<1∨n<d from .inl d1)]
   simp(disch:=first|omega|fail) only[push_cast,seval,vrl,if_pos,if_neg,e1,dec_lt d1]
  ·by_cases dn:n<d
   ·rw[if_pos (show d<1∨n<d from .inr dn)]
    simp(disch:=first|omega|fail) only[push_cast,seval,vrl,if_pos,if_neg,e1,cw6 (Int.not_lt.1 d1),dec_lt dn]
   ·rw[if_neg (show¬(d<1∨n<d) by omega)]
    simp(disch:=first|omega|fail) only[push_cast,seval,vrl,if_pos,if_neg,e1,cw6 (Int.not_lt.1 d1),cw6 (Int.not_lt.1 dn)]
 ·rw[if_neg h0]
  simp(disch:=first|omega|fail) only[push_cast,seval,vrl,if_pos,if_neg,e1,nb8 h0]
end
section
variable {q:Int} {n d:Nat}
def hamV(q:Int)(n d:Nat):Int:=(capP q n 1).tdiv (hv3 q n ((d-1)/2))
def sinV(q:Int)(n d:Nat):Int:=capP q (n-d+1) 1
def ploV(q:Int)(n d:Nat):Int:=if q*(d:Int)≤(n:Int)*(q-1)then 0 else(q*(d:Int)).tdiv (q*(d:Int)-(n:Int)*(q-1))
def varV(q:Int)(n d:Nat):Int:=(capP q n 1+hv3 q n (d-1)-1).tdiv (hv3 q n (d-1))
theorem ei4{a b:Int}(ha:0≤a)(hb:0<b):0≤a.tdiv b∧a.tdiv b≤a:=by
 rw[Int.tdiv_eq_ediv_of_nonneg ha]
 exact⟨Int.ediv_nonneg ha (by omega),Int.ediv_le_self _ ha⟩
theorem xz6(h2:2≤q)(h64:q≤64)(hn:n≤30)(hc:0≤capP q n 1)(hd:1≤d)(hdn:d≤n)(hA:argW q n d=0):o24 W 17 [.x (.int .i64 q), .x (.int .i64 n), .x (.int .i64 d)] []=some (.tup [.x (.int .i64 (hamV q n d)), .x (.int .i64 0)],[],[]):=by
 have e1:=lq8 (q:=q) (n:=(n:Int)) (d:=(d:Int)) (by omega)
 rw[hA]at e1
 have e2:=ft0 (k:=(n:Int)) h2 h64 (by omega) (by omega)
 rw[Int.toNat_natCast]at e2
 have e3:=mm7 h2 h64 hn hc (r:=(d-1)/2) (by omega)
 have b1:=c14 h2 hc ((d-1)/2)
 have w1:((d:Int)-1).tdiv 2=(((d-1)/2:Nat):Int):=by rw[Int.tdiv_eq_ediv_of_nonneg (by omega)];omega
 have hr30:(d-1)/2≤30:=by omega
 have hp:=(kf4 h2 hc)
 have b3:=ei4 hc (b:=hv3 q n ((d-1)/2)) (by omega)
 have hz: ¬hv3 q n ((d-1)/2)=0:=by omega
 unfold hamV
 rw[o10 rfl T17 rfl]
 unfold F17 c17
 generalize (d-1)/2=r at*
 generalize hv3 q n r=B at*
 generalize capP q n 1=P at*
 simp(disch:=first|omega|fail) only[push_cast,seval,vrl,if_pos,if_neg,e1,e2,w1,e3,hz]
theorem oe9(h2:2≤q)(h64:q≤64)(hn:n≤30)(hd:1≤d)(hdn:d≤n)(hA:argW q n d=0):o24 W 18 [.x (.int .i64 q), .x (.int .i64 n), .x (.int .i64 d)] []=some (.tup [.x (.int .i64 (sinV q n d)), .x (.int .i64 0)],[],[]):=by
 have e1:=lq8 (q:=q) (n:=(n:Int)) (d:=(d:Int)) (by omega)
 rw[hA]at e1
 have e2:=ft0 (k:=(n:Int)-(d:Int)+1) h2 h64 (by omega) (by omega)
 rw[show((n:Int)-(d:Int)+1).toNat=n-d+1 by omega]at e2
 unfold sinV
 rw[o10 rfl T18 rfl]
 unfold F18 c18
 simp(disch:=first|omega|fail) only[push_cast,seval,vrl,if_pos,if_neg,e1,e2]
theorem gr5(h2:2≤q)(h64:q≤64)(hn:n≤30)(hd:1≤d)(hdn:d≤n)(hA:argW q n d=0):o24 W 19 [.x (.int .i64 q), .x (.int .i64 n), .x (.int .i64 d)] []=some (.tup [.x (.int .i64 (ploV q n d)), .x (.int .i64 0)],[],[]):=by
 have e1:=lq8 (q:=q) (n:=(n:Int)) (d:=(d:Int)) (by omega)
 rw[hA]at e1
 have m1:=ga5 (x:=q) (y:=(d:Int)) (A:=64) (B:=30) (by omega) (by omega)
 have m2:=ga5 (x:=(n:Int)) (y:=q-1) (A:=30) (B:=64) (by omega) (by omega)
 have m3:0≤q*(d:Int):=Int.mul_nonneg (by omega) (by omega)
 unfold ploV
 rw[o10 rfl T19 rfl]
 unfold F19 c19
 generalize hX:q*(d:Int)=X at*
 generalize hY:(n:Int)*(q-1)=Y at*
 by_cases h:X≤Y
 ·rw[if_pos h]
  simp(disch:=first|omega|fail) only[push_cast,seval,vrl,if_pos,if_neg,e1,hX,hY,nl3 h]
 ·rw[if_neg h]
  have hz: ¬X-Y=0:=by omega
  have b3:=ei4 m3 (b:=X-Y) (by omega)
  simp(disch:=first|omega|fail) only[push_cast,seval,vrl,if_pos,if_neg,e1,hX,hY,qc6 (Int.not_le.1 h),hz]
theorem jh1(h2:2≤q)(h64:q≤64)(hn:n≤30)(hc:0≤capP q n 1)(hd:1≤d)(hdn:d≤n)(hA:argW q n d=0):o24 W 20 [.x (.int .i64 q), .x (.int .i64 n), .x (.int .i64 d)] []=some (.tup [.x (.int .i64 (varV q n d)), .x (.int .i64 0)],[],[]):=by
 have e1:=lq8 (q:=q) (n:=(n:Int)) (d:=(d:Int)) (by omega)
 rw[hA]at e1
 have e2:=ft0 (k:=(n:Int)) h2 h64 (by omega) (by omega)
 rw[Int.toNat_natCast]at e2
 have e3:=mm7 h2 h64 hn hc (r:=d-1) (by omega)
 rw[show((d-1:Nat):Int)=(d:Int)-1 by omega]at e3
 have b1:=c14 h2 hc (d-1)
 have hp:=(kf4 h2 hc)
 have b3:=ei4 (a:=capP q n 1+hv3 q n (d-1)-1) (by omega) (b:=hv3 q n (d-1)) (by omega)
 have hz: ¬hv3 q n (d-1)=0:=by omega
 unfold varV
 rw[o10 rfl T20 rfl]
 unfold F20 c20
 generalize hv3 q n (d-1)=B at*
 generalize capP q n 1=P at*
 simp(disch:=first|omega|fail) only[push_cast,seval,vrl,if_pos,if_neg,e1,e2,e3,hz]
end
section
variable {q all:Int} {n k:Nat} {zs:List Int}
variable {b:Bool} {nl:Nat}
end
section
variable {q all:Int} {n:Nat} {zs:List Int} {b:Bool} {nl:Nat}
end
section
variable {q:Int} {zs:List Int} {b:Bool} {nl:Nat}
end
def griS(q d:Int):Nat→Int×Int
 |0=>(0,d)
 |i+1=>((griS q d i).1+(griS q d i).2,((griS q d i).2+q-1).tdiv q)
theorem bn5{q d:Int}(h2:2≤q)(d1:1≤d)(d64:d≤64): ∀i:Nat,1≤(griS q d i).2∧(griS q d i).2≤64∧0≤(griS q d i).1∧(griS q d i).1≤(i:Int)*64
 |0=>by simp[griS];omega
 |i+1=>by
  obtain⟨a1,a2,a3,a4⟩:=bn5 h2 d1 d64 i
  rw[griS]
  simp only[]
  generalize (griS q d i).2=e at*
  generalize (griS q d i).1=s at*
  rw[Int.tdiv_eq_ediv_of_nonneg (by omega)]
  have b1:1≤(e+q-1)/q:=Int.le_ediv_of_mul_le (by omega) (by omega)
  have b2:(e+q-1)/q<e+1:=by
   refine Int.ediv_lt_of_lt_mul (by omega) ?_
   have:e*1≤e*q:=Int.mul_le_mul_of_nonneg_left (by omega) (by omega)
   rw[Int.add_mul]
   omega
  omega
section
variable {q:Int} {k d:Nat}
theorem gr9(h2:2≤q)(h64:q≤64){d:Int}(d1:1≤d)(d64:d≤64)(hk:k≤64): ∀(c i:Nat),i+c=k→ ∀ks,
 vgoL W ⟨hNo,[.tmp 6, .tmp 7],0⟩ [0,2,10,33,34] c21L0 (.blk 0 [10]::ks) [(0, .x (.int .i64 q)),(2, .x (.int .i64 (griS q d i).2)),(10, .x (.int .i64 (griS q d i).1)),(33, .x (.int .i64 k)),(34, .x (.int .i64 i))] []=
  vgo W ⟨hNo,[.tmp 6, .tmp 7],0⟩ ks (VFr.of [(10, .x (.int .i64 (griS q d k).1))]) []
 |0,i,hi,ks=>by
  obtain rfl:i=k:=by omega
  rw[sb5 c21L0.eq_def]
  simp(disch:=first|omega|fail) only[push_cast,seval,vrl,if_pos,if_neg]
 |c+1,i,hi,ks=>by
  have ih:=gr9 h2 h64 d1 d64 hk c (i+1) (by omega) ks
  obtain⟨a1,a2,a3,a4⟩:=bn5 h2 d1 d64 i
  obtain⟨b1,b2,_,_⟩:=bn5 h2 d1 d64 (i+1)
  rw[griS]at ih b1 b2
  simp only[]at ih b1 b2
  rw[Int.natCast_add,Int.natCast_one]at ih
  have hz: ¬q=0:=by omega
  rw[←ih,sb5 c21L0.eq_def]
  generalize (griS q d i).2=e at*
  generalize (griS q d i).1=s at*
  have w1:IntKind.wrap .i64 ((e+q-1).tdiv q)=(e+q-1).tdiv q:=wrap64 (by omega) (by omega)
  generalize hQ:(e+q-1).tdiv q=Q at*
  simp(disch:=first|omega|fail) only[push_cast,seval,vrl,if_pos,if_neg,hz,hQ,w1]
end
section
variable {q:Int}
def griE(q k d:Int):Int:=if fldN q.toNat=none then 1 else if k<1∨64<k∨d<1∨64<d then 4 else 0
theorem hl6{k d:Int}:o24 W 21 [.x (.int .i64 q), .x (.int .i64 k), .x (.int .i64 d)] []=some (.tup [.x (.int .i64 (if griE q k d=0 then(griS q d k.toNat).1 else 0)), .x (.int .i64 (griE q k d))],[],[]):=by
 unfold griE
 cases hn:fldN q.toNat with
 |none=>
  have e0:=ug9 hn
  rw[if_pos rfl,o10 rfl T21 rfl]
  unfold F21 c21
  simp(disch:=first|omega|fail) only[push_cast,seval,vrl,if_pos,if_neg,e0]
 |some x=>
  obtain⟨p0,m0,g0,mod⟩:=x
  haveI:IsFld q:=⟨⟨p0,m0,g0,mod,hn⟩⟩
  obtain⟨q2,q64⟩:=ug0 hn
  rw[if_neg (show¬some (p0,m0,g0,mod)=none by simp),o10 rfl T21 rfl]
  unfold F21 c21
  by_cases h:k<1∨64<k∨d<1∨64<d
  ·rw[if_pos h,if_neg (show¬(4:Int)=0 by decide)]
   by_cases c1:k<1
   ·simp(disch:=first|omega|fail) only[push_cast,seval,vrl,if_pos,if_neg,dec_lt c1]
   ·by_cases c2:64<k
    ·simp(disch:=first|omega|fail) only[push_cast,seval,vrl,if_pos,if_neg,cw6 (Int.not_lt.1 c1),dec_lt c2]
    ·by_cases c3:d<1
     ·simp(disch:=first|omega|fail) only[push_cast,seval,vrl,if_pos,if_neg,cw6 (Int.not_lt.1 c1),cw6 (Int.not_lt.1 c2),dec_lt c3]
     ·have c4:64<d:=by omega
      simp(disch:=first|omega|fail) only[push_cast,seval,vrl,if_pos,if_neg,cw6 (Int.not_lt.1 c1),cw6 (Int.not_lt.1 c2),cw6 (Int.not_lt.1 c3),dec_lt c4]
  ·have c1: ¬k<1:=by omega
   have c2: ¬64<k:=by omega
   have c3: ¬d<1:=by omega
   have c4: ¬64<d:=by omega
   obtain⟨K,rfl⟩: ∃K:Nat,k=K:=⟨k.toNat,by omega⟩
   have e:=fun ks=>gr9 (q:=q) (k:=K) (by omega) (by omega) (d:=d) (by omega) (by omega) (by omega) K 0 (Nat.zero_add K) ks
   rw[show(griS q d 0).1=0 from rfl,show(griS q d 0).2=d from rfl]at e
   simp only[Int.natCast_zero]at e
   rw[if_neg h,if_pos rfl,Int.toNat_natCast]
   simp(disch:=first|omega|fail) only[push_cast,seval,vrl,if_pos,if_neg,cw6 (Int.not_lt.1 c1),cw6 (Int.not_lt.1 c2),cw6 (Int.not_lt.1 c3),cw6 (Int.not_lt.1 c4)]
   rw[e]
   simp(disch:=first|omega|fail) only[push_cast,seval,vrl,if_pos,if_neg]
variable {zs:List Int} {b:Bool} {nl:Nat}
end
section
variable {q:Int} [IsFld q] {k:Nat}
theorem x43: ∀(z:List (El q)) (R:List (Nat→El q)) (i:Nat),z.length=R.length→comb z R i=sumN R.length fun j=>wf z j*(R.getD j fun _=>0) i
 | [],[],i,_=>rfl
 |a::z,r::R,i,h=>by
  rw[comb,x43 z R i (by simpa using h),List.length_cons,c68,FK.add_comm]
  first
   |rfl
   |(rw[FK.add_comm];rfl)
theorem l91{R:List (List (El q))}{z:List (El q)}(hz:z.length=R.length){i:Nat}(hi:i<k):comb z (R.map wf) i=wf (encL k z R) i:=by
 rw[x43 z (R.map wf) i (by simpa using hz),mb7 z hi,List.length_map]
 refine rc1 fun j hj=> ?_
 congr 1
 rw[List.getD_eq_getElem?_getD,List.getElem?_map,List.getElem?_eq_getElem hj]
 unfold nth
 rw[List.getD_eq_getElem?_getD,List.getElem?_eq_getElem hj]
 rfl
theorem lp0: ∀(u:List (El q)),wtP (List.range u.length) (wf u)=wtE u
 | []=>rfl
 |a::u=>by
  rw[xq7,←lp0 u]
  unfold wtP
  rw[List.length_cons,List.range_succ_eq_map,List.filter_cons,List.filter_map]
  have hc:((fun i=>decide (wf (a::u) i≠0))∘Nat.succ)=fun i=>decide (wf u i≠0):=rfl
  by_cases h:a=0
  ·rw[if_pos h,if_neg (by rw[qa6,h];simp),List.length_map,hc,Nat.zero_add]
  ·rw[if_neg h,if_pos (by rw[qa6];simpa using h),List.length_cons,List.length_map,hc,Nat.add_comm]
theorem dn4{R:List (List (El q))}{d:Nat}(hd: ∀z:List (El q),z.length=R.length→nzL z→d≤wtE (encL k z R)):grN q R.length d≤k:=by
 have h:=m65 R.length (R.map wf) (List.range k) d (by simp) fun z hz hn=>by
  have h1:=hd z hz hn
  have h2:=lp0 (encL k z R)
  rw[b87]at h2
  rw[←h2]at h1
  refine Nat.le_trans h1 (Nat.le_of_eq ?_)
  unfold wtP
  congr 1
  refine List.filter_congr fun i hi=> ?_
  rw[l91 hz (List.mem_range.1 hi)]
 rw[List.length_range]at h
 exact h
theorem singleton{R:List (List (El q))}{d:Nat}(h1:1≤d)(hR:1≤R.length)(hd: ∀z:List (El q),z.length=R.length→nzL z→d≤wtE (encL k z R)):d+R.length≤k+1:=by
 have h:=dn4 hd
 obtain⟨m,hm⟩: ∃m,R.length=m+1:=⟨R.length-1,by omega⟩
 rw[hm]at h
 have:=e88 (q:=q) m (d:=(d:Int)) (by omega)
 omega
end
def bN(q:Int)(n r:Nat):Int:=sm (qb (q-1) n) (r+1)
theorem ff5:(([2,3,4,5,8]:List Int).all fun q=>(List.range 13).all fun n=>(List.range n).all fun d=>decide ((q^n+bN q n d-1)/bN q n d≤q^n/bN q n (d/2)))=true:=by kernel_rfl
theorem g26: ∀(l:List Int) (i:Nat),(yv0 i l=0∧ ∀d,l.getD d 0≤0)∨ ∃D,D<l.length∧yv0 i l=((i+D:Nat):Int)∧0<l.getD D 0∧ ∀d,d<D→l.getD d 0≤0
 | [],i=> .inl ⟨rfl,fun d=>by simp⟩
 |x::l,i=>by
  rw[yv0]
  by_cases h:0<x
  ·rw[if_pos h];exact .inr ⟨0,by simp,by simp,by simpa using h,fun d hd=>by omega⟩
  ·rw[if_neg h]
   rcases g26 l (i+1)with⟨h1,h2⟩|⟨D,h1,h2,h4,h3⟩
   ·refine .inl ⟨h1,fun d=> ?_⟩
    cases d with
    |zero=>simpa using(by omega:x≤0)
    |succ d=>simpa using h2 d
   ·refine .inr ⟨D+1,by simpa using h1,by rw[h2];congr 1;omega,by simpa using h4,fun d hd=> ?_⟩
    cases d with
    |zero=>simpa using(by omega:x≤0)
    |succ d=>simpa using h3 d (by omega)
section
variable {q:Int} [IsFld q] {k:Nat} {R:List (List (El q))}
theorem if0(hR: ∀r∈R,r.length=k)(hi:wu9 (R.map wf)){z:List (El q)}(hz:z.length=R.length)(hn:nzL z):1≤wtE (encL k z R)∧0<(wgt k R).getD (wtE (encL k z R)) 0:=by
 have hle:=b54 (encL k z R)
 rw[b87]at hle
 constructor
 ·refine Classical.byContradiction fun h=> ?_
  have h1:=q52 (encL k z R) (by omega)
  rw[b87,←de0 (R:=R)]at h1
  have h2:=da9 hR hi hz (by simp) h1
  obtain⟨a,ha,ha0⟩:=hn
  rw[h2]at ha
  exact ha0 (List.eq_of_mem_replicate ha)
 ·rw[a95 R hle]
  unfold cntC
  have:=List.length_pos_of_mem (List.mem_filter (p:=fun z':List (El q)=>decide (wtE (encL k z' R)=wtE (encL k z R))).2 ⟨cm8.2 hz,decide_eq_true rfl⟩)
  omega
theorem be1(l:List Int)(d:Nat):(l.drop 1).getD d 0=l.getD (d+1) 0:=by
 rw[List.getD_eq_getElem?_getD,List.getD_eq_getElem?_getD,List.getElem?_drop,Nat.add_comm]
theorem zi6(hR: ∀r∈R,r.length=k)(hi:wu9 (R.map wf)):(jq9 (wgt k R)=0∧R=[])∨ ∃D:Nat,jq9 (wgt k R)=(D:Int)∧1≤D∧D≤k∧1≤R.length∧ ∀z:List (El q),z.length=R.length→nzL z→D≤wtE (encL k z R):=by
 have hl:=rc0 (k:=k) R
 unfold jq9
 rcases g26 ((wgt k R).drop 1) 1 with⟨h1,h2⟩|⟨D,h1,h2,h3,h4⟩
 ·refine .inl ⟨h1, ?_⟩
  cases hRe:R with
  |nil=>rfl
  |cons r R'=>
   exfalso
   obtain⟨z,hz⟩: ∃z:List (El q),z=1::List.replicate R'.length 0:=⟨_,rfl⟩
   have h5:=if0 hR hi (z:=z) (by rw[hz,hRe];simp) ⟨1,by rw[hz];simp,ki7⟩
   have h6:=h2 (wtE (encL k z R)-1)
   rw[be1,show wtE (encL k z R)-1+1=wtE (encL k z R) by omega]at h6
   omega
 ·rw[List.length_drop,hl]at h1
  rw[be1,a95 R (by omega)]at h3
  refine .inr ⟨1+D,h2,by omega,by omega, ?_,fun z hz hn=> ?_⟩
  ·refine Classical.byContradiction fun h=> ?_
   obtain rfl:R=[]:=List.eq_nil_of_length_eq_zero (by omega)
   unfold cntC at h3
   obtain⟨z,hz⟩:=List.exists_mem_of_length_pos (by omega:0<((allV q ([]:List (List (El q))).length).filter fun z=>decide (wtE (encL k z [])=D+1)).length)
   obtain⟨z1,z2⟩:=List.mem_filter.1 hz
   obtain rfl:z=[]:=List.eq_nil_of_length_eq_zero (cm8.1 z1)
   have z3:=of_decide_eq_true z2
   have h7:=de0 (k:=k) (R:=([]:List (List (El q))))
   rw[show List.replicate ([]:List (List (El q))).length (0:El q)=[]from rfl]at h7
   rw[h7,b24]at z3
   omega
  ·have h5:=if0 hR hi hz hn
   refine Classical.byContradiction fun h=> ?_
   have h6:=h4 (wtE (encL k z R)-1) (by omega)
   rw[be1,show wtE (encL k z R)-1+1=wtE (encL k z R) by omega]at h6
   omega
end
theorem kd4{q:Int}(hq:0≤q): ∀(a b:Nat) (p:Int),0≤capP q (a+b) p→0≤p→0≤capP q a p
 |0,b,p,h,hp=>hp
 |a+1,b,p,h,hp=>by
  rw[show a+1+b=(a+b)+1 by omega,capP]at h
  rw[capP]
  split at h
  ·omega
  ·rename_i hc;rw[if_neg hc];exact kd4 hq a b _ h (Int.mul_nonneg hp hq)
theorem c60(q d:Int): ∀i:Nat,(griS q d (i+1)).1=d+(griS q ((d+q-1).tdiv q) i).1∧(griS q d (i+1)).2=(griS q ((d+q-1).tdiv q) i).2
 |0=>by constructor<;>simp[griS]
 |i+1=>by
  obtain⟨h1,h2⟩:=c60 q d i
  rw[griS,h1,h2]
  constructor
  ·show _=d+((griS q ((d+q-1).tdiv q) i).1+(griS q ((d+q-1).tdiv q) i).2)
   simp only[]
   omega
  ·rfl
theorem lb1{q:Int}(h2:2≤q): ∀(m:Nat) (d:Int),1≤d→d≤64→(griS q d m).1=grN q m d
 |0,d,_,_=>rfl
 |m+1,d,h1,h64=>by
  have h3:=bn5 h2 h1 h64 1
  rw[show(griS q d 1).2=(d+q-1).tdiv q from rfl]at h3
  rw[(c60 q d m).1,lb1 h2 m _ h3.1 h3.2.1,grN,Int.tdiv_eq_ediv_of_nonneg (by omega)]
section
variable {q:Int} [IsFld q] {k:Nat} {R:List (List (El q))}
theorem a45(h5:q∈ur8)(hk12:k≤12)(hc:0≤capP q k 1)(hR: ∀r∈R,r.length=k){D:Nat}(h1:1≤D)(hD:D≤k)(hr:1≤R.length)(hrk:R.length≤k)(hd: ∀z:List (El q),z.length=R.length→nzL z→D≤wtE (encL k z R)):
 capP q R.length 1=q^R.length∧q^R.length≤hamV q k D∧q^R.length≤sinV q k D∧(0<ploV q k D→q^R.length≤ploV q k D)∧(griS q D R.length).1≤k∧varV q k D≤hamV q k D∧1≤varV q k D:=by
 have h2:=aw0 (q:=q)
 have hp:=kf4 h2 hc
 have hr0:=kf4 h2 (kd4 (by omega) R.length (k-R.length) 1 (by rw[show R.length+(k-R.length)=k by omega];exact hc) (by omega))
 have hs0:=kf4 h2 (kd4 (by omega) (k-D+1) (D-1) 1 (by rw[show k-D+1+(D-1)=k by omega];exact hc) (by omega))
 have b1:=c14 h2 hc ((D-1)/2)
 have b2:=c14 h2 hc (D-1)
 have hpos:0<q^k:=Int.pow_pos (by omega)
 refine⟨hr0.1, ?_, ?_, ?_, ?_, ?_, ?_⟩
 ·unfold hamV
  rw[hp.1,Int.tdiv_eq_ediv_of_nonneg (by omega)]
  exact Int.le_ediv_of_mul_le (by omega) (zi9 hR (t:=(D-1)/2) (by omega) hd)
 ·unfold sinV
  rw[hs0.1]
  have:=singleton (k:=k) (R:=R) h1 hr hd
  obtain⟨e,he⟩: ∃e,k-D+1=R.length+e:=⟨k-D+1-R.length,by omega⟩
  rw[he,Int.pow_add]
  have h3:1≤q^e:=Int.pow_pos (by omega)
  have h4:=Int.mul_le_mul_of_nonneg_left h3 (Int.le_of_lt (show(0:Int)<q^R.length from Int.pow_pos (by omega)))
  rw[Int.mul_one]at h4
  exact h4
 ·unfold ploV
  by_cases h:q*(D:Int)≤(k:Int)*(q-1)
  ·rw[if_pos h];intro h;omega
  ·rw[if_neg h]
   intro _
   rw[Int.tdiv_eq_ediv_of_nonneg (Int.mul_nonneg (by omega) (by omega))]
   exact Int.le_ediv_of_mul_le (by omega) (sh0 hd)
 ·rw[lb1 h2 _ _ (by omega) (by omega)]
  exact dn4 hd
 ·have h6:=List.all_eq_true.1 ff5 q h5
  have h7:=List.all_eq_true.1 h6 k (List.mem_range.2 (by omega))
  have h8:=of_decide_eq_true (List.all_eq_true.1 h7 (D-1) (List.mem_range.2 (by omega)))
  unfold varV hamV
  rw[hp.1,Int.tdiv_eq_ediv_of_nonneg (by omega),Int.tdiv_eq_ediv_of_nonneg (by omega)]
  exact h8
 ·unfold varV
  rw[hp.1,Int.tdiv_eq_ediv_of_nonneg (by omega)]
  exact Int.le_ediv_of_mul_le (by omega) (by omega)
end
def atS(q:Int)(n:Nat)(f:Nat→Int)(x m:Nat):Int:=sm (fun j=>f j*krN q n j x) m
section
variable {q:Int} {n:Nat} {zs:List Int} {b:Bool} {nl:Nat}
theorem bu8(h2:2≤q)(hc:0≤capP q n 1){x:Nat}(hx:x≤n)(k:Nat): -1073741824≤krN q n k x∧krN q n k x≤1073741824:=by
 have h:=eb3 (k:=k) h2 hc x
 unfold tK at h
 rwa [if_pos hx]at h
theorem hr9(h2:2≤q)(hc:0≤capP q n 1){x:Nat}(hx:x≤n)(hv: ∀j,0≤vK zs j∧vK zs j≤3): ∀i:Nat,-((i:Int)*3221225472)≤atS q n (vK zs) x i∧atS q n (vK zs) x i≤(i:Int)*3221225472
 |0=>by simp[atS,sm]
 |i+1=>by
  have ih:=hr9 h2 hc hx hv i
  have hk:=bu8 h2 hc hx i
  have m1:=ga5 (x:=krN q n i x) (y:=vK zs i) (A:=1073741824) (B:=3) hk (by have:=hv i;omega)
  unfold atS at ih⊢
  rw[sm,Int.mul_comm (vK zs i)]
  omega
theorem eb7(h2:2≤q)(h64:q≤64)(hn:n≤30)(hc:0≤capP q n 1)(hl:zs.length=n+1)(hv: ∀j,0≤vK zs j∧vK zs j≤3){x:Nat}(hx:x≤n): ∀(m i:Nat),i+m=n+1→ ∀ks,
 vgoL W ⟨hNo,[.tmp 6],0⟩ [0,1,2,7,10,11,12] c59L0 (.blk 0 [7]::ks) [(0, .x (.int .i64 q)),(1, .fz b (.sl nl 0 1 (ivs zs))),(2, .x (.int .i64 x)),(7, .x (.int .i64 (atS q n (vK zs) x i))),(10, .fz b (.sl nl 0 1 (ivs zs))),(11, .x (.int .i64 zs.length)),(12, .x (.int .i64 i))] []=
  vgo W ⟨hNo,[.tmp 6],0⟩ ks (VFr.of [(7, .x (.int .i64 (atS q n (vK zs) x (n+1))))]) []
 |0,i,hi,ks=>by
  obtain rfl:i=n+1:=by omega
  rw[sb5 c59L0.eq_def]
  simp(disch:=first|omega|fail) only[push_cast,seval,vrl,if_pos,if_neg,hl]
 |m+1,i,hi,ks=>by
  have ih:=eb7 h2 h64 hn hc hl hv hx m (i+1) (by omega) ks
  have e1:=ft1 (k:=i) (x:=x) h2 h64 hn (by omega) hx
  have e2:(ivs zs)[i]? =some (.v (.int .i64 (vK zs i))):=by rw[ui5 (by omega)];rfl
  have h1:=hv i
  have h3:=bu8 h2 hc hx i
  have h4:=hr9 h2 hc hx hv i
  have m1:=ga5 (x:=krN q n i x) (y:=vK zs i) (A:=1073741824) (B:=3) h3 (by omega)
  rw[Int.mul_comm (krN q n i x)]at m1
  have hs:atS q n (vK zs) x (i+1)=atS q n (vK zs) x i+vK zs i*krN q n i x:=rfl
  have hil:i<zs.length:=by omega
  have hll:((zs.length:Nat):Int)-1=(n:Int):=by omega
  rw[hs,Int.natCast_add,Int.natCast_one]at ih
  rw[←ih,sb5 c59L0.eq_def]
  clear hs hv
  generalize atS q n (vK zs) x i=S at*
  generalize vK zs i=v at*
  generalize krN q n i x=K at*
  have w1:IntKind.wrap .i64 (v*K)=v*K:=wrap64 (by omega) (by omega)
  have w2:IntKind.wrap .i64 (S+v*K)=S+v*K:=wrap64 (by omega) (by omega)
  simp(disch:=first|omega|fail) only[push_cast,seval,vrl,if_pos,if_neg,hil,e2,hll,e1,w1,w2]
theorem h07(h2:2≤q)(h64:q≤64)(hn:n≤30)(hc:0≤capP q n 1)(hl:zs.length=n+1)(hv: ∀j,0≤vK zs j∧vK zs j≤3){x:Nat}(hx:x≤n)(b:Bool)(nl:Nat):
 o24 W 59 [.x (.int .i64 q), .fz b (.sl nl 0 1 (ivs zs)), .x (.int .i64 x)] []=some (.x (.int .i64 (atS q n (vK zs) x (n+1))),[],[]):=by
 have e:=fun ks=>eb7 (b:=b) (nl:=nl) h2 h64 hn hc hl hv hx (n+1) 0 (Nat.zero_add _) ks
 rw[show atS q n (vK zs) x 0=0 from rfl]at e
 simp only[Int.natCast_zero]at e
 rw[o10 rfl T59 rfl]
 unfold F59 c59
 simp(disch:=first|omega|fail) only[push_cast,seval,vrl,if_pos,if_neg]
 rw[e]
 simp(disch:=first|omega|fail) only[push_cast,seval,vrl,if_pos,if_neg]
theorem ow9(hl:zs.length=n+1)(hn:n≤30)(hv: ∀j,0≤vK zs j∧vK zs j≤3){d:Int}: ∀(m i:Nat),i+m=n+1→ ∀ks,
 vgoL W ⟨hNo,[.tmp 8, .tmp 9, .tmp 10, .tmp 11],0⟩ [0,1,2,3,28,29,30] c24L0 (.blk 0 [0,1,2,3]::ks) [(0, .x (.int .i64 q)),(1, .x (.int .i64 n)),(2, .x (.int .i64 d)),(3, .fz b (.sl nl 0 1 (ivs zs))),(28, .fz b (.sl nl 0 1 (ivs zs))),(29, .x (.int .i64 ((n:Int)+1))),(30, .x (.int .i64 i))] []=
  vgo W ⟨hNo,[.tmp 8, .tmp 9, .tmp 10, .tmp 11],0⟩ ks (VFr.of [(0, .x (.int .i64 q)),(1, .x (.int .i64 n)),(2, .x (.int .i64 d)),(3, .fz b (.sl nl 0 1 (ivs zs)))]) []
 |0,i,hi,ks=>by
  obtain rfl:i=n+1:=by omega
  rw[sb5 c24L0.eq_def]
  simp(disch:=first|omega|fail) only[push_cast,seval,vrl,if_pos,if_neg,hl]
 |m+1,i,hi,ks=>by
  have ih:=ow9 hl hn hv (d:=d) m (i+1) (by omega) ks
  have e2:(ivs zs)[i]? =some (.v (.int .i64 (vK zs i))):=by rw[ui5 (by omega)];rfl
  have h1:=hv i
  have hil:i<zs.length:=by omega
  rw[Int.natCast_add,Int.natCast_one]at ih
  rw[←ih,sb5 c24L0.eq_def]
  clear hv
  generalize vK zs i=v at*
  simp(disch:=first|omega|fail) only[push_cast,seval,vrl,if_pos,if_neg,hil,e2]
theorem a62(h2:2≤q)(h64:q≤64)(hn:n≤30)(hc:0≤capP q n 1)(hl:zs.length=n+1)(hv: ∀j,0≤vK zs j∧vK zs j≤3): ∀(m i:Nat),i+m=n+1→
 (∀b nl ks,vgoL W ⟨hNo,[.tmp 8, .tmp 9, .tmp 10, .tmp 11],0⟩ [0,1,3,15] c24L1 (.blk 2 [0,3]::ks) [(0, .x (.int .i64 q)),(1, .x (.int .i64 n)),(3, .fz b (.sl nl 0 1 (ivs zs))),(15, .x (.int .i64 i))] []=some (.tup [.x (.int .i64 0), .x (.int .i64 0), .x (.bool false), .x (.int .i64 0)],[],[]))∨
 ((∀x,i≤x→x≤n→atS q n (vK zs) x (n+1)≤0)∧ ∀b nl ks,vgoL W ⟨hNo,[.tmp 8, .tmp 9, .tmp 10, .tmp 11],0⟩ [0,1,3,15] c24L1 (.blk 2 [0,3]::ks) [(0, .x (.int .i64 q)),(1, .x (.int .i64 n)),(3, .fz b (.sl nl 0 1 (ivs zs))),(15, .x (.int .i64 i))] []=vgo W ⟨hNo,[.tmp 8, .tmp 9, .tmp 10, .tmp 11],0⟩ ks (VFr.of [(0, .x (.int .i64 q)),(3, .fz b (.sl nl 0 1 (ivs zs)))]) [])
 |0,i,hi=>by
  obtain rfl:i=n+1:=by omega
  refine .inr ⟨fun x h1 h2=>by omega,fun b nl ks=> ?_⟩
  rw[sb5 c24L1.eq_def]
  simp(disch:=first|omega|fail) only[push_cast,seval,vrl,if_pos,if_neg]
 |m+1,i,hi=>by
  have e1:=h07 h2 h64 hn hc hl hv (x:=i) (by omega)
  have ih:=a62 h2 h64 hn hc hl hv m (i+1) (by omega)
  rw[Int.natCast_add,Int.natCast_one]at ih
  clear hv
  by_cases h:0<atS q n (vK zs) i (n+1)
  ·refine .inl fun b nl ks=> ?_
   rw[sb5 c24L1.eq_def]
   generalize atS q n (vK zs) i (n+1)=A at*
   simp(disch:=first|omega|fail) only[push_cast,seval,vrl,if_pos,if_neg,e1,dec_lt h]
  ·rcases ih with ih|⟨i1,i2⟩
   ·refine .inl fun b nl ks=> ?_
    rw[←ih b nl ks,sb5 c24L1.eq_def]
    generalize atS q n (vK zs) i (n+1)=A at*
    simp(disch:=first|omega|fail) only[push_cast,seval,vrl,if_pos,if_neg,e1,cw6 (Int.not_lt.1 h)]
   ·refine .inr ⟨fun x h1 h2=> ?_,fun b nl ks=> ?_⟩
    ·by_cases hx:x=i
     ·subst hx;omega
     ·exact i1 x (by omega) h2
    ·rw[←i2 b nl ks,sb5 c24L1.eq_def]
     clear i1
     generalize atS q n (vK zs) i (n+1)=A at*
     simp(disch:=first|omega|fail) only[push_cast,seval,vrl,if_pos,if_neg,e1,cw6 (Int.not_lt.1 h)]
theorem ck7(h2:2≤q)(h64:q≤64)(hn:n≤30)(hc:0≤capP q n 1)(hl:zs.length=n+1)(hv: ∀j,0≤vK zs j∧vK zs j≤3)(h0:vK zs 0=1){d:Nat}(d1:1≤d)(dn:d≤n)(hA:argW q n d=0):
 (∀b nl,o24 W 24 [.x (.int .i64 q), .x (.int .i64 n), .x (.int .i64 d), .fz b (.sl nl 0 1 (ivs zs))] []=some (.tup [.x (.int .i64 0), .x (.int .i64 0), .x (.bool false), .x (.int .i64 0)],[],[]))∨
 ((∀x,d≤x→x≤n→atS q n (vK zs) x (n+1)≤0)∧ ∀b nl,o24 W 24 [.x (.int .i64 q), .x (.int .i64 n), .x (.int .i64 d), .fz b (.sl nl 0 1 (ivs zs))] []=some (.tup [.x (.int .i64 (atS q n (vK zs) 0 (n+1))), .x (.int .i64 1), .x (.bool true), .x (.int .i64 0)],[],[])):=by
 have e1:=lq8 (q:=q) (n:=(n:Int)) (d:=(d:Int)) (by omega)
 rw[hA]at e1
 have e2:=fun b nl ks=>ow9 (b:=b) (nl:=nl) (q:=q) (d:=(d:Int)) hl hn hv (n+1) 0 (Nat.zero_add _) ks
 simp only[Int.natCast_zero]at e2
 have e3:(ivs zs)[0]? =some (.v (.int .i64 1)):=by rw[ui5 (by omega),←h0];rfl
 have e4:=h07 h2 h64 hn hc hl hv (x:=0) (by omega)
 simp only[Int.natCast_zero]at e4
 have h5:=a62 h2 h64 hn hc hl hv (n+1-d) d (by omega)
 have hlz:0<zs.length:=by omega
 have hll:((zs.length:Nat):Int)=(n:Int)+1:=by omega
 clear hv
 rcases h5 with h6|⟨h7,h6⟩
 ·refine .inl fun b nl=> ?_
  rw[o10 rfl T24 rfl]
  unfold F24 c24
  simp(disch:=first|omega|fail) only[push_cast,seval,vrl,if_pos,if_neg,e1,hll]
  rw[e2]
  simp(disch:=first|omega|fail) only[push_cast,seval,vrl,if_pos,if_neg,e3,hlz]
  rw[h6]
 ·refine .inr ⟨h7,fun b nl=> ?_⟩
  clear h7
  rw[o10 rfl T24 rfl]
  unfold F24 c24
  simp(disch:=first|omega|fail) only[push_cast,seval,vrl,if_pos,if_neg,e1,hll]
  rw[e2]
  simp(disch:=first|omega|fail) only[push_cast,seval,vrl,if_pos,if_neg,e3,hlz]
  rw[h6]
  generalize atS q n (vK zs) 0 (n+1)=A at*
  simp(disch:=first|omega|fail) only[push_cast,seval,vrl,if_pos,if_neg,e3,e4,hlz]
end
def shF1(fs:List Int)(j:Nat):Int:=if j=0 then 1 else pkI (rwI fs (j:Int)) 4
theorem ay6(fs:List Int)(j:Nat):0≤shF1 fs j∧shF1 fs j≤3:=by
 unfold shF1
 by_cases h:j=0
 ·rw[if_pos h];omega
 ·rw[if_neg h]
  have:=h58 (a:=rwI fs (j:Int)) (n:=4) (by omega)
  omega
theorem tl0(m:Nat)(f:Nat→Int):ofI (m+1) f=ofI m f++[f m]:=by
 unfold ofI;rw[List.range_succ,List.map_append];rfl
theorem zq8{m:Nat}{f:Nat→Int}(j:Nat):vK (ofI m f) j=if j<m then f j else 0:=by
 unfold vK gi
 rw[Int.toNat_natCast,List.getD_eq_getElem?_getD]
 by_cases h:j<m
 ·rw[if_pos h,qc4 h];rfl
 ·rw[if_neg h,List.getElem?_eq_none (by rw[w92];omega)];rfl
section
variable {fs:List Int} {b:Bool} {nl:Nat}
theorem eb6(hl:fs.length≤9223372036854775807){k:Nat}(hk:k≤12){z D many:Int}{T0:Tree}: ∀(d i:Nat),i+d=k+1→1≤i→ ∀ks,
 vgoL W ⟨hNo,[.tmp 10],0⟩ [4,11,14,17,27,28] c4L0 (.blk 0 [11,14,17,27]::ks) [(4, .fz b (.sl nl 0 1 (ivs fs))),(11, .own 0 []),(14, .x (.int .i64 D)),(17, .x (.int .i64 many)),(27, .own 1 []),(28, .x (.int .i64 i))] [.pt 25 [.v (.int .i64 z), .v (.int .i64 k),T0], .sl 0 3 1 (ivs (ofI i (shF1 fs)))]=
  vgo W ⟨hNo,[.tmp 10],0⟩ ks (VFr.of [(11, .own 0 []),(14, .x (.int .i64 D)),(17, .x (.int .i64 many)),(27, .own 1 [])]) [.pt 25 [.v (.int .i64 z), .v (.int .i64 k),T0], .sl 0 3 1 (ivs (ofI (k+1) (shF1 fs)))]
 |0,i,hi,h1,ks=>by
  obtain rfl:i=k+1:=by omega
  rw[sb5 c4L0.eq_def]
  simp(disch:=first|omega|fail) only[push_cast,seval,vrl,if_pos,if_neg]
 |d+1,i,hi,h1,ks=>by
  have ih:=eb6 hl hk (z:=z) (D:=D) (many:=many) (T0:=T0) d (i+1) (by omega) (by omega) ks
  have hri:=bd0 (l:=fs) (i:=(i:Int)) (by omega) (by omega)
  have e2:=fun b nl=>yc3 (b:=b) (nl:=nl) (raw:=fs) (i:=(i:Int)) (by omega) hl
  have e3:=s88 (a:=rwI fs (i:Int)) (n:=4) hri.1 hri.2 (by omega)
  have hs:ofI (i+1) (shF1 fs)=ofI i (shF1 fs)++[pkI (rwI fs (i:Int)) 4]:=by
   rw[tl0];unfold shF1;rw[if_neg (by omega)]
  have hlen:=w92 i (shF1 fs)
  rw[hs,Int.natCast_add,Int.natCast_one]at ih
  rw[←ih,sb5 c4L0.eq_def]
  generalize ofI i (shF1 fs)=A at*
  generalize pkI (rwI fs (i:Int)) 4=P at*
  simp(disch:=first|omega|fail) only[push_cast,seval,vrl,if_pos,if_neg,e2,e3,hlen]
end
section
variable {raw fs:List Int} {b b':Bool} {nl nl':Nat}
set_option maxHeartbeats 4000000
theorem yx4(hl:raw.length≤9223372036854775807)(hl2:fs.length≤9223372036854775807){q n r:Int}(q1: -9223372036854775808≤q)(q2:q≤9223372036854775807)(n1: -9223372036854775808≤n)(n2:n≤9223372036854775807)(r1: -9223372036854775808≤r)(r2:r≤9223372036854775807):
 o24 W 4 [.fz b (.sl nl 0 1 (ivs raw)), .x (.int .i64 q), .x (.int .i64 n), .x (.int .i64 r), .fz b' (.sl nl' 0 1 (ivs fs))] []=some (.x (.bool true),[],[]):=by
 by_cases h256:256<IntKind.wrap .i64 ((raw.length:Int)+(fs.length:Int))
 ·rw[o10 rfl T4 rfl]
  unfold F4 c4
  simp(disch:=first|omega|fail) only[push_cast,seval,vrl,if_pos,if_neg,dec_lt h256]
 ·have h256':=cw6 (Int.not_lt.1 h256)
  obtain⟨z,n',m',hz5,hn,hm,hfew,e0⟩:=x62 hl q1 q2 n1 n2 r1 r2
  have hz:=e67 hz5
  obtain⟨z1,z2,hfz⟩:=x14 hz
  haveI:=hfz
  obtain⟨M,hM,hMl,hMr⟩:=fw6 (raw:=raw) (frm:=0) (q:=z) (n:=n'+1) (by omega) m'
  rw[hM]at e0
  obtain⟨k,hk⟩: ∃k,k=n'+1:=⟨_,rfl⟩
  rw[←hk]at e0 hMr
  have hcE:=tc0 (q:=z) (k:=k) (by omega) (by omega) (by omega) hMr (sy6 (by omega) hMr (by omega) (by omega))
  obtain⟨a1,a2,a3⟩:=bi2 hMr
  have hrk:=ew4 hMr
  have hle:=(sw1 hMr).2.2.2
  have hfr:fewQ z (redR M).length 1=true:=m96 hz5 hm (by omega) (.inr hfew)
  have e1:=fun nl nr=>ob1 (nl:=nl) (nr:=nr) hcE (by omega) (by omega) (by omega) hMr
  rw[lo1]at e1
  have hRk:=zu4 a2
  have hRi:wu9 ((p78 (redR M)).map wf):=by rw[z42];exact a1.indep
  have hRl:(p78 (redR M)).length=(redR M).length:=ol1 _
  have hwl:=rc0 (k:=k) (p78 (redR M))
  have e2:=fun nl nr=>ia2 (q:=z) (n:=(k:Int)) (nl:=nl) (nr:=nr) (l:=wgt k (p78 (redR M))) (by omega) (by omega) fun nl nr=>ir7 (nl:=nl) (nr:=nr) hcE (by omega) (by omega) (by omega) hMr hfr
  have hce:=s90 (q:=z) (k:=k) (by omega)
  have e3:=ww1 (q:=z) (k:=(k:Int)) (by omega) (by omega) (by omega) (by omega)
  rw[Int.toNat_natCast]at e3
  rw[←hRl]at hrk hle
  clear a1 a2 a3 hRl hM
  generalize p78 (redR M)=R at*
  have hml:(R.map vs).length=R.length:=List.length_map _
  rcases zi6 hRk hRi with⟨h1,h2⟩|⟨D,hD,d1,dk,hr1,hd⟩
  ·rw[h1]at e2
   subst h2
   simp only[List.map_nil]at e1
   clear hRk hRi hwl h1
   generalize capP z k 1=P at*
   rw[o10 rfl T4 rfl]
   unfold F4 c4
   simp(disch:=first|omega|fail) only[push_cast,seval,vrl,if_pos,if_neg,h256',e0,e1,e2,e3]
  ·rw[hD]at e2
   have hD0: ¬((D:Nat):Int)=0:=by omega
   by_cases hc:capP z k 1<0
   ·clear hce hd hRk hRi
    generalize capP z k 1=P at*
    rw[o10 rfl T4 rfl]
    unfold F4 c4
    simp(disch:=first|omega|fail) only[push_cast,seval,vrl,if_pos,if_neg,h256',e0,e1,e2,e3,nb8 hD0,dec_lt hc]
   ·have hc0:0≤capP z k 1:=by omega
    rw[if_neg hc]at hce
    have hA:argW z k D=0:=by unfold argW;rw[if_pos hce,if_neg (by omega)]
    obtain⟨hp,k1,k2,k3,k4,k5,k6⟩:=a45 hz5 (by omega) hc0 hRk d1 dk hr1 (by omega) hd
    have e4:=ww1 (q:=z) (k:=(R.length:Int)) (by omega) (by omega) (by omega) (by omega)
    rw[Int.toNat_natCast,hp]at e4
    have f1:=xz6 (d:=D) z1 z2 (n:=k) (by omega) hc0 d1 dk hA
    have f2:=oe9 (d:=D) z1 z2 (n:=k) (by omega) d1 dk hA
    have f3:=gr5 (d:=D) z1 z2 (n:=k) (by omega) d1 dk hA
    have f4:=jh1 (d:=D) z1 z2 (n:=k) (by omega) hc0 d1 dk hA
    have f5:=hl6 (q:=z) (k:=(R.length:Int)) (d:=(D:Int))
    have hgE:griE z (R.length:Int) (D:Int)=0:=by
     obtain⟨p0,m0,g0,mod,hn⟩:= ‹IsFld z›.ok
     unfold griE
     rw[hn,if_neg (by simp),if_neg (by omega)]
    rw[hgE,if_pos rfl,Int.toNat_natCast]at f5
    have g1:=fun D many T0 ks=>eb6 (b:=b') (nl:=nl') hl2 (k:=k) (by omega) (z:=z) (D:=D) (many:=many) (T0:=T0) k 1 (by omega) (by omega) ks
    have hs1:ofI 1 (shF1 fs)=[1]:=rfl
    rw[hs1,show ivs [1]=[Tree.v (.int .i64 1)]from rfl]at g1
    simp only[Int.natCast_one]at g1
    have hvl:=w92 (k+1) (shF1 fs)
    have hv: ∀j,0≤vK (ofI (k+1) (shF1 fs)) j∧vK (ofI (k+1) (shF1 fs)) j≤3:=fun j=>by
     rw[zq8]
     by_cases h:j<k+1
     ·rw[if_pos h];exact ay6 fs j
     ·rw[if_neg h];omega
    have hv0:vK (ofI (k+1) (shF1 fs)) 0=1:=by rw[zq8,if_pos (by omega)];rfl
    have hsh:=ck7 z1 z2 (n:=k) (by omega) hc0 hvl hv hv0 d1 dk hA
    have hmost:(∀x,D≤x→x≤k→atS z k (vK (ofI (k+1) (shF1 fs))) x (k+1)≤0)→z^R.length≤atS z k (vK (ofI (k+1) (shF1 fs))) 0 (k+1):=fun h=>by
     have hcg: ∀u:List (El z),u.length=k→sm (fun j=>shF1 fs j*kW u j) (k+1)=atS z k (vK (ofI (k+1) (shF1 fs))) (wtE u) (k+1):=fun u hu=>by
      unfold atS
      refine vh6 fun t ht=> ?_
      rw[a57 hc0 hu,zq8,if_pos ht]
     have h9:=b84 (k:=k) (R:=R) (N:=k) hd (f:=shF1 fs) (fun j=>(ay6 fs j).1) fun u hu hw=>by
      rw[hcg u hu]
      have:=b54 u
      exact h _ hw (by omega)
     rw[hcg _ (by simp),b24,show shF1 fs 0=1 from rfl,Int.mul_one]at h9
     exact h9
    have hpos:0<z^R.length:=Int.pow_pos (by omega)
    clear hv hv0 hd hRk hRi hgE hA hp hs1 hcE hMr
    rw[←Int.not_lt]at k1 k2 k4 k5 k6
    generalize hamV z k D=HV at*
    generalize sinV z k D=SV at*
    generalize ploV z k D=PV at*
    generalize varV z k D=VV at*
    generalize (griS z (D:Int) R.length).1=GV at*
    generalize capP z k 1=P at*
    generalize z^R.length=MN at*
    generalize ofI (k+1) (shF1 fs)=ZS at*
    generalize atS z k (vK ZS) 0 (k+1)=AT at*
    have hpl:0<PV→ ¬PV<MN:=fun h=>Int.not_lt.2 (k3 h)
    rcases hsh with hsh|⟨h8,hsh⟩
    ·clear hmost
     by_cases hp0:0<PV
     ·rw[o10 rfl T4 rfl]
      unfold F4 c4
      simp(disch:=first|omega|fail) only[push_cast,seval,vrl,if_pos,if_neg,h256',e0,e1,e2,e3,hml,nb8 hD0,cw6 hc0,e4,f1,f2,f3,f4,f5,cw6 (Int.not_lt.1 k1),cw6 (Int.not_lt.1 k2),dec_lt hp0,cw6 (Int.not_lt.1 (hpl hp0)),cw6 (Int.not_lt.1 k4),cw6 (Int.not_lt.1 k5),cw6 (Int.not_lt.1 k6)]
      rw[g1]
      simp(disch:=first|omega|fail) only[push_cast,seval,vrl,if_pos,if_neg,hsh]
     ·rw[o10 rfl T4 rfl]
      unfold F4 c4
      simp(disch:=first|omega|fail) only[push_cast,seval,vrl,if_pos,if_neg,h256',e0,e1,e2,e3,hml,nb8 hD0,cw6 hc0,e4,f1,f2,f3,f4,f5,cw6 (Int.not_lt.1 k1),cw6 (Int.not_lt.1 k2),cw6 (Int.not_lt.1 hp0),cw6 (Int.not_lt.1 k4),cw6 (Int.not_lt.1 k5),cw6 (Int.not_lt.1 k6)]
      rw[g1]
      simp(disch:=first|omega|fail) only[push_cast,seval,vrl,if_pos,if_neg,hsh]
    ·have hmo:=hmost h8
     clear hmost h8
     by_cases hp0:0<PV
     ·rw[o10 rfl T4 rfl]
      unfold F4 c4
      simp(disch:=first|omega|fail) only[push_cast,seval,vrl,if_pos,if_neg,h256',e0,e1,e2,e3,hml,nb8 hD0,cw6 hc0,e4,f1,f2,f3,f4,f5,cw6 (Int.not_lt.1 k1),cw6 (Int.not_lt.1 k2),dec_lt hp0,cw6 (Int.not_lt.1 (hpl hp0)),cw6 (Int.not_lt.1 k4),cw6 (Int.not_lt.1 k5),cw6 (Int.not_lt.1 k6)]
      rw[g1]
      simp(disch:=first|omega|fail) only[push_cast,seval,vrl,if_pos,if_neg,hsh,nl3 hmo]
     ·rw[o10 rfl T4 rfl]
      unfold F4 c4
      simp(disch:=first|omega|fail) only[push_cast,seval,vrl,if_pos,if_neg,h256',e0,e1,e2,e3,hml,nb8 hD0,cw6 hc0,e4,f1,f2,f3,f4,f5,cw6 (Int.not_lt.1 k1),cw6 (Int.not_lt.1 k2),cw6 (Int.not_lt.1 hp0),cw6 (Int.not_lt.1 k4),cw6 (Int.not_lt.1 k5),cw6 (Int.not_lt.1 k6)]
      rw[g1]
      simp(disch:=first|omega|fail) only[push_cast,seval,vrl,if_pos,if_neg,hsh,nl3 hmo]
end
section
variable {h:H} {l:List AV} {ws:List Value}
theorem a23:Vm.VRL h [] (allZ h) (allZ h) [] []:=by rw[Vm.VRL]
theorem dp0(r:Vm.VRL h [] (allZ h) (allZ h) l ws)(v:Value):Vm.VRL h [] (allZ h) (allZ h) (.x v::l) (v::ws):=by
 rw[Vm.VRL];exact⟨v,ws,rfl,by rw[Vm.VR],r⟩
theorem qj4{sa:Option Addr}{c:Nat}{zs:List Int}(hr:RdI h sa c zs): ∀o,sa.map (·.block)=some o→allZ h o:=fun o ho=>by
 rcases hr with⟨rfl,_⟩|⟨_,o2,off,r2,rfl,h1,_⟩
 ·cases ho
 ·cases ho;exact h42 h1
theorem sk6(r:Vm.VRL h [] (allZ h) (allZ h) l ws){sa:Option Addr}{c:Nat}{zs:List Int}(hr:RdI h sa c zs):Vm.VRL h [] (allZ h) (allZ h) (.fz true (.sl 2 0 1 (ivs zs))::l) (.slice sa zs.length c::ws):=by
 rw[Vm.VRL];exact⟨_,ws,rfl,by rw[Vm.VR];exact pd9 hr (qj4 hr),r⟩
end
theorem p16(h:H)(s0:Option Addr)(c0:Nat)(z0:List Int)(r0:RdI h s0 c0 z0)(_:ss4 h 1 s0=true)(_:z0.length≤9223372036854775807)(a1:Int)(_: -9223372036854775808≤a1)(_:a1≤9223372036854775807)(a2:Int)(_: -9223372036854775808≤a2)(_:a2≤9223372036854775807)(a3:Int)(_: -9223372036854775808≤a3)(_:a3≤9223372036854775807)(s4:Option Addr)(c4:Nat)(z4:List Int)(r4:RdI h s4 c4 z4)(_:ss4 h 1 s4=true)(_:z4.length≤9223372036854775807):
 ∃h',call T 4 [.slice s0 z0.length c0, .int .i64 a1, .int .i64 a2, .int .i64 a3, .slice s4 z4.length c4] h=some (.bool true,h'):=
 vlaw lw2 (sk6 (dp0 (dp0 (dp0 (sk6 a23 r4) _) _) _) r0) (by apply yx4<;>assumption)
end Go.Proofs.Ytoglhlonhmmieaa
