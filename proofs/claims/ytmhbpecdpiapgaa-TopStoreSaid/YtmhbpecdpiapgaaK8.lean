/-
  store.wide is called, in the second machine. Condition: only nought gives nought. Plans of stores, in the second machine: New, Size, place, numbers, powers. Conditions: those of each theorem. Polynomials over a field: parted, with what is left; there is but one way. Condition: a field. Polynomials: may one be, trimmed, added, in the second machine. Conditions: those of each theorem. Sums, products ..
-/
import Derived.Test.YtmhbpecdpiapgaaK7
import Derived.Test.YtmhbpecdpiapgaaK0
set_option linter.unusedVariables false
set_option linter.unusedSimpArgs false
set_option linter.unusedSectionVars false
set_option maxRecDepth 100000
namespace Go.Proofs.Ytmhbpecdpiapgaa
open Go.Am Go.Vm Go.Alg
section
variable {q:Int} [IsFld q] {b:Bool} {nm nb n:Nat} {M0:List (List (El q))} {B0:List (El q)}
theorem vwnz(v:Int):o24 W 167 [.x (.int .i64 v)] []=some (.x (.bool (decide (v≠0))),[],[]):=by
 rw[o10 rfl T167 rfl]
 unfold F167 c167
 by_cases h:v=0
 ·rw[decide_eq_false (by simpa using h)]
  simp(disch:=first|omega|fail) only[push_cast,seval,ui5,lu7,y81,bj9,wrap64,dec_lt,cw6,nl3,qc6,mr8,nb8,if_pos,if_neg,mr8 h]
 ·rw[decide_eq_true h]
  simp(disch:=first|omega|fail) only[push_cast,seval,ui5,lu7,y81,bj9,wrap64,dec_lt,cw6,nl3,qc6,mr8,nb8,if_pos,if_neg,nb8 h]
theorem u53(hM0: ∀m∈M0,m.length=n)(hB0:B0.length=M0.length)(hR2:M0.length≤1000)(hn2:n≤1000)
 (hker: ∀x:Nat→El q,(∀m∈M0,(sumN n fun j=>wf m j*x j)=0)→ ∀j,j<n→x j=0):
 ∃(X:List (El q)) (ok:Bool) (T1 T2:Tree),(if ok=true then solR n M0 B0=some X else solR n M0 B0=none)∧
  o24 W 84 [.fz b (pF q), .own 0 [], .own 1 [], .x (.int .i64 n)] [.sl nm 22 1 (lls 2 (M0.map vs)), .sl nb 3 1 (ivs (vs B0))]=
   some (.tup [.own 0 [], .x (.bool ok)],[.sl (nlT (vs X)) 3 1 (ivs (vs X))],[T1,T2]):=by
 have I0:=RedI.start (n:=n+1) (a86 (b:=B0) hM0)
 obtain⟨M,B,r1,r2,r3,r4,r5⟩:=ga1 (b:=b) (nm:=nm) (nb:=nb) hM0 hB0 rfl hR2 hn2 hker n 0 M0 B0 (by omega) rfl hB0 (fun k hk=>by rw[t70 hk];exact hM0 _ (List.getElem_mem hk)) I0
 obtain⟨hnR,hs⟩:=r52 hM0 hB0 r1 r2 r3 r4
 simp only[Int.natCast_zero]at r5
 have hBl:(vs B).length=M0.length:=by rw[fi2,r2]
 have htk:(vs B).take n=vs (B.take n):=by unfold vs;rw[List.map_take]
 have hany:((vs B).drop n).any (fun v=>decide (v≠0))=(B.drop n).any fun x=>decide (x.v≠0):=by unfold vs;rw[←List.map_drop,List.any_map];rfl
 have e1:=fun b nl=>h19 (b:=b) (nl:=nl) (zs:=vs (B.take n)) (by rw[fi2,List.length_take];omega)
 have e2:=fun nl=>rq1 (nl:=nl) (l:=(vs B).drop n) (p:=fun v=>decide (v≠0)) (k:=167) vwnz rfl (bl:=false) (by rw[List.length_drop];omega)
 have e3:=fun nl=>rq1 (nl:=nl) (l:=(vs B).drop n) (p:=fun v=>decide (v≠0)) (k:=167) vwnz rfl (bl:=true) (by rw[List.length_drop];omega)
 rw[hany]at e2 e3
 have g1:=u42 (vs B) n
 rw[htk]at g1
 have g2:=yp5 (vs B) n
 have g3:((M0.length:Int)-(n:Int)).toNat=M0.length-n:=by omega
 have g4:((n:Int)-0).toNat=n:=by omega
 have g5:(ivs ((vs B).drop n)).take (M0.length-n)=ivs ((vs B).drop n):=by rw[List.take_of_length_le (by rw[gf1,List.length_drop];omega)]
 refine⟨B.take n, !((B.drop n).any fun x=>decide (x.v≠0)), .sl nm 22 1 (lls 2 (M.map vs)), .sl nb 3 1 (ivs (vs B)), ?_, ?_⟩
 ·cases h:(B.drop n).any fun x=>decide (x.v≠0)with
  |true=>rw[h]at hs;simpa using hs
  |false=>rw[h]at hs;simpa using hs
 ·rw[o10 rfl T84 rfl]
  unfold F84 c84
  simp(disch:=first|omega|fail) only[push_cast,seval,ui5,lu7,y81,bj9,wrap64,dec_lt,cw6,nl3,qc6,mr8,nb8,if_pos,if_neg]
  rw[r5]
  generalize ((B.drop n).any fun x=>decide (x.v≠0))=z at*
  simp(disch:=first|omega|fail) only[push_cast,seval,ui5,lu7,y81,bj9,wrap64,dec_lt,cw6,nl3,qc6,mr8,nb8,if_pos,if_neg,hBl,r2,g1,g2,g3,g4,g5,e1,e2,e3]
end
end Go.Proofs.Ytmhbpecdpiapgaa
namespace Go.Proofs.Ytmhbpecdpiapgaa
open Go.Am Go.Vm Go.Alg
def plT(e:Nat)(q n k d:Int):Tree:= .pt e [.v (.int .i64 q), .v (.int .i64 n), .v (.int .i64 k), .v (.int .i64 d)]
def h61(k d:Nat):Nat:=k*(k+1)/2+k*(d-k)
def dz3(q n k d:Int):Int:=if fldN q.toNat=none then 1 else if n<2∨q<n∨16<n then 4 else if k<1∨d<k∨n≤d then 6 else 0
structure PlanOK (q n:Int) (k d:Nat):Prop where
 n2:2≤n
 nq:n≤q
 n16:n≤16
 k1:1≤k
 kd:k≤d
 dn:(d:Int)<n
section
variable {q n k d:Int} {b:Bool} {nl e:Nat}
theorem tr6:o24 W 13 [.x (.int .i64 q), .x (.int .i64 n), .x (.int .i64 k), .x (.int .i64 d)] []=
 if dz3 q n k d=0 then some (.tup [.own 0 [], .x (.int .i64 0)],[plT 108 q n k d],[])else some (.tup [.x (.pointer none), .x (.int .i64 (dz3 q n k d))],[],[]):=by
 unfold dz3
 cases hn:fldN q.toNat with
 |none=>
  have e0:=ug9 hn
  rw[if_pos rfl,if_neg (by decide),o10 rfl T13 rfl]
  unfold F13 c13
  simp(disch:=first|omega|fail) only[push_cast,seval,ui5,lu7,y81,bj9,wrap64,dec_lt,cw6,nl3,qc6,mr8,nb8,if_pos,if_neg,e0]
 |some x=>
  obtain⟨p0,m0,g0,mod⟩:=x
  haveI:IsFld q:=⟨⟨p0,m0,g0,mod,hn⟩⟩
  rw[if_neg (show¬some (p0,m0,g0,mod)=none by simp)]
  rw[o10 rfl T13 rfl]
  unfold F13 c13
  by_cases h1:n<2∨q<n∨16<n
  ·rw[if_pos h1,if_neg (by decide)]
   by_cases c1:n<2
   ·simp(disch:=first|omega|fail) only[push_cast,seval,ui5,lu7,y81,bj9,wrap64,dec_lt,cw6,nl3,qc6,mr8,nb8,if_pos,if_neg,dec_lt c1]
   ·by_cases c2:q<n
    ·simp(disch:=first|omega|fail) only[push_cast,seval,ui5,lu7,y81,bj9,wrap64,dec_lt,cw6,nl3,qc6,mr8,nb8,if_pos,if_neg,cw6 (Int.not_lt.1 c1),dec_lt c2]
    ·have c3:16<n:=by omega
     simp(disch:=first|omega|fail) only[push_cast,seval,ui5,lu7,y81,bj9,wrap64,dec_lt,cw6,nl3,qc6,mr8,nb8,if_pos,if_neg,cw6 (Int.not_lt.1 c1),cw6 (Int.not_lt.1 c2),dec_lt c3]
  ·have c1: ¬n<2:=by omega
   have c2: ¬q<n:=by omega
   have c3: ¬16<n:=by omega
   rw[if_neg h1]
   by_cases h2:k<1∨d<k∨n≤d
   ·rw[if_pos h2,if_neg (by decide)]
    by_cases c4:k<1
    ·simp(disch:=first|omega|fail) only[push_cast,seval,ui5,lu7,y81,bj9,wrap64,dec_lt,cw6,nl3,qc6,mr8,nb8,if_pos,if_neg,cw6 (Int.not_lt.1 c1),cw6 (Int.not_lt.1 c2),cw6 (Int.not_lt.1 c3),dec_lt c4]
    ·by_cases c5:d<k
     ·simp(disch:=first|omega|fail) only[push_cast,seval,ui5,lu7,y81,bj9,wrap64,dec_lt,cw6,nl3,qc6,mr8,nb8,if_pos,if_neg,cw6 (Int.not_lt.1 c1),cw6 (Int.not_lt.1 c2),cw6 (Int.not_lt.1 c3),cw6 (Int.not_lt.1 c4),dec_lt c5]
     ·have c6:n≤d:=by omega
      simp(disch:=first|omega|fail) only[push_cast,seval,ui5,lu7,y81,bj9,wrap64,dec_lt,cw6,nl3,qc6,mr8,nb8,if_pos,if_neg,cw6 (Int.not_lt.1 c1),cw6 (Int.not_lt.1 c2),cw6 (Int.not_lt.1 c3),cw6 (Int.not_lt.1 c4),cw6 (Int.not_lt.1 c5),nl3 c6]
   ·have c4: ¬k<1:=by omega
    have c5: ¬d<k:=by omega
    have c6: ¬n≤d:=by omega
    rw[if_neg h2,if_pos rfl]
    simp(disch:=first|omega|fail) only[push_cast,seval,ui5,lu7,y81,bj9,wrap64,dec_lt,cw6,nl3,qc6,mr8,nb8,if_pos,if_neg,cw6 (Int.not_lt.1 c1),cw6 (Int.not_lt.1 c2),cw6 (Int.not_lt.1 c3),cw6 (Int.not_lt.1 c4),cw6 (Int.not_lt.1 c5),qc6 (Int.not_le.1 c6)]
    rfl
end
section
variable {q n:Int} {k d:Nat} {b b':Bool} {nl e:Nat}
theorem bm8(h:PlanOK q n k d):o24 W 15 [.fz b (plT e q n k d)] []=some (.x (.int .i64 (h61 k d:Nat)),[],[]):=by
 have h1:=h.n16
 have h2:=h.kd
 have h3:=h.dn
 have hk:k*(k+1)≤16*17:=Nat.mul_le_mul (by omega) (by omega)
 have hd:k*(d-k)≤16*16:=Nat.mul_le_mul (by omega) (by omega)
 have e1:(k:Int)*((k:Int)+1)=((k*(k+1):Nat):Int):=by rw[Int.natCast_mul];rfl
 have e2:(k:Int)*((d:Int)-(k:Int))=((k*(d-k):Nat):Int):=by rw[Int.natCast_mul,Int.ofNat_sub h2]
 have e3:((k*(k+1):Nat):Int).tdiv 2=((k*(k+1)/2:Nat):Int):=by rw[Int.tdiv_eq_ediv_of_nonneg (by omega)];omega
 unfold plT h61
 rw[o10 rfl T15 rfl]
 unfold F15 c15
 generalize k*(k+1)=A at*
 generalize k*(d-k)=B at*
 simp(disch:=first|omega|fail) only[push_cast,seval,ui5,lu7,y81,bj9,wrap64,dec_lt,cw6,nl3,qc6,mr8,nb8,if_pos,if_neg,e1,e2,e3]
theorem kr0 [IsFld q](v:Int):o24 W 161 [.x (.int .i64 v), .fz b (.pt e [pF q])] []=some (.x (.bool (!fok q v)),[],[]):=by
 rw[o10 rfl T161 rfl]
 unfold F161 c161
 simp(disch:=first|omega|fail) only[push_cast,seval,ui5,lu7,y81,bj9,wrap64,dec_lt,cw6,nl3,qc6,mr8,nb8,if_pos,if_neg]
theorem lt7 [IsFld q]{l:List Int}(hl:l.length≤9223372036854775807):o24 W 77 [.fz b (plT e q n k d), .fz b' (.sl nl 0 1 (ivs l))] []=some (.x (.bool (!l.any fun v=> !fok q v)),[],[]):=by
 have hf:=fun bl nl b e=>eg0 (nl:=nl) (l:=l) (bl:=bl) (k:=161) (b:=b) (t:= .pt e [pF q]) kr0 rfl hl
 unfold plT
 rw[o10 rfl T77 rfl]
 unfold F77 c77
 simp(disch:=first|omega|fail) only[push_cast,seval,ui5,lu7,y81,bj9,wrap64,dec_lt,cw6,nl3,qc6,mr8,nb8,if_pos,if_neg,hf]
end
end Go.Proofs.Ytmhbpecdpiapgaa
namespace Go.Alg
section
variable {K:Type} [FK K]
end
end Go.Alg
namespace Go.Proofs.Ytmhbpecdpiapgaa
open Go.Am Go.Vm Go.Alg
section
variable {q:Int} {b:Bool} {nl:Nat} {l:List Int}
end
section
variable {q:Int} [IsFld q] {b:Bool} {nl:Nat} {a:List (El q)}
end
end Go.Proofs.Ytmhbpecdpiapgaa
namespace Go.Alg
section
variable {K:Type} [FK K]
end
end Go.Alg
namespace Go.Proofs.Ytmhbpecdpiapgaa
open Go.Am Go.Vm Go.Alg
section
variable {q:Int} {b b':Bool} {nl nl':Nat}
end
end Go.Proofs.Ytmhbpecdpiapgaa
namespace Go.Proofs.Ytmhbpecdpiapgaa
open Go.Am Go.Vm Go.Alg
section
variable {q:Int} {b b':Bool} {nl nl':Nat}
end
end Go.Proofs.Ytmhbpecdpiapgaa
namespace Go.Alg
section
variable {K:Type} [FK K]
open Classical in
end
end Go.Alg
namespace Go.Alg
section
variable {K:Type} [FK K]
theorem qc1{n:Nat}{M:List (List K)}{b x:List K}(hM: ∀m∈M,m.length=n)(hb:b.length=M.length)(hx: ∀i,i<M.length→sumN n (fun j=>wf (M.getD i []) j*wf x j)=wf b i): ∃y,solR n M b=some y:=by
 unfold solR
 split
 ·rename_i hno
  exfalso
  obtain⟨r1,r2,r3⟩:=bi2 (a86 (b:=b) hM)
  obtain⟨a,ha,h0⟩:=List.any_eq_true.1 hno
  have h0:a.1=n:=by simpa using h0
  have hsp:Span ((augL M b).map wf) (wf a.2):=(r3 _).1 (.mem (he3.2 ⟨a,ha,rfl⟩))
  have hone:wf a.2 n=1:=by
   have:=r1.one (a.1,wf a.2) (xe5.2 ⟨a,ha,rfl⟩)
   rw[h0]at this;exact this
  have hlow: ∀k,k<n→wf a.2 k=0:=fun k hk=>by
   have:=r1.before (a.1,wf a.2) (xe5.2 ⟨a,ha,rfl⟩) k (by show k<a.1;omega)
   exact this
  have key:sumN n (fun j=>wf a.2 j*wf x j)=wf a.2 n:=by
   refine hsp.lin (P:=fun w=>sumN n (fun j=>w j*wf x j)=w n) ?_ (fun u r c hu hr=> ?_) fun r hr=> ?_
   ·exact ja4 fun j _=>zero_mul _
   ·show sumN n (fun j=>(u j+c*r j)*wf x j)=u n+c*r n
    rw[←hu,←hr,←x18,←pv3]
    exact rc1 fun j _=>by rw[add_mul,FK.mul_assoc]
   ·obtain⟨m,hm,rfl⟩:=List.mem_map.1 hr
    obtain⟨i,hi,rfl⟩:=List.getElem_of_mem hm
    have hiM:i<M.length:=by unfold augL at hi;rw[List.length_zipWith]at hi;omega
    have haug:(augL M b)[i]=M[i]++[b[i]'(by omega)]:=by simp only[augL,List.getElem_zipWith]
    have hml:M[i].length=n:=hM _ (List.getElem_mem hiM)
    have h1:=hx i hiM
    rw[List.getD_eq_getElem?_getD,List.getElem?_eq_getElem hiM]at h1
    rw[haug,n97,hml,if_pos rfl,←i66 (l:=b) (by omega),←h1]
    refine rc1 fun j hj=> ?_
    rw[n97,hml,if_neg (by omega)];rfl
  rw[hone,ja4 fun j hj=>by rw[hlow j hj,zero_mul]]at key
  exact ki7 key.symm
 ·exact⟨_,rfl⟩
end
end Go.Alg
namespace Go.Proofs.Ytmhbpecdpiapgaa
open Go.Am Go.Vm Go.Alg
def AllB(q:Nat)(L:List Int):Prop:=L.Perm (pn (List.range q))
theorem AllB.len{q:Nat}{L:List Int}(h:AllB q L):L.length=q:=by rw[h.length_eq,im5,List.length_range]
theorem swap_perm{α:Type} [DecidableEq α]{l:List α}{i j:Nat}{x y:α}(hi:l[i]? =some x)(hj:l[j]? =some y):((l.set i y).set j x).Perm l:=by
 obtain⟨h1,e1⟩:=List.getElem?_eq_some_iff.1 hi
 obtain⟨h2,e2⟩:=List.getElem?_eq_some_iff.1 hj
 refine List.perm_iff_count.2 fun a=> ?_
 by_cases hij:i=j
 ·subst hij
  rw[List.set_set,←e1,List.set_getElem_self]
 ·rw[List.count_set (by simpa using h2),List.count_set h1,List.getElem_set_ne hij]
  subst e1 e2
  have c1:l[i]∈l:=List.getElem_mem h1
  have c2:l[j]∈l:=List.getElem_mem h2
  have p1:=List.count_pos_iff.2 c1
  have p2:=List.count_pos_iff.2 c2
  by_cases ha:l[i]=a<;>by_cases hb:l[j]=a<;>simp[ha,hb]<;>(try subst ha)<;>(try subst hb)<;>omega
section
variable {raw:List Int} {b:Bool} {nl:Nat}
theorem mn8{q n:Nat}(hq:q≤1000): ∀(d i:Nat),i+d=q→ ∀ks,
 vgoL W ⟨hNo,[.tmp 6],0⟩ [0,1,2,7,8] c17L0 (.blk 0 [0,1,2,7]::ks) [(0, .fz b (.sl nl 0 1 (ivs raw))),(1, .x (.int .i64 q)),(2, .x (.int .i64 n)),(7, .own 0 []),(8, .x (.int .i64 i))] [.sl 0 3 1 (ivs (pn (List.range i)++List.replicate (q-i) 0))]=
  vgo W ⟨hNo,[.tmp 6],0⟩ ks (VFr.of [(0, .fz b (.sl nl 0 1 (ivs raw))),(1, .x (.int .i64 q)),(2, .x (.int .i64 n)),(7, .own 0 [])]) [.sl 0 3 1 (ivs (pn (List.range q)))]
 |0,i,hi,ks=>by
  obtain rfl:i=q:=by omega
  rw[Nat.sub_self,List.replicate_zero,List.append_nil,sb5 c17L0.eq_def]
  simp(disch:=first|omega|fail) only[push_cast,seval,ui5,lu7,y81,bj9,wrap64,dec_lt,cw6,nl3,qc6,mr8,nb8,if_pos,if_neg]
 |d+1,i,hi,ks=>by
  have ih:=mn8 hq (n:=n) d (i+1) (by omega) ks
  have hl:(pn (List.range i)++List.replicate (q-i) (0:Int)).length=q:=by
   rw[List.length_append,im5,List.length_range,List.length_replicate];omega
  have hs:(pn (List.range i)++List.replicate (q-i) (0:Int)).set i (i:Int)=pn (List.range (i+1))++List.replicate (q-(i+1)) 0:=by
   rw[List.set_append_right _ _ (by rw[im5,List.length_range];omega),im5,List.length_range,Nat.sub_self,show q-i=(q-(i+1))+1 by omega,List.replicate_succ,List.set_cons_zero,List.range_succ]
   unfold pn
   rw[List.map_append]
   simp
  rw[Int.natCast_add,Int.natCast_one,←hs]at ih
  generalize pn (List.range i)++List.replicate (q-i) (0:Int)=L at*
  rw[←ih,sb5 c17L0.eq_def]
  simp(disch:=first|omega|fail) only[push_cast,seval,ui5,lu7,y81,bj9,wrap64,dec_lt,cw6,nl3,qc6,mr8,nb8,if_pos,if_neg,hl]
theorem c38(hrl:raw.length≤9223372036854775807){q n:Nat}(hq:q≤1000)(hn:n≤q): ∀(d i:Nat) (L:List Int),i+d=n→AllB q L→ ∃L',AllB q L'∧ ∀(b:Bool) (nl:Nat),∀ks,
 vgoL W ⟨hNo,[.tmp 6],0⟩ [0,1,2,7,9] c17L1 (.blk 2 [2,7]::ks) [(0, .fz b (.sl nl 0 1 (ivs raw))),(1, .x (.int .i64 q)),(2, .x (.int .i64 n)),(7, .own 0 []),(9, .x (.int .i64 i))] [.sl 0 3 1 (ivs L)]=
  vgo W ⟨hNo,[.tmp 6],0⟩ ks (VFr.of [(2, .x (.int .i64 n)),(7, .own 0 [])]) [.sl 0 3 1 (ivs L')]
 |0,i,L,hi,hL=>by
  refine⟨L,hL,fun b nl ks=> ?_⟩
  rw[sb5 c17L1.eq_def]
  simp(disch:=first|omega|fail) only[push_cast,seval,ui5,lu7,y81,bj9,wrap64,dec_lt,cw6,nl3,qc6,mr8,nb8,if_pos,if_neg]
 |d+1,i,L,hi,hL=>by
  have hl:=hL.len
  have hr:=bd0 (l:=raw) (i:=(i:Int)) (by omega) (by omega)
  have e1:=fun b nl=>yc3 (b:=b) (nl:=nl) (raw:=raw) (i:=(i:Int)) (by omega) hrl
  have hpos:(0:Int)<(q:Int)-(i:Int):=by omega
  have e2:=s88 (a:=rwI raw (i:Int)) (n:=(q:Int)-(i:Int)) hr.1 hr.2 hpos
  have hk:=h60 (a:=rwI raw (i:Int)) (n:=(q:Int)-(i:Int)) hpos
  obtain⟨k,hk1,hk2⟩:=o99 hk.1 hk.2
  rw[hk1]at e2
  obtain⟨x,hx⟩:=ge6 (l:=L) (i:=i) (by omega)
  obtain⟨y,hy⟩:=ge6 (l:=L) (i:=i+k) (by omega)
  obtain⟨L',h1,h2⟩:=c38 hrl hq hn d (i+1) ((L.set i y).set (i+k) x) (by omega) ((swap_perm hx hy).trans hL)
  refine⟨L',h1,fun b nl ks=> ?_⟩
  have ih:=h2 b nl ks
  have l1:=iat hx
  have l2:=iat hy
  have w1:IntKind.wrap .i64 ((i:Int)+(k:Int))=((i+k:Nat):Int):=by rw[wrap64 (by omega) (by omega)];omega
  have l3:(L.set i y).length=q:=by rw[List.length_set,hl]
  have l4:((L.set i y).set (i+k) x).length=q:=by rw[List.length_set,l3]
  rw[Int.natCast_add,Int.natCast_one]at ih
  rw[←ih,sb5 c17L1.eq_def]
  have hik:i+k<q:=by omega
  generalize i+k=j at*
  simp(disch:=first|omega|fail) only[push_cast,seval,ui5,lu7,y81,bj9,wrap64,dec_lt,cw6,nl3,qc6,mr8,nb8,if_pos,if_neg,e1,e2,w1,l1,l2,hl,l3]
theorem mz4(hrl:raw.length≤9223372036854775807){q n:Nat}(hq:q≤1000)(hn:n≤q): ∃L:List Int,L.length=n∧L.Nodup∧(∀z∈L,0≤z∧z<q)∧ ∀(b:Bool) (nl:Nat),o24 W 17 [.fz b (.sl nl 0 1 (ivs raw)), .x (.int .i64 q), .x (.int .i64 n)] []=some (.own 0 [],[.sl 0 3 1 (ivs L)],[]):=by
 obtain⟨L',h1,h2⟩:=c38 hrl hq hn n 0 (pn (List.range q)) (by omega) (List.Perm.refl _)
 have e1:=fun b nl ks=>mn8 (raw:=raw) (b:=b) (nl:=nl) (q:=q) (n:=n) hq q 0 (by omega) ks
 have hl:=h1.len
 have hnd:L'.Nodup:=h1.nodup_iff.2 (by
  unfold pn
  rw[List.nodup_iff_pairwise_ne,List.pairwise_map]
  exact List.nodup_range.imp fun h e=>h (by omega))
 have hmem: ∀z∈L',0≤z∧z<q:=fun z hz=>by
  have:=h1.mem_iff.1 hz
  unfold pn at this
  obtain⟨k,hk,rfl⟩:=List.mem_map.1 this
  have:=List.mem_range.1 hk
  omega
 refine⟨L'.take n,by rw[List.length_take];omega,hnd.sublist (List.take_sublist _ _),fun z hz=>hmem z (List.mem_of_mem_take hz),fun b nl=> ?_⟩
 rw[show pn (List.range 0)++List.replicate (q-0) (0:Int)=List.replicate q 0 from rfl]at e1
 simp only[Int.natCast_zero]at e1 h2
 rw[o10 rfl T17 rfl]
 unfold F17 c17
 simp(disch:=first|omega|fail) only[push_cast,seval,ui5,lu7,y81,bj9,wrap64,dec_lt,cw6,nl3,qc6,mr8,nb8,if_pos,if_neg]
 rw[e1]
 simp(disch:=first|omega|fail) only[push_cast,seval,ui5,lu7,y81,bj9,wrap64,dec_lt,cw6,nl3,qc6,mr8,nb8,if_pos,if_neg]
 rw[h2]
 simp(disch:=first|omega|fail) only[push_cast,seval,ui5,lu7,y81,bj9,wrap64,dec_lt,cw6,nl3,qc6,mr8,nb8,if_pos,if_neg,hl,Int.sub_zero]
end
section
variable {a c:List Int} {b b':Bool} {nl nl':Nat}
end
end Go.Proofs.Ytmhbpecdpiapgaa
namespace Go.Proofs.Ytmhbpecdpiapgaa
open Go.Am Go.Vm Go.Alg
section
variable {q:Int} {b:Bool} {nl:Nat} {xs:List Int} {k:Int}
end
section
variable {q:Int} [hq:IsFld q]
variable {b b':Bool} {nl nl':Nat} {X m:List (El q)}
end
end Go.Proofs.Ytmhbpecdpiapgaa
namespace Go.Proofs.Ytmhbpecdpiapgaa
open Go.Am Go.Vm Go.Alg
section
variable {q:Int}
def oV:Option (El q)→Int
 |none=> -1
 |some x=>x.v
def ws(W:List (Option (El q))):List Int:=W.map oV
end
section
variable {q:Int} {b b':Bool} {nl nl':Nat}
end
end Go.Proofs.Ytmhbpecdpiapgaa
namespace Go.Proofs.Ytmhbpecdpiapgaa
open Go.Am Go.Vm Go.Alg
theorem b28{α:Type}{M:List (List α)}{b:List α}(h:b.length=M.length):(augL M b).length=M.length:=by unfold augL;rw[List.length_zipWith,h,Nat.min_self]
section
variable {q p m g:Int} [IsFld q] {t:Tree} {b b':Bool} {nl nl' nr n7 n8:Nat} {M:List (List (El q))} {A:List (Nat×List (El q))} {N:Nat}
end
end Go.Proofs.Ytmhbpecdpiapgaa
namespace Go.Proofs.Ytmhbpecdpiapgaa
open Go.Am Go.Vm Go.Alg
theorem vu3{q:Int}{M:List (List (El q))}{at' i:Nat}(hii:i≠at'):((((lls 2 (M.map vs)).set at' Tree.junk).set i Tree.junk).set at' (.sl 2 3 1 (ivs (vs (nth M i))))).set i (.sl 2 3 1 (ivs (vs (nth M at'))))=lls 2 ((swpM M at' i).map vs):=by
 have hsw:(swpM M at' i).map vs=((M.map vs).set at' (vs (nth M i))).set i (vs (nth M at')):=by unfold swpM;rw[List.map_set,List.map_set]
 rw[hsw,←y81,←y81]
 refine List.ext_getElem? fun k=> ?_
 simp only[List.getElem?_set,List.length_set]
 by_cases c1:i=k<;>by_cases c2:at'=k<;>simp[c1,c2]
theorem aw4{q:Int}{M:List (List (El q))}{i:Nat}:(lls 2 (M.map vs)).set i (.sl 2 3 1 (ivs (vs (nth M i))))=lls 2 ((swpM M i i).map vs):=by
 have hsw:(swpM M i i).map vs=((M.map vs).set i (vs (nth M i))).set i (vs (nth M i)):=by unfold swpM;rw[List.map_set,List.map_set]
 rw[y81,hsw,List.set_set]
section
variable {q:Int} [IsFld q] {b b':Bool} {nl nl' nr:Nat} {M:List (List (El q))} {y:List (El q)} {n R:Nat}
theorem gz1(hy:y.length=M.length)(hMl: ∀r∈M,r.length=n)(hn0:0<n)(hMn:M.length≤500)(hN:n≤900): ∀(d i:Nat),i+d=M.length→ ∀ks,
 vgoL W ⟨h170,[.tmp 6, .tmp 7],0⟩ [1,2,8,10,11,36,37] c170L0 (.blk 0 [8,10,11]::ks) [(1, .fz b (.sl nl 0 1 (lvs nr (M.map vs)))),(2, .fz b' (.sl nl' 0 1 (ivs (vs y)))),(8, .fz true (pF q)),(10, .x (.int .i64 n)),(11, .own 0 []),(36, .x (.int .i64 M.length)),(37, .x (.int .i64 i))] [.sl 0 22 1 (lls 2 (((augL M y).map vs).take i++List.replicate d []))]=
  vgo W ⟨h170,[.tmp 6, .tmp 7],0⟩ ks (VFr.of [(8, .fz true (pF q)),(10, .x (.int .i64 n)),(11, .own 0 [])]) [.sl 0 22 1 (lls 2 ((augL M y).map vs))]
 |0,i,hi,ks=>by
  have hl:=b28 hy
  rw[List.replicate_zero,List.append_nil,List.take_of_length_le (by rw[List.length_map];omega),sb5 c170L0.eq_def]
  simp(disch:=first|omega|fail) only[push_cast,seval,ui5,lu7,y81,bj9,wrap64,dec_lt,cw6,nl3,qc6,mr8,nb8,if_pos,if_neg]
 |d+1,i,hi,ks=>by
  obtain⟨r,hr⟩:=ge6 (l:=M) (i:=i) (by omega)
  obtain⟨x,hx⟩:=ge6 (l:=y) (i:=i) (by omega)
  have hrl:=hMl r (List.mem_of_getElem? hr)
  have hwx:wf y i=x:=by
   obtain⟨h1,h2⟩:=List.getElem?_eq_some_iff.1 hx
   rw[i66 h1,h2]
  have ih:=gz1 hy hMl hn0 hMn hN d (i+1) (by omega) ks
  have hg:((augL M y).map vs)[i]? =some (vs (r++[x])):=by
   rw[List.getElem?_map]
   have h:(augL M y)[i]? =some (r++[x]):=by unfold augL;rw[List.getElem?_zipWith,hr,hx]
   rw[h];rfl
  have hl:=b28 hy
  have hn:=l52 (n:=d) hg
  have hYl:(((augL M y).map vs).take i++List.replicate (d+1) []).length=M.length:=by
   simp only[List.length_append,List.length_take,List.length_map,List.length_replicate];omega
  rw[←hn]at ih
  generalize ((augL M y).map vs).take i++List.replicate (d+1) []=Y at ih hYl
  rw[Int.natCast_add,Int.natCast_one]at ih
  have h0:=mva (nl:=nr) hr
  have h1:=iva (l:=y) (i:=i) (by omega)
  rw[hwx]at h1
  have hcp:=fun b nl=>u27 (b:=b) (nl:=nl) (l:=vs r) (by rw[fi2];omega) (by rw[fi2];omega)
  have hv:vs r++[x.v]=vs (r++[x]):=by rw[gq8];rfl
  rw[←ih,sb5 c170L0.eq_def]
  simp(disch:=first|omega|fail) only[push_cast,seval,ui5,lu7,y81,bj9,wrap64,dec_lt,cw6,nl3,qc6,mr8,nb8,if_pos,if_neg,h0,h1,hcp,hYl,hv,y81]
theorem zw3{b b':Bool}{nl e:Nat}{r:List (El q)}{c:Nat}(hc:c<r.length)(hl:r.length≤1000):o24 W 208 [.fz b (.sl nl 0 1 (ivs (vs r))), .fz b' (.pt e [.v (.int .i64 c)])] []=some (.x (.bool (decide ((wf r c).v≠0))),[],[]):=by
 have h1:=iva (l:=r) (i:=c) hc
 rw[o10 rfl T208 rfl]
 unfold F208 c208
 simp(disch:=first|omega|fail) only[push_cast,seval,ui5,lu7,y81,bj9,wrap64,dec_lt,cw6,nl3,qc6,mr8,nb8,if_pos,if_neg,h1]
 by_cases h:(wf r c).v=0
 ·rw[decide_eq_true h,decide_eq_false (by simpa using h)];rfl
 ·rw[decide_eq_false h,decide_eq_true h];rfl
section
variable {T5:Tree} {c at' n0:Nat}
theorem gr3(hR:M.length=R)(hR2:R≤1000)(hn2:n≤1000)(hrow: ∀k,k<R→(nth M k).length=n)(hc:c<n)(hat:at'<R):
 ∀(d k:Nat),k+d=R→ ∀ks,
  vgoL W ⟨h170,[.tmp 6, .tmp 7],0⟩ [8,10,11,13,14,15,55,56,102,103] c170L1 (.blk 4 [8,10,11,13,14,55,56]::ks) [(8, .fz true (pF q)),(10, .x (.int .i64 n0)),(11, .own 0 []),(13, .own 1 []),(14, .own 2 []),(15, .x (.int .i64 at')),(55, .x (.int .i64 n0)),(56, .x (.int .i64 c)),(102, .x (.int .i64 R)),(103, .x (.int .i64 k))] [.sl 0 22 1 (lls 2 (((clrM M at' c).take k++M.drop k).map vs)),T5, .pt 3 [.v (.int .i64 c)]]=
   vgo W ⟨h170,[.tmp 6, .tmp 7],0⟩ ks (VFr.of [(8, .fz true (pF q)),(10, .x (.int .i64 n0)),(11, .own 0 []),(13, .own 1 []),(14, .own 2 []),(55, .x (.int .i64 n0)),(56, .x (.int .i64 c))]) [.sl 0 22 1 (lls 2 ((clrM M at' c).map vs)),T5, .pt 3 [.v (.int .i64 c)]]
 |0,k,hk,ks=>by
  have hcl:=wq1 M at' c
  rw[oh9 (by omega),List.append_nil,List.take_of_length_le (by omega),sb5 c170L1.eq_def]
  simp(disch:=first|omega|fail) only[push_cast,seval,ui5,lu7,y81,bj9,wrap64,dec_lt,cw6,nl3,qc6,mr8,nb8,if_pos,if_neg]
 |d+1,k,hk,ks=>by
  have ih:=gr3 hR hR2 hn2 hrow hc hat d (k+1) (by omega) ks
  have hcl:=wq1 M at' c
  have hck:=kc5 (M:=M) (at':=at') (c:=c) (k:=k) (by omega)
  have hY:((clrM M at' c).take k++M.drop k).length=R:=by simp only[List.length_append,List.length_take,List.length_drop];omega
  have hYk:((clrM M at' c).take k++M.drop k)[k]? =some (nth M k):=by
   rw[List.getElem?_append_right (by rw[List.length_take];omega),List.length_take,Nat.min_eq_left (by omega),Nat.sub_self,List.getElem?_drop,Nat.add_zero,gu3 (by omega)]
  have hYa:((clrM M at' c).take k++M.drop k)[at']? =some (nth M at'):=by
   by_cases h:at'<k
   ·rw[List.getElem?_append_left (by rw[List.length_take];omega),List.getElem?_take,if_pos h,kc5 (by omega),if_pos rfl]
   ·rw[List.getElem?_append_right (by rw[List.length_take];omega),List.length_take,Nat.min_eq_left (by omega),List.getElem?_drop,show k+(at'-k)=at' by omega,gu3 (by omega)]
  have hYn:((clrM M at' c).take k++M.drop k).set k (if k=at' then nth M k else dx9 (wf (nth M k) c) (nth M k) (nth M at'))=(clrM M at' c).take (k+1)++M.drop (k+1):=by
   rw[List.set_append_right _ _ (by rw[List.length_take];omega),List.length_take,Nat.min_eq_left (by omega),Nat.sub_self,List.drop_eq_getElem_cons (by omega:k<M.length),List.set_cons_zero,List.take_add_one,hck,List.append_assoc];rfl
  rw[←hYn]at ih
  generalize (clrM M at' c).take k++M.drop k=Y at ih hY hYk hYa
  rw[Int.natCast_add,Int.natCast_one]at ih
  have h1:=mla (nl:=2) hYk
  have h2:=mla (nl:=2) hYa
  have h3:=iva (l:=nth M k) (i:=c) (by rw[hrow k (by omega)];exact hc)
  have hsame:Y.set k (nth M k)=Y:=em1 hYk
  have hlk:=hrow k (by omega)
  have hla:=hrow at' hat
  by_cases hka:k=at'
  ·rw[if_pos hka,hsame]at ih
   rw[←ih,sb5 c170L1.eq_def]
   simp(disch:=first|omega|fail) only[push_cast,seval,ui5,lu7,y81,bj9,wrap64,dec_lt,cw6,nl3,qc6,mr8,nb8,if_pos,if_neg,h1,h2,h3,hY,hlk]
  ·rw[if_neg hka]at ih
   have hl:=fun b b' nl nl'=>nq1 (b:=b) (b':=b') (nl:=nl) (nl':=nl') (c:=wf (nth M k) c) (r:=nth M k) (o:=nth M at') (by rw[hrow k (by omega),hrow at' hat]) (by rw[hrow k (by omega)];omega)
   have hs:(lls 2 (Y.map vs)).set k (.sl 2 3 1 (ivs (vs (dx9 (wf (nth M k) c) (nth M k) (nth M at')))))=lls 2 ((Y.set k (dx9 (wf (nth M k) c) (nth M k) (nth M at'))).map vs):=by rw[y81,List.map_set]
   have hj:((lls 2 (Y.map vs)).set k Tree.junk)[k]? =some Tree.junk:=List.getElem?_set_self (by rw[qf0,List.length_map];omega)
   rw[←ih,sb5 c170L1.eq_def]
   simp(disch:=first|omega|fail) only[push_cast,seval,ui5,lu7,y81,bj9,wrap64,dec_lt,cw6,nl3,qc6,mr8,nb8,if_pos,if_neg,h1,h2,h3,hY,hlk,hl,hj,List.getElem?_set_ne,List.set_set,hs]
end
theorem wh0{M0:List (List (El q))}{n0:Nat}(hR:M0.length=R)(hR0:0<R)(hR2:R≤1000)(hn2:n≤1000)(hn0:n0<n):
 ∀(d c:Nat) (M:List (List (El q))) (P:List Nat),c+d=n0→RedI n M0 M P c→ ∃(M':List (List (El q))) (P':List Nat),RedI n M0 M' P' n0∧ ∀ks,
  vgoL W ⟨h170,[.tmp 6, .tmp 7],0⟩ [8,10,11,13,55,56] c170L2 (.blk 2 [10,11,13]::ks) [(8, .fz true (pF q)),(10, .x (.int .i64 n0)),(11, .own 0 []),(13, .own 1 []),(55, .x (.int .i64 n0)),(56, .x (.int .i64 c))] [.sl 0 22 1 (lls 2 (M.map vs)), .sl 1 3 1 (ivs (pn P))]=
   vgo W ⟨h170,[.tmp 6, .tmp 7],0⟩ ks (VFr.of [(10, .x (.int .i64 n0)),(11, .own 0 []),(13, .own 1 [])]) [.sl 0 22 1 (lls 2 (M'.map vs)), .sl 1 3 1 (ivs (pn P'))]
 |0,c,M,P,hd,I=>by
  obtain rfl:c=n0:=by omega
  refine⟨M,P,I,fun ks=> ?_⟩
  rw[sb5 c170L2.eq_def]
  simp(disch:=first|omega|fail) only[push_cast,seval,ui5,lu7,y81,bj9,wrap64,dec_lt,cw6,nl3,qc6,mr8,nb8,if_pos,if_neg]
 |d+1,c,M,P,hd,I=>by
  have hMl:M.length=R:=by rw[I.len,hR]
  have hpl:=I.pl
  have hpn:=im5 P
  have IH:=wh0 hR hR0 hR2 hn2 hn0 d (c+1)
  obtain⟨at',hat'⟩: ∃a,a=P.length:=⟨_,rfl⟩
  have hrow: ∀k,k<R→(nth M k).length=n:=fun k hk=>I.len_nth (by omega)
  obtain⟨m,hm⟩: ∃m,m=List.take (R-at') (List.drop at' (List.map vs M)):=⟨_,rfl⟩
  have hmm: ∀{j:Nat} {x:List Int},m[j]? =some x→at'+j<R∧x=vs (nth M (at'+j)):=fun{j x} h=>by
   have hj:=(List.getElem?_eq_some_iff.1 h).1
   rw[hm,List.length_take,List.length_drop,List.length_map]at hj
   rw[hm,List.getElem?_take,if_pos (by omega),List.getElem?_drop,List.getElem?_map,gu3 (by omega)]at h
   exact⟨by omega,(Option.some.inj h).symm⟩
  have hml:m.length=R-at':=by rw[hm,List.length_take,List.length_drop,List.length_map];omega
  have hk: ∀(bl b:Bool) (e:Nat),∀r∈m,o24 W 208 [.fz bl (.sl 2 0 1 (ivs r)), .fz b (.pt e [.v (.int .i64 c)])] []=some (.x (.bool (decide (gi r c≠0))),[],[]):=fun bl b e r hr=>by
   obtain⟨j,hj⟩:=List.getElem?_of_mem hr
   obtain⟨h2,rfl⟩:=hmm hj
   have:=hrow (at'+j) h2
   rw[zw3 (by omega) (by omega),v86];rfl
  have hix:=fun bl nl b e=>aj5 (bl:=bl) (nl:=nl) (nr:=2) (m:=m) (k:=208) (b:=b) (t:= .pt e [.v (.int .i64 c)]) (p:=fun r=>decide (gi r c≠0)) (hk bl b e) rfl (by omega)
  rcases nu4 (fun r=>decide (gi r c≠0)) 0 m with⟨f1,f2⟩|⟨j,x,f1,f2,f3⟩
  ·rw[f1,hm]at hix
   have I':=I.skip (by omega) (fun k h1 h2=>by
    have hmk:vs (nth M k)∈m:=by
     refine List.mem_of_getElem? (i:=k-at') ?_
     rw[hm,List.getElem?_take,if_pos (by omega),List.getElem?_drop,List.getElem?_map,gu3 (by omega),show at'+(k-at')=k by omega];rfl
    have:=f2 _ hmk
    rw[v86]at this
    have h3:(ge (nth M k) c).v=0:=by simpa using this
    exact r57.1 h3)
   obtain⟨M',P',r1,r3⟩:=IH M P (by omega) I'
   refine⟨M',P',r1,fun ks=> ?_⟩
   have ih:=r3 ks
   rw[Int.natCast_add,Int.natCast_one]at ih
   rw[←hat']at hpn
   have hnn:((M.length:Int)-(at':Int)).toNat=R-at':=by omega
   rw[←ih,sb5 c170L2.eq_def]
   simp(disch:=first|omega|fail) only[push_cast,seval,ui5,lu7,y81,bj9,wrap64,dec_lt,cw6,nl3,qc6,mr8,nb8,if_pos,if_neg,hpn,hnn,hix]
  ·have hj:=(List.getElem?_eq_some_iff.1 f2).1
   obtain⟨hR1,rfl⟩:=hmm f2
   rw[f1,Nat.zero_add,hm]at hix
   obtain⟨i,hi⟩: ∃i,i=at'+j:=⟨_,rfl⟩
   rw[←hi]at f3 hR1
   have hne:wf (nth M i) c≠0:=fun e=>by
    have h3:gi (vs (nth M i)) c≠0:=by simpa using f3
    rw[v86]at h3
    exact h3 (r57.2 e)
   have I':=qt5 I (by omega) (i:=i) (by omega) (by omega) hne
   rw[←hat']at I'
   have hscl:(sclM M at' i c).length=M.length:=np1
   have hsrow:=k39 (c:=c) (M:=M) (fun k hk=>hrow k (by omega)) (at':=at') (i:=i) (by omega) (by omega)
   have hin:=gr3 (n0:=n0) (T5:= .sl 1 3 1 (ivs (pn P))) (M:=sclM M at' i c) (R:=R) (n:=n) (c:=c) (at':=at') (by omega) hR2 hn2 (fun k hk=>hsrow k (by omega)) (by omega) (by omega) R 0 (by omega)
   obtain⟨M',P',r1,r3⟩:=IH (clrM (sclM M at' i c) at' c) (P++[c]) (by omega) I'
   refine⟨M',P',r1,fun ks=> ?_⟩
   have ih:=r3 ks
   rw[Int.natCast_add,Int.natCast_one]at ih
   rw[←hat']at hpn
   have hia:(at':Int)+(j:Int)=(i:Int):=by omega
   have hnn:((M.length:Int)-(at':Int)).toNat=R-at':=by omega
   have hla:=hrow i (by omega)
   have hlb:=hrow at' (by omega)
   have h2:=mla (nl:=2) (M:=M) (i:=i) (gu3 (by omega))
   have h3:=mla (nl:=2) (M:=M) (i:=at') (gu3 (by omega))
   have hswl:(swpM M at' i).length=M.length:=p59
   have h4:=mla (nl:=2) (M:=swpM M at' i) (i:=at') (r:=nth M i) (by rw[gu3 (by omega),fj6 (by omega) (by omega)])
   have h5:=iva (l:=nth M i) (i:=c) (by omega)
   have e2:=rl7 hne
   have hsc:=fun b nl=>em7 (b:=b) (nl:=nl) (c:=FK.inv (wf (nth M i) c)) (r:=nth M i) (by omega)
   have hs2:(lls 2 ((swpM M at' i).map vs)).set at' (.sl 2 3 1 (ivs (vs (xf5 (FK.inv (wf (nth M i) c)) (nth M i)))))=lls 2 ((sclM M at' i c).map vs):=by unfold sclM;rw[y81,List.map_set]
   have hL:(lls 2 (M.map vs)).length=R:=by rw[qf0,List.length_map];exact hMl
   simp only[e2]at hsc
   rw[List.take_zero,List.nil_append,List.drop_zero]at hin
   simp only[Int.natCast_zero]at hin
   have hpush:=aw7 P c
   have k3:((lls 2 ((swpM M at' i).map vs)).set at' Tree.junk)[at']? =some Tree.junk:=List.getElem?_set_self (by rw[qf0,List.length_map];omega)
   by_cases hii:i=at'
   ·have k1:((lls 2 (M.map vs)).set at' Tree.junk)[at']? =some Tree.junk:=List.getElem?_set_self (by omega)
    subst hii
    have k2:=aw4 (M:=M) (i:=i)
    rw[←ih,sb5 c170L2.eq_def]
    simp(disch:=first|omega|fail) only[push_cast,seval,ui5,lu7,y81,bj9,wrap64,dec_lt,cw6,nl3,qc6,mr8,nb8,if_pos,if_neg,hpn,hnn,hix,hia,h3,k1,List.set_set,k2,k3,h4,h5,hsc,hs2,hscl]
    rw[hMl,hin]
    simp(disch:=first|omega|fail) only[push_cast,seval,ui5,lu7,y81,bj9,wrap64,dec_lt,cw6,nl3,qc6,mr8,nb8,if_pos,if_neg,hpn,hpush]
   ·have k1:((lls 2 (M.map vs)).set at' Tree.junk)[i]? =some (.sl 2 3 1 (ivs (vs (nth M i)))):=by rw[List.getElem?_set_ne (by omega)];exact h2
    have k2:=vu3 (M:=M) hii
    rw[←ih,sb5 c170L2.eq_def]
    simp(disch:=first|omega|fail) only[push_cast,seval,ui5,lu7,y81,bj9,wrap64,dec_lt,cw6,nl3,qc6,mr8,nb8,if_pos,if_neg,hpn,hnn,hix,hia,h2,h3,k1,k2,k3,h4,h5,hsc,hs2,hscl,List.set_set]
    rw[hMl,hin]
    simp(disch:=first|omega|fail) only[push_cast,seval,ui5,lu7,y81,bj9,wrap64,dec_lt,cw6,nl3,qc6,mr8,nb8,if_pos,if_neg,hpn,hpush]
theorem rm1{P:List Nat}{n0:Nat}(hR:M.length=R)(hR2:R≤1000)(hrow: ∀k,k<R→(nth M k).length=n0+1)(hn2:n0≤1000)(hP:P.length≤R):
 ∀(d k:Nat),P.length+k+d=R→ ∀ks,
  vgoL W ⟨h170,[.tmp 6, .tmp 7],0⟩ [10,11,13,135,136,137] c170L3 (.blk 6 [10,11,13]::ks) [(10, .x (.int .i64 n0)),(11, .own 0 []),(13, .own 1 []),(135, .sub 0 [] 1 P.length (R-P.length)),(136, .x (.int .i64 ((R:Int)-(P.length:Int)))),(137, .x (.int .i64 k))] [.sl 0 22 1 (lls 2 (M.map vs)), .sl 1 3 1 (ivs (pn P))]=
   if((M.drop (P.length+k)).any fun r=> !decide ((wf r n0).v=0))=true then some (.tup [.x (.slice none 0 0), .x (.bool false)],[],[])else
   vgo W ⟨h170,[.tmp 6, .tmp 7],0⟩ ks (VFr.of [(10, .x (.int .i64 n0)),(11, .own 0 []),(13, .own 1 [])]) [.sl 0 22 1 (lls 2 (M.map vs)), .sl 1 3 1 (ivs (pn P))]
 |0,k,hk,ks=>by
  rw[oh9 (by omega),if_neg (by simp),sb5 c170L3.eq_def]
  simp(disch:=first|omega|fail) only[push_cast,seval,ui5,lu7,y81,bj9,wrap64,dec_lt,cw6,nl3,qc6,mr8,nb8,if_pos,if_neg]
 |d+1,k,hk,ks=>by
  have ih:=rm1 hR hR2 hrow hn2 hP d (k+1) (by omega) ks
  rw[Int.natCast_add,Int.natCast_one]at ih
  have h1:=mla (nl:=2) (M:=M) (i:=P.length+k) (gu3 (by omega))
  have h2:=iva (l:=nth M (P.length+k)) (i:=n0) (by rw[hrow _ (by omega)];omega)
  have h3:=hrow (P.length+k) (by omega)
  by_cases hz:(wf (nth M (P.length+k)) n0).v=0
  ·have hz0:=r57.1 hz
   rw[i62 (gu3 (by omega)),List.any_cons,decide_eq_true hz,Bool.not_true,Bool.false_or,show P.length+k+1=P.length+(k+1) by omega,←ih,sb5 c170L3.eq_def]
   simp(disch:=first|omega|fail) only[push_cast,seval,ui5,lu7,y81,bj9,wrap64,dec_lt,cw6,nl3,qc6,mr8,nb8,if_pos,if_neg,h1,h2,h3,mr8 hz]
  ·rw[i62 (gu3 (by omega)),List.any_cons,decide_eq_false hz,Bool.not_false,Bool.true_or,if_pos rfl,sb5 c170L3.eq_def]
   simp(disch:=first|omega|fail) only[push_cast,seval,ui5,lu7,y81,bj9,wrap64,dec_lt,cw6,nl3,qc6,mr8,nb8,if_pos,if_neg,h1,h2,h3,nb8 hz]
theorem wf6{α:Type}{M:List (List α)}{P:List Nat}{k p:Nat}(hp:P[k]? =some p)(hk:k<M.length):(outP M P)[k]? =some (p,nth M k):=by
 have h1:=(List.getElem?_eq_some_iff.1 hp).1
 unfold outP
 rw[List.getElem?_zip_eq_some]
 exact⟨hp,by rw[List.getElem?_take,if_pos h1,gu3 hk]⟩
theorem u44{P:List Nat}{n0:Nat}(hR:M.length=R)(hR2:R≤1000)(hrow: ∀k,k<R→(nth M k).length=n0+1)(hn2:n0≤1000)(hP:P.length≤R)(hPn: ∀p∈P,p<n0):
 ∀(d k:Nat) (x:List (El q)),k+d=P.length→x.length=n0→ ∀ks,
  vgoL W ⟨h170,[.tmp 6, .tmp 7],0⟩ [10,11,20,149,150,151] c170L4 (.blk 8 [20]::ks) [(10, .x (.int .i64 n0)),(11, .own 0 []),(20, .own 1 []),(149, .own 2 []),(150, .x (.int .i64 P.length)),(151, .x (.int .i64 k))] [.sl 0 22 1 (lls 2 (M.map vs)), .sl 0 3 1 (ivs (vs x)), .sl 1 3 1 (ivs (pn P))]=
   vgo W ⟨h170,[.tmp 6, .tmp 7],0⟩ ks (VFr.of [(20, .own 1 [])]) [.sl 0 22 1 (lls 2 (M.map vs)), .sl 0 3 1 (ivs (vs (setP n0 ((outP M P).drop k) x))), .sl 1 3 1 (ivs (pn P))]
 |0,k,x,hk,hx,ks=>by
  have hol:(outP M P).length=P.length:=by unfold outP;rw[List.length_zip,List.length_take];omega
  rw[oh9 (by omega),setP,sb5 c170L4.eq_def]
  simp(disch:=first|omega|fail) only[push_cast,seval,ui5,lu7,y81,bj9,wrap64,dec_lt,cw6,nl3,qc6,mr8,nb8,if_pos,if_neg]
 |d+1,k,x,hk,hx,ks=>by
  obtain⟨p,hp⟩:=ge6 (l:=P) (i:=k) (by omega)
  have hpn:=hPn p (List.mem_of_getElem? hp)
  have ho:=wf6 (M:=M) hp (by omega)
  have ih:=u44 hR hR2 hrow hn2 hP hPn d (k+1) (x.set p (wf (nth M k) n0)) (by omega) (by rw[List.length_set];exact hx) ks
  rw[Int.natCast_add,Int.natCast_one]at ih
  have h1:=mla (nl:=2) (M:=M) (i:=k) (gu3 (by omega))
  have h2:=iva (l:=nth M k) (i:=n0) (by rw[hrow k (by omega)];omega)
  have h3:(ivs (pn P))[k]? =some (.v (.int .i64 p)):=iat (by unfold pn;rw[List.getElem?_map,hp];rfl)
  have h4:=hrow k (by omega)
  have hs:=g52 x p (wf (nth M k) n0)
  have hpl:=im5 P
  rw[i62 ho,setP,←ih,sb5 c170L4.eq_def]
  simp(disch:=first|omega|fail) only[push_cast,seval,ui5,lu7,y81,bj9,wrap64,dec_lt,cw6,nl3,qc6,mr8,nb8,if_pos,if_neg,h1,h2,h3,h4,hs,hpl]
theorem ub4(hy:y.length=M.length)(hMl: ∀r∈M,r.length=n)(hM0:0<M.length)(hn0:0<n)(hMn:M.length≤500)(hN:n≤900):
 o24 W 170 [.x (.int .i64 q), .fz b (.sl nl 0 1 (lvs nr (M.map vs))), .fz b' (.sl nl' 0 1 (ivs (vs y)))] []=match solR n M y with
  |none=>some (.tup [.x (.slice none 0 0), .x (.bool false)],[],[])
  |some x=>some (.tup [.own 0 [], .x (.bool true)],[.sl 0 3 1 (ivs (vs x))],[]):=by
 have e1:=fun ks=>gz1 (b:=b) (b':=b') (nl:=nl) (nl':=nl') (nr:=nr) hy hMl hn0 hMn hN M.length 0 (by omega) ks
 rw[List.take_zero,List.nil_append]at e1
 simp only[Int.natCast_zero]at e1
 have haug:=b28 hy
 obtain⟨N',P,I,e2⟩:=wh0 (n:=n+1) (n0:=n) (M0:=augL M y) (R:=M.length) haug hM0 (by omega) (by omega) (by omega) n 0 (augL M y) [] (by omega) (RedI.start (a86 hMl))
 obtain⟨s1,s2⟩:=z55 hMl hy I
 have hNl:N'.length=M.length:=by rw[I.len,haug]
 have hrow: ∀k,k<M.length→(nth N' k).length=n+1:=fun k hk=>I.len_nth (by omega)
 have hpl:=I.pl
 have e3:=fun ks=>rm1 (M:=N') (P:=P) (n0:=n) hNl (by omega) hrow (by omega) (by omega) (M.length-P.length) 0 (by omega) ks
 have e4:=fun ks=>u44 (M:=N') (P:=P) (n0:=n) hNl (by omega) hrow (by omega) (by omega) (fun p hp=>I.lt p hp) P.length 0 (List.replicate n 0) (by omega) (by simp) ks
 rw[List.drop_zero]at e4
 simp only[Int.natCast_zero,Nat.add_zero]at e3 e4
 have hnil:ivs (pn [])=[]:=rfl
 rw[hnil]at e2
 simp only[Int.natCast_zero]at e2
 obtain⟨r0,hr0⟩:=ge6 (l:=M) (i:=0) hM0
 have h0:=mva (nl:=nr) hr0
 have hr0l:=hMl r0 (List.mem_of_getElem? hr0)
 have hz:=fc2 M.length
 have hz2:List.replicate n (0:Int)=vs (List.replicate n (0:El q)):=by rw[←qj2];rfl
 have hpnl:=im5 P
 have hsub:((M.length:Int)-(P.length:Int)).toNat=M.length-P.length:=by omega
 rw[o10 rfl T170 rfl]
 unfold F170 c170
 simp(disch:=first|omega|fail) only[push_cast,seval,ui5,lu7,y81,bj9,wrap64,dec_lt,cw6,nl3,qc6,mr8,nb8,if_pos,if_neg,h0,hr0l,hz]
 rw[e1]
 simp(disch:=first|omega|fail) only[push_cast,seval,ui5,lu7,y81,bj9,wrap64,dec_lt,cw6,nl3,qc6,mr8,nb8,if_pos,if_neg]
 rw[e2]
 simp(disch:=first|omega|fail) only[push_cast,seval,ui5,lu7,y81,bj9,wrap64,dec_lt,cw6,nl3,qc6,mr8,nb8,if_pos,if_neg,hpnl,hNl,hsub]
 rw[e3]
 have hiff:((N'.drop P.length).any fun r=> !decide ((wf r n).v=0))=true↔ ∃k,P.length≤k∧k<N'.length∧wf (nth N' k) n≠0:=by
  rw[List.any_eq_true]
  constructor
  ·rintro⟨r,hr,hne⟩
   obtain⟨i,hi⟩:=List.getElem?_of_mem hr
   rw[List.getElem?_drop]at hi
   refine⟨P.length+i,by omega,(List.getElem?_eq_some_iff.1 hi).1,fun e=> ?_⟩
   rw[xr8 hi]at e
   rw[decide_eq_true (r57.2 e)]at hne
   cases hne
  ·rintro⟨k,k1,k2,k3⟩
   refine⟨nth N' k,List.mem_of_getElem? (i:=k-P.length) (by rw[List.getElem?_drop,show P.length+(k-P.length)=k by omega,gu3 k2]), ?_⟩
   rw[decide_eq_false fun e=>k3 (r57.1 e)];rfl
 by_cases hex:((N'.drop P.length).any fun r=> !decide ((wf r n).v=0))=true
 ·rw[if_pos hex,s1 (hiff.1 hex)]
 ·rw[if_neg hex,s2 fun h=>hex (hiff.2 h)]
  simp(disch:=first|omega|fail) only[push_cast,seval,ui5,lu7,y81,bj9,wrap64,dec_lt,cw6,nl3,qc6,mr8,nb8,if_pos,if_neg,hz2,hpnl]
  rw[e4]
  simp(disch:=first|omega|fail) only[push_cast,seval,ui5,lu7,y81,bj9,wrap64,dec_lt,cw6,nl3,qc6,mr8,nb8,if_pos,if_neg]
end
end Go.Proofs.Ytmhbpecdpiapgaa
namespace Go.Proofs.Ytmhbpecdpiapgaa
open Go.Am Go.Vm Go.Alg
section
variable {q:Int} {b b':Bool} {nl nl' nr e:Nat}
theorem kd4 [IsFld q](v:Int):o24 W 169 [.x (.int .i64 v), .fz b (.pt e [pF q])] []=some (.x (.bool (!fok q v)),[],[]):=by
 rw[o10 rfl T169 rfl]
 unfold F169 c169
 simp(disch:=first|omega|fail) only[push_cast,seval,ui5,lu7,y81,bj9,wrap64,dec_lt,cw6,nl3,qc6,mr8,nb8,if_pos,if_neg]
theorem zx6 [IsFld q]{M:List (List (El q))}{y:List (El q)}{n:Nat}(hy:y.length=M.length)(h0:0<M.length)(hl:M.length≤64)(hr: ∀r∈M,r.length=n)(hn0:0<n)(hn:n≤64):
 o24 W 87 [.x (.int .i64 q), .fz b (.sl nl 0 1 (lvs nr (M.map vs))), .fz b' (.sl nl' 0 1 (ivs (vs y)))] []=match solR n M y with
  |none=>some (.tup [.x (.slice none 0 0), .x (.bool false), .x (.int .i64 0)],[],[])
  |some x=>some (.tup [.own 0 [], .x (.bool true), .x (.int .i64 0)],[.sl 0 3 1 (ivs (vs x))],[]):=by
 have h1:=sy6 hl hr hn0 hn
 have e1:=fun b nl nr=>or9 (q:=q) (M:=M.map vs) (b:=b) (nl:=nl) (nr:=nr)
 simp only[h1]at e1
 have hf:=fun bl nl b e=>eg0 (nl:=nl) (l:=vs y) (bl:=bl) (k:=169) (b:=b) (t:= .pt e [pF q]) kd4 rfl (by rw[fi2];omega)
 have hany:((vs y).any fun v=> !fok q v)=false:=List.any_eq_false.2 fun z hz=>by
  obtain⟨x,_,rfl⟩:=List.mem_map.1 hz
  rw[x.ok];decide
 simp only[hany]at hf
 have e2:=fun b nl nr b' nl'=>ub4 (b:=b) (nl:=nl) (nr:=nr) (b':=b') (nl':=nl') hy hr h0 hn0 (by omega) (by omega)
 rw[o10 rfl T87 rfl]
 unfold F87 c87
 cases hs:solR n M y with
 |none=>
  simp only[hs]at e2
  simp(disch:=first|omega|fail) only[push_cast,seval,ui5,lu7,y81,bj9,wrap64,dec_lt,cw6,nl3,qc6,mr8,nb8,if_pos,if_neg,e1,hf,e2,hy]
 |some x=>
  simp only[hs]at e2
  simp(disch:=first|omega|fail) only[push_cast,seval,ui5,lu7,y81,bj9,wrap64,dec_lt,cw6,nl3,qc6,mr8,nb8,if_pos,if_neg,e1,hf,e2,hy]
end
section
variable {α:Type} {n:Nat}
end
section
variable {q:Int} [IsFld q] {b b':Bool} {nl nl' nr:Nat} {M:List (List (El q))} {n:Nat}
end
section
variable {q:Int} {b b':Bool} {nl nl' nr e:Nat}
end
end Go.Proofs.Ytmhbpecdpiapgaa
namespace Go.Alg
section
variable {K:Type} [FK K]
end
end Go.Alg
namespace Go.Proofs.Ytmhbpecdpiapgaa
open Go.Am Go.Vm Go.Alg
section
variable {q:Int} [h:IsFld q]
theorem mc5(x:El q): ∀n:Nat,(pw x n).v=powI q x.v n
 |0=>rfl
 |n+1=>by rw[pw,ym6,mc5 x n,powI]
theorem v_pw(x:El q)(n:Nat):fpow q x.v n=(pw x n).v:=by
 obtain⟨p,m,g,mod,hn⟩:=h.ok
 obtain⟨hf,t,_⟩:=jj8 hn
 rw[mc5]
 cases n with
 |zero=>
  rw[fpow,x.ok]
  show(bif !true||((x.v==0)&&decide (((0:Nat):Int)<0))then _ else _)=_
  rw[decide_eq_false (by omega),Bool.and_false];rfl
 |succ n=>exact(v22 t hf.q2 ⟨x.lo,x.hi⟩ (n+1) (by omega)).symm
theorem xe7{K:Type} [FK K](n:Nat)(f:Nat→K):ofF (n+1) f=ofF n f++[f n]:=by
 unfold ofF;rw[List.range_succ,List.map_append];rfl
end
section
variable {q:Int} [IsFld q] {b b':Bool} {nl nl':Nat} {P:List (El q×El q)} {k:Nat}
end
end Go.Proofs.Ytmhbpecdpiapgaa
namespace Go.Proofs.Ytmhbpecdpiapgaa
open Go.Am Go.Vm Go.Alg
section
variable {q n:Int} [IsFld q] {k d:Nat} {b b':Bool} {nl nl' e:Nat}
def pwL(x:El q)(m:Nat):List (El q):=ofF m fun i=>pw x i
theorem bg9{x:El q}{m:Nat}(hm:m≤100): ∀(c i:Nat),i+c=m→ ∀ks,
 vgoL W ⟨h78,[.tmp 6],0⟩ [1,7,9,19,20] c78L0 (.blk 0 [9]::ks) [(1, .x (.int .i64 x.v)),(7, .fz true (pF q)),(9, .own 0 []),(19, .x (.int .i64 m)),(20, .x (.int .i64 i))] [.sl 1 3 1 (ivs (vs (pwL x i)))]=
  vgo W ⟨h78,[.tmp 6],0⟩ ks (VFr.of [(9, .own 0 [])]) [.sl 1 3 1 (ivs (vs (pwL x m)))]
 |0,i,hi,ks=>by
  obtain rfl:i=m:=by omega
  rw[sb5 c78L0.eq_def]
  simp(disch:=first|omega|fail) only[push_cast,seval,ui5,lu7,y81,bj9,wrap64,dec_lt,cw6,nl3,qc6,mr8,nb8,if_pos,if_neg]
 |c+1,i,hi,ks=>by
  have ih:=bg9 (x:=x) hm c (i+1) (by omega) ks
  have hpw:=v_pw x i
  have hl:=gh0 i fun i=>pw x i
  unfold pwL at ih⊢
  rw[Int.natCast_add,Int.natCast_one,xe7,gq8,show vs [pw x i]=[(pw x i).v]from rfl]at ih
  rw[←ih,sb5 c78L0.eq_def]
  generalize ofF i (fun i=>pw x i)=Z at*
  simp(disch:=first|omega|fail) only[push_cast,seval,ui5,lu7,y81,bj9,wrap64,dec_lt,cw6,nl3,qc6,mr8,nb8,if_pos,if_neg,hpw,hl]
theorem ey7{x:El q}{m:Nat}(hm:m≤100):o24 W 78 [.fz b (plT e q n k d), .x (.int .i64 x.v), .x (.int .i64 m)] []=some (.own 0 [],[.sl 1 3 1 (ivs (vs (pwL x m)))],[]):=by
 have e1:=fun ks=>bg9 (x:=x) hm m 0 (by omega) ks
 simp only[Int.natCast_zero,show vs (pwL x 0)=[]from rfl,show ivs []=[]from rfl]at e1
 unfold plT
 rw[o10 rfl T78 rfl]
 unfold F78 c78
 simp(disch:=first|omega|fail) only[push_cast,seval,ui5,lu7,y81,bj9,wrap64,dec_lt,cw6,nl3,qc6,mr8,nb8,if_pos,if_neg]
 rw[e1]
 simp(disch:=first|omega|fail) only[push_cast,seval,ui5,lu7,y81,bj9,wrap64,dec_lt,cw6,nl3,qc6,mr8,nb8,if_pos,if_neg]
end
def bu7(k d i j:Nat):Int:=if k≤min i j then-1 else if max i j<k then((min i j*k-min i j*(min i j-1)/2+max i j-min i j:Nat):Int)else((k*(k+1)/2+min i j*(d-k)+max i j-k:Nat):Int)
section
variable {q n:Int} {k d:Nat} {b b':Bool} {nl nl' e:Nat}
theorem cx4(i j:Nat):List.foldl (mm false) (i:Int) [(j:Int)]=((min i j:Nat):Int):=by
 show(if(j:Int)<(i:Int)then(j:Int)else(i:Int))=_
 split<;>omega
theorem fy9(i j:Nat):List.foldl (mm true) (i:Int) [(j:Int)]=((max i j:Nat):Int):=by
 show(if(i:Int)<(j:Int)then(j:Int)else(i:Int))=_
 split<;>omega
theorem kc6(h:PlanOK q n k d){i j:Nat}(hi:i<d)(hj:j<d)(g1:k≤min i j):o24 W 82 [.fz b (plT e q n k d), .x (.int .i64 i), .x (.int .i64 j)] []=some (.x (.int .i64 (bu7 k d i j)),[],[]):=by
 have h1:=h.n16
 have h2:=h.kd
 have h3:=h.dn
 have m1:=cx4 i j
 have m2:=fy9 i j
 have m3:min i j≤max i j:=by omega
 have m4:max i j<d:=by omega
 unfold plT bu7
 rw[o10 rfl T82 rfl]
 unfold F82 c82
 generalize min i j=a at*
 generalize max i j=c at*
 have g1':(k:Int)≤(a:Int):=by omega
 rw[if_pos g1]
 simp(disch:=first|omega|fail) only[push_cast,seval,ui5,lu7,y81,bj9,wrap64,dec_lt,cw6,nl3,qc6,mr8,nb8,if_pos,if_neg,m1,m2,nl3 g1']
theorem vh0(h:PlanOK q n k d){i j:Nat}(hi:i<d)(hj:j<d)(g1: ¬k≤min i j)(g2:max i j<k):o24 W 82 [.fz b (plT e q n k d), .x (.int .i64 i), .x (.int .i64 j)] []=some (.x (.int .i64 (bu7 k d i j)),[],[]):=by
 have h1:=h.n16
 have h2:=h.kd
 have h3:=h.dn
 have m1:=cx4 i j
 have m2:=fy9 i j
 have m3:min i j≤max i j:=by omega
 have m4:max i j<d:=by omega
 unfold plT bu7
 rw[o10 rfl T82 rfl]
 unfold F82 c82
 generalize min i j=a at*
 generalize max i j=c at*
 have g1': ¬(k:Int)≤(a:Int):=by omega
 rw[if_neg g1]
 have g2':(c:Int)<(k:Int):=by omega
 have b1:a*k≤16*16:=Nat.mul_le_mul (by omega) (by omega)
 have b2:a*(a-1)≤a*k:=Nat.mul_le_mul_left _ (by omega)
 have e1:(a:Int)*(k:Int)=((a*k:Nat):Int):=(Int.natCast_mul ..).symm
 have e2:(a:Int)*((a:Int)-1)=((a*(a-1):Nat):Int):=by
  cases a with
  |zero=>simp
  |succ a=>rw[Int.natCast_mul,Int.ofNat_sub (by omega)];rfl
 have e3:((a*(a-1):Nat):Int).tdiv 2=((a*(a-1)/2:Nat):Int):=by rw[Int.tdiv_eq_ediv_of_nonneg (by omega)];omega
 rw[if_pos g2]
 generalize a*k=A at*
 generalize a*(a-1)=B at*
 have e4:(A:Int)-((B/2:Nat):Int)+(c:Int)-(a:Int)=((A-B/2+c-a:Nat):Int):=by omega
 have b3:B/2≤256:=by omega
 generalize B/2=C at*
 have f1:=qc6 (Int.not_le.1 g1')
 have f2:=dec_lt g2'
 have b4:(A:Int)≤256:=by omega
 have b5:(B:Int)≤256:=by omega
 have b6:(c:Int)≤16:=by omega
 have b7:(a:Int)≤16:=by omega
 generalize (A-C+c-a)=R at*
 clear g1 g1' g2 g2' b1 b2 m3 m4 h1 h2 h3 h hi hj
 simp(disch:=first|omega|fail) only[push_cast,seval,ui5,lu7,y81,bj9,wrap64,dec_lt,cw6,nl3,qc6,mr8,nb8,if_pos,if_neg,m1,m2,f1,f2,e1,e2,e3,e4]
theorem p65(h:PlanOK q n k d){i j:Nat}(hi:i<d)(hj:j<d)(g1: ¬k≤min i j)(g2: ¬max i j<k):o24 W 82 [.fz b (plT e q n k d), .x (.int .i64 i), .x (.int .i64 j)] []=some (.x (.int .i64 (bu7 k d i j)),[],[]):=by
 have h1:=h.n16
 have h2:=h.kd
 have h3:=h.dn
 have m1:=cx4 i j
 have m2:=fy9 i j
 have m3:min i j≤max i j:=by omega
 have m4:max i j<d:=by omega
 unfold plT bu7
 rw[o10 rfl T82 rfl]
 unfold F82 c82
 generalize min i j=a at*
 generalize max i j=c at*
 have g1': ¬(k:Int)≤(a:Int):=by omega
 rw[if_neg g1]
 have g2': ¬(c:Int)<(k:Int):=by omega
 have b1:k*(k+1)≤16*17:=Nat.mul_le_mul (by omega) (by omega)
 have b2:a*(d-k)≤16*16:=Nat.mul_le_mul (by omega) (by omega)
 have e1:(k:Int)*((k:Int)+1)=((k*(k+1):Nat):Int):=by rw[Int.natCast_mul];rfl
 have e2:(a:Int)*((d:Int)-(k:Int))=((a*(d-k):Nat):Int):=by rw[Int.natCast_mul,Int.ofNat_sub h2]
 have e3:((k*(k+1):Nat):Int).tdiv 2=((k*(k+1)/2:Nat):Int):=by rw[Int.tdiv_eq_ediv_of_nonneg (by omega)];omega
 rw[if_neg g2]
 generalize k*(k+1)=A at*
 generalize a*(d-k)=B at*
 have b3:A/2≤256:=by omega
 generalize A/2=C at*
 have e4:(C:Int)+(B:Int)+(c:Int)-(k:Int)=((C+B+c-k:Nat):Int):=by omega
 have f1:=qc6 (Int.not_le.1 g1')
 have f2:=cw6 (Int.not_lt.1 g2')
 have b4:(A:Int)≤272:=by omega
 have b5:(B:Int)≤256:=by omega
 have b6:(c:Int)≤16:=by omega
 have b7:(k:Int)≤16:=by omega
 have b8:0≤(d:Int)-k∧(d:Int)-k≤16:=by omega
 generalize (C+B+c-k)=R at*
 clear g1 g1' g2 g2' b1 b2 m3 m4 h1 h2 h3 h hi hj
 simp(disch:=first|omega|fail) only[push_cast,seval,ui5,lu7,y81,bj9,wrap64,dec_lt,cw6,nl3,qc6,mr8,nb8,if_pos,if_neg,m1,m2,f1,f2,e1,e2,e3,e4]
theorem fm0(h:PlanOK q n k d){i j:Nat}(hi:i<d)(hj:j<d):o24 W 82 [.fz b (plT e q n k d), .x (.int .i64 i), .x (.int .i64 j)] []=some (.x (.int .i64 (bu7 k d i j)),[],[]):=by
 by_cases g1:k≤min i j
 ·exact kc6 h hi hj g1
 ·by_cases g2:max i j<k
  ·exact vh0 h hi hj g1 g2
  ·exact p65 h hi hj g1 g2
def aq0(n:Int)(seen:List Int):List Int→Int
 | []=>0
 |v::r=>if v<0∨n≤v then 10 else if seen.any (fun x=>decide (v=x))then 7 else aq0 n (seen++[v]) r
theorem bt9{l:List Int}(hl:l.length≤1000): ∀(c i:Nat),i+c=l.length→ ∀ks,
 vgoL W ⟨hNo,[.tmp 6],0⟩ [0,1,13,14,15] c81L0 (.blk 0 []::ks) [(0, .fz b (plT e q n k d)),(1, .fz b' (.sl nl 0 1 (ivs l))),(13, .fz b' (.sl nl 0 1 (ivs l))),(14, .x (.int .i64 l.length)),(15, .x (.int .i64 i))] []=
  if aq0 n (l.take i) (l.drop i)=0 then vgo W ⟨hNo,[.tmp 6],0⟩ ks (VFr.of []) []else some (.x (.int .i64 (aq0 n (l.take i) (l.drop i))),[],[])
 |0,i,hi,ks=>by
  rw[oh9 (by omega),aq0,if_pos rfl,sb5 c81L0.eq_def]
  simp(disch:=first|omega|fail) only[push_cast,seval,ui5,lu7,y81,bj9,wrap64,dec_lt,cw6,nl3,qc6,mr8,nb8,if_pos,if_neg]
 |c+1,i,hi,ks=>by
  obtain⟨v,hv⟩:=ge6 (l:=l) (i:=i) (by omega)
  have e1:=iat hv
  have ih:=bt9 hl c (i+1) (by omega) ks
  have e2:=fun bl nl=>o94 (b:=bl) (nl:=nl) (x:=v) (l:=l.take i) (by rw[List.length_take];omega)
  have htk:=u42 l i
  have hti:((i:Int)-0).toNat=i:=by omega
  rw[List.take_add_one,hv,show(some v).toList=[v]from rfl,Int.natCast_add,Int.natCast_one]at ih
  rw[i62 hv,aq0,sb5 c81L0.eq_def]
  unfold plT at*
  by_cases h1:v<0∨n≤v
  ·rw[if_pos h1,if_neg (by decide)]
   by_cases h2:v<0
   ·simp(disch:=first|omega|fail) only[push_cast,seval,ui5,lu7,y81,bj9,wrap64,dec_lt,cw6,nl3,qc6,mr8,nb8,if_pos,if_neg,e1,dec_lt h2]
   ·have h3:n≤v:=by omega
    simp(disch:=first|omega|fail) only[push_cast,seval,ui5,lu7,y81,bj9,wrap64,dec_lt,cw6,nl3,qc6,mr8,nb8,if_pos,if_neg,e1,cw6 (Int.not_lt.1 h2),nl3 h3]
  ·have h2: ¬v<0:=by omega
   have h3: ¬n≤v:=by omega
   rw[if_neg h1]
   cases hc:(l.take i).any (fun x=>decide (v=x))with
   |true=>
    rw[if_pos rfl,if_neg (by decide)]
    simp(disch:=first|omega|fail) only[push_cast,seval,ui5,lu7,y81,bj9,wrap64,dec_lt,cw6,nl3,qc6,mr8,nb8,if_pos,if_neg,e1,cw6 (Int.not_lt.1 h2),qc6 (Int.not_le.1 h3),hti,htk,e2,hc]
   |false=>
    rw[if_neg Bool.false_ne_true]
    simp(disch:=first|omega|fail) only[push_cast,seval,ui5,lu7,y81,bj9,wrap64,dec_lt,cw6,nl3,qc6,mr8,nb8,if_pos,if_neg,e1,cw6 (Int.not_lt.1 h2),qc6 (Int.not_le.1 h3),hti,htk,e2,hc]
    exact ih
end
end Go.Proofs.Ytmhbpecdpiapgaa
namespace Go.Proofs.Ytmhbpecdpiapgaa
open Go.Am Go.Vm Go.Alg
section
variable {q:Int} {b b':Bool} {nl nl' nr nr':Nat}
section
variable [IsFld q] {N:Nat} {P Q:List (List (El q))}
theorem bv3{i k:Nat}{a w:List (El q)}(hk:Q[k]? =some w)(hal:a.length=Q.length)(hwl:w.length=N)(hN:N≤1000)(hQ:Q.length≤1000)(hP:P.length≤1000){V7:Tree}: ∀(d j:Nat) (x:List (El q)),j+d=N→x.length=N→ ∀ks,
 vgoL W ⟨h79,[.tmp 6, .tmp 7],0⟩ [2,9,11,14,16,47,48,49,58,59,60,68,69,70] c79L0 (.blk 4 [2,9,11,14,47,48,49,58,59,60]::ks) [(2, .fz b' (.sl nl' 0 1 (lvs nr' (Q.map vs)))),(9, .fz true (pF q)),(11, .own 0 []),(14, .own 1 []),(16, .x (.int .i64 ((wf a k).v))),(47, .fz b (.sl nl 0 1 (lvs nr (P.map vs)))),(48, .x (.int .i64 P.length)),(49, .x (.int .i64 i)),(58, .fz b (.sl nr 0 1 (ivs (vs a)))),(59, .x (.int .i64 Q.length)),(60, .x (.int .i64 k)),(68, .fz b' (.sl nr' 0 1 (ivs (vs w)))),(69, .x (.int .i64 N)),(70, .x (.int .i64 j))] [V7, .sl 0 3 1 (ivs (vs x))]=
  vgo W ⟨h79,[.tmp 6, .tmp 7],0⟩ ks (VFr.of [(2, .fz b' (.sl nl' 0 1 (lvs nr' (Q.map vs)))),(9, .fz true (pF q)),(11, .own 0 []),(14, .own 1 []),(47, .fz b (.sl nl 0 1 (lvs nr (P.map vs)))),(48, .x (.int .i64 P.length)),(49, .x (.int .i64 i)),(58, .fz b (.sl nr 0 1 (ivs (vs a)))),(59, .x (.int .i64 Q.length)),(60, .x (.int .i64 k))]) [V7, .sl 0 3 1 (ivs (vs (mac (wf a k) w d j x)))]
 |0,j,x,hj,hx,ks=>by
  rw[mac,sb5 c79L0.eq_def]
  simp(disch:=first|omega|fail) only[push_cast,seval,ui5,lu7,y81,bj9,wrap64,dec_lt,cw6,nl3,qc6,mr8,nb8,if_pos,if_neg]
 |d+1,j,x,hj,hx,ks=>by
  have ih:=bv3 (i:=i) hk hal hwl hN hQ hP (V7:=V7) d (j+1) (x.set j (wf x j+wf a k*wf w j)) (by omega) (by rw[List.length_set];exact hx) ks
  have hk':=(List.getElem?_eq_some_iff.1 hk).1
  have h2:=iva (l:=w) (i:=j) (by omega)
  have h3:=iva (l:=x) (i:=j) (by omega)
  rw[Int.natCast_add,Int.natCast_one,←g52,on0,ym6]at ih
  rw[mac,←ih,sb5 c79L0.eq_def]
  simp(disch:=first|omega|fail) only[push_cast,seval,ui5,lu7,y81,bj9,wrap64,dec_lt,cw6,nl3,qc6,mr8,nb8,if_pos,if_neg,h2,h3]
theorem mt5{i:Nat}{a:List (El q)}(hal:a.length=Q.length)(hwl: ∀w∈Q,w.length=N)(hN:N≤1000)(hQ:Q.length≤1000)(hP:P.length≤1000){V7:Tree}: ∀(n k:Nat) (x:List (El q)),k+n=Q.length→x.length=N→ ∀ks,
 vgoL W ⟨h79,[.tmp 6, .tmp 7],0⟩ [2,9,11,14,47,48,49,58,59,60] c79L1 (.blk 2 [2,9,11,14,47,48,49]::ks) [(2, .fz b' (.sl nl' 0 1 (lvs nr' (Q.map vs)))),(9, .fz true (pF q)),(11, .own 0 []),(14, .own 1 []),(47, .fz b (.sl nl 0 1 (lvs nr (P.map vs)))),(48, .x (.int .i64 P.length)),(49, .x (.int .i64 i)),(58, .fz b (.sl nr 0 1 (ivs (vs a)))),(59, .x (.int .i64 Q.length)),(60, .x (.int .i64 k))] [V7, .sl 0 3 1 (ivs (vs x))]=
  vgo W ⟨h79,[.tmp 6, .tmp 7],0⟩ ks (VFr.of [(2, .fz b' (.sl nl' 0 1 (lvs nr' (Q.map vs)))),(9, .fz true (pF q)),(11, .own 0 []),(14, .own 1 []),(47, .fz b (.sl nl 0 1 (lvs nr (P.map vs)))),(48, .x (.int .i64 P.length)),(49, .x (.int .i64 i))]) [V7, .sl 0 3 1 (ivs (vs (prow N a (Q.drop k) k x)))]
 |0,k,x,hk,hx,ks=>by
  rw[List.drop_eq_nil_of_le (by omega),prow,sb5 c79L1.eq_def]
  simp(disch:=first|omega|fail) only[push_cast,seval,ui5,lu7,y81,bj9,wrap64,dec_lt,cw6,nl3,qc6,mr8,nb8,if_pos,if_neg]
 |n+1,k,x,hk,hx,ks=>by
  obtain⟨w,hw⟩:=ge6 (l:=Q) (i:=k) (by omega)
  have hwn:=hwl w (List.mem_of_getElem? hw)
  have ih:=mt5 (i:=i) hal hwl hN hQ hP (V7:=V7) n (k+1) (mac (wf a k) w N 0 x) (by omega) (by rw[ev4];exact hx) ks
  have e:=fun ks=>bv3 (i:=i) (b:=b) (b':=b') (nl:=nl) (nl':=nl') (nr:=nr) (nr':=nr') (a:=a) hw hal hwn hN hQ hP (V7:=V7) N 0 x (by omega) hx ks
  simp only[Int.natCast_zero,List.take_zero,List.drop_zero,rp2,lz6,x25,List.map_nil,List.length_nil]at e
  have h1:=iva (l:=a) (i:=k) (by omega)
  have h2:=mva (nl:=nr') hw
  rw[Int.natCast_add,Int.natCast_one]at ih
  rw[i62 hw,prow,←ih,sb5 c79L1.eq_def]
  simp(disch:=first|omega|fail) only[push_cast,seval,ui5,lu7,y81,bj9,wrap64,dec_lt,cw6,nl3,qc6,mr8,nb8,if_pos,if_neg,h1,h2,hwn]
  rw[e]
  simp(disch:=first|omega|fail) only[push_cast,seval,ui5,lu7,y81,bj9,wrap64,dec_lt,cw6,nl3,qc6,mr8,nb8,if_pos,if_neg]
theorem s66(hPl: ∀a∈P,a.length=Q.length)(hwl: ∀w∈Q,w.length=N)(hQ0:0<Q.length)(hN:N≤1000)(hQ:Q.length≤1000)(hP:P.length≤1000): ∀(n i:Nat),i+n=P.length→ ∀ks,
 vgoL W ⟨h79,[.tmp 6, .tmp 7],0⟩ [2,9,11,47,48,49] c79L2 (.blk 0 [11]::ks) [(2, .fz b' (.sl nl' 0 1 (lvs nr' (Q.map vs)))),(9, .fz true (pF q)),(11, .own 0 []),(47, .fz b (.sl nl 0 1 (lvs nr (P.map vs)))),(48, .x (.int .i64 P.length)),(49, .x (.int .i64 i))] [.sl 1 22 1 (lls 2 (((em6 N P Q).take i).map vs))]=
  vgo W ⟨h79,[.tmp 6, .tmp 7],0⟩ ks (VFr.of [(11, .own 0 [])]) [.sl 1 22 1 (lls 2 ((em6 N P Q).map vs))]
 |0,i,hi,ks=>by
  obtain rfl:i=P.length:=by omega
  rw[List.take_of_length_le (by simp[em6]),sb5 c79L2.eq_def]
  simp(disch:=first|omega|fail) only[push_cast,seval,ui5,lu7,y81,bj9,wrap64,dec_lt,cw6,nl3,qc6,mr8,nb8,if_pos,if_neg]
 |n+1,i,hi,ks=>by
  have ih:=s66 hPl hwl hQ0 hN hQ hP n (i+1) (by omega) ks
  obtain⟨a,ha⟩:=ge6 (l:=P) (i:=i) (by omega)
  obtain⟨w0,hw0⟩:=ge6 (l:=Q) (i:=0) hQ0
  have hw0l:=hwl w0 (List.mem_of_getElem? hw0)
  have hal:=hPl a (List.mem_of_getElem? ha)
  have h0:=mva (nl:=nr') hw0
  have h1:=mva (nl:=nr) ha
  have e:=fun ks=>mt5 (i:=i) (P:=P) (b:=b) (b':=b') (nl:=nl) (nl':=nl') (nr:=nr) (nr':=nr') hal hwl hN hQ hP (V7:= .sl 1 22 1 (lls 2 (((em6 N P Q).take i).map vs))) Q.length 0 (List.replicate N 0) (by omega) (by simp) ks
  have hz:List.replicate N (0:Int)=vs (List.replicate N (0:El q)):=by rw[←qj2];rfl
  simp only[Int.natCast_zero,List.take_zero,List.drop_zero,rp2,lz6,x25,List.map_nil,List.length_nil]at e
  have hs:(em6 N P Q).take (i+1)=(em6 N P Q).take i++[prow N a Q 0 (List.replicate N 0)]:=by
   have:(em6 N P Q)[i]? =some (prow N a Q 0 (List.replicate N 0)):=by unfold em6;rw[List.getElem?_map,ha];rfl
   rw[List.take_add_one,this];rfl
  rw[hs,List.map_append,Int.natCast_add,Int.natCast_one]at ih
  have hpl:(em6 N P Q).length=P.length:=by simp[em6]
  rw[←ih,sb5 c79L2.eq_def]
  simp(disch:=first|omega|fail) only[push_cast,seval,ui5,lu7,y81,bj9,wrap64,dec_lt,cw6,nl3,qc6,mr8,nb8,if_pos,if_neg,h0,h1,hw0l,hz,hal]
  rw[e]
  simp(disch:=first|omega|fail) only[push_cast,seval,ui5,lu7,y81,bj9,wrap64,dec_lt,cw6,nl3,qc6,mr8,nb8,if_pos,if_neg,hpl]
end
theorem t13 [IsFld q]{P Q:List (List (El q))}{N:Nat}(hP0:0<P.length)(hPl: ∀a∈P,a.length=Q.length)(hwl: ∀w∈Q,w.length=N)(hQ0:0<Q.length)(hN0:0<N)(hN:N≤64)(hQ:Q.length≤64)(hP:P.length≤64):
 o24 W 79 [.x (.int .i64 q), .fz b (.sl nl 0 1 (lvs nr (P.map vs))), .fz b' (.sl nl' 0 1 (lvs nr' (Q.map vs)))] []=some (.tup [.own 0 [], .x (.int .i64 0)],[.sl 1 22 1 (lls 2 ((em6 N P Q).map vs))],[]):=by
 have he1:=sy6 hP hPl hQ0 hQ
 have he2:=sy6 hQ hwl hN0 hN
 have hv1:=ru4 hPl
 have hv2:=ru4 hwl
 have e1:=fun b nl nr=>or9 (q:=q) (M:=P.map vs) (b:=b) (nl:=nl) (nr:=nr)
 have e2:=fun b nl nr=>or9 (q:=q) (M:=Q.map vs) (b:=b) (nl:=nl) (nr:=nr)
 obtain⟨a0,ha0⟩:=ge6 (l:=P) (i:=0) hP0
 have h5:=mva (nl:=nr) ha0
 have ha0l:=hPl a0 (List.mem_of_getElem? ha0)
 have e:=fun ks=>s66 (b:=b) (b':=b') (nl:=nl) (nl':=nl') (nr:=nr) (nr':=nr') hPl hwl hQ0 (by omega) (by omega) (by omega) P.length 0 (by omega) ks
 simp only[Int.natCast_zero,List.take_zero,List.drop_zero,rp2,lz6,x25,List.map_nil,List.length_nil]at e
 rw[o10 rfl T79 rfl]
 unfold F79 c79
 simp(disch:=first|omega|fail) only[push_cast,seval,ui5,lu7,y81,bj9,wrap64,dec_lt,cw6,nl3,qc6,mr8,nb8,if_pos,if_neg,e1,e2,he1,he2,h5,ha0l]
 rw[e]
 simp(disch:=first|omega|fail) only[push_cast,seval,ui5,lu7,y81,bj9,wrap64,dec_lt,cw6,nl3,qc6,mr8,nb8,if_pos,if_neg]
end
end Go.Proofs.Ytmhbpecdpiapgaa
namespace Go.Proofs.Ytmhbpecdpiapgaa
open Go.Am Go.Vm Go.Alg
def ofL{α:Type}(n:Nat)(f:Nat→α):List α:=(List.range n).map f
theorem u35{α:Type}(n:Nat)(f:Nat→α):(ofL n f).length=n:=by simp[ofL]
theorem ap4{α:Type}(n:Nat)(f:Nat→α):ofL (n+1) f=ofL n f++[f n]:=by unfold ofL;rw[List.range_succ,List.map_append];rfl
theorem yi8{q n:Int}{k d:Nat}(h:PlanOK q n k d){i j:Nat}(hi:i<d)(hj:j<d):bu7 k d i j<(h61 k d:Nat):=by
 have h1:=h.k1
 have h2:=h.kd
 unfold bu7 h61
 have m3:min i j≤max i j:=by omega
 have m4:max i j<d:=by omega
 generalize min i j=a at*
 generalize max i j=c at*
 have t1:k*(k+1)/2*2=k*(k+1):=by
  have:k*(k+1)%2=0:=by
   rcases Nat.mod_two_eq_zero_or_one k with h|h
   ·rw[Nat.mul_mod,h];simp
   ·rw[Nat.mul_mod,Nat.add_mod,h]
  omega
 split
 ·omega
 ·split
  ·rename_i g1 g2
   have b1:a*(a-1)/2*2=a*(a-1):=by
    have:a*(a-1)%2=0:=by
     rcases Nat.mod_two_eq_zero_or_one a with h|h
     ·rw[Nat.mul_mod,h];simp
     ·have:(a-1)%2=0:=by omega
      rw[Nat.mul_mod,this];simp
    omega
   obtain⟨t,rfl⟩: ∃t,k=a+1+t:=⟨k-a-1,by omega⟩
   have e1:(a+1+t)*(a+1+t+1)=a*a+3*a+2+2*(a*t)+3*t+t*t:=by
    simp only[Nat.add_mul,Nat.mul_add,Nat.one_mul,Nat.mul_one]
    have:=Nat.mul_comm a t
    omega
   have e2:a*(a+1+t)=a*a+a+a*t:=by simp only[Nat.mul_add,Nat.mul_one]
   have e3:a*(a-1)+a=a*a:=by
    cases a with
    |zero=>rfl
    |succ a=>rw[Nat.add_sub_cancel,Nat.mul_add (a+1) a 1];omega
   have e4:0≤t*t:=Nat.zero_le _
   omega
  ·rename_i g1 g2
   have b1:(a+1)*(d-k)≤k*(d-k):=Nat.mul_le_mul_right _ (by omega)
   rw[Nat.add_mul,Nat.one_mul]at b1
   omega
section
variable {q n:Int} [IsFld q] {k d:Nat} {b b':Bool} {nl nl' e:Nat}
def gg5(F:List (El q))(k d i j:Nat):El q:=if bu7 k d i j<0 then 0 else wf F (bu7 k d i j).toNat
def sqF(F:List (El q))(k d:Nat):List (List (El q)):=ofL d fun i=>ofF d fun j=>gg5 F k d i j
theorem gv1(h:PlanOK q n k d){F:List (El q)}(hF:F.length=h61 k d){i:Nat}(hi:i<d){T0:List Tree}(hT:T0.length=d): ∀(c j:Nat),j+c=d→ ∀ks,
 vgoL W ⟨hNo,[.tmp 4],0⟩ [0,1,5,6,15,16,31,32] c80L0 (.blk 2 [0,1,5,15,16]::ks) [(0, .fz b (plT e q n k d)),(1, .fz b' (.sl nl 0 1 (ivs (vs F)))),(5, .own 0 []),(6, .x (.int .i64 i)),(15, .x (.int .i64 d)),(16, .x (.int .i64 i)),(31, .x (.int .i64 d)),(32, .x (.int .i64 j))] [.sl nl' 22 1 (T0.set i (.sl 2 3 1 (ivs (vs (ofF j (fun j=>gg5 F k d i j)++List.replicate c 0)))))]=
  vgo W ⟨hNo,[.tmp 4],0⟩ ks (VFr.of [(0, .fz b (plT e q n k d)),(1, .fz b' (.sl nl 0 1 (ivs (vs F)))),(5, .own 0 []),(15, .x (.int .i64 d)),(16, .x (.int .i64 i))]) [.sl nl' 22 1 (T0.set i (.sl 2 3 1 (ivs (vs (ofF d fun j=>gg5 F k d i j)))))]
 |0,j,hj,ks=>by
  obtain rfl:j=d:=by omega
  unfold plT
  rw[List.replicate_zero,List.append_nil,sb5 c80L0.eq_def]
  simp(disch:=first|omega|fail) only[push_cast,seval,ui5,lu7,y81,bj9,wrap64,dec_lt,cw6,nl3,qc6,mr8,nb8,if_pos,if_neg]
 |c+1,j,hj,ks=>by
  have ih:=gv1 h hF hi hT c (j+1) (by omega) ks
  have h1:=h.n16
  have h3:=h.dn
  have e1:=fun b e=>fm0 (b:=b) (e:=e) h hi (show j<d by omega)
  have hlt:=yi8 h hi (show j<d by omega)
  have hsz:h61 k d≤1000:=by
   have h2:=h.kd
   have a1:k*(k+1)≤16*17:=Nat.mul_le_mul (by omega) (by omega)
   have a2:k*(d-k)≤16*16:=Nat.mul_le_mul (by omega) (by omega)
   unfold h61;omega
  have g1: ∀x,(T0.set i x)[i]? =some x:=fun x=>List.getElem?_set_self (by omega)
  have g2: ∀x,(T0.set i x).length=d:=fun x=>by rw[List.length_set,hT]
  have hll: ∀z:El q,(vs (ofF j (fun j=>gg5 F k d i j)++z::List.replicate c 0)).length=d:=fun z=>by
   rw[fi2,List.length_append,gh0,List.length_cons,List.length_replicate];omega
  have hset: ∀x z:El q,(vs (ofF j (fun j=>gg5 F k d i j)++z::List.replicate c 0)).set j x.v=vs (ofF j (fun j=>gg5 F k d i j)++x::List.replicate c 0):=fun x z=>by
   rw[g52]
   congr 1
   rw[List.set_append_right _ _ (by rw[gh0];omega),gh0,Nat.sub_self];rfl
  rw[xe7,List.append_assoc,List.singleton_append,Int.natCast_add,Int.natCast_one]at ih
  rw[List.replicate_succ,←ih]
  clear ih
  have hc:gg5 F k d i j=if bu7 k d i j<0 then 0 else wf F (bu7 k d i j).toNat:=rfl
  rw[sb5 c80L0.eq_def]
  unfold plT at*
  generalize bu7 k d i j=a at*
  by_cases ha:a<0
  ·rw[if_pos ha]at hc
   rw[hc]
   have ha': ¬0≤a:=by omega
   simp(disch:=first|omega|fail) only[push_cast,seval,ui5,lu7,y81,bj9,wrap64,dec_lt,cw6,nl3,qc6,mr8,nb8,if_pos,if_neg,e1,qc6 (Int.not_le.1 ha')]
  ·rw[if_neg ha]at hc
   obtain⟨A,rfl⟩: ∃A:Nat,a=A:=⟨a.toNat,by omega⟩
   rw[Int.toNat_natCast]at hc
   have e2:=iva (l:=F) (i:=A) (by omega)
   have ha':(0:Int)≤(A:Int):=by omega
   have hs:=hset (gg5 F k d i j) 0
   have hl0:=hll 0
   rw[hc]at hs⊢
   generalize vs (ofF j (fun j=>gg5 F k d i j)++0::List.replicate c 0)=R0 at*
   simp(disch:=first|omega|fail) only[push_cast,seval,ui5,lu7,y81,bj9,wrap64,dec_lt,cw6,nl3,qc6,mr8,nb8,if_pos,if_neg,e1,nl3 ha',e2,g1,g2,hl0,hs,List.set_set]
end
end Go.Proofs.Ytmhbpecdpiapgaa
namespace Go.Proofs.Ytmhbpecdpiapgaa
open Go.Am Go.Vm Go.Alg
theorem repN(x:Tree): ∀n:Nat,repT [x] n=List.replicate n x:=by
 intro n
 induction n with
 |zero=>rfl
 |succ n ih=>rw[repT,ih,List.replicate_succ];rfl
section
variable {q n:Int} [IsFld q] {k d:Nat} {b b':Bool} {nl nl' e:Nat}
def sqT(F:List (El q))(k d i c:Nat):List Tree:=lls 2 ((ofL i fun i=>ofF d fun j=>gg5 F k d i j).map vs)++List.replicate c (.sl 2 3 1 [])
theorem d35(F:List (El q))(k d i c:Nat):(sqT F k d i c).length=i+c:=by
 unfold sqT
 rw[List.length_append,qf0,List.length_map,u35,List.length_replicate]
theorem pa1(F:List (El q))(k d i c:Nat):(sqT F k d i (c+1)).set i (.sl 2 3 1 (ivs (vs (ofF d fun j=>gg5 F k d i j))))=sqT F k d (i+1) c:=by
 unfold sqT
 rw[List.set_append_right _ _ (by rw[qf0,List.length_map,u35];omega),qf0,List.length_map,u35,Nat.sub_self,List.replicate_succ,List.set_cons_zero,ap4,List.map_append,←List.singleton_append,←List.append_assoc]
 congr 1
 exact ng3 2 _ _
theorem sm0(h:PlanOK q n k d){F:List (El q)}(hF:F.length=h61 k d): ∀(c i:Nat),i+c=d→ ∀ks,
 vgoL W ⟨hNo,[.tmp 4],0⟩ [0,1,5,15,16] c80L1 (.blk 0 [5]::ks) [(0, .fz b (plT e q n k d)),(1, .fz b' (.sl nl 0 1 (ivs (vs F)))),(5, .own 0 []),(15, .x (.int .i64 d)),(16, .x (.int .i64 i))] [.sl nl' 22 1 (sqT F k d i c)]=
  vgo W ⟨hNo,[.tmp 4],0⟩ ks (VFr.of [(5, .own 0 [])]) [.sl nl' 22 1 (sqT F k d d 0)]
 |0,i,hi,ks=>by
  obtain rfl:i=d:=by omega
  unfold plT
  rw[sb5 c80L1.eq_def]
  simp(disch:=first|omega|fail) only[push_cast,seval,ui5,lu7,y81,bj9,wrap64,dec_lt,cw6,nl3,qc6,mr8,nb8,if_pos,if_neg]
 |c+1,i,hi,ks=>by
  have ih:=sm0 h hF c (i+1) (by omega) ks
  have h1:=h.n16
  have h3:=h.dn
  have hl:=d35 F k d i (c+1)
  rw[hi]at hl
  have hid:i<d:=by omega
  have e1:=fun ks=>gv1 (b:=b) (b':=b') (nl:=nl) (nl':=nl') (e:=e) h hF hid hl d 0 (by omega) ks
  have hz0:vs (ofF 0 (fun j=>gg5 F k d i j)++List.replicate d 0)=List.replicate d (0:Int):=by
   rw[show ofF 0 (fun j=>gg5 F k d i j)=[]from rfl,List.nil_append]
   unfold vs
   rw[List.map_replicate];rfl
  simp only[hz0,Int.natCast_zero,pa1]at e1
  have g1: ∀x,((sqT F k d i (c+1)).set i x)[i]? =some x:=fun x=>List.getElem?_set_self (by omega)
  have g2: ∀x,((sqT F k d i (c+1)).set i x).length=d:=fun x=>by rw[List.length_set,hl]
  rw[Int.natCast_add,Int.natCast_one]at ih
  rw[←ih,sb5 c80L1.eq_def]
  unfold plT at*
  generalize sqT F k d (i+1) c=Z1 at*
  generalize sqT F k d i (c+1)=Z at*
  simp(disch:=first|omega|fail) only[push_cast,seval,ui5,lu7,y81,bj9,wrap64,dec_lt,cw6,nl3,qc6,mr8,nb8,if_pos,if_neg,hl,g1,g2,cs7,List.length_replicate]
  rw[e1]
  simp(disch:=first|omega|fail) only[push_cast,seval,ui5,lu7,y81,bj9,wrap64,dec_lt,cw6,nl3,qc6,mr8,nb8,if_pos,if_neg]
theorem wf7(h:PlanOK q n k d){F:List (El q)}(hF:F.length=h61 k d):
 o24 W 80 [.fz b (plT e q n k d), .fz b' (.sl nl 0 1 (ivs (vs F)))] []=some (.own 0 [],[.sl 0 22 1 (lls 2 ((sqF F k d).map vs))],[]):=by
 have h1:=h.n16
 have h3:=h.dn
 have e1:=fun ks=>sm0 (b:=b) (b':=b') (nl:=nl) (nl':=0) (e:=e) h hF d 0 (by omega) ks
 have hz:sqT F k d 0 d=List.replicate d (.sl 2 3 1 []):=by unfold sqT;rfl
 have hd:sqT F k d d 0=lls 2 ((sqF F k d).map vs):=by unfold sqT sqF;rw[List.replicate_zero,List.append_nil]
 rw[hz,hd]at e1
 simp only[Int.natCast_zero]at e1
 unfold plT at*
 rw[o10 rfl T80 rfl]
 unfold F80 c80
 simp(disch:=first|omega|fail) only[push_cast,seval,ui5,lu7,y81,bj9,wrap64,dec_lt,cw6,nl3,qc6,mr8,nb8,if_pos,if_neg,repN,List.length_replicate]
 rw[e1]
 simp(disch:=first|omega|fail) only[push_cast,seval,ui5,lu7,y81,bj9,wrap64,dec_lt,cw6,nl3,qc6,mr8,nb8,if_pos,if_neg]
def ndE(q:Int) [IsFld q](a:Int):El q:=if h:0≤a∧a<q then⟨a,h.1,h.2⟩else 0
theorem ol8{a:Int}(h:0≤a∧a<q):(ndE q a).v=a:=by unfold ndE;rw[dif_pos h]
def psiF(q:Int) [IsFld q](N d:Nat):List (List (El q)):=ofL N fun i=>pwL (ndE q i) d
theorem ao2{N:Nat}(h:PlanOK q N k d){l:List Int}: ∀(c i:Nat),i+c=N→ ∀ks,
 vgoL W ⟨h16,[.tmp 4, .tmp 5],0⟩ [0,1,6,22,23] c16L0 (.blk 0 [0,1,6]::ks) [(0, .fz b (plT e q N k d)),(1, .fz b' (.sl nl 0 1 (ivs l))),(6, .own 0 []),(22, .x (.int .i64 N)),(23, .x (.int .i64 i))] [.sl 1 22 1 (lls 2 ((psiF q i d).map vs))]=
  vgo W ⟨h16,[.tmp 4, .tmp 5],0⟩ ks (VFr.of [(0, .fz b (plT e q N k d)),(1, .fz b' (.sl nl 0 1 (ivs l))),(6, .own 0 [])]) [.sl 1 22 1 (lls 2 ((psiF q N d).map vs))]
 |0,i,hi,ks=>by
  obtain rfl:i=N:=by omega
  unfold plT
  rw[sb5 c16L0.eq_def]
  simp(disch:=first|omega|fail) only[push_cast,seval,ui5,lu7,y81,bj9,wrap64,dec_lt,cw6,nl3,qc6,mr8,nb8,if_pos,if_neg]
 |c+1,i,hi,ks=>by
  have ih:=ao2 h (l:=l) c (i+1) (by omega) ks
  have h1:=h.n16
  have h2:=h.nq
  have h3:=h.dn
  have hv:=ol8 (q:=q) (a:=(i:Int)) (by omega)
  have e1:=fun b e=>ey7 (q:=q) (n:=(N:Int)) (k:=k) (d:=d) (b:=b) (e:=e) (x:=ndE q i) (m:=d) (by omega)
  rw[hv]at e1
  have hl:((psiF q i d).map vs).length≤100:=by unfold psiF;rw[List.length_map,u35];omega
  have hsn:=ng3 2 ((psiF q i d).map vs) (vs (pwL (ndE q i) d))
  have hss:(psiF q (i+1) d).map vs=(psiF q i d).map vs++[vs (pwL (ndE q i) d)]:=by unfold psiF;rw[ap4,List.map_append];rfl
  rw[hss,Int.natCast_add,Int.natCast_one]at ih
  rw[←ih,sb5 c16L0.eq_def]
  unfold plT at*
  generalize (psiF q i d).map vs=Z at*
  simp(disch:=first|omega|fail) only[push_cast,seval,ui5,lu7,y81,bj9,wrap64,dec_lt,cw6,nl3,qc6,mr8,nb8,if_pos,if_neg,e1,hsn]
end
end Go.Proofs.Ytmhbpecdpiapgaa
namespace Go.Proofs.Ytmhbpecdpiapgaa
open Go.Am Go.Vm Go.Alg
section
variable {q n:Int} [IsFld q] {k d:Nat} {b b':Bool} {nl nl' e:Nat}
theorem i41(l:List (El q)):((vs l).any fun v=> !fok q v)=false:=by
 rw[List.any_eq_false]
 intro v hv
 obtain⟨x,_,rfl⟩:=List.mem_map.1 hv
 rw[x.ok];decide
theorem size_le{N:Int}(h:PlanOK q N k d):h61 k d≤1000:=by
 have h1:=h.n16
 have h2:=h.kd
 have h3:=h.dn
 have a1:k*(k+1)≤16*17:=Nat.mul_le_mul (by omega) (by omega)
 have a2:k*(d-k)≤16*16:=Nat.mul_le_mul (by omega) (by omega)
 unfold h61;omega
theorem ij9{N:Nat}: ∀r∈psiF q N d,r.length=d:=fun r hr=>by
 unfold psiF ofL at hr
 obtain⟨i,_,rfl⟩:=List.mem_map.1 hr
 exact gh0 ..
theorem hm3{F:List (El q)}: ∀r∈sqF F k d,r.length=d:=fun r hr=>by
 unfold sqF ofL at hr
 obtain⟨i,_,rfl⟩:=List.mem_map.1 hr
 exact gh0 ..
def allF(F:List (El q))(N k d:Nat):List (List (El q)):=em6 d (psiF q N d) (sqF F k d)
theorem vq8{N:Nat}(h:PlanOK q N k d){F:List (El q)}(hF:F.length=h61 k d):
 o24 W 16 [.fz b (plT e q N k d), .fz b' (.sl nl 0 1 (ivs (vs F)))] []=some (.tup [.own 0 [], .x (.int .i64 0)],[.sl 1 22 1 (lls 2 ((allF F N k d).map vs))],[]):=by
 have h1:=h.n16
 have h2:=h.kd
 have h3:=h.dn
 have h4:=h.k1
 have h5:=h.n2
 have hs:=size_le h
 have e1:=fun b e=>bm8 (b:=b) (e:=e) h
 have e2:=fun b b' nl e=>lt7 (q:=q) (n:=(N:Int)) (k:=k) (d:=d) (b:=b) (b':=b') (nl:=nl) (e:=e) (l:=vs F) (by rw[fi2];omega)
 rw[i41]at e2
 have e3:=fun b b' nl ks=>ao2 (b:=b) (b':=b') (nl:=nl) (e:=e) h (l:=vs F) N 0 (by omega) ks
 simp only[Int.natCast_zero,show(psiF q 0 d).map vs=[]from rfl,x25]at e3
 have e4:=fun b b' nl e=>wf7 (b:=b) (b':=b') (nl:=nl) (e:=e) h hF
 have hpl:(psiF q N d).length=N:=u35 ..
 have hql:(sqF F k d).length=d:=u35 ..
 have e5:=fun b b' nl nr nl' nr'=>t13 (q:=q) (b:=b) (b':=b') (nl:=nl) (nr:=nr) (nl':=nl') (nr':=nr') (P:=psiF q N d) (Q:=sqF F k d) (N:=d) (by omega) (by rw[hql];exact ij9) hm3 (by omega) (by omega) (by omega) (by omega) (by omega)
 unfold allF
 generalize (em6 d (psiF q N d) (sqF F k d)).map vs=R at*
 generalize (psiF q N d).map vs=Ps at*
 generalize (sqF F k d).map vs=Sq at*
 unfold plT at*
 rw[o10 rfl T16 rfl]
 unfold F16 c16
 simp(disch:=first|omega|fail) only[push_cast,seval,ui5,lu7,y81,bj9,wrap64,dec_lt,cw6,nl3,qc6,mr8,nb8,if_pos,if_neg,e1,e2,hF,Bool.not_false,Bool.not_true]
 rw[e3]
 simp(disch:=first|omega|fail) only[push_cast,seval,ui5,lu7,y81,bj9,wrap64,dec_lt,cw6,nl3,qc6,mr8,nb8,if_pos,if_neg,e4,e5]
theorem y15{l:List Int}{m:Nat}(hl:l.length≤1000):
 o24 W 81 [.fz b (plT e q n k d), .fz b' (.sl nl 0 1 (ivs l)), .x (.int .i64 m)] []=some (.x (.int .i64 (if l.length=m then aq0 n [] l else 6)),[],[]):=by
 have e1:=fun ks=>bt9 (q:=q) (n:=n) (k:=k) (d:=d) (b:=b) (b':=b') (nl:=nl) (e:=e) hl l.length 0 (by omega) ks
 simp only[Int.natCast_zero,List.take_zero,List.drop_zero]at e1
 rw[o10 rfl T81 rfl]
 unfold F81 c81
 unfold plT at*
 by_cases h:l.length=m
 ·rw[if_pos h]
  subst h
  simp(disch:=first|omega|fail) only[push_cast,seval,ui5,lu7,y81,bj9,wrap64,dec_lt,cw6,nl3,qc6,mr8,nb8,if_pos,if_neg]
  rw[e1]
  by_cases hz:aq0 n [] l=0
  ·rw[if_pos hz,hz]
   simp(disch:=first|omega|fail) only[push_cast,seval,ui5,lu7,y81,bj9,wrap64,dec_lt,cw6,nl3,qc6,mr8,nb8,if_pos,if_neg]
  ·rw[if_neg hz]
 ·rw[if_neg h]
  have h': ¬(l.length:Int)=(m:Int):=by omega
  simp(disch:=first|omega|fail) only[push_cast,seval,ui5,lu7,y81,bj9,wrap64,dec_lt,cw6,nl3,qc6,mr8,nb8,if_pos,if_neg,nb8 h']
end
end Go.Proofs.Ytmhbpecdpiapgaa
namespace Go.Proofs.Ytmhbpecdpiapgaa
open Go.Am Go.Vm Go.Alg
section
variable {q n:Int} [IsFld q] {k d:Nat} {b b' b2:Bool} {nl nl' nl2 e:Nat}
theorem hn3{x:El q}{m i:Nat}(h:i<m):(pwL x m)[i]? =some (pw x i):=by
 unfold pwL ofF
 rw[List.getElem?_map,List.getElem?_range h];rfl
def hl5(H:List (El q))(x:El q)(m:Nat):El q:=sumN m fun j=>wf H j*pw x j
theorem xn0(H:List (El q))(x:El q)(m:Nat):hl5 H x (m+1)=hl5 H x m+wf H m*pw x m:=cp9 _ _
theorem ih4{H:List (El q)}(hH:H.length=d)(hd:d≤100){x:El q}: ∀(c i:Nat),i+c=d→ ∀ks,
 vgoL W ⟨hNo,[.tmp 6, .tmp 7],0⟩ [1,8,10,48,49,50] c20L0 (.blk 0 [10]::ks) [(1, .fz b' (.sl nl 0 1 (ivs (vs H)))),(8, .fz true (pF q)),(10, .x (.int .i64 (hl5 H x i).v)),(48, .own 0 []),(49, .x (.int .i64 d)),(50, .x (.int .i64 i))] [.sl 1 3 1 (ivs (vs (pwL x d)))]=
  vgo W ⟨hNo,[.tmp 6, .tmp 7],0⟩ ks (VFr.of [(10, .x (.int .i64 (hl5 H x d).v))]) [.sl 1 3 1 (ivs (vs (pwL x d)))]
 |0,i,hi,ks=>by
  obtain rfl:i=d:=by omega
  rw[sb5 c20L0.eq_def]
  simp(disch:=first|omega|fail) only[push_cast,seval,ui5,lu7,y81,bj9,wrap64,dec_lt,cw6,nl3,qc6,mr8,nb8,if_pos,if_neg]
 |c+1,i,hi,ks=>by
  have ih:=ih4 hH hd (x:=x) c (i+1) (by omega) ks
  have e1:=iva (l:=H) (i:=i) (by omega)
  have e2:=iat (show(vs (pwL x d))[i]? =some (pw x i).v by unfold vs;rw[List.getElem?_map,hn3 (by omega)];rfl)
  have hl:(vs (pwL x d)).length=d:=by rw[fi2];exact gh0 ..
  have hlH:(vs H).length=d:=by rw[fi2,hH]
  rw[xn0,on0,ym6,Int.natCast_add,Int.natCast_one]at ih
  rw[←ih,sb5 c20L0.eq_def]
  generalize vs (pwL x d)=Z at*
  generalize hl5 H x i=S at*
  simp(disch:=first|omega|fail) only[push_cast,seval,ui5,lu7,y81,bj9,wrap64,dec_lt,cw6,nl3,qc6,mr8,nb8,if_pos,if_neg,e1,e2,hl,hlH]
theorem sl9{N:Nat}(h:PlanOK q N k d){H:List (El q)}(hH:H.length=d){lost:Int}(l0:0≤lost)(l1:lost<N):
 o24 W 20 [.fz b (plT e q N k d), .fz b' (.sl nl 0 1 (ivs (vs H))), .x (.int .i64 lost)] []=some (.tup [.x (.int .i64 (hl5 H (ndE q lost) d).v), .x (.int .i64 0)],[],[]):=by
 have h1:=h.n16
 have h2:=h.nq
 have h3:=h.dn
 have hv:=ol8 (q:=q) (a:=lost) (by omega)
 have e1:=fun b b' nl e=>lt7 (q:=q) (n:=(N:Int)) (k:=k) (d:=d) (b:=b) (b':=b') (nl:=nl) (e:=e) (l:=vs H) (by rw[fi2];omega)
 rw[i41]at e1
 have e2:=fun b e=>ey7 (q:=q) (n:=(N:Int)) (k:=k) (d:=d) (b:=b) (e:=e) (x:=ndE q lost) (m:=d) (by omega)
 rw[hv]at e2
 have e3:=fun b' nl ks=>ih4 (b':=b') (nl:=nl) hH (by omega) (x:=ndE q lost) d 0 (by omega) ks
 simp only[Int.natCast_zero,show(hl5 H (ndE q lost) 0).v=0 from rfl]at e3
 have hl:(pwL (ndE q lost) d).length=d:=gh0 ..
 have c1: ¬lost<0:=by omega
 have c2: ¬(N:Int)≤lost:=by omega
 unfold plT at*
 rw[o10 rfl T20 rfl]
 unfold F20 c20
 simp(disch:=first|omega|fail) only[push_cast,seval,ui5,lu7,y81,bj9,wrap64,dec_lt,cw6,nl3,qc6,mr8,nb8,if_pos,if_neg,hH,e1,Bool.not_true,Bool.not_false,cw6 (Int.not_lt.1 c1),qc6 (Int.not_le.1 c2),e2,hl]
 rw[e3]
 simp(disch:=first|omega|fail) only[push_cast,seval,ui5,lu7,y81,bj9,wrap64,dec_lt,cw6,nl3,qc6,mr8,nb8,if_pos,if_neg]
def psiL(q:Int) [IsFld q](l:List Int)(d:Nat):List (List (El q)):=l.map fun v=>pwL (ndE q v) d
theorem j66{N:Nat}(h:PlanOK q N k d){l hs:List Int}(hl:l.length≤100)(hl2: ∀v∈l,0≤v∧v<N): ∀(c i:Nat),i+c=l.length→ ∀ks,
 vgoL W ⟨h21,[.tmp 8, .tmp 9],0⟩ [0,3,11,49,50,51] c21L0 (.blk 0 [0,3,11]::ks) [(0, .fz b (plT e q N k d)),(3, .fz b' (.sl nl 0 1 (ivs hs))),(11, .own 0 []),(49, .fz b2 (.sl nl2 0 1 (ivs l))),(50, .x (.int .i64 l.length)),(51, .x (.int .i64 i))] [.sl 1 22 1 (lls 2 ((psiL q (l.take i) d).map vs))]=
  vgo W ⟨h21,[.tmp 8, .tmp 9],0⟩ ks (VFr.of [(0, .fz b (plT e q N k d)),(3, .fz b' (.sl nl 0 1 (ivs hs))),(11, .own 0 [])]) [.sl 1 22 1 (lls 2 ((psiL q l d).map vs))]
 |0,i,hi,ks=>by
  unfold plT
  rw[List.take_of_length_le (by omega),sb5 c21L0.eq_def]
  simp(disch:=first|omega|fail) only[push_cast,seval,ui5,lu7,y81,bj9,wrap64,dec_lt,cw6,nl3,qc6,mr8,nb8,if_pos,if_neg]
 |c+1,i,hi,ks=>by
  have ih:=j66 h (hs:=hs) hl hl2 c (i+1) (by omega) ks
  have h1:=h.n16
  have h2:=h.nq
  have h3:=h.dn
  obtain⟨v,hv⟩:=ge6 (l:=l) (i:=i) (by omega)
  have hvr:=hl2 v (List.mem_of_getElem? hv)
  have e0:=iat hv
  have hvv:=ol8 (q:=q) (a:=v) (by omega)
  have e1:=fun b e=>ey7 (q:=q) (n:=(N:Int)) (k:=k) (d:=d) (b:=b) (e:=e) (x:=ndE q v) (m:=d) (by omega)
  rw[hvv]at e1
  have hll:((psiL q (l.take i) d).map vs).length≤100:=by unfold psiL;rw[List.length_map,List.length_map,List.length_take];omega
  have hsn:=ng3 2 ((psiL q (l.take i) d).map vs) (vs (pwL (ndE q v) d))
  have hss:(psiL q (l.take (i+1)) d).map vs=(psiL q (l.take i) d).map vs++[vs (pwL (ndE q v) d)]:=by unfold psiL;rw[List.take_add_one,hv,List.map_append,List.map_append];rfl
  rw[hss,Int.natCast_add,Int.natCast_one]at ih
  rw[←ih,sb5 c21L0.eq_def]
  unfold plT at*
  generalize (psiL q (l.take i) d).map vs=Z at*
  simp(disch:=first|omega|fail) only[push_cast,seval,ui5,lu7,y81,bj9,wrap64,dec_lt,cw6,nl3,qc6,mr8,nb8,if_pos,if_neg,e0,e1,hsn]
theorem od8{l:List Int}: ∀r∈psiL q l d,r.length=d:=fun r hr=>by
 unfold psiL at hr
 obtain⟨v,_,rfl⟩:=List.mem_map.1 hr
 exact gh0 ..
theorem u14{N:Nat}(h:PlanOK q N k d){l:List Int}{H x:List (El q)}(hl:l.length=d)(hl2: ∀v∈l,0≤v∧v<N)(hs:aq0 N [] l=0){lost:Int}(l0:0≤lost)(l1:lost<N)(hn:(l.any fun y=>decide (lost=y))=false)(hH:H.length=d)(hx:solR d (psiL q l d) H=some x):
 o24 W 21 [.fz b (plT e q N k d), .x (.int .i64 lost), .fz b' (.sl nl 0 1 (ivs l)), .fz b2 (.sl nl2 0 1 (ivs (vs H)))] []=some (.tup [.own 0 [], .x (.int .i64 0)],[.sl 0 3 1 (ivs (vs x))],[]):=by
 have h1:=h.n16
 have h2:=h.kd
 have h3:=h.dn
 have h4:=h.k1
 have e1:=fun b b' nl e=>y15 (q:=q) (n:=(N:Int)) (k:=k) (d:=d) (b:=b) (b':=b') (nl:=nl) (e:=e) (l:=l) (m:=d) (by omega)
 simp only[if_pos hl,hs]at e1
 have e2:=fun bl nl=>o94 (b:=bl) (nl:=nl) (x:=lost) (l:=l) (by omega)
 simp only[hn]at e2
 have e3:=fun b b' nl e=>lt7 (q:=q) (n:=(N:Int)) (k:=k) (d:=d) (b:=b) (b':=b') (nl:=nl) (e:=e) (l:=vs H) (by rw[fi2];omega)
 rw[i41]at e3
 have e4:=fun b b2 nl nl2 e ks=>j66 (b:=b) (b':=b2) (nl:=nl2) (b2:=b') (nl2:=nl) (e:=e) h (l:=l) (hs:=vs H) (by omega) hl2 l.length 0 (by omega) ks
 simp only[Int.natCast_zero,List.take_zero,show(psiL q [] d).map vs=[]from rfl,x25]at e4
 have hpl:(psiL q l d).length=d:=by unfold psiL;rw[List.length_map,hl]
 have e5:=fun b b' nl nr nl'=>zx6 (q:=q) (b:=b) (b':=b') (nl:=nl) (nr:=nr) (nl':=nl') (M:=psiL q l d) (y:=H) (n:=d) (by rw[hpl,hH]) (by omega) (by omega) od8 (by omega) (by omega)
 simp only[hx]at e5
 have c1: ¬lost<0:=by omega
 have c2: ¬(N:Int)≤lost:=by omega
 have hlH:(vs H).length=d:=by rw[fi2,hH]
 unfold plT at*
 rw[o10 rfl T21 rfl]
 unfold F21 c21
 simp(disch:=first|omega|fail) only[push_cast,seval,ui5,lu7,y81,bj9,wrap64,dec_lt,cw6,nl3,qc6,mr8,nb8,if_pos,if_neg,cw6 (Int.not_lt.1 c1),qc6 (Int.not_le.1 c2),e1,e2,e3,hl,hH,Bool.not_true,Bool.not_false]
 rw[hl]at e4
 rw[e4]
 generalize (psiL q l d).map vs=Ps at*
 simp(disch:=first|omega|fail) only[push_cast,seval,ui5,lu7,y81,bj9,wrap64,dec_lt,cw6,nl3,qc6,mr8,nb8,if_pos,if_neg,e5]
end
end Go.Proofs.Ytmhbpecdpiapgaa
namespace Go.Proofs.Ytmhbpecdpiapgaa
open Go.Am Go.Vm Go.Alg
section
variable {K:Type} [FK K]
theorem kj5(N:Nat)(a:List K): ∀(Q:List (List K)) (k:Nat) (x:List K) (i:Nat),x.length=N→i<N→wf (prow N a Q k x) i=wf x i+sumN Q.length fun j=>wf a (k+j)*wf (nth Q j) i
 | [],k,x,i,hx,hi=>by rw[prow];show _=wf x i+sumN 0 _;rw[wr8,FK.add_zero]
 |w::Q,k,x,i,hx,hi=>by
  rw[prow,kj5 N a Q (k+1) _ i (by rw[ev4];exact hx) hi,ga7 _ _ _ _ _ _ (by omega),if_pos (by omega),List.length_cons,c66,FK.add_assoc]
  congr 2
  exact rc1 fun j _=>by rw[show k+1+j=k+(j+1) by omega];rfl
theorem tl9(m n:Nat)(f:Nat→Nat→K):sumN m (fun i=>sumN n fun j=>f i j)=sumN n fun j=>sumN m fun i=>f i j:=j53 _ _ _
theorem qh4(n:Nat)(f:Nat→K)(c:K):sumN n f*c=sumN n fun i=>f i*c:=(ue3 c f _).symm
end
section
variable {q:Int} [IsFld q] {k d N:Nat}
theorem ms5(k d i j:Nat):bu7 k d i j=bu7 k d j i:=by unfold bu7;rw[Nat.min_comm,Nat.max_comm]
theorem eb3(F:List (El q))(i j:Nat):gg5 F k d i j=gg5 F k d j i:=by unfold gg5;rw[ms5]
theorem dv2{m:Nat}{f:Nat→El q}{j:Nat}(hj:j<m):wf (ofF m f) j=f j:=by
 unfold wf ofF;rw[List.getD_eq_getElem?_getD,List.getElem?_map,List.getElem?_range hj];rfl
theorem wi3{α:Type}{m:Nat}{f:Nat→List α}{j:Nat}(hj:j<m):nth (ofL m f) j=f j:=by
 unfold nth ofL;rw[List.getD_eq_getElem?_getD,List.getElem?_map,List.getElem?_range hj];rfl
def rowA(F:List (El q))(N k d:Nat)(v:Nat):List (El q):=nth (allF F N k d) v
theorem xh8{F:List (El q)}{v:Nat}(hv:v<N):(rowA F N k d v).length=d:=by
 unfold rowA allF em6
 rw[t70 (by rw[List.length_map];unfold psiF;rw[u35];exact hv),List.getElem_map,kv3,List.length_replicate]
theorem ux4{F:List (El q)}{v j:Nat}(hv:v<N)(hj:j<d):wf (rowA F N k d v) j=sumN d fun t=>pw (ndE q v) t*gg5 F k d t j:=by
 have hp:v<(psiF q N d).length:=by unfold psiF;rw[u35];exact hv
 have hps:(psiF q N d)[v]=pwL (ndE q v) d:=by rw[←t70 hp];unfold psiF;exact wi3 hv
 unfold rowA allF em6
 rw[t70 (by rw[List.length_map];exact hp),List.getElem_map,kj5 d _ _ _ _ _ (by simp) hj,hps]
 have hz:wf (List.replicate d (0:El q)) j=0:=by unfold wf;rw[List.getD_eq_getElem?_getD,List.getElem?_replicate,if_pos hj];rfl
 have hs:(sqF F k d).length=d:=u35 ..
 rw[hz,zero_add,hs]
 refine rc1 fun t ht=> ?_
 rw[Nat.zero_add]
 unfold pwL sqF
 rw[dv2 ht,wi3 ht,dv2 hj]
theorem zp9{F:List (El q)}{v w:Nat}(hv:v<N)(hw:w<N):hl5 (rowA F N k d v) (ndE q w) d=sumN d fun t=>pw (ndE q v) t*wf (rowA F N k d w) t:=by
 unfold hl5
 have h1:(sumN d fun j=>wf (rowA F N k d v) j*pw (ndE q w) j)=sumN d fun j=>sumN d fun t=>pw (ndE q v) t*gg5 F k d t j*pw (ndE q w) j:=rc1 fun j hj=>by
  rw[ux4 hv hj,qh4]
 rw[h1,tl9]
 refine rc1 fun t ht=> ?_
 rw[ux4 hw ht,←x18]
 refine rc1 fun j hj=> ?_
 rw[FK.mul_assoc,eb3 F j t,FK.mul_comm (gg5 F k d t j)]
theorem ty7{a b:Int}(ha:0≤a∧a<q)(hb:0≤b∧b<q)(h:ndE q a=ndE q b):a=b:=by
 have:=congrArg El.v h
 rwa [ol8 ha,ol8 hb]at this
theorem wz4{l:List Int}(hn:l.Nodup)(hl: ∀v∈l,0≤v∧v<q):(l.map (ndE q)).Nodup:=by
 rw[List.Nodup,List.pairwise_map]
 exact List.Pairwise.imp_of_mem (fun ha hb h e=>h (ty7 (hl _ ha) (hl _ hb) e)) hn
theorem n18{l:List Int}{i:Nat}{v:Int}(hv:l[i]? =some v)(y:List (El q))(hy:y.length≤d):(sumN d fun j=>wf ((psiL q l d).getD i []) j*wf y j)=ev y (ndE q v):=by
 have:(psiL q l d).getD i []=pwL (ndE q v) d:=by unfold psiL;rw[List.getD_eq_getElem?_getD,List.getElem?_map,hv];rfl
 rw[this,tf2 y _ d hy]
 refine rc1 fun j hj=> ?_
 unfold pwL
 rw[dv2 hj,FK.mul_comm]
theorem ea0{F:List (El q)}{l:List Int}(hnq:(N:Int)≤q)(hn:l.Nodup)(hld:l.length=d)(hl: ∀v∈l,0≤v∧v<N){w:Nat}(hw:w<N):solR d (psiL q l d) (l.map fun v=>hl5 (rowA F N k d v.toNat) (ndE q w) d)=some (rowA F N k d w):=by
 have hwl:=xh8 (F:=F) (k:=k) (d:=d) hw
 have hpl:(psiL q l d).length=d:=by unfold psiL;rw[List.length_map,hld]
 have hbl:(l.map fun v=>hl5 (rowA F N k d v.toNat) (ndE q w) d).length=(psiL q l d).length:=by rw[List.length_map,hpl,hld]
 have heq: ∀i v,l[i]? =some v→wf (l.map fun v=>hl5 (rowA F N k d v.toNat) (ndE q w) d) i=ev (rowA F N k d w) (ndE q v):=fun i v hv=>by
  obtain⟨h0,h1⟩:=hl v (List.mem_of_getElem? hv)
  obtain⟨V,rfl⟩: ∃V:Nat,v=V:=⟨v.toNat,by omega⟩
  have:wf (l.map fun v=>hl5 (rowA F N k d v.toNat) (ndE q w) d) i=hl5 (rowA F N k d V) (ndE q w) d:=by
   unfold wf;rw[List.getD_eq_getElem?_getD,List.getElem?_map,hv];rfl
  rw[this,zp9 (by omega) hw,tf2 _ _ d (by omega)]
  exact rc1 fun j _=>FK.mul_comm _ _
 obtain⟨y,hy⟩:=qc1 (n:=d) (M:=psiL q l d) (x:=rowA F N k d w) od8 hbl (fun i hi=>by
  obtain⟨v,hv⟩:=ge6 (l:=l) (i:=i) (by omega)
  rw[n18 hv _ (by omega),heq i v hv])
 obtain⟨y1,y2⟩:=l11 od8 hbl hy
 rw[hy]
 congr 1
 refine ou8 (by rw[y1,hwl]) ?_
 refine yn1 (wz4 hn fun v hv=>by have:=hl v hv;omega) (fun j hj=>e00 (by rw[List.length_map]at hj;omega)) (fun j hj=>e00 (by rw[List.length_map]at hj;omega)) fun x hx=> ?_
 obtain⟨v,hv,rfl⟩:=List.mem_map.1 hx
 obtain⟨i,hi⟩:=List.getElem?_of_mem hv
 have hil:i<l.length:=(List.getElem?_eq_some_iff.1 hi).1
 have:=y2 i (by omega)
 rw[n18 hi _ (by omega),heq i v hi]at this
 exact this
end
end Go.Proofs.Ytmhbpecdpiapgaa
namespace Go.Proofs.Ytmhbpecdpiapgaa
open Go.Am Go.Vm Go.Alg
section
variable {q n:Int} [IsFld q] {k d:Nat} {b b' b2:Bool} {nl nl' nl2 nr e n0 n1:Nat}
def rowS(k d:Nat)(x:El q)(j:Nat):Nat→List (El q)
 |0=>List.replicate (h61 k d) 0
 |t+1=>if bu7 k d t j<0 then rowS k d x j t else(rowS k d x j t).set (bu7 k d t j).toNat (wf (rowS k d x j t) (bu7 k d t j).toNat+pw x t)
theorem g14(x:El q)(j:Nat): ∀t,(rowS k d x j t).length=h61 k d
 |0=>List.length_replicate
 |t+1=>by
  rw[rowS]
  split
  ·exact g14 x j t
  ·rw[List.length_set];exact g14 x j t
theorem s71{N:Nat}(h:PlanOK q N k d){x:El q}{j:Nat}(hj:j<d){A B:Tree}{H:List (List Int)}{l w:List Int}{v:Int}{li i lw:Int}: ∀(c t:Nat),t+c=d→ ∀ks,
 vgoL W ⟨h18,[.tmp 6, .tmp 7],0⟩ [0,2,11,13,14,17,18,19,20,67,68,69,84,85,86,94,95,96] c18L1 (.blk 6 [0,2,11,13,14,17,19,20,67,68,69,84,85,86]::ks) [(0, .fz b (plT e q N k d)),(2, .fz b' (.sl nl 0 1 (lvs nr H))),(11, .fz true (pF q)),(13, .own 0 []),(14, .own 1 []),(17, .own 2 []),(18, .x (.int .i64 j)),(19, .x (.int .i64 v)),(20, .own 3 []),(67, .fz b2 (.sl nl2 0 1 (ivs l))),(68, .x (.int .i64 li)),(69, .x (.int .i64 i)),(84, .fz b' (.sl nr 0 1 (ivs w))),(85, .x (.int .i64 lw)),(86, .x (.int .i64 j)),(94, .own 2 []),(95, .x (.int .i64 d)),(96, .x (.int .i64 t))] [A,B, .sl 1 3 1 (ivs (vs (pwL x d))), .sl n0 3 1 (ivs (vs (rowS k d x j t)))]=
  vgo W ⟨h18,[.tmp 6, .tmp 7],0⟩ ks (VFr.of [(0, .fz b (plT e q N k d)),(2, .fz b' (.sl nl 0 1 (lvs nr H))),(11, .fz true (pF q)),(13, .own 0 []),(14, .own 1 []),(17, .own 2 []),(19, .x (.int .i64 v)),(20, .own 3 []),(67, .fz b2 (.sl nl2 0 1 (ivs l))),(68, .x (.int .i64 li)),(69, .x (.int .i64 i)),(84, .fz b' (.sl nr 0 1 (ivs w))),(85, .x (.int .i64 lw)),(86, .x (.int .i64 j))]) [A,B, .sl 1 3 1 (ivs (vs (pwL x d))), .sl n0 3 1 (ivs (vs (rowS k d x j d)))]
 |0,t,ht,ks=>by
  obtain rfl:t=d:=by omega
  unfold plT
  rw[sb5 c18L1.eq_def]
  simp(disch:=first|omega|fail) only[push_cast,seval,ui5,lu7,y81,bj9,wrap64,dec_lt,cw6,nl3,qc6,mr8,nb8,if_pos,if_neg]
 |c+1,t,ht,ks=>by
  have ih:=s71 h (x:=x) hj (A:=A) (B:=B) (H:=H) (l:=l) (w:=w) (v:=v) (li:=li) (i:=i) (lw:=lw) c (t+1) (by omega) ks
  have htd:t<d:=by omega
  have h1:=h.n16
  have h3:=h.dn
  have e1:=fun b e=>fm0 (b:=b) (e:=e) h htd hj
  have e2:=iat (show(vs (pwL x d))[t]? =some (pw x t).v by unfold vs;rw[List.getElem?_map,hn3 htd];rfl)
  have hlt:=yi8 h htd hj
  have hsz:=size_le h
  have hrl:=g14 (k:=k) (d:=d) x j t
  have hpl:(vs (pwL x d)).length=d:=by rw[fi2];exact gh0 ..
  rw[rowS,Int.natCast_add,Int.natCast_one]at ih
  rw[←ih,sb5 c18L1.eq_def]
  clear ih
  generalize vs (pwL x d)=Z at*
  unfold plT at*
  generalize bu7 k d t j=a at*
  by_cases ha:a<0
  ·have ha': ¬0≤a:=by omega
   rw[if_pos ha]
   simp(disch:=first|omega|fail) only[push_cast,seval,ui5,lu7,y81,bj9,wrap64,dec_lt,cw6,nl3,qc6,mr8,nb8,if_pos,if_neg,e1,e2,hpl,qc6 (Int.not_le.1 ha')]
  ·obtain⟨a0,rfl⟩: ∃a0:Nat,a=a0:=⟨a.toNat,by omega⟩
   have ha':(0:Int)≤(a0:Int):=by omega
   rw[if_neg ha,Int.toNat_natCast]
   have e3:=iva (l:=rowS k d x j t) (i:=a0) (by omega)
   have hs:=g52 (rowS k d x j t) a0 (wf (rowS k d x j t) a0+pw x t)
   rw[on0]at hs
   have hrl':(vs (rowS k d x j t)).length=h61 k d:=by rw[fi2,hrl]
   generalize rowS k d x j t=R at*
   simp(disch:=first|omega|fail) only[push_cast,seval,ui5,lu7,y81,bj9,wrap64,dec_lt,cw6,nl3,qc6,mr8,nb8,if_pos,if_neg,e1,e2,hpl,nl3 ha',e3,hs,hrl']
theorem m40{N:Nat}(h:PlanOK q N k d){x:El q}{Wr:List (El q)}(hW:Wr.length=d){H:List (List Int)}{l:List Int}{li:Int}{i:Nat}(hHi:H[i]? =some (vs Wr))(hHl:H.length≤100){Mr:List (List (El q))}{Br:List (El q)}(hMr:Mr.length≤1000)(hBr:Br.length≤1000): ∀(c j:Nat),j+c=d→ ∀ks,
 vgoL W ⟨h18,[.tmp 6, .tmp 7],0⟩ [0,2,11,13,14,17,67,68,69,84,85,86] c18L2 (.blk 4 [0,2,11,13,14,67,68,69]::ks) [(0, .fz b (plT e q N k d)),(2, .fz b' (.sl nl 0 1 (lvs nr H))),(11, .fz true (pF q)),(13, .own 0 []),(14, .own 1 []),(17, .own 2 []),(67, .fz b2 (.sl nl2 0 1 (ivs l))),(68, .x (.int .i64 li)),(69, .x (.int .i64 i)),(84, .fz b' (.sl nr 0 1 (ivs (vs Wr)))),(85, .x (.int .i64 d)),(86, .x (.int .i64 j))] [.sl 1 22 1 (lls 2 ((Mr++ofL j fun j=>rowS k d x j d).map vs)), .sl 1 3 1 (ivs (vs (Br++Wr.take j))), .sl 1 3 1 (ivs (vs (pwL x d)))]=
  vgo W ⟨h18,[.tmp 6, .tmp 7],0⟩ ks (VFr.of [(0, .fz b (plT e q N k d)),(2, .fz b' (.sl nl 0 1 (lvs nr H))),(11, .fz true (pF q)),(13, .own 0 []),(14, .own 1 []),(67, .fz b2 (.sl nl2 0 1 (ivs l))),(68, .x (.int .i64 li)),(69, .x (.int .i64 i))]) [.sl 1 22 1 (lls 2 ((Mr++ofL d fun j=>rowS k d x j d).map vs)), .sl 1 3 1 (ivs (vs (Br++Wr))), .sl 1 3 1 (ivs (vs (pwL x d)))]
 |0,j,hj,ks=>by
  obtain rfl:j=d:=by omega
  unfold plT
  rw[List.take_of_length_le (by omega),sb5 c18L2.eq_def]
  simp(disch:=first|omega|fail) only[push_cast,seval,ui5,lu7,y81,bj9,wrap64,dec_lt,cw6,nl3,qc6,mr8,nb8,if_pos,if_neg]
 |c+1,j,hj,ks=>by
  have ih:=m40 h (x:=x) hW (l:=l) (li:=li) hHi hHl hMr hBr c (j+1) (by omega) ks
  have hjd:j<d:=by omega
  have h1:=h.n16
  have h3:=h.dn
  have hsz:=size_le h
  have e1:=fun b e=>bm8 (b:=b) (e:=e) h
  have e2:=fun A B ks=>s71 (b:=b) (b':=b') (b2:=b2) (nl:=nl) (nl2:=nl2) (nr:=nr) (n0:=0) (e:=e) h (x:=x) hjd (A:=A) (B:=B) (H:=H) (l:=l) (w:=vs Wr) (v:=(wf Wr j).v) (li:=li) (i:=(i:Int)) (lw:=(d:Int)) d 0 (by omega) ks
  have hz0:vs (rowS k d x j 0)=List.replicate (h61 k d) (0:Int):=by
   rw[rowS];unfold vs
   rw[List.map_replicate];rfl
  simp only[hz0,Int.natCast_zero]at e2
  have e3:=iva (l:=Wr) (i:=j) (by omega)
  have hwl:(vs Wr).length=d:=by rw[fi2,hW]
  have hpl:(pwL x d).length=d:=gh0 ..
  have hM:(Mr++ofL (j+1) fun j=>rowS k d x j d).map vs=(Mr++ofL j fun j=>rowS k d x j d).map vs++[vs (rowS k d x j d)]:=by rw[ap4,←List.append_assoc,List.map_append];rfl
  have hMl:((Mr++ofL j fun j=>rowS k d x j d).map vs).length≤2000:=by rw[List.length_map,List.length_append,u35];omega
  have hsn:=ng3 2 ((Mr++ofL j fun j=>rowS k d x j d).map vs) (vs (rowS k d x j d))
  have hWt:Wr.take (j+1)=Wr.take j++[wf Wr j]:=by
   obtain⟨z,hz⟩:=ge6 (l:=Wr) (i:=j) (by omega)
   rw[List.take_add_one,hz]
   have:wf Wr j=z:=by unfold wf;rw[List.getD_eq_getElem?_getD,hz];rfl
   rw[this];rfl
  have hB:vs (Br++Wr.take (j+1))=vs (Br++Wr.take j)++[(wf Wr j).v]:=by rw[hWt,←List.append_assoc,gq8];rfl
  have hBl:(vs (Br++Wr.take j)).length≤2000:=by rw[fi2,List.length_append,List.length_take];omega
  have hbs:=nc5 (vs (Br++Wr.take j)) (wf Wr j).v
  rw[hM,hB,Int.natCast_add,Int.natCast_one]at ih
  rw[←ih,sb5 c18L2.eq_def]
  clear ih hM hB hWt
  unfold plT at*
  generalize (Mr++ofL j fun j=>rowS k d x j d).map vs=Z at*
  generalize vs (Br++Wr.take j)=Y at*
  generalize h61 k d=S at*
  simp(disch:=first|omega|fail) only[push_cast,seval,ui5,lu7,y81,bj9,wrap64,dec_lt,cw6,nl3,qc6,mr8,nb8,if_pos,if_neg,e1,e3,hwl,hpl,cs7]
  rw[e2]
  simp(disch:=first|omega|fail) only[push_cast,seval,ui5,lu7,y81,bj9,wrap64,dec_lt,cw6,nl3,qc6,mr8,nb8,if_pos,if_neg,hsn,hbs]
def rdM(q:Int) [IsFld q](k d:Nat):List Int→List (List (El q))
 | []=>[]
 |v::l=>(ofL d fun j=>rowS k d (ndE q v) j d)++rdM q k d l
theorem xq0: ∀l l':List Int,rdM q k d (l++l')=rdM q k d l++rdM q k d l'
 | [],l'=>rfl
 |v::l,l'=>by rw[List.cons_append,rdM,rdM,xq0 l l',List.append_assoc]
theorem dn4: ∀l:List Int,(rdM q k d l).length=l.length*d
 | []=>by simp[rdM]
 |v::l=>by rw[rdM,List.length_append,u35,dn4 l,List.length_cons,Nat.add_mul,Nat.one_mul,Nat.add_comm]
theorem nf0{Hs:List (List (El q))}(hr: ∀r∈Hs,r.length=d):Hs.flatten.length=Hs.length*d:=by
 induction Hs with
 |nil=>simp
 |cons r t ih=>
  rw[List.flatten_cons,List.length_append,hr r (by simp),ih (fun x hx=>hr x (by simp[hx])),List.length_cons,Nat.add_mul,Nat.one_mul,Nat.add_comm]
theorem ya9{N:Nat}(h:PlanOK q N k d){l:List Int}{Hs:List (List (El q))}(hl:l.length≤16)(hHl:Hs.length=l.length)(hr: ∀r∈Hs,r.length=d)(hl2: ∀v∈l,0≤v∧v<N): ∀(c i:Nat),i+c=l.length→ ∀ks,
 vgoL W ⟨h18,[.tmp 6, .tmp 7],0⟩ [0,2,11,13,14,67,68,69] c18L3 (.blk 2 [0,11,13,14]::ks) [(0, .fz b (plT e q N k d)),(2, .fz b' (.sl nl 0 1 (lvs nr (Hs.map vs)))),(11, .fz true (pF q)),(13, .own 0 []),(14, .own 1 []),(67, .fz b2 (.sl nl2 0 1 (ivs l))),(68, .x (.int .i64 l.length)),(69, .x (.int .i64 i))] [.sl 1 22 1 (lls 2 ((rdM q k d (l.take i)).map vs)), .sl 1 3 1 (ivs (vs (Hs.take i).flatten))]=
  vgo W ⟨h18,[.tmp 6, .tmp 7],0⟩ ks (VFr.of [(0, .fz b (plT e q N k d)),(11, .fz true (pF q)),(13, .own 0 []),(14, .own 1 [])]) [.sl 1 22 1 (lls 2 ((rdM q k d l).map vs)), .sl 1 3 1 (ivs (vs Hs.flatten))]
 |0,i,hi,ks=>by
  unfold plT
  rw[List.take_of_length_le (by omega),List.take_of_length_le (by omega),sb5 c18L3.eq_def]
  simp(disch:=first|omega|fail) only[push_cast,seval,ui5,lu7,y81,bj9,wrap64,dec_lt,cw6,nl3,qc6,mr8,nb8,if_pos,if_neg]
 |c+1,i,hi,ks=>by
  have ih:=ya9 h hl hHl hr hl2 c (i+1) (by omega) ks
  have h1:=h.n16
  have h2:=h.nq
  have h3:=h.dn
  obtain⟨v,hv⟩:=ge6 (l:=l) (i:=i) (by omega)
  obtain⟨Wr,hw⟩:=ge6 (l:=Hs) (i:=i) (by omega)
  have hwl:=hr Wr (List.mem_of_getElem? hw)
  have hvr:=hl2 v (List.mem_of_getElem? hv)
  have e0:=iat hv
  have hHi:(Hs.map vs)[i]? =some (vs Wr):=by rw[List.getElem?_map,hw];rfl
  have e6:=lat (nl:=nr) hHi
  have hwl2:(vs Wr).length=d:=by rw[fi2,hwl]
  have hil:i<(Hs.map vs).length:=by rw[List.length_map];omega
  have hvv:=ol8 (q:=q) (a:=v) (by omega)
  have e1:=fun b e=>ey7 (q:=q) (n:=(N:Int)) (k:=k) (d:=d) (b:=b) (e:=e) (x:=ndE q v) (m:=d) (by omega)
  rw[hvv]at e1
  have hb1:(l.take i).length*d≤16*16:=Nat.mul_le_mul (by rw[List.length_take];omega) (by omega)
  have hb2:(Hs.take i).length*d≤16*16:=Nat.mul_le_mul (by rw[List.length_take];omega) (by omega)
  have hML:=dn4 (q:=q) (k:=k) (d:=d) (l.take i)
  have hBL:=nf0 (Hs:=Hs.take i) (d:=d) (fun r h=>hr r (List.mem_of_mem_take h))
  have e2:=fun ks=>m40 (b:=b) (b':=b') (b2:=b2) (nl:=nl) (nl2:=nl2) (nr:=nr) (e:=e) h (x:=ndE q v) (Wr:=Wr) hwl (H:=Hs.map vs) (l:=l) (li:=(l.length:Int)) (i:=i) hHi (by rw[List.length_map];omega) (Mr:=rdM q k d (l.take i)) (Br:=(Hs.take i).flatten) (by omega) (by omega) d 0 (by omega) ks
  simp only[Int.natCast_zero,List.take_zero,List.append_nil,show(ofL 0 fun j=>rowS k d (ndE q v) j d)=[]from rfl]at e2
  have hM:rdM q k d (l.take (i+1))=rdM q k d (l.take i)++ofL d fun j=>rowS k d (ndE q v) j d:=by
   rw[List.take_add_one,hv,xq0]
   congr 1
   show(ofL d fun j=>rowS k d (ndE q v) j d)++[]=_
   rw[List.append_nil]
  have hB:(Hs.take (i+1)).flatten=(Hs.take i).flatten++Wr:=by
   rw[List.take_add_one,hw,List.flatten_append]
   congr 1
   show([Wr]:List (List (El q))).flatten=_
   simp
  rw[hM,hB,Int.natCast_add,Int.natCast_one]at ih
  rw[←ih,sb5 c18L3.eq_def]
  clear ih hM hB
  unfold plT at*
  generalize (rdM q k d (l.take i)++ofL d fun j=>rowS k d (ndE q v) j d).map vs=Z1 at*
  generalize vs ((Hs.take i).flatten++Wr)=Y1 at*
  generalize (rdM q k d (l.take i)).map vs=Z at*
  generalize vs (Hs.take i).flatten=Y at*
  simp(disch:=first|omega|fail) only[push_cast,seval,ui5,lu7,y81,bj9,wrap64,dec_lt,cw6,nl3,qc6,mr8,nb8,if_pos,if_neg,e0,e1,e6,hil,hwl2,hwl]
  rw[e2]
  simp(disch:=first|omega|fail) only[push_cast,seval,ui5,lu7,y81,bj9,wrap64,dec_lt,cw6,nl3,qc6,mr8,nb8,if_pos,if_neg]
end
end Go.Proofs.Ytmhbpecdpiapgaa
namespace Go.Proofs.Ytmhbpecdpiapgaa
open Go.Am Go.Vm Go.Alg
section
variable {K:Type} [FK K]
theorem ep0{n a:Nat}{l:List K}(hl:l.length=n)(ha:a<n)(c:K)(f:Nat→K):(sumN n fun s=>wf (l.set a (wf l a+c)) s*f s)=(sumN n fun s=>wf l s*f s)+c*f a:=by
 have h1: ∀s,wf (l.set a (wf l a+c)) s=wf l s+(if s=a then c else 0):=fun s=>by
  unfold wf
  rw[List.getD_eq_getElem?_getD,List.getElem?_set]
  by_cases h:a=s
  ·subst h
   rw[if_pos rfl,if_pos (by omega),if_pos rfl];rfl
  ·rw[if_neg h,if_neg (fun e=>h e.symm),FK.add_zero,List.getD_eq_getElem?_getD]
 have h2:(sumN n fun s=>wf (l.set a (wf l a+c)) s*f s)=sumN n fun s=>wf l s*f s+(if s=a then c else 0)*f s:=rc1 fun s _=>by rw[h1,add_mul]
 rw[h2,pv3]
 congr 1
 rw[xq2 ha fun s _ hs=>by rw[if_neg hs,zero_mul],if_pos rfl]
end
section
variable {q:Int} [IsFld q] {k d N:Nat}
theorem ur5(h:PlanOK q N k d){G:List (El q)}{x:El q}{j:Nat}(hj:j<d): ∀t,t≤d→(sumN (h61 k d) fun s=>wf (rowS k d x j t) s*wf G s)=sumN t fun i=>pw x i*gg5 G k d i j
 |0,_=>by
  rw[wr8]
  refine ja4 fun s hs=> ?_
  rw[rowS]
  have:wf (List.replicate (h61 k d) (0:El q)) s=0:=by unfold wf;rw[List.getD_eq_getElem?_getD,List.getElem?_replicate,if_pos hs];rfl
  rw[this,zero_mul]
 |t+1,ht=>by
  have ih:=ur5 h (G:=G) (x:=x) hj t (by omega)
  have hlt:=yi8 h (show t<d by omega) hj
  rw[cp9,rowS]
  unfold gg5 at*
  by_cases ha:bu7 k d t j<0
  ·rw[if_pos ha,if_pos ha,mul_zero,FK.add_zero]
   exact ih
  ·rw[if_neg ha,if_neg ha,ep0 (g14 x j t) (by omega),ih]
def triS(k:Nat):Nat→Nat
 |0=>0
 |i+1=>triS k i+(k-i)
theorem tt3(k:Nat): ∀i,i≤k→2*triS k i+i*i=2*(i*k)+i
 |0,_=>by simp[triS]
 |i+1,h=>by
  have ih:=tt3 k i (by omega)
  rw[triS]
  have e1:(i+1)*(i+1)=i*i+2*i+1:=by rw[Nat.add_mul,Nat.mul_add];omega
  have e2:(i+1)*k=i*k+k:=by rw[Nat.add_mul,Nat.one_mul]
  omega
theorem jq1(k s:Nat): ∀m,s<triS k m→ ∃i,i<m∧triS k i≤s∧s<triS k i+(k-i)
 |0,h=>by rw[triS]at h;omega
 |m+1,h=>by
  by_cases hm:s<triS k m
  ·obtain⟨i,h1,h2⟩:=jq1 k s m hm
   exact⟨i,by omega,h2⟩
  ·rw[triS]at h
   exact⟨m,by omega,by omega,by omega⟩
theorem jj0(hkd:k≤d){s:Nat}(hs:s<h61 k d): ∃i j,i<k∧j<d∧bu7 k d i j=(s:Nat):=by
 have ht:=tt3 k k (Nat.le_refl k)
 have hk2:k*(k+1)=k*k+k:=by rw[Nat.mul_add,Nat.mul_one]
 by_cases h:s<k*(k+1)/2
 ·obtain⟨i,h1,h2,h3⟩:=jq1 k s k (by omega)
  have hi:=tt3 k i (by omega)
  refine⟨i,s-triS k i+i,h1,by omega, ?_⟩
  have hij:i≤s-triS k i+i:=by omega
  have hlt:s-triS k i+i<k:=by omega
  unfold bu7
  rw[Nat.min_eq_left hij,Nat.max_eq_right hij,if_neg (by omega),if_pos hlt]
  have e3:i*(i-1)+i=i*i:=by
   cases i with
   |zero=>rfl
   |succ i=>rw[Nat.add_sub_cancel,Nat.mul_add (i+1) i 1];omega
  have e4:i*(i-1)/2*2=i*(i-1):=by
   have:i*(i-1)%2=0:=by
    rcases Nat.mod_two_eq_zero_or_one i with h|h
    ·rw[Nat.mul_mod,h];simp
    ·have:(i-1)%2=0:=by omega
     rw[Nat.mul_mod,this];simp
   omega
  omega
 ·unfold h61 at hs
  have hdk:0<d-k:=by
   rcases Nat.eq_zero_or_pos (d-k)with h0|h0
   ·rw[h0,Nat.mul_zero]at hs;omega
   ·exact h0
  obtain⟨r,hr⟩: ∃r,r=s-k*(k+1)/2:=⟨_,rfl⟩
  have hrk:r/(d-k)<k:=(Nat.div_lt_iff_lt_mul hdk).2 (by omega)
  have hm:=Nat.mod_lt r hdk
  have hdm:=Nat.div_add_mod r (d-k)
  refine⟨r/(d-k),k+r%(d-k),hrk,by omega, ?_⟩
  unfold bu7
  rw[Nat.min_eq_left (by omega),Nat.max_eq_right (by omega),if_neg (by omega),if_neg (by omega)]
  rw[Nat.mul_comm]at hdm
  omega
theorem v81{G:List (El q)}{i j:Nat}(hi:k≤i)(hj:k≤j):gg5 G k d i j=0:=by
 unfold gg5 bu7
 rw[if_pos (show k≤min i j by omega),if_pos (by decide)]
theorem ba1(h:PlanOK q N k d){l:List Int}(hn:l.Nodup)(hlk:l.length=k)(hl: ∀v∈l,0≤v∧v<N){G:List (El q)}(hG:G.length=h61 k d)(hz: ∀v∈l,∀j,j<d→(sumN d fun i=>pw (ndE q v) i*gg5 G k d i j)=0): ∀s,wf G s=0:=by
 have hnq:=h.nq
 have hkd:=h.kd
 have key: ∀j,j<d→(∀i,k≤i→i<d→gg5 G k d i j=0)→ ∀i,i<k→gg5 G k d i j=0:=fun j hj h0 i hi=>by
  have hw:wf (ofF k fun i=>gg5 G k d i j)=fun _=>0:=by
   refine u24 (xs:=l.map (ndE q)) (wz4 hn fun v hv=>by have:=hl v hv;omega) (fun t ht=>e00 (by rw[gh0];rw[List.length_map]at ht;omega)) fun x hx=> ?_
   obtain⟨v,hv,rfl⟩:=List.mem_map.1 hx
   rw[uo7]
   have:=hz v hv j hj
   rw[jq8 hkd fun t h1 h2=>by rw[h0 t h1 h2,mul_zero]]at this
   rw[←this]
   exact rc1 fun t _=>FK.mul_comm _ _
  have:=congrFun hw i
  rwa [dv2 hi]at this
 have far: ∀i j,i<k→k≤j→j<d→gg5 G k d i j=0:=fun i j hi hj hjd=>key j hjd (fun t ht _=>v81 ht hj) i hi
 have all: ∀i j,i<k→j<d→gg5 G k d i j=0:=fun i j hi hj=>by
  by_cases hjk:k≤j
  ·exact far i j hi hjk hj
  ·exact key j hj (fun t ht htd=>by rw[eb3];exact far j t (by omega) ht htd) i hi
 intro s
 by_cases hs:s<h61 k d
 ·obtain⟨i,j,hi,hj,hp⟩:=jj0 hkd hs
  have:=all i j hi hj
  unfold gg5 at this
  rw[hp,if_neg (by omega),Int.toNat_natCast]at this
  exact this
 ·exact e00 (by omega)
end
end Go.Proofs.Ytmhbpecdpiapgaa
namespace Go.Proofs.Ytmhbpecdpiapgaa
open Go.Am Go.Vm Go.Alg
section
variable {q:Int} [IsFld q] {k d N:Nat} {b b' b2:Bool} {nl nl2 nr e:Nat} {l:List Int} {Hs:List (List (El q))}
theorem p58: ∀{l:List Int} {m:List (El q)},m∈rdM q k d l↔ ∃v∈l,∃j,j<d∧m=rowS k d (ndE q v) j d
 | [],m=>by simp[rdM]
 |v::l,m=>by
  rw[rdM,List.mem_append,p58]
  unfold ofL
  constructor
  ·rintro(h|⟨w,hw,h⟩)
   ·obtain⟨j,hj,rfl⟩:=List.mem_map.1 h
    exact⟨v,by simp,j,List.mem_range.1 hj,rfl⟩
   ·exact⟨w,by simp[hw],h⟩
  ·rintro⟨w,hw,j,hj,rfl⟩
   rcases List.mem_cons.1 hw with rfl|hw
   ·exact .inl (List.mem_map.2 ⟨j,List.mem_range.2 hj,rfl⟩)
   ·exact .inr ⟨w,hw,j,hj,rfl⟩
theorem kp3: ∀m∈rdM q k d l,m.length=h61 k d:=fun m hm=>by
 obtain⟨v,_,j,_,rfl⟩:=p58.1 hm
 exact g14 ..
theorem b25(h:PlanOK q N k d)(hn:l.Nodup)(hlk:l.length=k)(hl: ∀v∈l,0≤v∧v<N): ∀x:Nat→El q,(∀m∈rdM q k d l,(sumN (h61 k d) fun j=>wf m j*x j)=0)→ ∀j,j<h61 k d→x j=0:=fun x hx j hj=>by
 have hz:=ba1 h hn hlk hl (G:=ofF (h61 k d) x) (gh0 ..) (fun v hv i hi=>by
  rw[←ur5 h (G:=ofF (h61 k d) x) hi d (Nat.le_refl d)]
  have:=hx _ (p58.2 ⟨v,hv,i,hi,rfl⟩)
  rw[←this]
  exact rc1 fun s hs=>by rw[dv2 hs]) j
 rwa [dv2 hj]at hz
theorem v75(hHl:Hs.length≤100)(hr: ∀r∈Hs,r.length=d)(hd:d≤100): ∀(c i:Nat),i+c=Hs.length→ ∀ks,
 vgoL W ⟨h18,[.tmp 6, .tmp 7],0⟩ [0,1,2,41,42,43] c18L0 (.blk 0 [0,1,2]::ks) [(0, .fz b (plT e q N k d)),(1, .fz b2 (.sl nl2 0 1 (ivs l))),(2, .fz b' (.sl nl 0 1 (lvs nr (Hs.map vs)))),(41, .fz b' (.sl nl 0 1 (lvs nr (Hs.map vs)))),(42, .x (.int .i64 Hs.length)),(43, .x (.int .i64 i))] []=
  vgo W ⟨h18,[.tmp 6, .tmp 7],0⟩ ks (VFr.of [(0, .fz b (plT e q N k d)),(1, .fz b2 (.sl nl2 0 1 (ivs l))),(2, .fz b' (.sl nl 0 1 (lvs nr (Hs.map vs))))]) []
 |0,i,hi,ks=>by
  unfold plT
  rw[sb5 c18L0.eq_def]
  simp(disch:=first|omega|fail) only[push_cast,seval,ui5,lu7,y81,bj9,wrap64,dec_lt,cw6,nl3,qc6,mr8,nb8,if_pos,if_neg]
 |c+1,i,hi,ks=>by
  have ih:=v75 hHl hr hd c (i+1) (by omega) ks
  obtain⟨Wr,hw⟩:=ge6 (l:=Hs) (i:=i) (by omega)
  have hwl:=hr Wr (List.mem_of_getElem? hw)
  have e6:=lat (nl:=nr) (show(Hs.map vs)[i]? =some (vs Wr) by rw[List.getElem?_map,hw];rfl)
  have hil:i<(Hs.map vs).length:=by rw[List.length_map];omega
  have hwl2:(vs Wr).length=d:=by rw[fi2,hwl]
  have e1:=fun b b' nl e=>lt7 (q:=q) (n:=(N:Int)) (k:=k) (d:=d) (b:=b) (b':=b') (nl:=nl) (e:=e) (l:=vs Wr) (by rw[fi2];omega)
  rw[i41]at e1
  rw[Int.natCast_add,Int.natCast_one]at ih
  rw[←ih,sb5 c18L0.eq_def]
  unfold plT at*
  simp(disch:=first|omega|fail) only[push_cast,seval,ui5,lu7,y81,bj9,wrap64,dec_lt,cw6,nl3,qc6,mr8,nb8,if_pos,if_neg,e6,hil,hwl,hwl2,e1,Bool.not_true,Bool.not_false]
theorem x38(h:PlanOK q N k d)(hn:l.Nodup)(hlk:l.length=k)(hl: ∀v∈l,0≤v∧v<N)(hs:aq0 N [] l=0)(hHl:Hs.length=k)(hr: ∀r∈Hs,r.length=d){X:List (El q)}(hX:solR (h61 k d) (rdM q k d l) Hs.flatten=some X):
 o24 W 18 [.fz b (plT e q N k d), .fz b2 (.sl nl2 0 1 (ivs l)), .fz b' (.sl nl 0 1 (lvs nr (Hs.map vs)))] []=some (.tup [.own 0 [], .x (.int .i64 0)],[.sl (nlT (vs X)) 3 1 (ivs (vs X))],[]):=by
 have h1:=h.n16
 have h2:=h.kd
 have h3:=h.dn
 have hsz:=size_le h
 have e1:=fun b b' nl e=>y15 (q:=q) (n:=(N:Int)) (k:=k) (d:=d) (b:=b) (b':=b') (nl:=nl) (e:=e) (l:=l) (m:=k) (by omega)
 simp only[if_pos hlk,hs]at e1
 have e2:=fun b b2 b' nl nl2 nr e ks=>v75 (q:=q) (k:=k) (d:=d) (N:=N) (b:=b) (b':=b') (b2:=b2) (nl:=nl) (nl2:=nl2) (nr:=nr) (e:=e) (l:=l) (Hs:=Hs) (by omega) hr (by omega) Hs.length 0 (by omega) ks
 have e3:=fun b b2 b' nl nl2 nr e ks=>ya9 (b:=b) (b':=b') (b2:=b2) (nl:=nl) (nl2:=nl2) (nr:=nr) (e:=e) h (l:=l) (Hs:=Hs) (by omega) (by omega) hr hl l.length 0 (by omega) ks
 simp only[Int.natCast_zero,List.take_zero,List.map_nil,x25,show(rdM q k d [])=[]from rfl,show vs ([]:List (List (El q))).flatten=[]from rfl,show ivs []=[]from rfl]at e2 e3
 have e4:=fun b e=>bm8 (b:=b) (e:=e) h
 have hlen:Hs.flatten.length=(rdM q k d l).length:=by rw[nf0 hr,dn4,hHl,hlk]
 have hb:l.length*d≤16*16:=Nat.mul_le_mul (by omega) (by omega)
 have hML:=dn4 (q:=q) (k:=k) (d:=d) l
 obtain⟨Y,ok,T1,T2,y1,e5⟩:=u53 (b:=true) (nm:=1) (nb:=1) (n:=h61 k d) (M0:=rdM q k d l) (B0:=Hs.flatten) kp3 hlen (by omega) (by omega) (b25 h hn hlk hl)
 obtain⟨rfl,rfl⟩:ok=true∧Y=X:=by
  cases ok with
  |true=>rw[if_pos rfl,hX]at y1;exact⟨rfl,(Option.some.inj y1).symm⟩
  |false=>rw[if_neg Bool.false_ne_true,hX]at y1;cases y1
 have hHl2:(Hs.map vs).length=Hs.length:=List.length_map ..
 unfold plT at*
 generalize h61 k d=S at*
 generalize (rdM q k d l).map vs=Ps at*
 generalize vs Hs.flatten=Fs at*
 rw[o10 rfl T18 rfl]
 unfold F18 c18
 simp(disch:=first|omega|fail) only[push_cast,seval,ui5,lu7,y81,bj9,wrap64,dec_lt,cw6,nl3,qc6,mr8,nb8,if_pos,if_neg,e1,hlk,hHl,hHl2]
 rw[hHl]at e2
 rw[hlk]at e3
 rw[e2]
 simp(disch:=first|omega|fail) only[push_cast,seval,ui5,lu7,y81,bj9,wrap64,dec_lt,cw6,nl3,qc6,mr8,nb8,if_pos,if_neg,hlk]
 rw[e3]
 simp(disch:=first|omega|fail) only[push_cast,seval,ui5,lu7,y81,bj9,wrap64,dec_lt,cw6,nl3,qc6,mr8,nb8,if_pos,if_neg,e4,e5,Bool.not_true,Bool.not_false]
end
end Go.Proofs.Ytmhbpecdpiapgaa
namespace Go.Proofs.Ytmhbpecdpiapgaa
open Go.Am Go.Vm Go.Alg
section
variable {q:Int} [IsFld q] {k d N:Nat} {l:List Int} {F:List (El q)}
theorem qb9(h:PlanOK q N k d): ∀l:List Int,(∀v∈l,0≤v∧v<N)→(rdM q k d l).map (fun m=>sumN (h61 k d) fun s=>wf m s*wf F s)=(l.map fun v=>rowA F N k d v.toNat).flatten
 | [],_=>rfl
 |v::l,hl=>by
  obtain⟨h0,h1⟩:=hl v (by simp)
  obtain⟨V,rfl⟩: ∃V:Nat,v=V:=⟨v.toNat,by omega⟩
  rw[rdM,List.map_append,qb9 h l (fun w hw=>hl w (by simp[hw])),List.map_cons,List.flatten_cons,Int.toNat_natCast]
  congr 1
  have hrl:=xh8 (F:=F) (k:=k) (d:=d) (N:=N) (v:=V) (by omega)
  refine List.ext_getElem? fun j=> ?_
  unfold ofL
  rw[List.map_map,List.getElem?_map]
  by_cases hj:j<d
  ·rw[List.getElem?_range hj,t15 (by omega),ux4 (by omega) hj]
   show some _=_
   congr 1
   exact ur5 h hj d (Nat.le_refl d)
  ·rw[List.getElem?_eq_none (by rw[List.length_range];omega),List.getElem?_eq_none (by omega)];rfl
theorem gk6(h:PlanOK q N k d)(hn:l.Nodup)(hlk:l.length=k)(hl: ∀v∈l,0≤v∧v<N)(hF:F.length=h61 k d):solR (h61 k d) (rdM q k d l) (l.map fun v=>rowA F N k d v.toNat).flatten=some F:=by
 have hm:=qb9 (F:=F) h l hl
 have hb:(l.map fun v=>rowA F N k d v.toNat).flatten.length=(rdM q k d l).length:=by rw[←hm,List.length_map]
 have heq: ∀i,i<(rdM q k d l).length→wf (l.map fun v=>rowA F N k d v.toNat).flatten i=sumN (h61 k d) fun s=>wf ((rdM q k d l).getD i []) s*wf F s:=fun i hi=>by
  rw[←hm]
  unfold wf
  rw[List.getD_eq_getElem?_getD,List.getElem?_map,List.getElem?_eq_getElem hi]
  simp[List.getD_eq_getElem?_getD,List.getElem?_eq_getElem hi]
 obtain⟨y,hy⟩:=qc1 (x:=F) kp3 hb (fun i hi=>(heq i hi).symm)
 obtain⟨y1,y2⟩:=l11 kp3 hb hy
 rw[hy]
 congr 1
 refine ou8 (by rw[y1,hF]) ?_
 funext s
 by_cases hs:s<h61 k d
 ·have hz:=b25 h hn hlk hl (fun j=>wf y j+ -wf F j) (fun m hm'=>by
   obtain⟨i,hi,rfl⟩:=List.getElem_of_mem hm'
   have e1:=y2 i hi
   rw[heq i hi]at e1
   have hg:(rdM q k d l).getD i []=(rdM q k d l)[i]:=by rw[List.getD_eq_getElem?_getD,List.getElem?_eq_getElem hi];rfl
   rw[hg]at e1
   have e2:(sumN (h61 k d) fun j=>wf (rdM q k d l)[i] j*(wf y j+ -wf F j))=(sumN (h61 k d) fun j=>wf (rdM q k d l)[i] j*wf y j)+sumN (h61 k d) fun j=> -(wf (rdM q k d l)[i] j*wf F j):=by
    rw[←pv3]
    exact rc1 fun j _=>by rw[FK.mul_add,mul_neg]
   rw[e2,z09,e1,FK.add_neg]) s hs
  have hz:wf y s-wf F s=0:=hz
  have:=congrArg (fun t=>t+wf F s) hz
  rw[sub_eq,FK.add_assoc,neg_add,FK.add_zero,zero_add]at this
  exact this
 ·rw[e00 (by omega),e00 (by omega)]
end
end Go.Proofs.Ytmhbpecdpiapgaa
namespace Go.Proofs.Ytmhbpecdpiapgaa
open Go.Am Go.Vm Go.Alg
theorem yv4{n:Int}: ∀(l seen:List Int),(seen++l).Nodup→(∀v∈l,0≤v∧v<n)→aq0 n seen l=0
 | [],seen,_,_=>rfl
 |v::l,seen,hn,hl=>by
  have hv:=hl v (by simp)
  rw[aq0,if_neg (by omega)]
  have hs:seen.any (fun x=>decide (v=x))=false:=by
   rw[List.any_eq_false]
   intro x hx
   rw[decide_eq_true_eq]
   rintro rfl
   exact(List.nodup_append.1 hn).2.2 v hx v (by simp) rfl
  rw[hs,if_neg Bool.false_ne_true]
  exact yv4 l (seen++[v]) (by rw[List.append_assoc];exact hn) fun w hw=>hl w (by simp[hw])
def tszL:List Tree:=[Tree.v (.int .i64 3),Tree.v (.int .i64 4),Tree.v (.int .i64 5),Tree.v (.int .i64 7),Tree.v (.int .i64 8),Tree.v (.int .i64 9),Tree.v (.int .i64 11),Tree.v (.int .i64 13),Tree.v (.int .i64 16),Tree.v (.int .i64 25),Tree.v (.int .i64 64)]
theorem ib0{j:Int}(h0:0≤j)(h1:j<11): ∃(i:Nat) (z:Int),j=(i:Int)∧i<11∧3≤z∧z≤64∧IsFld z∧tszL[i]? =some (Tree.v (.int .i64 z)):=by
 obtain⟨i,rfl⟩: ∃i:Nat,j=(i:Int):=⟨j.toNat,by omega⟩
 have:i=0∨i=1∨i=2∨i=3∨i=4∨i=5∨i=6∨i=7∨i=8∨i=9∨i=10:=by omega
 rcases this with rfl|rfl|rfl|rfl|rfl|rfl|rfl|rfl|rfl|rfl|rfl
 ·exact⟨0,3,rfl,by decide,by decide,by decide,(x14 (by decide)).2.2,rfl⟩
 ·exact⟨1,4,rfl,by decide,by decide,by decide,(x14 (by decide)).2.2,rfl⟩
 ·exact⟨2,5,rfl,by decide,by decide,by decide,(x14 (by decide)).2.2,rfl⟩
 ·exact⟨3,7,rfl,by decide,by decide,by decide,(x14 (by decide)).2.2,rfl⟩
 ·exact⟨4,8,rfl,by decide,by decide,by decide,(x14 (by decide)).2.2,rfl⟩
 ·exact⟨5,9,rfl,by decide,by decide,by decide,(x14 (by decide)).2.2,rfl⟩
 ·exact⟨6,11,rfl,by decide,by decide,by decide,(x14 (by decide)).2.2,rfl⟩
 ·exact⟨7,13,rfl,by decide,by decide,by decide,(x14 (by decide)).2.2,rfl⟩
 ·exact⟨8,16,rfl,by decide,by decide,by decide,(x14 (by decide)).2.2,rfl⟩
 ·exact⟨9,25,rfl,by decide,by decide,by decide,(x14 (by decide)).2.2,rfl⟩
 ·exact⟨10,64,rfl,by decide,by decide,by decide,(x14 (by decide)).2.2,rfl⟩
theorem xt1{q n:Int}{k d:Nat} [hf:IsFld q](h:PlanOK q n k d):dz3 q n k d=0:=by
 obtain⟨p,m,g,mod,hn⟩:=hf.ok
 have h1:=h.n2
 have h2:=h.nq
 have h3:=h.n16
 have h4:=h.k1
 have h5:=h.kd
 have h6:=h.dn
 unfold dz3
 rw[hn,if_neg (by simp),if_neg (by omega),if_neg (by omega)]
end Go.Proofs.Ytmhbpecdpiapgaa
namespace Go.Proofs.Ytmhbpecdpiapgaa
open Go.Am Go.Vm Go.Alg
def u89(A:List (List Int))(S:List Int):List Tree:=(List.range A.length).map fun(i:Nat)=>if(i:Int)∈S then .fz (.sl 2 0 1 (ivs (nth A i)))else .sl 2 3 1 (ivs (nth A i))
theorem kt6(A:List (List Int)):u89 A []=lls 2 A:=by
 unfold u89 lls
 refine List.ext_getElem? fun i=> ?_
 rw[List.getElem?_map,List.getElem?_map]
 by_cases hi:i<A.length
 ·rw[List.getElem?_range hi,gu3 hi];rfl
 ·rw[List.getElem?_eq_none (by simp;omega),List.getElem?_eq_none (by omega)];rfl
theorem uq5(A:List (List Int))(S:List Int):(u89 A S).length=A.length:=by simp[u89]
theorem to3{A:List (List Int)}{S:List Int}{i:Nat}(hi:i<A.length):(u89 A S)[i]? =some (if(i:Int)∈S then .fz (.sl 2 0 1 (ivs (nth A i)))else .sl 2 3 1 (ivs (nth A i))):=by
 unfold u89;rw[List.getElem?_map,List.getElem?_range hi];rfl
theorem wn9{A:List (List Int)}{S:List Int}{i:Nat}(hi:i<A.length):(u89 A S).set i (.fz (.sl 2 0 1 (ivs (nth A i))))=u89 A (S++[(i:Int)]):=by
 refine List.ext_getElem? fun k=> ?_
 rw[List.getElem?_set]
 by_cases hk:i=k
 ·subst hk
  rw[if_pos rfl,if_pos (by rw[uq5];exact hi),to3 hi,if_pos (by simp)]
 ·rw[if_neg hk]
  by_cases hl:k<A.length
  ·rw[to3 hl,to3 hl]
   have:((k:Int)∈S++[(i:Int)])↔(k:Int)∈S:=by
    rw[List.mem_append,List.mem_singleton]
    constructor
    ·rintro(h|h)
     ·exact h
     ·exact absurd h (by omega)
    ·exact .inl
   simp only[this]
  ·rw[List.getElem?_eq_none (by rw[uq5];omega),List.getElem?_eq_none (by rw[uq5];omega)]
end Go.Proofs.Ytmhbpecdpiapgaa
namespace Go.Proofs.Ytmhbpecdpiapgaa
open Go.Am Go.Vm Go.Alg
def gvT(B:List (List Int)):List Tree:=(lvs 2 B).map fzT
theorem n86(B:List (List Int)):(gvT B).length=B.length:=by simp[gvT,lvs]
theorem fi0(B:List (List Int))(r:List Int):gvT B++[.fz (.sl 2 0 1 (ivs r))]=gvT (B++[r]):=by unfold gvT lvs;rw[List.map_append,List.map_append];rfl
section
variable {A:List (List Int)} {L:List Int} {T0 T1:Tree}
theorem ct3(hA:A.length≤1000)(hL: ∀v∈L,0≤v∧v<A.length)(hn:L.Nodup){k:Nat}(hk:k≤L.length)(hLl:L.length≤1000){n d:Int}: ∀(c i:Nat),i+c=k→ ∀ks,
 vgoL W ⟨h3,[.tmp 12],0⟩ [2,3,4,13,15,16,17,18,19] c3L0 (.blk 0 [2,3,4,13,15,16,17,18]::ks) [(2, .x (.int .i64 n)),(3, .x (.int .i64 k)),(4, .x (.int .i64 d)),(13, .own 0 []),(15, .own 1 []),(16, .own 2 []),(17, .own 3 []),(18, .own 4 []),(19, .x (.int .i64 i))] [T0,T1, .sl 1 22 1 (u89 A (L.take i)), .sl 0 3 1 (ivs L), .sl 1 22 1 (gvT ((L.take i).map fun v=>nth A v.toNat))]=
  vgo W ⟨h3,[.tmp 12],0⟩ ks (VFr.of [(2, .x (.int .i64 n)),(3, .x (.int .i64 k)),(4, .x (.int .i64 d)),(13, .own 0 []),(15, .own 1 []),(16, .own 2 []),(17, .own 3 []),(18, .own 4 [])]) [T0,T1, .sl 1 22 1 (u89 A (L.take k)), .sl 0 3 1 (ivs L), .sl 1 22 1 (gvT ((L.take k).map fun v=>nth A v.toNat))]
 |0,i,hi,ks=>by
  obtain rfl:i=k:=by omega
  rw[sb5 c3L0.eq_def]
  simp(disch:=first|omega|fail) only[push_cast,seval,ui5,lu7,y81,bj9,wrap64,dec_lt,cw6,nl3,qc6,mr8,nb8,if_pos,if_neg]
 |c+1,i,hi,ks=>by
  have ih:=ct3 hA hL hn hk hLl (n:=n) (d:=d) c (i+1) (by omega) ks
  obtain⟨v,hv⟩:=ge6 (l:=L) (i:=i) (by omega)
  obtain⟨h0,h1⟩:=hL v (List.mem_of_getElem? hv)
  obtain⟨V,rfl⟩: ∃V:Nat,v=V:=⟨v.toNat,by omega⟩
  have hmem: ¬(V:Int)∈L.take i:=fun hm=>by
   obtain⟨j,hj,e⟩:=List.getElem_of_mem hm
   rw[List.length_take]at hj
   have hL':L[j]? =some (V:Int):=by
    rw[List.getElem_take]at e
    rw[List.getElem?_eq_getElem (by omega),e]
   have hji:=(List.getElem?_inj (i:=j) (j:=i) (by omega) hn).1 (hL'.trans hv.symm)
   omega
  have e0:=iat hv
  have e1:=to3 (A:=A) (S:=L.take i) (i:=V) (by omega)
  rw[if_neg hmem]at e1
  have e2:=wn9 (A:=A) (S:=L.take i) (i:=V) (by omega)
  have e3:L.take (i+1)=L.take i++[(V:Int)]:=by rw[List.take_add_one,hv];rfl
  have e4:=fi0 ((L.take i).map fun v=>nth A v.toNat) (nth A V)
  have hl1:=uq5 A (L.take i)
  have hl2:(gvT ((L.take i).map fun v=>nth A v.toNat)).length=i:=by rw[n86,List.length_map,List.length_take];omega
  rw[e3,List.map_append,show [(V:Int)].map (fun v=>nth A v.toNat)=[nth A V]from rfl,←e2,←e4,Int.natCast_add,Int.natCast_one]at ih
  rw[←ih,sb5 c3L0.eq_def]
  generalize gvT ((L.take i).map fun v=>nth A v.toNat)=G at*
  generalize u89 A (L.take i)=B at*
  simp(disch:=first|omega|fail) only[push_cast,seval,ui5,lu7,y81,bj9,wrap64,dec_lt,cw6,nl3,qc6,mr8,nb8,if_pos,if_neg,e0,e1,hl1,hl2]
end
section
variable {q:Int} [IsFld q] {k d N:Nat} {F:List (El q)} {L S:List Int}
theorem qr9{V:Nat}(hV:V<N):nth ((allF F N k d).map vs) V=vs (rowA F N k d V):=by
 have hl:(allF F N k d).length=N:=by unfold allF em6;rw[List.length_map];exact u35 ..
 rw[t70 (by rw[List.length_map];omega),List.getElem_map]
 congr 1
 exact(t70 (by omega)).symm
theorem xe2:((allF F N k d).map vs).length=N:=by
 rw[List.length_map]
 unfold allF em6
 rw[List.length_map];exact u35 ..
theorem n09(h:PlanOK q N k d)(hL: ∀v∈L,0≤v∧v<N)(hd:d≤L.length)(hLl:L.length≤1000){lost:Nat}(hlo:lost<N){e:Nat}: ∀(c i:Nat),i+c=d→ ∀ks,
 vgoL W ⟨h3,[.tmp 12],0⟩ [4,13,16,17,21,22,23] c3L1 (.blk 2 [4,13,16,17,21,22]::ks) [(4, .x (.int .i64 d)),(13, .own 0 []),(16, .own 1 []),(17, .own 2 []),(21, .x (.int .i64 lost)),(22, .own 3 []),(23, .x (.int .i64 i))] [plT e q N k d, .sl 1 22 1 (u89 ((allF F N k d).map vs) S), .sl 0 3 1 (ivs L), .sl 1 3 1 (ivs (vs ((L.take i).map fun v=>hl5 (rowA F N k d v.toNat) (ndE q lost) d)))]=
  vgo W ⟨h3,[.tmp 12],0⟩ ks (VFr.of [(4, .x (.int .i64 d)),(13, .own 0 []),(16, .own 1 []),(17, .own 2 []),(21, .x (.int .i64 lost)),(22, .own 3 [])]) [plT e q N k d, .sl 1 22 1 (u89 ((allF F N k d).map vs) S), .sl 0 3 1 (ivs L), .sl 1 3 1 (ivs (vs ((L.take d).map fun v=>hl5 (rowA F N k d v.toNat) (ndE q lost) d)))]
 |0,i,hi,ks=>by
  obtain rfl:i=d:=by omega
  unfold plT
  rw[sb5 c3L1.eq_def]
  simp(disch:=first|omega|fail) only[push_cast,seval,ui5,lu7,y81,bj9,wrap64,dec_lt,cw6,nl3,qc6,mr8,nb8,if_pos,if_neg]
 |c+1,i,hi,ks=>by
  have ih:=n09 h hL hd hLl hlo (e:=e) c (i+1) (by omega) ks
  have h1:=h.n16
  obtain⟨v,hv⟩:=ge6 (l:=L) (i:=i) (by omega)
  obtain⟨h0,h2⟩:=hL v (List.mem_of_getElem? hv)
  obtain⟨V,rfl⟩: ∃V:Nat,v=V:=⟨v.toNat,by omega⟩
  have e0:=iat hv
  have e1:=to3 (A:=(allF F N k d).map vs) (S:=S) (i:=V) (by rw[xe2];omega)
  rw[qr9 (by omega)]at e1
  have hl1:=uq5 ((allF F N k d).map vs) S
  rw[xe2]at hl1
  have hrl:=xh8 (F:=F) (k:=k) (d:=d) (N:=N) (v:=V) (by omega)
  have e2:=fun b b' nl e=>sl9 (b:=b) (b':=b') (nl:=nl) (e:=e) h hrl (lost:=(lost:Int)) (by omega) (by omega)
  have e3:L.take (i+1)=L.take i++[(V:Int)]:=by rw[List.take_add_one,hv];rfl
  have hl2:((L.take i).map fun v=>hl5 (rowA F N k d v.toNat) (ndE q lost) d).length=i:=by rw[List.length_map,List.length_take];omega
  have e4:vs (((L.take i).map fun v=>hl5 (rowA F N k d v.toNat) (ndE q lost) d)++[hl5 (rowA F N k d V) (ndE q lost) d])=vs ((L.take i).map fun v=>hl5 (rowA F N k d v.toNat) (ndE q lost) d)++[(hl5 (rowA F N k d V) (ndE q lost) d).v]:=by unfold vs;rw[List.map_append];rfl
  rw[e3,List.map_append,show [(V:Int)].map (fun v=>hl5 (rowA F N k d v.toNat) (ndE q lost) d)=[hl5 (rowA F N k d V) (ndE q lost) d]from rfl,e4,Int.natCast_add,Int.natCast_one]at ih
  rw[←ih,sb5 c3L1.eq_def]
  unfold plT at*
  generalize ((L.take i).map fun v=>hl5 (rowA F N k d v.toNat) (ndE q lost) d)=G at*
  generalize u89 ((allF F N k d).map vs) S=B at*
  by_cases hm:(V:Int)∈S
  ·rw[if_pos hm]at e1
   simp(disch:=first|omega|fail) only[push_cast,seval,ui5,lu7,y81,bj9,wrap64,dec_lt,cw6,nl3,qc6,mr8,nb8,if_pos,if_neg,e0,e1,hl1,hl2,e2]
  ·rw[if_neg hm]at e1
   simp(disch:=first|omega|fail) only[push_cast,seval,ui5,lu7,y81,bj9,wrap64,dec_lt,cw6,nl3,qc6,mr8,nb8,if_pos,if_neg,e0,e1,hl1,hl2,e2]
end
end Go.Proofs.Ytmhbpecdpiapgaa
namespace Go.Proofs.Ytmhbpecdpiapgaa
open Go.Am
def seqR:Nat→ACode→ACode
 |n+1, .seq _ b=>seqR n b
 |_,c=>c
end Go.Proofs.Ytmhbpecdpiapgaa
namespace Go.Proofs.Ytmhbpecdpiapgaa
open Go.Am Go.Vm Go.Alg
section
variable {q:Int} [IsFld q] {k d N:Nat} {F:List (El q)} {L:List Int}
theorem ti7: ∀B:List (List Int),jj5 (gvT B)=lvs 2 B
 | []=>rfl
 |l::m=>by
  have:=ti7 m
  rw[show lvs 2 (l::m)= .sl 2 0 1 (ivs l)::lvs 2 m from rfl,show gvT (l::m)= .fz (.sl 2 0 1 (ivs l))::gvT m from rfl,jj5,this];rfl
theorem p01{l:List Int}(h:l.Nodup)(k:Nat):(l.take k).Nodup:=List.Sublist.nodup (List.take_sublist k l) h
theorem ys2{T:Tree}{e:Nat}{cs:List Tree}:wb3 [T, .pt e cs] 1 (.own 1 [])=some false:=rfl
theorem he7(hn:L.Nodup)(hLN:L.length=N){W0:Nat}(hlo:L[N-1]? =some (W0:Int))(hN:1≤N){m:Nat}(hm:m≤N-1): ¬(W0:Int)∈L.take m:=fun hmem=>by
 obtain⟨j,hj,e⟩:=List.getElem_of_mem hmem
 rw[List.length_take]at hj
 have hL':L[j]? =some (W0:Int):=by
  rw[List.getElem_take]at e
  rw[List.getElem?_eq_getElem (by omega),e]
 have hji:=(List.getElem?_inj (i:=j) (j:=N-1) (by omega) hn).1 (hL'.trans hlo.symm)
 omega
theorem th9(h:PlanOK q N k d)(hn:L.Nodup)(hLN:L.length=N)(hL: ∀v∈L,0≤v∧v<N){e W0:Nat}(hlo:L[N-1]? =some (W0:Int)):
 vgo W ⟨h3,[.tmp 12],0⟩ [.code (seqR 20 c3)] (VFr.of [(4, .x (.int .i64 d)),(13, .own 0 []),(16, .own 1 []),(17, .own 2 []),(21, .x (.int .i64 W0)),(22, .own 3 [])]) [plT e q N k d, .sl 1 22 1 (u89 ((allF F N k d).map vs) (L.take k)), .sl 0 3 1 (ivs L), .sl 1 3 1 (ivs (vs ((L.take d).map fun v=>hl5 (rowA F N k d v.toNat) (ndE q W0) d)))]=some (.x (.bool true),[],[]):=by
 have h1:=h.n16
 have h2:=h.kd
 have h3:=h.dn
 have h4:=h.k1
 have h5:=h.n2
 obtain⟨l0,l1⟩:=hL _ (List.mem_of_getElem? hlo)
 have hd:(L.take d).length=d:=by rw[List.length_take];omega
 have hLd: ∀v∈L.take d,0≤v∧v<N:=fun v hv=>hL v (List.mem_of_mem_take hv)
 have sd:=yv4 (n:=(N:Int)) (L.take d) [] (p01 hn d) hLd
 have hany:((L.take d).any fun y=>decide ((W0:Int)=y))=false:=by
  rw[List.any_eq_false]
  intro y hy
  rw[decide_eq_true_eq]
  rintro rfl
  exact he7 hn hLN hlo (by omega) (by omega) hy
 have hW:W0<N:=by omega
 have ms:=ea0 (F:=F) (k:=k) h.nq (p01 hn d) hd hLd hW
 have hHl:((L.take d).map fun v=>hl5 (rowA F N k d v.toNat) (ndE q W0) d).length=d:=by rw[List.length_map,hd]
 have hW0:(0:Int)≤(W0:Int):=by omega
 have hW1:(W0:Int)<(N:Int):=by omega
 have e4:=fun b b' b2 nl nl2 e=>u14 (q:=q) (b:=b) (b':=b') (b2:=b2) (nl:=nl) (nl2:=nl2) (e:=e) h hd hLd sd hW0 hW1 hany hHl ms
 have i1:=to3 (A:=(allF F N k d).map vs) (S:=L.take k) (i:=W0) (by rw[xe2];omega)
 rw[if_neg (he7 hn hLN hlo (by omega) (by omega)),qr9 (by omega)]at i1
 have e5:=fun b nl b' nl'=>nb2 (b:=b) (nl:=nl) (b':=b') (nl':=nl') (l:=vs (rowA F N k d W0)) (k:=vs (rowA F N k d W0)) (by rw[fi2,xh8 (by omega)];omega)
 rw[decide_eq_true (rfl:vs (rowA F N k d W0)=vs (rowA F N k d W0))]at e5
 have hl1:=uq5 ((allF F N k d).map vs) (L.take k)
 rw[xe2]at hl1
 have gd:((d:Int)-0).toNat=d:=by omega
 unfold plT at*
 unfold c3
 simp only[seqR]
 generalize (L.take d).map (fun v=>hl5 (rowA F N k d v.toNat) (ndE q W0) d)=G at*
 generalize u89 ((allF F N k d).map vs) (L.take k)=B at*
 generalize vs (rowA F N k d W0)=RW at*
 clear sd hany hLd hd
 simp(disch:=first|omega|fail) only[push_cast,seval,ui5,lu7,y81,bj9,wrap64,dec_lt,cw6,nl3,qc6,mr8,nb8,if_pos,if_neg,gd,e4,i1,e5,hl1]
theorem f72(h:PlanOK q N k d)(hF:F.length=h61 k d)(hn:L.Nodup)(hLN:L.length=N)(hL: ∀v∈L,0≤v∧v<N){e:Nat}:
 vgo W ⟨h3,[.tmp 12],0⟩ [.code (seqR 15 c3)] (VFr.of [(2, .x (.int .i64 N)),(3, .x (.int .i64 k)),(4, .x (.int .i64 d)),(13, .own 0 []),(15, .own 1 []),(16, .own 2 []),(17, .own 3 []),(18, .own 4 [])]) [plT e q N k d, .sl 1 3 1 (ivs (vs F)), .sl 1 22 1 (u89 ((allF F N k d).map vs) (L.take k)), .sl 0 3 1 (ivs L), .sl 1 22 1 (gvT ((L.take k).map fun v=>nth ((allF F N k d).map vs) v.toNat))]=some (.x (.bool true),[],[]):=by
 have h1:=h.n16
 have h2:=h.kd
 have h3:=h.dn
 have h4:=h.k1
 have h5:=h.n2
 have hsz:=size_le h
 have hk:(L.take k).length=k:=by rw[List.length_take];omega
 have hLk: ∀v∈L.take k,0≤v∧v<N:=fun v hv=>hL v (List.mem_of_mem_take hv)
 have sk:=yv4 (n:=(N:Int)) (L.take k) [] (p01 hn k) hLk
 have hrows:((L.take k).map fun v=>nth ((allF F N k d).map vs) v.toNat)=((L.take k).map fun v=>rowA F N k d v.toNat).map vs:=by
  rw[List.map_map]
  refine List.map_congr_left fun v hv=> ?_
  have:=hLk v hv
  rw[qr9 (by omega)];rfl
 have hHl:((L.take k).map fun v=>rowA F N k d v.toNat).length=k:=by rw[List.length_map,hk]
 have hHr: ∀r∈(L.take k).map (fun v=>rowA F N k d v.toNat),r.length=d:=fun r hr=>by
  obtain⟨v,hv,rfl⟩:=List.mem_map.1 hr
  have:=hLk v hv
  exact xh8 (by omega)
 have rs:=gk6 h (p01 hn k) hk hLk hF
 have e1:=fun b b2 b' nl nl2 nr e=>x38 (q:=q) (b:=b) (b2:=b2) (b':=b') (nl:=nl) (nl2:=nl2) (nr:=nr) (e:=e) h (p01 hn k) hk hLk sk hHl hHr rs
 have e2:=fun b nl b' nl'=>nb2 (b:=b) (nl:=nl) (b':=b') (nl':=nl') (l:=vs F) (k:=vs F) (by rw[fi2];omega)
 rw[decide_eq_true (rfl:vs F=vs F)]at e2
 obtain⟨lo,hlo⟩:=ge6 (l:=L) (i:=N-1) (by omega)
 obtain⟨l0,l1⟩:=hL lo (List.mem_of_getElem? hlo)
 obtain⟨W0,rfl⟩: ∃W0:Nat,lo=W0:=⟨lo.toNat,by omega⟩
 have i0:=iat hlo
 have e3:=fun ks=>n09 (F:=F) (S:=L.take k) h hL (by omega) (by omega) (lost:=W0) (by omega) (e:=e) d 0 (by omega) ks
 simp only[Int.natCast_zero,List.take_zero,List.map_nil,rp2,lz6]at e3
 have tl:=th9 (F:=F) (e:=e) h hn hLN hL hlo
 have gk:((k:Int)-0).toNat=k:=by omega
 have sg:=ti7 (((L.take k).map fun v=>rowA F N k d v.toNat).map vs)
 have hNm:((N:Int)-1).toNat=N-1:=by omega
 rw[hrows]
 unfold plT at*
 unfold c3
 simp only[seqR]
 generalize (L.take d).map (fun v=>hl5 (rowA F N k d v.toNat) (ndE q W0) d)=G at*
 generalize gvT (((L.take k).map fun v=>rowA F N k d v.toNat).map vs)=B1 at*
 generalize ((L.take k).map fun v=>rowA F N k d v.toNat).map vs=B2 at*
 generalize u89 ((allF F N k d).map vs) (L.take k)=B at*
 generalize vs F=VF at*
 clear hLk sk hk
 simp(disch:=first|omega|fail) only[push_cast,seval,ui5,lu7,y81,bj9,wrap64,dec_lt,cw6,nl3,qc6,mr8,nb8,if_pos,if_neg,sg,gk,e1,e2,i0,hLN,hNm,Bool.not_true,Bool.not_false]
 rw[e3]
 exact tl
end
theorem bd6{raw os:List Int}{b b':Bool}{nl nl':Nat}(hl:raw.length≤9223372036854775807)(hl2:os.length≤9223372036854775807){q n k d:Int}(q1: -9223372036854775808≤q)(q2:q≤9223372036854775807)(n1: -9223372036854775808≤n)(n2:n≤9223372036854775807)(k1: -9223372036854775808≤k)(k2:k≤9223372036854775807)(d1: -9223372036854775808≤d)(d2:d≤9223372036854775807):
 o24 W 3 [.fz b (.sl nl 0 1 (ivs raw)), .x (.int .i64 q), .x (.int .i64 n), .x (.int .i64 k), .x (.int .i64 d), .fz b' (.sl nl' 0 1 (ivs os))] []=some (.x (.bool true),[],[]):=by
 by_cases h256:256<IntKind.wrap .i64 ((raw.length:Int)+(os.length:Int))
 ·rw[o10 rfl T3 rfl]
  unfold F3 c3
  simp(disch:=first|omega|fail) only[push_cast,seval,ui5,lu7,y81,bj9,wrap64,dec_lt,cw6,nl3,qc6,mr8,nb8,if_pos,if_neg,dec_lt h256]
 ·have h256':=cw6 (Int.not_lt.1 h256)
  have p0:=s88 q1 q2 (show(0:Int)<11 by omega)
  have hp0:=h60 (a:=q) (n:=11) (by omega)
  obtain⟨i,z,hj,hi,hz3,hz64,hfz,hat⟩:=ib0 hp0.1 hp0.2
  haveI:=hfz
  rw[hj]at p0
  unfold tszL at hat
  have w0:IntKind.wrap .i64 (z-1)=z-1:=wrap64 (by omega) (by omega)
  have p1:=s88 n1 n2 (show(0:Int)<z-1 by omega)
  have hp1:=h60 (a:=n) (n:=z-1) (by omega)
  have w1:IntKind.wrap .i64 (2+pkI n (z-1))=2+pkI n (z-1):=wrap64 (by omega) (by omega)
  have fin: ∀(N:Nat),2≤N→N≤12→(N:Int)≤z→(if 12<2+pkI n (z-1)then 12 else 2+pkI n (z-1))=(N:Int)→o24 W 3 [.fz b (.sl nl 0 1 (ivs raw)), .x (.int .i64 q), .x (.int .i64 n), .x (.int .i64 k), .x (.int .i64 d), .fz b' (.sl nl' 0 1 (ivs os))] []=some (.x (.bool true),[],[]):=by
   intro N hN1 hN2 hNz hif
   have w2:IntKind.wrap .i64 ((N:Int)-1)=(N:Int)-1:=wrap64 (by omega) (by omega)
   have p2:=s88 d1 d2 (show(0:Int)<(N:Int)-1 by omega)
   have hp2:=h60 (a:=d) (n:=(N:Int)-1) (by omega)
   obtain⟨D,hD⟩: ∃D:Nat,(D:Int)=1+pkI d ((N:Int)-1):=⟨(1+pkI d ((N:Int)-1)).toNat,by omega⟩
   have w3:IntKind.wrap .i64 (1+pkI d ((N:Int)-1))=(D:Int):=by rw[wrap64 (by omega) (by omega)];omega
   have p3:=s88 k1 k2 (show(0:Int)<(D:Int) by omega)
   have hp3:=h60 (a:=k) (n:=(D:Int)) (by omega)
   obtain⟨K,hK⟩: ∃K:Nat,(K:Int)=1+pkI k (D:Int):=⟨(1+pkI k (D:Int)).toNat,by omega⟩
   have w4:IntKind.wrap .i64 (1+pkI k (D:Int))=(K:Int):=by rw[wrap64 (by omega) (by omega)];omega
   have hPO:PlanOK z (N:Int) K D:=⟨by omega,by omega,by omega,by omega,by omega,by omega⟩
   have e1:=tr6 (q:=z) (n:=(N:Int)) (k:=(K:Int)) (d:=(D:Int))
   rw[if_pos (xt1 hPO)]at e1
   have e2:=fun b e=>bm8 (b:=b) (e:=e) hPO
   have hsz:=size_le hPO
   obtain⟨F,hF,hFl⟩:=m61 (raw:=raw) (frm:=0) (q:=z) (n:=h61 K D) (by omega)
   have e3:=fun b nl=>vv4 (b:=b) (nl:=nl) hl (frm:=0) (q:=z) (by omega) (by omega) (by omega) (N:=h61 K D) (by omega)
   rw[hF]at e3
   have e4:=fun b b' nl e=>vq8 (b:=b) (b':=b') (nl:=nl) (e:=e) hPO hFl
   obtain⟨L,l1,l2,l3,e5⟩:=mz4 hl2 (q:=N) (n:=N) (by omega) (Nat.le_refl N)
   have hal:=xe2 (F:=F) (k:=K) (d:=D) (N:=N)
   have e6:=fun T0 T1 ks=>ct3 (A:=(allF F N K D).map vs) (L:=L) (T0:=T0) (T1:=T1) (by omega) (by rw[hal];exact l3) l2 (k:=K) (by omega) (by omega) (n:=(N:Int)) (d:=(D:Int)) K 0 (by omega) ks
   simp only[Int.natCast_zero,List.take_zero,List.map_nil,kt6,show gvT []=[]from rfl]at e6
   have tail:=f72 (F:=F) (e:=108) hPO hFl l2 l1 l3
   unfold plT at*
   generalize hAA:(allF F N K D).map vs=AA at*
   rw[o10 rfl T3 rfl]
   unfold F3 c3
   by_cases hlt:12<2+pkI n (z-1)
   ·rw[if_pos hlt]at hif
    have hN12:(12:Int)=(N:Int):=by omega
    rw[hN12]at hlt
    simp(disch:=first|omega|fail) only[push_cast,seval,ui5,lu7,y81,bj9,wrap64,dec_lt,cw6,nl3,qc6,mr8,nb8,if_pos,if_neg,h256',p0,hat,w0,p1,w1,hN12,dec_lt hlt,w2,p2,w3,p3,w4,e1,ys2,e2,e3,e4,e5,hal,l1]
    rw[e6]
    exact tail
   ·rw[if_neg hlt]at hif
    replace w1:=w1.trans hif
    rw[hif]at hlt
    simp(disch:=first|omega|fail) only[push_cast,seval,ui5,lu7,y81,bj9,wrap64,dec_lt,cw6,nl3,qc6,mr8,nb8,if_pos,if_neg,h256',p0,hat,w0,p1,w1,cw6 (Int.not_lt.1 hlt),w2,p2,w3,p3,w4,e1,ys2,e2,e3,e4,e5,hal,l1]
    rw[e6]
    exact tail
  by_cases hlt:12<2+pkI n (z-1)
  ·exact fin 12 (by omega) (by omega) (by omega) (by rw[if_pos hlt];rfl)
  ·exact fin (2+pkI n (z-1)).toNat (by omega) (by omega) (by omega) (by rw[if_neg hlt];omega)
end Go.Proofs.Ytmhbpecdpiapgaa
namespace Go.Proofs.Ytmhbpecdpiapgaa
open Go.Am Go.Vm Go.Alg
section
variable {h:H} {l:List AV} {ws:List Value}
theorem a23:Vm.VRL h [] (allZ h) (allZ h) [] []:=by rw[Vm.VRL]
theorem dp0(r:Vm.VRL h [] (allZ h) (allZ h) l ws)(v:Value):Vm.VRL h [] (allZ h) (allZ h) (.x v::l) (v::ws):=by
 rw[Vm.VRL];exact⟨v,ws,rfl,by rw[Vm.VR],r⟩
theorem qj4{sa:Option Addr}{c:Nat}{zs:List Int}(hr:RdI h sa c zs): ∀o,sa.map (·.block)=some o→allZ h o:=fun o ho=>by
 rcases hr with⟨rfl,_⟩|⟨_,o2,off,r2,rfl,h1,_⟩
 ·cases ho
 ·cases ho;exact h42 h1
theorem sk6(r:Vm.VRL h [] (allZ h) (allZ h) l ws){sa:Option Addr}{c:Nat}{zs:List Int}(hr:RdI h sa c zs):Vm.VRL h [] (allZ h) (allZ h) (.fz true (.sl 2 0 1 (ivs zs))::l) (.slice sa zs.length c::ws):=by
 rw[Vm.VRL];exact⟨_,ws,rfl,by rw[Vm.VR];exact pd9 hr (qj4 hr),r⟩
end
end Go.Proofs.Ytmhbpecdpiapgaa
namespace Go.Proofs.Ytmhbpecdpiapgaa
open Go.Am Go.Vm Go.Alg
theorem b10(h:H)(s0:Option Addr)(c0:Nat)(z0:List Int)(r0:RdI h s0 c0 z0)(_:ss4 h 1 s0=true)(_:z0.length≤9223372036854775807)(a1:Int)(_: -9223372036854775808≤a1)(_:a1≤9223372036854775807)(a2:Int)(_: -9223372036854775808≤a2)(_:a2≤9223372036854775807)(a3:Int)(_: -9223372036854775808≤a3)(_:a3≤9223372036854775807)(a4:Int)(_: -9223372036854775808≤a4)(_:a4≤9223372036854775807)(s5:Option Addr)(c5:Nat)(z5:List Int)(r5:RdI h s5 c5 z5)(_:ss4 h 1 s5=true)(_:z5.length≤9223372036854775807):
 ∃h',call T 3 [.slice s0 z0.length c0, .int .i64 a1, .int .i64 a2, .int .i64 a3, .int .i64 a4, .slice s5 z5.length c5] h=some (.bool true,h'):=
 vlaw lw2 (sk6 (dp0 (dp0 (dp0 (dp0 (sk6 a23 r5) _) _) _) _) r0) (by apply bd6<;>assumption)
end Go.Proofs.Ytmhbpecdpiapgaa
