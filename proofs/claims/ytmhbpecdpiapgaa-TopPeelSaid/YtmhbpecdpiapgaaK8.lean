/-
  matrix.Reduce, Rank called, in the second machine. Conditions: rows that fit. matrix.Null, in the second machine. Conditions: rows that fit. The one form is told by what rows span; a form of forms; wh ..
-/
import Derived.Test.YtmhbpecdpiapgaaK7
import Derived.Test.YtmhbpecdpiapgaaK6
set_option linter.unusedVariables false
set_option linter.unusedSimpArgs false
set_option linter.unusedSectionVars false
set_option maxRecDepth 100000
namespace Go.Proofs.Ytmhbpecdpiapgaa
open Go.Am Go.Vm Go.Alg
section
variable {q:Int} {b:Bool} {nl nr:Nat}
theorem e58(he:matE q []=0):o24 W 151 [.x (.int .i64 q), .fz b (.sl nl 0 1 [])] []=some (.tup [.x (.slice none 0 0), .own 0 [], .x (.int .i64 0)],[.sl 1 3 1 []],[]):=by
 have e1:=fun b nl=>or9 (q:=q) (M:=[]) (b:=b) (nl:=nl) (nr:=0)
 simp only[em1,he]at e1
 rw[o10 rfl T151 rfl]
 unfold F151 c151
 simp(disch:=first|omega|fail) only[push_cast,seval,vrl,if_pos,if_neg,e1]
theorem ru4 [IsFld q]{N:List (List (El q))}{n:Nat}(hr: ∀r∈N,r.length=n): ∀r∈N.map vs,r.length=n:=fun c hc=>by
 obtain⟨r,hr',rfl⟩:=List.mem_map.1 hc
 rw[fi2,hr r hr']
theorem sy6 [IsFld q]{N:List (List (El q))}{n:Nat}(hl:N.length≤64)(hr: ∀r∈N,r.length=n)(h0:0<n)(hn:n≤64):matE q (N.map vs)=0:=by
 obtain⟨d,hd⟩:=gh1 (q:=q)
 unfold matE
 rw[hd]
 show(if 64<(N.map vs).length then 4 else _)=(0:Int)
 rw[if_neg (by rw[List.length_map];omega),kn4]
 have: ∀L:List (List (El q)),(∀r∈L,r∈N)→wb9 q (nth N 0).length (L.map vs)=0:=by
  intro L
  induction L with
  |nil=>intro _;rfl
  |cons r L ih=>
   intro h
   have h1:r∈N:=h r (by simp)
   have h2:(nth N 0).length=n:=by
    cases N with
    |nil=>cases h1
    |cons a N=>exact hr a (by simp)
   rw[List.map_cons,wb9,if_pos,ih fun x hx=>h x (by simp[hx])]
   unfold rowE
   rw[fi2,hr r h1,h2,if_neg (by omega),if_neg (by omega),if_neg]
   intro h3
   obtain⟨z,hz,h4⟩:=List.any_eq_true.1 h3
   obtain⟨x,hx,rfl⟩:=List.mem_map.1 hz
   rw[x.ok]at h4
   cases h4
 exact this N fun r h=>h
theorem lq3 [IsFld q]{N:List (List (El q))}{n:Nat}(h0:0<N.length)(hl:N.length≤64)(hr: ∀r∈N,r.length=n)(hn0:0<n)(hn:n≤64):
 o24 W 151 [.x (.int .i64 q), .fz b (.sl nl 0 1 (lvs nr (N.map vs)))] []=some (.tup [.own 0 [], .own 1 [], .x (.int .i64 0)],[.sl 0 22 1 (lls 2 (pvR (redR N))), .sl 1 3 1 (ivs (pvP (redR N)))],[]):=by
 have he:=sy6 hl hr hn0 hn
 have hrv:=ru4 hr
 have e1:=fun b nl nr=>or9 (q:=q) (M:=N.map vs) (b:=b) (nl:=nl) (nr:=nr)
 simp only[he]at e1
 have e2:=fun b nl nr=>y80 (b:=b) (nl:=nl) (nr:=nr) (M:=N.map vs) (fun r hr'=>by have:=hrv r hr';omega) (by rw[List.length_map];omega)
 obtain⟨M',P',c',I,hd,e3⟩:=x17 (M0:=N) (n:=n) (R:=N.length) rfl h0 (by omega) (by omega) n 0 N [] (by omega) (RedI.start hr)
 have hout:=I.end' hd hr
 have hpl:=I.pl
 have hfst:=t15 hpl
 have hsnd:=hn3 hpl
 rw[hout]at hfst hsnd
 have hP:pn P'=pvP (redR N):=by rw[←hfst];unfold pn pvP;rw[List.map_map];rfl
 have hPl:P'.length=(redR N).length:=by rw[←hfst,List.length_map]
 have hR:(M'.map vs).take (redR N).length=pvR (redR N):=by
  rw[←hPl,←List.map_take,←hsnd];unfold pvR;rw[List.map_map];rfl
 have hMl:M'.length=N.length:=I.len
 rw[hP]at e3
 have hpl2:=ga8 (redR N)
 have hnil:ivs (pn [])=[]:=rfl
 rw[hnil]at e3
 simp only[Int.natCast_zero]at e3
 have htk:(lls 2 (M'.map vs)).take (redR N).length=lls 2 (pvR (redR N)):=by rw[mm0,hR]
 rw[o10 rfl T151 rfl]
 unfold F151 c151
 simp(disch:=first|omega|fail) only[push_cast,seval,vrl,if_pos,if_neg,e1,e2]
 rw[e3]
 simp(disch:=first|omega|fail) only[push_cast,seval,vrl,if_pos,if_neg,hpl2,htk]
end
section
variable {q:Int} {b:Bool} {nl nr n6 n7:Nat}
section
variable [IsFld q] {A:List (Nat×List (El q))} {N:Nat} {K:List (List Int)}
theorem up4(hA: ∀a∈A,a.2.length=N∧a.1<N)(hAl:A.length≤1000)(hN:N≤900){c:Nat}(hc:c<N){T9:Tree}:
 ∀(n k:Nat) (x:List (El q)),k+n=A.length→x.length=N→ ∀ks,
  vgoL W ⟨h112,[.tmp 4, .tmp 5],0⟩ [0,1,6,7,9,11,12,13,39,40,54,55,56] c112L0 (.blk 2 [0,1,6,7,9,11,13,39,40]::ks) [(0, .x (.int .i64 q)),(1, .fz b (.sl nl 0 1 (lvs nr K))),(6, .own 0 []),(7, .own 1 []),(9, .fz true (pF q)),(11, .own 2 []),(12, .x (.int .i64 c)),(13, .own 3 []),(39, .x (.int .i64 N)),(40, .x (.int .i64 c)),(54, .own 1 []),(55, .x (.int .i64 A.length)),(56, .x (.int .i64 k))] [.sl n6 22 1 (lls 2 (pvR A)), .sl n7 3 1 (ivs (pvP A)),T9, .sl 0 3 1 (ivs (vs x))]=
   vgo W ⟨h112,[.tmp 4, .tmp 5],0⟩ ks (VFr.of [(0, .x (.int .i64 q)),(1, .fz b (.sl nl 0 1 (lvs nr K))),(6, .own 0 []),(7, .own 1 []),(9, .fz true (pF q)),(11, .own 2 []),(13, .own 3 []),(39, .x (.int .i64 N)),(40, .x (.int .i64 c))]) [.sl n6 22 1 (lls 2 (pvR A)), .sl n7 3 1 (ivs (pvP A)),T9, .sl 0 3 1 (ivs (vs (setN c (A.drop k) x)))]
 |0,k,x,hk,hx,ks=>by
  have h1:=nu3 A
  rw[oh9 (by omega),setN,sb5 c112L0.eq_def]
  simp(disch:=first|omega|fail) only[push_cast,seval,vrl,if_pos,if_neg,h1]
 |n+1,k,x,hk,hx,ks=>by
  obtain⟨a,ha⟩:=ge6 (l:=A) (i:=k) (by omega)
  obtain⟨hal,hap⟩:=hA a (List.mem_of_getElem? ha)
  have ih:=up4 hA hAl hN hc (T9:=T9) n (k+1) (x.set a.1 (-wf a.2 c)) (by omega) (by rw[List.length_set];exact hx) ks
  have h1:=nu3 A
  have h2:=ga8 A
  have h3:=x08 ha
  have h4:=bx6 ha
  have h5:=iva (l:=a.2) (i:=c) (by omega)
  have hs:=g52 x a.1 (-wf a.2 c)
  rw[tg5]at hs
  rw[Int.natCast_add,Int.natCast_one]at ih
  rw[i62 ha,setN,←ih,sb5 c112L0.eq_def]
  simp(disch:=first|omega|fail) only[push_cast,seval,vrl,if_pos,if_neg,h1,h2,h3,h4,h5,hs]
theorem lu0{α:Type}(A:List (Nat×α))(c:Nat):((pvP A).any fun y=>decide ((c:Int)=y))=A.any fun a=>a.1==c:=by
 rw[←tc4]
 congr 1
 funext y
 exact decide_eq_decide.2 eq_comm
theorem xl7(hA: ∀a∈A,a.2.length=N∧a.1<N)(hAl:A.length≤1000)(hN:N≤900)(hK:0<K.length)(hK0:(nth K 0).length=N):
 ∀(d c:Nat) (L:List (List (El q))),c+d=N→L.length≤c→ ∀ks,
  vgoL W ⟨h112,[.tmp 4, .tmp 5],0⟩ [0,1,6,7,9,11,39,40] c112L1 (.blk 0 [0,11]::ks) [(0, .x (.int .i64 q)),(1, .fz b (.sl nl 0 1 (lvs nr K))),(6, .own 0 []),(7, .own 1 []),(9, .fz true (pF q)),(11, .own 2 []),(39, .x (.int .i64 N)),(40, .x (.int .i64 c))] [.sl n6 22 1 (lls 2 (pvR A)), .sl n7 3 1 (ivs (pvP A)), .sl 1 22 1 (lls 2 (L.map vs))]=
   vgo W ⟨h112,[.tmp 4, .tmp 5],0⟩ ks (VFr.of [(0, .x (.int .i64 q)),(11, .own 2 [])]) [.sl n6 22 1 (lls 2 (pvR A)), .sl n7 3 1 (ivs (pvP A)), .sl 1 22 1 (lls 2 ((L++ez9 N A d c).map vs))]
 |0,c,L,hc,hL,ks=>by
  rw[ez9,List.append_nil,sb5 c112L1.eq_def]
  simp(disch:=first|omega|fail) only[push_cast,seval,vrl,if_pos,if_neg]
 |d+1,c,L,hc,hL,ks=>by
  have IH:=xl7 hA hAl hN hK hK0 d (c+1)
  have h1:=nu3 A
  have h2:=ga8 A
  have e1:=fun b nl=>o94 (b:=b) (nl:=nl) (l:=pvP A) (x:=(c:Int)) (by omega)
  rw[lu0]at e1
  rw[ez9]
  by_cases hin:(A.any fun a=>a.1==c)=true
  ·rw[if_pos hin]
   rw[hin]at e1
   have ih:=IH L (by omega) (by omega) ks
   rw[Int.natCast_add,Int.natCast_one]at ih
   rw[←ih,sb5 c112L1.eq_def]
   simp(disch:=first|omega|fail) only[push_cast,seval,vrl,if_pos,if_neg,e1]
  ·rw[if_neg hin]
   have hin':(A.any fun a=>a.1==c)=false:=Bool.eq_false_iff.mpr hin
   rw[hin']at e1
   have ih:=IH (L++[xRow N c A]) (by omega) (by simp;omega) ks
   rw[List.append_assoc,List.singleton_append,List.map_append,Int.natCast_add,Int.natCast_one]at ih
   obtain⟨k0,hk0⟩:=ge6 (l:=K) (i:=0) hK
   have h3:=lat (nl:=nr) hk0
   have h4:=xr8 hk0
   rw[h4]at hK0
   have e:=fun T9 ks=>up4 (K:=K) (b:=b) (nl:=nl) (nr:=nr) (n6:=n6) (n7:=n7) (T9:=T9) hA hAl hN (c:=c) (by omega) A.length 0 ((List.replicate N (0:El q)).set c 1) (by omega) (by simp) ks
   have hz:(List.replicate N (0:Int)).set c 1=vs ((List.replicate N (0:El q)).set c 1):=by rw[←g52,←qj2];rfl
   simp only[Int.natCast_zero,List.take_zero,List.drop_zero,rp2,lz6,x25,List.map_nil,List.length_nil]at e
   have hx:setN c A ((List.replicate N (0:El q)).set c 1)=xRow N c A:=rfl
   rw[hx]at e
   rw[←ih,sb5 c112L1.eq_def]
   simp(disch:=first|omega|fail) only[push_cast,seval,vrl,if_pos,if_neg,e1,h2,h3,hK0,hz]
   rw[e]
   simp(disch:=first|omega|fail) only[push_cast,seval,vrl,if_pos,if_neg]
end
theorem ss9 [IsFld q]{N:List (List (El q))}{n:Nat}(h0:0<N.length)(hl:N.length≤64)(hr: ∀r∈N,r.length=n)(hn0:0<n)(hn:n≤64):
 o24 W 112 [.x (.int .i64 q), .fz b (.sl nl 0 1 (lvs nr (N.map vs)))] []=some (.tup [.own 0 [], .x (.int .i64 0)],[.sl (if ez9 n (redR N) n 0=[]then 1 else 0) 22 1 (lls 2 (pvR (zt5 n N)))],[]):=by
 have e1:=fun b nl nr=>lq3 (b:=b) (nl:=nl) (nr:=nr) h0 hl hr hn0 hn
 obtain⟨r1,r2,r3⟩:=bi2 hr
 have hAA: ∀a∈redR N,a.2.length=n∧a.1<n:=fun a ha=>⟨r2 a ha,r1.lt (a.1,wf a.2) (xe5.2 ⟨a,ha,rfl⟩)⟩
 have hAl:(redR N).length≤1000:=by have:=ew4 hr;omega
 obtain⟨k0,hk0⟩:=ge6 (l:=N) (i:=0) h0
 have h3:=mva (nl:=nr) hk0
 have hk0l:=hr k0 (List.mem_of_getElem? hk0)
 have e2:=fun n6 n7 ks=>xl7 (K:=N.map vs) (b:=b) (nl:=nl) (nr:=nr) (n6:=n6) (n7:=n7) hAA hAl (by omega) (by rw[List.length_map];exact h0) (by rw[kn4,xr8 hk0];exact hk0l) n 0 [] (by omega) (by simp) ks
 simp only[List.nil_append]at e2
 simp only[Int.natCast_zero,List.take_zero,List.drop_zero,rp2,lz6,x25,List.map_nil,List.length_nil]at e2
 have hnl:=to9 n (redR N) n 0
 rw[o10 rfl T112 rfl]
 unfold F112 c112
 simp(disch:=first|omega|fail) only[push_cast,seval,vrl,if_pos,if_neg,e1,h3,hk0l]
 rw[e2]
 by_cases hT:ez9 n (redR N) n 0=[]
 ·have e3:=fun b nl=>e58 (q:=q) (b:=b) (nl:=nl) (by have:=sy6 (q:=q) (N:=[]) (n:=n) (by simp) (by simp) hn0 hn;exact this)
  have h0:zt5 n N=[]:=by unfold zt5;rw[hT];rfl
  rw[if_pos hT,hT,h0,List.map_nil,x25]
  simp(disch:=first|omega|fail) only[push_cast,seval,vrl,if_pos,if_neg,e3]
  rfl
 ·have hT0:0<(ez9 n (redR N) n 0).length:=List.length_pos_iff.2 hT
  have e3:=fun b nl nr=>lq3 (b:=b) (nl:=nl) (nr:=nr) hT0 (by omega) (sg4 n (redR N) n 0) hn0 hn
  rw[if_neg hT]
  simp(disch:=first|omega|fail) only[push_cast,seval,vrl,if_pos,if_neg,e3]
  rfl
end
end Go.Proofs.Ytmhbpecdpiapgaa
namespace Go.Alg
section
variable {K:Type} [FK K] {n:Nat}
def p78(A:List (Nat×List K)):List (List K):=A.map Prod.snd
theorem z42(A:List (Nat×List K)):(p78 A).map wf=rowsOf (toF A):=by
 unfold p78 rowsOf toF;rw[List.map_map,List.map_map];rfl
theorem zu4{A:List (Nat×List K)}(h: ∀a∈A,a.2.length=n): ∀r∈p78 A,r.length=n:=fun r hr=>by
 obtain⟨a,ha,rfl⟩:=List.mem_map.1 hr
 exact h a ha
theorem ej4: ∀{A B:List (Nat×List K)},(∀a∈A,a.2.length=n)→(∀a∈B,a.2.length=n)→toF A=toF B→A=B
 | [],[],_,_,_=>rfl
 | [],b::B,_,_,h=>by cases h
 |a::A,[],_,_,h=>by cases h
 |a::A,b::B,hA,hB,h=>by
  unfold toF at h
  rw[List.map_cons,List.map_cons,List.cons.injEq,Prod.mk.injEq]at h
  have h1:a=b:=Prod.ext h.1.1 (ou8 (by rw[hA a (by simp),hB b (by simp)]) h.1.2)
  rw[h1,ej4 (fun c hc=>hA c (by simp[hc])) (fun c hc=>hB c (by simp[hc])) h.2]
theorem jr2{A:List (Nat×List K)}(h:Rref n (toF A))(hl: ∀a∈A,a.2.length=n):redR (p78 A)=A:=by
 obtain⟨b1,b2,b3⟩:=bi2 (zu4 hl)
 exact ej4 b2 hl (b1.uniq h fun w=>by rw[b3,z42])
theorem gz7{M:List (List K)}(hM: ∀m∈M,m.length=n):redR (p78 (redR M))=redR M:=by
 obtain⟨a1,a2,_⟩:=bi2 hM
 exact jr2 a1 a2
theorem cx8{M:List (List K)}(hM: ∀m∈M,m.length=n):zt5 n (p78 (redR M))=zt5 n M:=by
 unfold zt5;rw[gz7 hM]
theorem tq6{M:List (List K)}(hM: ∀m∈M,m.length=n):redR (p78 (zt5 n M))=zt5 n M:=by
 obtain⟨a1,a2,_⟩:=sw1 hM
 exact jr2 a1 a2
theorem ch2{M:List (List K)}(hM: ∀m∈M,m.length=n){u w:Nat→K}(hu:Span (M.map wf) u)(hw:Span (rowsOf (toF (zt5 n M))) w):dotF n u w=0:=by
 have h:=(((sw1 hM).2.2.1 w).1 hw).2
 refine fz3 (fun r hr=> ?_) hu
 obtain⟨m,hm,rfl⟩:=List.mem_map.1 hr
 exact h m hm
def pn7(n:Nat):List (Nat×List K):=(List.range n).map fun c=>(c,f05 n c)
theorem um4:Rref n (toF (pn7 n:List (Nat×List K))):=by
 have hm: ∀x∈toF (pn7 n:List (Nat×List K)),∃c,c<n∧x=(c,wf (f05 n c)):=fun x hx=>by
  obtain⟨a,ha,rfl⟩:=xe5.1 hx
  obtain⟨c,hc,rfl⟩:=List.mem_map.1 ha
  exact⟨c,List.mem_range.1 hc,rfl⟩
 refine⟨?_,fun x hx=> ?_,fun x hx k hk=> ?_,fun x hx=> ?_,fun x hx k hk=> ?_,fun x hx y hy h=> ?_⟩
 ·unfold toF pn7
  rw[List.map_map,List.pairwise_map]
  exact List.pairwise_lt_range
 ·obtain⟨c,hc,rfl⟩:=hm x hx
  show wf (f05 n c:List K) c=1
  rw[ez3 hc,if_pos rfl]
 ·obtain⟨c,hc,rfl⟩:=hm x hx
  show wf (f05 n c:List K) k=0
  have hk':k<c:=hk
  rw[ez3 hc,if_neg (by omega)]
 ·obtain⟨c,hc,rfl⟩:=hm x hx
  exact hc
 ·obtain⟨c,hc,rfl⟩:=hm x hx
  exact ez8 (by rw[sm5];exact hk)
 ·obtain⟨c,hc,rfl⟩:=hm x hx
  obtain⟨d,hd,rfl⟩:=hm y hy
  show wf (f05 n c:List K) d=0
  have h':c≠d:=h
  rw[ez3 hc,if_neg fun e=>h' e.symm]
theorem xt7{M:List (List K)}(h:redR M=[]):zt5 n M=pn7 n:=by
 have h1:ez9 n ([]:List (Nat×List K)) n 0=p78 (pn7 n):=by
  rw[pv1]
  unfold sk9 p78 pn7
  rw[List.map_map]
  have:(List.range n).filter (fun c=> !(([]:List (Nat×List K)).any fun a=>a.1==c))=List.range n:=by
   rw[List.filter_eq_self];intro c _;rfl
  rw[this]
  refine List.map_congr_left fun c _=> ?_
  show xRow n c []=f05 n c
  unfold xRow setN f05
  rfl
 unfold zt5
 rw[h,h1]
 exact jr2 um4 fun a ha=>by
  obtain⟨c,_,rfl⟩:=List.mem_map.1 ha
  exact sm5 n c
end
end Go.Alg
namespace Go.Proofs.Ytmhbpecdpiapgaa
open Go.Am Go.Vm Go.Alg
theorem lo3{q:Int}(A:List (Nat×List (El q))):pvR A=(p78 A).map vs:=by unfold pvR p78;rw[List.map_map];rfl
theorem ga9{q:Int}{A:List (Nat×List (El q))}:(p78 A).length=A.length:=by unfold p78;rw[List.length_map]
section
variable {q n:Int} {nl nr:Nat} {M:List (List Int)}
end
section
variable {q:Int} [IsFld q] {k nl nr:Nat} {N:List (List (El q))}
theorem z60{q n:Int}{M:List (List Int)}(h:gi9 q n M=0):matE q M=0:=by
 unfold gi9 at h
 split at h
 ·cases h
 ·split at h
  ·cases h
  ·split at h
   ·rename_i h2;exact h2
   ·rename_i h2;exact absurd h h2
theorem ob1(he:gi9 q k (N.map vs)=0)(h0:0<k)(hk:k≤64)(hl:N.length≤64)(hr: ∀r∈N,r.length=k):
 o24 W 111 [.agg [.x (.int .i64 q), .x (.int .i64 k), .fz true (.sl nl 0 1 (lvs nr (N.map vs)))]] []=some (.tup [.agg [.x (.int .i64 q), .x (.int .i64 k), .own 0 []], .x (.int .i64 0)],[.sl 2 22 1 (lls 2 (pvR (redR N)))],[]):=by
 have e1:=fun nl nr=>um1 (q:=q) (n:=k) (M:=N.map vs) (nl:=nl) (nr:=nr)
 simp only[he]at e1
 by_cases hN:N=[]
 ·subst hN
  have e1:=fun nl=>e1 nl 0
  have e2:=fun b nl=>e58 (b:=b) (nl:=nl) (z60 he)
  simp only[List.map_nil,em1]at e1
  rw[List.map_nil,em1,o10 rfl T111 rfl]
  unfold F111 c111
  simp(disch:=first|omega|fail) only[push_cast,seval,vrl,if_pos,if_neg,e1,e2]
  rfl
 ·have e2:=fun b nl nr=>lq3 (b:=b) (nl:=nl) (nr:=nr) (List.length_pos_iff.2 hN) hl hr h0 hk
  rw[o10 rfl T111 rfl]
  unfold F111 c111
  simp(disch:=first|omega|fail) only[push_cast,seval,vrl,if_pos,if_neg,e1,e2]
theorem r52(h0:0<k)(hk:k≤64){T:Tree}: ∀(d i:Nat),i+d=k→ ∀ks,
 vgoL W ⟨hNo,[(.cell 2 true 3), .tmp 3],0⟩ [1,2,23,24] c41L0 (.blk 0 [1,2]::ks) [(1, .own 0 []),(2, .own 1 []),(23, .x (.int .i64 k)),(24, .x (.int .i64 i))] [.pt 42 [.v (.int .i64 q), .v (.int .i64 k), .sl 2 22 1 (lls 2 ((p78 (pn7 k:List (Nat×List (El q)))).map vs|>.take i))],T]=
  vgo W ⟨hNo,[(.cell 2 true 3), .tmp 3],0⟩ ks (VFr.of [(1, .own 0 []),(2, .own 1 [])]) [.pt 42 [.v (.int .i64 q), .v (.int .i64 k), .sl 2 22 1 (lls 2 ((p78 (pn7 k:List (Nat×List (El q)))).map vs))],T]
 |0,i,hi,ks=>by
  rw[List.take_of_length_le (by rw[List.length_map,ga9];unfold pn7;simp;omega),sb5 c41L0.eq_def]
  simp(disch:=first|omega|fail) only[push_cast,seval,vrl,if_pos,if_neg]
 |d+1,i,hi,ks=>by
  have ih:=r52 h0 hk (T:=T) d (i+1) (by omega) ks
  have hg:((p78 (pn7 k:List (Nat×List (El q)))).map vs)[i]? =some (vs (f05 k i:List (El q))):=by
   unfold p78 pn7
   rw[List.map_map,List.map_map,List.getElem?_map,List.getElem?_range (by omega)];rfl
  have hu:(List.replicate k (0:Int)).set i 1=vs (f05 k i:List (El q)):=by unfold f05;rw[←g52,←qj2];rfl
  have hl:((p78 (pn7 k:List (Nat×List (El q)))).map vs).length=k:=by rw[List.length_map,ga9];unfold pn7;simp
  rw[Int.natCast_add,Int.natCast_one,List.take_add_one,hg,Option.toList_some]at ih
  rw[←ih,sb5 c41L0.eq_def]
  simp(disch:=first|omega|fail) only[push_cast,seval,vrl,if_pos,if_neg,hu,hl]
theorem x92(he:gi9 q k (N.map vs)=0)(h0:0<k)(hk:k≤64)(hl:N.length≤64)(hr: ∀r∈N,r.length=k):
 o24 W 41 [.agg [.x (.int .i64 q), .x (.int .i64 k), .fz true (.sl nl 0 1 (lvs nr (N.map vs)))]] []=some (.tup [.agg [.x (.int .i64 q), .x (.int .i64 k), .own 0 []], .x (.int .i64 0)],[.sl 2 22 1 (lls 2 (pvR (zt5 k N)))],[]):=by
 have e1:=fun nl nr=>ob1 (nl:=nl) (nr:=nr) he h0 hk hl hr
 have h1:=nu3 (redR N)
 by_cases hz:redR N=[]
 ·have e2:=fun T ks=>r52 (q:=q) (k:=k) h0 hk (T:=T) k 0 (by omega) ks
  rw[List.take_zero]at e2
  simp only[Int.natCast_zero]at e2
  rw[hz,show pvR ([]:List (Nat×List (El q)))=[]from rfl]at e1
  rw[lo3,xt7 hz,o10 rfl T41 rfl]
  unfold F41 c41
  simp(disch:=first|omega|fail) only[push_cast,seval,vrl,if_pos,if_neg,e1]
  rw[e2]
  simp(disch:=first|omega|fail) only[push_cast,seval,vrl,if_pos,if_neg]
 ·have hp:0<(redR N).length:=List.length_pos_iff.2 hz
  obtain⟨r1,r2,_⟩:=bi2 hr
  have hle:=ew4 hr
  have e2:=fun b nl nr=>ss9 (b:=b) (nl:=nl) (nr:=nr) (N:=p78 (redR N)) (n:=k) (by rw[ga9];exact hp) (by rw[ga9];omega) (zu4 r2) h0 hk
  rw[cx8 hr,←lo3]at e2
  rw[o10 rfl T41 rfl]
  unfold F41 c41
  simp(disch:=first|omega|fail) only[push_cast,seval,vrl,if_pos,if_neg,e1,h1,e2]
end
section
variable {b b':Bool} {nl nl' nr nr':Nat}
theorem ft0{l k:List Int}(hl:l.length≤9223372036854775807)(hk:k.length=l.length): ∀(d i:Nat),i+d=l.length→ ∀ks,
 vgoL W ⟨hNo,[.tmp 4],0⟩ [0,1,5] c19L0 (.blk 0 []::ks) [(0, .fz b (.sl nl 0 1 (ivs l))),(1, .fz b' (.sl nl' 0 1 (ivs k))),(5, .x (.int .i64 i))] []=
  if l.drop i=k.drop i then vgo W ⟨hNo,[.tmp 4],0⟩ ks (VFr.of []) []else some (.x (.bool false),[],[])
 |0,i,hi,ks=>by
  rw[oh9 (by omega),oh9 (by omega),if_pos rfl,sb5 c19L0.eq_def]
  simp(disch:=first|omega|fail) only[push_cast,seval,vrl,if_pos,if_neg]
 |d+1,i,hi,ks=>by
  have ih:=ft0 hl hk d (i+1) (by omega) ks
  obtain⟨a,ha⟩:=ge6 (l:=l) (i:=i) (by omega)
  obtain⟨c,hc⟩:=ge6 (l:=k) (i:=i) (by omega)
  have h1:=iat ha
  have h2:=iat hc
  rw[i62 ha,i62 hc]
  rw[Int.natCast_add,Int.natCast_one]at ih
  by_cases h:a=c
  ·have hiff:(a::l.drop (i+1)=c::k.drop (i+1))=(l.drop (i+1)=k.drop (i+1)):=by rw[h];simp
   simp only[hiff]
   rw[←ih,sb5 c19L0.eq_def]
   simp(disch:=first|omega|fail) only[push_cast,seval,vrl,if_pos,if_neg,h1,h2,h]
  ·rw[if_neg (by intro e;exact h (List.cons.inj e).1),sb5 c19L0.eq_def]
   simp(disch:=first|omega|fail) only[push_cast,seval,vrl,if_pos,if_neg,h1,h2,nb8 h]
theorem nb2{l k:List Int}(hl:l.length≤9223372036854775807):o24 W 19 [.fz b (.sl nl 0 1 (ivs l)), .fz b' (.sl nl' 0 1 (ivs k))] []=some (.x (.bool (decide (l=k))),[],[]):=by
 by_cases hk:k.length=l.length
 ·have e:=fun ks=>ft0 (b:=b) (b':=b') (nl:=nl) (nl':=nl') hl hk l.length 0 (by omega) ks
  simp only[Int.natCast_zero,List.take_zero,List.drop_zero,rp2,lz6,x25,List.map_nil,List.length_nil]at e
  rw[o10 rfl T19 rfl]
  unfold F19 c19
  simp(disch:=first|omega|fail) only[push_cast,seval,vrl,if_pos,if_neg,hk]
  rw[e]
  by_cases h:l=k
  ·rw[if_pos h,decide_eq_true h]
   simp(disch:=first|omega|fail) only[push_cast,seval,vrl,if_pos,if_neg]
  ·rw[if_neg h,decide_eq_false h]
 ·have h: ¬l=k:=fun e=>hk (by rw[e])
  have h8: ¬(l.length:Int)=(k.length:Int):=by omega
  rw[decide_eq_false h,o10 rfl T19 rfl]
  unfold F19 c19
  simp(disch:=first|omega|fail) only[push_cast,seval,vrl,if_pos,if_neg,nb8 h8]
section
variable {q:Int} [IsFld q]
end
end
section
variable {q n q' n' e:Int} {nl nr nl' nr':Nat} {M M':List (List Int)}
end
section
variable {q:Int} [IsFld q] {k nl nr nl2:Nat} {b:Bool} {N:List (List (El q))} {M:List (List Int)} {w:List Int}
theorem vf9(a:List (El q)):((vs a).any fun v=> !fok q v)=false:=List.any_eq_false.2 fun z hz=>by
 obtain⟨x,_,rfl⟩:=List.mem_map.1 hz
 rw[x.ok];decide
def encL(k:Nat)(m:List (El q))(R:List (List (El q))):List (El q):=prow k m R 0 (List.replicate k 0)
theorem b87(m:List (El q))(R:List (List (El q))):(encL k m R).length=k:=by unfold encL;rw[kv3];simp
theorem h23{n:Int}{i:Nat}{m:List (El q)}{r:List (El q)}(hm:m.length≤1000)(hr:r.length=k)(hk:k≤1000){T:Tree}: ∀(d j:Nat) (x:List (El q)),j+d=k→x.length=k→ ∀ks,
 vgoL W ⟨hNo,[.tmp 6],0⟩ [0,4,7,9,15,16,17,26,27,28] c116L0 (.blk 2 [0,4,7,15,16,17]::ks) [(0, .fz true (pF q)),(4, .own 0 []),(7, .own 1 []),(9, .x (.int .i64 ((wf m i).v))),(15, .fz b (.sl nl2 0 1 (ivs (vs m)))),(16, .x (.int .i64 m.length)),(17, .x (.int .i64 i)),(26, .fz true (.sl nr 0 1 (ivs (vs r)))),(27, .x (.int .i64 k)),(28, .x (.int .i64 j))] [T, .sl 0 3 1 (ivs (vs x))]=
  vgo W ⟨hNo,[.tmp 6],0⟩ ks (VFr.of [(0, .fz true (pF q)),(4, .own 0 []),(7, .own 1 []),(15, .fz b (.sl nl2 0 1 (ivs (vs m)))),(16, .x (.int .i64 m.length)),(17, .x (.int .i64 i))]) [T, .sl 0 3 1 (ivs (vs (mac (wf m i) r d j x)))]
 |0,j,x,hj,hx,ks=>by
  rw[mac,sb5 c116L0.eq_def]
  simp(disch:=first|omega|fail) only[push_cast,seval,vrl,if_pos,if_neg]
 |d+1,j,x,hj,hx,ks=>by
  have ih:=h23 (n:=n) (i:=i) (m:=m) hm hr hk (T:=T) d (j+1) (x.set j (wf x j+wf m i*wf r j)) (by omega) (by rw[List.length_set];exact hx) ks
  have h2:=iva (l:=r) (i:=j) (by omega)
  have h3:=iva (l:=x) (i:=j) (by omega)
  rw[Int.natCast_add,Int.natCast_one,←g52,on0,ym6]at ih
  rw[mac,←ih,sb5 c116L0.eq_def]
  simp(disch:=first|omega|fail) only[push_cast,seval,vrl,if_pos,if_neg,h2,h3]
theorem ib4{n:Int}{m:List (El q)}{R:List (List (El q))}(hm:m.length=R.length)(hmk:m.length≤1000)(hR: ∀r∈R,r.length=k)(hk:k≤1000): ∀(d i:Nat) (x:List (El q)),i+d=m.length→x.length=k→ ∀ks,
 vgoL W ⟨hNo,[.tmp 6],0⟩ [0,4,7,15,16,17] c116L1 (.blk 0 [7]::ks) [(0, .fz true (pF q)),(4, .own 0 []),(7, .own 1 []),(15, .fz b (.sl nl2 0 1 (ivs (vs m)))),(16, .x (.int .i64 m.length)),(17, .x (.int .i64 i))] [.pt 42 [.v (.int .i64 q), .v (.int .i64 n), .fz (.sl nl 0 1 (lvs nr (R.map vs)))], .sl 0 3 1 (ivs (vs x))]=
  vgo W ⟨hNo,[.tmp 6],0⟩ ks (VFr.of [(7, .own 1 [])]) [.pt 42 [.v (.int .i64 q), .v (.int .i64 n), .fz (.sl nl 0 1 (lvs nr (R.map vs)))], .sl 0 3 1 (ivs (vs (prow k m (R.drop i) i x)))]
 |0,i,x,hi,hx,ks=>by
  rw[List.drop_eq_nil_of_le (by omega),prow,sb5 c116L1.eq_def]
  simp(disch:=first|omega|fail) only[push_cast,seval,vrl,if_pos,if_neg]
 |d+1,i,x,hi,hx,ks=>by
  obtain⟨r,hr⟩:=ge6 (l:=R) (i:=i) (by omega)
  have hrl:=hR r (List.mem_of_getElem? hr)
  have ih:=ib4 (n:=n) hm hmk hR hk d (i+1) (mac (wf m i) r k 0 x) (by omega) (by rw[ev4];exact hx) ks
  have e:=fun T ks=>h23 (n:=n) (b:=b) (nr:=nr) (nl2:=nl2) (i:=i) (m:=m) hmk hrl hk (T:=T) k 0 x (by omega) hx ks
  simp only[Int.natCast_zero,List.take_zero,List.drop_zero,rp2,lz6,x25,List.map_nil,List.length_nil]at e
  have h1:=iva (l:=m) (i:=i) (by omega)
  have h2:=mva (nl:=nr) hr
  rw[Int.natCast_add,Int.natCast_one]at ih
  rw[i62 hr,prow,←ih,sb5 c116L1.eq_def]
  simp(disch:=first|omega|fail) only[push_cast,seval,vrl,if_pos,if_neg,h1,h2,hrl]
  rw[e]
  simp(disch:=first|omega|fail) only[push_cast,seval,vrl,if_pos,if_neg]
theorem gm8{m:List (El q)}{R:List (List (El q))}(hm:m.length=R.length)(hmk:m.length≤1000)(hR: ∀r∈R,r.length=k)(hk:k≤1000):
 o24 W 116 [.fz true (pF q), .agg [.x (.int .i64 q), .x (.int .i64 k), .fz true (.sl nl 0 1 (lvs nr (R.map vs)))], .fz b (.sl nl2 0 1 (ivs (vs m)))] []=some (.own 0 [],[.sl 0 3 1 (ivs (vs (encL k m R)))],[]):=by
 have e:=fun ks=>ib4 (q:=q) (b:=b) (nl:=nl) (nr:=nr) (nl2:=nl2) (n:=k) hm hmk hR hk m.length 0 (List.replicate k 0) (by omega) (by simp) ks
 have hz:List.replicate k (0:Int)=vs (List.replicate k (0:El q)):=by rw[←qj2];rfl
 simp only[Int.natCast_zero,List.take_zero,List.drop_zero,rp2,lz6,x25,List.map_nil,List.length_nil]at e
 unfold encL
 rw[o10 rfl T116 rfl]
 unfold F116 c116
 simp(disch:=first|omega|fail) only[push_cast,seval,vrl,if_pos,if_neg,hz]
 rw[e]
 simp(disch:=first|omega|fail) only[push_cast,seval,vrl,if_pos,if_neg]
theorem nn3{e:Nat}(v:Int):o24 W 114 [.x (.int .i64 v), .fz b (.pt e [pF q])] []=some (.x (.bool (!fok q v)),[],[]):=by
 rw[o10 rfl T114 rfl]
 unfold F114 c114
 simp(disch:=first|omega|fail) only[push_cast,seval,vrl,if_pos,if_neg]
theorem wc5(he:gi9 q k (N.map vs)=0)(h0:0<k)(hk:k≤64)(hl:N.length≤64)(hr: ∀r∈N,r.length=k){m:List (El q)}(hm:m.length=(redR N).length):
 o24 W 42 [.agg [.x (.int .i64 q), .x (.int .i64 k), .fz true (.sl nl 0 1 (lvs nr (N.map vs)))], .fz b (.sl nl2 0 1 (ivs (vs m)))] []=some (.tup [.own 0 [], .x (.int .i64 0)],[.sl 0 3 1 (ivs (vs (encL k m (p78 (redR N)))))],[]):=by
 have e1:=fun nl nr=>ob1 (nl:=nl) (nr:=nr) he h0 hk hl hr
 obtain⟨r1,r2,_⟩:=bi2 hr
 have hle:=ew4 hr
 have hf:=fun bl nl b e=>eg0 (nl:=nl) (l:=vs m) (bl:=bl) (k:=114) (b:=b) (t:= .pt e [pF q]) nn3 rfl (by rw[fi2];omega)
 simp only[vf9]at hf
 have e2:=fun b nl nr nl2=>gm8 (q:=q) (b:=b) (nl:=nl) (nr:=nr) (nl2:=nl2) (m:=m) (R:=p78 (redR N)) (by rw[ga9,hm]) (by omega) (zu4 r2) (by omega)
 rw[←lo3]at e2
 have h1:=nu3 (redR N)
 rw[o10 rfl T42 rfl]
 unfold F42 c42
 simp(disch:=first|omega|fail) only[push_cast,seval,vrl,if_pos,if_neg,e1,h1,hm,hf,e2]
end
section
variable {k:FuncId} {p:Int→Bool} {l:List Int} {nl:Nat}
end
section
variable {q:Int} [IsFld q] {k nl nr nl2:Nat} {b:Bool} {N:List (List (El q))}
end
section
variable {K:Type} [FK K] {k:Nat}
theorem q35(c:K){w x:List K}(hw:w.length=k)(hx:x.length=k):wf (mac c w k 0 x)=axp c (wf x) (wf w):=by
 funext i
 rw[ga7 _ _ _ _ _ _ (by omega)]
 show _=wf x i+c*wf w i
 by_cases hi:i<k
 ·rw[if_pos ⟨Nat.zero_le _,by omega⟩]
 ·rw[if_neg (by omega),ez8 (l:=w) (by omega),mul_zero,FK.add_zero]
theorem va8{S:List (Nat→K)}{a:List K}: ∀(Q:List (List K)) (i:Nat) (x:List K),x.length=k→(∀r∈Q,r.length=k)→Span S (wf x)→(∀r∈Q,Span S (wf r))→Span S (wf (prow k a Q i x))
 | [],i,x,hx,_,h,_=>by rw[prow];exact h
 |w::Q,i,x,hx,hl,h,hr=>by
  rw[prow]
  refine va8 Q (i+1) _ (by rw[ev4];exact hx) (fun r h=>hl r (by simp[h])) ?_ fun r h=>hr r (by simp[h])
  rw[q35 _ (hl w (by simp)) hx]
  exact h.axp (hr w (by simp)) _
theorem tj2(n:Nat):wf (List.replicate n (0:K))=fun _=>0:=by
 funext i
 by_cases h:i<n
 ·rw[i66 (by simpa using h),List.getElem_replicate]
 ·rw[ez8 (by simpa using h)]
end
section
variable {q:Int} [IsFld q] {k:Nat}
theorem wv8{m:List (El q)}{R:List (List (El q))}(hR: ∀r∈R,r.length=k):Span (R.map wf) (wf (encL k m R)):=by
 unfold encL
 refine va8 R 0 _ (by simp) hR (by rw[tj2];exact .zero) fun r hr=> .mem (List.mem_map.2 ⟨r,hr,rfl⟩)
end
def ckR(raw:List Int)(n i:Nat):Nat→List Int
 |0=>[]
 |k+1=>ckR raw n i k++if pkI (rwI raw ((i:Int)*(n:Int)+(k:Int))) 3=0 then [(k:Int)]else []
def ckL(raw:List Int)(n:Nat):Nat→List (List Int)
 |0=>[]
 |i+1=>ckL raw n i++[ckR raw n i n]
theorem xt1(raw:List Int)(n i:Nat): ∀k,∀v∈ckR raw n i k,0≤v∧v<k
 |0,v,h=>by cases h
 |k+1,v,h=>by
  rw[ckR,List.mem_append]at h
  rcases h with h|h
  ·have:=xt1 raw n i k v h;omega
  ·split at h
   ·rw[List.mem_singleton]at h;omega
   ·cases h
theorem lo1{n:Nat}{c:List Int}(h:IncC n c){x:Int}(h0:0≤x)(hx:x<n)(hl: ∀v∈c,v<x):IncC n (c++[x]):=fun j hj=>by
 rw[List.length_append,List.length_singleton]at hj
 have old: ∀t:Nat,t<c.length→gi (c++[x]) t=gi c t:=fun t ht=>by
  unfold gi
  rw[Int.toNat_natCast,List.getD_eq_getElem?_getD,List.getD_eq_getElem?_getD,List.getElem?_append_left ht]
 by_cases hjl:j<c.length
 ·obtain⟨a,b,d⟩:=h j hjl
  rw[old j hjl]
  refine⟨a,b,fun hp=> ?_⟩
  rw[old (j-1) (by omega)]
  exact d hp
 ·obtain rfl:j=c.length:=by omega
  have e:gi (c++[x]) (c.length:Nat)=x:=by
   unfold gi
   rw[Int.toNat_natCast,List.getD_eq_getElem?_getD,List.getElem?_append_right (Nat.le_refl _),Nat.sub_self];rfl
  rw[e]
  refine⟨h0,hx,fun hp=> ?_⟩
  rw[old (c.length-1) (by omega)]
  exact hl _ (k18 (by omega) (by omega))
theorem ge5(raw:List Int){n i:Nat}: ∀k,k≤n→IncC n (ckR raw n i k)
 |0,_=>fun j hj=>by cases hj
 |k+1,hk=>by
  have ih:=ge5 raw (n:=n) (i:=i) k (by omega)
  rw[ckR]
  split
  ·exact lo1 (x:=(k:Int)) ih (by omega) (by omega) fun v hv=>(xt1 raw n i k v hv).2
  ·rw[List.append_nil];exact ih
theorem f71(raw:List Int)(n:Nat): ∀i,(ckL raw n i).length=i
 |0=>rfl
 |i+1=>by rw[ckL,List.length_append,f71 raw n i];rfl
theorem ek1(raw:List Int)(n:Nat): ∀i,∀c∈ckL raw n i,IncC n c
 |0,c,h=>by cases h
 |i+1,c,h=>by
  rw[ckL,List.mem_append]at h
  rcases h with h|h
  ·exact ek1 raw n i c h
  ·rw[List.mem_singleton]at h
   rw[h];exact ge5 raw n (Nat.le_refl n)
section
variable {b:Bool} {nl:Nat} {raw:List Int} {n m:Nat}
theorem s73(hrl:raw.length≤9223372036854775807)(hn:n≤64){i:Nat}(hi:i≤64){M:Int}{T0:Tree}: ∀(d k:Nat),k+d=n→ ∀ks,
 vgoL W ⟨h40,[.tmp 6],0⟩ [0,1,2,7,8,9,10] c40L0 (.blk 2 [0,1,2,7,8,9]::ks) [(0, .fz b (.sl nl 0 1 (ivs raw))),(1, .x (.int .i64 n)),(2, .x (.int .i64 M)),(7, .own 0 []),(8, .x (.int .i64 i)),(9, .own 1 []),(10, .x (.int .i64 k))] [T0, .sl 1 3 1 (ivs (ckR raw n i k))]=
  vgo W ⟨h40,[.tmp 6],0⟩ ks (VFr.of [(0, .fz b (.sl nl 0 1 (ivs raw))),(1, .x (.int .i64 n)),(2, .x (.int .i64 M)),(7, .own 0 []),(8, .x (.int .i64 i)),(9, .own 1 [])]) [T0, .sl 1 3 1 (ivs (ckR raw n i n))]
 |0,k,hk,ks=>by
  obtain rfl:k=n:=by omega
  rw[sb5 c40L0.eq_def]
  simp(disch:=first|omega|fail) only[push_cast,seval,vrl,if_pos,if_neg]
 |d+1,k,hk,ks=>by
  have ih:=s73 hrl hn hi (M:=M) (T0:=T0) d (k+1) (by omega) ks
  have hmul:i*n≤64*64:=Nat.mul_le_mul hi hn
  have hz:(i:Int)*(n:Int)=((i*n:Nat):Int):=by rw[Int.natCast_mul]
  have hr:=bd0 (l:=raw) (i:=(i:Int)*(n:Int)+(k:Int)) (by omega) (by omega)
  have e1:=fun b nl=>yc3 (b:=b) (nl:=nl) (raw:=raw) (i:=(i:Int)*(n:Int)+(k:Int)) (by omega) hrl
  have e2:=s88 (n:=3) hr.1 hr.2 (by omega)
  have hll:(ckR raw n i k).length≤64:=by
   have:=xs4 (ge5 raw (n:=n) (i:=i) k (by omega));omega
  rw[ckR]at ih
  rw[sb5 c40L0.eq_def]
  generalize hX:(i:Int)*(n:Int)=X at*
  by_cases h:pkI (rwI raw (X+(k:Int))) 3=0
  ·rw[if_pos h]at ih
   simp only[Int.natCast_add,Int.natCast_one]at ih
   rw[←ih]
   generalize ckR raw n i k=C at*
   simp(disch:=first|omega|fail) only[push_cast,seval,vrl,if_pos,if_neg,hX,e1,e2,mr8 h,hll]
  ·rw[if_neg h,List.append_nil]at ih
   simp only[Int.natCast_add,Int.natCast_one]at ih
   rw[←ih]
   generalize ckR raw n i k=C at*
   simp(disch:=first|omega|fail) only[push_cast,seval,vrl,if_pos,if_neg,hX,e1,e2,nb8 h,hll]
theorem oi8(hrl:raw.length≤9223372036854775807)(hn:n≤64)(hm:m≤64): ∀(d i:Nat),i+d=m→ ∀ks,
 vgoL W ⟨h40,[.tmp 6],0⟩ [0,1,2,7,8] c40L1 (.blk 0 [7]::ks) [(0, .fz b (.sl nl 0 1 (ivs raw))),(1, .x (.int .i64 n)),(2, .x (.int .i64 m)),(7, .own 0 []),(8, .x (.int .i64 i))] [.sl 1 22 1 (lls 2 (ckL raw n i))]=
  vgo W ⟨h40,[.tmp 6],0⟩ ks (VFr.of [(7, .own 0 [])]) [.sl 1 22 1 (lls 2 (ckL raw n m))]
 |0,i,hi,ks=>by
  obtain rfl:i=m:=by omega
  rw[sb5 c40L1.eq_def]
  simp(disch:=first|omega|fail) only[push_cast,seval,vrl,if_pos,if_neg]
 |d+1,i,hi,ks=>by
  have ih:=oi8 hrl hn hm d (i+1) (by omega) ks
  have e1:=fun T0 ks=>s73 (b:=b) (nl:=nl) hrl hn (i:=i) (by omega) (M:=(m:Int)) (T0:=T0) n 0 (by omega) ks
  simp only[Int.natCast_zero,show ckR raw n i 0=[]from rfl,lz6]at e1
  have hll:=f71 raw n i
  have hs:=ng3 2 (ckL raw n i) (ckR raw n i n)
  rw[ckL,←hs,Int.natCast_add,Int.natCast_one]at ih
  rw[←ih,sb5 c40L1.eq_def]
  generalize ckL raw n i=C at*
  generalize ckR raw n i n=R at*
  simp(disch:=first|omega|fail) only[push_cast,seval,vrl,if_pos,if_neg]
  rw[e1]
  simp(disch:=first|omega|fail) only[push_cast,seval,vrl,if_pos,if_neg,hll]
theorem mj4(hrl:raw.length≤9223372036854775807)(hn:n≤64)(hm:m≤64):o24 W 40 [.fz b (.sl nl 0 1 (ivs raw)), .x (.int .i64 n), .x (.int .i64 m)] []=some (.own 0 [],[.sl 1 22 1 (lls 2 (ckL raw n m))],[]):=by
 have e:=fun ks=>oi8 (b:=b) (nl:=nl) (raw:=raw) hrl hn hm m 0 (by omega) ks
 simp only[Int.natCast_zero,show ckL raw n 0=[]from rfl,x25]at e
 rw[o10 rfl T40 rfl]
 unfold F40 c40
 simp(disch:=first|omega|fail) only[push_cast,seval,vrl,if_pos,if_neg]
 rw[e]
 simp(disch:=first|omega|fail) only[push_cast,seval,vrl,if_pos,if_neg]
end
end Go.Proofs.Ytmhbpecdpiapgaa
namespace Go.Alg
section
variable {K:Type} [FK K]
end
end Go.Alg
namespace Go.Alg
section
variable {K:Type} [FK K]
theorem pv3(n:Nat)(f g:Nat→K):sumN n (fun i=>f i+g i)=sumN n f+sumN n g:=jl9 _ _ _
theorem m13(n:Nat)(k:Nat):wf (List.replicate n (0:K)) k=0:=by
 by_cases h:k<n
 ·rw[i66 (by simpa using h),List.getElem_replicate]
 ·rw[ez8 (by simp;omega)]
def ev:List K→K→K
 | [],_=>0
 |a::l,x=>a+x*ev l x
def sd(x0:K):List K→List K×K
 | []=>([],0)
 | [a]=>([],a)
 |a::b::l=>((sd x0 (b::l)).2::(sd x0 (b::l)).1,a+x0*(sd x0 (b::l)).2)
theorem w89(x0:K): ∀l:List K,(sd x0 l).1.length=l.length-1
 | []=>rfl
 | [a]=>rfl
 |a::b::l=>by
  rw[sd]
  show(sd x0 (b::l)).1.length+1=_
  rw[w89 x0 (b::l)];simp
theorem n68(x0 y:K): ∀l:List K,ev l y=(y-x0)*ev (sd x0 l).1 y+(sd x0 l).2
 | []=>by rw[sd,ev,mul_zero,FK.add_zero]
 | [a]=>by
   show a+y*0=(y-x0)*0+a
   rw[mul_zero,mul_zero,FK.add_zero,zero_add]
 |a::b::l=>by
  rw[ev,n68 x0 y (b::l),sd]
  show a+y*((y-x0)*ev (sd x0 (b::l)).1 y+(sd x0 (b::l)).2)=(y-x0)*((sd x0 (b::l)).2+y*ev (sd x0 (b::l)).1 y)+(a+x0*(sd x0 (b::l)).2)
  generalize (sd x0 (b::l)).2=r
  generalize ev (sd x0 (b::l)).1 y=e
  rw[FK.mul_add,FK.mul_add,sub_mul y x0 r]
  have h1:y*((y-x0)*e)=(y-x0)*(y*e):=by ac_rfl
  rw[h1,sub_eq (y*r)]
  have h2:y*r+ -(x0*r)+(y-x0)*(y*e)+(a+x0*r)=a+((y-x0)*(y*e)+y*r)+(-(x0*r)+x0*r):=by ac_rfl
  rw[h2,neg_add,FK.add_zero]
theorem cz6(x0:K)(l:List K):(sd x0 l).2=ev l x0:=by
 have:=n68 x0 x0 l
 rw[sub_self,zero_mul,zero_add]at this
 exact this.symm
theorem rj2(x0:K): ∀l:List K,(∀c∈(sd x0 l).1,c=0)→(sd x0 l).2=0→ ∀c∈l,c=0
 | [],_,_,c,hc=>by cases hc
 | [a],_,h,c,hc=>by
   rw[List.mem_singleton.1 hc];exact h
 |a::b::l,h1,h2,c,hc=>by
  rw[sd]at h1 h2
  have hr:(sd x0 (b::l)).2=0:=h1 _ (by simp)
  have ih:=rj2 x0 (b::l) (fun c hc=>h1 c (by simp[hc])) hr
  rcases List.mem_cons.1 hc with rfl|hc
  ·rw[hr,mul_zero,FK.add_zero]at h2;exact h2
  ·exact ih c hc
theorem roots: ∀(xs:List K) (f:List K),xs.Nodup→f.length≤xs.length→(∀x∈xs,ev f x=0)→ ∀c∈f,c=0
 | [],f,_,hl,_=>by
   intro c hc
   rw[List.eq_nil_of_length_eq_zero (Nat.le_zero.1 hl)]at hc;cases hc
 |x0::xs,f,hn,hl,hx=>by
  rw[List.nodup_cons]at hn
  have h0:=hx x0 (by simp)
  rw[←cz6]at h0
  have hl2:=w89 x0 f
  rw[List.length_cons]at hl
  refine rj2 x0 f (roots xs _ hn.2 (by omega) fun y hy=> ?_) h0
  have h1:=n68 x0 y f
  rw[hx y (by simp[hy]),h0,FK.add_zero]at h1
  rcases mul_eq_zero h1.symm with h2|h2
  ·exact absurd (by rw[←sub_eq_zero.1 h2];exact hy) hn.1
  ·exact h2
end
end Go.Alg
namespace Go.Proofs.Ytmhbpecdpiapgaa
open Go.Am Go.Vm Go.Alg
theorem fn7: ∃p m g mod,fldN (2:Int).toNat=some (p,m,g,mod):=⟨_,_,_,_,rfl⟩
instance bit_isFld:IsFld 2:=⟨fn7⟩
theorem a15(a:El 2):a=0∨a=1:=by
 have h1:=a.lo
 have h2:=a.hi
 rcases(show a.v=0∨a.v=1 by omega)with h|h
 ·exact .inl (El.ext' h)
 ·exact .inr (El.ext' h)
theorem st3:fadd 2 1 1=0:=by kernel_rfl
theorem tf9(a b:El 2):(a+b).v=(a.v+b.v)%2:=by
 rcases a15 a with rfl|rfl
 ·rw[zero_add,hc8,Int.zero_add]
  rcases a15 b with rfl|rfl<;>rfl
 ·rcases a15 b with rfl|rfl
  ·rw[FK.add_zero];rfl
  ·rw[on0,wh3,st3];rfl
def chE(n:Nat)(c:List Int):List (El 2):=c.foldl (fun r v=>r.set v.toNat 1) (List.replicate n 0)
def chI(n:Nat)(c:List Int):List Int:=c.foldl (fun r v=>r.set v.toNat 1) (List.replicate n 0)
theorem p80: ∀(c:List Int) (r:List (El 2)),vs (c.foldl (fun r v=>r.set v.toNat 1) r)=c.foldl (fun r v=>r.set v.toNat 1) (vs r)
 | [],r=>rfl
 |v::c,r=>by
  rw[List.foldl_cons,List.foldl_cons,p80 c,←g52];rfl
theorem w58(n:Nat)(c:List Int):vs (chE n c)=chI n c:=by
 unfold chE chI
 rw[p80,←qj2];rfl
theorem ej6: ∀(c:List Int) (r:List (El 2)),(c.foldl (fun r v=>r.set v.toNat 1) r).length=r.length
 | [],r=>rfl
 |v::c,r=>by rw[List.foldl_cons,ej6 c,List.length_set]
theorem hv3(n:Nat)(c:List Int):(chE n c).length=n:=by unfold chE;rw[ej6];simp
theorem kp8(n:Nat)(c:List Int):(chI n c).length=n:=by rw[←w58,fi2,hv3]
theorem o39(n:Nat){c:List Int}{j:Nat}{v:Int}(h:c[j]? =some v):chI n (c.take (j+1))=(chI n (c.take j)).set v.toNat 1:=by
 unfold chI
 rw[List.take_add_one,h,List.foldl_append];rfl
theorem es2: ∀(c:List Int) (r:List (El 2)),(∀v∈c,0≤v∧v<r.length)→ ∀k:Nat,wf (c.foldl (fun r v=>r.set v.toNat 1) r) k=if(k:Int)∈c then 1 else wf r k
 | [],r,_,k=>by simp
 |v::c,r,h,k=>by
  have hv:=h v (by simp)
  rw[List.foldl_cons,es2 c _ (fun x hx=>by rw[List.length_set];exact h x (by simp[hx])) k,wf_set (by omega)]
  by_cases h1:(k:Int)∈c
  ·rw[if_pos h1,if_pos (List.mem_cons_of_mem _ h1)]
  ·rw[if_neg h1]
   by_cases h2:k=v.toNat
   ·rw[if_pos h2,if_pos]
    rw[show v=(k:Int) by omega];exact List.mem_cons_self
   ·rw[if_neg h2,if_neg]
    rw[List.mem_cons]
    rintro(h3|h3)
    ·exact h2 (by omega)
    ·exact h1 h3
theorem iv4{n:Nat}{c:List Int}(h: ∀v∈c,0≤v∧v<n)(k:Nat):wf (chE n c) k=if(k:Int)∈c then 1 else 0:=by
 unfold chE
 rw[es2 c _ (by simpa using h) k,m13]
theorem dz1(w:List (El 2))(p:Nat):gi (vs w) p=(wf w p).v:=by
 unfold gi wf vs
 rw[Int.toNat_natCast,List.getD_eq_getElem?_getD,List.getD_eq_getElem?_getD,List.getElem?_map]
 cases w[p]? <;>rfl
theorem kf9{n:Nat}{w:List (El 2)}: ∀c:List Int,(∀v∈c,0≤v∧v<n)→c.Nodup→(sumN n fun k=>(if(k:Int)∈c then(1:El 2)else 0)*wf w k).v=sumC (vs w) c%2
 | [],_,_=>by
   rw[ja4 fun k _=>by rw[if_neg (by simp),zero_mul]];rfl
 |v::c,h,hn=>by
  rw[List.nodup_cons]at hn
  have hv:=h v (by simp)
  have ih:=kf9 (w:=w) c (fun x hx=>h x (by simp[hx])) hn.2
  have e:(sumN n fun k=>(if(k:Int)∈v::c then(1:El 2)else 0)*wf w k)=(sumN n fun k=>(if(k:Int)=v then(1:El 2)else 0)*wf w k)+sumN n fun k=>(if(k:Int)∈c then(1:El 2)else 0)*wf w k:=by
   rw[←pv3]
   refine rc1 fun k _=> ?_
   by_cases h1:(k:Int)=v
   ·rw[if_pos h1,if_pos (by rw[h1];exact List.mem_cons_self),if_neg (by rw[h1];exact hn.1),zero_mul,FK.add_zero]
   ·rw[if_neg h1,zero_mul,zero_add]
    by_cases h2:(k:Int)∈c
    ·rw[if_pos h2,if_pos (List.mem_cons_of_mem _ h2)]
    ·rw[if_neg h2,if_neg (by rw[List.mem_cons];exact fun h=>h.elim h1 h2)]
  rw[e,tf9,ih,xq2 (s:=v.toNat) (by omega) fun k hk hne=>by rw[if_neg (by omega),zero_mul],if_pos (by omega),one_mul,sumC,←dz1,Int.toNat_of_nonneg hv.1]
  omega
theorem y19{n:Nat}{c:List Int}(h:IncC n c): ∀j i:Nat,i<j→j<c.length→gi c i<gi c j
 |j+1,i,hij,hj=>by
  have h1:=(h (j+1) hj).2.2 (by omega)
  rw[Nat.add_sub_cancel]at h1
  by_cases e:i=j
  ·rw[e];exact h1
  ·exact Int.lt_trans (y19 h j i (by omega) (by omega)) h1
theorem jn9{n:Nat}{c:List Int}(h:IncC n c):c.Nodup:=by
 refine List.pairwise_iff_getElem.2 fun i j hi hj hij e=> ?_
 have h1:=y19 h j i hij hj
 rw[h04 (by omega) (by omega),h04 (by omega) (by omega)]at h1
 simp only[Int.toNat_natCast]at h1
 omega
theorem ln5{n:Nat}{c:List Int}(h:IncC n c){w:List (El 2)}(hd:dotF n (wf (chE n c)) (wf w)=0):sumC (vs w) c%2=0:=by
 have hf:=f29 h
 rw[←kf9 (n:=n) c hf (jn9 h)]
 unfold dotF at hd
 rw[show(fun k:Nat=>wf (chE n c) k*wf w k)=fun k:Nat=>(if(k:Int)∈c then(1:El 2)else 0)*wf w k from funext fun k:Nat=>by rw[iv4 hf]]at hd
 rw[hd];rfl
theorem bs4{n:Nat}{cs:List (List Int)}(h: ∀c∈cs,IncC n c){u:List (El 2)}: ∀c∈cs,sumC (vs (encL n u (p78 (zt5 n (cs.map (chE n)))))) c%2=0:=fun c hc=>by
 have hM: ∀r∈cs.map (chE n),r.length=n:=fun r hr=>by
  obtain⟨x,_,rfl⟩:=List.mem_map.1 hr
  exact hv3 n x
 obtain⟨_,b2,_⟩:=sw1 hM
 have p2:=wv8 (k:=n) (m:=u) (zu4 b2)
 rw[z42]at p2
 exact ln5 (h c hc) (ch2 hM (.mem (List.mem_map.2 ⟨chE n c,List.mem_map.2 ⟨c,hc,rfl⟩,rfl⟩)) p2)
theorem rr7(w:List (El 2)): ∀v∈vs w,0≤v∧v≤1:=fun v hv=>by
 obtain⟨a,_,rfl⟩:=List.mem_map.1 hv
 have h1:=a.lo
 have h2:=a.hi
 omega
def fm1:List (List Int)→Tree
 | []=> .v (.slice none 0 0)
 |r::R=> .sl 2 22 1 (lls 2 (r::R))
section
variable {n:Nat} {cs:List (List Int)} {b1 b2 b3:Bool} {l1 l2 l3:Nat} {ms lo gu:List Int}
theorem yx3{c:List Int}{n13 i:Nat}{BX:Tree}(hc:IncC n c)(hn:n≤64)(hci:cs[i]? =some c)(hl:cs.length≤64): ∀(d j:Nat),j+d=c.length→ ∀ks,
 vgoL W ⟨h6,[.tmp 12],0⟩ [1,3,4,5,13,14,15,16,17] c6L0 (.blk 2 [1,3,4,5,13,14,15,16]::ks) [(1, .x (.int .i64 n)),(3, .fz b1 (.sl l1 0 1 (ivs ms))),(4, .fz b2 (.sl l2 0 1 (ivs lo))),(5, .fz b3 (.sl l3 0 1 (ivs gu))),(13, .own 0 []),(14, .own 1 []),(15, .x (.int .i64 i)),(16, .own 2 []),(17, .x (.int .i64 j))] [.sl n13 22 1 (lls 2 cs),BX, .sl 0 3 1 (ivs (chI n (c.take j)))]=
  vgo W ⟨h6,[.tmp 12],0⟩ ks (VFr.of [(1, .x (.int .i64 n)),(3, .fz b1 (.sl l1 0 1 (ivs ms))),(4, .fz b2 (.sl l2 0 1 (ivs lo))),(5, .fz b3 (.sl l3 0 1 (ivs gu))),(13, .own 0 []),(14, .own 1 []),(15, .x (.int .i64 i)),(16, .own 2 [])]) [.sl n13 22 1 (lls 2 cs),BX, .sl 0 3 1 (ivs (chI n c))]
 |0,j,hj,ks=>by
  have e0:=th8 (nl:=2) hci
  have hil:i<cs.length:=(List.getElem?_eq_some_iff.1 hci).1
  rw[List.take_of_length_le (by omega),sb5 c6L0.eq_def]
  simp(disch:=first|omega|fail) only[push_cast,seval,vrl,if_pos,if_neg,e0,hil]
 |d+1,j,hj,ks=>by
  have ih:=yx3 (n13:=n13) (BX:=BX) hc hn hci hl d (j+1) (by omega) ks
  have e0:=th8 (nl:=2) hci
  have hil:i<cs.length:=(List.getElem?_eq_some_iff.1 hci).1
  have hll:=xs4 hc
  obtain⟨v,hv⟩:=ge6 (l:=c) (i:=j) (by omega)
  have hvf:=f29 hc v (List.mem_of_getElem? hv)
  have e1:=iat hv
  have hjl:j<c.length:=by omega
  have hrl:=kp8 n (c.take j)
  rw[o39 n hv,Int.natCast_add,Int.natCast_one]at ih
  rw[←ih,sb5 c6L0.eq_def]
  generalize chI n (c.take j)=R at*
  simp(disch:=first|omega|fail) only[push_cast,seval,vrl,if_pos,if_neg,e0,hil,e1,hjl,hrl]
theorem ln9{n13:Nat}(hc: ∀c∈cs,IncC n c)(hn:n≤64)(hl:cs.length≤64): ∀(d i:Nat),i+d=cs.length→ ∀ks,
 vgoL W ⟨h6,[.tmp 12],0⟩ [1,3,4,5,13,14,15] c6L1 (.blk 0 [1,3,4,5,13,14]::ks) [(1, .x (.int .i64 n)),(3, .fz b1 (.sl l1 0 1 (ivs ms))),(4, .fz b2 (.sl l2 0 1 (ivs lo))),(5, .fz b3 (.sl l3 0 1 (ivs gu))),(13, .own 0 []),(14, .own 1 []),(15, .x (.int .i64 i))] [.sl n13 22 1 (lls 2 cs), .pt 42 [.v (.int .i64 2), .v (.int .i64 n),fm1 ((cs.take i).map (chI n))]]=
  vgo W ⟨h6,[.tmp 12],0⟩ ks (VFr.of [(1, .x (.int .i64 n)),(3, .fz b1 (.sl l1 0 1 (ivs ms))),(4, .fz b2 (.sl l2 0 1 (ivs lo))),(5, .fz b3 (.sl l3 0 1 (ivs gu))),(13, .own 0 []),(14, .own 1 [])]) [.sl n13 22 1 (lls 2 cs), .pt 42 [.v (.int .i64 2), .v (.int .i64 n),fm1 (cs.map (chI n))]]
 |0,i,hi,ks=>by
  rw[List.take_of_length_le (by omega),sb5 c6L1.eq_def]
  simp(disch:=first|omega|fail) only[push_cast,seval,vrl,if_pos,if_neg]
 |d+1,i,hi,ks=>by
  have ih:=ln9 (n13:=n13) hc hn hl d (i+1) (by omega) ks
  obtain⟨c,hci⟩:=ge6 (l:=cs) (i:=i) (by omega)
  have hil:i<cs.length:=by omega
  have e1:=fun BX ks=>yx3 (n:=n) (b1:=b1) (b2:=b2) (b3:=b3) (l1:=l1) (l2:=l2) (l3:=l3) (ms:=ms) (lo:=lo) (gu:=gu) (n13:=n13) (BX:=BX) (hc c (List.mem_of_getElem? hci)) hn hci hl c.length 0 (by omega) ks
  simp only[Int.natCast_zero,List.take_zero,show chI n []=List.replicate n 0 from rfl]at e1
  rw[Int.natCast_add,Int.natCast_one,List.take_add_one,hci,Option.toList_some,List.map_append,List.map_cons,List.map_nil]at ih
  have hml:((cs.take i).map (chI n)).length=i:=by rw[List.length_map,List.length_take];omega
  generalize (cs.take i).map (chI n)=RR at*
  cases RR with
  |nil=>
   rw[List.nil_append,show fm1 [chI n c]= .sl 2 22 1 [.sl 2 3 1 (ivs (chI n c))]from rfl]at ih
   rw[show fm1 []= .v (.slice none 0 0)from rfl,←ih,sb5 c6L1.eq_def]
   simp(disch:=first|omega|fail) only[push_cast,seval,vrl,if_pos,if_neg,hil,cs7]
   rw[e1]
   simp(disch:=first|omega|fail) only[push_cast,seval,vrl,if_pos,if_neg]
  |cons r R=>
   rw[show fm1 (r::R++[chI n c])= .sl 2 22 1 (lls 2 (r::R)++[.sl 2 3 1 (ivs (chI n c))])from by rw[ng3];rfl]at ih
   rw[show fm1 (r::R)= .sl 2 22 1 (lls 2 (r::R))from rfl,←ih,sb5 c6L1.eq_def]
   have hl2:=qf0 2 (r::R)
   rw[hml]at hl2
   generalize lls 2 (r::R)=V at*
   simp(disch:=first|omega|fail) only[push_cast,seval,vrl,if_pos,if_neg,hil,cs7]
   rw[e1]
   simp(disch:=first|omega|fail) only[push_cast,seval,vrl,if_pos,if_neg,hl2]
structure BadOk (n:Nat) (w bad:List Int):Prop where
 len:bad.length=n
 bits:cd6 bad
 was: ∀p:Nat,p<n→0≤gi bad p→gi bad p=gi w p
theorem b65{w bad:List Int}(h:BadOk n w bad){p:Int}(h0:0≤p)(hp:p<n):BadOk n w (bad.set p.toNat (-1)):=by
 have hl:=h.len
 refine⟨by rw[List.length_set,hl],fun v hv=> ?_,fun k hk h1=> ?_⟩
 ·rcases List.mem_or_eq_of_mem_set hv with h2|rfl
  ·exact h.bits v h2
  ·omega
 ·rw[oh5 h0 (by omega)]at h1⊢
  split at h1
  ·omega
  ·rename_i hne
   rw[if_neg hne];exact h.was k hk h1
theorem sd0{w:List Int}{n13 n20 n21:Nat}{T0 T1:Tree}(hn0:1≤n)(hn:n≤64)(hlo:lo.length≤9223372036854775807)(hli: ∀v∈lo,-9223372036854775808≤v∧v≤9223372036854775807): ∀(d i:Nat) (bad:List Int),i+d=lo.length→BadOk n w bad→ ∃bad',BadOk n w bad'∧ ∀T0 T1 ks,
 vgoL W ⟨h6,[.tmp 12],0⟩ [1,4,5,13,20,21,22] c6L2 (.blk 4 [1,5,13,20,21]::ks) [(1, .x (.int .i64 n)),(4, .fz b2 (.sl l2 0 1 (ivs lo))),(5, .fz b3 (.sl l3 0 1 (ivs gu))),(13, .own 0 []),(20, .own 1 []),(21, .own 2 []),(22, .x (.int .i64 i))] [T0,T1, .sl 0 3 1 (ivs bad)]=
  vgo W ⟨h6,[.tmp 12],0⟩ ks (VFr.of [(1, .x (.int .i64 n)),(5, .fz b3 (.sl l3 0 1 (ivs gu))),(13, .own 0 []),(20, .own 1 []),(21, .own 2 [])]) [T0,T1, .sl 0 3 1 (ivs bad')]
 |0,i,bad,hi,hb=>by
  refine⟨bad,hb,fun T0 T1 ks=> ?_⟩
  rw[sb5 c6L2.eq_def]
  simp(disch:=first|omega|fail) only[push_cast,seval,vrl,if_pos,if_neg]
 |d+1,i,bad,hi,hb=>by
  obtain⟨v,hv⟩:=ge6 (l:=lo) (i:=i) (by omega)
  have e0:=iat hv
  have hil:i<lo.length:=by omega
  have hvi:=hli v (List.mem_of_getElem? hv)
  have e1:=s88 (a:=v) (n:=(n:Int)) hvi.1 hvi.2 (by omega)
  have hp:=h60 (a:=v) (n:=(n:Int)) (by omega)
  have hbl:=hb.len
  obtain⟨bad',h1,h2⟩:=sd0 (n13:=n13) (n20:=n20) (n21:=n21) (T0:=T0) (T1:=T1) hn0 hn hlo hli d (i+1) (bad.set (pkI v n).toNat (-1)) (by omega) (b65 hb hp.1 hp.2)
  refine⟨bad',h1,fun T0 T1 ks=> ?_⟩
  have ih:=h2 T0 T1 ks
  rw[Int.natCast_add,Int.natCast_one]at ih
  rw[←ih,sb5 c6L2.eq_def]
  generalize pkI v n=k at*
  simp(disch:=first|omega|fail) only[push_cast,seval,vrl,if_pos,if_neg,e0,hil,e1,hbl]
end
def wd1(raw:List Int)(j:Int):Int:=if 1<pkI (rwI raw j) 4 then pkI (rwI raw j) 4-2 else pkI (rwI raw j) 4
def wdV(raw:List Int)(frm:Int)(n:Nat):List Int:=(List.range n).map fun i:Nat=>wd1 raw (frm+i)
theorem c31(raw:List Int)(frm:Int)(n:Nat):(wdV raw frm n).length=n:=by simp[wdV]
theorem ri0(raw:List Int)(frm:Int)(n:Nat):wdV raw frm (n+1)=wdV raw frm n++[wd1 raw (frm+n)]:=by unfold wdV;rw[List.range_succ,List.map_append];rfl
theorem uz0(raw:List Int)(j:Int):wd1 raw j=0∨wd1 raw j=1:=by
 have:=h60 (a:=rwI raw j) (n:=4) (by omega)
 unfold wd1
 split<;>omega
section
variable {b:Bool} {nl:Nat} {raw:List Int}
theorem g11(hrl:raw.length≤9223372036854775807){frm:Int}(hf0:0≤frm)(hf1:frm≤1000000){N:Nat}(hN:N≤1000): ∀(d i:Nat),i+d=N→ ∀ks,
 vgoL W ⟨h43,[.tmp 8],0⟩ [0,1,2,3,9,10] c43L0 (.blk 0 [9]::ks) [(0, .fz b (.sl nl 0 1 (ivs raw))),(1, .x (.int .i64 frm)),(2, .x (.int .i64 N)),(3, .x (.bool false)),(9, .own 0 []),(10, .x (.int .i64 i))] [.sl 1 3 1 (ivs (wdV raw frm i))]=
  vgo W ⟨h43,[.tmp 8],0⟩ ks (VFr.of [(9, .own 0 [])]) [.sl 1 3 1 (ivs (wdV raw frm N))]
 |0,i,hi,ks=>by
  obtain rfl:i=N:=by omega
  rw[sb5 c43L0.eq_def]
  simp(disch:=first|omega|fail) only[push_cast,seval,vrl,if_pos,if_neg]
 |d+1,i,hi,ks=>by
  have ih:=g11 hrl hf0 hf1 hN d (i+1) (by omega) ks
  have e1:=fun b nl=>yc3 (b:=b) (nl:=nl) (raw:=raw) (i:=frm+i) (by omega) hrl
  have hri:=bd0 (l:=raw) (i:=frm+i) (by omega) (by omega)
  have e2:=s88 (n:=4) hri.1 hri.2 (by omega)
  have hp:=h60 (a:=rwI raw (frm+i)) (n:=4) (by omega)
  have hl:=c31 raw frm i
  rw[Int.natCast_add,Int.natCast_one,ri0,wd1]at ih
  rw[←ih,sb5 c43L0.eq_def]
  by_cases h:1<pkI (rwI raw (frm+i)) 4
  ·rw[if_pos h]
   simp(disch:=first|omega|fail) only[push_cast,seval,vrl,if_pos,if_neg,e1,e2,hl,dec_lt h]
  ·rw[if_neg h]
   simp(disch:=first|omega|fail) only[push_cast,seval,vrl,if_pos,if_neg,e1,e2,hl,cw6 (Int.not_lt.1 h)]
theorem en9(hrl:raw.length≤9223372036854775807){frm:Int}(hf0:0≤frm)(hf1:frm≤1000000){N:Nat}(hN:N≤1000):o24 W 43 [.fz b (.sl nl 0 1 (ivs raw)), .x (.int .i64 frm), .x (.int .i64 N), .x (.bool false)] []=some (.own 0 [],[.sl 1 3 1 (ivs (wdV raw frm N))],[]):=by
 have e:=fun ks=>g11 (b:=b) (nl:=nl) hrl hf0 hf1 hN N 0 (by omega) ks
 rw[show wdV raw frm 0=[]from rfl]at e
 simp only[Int.natCast_zero,List.take_zero,List.drop_zero,rp2,lz6,x25,List.map_nil,List.length_nil]at e
 rw[o10 rfl T43 rfl]
 unfold F43 c43
 simp(disch:=first|omega|fail) only[push_cast,seval,vrl,if_pos,if_neg]
 rw[e]
 simp(disch:=first|omega|fail) only[push_cast,seval,vrl,if_pos,if_neg]
end
theorem e85(v:Int)(l:List Int):(l.any fun y=>decide (y=v))=decide (v∈l):=by
 rw[←ck6]
 congr 1
 funext y
 rw[decide_eq_decide]
 exact eq_comm
section
variable {n:Nat} {cs:List (List Int)} {b3:Bool} {l3:Nat} {gu w bad now:List Int}
structure SetOk (n:Nat) (bad S:List Int) (i:Nat):Prop where
 len:S.length≤i
 all: ∀v∈S,0≤v∧v<n∧gi bad v<0
theorem ik1{n23:Nat}(hn:n≤64)(hg:gu.length≤9223372036854775807)(hwl:w.length=n)(hbl:bad.length=n)(hnow:Peeled w bad n now): ∀(d i:Nat) (S:List Int),i+d=n→SetOk n bad S i→ ∃S',SetOk n bad S' n∧ ∀T0 ks,
 vgoL W ⟨h6,[.tmp 12],0⟩ [1,5,13,20,21,23,24,25,26] c6L3 (.blk 6 [1,13,20,24,25]::ks) [(1, .x (.int .i64 n)),(5, .fz b3 (.sl l3 0 1 (ivs gu))),(13, .own 0 []),(20, .own 1 []),(21, .own 2 []),(23, .own 3 []),(24, .own 4 []),(25, .own 5 []),(26, .x (.int .i64 i))] [T0, .sl 0 3 1 (ivs w), .sl 0 3 1 (ivs bad), .sl 0 3 1 (ivs now), .sl 1 3 1 (ivs (al8 now n 0)), .sl 1 3 1 (ivs S)]=
  vgo W ⟨h6,[.tmp 12],0⟩ ks (VFr.of [(1, .x (.int .i64 n)),(13, .own 0 []),(20, .own 1 []),(24, .own 4 []),(25, .own 5 [])]) [T0, .sl 0 3 1 (ivs w), .sl 0 3 1 (ivs bad), .sl 0 3 1 (ivs now), .sl 1 3 1 (ivs (al8 now n 0)), .sl 1 3 1 (ivs S')]
 |0,i,S,hi,hS=>by
  obtain rfl:i=n:=by omega
  refine⟨S,hS,fun T0 ks=> ?_⟩
  rw[sb5 c6L3.eq_def]
  simp(disch:=first|omega|fail) only[push_cast,seval,vrl,if_pos,if_neg]
 |d+1,i,S,hi,hS=>by
  have hin:i<n:=by omega
  have hnl:=hnow.len
  have e0:(ivs w)[i]? =some (.v (.int .i64 (gi w i))):=ui5 (by omega)
  have e1:(ivs bad)[i]? =some (.v (.int .i64 (gi bad i))):=ui5 (by omega)
  have e2:(ivs now)[i]? =some (.v (.int .i64 (gi now i))):=ui5 (by omega)
  have hll:=ps3 now n 0
  have e3:=fun b nl=>cr7 (b:=b) (nl:=nl) (x:=(i:Int)) (l:=al8 now n 0) (by omega)
  have hmem:decide ((i:Int)∈al8 now n 0)=decide (gi now i<0):=by
   rw[decide_eq_decide,d23]
   exact⟨fun h=>h.2.2,fun h=>⟨by omega,by omega,h⟩⟩
  simp only[e85,hmem]at e3
  have e4:=fun b nl=>yc3 (b:=b) (nl:=nl) (raw:=gu) (i:=(i:Int)) (by omega) hg
  have hri:=bd0 (l:=gu) (i:=(i:Int)) (by omega) (by omega)
  have e5:=s88 (a:=rwI gu i) (n:=3) hri.1 hri.2 (by omega)
  have hwas:=hnow.was i hin
  have hkept:=hnow.kept i hin
  have hSl:=hS.len
  by_cases hb:gi bad i<0
  ·by_cases hk:0<pkI (rwI gu i) 3
   ·obtain⟨S',h1,h2⟩:=ik1 (n23:=n23) hn hg hwl hbl hnow d (i+1) (S++[(i:Int)]) (by omega) ⟨by rw[List.length_append,List.length_singleton];omega,fun v hv=>by
     rcases List.mem_append.1 hv with h|h
     ·exact hS.all v h
     ·rw[List.mem_singleton]at h
      rw[h];exact⟨by omega,by omega,hb⟩⟩
    refine⟨S',h1,fun T0 ks=> ?_⟩
    have ih:=h2 T0 ks
    rw[Int.natCast_add,Int.natCast_one]at ih
    rw[←ih,sb5 c6L3.eq_def]
    generalize al8 now n 0=L at*
    generalize pkI (rwI gu i) 3=k at*
    generalize gi bad i=gb at*
    by_cases hx:gi now i<0
    ·rw[decide_eq_true hx]at e3
     generalize gi now i=gn at*
     simp(disch:=first|omega|fail) only[push_cast,seval,vrl,if_pos,if_neg,e0,e1,e2,e3,e4,e5,hwl,hbl,hnl,dec_lt hx,qc6 hx,dec_lt hb,qc6 hb,dec_lt hk]
    ·rw[decide_eq_false hx]at e3
     have hx':=Int.not_lt.1 hx
     have hww:=hwas hx'
     generalize gi now i=gn at*
     generalize gi w i=gw at*
     simp(disch:=first|omega|fail) only[push_cast,seval,vrl,if_pos,if_neg,e0,e1,e2,e3,e4,e5,hwl,hbl,hnl,cw6 hx',nl3 hx',hww,mr8 hww,dec_lt hb,qc6 hb,dec_lt hk]
   ·obtain⟨S',h1,h2⟩:=ik1 (n23:=n23) hn hg hwl hbl hnow d (i+1) S (by omega) ⟨by omega,hS.all⟩
    refine⟨S',h1,fun T0 ks=> ?_⟩
    have ih:=h2 T0 ks
    rw[Int.natCast_add,Int.natCast_one]at ih
    rw[←ih,sb5 c6L3.eq_def]
    generalize al8 now n 0=L at*
    generalize pkI (rwI gu i) 3=k at*
    generalize gi bad i=gb at*
    by_cases hx:gi now i<0
    ·rw[decide_eq_true hx]at e3
     generalize gi now i=gn at*
     simp(disch:=first|omega|fail) only[push_cast,seval,vrl,if_pos,if_neg,e0,e1,e2,e3,e4,e5,hwl,hbl,hnl,dec_lt hx,qc6 hx,dec_lt hb,qc6 hb,cw6 (Int.not_lt.1 hk)]
    ·rw[decide_eq_false hx]at e3
     have hx':=Int.not_lt.1 hx
     have hww:=hwas hx'
     generalize gi now i=gn at*
     generalize gi w i=gw at*
     simp(disch:=first|omega|fail) only[push_cast,seval,vrl,if_pos,if_neg,e0,e1,e2,e3,e4,e5,hwl,hbl,hnl,cw6 hx',nl3 hx',hww,mr8 hww,dec_lt hb,qc6 hb,cw6 (Int.not_lt.1 hk)]
  ·obtain⟨S',h1,h2⟩:=ik1 (n23:=n23) hn hg hwl hbl hnow d (i+1) S (by omega) ⟨by omega,hS.all⟩
   refine⟨S',h1,fun T0 ks=> ?_⟩
   have ih:=h2 T0 ks
   rw[Int.natCast_add,Int.natCast_one]at ih
   rw[←ih,sb5 c6L3.eq_def]
   have hb':=Int.not_lt.1 hb
   have hx':=hkept hb'
   have hww:=hwas hx'
   rw[decide_eq_false (Int.not_lt.2 hx')]at e3
   generalize al8 now n 0=L at*
   generalize gi bad i=gb at*
   generalize gi now i=gn at*
   generalize gi w i=gw at*
   simp(disch:=first|omega|fail) only[push_cast,seval,vrl,if_pos,if_neg,e0,e1,e2,e3,e4,e5,hwl,hbl,hnl,cw6 hx',nl3 hx',hww,mr8 hww,cw6 hb',nl3 hb']
theorem qr9{left S:List Int}(hn:n≤64)(hl:left.length≤64)(hS:S.length≤64){is:Bool}(hin:is=true→ ∀v∈S,v∈left){T0 T1:Tree}: ∀(d i:Nat),i+d=S.length→ ∀ks,
 vgoL W ⟨h6,[.tmp 12],0⟩ [1,13,20,24,25,28,30] c6L4 (.blk 8 [1,13,20]::ks) [(1, .x (.int .i64 n)),(13, .own 0 []),(20, .own 1 []),(24, .own 2 []),(25, .own 3 []),(28, .x (.bool is)),(30, .x (.int .i64 i))] [T0,T1, .sl 1 3 1 (ivs left), .sl 1 3 1 (ivs S)]=
  vgo W ⟨h6,[.tmp 12],0⟩ ks (VFr.of [(1, .x (.int .i64 n)),(13, .own 0 []),(20, .own 1 [])]) [T0,T1, .sl 1 3 1 (ivs left), .sl 1 3 1 (ivs S)]
 |0,i,hi,ks=>by
  rw[sb5 c6L4.eq_def]
  simp(disch:=first|omega|fail) only[push_cast,seval,vrl,if_pos,if_neg]
 |d+1,i,hi,ks=>by
  have ih:=qr9 hn hl hS hin (T0:=T0) (T1:=T1) d (i+1) (by omega) ks
  obtain⟨v,hv⟩:=ge6 (l:=S) (i:=i) (by omega)
  have e0:=iat hv
  have hil:i<S.length:=by omega
  have e1:=fun b nl=>cr7 (b:=b) (nl:=nl) (x:=v) (l:=left) (by omega)
  rw[Int.natCast_add,Int.natCast_one]at ih
  cases is with
  |true=>
   simp only[e85,decide_eq_true (hin rfl v (List.mem_of_getElem? hv))]at e1
   rw[←ih,sb5 c6L4.eq_def]
   simp(disch:=first|omega|fail) only[push_cast,seval,vrl,if_pos,if_neg,e0,hil,e1]
  |false=>
   rw[sb5 c6L4.eq_def]
   simp(disch:=first|omega|fail) only[push_cast,seval,vrl,if_pos,if_neg,e0,hil]
end
theorem hx6(raw:List Int)(frm:Int)(n:Nat): ∃u:List (El 2),wdV raw frm n=vs u∧u.length=n:=by
 refine⟨(List.range n).map fun i:Nat=>if wd1 raw (frm+i)=0 then(0:El 2)else 1, ?_,by simp⟩
 unfold wdV vs
 rw[List.map_map]
 refine List.map_congr_left fun i _=> ?_
 show _=(if wd1 raw (frm+i)=0 then(0:El 2)else 1).v
 rcases uz0 raw (frm+(i:Int))with h|h
 ·rw[h];rfl
 ·rw[h];rfl
theorem jr6{raw ms lo gu:List Int}{b1 b2 b3 b4:Bool}{l1 l2 l3 l4:Nat}(hl1:raw.length≤9223372036854775807)(hl2:ms.length≤9223372036854775807)(hl3:lo.length≤9223372036854775807)(hli: ∀v∈lo,-9223372036854775808≤v∧v≤9223372036854775807)(hl4:gu.length≤9223372036854775807){n m:Int}(n1: -9223372036854775808≤n)(n2:n≤9223372036854775807)(m1: -9223372036854775808≤m)(m2:m≤9223372036854775807):
 o24 W 6 [.fz b1 (.sl l1 0 1 (ivs raw)), .x (.int .i64 n), .x (.int .i64 m), .fz b2 (.sl l2 0 1 (ivs ms)), .fz b3 (.sl l3 0 1 (ivs lo)), .fz b4 (.sl l4 0 1 (ivs gu))] []=some (.x (.bool true),[],[]):=by
 by_cases h256:256<IntKind.wrap .i64 (IntKind.wrap .i64 (IntKind.wrap .i64 ((raw.length:Int)+(ms.length:Int))+(lo.length:Int))+(gu.length:Int))
 ·rw[o10 rfl T6 rfl]
  unfold F6 c6
  simp(disch:=first|omega|fail) only[push_cast,seval,vrl,if_pos,if_neg,dec_lt h256]
 ·have h256':=cw6 (Int.not_lt.1 h256)
  have p1:=s88 (n:=20) n1 n2 (by omega)
  obtain⟨a,ha,ha2⟩:=o99 (h60 (a:=n) (n:=20) (by omega)).1 (h60 (a:=n) (n:=20) (by omega)).2
  rw[ha]at p1
  have p2:=s88 (n:=14) m1 m2 (by omega)
  obtain⟨M,hM,hM2⟩:=o99 (h60 (a:=m) (n:=14) (by omega)).1 (h60 (a:=m) (n:=14) (by omega)).2
  rw[hM]at p2
  obtain⟨k,hk⟩: ∃k:Nat,1+(a:Int)=(k:Int):=⟨a+1,by omega⟩
  have e0:=fun b nl=>mj4 (b:=b) (nl:=nl) (raw:=raw) (n:=k) (m:=M) hl1 (by omega) (by omega)
  have hCl:=f71 raw k M
  have hC:=ek1 raw k M
  generalize ckL raw k M=C at*
  have hf: ∀c∈C,Fits k c:=fun c h=>f29 (hC c h)
  have e1:=fun n13 b1 b2 b3 l1 l2 l3 ks=>ln9 (n:=k) (cs:=C) (n13:=n13) (b1:=b1) (b2:=b2) (b3:=b3) (l1:=l1) (l2:=l2) (l3:=l3) (ms:=ms) (lo:=lo) (gu:=gu) hC (by omega) (by omega) C.length 0 (by omega) ks
  simp only[Int.natCast_zero,List.take_zero,List.map_nil,show fm1 []= .v (.slice none 0 0)from rfl]at e1
  have hQr: ∀r∈C.map (chE k),r.length=k:=fun r hr=>by
   obtain⟨x,_,rfl⟩:=List.mem_map.1 hr
   exact hv3 k x
  have hQl:(C.map (chE k)).length=M:=by rw[List.length_map,hCl]
  have hQv:(C.map (chE k)).map vs=C.map (chI k):=by
   rw[List.map_map]
   exact List.map_congr_left fun c _=>w58 k c
  have heven:=fun u=>bs4 (n:=k) (cs:=C) hC (u:=u)
  have hcE:=tc0 (q:=2) (k:=k) (by omega) (by omega) (by omega) hQr (sy6 (by omega) hQr (by omega) (by omega))
  obtain⟨b1',b2',_⟩:=sw1 hQr
  have hni:=tq6 hQr
  have hnl:=(ew4 (n:=k) (M:=p78 (zt5 k (C.map (chE k)))) (zu4 b2'))
  rw[hni]at hnl
  have e2:=fun nl nr=>x92 (nl:=nl) (nr:=nr) hcE (by omega) (by omega) (by omega) hQr
  rw[hQv]at e2
  have hcD:=tc0 (q:=2) (k:=k) (N:=p78 (zt5 k (C.map (chE k)))) (by omega) (by omega) (by rw[ga9];omega) (zu4 b2') (sy6 (by rw[ga9];omega) (zu4 b2') (by omega) (by omega))
  have l2':=nu3 (zt5 k (C.map (chE k)))
  obtain⟨u,hu,hul⟩:=hx6 ms 0 (zt5 k (C.map (chE k))).length
  have s1:=fun b nl=>en9 (b:=b) (nl:=nl) (raw:=ms) hl2 (frm:=0) (by omega) (by omega) (N:=(zt5 k (C.map (chE k))).length) (by omega)
  rw[hu]at s1
  have e6:=fun nl nr b nl2=>wc5 (nl:=nl) (nr:=nr) (b:=b) (nl2:=nl2) (m:=u) hcD (by omega) (by omega) (by rw[ga9];omega) (zu4 b2') (by rw[hni,hul])
  rw[hni,←lo3]at e6
  have w1:=b87 (k:=k) u (p78 (zt5 k (C.map (chE k))))
  have he:=heven u
  have hwl:(vs (encL k u (p78 (zt5 k (C.map (chE k)))))).length=k:=by rw[fi2,w1]
  have hwb:=rr7 (encL k u (p78 (zt5 k (C.map (chE k)))))
  generalize vs (encL k u (p78 (zt5 k (C.map (chE k)))))=w at*
  have hb: ∀p:Nat,p<k→0≤gi w p∧gi w p≤1:=fun p hp=>hwb _ (k18 (by omega) (by omega))
  have e7:=fun b nl=>xr6 (b:=b) (nl:=nl) (l:=w) (by omega)
  obtain⟨bad,hbad,e8⟩:=sd0 (n:=k) (lo:=lo) (w:=w) (n13:=0) (n20:=0) (n21:=0) (T0:= .junk) (T1:= .junk) (gu:=gu) (b2:=b3) (l2:=l3) (b3:=b4) (l3:=l4) (by omega) (by omega) hl3 hli lo.length 0 w (by omega) ⟨hwl,fun v hv=>by have:=hwb v hv;omega,fun p _ _=>rfl⟩
  simp only[Int.natCast_zero]at e8
  have hbl:=hbad.len
  have e9:=fun b b' nl nl' nr=>ir7 (b:=b) (b':=b') (nl:=nl) (nl':=nl') (nr:=nr) (w:=bad) hC (by omega) (by omega) (by omega) hbl hbad.bits
  obtain⟨hnow,hdone⟩:=t87 (w:=w) (bad:=bad) hf hb he (neg bad) bad ⟨hbl,hbad.bits,hbad.was,fun p _ h=>h⟩ (Nat.le_refl _)
  have hstay:=fun set hs h=>ak3 (set:=set) hf hs (neg bad) bad hbl h
  have hleft:=u46 hf hnow.len hdone
  generalize i52 C (neg bad) bad=now at*
  have hnowl:=hnow.len
  obtain⟨S,hS,e10⟩:=ik1 (n23:=0) (gu:=gu) (b3:=b4) (l3:=l4) (by omega) hl4 hwl hbl hnow k 0 [] (by omega) ⟨Nat.le_refl _,fun v h=>by cases h⟩
  simp only[Int.natCast_zero,lz6]at e10
  have hSl:=hS.len
  have hll:=ps3 now k 0
  have e11:=fun b b' nl nl' nr=>qw5 (b:=b) (b':=b') (nl:=nl) (nl':=nl') (nr:=nr) (set:=al8 now k 0) hC (by omega) (by omega) (by omega) (by omega) fun v hv=>by
   have:=(d23 now k 0 v).1 hv;omega
  rw[hleft]at e11
  have e12:=fun b b' nl nl' nr=>qw5 (b:=b) (b':=b') (nl:=nl) (nl':=nl') (nr:=nr) (set:=S) hC (by omega) (by omega) (by omega) (by omega) fun v hv=>by
   have:=hS.all v hv;omega
  have hin:cj7 S C=true→ ∀v∈S,v∈al8 now k 0:=fun hs v hv=>by
   have h1:=hstay S hs hS.all v hv
   have h2:=hS.all v hv
   exact(d23 now k 0 v).2 ⟨by omega,by omega,h1⟩
  have e13:=fun T0 T1 ks=>qr9 (n:=k) (left:=al8 now k 0) (S:=S) (by omega) (by omega) (by omega) hin (T0:=T0) (T1:=T1) S.length 0 (by omega) ks
  simp only[Int.natCast_zero]at e13
  have e14:=fun b b' nl nl' nr=>v40 (b:=b) (b':=b') (nl:=nl) (nl':=nl') (nr:=nr) (w:=w) hC (by omega) (by omega) (by omega) hwl hb hwb he
  have e15:=fun b b' nl nl'=>nb2 (b:=b) (b':=b') (nl:=nl) (nl':=nl') (l:=w) (k:=w) (by omega)
  simp only[decide_true]at e15
  clear hstay hin hdone hleft heven he hb hwb hf hC hcE hcD hbad hnow hS
  generalize cj7 S C=st at*
  generalize al8 now k 0=L at*
  generalize zt5 k (C.map (chE k))=NR at*
  have hki:(k:Int)=(k:Int):=rfl
  rw[o10 rfl T6 rfl]
  unfold F6 c6
  simp(disch:=first|omega|fail) only[push_cast,seval,vrl,if_pos,if_neg,h256',p1,p2,hk,e0]
  rw[e1]
  generalize C.map (chI k)=R at*
  cases R with
  |nil=>
   rw[show fm1 []= .v (.slice none 0 0)from rfl]
   have e2:=fun nl=>e2 nl 0
   simp only[show lvs 0 []=[]from rfl]at e2
   simp(disch:=first|omega|fail) only[push_cast,seval,vrl,if_pos,if_neg,e2,s1,e6,e7,l2',hwl]
   rw[e8]
   simp(disch:=first|omega|fail) only[push_cast,seval,vrl,if_pos,if_neg,e9,hnowl]
   rw[e10]
   simp(disch:=first|omega|fail) only[push_cast,seval,vrl,if_pos,if_neg,e11,e12]
   rw[e13]
   simp(disch:=first|omega|fail) only[push_cast,seval,vrl,if_pos,if_neg,e14,e15]
  |cons r R=>
   rw[show fm1 (r::R)= .sl 2 22 1 (lls 2 (r::R))from rfl]
   simp(disch:=first|omega|fail) only[push_cast,seval,vrl,if_pos,if_neg,e2,s1,e6,e7,l2',hwl]
   rw[e8]
   simp(disch:=first|omega|fail) only[push_cast,seval,vrl,if_pos,if_neg,e9,hnowl]
   rw[e10]
   simp(disch:=first|omega|fail) only[push_cast,seval,vrl,if_pos,if_neg,e11,e12]
   rw[e13]
   simp(disch:=first|omega|fail) only[push_cast,seval,vrl,if_pos,if_neg,e14,e15]
section
variable {h:H} {l:List AV} {ws:List Value}
theorem a23:Vm.VRL h [] (allZ h) (allZ h) [] []:=by rw[Vm.VRL]
theorem dp0(r:Vm.VRL h [] (allZ h) (allZ h) l ws)(v:Value):Vm.VRL h [] (allZ h) (allZ h) (.x v::l) (v::ws):=by
 rw[Vm.VRL];exact⟨v,ws,rfl,by rw[Vm.VR],r⟩
theorem qj4{sa:Option Addr}{c:Nat}{zs:List Int}(hr:RdI h sa c zs): ∀o,sa.map (·.block)=some o→allZ h o:=fun o ho=>by
 rcases hr with⟨rfl,_⟩|⟨_,o2,off,r2,rfl,h1,_⟩
 ·cases ho
 ·cases ho;exact h42 h1
theorem sk6(r:Vm.VRL h [] (allZ h) (allZ h) l ws){sa:Option Addr}{c:Nat}{zs:List Int}(hr:RdI h sa c zs):Vm.VRL h [] (allZ h) (allZ h) (.fz true (.sl 2 0 1 (ivs zs))::l) (.slice sa zs.length c::ws):=by
 rw[Vm.VRL];exact⟨_,ws,rfl,by rw[Vm.VR];exact pd9 hr (qj4 hr),r⟩
end
theorem zr8(h:H)(s0:Option Addr)(c0:Nat)(z0:List Int)(r0:RdI h s0 c0 z0)(_:ss4 h 1 s0=true)(_:z0.length≤9223372036854775807)(_: ∀v∈z0,-9223372036854775808≤v∧v≤9223372036854775807)(a1:Int)(_: -9223372036854775808≤a1)(_:a1≤9223372036854775807)(a2:Int)(_: -9223372036854775808≤a2)(_:a2≤9223372036854775807)(s3:Option Addr)(c3:Nat)(z3:List Int)(r3:RdI h s3 c3 z3)(_:ss4 h 1 s3=true)(_:z3.length≤9223372036854775807)(_: ∀v∈z3,-9223372036854775808≤v∧v≤9223372036854775807)(s4:Option Addr)(c4:Nat)(z4:List Int)(r4:RdI h s4 c4 z4)(_:ss4 h 1 s4=true)(_:z4.length≤9223372036854775807)(_: ∀v∈z4,-9223372036854775808≤v∧v≤9223372036854775807)(s5:Option Addr)(c5:Nat)(z5:List Int)(r5:RdI h s5 c5 z5)(_:ss4 h 1 s5=true)(_:z5.length≤9223372036854775807)(_: ∀v∈z5,-9223372036854775808≤v∧v≤9223372036854775807):
 ∃h',call T 6 [.slice s0 z0.length c0, .int .i64 a1, .int .i64 a2, .slice s3 z3.length c3, .slice s4 z4.length c4, .slice s5 z5.length c5] h=some (.bool true,h'):=
 vlaw lw2 (sk6 (dp0 (dp0 (sk6 (sk6 (sk6 a23 r5) r4) r3) _) _) r0) (by apply jr6<;>assumption)
end Go.Proofs.Ytmhbpecdpiapgaa
