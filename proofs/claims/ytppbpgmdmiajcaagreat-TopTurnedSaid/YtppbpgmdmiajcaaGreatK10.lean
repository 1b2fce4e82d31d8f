/-
  slices.Sort of numbers in the second machine: it sorts. Conditions: those of each theorem. slices.Sort of numbers in the second machine: what it gives. Conditions: at most 60000 numbers. Cosets, the p ..
-/
import Derived.Test.YtppbpgmdmiajcaaGreatK0
import Derived.Test.YtppbpgmdmiajcaaGreatK9
import Derived.Test.YtppbpgmdmiajcaaGreatK8
import Derived.Test.YtppbpgmdmiajcaaGreatK7
set_option linter.unusedVariables false
set_option linter.unusedSimpArgs false
set_option linter.unusedSectionVars false
set_option maxRecDepth 100000
namespace Go.Proofs.YtppbpgmdmiajcaaGreat
open Go.Am Go.Vm
set_option maxHeartbeats 4000000
def inB:ACode→ACode
 | .block _ _ b=>b
 |c=>c
abbrev pqC:Ctx:=⟨hNo,[],1⟩
abbrev pqK:List It:=[.blk 1 [0,1,2,3,8,9], .lp [0,1,2,3,8,9] c106L0, .blk 0 []]
def PqOK(nl a b limit:Nat)(wb wp:Bool)(d:Array Int):Prop:= ∃d':Array Int,Sort.PermIn a b d d'∧Sort.SortedIn Sort.ltInt a b d'∧ ∀ks,ks=[]→
 vgoL W ⟨hNo,[],1⟩ [0,1,2,3,8,9] c106L0 (.blk 0 []::ks) [(0, .own 0 []),(1, .x (.int .i64 a)),(2, .x (.int .i64 b)),(3, .x (.int .i64 limit)),(8, .x (.bool wb)),(9, .x (.bool wp))] [.sl nl 3 1 (ivs d.toList)]=some (.tup [],[],[.sl nl 3 1 (ivs d'.toList)])
def gy3(nl N:Nat):Prop:= ∀(a b limit:Nat) (wb wp:Bool) (d:Array Int),b-a<N→a≤b→b≤d.size→d.size≤60000→limit≤100→Sort.Below Sort.ltInt a b d→PqOK nl a b limit wb wp d
theorem a06{nl a b limit:Nat}{d:Array Int}(h:PqOK nl a b limit true true d): ∃d':Array Int,Sort.PermIn a b d d'∧Sort.SortedIn Sort.ltInt a b d'∧o25 W 106 [.own 0 [], .x (.int .i64 a), .x (.int .i64 b), .x (.int .i64 limit)] [.sl nl 3 1 (ivs d.toList)]=some (.tup [],[],[.sl nl 3 1 (ivs d'.toList)]):=by
 obtain⟨d',h1,h2,h3⟩:=h
 refine⟨d',h1,h2, ?_⟩
 have e:=h3 [] rfl
 rw[o10 rfl T106 rfl]
 unfold F106 c106
 simp(disch:=first|omega|fail) only[push_cast,seval,vrl,if_pos,if_neg]
 rw[e]
structure PqF (fr:VFr) (a b limit:Nat) (wb wp:Bool) (p:Nat):Prop where
 f0:fr 0=some (.own 0 [])
 f1:fr 1=some (.x (.int .i64 a))
 f2:fr 2=some (.x (.int .i64 b))
 f3:fr 3=some (.x (.int .i64 limit))
 f8:fr 8=some (.x (.bool wb))
 f9:fr 9=some (.x (.bool wp))
 f10:fr 10=some (.x (.int .i64 ((b-a:Nat):Int)))
 f11:fr 11=some (.x (.int .i64 p))
theorem pq_b{nl N a b limit p:Nat}{wb wp:Bool}{d:Array Int}(IH:gy3 nl N)(hN:b-a≤N)(h12:12<b-a)(hb:b≤d.size)(hd:d.size≤60000)(hl:limit≤100)(hB:Sort.Below Sort.ltInt a b d)(hp1:a≤p)(hp2:p<b):
 ∃d':Array Int,Sort.PermIn a b d d'∧Sort.SortedIn Sort.ltInt a b d'∧ ∀fr,PqF fr a b limit wb wp p→vgo W pqC (.code (seqR 7 (inB c106L0))::pqK) fr [.sl nl 3 1 (ivs d.toList)]=some (.tup [],[],[.sl nl 3 1 (ivs d'.toList)]):=by
 have hlen:=wr6 d
 have l2:=vz2 (d:=d) (i:=p) (by omega)
 by_cases heq:0<a∧Sort.ltInt d[a-1]! d[p]! =false
 ·obtain⟨ha,hlt⟩:=heq
  have l1:=vz2 (d:=d) (i:=a-1) (by omega)
  have w:=yg4 (x:=d[a-1]!) (y:=d[p]!)
  rw[hlt]at w
  have e0:(a:Int)-1=((a-1:Nat):Int):=by omega
  have e1:=h06 (nl:=nl) (a:=a) (b:=b) (p:=p) (d:=d) (by omega) (by omega) hb (by omega)
  obtain⟨r1,r2,r3,r4,r5⟩:=Sort.round_eq Sort.swo_ltInt (Sort.partitionEqual_holds _) ha hp1 hp2 hb hB hlt (mid:=(Sort.partitionEqual Sort.ltInt d a b p).1) (d4:=(Sort.partitionEqual Sort.ltInt d a b p).2) rfl
  generalize Sort.partitionEqual Sort.ltInt d a b p=r at*
  obtain⟨d',k1,k2,k3⟩:=IH r.1 b limit wb wp r.2 (by omega) r2 (by omega) (by omega) hl r4
  obtain⟨q1,q2⟩:=r5 d' k1 k2
  refine⟨d',q1,q2,fun fr hF=> ?_⟩
  obtain⟨f0,f1,f2,f3,f8,f9,f10,f11⟩:=hF
  have ih:=k3 [] rfl
  obtain⟨q,hq⟩: ∃q,q=seqR 7 (inB c106L0):=⟨_,rfl⟩
  rw[←hq,←ih]
  rw[c106L0.eq_def]at hq
  simp only[inB,seqR]at hq
  generalize a-1=a1 at*
  rw[hq]
  unfold pqK pqC
  simp(disch:=first|omega|fail) only[push_cast,seval,vrl,if_pos,if_neg,f0,f1,f2,f3,f8,f9,f10,f11,l1,l2,w,hlen,e0,e1]
 ·have e1:=n92 (nl:=nl) (a:=a) (b:=b) (p:=p) (d:=d) (by omega) (by omega) hb (by omega)
  obtain⟨r1,r2,r3,r4,r5,r6,r7⟩:=Sort.round_part Sort.swo_ltInt (Sort.partition_holds _) hp1 hp2 hb hB (mid:=(Sort.partition Sort.ltInt d a b p).1) (ap:=(Sort.partition Sort.ltInt d a b p).2.1) (d4:=(Sort.partition Sort.ltInt d a b p).2.2) rfl
  have hlay:=fun(w0:Bool) (L:Array Int) (x y:Nat) (h:y-x<N) (h1:x≤y) (h2:y≤L.size) (h3:L.size≤60000) (h4:Sort.Below Sort.ltInt x y L)=>IH x y limit w0 (Sort.partition Sort.ltInt d a b p).2.1 L h h1 h2 h3 hl h4
  have hcal:=fun(L:Array Int) (x y:Nat) (h:y-x<N) (h1:x≤y) (h2:y≤L.size) (h3:L.size≤60000) (h4:Sort.Below Sort.ltInt x y L)=>a06 (IH x y limit true true L h h1 h2 h3 hl h4)
  generalize Sort.partition Sort.ltInt d a b p=r at*
  obtain⟨mid,ap,d4⟩:=r
  simp only[]at r1 r2 r3 r4 r5 r6 r7 hlay e1
  obtain⟨n,hn⟩: ∃n,n=b-a:=⟨_,rfl⟩
  obtain⟨Q,hQ⟩: ∃Q,Q=n/8:=⟨_,rfl⟩
  obtain⟨u,hu⟩: ∃u,u=mid-a:=⟨_,rfl⟩
  obtain⟨v,hv⟩: ∃v,v=b-mid:=⟨_,rfl⟩
  obtain⟨M,hM⟩: ∃M,M=mid+1:=⟨_,rfl⟩
  have e2:(n:Int).tdiv 8=(Q:Int):=by rw[zj0 (by omega)];omega
  have e3:(mid:Int)-(a:Int)=(u:Int):=by omega
  have e4:(b:Int)-(mid:Int)=(v:Int):=by omega
  have e5:(mid:Int)+1=(M:Int):=by omega
  rw[←hM]at r5 r6 r7
  obtain⟨q,hq⟩: ∃q,q=seqR 7 (inB c106L0):=⟨_,rfl⟩
  rw[←hq]
  rw[c106L0.eq_def]at hq
  simp only[inB,seqR]at hq
  by_cases huv:u<v
  ·obtain⟨L,k1,k2,k3⟩:=hcal d4 a mid (by omega) r1 (by omega) (by omega) r4
   obtain⟨g1,g2⟩:=r6 L k1 k2
   obtain⟨d',m1,m2,m3⟩:=hlay (decide (Q≤u)) L M b (by omega) (by omega) (by rw[k1.1];omega) (by rw[k1.1];omega) g1
   obtain⟨q1,q2⟩:=g2 d' m1 m2
   refine⟨d',q1,q2,fun fr hF=> ?_⟩
   obtain⟨f0,f1,f2,f3,f8,f9,f10,f11⟩:=hF
   rw[←hn]at f10
   have ih:=m3 [] rfl
   have hdc:decide ((Q:Int)≤(u:Int))=decide (Q≤u):=zv8.2 (by omega)
   by_cases ha:0<a
   ·have l1:=vz2 (d:=d) (i:=a-1) (by omega)
    have w:=yg4 (x:=d[a-1]!) (y:=d[p]!)
    rw[show Sort.ltInt d[a-1]! d[p]! =true by
     cases hlt:Sort.ltInt d[a-1]! d[p]! with
     |true=>rfl
     |false=>exact absurd ⟨ha,hlt⟩ heq]at w
    have e0:(a:Int)-1=((a-1:Nat):Int):=by omega
    generalize a-1=a1 at*
    rw[←ih,hq]
    unfold pqK pqC
    simp(disch:=first|omega|fail) only[push_cast,seval,vrl,if_pos,if_neg,f0,f1,f2,f3,f8,f9,f10,f11,l1,l2,w,hlen,e0,e1,e2,e3,e4,e5,k3,hdc]
   ·have ha0:a=0:=by omega
    rw[←ih,hq]
    unfold pqK pqC
    simp(disch:=first|omega|fail) only[push_cast,seval,vrl,if_pos,if_neg,f0,f1,f2,f3,f8,f9,f10,f11,l2,hlen,e1,e2,e3,e4,e5,k3,hdc]
  ·obtain⟨L,k1,k2,k3⟩:=hcal d4 M b (by omega) (by omega) (by omega) (by omega) r5
   obtain⟨g1,g2⟩:=r7 L k1 k2
   obtain⟨d',m1,m2,m3⟩:=hlay (decide (Q≤v)) L a mid (by omega) r1 (by rw[k1.1];omega) (by rw[k1.1];omega) g1
   obtain⟨q1,q2⟩:=g2 d' m1 m2
   refine⟨d',q1,q2,fun fr hF=> ?_⟩
   obtain⟨f0,f1,f2,f3,f8,f9,f10,f11⟩:=hF
   rw[←hn]at f10
   have ih:=m3 [] rfl
   have hdc:decide ((Q:Int)≤(v:Int))=decide (Q≤v):=zv8.2 (by omega)
   by_cases ha:0<a
   ·have l1:=vz2 (d:=d) (i:=a-1) (by omega)
    have w:=yg4 (x:=d[a-1]!) (y:=d[p]!)
    rw[show Sort.ltInt d[a-1]! d[p]! =true by
     cases hlt:Sort.ltInt d[a-1]! d[p]! with
     |true=>rfl
     |false=>exact absurd ⟨ha,hlt⟩ heq]at w
    have e0:(a:Int)-1=((a-1:Nat):Int):=by omega
    generalize a-1=a1 at*
    rw[←ih,hq]
    unfold pqK pqC
    simp(disch:=first|omega|fail) only[push_cast,seval,vrl,if_pos,if_neg,f0,f1,f2,f3,f8,f9,f10,f11,l1,l2,w,hlen,e0,e1,e2,e3,e4,e5,k3,hdc]
   ·have ha0:a=0:=by omega
    rw[←ih,hq]
    unfold pqK pqC
    simp(disch:=first|omega|fail) only[push_cast,seval,vrl,if_pos,if_neg,f0,f1,f2,f3,f8,f9,f10,f11,l2,hlen,e1,e2,e3,e4,e5,k3,hdc]
theorem pq_a{nl N a b limit p:Nat}{h:Int}{wb wp:Bool}{d:Array Int}(IH:gy3 nl N)(hN:b-a≤N)(h12:12<b-a)(hb:b≤d.size)(hd:d.size≤60000)(hl:limit≤100)(hB:Sort.Below Sort.ltInt a b d)(hp1:a≤p)(hp2:p<b):
 ∃d':Array Int,Sort.PermIn a b d d'∧Sort.SortedIn Sort.ltInt a b d'∧ ∀fr,PqF fr a b limit wb wp p→fr 12=some (.x (.int .i64 h))→vgo W pqC (.code (seqR 6 (inB c106L0))::pqK) fr [.sl nl 3 1 (ivs d.toList)]=some (.tup [],[],[.sl nl 3 1 (ivs d'.toList)]):=by
 obtain⟨rest,hrest⟩: ∃rest,rest=seqR 7 (inB c106L0):=⟨_,rfl⟩
 obtain⟨q,hq⟩: ∃q,q=seqR 6 (inB c106L0):=⟨_,rfl⟩
 by_cases hc:wb=true∧wp=true∧h=1
 ·obtain⟨rfl,rfl,rfl⟩:=hc
  have e1:=s62 (nl:=nl) (a:=a) (b:=b) (d:=d) (by omega) hb (by omega)
  obtain⟨s1,s2⟩:=Sort.partialInsertionSort_holds Sort.swo_ltInt d a b (by omega) hb hB
  generalize Sort.partialInsertionSort Sort.ltInt d a b=r at*
  obtain⟨d3,fl⟩:=r
  simp only[]at s1 s2 e1
  cases fl with
  |true=>
   refine⟨d3,s1,s2 rfl,fun fr hF hh=> ?_⟩
   obtain⟨f0,f1,f2,f3,f8,f9,f10,f11⟩:=hF
   rw[←hq]
   rw[c106L0.eq_def]at hrest hq
   simp only[inB,seqR]at hrest hq
   rw[←hrest]at hq
   rw[hq]
   unfold pqK pqC
   simp(disch:=first|omega|fail) only[push_cast,seval,vrl,if_pos,if_neg,f0,f1,f2,f3,f8,f9,f10,f11,hh,e1]
  |false=>
   obtain⟨d',k1,k2,k3⟩:=pq_b (nl:=nl) (limit:=limit) (wb:=true) (wp:=true) (p:=p) IH hN h12 (by rw[s1.1];exact hb) (by rw[s1.1];exact hd) hl (hB.perm hb s1) hp1 hp2
   refine⟨d',Sort.permIn_trans _ _ _ _ _ s1 k1,k2,fun fr hF hh=> ?_⟩
   rw[←hrest]at k3
   obtain⟨f0,f1,f2,f3,f8,f9,f10,f11⟩:=hF
   rw[←hq]
   rw[c106L0.eq_def]at hrest hq
   simp only[inB,seqR]at hrest hq
   rw[←hrest]at hq
   rw[hq]
   unfold pqK pqC at*
   simp(disch:=first|omega|fail) only[push_cast,seval,vrl,if_pos,if_neg,f0,f1,f2,f3,f8,f9,f10,f11,hh,e1]
   refine k3 _ ⟨?_, ?_, ?_, ?_, ?_, ?_, ?_, ?_⟩<;>simp(disch:=first|omega|fail) only[push_cast,seval,vrl,if_pos,if_neg,f0,f1,f2,f3,f8,f9,f10,f11]
 ·obtain⟨d',k1,k2,k3⟩:=pq_b (nl:=nl) (limit:=limit) (wb:=wb) (wp:=wp) (p:=p) IH hN h12 hb hd hl hB hp1 hp2
  refine⟨d',k1,k2,fun fr hF hh=> ?_⟩
  rw[←hrest]at k3
  obtain⟨f0,f1,f2,f3,f8,f9,f10,f11⟩:=hF
  rw[←hq]
  rw[c106L0.eq_def]at hrest hq
  simp only[inB,seqR]at hrest hq
  rw[←hrest]at hq
  rw[hq]
  unfold pqK pqC at*
  cases wb with
  |false=>
   simp(disch:=first|omega|fail) only[push_cast,seval,vrl,if_pos,if_neg,f0,f1,f2,f3,f8,f9,f10,f11,hh]
   refine k3 _ ⟨?_, ?_, ?_, ?_, ?_, ?_, ?_, ?_⟩<;>simp(disch:=first|omega|fail) only[push_cast,seval,vrl,if_pos,if_neg,f0,f1,f2,f3,f8,f9,f10,f11]
  |true=>
   cases wp with
   |false=>
    simp(disch:=first|omega|fail) only[push_cast,seval,vrl,if_pos,if_neg,f0,f1,f2,f3,f8,f9,f10,f11,hh]
    refine k3 _ ⟨?_, ?_, ?_, ?_, ?_, ?_, ?_, ?_⟩<;>simp(disch:=first|omega|fail) only[push_cast,seval,vrl,if_pos,if_neg,f0,f1,f2,f3,f8,f9,f10,f11]
   |true=>
    have hh1: ¬h=1:=fun e=>hc ⟨rfl,rfl,e⟩
    simp(disch:=first|omega|fail) only[push_cast,seval,vrl,if_pos,if_neg,f0,f1,f2,f3,f8,f9,f10,f11,hh,nb8 hh1]
    refine k3 _ ⟨?_, ?_, ?_, ?_, ?_, ?_, ?_, ?_⟩<;>simp(disch:=first|omega|fail) only[push_cast,seval,vrl,if_pos,if_neg,f0,f1,f2,f3,f8,f9,f10,f11]
set_option maxHeartbeats 4000000
theorem pq_c{nl N a b limit:Nat}{wb wp:Bool}{d:Array Int}(IH:gy3 nl N)(hN:b-a≤N)(h12:12<b-a)(hb:b≤d.size)(hd:d.size≤60000)(hl:limit≤100)(hB:Sort.Below Sort.ltInt a b d):
 ∃d':Array Int,Sort.PermIn a b d d'∧Sort.SortedIn Sort.ltInt a b d'∧ ∀fr,fr 0=some (.own 0 [])→fr 1=some (.x (.int .i64 a))→fr 2=some (.x (.int .i64 b))→fr 3=some (.x (.int .i64 limit))→fr 8=some (.x (.bool wb))→fr 9=some (.x (.bool wp))→fr 10=some (.x (.int .i64 ((b-a:Nat):Int)))→
  vgo W pqC (.code (seqR 4 (inB c106L0))::pqK) fr [.sl nl 3 1 (ivs d.toList)]=some (.tup [],[],[.sl nl 3 1 (ivs d'.toList)]):=by
 obtain⟨rest,hrest⟩: ∃rest,rest=seqR 6 (inB c106L0):=⟨_,rfl⟩
 obtain⟨q,hq⟩: ∃q,q=seqR 4 (inB c106L0):=⟨_,rfl⟩
 have w1:=fun nl bb=>co4 (nl:=nl) (bb:=bb) (a:=a) (b:=b) (d:=d) (by omega) hb hd
 have hp:=Sort.choosePivot_holds Sort.ltInt d a b (by omega)
 generalize Sort.choosePivot Sort.ltInt d a b=c at*
 obtain⟨p,hn⟩:=c
 simp only[]at hp w1
 cases hn with
 |decreasing=>
  have s1:=Sort.reverseRange_holds d a b (by omega) hb
  have e1:=x14 (nl:=nl) (a:=a) (b:=b) (d:=d) (by omega) hb (by omega)
  generalize Sort.reverseRange d a b=d2 at*
  obtain⟨P,hP⟩: ∃P,P=b-1-(p-a):=⟨_,rfl⟩
  have e2:(b:Int)-1-((p:Int)-(a:Int))=(P:Int):=by omega
  obtain⟨d',k1,k2,k3⟩:=pq_a (nl:=nl) (limit:=limit) (h:=1) (wb:=wb) (wp:=wp) (p:=P) IH hN h12 (by rw[s1.1];exact hb) (by rw[s1.1];exact hd) hl (hB.perm hb s1) (by omega) (by omega)
  refine⟨d',Sort.permIn_trans _ _ _ _ _ s1 k1,k2,fun fr f0 f1 f2 f3 f8 f9 f10=> ?_⟩
  rw[←hrest]at k3
  rw[←hq]
  rw[c106L0.eq_def]at hrest hq
  simp only[inB,seqR]at hrest hq
  rw[←hrest]at hq
  rw[hq]
  unfold pqK pqC at*
  simp(disch:=first|omega|fail) only[push_cast,seval,vrl,if_pos,if_neg,f0,f1,f2,f3,f8,f9,f10,w1,e1,e2,Sort.hintCode]
  refine k3 _ ⟨?_, ?_, ?_, ?_, ?_, ?_, ?_, ?_⟩ ?_<;>simp(disch:=first|omega|fail) only[push_cast,seval,vrl,if_pos,if_neg,f0,f1,f2,f3,f8,f9,f10]
 |increasing=>
  obtain⟨d',k1,k2,k3⟩:=pq_a (nl:=nl) (limit:=limit) (h:=1) (wb:=wb) (wp:=wp) (p:=p) IH hN h12 hb hd hl hB hp.1 hp.2
  refine⟨d',k1,k2,fun fr f0 f1 f2 f3 f8 f9 f10=> ?_⟩
  rw[←hrest]at k3
  rw[←hq]
  rw[c106L0.eq_def]at hrest hq
  simp only[inB,seqR]at hrest hq
  rw[←hrest]at hq
  rw[hq]
  unfold pqK pqC at*
  simp(disch:=first|omega|fail) only[push_cast,seval,vrl,if_pos,if_neg,f0,f1,f2,f3,f8,f9,f10,w1,Sort.hintCode]
  refine k3 _ ⟨?_, ?_, ?_, ?_, ?_, ?_, ?_, ?_⟩ ?_<;>simp(disch:=first|omega|fail) only[push_cast,seval,vrl,if_pos,if_neg,f0,f1,f2,f3,f8,f9,f10]
 |unknown=>
  obtain⟨d',k1,k2,k3⟩:=pq_a (nl:=nl) (limit:=limit) (h:=0) (wb:=wb) (wp:=wp) (p:=p) IH hN h12 hb hd hl hB hp.1 hp.2
  refine⟨d',k1,k2,fun fr f0 f1 f2 f3 f8 f9 f10=> ?_⟩
  rw[←hrest]at k3
  rw[←hq]
  rw[c106L0.eq_def]at hrest hq
  simp only[inB,seqR]at hrest hq
  rw[←hrest]at hq
  rw[hq]
  unfold pqK pqC at*
  simp(disch:=first|omega|fail) only[push_cast,seval,vrl,if_pos,if_neg,f0,f1,f2,f3,f8,f9,f10,w1,Sort.hintCode]
  refine k3 _ ⟨?_, ?_, ?_, ?_, ?_, ?_, ?_, ?_⟩ ?_<;>simp(disch:=first|omega|fail) only[push_cast,seval,vrl,if_pos,if_neg,f0,f1,f2,f3,f8,f9,f10]
theorem yg3(nl:Nat): ∀N,gy3 nl N
 |0=>fun a b limit wb wp d h=>by omega
 |N+1=>fun a b limit wb wp d h hab hb hd hl hB=>by
  have IH:=yg3 nl N
  obtain⟨n,hn⟩: ∃n,n=b-a:=⟨_,rfl⟩
  have e0:(b:Int)-(a:Int)=(n:Int):=by omega
  by_cases h12:b-a≤12
  ·obtain⟨s1,s2⟩:=Sort.insertionSort_holds Sort.swo_ltInt d a b hab hb
   have e1:=ki8 (nl:=nl) (a:=a) (b:=b) (d:=d) hb (by omega) (by omega)
   refine⟨_,s1,s2,fun ks hk=> ?_⟩
   rw[hk,sb5 c106L0.eq_def]
   simp(disch:=first|omega|fail) only[push_cast,seval,vrl,if_pos,if_neg,e0,e1]
  ·by_cases hl0:limit=0
   ·subst hl0
    obtain⟨s1,s2⟩:=Sort.heapSort_holds Sort.swo_ltInt d a b hab hb
    have e1:=og6 (nl:=nl) (a:=a) (b:=b) (d:=d) (by omega) hb (by omega)
    refine⟨_,s1,s2,fun ks hk=> ?_⟩
    rw[hk,sb5 c106L0.eq_def]
    simp(disch:=first|omega|fail) only[push_cast,seval,vrl,if_pos,if_neg,e0,e1]
   ·obtain⟨rest,hrest⟩: ∃rest,rest=seqR 4 (inB c106L0):=⟨_,rfl⟩
    have hl0': ¬(limit:Int)=0:=by omega
    obtain⟨q,hq⟩: ∃q,q=c106L0:=⟨_,rfl⟩
    cases wb with
    |true=>
     obtain⟨d',k1,k2,k3⟩:=pq_c (nl:=nl) (limit:=limit) (wb:=true) (wp:=wp) IH (by omega) (by omega) hb hd hl hB
     refine⟨d',k1,k2,fun ks hk=> ?_⟩
     rw[←hrest]at k3
     rw[hk,sb5 c106L0.eq_def]
     rw[c106L0.eq_def]at hrest
     simp only[inB,seqR]at hrest
     rw[←hrest]
     unfold pqK pqC at k3
     rw[←hn]at k3
     simp(disch:=first|omega|fail) only[push_cast,seval,vrl,if_pos,if_neg,e0,nb8 hl0']
     refine k3 _ ?_ ?_ ?_ ?_ ?_ ?_ ?_<;>simp(disch:=first|omega|fail) only[push_cast,seval,vrl,if_pos,if_neg]
    |false=>
     obtain⟨d1,s1,e1⟩:=v48 (nl:=nl) (a:=a) (b:=b) (d:=d) (by omega) hb hd
     obtain⟨l1,hl1⟩: ∃l1,l1=limit-1:=⟨_,rfl⟩
     have e2:(limit:Int)-1=(l1:Int):=by omega
     obtain⟨d',k1,k2,k3⟩:=pq_c (nl:=nl) (limit:=l1) (wb:=false) (wp:=wp) IH (by omega) (by omega) (by rw[s1.1];exact hb) (by rw[s1.1];exact hd) (by omega) (hB.perm hb s1)
     refine⟨d',Sort.permIn_trans _ _ _ _ _ s1 k1,k2,fun ks hk=> ?_⟩
     rw[←hrest]at k3
     rw[hk,sb5 c106L0.eq_def]
     rw[c106L0.eq_def]at hrest
     simp only[inB,seqR]at hrest
     rw[←hrest]
     unfold pqK pqC at k3
     rw[←hn]at k3
     simp(disch:=first|omega|fail) only[push_cast,seval,vrl,if_pos,if_neg,e0,e1,e2,nb8 hl0']
     refine k3 _ ?_ ?_ ?_ ?_ ?_ ?_ ?_<;>simp(disch:=first|omega|fail) only[push_cast,seval,vrl,if_pos,if_neg]
theorem m81{nl:Nat}{zs:List Int}(hl:zs.length≤60000):o25 W 50 [.own 0 []] [.sl nl 3 1 (ivs zs)]=some (.tup [],[],[.sl nl 3 1 (ivs (zs.mergeSort fun x y=>decide (x≤y)))]):=by
 have hbl:=wq9 (n:=zs.length) (by omega)
 obtain⟨d',h1,h2,h3⟩:=a06 (yg3 nl (zs.length+1) 0 zs.length (Sort.bitsLen zs.length) true true zs.toArray (by omega) (by omega) (by simp) (by simpa using hl) (by omega) (.inl rfl))
 have hu:=Sort.sorted_unique_holds Sort.swo_ltInt (fun x y h1 h2=>by
  have a1:=of_decide_eq_false h1
  have a2:=of_decide_eq_false h2
  omega) zs.toArray d' (by simpa using h1) (by simpa using h2)
 have he:(fun x y:Int=> !Sort.ltInt y x)=fun x y=>decide (x≤y):=funext fun x=>funext fun y=>by
  unfold Sort.ltInt
  rw[←decide_not]
  exact zv8.2 (by omega)
 rw[he]at hu
 simp only[List.toList_toArray]at hu h3
 rw[hu]at h3
 have e1:=ub0 (n:=zs.length) (by omega)
 have hw:IntKind.wrap .u64 (zs.length:Int)=(zs.length:Int):=by
  unfold IntKind.wrap
  simp[IntKind.bits,IntKind.signed]
  omega
 rw[vx9]at h3
 generalize zs.mergeSort (fun x y=>decide (x≤y))=zs' at*
 rw[o10 rfl T50 rfl]
 unfold F50 c50
 simp(disch:=first|omega|fail) only[push_cast,seval,vrl,if_pos,if_neg,hw,e1,h3]
end Go.Proofs.YtppbpgmdmiajcaaGreat
namespace Go.Proofs.YtppbpgmdmiajcaaGreat
open Go.Am Go.Vm Go.Alg
def mvs:List Nat→List Tree
 | []=>[]
 |k::S=> .v (.int .i64 k):: .v (.bool true)::mvs S
theorem bs3{k:Nat}: ∀{S:List Nat} (i:Nat),k∈S→ ∃j,kg9 .i64 k i (mvs S)=some (some (i+j))∧(mvs S)[j]? =some (.v (.bool true))
 |a::S,i,h=>by
  by_cases e:(a:Int)=k
  ·refine⟨1, ?_,rfl⟩
   rw[mvs,kg9,if_pos rfl,if_pos e]
  ·obtain⟨j,h1,h2⟩:=bs3 (k:=k) (S:=S) (i+2) ((r04.1 h).resolve_left fun g=>e (by rw[g]))
   refine⟨j+2, ?_,by rw[mvs];exact h2⟩
   rw[mvs,kg9,if_pos rfl,if_neg e,h1,show i+2+j=i+(j+2) by omega]
theorem wb7{k:Nat}: ∀{S:List Nat} (i:Nat),k∉S→kg9 .i64 k i (mvs S)=some none
 | [],i,h=>by rw[mvs,kg9]
 |a::S,i,h=>by
  have e: ¬(a:Int)=k:=fun g=>h (by have:a=k:=by omega
                                   rw[this];exact rn8)
  rw[mvs,kg9,if_pos rfl,if_neg e,wb7 (i+2) fun g=>h (iz7 _ g)]
theorem oj1{k:Nat}: ∀{S:List Nat},k∉S→pr0 .i64 k (.v (.bool true)) (mvs S)=some (mvs (S++[k]))
 | [],h=>rfl
 |a::S,h=>by
  have e: ¬(a:Int)=k:=fun g=>h (by have:a=k:=by omega
                                   rw[this];exact rn8)
  rw[mvs,pr0,if_pos rfl,if_neg e,oj1 fun g=>h (iz7 _ g)]
  rfl
attribute [push_cast] vmap VM.cs VM.ld
def nvs(l:List Nat):List Int:=l.map Int.ofNat
theorem cg0(l:List Nat)(i:Nat):nvs (l++[i])=nvs l++[(i:Int)]:=by unfold nvs;rw[hm3];rfl
theorem sd2(l:List Nat):(nvs l).length=l.length:=by unfold nvs;rw[q11]
theorem eo9(i q n:Nat):((i:Int)*(q:Int)).tmod (n:Int)=((i*q%n:Nat):Int):=by
 rw[←id0,dl5 (Int.natCast_nonneg _)];rfl
theorem gb7{q n k:Nat}(hq:q≤64)(h0:0<n)(hn:n≤64)(hk:k≤64){T8:Tree}{e:Nat}: ∀(m:Nat) (S:List Nat) (i:Nat) (l L:List Nat),i<n→m+l.length≤100→orb q n m S i=some L→ ∀ks,
 vgoL W ⟨h10,[.tmp 4, .tmp 5],0⟩ [0,1,8,9,11,12,33,34] c10L0 (.blk 2 [0,1,8,9,11,33,34]::ks) [(0, .x (.int .i64 q)),(1, .x (.int .i64 n)),(8, .own 0 []),(9, .own 1 []),(11, .own 2 []),(12, .x (.int .i64 i)),(33, .x (.int .i64 n)),(34, .x (.int .i64 k))] [T8, .mp e (mvs S), .sl 1 3 1 (ivs (nvs l))]=
  vgo W ⟨h10,[.tmp 4, .tmp 5],0⟩ ks (VFr.of [(0, .x (.int .i64 q)),(1, .x (.int .i64 n)),(8, .own 0 []),(9, .own 1 []),(11, .own 2 []),(33, .x (.int .i64 n)),(34, .x (.int .i64 k))]) [T8, .mp e (mvs (S++L)), .sl 1 3 1 (ivs (nvs (l++L)))]
 |0,S,i,l,L,hi,hm,hL,ks=>by cases hL
 |m+1,S,i,l,L,hi,hm,hL,ks=>by
  rw[orb]at hL
  by_cases hS:i∈S
  ·rw[if_pos hS]at hL
   cases hL
   obtain⟨j,f1,f2⟩:=bs3 0 hS
   rw[e02]at f1
   rw[nw0,nw0,sb5 c10L0.eq_def]
   simp(disch:=first|omega|fail) only[push_cast,seval,vrl,if_pos,if_neg,f1,f2]
  ·rw[if_neg hS]at hL
   cases hr:orb q n m (S++[i]) (i*q%n)with
   |none=>rw[hr]at hL;cases hL
   |some L'=>
    rw[hr]at hL
    have hL:i::L'=L:=pk4 hL
    subst hL
    have hlt:i*q%n<n:=Nat.mod_lt _ h0
    have ih:=gb7 hq h0 hn hk (T8:=T8) (e:=e) m (S++[i]) (i*q%n) (l++[i]) L' hlt (by simp;omega) hr ks
    have f1:=wb7 0 hS
    have f2:=oj1 hS
    have f3:=eo9 i q n
    have hb:i*q≤64*64:=Nat.mul_le_mul (by omega) hq
    have hb2:(i:Int)*(q:Int)≤4096:=by rw[←id0];omega
    have hb3:0≤(i:Int)*(q:Int):=by rw[←id0];omega
    have hl:=sd2 l
    rw[eh9,eh9]at ih
    rw[show i::L'=[i]++L' from rfl,←ih,cg0,sb5 c10L0.eq_def]
    generalize i*q%n=i' at*
    simp(disch:=first|omega|fail) only[push_cast,seval,vrl,if_pos,if_neg,f1,f2,f3]
def rowN(n:Nat)(c:List Nat):List Int:=nvs (setC n c)
def cosR(q n:Nat):List (List Int):=(cosA q n).map (rowN n)
theorem tm4{q n:Nat}(hq:q≤64)(hn:n≤64)(hc:Nat.Coprime n q): ∀(m k:Nat) (S:List Nat) (out:List (List Int)),k+m=n→ClN q n S→out.length+m≤64→ ∀(e:Nat),∃X:Tree,∀ks,
 vgoL W ⟨h10,[.tmp 4, .tmp 5],0⟩ [0,1,8,9,33,34] c10L1 (.blk 0 [8]::ks) [(0, .x (.int .i64 q)),(1, .x (.int .i64 n)),(8, .own 0 []),(9, .own 1 []),(33, .x (.int .i64 n)),(34, .x (.int .i64 k))] [.sl 1 22 1 (lls 2 out), .mp e (mvs S)]=
  vgo W ⟨h10,[.tmp 4, .tmp 5],0⟩ ks (VFr.of [(8, .own 0 [])]) [.sl 1 22 1 (lls 2 (out++(cosL q n m k S).map (rowN n))),X]
 |0,k,S,out,hk,hS,ho,e=>by
  refine⟨.mp e (mvs S),fun ks=> ?_⟩
  rw[cosL,gw5,nw0,sb5 c10L1.eq_def]
  simp(disch:=first|omega|fail) only[push_cast,seval,vrl,if_pos,if_neg]
 |m+1,k,S,out,hk,hS,ho,e=>by
  rw[cosL]
  by_cases hkS:k∈S
  ·obtain⟨X,ih⟩:=tm4 hq hn hc m (k+1) S out (by omega) hS (by omega) e
   refine⟨X,fun ks=> ?_⟩
   have ih:=ih ks
   rw[e96,g71]at ih
   obtain⟨j,f1,f2⟩:=bs3 0 hkS
   rw[e02]at f1
   rw[if_pos hkS,←ih,sb5 c10L1.eq_def]
   simp(disch:=first|omega|fail) only[push_cast,seval,vrl,if_pos,if_neg,f1,f2]
  ·have w:=he7 hc hn hS (show k<n by omega) hkS
   obtain⟨X,ih⟩:=tm4 hq hn hc m (k+1) (S++orbT q n k) (out++[rowN n (orbT q n k)]) (by omega) w.app (by simp;omega) e
   refine⟨X,fun ks=> ?_⟩
   have ih:=ih ks
   rw[e96,g71,eh9]at ih
   have f1:=wb7 0 hkS
   have e1:=fun ks=>gb7 (k:=k) (e:=e) (T8:= .sl 1 22 1 (lls 2 out)) hq (by omega) hn (by omega) 65 S k [] (orbT q n k) (by omega) (by simp) w.orb ks
   rw[m51,show ivs (nvs [])=[]from rfl]at e1
   have l1:(orbT q n k).length≤64:=by
    have:=w.nodup.length_le_of_subset (l₂:=List.range n) fun x hx=>l16.2 (w.lt x hx)
    rw[w64]at this
    omega
   have l2:=sd2 (orbT q n k)
   have e2: ∀nl,o25 W 50 [.own 0 []] [.sl nl 3 1 (ivs (nvs (orbT q n k)))]=some (.tup [],[],[.sl nl 3 1 (ivs (rowN n (orbT q n k)))]):=fun nl=>by
    rw[m81 (by omega)]
    have:=vt7 w.nodup w.lt
    unfold rowN
    unfold nvs
    rw[this]
   rw[if_neg hkS,nf9,show∀(a:List Int) l,a::l=[a]++l from fun _ _=>rfl,←ih,sb5 c10L1.eq_def]
   simp(disch:=first|omega|fail) only[push_cast,seval,vrl,if_pos,if_neg,f1]
   rw[e1]
   generalize nvs (orbT q n k)=z1 at*
   generalize rowN n (orbT q n k)=z2 at*
   simp(disch:=first|omega|fail) only[push_cast,seval,vrl,if_pos,if_neg,e2]
end Go.Proofs.YtppbpgmdmiajcaaGreat
namespace Go.Proofs.YtppbpgmdmiajcaaGreat
open Go.Am Go.Alg
def tw1(n:Nat):Bool:=match fldN n with
 |none=>true
 |some (p,m,g,mod)=>((List.range n).all fun c:Nat=>decide (fpow n (fadd n c 1) p=fadd n (fpow n c p) 1))&&((List.range n).all fun c:Nat=>decide (fpow n c p=c)==decide ((c:Int)<p))
theorem ze6:((List.range 63).all fun n=>tw1 (n+2))=true:=by kernel_rfl
section
variable {q:Int} [h:IsFld q]
theorem pw_v(x:El q): ∀n:Nat,(pw x n).v=powI q x.v n
 |0=>rfl
 |n+1=>by rw[pw,ym6,pw_v x n,powI]
theorem n00(x:El q)(n:Nat):fpow q x.v n=(pw x n).v:=by
 obtain⟨p,m,g,mod,hn⟩:=h.ok
 obtain⟨hf,t,_⟩:=jj8 hn
 rw[pw_v]
 cases n with
 |zero=>
  rw[fpow,x.ok]
  show(bif !true||((x.v==0)&&decide (((0:Nat):Int)<0))then _ else _)=_
  rw[lx1 (by omega),Bool.and_false];rfl
 |succ n=>exact(v22 t hf.q2 ⟨x.lo,x.hi⟩ (n+1) (by omega)).symm
def chN(q:Int):Nat:=(fch q).toNat
theorem ag7:2≤chN q∧((chN q:Nat):Int)=fch q:=by
 obtain⟨p,m,g,mod,hn⟩:=h.ok
 have:=(jj8 hn).1.p2
 unfold chN
 rw[(y65 hn).1]
 omega
theorem c07:(∀c:El q,pw (c+1) (chN q)=pw c (chN q)+1)∧ ∀c:El q,pw c (chN q)=c↔c.v<fch q:=by
 obtain⟨p,m,g,mod,hn⟩:=h.ok
 obtain⟨h2,h64⟩:=ug0 hn
 have hq:((q.toNat:Nat):Int)=q:=by omega
 have hc:=p92.1 ze6 (q.toNat-2) (l16.2 (by omega))
 rw[show q.toNat-2+2=q.toNat by omega]at hc
 unfold tw1 at hc
 rw[hn]at hc
 simp only[b83,p92,l16,jn8]at hc
 rw[hq]at hc
 have hp:=ag7 (q:=q)
 rw[(y65 hn).1]at hp
 refine⟨fun c=>El.ext' ?_,fun c=> ?_⟩
 ·have h1:=hc.1 c.v.toNat (by have:=c.hi;omega)
  rw[show((c.v.toNat:Nat):Int)=c.v by have:=c.lo;omega,←hp.2,n00 c]at h1
  rw[←n00,on0,on0,wh3]
  exact h1
 ·rw[(y65 hn).1]
  have h1:=hc.2 c.v.toNat (by have:=c.lo;have:=c.hi;omega)
  rw[show((c.v.toNat:Nat):Int)=c.v by have:=c.lo;omega,←hp.2,n00 c,hp.2]at h1
  have h3:=zv8.1 (ui4.1 h1)
  exact⟨fun e=>h3.1 (by rw[e]),fun e=>El.ext' (h3.2 e)⟩
end
section
variable {K:Type} [FK K]
theorem wp4(a b:K): ∀n,pw (a*b) n=pw a n*pw b n
 |0=>(one_mul _).symm
 |n+1=>by rw[pw,pw,pw,wp4 a b n];ac_rfl
theorem se5: ∀n,pw (1:K) n=1
 |0=>rfl
 |n+1=>by rw[pw,se5 n,FK.mul_one]
theorem ii7{n:Nat}(hn:n≠0):pw (0:K) n=0:=by
 obtain⟨n,rfl⟩: ∃k,n=k+1:=⟨n-1,by omega⟩
 rw[pw,mul_zero]
theorem b33(a:K)(m:Nat): ∀n,pw (pw a m) n=pw a (m*n)
 |0=>rfl
 |n+1=>by
  rw[pw,b33 a m n,Nat.mul_succ]
  generalize m*n=k
  induction m with
  |zero=>rw[pw,FK.mul_one];rfl
  |succ m ih=>rw[pw,←FK.mul_assoc,ih];rfl
end
section
variable {q:Int} [h:IsFld q]
theorem lk9(a b:El q):pw (a+b) (chN q)=pw a (chN q)+pw b (chN q):=by
 have h2:=(ag7 (q:=q)).1
 by_cases hb:b=0
 ·rw[hb,FK.add_zero,ii7 (by omega),FK.add_zero]
 ·have h1:=(c07 (q:=q)).1 (a*FK.inv b)
  have e:a+b=(a*FK.inv b+1)*b:=by rw[add_mul,FK.mul_assoc,inv_mul hb,FK.mul_one,one_mul]
  rw[e,wp4,h1,add_mul,one_mul,←wp4,FK.mul_assoc,inv_mul hb,FK.mul_one]
theorem pw_q(a:El q):pw a q.toNat=a:=El.ext' (by
 obtain⟨p,m,g,mod,hn⟩:=h.ok
 obtain⟨hf,t,_⟩:=jj8 hn
 have h2:=hf.q2
 rw[←n00,show((q.toNat:Nat):Int)=q by omega]
 by_cases h0:a.v=0
 ·rw[h0,fpow,iy2 ⟨Int.le_refl _,by omega⟩,lx1 (by omega),show(q==0)=false by simp;omega]
  rfl
 ·have l1:=t.lr a.v (by have:=a.lo;omega) a.hi
  rw[fpow,a.ok,show(a.v==0)=false by simpa using h0,show(q==0)=false by simp;omega]
  show fexp q (flog q a.v*(q%(q-1))%(q-1))=a.v
  have e:flog q a.v*(q%(q-1))%(q-1)=flog q a.v:=by
   rw[mw3 (flog q a.v) (q%(q-1)),Int.emod_emod,←mw3,show flog q a.v*q=flog q a.v+(q-1)*flog q a.v by rw[Int.sub_mul,vq0,pc1];omega,Int.add_mul_emod_self_left,b16 l1.1 l1.2.1]
  rw[e,l1.2.2])
theorem pv2:(chN q)^(fdg q)=q.toNat∧1≤fdg q:=by
 obtain⟨p,m,g,mod,hn⟩:=h.ok
 have hf:=(jj8 hn).1
 have hc:=ag7 (q:=q)
 rw[(y65 hn).1]at hc
 rw[(y65 hn).2]
 constructor
 ·have:=hf.pm
  rw[←hc.2,←Int.natCast_pow]at this
  omega
 ·refine Nat.one_le_iff_ne_zero.2 fun e=> ?_
  have h1:=hf.pm
  have h2:=hf.q2
  rw[e,Int.pow_zero]at h1
  omega
theorem zw2(a b:El q): ∀k,pw (a+b) (chN q^k)=pw a (chN q^k)+pw b (chN q^k)
 |0=>by rw[Nat.pow_zero,show pw (a+b) 1=a+b from one_mul _,show pw a 1=a from one_mul _,show pw b 1=b from one_mul _]
 |k+1=>by rw[Nat.pow_succ,←b33,←b33,←b33,zw2 a b k,lk9]
end
end Go.Proofs.YtppbpgmdmiajcaaGreat
namespace Go.Proofs.YtppbpgmdmiajcaaGreat
open Go.Am Go.Vm Go.Alg
def h78(m:Nat):Bool:=match fldN m with
 |none=>true
 |some (p,_,_,_)=>(List.range 64).all fun n=>bif Nat.beq ((n+1)%p.toNat) 0 then true else Nat.beq (Nat.gcd p.toNat (n+1)) 1
theorem ns5:((List.range 63).all fun n=>h78 (n+2))=true:=by kernel_rfl
section
variable {q:Int} [hF:IsFld q]
theorem fm8{n:Nat}(h0:0<n)(hn:n≤64)(h:n%chN q≠0):Nat.Coprime n q.toNat:=by
 obtain⟨p,m,g,mod,hf⟩:=hF.ok
 obtain⟨h2,h64⟩:=ug0 hf
 have hc:=p92.1 ns5 (q.toNat-2) (l16.2 (by omega))
 rw[show q.toNat-2+2=q.toNat by omega]at hc
 unfold h78 at hc
 rw[hf]at hc
 have hc:=p92.1 hc (n-1) (l16.2 (by omega))
 rw[show n-1+1=n by omega]at hc
 have hp:chN q=p.toNat:=by unfold chN;rw[(y65 hf).1]
 rw[←hp]at hc
 have hb:Nat.beq (n%chN q) 0=false:=by
  cases hb:Nat.beq (n%chN q) 0 with
  |true=>exact absurd (bg5 hb) h
  |false=>rfl
 rw[hb]at hc
 have hg:Nat.gcd (chN q) n=1:=bg5 hc
 have:Nat.Coprime (chN q^fdg q) n:=Nat.Coprime.pow_left _ hg
 rw[pv2.1]at this
 exact this.symm
theorem nt3(n:Nat):((n:Int)).tmod (fch q)=((n%chN q:Nat):Int):=by
 rw[←(ag7 (q:=q)).2,dl5 (Int.natCast_nonneg _)];rfl
end
def cycE(q n:Int):Int:=match fldN q.toNat with
 |none=>1
 |some _=>if n<1∨64<n then 4 else if n.toNat%chN q=0 then 3 else 0
theorem vh7{q n:Int}(h:cycE q n=0):IsFld q∧ ∃N:Nat,n=(N:Int)∧0<N∧N≤64∧N%chN q≠0:=by
 unfold cycE at h
 split at h
 ·cases h
 ·rename_i x hx
  obtain⟨p,m,g,mod⟩:=x
  split at h
  ·cases h
  ·rename_i h1
   split at h
   ·cases h
   ·rename_i h2
    exact⟨⟨⟨p,m,g,mod,hx⟩⟩,n.toNat,by omega,by omega,by omega,h2⟩
theorem m34{q n:Nat}(hc:Nat.Coprime n q)(hn:n≤64):(cosA q n).length≤64:=by
 obtain⟨⟨a,b,c⟩,d⟩:=cq7 hc hn
 rw[m51]at a
 have h1:(cosA q n).length≤(cosA q n).flatten.length:=by
  have: ∀L:List (List Nat),(∀c∈L,c≠[])→L.length≤L.flatten.length:=fun L=>by
   induction L with
   |nil=>intro _;exact jj6 _
   |cons x L ih=>
    intro hx
    have h1:=py7.2 (hx x rn8)
    have h2:=ih fun c hc=>hx c (iz7 _ hc)
    rw[wf4,j82,q90]
    omega
  exact this _ fun c' hc'=>(c c' hc').2.2
 have h2:=a.length_le_of_subset (l₂:=List.range n) fun x hx=>l16.2 (b x hx)
 rw[w64]at h2
 omega
section
variable {q:Int} [IsFld q]
theorem d23{N:Nat}(h0:0<N)(hN:N≤64)(h:N%chN q≠0):o25 W 10 [.x (.int .i64 q), .x (.int .i64 N)] []=some (.tup [.own 0 [], .x (.int .i64 0)],[.sl 1 22 1 (lls 2 (cosR q.toNat N))],[]):=by
 have h2:=aw0 (q:=q)
 have hi:=q_hi (q:=q)
 have hq:((q.toNat:Nat):Int)=q:=by omega
 obtain⟨X,e1⟩:=tm4 (q:=q.toNat) (n:=N) (by omega) hN (fm8 h0 hN h) N 0 [] [] (by omega) (ci4 _ _) (by simp;omega) 1000000075
 rw[hq,show lls 2 []=[]from rfl,show mvs []=[]from rfl,m51,show(cosL q.toNat N N 0 []).map (rowN N)=cosR q.toNat N from rfl]at e1
 simp only[vx9]at e1
 have e2:=nt3 (q:=q) N
 have e3: ¬((N%chN q:Nat):Int)=0:=by omega
 have e4: ¬fch q=0:=by have:=ag7 (q:=q);omega
 rw[o10 rfl T10 rfl]
 unfold F10 c10
 generalize N%chN q=r at*
 simp(disch:=first|omega|fail) only[push_cast,seval,vrl,if_pos,if_neg,e2,nb8 e3,nb8 e4]
 rw[e1]
 generalize cosR q.toNat N=L at*
 simp(disch:=first|omega|fail) only[push_cast,seval,vrl,if_pos,if_neg]
end
def btv(n:Nat)(f:Nat→Bool):List Tree:=(List.range n).map fun x=>Tree.v (.bool (f x))
theorem n74(n:Nat)(f:Nat→Bool):(btv n f).length=n:=by simp[btv]
attribute [push_cast 50] n74
theorem xn4(i:Nat)(f:Nat→Bool):((List.range i).filter f).length≤i:=by
 have:=List.length_filter_le f (List.range i)
 rwa [w64]at this
section
variable {q:Int} [IsFld q]
end
theorem cp8{n:Nat}{c:List Nat}(h:c.Nodup)(hl: ∀x∈c,x<n):(setC n c).Perm c:=
 (ym7 (gv7 n c) h).2 fun a=>by rw[ro7];exact⟨fun h=>h.2,fun h=>⟨hl a h,h⟩⟩
theorem pu9{n:Nat}{l l':List Nat}(h: ∀x,x∈l↔x∈l'):setC n l=setC n l':=by
 unfold setC
 refine List.filter_congr fun x _=> ?_
 rw[zv8];exact h x
theorem tz4{c c':List Nat}(h:c.Perm c')(z:Nat→Bool):c.any z=c'.any z:=by
 rw[Bool.eq_iff_iff,gd7,gd7]
 exact⟨fun⟨x,h1,h2⟩=>⟨x,h.mem_iff.1 h1,h2⟩,fun⟨x,h1,h2⟩=>⟨x,h.mem_iff.2 h1,h2⟩⟩
theorem wp0{n:Nat}(z:Nat→Bool): ∀{L:List (List Nat)},(∀c∈L,c.Nodup∧ ∀x∈c,x<n)→((L.map (setC n)).filter fun c=>c.any z).flatten.Perm (L.filter fun c=>c.any z).flatten
 | [],_=>List.Perm.refl _
 |c::L,h=>by
  have ih:=wp0 z (n:=n) (L:=L) fun c hc=>h c (iz7 _ hc)
  have hp:=cp8 (h c rn8).1 (h c rn8).2
  rw[nf9,p68,p68,tz4 hp]
  split
  ·rw[wf4,wf4]
   exact hp.append ih
  ·exact ih
def cosS(q n:Nat):List (List Nat):=(cosA q n).map (setC n)
theorem l78(q n:Nat):cosR q n=(cosS q n).map nvs:=by unfold cosR cosS rowN;rw[uk6];rfl
theorem nz0{q n:Nat}(hc:Nat.Coprime n q)(hn:n≤64): ∀c∈cosA q n,c.Nodup∧ ∀x∈c,x<n:=fun c h=>by
 obtain⟨⟨a,b,e⟩,d⟩:=cq7 hc hn
 exact⟨(e c h).1,fun x hx=>b x (bs1.2 ⟨c,h,hx⟩)⟩
theorem wi3{q n:Nat}(hc:Nat.Coprime n q)(hn:n≤64)(z:Nat→Bool):(nvs ((cosS q n).filter fun c=>c.any z).flatten).mergeSort (fun x y=>decide (x≤y))=nvs (zerN q n z):=by
 have hp:=wp0 z (n:=n) (nz0 hc hn)
 obtain⟨⟨a,b,c⟩,d⟩:=cq7 hc hn
 have hnd:(((cosA q n).filter fun c=>c.any z).flatten).Nodup:=n47 (by simpa using a)
 have hlt: ∀x∈((cosA q n).filter fun c=>c.any z).flatten,x<n:=fun x h=>by
  obtain⟨c',h1,h2⟩:=bs1.1 h
  exact b x (bs1.2 ⟨c',(ma5.1 h1).1,h2⟩)
 have:=vt7 (hp.nodup_iff.2 hnd) (n:=n) fun x hx=>hlt x (hp.mem_iff.1 hx)
 unfold nvs
 unfold cosS
 rw[this]
 congr 1
 exact pu9 fun x=>hp.mem_iff
def badZ(n:Int)(v:Int):Bool:=decide (v<0)||decide (n≤v)
def inZ(zs:List Int)(k:Nat):Bool:=zs.any fun y=>decide ((k:Int)=y)
theorem ne7(p:Int→Bool)(c:List Nat):(nvs c).any p=c.any fun k=>p (k:Int):=by unfold nvs;rw[List.any_map];rfl
theorem qu9{n:Int}{e:Nat}{b:Bool}(v:Int):o25 W 111 [.x (.int .i64 v), .fz b (.pt e [.v (.int .i64 n)])] []=some (.x (.bool (badZ n v)),[],[]):=by
 rw[o10 rfl T111 rfl]
 unfold F111 c111 badZ
 by_cases h:v<0
 ·rw[ce5 h]
  simp(disch:=first|omega|fail) only[push_cast,seval,vrl,if_pos,if_neg,dec_lt h]
 ·rw[lx1 h]
  simp(disch:=first|omega|fail) only[push_cast,seval,vrl,if_pos,if_neg,cw6 (Int.not_lt.1 h)]
theorem xn1{zs:List Int}(hz:zs.length≤9223372036854775807){e nl:Nat}{b:Bool}(v:Int):o25 W 112 [.x (.int .i64 v), .fz b (.pt e [.sl nl 0 1 (ivs zs)])] []=some (.x (.bool (zs.any fun y=>decide (v=y))),[],[]):=by
 have e1:=fun b nl=>o94 (b:=b) (nl:=nl) (x:=v) hz
 rw[o10 rfl T112 rfl]
 unfold F112 c112
 simp(disch:=first|omega|fail) only[push_cast,seval,vrl,if_pos,if_neg,e1]
theorem e37{zs:List Int}(hz:zs.length≤64){nl:Nat}{L:List (List Nat)}(hL:L.length≤64)(hl: ∀c∈L,c.length≤64): ∀(d i:Nat) (out:List Int),i+d=L.length→out.length≤64*i→ ∀ks,
 vgoL W ⟨h53,[.tmp 6, .tmp 7],0⟩ [5,10,28,29,30] c53L0 (.blk 0 [10]::ks) [(5, .own 0 []),(10, .own 1 []),(28, .own 2 []),(29, .x (.int .i64 L.length)),(30, .x (.int .i64 i))] [.pt 22 [.fz (.sl nl 0 1 (ivs zs))], .sl 1 3 1 (ivs out), .sl 1 22 1 (lls 2 (L.map nvs))]=
  vgo W ⟨h53,[.tmp 6, .tmp 7],0⟩ ks (VFr.of [(10, .own 1 [])]) [.pt 22 [.fz (.sl nl 0 1 (ivs zs))], .sl 1 3 1 (ivs (out++nvs ((L.drop i).filter fun c=>c.any (inZ zs)).flatten)), .sl 1 22 1 (lls 2 (L.map nvs))]
 |0,i,out,hi,ho,ks=>by
  rw[show L.drop i=[]from jx3 (by omega),show((([]:List (List Nat)).filter fun c=>c.any (inZ zs)).flatten)=[]from rfl,show nvs []=[]from rfl,nw0,sb5 c53L0.eq_def]
  simp(disch:=first|omega|fail) only[push_cast,seval,vrl,if_pos,if_neg]
 |d+1,i,out,hi,ho,ks=>by
  obtain⟨c,hc⟩:=ge6 (l:=L) (i:=i) (by omega)
  have h1:(lls 2 (L.map nvs))[i]? =some (.sl 2 3 1 (ivs (nvs c))):=th8 (by rw[us5,hc];rfl)
  have hcl:=hl c (vf6 hc)
  have l3:(L.map nvs).length=L.length:=q11 _
  have hnl:=sd2 c
  have hf:=fun bl nl2 e b=>eg0 (nl:=nl2) (l:=nvs c) (bl:=bl) (k:=112) (b:=b) (t:= .pt e [.sl nl 0 1 (ivs zs)]) (xn1 (by omega)) rfl (by omega)
  rw[ne7,show(fun k:Nat=>zs.any fun y=>decide ((k:Int)=y))=inZ zs from rfl]at hf
  rw[show L.drop i=c::L.drop (i+1)from i62 hc,p68]
  cases hz2:c.any (inZ zs)with
  |true=>
   have ih:=e37 hz (nl:=nl) hL hl d (i+1) (out++nvs c) (by omega) (by rw[j82];omega) ks
   rw[e96,g71,eh9,show∀a b,nvs a++nvs b=nvs (a++b)from fun a b=>by unfold nvs;rw[hm3]]at ih
   rw[hz2]at hf
   rw[if_pos rfl,wf4,←ih,sb5 c53L0.eq_def]
   generalize nvs c=z1 at*
   generalize L.map nvs=R at*
   simp(disch:=first|omega|fail) only[push_cast,seval,vrl,if_pos,if_neg,h1,hf,l3,Go.Vm.tl5]
  |false=>
   have ih:=e37 hz (nl:=nl) hL hl d (i+1) out (by omega) (by omega) ks
   rw[e96,g71]at ih
   rw[hz2]at hf
   rw[if_neg (by decide),←ih,sb5 c53L0.eq_def]
   generalize nvs c=z1 at*
   generalize L.map nvs=R at*
   simp(disch:=first|omega|fail) only[push_cast,seval,vrl,if_pos,if_neg,h1,hf,l3]
theorem ar7{q n:Nat}(hc:Nat.Coprime n q)(hn:n≤64):(cosS q n).length≤64:=by unfold cosS;rw[q11];exact m34 hc hn
theorem fx6{q n:Nat}: ∀c∈cosS q n,c.length≤n:=fun c h=>by
 obtain⟨c0,_,rfl⟩:=vf1.1 h
 exact xn4 _ _
theorem pl9(q n:Nat)(z:Nat→Bool):(zerN q n z).length≤n:=xn4 _ _
section
variable {q:Int} [IsFld q] {zs:List Int} {nl:Nat}
theorem m13{N:Nat}(h0:0<N)(hN:N≤64)(h:N%chN q≠0)(hz:zs.length≤64)(hb:zs.any (badZ N)=false):
 o25 W 53 [.x (.int .i64 q), .x (.int .i64 N), .fz true (.sl nl 0 1 (ivs zs))] []=some (.tup [.own 0 [], .x (.int .i64 0)],[.sl 1 3 1 (ivs (nvs (zerN q.toNat N (inZ zs))))],[]):=by
 have hc:=fm8 h0 hN h
 have e1:=d23 (q:=q) h0 hN h
 have hf:=fun bl nl2 e b=>eg0 (nl:=nl2) (l:=zs) (bl:=bl) (k:=111) (b:=b) (t:= .pt e [.v (.int .i64 (N:Int))]) qu9 rfl (by omega)
 rw[hb]at hf
 have e2:=fun ks=>e37 hz (nl:=nl) (ar7 hc hN) (fun c hc=>by have:=fx6 c hc;omega) (cosS q.toNat N).length 0 [] (by omega) (by simp) ks
 rw[sv4,m51,show ivs []=[]from rfl]at e2
 simp only[vx9]at e2
 have l1:(nvs ((cosS q.toNat N).filter fun c=>c.any (inZ zs)).flatten).length≤60000:=by
  rw[sd2]
  have hp:=wp0 (inZ zs) (n:=N) (nz0 hc hN)
  obtain⟨⟨a,b,c⟩,d⟩:=cq7 hc hN
  have hnd:(((cosA q.toNat N).filter fun c=>c.any (inZ zs)).flatten).Nodup:=n47 (by simpa using a)
  have:=(hp.nodup_iff.2 hnd).length_le_of_subset (l₂:=List.range N) fun x hx=>l16.2 (b x (by
   obtain⟨c',h1,h2⟩:=bs1.1 (hp.mem_iff.1 hx)
   exact bs1.2 ⟨c',(ma5.1 h1).1,h2⟩))
  rw[w64]at this
  unfold cosS
  omega
 have e3:=fun nl=>m81 (nl:=nl) l1
 rw[wi3 hc hN]at e3
 rw[l78]at e1
 have l2:=ar7 hc hN
 have l3:((cosS q.toNat N).map nvs).length=(cosS q.toNat N).length:=q11 _
 rw[o10 rfl T53 rfl]
 unfold F53 c53
 generalize nvs ((cosS q.toNat N).filter fun c=>c.any (inZ zs)).flatten=z1 at*
 generalize nvs (zerN q.toNat N (inZ zs))=z2 at*
 generalize (cosS q.toNat N).map nvs=R at*
 generalize (cosS q.toNat N).length=nR at*
 simp(disch:=first|omega|fail) only[push_cast,seval,vrl,if_pos,if_neg,e1,hf,l3]
 rw[e2]
 simp(disch:=first|omega|fail) only[push_cast,seval,vrl,if_pos,if_neg,e3]
end
section
variable {N:Nat} {zs:List Int} {bz:Bool} {nl:Nat} {L:List (List Nat)}
end
section
variable {q:Int} [IsFld q] {zs:List Int} {nl:Nat} {bz:Bool}
end
end Go.Proofs.YtppbpgmdmiajcaaGreat
namespace Go.Proofs.YtppbpgmdmiajcaaGreat
open Go.Am Go.Alg
def nx3(n s:Nat)(g:Int)(w l:List Int)(e:Int):Bool:=
 bif w.length==0 then decide (e=3)else decide (e=0)&&decide (w.length=s)&&decide (l.length=s)&&decide (gi l 0=0)&&decide (gi l 1=1)&&
  ((List.range s).all fun c:Nat=>fok n (gi l c)&&decide (fpow n (gi l c) s=gi l c)&&decide (gi l (fadd s c 1)=fadd n (gi l c) 1)&&decide (gi l (fmul s g c)=fmul n (gi l g) (gi l c)))
def t35(n s:Nat):Bool:=match fldN n,fldN s with
 |some _,some (_,_,g,_)=>nx3 n s g (kg5 n s) (embP s n).2 (embP s n).1
 |_,_=>true
theorem k11:((List.range 63).all fun n=>(List.range 63).all fun s=>t35 (n+2) (s+2))=true:=by kernel_rfl
theorem nt8(q s:Int): ∀(n a x:Nat),a≤x→x<a+n→fpow q x s=x→(x:Int)∈iq0 q s n a
 |0,a,x,h1,h2,_=>by omega
 |n+1,a,x,h1,h2,h3=>by
  rw[iq0]
  by_cases he:x=a
  ·subst he
   rw[ce5 h3,nj1]
   exact rn8
  ·have ih:=nt8 q s n (a+1) x (by omega) (by omega) h3
   cases decide (fpow q (a:Int) s=(a:Int))with
   |true=>rw[nj1];exact iz7 _ ih
   |false=>rw[ey2];exact ih
theorem sa4{z s:Int}(hne:kg5 z s≠[])(c:El z)(h:fpow z c.v s=c.v):c.v∈kg5 z s:=by
 unfold kg5 at hne⊢
 split at hne
 ·rename_i p m g mod hs
  cases hb:(decide (p=fch z)&&decide (fdg z%m=0))with
  |false=>rw[hb]at hne;exact absurd rfl hne
  |true=>
   rw[nj1]
   have hlo:=c.lo
   have hhi:=c.hi
   have:=nt8 z s z.toNat 0 c.v.toNat (by omega) (by omega) (by rw[show((c.v.toNat:Nat):Int)=c.v by omega];exact h)
   rw[show((c.v.toNat:Nat):Int)=c.v by omega]at this
   exact this
 ·exact absurd rfl hne
section
variable {z s:Int} [hz:IsFld z] [hs:IsFld s]
structure Emb (z s:Int) [IsFld z] [IsFld s] (l:List Int) (E:El s→El z):Prop where
 at': ∀c,gi l c.v=(E c).v
 fix: ∀c,fpow z (E c).v s=(E c).v
 add: ∀a b,E (a+b)=E a+E b
 mul: ∀a b,E (a*b)=E a*E b
 inj: ∀a b,E a=E b→a=b
theorem ed4:(kg5 z s=[]∧(embP s z).1=3)∨((embP s z).1=0∧kg5 z s≠[]∧(kg5 z s).length=s.toNat∧(embP s z).2.length=s.toNat∧ ∃E,Emb z s (embP s z).2 E):=by
 obtain⟨p,m,g,mod,hn⟩:=hz.ok
 obtain⟨p',m',g',mod',hn'⟩:=hs.ok
 obtain⟨a2,a64⟩:=ug0 hn
 obtain⟨b2,b64⟩:=ug0 hn'
 have hzq:((z.toNat:Nat):Int)=z:=by omega
 have hsq:((s.toNat:Nat):Int)=s:=by omega
 have hc:=p92.1 (p92.1 k11 (z.toNat-2) (l16.2 (by omega))) (s.toNat-2) (l16.2 (by omega))
 rw[show z.toNat-2+2=z.toNat by omega,show s.toNat-2+2=s.toNat by omega]at hc
 unfold t35 at hc
 rw[hn,hn']at hc
 simp only[hzq,hsq]at hc
 unfold nx3 at hc
 by_cases h0:kg5 z s=[]
 ·left
  rw[h0]at hc
  exact⟨h0,by simpa using hc⟩
 ·right
  have hl:(kg5 z s).length≠0:=fun e=>h0 (js1 e)
  rw[show((kg5 z s).length==0)=false by simpa using h0,ey2]at hc
  simp only[b83,jn8,p92,l16]at hc
  obtain⟨⟨⟨⟨⟨c1,c2⟩,c3⟩,c4⟩,c5⟩,c6⟩:=hc
  rw[hzq]at c6
  generalize (embP s z).2=l at c3 c4 c5 c6⊢
  obtain⟨hf',t',g1,g2⟩:=jj8 hn'
  have key: ∀c:El s,(fok z (gi l c.v)=true∧fpow z (gi l c.v) s=gi l c.v∧gi l (fadd s c.v 1)=fadd z (gi l c.v) 1)∧gi l (fmul s g' c.v)=fmul z (gi l g') (gi l c.v):=fun c=>by
   have:=c6 c.v.toNat (by have:=c.lo;have:=c.hi;omega)
   rw[show((c.v.toNat:Nat):Int)=c.v by have:=c.lo;omega,hsq]at this
   exact⟨⟨this.1.1.1,this.1.1.2,this.1.2⟩,this.2⟩
  have hok: ∀c:El s,0≤gi l c.v∧gi l c.v<z:=fun c=>gc0.1 (key c).1.1
  obtain⟨E,hE⟩: ∃E:El s→El z,∀c,gi l c.v=(E c).v:=⟨fun c=>⟨gi l c.v,(hok c).1,(hok c).2⟩,fun c=>rfl⟩
  have E0:E 0=0:=El.ext' (by rw[←hE];exact c4)
  have E1:E 1=1:=El.ext' (by rw[←hE];exact c5)
  have Es: ∀c,E (c+1)=E c+1:=fun c=>El.ext' (by
   rw[←hE,on0,on0,wh3,wh3,←hE];exact(key c).1.2.2)
  obtain⟨G,hGv⟩: ∃G:El s,G.v=g':=⟨⟨g',by omega,g2⟩,rfl⟩
  have Eg: ∀c,E (G*c)=E G*E c:=fun c=>El.ext' (by
   rw[←hE,ym6,ym6,←hE,←hE,hGv];exact(key c).2)
  have hgen: ∀c:El s,c≠0→ ∃k,c=pw G k:=fun c hc=>by
   have h00:c.v≠0:=fun e=>hc (El.ext' e)
   have l1:=t'.lr c.v (by have:=c.lo;omega) c.hi
   refine⟨(flog s c.v).toNat,El.ext' ?_⟩
   rw[pw_v,hGv,mv9 t' hf'.q2 ⟨g1,g2⟩,t'.lg,show(((flog s c.v).toNat:Nat):Int)=flog s c.v by omega]
   have e:1%(s-1)*flog s c.v%(s-1)=flog s c.v:=by
    rw[mw3,Int.emod_emod,←mw3,vq0,b16 l1.1 l1.2.1]
   rw[e,l1.2.2]
  have Ep: ∀(k:Nat) (x:El s),E (pw G k*x)=pw (E G) k*E x:=fun k=>by
   induction k with
   |zero=>intro x;rw[pw,pw,one_mul,one_mul]
   |succ k ih=>intro x;rw[pw,pw,FK.mul_assoc,ih,Eg,FK.mul_assoc]
  have Em: ∀a b,E (a*b)=E a*E b:=fun a b=>by
   by_cases ha:a=0
   ·rw[ha,zero_mul,E0,zero_mul]
   ·obtain⟨k,rfl⟩:=hgen a ha
    have h1:=Ep k 1
    rw[FK.mul_one,E1,FK.mul_one]at h1
    rw[Ep,h1]
  have Ea: ∀a b,E (a+b)=E a+E b:=fun a b=>by
   by_cases hb:b=0
   ·rw[hb,FK.add_zero,E0,FK.add_zero]
   ·have e:a+b=b*(FK.inv b*a+1):=by rw[FK.mul_add,←FK.mul_assoc,FK.mul_inv b hb,one_mul,FK.mul_one]
    rw[e,Em,Es,FK.mul_add,FK.mul_one,←Em,←FK.mul_assoc,FK.mul_inv b hb,one_mul]
  have Ei: ∀a b,E a=E b→a=b:=fun a b hab=>by
   refine ly5 fun hne=> ?_
   have hd:a+ -b≠0:=fun e=>hne (by
    have:a+ -b+b=0+b:=by rw[e]
    rw[FK.add_assoc,neg_add,FK.add_zero,zero_add]at this
    exact this)
   have h1:E (a+ -b)+E b=E a:=by rw[←Ea,FK.add_assoc,neg_add,FK.add_zero]
   rw[hab]at h1
   have h2:E (a+ -b)=0:=gb2 (a:=E b) (by rw[h1,zero_add])
   have h3:=Em (a+ -b) (FK.inv (a+ -b))
   rw[FK.mul_inv _ hd,h2,zero_mul,E1]at h3
   exact ki7 h3
  exact⟨c1,h0,by omega,by omega,E,⟨hE,fun c=>by rw[←hE];exact(key c).1.2.1,Ea,Em,Ei⟩⟩
end
end Go.Proofs.YtppbpgmdmiajcaaGreat
namespace Go.Proofs.YtppbpgmdmiajcaaGreat
open Go.Am Go.Vm Go.Alg
section
variable {z:Int} [IsFld z]
theorem jn0(x y:El z)(L:List (El z)):mulK [-x,1] (mulK [-y,1] L)=mulK [-y,1] (mulK [-x,1] L):=by
 rw[←w11,w46 [-x,1] [-y,1],w11]
theorem yo0{l l':List (El z)}(h:l.Perm l'):loc l=loc l':=by
 induction h with
 |nil=>rfl
 |cons x _ ih=>rw[loc,loc,ih]
 |swap x y l=>rw[loc,loc,loc,loc,jn0]
 |trans _ _ h1 h2=>exact h1.trans h2
theorem ll1(l:List (El z))(x:El z):loc (l++[x])=mulK (loc l) [-x,1]:=by
 rw[yo0 (List.perm_append_comm (l₁:=l) (l₂:=[x])),w46];rfl
end
section
variable {z s:Int} [IsFld z] [IsFld s]
structure HomE (f:El s→El z):Prop where
 zero:f 0=0
 one:f 1=1
 add: ∀a b,f (a+b)=f a+f b
 mul: ∀a b,f (a*b)=f a*f b
 ker: ∀a,f a=0→a=0
theorem HomE.neg{f:El s→El z}(h:HomE f)(a:El s):f (-a)= -f a:=by
 have e:f (-a)+f a=0:=by rw[←h.add,neg_add,h.zero]
 have e2:f (-a)+f a+ -f a=0+ -f a:=by rw[e]
 rwa [FK.add_assoc,FK.add_neg,FK.add_zero,zero_add]at e2
theorem HomE.wf{f:El s→El z}(h:HomE f)(a:List (El s))(k:Nat):Alg.wf (a.map f) k=f (Alg.wf a k):=by
 rcases Nat.lt_or_ge k a.length with hk|hk
 ·rw[i67 (by simpa using hk),i67 hk,List.getElem_map]
 ·rw[e01 (by simpa using hk),e01 hk,h.zero]
theorem HomE.sum{f:El s→El z}(h:HomE f)(g:Nat→El s): ∀n,f (sumN n g)=sumN n fun i=>f (g i)
 |0=>h.zero
 |n+1=>by rw[cp9,cp9,h.add,h.sum g n]
theorem HomE.disc{f:El s→El z}(h:HomE f)(g k:Nat→El s)(i:Nat):f (Alg.disc g k i)=Alg.disc (fun i=>f (g i)) (fun i=>f (k i)) i:=by
 unfold Alg.disc
 rw[h.sum]
 exact rc1 fun a _=>h.mul _ _
theorem HomE.trm{f:El s→El z}(h:HomE f){a:List (El s)}(ha:Trm a):Trm (a.map f):=fun hl=>by
 rw[q11]at hl⊢
 rw[h.wf]
 exact fun e=>ha hl (h.ker _ e)
theorem HomE.mulK{f:El s→El z}(h:HomE f)(a b:List (El s)):(Alg.mulK a b).map f=Alg.mulK (a.map f) (b.map f):=by
 refine lz5 (h.trm (ho6 _ _)) (ho6 _ _) (funext fun k=> ?_)
 rw[h.wf,zu9,zu9,h.disc]
 congr 1
 ·exact funext fun i=>(h.wf a i).symm
 ·exact funext fun i=>(h.wf b i).symm
theorem HomE.loc{f:El s→El z}(h:HomE f): ∀l:List (El s),(Alg.loc l).map f=Alg.loc (l.map f)
 | []=>by show [f 1]=[1];rw[h.one]
 |x::l=>by rw[Alg.loc,h.mulK,h.loc l];show Alg.mulK [f (-x),f 1] _=Alg.mulK [-(f x),1] _;rw[h.neg,h.one]
end
section
variable {z s:Int} [IsFld z] [IsFld s]
theorem q21{a:El z}(h:a*a=a)(h0:a≠0):a=1:=by
 have e:FK.inv a*(a*a)=FK.inv a*a:=by rw[h]
 rw[←FK.mul_assoc,FK.mul_comm (FK.inv a) a,FK.mul_inv a h0,one_mul]at e
 exact e
theorem ie4{a:El z}(h:a=a+a):a=0:=by
 have e:a+ -a=a+a+ -a:=by rw[←h]
 rw[FK.add_assoc,FK.add_neg,FK.add_zero]at e
 exact e.symm
theorem Emb.hom{l:List Int}{E:El s→El z}(h:Emb z s l E):HomE E:=by
 have h0:E 0=0:=ie4 (by rw[←h.add,FK.add_zero])
 have hk: ∀a,E a=0→a=0:=fun a e=>h.inj a 0 (e.trans h0.symm)
 exact⟨h0,q21 (by rw[←h.mul,FK.mul_one]) fun e=>FK.zero_ne (hk 1 e).symm,h.add,h.mul,hk⟩
theorem gk0{a:El z}: ∀{n:Nat},pw a n=0→n≠0→a=0
 |0,h,h0=>absurd rfl h0
 |n+1,h,_=>by
  by_cases ha:a=0
  ·exact ha
  ·by_cases hn:n=0
   ·subst hn
    rw[pw,pw,one_mul]at h
    exact h
   ·refine gk0 (n:=n) ?_ hn
    have e:pw a n*a*FK.inv a=0*FK.inv a:=by rw[←h];rfl
    rwa [FK.mul_assoc,FK.mul_inv a ha,FK.mul_one,zero_mul]at e
theorem v19(hc:chN z=chN s):HomE (fun a:El z=>pw a s.toNat):=by
 have hq:=pv2 (q:=s)
 have h2:=aw0 (q:=s)
 refine⟨ii7 (by omega),se5 _,fun a b=> ?_,fun a b=>wp4 a b _,fun a h=>gk0 h (by omega)⟩
 rw[←hq.1,←hc]
 exact zw2 a b _
def lsE(s:Int) [IsFld s]:List (El s):=(List.range s.toNat).map fun i:Nat=>elE s (i:Int)
theorem v39:(lsE s).Nodup:=ma3 s08 fun a ha b hb e=>by
 have ha:=l16.1 ha
 have hb:=l16.1 hb
 have:=congrArg El.v e
 rw[sx0 (by omega),sx0 (by omega)]at this
 omega
theorem go4{l:List Int}{E:El s→El z}(h:Emb z s l E)(hw:kg5 z s≠[])(hl:(kg5 z s).length=s.toNat){c:El z}(hc:pw c s.toNat=c): ∃d,E d=c:=by
 have h2:=aw0 (q:=s)
 have hs:((s.toNat:Nat):Int)=s:=by omega
 have hfix: ∀x:El z,pw x s.toNat=x→x.v∈kg5 z s:=fun x hx=>sa4 hw x (by rw[←hs,n00,hx])
 obtain⟨L,hL1,hL2⟩: ∃L:List (El s),L.Nodup∧L.length=s.toNat:=⟨lsE s,v39,by simp[lsE]⟩
 have himg:((L.map E).map (·.v)).Nodup:=ma3 (ma3 hL1 fun a _ b _ e=>h.inj a b e) fun a _ b _ e=>El.ext' e
 by_cases hm:c.v∈(L.map E).map (·.v)
 ·obtain⟨y,hy,e⟩:=vf1.1 hm
  obtain⟨d,_,rfl⟩:=vf1.1 hy
  exact⟨d,El.ext' e⟩
 ·have:=(y50.2 ⟨hm,himg⟩).length_le_of_subset (l₂:=kg5 z s) fun v hv=>by
   rcases r04.1 hv with rfl|hv
   ·exact hfix c hc
   ·obtain⟨y,hy,rfl⟩:=vf1.1 hv
    obtain⟨d,_,rfl⟩:=vf1.1 hy
    exact hfix _ (by have:=h.fix d;rw[←hs,n00]at this;exact El.ext' this)
  rw[q90,q11,q11,hL2,hl]at this
  omega
theorem lift_map{E:El s→El z}: ∀{l:List (El z)},(∀c∈l,∃d,E d=c)→ ∃g:List (El s),g.map E=l
 | [],_=>⟨[],rfl⟩
 |c::l,h=>by
  obtain⟨d,rfl⟩:=h c rn8
  obtain⟨g,rfl⟩:=lift_map (E:=E) fun c' hc=>h c' (iz7 _ hc)
  exact⟨d::g,rfl⟩
theorem i95{l:List Int}{E:El s→El z}(h:Emb z s l E)(hw:kg5 z s≠[])(hl:(kg5 z s).length=s.toNat)(hc:chN z=chN s){R:List (El z)}(hR:(R.map fun a=>pw a s.toNat).Perm R): ∃g:List (El s),g.map E=loc R:=by
 refine lift_map fun c hm=>go4 h hw hl ?_
 have e:(loc R).map (fun a=>pw a s.toNat)=loc R:=by rw[(v19 hc).loc,yo0 hR]
 obtain⟨i,hi,rfl⟩:=zd4 hm
 have:=congrArg (fun L=>L[i]?) e
 simp only[us5,wu3 hi]at this
 simpa using this
end
section
variable {z:Int} [IsFld z]
theorem rn5(b:El z)(m:Nat): ∀n,pw b (m+n)=pw b m*pw b n
 |0=>by rw[pw,FK.mul_one];rfl
 |n+1=>by rw[←q61,pw,pw,rn5 b m n,FK.mul_assoc]
theorem bt9{b:El z}{n:Nat}(h:pw b n=1)(k:Nat):pw b (k%n)=pw b k:=by
 have:=Nat.div_add_mod k n
 conv=>rhs;rw[←this,rn5,←b33,h,se5,one_mul]
theorem rf8{s:Int} [IsFld s]{b:El z}{n:Nat}(hb:pw b n=1)(hc:Nat.Coprime n s.toNat){Z:List Nat}(hZ:Z.Nodup)(hl: ∀x∈Z,x<n)(hcl: ∀x,x<n→(x*s.toNat%n∈Z↔x∈Z)):
 ((Z.map fun k=>pw b k).map fun a=>pw a s.toNat).Perm (Z.map fun k=>pw b k):=by
 have e:((Z.map fun k=>pw b k).map fun a=>pw a s.toNat)=(Z.map fun k=>k*s.toNat%n).map fun k=>pw b k:=by
  rw[uk6,uk6]
  refine ny8 fun k hk=> ?_
  show pw (pw b k) s.toNat=pw b (k*s.toNat%n)
  rw[bt9 hb,b33]
 rw[e]
 refine List.Perm.map _ ?_
 have h2:(Z.map fun k=>k*s.toNat%n).Nodup:=ma3 hZ fun a ha b hb e=>w94 hc (hl a ha) (hl b hb) e
 refine(ym7 h2 hZ).2 fun a=> ?_
 constructor
 ·intro h
  obtain⟨k,hk,rfl⟩:=vf1.1 h
  exact(hcl k (hl k hk)).2 hk
 ·intro h
  exact yk8 h2 (fun y hy=>by
   obtain⟨k,hk,rfl⟩:=vf1.1 hy
   exact(hcl k (hl k hk)).2 hk) (by simp) hZ a h
end
def homS(q n:Nat):Nat→Nat→Option Nat
 |0,_=>none
 |m+1,s=>if 64<s then none else if(s-1)%n=0 then some s else homS q n m (s*q)
def bi7(q n:Nat):Bool:=match fldN q with
 |none=>true
 |some (p,m,_,_)=>match homS q n 7 q with
  |none=>true
  |some s=>match fldN s with
   |none=>false
   |some (p',m',_,_)=>decide (p'=p)&&Nat.beq (m'%m) 0&&Nat.beq ((s-1)%n) 0&&Nat.ble s 64
theorem ug6:((List.range 63).all fun q=>(List.range 64).all fun n=>bi7 (q+2) (n+1))=true:=by kernel_rfl
def homZ(q:Int)(n:Nat):Option Nat:=homS q.toNat n 7 q.toNat
structure HomF (q:Int) [IsFld q] (n s:Nat):Prop where
 fld:IsFld (s:Int)
 ch:fch (s:Int)=fch q
 deg:fdg (s:Int)%fdg q=0
 dv:(s-1)%n=0
 le:s≤64
theorem jg9{q:Int} [hF:IsFld q]{n s:Nat}(h0:0<n)(hn:n≤64)(h:homZ q n=some s):HomF q n s:=by
 obtain⟨p,m,g,mod,hf⟩:=hF.ok
 obtain⟨h2,h64⟩:=ug0 hf
 have hc:=p92.1 (p92.1 ug6 (q.toNat-2) (l16.2 (by omega))) (n-1) (l16.2 (by omega))
 rw[show q.toNat-2+2=q.toNat by omega,show n-1+1=n by omega]at hc
 unfold homZ at h
 unfold bi7 at hc
 rw[hf,h]at hc
 simp only at hc
 cases hs:fldN s with
 |none=>rw[hs]at hc;cases hc
 |some x=>
  obtain⟨p',m',g',mod'⟩:=x
  rw[hs]at hc
  simp only[b83,jn8]at hc
  obtain⟨⟨⟨a,b⟩,c⟩,d⟩:=hc
  have hs':fldN ((s:Int)).toNat=some (p',m',g',mod'):=by rw[ao0];exact hs
  exact⟨⟨⟨p',m',g',mod',hs'⟩⟩,by rw[(y65 hs').1,(y65 hf).1,a],by rw[(y65 hs').2,(y65 hf).2];exact bg5 b,bg5 c,fy2 d⟩
theorem i71(s n:Nat)(h:1≤s):((s:Int)-1).tdiv (n:Int)=(((s-1)/n:Nat):Int):=by
 rw[show(s:Int)-1=((s-1:Nat):Int) by omega,zj0 (Int.natCast_nonneg _)];rfl
theorem fo3(s n:Nat)(h:1≤s):((s:Int)-1).tmod (n:Int)=(((s-1)%n:Nat):Int):=by
 rw[show(s:Int)-1=((s-1:Nat):Int) by omega,dl5 (Int.natCast_nonneg _)];rfl
def vs4(s n:Nat):Int:=fpow (s:Int) (fgn (s:Int)) (((s-1)/n:Nat):Int)
section
variable {q n:Nat}
theorem ye9(hq:2≤q)(hq2:q≤64)(h0:0<n)(hn:n≤64){s':Nat} [IsFld (s':Int)]: ∀(m s:Nat),1≤s→homS q n m s=some s'→ ∀ks,
 vgoL W ⟨hNo,[.tmp 4, .tmp 5, .tmp 6],0⟩ [0,1,9] c54L0 (.blk 0 []::ks) [(0, .x (.int .i64 q)),(1, .x (.int .i64 n)),(9, .x (.int .i64 s))] []=some (.tup [.fz true (pF (s':Int)), .x (.int .i64 (vs4 s' n)), .x (.int .i64 0)],[],[])
 |0,s,hs,h,ks=>by cases h
 |m+1,s,hs,h,ks=>by
  rw[homS]at h
  by_cases h1:64<s
  ·rw[if_pos h1]at h;cases h
  ·rw[if_neg h1]at h
   have r1:=fo3 s n hs
   have r2:=i71 s n hs
   have hn0: ¬(n:Int)=0:=by omega
   by_cases h2:(s-1)%n=0
   ·rw[if_pos h2]at h
    obtain rfl:s=s':=pk4 h
    rw[h2]at r1
    have he:(s-1)/n≤s-1:=Nat.div_le_self _ _
    unfold vs4
    rw[sb5 c54L0.eq_def]
    generalize (s-1)/n=e at*
    simp(disch:=first|omega|fail) only[push_cast,seval,vrl,if_pos,if_neg,r1,r2,nb8 hn0]
   ·rw[if_neg h2]at h
    have h3: ¬(((s-1)%n:Nat):Int)=0:=by omega
    have hb:s*q≤64*64:=Nat.mul_le_mul (by omega) hq2
    have hb2:(s:Int)*(q:Int)≤4096:=by rw[←id0];omega
    have hb3:0≤(s:Int)*(q:Int):=by rw[←id0];omega
    have ih:=ye9 hq hq2 h0 hn m (s*q) (Nat.mul_pos hs (by omega)) h ks
    rw[id0]at ih
    rw[←ih,sb5 c54L0.eq_def]
    generalize (s-1)%n=r at*
    simp(disch:=first|omega|fail) only[push_cast,seval,vrl,if_pos,if_neg,r1,nb8 h3,nb8 hn0]
end
section
variable {q:Int} [IsFld q]
theorem hy6{N s:Nat}(h0:0<N)(hN:N≤64)(h:N%chN q≠0)(hs:homZ q N=some s) [IsFld (s:Int)]:
 o25 W 54 [.x (.int .i64 q), .x (.int .i64 N)] []=some (.tup [.fz true (pF (s:Int)), .x (.int .i64 (vs4 s N)), .x (.int .i64 0)],[],[]):=by
 have h2:=aw0 (q:=q)
 have hi:=q_hi (q:=q)
 have hq:((q.toNat:Nat):Int)=q:=by omega
 have e1:=fun ks=>ye9 (q:=q.toNat) (n:=N) (by omega) (by omega) h0 hN (s':=s) 7 q.toNat (by omega) hs ks
 rw[hq]at e1
 have e2:=nt3 (q:=q) N
 have e3: ¬((N%chN q:Nat):Int)=0:=by omega
 have e4: ¬fch q=0:=by have:=ag7 (q:=q);omega
 rw[o10 rfl T54 rfl]
 unfold F54 c54
 generalize N%chN q=r at*
 simp(disch:=first|omega|fail) only[push_cast,seval,vrl,if_pos,if_neg,e2,nb8 e3,nb8 e4]
 rw[e1]
end
section
variable {z:Int} [hz:IsFld z]
theorem s18: ∃G:El z,G.v=fgn z∧pw G (z.toNat-1)=1∧ ∀i j,i<z.toNat-1→j<z.toNat-1→pw G i=pw G j→i=j:=by
 obtain⟨p,m,g,mod,hn⟩:=hz.ok
 obtain⟨hf,t,g1,g2⟩:=jj8 hn
 have h2:=hf.q2
 have hg:fgn z=g:=by unfold fgn;rw[hn]
 have hG:(⟨g,by omega,g2⟩:El z)≠0:=fun e=>by
  have e2:g=0:=congrArg El.v e
  omega
 refine⟨⟨g,by omega,g2⟩,hg.symm, ?_,fun i j hi hj e=> ?_⟩
 ·have e:=pw_q (⟨g,by omega,g2⟩:El z)
  rw[show z.toNat=(z.toNat-1)+1 by omega,pw]at e
  have e2:=congrArg (· *FK.inv (⟨g,by omega,g2⟩:El z)) e
  simp only at e2
  rw[FK.mul_assoc,FK.mul_inv _ hG,FK.mul_one]at e2
  exact e2
 ·have key: ∀k:Nat,k<z.toNat-1→flog z (pw (⟨g,by omega,g2⟩:El z) k).v=(k:Int):=fun k hk=>by
   rw[pw_v]
   show flog z (powI z g k)=_
   rw[mv9 t h2 ⟨g1,g2⟩,t.lg]
   have e:1%(z-1)*(k:Int)%(z-1)=(k:Int):=by
    rw[mw3,Int.emod_emod,←mw3,vq0,b16 (by omega) (by omega)]
   rw[e]
   exact(t.er (k:Int) (by omega) (by omega)).2.2
  have:=key i hi
  rw[e,key j hj]at this
  omega
end
structure RootF (q:Int) [IsFld q] (n s:Nat) [IsFld (s:Int)] (b:El (s:Int)):Prop where
 v:b.v=vs4 s n
 one:pw b n=1
 ord: ∀i j,i<n→j<n→pw b i=pw b j→i=j
theorem jx5{q:Int} [IsFld q]{n s:Nat}(h0:0<n)(h:HomF q n s) [IsFld (s:Int)]: ∃b:El (s:Int),RootF q n s b:=by
 obtain⟨G,g1,g2,g3⟩:=s18 (z:=(s:Int))
 have h2:=aw0 (q:=(s:Int))
 have hd:(s-1)/n*n=s-1:=by
  have:=Nat.div_add_mod (s-1) n
  rw[h.dv,zy9,Nat.mul_comm]at this
  exact this
 rw[ao0]at g2 g3
 refine⟨pw G ((s-1)/n), ?_,by rw[b33,hd,g2],fun i j hi hj e=> ?_⟩
 ·unfold vs4
  rw[←g1,n00]
 ·rw[b33,b33]at e
  have hpos:0<(s-1)/n:=by
   rcases Nat.eq_zero_or_pos ((s-1)/n)with e0|e0
   ·rw[e0]at hd;omega
   ·exact e0
  have lt: ∀k,k<n→(s-1)/n*k<s-1:=fun k hk=>by
   have:(s-1)/n*k<(s-1)/n*n:=Nat.mul_lt_mul_of_pos_left hk hpos
   omega
  exact Nat.eq_of_mul_eq_mul_left hpos (g3 _ _ (lt i hi) (lt j hj) e)
theorem od8{q:Int} [IsFld q]{n s:Nat}(h:HomF q n s):chN (s:Int)=chN q:=by unfold chN;rw[h.ch]
theorem g58{q:Int} [hF:IsFld q]{n s:Nat}(h:HomF q n s) [hz:IsFld (s:Int)]:kg5 (s:Int) q≠[]∧(kg5 (s:Int) q).length=q.toNat∧(embP q (s:Int)).1=0∧(embP q (s:Int)).2.length=q.toNat∧ ∃E,Emb (s:Int) q (embP q (s:Int)).2 E:=by
 have hne:kg5 (s:Int) q≠[]:=by
  obtain⟨p,m,g,mod,hn⟩:=hF.ok
  have h1:=h.ch
  have h2:=h.deg
  rw[(y65 hn).1]at h1
  rw[(y65 hn).2]at h2
  have hs:=aw0 (q:=(s:Int))
  have hq:=aw0 (q:=q)
  have h0:fpow (s:Int) ((0:Nat):Int) q=((0:Nat):Int):=by
   have e:=n00 (q:=(s:Int)) (0:El (s:Int)) q.toNat
   rw[ii7 (by omega),show((q.toNat:Nat):Int)=q by omega]at e
   exact e
  have:=nt8 (s:Int) q (s:Int).toNat 0 0 (jj6 _) (by omega) h0
  unfold kg5
  rw[hn]
  simp only
  rw[ce5 h1.symm,ce5 h2]
  intro e
  rw[Bool.and_true,nj1]at e
  rw[e]at this
  cases this
 rcases ed4 (z:=(s:Int)) (s:=q)with⟨a,_⟩|⟨a,b,c,d,e⟩
 ·exact absurd a hne
 ·exact⟨hne,c,a,d,e⟩
theorem re5{z s:Int} [IsFld z] [IsFld s]{l:List Int}{E:El s→El z}(h:Emb z s l E)(hl:l.length=s.toNat)(d:El s):fidx (fun y=>decide ((E d).v=y)) 0 l=d.v:=by
 have hd:=d.lo
 have hd2:=d.hi
 have hat: ∀c:El s,l[c.v.toNat]? =some (E c).v:=fun c=>by
  have:=h.at' c
  unfold gi at this
  rw[os6,wu3 (by have:=c.hi;have:=c.lo;omega)]at this
  rw[wu3 (by have:=c.hi;have:=c.lo;omega)]
  exact congrArg some this
 rcases nu4 (fun y=>decide ((E d).v=y)) 0 l with⟨h1,h2⟩|⟨j,x,h1,h2,h3⟩
 ·have:=h2 _ (vf6 (hat d))
  simp at this
 ·have hj:=(ck5.1 h2).1
  have h4:(E d).v=x:=kb3 h3
  have h5:=hat ⟨(j:Int),by omega,by omega⟩
  rw[ao0,h2]at h5
  have h6:E d=E ⟨(j:Int),by omega,by omega⟩:=El.ext' (by rw[h4];exact pk4 h5)
  rw[h1,e02]
  exact(congrArg El.v (h.inj _ _ h6)).symm
structure GenG (q:Int) [IsFld q] (N:Nat) (Z:List Nat) (s:Nat) [IsFld (s:Int)] (b:El (s:Int)) (E:El q→El (s:Int)) (g:List (El q)):Prop where
 root:RootF q N s b
 emb: ∃l,Emb (s:Int) q l E
 is:g.map E=loc (Z.map fun k=>pw b k)
section
variable {q:Int} [IsFld q] {N s:Nat} {Z:List Nat} [IsFld (s:Int)] {b:El (s:Int)} {E:El q→El (s:Int)} {g:List (El q)}
theorem GenG.hom(h:GenG q N Z s b E g):HomE E:=by
 obtain⟨l,hl⟩:=h.emb
 exact hl.hom
theorem GenG.len(h:GenG q N Z s b E g):g.length=Z.length+1:=by
 have:=congrArg List.length h.is
 rwa [q11,ru2,q11]at this
theorem GenG.ne(h:GenG q N Z s b E g):g≠[]:=fun e=>by
 have:=h.len
 rw[e]at this
 cases this
theorem GenG.trm(h:GenG q N Z s b E g):Trm g:=fun hl e=>by
 have h1:=h42 (Z.map fun k=>pw b k)
 rw[←h.is]at h1
 refine h1 (by rw[q11];exact hl) ?_
 rw[q11,h.hom.wf,e,h.hom.zero]
theorem GenG.zero(h:GenG q N Z s b E g){k:Nat}(hk:k∈Z):ev (g.map E) (pw b k)=0:=by
 rw[h.is]
 exact zb6 (vf1.2 ⟨k,hk,rfl⟩)
theorem g25{n:Nat}(h0:0<n){K:Int} [IsFld K](x:El K):ev (oneL n) x=pw x n+ -1:=by
 rw[tf2 _ x (n+1) (by rw[vc9];exact jj6 _)]
 have e:(fun i=>wf (oneL n:List (El K)) i*pw x i)=fun i=>xk n 1 i*pw x i+xk 0 (-1) i*pw x i:=funext fun i=>by rw[to6 h0,add_mul]
 rw[e,pv3,xq2 (s:=n) (by omega) fun a _ ha=>by unfold xk;rw[if_neg ha,zero_mul],xq2 (s:=0) (by omega) fun a _ ha=>by unfold xk;rw[if_neg ha,zero_mul]]
 unfold xk
 rw[if_pos rfl,if_pos rfl,one_mul]
 show _+ -1*1=_
 rw[FK.mul_one]
theorem GenG.one_map(h:GenG q N Z s b E g):(oneL N:List (El q)).map E=(oneL N:List (El (s:Int))):=by
 unfold oneL
 rw[fx9,fx9,List.map_replicate,h.hom.zero,h.hom.one,h.hom.neg,h.hom.one]
theorem GenG.rem(h:GenG q N Z s b E g)(h0:0<N)(hZ:Z.Nodup)(hl: ∀x∈Z,x<N):remP (xa5 (oneL N:List (El q))) g=[]:=by
 have hd:=h79 (a:=xa5 (oneL N:List (El q))) h.trm h.ne
 obtain⟨Q,hQ⟩: ∃Q,Q=quoP (xa5 (oneL N:List (El q))) g:=⟨_,rfl⟩
 obtain⟨R,hR⟩: ∃R,R=remP (xa5 (oneL N:List (El q))) g:=⟨_,rfl⟩
 rw[←hQ,←hR]at hd
 rw[←hR]
 have hxs:(Z.map fun k=>pw b k).Nodup:=ma3 hZ fun x hx y hy e=>h.root.ord x y (hl x hx) (hl y hy) e
 have hz:=roots (Z.map fun k=>pw b k) (R.map E) hxs (by
  have:=hd.lt
  rw[h.len]at this
  simp only[q11]
  omega) fun x hx=>by
  obtain⟨k,hk,rfl⟩:=vf1.1 hx
  have e:wf ((oneL N:List (El q)).map E)=wf (addK (mulK (Q.map E) (g.map E)) (R.map E)):=by
   funext j
   rw[w62,←h.hom.mulK,h.hom.wf]
   show E (wf (oneL N) j)=wf ((mulK Q g).map E) j+wf (R.map E) j
   rw[h.hom.wf,h.hom.wf,←h.hom.add,zu9]
   have:=hd.eq j
   rw[vb5]at this
   rw[this]
  have e2:=ma4 e (pw b k)
  rw[h.one_map,g25 h0,k99,jo3,h.zero hk,mul_zero,zero_add,b33,Nat.mul_comm,←b33,h.root.one,se5,FK.add_neg]at e2
  exact e2.symm
 refine ly5 fun hne=> ?_
 have hp:=py7.2 hne
 refine hd.r (by omega) ?_
 have hm:E (R[R.length-1]'(by omega))=0:=hz _ (vf1.2 ⟨_,ws6 _,rfl⟩)
 rw[i67 (by omega)]
 exact h.hom.ker _ hm
end
section
variable {q:Int} [IsFld q] {n:Nat} {g:List (El q)}
theorem df1(ht:Trm g)(hg0:g≠[])(hg:g.length≤n):wu9 ((cycM n g).map wf):=fun y hy h=>by
 have hp:=py7.2 hg0
 rw[q11,nc3]at hy
 have e:disc (wf y) (wf g)=fun _=>0:=funext fun j=>by
  rw[ff1 (L:=y.length) (fun k hk=>e01 hk)]
  have h1:=h j
  have hz: ∀(l:List Nat) (y':List (El q)),y'.length=l.length→(∀k∈l,k+g.length≤n)→sumL (y'.zip ((l.map (shR n g)).map wf)) (fun p=>p.1*p.2 j)=sumL (y'.zip l) fun p=>p.1*Alg.shift p.2 (wf g) j:=fun l=>by
   induction l with
   |nil=>intro y' _ _;simp[sumL]
   |cons k l ih=>
    intro y' hy' hk
    cases y' with
    |nil=>rfl
    |cons c y'=>
     rw[nf9,nf9,wl8,wl8,gb6,gb6,ih y' (by simpa using hy') fun k' hk'=>hk k' (iz7 _ hk'),tu9 (hk k rn8)]
  unfold cycM at h1
  rw[hz (List.range (n+1-g.length)) y (by rw[w64];exact hy) fun k hk=>by have:=l16.1 hk;omega]at h1
  rw[←h1,←hy]
  have hr: ∀(y:List (El q)) (f:Nat→El q) (a:Nat),sumL (y.zip ((List.range y.length).map (a+ ·))) (fun p=>p.1*f p.2)=sumN y.length fun k=>wf y k*f (a+k):=fun y=>by
   induction y with
   |nil=>intro f a;rfl
   |cons c y ih=>
    intro f a
    rw[q90,List.range_succ_eq_map,nf9,wl8,gb6,c66]
    congr 1
    rw[uk6]
    have e1:((fun x=>a+x)∘Nat.succ)=fun x=>(a+1)+x:=funext fun x=>by show a+(x+1)=a+1+x;omega
    rw[e1,ih f (a+1)]
    refine rc1 fun k hk=> ?_
    rw[rw8,show a+1+k=a+(k+1) by omega]
  have:=hr y (fun k=>Alg.shift k (wf g) j) 0
  simp only[e02,List.map_id']at this
  exact this.symm
 refine ly5 fun hn=> ?_
 have hyz:wf y≠fun _=>0:=fun e0=>hn fun a ha=>by
  obtain⟨i,hi,rfl⟩:=zd4 ha
  rw[←i67 hi,e0]
 obtain⟨m,m1,m2⟩:=op2 (fun k hk=>e01 (l:=y) hk) hyz
 have htop:disc (wf y) (wf g) (m+(g.length-1))=wf y m*wf g (g.length-1):=b30 m2 fun i hi=>e01 (by omega)
 rw[e]at htop
 have h4:=ht (by omega)
 have e5:wf y m*wf g (g.length-1)*FK.inv (wf g (g.length-1))=0*FK.inv (wf g (g.length-1)):=by rw[←htop]
 rw[FK.mul_assoc,FK.mul_inv _ h4,FK.mul_one,zero_mul]at e5
 exact m1 e5
theorem jt0(ht:Trm g)(hg0:g≠[])(hg:g.length≤n+1):(redR (cycM n g)).length=n+1-g.length:=by
 have hp:=py7.2 hg0
 have hM: ∀r∈cycM n g,r.length=n:=fun r hr=>by
  obtain⟨k,h2,rfl⟩:=vf1.1 hr
  have:=l16.1 h2
  exact l93 (by omega)
 have h1:=ew4 hM
 rw[nc3]at h1
 rcases Nat.lt_or_ge n g.length with h|h
 ·omega
 ·have h2:=ee0 hM (df1 ht hg0 h)
  rw[nc3]at h2
  omega
def mp9(w:List (El q)):List (El q):=wf w (w.length-1)::w.take (w.length-1)
theorem ms1{w:List (El q)}(hw:w.length=n)(h0:0<n):wf (mp9 w)=kt4 n (Alg.shift 1 (wf w)):=by
 funext j
 unfold mp9 kt4 Alg.shift
 cases j with
 |zero=>
  rw[qa6,if_pos h0,if_pos (by omega),if_neg (by omega),zero_add,hw,show 0+n-1=n-1 by omega]
 |succ j=>
  rw[rw8,g29]
  by_cases h:j+1<n
  ·rw[if_pos (by omega),if_pos h,if_neg (by omega),if_neg (by omega),e01 (l:=w) (show w.length≤j+1+n-1 by omega),FK.add_zero,xu8]
  ·rw[if_neg (by omega),if_neg h]
theorem xc8(h0:0<n)(ht:Trm g)(hg0:g≠[])(hd:Mg (wf g) (wf (oneL n:List (El q)))){w:List (El q)}(hw:w.length=n)(h:Span ((cycM n g).map wf) (wf w)):Span ((cycM n g).map wf) (wf (mp9 w)):=by
 rw[dc6 ht hg0]at h⊢
 rw[ms1 hw h0]
 refine⟨xg0 h0 (fun k hk=> ?_) hd (h.1.trans (Mg.shift _ 1)),fun k hk=>by unfold kt4;rw[if_neg (by omega)]⟩
 unfold Alg.shift
 rw[if_neg (by omega),e01 (by omega)]
theorem ho9{k:Nat}{M:List (List (El q))}(hr: ∀r∈M,r.length=k){w:List (El q)}(hw:Span (M.map wf) (wf w)):((vs (synL (p78 (zt5 k M)) w)).any fun v=> !decide (v=0))=false:=by
 obtain⟨b1,b2,b3,b4⟩:=sw1 hr
 refine qb8.2 fun v hv=> ?_
 unfold vs synL at hv
 rw[uk6]at hv
 obtain⟨r,hr',rfl⟩:=vf1.1 hv
 obtain⟨a,ha,rfl⟩:=vf1.1 hr'
 have e:sumN a.2.length (fun j=>wf a.2 j*wf w j)=dotF k (wf a.2) (wf w):=by rw[b2 a ha];rfl
 have hm:wf a.2∈rowsOf (toF (zt5 k M)):=vf1.2 ⟨(a.1,wf a.2),vf1.2 ⟨a,ha,rfl⟩,rfl⟩
 show¬(!decide ((sumN a.2.length fun j=>wf a.2 j*wf w j).v=0))=true
 rw[e,sc2,ch3 hr hw (.mem hm),hc8]
 decide
end
section
variable {z:Int} [IsFld z]
theorem hl5{a:List (El z)}(h:a.length≤100)(x:El z): ¬ca3 a [x,1]:=fun⟨h1,h2,h3⟩=>by
 have l1:=tb1 a
 have l2:=tb1 [x,1]
 have:([x,1]:List (El z)).length=2:=rfl
 omega
theorem dv1(b:El z)(k:Nat):fneg z (fpow z b.v (k:Int))=(-(pw b k)).v:=by rw[n00,tg5]
def mixL(A B:List Int)(i:Nat):List Int:=A.take i++B.drop i
theorem bg4(A B:List Int):mixL A B 0=B:=by unfold mixL;rw[si3,sv4,m51]
theorem xo2{A B:List Int}(h:A.length=B.length){i:Nat}(hi:i≤B.length):(mixL A B i).length=B.length:=by
 unfold mixL;rw[j82,vb8,h51];omega
theorem by1{A B:List Int}(h:A.length=B.length):mixL A B B.length=A:=by
 unfold mixL;rw[List.drop_length,nw0,sp3 (by omega)]
theorem no1{A B:List Int}(h:A.length=B.length){i:Nat}{x:Int}(hx:B[i]? =some x):(mixL A B i)[i]? =some x:=by
 have hi:=(ck5.1 hx).1
 have hl:(A.take i).length=i:=by rw[vb8];omega
 unfold mixL
 rw[lp1 (by omega),hl,ob6,i62 hx];rfl
theorem pe6{A B:List Int}(h:A.length=B.length){i:Nat}{x y:Int}(hx:B[i]? =some x)(hy:A[i]? =some y):(mixL A B i).set i y=mixL A B (i+1):=by
 have hi:=(ck5.1 hx).1
 have hl:(A.take i).length=i:=by rw[vb8];omega
 unfold mixL
 rw[v62 _ _ (by omega),hl,ob6,i62 hx,kv0,da3,hy]
 simp
end
section
variable {q:Int} [IsFld q] {s:Nat} [IsFld (s:Int)] {b:El (s:Int)}
theorem hq4{Z:List Nat}(hZ:Z.length≤64): ∀(d i nl:Nat),i+d=Z.length→ ∃nl',∀ks,
 vgoL W ⟨hNo,[.tmp 6, .tmp 7],0⟩ [0,10,11,12,40,41,42] c13L0 (.blk 0 [0,10,12]::ks) [(0, .x (.int .i64 q)),(10, .fz true (pF (s:Int))),(11, .x (.int .i64 b.v)),(12, .own 0 []),(40, .own 1 []),(41, .x (.int .i64 Z.length)),(42, .x (.int .i64 i))] [.sl nl 3 1 (ivs (vs (loc ((Z.take i).map fun k=>pw b k)))), .sl 1 3 1 (ivs (nvs Z))]=
  vgo W ⟨hNo,[.tmp 6, .tmp 7],0⟩ ks (VFr.of [(0, .x (.int .i64 q)),(10, .fz true (pF (s:Int))),(12, .own 0 [])]) [.sl nl' 3 1 (ivs (vs (loc (Z.map fun k=>pw b k)))), .sl 1 3 1 (ivs (nvs Z))]
 |0,i,nl,hi=>by
  refine⟨nl,fun ks=> ?_⟩
  rw[sp3 (by omega),sb5 c13L0.eq_def]
  generalize (loc (Z.map fun k=>pw b k))=A at*
  simp(disch:=first|omega|fail) only[push_cast,seval,vrl,if_pos,if_neg]
 |d+1,i,nl,hi=>by
  obtain⟨k,hk⟩:=ge6 (l:=Z) (i:=i) (by omega)
  have h1:(ivs (nvs Z))[i]? =some (.v (.int .i64 (k:Int))):=iat (by unfold nvs;rw[us5,hk];rfl)
  have hnl:=sd2 Z
  have hl:=ru2 ((Z.take i).map fun k=>pw b k)
  rw[q11,vb8]at hl
  obtain⟨n1,e1⟩:=h84 (b:=false) (nl:=nl) (b':=false) (nl':=0) (a:=loc ((Z.take i).map fun k=>pw b k)) (c:=[-(pw b k),1]) (by omega) (by show 2≤128;omega) (hl5 (by omega) _)
  obtain⟨nl',ih⟩:=hq4 hZ d (i+1) n1 (by omega)
  refine⟨nl',fun ks=> ?_⟩
  have ih:=ih ks
  rw[da3,hk,Option.toList_some,hm3,List.map_singleton,ll1,e96,g71]at ih
  rw[show ivs (vs [-(pw b k),1])=[.v (.int .i64 (-(pw b k)).v), .v (.int .i64 1)]from rfl]at e1
  have hx:=dv1 b k
  rw[←ih,sb5 c13L0.eq_def]
  generalize mulK (loc ((Z.take i).map fun k=>pw b k)) [-(pw b k),1]=A2 at*
  generalize loc ((Z.take i).map fun k=>pw b k)=A at*
  generalize nvs Z=zz at*
  simp(disch:=first|omega|fail) only[push_cast,seval,vrl,if_pos,if_neg,h1,hnl,hx,e1]
theorem i35{l:List Int}{E:El q→El (s:Int)}(hE:Emb (s:Int) q l E)(hl:l.length=q.toNat){g:List (El q)}(hg:g.length≤100){nl n1:Nat}: ∀(d i:Nat),i+d=g.length→ ∀ks,
 vgoL W ⟨hNo,[.tmp 6, .tmp 7],0⟩ [12,15,68,69,70] c13L1 (.blk 2 [12]::ks) [(12, .own 0 []),(15, .own 1 []),(68, .own 0 []),(69, .x (.int .i64 g.length)),(70, .x (.int .i64 i))] [.sl nl 3 1 (ivs (mixL (vs g) (vs (g.map E)) i)), .sl n1 3 1 (ivs l)]=
  vgo W ⟨hNo,[.tmp 6, .tmp 7],0⟩ ks (VFr.of [(12, .own 0 [])]) [.sl nl 3 1 (ivs (vs g)), .sl n1 3 1 (ivs l)]
 |0,i,hi,ks=>by
  have hlen:(vs g).length=(vs (g.map E)).length:=by rw[fi2,fi2,q11]
  have hi2:i=(vs (g.map E)).length:=by rw[fi2,q11];omega
  rw[hi2,by1 hlen,←hi2,sb5 c13L1.eq_def]
  generalize vs g=A at*
  simp(disch:=first|omega|fail) only[push_cast,seval,vrl,if_pos,if_neg]
 |d+1,i,hi,ks=>by
  have hlen:(vs g).length=(vs (g.map E)).length:=by rw[fi2,fi2,q11]
  have hlen2:(vs (g.map E)).length=g.length:=by rw[fi2,q11]
  obtain⟨c,hc⟩:=ge6 (l:=g) (i:=i) (by omega)
  have hA:(vs g)[i]? =some c.v:=by unfold vs;rw[us5,hc];rfl
  have hB:(vs (g.map E))[i]? =some (E c).v:=by unfold vs;rw[us5,us5,hc];rfl
  have h1:=iat (no1 hlen hB)
  have h2:(ivs (mixL (vs g) (vs (g.map E)) i)).set i (.v (.int .i64 c.v))=ivs (mixL (vs g) (vs (g.map E)) (i+1)):=by rw[←pe6 hlen hB hA];unfold ivs;rw[fx9];rfl
  have h3:=xo2 hlen (i:=i) (by omega)
  rw[hlen2]at h3
  have hq2:=aw0 (q:=q)
  have hq3:=q_hi (q:=q)
  have e1:=fun b nl=>bd9 (b:=b) (nl:=nl) (l:=l) (x:=(E c).v) (by omega)
  rw[re5 hE hl c]at e1
  have ih:=i35 hE hl hg (nl:=nl) (n1:=n1) d (i+1) (by omega) ks
  rw[e96,g71]at ih
  rw[←ih,sb5 c13L1.eq_def]
  generalize mixL (vs g) (vs (g.map E)) (i+1)=A2 at*
  generalize mixL (vs g) (vs (g.map E)) i=A1 at*
  simp(disch:=first|omega|fail) only[push_cast,seval,vrl,if_pos,if_neg,h1,h2,h3,e1]
theorem lh2{N:Nat}{zs:List Int}{nl:Nat}(h0:0<N)(hN:N≤64)(h:N%chN q≠0)(hz:zs.length≤64)(hb:zs.any (badZ N)=false)(hs:homZ q N=some s)(hv:b.v=vs4 s N)(he0:(embP q (s:Int)).1=0)
 {E:El q→El (s:Int)} (hE:Emb (s:Int) q (embP q (s:Int)).2 E) (hl:(embP q (s:Int)).2.length=q.toNat) {g:List (El q)} (hg:g.map E=loc ((zerN q.toNat N (inZ zs)).map fun k=>pw b k)):
 ∃nl',o25 W 13 [.x (.int .i64 q), .x (.int .i64 N), .fz true (.sl nl 0 1 (ivs zs))] []=some (.tup [.own 0 [], .x (.int .i64 0)],[.sl nl' 3 1 (ivs (vs g))],[]):=by
 have e1:=m13 (nl:=nl) h0 hN h hz hb
 have e2:=hy6 h0 hN h hs
 have hZ:=pl9 q.toNat N (inZ zs)
 obtain⟨n1,e3⟩:=hq4 (q:=q) (b:=b) (Z:=zerN q.toNat N (inZ zs)) (by omega) (zerN q.toNat N (inZ zs)).length 0 0 (by omega)
 have hgl:g.length=(zerN q.toNat N (inZ zs)).length+1:=by
  have:=congrArg List.length hg
  rwa [q11,ru2,q11]at this
 have e4:=fun ks=>i35 hE hl (g:=g) (by omega) (nl:=n1) (n1:=nlT (embP q (s:Int)).2) g.length 0 (by omega) ks
 rw[bg4,hg]at e4
 rw[show ivs (vs (loc (((zerN q.toNat N (inZ zs)).take 0).map fun k=>pw b k)))=[.v (.int .i64 1)]from rfl]at e3
 have e5:=lh5 (q:=q) (s:=(s:Int))
 rw[he0]at e5
 have hpl:(vs (loc ((zerN q.toNat N (inZ zs)).map fun k=>pw b k))).length=g.length:=by rw[fi2,←hg,q11]
 have hnl:=sd2 (zerN q.toNat N (inZ zs))
 rw[hv]at e3
 refine⟨n1, ?_⟩
 simp only[vx9]at e3 e4
 rw[o10 rfl T13 rfl]
 unfold F13 c13
 generalize vs (loc ((zerN q.toNat N (inZ zs)).map fun k=>pw b k))=P at*
 generalize (zerN q.toNat N (inZ zs)).length=nZ at*
 generalize nvs (zerN q.toNat N (inZ zs))=zz at*
 simp(disch:=first|omega|fail) only[push_cast,seval,vrl,if_pos,if_neg,e1,e2,hnl]
 rw[e3]
 simp(disch:=first|omega|fail) only[push_cast,seval,vrl,if_pos,if_neg,e5,hpl]
 rw[e4]
 simp(disch:=first|omega|fail) only[push_cast,seval,vrl,if_pos,if_neg]
end
set_option maxHeartbeats 2000000
section
variable {q:Int} [IsFld q]
variable {b b':Bool} {nl nl':Nat} {P:List (El q×El q)}
end
section
variable {q:Int} {b b':Bool} {nl nl':Nat}
end
section
variable {K:Type} [FK K]
end
section
variable {q p m g:Int} [IsFld q] {t:Tree} {b b':Bool} {nl nl':Nat} {a c:List (El q)}
end
section
variable {q:Int} [IsFld q] {d v:Nat} {a0 z:List (El q)}
end
set_option maxHeartbeats 4000000
section
variable {b b':Bool} {nl nl':Nat} {x y:List Int}
end
section
variable {l:List (Nat×List Int)}
end
set_option maxHeartbeats 4000000
section
variable {l:List (Nat×List Int)}
end
set_option maxHeartbeats 2000000
section
variable {q:Int} [IsFld q]
end
set_option maxHeartbeats 2000000
section
variable {q:Int} [IsFld q] {b:Bool} {nl:Nat}
end
section
variable {q:Int} {b:Bool} {nl:Nat}
end
section
variable {q:Int}
end
set_option maxHeartbeats 2000000
section
variable {q p m g:Int} [IsFld q] {t:Tree} {d:Nat} {a0:List (El q)}
end
set_option maxHeartbeats 2000000
section
variable {b b':Bool} {nl nl':Nat} {x y:List Int}
end
section
variable {no:Nat} {l:List (List Int)}
end
section
variable {q:Int} [IsFld q] {b:Bool} {nl:Nat}
end
set_option maxHeartbeats 4000000
section
variable {q:Int} {b b':Bool} {nl nl':Nat}
end
section
variable {q:Int} [IsFld q] {b b':Bool} {nl nl':Nat}
end
set_option maxHeartbeats 4000000
section
variable {q:Int} {b:Bool} {nl:Nat} {l:List Int}
end
section
variable {q:Int} [IsFld q] {b:Bool} {nl:Nat}
end
set_option maxHeartbeats 4000000
section
variable {q p m g:Int} [IsFld q] {t:Tree} {b b':Bool} {nl nl':Nat}
end
section
variable {q:Int} {b b':Bool} {nl nl':Nat} {l k:List Int} {x:Int}
end
section
variable {q:Int} [IsFld q] {b b':Bool} {nl nl':Nat} {x:Int}
end
section
variable {q n:Int} {a:List Int} {b:Bool} {nl:Nat}
end
section
variable {q:Int} [IsFld q] {n:Nat} {a:List (El q)} {b:Bool} {nl:Nat}
theorem um9(n:Nat):(Tree.v (.int .i64 (fneg q 1))::ivs (List.replicate n 0)).set n (.v (.int .i64 1))=ivs (vs (oneL n:List (El q))):=by
 rw[←qp8];unfold ivs;rw[fx9];rfl
theorem ka9{g:List (El q)}(h:g≠[]):nlT g=0:=by cases g with
 |nil=>exact absurd rfl h
 |cons x g=>rfl
theorem m33(ha:a.length≤128)(h0:0<n)(hn:n≤64)(ht:xa5 a≠[])(hr:remP (xa5 (oneL n:List (El q))) (xa5 a)=[]):
 o25 W 19 [.x (.int .i64 q), .x (.int .i64 n), .fz b (.sl nl 0 1 (ivs (vs a)))] []=some (.tup [.agg [.x (.int .i64 q), .x (.int .i64 n), .own 0 []], .x (.int .i64 0)],[.sl 2 22 1 (lls 2 (pvR (redR (cycM n (xa5 a)))))],[]):=by
 have e1:=fun b nl=>bw7 (q:=q) (b:=b) (nl:=nl) (l:=vs a) (by rw[fi2];omega)
 simp only[i31 (q:=q) (a:=a) ha]at e1
 have ho:=vc9 (q:=q) n
 have hone:=um9 (q:=q) n
 obtain⟨m,e2⟩:=pl2 (q:=q) (b:=false) (b':=b) (nl:=0) (nl':=nl) (a:=oneL n) (c:=a) (by omega) ha ht
 rw[hr]at e2
 have e3:=fun b nl b' nl'=>wa2 (q:=q) (b:=b) (nl:=nl) (b':=b') (nl':=nl') (a:=a) (c:=[]) ha (ms7 _)
 have hadd:addK a []=xa5 a:=by
  refine(lz5 (y42 _ _) (t12 _) ?_)
  rw[w62,vb5]
  funext i
  rw[e01 (l:=([]:List (El q))) (ms7 _),FK.add_zero]
 simp only[hadd,ka9 ht,rp2,lz6]at e3
 have hlen:=hn3 h0 (t12 a) ht (v31 (t12 a) ht hr)
 have hv:=fi2 (xa5 a)
 by_cases hg:(xa5 a).length≤n
 ·have hgp:=py7.2 ht
  have hC:=tc0 (q:=q) (k:=n) (N:=cycM n (xa5 a)) h0 hn (by rw[nc3];omega) (td5 hg) (sy6 (by rw[nc3];omega) (td5 hg) h0 hn)
  have e4:=fun nl nr=>ob1 (nl:=nl) (nr:=nr) hC h0 hn (by rw[nc3];have:=py7.2 ht;omega) (td5 hg)
  have e:=fun T1 ng ks=>v78 (q:=q) (g:=xa5 a) (n:=n) ht hg hn (T1:=T1) (ng:=ng) ks
  rw[o10 rfl T19 rfl]
  unfold F19 c19
  generalize xa5 a=G at*
  simp(disch:=first|omega|fail) only[push_cast,seval,vrl,if_pos,if_neg,e1,show((n:Int)+1).toNat=n+1 by omega,hone,e2,e3]
  rw[e]
  simp(disch:=first|omega|fail) only[push_cast,seval,vrl,if_pos,if_neg,e4]
 ·have hc:cycM n (xa5 a)=[]:=by unfold cycM;rw[show n+1-(xa5 a).length=0 by omega];rfl
  have hC:=tc0 (q:=q) (k:=n) (N:=[]) h0 hn (ms7 _) (fun r hr=>by cases hr) (sy6 (n:=n) (ms7 _) (fun r hr=>by cases hr) h0 hn)
  have e4:=fun nl=>ob1 (nl:=nl) (nr:=0) hC h0 hn (ms7 _) (fun r hr=>by cases hr)
  rw[gw5]at e4
  simp only[em1]at e4
  have hgl:(n:Int)<((xa5 a).length:Int):=by omega
  have hex: ∀T1 ng ks,vgoL W ⟨hNo,[(.cell 6 true 3), .tmp 7],0⟩ [1,2,6,15,16] c19L0 (.blk 0 [6,15]::ks) [(1, .x (.int .i64 n)),(2, .own 0 []),(6, .own 1 []),(15, .own 2 []),(16, .x (.int .i64 0))] [.sl ng 3 1 (ivs (vs (xa5 a))),T1, .pt 35 [.v (.int .i64 q), .v (.int .i64 n), .v (.slice none 0 0)]]=
   vgo W ⟨hNo,[(.cell 6 true 3), .tmp 7],0⟩ ks (VFr.of [(6, .own 1 []),(15, .own 2 [])]) [.sl ng 3 1 (ivs (vs (xa5 a))),T1, .pt 35 [.v (.int .i64 q), .v (.int .i64 n), .v (.slice none 0 0)]]:=fun T1 ng ks=>by
   rw[sb5 c19L0.eq_def]
   generalize xa5 a=G at*
   simp(disch:=first|omega|fail) only[push_cast,seval,vrl,if_pos,if_neg,hv,qc6 hgl]
  rw[hc,o10 rfl T19 rfl]
  unfold F19 c19
  generalize xa5 a=G at*
  simp(disch:=first|omega|fail) only[push_cast,seval,vrl,if_pos,if_neg,e1,show((n:Int)+1).toNat=n+1 by omega,hone,e2,e3]
  rw[hex]
  simp(disch:=first|omega|fail) only[push_cast,seval,vrl,if_pos,if_neg,e4]
end
set_option maxHeartbeats 4000000
section
variable {K:Type} [FK K] {k:Nat}
theorem wq0(c:K){w x:List K}(hw:w.length=k)(hx:x.length=k):wf (mac c w k 0 x)=axp c (wf x) (wf w):=by
 funext i
 rw[ga7 _ _ _ _ _ _ (by omega)]
 show _=wf x i+c*wf w i
 by_cases hi:i<k
 ·rw[if_pos ⟨ms7 _,by omega⟩]
 ·rw[if_neg (by omega),e01 (l:=w) (by omega),mul_zero,FK.add_zero]
theorem ld7{S:List (Nat→K)}{a:List K}: ∀(Q:List (List K)) (i:Nat) (x:List K),x.length=k→(∀r∈Q,r.length=k)→Span S (wf x)→(∀r∈Q,Span S (wf r))→Span S (wf (prow k a Q i x))
 | [],i,x,hx,_,h,_=>by rw[prow];exact h
 |w::Q,i,x,hx,hl,h,hr=>by
  rw[prow]
  refine ld7 Q (i+1) _ (by rw[ev4];exact hx) (fun r h=>hl r (by simp[h])) ?_ fun r h=>hr r (by simp[h])
  rw[wq0 _ (hl w (by simp)) hx]
  exact h.axp (hr w (by simp)) _
theorem so3(n:Nat):wf (List.replicate n (0:K))=fun _=>0:=rb9 n
end
section
variable {q:Int} [IsFld q] {k:Nat}
theorem a19{m:List (El q)}{R:List (List (El q))}(hR: ∀r∈R,r.length=k):Span (R.map wf) (wf (encL k m R)):=by
 unfold encL
 refine ld7 R 0 _ (by simp) hR (by rw[so3];exact .zero) fun r hr=> .mem (vf1.2 ⟨r,hr,rfl⟩)
end
def gf0(q n:Int):Bool:=decide (cycE q n=0)&&(homZ q n.toNat).isSome&&decide (2≤n)&&decide (n≤64)
def md5:List (Int×Int):=[(2,3),(2,5),(2,7),(2,9),(2,15),(2,21),(3,4),(3,8),(3,13),(4,3),(4,5),(4,15),(5,4),(5,6),(7,6),(8,7),(8,9),(9,8)]
theorem nu7:(md5.all fun p=>gf0 p.1 p.2)=true:=by kernel_rfl
theorem xv5{i:Int}(h0:0≤i)(h1:i<18): ∃q n:Int,([.sl 2 3 1 [.v (.int .i64 2), .v (.int .i64 3)], .sl 2 3 1 [.v (.int .i64 2), .v (.int .i64 5)], .sl 2 3 1 [.v (.int .i64 2), .v (.int .i64 7)], .sl 2 3 1 [.v (.int .i64 2), .v (.int .i64 9)], .sl 2 3 1 [.v (.int .i64 2), .v (.int .i64 15)], .sl 2 3 1 [.v (.int .i64 2), .v (.int .i64 21)], .sl 2 3 1 [.v (.int .i64 3), .v (.int .i64 4)], .sl 2 3 1 [.v (.int .i64 3), .v (.int .i64 8)], .sl 2 3 1 [.v (.int .i64 3), .v (.int .i64 13)], .sl 2 3 1 [.v (.int .i64 4), .v (.int .i64 3)], .sl 2 3 1 [.v (.int .i64 4), .v (.int .i64 5)], .sl 2 3 1 [.v (.int .i64 4), .v (.int .i64 15)], .sl 2 3 1 [.v (.int .i64 5), .v (.int .i64 4)], .sl 2 3 1 [.v (.int .i64 5), .v (.int .i64 6)], .sl 2 3 1 [.v (.int .i64 7), .v (.int .i64 6)], .sl 2 3 1 [.v (.int .i64 8), .v (.int .i64 7)], .sl 2 3 1 [.v (.int .i64 8), .v (.int .i64 9)], .sl 2 3 1 [.v (.int .i64 9), .v (.int .i64 8)]]:List Tree)[i.toNat]? =some (.sl 2 3 1 [.v (.int .i64 q), .v (.int .i64 n)])∧gf0 q n=true:=by
 have key: ∀k:Nat,k<18→ ∃q n:Int,(md5.map fun p=>Tree.sl 2 3 1 [.v (.int .i64 p.1), .v (.int .i64 p.2)])[k]? =some (.sl 2 3 1 [.v (.int .i64 q), .v (.int .i64 n)])∧gf0 q n=true:=fun k hk=>by
  have hlt:k<md5.length:=hk
  refine⟨md5[k].1,md5[k].2,by rw[us5,wu3 hlt];rfl,p92.1 nu7 _ (ws6 hlt)⟩
 exact key i.toNat (by omega)
theorem qb7{wh:Int}(w1: -9223372036854775808≤wh)(w2:wh≤9223372036854775807): ∃q n:Int,gf0 q n=true∧o25 W 28 [.x (.int .i64 wh)] []=some (.tup [.x (.int .i64 q), .x (.int .i64 n)],[],[]):=by
 have p1:=s88 (n:=18) w1 w2 (by omega)
 have k1:=h58 (a:=wh) (n:=18) (by omega)
 obtain⟨q,n,hat,hgood⟩:=xv5 k1.1 k1.2
 refine⟨q,n,hgood, ?_⟩
 generalize pkI wh 18=i at*
 rw[o10 rfl T28 rfl]
 unfold F28 c28
 simp(disch:=first|omega|fail) only[push_cast,seval,vrl,if_pos,if_neg,p1,hat]
theorem u56{raw:List Int}{frm n:Int}{k:Nat}(hn:0<n): ∀z∈tv7 raw frm n k,0≤z∧z<n:=fun z hz=>by
 obtain⟨j,_,rfl⟩:=vf1.1 hz
 exact h58 hn
theorem c88{q:Int} [IsFld q]{N s:Nat}{zs:List Int}(h0:0<N)(hN:N≤64)(h:N%chN q≠0)(hh:HomF q N s) [IsFld (s:Int)]:(embP q (s:Int)).1=0∧(embP q (s:Int)).2.length=q.toNat∧ ∃(b:El (s:Int)) (E:El q→El (s:Int)) (g:List (El q)),b.v=vs4 s N∧Emb (s:Int) q (embP q (s:Int)).2 E∧GenG q N (zerN q.toNat N (inZ zs)) s b E g:=by
 obtain⟨b,hb⟩:=jx5 h0 hh
 obtain⟨w1,w2,w3,w4,E,hE⟩:=g58 hh
 have hc:=fm8 h0 hN h
 obtain⟨g,hg⟩:=i95 hE w1 w2 (od8 hh) (rf8 (s:=q) hb.one hc (Z:=zerN q.toNat N (inZ zs)) (gv7 _ _) (fun x hx=>(ro7.1 hx).1) (qn9 hc hN (inZ zs)))
 exact⟨w3,w4,b,E,g,hb.v,hE,hb,⟨_,hE⟩,hg⟩
theorem aa6{b b':Bool}{nl nl':Nat}{raw ms:List Int}(hl:raw.length≤9223372036854775807)(hl2:ms.length≤9223372036854775807){wh mn:Int}(w1: -9223372036854775808≤wh)(w2:wh≤9223372036854775807)(m1: -9223372036854775808≤mn)(m2:mn≤9223372036854775807):
 o25 W 5 [.fz b (.sl nl 0 1 (ivs raw)), .x (.int .i64 wh), .x (.int .i64 mn), .fz b' (.sl nl' 0 1 (ivs ms))] []=some (.x (.bool true),[],[]):=by
 by_cases h256:256<IntKind.wrap .i64 ((raw.length:Int)+(ms.length:Int))
 ·rw[o10 rfl T5 rfl]
  unfold F5 c5
  simp(disch:=first|omega|fail) only[push_cast,seval,vrl,if_pos,if_neg,dec_lt h256]
 ·obtain⟨q,n,hgood,s1⟩:=qb7 w1 w2
  unfold gf0 at hgood
  simp only[b83,jn8]at hgood
  obtain⟨⟨⟨h1,h2⟩,h3⟩,h4⟩:=hgood
  obtain⟨hF,N,rfl,n0,n64,hm⟩:=vh7 h1
  rw[ao0]at h2
  have q2:=aw0 (q:=q)
  have qh:=q_hi (q:=q)
  have p2:=s88 (n:=4) m1 m2 (by omega)
  obtain⟨k,hk,hk5⟩:=o99 (h58 (a:=mn) (n:=4) (by omega)).1 (h58 (a:=mn) (n:=4) (by omega)).2
  rw[hk]at p2
  have e1:=fun b nl=>vv4 (b:=b) (nl:=nl) (raw:=raw) hl (frm:=0) (q:=(N:Int)) (by omega) (by omega) (by omega) (N:=k) (by omega)
  have l1:=jd5 raw 0 (N:Int) k
  have hzb:(tv7 raw 0 (N:Int) k).any (badZ N)=false:=qb8.2 fun z hz'=>by
   obtain⟨a,b⟩:=u56 (by omega) z hz'
   unfold badZ
   rw[lx1 (by omega),lx1 (by omega)]
   decide
  cases hs:homZ q N with
  |none=>rw[hs]at h2;cases h2
  |some s=>
   have hh:=jg9 n0 n64 hs
   haveI:=hh.fld
   obtain⟨w3,w4,rb,E,g,hb,hE,hG⟩:=c88 (zs:=tv7 raw 0 (N:Int) k) n0 n64 hm hh
   obtain⟨gn,e2⟩:=lh2 (nl:=1) n0 n64 hm (by omega) hzb hs hb w3 hE w4 hG.is
   have hZn:=pl9 q.toNat N (inZ (tv7 raw 0 (N:Int) k))
   have hgl:=hG.len
   have htr:xa5 g=g:=ou7 hG.trm
   have hrem:=hG.rem n0 (gv7 _ _) fun x hx=>(ro7.1 hx).1
   have e3:=fun b nl=>m33 (b:=b) (nl:=nl) (a:=g) (by omega) n0 n64 (by rw[htr];exact hG.ne) (by rw[htr];exact hrem)
   rw[htr]at e3
   have hM: ∀r∈cycM N g,r.length=N:=fun r hr=>by
    obtain⟨j,h5,rfl⟩:=vf1.1 hr
    have:=l16.1 h5
    exact l93 (by omega)
   have hrank:=jt0 (n:=N) hG.trm hG.ne (by omega)
   obtain⟨r1,r2,r3⟩:=bi2 hM
   obtain⟨R,hR⟩: ∃R,R=p78 (redR (cycM N g)):=⟨_,rfl⟩
   have hRr: ∀r∈R,r.length=N:=by rw[hR];exact zu4 r2
   have hRl:R.length=N+1-g.length:=by rw[hR,ol1,hrank]
   have hRR:p78 (redR R)=R:=by rw[hR,jr2 r1 r2]
   have hRsp: ∀w,Span (R.map wf) w↔Span ((cycM N g).map wf) w:=fun w=>by rw[hR,←r3 w,z42]
   rw[lo1,←hR]at e3
   obtain⟨Y,hY,hYl⟩:=m61 (raw:=ms) (frm:=0) (q:=q) (n:=N+1-g.length) (by omega)
   have e4:=fun b nl=>vv4 (b:=b) (nl:=nl) (raw:=ms) hl2 (frm:=0) (q:=q) (by omega) (by omega) (by omega) (N:=N+1-g.length) (by omega)
   rw[hY]at e4
   have hC:=tc0 (q:=q) (k:=N) (N:=R) n0 n64 (by omega) hRr (sy6 (by omega) hRr n0 n64)
   have hYR:Y.length=(redR R).length:=by rw[hYl,←ol1 (redR R),hRR,hRl]
   have e5:=fun nl nr b nl2=>wc5 (nl:=nl) (nr:=nr) (b:=b) (nl2:=nl2) hC n0 n64 (by omega) hRr hYR
   rw[hRR]at e5
   obtain⟨w,hw⟩: ∃w,w=encL N Y R:=⟨_,rfl⟩
   have hwl:w.length=N:=by rw[hw];exact b87 _ _
   have hsp:Span (R.map wf) (wf w):=by rw[hw];exact a19 hRr
   rw[←hw]at e5
   have htsp:Span (R.map wf) (wf (mp9 w)):=(hRsp _).2 (xc8 n0 hG.trm hG.ne (v31 hG.trm hG.ne hrem) hwl ((hRsp _).1 hsp))
   have htl:(mp9 w).length=N:=by unfold mp9;rw[q90,vb8];omega
   have e6:=fun nl nr b nl2=>x79 (nl:=nl) (nr:=nr) (b:=b) (nl2:=nl2) hC n0 n64 (by omega) hRr htl
   rw[ho9 hRr htsp]at e6
   have hv:(vs w).length=N:=by rw[fi2,hwl]
   have hgv:(vs g).length=g.length:=fi2 g
   have g1:(ivs (vs w))[N-1]? =some (.v (.int .i64 (wf w (N-1)).v)):=iva (by omega)
   have ht1:vs (mp9 w)=(wf w (N-1)).v::(vs w).take (N-1):=by
    unfold mp9 vs
    rw[nf9,iw6,hwl]
   rw[ht1,show∀(x:Int) l,ivs (x::l)=Tree.v (.int .i64 x)::ivs l from fun _ _=>rfl]at e6
   have hmv:(R.map vs).length=N+1-g.length:=by rw[q11,hRl]
   have hRN:((N+1-g.length:Nat):Int)=(N:Int)-(g.length:Int)+1:=by omega
   have hg0: ¬(g.length:Int)=0:=by omega
   simp only[hRN]at e4
   generalize hzz:tv7 raw 0 (N:Int) k=Zs at*
   generalize vs Y=Yv at*
   generalize hwv:vs w=Wv at*
   generalize vs g=Gv at*
   generalize hmR:R.map vs=Mv at*
   generalize (wf w (N-1)).v=x at*
   have hN1:((N:Int)-1).toNat=N-1:=by omega
   have hN2:((N:Int)-1-0).toNat=N-1:=by omega
   rw[o10 rfl T5 rfl]
   unfold F5 c5
   simp(disch:=first|omega|fail) only[push_cast,seval,vrl,if_pos,if_neg,cw6 (Int.not_lt.1 h256),s1,p2,e1,e2,e3,hgv,hmv,hRN,nb8 hg0,e4,e5,hv,g1,hN1,hN2,e6]
section
variable {h:H} {l:List AV} {ws:List Value}
theorem a23:Vm.VRL h [] (allZ h) (allZ h) [] []:=by rw[Vm.VRL]
theorem dp0(r:Vm.VRL h [] (allZ h) (allZ h) l ws)(v:Value):Vm.VRL h [] (allZ h) (allZ h) (.x v::l) (v::ws):=by
 rw[Vm.VRL];exact⟨v,ws,rfl,by rw[Vm.VR],r⟩
theorem qj4{sa:Option Addr}{c:Nat}{zs:List Int}(hr:RdI h sa c zs): ∀o,sa.map (·.block)=some o→allZ h o:=fun o ho=>by
 rcases hr with⟨rfl,_⟩|⟨_,o2,off,r2,rfl,h1,_⟩
 ·cases ho
 ·cases ho;exact h44 h1
theorem sk6(r:Vm.VRL h [] (allZ h) (allZ h) l ws){sa:Option Addr}{c:Nat}{zs:List Int}(hr:RdI h sa c zs):Vm.VRL h [] (allZ h) (allZ h) (.fz true (.sl 2 0 1 (ivs zs))::l) (.slice sa zs.length c::ws):=by
 rw[Vm.VRL];exact⟨_,ws,rfl,by rw[Vm.VR];exact pd9 hr (qj4 hr),r⟩
end
theorem nu8(h:H)(s0:Option Addr)(c0:Nat)(z0:List Int)(r0:RdI h s0 c0 z0)(_:ss4 h 1 s0=true)(_:z0.length≤9223372036854775807)(a1:Int)(_: -9223372036854775808≤a1)(_:a1≤9223372036854775807)(a2:Int)(_: -9223372036854775808≤a2)(_:a2≤9223372036854775807)(s3:Option Addr)(c3:Nat)(z3:List Int)(r3:RdI h s3 c3 z3)(_:ss4 h 1 s3=true)(_:z3.length≤9223372036854775807):
 ∃h',call T 5 [.slice s0 z0.length c0, .int .i64 a1, .int .i64 a2, .slice s3 z3.length c3] h=some (.bool true,h'):=
 vlaw lw2 (sk6 (dp0 (dp0 (sk6 a23 r3) _) _) r0) (by apply aa6<;>assumption)
end Go.Proofs.YtppbpgmdmiajcaaGreat
