/-
  The document's Same, SameAll, Elements, the law's heavy, list, lists, num, in the second machine. Condition: lists that fit. Codes: words, messages, syndromes; two codes held together; in the second m ..
-/
import Derived.Test.YtodbgomfeacdhaaK8
import Derived.Test.YtodbgomfeacdhaaK7
import Derived.Test.YtodbgomfeacdhaaK6
import Derived.Deep.SlicePairs
import Derived.WideShapes
import Derived.Deep.Matrix
import Derived.ChangeArms
set_option linter.unusedVariables false
set_option linter.unusedSimpArgs false
set_option linter.unusedSectionVars false
set_option maxRecDepth 100000
namespace Go.Proofs.Ytodbgomfeacdhaa
open Go.Am Go.Vm Go.Alg
section
variable {b b':Bool} {nl nl' nr nr':Nat}
theorem ft0{l k:List Int}(hl:l.length≤9223372036854775807)(hk:k.length=l.length): ∀(d i:Nat),i+d=l.length→ ∀ks,
 vgoL W ⟨hNo,[.tmp 4],0⟩ [0,1,5] c28L0 (.blk 0 []::ks) [(0, .fz b (.sl nl 0 1 (ivs l))),(1, .fz b' (.sl nl' 0 1 (ivs k))),(5, .x (.int .i64 i))] []=
  if l.drop i=k.drop i then vgo W ⟨hNo,[.tmp 4],0⟩ ks (VFr.of []) []else some (.x (.bool false),[],[])
 |0,i,hi,ks=>by
  rw[oh9 (by omega),oh9 (by omega),if_pos rfl,sb5 c28L0.eq_def]
  simp(disch:=first|omega|fail) only[push_cast,seval,vrl,if_pos,if_neg]
 |d+1,i,hi,ks=>by
  have ih:=ft0 hl hk d (i+1) (by omega) ks
  obtain⟨a,ha⟩:=ge6 (l:=l) (i:=i) (by omega)
  obtain⟨c,hc⟩:=ge6 (l:=k) (i:=i) (by omega)
  have h1:=iat ha
  have h2:=iat hc
  rw[ja2 ha,ja2 hc]
  rw[Int.natCast_add,Int.natCast_one]at ih
  by_cases h:a=c
  ·have hiff:(a::l.drop (i+1)=c::k.drop (i+1))=(l.drop (i+1)=k.drop (i+1)):=by rw[h];simp
   simp only[hiff]
   rw[←ih,sb5 c28L0.eq_def]
   simp(disch:=first|omega|fail) only[push_cast,seval,vrl,if_pos,if_neg,h1,h2,h]
  ·rw[if_neg (by intro e;exact h (List.cons.inj e).1),sb5 c28L0.eq_def]
   simp(disch:=first|omega|fail) only[push_cast,seval,vrl,if_pos,if_neg,h1,h2,nb8 h]
theorem nb2{l k:List Int}(hl:l.length≤9223372036854775807):o24 W 28 [.fz b (.sl nl 0 1 (ivs l)), .fz b' (.sl nl' 0 1 (ivs k))] []=some (.x (.bool (decide (l=k))),[],[]):=by
 by_cases hk:k.length=l.length
 ·have e:=fun ks=>ft0 (b:=b) (b':=b') (nl:=nl) (nl':=nl') hl hk l.length 0 (by omega) ks
  simp only[Int.natCast_zero,List.take_zero,List.drop_zero,rp2,lz6,x25,List.map_nil,List.length_nil]at e
  rw[o10 rfl T28 rfl]
  unfold F28 c28
  simp(disch:=first|omega|fail) only[push_cast,seval,vrl,if_pos,if_neg,hk]
  rw[e]
  by_cases h:l=k
  ·rw[if_pos h,decide_eq_true h]
   simp(disch:=first|omega|fail) only[push_cast,seval,vrl,if_pos,if_neg]
  ·rw[if_neg h,decide_eq_false h]
 ·have h: ¬l=k:=fun e=>hk (by rw[e])
  have h8: ¬(l.length:Int)=(k.length:Int):=by omega
  rw[decide_eq_false h,o10 rfl T28 rfl]
  unfold F28 c28
  simp(disch:=first|omega|fail) only[push_cast,seval,vrl,if_pos,if_neg,nb8 h8]
theorem eb4{l k:List Int}{e f:Int}(hl:l.length≤9223372036854775807):o24 W 22 [.fz b (.sl nl 0 1 (ivs l)), .x (.int .i64 e), .fz b' (.sl nl' 0 1 (ivs k)), .x (.int .i64 f)] []=some (.x (.bool (if f=0 then decide (e=0)&&decide (l=k)else decide (e=f)&&decide (l.length=0))),[],[]):=by
 have h1:=fun b b' nl nl'=>nb2 (b:=b) (b':=b') (nl:=nl) (nl':=nl') (k:=k) hl
 by_cases hf:f=0
 ·rw[if_pos hf]
  by_cases h0:e=0
  ·rw[decide_eq_true h0,Bool.true_and,o10 rfl T22 rfl]
   unfold F22 c22
   simp(disch:=first|omega|fail) only[push_cast,seval,vrl,if_pos,if_neg,hf,h0,h1]
  ·rw[decide_eq_false h0,Bool.false_and,o10 rfl T22 rfl]
   unfold F22 c22
   simp(disch:=first|omega|fail) only[push_cast,seval,vrl,if_pos,if_neg,hf,nb8 h0]
 ·rw[if_neg hf]
  by_cases h0:e=f
  ·subst h0
   rw[decide_eq_true rfl,Bool.true_and,o10 rfl T22 rfl]
   unfold F22 c22
   by_cases hz:l.length=0
   ·rw[decide_eq_true hz]
    simp(disch:=first|omega|fail) only[push_cast,seval,vrl,if_pos,if_neg,nb8 hf,hz]
   ·rw[decide_eq_false hz]
    simp(disch:=first|omega|fail) only[push_cast,seval,vrl,if_pos,if_neg,nb8 hf]
  ·rw[decide_eq_false h0,Bool.false_and,o10 rfl T22 rfl]
   unfold F22 c22
   simp(disch:=first|omega|fail) only[push_cast,seval,vrl,if_pos,if_neg,nb8 hf,nb8 h0]
theorem ec0{l:List (List Int)}(hl:l.length≤9223372036854775807): ∀(d i:Nat) (n:Int),i+d=l.length→ ∃m:Int,∀(b:Bool) (nl nr:Nat) ks,
 vgoL W ⟨hNo,[.tmp 2],0⟩ [0,3,4] c17L0 (.blk 0 [3]::ks) [(0, .fz b (.sl nl 0 1 (lvs nr l))),(3, .x (.int .i64 n)),(4, .x (.int .i64 i))] []=vgo W ⟨hNo,[.tmp 2],0⟩ ks (VFr.of [(3, .x (.int .i64 m))]) []
 |0,i,n,hi=>by
  refine⟨n,fun b nl nr ks=> ?_⟩
  rw[sb5 c17L0.eq_def]
  simp(disch:=first|omega|fail) only[push_cast,seval,vrl,if_pos,if_neg]
 |d+1,i,n,hi=>by
  obtain⟨r,hr⟩:=ge6 (l:=l) (i:=i) (by omega)
  have h1:=fun nr=>lat (nl:=nr) hr
  by_cases hn:n≤6000
  ·obtain⟨m,hm⟩:=ec0 hl d (i+1) (IntKind.wrap .i64 (n+r.length)) (by omega)
   refine⟨m,fun b nl nr ks=> ?_⟩
   have ih:=hm b nl nr ks
   rw[Int.natCast_add,Int.natCast_one]at ih
   rw[←ih,sb5 c17L0.eq_def]
   simp(disch:=first|omega|fail) only[push_cast,seval,vrl,if_pos,if_neg,h1,nl3 hn]
  ·refine⟨n,fun b nl nr ks=> ?_⟩
   rw[sb5 c17L0.eq_def]
   simp(disch:=first|omega|fail) only[push_cast,seval,vrl,if_pos,if_neg,h1]
theorem tr6{l:List (List Int)}(hl:l.length≤9223372036854775807): ∃z:Bool,∀b nl nr,o24 W 17 [.fz b (.sl nl 0 1 (lvs nr l))] []=some (.x (.bool z),[],[]):=by
 obtain⟨m,e⟩:=ec0 hl l.length 0 l.length (by omega)
 simp only[Int.natCast_zero]at e
 refine⟨decide (6000<m),fun b nl nr=> ?_⟩
 rw[o10 rfl T17 rfl]
 unfold F17 c17
 simp(disch:=first|omega|fail) only[push_cast,seval,vrl,if_pos,if_neg]
 rw[e]
 simp(disch:=first|omega|fail) only[push_cast,seval,vrl,if_pos,if_neg]
section
variable {q:Int} [IsFld q]
end
end
section
variable {q n q' n' e:Int} {nl nr nl' nr':Nat} {M M':List (List Int)}
end
section
variable {q:Int} [IsFld q] {k nl nr nl2:Nat} {b:Bool} {N:List (List (El q))} {M:List (List Int)} {w:List Int}
def hk8(q:Int)(k:Nat)(w:List Int):Int:=if w.length≠k then 6 else if(w.any fun v=> !fok q v)=true then 2 else 0
theorem pu5{w:List Int}(h:hk8 q k w=0): ∃a:List (El q),w=vs a∧a.length=k:=by
 unfold hk8 at h
 split at h
 ·cases h
 ·rename_i h1
  split at h
  ·cases h
  ·rename_i h2
   obtain⟨a,rfl⟩:=n43 (q:=q) (l:=w) fun z hz=>by
    refine Classical.byContradiction fun h=>h2 (List.any_eq_true.2 ⟨z,hz, ?_⟩)
    rw[Bool.not_eq_true]at h
    rw[h];rfl
   exact⟨a,rfl,by rw[fi2]at h1;exact Classical.byContradiction h1⟩
theorem vf9(a:List (El q)):((vs a).any fun v=> !fok q v)=false:=List.any_eq_false.2 fun z hz=>by
 obtain⟨x,_,rfl⟩:=List.mem_map.1 hz
 rw[x.ok];decide
theorem op3{a:List (El q)}(h:a.length=k):hk8 q k (vs a)=0:=by
 unfold hk8
 rw[fi2,if_neg (by simpa using h),vf9,if_neg (by decide)]
theorem vcwf{e:Nat}(v:Int):o24 W 137 [.x (.int .i64 v), .fz b (.pt e [pF q])] []=some (.x (.bool (!fok q v)),[],[]):=by
 rw[o10 rfl T137 rfl]
 unfold F137 c137
 simp(disch:=first|omega|fail) only[push_cast,seval,vrl,if_pos,if_neg]
theorem gd1(hw:w.length≤9223372036854775807):o24 W 80 [.agg [.x (.int .i64 q), .x (.int .i64 k), .fz true (.sl nl 0 1 (lvs nr M))], .fz b (.sl nl2 0 1 (ivs w))] []=some (.x (.int .i64 (hk8 q k w)),[],[]):=by
 have hf:=fun bl nl b e=>eg0 (nl:=nl) (l:=w) (bl:=bl) (k:=137) (b:=b) (t:= .pt e [pF q]) vcwf rfl hw
 unfold hk8
 rw[o10 rfl T80 rfl]
 unfold F80 c80
 by_cases h1:w.length=k
 ·rw[if_neg (by simpa using h1)]
  cases hany:(w.any fun v=> !fok q v)with
  |true=>
   rw[hany]at hf
   rw[if_pos rfl]
   simp(disch:=first|omega|fail) only[push_cast,seval,vrl,if_pos,if_neg,h1,hf]
  |false=>
   rw[hany]at hf
   rw[if_neg (by decide)]
   simp(disch:=first|omega|fail) only[push_cast,seval,vrl,if_pos,if_neg,h1,hf]
 ·rw[if_pos h1]
  have h2: ¬(w.length:Int)=(k:Int):=by omega
  simp(disch:=first|omega|fail) only[push_cast,seval,vrl,if_pos,if_neg,nb8 h2]
def encL(k:Nat)(m:List (El q))(R:List (List (El q))):List (El q):=prow k m R 0 (List.replicate k 0)
theorem b87(m:List (El q))(R:List (List (El q))):(encL k m R).length=k:=by unfold encL;rw[kv3];simp
theorem h24{n:Int}{i:Nat}{m:List (El q)}{r:List (El q)}(hm:m.length≤1000)(hr:r.length=k)(hk:k≤1000){T:Tree}: ∀(d j:Nat) (x:List (El q)),j+d=k→x.length=k→ ∀ks,
 vgoL W ⟨hNo,[.tmp 6],0⟩ [0,4,7,9,15,16,17,26,27,28] c133L0 (.blk 2 [0,4,7,15,16,17]::ks) [(0, .fz true (pF q)),(4, .own 0 []),(7, .own 1 []),(9, .x (.int .i64 ((wf m i).v))),(15, .fz b (.sl nl2 0 1 (ivs (vs m)))),(16, .x (.int .i64 m.length)),(17, .x (.int .i64 i)),(26, .fz true (.sl nr 0 1 (ivs (vs r)))),(27, .x (.int .i64 k)),(28, .x (.int .i64 j))] [T, .sl 0 3 1 (ivs (vs x))]=
  vgo W ⟨hNo,[.tmp 6],0⟩ ks (VFr.of [(0, .fz true (pF q)),(4, .own 0 []),(7, .own 1 []),(15, .fz b (.sl nl2 0 1 (ivs (vs m)))),(16, .x (.int .i64 m.length)),(17, .x (.int .i64 i))]) [T, .sl 0 3 1 (ivs (vs (mac (wf m i) r d j x)))]
 |0,j,x,hj,hx,ks=>by
  rw[mac,sb5 c133L0.eq_def]
  simp(disch:=first|omega|fail) only[push_cast,seval,vrl,if_pos,if_neg]
 |d+1,j,x,hj,hx,ks=>by
  have ih:=h24 (n:=n) (i:=i) (m:=m) hm hr hk (T:=T) d (j+1) (x.set j (wf x j+wf m i*wf r j)) (by omega) (by rw[List.length_set];exact hx) ks
  have h2:=iva (l:=r) (i:=j) (by omega)
  have h3:=iva (l:=x) (i:=j) (by omega)
  rw[Int.natCast_add,Int.natCast_one,←g52,on0,ym6]at ih
  rw[mac,←ih,sb5 c133L0.eq_def]
  simp(disch:=first|omega|fail) only[push_cast,seval,vrl,if_pos,if_neg,h2,h3]
theorem ib4{n:Int}{m:List (El q)}{R:List (List (El q))}(hm:m.length=R.length)(hmk:m.length≤1000)(hR: ∀r∈R,r.length=k)(hk:k≤1000): ∀(d i:Nat) (x:List (El q)),i+d=m.length→x.length=k→ ∀ks,
 vgoL W ⟨hNo,[.tmp 6],0⟩ [0,4,7,15,16,17] c133L1 (.blk 0 [7]::ks) [(0, .fz true (pF q)),(4, .own 0 []),(7, .own 1 []),(15, .fz b (.sl nl2 0 1 (ivs (vs m)))),(16, .x (.int .i64 m.length)),(17, .x (.int .i64 i))] [.pt 25 [.v (.int .i64 q), .v (.int .i64 n), .fz (.sl nl 0 1 (lvs nr (R.map vs)))], .sl 0 3 1 (ivs (vs x))]=
  vgo W ⟨hNo,[.tmp 6],0⟩ ks (VFr.of [(7, .own 1 [])]) [.pt 25 [.v (.int .i64 q), .v (.int .i64 n), .fz (.sl nl 0 1 (lvs nr (R.map vs)))], .sl 0 3 1 (ivs (vs (prow k m (R.drop i) i x)))]
 |0,i,x,hi,hx,ks=>by
  rw[List.drop_eq_nil_of_le (by omega),prow,sb5 c133L1.eq_def]
  simp(disch:=first|omega|fail) only[push_cast,seval,vrl,if_pos,if_neg]
 |d+1,i,x,hi,hx,ks=>by
  obtain⟨r,hr⟩:=ge6 (l:=R) (i:=i) (by omega)
  have hrl:=hR r (List.mem_of_getElem? hr)
  have ih:=ib4 (n:=n) hm hmk hR hk d (i+1) (mac (wf m i) r k 0 x) (by omega) (by rw[ev4];exact hx) ks
  have e:=fun T ks=>h24 (n:=n) (b:=b) (nr:=nr) (nl2:=nl2) (i:=i) (m:=m) hmk hrl hk (T:=T) k 0 x (by omega) hx ks
  simp only[Int.natCast_zero,List.take_zero,List.drop_zero,rp2,lz6,x25,List.map_nil,List.length_nil]at e
  have h1:=iva (l:=m) (i:=i) (by omega)
  have h2:=mva (nl:=nr) hr
  rw[Int.natCast_add,Int.natCast_one]at ih
  rw[ja2 hr,prow,←ih,sb5 c133L1.eq_def]
  simp(disch:=first|omega|fail) only[push_cast,seval,vrl,if_pos,if_neg,h1,h2,hrl]
  rw[e]
  simp(disch:=first|omega|fail) only[push_cast,seval,vrl,if_pos,if_neg]
theorem gm8{m:List (El q)}{R:List (List (El q))}(hm:m.length=R.length)(hmk:m.length≤1000)(hR: ∀r∈R,r.length=k)(hk:k≤1000):
 o24 W 133 [.fz true (pF q), .agg [.x (.int .i64 q), .x (.int .i64 k), .fz true (.sl nl 0 1 (lvs nr (R.map vs)))], .fz b (.sl nl2 0 1 (ivs (vs m)))] []=some (.own 0 [],[.sl 0 3 1 (ivs (vs (encL k m R)))],[]):=by
 have e:=fun ks=>ib4 (q:=q) (b:=b) (nl:=nl) (nr:=nr) (nl2:=nl2) (n:=k) hm hmk hR hk m.length 0 (List.replicate k 0) (by omega) (by simp) ks
 have hz:List.replicate k (0:Int)=vs (List.replicate k (0:El q)):=by rw[←qj2];rfl
 simp only[Int.natCast_zero,List.take_zero,List.drop_zero,rp2,lz6,x25,List.map_nil,List.length_nil]at e
 unfold encL
 rw[o10 rfl T133 rfl]
 unfold F133 c133
 simp(disch:=first|omega|fail) only[push_cast,seval,vrl,if_pos,if_neg,hz]
 rw[e]
 simp(disch:=first|omega|fail) only[push_cast,seval,vrl,if_pos,if_neg]
end
end Go.Proofs.Ytodbgomfeacdhaa
namespace Go.Alg
section
variable {K:Type} [FK K] {n:Nat}
end
end Go.Alg
namespace Go.Proofs.Ytodbgomfeacdhaa
open Go.Am Go.Vm Go.Alg
section
variable {q n q' n':Int} {nl nr nl' nr':Nat} {M M':List (List Int)}
end
section
variable {q:Int} [IsFld q] {k nl nr nl' nr':Nat} {M B N:List (List (El q))}
end
end Go.Proofs.Ytodbgomfeacdhaa
namespace Go.Proofs.Ytodbgomfeacdhaa
open Go.Am Go.Vm
section
variable {zs:List Int} {I J nl:Nat}
@[push_cast] theorem gi2:vM 94=[.own 3 1, .bor 0, .bor 0]:=rfl
@[push_cast] theorem xx2:vH 94=hNo:=rfl
end
end Go.Proofs.Ytodbgomfeacdhaa
namespace Go.Alg
section
variable {K:Type} [FK K] {n a:Nat}
end
end Go.Alg
namespace Go.Proofs.Ytodbgomfeacdhaa
open Go.Am Go.Vm Go.Alg
section
variable {q:Int} [IsFld q] {n0:Int} {nl nr:Nat} {b:Bool} {t:Tree} {k:FuncId} {N:List (List (El q))} {g:List (El q)→List (El q)} {fg:List (El q)→Nat} {n':Nat}
end
section
variable {q n:Int} {nl nr:Nat} {M:List (List Int)} {a:Int}
end
section
variable {q:Int} [IsFld q] {k nl nr:Nat} {N:List (List (El q))} {a:Nat}
end
def wtW:List Int→Nat
 | []=>0
 |x::a=>(if x=0 then 0 else 1)+wtW a
def apW:List Int→List Int→Nat
 |x::a,y::c=>(if x=y then 0 else 1)+apW a c
 |_,_=>0
theorem p55: ∀a:List Int,wtW a≤a.length
 | []=>Nat.le_refl _
 |x::a=>by have:=p55 a;rw[wtW,List.length_cons];split<;>omega
section
variable {a c:List Int} {b b':Bool} {nl nl':Nat}
theorem mu5(ha:a.length≤9223372036854775807): ∀(d i n:Nat),i+d=a.length→n≤i→ ∀ks,
 vgoL W ⟨hNo,[.tmp 2],0⟩ [3,6,7,8] c77L0 (.blk 0 [3]::ks) [(3, .x (.int .i64 n)),(6, .fz b (.sl nl 0 1 (ivs a))),(7, .x (.int .i64 a.length)),(8, .x (.int .i64 i))] []=vgo W ⟨hNo,[.tmp 2],0⟩ ks (VFr.of [(3, .x (.int .i64 (n+wtW (a.drop i):Nat)))]) []
 |0,i,n,hi,hn,ks=>by
  rw[oh9 (by omega),sb5 c77L0.eq_def]
  show _=vgo W ⟨hNo,[.tmp 2],0⟩ ks (VFr.of [(3, .x (.int .i64 (n+0:Nat)))]) []
  rw[Nat.add_zero]
  simp(disch:=first|omega|fail) only[push_cast,seval,vrl,if_pos,if_neg]
 |d+1,i,n,hi,hn,ks=>by
  obtain⟨x,hx⟩:=ge6 (l:=a) (i:=i) (by omega)
  have h1:=iat hx
  have ih:=mu5 ha d (i+1) (n+if x=0 then 0 else 1) (by omega) (by split<;>omega) ks
  rw[ja2 hx,wtW]
  rw[Nat.add_assoc]at ih
  rw[←ih,sb5 c77L0.eq_def]
  by_cases h:x=0
  ·rw[if_pos h,Nat.add_zero,Int.natCast_add,Int.natCast_one]
   simp(disch:=first|omega|fail) only[push_cast,seval,vrl,if_pos,if_neg,h1,h]
  ·rw[if_neg h,Int.natCast_add,Int.natCast_one,Int.natCast_add,Int.natCast_one]
   simp(disch:=first|omega|fail) only[push_cast,seval,vrl,if_pos,if_neg,h1,nb8 h]
theorem fd2(ha:a.length≤9223372036854775807):o24 W 77 [.fz b (.sl nl 0 1 (ivs a))] []=some (.x (.int .i64 (wtW a)),[],[]):=by
 have e:=fun ks=>mu5 (b:=b) (nl:=nl) ha a.length 0 0 (by omega) (by omega) ks
 rw[List.drop_zero,Nat.zero_add]at e
 simp only[Int.natCast_zero]at e
 rw[o10 rfl T77 rfl]
 unfold F77 c77
 simp(disch:=first|omega|fail) only[push_cast,seval,vrl,if_pos,if_neg]
 rw[e]
 simp(disch:=first|omega|fail) only[push_cast,seval,vrl,if_pos,if_neg]
theorem gg3(ha:a.length≤9223372036854775807): ∀(d i n:Nat),i+d=a.length→n≤i→ ∀ks,
 vgoL W ⟨hNo,[.tmp 2],0⟩ [0,3,4] c74L0 (.blk 0 [3]::ks) [(0, .fz b (.sl nl 0 1 (ivs a))),(3, .x (.int .i64 n)),(4, .x (.int .i64 i))] []=vgo W ⟨hNo,[.tmp 2],0⟩ ks (VFr.of [(3, .x (.int .i64 (n+wtW (a.drop i):Nat)))]) []
 |0,i,n,hi,hn,ks=>by
  rw[oh9 (by omega),sb5 c74L0.eq_def]
  show _=vgo W ⟨hNo,[.tmp 2],0⟩ ks (VFr.of [(3, .x (.int .i64 (n+0:Nat)))]) []
  rw[Nat.add_zero]
  simp(disch:=first|omega|fail) only[push_cast,seval,vrl,if_pos,if_neg]
 |d+1,i,n,hi,hn,ks=>by
  obtain⟨x,hx⟩:=ge6 (l:=a) (i:=i) (by omega)
  have h1:=iat hx
  have ih:=gg3 ha d (i+1) (n+if x=0 then 0 else 1) (by omega) (by split<;>omega) ks
  rw[ja2 hx,wtW]
  rw[Nat.add_assoc]at ih
  rw[←ih,sb5 c74L0.eq_def]
  by_cases h:x=0
  ·rw[if_pos h,Nat.add_zero,Int.natCast_add,Int.natCast_one]
   simp(disch:=first|omega|fail) only[push_cast,seval,vrl,if_pos,if_neg,h1,h]
  ·rw[if_neg h,Int.natCast_add,Int.natCast_one,Int.natCast_add,Int.natCast_one]
   simp(disch:=first|omega|fail) only[push_cast,seval,vrl,if_pos,if_neg,h1,nb8 h]
theorem ta9(ha:a.length≤9223372036854775807):o24 W 74 [.fz b (.sl nl 0 1 (ivs a))] []=some (.x (.int .i64 (wtW a)),[],[]):=by
 have e:=fun ks=>gg3 (b:=b) (nl:=nl) ha a.length 0 0 (by omega) (by omega) ks
 rw[List.drop_zero,Nat.zero_add]at e
 simp only[Int.natCast_zero]at e
 rw[o10 rfl T74 rfl]
 unfold F74 c74
 simp(disch:=first|omega|fail) only[push_cast,seval,vrl,if_pos,if_neg]
 rw[e]
 simp(disch:=first|omega|fail) only[push_cast,seval,vrl,if_pos,if_neg]
theorem vu0(hc:c.length=a.length)(ha:a.length≤9223372036854775807): ∀(d i n:Nat),i+d=a.length→n≤i→ ∀ks,
 vgoL W ⟨hNo,[.tmp 4],0⟩ [0,1,5,13,14] c67L0 (.blk 0 [5]::ks) [(0, .fz b (.sl nl 0 1 (ivs a))),(1, .fz b' (.sl nl' 0 1 (ivs c))),(5, .x (.int .i64 n)),(13, .x (.int .i64 a.length)),(14, .x (.int .i64 i))] []=
  vgo W ⟨hNo,[.tmp 4],0⟩ ks (VFr.of [(5, .x (.int .i64 (n+apW (a.drop i) (c.drop i):Nat)))]) []
 |0,i,n,hi,hn,ks=>by
  rw[oh9 (by omega),sb5 c67L0.eq_def]
  show _=vgo W ⟨hNo,[.tmp 4],0⟩ ks (VFr.of [(5, .x (.int .i64 (n+0:Nat)))]) []
  rw[Nat.add_zero]
  simp(disch:=first|omega|fail) only[push_cast,seval,vrl,if_pos,if_neg]
 |d+1,i,n,hi,hn,ks=>by
  obtain⟨x,hx⟩:=ge6 (l:=a) (i:=i) (by omega)
  obtain⟨y,hy⟩:=ge6 (l:=c) (i:=i) (by omega)
  have h1:=iat hx
  have h2:=iat hy
  have ih:=vu0 hc ha d (i+1) (n+if x=y then 0 else 1) (by omega) (by split<;>omega) ks
  rw[ja2 hx,ja2 hy,apW]
  rw[Nat.add_assoc]at ih
  rw[←ih,sb5 c67L0.eq_def]
  by_cases h:x=y
  ·rw[if_pos h,Nat.add_zero,Int.natCast_add,Int.natCast_one]
   simp(disch:=first|omega|fail) only[push_cast,seval,vrl,if_pos,if_neg,h1,h2,h]
  ·rw[if_neg h,Int.natCast_add,Int.natCast_one,Int.natCast_add,Int.natCast_one]
   simp(disch:=first|omega|fail) only[push_cast,seval,vrl,if_pos,if_neg,h1,h2,nb8 h]
def apE(a c:List Int):Int:=if a.length=c.length then(apW a c:Int)else-1
theorem w74(ha:a.length≤9223372036854775807)(hcl:c.length≤9223372036854775807):o24 W 67 [.fz b (.sl nl 0 1 (ivs a)), .fz b' (.sl nl' 0 1 (ivs c))] []=some (.x (.int .i64 (apE a c)),[],[]):=by
 unfold apE
 by_cases h:a.length=c.length
 ·rw[if_pos h]
  have e:=fun ks=>vu0 (b:=b) (nl:=nl) (b':=b') (nl':=nl') h.symm ha a.length 0 0 (by omega) (by omega) ks
  rw[List.drop_zero,List.drop_zero,Nat.zero_add]at e
  simp only[Int.natCast_zero]at e
  rw[o10 rfl T67 rfl]
  unfold F67 c67
  simp(disch:=first|omega|fail) only[push_cast,seval,vrl,if_pos,if_neg,h]
  rw[h]at e
  rw[e]
  simp(disch:=first|omega|fail) only[push_cast,seval,vrl,if_pos,if_neg]
 ·rw[if_neg h]
  have h': ¬(a.length:Int)=(c.length:Int):=by omega
  rw[o10 rfl T67 rfl]
  unfold F67 c67
  simp(disch:=first|omega|fail) only[push_cast,seval,vrl,if_pos,if_neg,nb8 h']
theorem mn8(hc:c.length=a.length)(ha:a.length≤9223372036854775807): ∀(d i n:Nat),i+d=a.length→n≤i→ ∀ks,
 vgoL W ⟨hNo,[.tmp 4],0⟩ [0,1,5,6] c81L0 (.blk 0 [5]::ks) [(0, .fz b (.sl nl 0 1 (ivs a))),(1, .fz b' (.sl nl' 0 1 (ivs c))),(5, .x (.int .i64 n)),(6, .x (.int .i64 i))] []=
  vgo W ⟨hNo,[.tmp 4],0⟩ ks (VFr.of [(5, .x (.int .i64 (n+apW (a.drop i) (c.drop i):Nat)))]) []
 |0,i,n,hi,hn,ks=>by
  rw[oh9 (by omega),sb5 c81L0.eq_def]
  show _=vgo W ⟨hNo,[.tmp 4],0⟩ ks (VFr.of [(5, .x (.int .i64 (n+0:Nat)))]) []
  rw[Nat.add_zero]
  simp(disch:=first|omega|fail) only[push_cast,seval,vrl,if_pos,if_neg]
 |d+1,i,n,hi,hn,ks=>by
  obtain⟨x,hx⟩:=ge6 (l:=a) (i:=i) (by omega)
  obtain⟨y,hy⟩:=ge6 (l:=c) (i:=i) (by omega)
  have h1:=iat hx
  have h2:=iat hy
  have ih:=mn8 hc ha d (i+1) (n+if x=y then 0 else 1) (by omega) (by split<;>omega) ks
  rw[ja2 hx,ja2 hy,apW]
  rw[Nat.add_assoc]at ih
  rw[←ih,sb5 c81L0.eq_def]
  by_cases h:x=y
  ·rw[if_pos h,Nat.add_zero,Int.natCast_add,Int.natCast_one]
   simp(disch:=first|omega|fail) only[push_cast,seval,vrl,if_pos,if_neg,h1,h2,h]
  ·rw[if_neg h,Int.natCast_add,Int.natCast_one,Int.natCast_add,Int.natCast_one]
   simp(disch:=first|omega|fail) only[push_cast,seval,vrl,if_pos,if_neg,h1,h2,nb8 h]
theorem vg3(ha:a.length≤9223372036854775807)(hcl:c.length≤9223372036854775807):o24 W 81 [.fz b (.sl nl 0 1 (ivs a)), .fz b' (.sl nl' 0 1 (ivs c))] []=some (.x (.int .i64 (apE a c)),[],[]):=by
 unfold apE
 by_cases h:a.length=c.length
 ·rw[if_pos h]
  have e:=fun ks=>mn8 (b:=b) (nl:=nl) (b':=b') (nl':=nl') h.symm ha a.length 0 0 (by omega) (by omega) ks
  rw[List.drop_zero,List.drop_zero,Nat.zero_add]at e
  simp only[Int.natCast_zero]at e
  rw[o10 rfl T81 rfl]
  unfold F81 c81
  simp(disch:=first|omega|fail) only[push_cast,seval,vrl,if_pos,if_neg,h]
  rw[e]
  simp(disch:=first|omega|fail) only[push_cast,seval,vrl,if_pos,if_neg]
 ·rw[if_neg h]
  have h': ¬(a.length:Int)=(c.length:Int):=by omega
  rw[o10 rfl T81 rfl]
  unfold F81 c81
  simp(disch:=first|omega|fail) only[push_cast,seval,vrl,if_pos,if_neg,nb8 h']
end
section
variable {q:Int} [IsFld q] {k nl nr nl2:Nat} {b:Bool}
theorem b00{K:Type} [FK K](w:List K)(d j:Nat)(x:List K)(h:j+d≤x.length):mac 0 w d j x=x:=ou9 (ev4 _ _ _ _ _) (by
 funext i
 rw[ga7 _ _ _ _ _ _ h,zero_mul,FK.add_zero]
 split<;>rfl)
theorem cl1{p m g:Int}{t:Tree}(u:RFo q p m g t){i:Nat}{ms r:List (El q)}{R:List (List (El q))}(hi:i<ms.length)(hne:wf ms i≠0)(hR:R[i]? =some r)(hm:ms.length≤1000)(hr:r.length=k)(hk:k≤1000): ∀(d j:Nat) (x:List (El q)),j+d=k→x.length=k→ ∀ks,
 vgoL W ⟨hNo,[.tmp 6],0⟩ [2,3,4,7,8,9] c130L0 (.blk 2 [2,3,4,7,8]::ks) [(2, .fz b (.sl nl2 0 1 (ivs (vs ms)))),(3, .own 0 []),(4, .own 1 []),(7, .own 2 []),(8, .x (.int .i64 i)),(9, .x (.int .i64 j))] [.pt 102 [.v (.int .i64 q), .v (.int .i64 p), .v (.int .i64 m), .v (.int .i64 g), .fz t], .pt 25 [.v (.int .i64 q), .v (.int .i64 k), .fz (.sl nl 0 1 (lvs nr (R.map vs)))], .sl 0 3 1 (ivs (vs x))]=
  vgo W ⟨hNo,[.tmp 6],0⟩ ks (VFr.of [(2, .fz b (.sl nl2 0 1 (ivs (vs ms)))),(3, .own 0 []),(4, .own 1 []),(7, .own 2 []),(8, .x (.int .i64 i))]) [.pt 102 [.v (.int .i64 q), .v (.int .i64 p), .v (.int .i64 m), .v (.int .i64 g), .fz t], .pt 25 [.v (.int .i64 q), .v (.int .i64 k), .fz (.sl nl 0 1 (lvs nr (R.map vs)))], .sl 0 3 1 (ivs (vs (mac (wf ms i) r d j x)))]
 |0,j,x,hj,hx,ks=>by
  rw[mac,sb5 c130L0.eq_def]
  simp(disch:=first|omega|fail) only[push_cast,seval,vrl,if_pos,if_neg]
 |d+1,j,x,hj,hx,ks=>by
  have ih:=cl1 u (i:=i) (ms:=ms) hi hne hR hm hr hk d (j+1) (x.set j (wf x j+wf ms i*wf r j)) (by omega) (by rw[List.length_set];exact hx) ks
  have h1:=iva (l:=ms) (i:=i) (by omega)
  have h2:=iva (l:=r) (i:=j) (by omega)
  have h3:=iva (l:=x) (i:=j) (by omega)
  have h4:=mva (nl:=nr) hR
  have hn0: ¬(wf ms i).v=0:=fun h=>hne (r57.1 h)
  have hRl:i<R.length:=(List.getElem?_eq_some_iff.1 hR).1
  rw[Int.natCast_add,Int.natCast_one,←g52,on0,ym6]at ih
  have ht:=u.n
  have ho:=u.o
  have vmul:=fun x y:Int=>n06 (q:=q) (x:=x) (y:=y)
  rw[u.e]at vmul
  have vadd:=fun x y:Int=>ze0 (q:=q) (x:=x) (y:=y)
  rw[u.e]at vadd
  rw[mac,←ih,sb5 c130L0.eq_def]
  simp(disch:=first|omega|fail) only[push_cast,seval,vrl,if_pos,if_neg,h1,h2,h3,h4,nb8 hn0,vmul,vadd,ht,ho]
theorem dy0{p m g:Int}{t:Tree}(u:RFo q p m g t){i:Nat}{ms r:List (El q)}{R:List (List (El q))}(hi:i<ms.length)(hR:R[i]? =some r)(hm:ms.length≤1000)(hr:r.length=k)(h0:0<k)(hk:k≤1000)(x:List (El q))(hx:x.length=k)(ks):
 vgoL W ⟨hNo,[.tmp 6],0⟩ [2,3,4,7,8,9] c130L0 (.blk 2 [2,3,4,7,8]::ks) [(2, .fz b (.sl nl2 0 1 (ivs (vs ms)))),(3, .own 0 []),(4, .own 1 []),(7, .own 2 []),(8, .x (.int .i64 i)),(9, .x (.int .i64 0))] [.pt 102 [.v (.int .i64 q), .v (.int .i64 p), .v (.int .i64 m), .v (.int .i64 g), .fz t], .pt 25 [.v (.int .i64 q), .v (.int .i64 k), .fz (.sl nl 0 1 (lvs nr (R.map vs)))], .sl 0 3 1 (ivs (vs x))]=
  vgo W ⟨hNo,[.tmp 6],0⟩ ks (VFr.of [(2, .fz b (.sl nl2 0 1 (ivs (vs ms)))),(3, .own 0 []),(4, .own 1 []),(7, .own 2 []),(8, .x (.int .i64 i))]) [.pt 102 [.v (.int .i64 q), .v (.int .i64 p), .v (.int .i64 m), .v (.int .i64 g), .fz t], .pt 25 [.v (.int .i64 q), .v (.int .i64 k), .fz (.sl nl 0 1 (lvs nr (R.map vs)))], .sl 0 3 1 (ivs (vs (mac (wf ms i) r k 0 x)))]:=by
 by_cases h:wf ms i=0
 ·have h1:=iva (l:=ms) (i:=i) (by omega)
  have hn0:(wf ms i).v=0:=r57.2 h
  rw[h,b00 _ _ _ _ (by omega),sb5 c130L0.eq_def]
  simp(disch:=first|omega|fail) only[push_cast,seval,vrl,if_pos,if_neg,h1,hn0]
 ·have:=cl1 (b:=b) (nl2:=nl2) (nl:=nl) (nr:=nr) u hi h hR hm hr hk k 0 x (by omega) hx ks
  simpa only[Int.natCast_zero]using this
theorem pb3{p m g:Int}{t:Tree}(u:RFo q p m g t){ms:List (El q)}{R:List (List (El q))}(hm:ms.length=R.length)(hmk:ms.length≤1000)(hR: ∀r∈R,r.length=k)(h0:0<k)(hk:k≤1000): ∀(d i:Nat) (x:List (El q)),i+d=ms.length→x.length=k→ ∀ks,
 vgoL W ⟨hNo,[.tmp 6],0⟩ [2,3,4,7,8] c130L1 (.blk 0 [7]::ks) [(2, .fz b (.sl nl2 0 1 (ivs (vs ms)))),(3, .own 0 []),(4, .own 1 []),(7, .own 2 []),(8, .x (.int .i64 i))] [.pt 102 [.v (.int .i64 q), .v (.int .i64 p), .v (.int .i64 m), .v (.int .i64 g), .fz t], .pt 25 [.v (.int .i64 q), .v (.int .i64 k), .fz (.sl nl 0 1 (lvs nr (R.map vs)))], .sl 0 3 1 (ivs (vs x))]=
  vgo W ⟨hNo,[.tmp 6],0⟩ ks (VFr.of [(7, .own 2 [])]) [.pt 102 [.v (.int .i64 q), .v (.int .i64 p), .v (.int .i64 m), .v (.int .i64 g), .fz t], .pt 25 [.v (.int .i64 q), .v (.int .i64 k), .fz (.sl nl 0 1 (lvs nr (R.map vs)))], .sl 0 3 1 (ivs (vs (prow k ms (R.drop i) i x)))]
 |0,i,x,hi,hx,ks=>by
  rw[List.drop_eq_nil_of_le (by omega),prow,sb5 c130L1.eq_def]
  simp(disch:=first|omega|fail) only[push_cast,seval,vrl,if_pos,if_neg]
 |d+1,i,x,hi,hx,ks=>by
  obtain⟨r,hr⟩:=ge6 (l:=R) (i:=i) (by omega)
  have hrl:=hR r (List.mem_of_getElem? hr)
  have ih:=pb3 u hm hmk hR h0 hk d (i+1) (mac (wf ms i) r k 0 x) (by omega) (by rw[ev4];exact hx) ks
  have e:=fun ks=>dy0 (b:=b) (nr:=nr) (nl:=nl) (nl2:=nl2) u (i:=i) (ms:=ms) (by omega) hr hmk hrl h0 hk x hx ks
  rw[Int.natCast_add,Int.natCast_one]at ih
  rw[ja2 hr,prow,←ih,sb5 c130L1.eq_def]
  simp(disch:=first|omega|fail) only[push_cast,seval,vrl,if_pos,if_neg]
  rw[e]
  simp(disch:=first|omega|fail) only[push_cast,seval,vrl,if_pos,if_neg]
theorem jb7{ms:List (El q)}{R:List (List (El q))}(hm:ms.length=R.length)(hmk:ms.length≤1000)(hR: ∀r∈R,r.length=k)(h0:0<k)(hk:k≤1000):
 o24 W 130 [.agg (rFs q), .agg [.x (.int .i64 q), .x (.int .i64 k), .fz true (.sl nl 0 1 (lvs nr (R.map vs)))], .fz b (.sl nl2 0 1 (ivs (vs ms)))] []=some (.own 0 [],[.sl 0 3 1 (ivs (vs (encL k ms R)))],[]):=by
 obtain⟨p,m,g,t,u⟩:=k75 q
 have ht:=u.n
 have e:=fun ks=>pb3 (q:=q) (b:=b) (nl:=nl) (nr:=nr) (nl2:=nl2) u hm hmk hR h0 hk ms.length 0 (List.replicate k 0) (by omega) (by simp) ks
 have hz:List.replicate k (0:Int)=vs (List.replicate k (0:El q)):=by rw[←qj2];rfl
 simp only[Int.natCast_zero,List.take_zero,List.drop_zero,rp2,lz6,x25,List.map_nil,List.length_nil]at e
 unfold encL
 rw[o10 rfl T130 rfl,u.e]
 unfold F130 c130
 simp(disch:=first|omega|fail) only[push_cast,seval,vrl,if_pos,if_neg,hz,ht]
 rw[e]
 simp(disch:=first|omega|fail) only[push_cast,seval,vrl,if_pos,if_neg]
theorem xa4{p m g:Int}{t:Tree}(u:RFo q p m g t){l:List Int}(hl:l.length≤9223372036854775807): ∀(d i:Nat),i+d=l.length→ ∀ks,
 vgoL W ⟨hNo,[.tmp 4],0⟩ [1,5,7] c25L0 (.blk 0 []::ks) [(1, .fz b (.sl nl 0 1 (ivs l))),(5, .own 0 []),(7, .x (.int .i64 i))] [.pt 102 [.v (.int .i64 q), .v (.int .i64 p), .v (.int .i64 m), .v (.int .i64 g), .fz t]]=
  if((l.drop i).any fun v=> !fok q v)=true then some (.x (.int .i64 2),[],[])else vgo W ⟨hNo,[.tmp 4],0⟩ ks (VFr.of []) [.pt 102 [.v (.int .i64 q), .v (.int .i64 p), .v (.int .i64 m), .v (.int .i64 g), .fz t]]
 |0,i,hi,ks=>by
  rw[oh9 (by omega),if_neg (by simp),sb5 c25L0.eq_def]
  simp(disch:=first|omega|fail) only[push_cast,seval,vrl,if_pos,if_neg]
 |d+1,i,hi,ks=>by
  have ih:=xa4 u hl d (i+1) (by omega) ks
  obtain⟨a,ha⟩:=ge6 (l:=l) (i:=i) (by omega)
  have h1:=iat ha
  rw[Int.natCast_add,Int.natCast_one]at ih
  have ht:=u.n
  have ho:=u.o
  have vhas:=fun x:Int=>xb9 (q:=q) (x:=x)
  rw[u.e]at vhas
  rw[ja2 ha,List.any_cons]
  cases h:fok q a with
  |true=>
   simp only[h,Bool.not_true,Bool.false_or]
   rw[←ih,sb5 c25L0.eq_def]
   simp(disch:=first|omega|fail) only[push_cast,seval,vrl,if_pos,if_neg,h1,vhas,ht,ho,h]
  |false=>
   simp only[h,Bool.not_false,Bool.true_or,if_true]
   rw[sb5 c25L0.eq_def]
   simp(disch:=first|omega|fail) only[push_cast,seval,vrl,if_pos,if_neg,h1,vhas,ht,ho,h]
theorem mo8{M:List (List Int)}{w:List Int}(hl:w.length≤9223372036854775807):o24 W 25 [.agg [.x (.int .i64 q), .x (.int .i64 k), .fz true (.sl nl 0 1 (lvs nr M))], .fz b (.sl nl2 0 1 (ivs w))] []=some (.x (.int .i64 (hk8 q k w)),[],[]):=by
 obtain⟨p,m,g,t,u⟩:=k75 q
 have ht:=u.n
 have hfe:=u.e
 have e:=fun ks=>xa4 (b:=b) (nl:=nl2) u hl w.length 0 (by omega) ks
 simp only[Int.natCast_zero,List.take_zero,List.drop_zero,rp2,lz6,x25,List.map_nil,List.length_nil]at e
 unfold hk8
 rw[o10 rfl T25 rfl]
 unfold F25 c25
 by_cases h:w.length=k
 ·rw[if_neg (fun h2=>h2 h)]
  simp(disch:=first|omega|fail) only[push_cast,seval,vrl,if_pos,if_neg,hfe,ht,h]
  rw[e]
  cases hz:(w.any fun v=> !fok q v)with
  |true=>rw[if_pos rfl,if_pos rfl]
  |false=>
   rw[if_neg (by decide),if_neg (by decide)]
   simp(disch:=first|omega|fail) only[push_cast,seval,vrl,if_pos,if_neg]
 ·rw[if_pos h]
  simp(disch:=first|omega|fail) only[push_cast,seval,vrl,if_pos,if_neg,hfe,ht,nb8 (show¬(w.length:Int)=(k:Int) by omega)]
end
section
variable {q:Int} [IsFld q] {k nl nr:Nat} {b:Bool} {N:List (List (El q))} {a:Nat}
end
section
variable {q:Int} [IsFld q] {k nl nr:Nat} {b:Bool} {N:List (List (El q))} {a:Nat}
end
section
variable {b:Bool} {nl:Nat} {raw:List Int}
end
section
variable {k:FuncId} {p:Int→Bool} {l:List Int} {nl:Nat}
end
section
variable {q:Int} [IsFld q] {k nl nr nl2:Nat} {b:Bool} {N:List (List (El q))}
end
def fewQ(q:Int):Nat→Int→Bool
 |0,_=>true
 |d+1,n=>if 4096<n*q then false else fewQ q d (n*q)
theorem ev9{q:Int}(h1:0≤q)(h2:q≤64){k:Nat}(hk:k≤1000): ∀(d i:Nat) (n:Int),i+d=k→0≤n→n≤4096→ ∀ks,
 vgoL W ⟨hNo,[.tmp 4],0⟩ [0,1,5,6] c64L0 (.blk 0 []::ks) [(0, .x (.int .i64 q)),(1, .x (.int .i64 k)),(5, .x (.int .i64 n)),(6, .x (.int .i64 i))] []=if fewQ q d n=true then vgo W ⟨hNo,[.tmp 4],0⟩ ks (VFr.of []) []else some (.x (.bool false),[],[])
 |0,i,n,hi,hn,hn2,ks=>by
  rw[fewQ,if_pos rfl,sb5 c64L0.eq_def]
  simp(disch:=first|omega|fail) only[push_cast,seval,vrl,if_pos,if_neg]
 |d+1,i,n,hi,hn,hn2,ks=>by
  have hb0:0≤n*q:=Int.mul_nonneg hn h1
  have hb1:n*q≤4096*64:=Int.mul_le_mul hn2 h2 h1 (by decide)
  have hb2:n*q≤262144:=by omega
  rw[fewQ]
  by_cases h:4096<n*q
  ·rw[if_pos h,if_neg (by decide),sb5 c64L0.eq_def]
   simp(disch:=first|omega|fail) only[push_cast,seval,vrl,if_pos,if_neg,dec_lt h]
  ·have ih:=ev9 h1 h2 hk d (i+1) (n*q) (by omega) hb0 (by omega) ks
   rw[Int.natCast_add,Int.natCast_one]at ih
   rw[if_neg h,←ih,sb5 c64L0.eq_def]
   simp(disch:=first|omega|fail) only[push_cast,seval,vrl,if_pos,if_neg,cw6 (Int.not_lt.1 h)]
theorem os1{q:Int}(h1:0≤q)(h2:q≤64){k:Nat}(hk:k≤1000):o24 W 64 [.x (.int .i64 q), .x (.int .i64 k)] []=some (.x (.bool (fewQ q k 1)),[],[]):=by
 have e:=fun ks=>ev9 h1 h2 hk k 0 1 (by omega) (by decide) (by decide) ks
 simp only[Int.natCast_zero,List.take_zero,List.drop_zero,rp2,lz6,x25,List.map_nil,List.length_nil]at e
 rw[o10 rfl T64 rfl]
 unfold F64 c64
 simp(disch:=first|omega|fail) only[push_cast,seval,vrl,if_pos,if_neg]
 rw[e]
 cases hz:fewQ q k 1 with
 |true=>
  rw[if_pos rfl]
  simp(disch:=first|omega|fail) only[push_cast,seval,vrl,if_pos,if_neg]
 |false=>rw[if_neg (by decide)]
section
variable {q n:Int} {nl nr nl2:Nat} {M:List (List Int)} {b:Bool} {w:List Int}
end
section
variable {q:Int} [IsFld q] {k nl nr nl2:Nat} {b:Bool} {N:List (List (El q))} {w:List Int}
end
end Go.Proofs.Ytodbgomfeacdhaa
namespace Go.Alg
section
variable {K:Type} [FK K]
end
end Go.Alg
namespace Go.Alg
section
variable {K:Type} [FK K]
def ev:List K→K→K
 | [],_=>0
 |a::l,x=>a+x*ev l x
def sd(x0:K):List K→List K×K
 | []=>([],0)
 | [a]=>([],a)
 |a::b::l=>((sd x0 (b::l)).2::(sd x0 (b::l)).1,a+x0*(sd x0 (b::l)).2)
theorem w89(x0:K): ∀l:List K,(sd x0 l).1.length=l.length-1
 | []=>rfl
 | [a]=>rfl
 |a::b::l=>by
  rw[sd]
  show(sd x0 (b::l)).1.length+1=_
  rw[w89 x0 (b::l)];simp
theorem n68(x0 y:K): ∀l:List K,ev l y=(y-x0)*ev (sd x0 l).1 y+(sd x0 l).2
 | []=>by rw[sd,ev,mul_zero,FK.add_zero]
 | [a]=>by
   show a+y*0=(y-x0)*0+a
   rw[mul_zero,mul_zero,FK.add_zero,zero_add]
 |a::b::l=>by
  rw[ev,n68 x0 y (b::l),sd]
  show a+y*((y-x0)*ev (sd x0 (b::l)).1 y+(sd x0 (b::l)).2)=(y-x0)*((sd x0 (b::l)).2+y*ev (sd x0 (b::l)).1 y)+(a+x0*(sd x0 (b::l)).2)
  generalize (sd x0 (b::l)).2=r
  generalize ev (sd x0 (b::l)).1 y=e
  rw[FK.mul_add,FK.mul_add,sub_mul y x0 r]
  have h1:y*((y-x0)*e)=(y-x0)*(y*e):=by ac_rfl
  rw[h1,sub_eq (y*r)]
  have h2:y*r+ -(x0*r)+(y-x0)*(y*e)+(a+x0*r)=a+((y-x0)*(y*e)+y*r)+(-(x0*r)+x0*r):=by ac_rfl
  rw[h2,neg_add,FK.add_zero]
theorem cz6(x0:K)(l:List K):(sd x0 l).2=ev l x0:=by
 have:=n68 x0 x0 l
 rw[sub_self,zero_mul,zero_add]at this
 exact this.symm
theorem rj2(x0:K): ∀l:List K,(∀c∈(sd x0 l).1,c=0)→(sd x0 l).2=0→ ∀c∈l,c=0
 | [],_,_,c,hc=>by cases hc
 | [a],_,h,c,hc=>by
   rw[List.mem_singleton.1 hc];exact h
 |a::b::l,h1,h2,c,hc=>by
  rw[sd]at h1 h2
  have hr:(sd x0 (b::l)).2=0:=h1 _ (by simp)
  have ih:=rj2 x0 (b::l) (fun c hc=>h1 c (by simp[hc])) hr
  rcases List.mem_cons.1 hc with rfl|hc
  ·rw[hr,mul_zero,FK.add_zero]at h2;exact h2
  ·exact ih c hc
theorem roots: ∀(xs:List K) (f:List K),xs.Nodup→f.length≤xs.length→(∀x∈xs,ev f x=0)→ ∀c∈f,c=0
 | [],f,_,hl,_=>by
   intro c hc
   rw[List.eq_nil_of_length_eq_zero (Nat.le_zero.1 hl)]at hc;cases hc
 |x0::xs,f,hn,hl,hx=>by
  rw[List.nodup_cons]at hn
  have h0:=hx x0 (by simp)
  rw[←cz6]at h0
  have hl2:=w89 x0 f
  rw[List.length_cons]at hl
  refine rj2 x0 f (roots xs _ hn.2 (by omega) fun y hy=> ?_) h0
  have h1:=n68 x0 y f
  rw[hx y (by simp[hy]),h0,FK.add_zero]at h1
  rcases mul_eq_zero h1.symm with h2|h2
  ·exact absurd (by rw[←sub_eq_zero.1 h2];exact hy) hn.1
  ·exact h2
end
end Go.Alg
namespace Go.Alg
section
variable {K:Type} [FK K]
end
end Go.Alg
namespace Go.Proofs.Ytodbgomfeacdhaa
open Go.Am Go.Vm Go.Alg
section
variable {q:Int} {b:Bool} {nl:Nat} {l:List Int}
end
section
variable {q:Int} [IsFld q] {b:Bool} {nl:Nat} {a:List (El q)}
end
end Go.Proofs.Ytodbgomfeacdhaa
namespace Go.Alg
section
variable {K:Type} [FK K]
end
end Go.Alg
namespace Go.Proofs.Ytodbgomfeacdhaa
open Go.Am Go.Vm Go.Alg
section
variable {q:Int} {b b':Bool} {nl nl':Nat}
end
section
variable {q:Int} {b b':Bool} {nl nl':Nat}
end
end Go.Proofs.Ytodbgomfeacdhaa
namespace Go.Alg
section
variable {K:Type} [FK K]
open Classical in
end
end Go.Alg
namespace Go.Alg
section
variable {K:Type} [FK K]
end
end Go.Alg
namespace Go.Proofs.Ytodbgomfeacdhaa
open Go.Am Go.Vm Go.Alg
section
variable {raw:List Int} {b:Bool} {nl:Nat}
end
section
variable {a c:List Int} {b b':Bool} {nl nl':Nat}
end
section
variable {q:Int} {b:Bool} {nl:Nat} {xs:List Int} {k:Int}
end
section
variable {q:Int} [hq:IsFld q]
variable {b b':Bool} {nl nl':Nat} {X m:List (El q)}
end
section
variable {q:Int}
def oV:Option (El q)→Int
 |none=> -1
 |some x=>x.v
def ws(W:List (Option (El q))):List Int:=W.map oV
end
section
variable {q:Int} {b b':Bool} {nl nl':Nat}
end
section
variable {q p m g:Int} {t:Tree} {b b':Bool} {nl nl':Nat} {l:List Int}
variable {xs:List Int} {k:Int}
variable {w:List Int}
end
section
variable {q p m g:Int} [IsFld q] {t:Tree} {b b':Bool} {nl nl':Nat} {a:List (El q)} {x:El q}
end
section
variable {q p m g:Int} [IsFld q] {t:Tree} {b b':Bool} {nl nl' nr n7 n8:Nat} {M:List (List (El q))} {A:List (Nat×List (El q))} {N:Nat}
end
section
variable {q:Int} [IsFld q] {b b':Bool} {nl nl' nr:Nat} {M:List (List (El q))} {y:List (El q)} {n R:Nat}
section
variable {T5:Tree} {c at' n0:Nat}
end
end
section
variable {q:Int} {b b':Bool} {nl nl' nr e:Nat}
end
section
variable {α:Type} {n:Nat}
end
section
variable {q:Int} [IsFld q] {b b':Bool} {nl nl' nr:Nat} {M:List (List (El q))} {n:Nat}
end
section
variable {q:Int} {b b':Bool} {nl nl' nr e:Nat}
end
end Go.Proofs.Ytodbgomfeacdhaa
namespace Go.Alg
section
variable {K:Type} [FK K]
end
end Go.Alg
namespace Go.Proofs.Ytodbgomfeacdhaa
open Go.Am Go.Vm Go.Alg
section
variable {q:Int} [h:IsFld q]
end
section
variable {q:Int} [IsFld q] {b b':Bool} {nl nl':Nat} {P:List (El q×El q)} {k:Nat}
end
section
variable {q p m g:Int} [IsFld q] {t:Tree} {b b' b2:Bool} {nl nl' nl2:Nat} {a:List (El q)} {X:List (El q)} {U:List (Option (El q))}
end
section
variable {K:Type} [FK K]
end
section
variable {q p m g:Int} [IsFld q] {t:Tree} {b b':Bool} {nl nl':Nat} {c:List (El q)} {top:El q}
end
theorem qe6{p s:List Int}{a:Int}{i:Nat}(hi:p.length=i):(ivs (p++a::s))[i]? =some (.v (.int .i64 a)):=iat (by subst hi;simp)
section
variable {q:Int} {nl:Nat}
theorem e51(hq:q≤1000000): ∀(i:Nat) (p s s':List Int),p.length=i→(p++s).length≤1000000→(∀a∈p,0≤a∧a<q)→qr3 q s=(s',false)→ ∀ks,
 vgoL W ⟨hNo,[.tmp 4],1⟩ [0,1,5] c88L0 (.blk 0 []::ks) [(0, .own 0 []),(1, .x (.int .i64 q)),(5, .x (.int .i64 ((i:Int)-1)))] [.sl nl 3 1 (ivs (p++s'))]=
  if(qr3 q (p++s)).2=true then some (.x (.bool true),[],[.sl nl 3 1 (ivs (qr3 q (p++s)).1)])else vgo W ⟨hNo,[.tmp 4],1⟩ ks (VFr.of []) [.sl nl 3 1 (ivs (qr3 q (p++s)).1)]
 |0,p,s,s',hi,hn,hd,hs,ks=>by
  obtain rfl:p=[]:=List.eq_nil_of_length_eq_zero hi
  rw[List.nil_append,List.nil_append,hs,if_neg Bool.false_ne_true,sb5 c88L0.eq_def]
  simp(disch:=first|omega|fail) only[push_cast,seval,vrl,if_pos,if_neg]
 |i+1,p,s,s',hi,hn,hd,hs,ks=>by
  obtain⟨p',a,rfl⟩: ∃p' a,p=p'++[a]:=⟨p.dropLast,p.getLast (by intro h;subst h;simp at hi),(List.dropLast_concat_getLast _).symm⟩
  have hp'l:p'.length=i:=by simpa using hi
  have ha:=hd a (by simp)
  rw[List.append_assoc,List.singleton_append]at hn⊢
  rw[List.append_assoc,List.singleton_append]
  have hsl:s'.length=s.length:=by have:=pd1 q s;rw[hs]at this;exact this
  have hlen:(p'++a::s').length≤1000000:=by simp[hsl]at hn⊢;omega
  have hi2:i<(p'++a::s').length:=by simp;omega
  have l1:=qe6 (s:=s') (a:=a) hp'l
  have l2:=qe6 (s:=s') (a:=a+1) hp'l
  have t1:=ri5 (s:=s') (a:=a) (b:=a+1) hp'l
  have t2:=ri5 (s:=s') (a:=a+1) (b:=0) hp'l
  have e2:(p'++(a+1)::s').length=(p'++a::s').length:=by simp
  have e3:(p'++0::s').length=(p'++a::s').length:=by simp
  have hw:((i+1:Nat):Int)-1=(i:Int):=by omega
  rw[hw]
  by_cases hlt:a+1<q
  ·have hnx:qr3 q (a::s)=((a+1)::s',true):=by rw[qr3,hs];simp only;rw[if_pos hlt]
   rw[vq6 hnx p',if_pos rfl,sb5 c88L0.eq_def]
   simp(disch:=first|omega|fail) only[push_cast,seval,vrl,if_pos,if_neg,l1,l2,t1,e2,dec_lt hlt]
  ·have hnx:qr3 q (a::s)=(0::s',false):=by rw[qr3,hs];simp only;rw[if_neg hlt]
   have ih:=e51 hq i p' (a::s) (0::s') hp'l hn (fun c hc=>hd c (by simp[hc])) hnx ks
   rw[←ih,sb5 c88L0.eq_def]
   simp(disch:=first|omega|fail) only[push_cast,seval,vrl,if_pos,if_neg,l1,l2,t1,t2,e2,e3,cw6 (Int.not_lt.1 hlt)]
theorem ll0{z:List Int}(hq:q≤1000000)(hz:z.length≤1000000)(hd:digS q z):
 o24 W 88 [.own 0 [], .x (.int .i64 q)] [.sl nl 3 1 (ivs z)]=some (.x (.bool (qr3 q z).2),[],[.sl nl 3 1 (ivs (qr3 q z).1)]):=by
 have e:=fun ks=>e51 (nl:=nl) hq z.length z [] [] rfl (by simpa using hz) hd rfl ks
 simp only[List.append_nil]at e
 rw[o10 rfl T88 rfl]
 unfold F88 c88
 simp(disch:=first|omega|fail) only[push_cast,seval,vrl,if_pos,if_neg]
 rw[e]
 cases (qr3 q z).2 with
 |true=>rw[if_pos rfl]
 |false=>
  rw[if_neg Bool.false_ne_true]
  simp(disch:=first|omega|fail) only[push_cast,seval,vrl,if_pos,if_neg]
end
section
variable {q:Int}
variable {b b':Bool} {nl nl':Nat} {xs w:List Int} {k:Int}
end
theorem q_hi{q:Int} [hq:IsFld q]:q≤64:=by
 obtain⟨p,m,g,mod,hn⟩:=hq.ok
 exact(jj8 hn).1.q64
section
variable {q:Int} [IsFld q]
def elE(q:Int) [IsFld q](a:Int):El q:=if h:0≤a∧a<q then⟨a,h.1,h.2⟩else 0
theorem sx0{a:Int}(h:0≤a∧a<q):(elE q a).v=a:=by unfold elE;rw[dif_pos h]
theorem c86{l:List Int}(h:digS q l):vs (l.map (elE q))=l:=by
 unfold vs
 rw[List.map_map]
 conv=>rhs;rw[←List.map_id l]
 exact List.map_congr_left fun a ha=>sx0 (h a ha)
theorem oa6(z:List (El q)):digS q (vs z):=fun a ha=>by
 obtain⟨x,_,rfl⟩:=List.mem_map.1 ha
 exact⟨x.lo,x.hi⟩
def yv5(z:List (El q)):List (El q):=(qr3 q (vs z)).1.map (elE q)
theorem z55: ∃p:Nat,q=(p:Int)∧2≤p∧p≤64:=⟨q.toNat,by have:=aw0 (q:=q);omega,by have:=aw0 (q:=q);omega,by have:=q_hi (q:=q);omega⟩
theorem mw7(z:List (El q)):vs (yv5 z)=(qr3 q (vs z)).1:=by
 obtain⟨p,hp,h2,_⟩:=z55 (q:=q)
 refine c86 ?_
 have:=(jd2 (q:=p) (by omega) (l:=vs z) (by rw[←hp];exact oa6 z)).1
 rwa [←hp]at this
theorem l71(z:List (El q)):(yv5 z).length=z.length:=by
 have:=congrArg List.length (mw7 z)
 rwa [fi2,pd1,fi2]at this
theorem nc8{p:Nat}: ∀(d:Nat) (n:Nat),fewQ (p:Int) d (n:Int)=true→n≤4096→n*p^d≤4096
 |0,n,_,hn=>by simpa using hn
 |d+1,n,h,hn=>by
  rw[fewQ]at h
  split at h
  ·cases h
  ·rename_i h1
   rw[←Int.natCast_mul]at h h1
   have:=nc8 d (n*p) h (by omega)
   rw[Nat.mul_assoc,←Nat.pow_succ']at this
   exact this
structure Left (q:Int) (p:Nat) (n:Nat) (z:List (El q)):Prop where
 e:q=(p:Int)
 h:valS p (vs z)+n+1=p^z.length
theorem Left.last{p:Nat}{z:List (El q)}(h:Left q p 0 z):(qr3 q (vs z)).2=false:=by
 have hq:=aw0 (q:=q)
 have h1:=jd2 (q:=p) (by have:=h.e;omega) (l:=vs z) (by rw[←h.e];exact oa6 z)
 rw[←h.e]at h1
 cases hb:(qr3 q (vs z)).2 with
 |false=>rfl
 |true=>
  have h2:=h1.2
  rw[hb,if_pos rfl]at h2
  have h3:=uc1 (q:=p) (l:=(qr3 q (vs z)).1) (by rw[←h.e];exact h1.1)
  rw[pd1,fi2]at h3
  have:=h.h
  omega
theorem Left.more{p n:Nat}{z:List (El q)}(h:Left q p (n+1) z):(qr3 q (vs z)).2=true∧Left q p n (yv5 z):=by
 have hq:=aw0 (q:=q)
 have h1:=jd2 (q:=p) (by have:=h.e;omega) (l:=vs z) (by rw[←h.e];exact oa6 z)
 rw[←h.e]at h1
 have h0:=h.h
 cases hb:(qr3 q (vs z)).2 with
 |false=>
  have h2:=h1.2
  rw[hb,if_neg (by decide),fi2]at h2
  omega
 |true=>
  have h2:=h1.2
  rw[hb,if_pos rfl]at h2
  exact⟨rfl,h.e,by rw[mw7,l71];omega⟩
theorem Left.start{p:Nat}(e:q=(p:Int))(K:Nat):Left q p (p^K-1) (List.replicate K (0:El q)):=by
 have hq:=aw0 (q:=q)
 refine⟨e, ?_⟩
 have h0: ∀k:Nat,valS p (vs (List.replicate k (0:El q)))=0:=by
  intro k
  induction k with
  |zero=>rfl
  |succ k ih=>rw[List.replicate_succ,show vs ((0:El q)::List.replicate k 0)=0::vs (List.replicate k 0)from rfl,valS,ih];simp
 rw[h0,List.length_replicate]
 have:0<p^K:=Nat.pow_pos (by omega)
 omega
end
section
variable {q p m g:Int} [IsFld q] {t:Tree} {b b' b2:Bool} {nl nl' nl2:Nat} {X Y:List (El q)} {r:Int} {K:Nat}
end
section
variable {q n:Int} {nl nr:Nat} {M:List (List Int)}
theorem vm5(he: ¬gi9 q n M=0):o24 W 75 [.agg [.x (.int .i64 q), .x (.int .i64 n), .fz true (.sl nl 0 1 (lvs nr M))]] []=some (.tup [.agg [.x (.int .i64 0), .x (.int .i64 0), .x (.slice none 0 0)], .x (.int .i64 (gi9 q n M))],[],[]):=by
 have e1:=fun nl nr=>so4 (q:=q) (n:=n) (M:=M) (nl:=nl) (nr:=nr) he
 rw[o10 rfl T75 rfl]
 unfold F75 c75
 simp(disch:=first|omega|fail) only[push_cast,seval,vrl,if_pos,if_neg,e1,nb8 he]
end
section
variable {q:Int} [IsFld q] {k nl nr:Nat} {N:List (List (El q))}
theorem kh1(h1:0≤q)(h2:q≤64){M:List (List Int)}{K:Nat}(hK:K≤1000): ∀(d i:Nat) (n:Int),i+d=K→0≤n→n≤4096→ ∃n':Int,∀ks,
 vgoL W ⟨hNo,[(.cell 2 true 3), .tmp 3],0⟩ [1,2,5,17,18] c75L0 (.blk 0 [1,2]::ks) [(1, .own 0 []),(2, .own 1 []),(5, .x (.int .i64 n)),(17, .x (.int .i64 K)),(18, .x (.int .i64 i))] [.pt 25 [.v (.int .i64 q), .v (.int .i64 k), .sl 2 28 1 (lls 2 M)], .pt 25 [.v (.int .i64 0), .v (.int .i64 0), .sl 2 28 1 []]]=
  if fewQ q d n=true then vgo W ⟨hNo,[(.cell 2 true 3), .tmp 3],0⟩ ks (VFr.of [(1, .own 0 []),(2, .own 1 [])]) [.pt 25 [.v (.int .i64 q), .v (.int .i64 k), .sl 2 28 1 (lls 2 M)], .pt 25 [.v (.int .i64 0), .v (.int .i64 0), .sl 2 28 1 []]]
  else some (.tup [.agg [.x (.int .i64 0), .x (.int .i64 0), .x (.slice none 0 0)], .x (.int .i64 4)],[],[])
 |0,i,n,hi,h0,hn=>by
  refine⟨n,fun ks=> ?_⟩
  rw[fewQ,if_pos rfl,sb5 c75L0.eq_def]
  simp(disch:=first|omega|fail) only[push_cast,seval,vrl,if_pos,if_neg]
 |d+1,i,n,hi,hn,hn2=>by
  have hb0:0≤n*q:=Int.mul_nonneg hn h1
  have hb1:n*q≤4096*64:=Int.mul_le_mul hn2 h2 h1 (by decide)
  have hb2:n*q≤262144:=by omega
  rw[fewQ]
  by_cases h:4096<n*q
  ·rw[if_pos h]
   refine⟨n,fun ks=> ?_⟩
   rw[if_neg (by decide),sb5 c75L0.eq_def]
   simp(disch:=first|omega|fail) only[push_cast,seval,vrl,if_pos,if_neg,dec_lt h]
  ·obtain⟨n',ih⟩:=kh1 h1 h2 (M:=M) hK d (i+1) (n*q) (by omega) hb0 (by omega)
   refine⟨n',fun ks=> ?_⟩
   have ih:=ih ks
   rw[Int.natCast_add,Int.natCast_one]at ih
   rw[if_neg h,←ih,sb5 c75L0.eq_def]
   simp(disch:=first|omega|fail) only[push_cast,seval,vrl,if_pos,if_neg,cw6 (Int.not_lt.1 h)]
theorem lw9(he:gi9 q k (N.map vs)=0)(h0:0<k)(hk:k≤64)(hl:N.length≤64)(hr: ∀r∈N,r.length=k):
 o24 W 75 [.agg [.x (.int .i64 q), .x (.int .i64 k), .fz true (.sl nl 0 1 (lvs nr (N.map vs)))]] []=if fewQ q (redR N).length 1=true then some (.tup [.agg [.x (.int .i64 q), .x (.int .i64 k), .own 0 []], .x (.int .i64 0)],[.sl 2 28 1 (lls 2 (pvR (redR N)))],[])
  else some (.tup [.agg [.x (.int .i64 0), .x (.int .i64 0), .x (.slice none 0 0)], .x (.int .i64 4)],[],[]):=by
 have e1:=fun nl nr=>ob1 (nl:=nl) (nr:=nr) he h0 hk hl hr
 have hle:=ew4 hr
 have hq:=aw0 (q:=q)
 obtain⟨n',e⟩:=kh1 (q:=q) (k:=k) (M:=pvR (redR N)) (by omega) q_hi (K:=(redR N).length) (by omega) (redR N).length 0 1 (by omega) (by omega) (by omega)
 simp only[Int.natCast_zero,List.take_zero,List.drop_zero,rp2,lz6,x25,List.map_nil,List.length_nil]at e
 have h1:=nu3 (redR N)
 rw[o10 rfl T75 rfl]
 unfold F75 c75
 simp(disch:=first|omega|fail) only[push_cast,seval,vrl,if_pos,if_neg,e1,h1]
 rw[e]
 cases fewQ q (redR N).length 1 with
 |true=>
  rw[if_pos rfl,if_pos rfl]
  simp(disch:=first|omega|fail) only[push_cast,seval,vrl,if_pos,if_neg]
 |false=>rw[if_neg (by decide),if_neg (by decide)]
theorem q96{M:List (List Int)}:o24 W 76 [.agg [.x (.int .i64 q), .x (.int .i64 k), .fz true (.sl nl 0 1 (lvs nr M))]] []=some (.fn 131 [.own 0 []],[.pt 25 [.v (.int .i64 q), .v (.int .i64 k), .fz (.sl nl 0 1 (lvs nr M))]],[]):=by
 rw[o10 rfl T76 rfl]
 unfold F76 c76
 simp(disch:=first|omega|fail) only[push_cast,seval,vrl,if_pos,if_neg]
end
section
variable {q:Int} [IsFld q] {k nl nr nl2 nlo:Nat} {b:Bool} {R:List (List (El q))}
def wdL(k:Nat)(R:List (List (El q))):Nat→List (El q)→List (List (El q))
 |0,z=>[encL k z R]
 |n+1,z=>encL k z R::wdL k R n (yv5 z)
theorem kd2: ∀(n:Nat) (z:List (El q)),(wdL k R n z).length=n+1
 |0,_=>rfl
 |n+1,z=>by rw[wdL,List.length_cons,kd2 n]
theorem n00: ∀(n:Nat) (z:List (El q)),∀w∈wdL k R n z,w.length=k
 |0,z,w,h=>by rw[wdL,List.mem_singleton]at h;rw[h,b87]
 |n+1,z,w,h=>by
  rw[wdL]at h
  rcases List.mem_cons.1 h with h|h
  ·rw[h,b87]
  ·exact n00 n _ w h
def inc1(o:List Int)(w:List (El q)):List Int:=o.set (wtW (vs w)) (o.getD (wtW (vs w)) 0+1)
theorem c40(o:List Int)(w:List (El q)):(inc1 o w).length=o.length:=by unfold inc1;rw[List.length_set]
structure CntOK (k m:Nat) (o:List Int):Prop where
 len:o.length=k+1
 lo: ∀x∈o,0≤x∧x≤(m:Int)
theorem CntOK.next{m:Nat}{o:List Int}(h:CntOK k m o){w:List (El q)}(hw:w.length=k):CntOK k (m+1) (inc1 o w):=by
 refine⟨by rw[c40,h.len],fun x hx=> ?_⟩
 unfold inc1 at hx
 have hwt:=p55 (vs w)
 rw[fi2]at hwt
 rcases List.mem_or_eq_of_mem_set hx with hx|hx
 ·have:=h.lo x hx;omega
 ·have hm:o.getD (wtW (vs w)) 0∈o:=by
   rw[List.getD_eq_getElem?_getD,List.getElem?_eq_getElem (by rw[h.len];omega),Option.getD_some]
   exact List.getElem_mem _
  have:=h.lo _ hm
  omega
theorem CntOK.at'{m:Nat}{o:List Int}(h:CntOK k m o){w:List (El q)}(hw:w.length=k):o[wtW (vs w)]? =some (o.getD (wtW (vs w)) 0)∧0≤o.getD (wtW (vs w)) 0∧o.getD (wtW (vs w)) 0≤(m:Int)∧wtW (vs w)<o.length:=by
 have hwt:=p55 (vs w)
 rw[fi2]at hwt
 have hlt:wtW (vs w)<o.length:=by rw[h.len];omega
 have e:o[wtW (vs w)]? =some (o.getD (wtW (vs w)) 0):=by rw[List.getD_eq_getElem?_getD,List.getElem?_eq_getElem hlt,Option.getD_some]
 exact⟨e,(h.lo _ (List.mem_of_getElem? e)).1,(h.lo _ (List.mem_of_getElem? e)).2,hlt⟩
def v66:Nat→List (El q)→List (El q)
 |0,z=>yv5 z
 |n+1,z=>v66 n (yv5 z)
theorem le0(hq:q≤1000000){T:Tree}: ∀(i:Nat) (p s s':List Int),p.length=i→(p++s).length≤1000000→(∀a∈p,0≤a∧a<q)→qr3 q s=(s',false)→ ∃j:Int,(0≤j↔(qr3 q (p++s)).2=true)∧ ∀ks,
 vgoL W ⟨hNo,[.tmp 2, .tmp 3],0⟩ [5,33,35,37,38,113] c20L0 (.blk 2 [5,33,35,37,38,113]::ks) [(5, .own 0 []),(33, .own 1 []),(35, .fz true (pF q)),(37, .own 2 []),(38, .x (.int .i64 ((i:Int)-1))),(113, .x (.bool false))] [T, .pt 25 [.v (.int .i64 q), .v (.int .i64 k), .fz (.sl nl 0 1 (lvs nr (R.map vs)))], .sl nl2 3 1 (ivs (p++s'))]=
  vgo W ⟨hNo,[.tmp 2, .tmp 3],0⟩ ks (VFr.of [(5, .own 0 []),(33, .own 1 []),(35, .fz true (pF q)),(37, .own 2 []),(38, .x (.int .i64 j)),(113, .x (.bool false))]) [T, .pt 25 [.v (.int .i64 q), .v (.int .i64 k), .fz (.sl nl 0 1 (lvs nr (R.map vs)))], .sl nl2 3 1 (ivs (qr3 q (p++s)).1)]
 |0,p,s,s',hi,hn,hd,hs=>by
  obtain rfl:p=[]:=List.eq_nil_of_length_eq_zero hi
  rw[List.nil_append,List.nil_append,hs]
  refine⟨-1,by simp,fun ks=> ?_⟩
  rw[sb5 c20L0.eq_def]
  simp(disch:=first|omega|fail) only[push_cast,seval,vrl,if_pos,if_neg]
 |i+1,p,s,s',hi,hn,hd,hs=>by
  obtain⟨p',a,rfl⟩: ∃p' a,p=p'++[a]:=⟨p.dropLast,p.getLast (by intro h;subst h;simp at hi),(List.dropLast_concat_getLast _).symm⟩
  have hp'l:p'.length=i:=by simpa using hi
  have ha:=hd a (by simp)
  rw[List.append_assoc,List.singleton_append]at hn⊢
  rw[List.append_assoc,List.singleton_append]
  have hsl:s'.length=s.length:=by have:=pd1 q s;rw[hs]at this;exact this
  have hlen:(p'++a::s').length≤1000000:=by simp[hsl]at hn⊢;omega
  have hi2:i<(p'++a::s').length:=by simp;omega
  have l1:=qe6 (s:=s') (a:=a) hp'l
  have l2:=qe6 (s:=s') (a:=a+1) hp'l
  have t1:=ri5 (s:=s') (a:=a) (b:=a+1) hp'l
  have t2:=ri5 (s:=s') (a:=a+1) (b:=0) hp'l
  have e2:(p'++(a+1)::s').length=(p'++a::s').length:=by simp
  have hw:((i+1:Nat):Int)-1=(i:Int):=by omega
  rw[hw]
  by_cases hlt:a+1<q
  ·have hnx:qr3 q (a::s)=((a+1)::s',true):=by rw[qr3,hs];simp only;rw[if_pos hlt]
   rw[vq6 hnx p']
   refine⟨i,⟨fun _=>rfl,fun _=>by omega⟩,fun ks=> ?_⟩
   rw[sb5 c20L0.eq_def]
   simp(disch:=first|omega|fail) only[push_cast,seval,vrl,if_pos,if_neg,l1,l2,t1,e2,dec_lt hlt]
  ·have hnx:qr3 q (a::s)=(0::s',false):=by rw[qr3,hs];simp only;rw[if_neg hlt]
   obtain⟨j,j1,j2⟩:=le0 hq (T:=T) i p' (a::s) (0::s') hp'l hn (fun c hc=>hd c (by simp[hc])) hnx
   refine⟨j,j1,fun ks=> ?_⟩
   rw[←j2 ks,sb5 c20L0.eq_def]
   simp(disch:=first|omega|fail) only[push_cast,seval,vrl,if_pos,if_neg,l1,l2,t1,t2,e2,cw6 (Int.not_lt.1 hlt)]
theorem ie9(hm:R.length≤64)(hR: ∀r∈R,r.length=k)(hk:k≤64){pp:Nat}: ∀(n m:Nat) (z:List (El q)) (o:List Int),Left q pp n z→z.length=R.length→CntOK k m o→m+n≤100000→ ∀ks kz,ks= .blk 1000 [113,5]::kz→
 vgoL W ⟨hNo,[.tmp 2, .tmp 3],0⟩ [5,33,35,37,113] c20L1 (.blk 0 [5,113]::ks) [(5, .own 0 []),(33, .own 1 []),(35, .fz true (pF q)),(37, .own 2 []),(113, .x (.bool false))] [.pt 28 [.sl nlo 3 1 (ivs o)], .pt 25 [.v (.int .i64 q), .v (.int .i64 k), .fz (.sl nl 0 1 (lvs nr (R.map vs)))], .sl 0 3 1 (ivs (vs z))]=
  vgo W ⟨hNo,[.tmp 2, .tmp 3],0⟩ kz (VFr.of [(113, .x (.bool false)),(5, .own 0 [])]) [.pt 28 [.sl nlo 3 1 (ivs ((wdL k R n z).foldl inc1 o))], .pt 25 [.v (.int .i64 q), .v (.int .i64 k), .fz (.sl nl 0 1 (lvs nr (R.map vs)))], .sl 0 3 1 (ivs (vs (v66 n z)))]:=by
 have hqh:=q_hi (q:=q)
 have turn: ∀(m:Nat) (z:List (El q)) (o:List Int),z.length=R.length→CntOK k m o→m≤100000→ ∃j:Int,(0≤j↔(qr3 q (vs z)).2=true)∧ ∀ks kz,ks= .blk 1000 [113,5]::kz→
  (0≤j→vgoL W ⟨hNo,[.tmp 2, .tmp 3],0⟩ [5,33,35,37,113] c20L1 (.blk 0 [5,113]::ks) [(5, .own 0 []),(33, .own 1 []),(35, .fz true (pF q)),(37, .own 2 []),(113, .x (.bool false))] [.pt 28 [.sl nlo 3 1 (ivs o)], .pt 25 [.v (.int .i64 q), .v (.int .i64 k), .fz (.sl nl 0 1 (lvs nr (R.map vs)))], .sl 0 3 1 (ivs (vs z))]=
    vgoL W ⟨hNo,[.tmp 2, .tmp 3],0⟩ [5,33,35,37,113] c20L1 (.blk 0 [5,113]::ks) [(5, .own 0 []),(33, .own 1 []),(35, .fz true (pF q)),(37, .own 2 []),(113, .x (.bool false))] [.pt 28 [.sl nlo 3 1 (ivs (inc1 o (encL k z R)))], .pt 25 [.v (.int .i64 q), .v (.int .i64 k), .fz (.sl nl 0 1 (lvs nr (R.map vs)))], .sl 0 3 1 (ivs (vs (yv5 z)))])∧
  (j<0→vgoL W ⟨hNo,[.tmp 2, .tmp 3],0⟩ [5,33,35,37,113] c20L1 (.blk 0 [5,113]::ks) [(5, .own 0 []),(33, .own 1 []),(35, .fz true (pF q)),(37, .own 2 []),(113, .x (.bool false))] [.pt 28 [.sl nlo 3 1 (ivs o)], .pt 25 [.v (.int .i64 q), .v (.int .i64 k), .fz (.sl nl 0 1 (lvs nr (R.map vs)))], .sl 0 3 1 (ivs (vs z))]=
    vgo W ⟨hNo,[.tmp 2, .tmp 3],0⟩ kz (VFr.of [(113, .x (.bool false)),(5, .own 0 [])]) [.pt 28 [.sl nlo 3 1 (ivs (inc1 o (encL k z R)))], .pt 25 [.v (.int .i64 q), .v (.int .i64 k), .fz (.sl nl 0 1 (lvs nr (R.map vs)))], .sl 0 3 1 (ivs (vs (yv5 z)))]):=by
  intro m z o hz ho hm'
  obtain⟨j,j1,j2⟩:=le0 (q:=q) (k:=k) (nl:=nl) (nr:=nr) (R:=R) (nl2:=0) (by omega) (T:= .pt 28 [.sl nlo 3 1 (ivs (inc1 o (encL k z R)))]) z.length (vs z) [] [] (by rw[fi2]) (by rw[List.append_nil,fi2];omega) (fun a ha=>oa6 z a ha) rfl
  rw[List.append_nil]at j1
  simp only[List.append_nil]at j2
  rw[←mw7]at j2
  have e1:=fun b nl nr nl2=>gm8 (q:=q) (k:=k) (b:=b) (nl:=nl) (nr:=nr) (nl2:=nl2) (m:=z) (R:=R) hz (by omega) hR (by omega)
  have e2:=fun b nl=>fd2 (b:=b) (nl:=nl) (a:=vs (encL k z R)) (by rw[fi2,b87];omega)
  obtain⟨o1,o2,o3,o4⟩:=ho.at' (w:=encL k z R) (b87 z R)
  have h1:=iat o1
  have hzl:(vs z).length=z.length:=fi2 z
  refine⟨j,j1,fun ks kz hks=>⟨fun hj=> ?_,fun hj=> ?_⟩⟩
  ·rw[hks,sb5 c20L1.eq_def]
   simp(disch:=first|omega|fail) only[push_cast,seval,vrl,if_pos,if_neg,e1,e2,h1,hzl]
   rw[show o.set (wtW (vs (encL k z R))) (o.getD (wtW (vs (encL k z R))) 0+1)=inc1 o (encL k z R)from rfl,j2]
   simp(disch:=first|omega|fail) only[push_cast,seval,vrl,if_pos,if_neg,cw6 hj]
  ·rw[hks,sb5 c20L1.eq_def]
   simp(disch:=first|omega|fail) only[push_cast,seval,vrl,if_pos,if_neg,e1,e2,h1,hzl]
   rw[show o.set (wtW (vs (encL k z R))) (o.getD (wtW (vs (encL k z R))) 0+1)=inc1 o (encL k z R)from rfl,j2]
   simp(disch:=first|omega|fail) only[push_cast,seval,vrl,if_pos,if_neg,dec_lt hj]
 intro n
 induction n with
 |zero=>
  intro m z o hl hz ho hm' ks kz hks
  obtain⟨j,j1,j2⟩:=turn m z o hz ho (by omega)
  have hlast:=hl.last
  rw[hlast]at j1
  rw[((j2 ks kz hks).2 (by by_cases h:0≤j;exact absurd (j1.1 h) (by decide);omega)),wdL,List.foldl_cons,List.foldl_nil,v66]
 |succ n ih=>
  intro m z o hl hz ho hm' ks kz hks
  obtain⟨j,j1,j2⟩:=turn m z o hz ho (by omega)
  obtain⟨l1,l2⟩:=hl.more
  rw[(j2 ks kz hks).1 (j1.2 l1),wdL,List.foldl_cons,v66]
  exact ih (m+1) (yv5 z) (inc1 o (encL k z R)) l2 (by rw[l71,hz]) (ho.next (b87 z R)) (by omega) ks kz hks
def allW(k:Nat)(R:List (List (El q))):List (List (El q)):=wdL k R (q.toNat^R.length-1) (List.replicate R.length 0)
def wgt(k:Nat)(R:List (List (El q))):List Int:=(allW k R).foldl inc1 (List.replicate (k+1) 0)
theorem kp0:CntOK k 0 (List.replicate (k+1) 0):=⟨by simp,fun x hx=>by rw[(List.mem_replicate.1 hx).2];omega⟩
theorem ja4(h:fewQ q R.length 1=true):q.toNat^R.length≤4096:=by
 have hq:=aw0 (q:=q)
 have:=nc8 (p:=q.toNat) R.length 1 (by rw[Int.toNat_of_nonneg (by omega)];exact h) (by omega)
 omega
theorem ir7{N:List (List (El q))}(he:gi9 q k (N.map vs)=0)(h0:0<k)(hk:k≤64)(hl:N.length≤64)(hr: ∀r∈N,r.length=k)(hf:fewQ q (redR N).length 1=true):
 o24 W 20 [.agg [.x (.int .i64 q), .x (.int .i64 k), .fz true (.sl nl 0 1 (lvs nr (N.map vs)))]] []=some (.tup [.own 0 [], .x (.int .i64 0)],[.sl 2 3 1 (ivs (wgt k (p78 (redR N))))],[]):=by
 have e1:=fun nl nr=>lw9 (nl:=nl) (nr:=nr) he h0 hk hl hr
 simp only[hf,if_true]at e1
 obtain⟨r1,r2,_⟩:=bi2 hr
 have hle:=ew4 hr
 have hq:=aw0 (q:=q)
 have hrl:(p78 (redR N)).length=(redR N).length:=gb4
 have hpw:=ja4 (q:=q) (R:=p78 (redR N)) (by rw[hrl];exact hf)
 have e2:=fun nl nr=>q96 (q:=q) (k:=k) (nl:=nl) (nr:=nr) (M:=pvR (redR N))
 have e3:=fun nlo nl nr ks kz hks=>ie9 (q:=q) (k:=k) (nlo:=nlo) (nl:=nl) (nr:=nr) (R:=p78 (redR N)) (by omega) (zu4 r2) hk (pp:=q.toNat) (q.toNat^(p78 (redR N)).length-1) 0 (List.replicate (p78 (redR N)).length 0) (List.replicate (k+1) 0) (Left.start (by omega) _) (by simp) kp0 (by omega) ks kz hks
 rw[←lo1]at e3
 have h1:=nu3 (redR N)
 have hz:List.replicate (redR N).length (0:Int)=vs (List.replicate (p78 (redR N)).length (0:El q)):=by rw[hrl,←qj2];rfl
 obtain⟨K,hK⟩: ∃K,K=k+1:=⟨_,rfl⟩
 unfold wgt allW
 rw[←hK]at e3⊢
 rw[o10 rfl T20 rfl]
 unfold F20 c20
 have hk1:((k:Int)+1).toNat=K:=by omega
 simp(disch:=first|omega|fail) only[push_cast,seval,vrl,if_pos,if_neg,e1,e2,h1,hz,hk1]
 rw[e3 _ _ _ _ _ rfl]
 simp(disch:=first|omega|fail) only[push_cast,seval,vrl,if_pos,if_neg]
end
section
variable {q n:Int} {nl nr:Nat} {M:List (List Int)}
theorem by6{e:Int}(he:e≠0)(h: ∀nl nr,o24 W 75 [.agg [.x (.int .i64 q), .x (.int .i64 n), .fz true (.sl nl 0 1 (lvs nr M))]] []=some (.tup [.agg [.x (.int .i64 0), .x (.int .i64 0), .x (.slice none 0 0)], .x (.int .i64 e)],[],[])):
 o24 W 20 [.agg [.x (.int .i64 q), .x (.int .i64 n), .fz true (.sl nl 0 1 (lvs nr M))]] []=some (.tup [.x (.slice none 0 0), .x (.int .i64 e)],[],[]):=by
 rw[o10 rfl T20 rfl]
 unfold F20 c20
 simp(disch:=first|omega|fail) only[push_cast,seval,vrl,if_pos,if_neg,h,nb8 he]
end
section
variable {q:Int} [IsFld q] {k nl nr nl2:Nat} {b:Bool} {R:List (List (El q))}
theorem e52{T1 T2 T3:Tree}{acc:List (List (El q))}(ks):
 vgoL W ⟨h73,[.tmp 2],0⟩ [1,3,5,6,7] c73L0 (.blk 0 [6]::ks) [(1, .own 0 []),(3, .own 1 []),(5, .own 2 []),(6, .own 3 []),(7, .x (.bool false))] [T1,T2,T3, .sl 1 28 1 (lls 2 (acc.map vs))]=vgo W ⟨h73,[.tmp 2],0⟩ ks (VFr.of [(6, .own 3 [])]) [T1,T2,T3, .sl 1 28 1 (lls 2 (acc.map vs))]:=by
 rw[sb5 c73L0.eq_def]
 simp(disch:=first|omega|fail) only[push_cast,seval,vrl,if_pos,if_neg]
theorem ou2{p m g:Int}{t:Tree}(u:RFo q p m g t)(hm:R.length≤64)(hR: ∀r∈R,r.length=k)(h0:0<k)(hk:k≤64)(z:List (El q))(acc:List (List (El q)))(hz:z.length=R.length)(ha:acc.length≤20000)(ks):
 vgoL W ⟨h73,[.tmp 2],0⟩ [1,3,5,6,7] c73L0 (.blk 0 [6]::ks) [(1, .own 0 []),(3, .own 1 []),(5, .own 2 []),(6, .own 3 []),(7, .x (.bool true))] [.pt 25 [.v (.int .i64 q), .v (.int .i64 k), .fz (.sl nl 0 1 (lvs nr (R.map vs)))], .pt 102 [.v (.int .i64 q), .v (.int .i64 p), .v (.int .i64 m), .v (.int .i64 g), .fz t], .sl 0 3 1 (ivs (vs z)), .sl 1 28 1 (lls 2 (acc.map vs))]=
  vgoL W ⟨h73,[.tmp 2],0⟩ [1,3,5,6,7] c73L0 (.blk 0 [6]::ks) [(1, .own 0 []),(3, .own 1 []),(5, .own 2 []),(6, .own 3 []),(7, .x (.bool (qr3 q (vs z)).2))] [.pt 25 [.v (.int .i64 q), .v (.int .i64 k), .fz (.sl nl 0 1 (lvs nr (R.map vs)))], .pt 102 [.v (.int .i64 q), .v (.int .i64 p), .v (.int .i64 m), .v (.int .i64 g), .fz t], .sl 0 3 1 (ivs (vs (yv5 z))), .sl 1 28 1 (lls 2 ((acc++[encL k z R]).map vs))]:=by
 have hqh:=q_hi (q:=q)
 have ht:=u.n
 have ho:=u.o
 have e1:=fun b nl nr nl2=>jb7 (q:=q) (k:=k) (b:=b) (nl:=nl) (nr:=nr) (nl2:=nl2) (ms:=z) (R:=R) hz (by omega) hR h0 (by omega)
 rw[u.e]at e1
 have e2:=ll0 (q:=q) (nl:=0) (z:=vs z) (by omega) (by rw[fi2];omega) (oa6 z)
 rw[←mw7]at e2
 have hla: ∀(A:List (List Int)) (x:List Int),lls 2 (A++[x])=lls 2 A++[.sl 2 3 1 (ivs x)]:=fun A x=>by unfold lls;rw[List.map_append];rfl
 have hal:(acc.map vs).length=acc.length:=List.length_map _
 rw[List.map_append,show List.map vs [encL k z R]=[vs (encL k z R)]from rfl,hla]
 rw[sb5 c73L0.eq_def]
 simp(disch:=first|omega|fail) only[push_cast,seval,vrl,if_pos,if_neg,e1,e2,hal,ht,ho]
theorem ik4{p m g:Int}{t:Tree}(u:RFo q p m g t)(hm:R.length≤64)(hR: ∀r∈R,r.length=k)(h0:0<k)(hk:k≤64){pp:Nat}: ∀(n:Nat) (z:List (El q)) (acc:List (List (El q))),Left q pp n z→z.length=R.length→acc.length+n≤10000→ ∀ks,
 vgoL W ⟨h73,[.tmp 2],0⟩ [1,3,5,6,7] c73L0 (.blk 0 [6]::ks) [(1, .own 0 []),(3, .own 1 []),(5, .own 2 []),(6, .own 3 []),(7, .x (.bool true))] [.pt 25 [.v (.int .i64 q), .v (.int .i64 k), .fz (.sl nl 0 1 (lvs nr (R.map vs)))], .pt 102 [.v (.int .i64 q), .v (.int .i64 p), .v (.int .i64 m), .v (.int .i64 g), .fz t], .sl 0 3 1 (ivs (vs z)), .sl 1 28 1 (lls 2 (acc.map vs))]=
  vgo W ⟨h73,[.tmp 2],0⟩ ks (VFr.of [(6, .own 3 [])]) [.pt 25 [.v (.int .i64 q), .v (.int .i64 k), .fz (.sl nl 0 1 (lvs nr (R.map vs)))], .pt 102 [.v (.int .i64 q), .v (.int .i64 p), .v (.int .i64 m), .v (.int .i64 g), .fz t], .sl 0 3 1 (ivs (vs (v66 n z))), .sl 1 28 1 (lls 2 ((acc++wdL k R n z).map vs))]
 |0,z,acc,hl,hz,ha,ks=>by
  rw[ou2 u hm hR h0 hk z acc hz (by omega),hl.last,e52,wdL,v66]
 |n+1,z,acc,hl,hz,ha,ks=>by
  obtain⟨l1,l2⟩:=hl.more
  rw[ou2 u hm hR h0 hk z acc hz (by omega),l1,ik4 u hm hR h0 hk n (yv5 z) (acc++[encL k z R]) l2 (by rw[l71,hz]) (by simp;omega),wdL,v66,List.append_assoc,List.singleton_append]
theorem oy6(hm:R.length≤64)(hR: ∀r∈R,r.length=k)(h0:0<k)(hk:k≤64){pp:Nat}(hp:q=(pp:Int))(hpow:pp^R.length≤10000):
 o24 W 73 [.agg [.x (.int .i64 q), .x (.int .i64 k), .fz true (.sl nl 0 1 (lvs nr (R.map vs)))]] []=some (.own 0 [],[.sl 1 28 1 (lls 2 ((wdL k R (pp^R.length-1) (List.replicate R.length 0)).map vs))],[]):=by
 obtain⟨p,m,g,t,u⟩:=k75 q
 have ht:=u.n
 have hfe:=u.e
 have e:=fun ks=>ik4 (k:=k) (nl:=nl) (nr:=nr) u hm hR h0 hk (pp^R.length-1) (List.replicate R.length 0) [] (Left.start hp R.length) (by simp) (by simp;omega) ks
 simp only[List.nil_append]at e
 simp only[Int.natCast_zero,List.take_zero,List.drop_zero,rp2,lz6,x25,List.map_nil,List.length_nil]at e
 have hz:List.replicate R.length (0:Int)=vs (List.replicate R.length (0:El q)):=by rw[←qj2];rfl
 have hl1:(R.map vs).length=R.length:=List.length_map _
 rw[o10 rfl T73 rfl]
 unfold F73 c73
 simp(disch:=first|omega|fail) only[push_cast,seval,vrl,if_pos,if_neg,hfe,ht,hz,hl1]
 rw[e]
 simp(disch:=first|omega|fail) only[push_cast,seval,vrl,if_pos,if_neg]
theorem os3(hk:k≤64){Ws:List (List (El q))}(hW: ∀w∈Ws,w.length=k)(hWl:Ws.length≤10000): ∀(d i:Nat) (o:List Int),i+d=Ws.length→CntOK k i o→ ∀ks,
 vgoL W ⟨hNo,[.tmp 2],0⟩ [3,4,5] c19L0 (.blk 0 [3]::ks) [(3, .own 0 []),(4, .own 1 []),(5, .x (.int .i64 i))] [.sl 0 3 1 (ivs o), .sl 1 28 1 (lls 2 (Ws.map vs))]=vgo W ⟨hNo,[.tmp 2],0⟩ ks (VFr.of [(3, .own 0 [])]) [.sl 0 3 1 (ivs ((Ws.drop i).foldl inc1 o)), .sl 1 28 1 (lls 2 (Ws.map vs))]
 |0,i,o,hi,ho,ks=>by
  have hl1:(Ws.map vs).length=Ws.length:=List.length_map _
  rw[List.drop_eq_nil_of_le (by omega),List.foldl_nil,sb5 c19L0.eq_def]
  simp(disch:=first|omega|fail) only[push_cast,seval,vrl,if_pos,if_neg,hl1]
 |d+1,i,o,hi,ho,ks=>by
  obtain⟨w,hw⟩:=ge6 (l:=Ws) (i:=i) (by omega)
  have hwk:=hW w (List.mem_of_getElem? hw)
  have ih:=os3 hk hW hWl d (i+1) (inc1 o w) (by omega) (ho.next hwk) ks
  have hl1:(Ws.map vs).length=Ws.length:=List.length_map _
  have h0:=mla (nl:=2) hw
  have e2:=fun b nl=>ta9 (b:=b) (nl:=nl) (a:=vs w) (by rw[fi2];omega)
  obtain⟨o1,o2,o3,o4⟩:=ho.at' (w:=w) hwk
  have h1:=iat o1
  rw[Int.natCast_add,Int.natCast_one]at ih
  rw[ja2 hw,List.foldl_cons,←ih,sb5 c19L0.eq_def]
  unfold inc1
  simp(disch:=first|omega|fail) only[push_cast,seval,vrl,if_pos,if_neg,h0,hl1,e2,h1]
end
def yv0:Nat→List Int→Int
 |_,[]=>0
 |i,x::l=>if 0<x then(i:Int)else yv0 (i+1) l
section
variable {b:Bool} {nl:Nat} {l:List Int}
theorem u34(hl:l.length≤9223372036854775807): ∀(d i:Nat),i+d=l.length→1≤i→ ∀ks,
 vgoL W ⟨hNo,[.tmp 2],0⟩ [0,3] c24L0 (.blk 0 []::ks) [(0, .fz b (.sl nl 0 1 (ivs l))),(3, .x (.int .i64 i))] []=if yv0 i (l.drop i)=0 then vgo W ⟨hNo,[.tmp 2],0⟩ ks (VFr.of []) []else some (.x (.int .i64 (yv0 i (l.drop i))),[],[])
 |0,i,hi,h1,ks=>by
  rw[oh9 (by omega),yv0,if_pos rfl,sb5 c24L0.eq_def]
  simp(disch:=first|omega|fail) only[push_cast,seval,vrl,if_pos,if_neg]
 |d+1,i,hi,hi1,ks=>by
  obtain⟨x,hx⟩:=ge6 (l:=l) (i:=i) (by omega)
  have h1:=iat hx
  have ih:=u34 hl d (i+1) (by omega) (by omega) ks
  rw[Int.natCast_add,Int.natCast_one]at ih
  rw[ja2 hx,yv0]
  by_cases h:0<x
  ·rw[if_pos h,if_neg (by omega),sb5 c24L0.eq_def]
   simp(disch:=first|omega|fail) only[push_cast,seval,vrl,if_pos,if_neg,h1,dec_lt h]
  ·rw[if_neg h,←ih,sb5 c24L0.eq_def]
   simp(disch:=first|omega|fail) only[push_cast,seval,vrl,if_pos,if_neg,h1,cw6 (Int.not_lt.1 h)]
def jq9(l:List Int):Int:=yv0 1 (l.drop 1)
theorem w71(hl:l.length≤9223372036854775807):o24 W 24 [.fz b (.sl nl 0 1 (ivs l))] []=some (.x (.int .i64 (jq9 l)),[],[]):=by
 by_cases h0:1≤l.length
 ·have e:=fun ks=>u34 (b:=b) (nl:=nl) hl (l.length-1) 1 (by omega) (by omega) ks
  simp only[Int.natCast_one]at e
  unfold jq9
  rw[o10 rfl T24 rfl]
  unfold F24 c24
  simp(disch:=first|omega|fail) only[push_cast,seval,vrl,if_pos,if_neg]
  rw[e]
  by_cases h:yv0 1 (l.drop 1)=0
  ·rw[if_pos h,h]
   simp(disch:=first|omega|fail) only[push_cast,seval,vrl,if_pos,if_neg]
  ·rw[if_neg h]
 ·obtain rfl:l=[]:=List.eq_nil_of_length_eq_zero (by omega)
  rw[o10 rfl T24 rfl]
  unfold F24 c24
  rw[show jq9 []=0 from rfl]
  simp(disch:=first|omega|fail) only[push_cast,seval,vrl,if_pos,if_neg]
  rw[sb5 c24L0.eq_def]
  simp(disch:=first|omega|fail) only[push_cast,seval,vrl,if_pos,if_neg]
theorem bi6(hl:l.length≤9223372036854775807): ∀(d i:Nat),i+d=l.length→1≤i→ ∀ks,
 vgoL W ⟨hNo,[.tmp 2, .tmp 3],0⟩ [4,6] c21L0 (.blk 0 []::ks) [(4, .own 0 []),(6, .x (.int .i64 i))] [.sl nl 3 1 (ivs l)]=if yv0 i (l.drop i)=0 then vgo W ⟨hNo,[.tmp 2, .tmp 3],0⟩ ks (VFr.of []) [.sl nl 3 1 (ivs l)]else some (.tup [.x (.int .i64 (yv0 i (l.drop i))), .x (.int .i64 0)],[],[])
 |0,i,hi,h1,ks=>by
  rw[oh9 (by omega),yv0,if_pos rfl,sb5 c21L0.eq_def]
  simp(disch:=first|omega|fail) only[push_cast,seval,vrl,if_pos,if_neg]
 |d+1,i,hi,hi1,ks=>by
  obtain⟨x,hx⟩:=ge6 (l:=l) (i:=i) (by omega)
  have h1:=iat hx
  have ih:=bi6 hl d (i+1) (by omega) (by omega) ks
  rw[Int.natCast_add,Int.natCast_one]at ih
  rw[ja2 hx,yv0]
  by_cases h:0<x
  ·rw[if_pos h,if_neg (by omega),sb5 c21L0.eq_def]
   simp(disch:=first|omega|fail) only[push_cast,seval,vrl,if_pos,if_neg,h1,dec_lt h]
  ·rw[if_neg h,←ih,sb5 c21L0.eq_def]
   simp(disch:=first|omega|fail) only[push_cast,seval,vrl,if_pos,if_neg,h1,cw6 (Int.not_lt.1 h)]
theorem z42{q n e:Int}{nl nr:Nat}{M:List (List Int)}(he:e≠0)(h: ∀nl nr,o24 W 20 [.agg [.x (.int .i64 q), .x (.int .i64 n), .fz true (.sl nl 0 1 (lvs nr M))]] []=some (.tup [.x (.slice none 0 0), .x (.int .i64 e)],[],[])):
 o24 W 21 [.agg [.x (.int .i64 q), .x (.int .i64 n), .fz true (.sl nl 0 1 (lvs nr M))]] []=some (.tup [.x (.int .i64 0), .x (.int .i64 e)],[],[]):=by
 rw[o10 rfl T21 rfl]
 unfold F21 c21
 simp(disch:=first|omega|fail) only[push_cast,seval,vrl,if_pos,if_neg,h,nb8 he]
theorem ia2{q n:Int}{nl nr nl':Nat}{M:List (List Int)}(hl:l.length≤9223372036854775807)(hl1:1≤l.length)(h: ∀nl nr,o24 W 20 [.agg [.x (.int .i64 q), .x (.int .i64 n), .fz true (.sl nl 0 1 (lvs nr M))]] []=some (.tup [.own 0 [], .x (.int .i64 0)],[.sl nl' 3 1 (ivs l)],[])):
 o24 W 21 [.agg [.x (.int .i64 q), .x (.int .i64 n), .fz true (.sl nl 0 1 (lvs nr M))]] []=some (.tup [.x (.int .i64 (jq9 l)), .x (.int .i64 0)],[],[]):=by
 have e:=fun nl ks=>bi6 (nl:=nl) hl (l.length-1) 1 (by omega) (by omega) ks
 simp only[Int.natCast_one]at e
 unfold jq9
 rw[o10 rfl T21 rfl]
 unfold F21 c21
 simp(disch:=first|omega|fail) only[push_cast,seval,vrl,if_pos,if_neg,h]
 rw[e]
 by_cases h:yv0 1 (l.drop 1)=0
 ·rw[if_pos h,h]
  simp(disch:=first|omega|fail) only[push_cast,seval,vrl,if_pos,if_neg]
 ·rw[if_neg h]
end
section
variable {q:Int} [IsFld q] {k nl nr:Nat} {N:List (List (El q))}
theorem et1{R:List (List (El q))}(h:fewQ q R.length 1=true):(allW k R).length≤4096∧0<(allW k R).length∧ ∀w∈allW k R,w.length=k:=by
 have:=ja4 h
 unfold allW
 rw[kd2]
 have hq:=aw0 (q:=q)
 have:0<q.toNat^R.length:=Nat.pow_pos (by omega)
 exact⟨by omega,by omega,n00 _ _⟩
theorem rc0(R:List (List (El q))):(wgt k R).length=k+1:=by
 unfold wgt
 have: ∀(l:List (List (El q))) (o:List Int),(l.foldl inc1 o).length=o.length:=by
  intro l
  induction l with
  |nil=>intro o;rfl
  |cons a l ih=>intro o;rw[List.foldl_cons,ih,c40]
 rw[this];simp
theorem x41(h0:0<k)(hk:k≤64)(hl:N.length≤64)(hr: ∀r∈N,r.length=k)(hf:fewQ q (redR N).length 1=true):
 o24 W 19 [.agg [.x (.int .i64 q), .x (.int .i64 k), .fz true (.sl nl 0 1 (lvs nr (N.map vs)))]] []=some (.own 0 [],[.sl 0 3 1 (ivs (wgt k (p78 (redR N))))],[]):=by
 have e1:=fun nl nr n=>vd8 (q:=q) (nl:=nl) (nr:=nr) (n:=n) (by omega) hr (by omega)
 obtain⟨r1,r2,_⟩:=bi2 hr
 have hle:=ew4 hr
 have hq:=aw0 (q:=q)
 have hrl:(p78 (redR N)).length=(redR N).length:=gb4
 have hf2:fewQ q (p78 (redR N)).length 1=true:=by rw[hrl];exact hf
 have hpw:=ja4 hf2
 have e2:=fun nl nr=>oy6 (q:=q) (k:=k) (nl:=nl) (nr:=nr) (R:=p78 (redR N)) (by omega) (zu4 r2) h0 hk (pp:=q.toNat) (by omega) (by omega)
 rw[←lo1]at e2
 obtain⟨w1,w2,w3⟩:=et1 (k:=k) hf2
 have e3:=fun ks=>os3 (k:=k) hk (Ws:=allW k (p78 (redR N))) w3 (by omega) (allW k (p78 (redR N))).length 0 (List.replicate (k+1) 0) (by omega) kp0 ks
 rw[List.drop_zero]at e3
 simp only[Int.natCast_zero]at e3
 obtain⟨K,hK⟩: ∃K,K=k+1:=⟨_,rfl⟩
 have hk1:((k:Int)+1).toNat=K:=by omega
 unfold wgt
 rw[show wdL k (p78 (redR N)) (q.toNat^(p78 (redR N)).length-1) (List.replicate (p78 (redR N)).length 0)=allW k (p78 (redR N))from rfl]at e2
 rw[←hK]at e3⊢
 rw[o10 rfl T19 rfl]
 unfold F19 c19
 simp(disch:=first|omega|fail) only[push_cast,seval,vrl,if_pos,if_neg,e1,e2,hk1]
 rw[e3]
 simp(disch:=first|omega|fail) only[push_cast,seval,vrl,if_pos,if_neg]
end
section
variable {q:Int} [IsFld q] {k nl nr nl2 nw:Nat} {R:List (List (El q))} {w:List (El q)}
def nrB(w b x:List (El q)):List (El q):=if apW (vs x) (vs w)<apW (vs b) (vs w)then x else b
theorem bb9{x:List (El q)}(hx:x.length=w.length):apE (vs x) (vs w)=(apW (vs x) (vs w):Int):=by unfold apE;rw[if_pos (by rw[fi2,fi2,hx])]
theorem yu0(hq:q≤1000000){T1 T2:Tree}: ∀(i:Nat) (p s s':List Int),p.length=i→(p++s).length≤1000000→(∀a∈p,0≤a∧a<q)→qr3 q s=(s',false)→ ∃j:Int,(0≤j↔(qr3 q (p++s)).2=true)∧ ∀ks,
 vgoL W ⟨h26,[.tmp 4, .tmp 5, .tmp 6],0⟩ [3,8,45,47,49,50,137] c26L0 (.blk 2 [3,8,45,47,49,50,137]::ks) [(3, .own 0 []),(8, .own 1 []),(45, .own 2 []),(47, .fz true (pF q)),(49, .own 3 []),(50, .x (.int .i64 ((i:Int)-1))),(137, .x (.bool false))] [T1,T2, .pt 25 [.v (.int .i64 q), .v (.int .i64 k), .fz (.sl nl 0 1 (lvs nr (R.map vs)))], .sl nl2 3 1 (ivs (p++s'))]=
  vgo W ⟨h26,[.tmp 4, .tmp 5, .tmp 6],0⟩ ks (VFr.of [(3, .own 0 []),(8, .own 1 []),(45, .own 2 []),(47, .fz true (pF q)),(49, .own 3 []),(50, .x (.int .i64 j)),(137, .x (.bool false))]) [T1,T2, .pt 25 [.v (.int .i64 q), .v (.int .i64 k), .fz (.sl nl 0 1 (lvs nr (R.map vs)))], .sl nl2 3 1 (ivs (qr3 q (p++s)).1)]
 |0,p,s,s',hi,hn,hd,hs=>by
  obtain rfl:p=[]:=List.eq_nil_of_length_eq_zero hi
  rw[List.nil_append,List.nil_append,hs]
  refine⟨-1,by simp,fun ks=> ?_⟩
  rw[sb5 c26L0.eq_def]
  simp(disch:=first|omega|fail) only[push_cast,seval,vrl,if_pos,if_neg]
 |i+1,p,s,s',hi,hn,hd,hs=>by
  obtain⟨p',a,rfl⟩: ∃p' a,p=p'++[a]:=⟨p.dropLast,p.getLast (by intro h;subst h;simp at hi),(List.dropLast_concat_getLast _).symm⟩
  have hp'l:p'.length=i:=by simpa using hi
  have ha:=hd a (by simp)
  rw[List.append_assoc,List.singleton_append]at hn⊢
  rw[List.append_assoc,List.singleton_append]
  have hsl:s'.length=s.length:=by have:=pd1 q s;rw[hs]at this;exact this
  have hlen:(p'++a::s').length≤1000000:=by simp[hsl]at hn⊢;omega
  have hi2:i<(p'++a::s').length:=by simp;omega
  have l1:=qe6 (s:=s') (a:=a) hp'l
  have l2:=qe6 (s:=s') (a:=a+1) hp'l
  have t1:=ri5 (s:=s') (a:=a) (b:=a+1) hp'l
  have t2:=ri5 (s:=s') (a:=a+1) (b:=0) hp'l
  have e2:(p'++(a+1)::s').length=(p'++a::s').length:=by simp
  have hw:((i+1:Nat):Int)-1=(i:Int):=by omega
  rw[hw]
  by_cases hlt:a+1<q
  ·have hnx:qr3 q (a::s)=((a+1)::s',true):=by rw[qr3,hs];simp only;rw[if_pos hlt]
   rw[vq6 hnx p']
   refine⟨i,⟨fun _=>rfl,fun _=>by omega⟩,fun ks=> ?_⟩
   rw[sb5 c26L0.eq_def]
   simp(disch:=first|omega|fail) only[push_cast,seval,vrl,if_pos,if_neg,l1,l2,t1,e2,dec_lt hlt]
  ·have hnx:qr3 q (a::s)=(0::s',false):=by rw[qr3,hs];simp only;rw[if_neg hlt]
   obtain⟨j,j1,j2⟩:=yu0 hq (T1:=T1) (T2:=T2) i p' (a::s) (0::s') hp'l hn (fun c hc=>hd c (by simp[hc])) hnx
   refine⟨j,j1,fun ks=> ?_⟩
   rw[←j2 ks,sb5 c26L0.eq_def]
   simp(disch:=first|omega|fail) only[push_cast,seval,vrl,if_pos,if_neg,l1,l2,t1,t2,e2,cw6 (Int.not_lt.1 hlt)]
theorem z89{T T3 T4 T5:Tree}{b:List (El q)}(hb:0<b.length):wb3 [T, .pt 28 [.sl 2 3 1 (ivs (vs b))],T3,T4,T5] 0 (.own 1 [0])=some false:=by
 have h1:vsl [T, .pt 28 [.sl 2 3 1 (ivs (vs b))],T3,T4,T5] (.own 1 [0])=some (.o 1 [0] 2 3 1 (ivs (vs b)) 0 ((ivs (vs b)).length/1)):=rfl
 have h2:(ivs (vs b)).length/1≠0:=by rw[Nat.div_one];unfold ivs;rw[List.length_map,fi2];omega
 unfold wb3
 simp only[h1]
 rw[if_neg h2]
theorem xv3(j:Int){z:List (El q)}(j1:0≤j↔(qr3 q (vs z)).2=true)(h:(qr3 q (vs z)).2=false):j<0:=by
 by_cases h0:0≤j
 ·rw[h]at j1;exact absurd (j1.1 h0) (by decide)
 ·omega
theorem oe0(hm:R.length≤64)(hR: ∀r∈R,r.length=k)(hk:k≤64)(hw:w.length=k)(z b:List (El q))(hz:z.length=R.length)(hb:b.length=k)(h0:0<k): ∃j:Int,(0≤j↔(qr3 q (vs z)).2=true)∧ ∀ks kz,ks= .blk 1000 [137,3,8]::kz→
 (0≤j→vgoL W ⟨h26,[.tmp 4, .tmp 5, .tmp 6],0⟩ [3,8,45,47,49,137] c26L1 (.blk 0 [3,8,137]::ks) [(3, .own 0 []),(8, .own 1 []),(45, .own 2 []),(47, .fz true (pF q)),(49, .own 3 []),(137, .x (.bool false))] [.pt 28 [.fz (.sl nw 0 1 (ivs (vs w)))], .pt 28 [.sl 2 3 1 (ivs (vs b))], .pt 25 [.v (.int .i64 q), .v (.int .i64 k), .fz (.sl nl 0 1 (lvs nr (R.map vs)))], .sl 0 3 1 (ivs (vs z))]=
   vgoL W ⟨h26,[.tmp 4, .tmp 5, .tmp 6],0⟩ [3,8,45,47,49,137] c26L1 (.blk 0 [3,8,137]::ks) [(3, .own 0 []),(8, .own 1 []),(45, .own 2 []),(47, .fz true (pF q)),(49, .own 3 []),(137, .x (.bool false))] [.pt 28 [.fz (.sl nw 0 1 (ivs (vs w)))], .pt 28 [.sl 2 3 1 (ivs (vs (nrB w b (encL k z R))))], .pt 25 [.v (.int .i64 q), .v (.int .i64 k), .fz (.sl nl 0 1 (lvs nr (R.map vs)))], .sl 0 3 1 (ivs (vs (yv5 z)))])∧
 (j<0→vgoL W ⟨h26,[.tmp 4, .tmp 5, .tmp 6],0⟩ [3,8,45,47,49,137] c26L1 (.blk 0 [3,8,137]::ks) [(3, .own 0 []),(8, .own 1 []),(45, .own 2 []),(47, .fz true (pF q)),(49, .own 3 []),(137, .x (.bool false))] [.pt 28 [.fz (.sl nw 0 1 (ivs (vs w)))], .pt 28 [.sl 2 3 1 (ivs (vs b))], .pt 25 [.v (.int .i64 q), .v (.int .i64 k), .fz (.sl nl 0 1 (lvs nr (R.map vs)))], .sl 0 3 1 (ivs (vs z))]=
   vgo W ⟨h26,[.tmp 4, .tmp 5, .tmp 6],0⟩ kz (VFr.of [(137, .x (.bool false)),(3, .own 0 []),(8, .own 1 [])]) [.pt 28 [.fz (.sl nw 0 1 (ivs (vs w)))], .pt 28 [.sl 2 3 1 (ivs (vs (nrB w b (encL k z R))))], .pt 25 [.v (.int .i64 q), .v (.int .i64 k), .fz (.sl nl 0 1 (lvs nr (R.map vs)))], .sl 0 3 1 (ivs (vs (yv5 z)))]):=by
 have hqh:=q_hi (q:=q)
 obtain⟨j,j1,j2⟩:=yu0 (q:=q) (k:=k) (nl:=nl) (nr:=nr) (R:=R) (nl2:=0) (by omega) (T1:= .pt 28 [.fz (.sl nw 0 1 (ivs (vs w)))]) (T2:= .pt 28 [.sl 2 3 1 (ivs (vs (nrB w b (encL k z R))))]) z.length (vs z) [] [] (by rw[fi2]) (by rw[List.append_nil,fi2];omega) (fun a ha=>oa6 z a ha) rfl
 rw[List.append_nil]at j1
 simp only[List.append_nil]at j2
 rw[←mw7]at j2
 have e1:=fun b nl nr nl2=>gm8 (q:=q) (k:=k) (b:=b) (nl:=nl) (nr:=nr) (nl2:=nl2) (m:=z) (R:=R) hz (by omega) hR (by omega)
 have hel:(encL k z R).length=k:=b87 z R
 have e2:=fun b b' nl nl'=>w74 (b:=b) (b':=b') (nl:=nl) (nl':=nl') (a:=vs (encL k z R)) (c:=vs w) (by rw[fi2];omega) (by rw[fi2];omega)
 have e3:=fun b1 b' nl nl'=>w74 (b:=b1) (b':=b') (nl:=nl) (nl':=nl') (a:=vs b) (c:=vs w) (by rw[fi2];omega) (by rw[fi2];omega)
 simp only[bb9 (show(encL k z R).length=w.length by omega)]at e2
 simp only[bb9 (show b.length=w.length by omega)]at e3
 have e4:=fun T T3 T4 T5=>z89 (T:=T) (T3:=T3) (T4:=T4) (T5:=T5) (b:=b) (by omega)
 have hzl:(vs z).length=z.length:=fi2 z
 unfold nrB at j2⊢
 by_cases h:apW (vs (encL k z R)) (vs w)<apW (vs b) (vs w)
 ·have hd:(apW (vs (encL k z R)) (vs w):Int)<apW (vs b) (vs w):=by omega
  rw[if_pos h]at j2⊢
  refine⟨j,j1,fun ks kz hks=>⟨fun hj=> ?_,fun hj=> ?_⟩⟩
  ·rw[hks,sb5 c26L1.eq_def]
   simp(disch:=first|omega|fail) only[push_cast,seval,vrl,if_pos,if_neg,e1,e2,e3,e4,hzl,dec_lt hd]
   rw[j2]
   simp(disch:=first|omega|fail) only[push_cast,seval,vrl,if_pos,if_neg,cw6 hj]
  ·rw[hks,sb5 c26L1.eq_def]
   simp(disch:=first|omega|fail) only[push_cast,seval,vrl,if_pos,if_neg,e1,e2,e3,e4,hzl,dec_lt hd]
   rw[j2]
   simp(disch:=first|omega|fail) only[push_cast,seval,vrl,if_pos,if_neg,dec_lt hj]
 ·have hd:(apW (vs b) (vs w):Int)≤apW (vs (encL k z R)) (vs w):=by omega
  rw[if_neg h]at j2⊢
  refine⟨j,j1,fun ks kz hks=>⟨fun hj=> ?_,fun hj=> ?_⟩⟩
  ·rw[hks,sb5 c26L1.eq_def]
   simp(disch:=first|omega|fail) only[push_cast,seval,vrl,if_pos,if_neg,e1,e2,e3,e4,hzl,cw6 hd]
   rw[j2]
   simp(disch:=first|omega|fail) only[push_cast,seval,vrl,if_pos,if_neg,cw6 hj]
  ·rw[hks,sb5 c26L1.eq_def]
   simp(disch:=first|omega|fail) only[push_cast,seval,vrl,if_pos,if_neg,e1,e2,e3,e4,hzl,cw6 hd]
   rw[j2]
   simp(disch:=first|omega|fail) only[push_cast,seval,vrl,if_pos,if_neg,dec_lt hj]
theorem z39(hm:R.length≤64)(hR: ∀r∈R,r.length=k)(hk:k≤64)(hw:w.length=k)(z:List (El q))(hz:z.length=R.length): ∃j:Int,(0≤j↔(qr3 q (vs z)).2=true)∧ ∀ks kz,ks= .blk 1000 [137,3,8]::kz→
 (0≤j→vgoL W ⟨h26,[.tmp 4, .tmp 5, .tmp 6],0⟩ [3,8,45,47,49,137] c26L1 (.blk 0 [3,8,137]::ks) [(3, .own 0 []),(8, .own 1 []),(45, .own 2 []),(47, .fz true (pF q)),(49, .own 3 []),(137, .x (.bool false))] [.pt 28 [.fz (.sl nw 0 1 (ivs (vs w)))], .pt 28 [.v (.slice none 0 0)], .pt 25 [.v (.int .i64 q), .v (.int .i64 k), .fz (.sl nl 0 1 (lvs nr (R.map vs)))], .sl 0 3 1 (ivs (vs z))]=
   vgoL W ⟨h26,[.tmp 4, .tmp 5, .tmp 6],0⟩ [3,8,45,47,49,137] c26L1 (.blk 0 [3,8,137]::ks) [(3, .own 0 []),(8, .own 1 []),(45, .own 2 []),(47, .fz true (pF q)),(49, .own 3 []),(137, .x (.bool false))] [.pt 28 [.fz (.sl nw 0 1 (ivs (vs w)))], .pt 28 [.sl 2 3 1 (ivs (vs (encL k z R)))], .pt 25 [.v (.int .i64 q), .v (.int .i64 k), .fz (.sl nl 0 1 (lvs nr (R.map vs)))], .sl 0 3 1 (ivs (vs (yv5 z)))])∧
 (j<0→vgoL W ⟨h26,[.tmp 4, .tmp 5, .tmp 6],0⟩ [3,8,45,47,49,137] c26L1 (.blk 0 [3,8,137]::ks) [(3, .own 0 []),(8, .own 1 []),(45, .own 2 []),(47, .fz true (pF q)),(49, .own 3 []),(137, .x (.bool false))] [.pt 28 [.fz (.sl nw 0 1 (ivs (vs w)))], .pt 28 [.v (.slice none 0 0)], .pt 25 [.v (.int .i64 q), .v (.int .i64 k), .fz (.sl nl 0 1 (lvs nr (R.map vs)))], .sl 0 3 1 (ivs (vs z))]=
   vgo W ⟨h26,[.tmp 4, .tmp 5, .tmp 6],0⟩ kz (VFr.of [(137, .x (.bool false)),(3, .own 0 []),(8, .own 1 [])]) [.pt 28 [.fz (.sl nw 0 1 (ivs (vs w)))], .pt 28 [.sl 2 3 1 (ivs (vs (encL k z R)))], .pt 25 [.v (.int .i64 q), .v (.int .i64 k), .fz (.sl nl 0 1 (lvs nr (R.map vs)))], .sl 0 3 1 (ivs (vs (yv5 z)))]):=by
 have hqh:=q_hi (q:=q)
 obtain⟨j,j1,j2⟩:=yu0 (q:=q) (k:=k) (nl:=nl) (nr:=nr) (R:=R) (nl2:=0) (by omega) (T1:= .pt 28 [.fz (.sl nw 0 1 (ivs (vs w)))]) (T2:= .pt 28 [.sl 2 3 1 (ivs (vs (encL k z R)))]) z.length (vs z) [] [] (by rw[fi2]) (by rw[List.append_nil,fi2];omega) (fun a ha=>oa6 z a ha) rfl
 rw[List.append_nil]at j1
 simp only[List.append_nil]at j2
 rw[←mw7]at j2
 have e1:=fun b nl nr nl2=>gm8 (q:=q) (k:=k) (b:=b) (nl:=nl) (nr:=nr) (nl2:=nl2) (m:=z) (R:=R) hz (by omega) hR (by omega)
 have hzl:(vs z).length=z.length:=fi2 z
 refine⟨j,j1,fun ks kz hks=>⟨fun hj=> ?_,fun hj=> ?_⟩⟩
 ·rw[hks,sb5 c26L1.eq_def]
  simp(disch:=first|omega|fail) only[push_cast,seval,vrl,if_pos,if_neg,e1,hzl]
  rw[j2]
  simp(disch:=first|omega|fail) only[push_cast,seval,vrl,if_pos,if_neg,cw6 hj]
 ·rw[hks,sb5 c26L1.eq_def]
  simp(disch:=first|omega|fail) only[push_cast,seval,vrl,if_pos,if_neg,e1,hzl]
  rw[j2]
  simp(disch:=first|omega|fail) only[push_cast,seval,vrl,if_pos,if_neg,dec_lt hj]
def nrW(w:List (El q)):List (List (El q))→List (El q)
 | []=>[]
 |x::l=>l.foldl (nrB w) x
theorem jc1{b x:List (El q)}(hb:b.length=k)(hx:x.length=k):(nrB w b x).length=k:=by unfold nrB;split<;>assumption
theorem zk3: ∀(l:List (List (El q))) (b:List (El q)),b.length=k→(∀x∈l,x.length=k)→(l.foldl (nrB w) b).length=k
 | [],b,hb,_=>hb
 |x::l,b,hb,h=>zk3 l _ (jc1 hb (h x List.mem_cons_self)) fun y hy=>h y (List.mem_cons_of_mem _ hy)
theorem ki8(hm:R.length≤64)(hR: ∀r∈R,r.length=k)(h0:0<k)(hk:k≤64)(hw:w.length=k){pp:Nat}: ∀(n:Nat) (z b:List (El q)),Left q pp n z→z.length=R.length→b.length=k→ ∀ks kz,ks= .blk 1000 [137,3,8]::kz→
 vgoL W ⟨h26,[.tmp 4, .tmp 5, .tmp 6],0⟩ [3,8,45,47,49,137] c26L1 (.blk 0 [3,8,137]::ks) [(3, .own 0 []),(8, .own 1 []),(45, .own 2 []),(47, .fz true (pF q)),(49, .own 3 []),(137, .x (.bool false))] [.pt 28 [.fz (.sl nw 0 1 (ivs (vs w)))], .pt 28 [.sl 2 3 1 (ivs (vs b))], .pt 25 [.v (.int .i64 q), .v (.int .i64 k), .fz (.sl nl 0 1 (lvs nr (R.map vs)))], .sl 0 3 1 (ivs (vs z))]=
  vgo W ⟨h26,[.tmp 4, .tmp 5, .tmp 6],0⟩ kz (VFr.of [(137, .x (.bool false)),(3, .own 0 []),(8, .own 1 [])]) [.pt 28 [.fz (.sl nw 0 1 (ivs (vs w)))], .pt 28 [.sl 2 3 1 (ivs (vs ((wdL k R n z).foldl (nrB w) b)))], .pt 25 [.v (.int .i64 q), .v (.int .i64 k), .fz (.sl nl 0 1 (lvs nr (R.map vs)))], .sl 0 3 1 (ivs (vs (v66 n z)))]
 |0,z,b,hl,hz,hb,ks,kz,hks=>by
  obtain⟨j,j1,j2⟩:=oe0 (nl:=nl) (nr:=nr) (nw:=nw) hm hR hk hw z b hz hb h0
  rw[(j2 ks kz hks).2 (xv3 j j1 hl.last),wdL,List.foldl_cons,List.foldl_nil,v66]
 |n+1,z,b,hl,hz,hb,ks,kz,hks=>by
  obtain⟨j,j1,j2⟩:=oe0 (nl:=nl) (nr:=nr) (nw:=nw) hm hR hk hw z b hz hb h0
  obtain⟨l1,l2⟩:=hl.more
  rw[(j2 ks kz hks).1 (j1.2 l1),wdL,List.foldl_cons,v66]
  exact ki8 hm hR h0 hk hw n (yv5 z) _ l2 (by rw[l71,hz]) (jc1 hb (b87 z R)) ks kz hks
theorem ty0(hm:R.length≤64)(hR: ∀r∈R,r.length=k)(h0:0<k)(hk:k≤64)(hw:w.length=k){pp:Nat}: ∀(n:Nat) (z:List (El q)),Left q pp n z→z.length=R.length→ ∀ks kz,ks= .blk 1000 [137,3,8]::kz→
 vgoL W ⟨h26,[.tmp 4, .tmp 5, .tmp 6],0⟩ [3,8,45,47,49,137] c26L1 (.blk 0 [3,8,137]::ks) [(3, .own 0 []),(8, .own 1 []),(45, .own 2 []),(47, .fz true (pF q)),(49, .own 3 []),(137, .x (.bool false))] [.pt 28 [.fz (.sl nw 0 1 (ivs (vs w)))], .pt 28 [.v (.slice none 0 0)], .pt 25 [.v (.int .i64 q), .v (.int .i64 k), .fz (.sl nl 0 1 (lvs nr (R.map vs)))], .sl 0 3 1 (ivs (vs z))]=
  vgo W ⟨h26,[.tmp 4, .tmp 5, .tmp 6],0⟩ kz (VFr.of [(137, .x (.bool false)),(3, .own 0 []),(8, .own 1 [])]) [.pt 28 [.fz (.sl nw 0 1 (ivs (vs w)))], .pt 28 [.sl 2 3 1 (ivs (vs (nrW w (wdL k R n z))))], .pt 25 [.v (.int .i64 q), .v (.int .i64 k), .fz (.sl nl 0 1 (lvs nr (R.map vs)))], .sl 0 3 1 (ivs (vs (v66 n z)))]
 |0,z,hl,hz,ks,kz,hks=>by
  obtain⟨j,j1,j2⟩:=z39 (nl:=nl) (nr:=nr) (nw:=nw) hm hR hk hw z hz
  rw[(j2 ks kz hks).2 (xv3 j j1 hl.last),wdL,nrW,List.foldl_nil,v66]
 |n+1,z,hl,hz,ks,kz,hks=>by
  obtain⟨j,j1,j2⟩:=z39 (nl:=nl) (nr:=nr) (nw:=nw) hm hR hk hw z hz
  obtain⟨l1,l2⟩:=hl.more
  rw[(j2 ks kz hks).1 (j1.2 l1),wdL,nrW,v66]
  exact ki8 hm hR h0 hk hw n (yv5 z) _ l2 (by rw[l71,hz]) (b87 z R) ks kz hks
theorem jq3(h: ∀x∈allW k R,x.length=k)(hne:0<(allW k R).length):(nrW w (allW k R)).length=k:=by
 cases ha:allW k R with
 |nil=>rw[ha]at hne;exact absurd hne (by simp)
 |cons x l=>
  rw[ha]at h
  rw[nrW]
  exact zk3 l x (h x List.mem_cons_self) fun y hy=>h y (List.mem_cons_of_mem _ hy)
theorem ly5{N:List (List (El q))}(he:gi9 q k (N.map vs)=0)(h0:0<k)(hk:k≤64)(hl:N.length≤64)(hr: ∀r∈N,r.length=k)(hf:fewQ q (redR N).length 1=true)(hw:w.length=k)(hne:0<(allW k (p78 (redR N))).length)(hall: ∀x∈allW k (p78 (redR N)),x.length=k):
 o24 W 26 [.agg [.x (.int .i64 q), .x (.int .i64 k), .fz true (.sl nl 0 1 (lvs nr (N.map vs)))], .fz true (.sl nw 0 1 (ivs (vs w)))] []=some (.tup [.own 0 [], .x (.int .i64 (apW (vs (nrW w (allW k (p78 (redR N))))) (vs w))), .x (.int .i64 0)],[.sl 2 3 1 (ivs (vs (nrW w (allW k (p78 (redR N))))))],[]):=by
 have e1:=fun nl nr=>lw9 (nl:=nl) (nr:=nr) he h0 hk hl hr
 simp only[hf,if_true]at e1
 obtain⟨r1,r2,_⟩:=bi2 hr
 have hle:=ew4 hr
 have hq:=aw0 (q:=q)
 have hrl:(p78 (redR N)).length=(redR N).length:=gb4
 have e2:=fun nl nr=>q96 (q:=q) (k:=k) (nl:=nl) (nr:=nr) (M:=pvR (redR N))
 have e3:=fun nl nr nw ks kz hks=>ty0 (q:=q) (k:=k) (nl:=nl) (nr:=nr) (nw:=nw) (w:=w) (R:=p78 (redR N)) (by omega) (zu4 r2) h0 hk hw (pp:=q.toNat) (q.toNat^(p78 (redR N)).length-1) (List.replicate (p78 (redR N)).length 0) (Left.start (by omega) _) (by simp) ks kz hks
 rw[←lo1]at e3
 have e4:=fun nl nr b nl2=>gd1 (q:=q) (k:=k) (nl:=nl) (nr:=nr) (nl2:=nl2) (b:=b) (M:=pvR (redR N)) (w:=vs w) (by rw[fi2];omega)
 simp only[op3 hw]at e4
 have h1:=nu3 (redR N)
 have hz:List.replicate (redR N).length (0:Int)=vs (List.replicate (p78 (redR N)).length (0:El q)):=by rw[hrl,←qj2];rfl
 have hbl:=jq3 (w:=w) hall hne
 have e5:=fun b b' nl nl'=>w74 (b:=b) (b':=b') (nl:=nl) (nl':=nl') (a:=vs (nrW w (allW k (p78 (redR N))))) (c:=vs w) (by rw[fi2];omega) (by rw[fi2];omega)
 simp only[bb9 (show(nrW w (allW k (p78 (redR N)))).length=w.length by omega)]at e5
 have hfold:wdL k (p78 (redR N)) (q.toNat^(p78 (redR N)).length-1) (List.replicate (p78 (redR N)).length 0)=allW k (p78 (redR N)):=rfl
 rw[hfold]at e3
 rw[o10 rfl T26 rfl]
 unfold F26 c26
 simp(disch:=first|omega|fail) only[push_cast,seval,vrl,if_pos,if_neg,e1,e2,e4,h1,hz]
 rw[e3 _ _ _ _ _ rfl]
 simp(disch:=first|omega|fail) only[push_cast,seval,vrl,if_pos,if_neg,e5]
end
section
variable {q n:Int} {nl nr nw:Nat} {M:List (List Int)} {w:List Int}
theorem qc1{e:Int}(he:e≠0)(h: ∀nl nr,o24 W 75 [.agg [.x (.int .i64 q), .x (.int .i64 n), .fz true (.sl nl 0 1 (lvs nr M))]] []=some (.tup [.agg [.x (.int .i64 0), .x (.int .i64 0), .x (.slice none 0 0)], .x (.int .i64 e)],[],[])):
 o24 W 26 [.agg [.x (.int .i64 q), .x (.int .i64 n), .fz true (.sl nl 0 1 (lvs nr M))], .fz true (.sl nw 0 1 (ivs w))] []=some (.tup [.x (.slice none 0 0), .x (.int .i64 0), .x (.int .i64 e)],[],[]):=by
 rw[o10 rfl T26 rfl]
 unfold F26 c26
 simp(disch:=first|omega|fail) only[push_cast,seval,vrl,if_pos,if_neg,h,nb8 he]
end
section
variable {q:Int} [IsFld q] {k nl nr nw:Nat} {N:List (List (El q))} {w:List Int}
theorem de4(he:gi9 q k (N.map vs)=0)(h0:0<k)(hk:k≤64)(hl:N.length≤64)(hr: ∀r∈N,r.length=k)(hf:fewQ q (redR N).length 1=true)(hwl:w.length≤9223372036854775807)(hw:hk8 q k w≠0):
 o24 W 26 [.agg [.x (.int .i64 q), .x (.int .i64 k), .fz true (.sl nl 0 1 (lvs nr (N.map vs)))], .fz true (.sl nw 0 1 (ivs w))] []=some (.tup [.x (.slice none 0 0), .x (.int .i64 0), .x (.int .i64 (hk8 q k w))],[],[]):=by
 have e1:=fun nl nr=>lw9 (nl:=nl) (nr:=nr) he h0 hk hl hr
 simp only[hf,if_true]at e1
 have e4:=fun nl nr b nl2=>gd1 (q:=q) (k:=k) (nl:=nl) (nr:=nr) (nl2:=nl2) (b:=b) (M:=pvR (redR N)) (w:=w) hwl
 rw[o10 rfl T26 rfl]
 unfold F26 c26
 simp(disch:=first|omega|fail) only[push_cast,seval,vrl,if_pos,if_neg,e1,e4,nb8 hw]
end
set_option maxHeartbeats 1600000
section
variable {q:Int} [IsFld q] {k nl nr nl2:Nat} {b:Bool} {w:List (El q)}
theorem pr6(hk:k≤64)(hw:w.length=k){Ws:List (List (El q))}(hW: ∀x∈Ws,x.length=k)(hWl:Ws.length≤10000): ∀(d i bi:Nat) (cur:List (El q)),i+d=Ws.length→Ws[bi]? =some cur→ ∃bi':Nat,Ws[bi']? =some ((Ws.drop i).foldl (nrB w) cur)∧ ∀ks,
 vgoL W ⟨hNo,[.tmp 4, .tmp 5],0⟩ [1,6,7,8] c27L0 (.blk 0 [1,6,7]::ks) [(1, .fz b (.sl nl2 0 1 (ivs (vs w)))),(6, .own 0 []),(7, .x (.int .i64 bi)),(8, .x (.int .i64 i))] [.sl 1 28 1 (lls 2 (Ws.map vs))]=vgo W ⟨hNo,[.tmp 4, .tmp 5],0⟩ ks (VFr.of [(1, .fz b (.sl nl2 0 1 (ivs (vs w)))),(6, .own 0 []),(7, .x (.int .i64 bi'))]) [.sl 1 28 1 (lls 2 (Ws.map vs))]
 |0,i,bi,cur,hi,hb=>by
  have hl1:(Ws.map vs).length=Ws.length:=List.length_map _
  refine⟨bi,by rw[List.drop_eq_nil_of_le (by omega)];exact hb,fun ks=> ?_⟩
  rw[sb5 c27L0.eq_def]
  simp(disch:=first|omega|fail) only[push_cast,seval,vrl,if_pos,if_neg,hl1]
 |d+1,i,bi,cur,hi,hb=>by
  have hl1:(Ws.map vs).length=Ws.length:=List.length_map _
  obtain⟨x,hx⟩:=ge6 (l:=Ws) (i:=i) (by omega)
  have hxk:=hW x (List.mem_of_getElem? hx)
  have hck:=hW cur (List.mem_of_getElem? hb)
  have hbl:bi<Ws.length:=(List.getElem?_eq_some_iff.1 hb).1
  have m1:=mla (nl:=2) hx
  have m2:=mla (nl:=2) hb
  have e2:=fun b b' nl nl'=>vg3 (b:=b) (b':=b') (nl:=nl) (nl':=nl') (a:=vs x) (c:=vs w) (by rw[fi2];omega) (by rw[fi2];omega)
  have e3:=fun b b' nl nl'=>vg3 (b:=b) (b':=b') (nl:=nl) (nl':=nl') (a:=vs cur) (c:=vs w) (by rw[fi2];omega) (by rw[fi2];omega)
  simp only[bb9 (show x.length=w.length by omega)]at e2
  simp only[bb9 (show cur.length=w.length by omega)]at e3
  rw[ja2 hx,List.foldl_cons]
  by_cases h:apW (vs x) (vs w)<apW (vs cur) (vs w)
  ·have hd:(apW (vs x) (vs w):Int)<apW (vs cur) (vs w):=by omega
   obtain⟨bi',h1,h2⟩:=pr6 hk hw hW hWl d (i+1) i x (by omega) hx
   rw[show nrB w cur x=x by unfold nrB;rw[if_pos h]]
   refine⟨bi',h1,fun ks=> ?_⟩
   have ih:=h2 ks
   rw[Int.natCast_add,Int.natCast_one]at ih
   rw[←ih,sb5 c27L0.eq_def]
   simp(disch:=first|omega|fail) only[push_cast,seval,vrl,if_pos,if_neg,hl1,m1,m2,e2,e3,dec_lt hd]
  ·have hd:(apW (vs cur) (vs w):Int)≤apW (vs x) (vs w):=by omega
   obtain⟨bi',h1,h2⟩:=pr6 hk hw hW hWl d (i+1) bi cur (by omega) hb
   rw[show nrB w cur x=cur by unfold nrB;rw[if_neg h]]
   refine⟨bi',h1,fun ks=> ?_⟩
   have ih:=h2 ks
   rw[Int.natCast_add,Int.natCast_one]at ih
   rw[←ih,sb5 c27L0.eq_def]
   simp(disch:=first|omega|fail) only[push_cast,seval,vrl,if_pos,if_neg,hl1,m1,m2,e2,e3,cw6 hd]
theorem ud8{N:List (List (El q))}(h0:0<k)(hk:k≤64)(hl:N.length≤64)(hr: ∀r∈N,r.length=k)(hf:fewQ q (redR N).length 1=true)(hw:w.length=k):
 o24 W 27 [.agg [.x (.int .i64 q), .x (.int .i64 k), .fz true (.sl nl 0 1 (lvs nr (N.map vs)))], .fz b (.sl nl2 0 1 (ivs (vs w)))] []=some (.tup [.own 0 [], .x (.int .i64 (apW (vs (nrW w (allW k (p78 (redR N))))) (vs w)))],[.sl 2 3 1 (ivs (vs (nrW w (allW k (p78 (redR N))))))],[]):=by
 have e1:=fun nl nr n=>vd8 (q:=q) (nl:=nl) (nr:=nr) (n:=n) (by omega) hr (by omega)
 obtain⟨r1,r2,_⟩:=bi2 hr
 have hle:=ew4 hr
 have hq:=aw0 (q:=q)
 have hrl:(p78 (redR N)).length=(redR N).length:=gb4
 have hf2:fewQ q (p78 (redR N)).length 1=true:=by rw[hrl];exact hf
 have hpw:=ja4 hf2
 have e2:=fun nl nr=>oy6 (q:=q) (k:=k) (nl:=nl) (nr:=nr) (R:=p78 (redR N)) (by omega) (zu4 r2) h0 hk (pp:=q.toNat) (by omega) (by omega)
 rw[←lo1]at e2
 obtain⟨w1,w2,w3⟩:=et1 (k:=k) hf2
 rw[show wdL k (p78 (redR N)) (q.toNat^(p78 (redR N)).length-1) (List.replicate (p78 (redR N)).length 0)=allW k (p78 (redR N))from rfl]at e2
 have hbl:=jq3 (w:=w) w3 w2
 generalize allW k (p78 (redR N))=Ws at*
 obtain⟨x,hx⟩:=ge6 (l:=Ws) (i:=0) w2
 obtain⟨bi,b1,b2⟩:=pr6 (b:=b) (nl2:=nl2) hk hw w3 (by omega) (Ws.length-1) 1 0 x (by omega) hx
 have hn:nrW w Ws=(Ws.drop 1).foldl (nrB w) x:=by
  cases Ws with
  |nil=>cases hx
  |cons y l=>cases hx;rfl
 rw[←hn]at b1
 have m1:=mla (nl:=2) b1
 have hl1:(Ws.map vs).length=Ws.length:=List.length_map _
 have hbi:bi<Ws.length:=(List.getElem?_eq_some_iff.1 b1).1
 have e3:=fun b b' nl nl'=>vg3 (b:=b) (b':=b') (nl:=nl) (nl':=nl') (a:=vs (nrW w Ws)) (c:=vs w) (by rw[fi2];omega) (by rw[fi2];omega)
 simp only[bb9 (show(nrW w Ws).length=w.length by omega)]at e3
 simp only[Int.natCast_zero,Int.natCast_one]at b2
 rw[o10 rfl T27 rfl]
 unfold F27 c27
 simp(disch:=first|omega|fail) only[push_cast,seval,vrl,if_pos,if_neg,e1,e2]
 rw[b2]
 simp(disch:=first|omega|fail) only[push_cast,seval,vrl,if_pos,if_neg,m1,hl1,e3]
theorem h41{N:List (List (El q))}(he:gi9 q k (N.map vs)=0)(hk:k≤64)(hl:N.length≤64)(hr: ∀r∈N,r.length=k):
 o24 W 18 [.agg [.x (.int .i64 q), .x (.int .i64 k), .fz true (.sl nl 0 1 (lvs nr (N.map vs)))]] []=some (.x (.int .i64 (if fewQ q (redR N).length 1=true then 0 else 4)),[],[]):=by
 have e1:=fun nl nr=>hg6 (q:=q) (n:=k) (M:=N.map vs) (nl:=nl) (nr:=nr)
 have e2:=fun nl nr n=>vd8 (q:=q) (nl:=nl) (nr:=nr) (n:=n) (by omega) hr (by omega)
 have hle:=ew4 hr
 have hq:=aw0 (q:=q)
 have e3:=os1 (q:=q) (by omega) q_hi (k:=(redR N).length) (by omega)
 have h1:=nu3 (redR N)
 rw[o10 rfl T18 rfl]
 unfold F18 c18
 cases hf:fewQ q (redR N).length 1 with
 |true=>
  rw[hf]at e3
  rw[if_pos rfl]
  simp(disch:=first|omega|fail) only[push_cast,seval,vrl,if_pos,if_neg,e1,he,e2,h1,e3]
 |false=>
  rw[hf]at e3
  rw[if_neg (by decide)]
  simp(disch:=first|omega|fail) only[push_cast,seval,vrl,if_pos,if_neg,e1,he,e2,h1,e3]
end
theorem q45{q n:Int}{nl nr:Nat}{M:List (List Int)}(he: ¬gi9 q n M=0):o24 W 18 [.agg [.x (.int .i64 q), .x (.int .i64 n), .fz true (.sl nl 0 1 (lvs nr M))]] []=some (.x (.int .i64 (gi9 q n M)),[],[]):=by
 have e1:=fun nl nr=>hg6 (q:=q) (n:=n) (M:=M) (nl:=nl) (nr:=nr)
 rw[o10 rfl T18 rfl]
 unfold F18 c18
 simp(disch:=first|omega|fail) only[push_cast,seval,vrl,if_pos,if_neg,e1,nb8 he]
theorem be7{e:Int}(he:e≠0):o24 W 23 [.x (.int .i64 0), .x (.int .i64 e), .x (.int .i64 0), .x (.int .i64 e)] []=some (.x (.bool true),[],[]):=by
 rw[o10 rfl T23 rfl]
 unfold F23 c23
 simp(disch:=first|omega|fail) only[push_cast,seval,vrl,if_pos,if_neg,nb8 he]
theorem xz5{d:Int}:o24 W 23 [.x (.int .i64 d), .x (.int .i64 0), .x (.int .i64 d), .x (.int .i64 0)] []=some (.x (.bool true),[],[]):=by
 rw[o10 rfl T23 rfl]
 unfold F23 c23
 simp(disch:=first|omega|fail) only[push_cast,seval,vrl,if_pos,if_neg]
theorem an8{e:Int}(h:e≠0): ∀b b' nl nl',o24 W 22 [.fz b (.sl nl 0 1 []), .x (.int .i64 e), .fz b' (.sl nl' 0 1 []), .x (.int .i64 e)] []=some (.x (.bool true),[],[]):=fun b b' nl nl'=>by
 have:=eb4 (b:=b) (nl:=nl) (b':=b') (nl':=nl') (l:=[]) (k:=[]) (e:=e) (f:=e) (by simp)
 rw[if_neg h,decide_eq_true rfl]at this
 exact this
theorem ur4{l:List Int}(hl:l.length≤9223372036854775807): ∀b b' nl nl',o24 W 22 [.fz b (.sl nl 0 1 (ivs l)), .x (.int .i64 0), .fz b' (.sl nl' 0 1 (ivs l)), .x (.int .i64 0)] []=some (.x (.bool true),[],[]):=fun b b' nl nl'=>by
 have:=eb4 (b:=b) (nl:=nl) (b':=b') (nl':=nl') (l:=l) (k:=l) (e:=0) (f:=0) hl
 rw[if_pos rfl,decide_eq_true rfl,decide_eq_true rfl]at this
 exact this
theorem c94: ∀b nl,o24 W 24 [.fz b (.sl nl 0 1 [])] []=some (.x (.int .i64 0),[],[]):=fun b nl=>w71 (l:=[]) (by simp)
theorem ic5{q n:Int}{nl nw:Nat}{M:List (List Int)}{w:List Int}(hl:M.length≤9223372036854775807)(hwl:w.length≤9223372036854775807):
 o24 W 4 [.agg [.x (.int .i64 q), .x (.int .i64 n), .fz true (.sl nl 0 1 (lvs 2 M))], .fz true (.sl nw 0 1 (ivs w))] []=some (.x (.bool true),[],[]):=by
 obtain⟨z1,w1⟩:=tr6 hl
 cases z1 with
 |true=>
  rw[o10 rfl T4 rfl]
  unfold F4 c4
  simp(disch:=first|omega|fail) only[push_cast,seval,vrl,if_pos,if_neg,w1]
 |false=>
 by_cases h100:100<(w.length:Int)
 ·rw[o10 rfl T4 rfl]
  unfold F4 c4
  simp(disch:=first|omega|fail) only[push_cast,seval,vrl,if_pos,if_neg,w1,dec_lt h100]
 ·have h100':=cw6 (Int.not_lt.1 h100)
  have bad: ∀e:Int,e≠0→(∀nl nr,o24 W 18 [.agg [.x (.int .i64 q), .x (.int .i64 n), .fz true (.sl nl 0 1 (lvs nr M))]] []=some (.x (.int .i64 e),[],[]))→(∀nl nr,o24 W 75 [.agg [.x (.int .i64 q), .x (.int .i64 n), .fz true (.sl nl 0 1 (lvs nr M))]] []=some (.tup [.agg [.x (.int .i64 0), .x (.int .i64 0), .x (.slice none 0 0)], .x (.int .i64 e)],[],[]))→
   o24 W 4 [.agg [.x (.int .i64 q), .x (.int .i64 n), .fz true (.sl nl 0 1 (lvs 2 M))], .fz true (.sl nw 0 1 (ivs w))] []=some (.x (.bool true),[],[]):=by
   intro e he h1 h2
   have e1:=fun nl nr=>by6 (nl:=nl) (nr:=nr) he h2
   have e2:=fun nl nr=>z42 (nl:=nl) (nr:=nr) he e1
   have e3:=fun nl nr nw=>qc1 (nl:=nl) (nr:=nr) (nw:=nw) (w:=w) he h2
   have e4:=an8 he
   have e5:=be7 he
   have e6:=c94
   rw[o10 rfl T4 rfl]
   unfold F4 c4
   simp(disch:=first|omega|fail) only[push_cast,seval,vrl,if_pos,if_neg,w1,h100',h1,nb8 he,e1,e2,e3,e4,e5,e6]
  by_cases he:gi9 q n M=0
  ·obtain⟨k,rfl,h0,hk,hf,N,rfl,hNl,hr⟩:=hs4 he
   have g1:=fun nl nr=>h41 (nl:=nl) (nr:=nr) he hk hNl hr
   have g2:=fun nl nr=>lw9 (nl:=nl) (nr:=nr) he h0 hk hNl hr
   cases hfew:fewQ q (redR N).length 1 with
   |false=>
    simp only[hfew,Bool.false_eq_true,if_false]at g1 g2
    exact bad 4 (by decide) g1 g2
   |true=>
    simp only[hfew,if_true]at g1
    have hlen:=rc0 (k:=k) (p78 (redR N))
    have e1:=fun nl nr=>ir7 (nl:=nl) (nr:=nr) he h0 hk hNl hr hfew
    have e2:=fun nl nr=>ia2 (nl:=nl) (nr:=nr) (l:=wgt k (p78 (redR N))) (by omega) (by omega) e1
    have e3:=fun nl nr=>x41 (nl:=nl) (nr:=nr) h0 hk hNl hr hfew
    have e4:=ur4 (l:=wgt k (p78 (redR N))) (by omega)
    have e5:=xz5 (d:=jq9 (wgt k (p78 (redR N))))
    have e6:=fun b nl=>w71 (b:=b) (nl:=nl) (l:=wgt k (p78 (redR N))) (by omega)
    have e7:=fun nl nr b nl2=>mo8 (q:=q) (k:=k) (nl:=nl) (nr:=nr) (b:=b) (nl2:=nl2) (M:=N.map vs) (w:=w) hwl
    by_cases hw:hk8 q k w=0
    ·obtain⟨a,rfl,hal⟩:=pu5 hw
     rw[hw]at e7
     have hrl:(p78 (redR N)).length=(redR N).length:=gb4
     obtain⟨w1',w2,w3⟩:=et1 (k:=k) (R:=p78 (redR N)) (by rw[hrl];exact hfew)
     have hbl:=jq3 (w:=a) w3 w2
     have e8:=fun nl nr nw=>ly5 (nl:=nl) (nr:=nr) (nw:=nw) he h0 hk hNl hr hfew hal w2 w3
     have e9:=fun nl nr b nl2=>ud8 (nl:=nl) (nr:=nr) (b:=b) (nl2:=nl2) h0 hk hNl hr hfew hal
     have e10:=fun b nl b' nl'=>nb2 (b:=b) (nl:=nl) (b':=b') (nl':=nl') (l:=vs (nrW a (allW k (p78 (redR N))))) (k:=vs (nrW a (allW k (p78 (redR N))))) (by rw[fi2];omega)
     simp only[decide_true]at e10
     rw[o10 rfl T4 rfl]
     unfold F4 c4
     simp(disch:=first|omega|fail) only[push_cast,seval,vrl,if_pos,if_neg,w1,h100',g1,e1,e2,e3,e4,e5,e6,e7,e8,e9,e10]
    ·have e8:=fun nl nr nw=>de4 (nl:=nl) (nr:=nr) (nw:=nw) he h0 hk hNl hr hfew hwl hw
     rw[o10 rfl T4 rfl]
     unfold F4 c4
     simp(disch:=first|omega|fail) only[push_cast,seval,vrl,if_pos,if_neg,w1,h100',g1,e1,e2,e3,e4,e5,e6,e7,nb8 hw,e8]
  ·exact bad _ he (fun nl nr=>q45 he) (fun nl nr=>vm5 he)
section
variable {h:H} {l:List AV} {ws:List Value}
theorem a25:Vm.VRL h [] (allZ h) (allZ h) [] []:=by rw[Vm.VRL]
theorem dp0(r:Vm.VRL h [] (allZ h) (allZ h) l ws)(v:Value):Vm.VRL h [] (allZ h) (allZ h) (.x v::l) (v::ws):=by
 rw[Vm.VRL];exact⟨v,ws,rfl,by rw[Vm.VR],r⟩
theorem qj4{sa:Option Addr}{c:Nat}{zs:List Int}(hr:RdI h sa c zs): ∀o,sa.map (·.block)=some o→allZ h o:=fun o ho=>by
 rcases hr with⟨rfl,_⟩|⟨_,o2,off,r2,rfl,h1,_⟩
 ·cases ho
 ·cases ho;exact h44 h1
theorem sk6(r:Vm.VRL h [] (allZ h) (allZ h) l ws){sa:Option Addr}{c:Nat}{zs:List Int}(hr:RdI h sa c zs):Vm.VRL h [] (allZ h) (allZ h) (.fz true (.sl 2 0 1 (ivs zs))::l) (.slice sa zs.length c::ws):=by
 rw[Vm.VRL];exact⟨_,ws,rfl,by rw[Vm.VR];exact pd9 hr (qj4 hr),r⟩
theorem ds5(r:Vm.VRL h [] (allZ h) (allZ h) l ws){sa:Option Addr}{c:Nat}{m:List (List Int)}(hr:RdLL h sa c m)(hu:ss4 h 1 sa=true):Vm.VRL h [] (allZ h) (allZ h) (.fz true (.sl 2 0 1 (lvs 2 m))::l) (.slice sa m.length c::ws):=by
 rw[Vm.VRL];exact⟨_,ws,rfl,by rw[Vm.VR];exact gl3 hr hu fun _ ho=>ho,r⟩
end
end Go.Proofs.Ytodbgomfeacdhaa
namespace Go.Am
theorem n61{P:Program}{w:World}{base:Nat}{t:TypeId}{fs:Array Field}(ht:P.underlying t=some (.struct fs)){cs:Array Value}(h:Value.okWide P w .any base t (.agg cs)){ts:List TypeId}(hts:P.cellTypes P.depth t=some ts)(hl:cs.size=ts.length){i:Nat}{v:Value}(hv:cs[i]? =some v){u:TypeId}(hu:ts[i]? =some u):Cell.okWide P w .any base u v:=by
 simp only[Value.okWide,ht]at h
 obtain⟨cs',h1,h2,ts',h3,h4,h5⟩:=h
 cases h1
 rw[hts]at h3
 cases h3
 obtain⟨u',h6,h7⟩:=h5 i v hv
 have hi:i<ts.length:=by rw[←hl];exact(Array.getElem?_eq_some_iff.1 hv).1
 rw[Nat.mod_eq_of_lt hi,hu]at h6
 cases h6
 exact h7
theorem bm1{P:Program}{w:World}{base:Nat}{t e:TypeId}{x:Addr}{len cap:Nat}(ht:P.underlying t=some (.slice e))(h:Cell.okWide P w .any base t (.slice (some x) len cap)):x.spot=none∧x.block<w.heap.size:=
 yk7 (base:=base) ht (by simp only[Value.okWide,ht];exact h)
section
variable {φ:Ren} {n:Nat} {v v':Value}
theorem lr3{a b:Int}(h:VR φ n v v')(h1:v.oneCell'=true):VR φ n (.agg #[.int .i64 a, .int .i64 b,v]) (.agg #[.int .i64 a, .int .i64 b,v']):=by
 refine .agg _ _ rfl (fun i hi=> ?_) fun i hi hi'=> ?_
 ·match i,hi with
  |0,_=>rfl
  |1,_=>rfl
  |2,_=>exact h1
 ·match i,hi with
  |0,_=>exact .int .i64 a
  |1,_=>exact .int .i64 b
  |2,_=>exact h
end
end Go.Am
namespace Go.Am
open Go.Deep Go.WideShapes Go.ChangeShapes
def w2(W:World)(x:Addr)(i:Nat)(q:Int×Int):Prop:=W.cell? (x.add (i*2))=some (.int .i64 q.1)∧W.cell? (x.add (i*2+1))=some (.int .i64 q.2)
section
variable {H:Type} {enc:TypeId×Value→H} {P:Program} {W:World} {base:Nat} {held:Bool} {t i3 s2 s3:TypeId} {f0 f1 f2:Field} {v:Value} {d:DataW H} {p:List MemPlace}
theorem c82(ht:P.underlying t=some (.struct #[f0,f1,f2]))(h3:P.underlying i3=some (.int .i64))(h22:P.underlying s2=some (.slice s3))(h23:P.underlying s3=some (.slice i3))
 (F:f0.type=i3∧f0.offset=0∧f1.type=i3∧f1.offset=1∧f2.type=s2∧f2.offset=2) (C:P.cellsOf i3=1∧P.cellsOf s2=1∧P.cellsOf s3=1∧P.cellsOf t=3) (hts:P.cellTypes P.depth t=some [i3,i3,s2])
 (hval:Value.okWide P W .any base t v) (h:DataW.Trod enc P W 0 (fun _=>true) held t v d p):
 ∃a b A len cap z,v= .agg #[.int .i64 a, .int .i64 b, .slice A len cap]∧(Lit.int .i64 a).wf=true∧(Lit.int .i64 b).wf=true∧RoL W A len cap z∧len≤maxLen∧ ∀l∈z,l.length≤maxLen:=by
 obtain⟨cs,rfl,hsz⟩:=okWide_struct ht hval
 obtain⟨C1,C2,C3,C4⟩:=C
 obtain⟨F1,F2,F3,F4,F5,F6⟩:=F
 rw[C4]at hsz
 obtain⟨x0,x1,x2,rfl⟩: ∃x0 x1 x2,cs= #[x0,x1,x2]:=by
  obtain⟨l⟩:=cs
  match l,hsz with
  | [x0,x1,x2],_=>exact⟨_,_,_,rfl⟩
 obtain⟨fuel,hf⟩:=h
 obtain⟨xs,n,_,_,_,hxl,hfl⟩:=DataW.trod_struct ht hf
 have g0:=hfl 0 f0 rfl
 have g1:=hfl 1 f1 rfl
 have g2:=hfl 2 f2 rfl
 have hxl3:xs.length=3:=hxl
 obtain⟨y0,y1,y2,rfl⟩: ∃y0 y1 y2,xs=[y0,y1,y2]:=by
  match xs,hxl3 with
  | [y0,y1,y2],_=>exact⟨_,_,_,rfl⟩
 simp[F1,F2,F3,F4,F5,F6,C1,C2,Value.cells]at g0 g1 g2
 obtain⟨a,ha,_,wa⟩:=DataW.trod_int h3 g0
 obtain⟨b,hb,_,wb⟩:=DataW.trod_int h3 g1
 obtain rfl:x0= .int .i64 a:=by simpa using ha
 obtain rfl:x1= .int .i64 b:=by simpa using hb
 rcases open_int_rows h22 h23 h3 C3 C1 g2 with⟨hcs,_⟩|⟨x,l,c,Ad,Ln,Cp,Z,hcs,_,hl,hm,_,hrow⟩
 ·obtain rfl:x2= .slice none 0 0:=by simpa using hcs
  exact⟨a,b,none,0,0,[],rfl,wa,wb,⟨rfl, .inl ⟨rfl,rfl,rfl⟩⟩,Nat.zero_le _,fun _ h=>absurd h List.not_mem_nil⟩
 ·obtain rfl:x2= .slice (some x) l c:=by simpa using hcs
  have had:=bm1 h22 (n61 ht hval hts rfl (i:=2) rfl rfl)
  refine⟨a,b,some x,l,c,_,rfl,wa,wb,RoL.of had.1 had.2 hl hrow,Nat.le_trans hl hm,fun l' hl'=> ?_⟩
  obtain⟨r,hr,rfl⟩:=List.mem_map.1 hl'
  have:=List.mem_range.1 hr
  obtain⟨_,q1,q2,q3,_⟩:=hrow r (by omega)
  rw[List.length_take]
  omega
end
end Go.Am
namespace Go.Proofs.Ytodbgomfeacdhaa
open Go.Am Go.Vm Go.Alg
section
variable {h:H} {l:List AV} {ws:List Value}
theorem wy9(r:Vm.VRL h [] (allZ h) (allZ h) l ws){q n:Int}{sa:Option Addr}{c:Nat}{m:List (List Int)}(hr:RdLL h sa c m)(hu:ss4 h 1 sa=true):
 Vm.VRL h [] (allZ h) (allZ h) (.agg [.x (.int .i64 q), .x (.int .i64 n), .fz true (.sl 2 0 1 (lvs 2 m))]::l) (.agg #[.int .i64 q, .int .i64 n, .slice sa m.length c]::ws):=by
 rw[Vm.VRL]
 refine⟨_,ws,rfl, ?_,r⟩
 rw[Vm.VR]
 exact⟨_,rfl,dp0 (dp0 (ds5 a25 hr hu) _) _⟩
end
theorem sq3(h:H)(m0:Int)(_: -9223372036854775808≤m0)(_:m0≤9223372036854775807)(o0:Int)(_: -9223372036854775808≤o0)(_:o0≤9223372036854775807)(s0:Option Addr)(c0:Nat)(z0:List (List Int))(r0:RdLL h s0 c0 z0)(u0:ss4 h 1 s0=true)(_:z0.length≤9223372036854775807)(_: ∀l∈z0,l.length≤9223372036854775807)(s1:Option Addr)(c1:Nat)(z1:List Int)(r1:RdI h s1 c1 z1)(_:ss4 h 1 s1=true)(_:z1.length≤9223372036854775807):
 ∃h',call T 4 [.agg #[.int .i64 m0, .int .i64 o0, .slice s0 z0.length c0], .slice s1 z1.length c1] h=some (.bool true,h'):=
 vlaw lw2 (wy9 (sk6 a25 r1) r0 u0) (by apply ic5<;>assumption)
end Go.Proofs.Ytodbgomfeacdhaa
