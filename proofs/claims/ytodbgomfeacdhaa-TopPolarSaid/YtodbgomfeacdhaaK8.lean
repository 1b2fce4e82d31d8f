/-
  Polar codes: the document's best places, in the second machine. Conditions: those of each theorem. Plain: the program's way to the one form. No condition. How many bits are 1, and the monomials, in th ..
-/
import Derived.Test.YtodbgomfeacdhaaK7
import Derived.Test.YtodbgomfeacdhaaK6
set_option linter.unusedVariables false
set_option linter.unusedSimpArgs false
set_option linter.unusedSectionVars false
set_option maxRecDepth 100000
namespace Go.Proofs.Ytodbgomfeacdhaa
open Go.Am Go.Vm
set_option maxHeartbeats 4000000
def bls(n:Nat)(f:Nat→Bool):List Tree:=(List.range n).map fun x=>Tree.v (.bool (f x))
theorem hm3(n:Nat)(f:Nat→Bool):(bls n f).length=n:=by simp[bls]
theorem rr8{n x:Nat}(f:Nat→Bool)(hx:x<n):(bls n f)[x]? =some (.v (.bool (f x))):=by
 unfold bls;rw[List.getElem?_map,List.getElem?_range hx];rfl
theorem a17{n i:Nat}{f g:Nat→Bool}{b:Bool}(hb:g i=b)(h: ∀x,x<n→x≠i→g x=f x):(bls n f).set i (.v (.bool b))=bls n g:=by
 unfold bls
 refine List.ext_getElem (by simp) fun j h1 h2=> ?_
 rw[List.getElem_set]
 simp only[List.getElem_map,List.getElem_range]
 by_cases hij:i=j
 ·rw[if_pos hij,←hij,hb]
 ·rw[if_neg hij,h j (by simpa using h2) fun e=>hij e.symm]
theorem tm0(n:Nat):repT [Tree.v (.bool false)] n=bls n fun _=>false:=by
 have h: ∀n,repT [Tree.v (.bool false)] n=List.replicate n (Tree.v (.bool false)):=fun n=>by
  induction n with
  |zero=>rfl
  |succ n ih=>rw[repT,ih];rfl
 rw[h]
 unfold bls
 refine List.ext_getElem (by simp) fun j h1 h2=> ?_
 simp
def selJ(l:List Int)(inn:Nat→Bool):Nat→Int→Int
 |0,at'=>at'
 |j+1,at'=>selJ l inn j (if !inn j&&(decide (at'<0)||decide (gi l (j:Int)<gi l at'))then(j:Int)else at')
def inP(m i x:Nat):Bool:=((ordP m).take i).contains x
theorem xm9:((List.range 6).all fun m=>(List.range (2^m)).all fun i=>decide (selJ (losI m) (inP m i) (2^m) (-1)=(((ordP m).getD i 0:Nat):Int)))=true:=by kernel_rfl
theorem oz1{m i:Nat}(hm:m≤5)(hi:i<2^m):selJ (losI m) (inP m i) (2^m) (-1)=(((ordP m).getD i 0:Nat):Int):=by
 have h:=List.all_eq_true.1 xm9 m (List.mem_range.2 (by omega))
 exact of_decide_eq_true (List.all_eq_true.1 h i (List.mem_range.2 hi))
theorem mu7{m i:Nat}(hi:i<(ordP m).length)(x:Nat):inP m (i+1) x=(inP m i x||decide (x=(ordP m).getD i 0)):=by
 unfold inP
 rw[List.take_add_one,List.getElem?_eq_getElem hi,List.getD_eq_getElem?_getD,List.getElem?_eq_getElem hi]
 simp only[Option.toList_some,Option.getD_some,List.contains_eq_mem,List.mem_append,List.mem_singleton,Bool.decide_or]
theorem ja7(m k:Nat):(List.range (2^m)).filter (inP m k)=ev3 m k:=by
 unfold ev3
 refine List.filter_congr fun x _=> ?_
 unfold inP
 rw[List.contains_eq_mem]
section
variable {l:List Int} {n:Nat} {inn:Nat→Bool} {nl:Nat}
theorem cv4(hl:l.length=n)(hn:n≤100){k i7:Int}: ∀(j:Nat) (at':Int),j≤n→ -1≤at'→at'<(n:Int)→ ∀ks,
 vgoL W ⟨h50,[.tmp 4],0⟩ [1,5,6,7,8,9] c50L0 (.blk 2 [1,5,6,7,8]::ks) [(1, .x (.int .i64 k)),(5, .own 0 []),(6, .own 1 []),(7, .x (.int .i64 i7)),(8, .x (.int .i64 at')),(9, .x (.int .i64 ((j:Int)-1)))] [.sl nl 3 1 (ivs l), .sl 0 4 1 (bls n inn)]=
  vgo W ⟨h50,[.tmp 4],0⟩ ks (VFr.of [(1, .x (.int .i64 k)),(5, .own 0 []),(6, .own 1 []),(7, .x (.int .i64 i7)),(8, .x (.int .i64 (selJ l inn j at')))]) [.sl nl 3 1 (ivs l), .sl 0 4 1 (bls n inn)]
 |0,at',hj,h0,h1,ks=>by
  rw[selJ,sb5 c50L0.eq_def]
  simp(disch:=first|omega|fail) only[push_cast,seval,vrl,if_pos,if_neg]
 |j+1,at',hj,h0,h1,ks=>by
  have hbl:=hm3 n inn
  have l1:=rr8 inn (show j<n by omega)
  have e0:((j+1:Nat):Int)-1=(j:Int):=by omega
  rw[selJ,e0]
  cases hin:inn j with
  |true=>
   have ih:=cv4 hl hn (k:=k) (i7:=i7) j at' (by omega) h0 h1 ks
   rw[hin]at l1
   rw[if_neg (by simp),←ih,sb5 c50L0.eq_def]
   simp(disch:=first|omega|fail) only[push_cast,seval,vrl,if_pos,if_neg,l1,hbl,Nat.div_one]
  |false=>
   rw[hin]at l1
   by_cases ha:at'<0
   ·have ih:=cv4 hl hn (k:=k) (i7:=i7) j (j:Int) (by omega) (by omega) (by omega) ks
    rw[if_pos (by simp[ha]),←ih,sb5 c50L0.eq_def]
    simp(disch:=first|omega|fail) only[push_cast,seval,vrl,if_pos,if_neg,l1,hbl,Nat.div_one]
   ·obtain⟨A,rfl⟩: ∃A:Nat,at'=A:=⟨at'.toNat,by omega⟩
    obtain⟨x,hx⟩:=ge6 (l:=l) (i:=j) (by omega)
    obtain⟨y,hy⟩:=ge6 (l:=l) (i:=A) (by omega)
    have g1:gi l (j:Int)=x:=by unfold gi;rw[Int.toNat_natCast,List.getD_eq_getElem?_getD,hx];rfl
    have g2:gi l (A:Int)=y:=by unfold gi;rw[Int.toNat_natCast,List.getD_eq_getElem?_getD,hy];rfl
    rw[g1,g2]
    by_cases hxy:x<y
    ·have ih:=cv4 hl hn (k:=k) (i7:=i7) j (j:Int) (by omega) (by omega) (by omega) ks
     rw[if_pos (by simp[hxy]),←ih,sb5 c50L0.eq_def]
     simp(disch:=first|omega|fail) only[push_cast,seval,vrl,if_pos,if_neg,l1,hbl,Nat.div_one,g1,g2]
    ·have ih:=cv4 hl hn (k:=k) (i7:=i7) j (A:Int) (by omega) (by omega) (by omega) ks
     rw[if_neg (by simp[hxy]),←ih,sb5 c50L0.eq_def]
     simp(disch:=first|omega|fail) only[push_cast,seval,vrl,if_pos,if_neg,l1,hbl,Nat.div_one,g1,g2]
end
theorem l55{m i:Nat}(hm:m≤5)(hi:i<2^m):(ordP m).getD i 0<2^m:=by
 obtain⟨h1,_,h3,_⟩:=j17 hm
 rw[List.getD_eq_getElem?_getD,List.getElem?_eq_getElem (by omega)]
 exact h3 _ (List.getElem_mem _)
theorem pn8{m k:Nat}(hm:m≤5)(hk:k≤2^m){nl:Nat}: ∀(d i:Nat),i+d=k→ ∀ks,
 vgoL W ⟨h50,[.tmp 4],0⟩ [1,5,6,7] c50L1 (.blk 0 [5,6]::ks) [(1, .x (.int .i64 k)),(5, .own 0 []),(6, .own 1 []),(7, .x (.int .i64 i))] [.sl nl 3 1 (ivs (losI m)), .sl 0 4 1 (bls (2^m) (inP m i))]=
  vgo W ⟨h50,[.tmp 4],0⟩ ks (VFr.of [(5, .own 0 []),(6, .own 1 [])]) [.sl nl 3 1 (ivs (losI m)), .sl 0 4 1 (bls (2^m) (inP m k))]
 |0,i,hi,ks=>by
  obtain rfl:i=k:=by omega
  rw[sb5 c50L1.eq_def]
  simp(disch:=first|omega|fail) only[push_cast,seval,vrl,if_pos,if_neg]
 |d+1,i,hi,ks=>by
  have h32:2^m≤32:=by
   have:2^m≤2^5:=Nat.pow_le_pow_right (by decide) hm
   omega
  have hll:=ej4 m
  have e1:=fun ks=>cv4 (nl:=nl) (inn:=inP m i) hll (by omega) (k:=(k:Int)) (i7:=(i:Int)) (2^m) (-1) (Nat.le_refl _) (by omega) (by omega) ks
  rw[oz1 hm (by omega)]at e1
  have hlt:=l55 (i:=i) hm (by omega)
  have ho:=(j17 hm).1
  have hset:=a17 (n:=2^m) (i:=(ordP m).getD i 0) (f:=inP m i) (g:=inP m (i+1)) (b:=true) (by rw[mu7 (by omega)];simp) fun x _ hx=>by rw[mu7 (by omega),decide_eq_false hx,Bool.or_false]
  have hbl:=hm3 (2^m) (inP m i)
  have ih:=pn8 hm hk (nl:=nl) d (i+1) (by omega) ks
  rw[←hset,Int.natCast_add i,Int.natCast_one]at ih
  generalize (ordP m).getD i 0=p at*
  generalize losI m=l at*
  generalize 2^m=n at*
  generalize bls n (inP m i)=B at*
  rw[←ih,sb5 c50L1.eq_def]
  simp(disch:=first|omega|fail) only[push_cast,seval,vrl,if_pos,if_neg,hll]
  rw[e1]
  simp(disch:=first|omega|fail) only[push_cast,seval,vrl,if_pos,if_neg,hbl,Nat.div_one]
theorem eq6{n:Nat}(hn:n≤100){l:List Int}(hl:l.length=n){inn:Nat→Bool}{nl:Nat}: ∀(d i:Nat),i+d=n→ ∀ks,
 vgoL W ⟨h50,[.tmp 4],0⟩ [5,6,10,11] c50L2 (.blk 4 [10]::ks) [(5, .own 0 []),(6, .own 1 []),(10, .own 2 []),(11, .x (.int .i64 i))] [.sl nl 3 1 (ivs l), .sl 0 4 1 (bls n inn), .sl 1 3 1 (ivs (pnI ((List.range i).filter inn)))]=
  vgo W ⟨h50,[.tmp 4],0⟩ ks (VFr.of [(10, .own 2 [])]) [.sl nl 3 1 (ivs l), .sl 0 4 1 (bls n inn), .sl 1 3 1 (ivs (pnI ((List.range n).filter inn)))]
 |0,i,hi,ks=>by
  obtain rfl:i=n:=by omega
  rw[sb5 c50L2.eq_def]
  simp(disch:=first|omega|fail) only[push_cast,seval,vrl,if_pos,if_neg,hl]
 |d+1,i,hi,ks=>by
  have l1:=rr8 inn (show i<n by omega)
  have hbl:=hm3 n inn
  have ih:=eq6 hn hl (inn:=inn) (nl:=nl) d (i+1) (by omega) ks
  have hfl:(pnI ((List.range i).filter inn)).length≤100:=by
   rw[ip1]
   have:=List.length_filter_le inn (List.range i)
   rw[List.length_range]at this
   omega
  rw[List.range_succ,List.filter_append,List.filter_cons,List.filter_nil,Int.natCast_add i,Int.natCast_one]at ih
  cases hin:inn i with
  |true=>
   rw[hin]at l1 ih
   rw[if_pos rfl,show pnI (List.filter inn (List.range i)++[i])=pnI (List.filter inn (List.range i))++[(i:Int)] by unfold pnI;rw[List.map_append];rfl]at ih
   generalize pnI (List.filter inn (List.range i))=F at*
   rw[←ih,sb5 c50L2.eq_def]
   simp(disch:=first|omega|fail) only[push_cast,seval,vrl,if_pos,if_neg,hl,l1,hbl,Nat.div_one]
  |false=>
   rw[hin]at l1 ih
   rw[if_neg (by simp),List.append_nil]at ih
   generalize pnI (List.filter inn (List.range i))=F at*
   rw[←ih,sb5 c50L2.eq_def]
   simp(disch:=first|omega|fail) only[push_cast,seval,vrl,if_pos,if_neg,hl,l1,hbl,Nat.div_one]
theorem nq3{m k:Nat}(hm:m≤5)(hk:k≤2^m):o24 W 50 [.x (.int .i64 m), .x (.int .i64 k)] []=some (.own 0 [],[.sl 1 3 1 (ivs (pnI (ev3 m k)))],[]):=by
 have h32:2^m≤32:=by
  have:2^m≤2^5:=Nat.pow_le_pow_right (by decide) hm
  omega
 have hll:=ej4 m
 have e0:=m55 hm
 have e1:=fun nl ks=>pn8 hm hk (nl:=nl) k 0 (by omega) ks
 have e2:=fun nl ks=>eq6 (n:=2^m) (by omega) (l:=losI m) hll (inn:=inP m k) (nl:=nl) (2^m) 0 (by omega) ks
 rw[ja7]at e2
 rw[show inP m 0=fun _=>false from rfl]at e1
 simp only[Int.natCast_zero,List.range_zero,List.filter_nil,show pnI []=[]from rfl,lz6]at e1 e2
 have hbr:=tm0 (2^m)
 generalize losI m=l at*
 generalize pnI (ev3 m k)=be at*
 generalize hB:bls (2^m) (fun _=>false)=B at*
 generalize hB2:bls (2^m) (inP m k)=B2 at*
 generalize 2^m=n at*
 rw[o08 rfl T50 rfl]
 unfold F50 c50
 simp(disch:=first|omega|fail) only[push_cast,seval,vrl,if_pos,if_neg,e0,hll,hbr]
 rw[e1]
 simp(disch:=first|omega|fail) only[push_cast,seval,vrl,if_pos,if_neg]
 rw[e2]
 simp(disch:=first|omega|fail) only[push_cast,seval,vrl,if_pos,if_neg]
end Go.Proofs.Ytodbgomfeacdhaa
namespace Go.Proofs.Ytodbgomfeacdhaa
open Go.Am Go.Vm Go.Alg
section
variable {α:Type} {n i at':Nat} {M:List (List α)}
end
section
variable {q:Int} [IsFld q] {n c i at':Nat} {M:List (List (El q))}
end
section
variable {r m k:Nat}
end
def bU(b:Bool):Int:=if b then 1 else 0
def wU(N:Nat)(f:Nat→Bool):List Int:=(List.range N).map fun x:Nat=>bU (f x)
theorem mv5(N:Nat)(f:Nat→Bool):(wU N f).length=N:=by simp[wU]
theorem z96{N x:Nat}(f:Nat→Bool)(hx:x<N):(wU N f)[x]? =some (bU (f x)):=by
 unfold wU;rw[List.getElem?_map,List.getElem?_range hx];rfl
theorem tv7{N x:Nat}(f:Nat→Bool)(hx:x<N):(ivs (wU N f))[x]? =some (.v (.int .i64 (bU (f x)))):=iat (z96 f hx)
theorem x70{N:Nat}{f g:Nat→Bool}(h: ∀x,x<N→f x=g x):wU N f=wU N g:=by
 unfold wU
 refine List.map_congr_left fun x hx=> ?_
 rw[h x (List.mem_range.1 hx)]
theorem pk6{N:Nat}{f:Nat→Bool}(h: ∀x,x<N→f x=false):wU N f=List.replicate N 0:=by
 rw[x70 h]
 refine List.ext_getElem? fun i=> ?_
 by_cases hi:i<N
 ·rw[z96 _ hi,List.getElem?_replicate,if_pos hi];rfl
 ·rw[List.getElem?_eq_none (by rw[mv5];omega),List.getElem?_eq_none (by rw[List.length_replicate];omega)]
theorem eb3{N i:Nat}(f g:Nat→Bool)(hi:i<N)(h1: ∀x,x<N→x≠i→g x=f x):(wU N f).set i (bU (g i))=wU N g:=by
 refine List.ext_getElem? fun x=> ?_
 by_cases hx:x<N
 ·rw[z96 g hx,List.getElem?_set]
  by_cases he:i=x
  ·rw[if_pos he,if_pos (by rw[mv5];exact hi),he]
  ·rw[if_neg he,z96 f hx,h1 x hx fun e=>he e.symm]
 ·rw[List.getElem?_eq_none (by rw[List.length_set,mv5];omega),List.getElem?_eq_none (by rw[mv5];omega)]
theorem bf9(b:Bool):0≤bU b∧bU b≤1:=by cases b<;>simp[bU]
section
end
section
variable {l:List Nat} {c:Nat→Bool} {N:Nat}
end
def bitU(v:Int):Bool:=decide (v=0)||decide (v=1)
theorem en0{l:List Int}(hl:l.length≤9223372036854775807){b:Bool}{nl:Nat}: ∀(n i:Nat),i+n=l.length→ ∀ks,
 vgoL W ⟨hNo,[.tmp 4],0⟩ [0,1,5] c52L0 (.blk 0 []::ks) [(0, .fz b (.sl nl 0 1 (ivs l))),(1, .x (.bool false)),(5, .x (.int .i64 i))] []=if(l.drop i).all bitU=true then vgo W ⟨hNo,[.tmp 4],0⟩ ks (VFr.of []) []else some (.x (.bool false),[],[])
 |0,i,hi,ks=>by
  rw[oh9 (by omega),if_pos (show([]:List Int).all bitU=true from rfl),sb5 c52L0.eq_def]
  simp(disch:=first|omega|fail) only[push_cast,seval,vrl,if_pos,if_neg]
 |n+1,i,hi,ks=>by
  have ih:=en0 hl (b:=b) (nl:=nl) n (i+1) (by omega) ks
  obtain⟨a,ha⟩:=ge6 (l:=l) (i:=i) (by omega)
  have h1:=iat ha
  rw[i62 ha,List.all_cons]
  rw[Int.natCast_add,Int.natCast_one]at ih
  by_cases h2:1<a
  ·rw[if_neg (by unfold bitU;rw[decide_eq_false (show¬a=0 by omega),decide_eq_false (show¬a=1 by omega)];simp),sb5 c52L0.eq_def]
   simp(disch:=first|omega|fail) only[push_cast,seval,vrl,if_pos,if_neg,h1,dec_lt h2]
  ·by_cases h3:a< -1
   ·rw[if_neg (by unfold bitU;rw[decide_eq_false (show¬a=0 by omega),decide_eq_false (show¬a=1 by omega)];simp),sb5 c52L0.eq_def]
    simp(disch:=first|omega|fail) only[push_cast,seval,vrl,if_pos,if_neg,h1]
   ·by_cases h4:a= -1
    ·rw[if_neg (by unfold bitU;rw[decide_eq_false (show¬a=0 by omega),decide_eq_false (show¬a=1 by omega)];simp),sb5 c52L0.eq_def]
     simp(disch:=first|omega|fail) only[push_cast,seval,vrl,if_pos,if_neg,h1,h4]
    ·have hb:bitU a=true:=by
      unfold bitU
      by_cases h5:a=0
      ·rw[decide_eq_true h5];rfl
      ·rw[decide_eq_true (show a=1 by omega),Bool.or_true]
     rw[hb,Bool.true_and,←ih,sb5 c52L0.eq_def]
     simp(disch:=first|omega|fail) only[push_cast,seval,vrl,if_pos,if_neg,h1,nb8 h4]
theorem nu7{l:List Int}(hl:l.length≤9223372036854775807){b:Bool}{nl:Nat}:
 o24 W 52 [.fz b (.sl nl 0 1 (ivs l)), .x (.bool false)] []=some (.x (.bool (l.all bitU)),[],[]):=by
 have e:=fun ks=>en0 hl (b:=b) (nl:=nl) l.length 0 (by omega) ks
 simp only[Int.natCast_zero,List.take_zero,List.drop_zero,rp2,lz6,x25,List.map_nil,List.length_nil]at e
 rw[o08 rfl T52 rfl]
 unfold F52 c52
 simp(disch:=first|omega|fail) only[push_cast,seval,vrl,if_pos,if_neg]
 rw[e]
 by_cases h:l.all bitU=true
 ·rw[if_pos h,h]
  simp(disch:=first|omega|fail) only[push_cast,seval,vrl,if_pos,if_neg]
 ·rw[if_neg h,Bool.eq_false_iff.2 h]
section
variable {r m:Int}
end
section
variable {q p m g:Int} [IsFld q] {t:Tree} {b b':Bool} {nl nl':Nat}
variable {N:Nat} {P Q:List (List (El q))} {nr nr':Nat}
end
section
variable {q p m g:Int} {t:Tree} {b:Bool} {nl nr:Nat} {M:List (List Int)}
end
section
variable {q:Int} {b:Bool} {nl nr e:Nat} {M:List (List Int)}
end
section
variable {q n:Int} {nl nr:Nat} {M:List (List Int)}
end
section
variable {q p m g:Int} [IsFld q] {t:Tree} {b:Bool} {nl nr n6 n7 n9:Nat} {M:List (List (El q))} {A:List (Nat×List (El q))} {w:Nat} {i8:Nat}
end
section
variable {q p m g:Int} [IsFld q] {t:Tree} {b b':Bool} {nl nl' nr n7 n8:Nat} {M:List (List (El q))} {A:List (Nat×List (El q))} {N:Nat}
end
section
variable {q:Int} [IsFld q] {b b':Bool} {nl nl' nr:Nat} {c:El q}
end
section
variable {b:Bool} {nl nr:Nat} {M:List (List Int)}
end
section
variable {q:Int} [IsFld q] {T5:Tree} {M:List (List (El q))} {R n c at':Nat}
end
section
variable {q:Int} [IsFld q] {n R:Nat}
end
end Go.Proofs.Ytodbgomfeacdhaa
namespace Go.Alg
section
variable {K:Type} [FK K]
end
section
variable {K:Type} [FK K] {n:Nat}
section
variable {A:List (Nat×List K)} (hr:Rref n (toF A))
include hr
end
end
end Go.Alg
namespace Go.Proofs.Ytodbgomfeacdhaa
open Go.Am Go.Vm Go.Alg
section
variable {q:Int} {b:Bool} {nl nr:Nat}
end
section
variable {l:List Int} {nl:Nat} {b:Bool} {x:Int}
end
section
variable {q:Int} {b:Bool} {nl nr n6 n7:Nat}
section
variable [IsFld q] {A:List (Nat×List (El q))} {N:Nat} {K:List (List Int)}
end
end
end Go.Proofs.Ytodbgomfeacdhaa
namespace Go.Alg
section
variable {K:Type} [FK K] {n:Nat}
end
end Go.Alg
namespace Go.Proofs.Ytodbgomfeacdhaa
open Go.Am Go.Vm Go.Alg
section
variable {q n:Int} {nl nr:Nat} {M:List (List Int)}
end
section
variable {q:Int} [IsFld q] {k nl nr:Nat} {N:List (List (El q))}
end
section
variable {b b':Bool} {nl nl' nr nr':Nat}
theorem ft0{l k:List Int}(hl:l.length≤9223372036854775807)(hk:k.length=l.length): ∀(d i:Nat),i+d=l.length→ ∀ks,
 vgoL W ⟨hNo,[.tmp 4],0⟩ [0,1,5] c28L0 (.blk 0 []::ks) [(0, .fz b (.sl nl 0 1 (ivs l))),(1, .fz b' (.sl nl' 0 1 (ivs k))),(5, .x (.int .i64 i))] []=
  if l.drop i=k.drop i then vgo W ⟨hNo,[.tmp 4],0⟩ ks (VFr.of []) []else some (.x (.bool false),[],[])
 |0,i,hi,ks=>by
  rw[oh9 (by omega),oh9 (by omega),if_pos rfl,sb5 c28L0.eq_def]
  simp(disch:=first|omega|fail) only[push_cast,seval,vrl,if_pos,if_neg]
 |d+1,i,hi,ks=>by
  have ih:=ft0 hl hk d (i+1) (by omega) ks
  obtain⟨a,ha⟩:=ge6 (l:=l) (i:=i) (by omega)
  obtain⟨c,hc⟩:=ge6 (l:=k) (i:=i) (by omega)
  have h1:=iat ha
  have h2:=iat hc
  rw[i62 ha,i62 hc]
  rw[Int.natCast_add,Int.natCast_one]at ih
  by_cases h:a=c
  ·have hiff:(a::l.drop (i+1)=c::k.drop (i+1))=(l.drop (i+1)=k.drop (i+1)):=by rw[h];simp
   simp only[hiff]
   rw[←ih,sb5 c28L0.eq_def]
   simp(disch:=first|omega|fail) only[push_cast,seval,vrl,if_pos,if_neg,h1,h2,h]
  ·rw[if_neg (by intro e;exact h (List.cons.inj e).1),sb5 c28L0.eq_def]
   simp(disch:=first|omega|fail) only[push_cast,seval,vrl,if_pos,if_neg,h1,h2,nb8 h]
theorem nb2{l k:List Int}(hl:l.length≤9223372036854775807):o24 W 28 [.fz b (.sl nl 0 1 (ivs l)), .fz b' (.sl nl' 0 1 (ivs k))] []=some (.x (.bool (decide (l=k))),[],[]):=by
 by_cases hk:k.length=l.length
 ·have e:=fun ks=>ft0 (b:=b) (b':=b') (nl:=nl) (nl':=nl') hl hk l.length 0 (by omega) ks
  simp only[Int.natCast_zero,List.take_zero,List.drop_zero,rp2,lz6,x25,List.map_nil,List.length_nil]at e
  rw[o08 rfl T28 rfl]
  unfold F28 c28
  simp(disch:=first|omega|fail) only[push_cast,seval,vrl,if_pos,if_neg,hk]
  rw[e]
  by_cases h:l=k
  ·rw[if_pos h,decide_eq_true h]
   simp(disch:=first|omega|fail) only[push_cast,seval,vrl,if_pos,if_neg]
  ·rw[if_neg h,decide_eq_false h]
 ·have h: ¬l=k:=fun e=>hk (by rw[e])
  have h8: ¬(l.length:Int)=(k.length:Int):=by omega
  rw[decide_eq_false h,o08 rfl T28 rfl]
  unfold F28 c28
  simp(disch:=first|omega|fail) only[push_cast,seval,vrl,if_pos,if_neg,nb8 h8]
theorem eb1{l k:List Int}{e f:Int}(hl:l.length≤9223372036854775807):o24 W 22 [.fz b (.sl nl 0 1 (ivs l)), .x (.int .i64 e), .fz b' (.sl nl' 0 1 (ivs k)), .x (.int .i64 f)] []=some (.x (.bool (if f=0 then decide (e=0)&&decide (l=k)else decide (e=f)&&decide (l.length=0))),[],[]):=by
 have h1:=fun b b' nl nl'=>nb2 (b:=b) (b':=b') (nl:=nl) (nl':=nl') (k:=k) hl
 by_cases hf:f=0
 ·rw[if_pos hf]
  by_cases h0:e=0
  ·rw[decide_eq_true h0,Bool.true_and,o08 rfl T22 rfl]
   unfold F22 c22
   simp(disch:=first|omega|fail) only[push_cast,seval,vrl,if_pos,if_neg,hf,h0,h1]
  ·rw[decide_eq_false h0,Bool.false_and,o08 rfl T22 rfl]
   unfold F22 c22
   simp(disch:=first|omega|fail) only[push_cast,seval,vrl,if_pos,if_neg,hf,nb8 h0]
 ·rw[if_neg hf]
  by_cases h0:e=f
  ·subst h0
   rw[decide_eq_true rfl,Bool.true_and,o08 rfl T22 rfl]
   unfold F22 c22
   by_cases hz:l.length=0
   ·rw[decide_eq_true hz]
    simp(disch:=first|omega|fail) only[push_cast,seval,vrl,if_pos,if_neg,nb8 hf,hz]
   ·rw[decide_eq_false hz]
    simp(disch:=first|omega|fail) only[push_cast,seval,vrl,if_pos,if_neg,nb8 hf]
  ·rw[decide_eq_false h0,Bool.false_and,o08 rfl T22 rfl]
   unfold F22 c22
   simp(disch:=first|omega|fail) only[push_cast,seval,vrl,if_pos,if_neg,nb8 hf,nb8 h0]
section
variable {q:Int} [IsFld q]
end
end
section
variable {q n q' n' e:Int} {nl nr nl' nr':Nat} {M M':List (List Int)}
end
section
variable {q:Int} [IsFld q] {k nl nr nl2:Nat} {b:Bool} {N:List (List (El q))} {M:List (List Int)} {w:List Int}
end
def pkI(a n:Int):Int:=(if a<0 then-(a+1)else a).tmod n
theorem h59{a n:Int}(hn:0<n):0≤pkI a n∧pkI a n<n:=by
 unfold pkI
 split
 ·exact⟨Int.tmod_nonneg _ (by omega),Int.tmod_lt_of_pos _ hn⟩
 ·exact⟨Int.tmod_nonneg _ (by omega),Int.tmod_lt_of_pos _ hn⟩
def rwI(l:List Int)(i:Int):Int:=if l.length=0 then i else IntKind.wrap .i64 (gi l (i.tmod l.length)+IntKind.wrap .i64 (IntKind.wrap .i64 (i.tdiv l.length)*7919))
theorem ti9(x:Int): -9223372036854775808≤IntKind.wrap .i64 x∧IntKind.wrap .i64 x≤9223372036854775807:=by rw[IntKind.wrap_i64];omega
theorem bd0{l:List Int}{i:Int}(h0:0≤i)(h1:i≤9223372036854775807): -9223372036854775808≤rwI l i∧rwI l i≤9223372036854775807:=by
 unfold rwI
 split
 ·omega
 ·exact ti9 _
theorem cl0{l:List Int}{i:Int}(h0:0≤i)(h1:i<l.length):(ivs l)[i.toNat]? =some (.v (.int .i64 (gi l i))):=by
 have e:(ivs l)[i.toNat]? =some (.v (.int .i64 (gi l ((i.toNat:Nat):Int)))):=ui5 (by omega)
 rwa [Int.toNat_of_nonneg h0]at e
section
variable {b:Bool} {nl:Nat} {raw:List Int}
theorem s88{a n:Int}(h1: -9223372036854775808≤a)(h2:a≤9223372036854775807)(hn:0<n):o24 W 45 [.x (.int .i64 a), .x (.int .i64 n)] []=some (.x (.int .i64 (pkI a n)),[],[]):=by
 have hz: ¬n=0:=by omega
 rw[o08 rfl T45 rfl]
 unfold F45 c45 pkI
 by_cases h0:a<0
 ·rw[if_pos h0]
  simp(disch:=first|omega|fail) only[push_cast,seval,vrl,if_pos,if_neg,nb8 hz,hz]
  rw[show(0:Int)-(a+1)= -(a+1) by omega]
 ·rw[if_neg h0]
  simp(disch:=first|omega|fail) only[push_cast,seval,vrl,if_pos,if_neg,nb8 hz,hz]
theorem yc3{i:Int}(hi:0≤i)(hl:raw.length≤9223372036854775807):o24 W 59 [.fz b (.sl nl 0 1 (ivs raw)), .x (.int .i64 i)] []=some (.x (.int .i64 (rwI raw i)),[],[]):=by
 rw[o08 rfl T59 rfl]
 unfold F59 c59 rwI
 by_cases h0:raw.length=0
 ·rw[if_pos h0]
  have h0':(raw.length:Int)=0:=by omega
  simp(disch:=first|omega|fail) only[push_cast,seval,vrl,if_pos,if_neg,h0']
 ·rw[if_neg h0]
  have hz: ¬(raw.length:Int)=0:=by omega
  have b1:0≤i.tmod raw.length:=Int.tmod_nonneg _ hi
  have b2:i.tmod raw.length<raw.length:=Int.tmod_lt_of_pos _ (by omega)
  have e:=cl0 b1 b2
  simp(disch:=first|omega|fail) only[push_cast,seval,vrl,if_pos,if_neg,hz,nb8 hz,e]
end
section
variable {k:FuncId} {p:Int→Bool} {l:List Int} {nl:Nat}
theorem ac4(hk: ∀v,o24 W k [.x (.int .i64 v)] []=some (.x (.bool (p v)),[],[]))(hM:vM k=[]){bl:Bool}(hl:l.length≤9223372036854775807): ∀(n i:Nat),i+n=l.length→ ∀ks,
 vgoL W ⟨hNo,[.tmp 4],0⟩ [0,1,7,8] c141L0 (.blk 0 []::ks) [(0, .fz bl (.sl nl 0 1 (ivs l))),(1, .fn k []),(7, .x (.int .i64 l.length)),(8, .x (.int .i64 i))] []=
  if fidx p i (l.drop i)= -1 then vgo W ⟨hNo,[.tmp 4],0⟩ ks (VFr.of []) []else some (.x (.int .i64 (fidx p i (l.drop i))),[],[])
 |0,i,hi,ks=>by
  rw[oh9 (by omega),fidx,if_pos rfl,sb5 c141L0.eq_def]
  simp(disch:=first|omega|fail) only[push_cast,seval,vrl,if_pos,if_neg]
 |n+1,i,hi,ks=>by
  have ih:=ac4 hk hM (bl:=bl) hl n (i+1) (by omega) ks
  obtain⟨a,ha⟩:=ge6 (l:=l) (i:=i) (by omega)
  have h1:=iat ha
  rw[i62 ha,fidx]
  rw[Int.natCast_add,Int.natCast_one]at ih
  have hka:=hk a
  cases hp:p a with
  |true=>
   rw[hp]at hka
   rw[if_pos rfl,if_neg (by omega),sb5 c141L0.eq_def]
   simp(disch:=first|omega|fail) only[push_cast,seval,vrl,if_pos,if_neg,h1,hka,hM]
  |false=>
   rw[hp]at hka
   simp only[Bool.false_eq_true,if_false]
   rw[←ih,sb5 c141L0.eq_def]
   simp(disch:=first|omega|fail) only[push_cast,seval,vrl,if_pos,if_neg,h1,hka,hM]
theorem rq1(hk: ∀v,o24 W k [.x (.int .i64 v)] []=some (.x (.bool (p v)),[],[]))(hM:vM k=[]){bl:Bool}(hl:l.length≤9223372036854775807):
 o24 W 95 [.fz bl (.sl nl 0 1 (ivs l)), .fn k []] []=some (.x (.bool (l.any p)),[],[]):=by
 have e:=fun nl ks=>ac4 (nl:=nl) hk hM (bl:=bl) hl l.length 0 (by omega) ks
 simp only[Int.natCast_zero,List.take_zero,List.drop_zero,rp2,lz6,x25,List.map_nil,List.length_nil]at e
 have e2: ∀bl2 nl,bl2=bl→o24 W 141 [.fz bl2 (.sl nl 0 1 (ivs l)), .fn k []] []=some (.x (.int .i64 (fidx p 0 l)),[],[]):=fun bl2 nl hb=>by
  subst hb
  rw[o08 rfl T141 rfl]
  unfold F141 c141
  simp(disch:=first|omega|fail) only[push_cast,seval,vrl,if_pos,if_neg]
  rw[e]
  by_cases h:fidx p 0 l= -1
  ·rw[if_pos h,h]
   simp(disch:=first|omega|fail) only[push_cast,seval,vrl,if_pos,if_neg]
  ·rw[if_neg h]
 have e3:=fun nl=>e2 bl nl rfl
 rw[o08 rfl T95 rfl]
 unfold F95 c95
 rw[←tl6 p 0 l]
 simp(disch:=first|omega|fail) only[push_cast,seval,vrl,if_pos,if_neg,e3]
end
section
variable {q:Int} [IsFld q] {k nl nr nl2:Nat} {b:Bool} {N:List (List (El q))}
end
end Go.Proofs.Ytodbgomfeacdhaa
namespace Go.Proofs.Ytodbgomfeacdhaa
open Go.Am Go.Vm
set_option maxHeartbeats 4000000
def trF:Nat→(Nat→Bool)→Nat→Bool
 |0,f,x=>f x
 |m+1,f,x=>if x<2^m then trF m f x^^trF m (fun y=>f (y+2^m)) x else trF m (fun y=>f (y+2^m)) (x-2^m)
def polF(N:Nat)(f:Nat→Bool)(i:Nat):Bool:=xorL (List.range N) fun j=>decide (i&&&j=i)&&f j
theorem xorU(a b:Bool):Go.bits .xor .i64 (bU a) (bU b)=bU (a^^b):=by cases a<;>cases b<;>kernel_rfl
theorem c80:((List.range 5).all fun m=>(List.range (2^m)).all fun i=>(List.range (2^m)).all fun j=>decide ((i&&&(j+2^m)=i↔i&&&j=i)∧ ¬((i+2^m)&&&j=i+2^m)∧((i+2^m)&&&(j+2^m)=i+2^m↔i&&&j=i)))=true:=by kernel_rfl
theorem jt7{m i j:Nat}(hm:m≤4)(hi:i<2^m)(hj:j<2^m):(i&&&(j+2^m)=i↔i&&&j=i)∧ ¬((i+2^m)&&&j=i+2^m)∧((i+2^m)&&&(j+2^m)=i+2^m↔i&&&j=i):=by
 have h:=List.all_eq_true.1 c80 m (List.mem_range.2 (by omega))
 have h:=List.all_eq_true.1 h i (List.mem_range.2 hi)
 exact of_decide_eq_true (List.all_eq_true.1 h j (List.mem_range.2 hj))
theorem v55(N:Nat)(g:Nat→Bool):xorL (List.range (N+N)) g=(xorL (List.range N) g^^xorL (List.range N) fun j=>g (j+N)):=by
 rw[List.range_add,vn3]
 congr 1
 have h: ∀l:List Nat,xorL (l.map (N+ ·)) g=xorL l fun j=>g (j+N):=fun l=>by
  induction l with
  |nil=>rfl
  |cons a l ih=>rw[List.map_cons,ti0,ti0,ih,Nat.add_comm]
 exact h _
theorem pow_two(m:Nat):2^(m+1)=2^m+2^m:=by rw[Nat.pow_succ];omega
theorem kh5: ∀(m:Nat) (f:Nat→Bool) (i:Nat),m≤5→i<2^m→polF (2^m) f i=trF m f i
 |0,f,i,_,hi=>by
  obtain rfl:i=0:=by simpa using hi
  unfold polF trF
  show((decide (0&&&0=0)&&f 0)^^false)=f 0
  simp
 |m+1,f,i,hm,hi=>by
  rw[pow_two]at hi
  unfold polF
  rw[pow_two,v55,trF]
  by_cases h:i<2^m
  ·rw[if_pos h,←kh5 m f i (by omega) h,←kh5 m (fun y=>f (y+2^m)) i (by omega) h]
   unfold polF
   congr 1
   refine r85 fun j hj=> ?_
   have:=(jt7 (m:=m) (by omega) h (List.mem_range.1 hj)).1
   rw[decide_eq_decide.2 this]
  ·obtain⟨i',rfl⟩: ∃i',i=i'+2^m:=⟨i-2^m,by omega⟩
   rw[if_neg h,show i'+2^m-2^m=i' by omega,←kh5 m (fun y=>f (y+2^m)) i' (by omega) (by omega)]
   unfold polF
   rw[gz2 fun j hj=>by
    have:=(jt7 (m:=m) (i:=i') (by omega) (by omega) (List.mem_range.1 hj)).2.1
    rw[decide_eq_false this];rfl,Bool.false_xor]
   refine r85 fun j hj=> ?_
   have:=(jt7 (m:=m) (i:=i') (by omega) (by omega) (List.mem_range.1 hj)).2.2
   rw[decide_eq_decide.2 this]
theorem tz7(N:Nat)(f:Nat→Bool):(wU (N+N) f).take N=wU N f:=by
 unfold wU
 rw[←List.map_take,List.take_range,Nat.min_eq_left (by omega)]
theorem kt8(N:Nat)(f:Nat→Bool):(wU (N+N) f).drop N=wU N fun x=>f (x+N):=by
 unfold wU
 rw[List.range_add,List.map_append,List.drop_left' (by simp),List.map_map]
 exact List.map_congr_left fun x _=>by simp[Nat.add_comm]
theorem rn9{N:Nat}{f g h:Nat→Bool}(h1: ∀x,x<N→h x=f x)(h2: ∀x,x<N→h (x+N)=g x):wU N f++wU N g=wU (N+N) h:=by
 unfold wU
 rw[List.range_add,List.map_append,List.map_map]
 congr 1
 ·exact List.map_congr_left fun x hx=>by rw[h1 x (List.mem_range.1 hx)]
 ·exact List.map_congr_left fun x hx=>by
   show bU (g x)=bU (h (N+x))
   rw[Nat.add_comm,h2 x (List.mem_range.1 hx)]
theorem lo5{N:Nat}(hN:N≤100){f g:Nat→Bool}{nl1 nl2:Nat}: ∀(d i:Nat),i+d=N→ ∀ks,
 vgoL W ⟨h108,[.tmp 2],0⟩ [3,4,24,25] c108L0 (.blk 0 [3,4]::ks) [(3, .own 0 []),(4, .own 1 []),(24, .x (.int .i64 N)),(25, .x (.int .i64 i))] [.sl nl1 3 1 (ivs (wU N fun x=>if x<i then f x^^g x else f x)), .sl nl2 3 1 (ivs (wU N g))]=
  vgo W ⟨h108,[.tmp 2],0⟩ ks (VFr.of [(3, .own 0 []),(4, .own 1 [])]) [.sl nl1 3 1 (ivs (wU N fun x=>f x^^g x)), .sl nl2 3 1 (ivs (wU N g))]
 |0,i,hi,ks=>by
  rw[x70 (N:=N) (f:=fun x=>if x<i then f x^^g x else f x) (g:=fun x=>f x^^g x) fun x hx=>if_pos (by omega),sb5 c108L0.eq_def]
  simp(disch:=first|omega|fail) only[push_cast,seval,vrl,if_pos,if_neg]
 |d+1,i,hi,ks=>by
  have ih:=lo5 hN (f:=f) (g:=g) (nl1:=nl1) (nl2:=nl2) d (i+1) (by omega) ks
  have l1:=tv7 (N:=N) (x:=i) (fun x=>if x<i then f x^^g x else f x) (by omega)
  have l2:=tv7 (N:=N) (x:=i) g (by omega)
  simp only[if_neg (Nat.lt_irrefl i)]at l1
  have hs:=eb3 (N:=N) (i:=i) (fun x=>if x<i then f x^^g x else f x) (fun x=>if x<i+1 then f x^^g x else f x) (by omega) fun x _ hx=>by
   by_cases h:x<i
   ·rw[if_pos h,if_pos (by omega)]
   ·rw[if_neg h,if_neg (by omega)]
  simp only[if_pos (Nat.lt_succ_self i)]at hs
  have hx:=xorU (f i) (g i)
  have g1:gi (wU N fun x=>if x<i then f x^^g x else f x) (i:Int)=bU (f i):=by
   unfold gi;rw[Int.toNat_natCast,List.getD_eq_getElem?_getD,z96 _ (by omega),Option.getD_some,if_neg (Nat.lt_irrefl i)]
  have g2:gi (wU N g) (i:Int)=bU (g i):=by
   unfold gi;rw[Int.toNat_natCast,List.getD_eq_getElem?_getD,z96 _ (by omega),Option.getD_some]
  have w1:=mv5 N fun x=>if x<i then f x^^g x else f x
  have w2:=mv5 N g
  rw[←hs,Int.natCast_add i,Int.natCast_one]at ih
  generalize (wU N fun x=>if x<i then f x^^g x else f x)=A at*
  generalize wU N g=B at*
  rw[←ih,sb5 c108L0.eq_def]
  simp(disch:=first|omega|fail) only[push_cast,seval,vrl,if_pos,if_neg,g1,g2,hx,w1,w2]
theorem hf7: ∀{m:Nat} (f:Nat→Bool),m≤5→ ∀(bb:Bool) (nl:Nat),o24 W 108 [.fz bb (.sl nl 0 1 (ivs (wU (2^m) f)))] []=some (.own 0 [],[.sl 0 3 1 (ivs (wU (2^m) (trF m f)))],[])
 |0,f,hm,bb,nl=>by
  have e:=fun b nl=>h15 (b:=b) (nl:=nl) (zs:=wU (2^0) f) (by rw[mv5];decide)
  have hw:=mv5 (2^0) f
  have hnl:nlT (wU (2^0) f)=0:=rfl
  rw[hnl]at e
  have ht:wU (2^0) (trF 0 f)=wU (2^0) f:=rfl
  have h1:(2^0:Nat)=1:=rfl
  rw[ht]
  rw[h1]at*
  generalize wU 1 f=w at*
  rw[o08 rfl T108 rfl]
  unfold F108 c108
  simp(disch:=first|omega|fail) only[push_cast,seval,vrl,if_pos,if_neg,hw,e]
 |m+1,f,hm,bb,nl=>by
  have hN:2^m≤16:=by
   have:2^m≤2^4:=Nat.pow_le_pow_right (by decide) (by omega)
   omega
  have hN0:=Nat.two_pow_pos m
  have e1:=fun bb nl=>hf7 (m:=m) f (by omega) bb nl
  have e2:=fun bb nl=>hf7 (m:=m) (fun x=>f (x+2^m)) (by omega) bb nl
  have e3:=fun ks=>lo5 (N:=2^m) (by omega) (f:=trF m f) (g:=trF m fun x=>f (x+2^m)) (nl1:=0) (nl2:=0) (2^m) 0 (by omega) ks
  simp only[Nat.not_lt_zero,if_false,Int.natCast_zero]at e3
  have hap:=rn9 (N:=2^m) (f:=fun x=>trF m f x^^trF m (fun x=>f (x+2^m)) x) (g:=trF m fun x=>f (x+2^m)) (h:=trF (m+1) f) (fun x hx=>by rw[trF,if_pos hx]) fun x hx=>by rw[trF,if_neg (by omega),show x+2^m-2^m=x by omega]
  have ht:=tz7 (2^m) f
  have hd:=kt8 (2^m) f
  have hl:=mv5 (2^m+2^m) f
  have hla:=mv5 (2^m) (trF m f)
  have hlb:=mv5 (2^m) fun x=>trF m f x^^trF m (fun x=>f (x+2^m)) x
  have hlc:=mv5 (2^m) (trF m fun x=>f (x+2^m))
  have hld:=mv5 (2^m) fun x=>f (x+2^m)
  rw[pow_two,←hap]
  have hq:(((2^m+2^m:Nat):Int)).tdiv 2=((2^m:Nat):Int):=by rw[Int.tdiv_eq_ediv_of_nonneg (by omega)];omega
  have h1: ¬((2^m+2^m:Nat):Int)=1:=by omega
  rw[←hd]at e2 hld
  rw[←ht]at e1
  generalize (wU (2^m) fun x=>trF m f x^^trF m (fun x=>f (x+2^m)) x)=X at*
  generalize wU (2^m) (trF m f)=A at*
  generalize wU (2^m) (trF m fun x=>f (x+2^m))=B at*
  generalize wU (2^m+2^m) f=w at*
  generalize hN2:2^m+2^m=N2 at*
  generalize 2^m=N at*
  rw[o08 rfl T108 rfl]
  unfold F108 c108
  have t1:((N:Int)-0).toNat=N:=by omega
  have t2:((N2:Int)-N).toNat=N:=by omega
  have t3:(w.drop N).take N=w.drop N:=by rw[List.take_of_length_le (by rw[List.length_drop];omega)]
  simp(disch:=first|omega|fail) only[push_cast,seval,vrl,if_pos,if_neg,hl,hq,nb8 h1,e1,e2,hla,t1,t2,t3]
  rw[e3]
  have hia:ivs X++ivs B=ivs (X++B):=by unfold ivs;rw[List.map_append]
  simp(disch:=first|omega|fail) only[push_cast,seval,vrl,if_pos,if_neg,hlb,hlc,hia]
set_option maxHeartbeats 4000000
def notB(v:Int):Bool:= !(decide (v=0)||decide (v=1))
theorem ua2(w:List Int):w.any notB=fk6 w:=rfl
theorem yl3(w:List Int):w.all bitU= !fk6 w:=by
 unfold fk6 bitU
 induction w with
 |nil=>rfl
 |cons a w ih=>
  rw[List.all_cons,List.any_cons,ih]
  cases (decide (a=0)||decide (a=1))<;>simp
theorem yn6(v:Int):o24 W 107 [.x (.int .i64 v)] []=some (.x (.bool (notB v)),[],[]):=by
 unfold notB
 rw[o08 rfl T107 rfl]
 unfold F107 c107
 by_cases h0:v=0
 ·simp(disch:=first|omega|fail) only[push_cast,seval,vrl,if_pos,if_neg,mr8 h0]
 ·by_cases h1:v=1
  ·simp(disch:=first|omega|fail) only[push_cast,seval,vrl,if_pos,if_neg,nb8 h0,mr8 h1]
  ·simp(disch:=first|omega|fail) only[push_cast,seval,vrl,if_pos,if_neg,nb8 h0,nb8 h1]
def trfE(m:Int)(w:List Int):Int:=if polE m=0 then(if w.length=2^m.toNat then(if fk6 w=true then 2 else 0)else 6)else polE m
theorem shp{M:Nat}(hM:M≤5):IntKind.wrap .i64 (1*2^min M (IntKind.bits .i64))=((2^M:Nat):Int):=by
 have h:M=0∨M=1∨M=2∨M=3∨M=4∨M=5:=by omega
 rcases h with rfl|rfl|rfl|rfl|rfl|rfl<;>decide
theorem rj4{m:Int}(h:polE m=0): ∃M:Nat,m=M∧M≤5:=⟨m.toNat,by unfold polE at h;split at h<;>omega,by unfold polE at h;split at h<;>omega⟩
theorem pw32{M:Nat}(hM:M≤5):1≤2^M∧2^M≤32:=by
 have:2^M≤2^5:=Nat.pow_le_pow_right (by decide) hM
 have:=Nat.two_pow_pos M
 omega
theorem ya0{m:Int}{w:List Int}{bb:Bool}{nl:Nat}(hw:w.length≤100000)(h:trfE m w≠0):o24 W 54 [.x (.int .i64 m), .fz bb (.sl nl 0 1 (ivs w))] []=some (.tup [.x (.slice none 0 0), .x (.int .i64 (trfE m w))],[],[]):=by
 have e0:=hj8 (m:=m)
 unfold trfE at h⊢
 by_cases h1:polE m=0
 ·rw[if_pos h1]at h⊢
  rw[h1]at e0
  obtain⟨M,rfl,hM⟩:=rj4 h1
  have hs:=shp hM
  have h32:=pw32 hM
  rw[Int.toNat_natCast]at h⊢
  by_cases h2:w.length=2^M
  ·rw[if_pos h2]at h⊢
   have h3:fk6 w=true:=by
    cases hb:fk6 w with
    |true=>rfl
    |false=>exact absurd (by rw[hb];rfl) h
   rw[if_pos h3]
   have e1:=fun bb nl=>rq1 (bl:=bb) (nl:=nl) (k:=107) (p:=notB) (l:=w) yn6 rfl (by omega)
   rw[ua2,h3]at e1
   generalize 2^M=N at*
   rw[o08 rfl T54 rfl]
   unfold F54 c54
   simp(disch:=first|omega|fail) only[push_cast,seval,vrl,if_pos,if_neg,e0,hs,h2,e1]
  ·rw[if_neg h2]
   have h2': ¬(w.length:Int)=((2^M:Nat):Int):=by omega
   generalize 2^M=N at*
   rw[o08 rfl T54 rfl]
   unfold F54 c54
   simp(disch:=first|omega|fail) only[push_cast,seval,vrl,if_pos,if_neg,e0,hs,nb8 h2']
 ·rw[if_neg h1]
  rw[o08 rfl T54 rfl]
  unfold F54 c54
  simp(disch:=first|omega|fail) only[push_cast,seval,vrl,if_pos,if_neg,e0,nb8 h1]
theorem fy1(N:Nat)(f:Nat→Bool):fk6 (wU N f)=false:=by
 unfold fk6 wU
 rw[List.any_eq_false]
 intro v hv
 obtain⟨x,_,rfl⟩:=List.mem_map.1 hv
 cases f x<;>simp[bU]
theorem i45{w:List Int}{N:Nat}(hN:w.length=N)(hb:fk6 w=false): ∃f:Nat→Bool,w=wU N f:=by
 refine⟨fun x=>decide (gi w (x:Int)=1),List.ext_getElem (by rw[mv5,hN]) fun j h1 h2=> ?_⟩
 have h3:=List.any_eq_false.1 hb w[j] (List.getElem_mem h1)
 have h4:gi w (j:Int)=w[j]:=by unfold gi;rw[Int.toNat_natCast,List.getD_eq_getElem?_getD,List.getElem?_eq_getElem h1];rfl
 obtain⟨_,h7⟩:=List.getElem?_eq_some_iff.1 (z96 (N:=N) (x:=j) (fun x:Nat=>decide (gi w (x:Int)=1)) (by omega))
 rw[h7,h4]
 by_cases h5:w[j]=1
 ·rw[h5];rfl
 ·have h6:w[j]=0:=by
   simp[h5]at h3
   exact h3
  rw[h6];rfl
theorem c03{m:Nat}(hm:m≤5)(f:Nat→Bool)(bb:Bool)(nl:Nat):o24 W 54 [.x (.int .i64 m), .fz bb (.sl nl 0 1 (ivs (wU (2^m) f)))] []=some (.tup [.own 0 [], .x (.int .i64 0)],[.sl 0 3 1 (ivs (wU (2^m) (trF m f)))],[]):=by
 have e0:=hj8 (m:=(m:Int))
 rw[rm0 hm]at e0
 have hs:=shp hm
 have h32:=pw32 hm
 have hl:=mv5 (2^m) f
 have e1:=fun bb nl=>rq1 (bl:=bb) (nl:=nl) (k:=107) (p:=notB) (l:=wU (2^m) f) yn6 rfl (by omega)
 rw[ua2,fy1]at e1
 have e2:=fun bb nl=>hf7 f hm bb nl
 generalize wU (2^m) (trF m f)=B at*
 generalize wU (2^m) f=A at*
 generalize 2^m=N at*
 rw[o08 rfl T54 rfl]
 unfold F54 c54
 simp(disch:=first|omega|fail) only[push_cast,seval,vrl,if_pos,if_neg,e0,hs,hl,e1,e2]
def polS(i:Nat)(f:Nat→Bool)(j:Nat):Bool:=decide (i&&&j=i)&&f j
def polM(N:Nat)(f:Nat→Bool)(i j x:Nat):Bool:=if x<i then polF N f x else if x=i then xorL (List.range j) (polS i f)else false
theorem modU(a b:Bool):(bU a+bU b).tmod 2=bU (a^^b):=by cases a<;>cases b<;>rfl
theorem vc8{N:Nat}(hN:N≤32){f:Nat→Bool}{bb:Bool}{nl i:Nat}(hi:i<N): ∀(d j:Nat),j+d=N→ ∀ks,
 vgoL W ⟨hNo,[.tmp 2],0⟩ [0,3,4,5] c53L0 (.blk 2 [0,3,4]::ks) [(0, .fz bb (.sl nl 0 1 (ivs (wU N f)))),(3, .own 0 []),(4, .x (.int .i64 i)),(5, .x (.int .i64 j))] [.sl 0 3 1 (ivs (wU N (polM N f i j)))]=
  vgo W ⟨hNo,[.tmp 2],0⟩ ks (VFr.of [(0, .fz bb (.sl nl 0 1 (ivs (wU N f)))),(3, .own 0 []),(4, .x (.int .i64 i))]) [.sl 0 3 1 (ivs (wU N (polM N f i N)))]
 |0,j,hj,ks=>by
  obtain rfl:j=N:=by omega
  have hl:=mv5 j f
  rw[sb5 c53L0.eq_def]
  simp(disch:=first|omega|fail) only[push_cast,seval,vrl,if_pos,if_neg,hl]
 |d+1,j,hj,ks=>by
  have ih:=vc8 hN (f:=f) (bb:=bb) (nl:=nl) hi d (j+1) (by omega) ks
  have hl:=mv5 N f
  have hl2:=mv5 N (polM N f i j)
  have ha:=ga1 (x:=i) (s:=j) (by omega) (by omega)
  have g1:gi (wU N (polM N f i j)) (i:Int)=bU (xorL (List.range j) (polS i f)):=by
   unfold gi;rw[Int.toNat_natCast,List.getD_eq_getElem?_getD,z96 _ (by omega),Option.getD_some]
   unfold polM;rw[if_neg (Nat.lt_irrefl i),if_pos rfl]
  have g2:gi (wU N f) (j:Int)=bU (f j):=by
   unfold gi;rw[Int.toNat_natCast,List.getD_eq_getElem?_getD,z96 _ (by omega),Option.getD_some]
  have hstep:xorL (List.range (j+1)) (polS i f)=(xorL (List.range j) (polS i f)^^polS i f j):=by rw[List.range_succ,bl1]
  by_cases hc:i&&&j=i
  ·have hs:=eb3 (N:=N) (i:=i) (polM N f i j) (polM N f i (j+1)) hi fun x _ hx=>by unfold polM;by_cases h:x<i<;>simp[h,hx]
   have hp:polM N f i (j+1) i=(xorL (List.range j) (polS i f)^^f j):=by
    unfold polM;rw[if_neg (Nat.lt_irrefl i),if_pos rfl,hstep];unfold polS;rw[decide_eq_true hc,Bool.true_and]
   rw[hp]at hs
   have hm:=modU (xorL (List.range j) (polS i f)) (f j)
   have hc':(((i&&&j:Nat):Int))=(i:Int):=by rw[hc]
   have hr1:=bf9 (xorL (List.range j) (polS i f))
   have hr2:=bf9 (f j)
   rw[←hs,Int.natCast_add j,Int.natCast_one]at ih
   generalize bU (xorL (List.range j) (polS i f)^^f j)=z at*
   generalize bU (xorL (List.range j) (polS i f))=x at*
   generalize bU (f j)=y at*
   generalize wU N (polM N f i j)=A at*
   generalize wU N f=w at*
   rw[←ih,sb5 c53L0.eq_def]
   simp(disch:=first|omega|fail) only[push_cast,seval,vrl,if_pos,if_neg,hl,hl2,ha,hc',g1,g2,hm]
  ·have hs:wU N (polM N f i (j+1))=wU N (polM N f i j):=x70 fun x _=>by
    unfold polM
    rw[hstep]
    unfold polS
    rw[decide_eq_false hc,Bool.false_and,Bool.xor_false]
   have hc': ¬(((i&&&j:Nat):Int))=(i:Int):=by omega
   rw[hs,Int.natCast_add j,Int.natCast_one]at ih
   generalize i&&&j=a at*
   rw[←ih,sb5 c53L0.eq_def]
   simp(disch:=first|omega|fail) only[push_cast,seval,vrl,if_pos,if_neg,hl,hl2,ha,nb8 hc']
theorem di1{N:Nat}(hN:N≤32){f:Nat→Bool}{bb:Bool}{nl:Nat}: ∀(d i:Nat),i+d=N→ ∀ks,
 vgoL W ⟨hNo,[.tmp 2],0⟩ [0,3,4] c53L1 (.blk 0 [3]::ks) [(0, .fz bb (.sl nl 0 1 (ivs (wU N f)))),(3, .own 0 []),(4, .x (.int .i64 i))] [.sl 0 3 1 (ivs (wU N fun x=>decide (x<i)&&polF N f x))]=
  vgo W ⟨hNo,[.tmp 2],0⟩ ks (VFr.of [(3, .own 0 [])]) [.sl 0 3 1 (ivs (wU N (polF N f)))]
 |0,i,hi,ks=>by
  obtain rfl:i=N:=by omega
  have hl:=mv5 i f
  rw[x70 (N:=i) (f:=fun x=>decide (x<i)&&polF i f x) (g:=polF i f) fun x hx=>by rw[decide_eq_true hx,Bool.true_and],sb5 c53L1.eq_def]
  simp(disch:=first|omega|fail) only[push_cast,seval,vrl,if_pos,if_neg,hl]
 |d+1,i,hi,ks=>by
  have ih:=di1 hN (f:=f) (bb:=bb) (nl:=nl) d (i+1) (by omega) ks
  have hl:=mv5 N f
  have e1:=fun ks=>vc8 hN (f:=f) (bb:=bb) (nl:=nl) (i:=i) (by omega) N 0 (by omega) ks
  have h1:wU N (fun x=>decide (x<i)&&polF N f x)=wU N (polM N f i 0):=x70 fun x _=>by
   unfold polM
   by_cases h:x<i
   ·rw[if_pos h,decide_eq_true h,Bool.true_and]
   ·rw[if_neg h,decide_eq_false h,Bool.false_and]
    split<;>rfl
  have h2:wU N (polM N f i N)=wU N (fun x=>decide (x<i+1)&&polF N f x):=x70 fun x _=>by
   unfold polM
   by_cases h:x<i
   ·rw[if_pos h,decide_eq_true (show x<i+1 by omega),Bool.true_and]
   ·rw[if_neg h]
    by_cases h3:x=i
    ·rw[if_pos h3,decide_eq_true (show x<i+1 by omega),Bool.true_and,h3];rfl
    ·rw[if_neg h3,decide_eq_false (show¬x<i+1 by omega),Bool.false_and]
  rw[h2]at e1
  rw[Int.natCast_zero]at e1
  rw[Int.natCast_add i,Int.natCast_one]at ih
  rw[h1,←ih,sb5 c53L1.eq_def]
  simp(disch:=first|omega|fail) only[push_cast,seval,vrl,if_pos,if_neg,hl]
  rw[e1]
  simp(disch:=first|omega|fail) only[push_cast,seval,vrl,if_pos,if_neg]
theorem dr3{N:Nat}(hN:N≤32)(f:Nat→Bool)(bb:Bool)(nl:Nat):o24 W 53 [.fz bb (.sl nl 0 1 (ivs (wU N f)))] []=some (.own 0 [],[.sl 0 3 1 (ivs (wU N (polF N f)))],[]):=by
 have e:=fun ks=>di1 hN (f:=f) (bb:=bb) (nl:=nl) N 0 (by omega) ks
 have hl:=mv5 N f
 rw[pk6 (f:=fun x=>decide (x<0)&&polF N f x) fun x _=>by simp,Int.natCast_zero]at e
 rw[o08 rfl T53 rfl]
 unfold F53 c53
 simp(disch:=first|omega|fail) only[push_cast,seval,vrl,if_pos,if_neg,hl]
 rw[e]
 simp(disch:=first|omega|fail) only[push_cast,seval,vrl,if_pos,if_neg]
theorem ol0{m:Nat}(hm:m≤5)(f:Nat→Bool)(bb:Bool)(nl:Nat):o24 W 53 [.fz bb (.sl nl 0 1 (ivs (wU (2^m) f)))] []=some (.own 0 [],[.sl 0 3 1 (ivs (wU (2^m) (trF m f)))],[]):=by
 have e:=dr3 (pw32 hm).2 f bb nl
 rw[x70 fun x hx=>kh5 m f x hm hx]at e
 exact e
set_option maxHeartbeats 4000000
def tb(n:Nat)(g:Nat→Int):List Int:=(List.range n).map g
theorem mh1(n:Nat)(g:Nat→Int):(tb n g).length=n:=by simp[tb]
theorem m54{n x:Nat}(g:Nat→Int)(hx:x<n):(tb n g)[x]? =some (g x):=by
 unfold tb;rw[List.getElem?_map,List.getElem?_range hx];rfl
theorem b35{n x:Nat}(g:Nat→Int)(hx:x<n):gi (tb n g) (x:Int)=g x:=by
 unfold gi;rw[Int.toNat_natCast,List.getD_eq_getElem?_getD,m54 g hx];rfl
theorem y54{n:Nat}{f g:Nat→Int}(h: ∀x,x<n→f x=g x):tb n f=tb n g:=List.map_congr_left fun x hx=>h x (List.mem_range.1 hx)
theorem s95{n i:Nat}{f g:Nat→Int}{v:Int}(hv:g i=v)(h: ∀x,x<n→x≠i→g x=f x):(tb n f).set i v=tb n g:=by
 unfold tb
 refine List.ext_getElem (by simp) fun j h1 h2=> ?_
 rw[List.getElem_set]
 simp only[List.getElem_map,List.getElem_range]
 by_cases hij:i=j
 ·rw[if_pos hij,←hij,hv]
 ·rw[if_neg hij,h j (by simpa using h2) fun e=>hij e.symm]
theorem lq6(n:Nat):List.replicate n (0:Int)=tb n fun _=>0:=by
 unfold tb
 refine List.ext_getElem (by simp) fun j h1 h2=> ?_
 simp
def plG:List Nat→List Int→Nat→Int
 |p::l,v::ms,x=>if x=p then v else plG l ms x
 |_,_,_=>0
theorem l46{p:Nat}{v:Int}{x:Nat}: ∀{l:List Nat} {ms:List Int},l.length=ms.length→p∉l→plG (l++[p]) (ms++[v]) x=if x=p then v else plG l ms x
 | [],[],_,_=>rfl
 |a::l,b::ms,h,hp=>by
  rw[List.cons_append,List.cons_append,plG,plG,l46 (by simpa using h) (fun h2=>hp (List.mem_cons_of_mem _ h2))]
  by_cases h1:x=a
  ·have: ¬x=p:=fun e=>hp (by rw[←e,h1];exact List.mem_cons_self)
   rw[if_pos h1,if_neg this,if_pos h1]
  ·rw[if_neg h1,if_neg h1]
theorem ll8: ∀{l:List Nat} {ms:List Int} {x:Nat},plG l ms x=0∨plG l ms x∈ms
 |p::l,v::ms,x=>by
  rw[plG]
  by_cases h:x=p
  ·rw[if_pos h];exact .inr List.mem_cons_self
  ·rw[if_neg h]
   rcases ll8 (l:=l) (ms:=ms) (x:=x)with h1|h1
   ·exact .inl h1
   ·exact .inr (List.mem_cons_of_mem _ h1)
 | [],_,_=> .inl rfl
 |_::_,[],_=> .inl rfl
theorem vw4: ∀{l:List Nat} {ms:List Int},l.Nodup→l.length=ms.length→ ∀v∈ms,∃p∈l,plG l ms p=v
 | [],[],_,_,v,h=>by cases h
 |p::l,u::ms,hn,hl,v,h=>by
  rw[List.nodup_cons]at hn
  rcases List.mem_cons.1 h with h|h
  ·subst h
   exact⟨p,List.mem_cons_self,by rw[plG,if_pos rfl]⟩
  ·obtain⟨q,hq,h2⟩:=vw4 hn.2 (by simpa using hl) v h
   exact⟨q,List.mem_cons_of_mem _ hq,by
    have hqp: ¬q=p:=fun e=>hn.1 (by rw[←e];exact hq)
    rw[plG,if_neg hqp,h2]⟩
theorem gb6{n:Nat}{l:List Nat}{ms:List Int}(hn:l.Nodup)(hl:l.length=ms.length)(hlt: ∀x∈l,x<n):fk6 (tb n (plG l ms))=fk6 ms:=by
 rw[Bool.eq_iff_iff]
 unfold fk6
 rw[List.any_eq_true,List.any_eq_true]
 constructor
 ·rintro⟨v,hv,hb⟩
  obtain⟨x,hx,rfl⟩:=List.mem_map.1 hv
  rcases ll8 (l:=l) (ms:=ms) (x:=x)with h|h
  ·rw[h]at hb;simp at hb
  ·exact⟨_,h,hb⟩
 ·rintro⟨v,hv,hb⟩
  obtain⟨p,hp,h⟩:=vw4 hn hl v hv
  exact⟨v,List.mem_map.2 ⟨p,List.mem_range.2 (hlt p hp),h⟩,hb⟩
theorem qq9{m k:Nat}(hm:m≤5)(hk:k≤2^m):(ev3 m k).length=k∧(ev3 m k).Nodup∧ ∀x∈ev3 m k,x<2^m:=by
 obtain⟨h1,h2,h3,_⟩:=j17 hm
 have hnd:(ev3 m k).Nodup:=List.Pairwise.filter _ List.nodup_range
 refine⟨?_,hnd,fun x hx=>List.mem_range.1 (List.mem_filter.1 hx).1⟩
 have hp:((ordP m).take k).Perm (ev3 m k):=by
  refine(List.perm_ext_iff_of_nodup (List.Sublist.nodup (List.take_sublist _ _) h2) hnd).2 fun x=> ?_
  rw[ev3,List.mem_filter,List.mem_range,decide_eq_true_eq]
  exact⟨fun h=>⟨h3 x (List.mem_of_mem_take h),h⟩,fun h=>h.2⟩
 rw[←hp.length_eq,List.length_take];omega
def plW(m:Nat)(ms:List Int):List Int:=tb (2^m) (plG (ev3 m ms.length) ms)
theorem oe2{m:Nat}{ms:List Int}(hm:m≤5)(hk:ms.length≤2^m):fk6 (plW m ms)=fk6 ms:=by
 obtain⟨h1,h2,h3⟩:=qq9 hm hk
 exact gb6 h2 h1 h3
theorem c13{α:Type}{l:List α}{i:Nat}{x:α}(h:l[i]? =some x):l.take (i+1)=l.take i++[x]:=by rw[List.take_add_one,h];rfl
theorem p01{l:List Nat}(h:l.Nodup){i x:Nat}(hx:l[i]? =some x):x∉l.take i:=fun hm=>by
 have h1:(l.take (i+1)).Nodup:=List.Sublist.nodup (List.take_sublist _ _) h
 rw[c13 hx,List.nodup_append]at h1
 exact h1.2.2 x hm x (by simp) rfl
section
variable {l:List Nat} {ms:List Int} {n:Nat}
theorem mu8(hn:l.Nodup)(hl:l.length=ms.length){i p:Nat}{v:Int}(h1:l[i]? =some p)(h2:ms[i]? =some v):(tb n (plG (l.take i) (ms.take i))).set p v=tb n (plG (l.take (i+1)) (ms.take (i+1))):=by
 have hlen:(l.take i).length=(ms.take i).length:=by rw[List.length_take,List.length_take,hl]
 have hnt:=p01 hn h1
 rw[c13 h1,c13 h2]
 refine s95 ?_ fun x _ hx=> ?_
 ·rw[l46 hlen hnt,if_pos rfl]
 ·rw[l46 hlen hnt,if_neg hx]
theorem vd7{bb:Bool}{nl nl8 nl24:Nat}{z0:Int}(hn:l.Nodup)(hl:l.length=ms.length)(hlt: ∀x∈l,x<n)(hn2:n≤100)(hml:ms.length≤100): ∀(d i:Nat),i+d=l.length→ ∀ks,
 vgoL W ⟨hNo,[.tmp 4, .tmp 5],0⟩ [0,1,8,24,25,26] c57L0 (.blk 0 [0,8]::ks) [(0, .x (.int .i64 z0)),(1, .fz bb (.sl nl 0 1 (ivs ms))),(8, .own 0 []),(24, .own 1 []),(25, .x (.int .i64 l.length)),(26, .x (.int .i64 i))] [.sl nl8 3 1 (ivs (tb n (plG (l.take i) (ms.take i)))), .sl nl24 3 1 (ivs (pnI l))]=
  vgo W ⟨hNo,[.tmp 4, .tmp 5],0⟩ ks (VFr.of [(0, .x (.int .i64 z0)),(8, .own 0 [])]) [.sl nl8 3 1 (ivs (tb n (plG l ms))), .sl nl24 3 1 (ivs (pnI l))]
 |0,i,hi,ks=>by
  rw[List.take_of_length_le (by omega),List.take_of_length_le (by omega),sb5 c57L0.eq_def]
  simp(disch:=first|omega|fail) only[push_cast,seval,vrl,if_pos,if_neg]
 |d+1,i,hi,ks=>by
  obtain⟨p,hp⟩:=ge6 (l:=l) (i:=i) (by omega)
  obtain⟨v,hv⟩:=ge6 (l:=ms) (i:=i) (by omega)
  have hpn:=hlt p (List.mem_of_getElem? hp)
  have hs:=mu8 (n:=n) hn hl hp hv
  have ih:=vd7 (bb:=bb) (nl:=nl) (nl8:=nl8) (nl24:=nl24) (z0:=z0) hn hl hlt hn2 hml d (i+1) (by omega) ks
  have g1:gi (pnI l) (i:Int)=(p:Int):=by unfold gi pnI;rw[Int.toNat_natCast,List.getD_eq_getElem?_getD,List.getElem?_map,hp];rfl
  have g2:gi ms (i:Int)=v:=by unfold gi;rw[Int.toNat_natCast,List.getD_eq_getElem?_getD,hv];rfl
  have hpl:=ip1 l
  have htl:=mh1 n (plG (l.take i) (ms.take i))
  rw[←hs,Int.natCast_add i,Int.natCast_one]at ih
  generalize tb n (plG (l.take i) (ms.take i))=A at*
  generalize pnI l=L at*
  rw[←ih,sb5 c57L0.eq_def]
  simp(disch:=first|omega|fail) only[push_cast,seval,vrl,if_pos,if_neg,g1,g2,hpl,htl]
end
def encE(m:Int)(ms:List Int):Int:=if besE m (ms.length:Int)=0 then(if fk6 ms=true then 2 else 0)else besE m (ms.length:Int)
theorem qu4{m k:Int}(h:besE m k=0): ∃M K:Nat,m=M∧k=K∧M≤5∧K≤2^M:=by
 unfold besE at h
 by_cases h1:polE m=0
 ·rw[if_pos h1]at h
  obtain⟨M,rfl,hM⟩:=rj4 h1
  rw[Int.toNat_natCast]at h
  by_cases h2:k<0∨((2^M:Nat):Int)<k
  ·rw[if_pos h2]at h;cases h
  ·exact⟨M,k.toNat,rfl,by omega,hM,by omega⟩
 ·rw[if_neg h1]at h;exact absurd h h1
theorem hq4{m k:Nat}(hm:m≤5)(hk:k≤2^m):besE m k=0:=by
 unfold besE;rw[if_pos (rm0 hm),Int.toNat_natCast,if_neg (by omega)]
theorem ui6{m:Int}{ms:List Int}{bb:Bool}{nl:Nat}(hw:ms.length≤100000)(h:encE m ms≠0):o24 W 57 [.x (.int .i64 m), .fz bb (.sl nl 0 1 (ivs ms))] []=some (.tup [.x (.slice none 0 0), .x (.int .i64 (encE m ms))],[],[]):=by
 unfold encE at h⊢
 by_cases h1:besE m (ms.length:Int)=0
 ·rw[if_pos h1]at h⊢
  have hb:fk6 ms=true:=by
   cases hb:fk6 ms with
   |true=>rfl
   |false=>exact absurd (by rw[hb];rfl) h
  rw[if_pos hb]
  obtain⟨M,K,rfl,hK,hM,hKM⟩:=qu4 h1
  obtain rfl:K=ms.length:=by omega
  have e1:=k00 hM hKM
  obtain⟨f1,f2,f3⟩:=qq9 hM hKM
  have hs:=shp hM
  have h32:=pw32 hM
  have e2:=fun ks=>vd7 (bb:=bb) (nl:=nl) (nl8:=0) (nl24:=0) (z0:=(M:Int)) (n:=2^M) f2 f1 f3 (by omega) (by omega) (ev3 M ms.length).length 0 (by omega) ks
  rw[List.take_zero,List.take_zero,show plG [] []=fun _=>0 from rfl,←lq6,Int.natCast_zero]at e2
  have hbw:=oe2 hM hKM
  rw[hb]at hbw
  have htl:=mh1 (2^M) (plG (ev3 M ms.length) ms)
  unfold plW at hbw
  have e3:=fun bb nl=>ya0 (m:=(M:Int)) (w:=tb (2^M) (plG (ev3 M ms.length) ms)) (bb:=bb) (nl:=nl) (by omega) (by unfold trfE;rw[if_pos (rm0 hM),Int.toNat_natCast,if_pos htl,hbw];decide)
  have hE:trfE (M:Int) (tb (2^M) (plG (ev3 M ms.length) ms))=2:=by unfold trfE;rw[if_pos (rm0 hM),Int.toNat_natCast,if_pos htl,hbw];rfl
  rw[hE]at e3
  have hpl:=ip1 (ev3 M ms.length)
  generalize tb (2^M) (plG (ev3 M ms.length) ms)=A at*
  generalize pnI (ev3 M ms.length)=L at*
  generalize (ev3 M ms.length).length=x at*
  generalize 2^M=N at*
  rw[o08 rfl T57 rfl]
  unfold F57 c57
  simp(disch:=first|omega|fail) only[push_cast,seval,vrl,if_pos,if_neg,e1,hs,hpl]
  rw[e2]
  simp(disch:=first|omega|fail) only[push_cast,seval,vrl,if_pos,if_neg,e3]
 ·rw[if_neg h1]
  have e1:=vv0 h1
  generalize besE m (ms.length:Int)=E at*
  rw[o08 rfl T57 rfl]
  unfold F57 c57
  simp(disch:=first|omega|fail) only[push_cast,seval,vrl,if_pos,if_neg,e1,nb8 h1]
theorem ud0{m:Nat}{ms:List Int}{bb:Bool}{nl:Nat}(hm:m≤5)(hk:ms.length≤2^m){f:Nat→Bool}(hf:plW m ms=wU (2^m) f):o24 W 57 [.x (.int .i64 m), .fz bb (.sl nl 0 1 (ivs ms))] []=some (.tup [.own 0 [], .x (.int .i64 0)],[.sl 0 3 1 (ivs (wU (2^m) (trF m f)))],[]):=by
 have e1:=k00 hm hk
 obtain⟨f1,f2,f3⟩:=qq9 hm hk
 have hs:=shp hm
 have h32:=pw32 hm
 have e2:=fun ks=>vd7 (bb:=bb) (nl:=nl) (nl8:=0) (nl24:=0) (z0:=(m:Int)) (n:=2^m) f2 f1 f3 (by omega) (by omega) (ev3 m ms.length).length 0 (by omega) ks
 rw[List.take_zero,List.take_zero,show plG [] []=fun _=>0 from rfl,←lq6,Int.natCast_zero]at e2
 unfold plW at hf
 rw[hf]at e2
 have e3:=fun bb nl=>c03 hm f bb nl
 have hpl:=ip1 (ev3 m ms.length)
 generalize wU (2^m) (trF m f)=B at*
 generalize wU (2^m) f=A at*
 generalize pnI (ev3 m ms.length)=L at*
 generalize (ev3 m ms.length).length=x at*
 generalize 2^m=N at*
 rw[o08 rfl T57 rfl]
 unfold F57 c57
 simp(disch:=first|omega|fail) only[push_cast,seval,vrl,if_pos,if_neg,e1,hs,hpl]
 rw[e2]
 simp(disch:=first|omega|fail) only[push_cast,seval,vrl,if_pos,if_neg,e3]
theorem mn7{m:Int}{w:List Int}{bb:Bool}{nl:Nat}(hw:w.length≤100000):o24 W 55 [.x (.int .i64 m), .fz bb (.sl nl 0 1 (ivs w))] []=some (.x (.int .i64 (encE m w)),[],[]):=by
 have eb:=fun bb nl=>nu7 (l:=w) (b:=bb) (nl:=nl) (by omega)
 rw[yl3]at eb
 unfold encE besE
 rw[o08 rfl T55 rfl]
 unfold F55 c55
 by_cases h1:polE m=0
 ·obtain⟨M,rfl,hM⟩:=rj4 h1
  have hs:=shp hM
  have h32:=pw32 hM
  rw[Int.toNat_natCast,if_pos h1]
  by_cases h2:((2^M:Nat):Int)<(w.length:Int)
  ·rw[if_pos (show(w.length:Int)<0∨((2^M:Nat):Int)<(w.length:Int)from .inr h2),if_neg (by decide)]
   generalize 2^M=N at*
   simp(disch:=first|omega|fail) only[push_cast,seval,vrl,if_pos,if_neg,hs]
  ·rw[if_neg (show¬((w.length:Int)<0∨((2^M:Nat):Int)<(w.length:Int)) by omega),if_pos rfl]
   generalize 2^M=N at*
   cases hb:fk6 w with
   |true=>
    rw[hb]at eb
    rw[if_pos rfl]
    simp(disch:=first|omega|fail) only[push_cast,seval,vrl,if_pos,if_neg,hs,eb]
   |false=>
    rw[hb]at eb
    rw[if_neg (by decide)]
    simp(disch:=first|omega|fail) only[push_cast,seval,vrl,if_pos,if_neg,hs,eb]
 ·have hE:polE m=4:=by unfold polE at h1⊢;split at h1<;>simp_all
  have hm:m<0∨5<m:=Classical.byContradiction fun hx=>h1 (by unfold polE;rw[if_neg hx])
  have h40: ¬(4:Int)=0:=by decide
  rw[hE,if_neg h40,if_neg h40]
  by_cases h0:m<0
  ·simp(disch:=first|omega|fail) only[push_cast,seval,vrl,if_pos,if_neg]
  ·simp(disch:=first|omega|fail) only[push_cast,seval,vrl,if_pos,if_neg]
section
variable {l:List Nat} {ms:List Int} {n:Nat}
theorem eb6{bb:Bool}{nl nl5 nl6:Nat}(hn:l.Nodup)(hl:l.length=ms.length)(hlt: ∀x∈l,x<n)(hn2:n≤100)(hml:ms.length≤100): ∀(d i:Nat),i+d=l.length→ ∀ks,
 vgoL W ⟨hNo,[.tmp 4],0⟩ [1,5,6,7] c56L0 (.blk 0 [5]::ks) [(1, .fz bb (.sl nl 0 1 (ivs ms))),(5, .own 0 []),(6, .own 1 []),(7, .x (.int .i64 i))] [.sl nl5 3 1 (ivs (tb n (plG (l.take i) (ms.take i)))), .sl nl6 3 1 (ivs (pnI l))]=
  vgo W ⟨hNo,[.tmp 4],0⟩ ks (VFr.of [(5, .own 0 [])]) [.sl nl5 3 1 (ivs (tb n (plG l ms))), .sl nl6 3 1 (ivs (pnI l))]
 |0,i,hi,ks=>by
  have hpl:=ip1 l
  rw[List.take_of_length_le (by omega),List.take_of_length_le (by omega),sb5 c56L0.eq_def]
  simp(disch:=first|omega|fail) only[push_cast,seval,vrl,if_pos,if_neg,hpl]
 |d+1,i,hi,ks=>by
  obtain⟨p,hp⟩:=ge6 (l:=l) (i:=i) (by omega)
  obtain⟨v,hv⟩:=ge6 (l:=ms) (i:=i) (by omega)
  have hpn:=hlt p (List.mem_of_getElem? hp)
  have hs:=mu8 (n:=n) hn hl hp hv
  have ih:=eb6 (bb:=bb) (nl:=nl) (nl5:=nl5) (nl6:=nl6) hn hl hlt hn2 hml d (i+1) (by omega) ks
  have g1:gi (pnI l) (i:Int)=(p:Int):=by unfold gi pnI;rw[Int.toNat_natCast,List.getD_eq_getElem?_getD,List.getElem?_map,hp];rfl
  have g2:gi ms (i:Int)=v:=by unfold gi;rw[Int.toNat_natCast,List.getD_eq_getElem?_getD,hv];rfl
  have hpl:=ip1 l
  have htl:=mh1 n (plG (l.take i) (ms.take i))
  rw[←hs,Int.natCast_add i,Int.natCast_one]at ih
  generalize tb n (plG (l.take i) (ms.take i))=A at*
  generalize pnI l=L at*
  rw[←ih,sb5 c56L0.eq_def]
  simp(disch:=first|omega|fail) only[push_cast,seval,vrl,if_pos,if_neg,g1,g2,hpl,htl]
end
theorem mf7{m:Nat}{ms:List Int}{bb:Bool}{nl:Nat}(hm:m≤5)(hk:ms.length≤2^m){f:Nat→Bool}(hf:plW m ms=wU (2^m) f):o24 W 56 [.x (.int .i64 m), .fz bb (.sl nl 0 1 (ivs ms))] []=some (.own 0 [],[.sl 0 3 1 (ivs (wU (2^m) (trF m f)))],[]):=by
 have e1:=nq3 hm hk
 obtain⟨f1,f2,f3⟩:=qq9 hm hk
 have hs:=shp hm
 have h32:=pw32 hm
 have e2:=fun ks=>eb6 (bb:=bb) (nl:=nl) (nl5:=0) (nl6:=1) (n:=2^m) f2 f1 f3 (by omega) (by omega) (ev3 m ms.length).length 0 (by omega) ks
 rw[List.take_zero,List.take_zero,show plG [] []=fun _=>0 from rfl,←lq6,Int.natCast_zero]at e2
 unfold plW at hf
 rw[hf]at e2
 have e3:=fun bb nl=>ol0 hm f bb nl
 generalize wU (2^m) (trF m f)=B at*
 generalize wU (2^m) f=A at*
 generalize pnI (ev3 m ms.length)=L at*
 generalize (ev3 m ms.length).length=x at*
 generalize 2^m=N at*
 rw[o08 rfl T56 rfl]
 unfold F56 c56
 simp(disch:=first|omega|fail) only[push_cast,seval,vrl,if_pos,if_neg,e1,hs]
 rw[e2]
 simp(disch:=first|omega|fail) only[push_cast,seval,vrl,if_pos,if_neg,e3]
set_option maxHeartbeats 4000000
def xr(a b:Int):Int:=(a+b)%2
def fstG(h:Nat)(g:Nat→Int)(x:Nat):Int:=if 0≤g x∧0≤g (h+x)then xr (g x) (g (h+x))else-1
def sndG(h:Nat)(g s:Nat→Int)(x:Nat):Int:=if 0≤g x then xr (g x) (s x)else g (h+x)
def cfG(h:Nat)(g s:Nat→Int)(x:Nat):Bool:=decide (0≤g x)&&(decide (0≤g (h+x))&& !decide (g (h+x)=xr (g x) (s x)))
def snG(h:Nat)(s t:Nat→Int)(x:Nat):Int:=if x<h then xr (s x) (t x)else t (x-h)
def rdP(free:Nat→Bool):Nat→(Nat→Int)→Nat→Option (List Int×(Nat→Int))
 |0,g,k=>if free k=true then(if g 0<0 then none else some ([g 0],fun _=>g 0))else if g 0=1 then none else some ([0],fun _=>0)
 |m+1,g,k=>
  match rdP free m (fstG (2^m) g) k with
  |none=>none
  |some (a,s)=>if(List.range (2^m)).any (cfG (2^m) g s)=true then none else
   match rdP free m (sndG (2^m) g s) (k+2^m)with
   |none=>none
   |some (b,t)=>some (a++b,snG (2^m) s t)
def tri(v:Int):Prop:=v= -1∨v=0∨v=1
def bit(v:Int):Prop:=v=0∨v=1
def G3(N:Nat)(g:Nat→Int):Prop:= ∀x,x<N→tri (g x)
theorem s32{v:Int}(h:tri v)(h0:0≤v):bit v:=by unfold tri at h;unfold bit;omega
theorem vb6{v:Int}(h:bit v):tri v:=by unfold bit at h;unfold tri;omega
theorem es3(a b:Int):bit (xr a b):=by unfold bit xr;omega
theorem yq0{a b:Int}(ha:bit a)(hb:bit b):Go.bits .xor .i64 a b=xr a b:=by
 rcases ha with rfl|rfl<;>rcases hb with rfl|rfl<;>rfl
theorem et5{h:Nat}{g:Nat→Int}:G3 h (fstG h g):=fun x _=>by
 unfold fstG
 split
 ·exact vb6 (es3 _ _)
 ·exact .inl rfl
theorem ie9{h:Nat}{g s:Nat→Int}(hg:G3 (h+h) g):G3 h (sndG h g s):=fun x hx=>by
 unfold sndG
 split
 ·exact vb6 (es3 _ _)
 ·exact hg _ (by omega)
theorem pe0{free:Nat→Bool}: ∀{m:Nat} {g:Nat→Int} {k:Nat} {a:List Int} {s:Nat→Int},G3 (2^m) g→rdP free m g k=some (a,s)→a.length=2^m∧ ∀x,x<2^m→bit (s x)
 |0,g,k,a,s,hg,h=>by
  have h0:=hg 0 (by decide)
  rw[rdP]at h
  split at h
  ·split at h
   ·cases h
   ·cases h;exact⟨rfl,fun x _=>s32 h0 (show 0≤g 0 by omega)⟩
  ·split at h
   ·cases h
   ·cases h;exact⟨rfl,fun x _=> .inl rfl⟩
 |m+1,g,k,a,s,hg,h=>by
  rw[rdP]at h
  split at h
  ·cases h
  ·rename_i a1 s1 h1
   split at h
   ·cases h
   ·split at h
    ·cases h
    ·rename_i b t h2
     cases h
     obtain⟨p1,p2⟩:=pe0 et5 h1
     obtain⟨q1,q2⟩:=pe0 (ie9 (by rw[←pow_two];exact hg)) h2
     refine⟨by rw[List.length_append,p1,q1,pow_two],fun x hx=> ?_⟩
     rw[pow_two]at hx
     unfold snG
     split
     ·exact es3 _ _
     ·exact q2 _ (by omega)
theorem n43{h:Nat}{f g k:Nat→Int}(h1: ∀x,x<h→k x=f x)(h2: ∀x,x<h→k (x+h)=g x):tb h f++tb h g=tb (h+h) k:=by
 unfold tb
 rw[List.range_add,List.map_append,List.map_map]
 congr 1
 ·exact List.map_congr_left fun x hx=>(h1 x (List.mem_range.1 hx)).symm
 ·exact List.map_congr_left fun x hx=>by
   show g x=k (h+x)
   rw[Nat.add_comm,h2 x (List.mem_range.1 hx)]
theorem x84{i:Nat}(g:Nat→Int):tb (i+1) g=tb i g++[g i]:=by unfold tb;rw[List.range_succ,List.map_append];rfl
section
variable {h:Nat} {g s t:Nat→Int} {nl:Nat} {B F T:Tree} {E:Nat}
theorem ua8(hh:h≤16)(hg:G3 (h+h) g): ∀(d i:Nat),i+d=h→ ∀ks,
 vgoL W ⟨h111,[.tmp 4],1⟩ [0,1,6,7,73,74] c111L0 (.blk 0 [0,1,6,7]::ks) [(0, .own 0 []),(1, .fz true (.sl nl 0 1 (ivs (tb (h+h) g)))),(6, .x (.int .i64 h)),(7, .own 1 []),(73, .x (.int .i64 h)),(74, .x (.int .i64 i))] [B, .sl 0 3 1 (ivs (tb h fun x=>if x<i then fstG h g x else 0))]=
  vgo W ⟨h111,[.tmp 4],1⟩ ks (VFr.of [(0, .own 0 []),(1, .fz true (.sl nl 0 1 (ivs (tb (h+h) g)))),(6, .x (.int .i64 h)),(7, .own 1 [])]) [B, .sl 0 3 1 (ivs (tb h (fstG h g)))]
 |0,i,hi,ks=>by
  rw[y54 (n:=h) (f:=fun x=>if x<i then fstG h g x else 0) (g:=fstG h g) fun x hx=>if_pos (by omega),sb5 c111L0.eq_def]
  simp(disch:=first|omega|fail) only[push_cast,seval,vrl,if_pos,if_neg]
 |d+1,i,hi,ks=>by
  have ih:=ua8 hh hg d (i+1) (by omega) ks
  have w0:=mh1 (h+h) g
  have w1:=mh1 h fun x=>if x<i then fstG h g x else 0
  have g1:=b35 g (show i<h+h by omega)
  have g2:=b35 g (show h+i<h+h by omega)
  have t1:=hg i (by omega)
  have t2:=hg (h+i) (by omega)
  have e1:(h:Int)+(i:Int)=((h+i:Nat):Int):=by omega
  have hs:=fun v=>s95 (n:=h) (i:=i) (f:=fun x=>if x<i then fstG h g x else 0) (g:=fun x=>if x=i then v else if x<i then fstG h g x else 0) (v:=v) (if_pos rfl) fun x _ hx=>by rw[if_neg hx]
  have hss:((tb h fun x=>if x<i then fstG h g x else 0).set i (-1)).set i (fstG h g i)=tb h fun x=>if x<i+1 then fstG h g x else 0:=by
   rw[List.set_set,hs]
   refine y54 fun x _=> ?_
   by_cases h1:x=i
   ·rw[if_pos h1,if_pos (by omega),h1]
   ·rw[if_neg h1]
    by_cases h2:x<i
    ·rw[if_pos h2,if_pos (by omega)]
    ·rw[if_neg h2,if_neg (by omega)]
  have hs1:(tb h fun x=>if x<i then fstG h g x else 0).set i (-1)=((tb h fun x=>if x<i then fstG h g x else 0).set i (-1)).set i (-1):=by rw[List.set_set]
  rw[←hss,Int.natCast_add i,Int.natCast_one]at ih
  unfold tri at t1 t2
  by_cases c1:0≤g i
  ·by_cases c2:0≤g (h+i)
   ·have hx:=yq0 (s32 (v:=g i) t1 c1) (s32 (v:=g (h+i)) t2 c2)
    have hf:fstG h g i=xr (g i) (g (h+i)):=by unfold fstG;rw[if_pos ⟨c1,c2⟩]
    have hxb:=es3 (g i) (g (h+i))
    rw[hf]at ih
    unfold bit at hxb
    generalize xr (g i) (g (h+i))=z at*
    generalize g (h+i)=v2 at*
    generalize g i=v1 at*
    generalize (tb h fun x=>if x<i then fstG h g x else 0)=A at*
    generalize tb (h+h) g=w at*
    generalize hH2:h+h=H2 at*
    generalize hHi:h+i=Hi at*
    rw[←ih,sb5 c111L0.eq_def]
    simp(disch:=first|omega|fail) only[push_cast,seval,vrl,if_pos,if_neg,w0,w1,g1,g2,e1,hx]
   ·have hf:fstG h g i= -1:=by unfold fstG;rw[if_neg fun x=>c2 x.2]
    rw[hf,←hs1]at ih
    generalize g (h+i)=v2 at*
    generalize g i=v1 at*
    generalize (tb h fun x=>if x<i then fstG h g x else 0)=A at*
    generalize tb (h+h) g=w at*
    generalize hH2:h+h=H2 at*
    generalize hHi:h+i=Hi at*
    rw[←ih,sb5 c111L0.eq_def]
    simp(disch:=first|omega|fail) only[push_cast,seval,vrl,if_pos,if_neg,w0,w1,g1,g2,e1]
  ·have hf:fstG h g i= -1:=by unfold fstG;rw[if_neg fun x=>c1 x.1]
   rw[hf,←hs1]at ih
   generalize g i=v1 at*
   generalize (tb h fun x=>if x<i then fstG h g x else 0)=A at*
   generalize tb (h+h) g=w at*
   generalize hH2:h+h=H2 at*
   rw[←ih,sb5 c111L0.eq_def]
   simp(disch:=first|omega|fail) only[push_cast,seval,vrl,if_pos,if_neg,w0,w1,g1]
theorem bp1(hh:h≤16)(hg:G3 (h+h) g)(hb: ∀x,x<h→bit (s x)): ∀(d i:Nat),i+d=h→ ∀ks,
 vgoL W ⟨h111,[.tmp 4],1⟩ [0,1,6,9,10,120,121] c111L1 (.blk 2 [0,1,9,10]::ks) [(0, .own 0 []),(1, .fz true (.sl nl 0 1 (ivs (tb (h+h) g)))),(6, .x (.int .i64 h)),(9, .own 1 []),(10, .own 2 []),(120, .x (.int .i64 h)),(121, .x (.int .i64 i))] [.pt E [F,T, .v (.bool ((List.range i).any (cfG h g s)))], .sl 0 3 1 (ivs (tb h s)), .sl 0 3 1 (ivs (tb h fun x=>if x<i then sndG h g s x else 0))]=
  vgo W ⟨h111,[.tmp 4],1⟩ ks (VFr.of [(0, .own 0 []),(1, .fz true (.sl nl 0 1 (ivs (tb (h+h) g)))),(9, .own 1 []),(10, .own 2 [])]) [.pt E [F,T, .v (.bool ((List.range h).any (cfG h g s)))], .sl 0 3 1 (ivs (tb h s)), .sl 0 3 1 (ivs (tb h (sndG h g s)))]
 |0,i,hi,ks=>by
  obtain rfl:i=h:=by omega
  rw[y54 (n:=i) (f:=fun x=>if x<i then sndG i g s x else 0) (g:=sndG i g s) fun x hx=>if_pos hx,sb5 c111L1.eq_def]
  simp(disch:=first|omega|fail) only[push_cast,seval,vrl,if_pos,if_neg]
 |d+1,i,hi,ks=>by
  have ih:=bp1 hh hg hb d (i+1) (by omega) ks
  have w0:=mh1 (h+h) g
  have w1:=mh1 h fun x=>if x<i then sndG h g s x else 0
  have w2:=mh1 h s
  have g1:=b35 g (show i<h+h by omega)
  have g2:=b35 g (show h+i<h+h by omega)
  have g3:=b35 s (show i<h by omega)
  have t1:=hg i (by omega)
  have t2:=hg (h+i) (by omega)
  have t3:=hb i (by omega)
  have e1:(h:Int)+(i:Int)=((h+i:Nat):Int):=by omega
  have hs:=fun v=>s95 (n:=h) (i:=i) (f:=fun x=>if x<i then sndG h g s x else 0) (g:=fun x=>if x=i then v else if x<i then sndG h g s x else 0) (v:=v) (if_pos rfl) fun x _ hx=>by rw[if_neg hx]
  have hs1:(tb h fun x=>if x<i then sndG h g s x else 0).set i (sndG h g s i)=tb h fun x=>if x<i+1 then sndG h g s x else 0:=by
   rw[hs]
   refine y54 fun x _=> ?_
   by_cases h1:x=i
   ·rw[if_pos h1,if_pos (by omega),h1]
   ·rw[if_neg h1]
    by_cases h2:x<i
    ·rw[if_pos h2,if_pos (by omega)]
    ·rw[if_neg h2,if_neg (by omega)]
  have hss:((tb h fun x=>if x<i then sndG h g s x else 0).set i (g (h+i))).set i (sndG h g s i)=(tb h fun x=>if x<i then sndG h g s x else 0).set i (sndG h g s i):=by rw[List.set_set]
  have hgg:gi ((tb h fun x=>if x<i then sndG h g s x else 0).set i (g (h+i))) (i:Int)=g (h+i):=by
   rw[hs,b35 _ (show i<h by omega),if_pos rfl]
  have hcf:(List.range (i+1)).any (cfG h g s)=((List.range i).any (cfG h g s)||cfG h g s i):=by rw[List.range_succ,List.any_append];simp
  rw[hcf,←hs1,Int.natCast_add i,Int.natCast_one]at ih
  have hcd:cfG h g s i=(decide (0≤g i)&&(decide (0≤g (h+i))&& !decide (g (h+i)=xr (g i) (s i)))):=rfl
  have hsd:sndG h g s i=if 0≤g i then xr (g i) (s i)else g (h+i):=rfl
  rw[hcd]at ih
  have hlen:=w1
  by_cases c1:0≤g i
  ·rw[if_pos c1]at hsd
   rw[hsd]at ih hss
   have hx:=yq0 (s32 (v:=g i) t1 c1) t3
   have hxb:=es3 (g i) (s i)
   rw[←hss]at ih
   unfold bit at hxb t3
   unfold tri at t1 t2
   rw[decide_eq_true c1,Bool.true_and]at ih
   generalize (List.range i).any (cfG h g s)=cf at*
   generalize xr (g i) (s i)=z at*
   generalize g (h+i)=v2 at*
   generalize g i=v1 at*
   generalize s i=v3 at*
   have hl2:((tb h fun x=>if x<i then sndG h g s x else 0).set i v2).length=h:=by rw[List.length_set,w1]
   generalize hA2:(tb h fun x=>if x<i then sndG h g s x else 0).set i v2=A2 at*
   generalize (tb h fun x=>if x<i then sndG h g s x else 0)=A at*
   generalize tb (h+h) g=w at*
   generalize tb h s=w3 at*
   generalize hH2:h+h=H2 at*
   generalize hHi:h+i=Hi at*
   cases cf with
   |true=>
    rw[Bool.true_or]at ih
    rw[←ih,sb5 c111L1.eq_def]
    simp(disch:=first|omega|fail) only[push_cast,seval,vrl,if_pos,if_neg,w0,w1,w2,g1,g2,g3,e1,hx,hA2,hgg,hl2]
   |false=>
    rw[Bool.false_or]at ih
    by_cases c2:0≤v2
    ·rw[decide_eq_true c2,Bool.true_and]at ih
     by_cases c3:v2=z
     ·rw[decide_eq_true c3]at ih
      rw[←ih,sb5 c111L1.eq_def]
      simp(disch:=first|omega|fail) only[push_cast,seval,vrl,if_pos,if_neg,w0,w1,w2,g1,g2,g3,e1,hx,hA2,hgg,hl2,mr8 c3]
     ·rw[decide_eq_false c3]at ih
      rw[←ih,sb5 c111L1.eq_def]
      simp(disch:=first|omega|fail) only[push_cast,seval,vrl,if_pos,if_neg,w0,w1,w2,g1,g2,g3,e1,hx,hA2,hgg,hl2,nb8 c3]
    ·rw[decide_eq_false c2,Bool.false_and]at ih
     rw[←ih,sb5 c111L1.eq_def]
     simp(disch:=first|omega|fail) only[push_cast,seval,vrl,if_pos,if_neg,w0,w1,w2,g1,g2,g3,e1,hx,hA2,hgg,hl2]
  ·rw[if_neg c1]at hsd
   rw[hsd,decide_eq_false c1,Bool.false_and,Bool.or_false]at ih
   generalize (List.range i).any (cfG h g s)=cf at*
   generalize g (h+i)=v2 at*
   generalize g i=v1 at*
   generalize (tb h fun x=>if x<i then sndG h g s x else 0)=A at*
   generalize tb (h+h) g=w at*
   generalize tb h s=w3 at*
   generalize hH2:h+h=H2 at*
   generalize hHi:h+i=Hi at*
   rw[←ih,sb5 c111L1.eq_def]
   simp(disch:=first|omega|fail) only[push_cast,seval,vrl,if_pos,if_neg,w0,w1,w2,g1,g2,g3,e1]
theorem dl2(hh:h≤16)(hs: ∀x,x<h→bit (s x))(ht: ∀x,x<h→bit (t x)): ∀(d i:Nat),i+d=h→ ∀ks,
 vgoL W ⟨h111,[.tmp 4],1⟩ [9,13,14,186,187] c111L2 (.blk 4 [13,14]::ks) [(9, .own 1 []),(13, .own 2 []),(14, .own 3 []),(186, .x (.int .i64 h)),(187, .x (.int .i64 i))] [B, .sl 0 3 1 (ivs (tb h s)), .sl 0 3 1 (ivs (tb h t)), .sl 0 3 1 (ivs (tb i fun x=>xr (s x) (t x)))]=
  vgo W ⟨h111,[.tmp 4],1⟩ ks (VFr.of [(13, .own 2 []),(14, .own 3 [])]) [B, .sl 0 3 1 (ivs (tb h s)), .sl 0 3 1 (ivs (tb h t)), .sl 0 3 1 (ivs (tb h fun x=>xr (s x) (t x)))]
 |0,i,hi,ks=>by
  obtain rfl:i=h:=by omega
  rw[sb5 c111L2.eq_def]
  simp(disch:=first|omega|fail) only[push_cast,seval,vrl,if_pos,if_neg]
 |d+1,i,hi,ks=>by
  have ih:=dl2 hh hs ht d (i+1) (by omega) ks
  have w1:=mh1 h s
  have w2:=mh1 h t
  have w3:=mh1 i fun x=>xr (s x) (t x)
  have g1:=b35 s (show i<h by omega)
  have g2:=b35 t (show i<h by omega)
  have hx:=yq0 (hs i (by omega)) (ht i (by omega))
  rw[x84,Int.natCast_add i,Int.natCast_one]at ih
  generalize xr (s i) (t i)=z at*
  generalize (tb i fun x=>xr (s x) (t x))=C at*
  generalize tb h s=A at*
  generalize tb h t=D at*
  rw[←ih,sb5 c111L2.eq_def]
  simp(disch:=first|omega|fail) only[push_cast,seval,vrl,if_pos,if_neg,w1,w2,w3,g1,g2,hx]
end
set_option maxHeartbeats 4000000
def bitT:List Int→Tree
 | []=> .v (.slice none 0 0)
 |a::l=> .sl 2 3 1 (ivs (a::l))
theorem zj3{l:List Int}(h:l≠[]):bitT l= .sl 2 3 1 (ivs l):=by
 cases l with
 |nil=>exact absurd rfl h
 |cons a l=>rfl
theorem ou1{E:Nat}{F T:Tree}(nl:Nat)(w:List Int):o24 W 111 [.own 0 [], .fz true (.sl nl 0 1 (ivs w))] [.pt E [F,T, .v (.bool true)]]=some (.fz true (.sl nl 0 1 (ivs w)),[],[.pt E [F,T, .v (.bool true)]]):=by
 rw[o08 rfl T111 rfl]
 unfold F111 c111
 simp(disch:=first|omega|fail) only[push_cast,seval,vrl,if_pos,if_neg]
section
variable {nn:Nat} {free:Nat→Bool} {E:Nat}
theorem pc1(hnn:nn≤32){l:List Int}{v:Int}(hl:l.length<nn)(hv:tri v)(nl:Nat):
 o24 W 111 [.own 0 [], .fz true (.sl nl 0 1 (ivs [v]))] [.pt E [.sl 2 4 1 (bls nn free),bitT l, .v (.bool false)]]=
  some (.own 0 [],[.sl 0 3 1 (ivs [if free l.length=true then v else 0])],[.pt E [.sl 2 4 1 (bls nn free),bitT (l++[if free l.length=true then v else 0]), .v (.bool (if free l.length=true then decide (v<0)else decide (v=1)))]]):=by
 have l1:=rr8 free hl
 have hbl:=hm3 nn free
 unfold tri at hv
 have i1: ∀v,ivs [v]=[.v (.int .i64 v)]:=fun _=>rfl
 generalize hB:bls nn free=B at*
 cases l with
 |nil=>
  have hb1: ∀x,bitT [x]= .sl 2 3 1 (ivs [x]):=fun _=>rfl
  have hb0:bitT []= .v (.slice none 0 0):=rfl
  rw[List.nil_append,hb1,hb0]
  rw[List.length_nil]at*
  cases hf:free 0 with
  |true=>
   rw[hf]at l1
   rw[o08 rfl T111 rfl]
   unfold F111 c111
   simp(disch:=first|omega|fail) only[push_cast,seval,vrl,if_pos,if_neg,l1,hbl,Nat.div_one,i1,List.getElem?_cons_zero]
  |false=>
   rw[hf]at l1
   rw[o08 rfl T111 rfl]
   unfold F111 c111
   by_cases h1:v=1
   ·simp(disch:=first|omega|fail) only[push_cast,seval,vrl,if_pos,if_neg,l1,hbl,Nat.div_one,i1,List.getElem?_cons_zero,mr8 h1]
   ·simp(disch:=first|omega|fail) only[push_cast,seval,vrl,if_pos,if_neg,l1,hbl,Nat.div_one,i1,List.getElem?_cons_zero,nb8 h1]
 |cons a l=>
  rw[zj3 (l:=a::l) (by simp),zj3 (by simp)]
  generalize a::l=L at*
  cases hf:free L.length with
  |true=>
   rw[hf]at l1
   rw[o08 rfl T111 rfl]
   unfold F111 c111
   simp(disch:=first|omega|fail) only[push_cast,seval,vrl,if_pos,if_neg,l1,hbl,Nat.div_one,i1,List.getElem?_cons_zero]
  |false=>
   rw[hf]at l1
   rw[o08 rfl T111 rfl]
   unfold F111 c111
   by_cases h1:v=1
   ·simp(disch:=first|omega|fail) only[push_cast,seval,vrl,if_pos,if_neg,l1,hbl,Nat.div_one,i1,List.getElem?_cons_zero,mr8 h1]
   ·simp(disch:=first|omega|fail) only[push_cast,seval,vrl,if_pos,if_neg,l1,hbl,Nat.div_one,i1,List.getElem?_cons_zero,nb8 h1]
def sv5(v:AV)(S:List Tree):Prop:=(∃X,v= .fz true X∧S=[])∨ ∃X,v= .own 0 []∧S=[X]
theorem x38(hnn:nn≤32): ∀{m:Nat} {g:Nat→Int} {l:List Int} (nl:Nat),m≤5→G3 (2^m) g→l.length+2^m≤nn→
 (∀a s,rdP free m g l.length=some (a,s)→o24 W 111 [.own 0 [], .fz true (.sl nl 0 1 (ivs (tb (2^m) g)))] [.pt E [.sl 2 4 1 (bls nn free),bitT l, .v (.bool false)]]=
   some (.own 0 [],[.sl 0 3 1 (ivs (tb (2^m) s))],[.pt E [.sl 2 4 1 (bls nn free),bitT (l++a), .v (.bool false)]]))∧
 (rdP free m g l.length=none→ ∃v S T,sv5 v S∧o24 W 111 [.own 0 [], .fz true (.sl nl 0 1 (ivs (tb (2^m) g)))] [.pt E [.sl 2 4 1 (bls nn free),bitT l, .v (.bool false)]]=
   some (v,S,[.pt E [.sl 2 4 1 (bls nn free),T, .v (.bool true)]]))
 |0,g,l,nl,hm,hg,hl=>by
  have e:=pc1 (E:=E) (free:=free) hnn (l:=l) (v:=g 0) (Nat.lt_of_succ_le hl) (hg 0 (by decide)) nl
  have h1: ∀f:Nat→Int,tb (2^0) f=[f 0]:=fun _=>rfl
  have h0:=hg 0 (by decide)
  unfold tri at h0
  rw[h1]
  constructor
  ·intro a s h
   rw[rdP]at h
   rw[h1,e]
   by_cases hf:free l.length=true
   ·rw[if_pos hf]at h⊢
    by_cases h2:g 0<0
    ·rw[if_pos h2]at h;cases h
    ·rw[if_neg h2]at h
     cases h
     rw[if_pos hf,decide_eq_false h2]
   ·rw[if_neg hf]at h⊢
    by_cases h2:g 0=1
    ·rw[if_pos h2]at h;cases h
    ·rw[if_neg h2]at h
     cases h
     rw[if_neg hf,decide_eq_false h2]
  ·intro h
   rw[rdP]at h
   rw[e]
   by_cases hf:free l.length=true
   ·rw[if_pos hf]at h
    by_cases h2:g 0<0
    ·refine⟨.own 0 [],[.sl 0 3 1 (ivs [g 0])],bitT (l++[g 0]), .inr ⟨_,rfl,rfl⟩, ?_⟩
     rw[if_pos hf,if_pos hf,decide_eq_true h2]
    ·rw[if_neg h2]at h;cases h
   ·rw[if_neg hf]at h
    by_cases h2:g 0=1
    ·refine⟨.own 0 [],[.sl 0 3 1 (ivs [0])],bitT (l++[0]), .inr ⟨_,rfl,rfl⟩, ?_⟩
     rw[if_neg hf,if_neg hf,decide_eq_true h2]
    ·rw[if_neg h2]at h;cases h
 |m+1,g,l,nl,hm,hg,hl=>by
  have h16:2^m≤16:=by
   have:2^m≤2^4:=Nat.pow_le_pow_right (by decide) (by omega)
   omega
  have h0:=Nat.two_pow_pos m
  rw[pow_two]at hg hl
  rw[pow_two,rdP]
  obtain⟨c1,c1'⟩:=x38 hnn (m:=m) (g:=fstG (2^m) g) (l:=l) 0 (by omega) et5 (by omega)
  have e0:=fun ks=>ua8 (h:=2^m) (g:=g) (nl:=nl) (B:= .pt E [.sl 2 4 1 (bls nn free),bitT l, .v (.bool false)]) h16 hg (2^m) 0 (by omega) ks
  simp only[Nat.not_lt_zero,if_false,Int.natCast_zero]at e0
  rw[←lq6]at e0
  have w0:=mh1 (2^m+2^m) g
  have w1:=mh1 (2^m) (fstG (2^m) g)
  have hq:(((2^m+2^m:Nat):Int)).tdiv 2=((2^m:Nat):Int):=by rw[Int.tdiv_eq_ediv_of_nonneg (by omega)];omega
  have h1: ¬((2^m+2^m:Nat):Int)=1:=by omega
  cases hr1:rdP free m (fstG (2^m) g) l.length with
  |none=>
   refine⟨fun a s h=>by simp at h,fun _=> ?_⟩
   obtain⟨v,S,T,hv,c1⟩:=c1' hr1
   refine⟨.fz true (.sl nl 0 1 (ivs (tb (2^m+2^m) g))),[],T, .inl ⟨_,rfl,rfl⟩, ?_⟩
   generalize tb (2^m+2^m) g=A at*
   generalize tb (2^m) (fstG (2^m) g)=A1 at*
   generalize bls nn free=B at*
   generalize bitT l=T0 at*
   generalize hN2:2^m+2^m=N2 at*
   generalize 2^m=N at*
   rcases hv with⟨X,rfl,rfl⟩|⟨X,rfl,rfl⟩
   ·rw[o08 rfl T111 rfl]
    unfold F111 c111
    simp(disch:=first|omega|fail) only[push_cast,seval,vrl,if_pos,if_neg,w0,hq,nb8 h1]
    rw[e0]
    simp(disch:=first|omega|fail) only[push_cast,seval,vrl,if_pos,if_neg,c1]
   ·rw[o08 rfl T111 rfl]
    unfold F111 c111
    simp(disch:=first|omega|fail) only[push_cast,seval,vrl,if_pos,if_neg,w0,hq,nb8 h1]
    rw[e0]
    simp(disch:=first|omega|fail) only[push_cast,seval,vrl,if_pos,if_neg,c1]
  |some p=>
   obtain⟨a,s⟩:=p
   have d1:=c1 a s hr1
   clear c1 c1'
   obtain⟨ha,hsb⟩:=pe0 et5 hr1
   have hla:(l++a).length=l.length+2^m:=by rw[List.length_append,ha]
   have w2:=mh1 (2^m) s
   have w3:=mh1 (2^m) (sndG (2^m) g s)
   have e1:=fun ks=>bp1 (h:=2^m) (g:=g) (s:=s) (nl:=nl) (E:=E) (F:= .sl 2 4 1 (bls nn free)) (T:=bitT (l++a)) h16 hg hsb (2^m) 0 (by omega) ks
   simp only[Nat.not_lt_zero,if_false,Int.natCast_zero,List.range_zero,List.any_nil]at e1
   rw[←lq6]at e1
   by_cases hcf:(List.range (2^m)).any (cfG (2^m) g s)=true
   ·simp only[]
    rw[if_pos hcf]
    refine⟨fun a s h=>by simp at h,fun _=> ?_⟩
    rw[hcf]at e1
    refine⟨.fz true (.sl nl 0 1 (ivs (tb (2^m+2^m) g))),[],bitT (l++a), .inl ⟨_,rfl,rfl⟩, ?_⟩
    have c2:=ou1 (E:=E) (F:= .sl 2 4 1 (bls nn free)) (T:=bitT (l++a)) 0 (tb (2^m) (sndG (2^m) g s))
    generalize tb (2^m+2^m) g=A at*
    generalize tb (2^m) (fstG (2^m) g)=A1 at*
    generalize tb (2^m) (sndG (2^m) g s)=A2 at*
    generalize tb (2^m) s=A3 at*
    generalize bls nn free=B at*
    generalize bitT l=T0 at*
    generalize bitT (l++a)=T1 at*
    generalize hN2:2^m+2^m=N2 at*
    generalize 2^m=N at*
    rw[o08 rfl T111 rfl]
    unfold F111 c111
    simp(disch:=first|omega|fail) only[push_cast,seval,vrl,if_pos,if_neg,w0,hq,nb8 h1]
    rw[e0]
    simp(disch:=first|omega|fail) only[push_cast,seval,vrl,if_pos,if_neg,d1]
    rw[e1]
    simp(disch:=first|omega|fail) only[push_cast,seval,vrl,if_pos,if_neg,c2]
   ·simp only[]
    rw[if_neg hcf]
    rw[Bool.not_eq_true]at hcf
    rw[hcf]at e1
    obtain⟨c2,c2'⟩:=x38 hnn (m:=m) (g:=sndG (2^m) g s) (l:=l++a) 0 (by omega) (ie9 hg) (by omega)
    rw[hla]at c2 c2'
    cases hr2:rdP free m (sndG (2^m) g s) (l.length+2^m)with
    |none=>
     refine⟨fun a s h=>by simp at h,fun _=> ?_⟩
     obtain⟨v,S,T,hv,d2⟩:=c2' hr2
     clear c2 c2'
     refine⟨.fz true (.sl nl 0 1 (ivs (tb (2^m+2^m) g))),[],T, .inl ⟨_,rfl,rfl⟩, ?_⟩
     generalize tb (2^m+2^m) g=A at*
     generalize tb (2^m) (fstG (2^m) g)=A1 at*
     generalize tb (2^m) (sndG (2^m) g s)=A2 at*
     generalize tb (2^m) s=A3 at*
     generalize bls nn free=B at*
     generalize bitT l=T0 at*
     generalize bitT (l++a)=T1 at*
     generalize hN2:2^m+2^m=N2 at*
     generalize 2^m=N at*
     rcases hv with⟨X,rfl,rfl⟩|⟨X,rfl,rfl⟩
     ·rw[o08 rfl T111 rfl]
      unfold F111 c111
      simp(disch:=first|omega|fail) only[push_cast,seval,vrl,if_pos,if_neg,w0,hq,nb8 h1]
      rw[e0]
      simp(disch:=first|omega|fail) only[push_cast,seval,vrl,if_pos,if_neg,d1]
      rw[e1]
      simp(disch:=first|omega|fail) only[push_cast,seval,vrl,if_pos,if_neg,d2]
     ·rw[o08 rfl T111 rfl]
      unfold F111 c111
      simp(disch:=first|omega|fail) only[push_cast,seval,vrl,if_pos,if_neg,w0,hq,nb8 h1]
      rw[e0]
      simp(disch:=first|omega|fail) only[push_cast,seval,vrl,if_pos,if_neg,d1]
      rw[e1]
      simp(disch:=first|omega|fail) only[push_cast,seval,vrl,if_pos,if_neg,d2]
    |some p=>
     obtain⟨b,t⟩:=p
     have d2:=c2 b t hr2
     clear c2 c2'
     obtain⟨hb,htb⟩:=pe0 (ie9 hg) hr2
     refine⟨fun a' s' h=> ?_,fun h=>by simp at h⟩
     simp only[Option.some.injEq,Prod.mk.injEq]at h
     obtain⟨rfl,rfl⟩:=h
     rw[←List.append_assoc]
     have e2:=fun ks=>dl2 (h:=2^m) (s:=s) (t:=t) (B:= .pt E [.sl 2 4 1 (bls nn free),bitT (l++a++b), .v (.bool false)]) h16 hsb htb (2^m) 0 (by omega) ks
     rw[show tb 0 (fun x=>xr (s x) (t x))=[]from rfl,Int.natCast_zero,lz6]at e2
     have hap:=n43 (h:=2^m) (f:=fun x=>xr (s x) (t x)) (g:=t) (k:=snG (2^m) s t) (fun x hx=>by unfold snG;rw[if_pos hx]) fun x hx=>by unfold snG;rw[if_neg (by omega),show x+2^m-2^m=x by omega]
     rw[←hap]
     have w4:=mh1 (2^m) fun x=>xr (s x) (t x)
     have w5:=mh1 (2^m) t
     generalize (tb (2^m) fun x=>xr (s x) (t x))=A4 at*
     generalize tb (2^m+2^m) g=A at*
     generalize tb (2^m) (fstG (2^m) g)=A1 at*
     generalize tb (2^m) (sndG (2^m) g s)=A2 at*
     generalize tb (2^m) s=A3 at*
     generalize tb (2^m) t=A5 at*
     generalize bls nn free=B at*
     generalize bitT l=T0 at*
     generalize bitT (l++a++b)=T2 at*
     generalize bitT (l++a)=T1 at*
     generalize hN2:2^m+2^m=N2 at*
     generalize 2^m=N at*
     have hia:ivs A4++ivs A5=ivs (A4++A5):=by unfold ivs;rw[List.map_append]
     rw[o08 rfl T111 rfl]
     unfold F111 c111
     simp(disch:=first|omega|fail) only[push_cast,seval,vrl,if_pos,if_neg,w0,hq,nb8 h1]
     rw[e0]
     simp(disch:=first|omega|fail) only[push_cast,seval,vrl,if_pos,if_neg,d1]
     rw[e1]
     simp(disch:=first|omega|fail) only[push_cast,seval,vrl,if_pos,if_neg,d2,w2]
     rw[e2]
     simp(disch:=first|omega|fail) only[push_cast,seval,vrl,if_pos,if_neg,w4,w5,hia]
end
set_option maxHeartbeats 4000000
def notT(v:Int):Bool:=decide (v< -1)||decide (1<v)
theorem zt8(v:Int):o24 W 110 [.x (.int .i64 v)] []=some (.x (.bool (notT v)),[],[]):=by
 unfold notT
 rw[o08 rfl T110 rfl]
 unfold F110 c110
 by_cases h0:v< -1
 ·simp(disch:=first|omega|fail) only[push_cast,seval,vrl,if_pos,if_neg]
 ·by_cases h1:1<v
  ·simp(disch:=first|omega|fail) only[push_cast,seval,vrl,if_pos,if_neg]
  ·simp(disch:=first|omega|fail) only[push_cast,seval,vrl,if_pos,if_neg]
def decE(m k:Int)(w:List Int):Int:=if besE m k=0 then(if w.length=2^m.toNat then(if w.any notT=true then 2 else 0)else 6)else besE m k
theorem j28{m k:Int}{w:List Int}{nl:Nat}(hw:w.length≤100000)(h:decE m k w≠0):o24 W 60 [.x (.int .i64 m), .x (.int .i64 k), .fz true (.sl nl 0 1 (ivs w))] []=some (.tup [.own 0 [], .x (.bool false), .x (.int .i64 (decE m k w))],[.sl 1 3 1 []],[]):=by
 unfold decE at h⊢
 by_cases h1:besE m k=0
 ·rw[if_pos h1]at h⊢
  obtain⟨M,K,rfl,rfl,hM,hKM⟩:=qu4 h1
  have hs:=shp hM
  have h32:=pw32 hM
  have e0:=k00 hM hKM
  have hpl:=ip1 (ev3 M K)
  have hbk:=(qq9 hM hKM).1
  rw[Int.toNat_natCast]at h⊢
  by_cases h2:w.length=2^M
  ·rw[if_pos h2]at h⊢
   have h3:w.any notT=true:=by
    cases hb:w.any notT with
    |true=>rfl
    |false=>exact absurd (by rw[hb];rfl) h
   rw[if_pos h3]
   have e1:=fun bb nl=>rq1 (bl:=bb) (nl:=nl) (k:=110) (p:=notT) (l:=w) zt8 rfl (by omega)
   rw[h3]at e1
   generalize pnI (ev3 M K)=L at*
   generalize 2^M=N at*
   rw[o08 rfl T60 rfl]
   unfold F60 c60
   simp(disch:=first|omega|fail) only[push_cast,seval,vrl,if_pos,if_neg,e0,hs,h2,e1]
  ·rw[if_neg h2]
   have h2': ¬(w.length:Int)=((2^M:Nat):Int):=by omega
   generalize pnI (ev3 M K)=L at*
   generalize 2^M=N at*
   rw[o08 rfl T60 rfl]
   unfold F60 c60
   simp(disch:=first|omega|fail) only[push_cast,seval,vrl,if_pos,if_neg,e0,hs,nb8 h2']
 ·rw[if_neg h1]
  have e0:=vv0 h1
  generalize besE m k=E at*
  rw[o08 rfl T60 rfl]
  unfold F60 c60
  simp(disch:=first|omega|fail) only[push_cast,seval,vrl,if_pos,if_neg,e0,nb8 h1]
theorem fq1{l:List Nat}{i p:Nat}(h:l[i]? =some p)(x:Nat):(l.take (i+1)).contains x=((l.take i).contains x||decide (x=p)):=by
 rw[List.take_add_one,h]
 simp only[Option.toList_some,List.contains_eq_mem,List.mem_append,List.mem_singleton,Bool.decide_or]
theorem pn9{l:List Nat}{n:Nat}(hl:l.length≤100)(hlt: ∀x∈l,x<n)(hn:n≤100){nl nl9 E:Nat}{w:List Int}{k:Int}{X Y:Tree}: ∀(d i:Nat),i+d=l.length→ ∀ks,
 vgoL W ⟨h60,[.tmp 6, .tmp 7, .tmp 8],0⟩ [1,2,9,10,36,37,38] c60L0 (.blk 0 [1,2,9,10]::ks) [(1, .x (.int .i64 k)),(2, .fz true (.sl nl 0 1 (ivs w))),(9, .own 0 []),(10, .own 1 []),(36, .own 0 []),(37, .x (.int .i64 l.length)),(38, .x (.int .i64 i))] [.sl nl9 3 1 (ivs (pnI l)), .pt E [.sl 2 4 1 (bls n fun x=>(l.take i).contains x),X,Y]]=
  vgo W ⟨h60,[.tmp 6, .tmp 7, .tmp 8],0⟩ ks (VFr.of [(1, .x (.int .i64 k)),(2, .fz true (.sl nl 0 1 (ivs w))),(9, .own 0 []),(10, .own 1 [])]) [.sl nl9 3 1 (ivs (pnI l)), .pt E [.sl 2 4 1 (bls n l.contains),X,Y]]
 |0,i,hi,ks=>by
  rw[List.take_of_length_le (show l.length≤i by omega),sb5 c60L0.eq_def]
  simp(disch:=first|omega|fail) only[push_cast,seval,vrl,if_pos,if_neg]
 |d+1,i,hi,ks=>by
  obtain⟨p,hp⟩:=ge6 (l:=l) (i:=i) (by omega)
  have hpn:=hlt p (List.mem_of_getElem? hp)
  have ih:=pn9 hl hlt hn (nl:=nl) (nl9:=nl9) (E:=E) (w:=w) (k:=k) (X:=X) (Y:=Y) d (i+1) (by omega) ks
  have g1:gi (pnI l) (i:Int)=(p:Int):=by unfold gi pnI;rw[Int.toNat_natCast,List.getD_eq_getElem?_getD,List.getElem?_map,hp];rfl
  have hpl:=ip1 l
  have hset:=a17 (n:=n) (i:=p) (f:=fun x=>(l.take i).contains x) (g:=fun x=>(l.take (i+1)).contains x) (b:=true) (by rw[fq1 hp];simp) fun x _ hx=>by rw[fq1 hp,decide_eq_false hx,Bool.or_false]
  have hbl:=hm3 n fun x=>(l.take i).contains x
  rw[←hset,Int.natCast_add i,Int.natCast_one]at ih
  generalize (bls n fun x=>(l.take i).contains x)=B at*
  generalize pnI l=L at*
  rw[←ih,sb5 c60L0.eq_def]
  simp(disch:=first|omega|fail) only[push_cast,seval,vrl,if_pos,if_neg,g1,hpl,hbl,Nat.div_one]
def wv6(l:List Nat)(a:List Int):List Int:=l.map fun x:Nat=>gi a (x:Int)
theorem hm5{l:List Nat}{a:List Int}(hl:l.length≤100)(hlt: ∀x∈l,x<a.length)(ha:a.length≤100){nl9 E:Nat}{F Y:Tree}: ∀(d i:Nat),i+d=l.length→ ∀ks,
 vgoL W ⟨h60,[.tmp 6, .tmp 7, .tmp 8],0⟩ [6,10,58,59,60] c60L1 (.blk 2 [6]::ks) [(6, .own 0 []),(10, .own 1 []),(58, .own 2 []),(59, .x (.int .i64 l.length)),(60, .x (.int .i64 i))] [.sl 0 3 1 (ivs (wv6 (l.take i) a)), .pt E [F, .sl 2 3 1 (ivs a),Y], .sl nl9 3 1 (ivs (pnI l))]=
  vgo W ⟨h60,[.tmp 6, .tmp 7, .tmp 8],0⟩ ks (VFr.of [(6, .own 0 [])]) [.sl 0 3 1 (ivs (wv6 l a)), .pt E [F, .sl 2 3 1 (ivs a),Y], .sl nl9 3 1 (ivs (pnI l))]
 |0,i,hi,ks=>by
  rw[List.take_of_length_le (show l.length≤i by omega),sb5 c60L1.eq_def]
  simp(disch:=first|omega|fail) only[push_cast,seval,vrl,if_pos,if_neg]
 |d+1,i,hi,ks=>by
  obtain⟨p,hp⟩:=ge6 (l:=l) (i:=i) (by omega)
  have hpn:=hlt p (List.mem_of_getElem? hp)
  have ih:=hm5 hl hlt ha (nl9:=nl9) (E:=E) (F:=F) (Y:=Y) d (i+1) (by omega) ks
  have g1:gi (pnI l) (i:Int)=(p:Int):=by unfold gi pnI;rw[Int.toNat_natCast,List.getD_eq_getElem?_getD,List.getElem?_map,hp];rfl
  have hpl:=ip1 l
  have hml:(wv6 (l.take i) a).length=i:=by unfold wv6;rw[List.length_map,List.length_take];omega
  have hpk:wv6 (l.take (i+1)) a=wv6 (l.take i) a++[gi a (p:Int)]:=by unfold wv6;rw[c13 hp,List.map_append];rfl
  rw[hpk,Int.natCast_add i,Int.natCast_one]at ih
  generalize wv6 (l.take i) a=A at*
  generalize pnI l=L at*
  rw[←ih,sb5 c60L1.eq_def]
  simp(disch:=first|omega|fail) only[push_cast,seval,vrl,if_pos,if_neg,g1,hpl,hml]
theorem rq8{m k:Nat}(hm:m≤5)(hk:k≤2^m){g:Nat→Int}(hg:G3 (2^m) g){nl:Nat}(hw:(tb (2^m) g).any notT=false){a:List Int}{s:Nat→Int}(hr:rdP (ev3 m k).contains m g 0=some (a,s)):o24 W 60 [.x (.int .i64 m), .x (.int .i64 k), .fz true (.sl nl 0 1 (ivs (tb (2^m) g)))] []=some (.tup [.own 0 [], .x (.bool true), .x (.int .i64 0)],[.sl 0 3 1 (ivs (wv6 (ev3 m k) a))],[]):=by
 have hs:=shp hm
 have h32:=pw32 hm
 have e0:=k00 hm hk
 have hpl:=ip1 (ev3 m k)
 obtain⟨f1,f2,f3⟩:=qq9 hm hk
 have w0:=mh1 (2^m) g
 have hbr:=tm0 (2^m)
 have e1:=fun bb nl=>rq1 (bl:=bb) (nl:=nl) (k:=110) (p:=notT) (l:=tb (2^m) g) zt8 rfl (by omega)
 rw[hw]at e1
 have e2:=fun E ks=>pn9 (n:=2^m) (l:=ev3 m k) (by omega) f3 (by omega) (nl:=nl) (nl9:=0) (E:=E) (w:=tb (2^m) g) (k:=(k:Int)) (X:= .v (.slice none 0 0)) (Y:= .v (.bool false)) (ev3 m k).length 0 (by omega) ks
 rw[List.take_zero,Int.natCast_zero]at e2
 have e3:=fun E=>(x38 (E:=E) (nn:=2^m) (free:=(ev3 m k).contains) h32.2 (m:=m) (g:=g) (l:=[]) nl hm hg (by simp)).1 a s hr
 obtain⟨ha,hsb⟩:=pe0 hg hr
 have hbt:bitT ([]++a)= .sl 2 3 1 (ivs a):=zj3 (by intro h;rw[List.nil_append]at h;rw[h]at ha;simp at ha;omega)
 rw[hbt,show bitT []= .v (.slice none 0 0)from rfl]at e3
 have hct:(fun x:Nat=>([]:List Nat).contains x)=fun _=>false:=funext fun x=>by simp
 rw[hct]at e2
 have e4:=fun E F Y ks=>hm5 (l:=ev3 m k) (a:=a) (by omega) (by rw[ha];exact f3) (by omega) (nl9:=0) (E:=E) (F:=F) (Y:=Y) (ev3 m k).length 0 (by omega) ks
 rw[List.take_zero,show wv6 [] a=[]from rfl,Int.natCast_zero,lz6]at e4
 generalize wv6 (ev3 m k) a=P at*
 generalize (ev3 m k).contains=C at*
 generalize pnI (ev3 m k)=L at*
 generalize tb (2^m) g=A at*
 generalize 2^m=N at*
 rw[o08 rfl T60 rfl]
 unfold F60 c60
 simp(disch:=first|omega|fail) only[push_cast,seval,vrl,if_pos,if_neg,e0,hs,w0,e1,hbr,hpl]
 rw[e2]
 simp(disch:=first|omega|fail) only[push_cast,seval,vrl,if_pos,if_neg,e3,hpl]
 rw[e4]
 simp(disch:=first|omega|fail) only[push_cast,seval,vrl,if_pos,if_neg]
theorem gi9{m k:Nat}(hm:m≤5)(hk:k≤2^m){g:Nat→Int}(hg:G3 (2^m) g){nl:Nat}(hw:(tb (2^m) g).any notT=false)(hr:rdP (ev3 m k).contains m g 0=none):o24 W 60 [.x (.int .i64 m), .x (.int .i64 k), .fz true (.sl nl 0 1 (ivs (tb (2^m) g)))] []=some (.tup [.own 0 [], .x (.bool false), .x (.int .i64 0)],[.sl 1 3 1 []],[]):=by
 have hs:=shp hm
 have h32:=pw32 hm
 have e0:=k00 hm hk
 have hpl:=ip1 (ev3 m k)
 obtain⟨f1,f2,f3⟩:=qq9 hm hk
 have w0:=mh1 (2^m) g
 have hbr:=tm0 (2^m)
 have e1:=fun bb nl=>rq1 (bl:=bb) (nl:=nl) (k:=110) (p:=notT) (l:=tb (2^m) g) zt8 rfl (by omega)
 rw[hw]at e1
 have e2:=fun E ks=>pn9 (n:=2^m) (l:=ev3 m k) (by omega) f3 (by omega) (nl:=nl) (nl9:=0) (E:=E) (w:=tb (2^m) g) (k:=(k:Int)) (X:= .v (.slice none 0 0)) (Y:= .v (.bool false)) (ev3 m k).length 0 (by omega) ks
 rw[List.take_zero,Int.natCast_zero]at e2
 have e3:=(x38 (E:=128) (nn:=2^m) (free:=(ev3 m k).contains) h32.2 (m:=m) (g:=g) (l:=[]) nl hm hg (by simp)).2 hr
 rw[show bitT []= .v (.slice none 0 0)from rfl]at e3
 obtain⟨v,S,T,hv,e3⟩:=e3
 have hct:(fun x:Nat=>([]:List Nat).contains x)=fun _=>false:=funext fun x=>by simp
 rw[hct]at e2
 generalize (ev3 m k).contains=C at*
 generalize pnI (ev3 m k)=L at*
 generalize tb (2^m) g=A at*
 generalize 2^m=N at*
 rcases hv with⟨X,rfl,rfl⟩|⟨X,rfl,rfl⟩
 ·rw[o08 rfl T60 rfl]
  unfold F60 c60
  simp(disch:=first|omega|fail) only[push_cast,seval,vrl,if_pos,if_neg,e0,hs,w0,e1,hbr,hpl]
  rw[e2]
  simp(disch:=first|omega|fail) only[push_cast,seval,vrl,if_pos,if_neg,e3]
 ·rw[o08 rfl T60 rfl]
  unfold F60 c60
  simp(disch:=first|omega|fail) only[push_cast,seval,vrl,if_pos,if_neg,e0,hs,w0,e1,hbr,hpl]
  rw[e2]
  simp(disch:=first|omega|fail) only[push_cast,seval,vrl,if_pos,if_neg,e3]
set_option maxHeartbeats 4000000
theorem vp2{a b:Int}(ha:bit a)(hb:bit b):(a+b).tmod 2=xr a b:=by
 rcases ha with rfl|rfl<;>rcases hb with rfl|rfl<;>rfl
section
variable {h:Nat} {g s t:Nat→Int} {b0 b1:Bool} {n0 n1:Nat} {fr:List Int} {k:Int}
theorem or5(hh:h≤16)(hg:G3 (h+h) g): ∀(d i:Nat),i+d=h→ ∀ks,
 vgoL W ⟨h109,[.tmp 6, .tmp 7, .tmp 8],0⟩ [0,1,2,10,11,12] c109L0 (.blk 0 [0,1,2,10,11]::ks) [(0, .fz b0 (.sl n0 0 1 (ivs (tb (h+h) g)))),(1, .fz b1 (.sl n1 0 1 (ivs fr))),(2, .x (.int .i64 k)),(10, .x (.int .i64 h)),(11, .own 0 []),(12, .x (.int .i64 i))] [.sl 1 3 1 (ivs (tb i (fstG h g)))]=
  vgo W ⟨h109,[.tmp 6, .tmp 7, .tmp 8],0⟩ ks (VFr.of [(0, .fz b0 (.sl n0 0 1 (ivs (tb (h+h) g)))),(1, .fz b1 (.sl n1 0 1 (ivs fr))),(2, .x (.int .i64 k)),(10, .x (.int .i64 h)),(11, .own 0 [])]) [.sl 1 3 1 (ivs (tb h (fstG h g)))]
 |0,i,hi,ks=>by
  obtain rfl:i=h:=by omega
  rw[sb5 c109L0.eq_def]
  simp(disch:=first|omega|fail) only[push_cast,seval,vrl,if_pos,if_neg]
 |d+1,i,hi,ks=>by
  have ih:=or5 hh hg d (i+1) (by omega) ks
  have w0:=mh1 (h+h) g
  have w1:=mh1 i (fstG h g)
  have g1:=b35 g (show i<h+h by omega)
  have g2:=b35 g (show h+i<h+h by omega)
  have t1:=hg i (by omega)
  have t2:=hg (h+i) (by omega)
  have e1:(h:Int)+(i:Int)=((h+i:Nat):Int):=by omega
  rw[x84,Int.natCast_add i,Int.natCast_one]at ih
  have hx:=fun(c1:0≤g i) (c2:0≤g (h+i))=>vp2 (s32 t1 c1) (s32 t2 c2)
  have hxb:=es3 (g i) (g (h+i))
  have hf:fstG h g i=if 0≤g i∧0≤g (h+i)then xr (g i) (g (h+i))else-1:=rfl
  rw[hf]at ih
  unfold tri at t1 t2
  unfold bit at hxb
  generalize xr (g i) (g (h+i))=z at*
  generalize g (h+i)=v2 at*
  generalize g i=v1 at*
  generalize tb i (fstG h g)=A at*
  generalize tb (h+h) g=w at*
  generalize hH2:h+h=H2 at*
  generalize hHi:h+i=Hi at*
  by_cases c1:0≤v1
  ·by_cases c2:0≤v2
   ·have hx:=hx c1 c2
    rw[if_pos ⟨c1,c2⟩]at ih
    rw[←ih,sb5 c109L0.eq_def]
    simp(disch:=first|omega|fail) only[push_cast,seval,vrl,if_pos,if_neg,w0,w1,g1,g2,e1,hx]
   ·rw[if_neg fun x=>c2 x.2]at ih
    rw[←ih,sb5 c109L0.eq_def]
    simp(disch:=first|omega|fail) only[push_cast,seval,vrl,if_pos,if_neg,w0,w1,g1,g2,e1]
  ·rw[if_neg fun x=>c1 x.1]at ih
   rw[←ih,sb5 c109L0.eq_def]
   simp(disch:=first|omega|fail) only[push_cast,seval,vrl,if_pos,if_neg,w0,w1,g1]
theorem ny3(hh:h≤16)(hg:G3 (h+h) g)(hb: ∀x,x<h→bit (s x)){A:Tree}{n2:Nat}: ∀(d i:Nat),i+d=h→(∀x,i≤x→x<h→cfG h g s x=false)→ ∀ks,
 vgoL W ⟨h109,[.tmp 6, .tmp 7, .tmp 8],0⟩ [0,1,2,10,14,15,17,18] c109L1 (.blk 2 [1,2,10,14,15,17]::ks) [(0, .fz b0 (.sl n0 0 1 (ivs (tb (h+h) g)))),(1, .fz b1 (.sl n1 0 1 (ivs fr))),(2, .x (.int .i64 k)),(10, .x (.int .i64 h)),(14, .own 0 []),(15, .own 1 []),(17, .own 2 []),(18, .x (.int .i64 i))] [A, .sl n2 3 1 (ivs (tb h s)), .sl 1 3 1 (ivs (tb i (sndG h g s)))]=
  vgo W ⟨h109,[.tmp 6, .tmp 7, .tmp 8],0⟩ ks (VFr.of [(1, .fz b1 (.sl n1 0 1 (ivs fr))),(2, .x (.int .i64 k)),(10, .x (.int .i64 h)),(14, .own 0 []),(15, .own 1 []),(17, .own 2 [])]) [A, .sl n2 3 1 (ivs (tb h s)), .sl 1 3 1 (ivs (tb h (sndG h g s)))]
 |0,i,hi,hc,ks=>by
  obtain rfl:i=h:=by omega
  rw[sb5 c109L1.eq_def]
  simp(disch:=first|omega|fail) only[push_cast,seval,vrl,if_pos,if_neg]
 |d+1,i,hi,hc,ks=>by
  have ih:=ny3 hh hg hb (A:=A) (n2:=n2) d (i+1) (by omega) (fun x h1 h2=>hc x (by omega) h2) ks
  have w0:=mh1 (h+h) g
  have w1:=mh1 i (sndG h g s)
  have w2:=mh1 h s
  have g1:=b35 g (show i<h+h by omega)
  have g2:=b35 g (show h+i<h+h by omega)
  have g3:=b35 s (show i<h by omega)
  have t1:=hg i (by omega)
  have t2:=hg (h+i) (by omega)
  have t3:=hb i (by omega)
  have e1:(h:Int)+(i:Int)=((h+i:Nat):Int):=by omega
  have hcf:=hc i (by omega) (by omega)
  rw[x84,Int.natCast_add i,Int.natCast_one]at ih
  have hx:=fun(c1:0≤g i)=>vp2 (s32 t1 c1) t3
  have hxb:=es3 (g i) (s i)
  have hf:sndG h g s i=if 0≤g i then xr (g i) (s i)else g (h+i):=rfl
  have hcd:cfG h g s i=(decide (0≤g i)&&(decide (0≤g (h+i))&& !decide (g (h+i)=xr (g i) (s i)))):=rfl
  rw[hcd]at hcf
  rw[hf]at ih
  unfold tri at t1 t2
  unfold bit at hxb t3
  generalize xr (g i) (s i)=z at*
  generalize g (h+i)=v2 at*
  generalize g i=v1 at*
  generalize s i=v3 at*
  generalize tb i (sndG h g s)=B at*
  generalize tb (h+h) g=w at*
  generalize tb h s=w3 at*
  generalize hH2:h+h=H2 at*
  generalize hHi:h+i=Hi at*
  by_cases c1:0≤v1
  ·have hx:=hx c1
   rw[if_pos c1]at ih
   by_cases c2:0≤v2
   ·have c3:v2=z:=by simpa [c1,c2]using hcf
    rw[←ih,sb5 c109L1.eq_def]
    simp(disch:=first|omega|fail) only[push_cast,seval,vrl,if_pos,if_neg,w0,w1,w2,g1,g2,g3,e1,hx,mr8 c3]
   ·rw[←ih,sb5 c109L1.eq_def]
    simp(disch:=first|omega|fail) only[push_cast,seval,vrl,if_pos,if_neg,w0,w1,w2,g1,g2,g3,e1,hx]
  ·rw[if_neg c1]at ih
   rw[←ih,sb5 c109L1.eq_def]
   simp(disch:=first|omega|fail) only[push_cast,seval,vrl,if_pos,if_neg,w0,w1,w2,g1,g2,g3,e1]
theorem i90(hh:h≤16)(hg:G3 (h+h) g)(hb: ∀x,x<h→bit (s x)){A:Tree}{n2:Nat}: ∀(d i:Nat),i+d=h→(∃x,i≤x∧x<h∧cfG h g s x=true)→ ∀ks,
 vgoL W ⟨h109,[.tmp 6, .tmp 7, .tmp 8],0⟩ [0,1,2,10,14,15,17,18] c109L1 (.blk 2 [1,2,10,14,15,17]::ks) [(0, .fz b0 (.sl n0 0 1 (ivs (tb (h+h) g)))),(1, .fz b1 (.sl n1 0 1 (ivs fr))),(2, .x (.int .i64 k)),(10, .x (.int .i64 h)),(14, .own 0 []),(15, .own 1 []),(17, .own 2 []),(18, .x (.int .i64 i))] [A, .sl n2 3 1 (ivs (tb h s)), .sl 1 3 1 (ivs (tb i (sndG h g s)))]=
  some (.tup [.own 0 [], .own 1 [], .x (.bool false)],[.sl 1 3 1 [], .sl 1 3 1 []],[])
 |0,i,hi,hc,ks=>by
  obtain⟨x,h1,h2,_⟩:=hc
  omega
 |d+1,i,hi,hc,ks=>by
  have ih:=fun hcf'=>i90 hh hg hb (A:=A) (n2:=n2) d (i+1) (by omega) hcf' ks
  have w0:=mh1 (h+h) g
  have w1:=mh1 i (sndG h g s)
  have w2:=mh1 h s
  have g1:=b35 g (show i<h+h by omega)
  have g2:=b35 g (show h+i<h+h by omega)
  have g3:=b35 s (show i<h by omega)
  have t1:=hg i (by omega)
  have t2:=hg (h+i) (by omega)
  have t3:=hb i (by omega)
  have e1:(h:Int)+(i:Int)=((h+i:Nat):Int):=by omega
  have hnext:cfG h g s i=false→ ∃x,i+1≤x∧x<h∧cfG h g s x=true:=fun hf=>by
   obtain⟨x,h1,h2,h3⟩:=hc
   have:x≠i:=fun e=>by rw[e,hf]at h3;cases h3
   exact⟨x,by omega,h2,h3⟩
  clear hc
  rw[x84,Int.natCast_add i,Int.natCast_one]at ih
  have hx:=fun(c1:0≤g i)=>vp2 (s32 t1 c1) t3
  have hxb:=es3 (g i) (s i)
  have hf:sndG h g s i=if 0≤g i then xr (g i) (s i)else g (h+i):=rfl
  have hcd:cfG h g s i=(decide (0≤g i)&&(decide (0≤g (h+i))&& !decide (g (h+i)=xr (g i) (s i)))):=rfl
  rw[hcd]at hnext
  rw[hf]at ih
  have ih:=fun x=>ih (hnext x)
  clear hnext hf hcd
  unfold tri at t1 t2
  unfold bit at hxb t3
  generalize xr (g i) (s i)=z at*
  generalize g (h+i)=v2 at*
  generalize g i=v1 at*
  generalize s i=v3 at*
  generalize tb i (sndG h g s)=B at*
  generalize tb (h+h) g=w at*
  generalize tb h s=w3 at*
  generalize hH2:h+h=H2 at*
  generalize hHi:h+i=Hi at*
  by_cases c1:0≤v1
  ·have hx:=hx c1
   rw[if_pos c1]at ih
   by_cases c2:0≤v2
   ·by_cases c3:v2=z
    ·have ih:=ih (by simp[c3])
     rw[←ih,sb5 c109L1.eq_def]
     simp(disch:=first|omega|fail) only[push_cast,seval,vrl,if_pos,if_neg,w0,w1,w2,g1,g2,g3,e1,hx,mr8 c3]
    ·rw[sb5 c109L1.eq_def]
     simp(disch:=first|omega|fail) only[push_cast,seval,vrl,if_pos,if_neg,w0,w1,w2,g1,g2,g3,e1,hx,nb8 c3]
   ·have ih:=ih (by simp[c2])
    rw[←ih,sb5 c109L1.eq_def]
    simp(disch:=first|omega|fail) only[push_cast,seval,vrl,if_pos,if_neg,w0,w1,w2,g1,g2,g3,e1,hx]
  ·rw[if_neg c1]at ih
   have ih:=ih (by simp[c1])
   rw[←ih,sb5 c109L1.eq_def]
   simp(disch:=first|omega|fail) only[push_cast,seval,vrl,if_pos,if_neg,w0,w1,w2,g1,g2,g3,e1]
theorem lu9(hh:h≤16)(hs: ∀x,x<h→bit (s x))(ht: ∀x,x<h→bit (t x)){A B:Tree}{n2 n3:Nat}: ∀(d i:Nat),i+d=h→ ∀ks,
 vgoL W ⟨h109,[.tmp 6, .tmp 7, .tmp 8],0⟩ [10,14,15,20,21,22,23] c109L2 (.blk 4 [14,20,21,22]::ks) [(10, .x (.int .i64 h)),(14, .own 0 []),(15, .own 1 []),(20, .own 2 []),(21, .own 3 []),(22, .own 4 []),(23, .x (.int .i64 i))] [A, .sl n2 3 1 (ivs (tb h s)),B, .sl n3 3 1 (ivs (tb h t)), .sl 1 3 1 (ivs (tb i fun x=>xr (s x) (t x)))]=
  vgo W ⟨h109,[.tmp 6, .tmp 7, .tmp 8],0⟩ ks (VFr.of [(14, .own 0 []),(20, .own 2 []),(21, .own 3 []),(22, .own 4 [])]) [A, .sl n2 3 1 (ivs (tb h s)),B, .sl n3 3 1 (ivs (tb h t)), .sl 1 3 1 (ivs (tb h fun x=>xr (s x) (t x)))]
 |0,i,hi,ks=>by
  obtain rfl:i=h:=by omega
  rw[sb5 c109L2.eq_def]
  simp(disch:=first|omega|fail) only[push_cast,seval,vrl,if_pos,if_neg]
 |d+1,i,hi,ks=>by
  have ih:=lu9 hh hs ht (A:=A) (B:=B) (n2:=n2) (n3:=n3) d (i+1) (by omega) ks
  have w1:=mh1 h s
  have w2:=mh1 h t
  have w3:=mh1 i fun x=>xr (s x) (t x)
  have g1:=b35 s (show i<h by omega)
  have g2:=b35 t (show i<h by omega)
  have hx:=vp2 (hs i (by omega)) (ht i (by omega))
  have b1:=hs i (by omega)
  have b2:=ht i (by omega)
  unfold bit at b1 b2
  rw[x84,Int.natCast_add i,Int.natCast_one]at ih
  generalize xr (s i) (t i)=z at*
  generalize (tb i fun x=>xr (s x) (t x))=C at*
  generalize tb h s=A at*
  generalize tb h t=D at*
  generalize s i=v1 at*
  generalize t i=v2 at*
  rw[←ih,sb5 c109L2.eq_def]
  simp(disch:=first|omega|fail) only[push_cast,seval,vrl,if_pos,if_neg,w1,w2,w3,g1,g2,hx]
end
set_option maxHeartbeats 4000000
theorem ao3(l:List Nat)(k:Nat):((pnI l).any fun y=>decide (y=(k:Int)))=l.contains k:=by
 unfold pnI
 rw[Bool.eq_iff_iff,List.any_eq_true,List.contains_iff_mem]
 constructor
 ·rintro⟨x,hx,h2⟩
  obtain⟨y,hy,rfl⟩:=List.mem_map.1 hx
  have:=of_decide_eq_true h2
  have:y=k:=by omega
  rw[←this];exact hy
 ·intro h
  exact⟨k,List.mem_map.2 ⟨k,h,rfl⟩,by simp⟩
def nlR:Nat→Nat
 |0=>0
 |_+1=>1
section
variable {l:List Nat} {b1:Bool} {n1:Nat}
theorem bm5(hl:l.length≤100){k:Nat}{v:Int}(hv:tri v)(b0:Bool)(n0:Nat):
 o24 W 109 [.fz b0 (.sl n0 0 1 (ivs [v])), .fz b1 (.sl n1 0 1 (ivs (pnI l))), .x (.int .i64 k)] []=
  if l.contains k=true then some (.tup [.own 0 [], .own 1 [], .x (.bool (decide (0≤v)))],[.sl 0 3 1 (ivs [v]), .sl 0 3 1 (ivs [v])],[])
  else if v=1 then some (.tup [.own 0 [], .own 1 [], .x (.bool false)],[.sl 1 3 1 [], .sl 1 3 1 []],[])
  else some (.tup [.own 0 [], .own 1 [], .x (.bool true)],[.sl 0 3 1 (ivs [0]), .sl 0 3 1 (ivs [0])],[]):=by
 have e1:=fun b nl=>cr7 (b:=b) (nl:=nl) (l:=pnI l) (x:=(k:Int)) (by rw[ip1];omega)
 rw[ao3]at e1
 generalize pnI l=L at*
 unfold tri at hv
 have bh4: ∀v,ivs [v]=[.v (.int .i64 v)]:=fun _=>rfl
 rw[o08 rfl T109 rfl]
 unfold F109 c109
 cases hc:l.contains k with
 |true=>
  rw[hc]at e1
  rw[if_pos rfl]
  simp(disch:=first|omega|fail) only[push_cast,seval,vrl,if_pos,if_neg,e1,bh4,List.getElem?_cons_zero]
 |false=>
  rw[hc]at e1
  rw[if_neg (by decide)]
  by_cases h1:v=1
  ·rw[if_pos h1]
   simp(disch:=first|omega|fail) only[push_cast,seval,vrl,if_pos,if_neg,e1,bh4,List.getElem?_cons_zero,mr8 h1]
  ·rw[if_neg h1]
   simp(disch:=first|omega|fail) only[push_cast,seval,vrl,if_pos,if_neg,e1,bh4,List.getElem?_cons_zero,nb8 h1]
theorem nm6(hl:l.length≤100): ∀{m:Nat} {g:Nat→Int} {k:Nat} (b0:Bool) (n0:Nat),m≤5→G3 (2^m) g→k+2^m≤1000→
 (∀a s,rdP l.contains m g k=some (a,s)→o24 W 109 [.fz b0 (.sl n0 0 1 (ivs (tb (2^m) g))), .fz b1 (.sl n1 0 1 (ivs (pnI l))), .x (.int .i64 k)] []=
   some (.tup [.own 0 [], .own 1 [], .x (.bool true)],[.sl 0 3 1 (ivs a), .sl (nlR m) 3 1 (ivs (tb (2^m) s))],[]))∧
 (rdP l.contains m g k=none→ ∃X Y,o24 W 109 [.fz b0 (.sl n0 0 1 (ivs (tb (2^m) g))), .fz b1 (.sl n1 0 1 (ivs (pnI l))), .x (.int .i64 k)] []=
   some (.tup [.own 0 [], .own 1 [], .x (.bool false)],[X,Y],[]))
 |0,g,k,b0,n0,hm,hg,hk=>by
  have h0:=hg 0 (by decide)
  have e:=bm5 (b1:=b1) (n1:=n1) hl (k:=k) (v:=g 0) h0 b0 n0
  have h1: ∀f:Nat→Int,tb (2^0) f=[f 0]:=fun _=>rfl
  rw[h1,rdP]
  unfold tri at h0
  by_cases hf:l.contains k=true
  ·rw[if_pos hf]at e⊢
   by_cases h2:g 0<0
   ·rw[if_pos h2]
    rw[decide_eq_false (show¬0≤g 0 by omega)]at e
    exact⟨fun a s h=>(by cases h),fun _=>⟨_,_,e⟩⟩
   ·rw[if_neg h2]
    rw[decide_eq_true (show 0≤g 0 by omega)]at e
    exact⟨fun a s h=>(by cases h;exact e),fun h=>(by cases h)⟩
  ·rw[if_neg hf]at e⊢
   by_cases h2:g 0=1
   ·rw[if_pos h2]at e⊢
    exact⟨fun a s h=>(by cases h),fun _=>⟨_,_,e⟩⟩
   ·rw[if_neg h2]at e⊢
    exact⟨fun a s h=>(by cases h;exact e),fun h=>(by cases h)⟩
 |m+1,g,k,b0,n0,hm,hg,hk=>by
  have h16:2^m≤16:=by
   have:2^m≤2^4:=Nat.pow_le_pow_right (by decide) (by omega)
   omega
  have h0:=Nat.two_pow_pos m
  rw[pow_two]at hg hk
  have hk1:k+2^m≤1000:=by omega
  have hk2:k+2^m+2^m≤1000:=by omega
  rw[pow_two,rdP]
  have c1:=fun b0 n0=>nm6 hl (m:=m) (g:=fstG (2^m) g) (k:=k) b0 n0 (by omega) et5 hk1
  have e0:=fun ks=>or5 (h:=2^m) (g:=g) (b0:=b0) (n0:=n0) (b1:=b1) (n1:=n1) (fr:=pnI l) (k:=(k:Int)) h16 hg (2^m) 0 (by omega) ks
  rw[show tb 0 (fstG (2^m) g)=[]from rfl,Int.natCast_zero,lz6]at e0
  have w0:=mh1 (2^m+2^m) g
  have w1:=mh1 (2^m) (fstG (2^m) g)
  have hq:(((2^m+2^m:Nat):Int)).tdiv 2=((2^m:Nat):Int):=by rw[Int.tdiv_eq_ediv_of_nonneg (by omega)];omega
  have h1: ¬((2^m+2^m:Nat):Int)=1:=by omega
  cases hr1:rdP l.contains m (fstG (2^m) g) k with
  |none=>
   refine⟨fun a s h=>(by simp at h),fun _=> ?_⟩
   obtain⟨X,Y,d1⟩:=(c1 false 1).2 hr1
   clear c1
   refine⟨.sl 1 3 1 [], .sl 1 3 1 [], ?_⟩
   generalize tb (2^m+2^m) g=A at*
   generalize tb (2^m) (fstG (2^m) g)=A1 at*
   generalize pnI l=L at*
   generalize hN2:2^m+2^m=N2 at*
   generalize 2^m=N at*
   rw[o08 rfl T109 rfl]
   unfold F109 c109
   simp(disch:=first|omega|fail) only[push_cast,seval,vrl,if_pos,if_neg,w0,hq,nb8 h1]
   rw[e0]
   simp(disch:=first|omega|fail) only[push_cast,seval,vrl,if_pos,if_neg,d1]
  |some p=>
   obtain⟨a,s⟩:=p
   have d1:=fun b0 n0=>(c1 b0 n0).1 a s hr1
   clear c1
   obtain⟨ha,hsb⟩:=pe0 et5 hr1
   have w2:=mh1 (2^m) s
   have w3:=mh1 (2^m) (sndG (2^m) g s)
   by_cases hcf:(List.range (2^m)).any (cfG (2^m) g s)=true
   ·simp only[]
    rw[if_pos hcf]
    refine⟨fun a s h=>(by simp at h),fun _=>⟨.sl 1 3 1 [], .sl 1 3 1 [], ?_⟩⟩
    have hex: ∃x,0≤x∧x<2^m∧cfG (2^m) g s x=true:=by
     obtain⟨x,hx,h2⟩:=List.any_eq_true.1 hcf
     exact⟨x,by omega,List.mem_range.1 hx,h2⟩
    have e1:=fun A n2 ks=>i90 (h:=2^m) (g:=g) (s:=s) (b0:=b0) (n0:=n0) (b1:=b1) (n1:=n1) (fr:=pnI l) (k:=(k:Int)) h16 hg hsb (A:=A) (n2:=n2) (2^m) 0 (by omega) hex ks
    rw[show tb 0 (sndG (2^m) g s)=[]from rfl,Int.natCast_zero,lz6]at e1
    generalize tb (2^m+2^m) g=A at*
    generalize tb (2^m) (fstG (2^m) g)=A1 at*
    generalize tb (2^m) s=A3 at*
    generalize pnI l=L at*
    generalize hN2:2^m+2^m=N2 at*
    generalize 2^m=N at*
    rw[o08 rfl T109 rfl]
    unfold F109 c109
    simp(disch:=first|omega|fail) only[push_cast,seval,vrl,if_pos,if_neg,w0,hq,nb8 h1]
    rw[e0]
    simp(disch:=first|omega|fail) only[push_cast,seval,vrl,if_pos,if_neg,d1]
    rw[e1]
   ·simp only[]
    rw[if_neg hcf]
    have hno: ∀x,0≤x→x<2^m→cfG (2^m) g s x=false:=fun x _ hx=>by
     rw[Bool.not_eq_true,List.any_eq_false]at hcf
     have:=hcf x (List.mem_range.2 hx)
     simpa using this
    have e1:=fun A n2 ks=>ny3 (h:=2^m) (g:=g) (s:=s) (b0:=b0) (n0:=n0) (b1:=b1) (n1:=n1) (fr:=pnI l) (k:=(k:Int)) h16 hg hsb (A:=A) (n2:=n2) (2^m) 0 (by omega) hno ks
    rw[show tb 0 (sndG (2^m) g s)=[]from rfl,Int.natCast_zero,lz6]at e1
    have c2:=fun b0 n0=>nm6 hl (m:=m) (g:=sndG (2^m) g s) (k:=k+2^m) b0 n0 (by omega) (ie9 (s:=s) hg) hk2
    cases hr2:rdP l.contains m (sndG (2^m) g s) (k+2^m)with
    |none=>
     refine⟨fun a s h=>(by simp at h),fun _=>⟨.sl 1 3 1 [], .sl 1 3 1 [], ?_⟩⟩
     obtain⟨X,Y,d2⟩:=(c2 false 1).2 hr2
     clear c2
     have hkk:(k:Int)+((2^m:Nat):Int)=((k+2^m:Nat):Int):=by omega
     generalize tb (2^m+2^m) g=A at*
     generalize tb (2^m) (fstG (2^m) g)=A1 at*
     generalize tb (2^m) (sndG (2^m) g s)=A2 at*
     generalize tb (2^m) s=A3 at*
     generalize pnI l=L at*
     generalize hK2:k+2^m=K2 at*
     generalize hN2:2^m+2^m=N2 at*
     generalize 2^m=N at*
     rw[o08 rfl T109 rfl]
     unfold F109 c109
     simp(disch:=first|omega|fail) only[push_cast,seval,vrl,if_pos,if_neg,w0,hq,nb8 h1]
     rw[e0]
     simp(disch:=first|omega|fail) only[push_cast,seval,vrl,if_pos,if_neg,d1]
     rw[e1]
     simp(disch:=first|omega|fail) only[push_cast,seval,vrl,if_pos,if_neg,hkk,d2]
    |some p=>
     obtain⟨b,t⟩:=p
     have d2:=fun b0 n0=>(c2 b0 n0).1 b t hr2
     clear c2
     obtain⟨hb,htb⟩:=pe0 (ie9 hg) hr2
     refine⟨fun a' s' h=> ?_,fun h=>(by simp at h)⟩
     simp only[Option.some.injEq,Prod.mk.injEq]at h
     obtain⟨rfl,rfl⟩:=h
     have e2:=fun A B n2 n3 ks=>lu9 (h:=2^m) (s:=s) (t:=t) h16 hsb htb (A:=A) (B:=B) (n2:=n2) (n3:=n3) (2^m) 0 (by omega) ks
     rw[show tb 0 (fun x=>xr (s x) (t x))=[]from rfl,Int.natCast_zero,lz6]at e2
     have hap:=n43 (h:=2^m) (f:=fun x=>xr (s x) (t x)) (g:=t) (k:=snG (2^m) s t) (fun x hx=>by unfold snG;rw[if_pos hx]) fun x hx=>by unfold snG;rw[if_neg (by omega),show x+2^m-2^m=x by omega]
     rw[←hap]
     have w4:=mh1 (2^m) fun x=>xr (s x) (t x)
     have w5:=mh1 (2^m) t
     have hkk:(k:Int)+((2^m:Nat):Int)=((k+2^m:Nat):Int):=by omega
     have hnl:nlR (m+1)=1:=rfl
     generalize (tb (2^m) fun x=>xr (s x) (t x))=A4 at*
     generalize tb (2^m+2^m) g=A at*
     generalize tb (2^m) (fstG (2^m) g)=A1 at*
     generalize tb (2^m) (sndG (2^m) g s)=A2 at*
     generalize tb (2^m) s=A3 at*
     generalize tb (2^m) t=A5 at*
     generalize pnI l=L at*
     generalize hK2:k+2^m=K2 at*
     generalize hN2:2^m+2^m=N2 at*
     generalize 2^m=N at*
     have hia:ivs A4++ivs A5=ivs (A4++A5):=by unfold ivs;rw[List.map_append]
     have hib:ivs a++ivs b=ivs (a++b):=by unfold ivs;rw[List.map_append]
     rw[hnl,o08 rfl T109 rfl]
     unfold F109 c109
     simp(disch:=first|omega|fail) only[push_cast,seval,vrl,if_pos,if_neg,w0,hq,nb8 h1]
     rw[e0]
     simp(disch:=first|omega|fail) only[push_cast,seval,vrl,if_pos,if_neg,d1]
     rw[e1]
     simp(disch:=first|omega|fail) only[push_cast,seval,vrl,if_pos,if_neg,hkk,d2]
     rw[e2]
     simp(disch:=first|omega|fail) only[push_cast,seval,vrl,if_pos,if_neg,ha,hb,w4,w5,hia,hib]
end
set_option maxHeartbeats 4000000
theorem tj7{l:List Int}(hl:l.length≤9223372036854775807){b:Bool}{nl:Nat}: ∀(n i:Nat),i+n=l.length→ ∀ks,
 vgoL W ⟨hNo,[.tmp 4],0⟩ [0,1,5] c52L0 (.blk 0 []::ks) [(0, .fz b (.sl nl 0 1 (ivs l))),(1, .x (.bool true)),(5, .x (.int .i64 i))] []=if(l.drop i).any notT=false then vgo W ⟨hNo,[.tmp 4],0⟩ ks (VFr.of []) []else some (.x (.bool false),[],[])
 |0,i,hi,ks=>by
  rw[oh9 (by omega),if_pos (show([]:List Int).any notT=false from rfl),sb5 c52L0.eq_def]
  simp(disch:=first|omega|fail) only[push_cast,seval,vrl,if_pos,if_neg]
 |n+1,i,hi,ks=>by
  have ih:=tj7 hl (b:=b) (nl:=nl) n (i+1) (by omega) ks
  obtain⟨a,ha⟩:=ge6 (l:=l) (i:=i) (by omega)
  have h1:=iat ha
  rw[i62 ha,List.any_cons]
  rw[Int.natCast_add,Int.natCast_one]at ih
  by_cases h2:1<a
  ·rw[if_neg (by unfold notT;rw[decide_eq_true (show 1<a by omega)];simp),sb5 c52L0.eq_def]
   simp(disch:=first|omega|fail) only[push_cast,seval,vrl,if_pos,if_neg,h1,dec_lt h2]
  ·by_cases h3:a< -1
   ·rw[if_neg (by unfold notT;rw[decide_eq_true (show a< -1 by omega)];simp),sb5 c52L0.eq_def]
    simp(disch:=first|omega|fail) only[push_cast,seval,vrl,if_pos,if_neg,h1]
   ·have hb:notT a=false:=by unfold notT;rw[decide_eq_false h2,decide_eq_false h3];rfl
    rw[hb,Bool.false_or,←ih,sb5 c52L0.eq_def]
    by_cases h4:a= -1
    ·simp(disch:=first|omega|fail) only[push_cast,seval,vrl,if_pos,if_neg,h1,mr8 h4]
    ·simp(disch:=first|omega|fail) only[push_cast,seval,vrl,if_pos,if_neg,h1,nb8 h4]
theorem mt0{l:List Int}(hl:l.length≤9223372036854775807){b:Bool}{nl:Nat}:
 o24 W 52 [.fz b (.sl nl 0 1 (ivs l)), .x (.bool true)] []=some (.x (.bool (!l.any notT)),[],[]):=by
 have e:=fun ks=>tj7 hl (b:=b) (nl:=nl) l.length 0 (by omega) ks
 simp only[Int.natCast_zero,List.take_zero,List.drop_zero,rp2,lz6,x25,List.map_nil,List.length_nil]at e
 rw[o08 rfl T52 rfl]
 unfold F52 c52
 simp(disch:=first|omega|fail) only[push_cast,seval,vrl,if_pos,if_neg]
 rw[e]
 cases h:l.any notT with
 |false=>
  rw[if_pos rfl]
  simp(disch:=first|omega|fail) only[push_cast,seval,vrl,if_pos,if_neg]
 |true=>rw[if_neg (by decide)];rfl
theorem ie8{v:Int}(h:notT v=false):tri v:=by
 unfold notT at h
 rw[Bool.or_eq_false_iff,decide_eq_false_iff_not,decide_eq_false_iff_not]at h
 unfold tri;omega
theorem og2{w:List Int}{N:Nat}(hN:w.length=N)(hb:w.any notT=false): ∃g:Nat→Int,w=tb N g∧G3 N g:=by
 refine⟨fun x=>gi w (x:Int),List.ext_getElem (by rw[mh1,hN]) fun j h1 h2=> ?_,fun x hx=> ?_⟩
 ·obtain⟨_,h7⟩:=List.getElem?_eq_some_iff.1 (m54 (n:=N) (x:=j) (fun x:Nat=>gi w (x:Int)) (by omega))
  rw[h7]
  unfold gi
  rw[Int.toNat_natCast,List.getD_eq_getElem?_getD,List.getElem?_eq_getElem h1];rfl
 ·obtain⟨y,hy⟩:=ge6 (l:=w) (i:=x) (by omega)
  have hg:gi w (x:Int)=y:=by unfold gi;rw[Int.toNat_natCast,List.getD_eq_getElem?_getD,hy];rfl
  show tri (gi w (x:Int))
  rw[hg]
  exact ie8 (by have:=List.any_eq_false.1 hb y (List.mem_of_getElem? hy);simpa using this)
theorem mh5: ∀b b' nl nl',o24 W 28 [.fz b (.sl nl 0 1 []), .fz b' (.sl nl' 0 1 [])] []=some (.x (.bool true),[],[]):=fun b b' nl nl'=>by
 have:=nb2 (b:=b) (b':=b') (nl:=nl) (nl':=nl') (l:=[]) (k:=[]) (by simp)
 rw[decide_eq_true rfl]at this
 exact this
theorem uv8{m k:Int}{w best:List Int}(hw:w.length≤100){nl n1:Nat}{b1:Bool}(hE:decE m k w≠0):o24 W 58 [.x (.int .i64 m), .x (.int .i64 k), .fz true (.sl nl 0 1 (ivs w)), .fz b1 (.sl n1 0 1 (ivs best)), .x (.int .i64 (besE m k))] []=some (.x (.bool true),[],[]):=by
 have e0:=j28 (m:=m) (k:=k) (w:=w) (nl:=nl) (by omega) hE
 have e1:=mh5
 unfold decE at e0 hE
 by_cases h1:besE m k=0
 ·obtain⟨M,K,rfl,rfl,hM,hKM⟩:=qu4 h1
  have hs:=shp hM
  have h32:=pw32 hM
  rw[if_pos h1,Int.toNat_natCast]at e0 hE
  rw[h1]
  by_cases h2:w.length=2^M
  ·rw[if_pos h2]at e0 hE
   have h3:w.any notT=true:=by
    cases hb:w.any notT with
    |true=>rfl
    |false=>exact absurd (by rw[hb];rfl) hE
   rw[if_pos h3]at e0
   have e2:=fun b nl=>mt0 (l:=w) (by omega) (b:=b) (nl:=nl)
   rw[h3]at e2
   generalize 2^M=N at*
   rw[o08 rfl T58 rfl]
   unfold F58 c58
   simp(disch:=first|omega|fail) only[push_cast,seval,vrl,if_pos,if_neg,e0,e1,e2,hs,h2]
  ·rw[if_neg h2]at e0
   have h2': ¬(w.length:Int)=((2^M:Nat):Int):=by omega
   generalize 2^M=N at*
   rw[o08 rfl T58 rfl]
   unfold F58 c58
   simp(disch:=first|omega|fail) only[push_cast,seval,vrl,if_pos,if_neg,e0,e1,hs,nb8 h2']
 ·rw[if_neg h1]at e0
  generalize besE m k=E at*
  rw[o08 rfl T58 rfl]
  unfold F58 c58
  simp(disch:=first|omega|fail) only[push_cast,seval,vrl,if_pos,if_neg,e0,e1,nb8 h1]
theorem s36{l:List Nat}{a:List Int}(hl:l.length≤100)(hlt: ∀x∈l,x<a.length)(ha:a.length≤100){n1 n2:Nat}{b1:Bool}{A:Tree}: ∀(d i:Nat),i+d=l.length→ ∀ks,
 vgoL W ⟨h58,[.tmp 10],0⟩ [3,4,11,12,13,14,15,16,18,19] c58L0 (.blk 0 [4,11,12,13,14,15]::ks) [(3, .fz b1 (.sl n1 0 1 (ivs (pnI l)))),(4, .x (.int .i64 0)),(11, .own 0 []),(12, .x (.bool true)),(13, .x (.int .i64 0)),(14, .own 1 []),(15, .x (.bool true)),(16, .own 2 []),(18, .x (.bool true)),(19, .x (.int .i64 i))] [A, .sl 1 3 1 (ivs (wv6 (l.take i) a)), .sl n2 3 1 (ivs a)]=
  vgo W ⟨h58,[.tmp 10],0⟩ ks (VFr.of [(4, .x (.int .i64 0)),(11, .own 0 []),(12, .x (.bool true)),(13, .x (.int .i64 0)),(14, .own 1 []),(15, .x (.bool true))]) [A, .sl 1 3 1 (ivs (wv6 l a)), .sl n2 3 1 (ivs a)]
 |0,i,hi,ks=>by
  have hpl:=ip1 l
  rw[List.take_of_length_le (show l.length≤i by omega),sb5 c58L0.eq_def]
  simp(disch:=first|omega|fail) only[push_cast,seval,vrl,if_pos,if_neg,hpl]
 |d+1,i,hi,ks=>by
  obtain⟨p,hp⟩:=ge6 (l:=l) (i:=i) (by omega)
  have hpn:=hlt p (List.mem_of_getElem? hp)
  have ih:=s36 hl hlt ha (n1:=n1) (n2:=n2) (b1:=b1) (A:=A) d (i+1) (by omega) ks
  have g1:gi (pnI l) (i:Int)=(p:Int):=by unfold gi pnI;rw[Int.toNat_natCast,List.getD_eq_getElem?_getD,List.getElem?_map,hp];rfl
  have hpl:=ip1 l
  have hml:(wv6 (l.take i) a).length=i:=by unfold wv6;rw[List.length_map,List.length_take];omega
  have hpk:wv6 (l.take (i+1)) a=wv6 (l.take i) a++[gi a (p:Int)]:=by unfold wv6;rw[c13 hp,List.map_append];rfl
  rw[hpk,Int.natCast_add i,Int.natCast_one]at ih
  generalize wv6 (l.take i) a=B at*
  generalize pnI l=L at*
  rw[←ih,sb5 c58L0.eq_def]
  simp(disch:=first|omega|fail) only[push_cast,seval,vrl,if_pos,if_neg,g1,hpl,hml]
theorem af9{L:List Int}(hL:L.length≤100){n1:Nat}{b1:Bool}{X:Tree}: ∀ks,
 vgoL W ⟨h58,[.tmp 10],0⟩ [3,4,11,12,13,14,15,16,18,19] c58L0 (.blk 0 [4,11,12,13,14,15]::ks) [(3, .fz b1 (.sl n1 0 1 (ivs L))),(4, .x (.int .i64 0)),(11, .own 0 []),(12, .x (.bool false)),(13, .x (.int .i64 0)),(14, .own 1 []),(15, .x (.bool false)),(16, .own 2 []),(18, .x (.bool false)),(19, .x (.int .i64 0))] [.sl 1 3 1 [], .sl 1 3 1 [],X]=
  vgo W ⟨h58,[.tmp 10],0⟩ ks (VFr.of [(4, .x (.int .i64 0)),(11, .own 0 []),(12, .x (.bool false)),(13, .x (.int .i64 0)),(14, .own 1 []),(15, .x (.bool false))]) [.sl 1 3 1 [], .sl 1 3 1 [],X]:=fun ks=>by
 rw[sb5 c58L0.eq_def]
 by_cases h:0<(L.length:Int)
 ·simp(disch:=first|omega|fail) only[push_cast,seval,vrl,if_pos,if_neg]
 ·simp(disch:=first|omega|fail) only[push_cast,seval,vrl,if_pos,if_neg]
theorem as3{m k:Nat}(hm:m≤5)(hk:k≤2^m){g:Nat→Int}(hg:G3 (2^m) g)(hw:(tb (2^m) g).any notT=false){nl n1:Nat}{b1:Bool}:o24 W 58 [.x (.int .i64 m), .x (.int .i64 k), .fz true (.sl nl 0 1 (ivs (tb (2^m) g))), .fz b1 (.sl n1 0 1 (ivs (pnI (ev3 m k)))), .x (.int .i64 0)] []=some (.x (.bool true),[],[]):=by
 have hs:=shp hm
 have h32:=pw32 hm
 have w0:=mh1 (2^m) g
 have e2:=fun b nl=>mt0 (l:=tb (2^m) g) (by omega) (b:=b) (nl:=nl)
 rw[hw]at e2
 obtain⟨f1,f2,f3⟩:=qq9 hm hk
 have er:=fun b0 n0=>nm6 (l:=ev3 m k) (b1:=b1) (n1:=n1) (by omega) (m:=m) (g:=g) (k:=0) b0 n0 hm hg (by omega)
 cases hr:rdP (ev3 m k).contains m g 0 with
 |none=>
  have e0:=gi9 hm hk hg (nl:=nl) hw hr
  have e1:=mh5
  have e4:=fun X ks=>af9 (L:=pnI (ev3 m k)) (by rw[ip1];omega) (n1:=n1) (b1:=b1) (X:=X) ks
  obtain⟨X,Y,e3⟩:=(er true nl).2 hr
  clear er
  rw[Int.natCast_zero]at e3
  generalize tb (2^m) g=A at*
  generalize pnI (ev3 m k)=L at*
  generalize 2^m=N at*
  rw[o08 rfl T58 rfl]
  unfold F58 c58
  simp(disch:=first|omega|fail) only[push_cast,seval,vrl,if_pos,if_neg,e0,e1,e2,hs,w0,e3]
  rw[e4]
  simp(disch:=first|omega|fail) only[push_cast,seval,vrl,if_pos,if_neg,e1]
 |some p=>
  obtain⟨a,s⟩:=p
  have e0:=rq8 hm hk hg (nl:=nl) hw hr
  have e3:=(er true nl).1 a s hr
  obtain⟨ha,_⟩:=pe0 hg hr
  have e4:=fun A n2 ks=>s36 (l:=ev3 m k) (a:=a) (by omega) (by rw[ha];exact f3) (by omega) (n1:=n1) (n2:=n2) (b1:=b1) (A:=A) (ev3 m k).length 0 (by omega) ks
  rw[List.take_zero,show wv6 [] a=[]from rfl,Int.natCast_zero,lz6]at e4
  have hpkl:(wv6 (ev3 m k) a).length≤9223372036854775807:=by unfold wv6;rw[List.length_map];omega
  have e5:=fun b b' nl nl'=>nb2 (b:=b) (b':=b') (nl:=nl) (nl':=nl') (k:=wv6 (ev3 m k) a) hpkl
  simp only[decide_true]at e5
  generalize wv6 (ev3 m k) a=P at*
  clear er
  rw[Int.natCast_zero]at e3
  generalize tb (2^m) g=A at*
  generalize pnI (ev3 m k)=L at*
  generalize 2^m=N at*
  rw[o08 rfl T58 rfl]
  unfold F58 c58
  simp(disch:=first|omega|fail) only[push_cast,seval,vrl,if_pos,if_neg,e0,e2,hs,w0,e3]
  rw[e4]
  simp(disch:=first|omega|fail) only[push_cast,seval,vrl,if_pos,if_neg,e5]
set_option maxHeartbeats 4000000
theorem yk4{e:Int}(h:e≠0): ∀b b' nl nl',o24 W 22 [.fz b (.sl nl 0 1 []), .x (.int .i64 e), .fz b' (.sl nl' 0 1 []), .x (.int .i64 e)] []=some (.x (.bool true),[],[]):=fun b b' nl nl'=>by
 have:=eb1 (b:=b) (nl:=nl) (b':=b') (nl':=nl') (l:=[]) (k:=[]) (e:=e) (f:=e) (by simp)
 rw[if_neg h,decide_eq_true rfl]at this
 exact this
theorem aw9{l:List Int}(hl:l.length≤9223372036854775807): ∀b b' nl nl',o24 W 22 [.fz b (.sl nl 0 1 (ivs l)), .x (.int .i64 0), .fz b' (.sl nl' 0 1 (ivs l)), .x (.int .i64 0)] []=some (.x (.bool true),[],[]):=fun b b' nl nl'=>by
 have:=eb1 (b:=b) (nl:=nl) (b':=b') (nl':=nl') (l:=l) (k:=l) (e:=0) (f:=0) hl
 rw[if_pos rfl,decide_eq_true rfl,decide_eq_true rfl]at this
 exact this
def i55(m k:Int):List Int:=if besE m k=0 then pnI (ev3 m.toNat k.toNat)else []
theorem pb6{m k:Int}{w:List Int}(hw:w.length≤100){nl:Nat}: ∀b1 n1,o24 W 58 [.x (.int .i64 m), .x (.int .i64 k), .fz true (.sl nl 0 1 (ivs w)), .fz b1 (.sl n1 0 1 (ivs (i55 m k))), .x (.int .i64 (besE m k))] []=some (.x (.bool true),[],[]):=fun b1 n1=>by
 by_cases hE:decE m k w=0
 ·unfold decE at hE
  by_cases h1:besE m k=0
  ·rw[if_pos h1]at hE
   obtain⟨M,K,rfl,rfl,hM,hKM⟩:=qu4 h1
   unfold i55
   rw[if_pos h1,h1]
   rw[Int.toNat_natCast]at hE
   by_cases h2:w.length=2^M
   ·rw[if_pos h2]at hE
    cases hb:w.any notT with
    |true=>rw[hb]at hE;cases hE
    |false=>
     obtain⟨g,rfl,hg⟩:=og2 h2 hb
     exact as3 hM hKM hg hb
   ·rw[if_neg h2]at hE;cases hE
  ·rw[if_neg h1]at hE;exact absurd hE h1
 ·exact uv8 hw hE
theorem zi4{m:Nat}{ms:List Int}(hm:m≤5)(hk:ms.length≤2^m)(hb:fk6 ms=false): ∃f,plW m ms=wU (2^m) f:=
 i45 (by unfold plW;exact mh1 _ _) (by rw[oe2 hm hk,hb])
theorem u43{m:Nat}(hm:m≤5):(losI m).length≤9223372036854775807:=by
 have:=pw32 hm
 rw[ej4];omega
theorem aj3(w:List Int):w.all bitU= !fk6 w:=yl3 w
section
variable {m k:Int} {w:List Int} {nl:Nat}
theorem ev5(hw:w.length≤100)(hm:m<0∨5<m):o24 W 9 [.x (.int .i64 m), .x (.int .i64 k), .fz true (.sl nl 0 1 (ivs w))] []=some (.x (.bool true),[],[]):=by
 have hp:polE m=4:=by unfold polE;rw[if_pos hm]
 have h4: ¬(4:Int)=0:=by decide
 have hbe:besE m k=4:=by unfold besE;rw[hp,if_neg h4]
 have hte:trfE m w=4:=by unfold trfE;rw[hp,if_neg h4]
 have hen:encE m w=4:=by
  have:besE m (w.length:Int)=4:=by unfold besE;rw[hp,if_neg h4]
  unfold encE;rw[this,if_neg h4]
 have e1:=y02 (m:=m) (by rw[hp];exact h4)
 rw[hp]at e1
 have e2:=vv0 (m:=m) (k:=k) (by rw[hbe];exact h4)
 rw[hbe]at e2
 have e3:=fun bb nl=>ya0 (m:=m) (w:=w) (bb:=bb) (nl:=nl) (by omega) (by rw[hte];exact h4)
 rw[hte]at e3
 have e4:=fun bb nl=>mn7 (m:=m) (w:=w) (bb:=bb) (nl:=nl) (by omega)
 rw[hen]at e4
 have e5:=fun bb nl=>ui6 (m:=m) (ms:=w) (bb:=bb) (nl:=nl) (by omega) (by rw[hen];exact h4)
 rw[hen]at e5
 have e6:=pb6 (m:=m) (k:=k) hw (nl:=nl)
 unfold i55 at e6
 rw[hbe,if_neg h4,lz6]at e6
 have e7:=yk4 (e:=4) h4
 rw[o08 rfl T9 rfl]
 unfold F9 c9
 rcases hm with h|h
 ·simp(disch:=first|omega|fail) only[push_cast,seval,vrl,if_pos,if_neg,e1,e2,e3,e4,e5,e6,e7,List.tail_cons]
 ·simp(disch:=first|omega|fail) only[push_cast,seval,vrl,if_pos,if_neg,e1,e2,e3,e4,e5,e6,e7,List.tail_cons]
theorem ki2{M:Nat}(hM:M≤5)(hw:w.length≤100){K:Nat}(hK:K≤2^M):o24 W 9 [.x (.int .i64 M), .x (.int .i64 K), .fz true (.sl nl 0 1 (ivs w))] []=some (.x (.bool true),[],[]):=by
 have hs:=shp hM
 have h32:=pw32 hM
 have hp:polE (M:Int)=0:=rm0 hM
 have h60: ¬(6:Int)=0:=by decide
 have h20: ¬(2:Int)=0:=by decide
 have e1:=rp8 hM
 have e8:=m55 hM
 have e9:=aw9 (u43 hM)
 have e4:=fun bb nl=>mn7 (m:=(M:Int)) (w:=w) (bb:=bb) (nl:=nl) (by omega)
 have ea:=fun bb nl=>nu7 (l:=w) (b:=bb) (nl:=nl) (by omega)
 rw[aj3]at ea
 have e7:=yk4 h60
 have e7':=yk4 h20
 have hbe:=hq4 hM hK
 have e2:=k00 hM hK
 have eb:=nq3 hM hK
 have ec:=aw9 (l:=pnI (ev3 M K)) (by rw[ip1,(qq9 hM hK).1];omega)
 have e6:=pb6 (m:=(M:Int)) (k:=(K:Int)) hw (nl:=nl)
 unfold i55 at e6
 rw[hbe,if_pos rfl,Int.toNat_natCast,Int.toNat_natCast]at e6
 clear hbe
 generalize pnI (ev3 M K)=L at*
 have e3:=fun bb nl h=>ya0 (m:=(M:Int)) (w:=w) (bb:=bb) (nl:=nl) (by omega) h
 have e5:=fun bb nl h=>ui6 (m:=(M:Int)) (ms:=w) (bb:=bb) (nl:=nl) (by omega) h
 by_cases c1:w.length=2^M
 ·have hbl:besE (M:Int) (w.length:Int)=0:=hq4 hM (by omega)
  cases c2:fk6 w with
  |true=>
   rw[c2]at ea
   have hte:trfE (M:Int) w=2:=by unfold trfE;rw[hp,if_pos rfl,Int.toNat_natCast,if_pos c1,c2];rfl
   have hen:encE (M:Int) w=2:=by unfold encE;rw[hbl,if_pos rfl,c2];rfl
   have e3:=fun bb nl=>e3 bb nl (by rw[hte];exact h20)
   have e5:=fun bb nl=>e5 bb nl (by rw[hen];exact h20)
   rw[hte]at e3
   rw[hen]at e4 e5
   generalize losI M=LO at*
   generalize 2^M=N at*
   rw[o08 rfl T9 rfl]
   unfold F9 c9
   simp(disch:=first|omega|fail) only[push_cast,seval,vrl,if_pos,if_neg,hs,e1,e2,e6,e8,e9,eb,ec,e3,e4,e5,e7',c1,ea]
  |false=>
   rw[c2]at ea
   have hen:encE (M:Int) w=0:=by unfold encE;rw[hbl,if_pos rfl,c2];rfl
   rw[hen]at e4
   clear e3 e5
   obtain⟨f2,hf2⟩:=zi4 hM (show w.length≤2^M by omega) c2
   have e5:=fun bb nl=>ud0 (bb:=bb) (nl:=nl) hM (show w.length≤2^M by omega) hf2
   have ee:=fun bb nl=>mf7 (bb:=bb) (nl:=nl) hM (show w.length≤2^M by omega) hf2
   obtain⟨f,rfl⟩:=i45 c1 c2
   have e3:=fun bb nl=>c03 hM f bb nl
   have ef:=fun bb nl=>ol0 hM f bb nl
   have eg:=aw9 (l:=wU (2^M) (trF M f)) (by rw[mv5];omega)
   have eh:=aw9 (l:=wU (2^M) (trF M f2)) (by rw[mv5];omega)
   generalize wU (2^M) (trF M f2)=Z2 at*
   generalize wU (2^M) (trF M f)=Z at*
   generalize wU (2^M) f=w at*
   generalize losI M=LO at*
   generalize 2^M=N at*
   rw[o08 rfl T9 rfl]
   unfold F9 c9
   simp(disch:=first|omega|fail) only[push_cast,seval,vrl,if_pos,if_neg,hs,e1,e2,e6,e8,e9,eb,ec,e3,ef,eg,e4,e5,ee,eh,c1,ea]
 ·have hte:trfE (M:Int) w=6:=by unfold trfE;rw[hp,if_pos rfl,Int.toNat_natCast,if_neg c1]
  have e3:=fun bb nl=>e3 bb nl (by rw[hte];exact h60)
  rw[hte]at e3
  have c1': ¬(w.length:Int)=((2^M:Nat):Int):=by omega
  by_cases c3:2^M<w.length
  ·have hen:encE (M:Int) w=6:=by
    have:besE (M:Int) (w.length:Int)=6:=by unfold besE;rw[hp,if_pos rfl,Int.toNat_natCast,if_pos (by omega)]
    unfold encE;rw[this,if_neg h60]
   have e5:=fun bb nl=>e5 bb nl (by rw[hen];exact h60)
   rw[hen]at e4 e5
   generalize losI M=LO at*
   generalize 2^M=N at*
   rw[o08 rfl T9 rfl]
   unfold F9 c9
   simp(disch:=first|omega|fail) only[push_cast,seval,vrl,if_pos,if_neg,hs,e1,e2,e6,e8,e9,eb,ec,e3,e4,e5,e7,nb8 c1']
  ·have hbl:besE (M:Int) (w.length:Int)=0:=hq4 hM (by omega)
   cases c2:fk6 w with
   |true=>
    rw[c2]at ea
    have hen:encE (M:Int) w=2:=by unfold encE;rw[hbl,if_pos rfl,c2];rfl
    have e5:=fun bb nl=>e5 bb nl (by rw[hen];exact h20)
    rw[hen]at e4 e5
    generalize losI M=LO at*
    generalize 2^M=N at*
    rw[o08 rfl T9 rfl]
    unfold F9 c9
    simp(disch:=first|omega|fail) only[push_cast,seval,vrl,if_pos,if_neg,hs,e1,e2,e6,e8,e9,eb,ec,e3,e4,e5,e7,e7',nb8 c1']
   |false=>
    rw[c2]at ea
    have hen:encE (M:Int) w=0:=by unfold encE;rw[hbl,if_pos rfl,c2];rfl
    rw[hen]at e4
    clear e5
    obtain⟨f2,hf2⟩:=zi4 hM (show w.length≤2^M by omega) c2
    have e5:=fun bb nl=>ud0 (bb:=bb) (nl:=nl) hM (show w.length≤2^M by omega) hf2
    have ee:=fun bb nl=>mf7 (bb:=bb) (nl:=nl) hM (show w.length≤2^M by omega) hf2
    have eh:=aw9 (l:=wU (2^M) (trF M f2)) (by rw[mv5];omega)
    generalize wU (2^M) (trF M f2)=Z2 at*
    generalize losI M=LO at*
    generalize 2^M=N at*
    rw[o08 rfl T9 rfl]
    unfold F9 c9
    simp(disch:=first|omega|fail) only[push_cast,seval,vrl,if_pos,if_neg,hs,e1,e2,e6,e8,e9,eb,ec,e3,e4,e5,e7,ee,eh,nb8 c1']
theorem df0{M:Nat}(hM:M≤5)(hw:w.length≤100)(hbE:besE (M:Int) k≠0):o24 W 9 [.x (.int .i64 M), .x (.int .i64 k), .fz true (.sl nl 0 1 (ivs w))] []=some (.x (.bool true),[],[]):=by
 have hs:=shp hM
 have h32:=pw32 hM
 have hp:polE (M:Int)=0:=rm0 hM
 have h60: ¬(6:Int)=0:=by decide
 have h20: ¬(2:Int)=0:=by decide
 have e1:=rp8 hM
 have e8:=m55 hM
 have e9:=aw9 (u43 hM)
 have e4:=fun bb nl=>mn7 (m:=(M:Int)) (w:=w) (bb:=bb) (nl:=nl) (by omega)
 have ea:=fun bb nl=>nu7 (l:=w) (b:=bb) (nl:=nl) (by omega)
 rw[aj3]at ea
 have e7:=yk4 h60
 have e7':=yk4 h20
 have hbe:besE (M:Int) k=6:=by
  unfold besE at hbE⊢
  rw[hp,if_pos rfl]at hbE⊢
  split at hbE
  ·rename_i h;rw[if_pos h]
  ·exact absurd rfl hbE
 have hk:k<0∨((2^M:Nat):Int)<k:=by
  unfold besE at hbE
  rw[hp,if_pos rfl,Int.toNat_natCast]at hbE
  split at hbE
  ·assumption
  ·exact absurd rfl hbE
 have e2:=vv0 hbE
 rw[hbe]at e2
 have e6:=pb6 (m:=(M:Int)) (k:=k) hw (nl:=nl)
 unfold i55 at e6
 rw[hbe,if_neg h60,lz6]at e6
 clear hbE hbe
 have e3:=fun bb nl h=>ya0 (m:=(M:Int)) (w:=w) (bb:=bb) (nl:=nl) (by omega) h
 have e5:=fun bb nl h=>ui6 (m:=(M:Int)) (ms:=w) (bb:=bb) (nl:=nl) (by omega) h
 by_cases c1:w.length=2^M
 ·have hbl:besE (M:Int) (w.length:Int)=0:=hq4 hM (by omega)
  cases c2:fk6 w with
  |true=>
   rw[c2]at ea
   have hte:trfE (M:Int) w=2:=by unfold trfE;rw[hp,if_pos rfl,Int.toNat_natCast,if_pos c1,c2];rfl
   have hen:encE (M:Int) w=2:=by unfold encE;rw[hbl,if_pos rfl,c2];rfl
   have e3:=fun bb nl=>e3 bb nl (by rw[hte];exact h20)
   have e5:=fun bb nl=>e5 bb nl (by rw[hen];exact h20)
   rw[hte]at e3
   rw[hen]at e4 e5
   generalize losI M=LO at*
   generalize 2^M=N at*
   rw[o08 rfl T9 rfl]
   unfold F9 c9
   rcases hk with hk|hk
   ·simp(disch:=first|omega|fail) only[push_cast,seval,vrl,if_pos,if_neg,List.tail_cons,hs,e1,e2,e6,e8,e9,e7,e3,e4,e5,e7',c1,ea]
   ·simp(disch:=first|omega|fail) only[push_cast,seval,vrl,if_pos,if_neg,List.tail_cons,hs,e1,e2,e6,e8,e9,e7,e3,e4,e5,e7',c1,ea]
  |false=>
   rw[c2]at ea
   have hen:encE (M:Int) w=0:=by unfold encE;rw[hbl,if_pos rfl,c2];rfl
   rw[hen]at e4
   clear e3 e5
   obtain⟨f2,hf2⟩:=zi4 hM (show w.length≤2^M by omega) c2
   have e5:=fun bb nl=>ud0 (bb:=bb) (nl:=nl) hM (show w.length≤2^M by omega) hf2
   have ee:=fun bb nl=>mf7 (bb:=bb) (nl:=nl) hM (show w.length≤2^M by omega) hf2
   obtain⟨f,rfl⟩:=i45 c1 c2
   have e3:=fun bb nl=>c03 hM f bb nl
   have ef:=fun bb nl=>ol0 hM f bb nl
   have eg:=aw9 (l:=wU (2^M) (trF M f)) (by rw[mv5];omega)
   have eh:=aw9 (l:=wU (2^M) (trF M f2)) (by rw[mv5];omega)
   generalize wU (2^M) (trF M f2)=Z2 at*
   generalize wU (2^M) (trF M f)=Z at*
   generalize wU (2^M) f=w at*
   generalize losI M=LO at*
   generalize 2^M=N at*
   rw[o08 rfl T9 rfl]
   unfold F9 c9
   rcases hk with hk|hk
   ·simp(disch:=first|omega|fail) only[push_cast,seval,vrl,if_pos,if_neg,List.tail_cons,hs,e1,e2,e6,e8,e9,e7,e3,ef,eg,e4,e5,ee,eh,c1,ea]
   ·simp(disch:=first|omega|fail) only[push_cast,seval,vrl,if_pos,if_neg,List.tail_cons,hs,e1,e2,e6,e8,e9,e7,e3,ef,eg,e4,e5,ee,eh,c1,ea]
 ·have hte:trfE (M:Int) w=6:=by unfold trfE;rw[hp,if_pos rfl,Int.toNat_natCast,if_neg c1]
  have e3:=fun bb nl=>e3 bb nl (by rw[hte];exact h60)
  rw[hte]at e3
  have c1': ¬(w.length:Int)=((2^M:Nat):Int):=by omega
  by_cases c3:2^M<w.length
  ·have hen:encE (M:Int) w=6:=by
    have:besE (M:Int) (w.length:Int)=6:=by unfold besE;rw[hp,if_pos rfl,Int.toNat_natCast,if_pos (by omega)]
    unfold encE;rw[this,if_neg h60]
   have e5:=fun bb nl=>e5 bb nl (by rw[hen];exact h60)
   rw[hen]at e4 e5
   generalize losI M=LO at*
   generalize 2^M=N at*
   rw[o08 rfl T9 rfl]
   unfold F9 c9
   rcases hk with hk|hk
   ·simp(disch:=first|omega|fail) only[push_cast,seval,vrl,if_pos,if_neg,List.tail_cons,hs,e1,e2,e6,e8,e9,e7,e3,e4,e5,e7,nb8 c1']
   ·simp(disch:=first|omega|fail) only[push_cast,seval,vrl,if_pos,if_neg,List.tail_cons,hs,e1,e2,e6,e8,e9,e7,e3,e4,e5,e7,nb8 c1']
  ·have hbl:besE (M:Int) (w.length:Int)=0:=hq4 hM (by omega)
   cases c2:fk6 w with
   |true=>
    rw[c2]at ea
    have hen:encE (M:Int) w=2:=by unfold encE;rw[hbl,if_pos rfl,c2];rfl
    have e5:=fun bb nl=>e5 bb nl (by rw[hen];exact h20)
    rw[hen]at e4 e5
    generalize losI M=LO at*
    generalize 2^M=N at*
    rw[o08 rfl T9 rfl]
    unfold F9 c9
    rcases hk with hk|hk
    ·simp(disch:=first|omega|fail) only[push_cast,seval,vrl,if_pos,if_neg,List.tail_cons,hs,e1,e2,e6,e8,e9,e7,e3,e4,e5,e7,e7',nb8 c1']
    ·simp(disch:=first|omega|fail) only[push_cast,seval,vrl,if_pos,if_neg,List.tail_cons,hs,e1,e2,e6,e8,e9,e7,e3,e4,e5,e7,e7',nb8 c1']
   |false=>
    rw[c2]at ea
    have hen:encE (M:Int) w=0:=by unfold encE;rw[hbl,if_pos rfl,c2];rfl
    rw[hen]at e4
    clear e5
    obtain⟨f2,hf2⟩:=zi4 hM (show w.length≤2^M by omega) c2
    have e5:=fun bb nl=>ud0 (bb:=bb) (nl:=nl) hM (show w.length≤2^M by omega) hf2
    have ee:=fun bb nl=>mf7 (bb:=bb) (nl:=nl) hM (show w.length≤2^M by omega) hf2
    have eh:=aw9 (l:=wU (2^M) (trF M f2)) (by rw[mv5];omega)
    generalize wU (2^M) (trF M f2)=Z2 at*
    generalize losI M=LO at*
    generalize 2^M=N at*
    rw[o08 rfl T9 rfl]
    unfold F9 c9
    rcases hk with hk|hk
    ·simp(disch:=first|omega|fail) only[push_cast,seval,vrl,if_pos,if_neg,List.tail_cons,hs,e1,e2,e6,e8,e9,e7,e3,e4,e5,e7,ee,eh,nb8 c1']
    ·simp(disch:=first|omega|fail) only[push_cast,seval,vrl,if_pos,if_neg,List.tail_cons,hs,e1,e2,e6,e8,e9,e7,e3,e4,e5,e7,ee,eh,nb8 c1']
end
theorem mb2{m k:Int}{w:List Int}{nl:Nat}:o24 W 9 [.x (.int .i64 m), .x (.int .i64 k), .fz true (.sl nl 0 1 (ivs w))] []=some (.x (.bool true),[],[]):=by
 by_cases hw:w.length≤100
 ·by_cases hm:m<0∨5<m
  ·exact ev5 hw hm
  ·obtain⟨M,rfl⟩: ∃M:Nat,m=M:=⟨m.toNat,by omega⟩
   by_cases hb:besE (M:Int) k=0
   ·obtain⟨M',K,hM',rfl,hM,hKM⟩:=qu4 hb
    obtain rfl:M=M':=by omega
    exact ki2 hM hw hKM
   ·exact df0 (by omega) hw hb
 ·have h100:100<(w.length:Int):=by omega
  rw[o08 rfl T9 rfl]
  unfold F9 c9
  simp(disch:=first|omega|fail) only[push_cast,seval,vrl,if_pos,if_neg]
end Go.Proofs.Ytodbgomfeacdhaa
namespace Go.Proofs.Ytodbgomfeacdhaa
open Go.Am Go.Vm Go.Alg
def wd1(raw:List Int)(j:Int):Int:=if 1<pkI (rwI raw j) 4 then pkI (rwI raw j) 4-2 else pkI (rwI raw j) 4
def wdV(raw:List Int)(frm:Int)(n:Nat):List Int:=(List.range n).map fun i:Nat=>wd1 raw (frm+i)
theorem c31(raw:List Int)(frm:Int)(n:Nat):(wdV raw frm n).length=n:=by simp[wdV]
theorem ri0(raw:List Int)(frm:Int)(n:Nat):wdV raw frm (n+1)=wdV raw frm n++[wd1 raw (frm+n)]:=by unfold wdV;rw[List.range_succ,List.map_append];rfl
theorem uz0(raw:List Int)(j:Int):wd1 raw j=0∨wd1 raw j=1:=by
 have:=h59 (a:=rwI raw j) (n:=4) (by omega)
 unfold wd1
 split<;>omega
section
variable {b:Bool} {nl:Nat} {raw:List Int}
theorem g28(hrl:raw.length≤9223372036854775807){frm:Int}(hf0:0≤frm)(hf1:frm≤1000000){N:Nat}(hN:N≤1000): ∀(d i:Nat),i+d=N→ ∀ks,
 vgoL W ⟨h46,[.tmp 8],0⟩ [0,1,2,3,9,10] c46L0 (.blk 0 [9]::ks) [(0, .fz b (.sl nl 0 1 (ivs raw))),(1, .x (.int .i64 frm)),(2, .x (.int .i64 N)),(3, .x (.bool false)),(9, .own 0 []),(10, .x (.int .i64 i))] [.sl 1 3 1 (ivs (wdV raw frm i))]=
  vgo W ⟨h46,[.tmp 8],0⟩ ks (VFr.of [(9, .own 0 [])]) [.sl 1 3 1 (ivs (wdV raw frm N))]
 |0,i,hi,ks=>by
  obtain rfl:i=N:=by omega
  rw[sb5 c46L0.eq_def]
  simp(disch:=first|omega|fail) only[push_cast,seval,vrl,if_pos,if_neg]
 |d+1,i,hi,ks=>by
  have ih:=g28 hrl hf0 hf1 hN d (i+1) (by omega) ks
  have e1:=fun b nl=>yc3 (b:=b) (nl:=nl) (raw:=raw) (i:=frm+i) (by omega) hrl
  have hri:=bd0 (l:=raw) (i:=frm+i) (by omega) (by omega)
  have e2:=s88 (n:=4) hri.1 hri.2 (by omega)
  have hp:=h59 (a:=rwI raw (frm+i)) (n:=4) (by omega)
  have hl:=c31 raw frm i
  rw[Int.natCast_add,Int.natCast_one,ri0,wd1]at ih
  rw[←ih,sb5 c46L0.eq_def]
  by_cases h:1<pkI (rwI raw (frm+i)) 4
  ·rw[if_pos h]
   simp(disch:=first|omega|fail) only[push_cast,seval,vrl,if_pos,if_neg,e1,e2,hl,dec_lt h]
  ·rw[if_neg h]
   simp(disch:=first|omega|fail) only[push_cast,seval,vrl,if_pos,if_neg,e1,e2,hl,cw6 (Int.not_lt.1 h)]
theorem en9(hrl:raw.length≤9223372036854775807){frm:Int}(hf0:0≤frm)(hf1:frm≤1000000){N:Nat}(hN:N≤1000):o24 W 46 [.fz b (.sl nl 0 1 (ivs raw)), .x (.int .i64 frm), .x (.int .i64 N), .x (.bool false)] []=some (.own 0 [],[.sl 1 3 1 (ivs (wdV raw frm N))],[]):=by
 have e:=fun ks=>g28 (b:=b) (nl:=nl) hrl hf0 hf1 hN N 0 (by omega) ks
 rw[show wdV raw frm 0=[]from rfl]at e
 simp only[Int.natCast_zero,List.take_zero,List.drop_zero,rp2,lz6,x25,List.map_nil,List.length_nil]at e
 rw[o08 rfl T46 rfl]
 unfold F46 c46
 simp(disch:=first|omega|fail) only[push_cast,seval,vrl,if_pos,if_neg]
 rw[e]
 simp(disch:=first|omega|fail) only[push_cast,seval,vrl,if_pos,if_neg]
end
set_option maxHeartbeats 4000000
def lsA(raw:List Int)(N:Nat)(A:List Int):Nat→List Int
 |0=>A
 |i+1=>(lsA raw N A i).set (pkI (rwI raw (40+i)) N).toNat (-1)
theorem hr9(raw:List Int)(N:Nat)(A:List Int): ∀i,(lsA raw N A i).length=A.length
 |0=>rfl
 |i+1=>by rw[lsA,List.length_set,hr9]
theorem tv2(raw:List Int)(frm:Int)(n:Nat):fk6 (wdV raw frm n)=false:=by
 unfold fk6 wdV
 rw[List.any_eq_false]
 intro v hv
 obtain⟨x,_,rfl⟩:=List.mem_map.1 hv
 rcases uz0 raw (frm+(x:Int))with h|h<;>rw[h]<;>simp
section
variable {raw:List Int} {b:Bool} {nl:Nat}
theorem xw1(hrl:raw.length≤9223372036854775807){M:Nat}(hM:M≤5){A:List Int}(hA:A.length=2^M){k lost turned:Int}(l1: -9223372036854775808≤lost)(l2:lost≤9223372036854775807){P:Nat}(hP:pkI lost ((2^M:Nat):Int)=P)(hP2:P≤32): ∀(d i:Nat),i+d=P→ ∀ks,
 vgoL W ⟨hNo,[.tmp 10],0⟩ [0,1,2,3,4,11,12] c10L0 (.blk 0 [1,2,4,11]::ks) [(0, .fz b (.sl nl 0 1 (ivs raw))),(1, .x (.int .i64 M)),(2, .x (.int .i64 k)),(3, .x (.int .i64 lost)),(4, .x (.int .i64 turned)),(11, .own 0 []),(12, .x (.int .i64 i))] [.sl 0 3 1 (ivs (lsA raw (2^M) A i))]=
  vgo W ⟨hNo,[.tmp 10],0⟩ ks (VFr.of [(1, .x (.int .i64 M)),(2, .x (.int .i64 k)),(4, .x (.int .i64 turned)),(11, .own 0 [])]) [.sl 0 3 1 (ivs (lsA raw (2^M) A P))]
 |0,i,hi,ks=>by
  obtain rfl:i=P:=by omega
  have hs:=shp hM
  have h32:=pw32 hM
  have p1:=s88 l1 l2 (show(0:Int)<((2^M:Nat):Int) by omega)
  rw[hP]at p1
  generalize lsA raw (2^M) A i=B at*
  generalize 2^M=N at*
  rw[sb5 c10L0.eq_def]
  simp(disch:=first|omega|fail) only[push_cast,seval,vrl,if_pos,if_neg,hs,p1]
 |d+1,i,hi,ks=>by
  have ih:=xw1 hrl hM hA (k:=k) (turned:=turned) l1 l2 hP hP2 d (i+1) (by omega) ks
  have hs:=shp hM
  have h32:=pw32 hM
  have p1:=s88 l1 l2 (show(0:Int)<((2^M:Nat):Int) by omega)
  rw[hP]at p1
  have e1:=fun b nl=>yc3 (b:=b) (nl:=nl) (raw:=raw) (i:=40+i) (by omega) hrl
  have hri:=bd0 (l:=raw) (i:=40+(i:Int)) (by omega) (by omega)
  have e2:=s88 (n:=((2^M:Nat):Int)) hri.1 hri.2 (by omega)
  have hp:=h59 (a:=rwI raw (40+(i:Int))) (n:=((2^M:Nat):Int)) (by omega)
  have hll:=hr9 raw (2^M) A i
  rw[hA]at hll
  rw[lsA,Int.natCast_add i,Int.natCast_one]at ih
  obtain⟨Q,hQ⟩: ∃Q:Nat,pkI (rwI raw (40+(i:Int))) ((2^M:Nat):Int)=Q:=⟨_,(Int.toNat_of_nonneg hp.1).symm⟩
  rw[hQ,Int.toNat_natCast]at ih
  rw[hQ]at e2 hp
  clear hP hQ
  generalize lsA raw (2^M) A i=B at*
  generalize 2^M=N at*
  generalize lsA raw N A P=Z at*
  rw[←ih,sb5 c10L0.eq_def]
  simp(disch:=first|omega|fail) only[push_cast,seval,vrl,if_pos,if_neg,hs,p1,e1,e2,hll]
theorem ak5(hrl:raw.length≤9223372036854775807){m k lost turned:Int}(m1: -9223372036854775808≤m)(m2:m≤9223372036854775807)(k1: -9223372036854775808≤k)(k2:k≤9223372036854775807)(l1: -9223372036854775808≤lost)(l2:lost≤9223372036854775807)(t1: -9223372036854775808≤turned)(t2:turned≤9223372036854775807):
 o24 W 10 [.fz b (.sl nl 0 1 (ivs raw)), .x (.int .i64 m), .x (.int .i64 k), .x (.int .i64 lost), .x (.int .i64 turned)] []=some (.x (.bool true),[],[]):=by
 by_cases h256:256<raw.length
 ·rw[o08 rfl T10 rfl]
  unfold F10 c10
  simp(disch:=first|omega|fail) only[push_cast,seval,vrl,if_pos,if_neg]
 ·have p1:=s88 m1 m2 (show(0:Int)<6 by omega)
  have hp1:=h59 (a:=m) (n:=6) (by omega)
  obtain⟨M,hM⟩: ∃M:Nat,pkI m 6=(M:Int):=⟨(pkI m 6).toNat,by omega⟩
  rw[hM]at p1 hp1
  have hM5:M≤5:=by omega
  have hs:=shp hM5
  have h32:=pw32 hM5
  have p2:=s88 k1 k2 (show(0:Int)<((2^M:Nat):Int)+1 by omega)
  have hp2:=h59 (a:=k) (n:=((2^M:Nat):Int)+1) (by omega)
  obtain⟨K,hK⟩: ∃K:Nat,pkI k (((2^M:Nat):Int)+1)=(K:Int):=⟨_,(Int.toNat_of_nonneg hp2.1).symm⟩
  rw[hK]at p2 hp2
  have hKM:K≤2^M:=by omega
  have p3:=s88 t1 t2 (show(0:Int)<4 by omega)
  have hp4:=h59 (a:=lost) (n:=((2^M:Nat):Int)) (by omega)
  obtain⟨P,hP⟩: ∃P:Nat,pkI lost ((2^M:Nat):Int)=(P:Int):=⟨_,(Int.toNat_of_nonneg hp4.1).symm⟩
  have e1:=fun b nl=>en9 (b:=b) (nl:=nl) (raw:=raw) hrl (frm:=0) (by omega) (by omega) (N:=K) (by omega)
  have hwl:=c31 raw 0 K
  obtain⟨f2,hf2⟩:=zi4 (ms:=wdV raw 0 K) hM5 (by omega) (tv2 raw 0 K)
  have e2:=fun bb nl=>mf7 (bb:=bb) (nl:=nl) (ms:=wdV raw 0 K) hM5 (by omega) hf2
  have hzl:=mv5 (2^M) (trF M f2)
  have e3:=fun ks=>xw1 (b:=b) (nl:=nl) hrl hM5 hzl (k:=(K:Int)) (turned:=turned) l1 l2 hP (by omega) P 0 (by omega) ks
  rw[lsA,Int.natCast_zero]at e3
  have hll:=hr9 raw (2^M) (wU (2^M) (trF M f2)) P
  rw[hzl]at hll
  have e4:=fun w nl=>mb2 (m:=(M:Int)) (k:=(K:Int)) (w:=w) (nl:=nl)
  generalize lsA raw (2^M) (wU (2^M) (trF M f2)) P=Z at*
  generalize wU (2^M) (trF M f2)=Y at*
  generalize wdV raw 0 K=X at*
  generalize 2^M=N at*
  rw[o08 rfl T10 rfl]
  unfold F10 c10
  simp(disch:=first|omega|fail) only[push_cast,seval,vrl,if_pos,if_neg,p1,hs,p2,e1,e2]
  rw[e3]
  by_cases ht:pkI turned 4=0
  ·rw[ht]at p3
   simp(disch:=first|omega|fail) only[push_cast,seval,vrl,if_pos,if_neg,p3,hll,e4]
  ·simp(disch:=first|omega|fail) only[push_cast,seval,vrl,if_pos,if_neg,p3,nb8 ht,hll,e4]
end
theorem pv6: ∀{m:Nat} {f g:Nat→Bool},(∀x,x<2^m→f x=g x)→ ∀x,x<2^m→trF m f x=trF m g x
 |0,f,g,h,x,hx=>h x hx
 |m+1,f,g,h,x,hx=>by
  rw[pow_two]at h hx
  rw[trF,trF]
  by_cases hc:x<2^m
  ·rw[if_pos hc,if_pos hc,pv6 (fun y hy=>h y (by omega)) x hc,pv6 (f:=fun y=>f (y+2^m)) (g:=fun y=>g (y+2^m)) (fun y hy=>h _ (by omega)) x hc]
  ·rw[if_neg hc,if_neg hc,pv6 (f:=fun y=>f (y+2^m)) (g:=fun y=>g (y+2^m)) (fun y hy=>h _ (by omega)) _ (by omega)]
theorem yu5: ∀(m:Nat) (f g:Nat→Bool) (x:Nat),trF m (fun y=>f y^^g y) x=(trF m f x^^trF m g x)
 |0,f,g,x=>rfl
 |m+1,f,g,x=>by
  rw[trF,trF,trF,yu5 m f g x,yu5 m (fun y=>f (y+2^m)) (fun y=>g (y+2^m)) x,yu5 m (fun y=>f (y+2^m)) (fun y=>g (y+2^m)) (x-2^m)]
  by_cases hc:x<2^m
  ·rw[if_pos hc,if_pos hc,if_pos hc]
   cases trF m f x<;>cases trF m g x<;>cases trF m (fun y=>f (y+2^m)) x<;>cases trF m (fun y=>g (y+2^m)) x<;>rfl
  ·rw[if_neg hc,if_neg hc,if_neg hc]
theorem vt8: ∀{m:Nat} (f:Nat→Bool) (x:Nat),x<2^m→trF m (trF m f) x=f x
 |0,f,x,hx=>rfl
 |m+1,f,x,hx=>by
  rw[pow_two]at hx
  have hs: ∀y,y<2^m→trF m (fun y=>trF (m+1) f (y+2^m)) y=f (y+2^m):=fun y hy=>by
   rw[pv6 (g:=trF m fun y=>f (y+2^m)) (fun z hz=>by rw[trF,if_neg (by omega),show z+2^m-2^m=z by omega]) y hy]
   exact vt8 (fun y=>f (y+2^m)) y hy
  rw[trF]
  by_cases hc:x<2^m
  ·rw[if_pos hc,hs x hc,pv6 (g:=fun z=>trF m f z^^trF m (fun y=>f (y+2^m)) z) (fun z hz=>by rw[trF,if_pos hz]) x hc,yu5,vt8 f x hc,vt8 (fun y=>f (y+2^m)) x hc]
   cases f x<;>cases f (x+2^m)<;>rfl
  ·rw[if_neg hc,hs _ (by omega),show x-2^m+2^m=x by omega]
def bZ(b:Bool):Int:=if b=true then 1 else 0
theorem p76(b:Bool):bit (bZ b):=by cases b<;>simp[bZ,bit]
theorem rm4(a b:Bool):xr (bZ a) (bZ b)=bZ (a^^b):=by cases a<;>cases b<;>rfl
theorem bZ_U(b:Bool):bU b=bZ b:=by cases b<;>rfl
def cmF(m:Nat)(f:Nat→Bool)(g:Nat→Int):Prop:= ∀x,x<2^m→g x=bZ (trF m f x)∨g x= -1
def fzF(free:Nat→Bool)(m:Nat)(f:Nat→Bool)(k:Nat):Prop:= ∀x,x<2^m→free (k+x)=false→f x=false
section
variable {free:Nat→Bool} {m:Nat} {f:Nat→Bool} {g:Nat→Int} {k:Nat}
theorem ye5{x:Nat}(h:cmF m f g)(hx:x<2^m)(h0:0≤g x):g x=bZ (trF m f x):=by
 rcases h x hx with h1|h1
 ·exact h1
 ·omega
theorem qa0{x:Nat}(hx:x<2^m):trF (m+1) f x=(trF m f x^^trF m (fun y=>f (y+2^m)) x):=by rw[trF,if_pos hx]
theorem ks3(x:Nat):trF (m+1) f (2^m+x)=trF m (fun y=>f (y+2^m)) x:=by rw[trF,if_neg (by omega),show 2^m+x-2^m=x by omega]
theorem ff5(a b:Bool):(a^^b^^b)=a:=by cases a<;>cases b<;>rfl
theorem zh6(a b:Bool):(a^^b^^a)=b:=by cases a<;>cases b<;>rfl
theorem fv9(h:cmF (m+1) f g):cmF m f (fstG (2^m) g):=fun x hx=>by
 unfold fstG
 by_cases hc:0≤g x∧0≤g (2^m+x)
 ·rw[if_pos hc,ye5 h (by rw[pow_two];omega) hc.1,ye5 h (by rw[pow_two];omega) hc.2,rm4,qa0 hx,ks3,ff5]
  exact .inl rfl
 ·rw[if_neg hc];exact .inr rfl
theorem nr8{s:Nat→Int}(h:cmF (m+1) f g)(hs: ∀x,x<2^m→s x=bZ (trF m f x)):cmF m (fun y=>f (y+2^m)) (sndG (2^m) g s):=fun x hx=>by
 unfold sndG
 by_cases hc:0≤g x
 ·rw[if_pos hc,ye5 h (by rw[pow_two];omega) hc,hs x hx,rm4,qa0 hx,zh6]
  exact .inl rfl
 ·rw[if_neg hc]
  rcases h (2^m+x) (by rw[pow_two];omega)with h1|h1
  ·rw[h1,ks3];exact .inl rfl
  ·exact .inr h1
theorem z07{s:Nat→Int}(h:cmF (m+1) f g)(hs: ∀x,x<2^m→s x=bZ (trF m f x)):(List.range (2^m)).any (cfG (2^m) g s)=false:=by
 rw[List.any_eq_false]
 intro x hx
 have hx:=List.mem_range.1 hx
 unfold cfG
 by_cases h1:0≤g x
 ·by_cases h2:0≤g (2^m+x)
  ·rw[ye5 h (by rw[pow_two];omega) h1,ye5 h (by rw[pow_two];omega) h2,hs x hx,rm4,qa0 hx,ks3,zh6]
   simp
  ·simp[h2]
 ·simp[h1]
theorem n08(h:fzF free (m+1) f k):fzF free m f k:=fun x hx hf=>h x (by rw[pow_two];omega) hf
theorem rv2(h:fzF free (m+1) f k):fzF free m (fun y=>f (y+2^m)) (k+2^m):=fun x hx hf=>h (x+2^m) (by rw[pow_two];omega) (by rw[show k+(x+2^m)=k+2^m+x by omega];exact hf)
end
theorem bi0{free:Nat→Bool}: ∀{m:Nat} {f:Nat→Bool} {g:Nat→Int} {k:Nat} {a:List Int} {s:Nat→Int},cmF m f g→fzF free m f k→rdP free m g k=some (a,s)→a=tb (2^m) (fun x=>bZ (f x))∧ ∀x,x<2^m→s x=bZ (trF m f x)
 |0,f,g,k,a,s,hc,hz,h=>by
  have h0:g 0=bZ (f 0)∨g 0= -1:=hc 0 (by decide)
  have h1: ∀f:Nat→Int,tb (2^0) f=[f 0]:=fun _=>rfl
  have hx0: ∀x,x<2^0→x=0:=fun x hx=>by simpa using hx
  rw[rdP]at h
  by_cases hf:free k=true
  ·rw[if_pos hf]at h
   by_cases h2:g 0<0
   ·rw[if_pos h2]at h;cases h
   ·rw[if_neg h2]at h
    cases h
    have h3:g 0=bZ (f 0):=by rcases h0 with h0|h0<;>omega
    exact⟨by rw[h1,h3],fun x hx=>by rw[hx0 x hx];exact h3⟩
  ·rw[if_neg hf]at h
   by_cases h2:g 0=1
   ·rw[if_pos h2]at h;cases h
   ·rw[if_neg h2]at h
    cases h
    have h3:f 0=false:=hz 0 (by decide) (by simpa using hf)
    exact⟨by rw[h1,h3];rfl,fun x hx=>by rw[hx0 x hx];show 0=bZ (f 0);rw[h3];rfl⟩
 |m+1,f,g,k,a,s,hc,hz,h=>by
  rw[rdP]at h
  split at h
  ·cases h
  ·rename_i a1 s1 h1
   obtain⟨p1,p2⟩:=bi0 (fv9 hc) (n08 hz) h1
   split at h
   ·cases h
   ·split at h
    ·cases h
    ·rename_i b t h2
     cases h
     obtain⟨q1,q2⟩:=bi0 (nr8 hc p2) (rv2 hz) h2
     refine⟨by rw[p1,q1,pow_two];exact n43 (fun x _=>rfl) fun x _=>rfl,fun x hx=> ?_⟩
     rw[pow_two]at hx
     unfold snG
     by_cases hx2:x<2^m
     ·rw[if_pos hx2,p2 x hx2,q2 x hx2,rm4,qa0 hx2]
     ·obtain⟨y,rfl⟩: ∃y,x=2^m+y:=⟨x-2^m,by omega⟩
      rw[if_neg hx2,show 2^m+y-2^m=y by omega,q2 y (by omega),ks3]
theorem m82{free:Nat→Bool}: ∀{m:Nat} {f:Nat→Bool} {g g':Nat→Int} {k:Nat},cmF m f g→cmF m f g'→fzF free m f k→(∀x,x<2^m→0≤g x→0≤g' x)→rdP free m g k≠none→rdP free m g' k≠none
 |0,f,g,g',k,hc,hc',hz,hl,h=>by
  have h0:g' 0=bZ (f 0)∨g' 0= -1:=hc' 0 (by decide)
  rw[rdP]at h⊢
  by_cases hf:free k=true
  ·rw[if_pos hf]at h⊢
   by_cases h2:g 0<0
   ·rw[if_pos h2]at h;exact absurd rfl h
   ·have:=hl 0 (by decide) (by omega)
    rw[if_neg (by omega)];simp
  ·rw[if_neg hf]
   have h3:f 0=false:=hz 0 (by decide) (by simpa using hf)
   rw[h3]at h0
   have hb:bZ false=0:=rfl
   rw[if_neg (by omega)];simp
 |m+1,f,g,g',k,hc,hc',hz,hl,h=>by
  have hN:=pow_two m
  cases h1:rdP free m (fstG (2^m) g) k with
  |none=>rw[rdP,h1]at h;exact absurd rfl h
  |some p=>
   obtain⟨a,s⟩:=p
   obtain⟨_,p2⟩:=bi0 (fv9 hc) (n08 hz) h1
   have hb:=z07 hc p2
   have h2:rdP free m (sndG (2^m) g s) (k+2^m)≠none:=fun e=>h (by rw[rdP,h1];simp only[];rw[if_neg (by rw[hb];decide),e])
   have k1:=m82 (fv9 hc) (fv9 hc') (n08 hz) (fun x hx h0=>by
    unfold fstG at h0⊢
    by_cases c:0≤g x∧0≤g (2^m+x)
    ·rw[if_pos ⟨hl x (by omega) c.1,hl _ (by omega) c.2⟩]
     have:=es3 (g' x) (g' (2^m+x))
     unfold bit at this;omega
    ·rw[if_neg c]at h0;omega) (by rw[h1];simp)
   cases h1':rdP free m (fstG (2^m) g') k with
   |none=>exact absurd h1' k1
   |some p'=>
    obtain⟨a',s'⟩:=p'
    obtain⟨_,p2'⟩:=bi0 (fv9 hc') (n08 hz) h1'
    have hb':=z07 hc' p2'
    have k2:=m82 (nr8 hc p2) (nr8 hc' p2') (rv2 hz) (fun x hx h0=>by
     unfold sndG at h0⊢
     by_cases c:0≤g' x
     ·rw[if_pos c]
      have:=es3 (g' x) (s' x)
      unfold bit at this;omega
     ·rw[if_neg c]
      have c2: ¬0≤g x:=fun c2=>c (hl x (by omega) c2)
      rw[if_neg c2]at h0
      exact hl _ (by omega) h0) h2
    rw[rdP,h1']
    simp only[]
    rw[if_neg (by rw[hb'];decide)]
    cases h2':rdP free m (sndG (2^m) g' s') (k+2^m)with
    |none=>exact absurd h2' k2
    |some q=>simp
theorem xm1{free:Nat→Bool}: ∀{m:Nat} {f:Nat→Bool} {g:Nat→Int} {k:Nat},cmF m f g→fzF free m f k→(∀x,x<2^m→0≤g x)→rdP free m g k≠none
 |0,f,g,k,hc,hz,hl=>by
  have h0:g 0=bZ (f 0)∨g 0= -1:=hc 0 (by decide)
  have h1:=hl 0 (by decide)
  rw[rdP]
  by_cases hf:free k=true
  ·rw[if_pos hf,if_neg (by omega)];simp
  ·rw[if_neg hf]
   have h3:f 0=false:=hz 0 (by decide) (by simpa using hf)
   rw[h3]at h0
   have hb:bZ false=0:=rfl
   rw[if_neg (by omega)];simp
 |m+1,f,g,k,hc,hz,hl=>by
  have hN:=pow_two m
  have k1:=xm1 (fv9 hc) (n08 hz) (fun x hx=>by
   unfold fstG
   rw[if_pos ⟨hl x (by omega),hl _ (by omega)⟩]
   have:=es3 (g x) (g (2^m+x))
   unfold bit at this;omega)
  cases h1:rdP free m (fstG (2^m) g) k with
  |none=>exact absurd h1 k1
  |some p=>
   obtain⟨a,s⟩:=p
   obtain⟨_,p2⟩:=bi0 (fv9 hc) (n08 hz) h1
   have hb:=z07 hc p2
   have k2:=xm1 (nr8 hc p2) (rv2 hz) (fun x hx=>by
    unfold sndG
    rw[if_pos (hl x (by omega))]
    have:=es3 (g x) (s x)
    unfold bit at this;omega)
   rw[rdP,h1]
   simp only[]
   rw[if_neg (by rw[hb];decide)]
   cases h2:rdP free m (sndG (2^m) g s) (k+2^m)with
   |none=>exact absurd h2 k2
   |some q=>simp
set_option maxHeartbeats 4000000
def sumS(m:Nat):Int:=((2^m*2^2^m/2:Nat):Int)
theorem r67:((List.range 6).all fun m=>decide ((losI m).sum=sumS m))=true:=by kernel_rfl
theorem jp3{m:Nat}(hm:m≤5):(losI m).sum=sumS m:=of_decide_eq_true (List.all_eq_true.1 r67 m (List.mem_range.2 (by omega)))
theorem bm1{l:List Int}(h: ∀v∈l,0≤v∧v≤4294967296): ∀i,0≤(l.take i).sum∧(l.take i).sum≤(i:Int)*4294967296
 |0=>by simp
 |i+1=>by
  have ih:=bm1 h i
  rw[List.take_add_one,List.sum_append]
  cases hx:l[i]? with
  |none=>
   rw[Option.toList_none,List.sum_nil];omega
  |some x=>
   have:=h x (List.mem_of_getElem? hx)
   rw[Option.toList_some,List.sum_cons,List.sum_nil];omega
theorem dd0{m:Nat}(hm:m≤5): ∀v∈losI m,0≤v∧v≤4294967296:=fun v hv=>by
 have h1:=qm2 m v hv
 have h32:=pw32 hm
 have h2:2^2^m≤2^32:=Nat.pow_le_pow_right (by decide) h32.2
 have e:(2:Nat)^32=4294967296:=by decide
 omega
def plX(N:Nat)(ls:List Int)(i:Nat):Nat:=(pkI (gi ls (i:Int)) (N:Int)).toNat
def hitX(less:Int)(i:Nat):Bool:=decide (0<pkI (IntKind.wrap .i64 (less+(i:Int))) 3)
def lbF(N:Nat)(W:Nat→Int)(ls:List Int):Nat→Nat→Int
 |0,x=>W x
 |i+1,x=>if x=plX N ls i then-1 else lbF N W ls i x
def lfF(N:Nat)(W:Nat→Int)(ls:List Int)(less:Int):Nat→Nat→Int
 |0,x=>W x
 |i+1,x=>if hitX less i=true∧x=plX N ls i then-1 else lfF N W ls less i x
section
variable {N:Nat} {W:Nat→Int} {ls:List Int} {less:Int}
theorem l14(x:Nat): ∀i,lbF N W ls i x=W x∨lbF N W ls i x= -1
 |0=> .inl rfl
 |i+1=>by
  rw[lbF]
  split
  ·exact .inr rfl
  ·exact l14 x i
theorem wp5(x:Nat): ∀i,lfF N W ls less i x=W x∨lfF N W ls less i x= -1
 |0=> .inl rfl
 |i+1=>by
  rw[lfF]
  split
  ·exact .inr rfl
  ·exact wp5 x i
theorem fc1(x:Nat): ∀i,0≤lbF N W ls i x→0≤lfF N W ls less i x
 |0,h=>h
 |i+1,h=>by
  rw[lbF]at h
  rw[lfF]
  split at h
  ·omega
  ·rename_i hx
   rw[if_neg fun y=>hx y.2]
   exact fc1 x i h
end
theorem sh3{M:Nat}(hM:M≤5):IntKind.wrap .u64 (1*2^min M (IntKind.bits .u64))=((2^M:Nat):Int)∧IntKind.wrap .i64 (((2^M:Nat):Int)*2^min (2^M) (IntKind.bits .i64))=sumS M*2∧0≤sumS M∧sumS M≤68719476736:=by
 have h:M=0∨M=1∨M=2∨M=3∨M=4∨M=5:=by omega
 rcases h with rfl|rfl|rfl|rfl|rfl|rfl<;>decide
section
variable {raw ls:List Int} {b b':Bool} {nl nl':Nat}
theorem wy9{L:List Int}(hL:L.length≤32)(hv: ∀v∈L,0≤v∧v≤4294967296){n11:Nat}{m k less:Int}: ∀(d i:Nat),i+d=L.length→ ∀ks,
 vgoL W ⟨hNo,[.tmp 10],0⟩ [0,1,2,3,4,11,13,14] c11L0 (.blk 0 [0,1,2,3,4,13]::ks) [(0, .fz b (.sl nl 0 1 (ivs raw))),(1, .x (.int .i64 m)),(2, .x (.int .i64 k)),(3, .fz b' (.sl nl' 0 1 (ivs ls))),(4, .x (.int .i64 less)),(11, .own 0 []),(13, .x (.int .i64 (L.take i).sum)),(14, .x (.int .i64 i))] [.sl n11 3 1 (ivs L)]=
  vgo W ⟨hNo,[.tmp 10],0⟩ ks (VFr.of [(0, .fz b (.sl nl 0 1 (ivs raw))),(1, .x (.int .i64 m)),(2, .x (.int .i64 k)),(3, .fz b' (.sl nl' 0 1 (ivs ls))),(4, .x (.int .i64 less)),(13, .x (.int .i64 L.sum))]) [.sl n11 3 1 (ivs L)]
 |0,i,hi,ks=>by
  rw[List.take_of_length_le (show L.length≤i by omega),sb5 c11L0.eq_def]
  simp(disch:=first|omega|fail) only[push_cast,seval,vrl,if_pos,if_neg]
 |d+1,i,hi,ks=>by
  obtain⟨x,hx⟩:=ge6 (l:=L) (i:=i) (by omega)
  have ih:=wy9 hL hv (n11:=n11) (m:=m) (k:=k) (less:=less) d (i+1) (by omega) ks
  have g1:gi L (i:Int)=x:=by unfold gi;rw[Int.toNat_natCast,List.getD_eq_getElem?_getD,hx];rfl
  have hxi:=hv x (List.mem_of_getElem? hx)
  have hsi:=bm1 hv i
  have hst:(L.take (i+1)).sum=(L.take i).sum+x:=by rw[c13 hx,List.sum_append,List.sum_cons,List.sum_nil,Int.add_zero]
  rw[hst,Int.natCast_add i,Int.natCast_one]at ih
  generalize (L.take i).sum=S at*
  rw[←ih,sb5 c11L0.eq_def]
  simp(disch:=first|omega|fail) only[push_cast,seval,vrl,if_pos,if_neg,g1]
theorem yg8{N:Nat}(hN0:1≤N)(hN:N≤32){U:Nat→Int}(hls:ls.length≤9223372036854775807)(hlv: ∀v∈ls,-9223372036854775808≤v∧v≤9223372036854775807){n15:Nat}{A:List Int}{m k less:Int}: ∀(d i:Nat),i+d=ls.length→ ∀ks,
 vgoL W ⟨hNo,[.tmp 10],0⟩ [1,2,3,4,15,16,17,18,19] c11L1 (.blk 2 [1,2,15,16,17,18]::ks) [(1, .x (.int .i64 m)),(2, .x (.int .i64 k)),(3, .fz b' (.sl nl' 0 1 (ivs ls))),(4, .x (.int .i64 less)),(15, .own 0 []),(16, .own 1 []),(17, .own 2 []),(18, .own 3 []),(19, .x (.int .i64 i))] [.sl n15 3 1 (ivs A), .sl 0 3 1 (ivs (tb N U)), .sl 0 3 1 (ivs (tb N (lbF N U ls i))), .sl 0 3 1 (ivs (tb N (lfF N U ls less i)))]=
  vgo W ⟨hNo,[.tmp 10],0⟩ ks (VFr.of [(1, .x (.int .i64 m)),(2, .x (.int .i64 k)),(15, .own 0 []),(16, .own 1 []),(17, .own 2 []),(18, .own 3 [])]) [.sl n15 3 1 (ivs A), .sl 0 3 1 (ivs (tb N U)), .sl 0 3 1 (ivs (tb N (lbF N U ls ls.length))), .sl 0 3 1 (ivs (tb N (lfF N U ls less ls.length)))]
 |0,i,hi,ks=>by
  obtain rfl:i=ls.length:=by omega
  rw[sb5 c11L1.eq_def]
  simp(disch:=first|omega|fail) only[push_cast,seval,vrl,if_pos,if_neg]
 |d+1,i,hi,ks=>by
  obtain⟨v,hv⟩:=ge6 (l:=ls) (i:=i) (by omega)
  have ih:=yg8 hN0 hN (U:=U) hls hlv (n15:=n15) (A:=A) (m:=m) (k:=k) (less:=less) d (i+1) (by omega) ks
  have g1:gi ls (i:Int)=v:=by unfold gi;rw[Int.toNat_natCast,List.getD_eq_getElem?_getD,hv];rfl
  have hvi:=hlv v (List.mem_of_getElem? hv)
  have e1:=s88 (n:=(N:Int)) hvi.1 hvi.2 (by omega)
  have hp:=h59 (a:=v) (n:=(N:Int)) (by omega)
  obtain⟨Q,hQ⟩: ∃Q:Nat,pkI v (N:Int)=Q:=⟨_,(Int.toNat_of_nonneg hp.1).symm⟩
  have hpl:plX N ls i=Q:=by unfold plX;rw[g1,hQ,Int.toNat_natCast]
  rw[hQ]at e1 hp
  have hwr:=ti9 (less+(i:Int))
  have e2:=s88 (n:=3) hwr.1 hwr.2 (by omega)
  have hwl:=mh1 N U
  have hbl:=mh1 N (lbF N U ls i)
  have hfl:=mh1 N (lfF N U ls less i)
  have hsb:=s95 (n:=N) (i:=Q) (f:=lbF N U ls i) (g:=lbF N U ls (i+1)) (v:= -1) (by rw[lbF,hpl,if_pos rfl]) fun x _ hx=>by rw[lbF,hpl,if_neg hx]
  rw[←hsb,Int.natCast_add i,Int.natCast_one]at ih
  by_cases hh:0<pkI (IntKind.wrap .i64 (less+(i:Int))) 3
  ·have hht:hitX less i=true:=decide_eq_true hh
   have hsf:=s95 (n:=N) (i:=Q) (f:=lfF N U ls less i) (g:=lfF N U ls less (i+1)) (v:= -1) (by rw[lfF,hpl,if_pos ⟨hht,rfl⟩]) fun x _ hx=>by rw[lfF,hpl,if_neg fun y=>hx y.2]
   rw[←hsf]at ih
   generalize tb N (lbF N U ls i)=B at*
   generalize tb N (lfF N U ls less i)=F at*
   generalize tb N U=W' at*
   rw[←ih,sb5 c11L1.eq_def]
   simp(disch:=first|omega|fail) only[push_cast,seval,vrl,if_pos,if_neg,g1,e1,e2,hwl,hbl,hfl]
  ·have hsf:tb N (lfF N U ls less (i+1))=tb N (lfF N U ls less i):=y54 fun x _=>by rw[lfF,if_neg fun y=>hh (of_decide_eq_true y.1)]
   rw[hsf]at ih
   generalize tb N (lbF N U ls i)=B at*
   generalize tb N (lfF N U ls less i)=F at*
   generalize tb N U=W' at*
   rw[←ih,sb5 c11L1.eq_def]
   simp(disch:=first|omega|fail) only[push_cast,seval,vrl,if_pos,if_neg,g1,e1,e2,hwl,hbl,hfl]
end
end Go.Proofs.Ytodbgomfeacdhaa
