/-
  What syndromeref's F.Mul, Neg, Add and Sub compute, as the table's numbers. Conditions: a field of the table. What syndromeref's F.Add and F.Sub compute. Conditions: a field of the table. What syndromeref's F.Inv, Pow, Log and Frob compute. Conditions: a field of the table. What syndromeref's F.Log, Frob, Trace, Norm and Within compute. Conditions: a field of the table. What syndromeref's F.Within ..
-/
import Derived.Test.YtlhmdmedagjmnaaKFM0
import Derived.Test.YtlhmdmedagjmnaaKFM1
import Derived.Test.YtlhmdmedagjmnaaKFM2
import Derived.Test.YtlhmdmedagjmnaaKFM3
import Derived.Test.YtlhmdmedagjmnaaKFM4
import Derived.Test.YtlhmdmedagjmnaaK4
import Derived.WalkKit
import Derived.Test.YtlhmdmedagjmnaaKCode
import Derived.Test.YtlhmdmedagjmnaaK1
set_option linter.unusedVariables false
set_option linter.unusedSimpArgs false
set_option linter.unusedSectionVars false
set_option maxRecDepth 100000
namespace Go.Proofs.Ytlhmdmedagjmnaa
open Go.Am
section
variable {h:H} {q p:Int} {m:Nat} {g:Int} {mod:List Int} {om cm:Nat}
end
end Go.Proofs.Ytlhmdmedagjmnaa
namespace Go.Proofs.Ytlhmdmedagjmnaa
open Go.Am
section
variable {h:H} {q p:Int} {m:Nat} {g:Int} {mod:List Int} {om cm:Nat}
end
end Go.Proofs.Ytlhmdmedagjmnaa
namespace Go.Proofs.Ytlhmdmedagjmnaa
open Go.Am
section
variable {q p g:Int} {m:Nat} {mod:List Int}
theorem zd3(t:Tabs q g)(hq:2≤q)(i:Int):1≤fexp q (i%(q-1))∧fexp q (i%(q-1))<q∧flog q (fexp q (i%(q-1)))=i%(q-1):=
 t.er _ (Int.emod_nonneg _ (by omega)) (Int.emod_lt_of_pos _ (by omega))
end
section
variable {h:H} {q p:Int} {m:Nat} {g:Int} {mod:List Int} {om cm:Nat}
end
end Go.Proofs.Ytlhmdmedagjmnaa
namespace Go.Proofs.Ytlhmdmedagjmnaa
open Go.Am
section
variable {h:H} {q p:Int} {m:Nat} {g:Int} {mod:List Int} {om cm:Nat}
end
end Go.Proofs.Ytlhmdmedagjmnaa
namespace Go.Proofs.Ytlhmdmedagjmnaa
open Go.Am
section
variable {h:H} {q p:Int} {m:Nat} {g:Int} {mod:List Int} {om cm:Nat}
end
end Go.Proofs.Ytlhmdmedagjmnaa
namespace Go.Proofs.Ytlhmdmedagjmnaa
open Go.Am
section
variable {h:H} {F:Nat} {q p:Int} {m:Nat} {g:Int} {mod:List Int} {E L om fm cm:Nat}
end
section
variable {h:H} {q p:Int} {m:Nat} {g:Int} {mod:List Int} {om cm:Nat}
end
end Go.Proofs.Ytlhmdmedagjmnaa
namespace Go.Proofs.Ytlhmdmedagjmnaa
open Go.Am
section
variable {h:H} {F F':Nat} {q p:Int} {m:Nat} {g:Int} {mod:List Int} {E L om fm cm:Nat} {s p':Int} {m':Nat} {g':Int} {mod':List Int} {E' L' om' fm' cm':Nat}
end
end Go.Proofs.Ytlhmdmedagjmnaa
namespace Go.Proofs.Ytlhmdmedagjmnaa
open Go.Am Go.Vm
section
variable {h:H} {F:Nat} {q p:Int} {m:Nat} {g:Int} {mod:List Int} {E L om fm cm:Nat}
end
theorem re9{h h':H}{Z Zp:Nat→Prop}{s':Option Addr}{c':Nat}{zs:List Int}(i:Inv h [] Z Zp)(p:h<+:h')(g:Grown h' s' c' zs h.length): ∃a:AT,Post h [] Zp 0 (.own 0 [],[.sl (nlT zs) 3 1 (ivs zs)],[]) (.slice s' zs.length c') h' [] [a] Z Zp:=by
 obtain⟨a,a1,a2,a3,a4⟩:=pr1 (Z:=Zp) g
 have hnew: ∀o∈a.fp,h.length≤o∧o<h'.length:=fun o ho=>by
  rcases a3 with a3|⟨x,a3,a5⟩
  ·rw[a3]at ho;cases ho
  ·rw[a3]at ho
   rw[List.mem_singleton.1 ho];exact a5
 have hfp:fpL ([]++[a])=a.fp:=by simp[fpL]
 refine⟨a,⟨?_,rfl,⟨by rw[List.nil_append,okL,okL];exact⟨a4,trivial⟩,fun x=> ?_,fun o ho=> ?_,fun o ho hz=> ?_,fun o ho=> ?_,i.zp⟩,⟨p.length_le,fun o ho _=>cb1 p ho,fun o ho=> .inr ?_,fun o ho=>ho,fun o ho=> .inl ho⟩, ?_,rfl,fun i a k h1=>by simp at h1⟩⟩
 ·rw[List.map_cons,List.map_nil,a2]
 ·rw[hfp]
  rcases a3 with a3|⟨x,a3,a5⟩
  ·rw[a3];simp
  ·rw[a3,List.count_singleton];split<;>omega
 ·rw[hfp]at ho;exact(hnew o ho).2
 ·rw[hfp]at ho;have:=i.zlt o hz;have:=hnew o ho;omega
 ·have:=i.zlt o ho;have:=p.length_le;omega
 ·rw[hfp]at ho;exact(hnew o ho).1
 ·rw[Vm.VR]
  refine⟨by simp,fun b hb _=> ?_⟩
  have hb:some a=some b:=hb
  cases hb
  exact a1
end Go.Proofs.Ytlhmdmedagjmnaa
namespace Go.Proofs.Ytlhmdmedagjmnaa
theorem i62{α:Type}{l:List α}{i:Nat}{x:α}(h:l[i]? =some x):l.drop i=x::l.drop (i+1):=by
 obtain⟨hi,he⟩:=List.getElem?_eq_some_iff.1 h
 rw[List.drop_eq_getElem_cons hi,he]
theorem oh9{α:Type}{l:List α}{i:Nat}(h:l.length≤i):l.drop i=[]:=List.drop_eq_nil_of_le h
theorem ge6{α:Type}{l:List α}{i:Nat}(h:i<l.length): ∃x,l[i]? =some x:=⟨_,List.getElem?_eq_getElem h⟩
end Go.Proofs.Ytlhmdmedagjmnaa
namespace Go.Proofs.Ytlhmdmedagjmnaa
open Go.Am
@[push_cast] theorem py6{α:Type}{h:H}{r:Option α}:behind true h h r=r:=zy6 (List.prefix_refl h)
section
variable {h:H} {sa:Option Addr} {c:Nat} {l:List Int}
end
end Go.Proofs.Ytlhmdmedagjmnaa
namespace Go.Proofs.Ytlhmdmedagjmnaa
open Go.Am
section
variable {h0:H} {sr:Option Addr} {cr:Nat} {raw:List Int}
end
end Go.Proofs.Ytlhmdmedagjmnaa
namespace Go.Proofs.Ytlhmdmedagjmnaa
open Go.Am
section
variable {h:H} {sa:Option Addr} {C:Nat} {cs:List (List Int)}
end
end Go.Proofs.Ytlhmdmedagjmnaa
namespace Go.Proofs.Ytlhmdmedagjmnaa
open Go.Am
section
variable {h:H}
end
section
variable {hF:H} {q:Int}
end
end Go.Proofs.Ytlhmdmedagjmnaa
namespace Go.Proofs.Ytlhmdmedagjmnaa
open Go.Am
def vary(f:List Int×List Int→Option (List Int×List Int))(q:Int)(at':Nat):Nat→Int→List Int×List Int→Option (List Int×List Int)
 |0,v,s=>if v<q then none else some s
 |j+1,v,s=>if v<q then match f (s.1.set at' v,s.2)with
  |none=>none
  |some s'=>vary f q at' j (v+1) s'
  else some s
def ny7(q n:Int):Nat→Int→Int→List Int×List Int→Option (List Int×List Int)
 |0,_,p,s=>if 1≤p∧p≤n∧s.2.length≤5000∧s.1.length=(n+1).toNat then
   (if n.tmod p=0 then some (s.1,s.2++(s.1.drop 1).take p.toNat)else some s)else none
 |k+1,a,p,s=>if 1≤p∧p≤a∧s.1.length=(n+1).toNat then
   match ny7 q n k (a+1) p (s.1.set a.toNat (gi s.1 (a-p)),s.2)with
   |none=>none
   |some s'=>if s'.1.length=(n+1).toNat∧0≤gi s'.1 (a-p)∧gi s'.1 (a-p)≤100 then
     vary (ny7 q n k (a+1) a) q a.toNat 11 (gi s'.1 (a-p)+1) s' else none
  else none
def xn7(q n:Int):Option (List Int):=match ny7 q n n.toNat 1 1 (List.replicate (n+1).toNat 0,[])with
 |some s=>some s.2
 |none=>none
def h81(q:Int):Nat→Int→Int×Int
 |0,all=>(all,0)
 |k+1,all=>if 1024<all*q then(0,4)else h81 q k (all*q)
def gz3(q n:Int):Int×Int:=if q<2∨10<q∨n<1 then(0,6)else h81 q n.toNat 1
structure RS (h0:H) (q n:Int) (w out:List Int) (g:H):Prop where
 pre:h0<+:g
 qb:g.row h0.length=some ⟨[.int .i64 q],3,0,true⟩
 nb:g.row (h0.length+1)=some ⟨[.int .i64 n],3,0,true⟩
 wa:g.row (h0.length+3)=some ⟨ints w,3,1,true⟩
 wb:g.row (h0.length+4)=some ⟨[.slice (some ⟨h0.length+3,0,none⟩) (n+1).toNat (n+1).toNat],34,0,true⟩
 gb:g.row (h0.length+5)=some ⟨[.func (.func 80) #[] #[.pointer (some ⟨h0.length+1,0,none⟩), .pointer (some ⟨h0.length+2,0,none⟩), .pointer (some ⟨h0.length+4,0,none⟩), .pointer (some ⟨h0.length+5,0,none⟩), .pointer (some ⟨h0.length,0,none⟩)]],108,0,true⟩
 ob: ∃sa,g.row (h0.length+2)=some ⟨[.slice sa out.length out.length],34,0,true⟩∧Grown g sa out.length out (h0.length+6)
theorem RS.len{h0:H}{q n:Int}{w out:List Int}{g:H}(hs:RS h0 q n w out g):h0.length+6≤g.length:=by
 have:=h42 hs.gb;omega
theorem RS.put{h0:H}{q n:Int}{w out:List Int}{g:H}(hs:RS h0 q n w out g){i:Nat}{v:Int}:RS h0 q n (w.set i v) out (g.set (h0.length+3) (.row ⟨ints (w.set i v),3,1,true⟩)):=by
 have hl:=hs.len
 obtain⟨sa,h1,h2⟩:=hs.ob
 exact{
  pre:=wc4 hs.pre (by omega)
  qb:=by rw[jl1 (by omega)];exact hs.qb
  nb:=by rw[jl1 (by omega)];exact hs.nb
  wa:=tr3 (by omega)
  wb:=by rw[jl1 (by omega)];exact hs.wb
  gb:=by rw[jl1 (by omega)];exact hs.gb
  ob:=⟨sa,by rw[jl1 (by omega)];exact h1,h2.carry (fun o ho _=>jl1 (by omega))⟩}
abbrev lb1(h0:H)(q n:Int)(a p:Int)(g:H)(s':List Int×List Int):Prop:=
 ∃g',call T 80 [.int .i64 a, .int .i64 p, .pointer (some ⟨h0.length+1,0,none⟩), .pointer (some ⟨h0.length+2,0,none⟩), .pointer (some ⟨h0.length+4,0,none⟩), .pointer (some ⟨h0.length+5,0,none⟩), .pointer (some ⟨h0.length,0,none⟩)] g=some (.tuple #[],g')∧RS h0 q n s'.1 s'.2 g'
theorem qq4(h0:H)(q n a:Int)(hq:q≤10)(hn:n≤10)(ha:1≤a)(han:a≤n)(f:List Int×List Int→Option (List Int×List Int))
 (ih: ∀w out g s',RS h0 q n w out g→f (w,out)=some s'→lb1 h0 q n (a+1) a g s')
 (hf: ∀s s',f s=some s'→s.1.length=(n+1).toNat): ∀(j:Nat) (v:Int) (w out:List Int) (g:H) (s':List Int×List Int),0≤v→v≤200→RS h0 q n w out g→vary f q a.toNat j v (w,out)=some s'→
 ∃g',goL T [] [0,4,5,6,9] c80L0 [.blk 0 []] [(0, .int .i64 a),(4, .pointer (some ⟨h0.length+4,0,none⟩)),(5, .pointer (some ⟨h0.length+5,0,none⟩)),(6, .pointer (some ⟨h0.length,0,none⟩)),(9, .int .i64 v)] g=some (.tuple #[],g')∧RS h0 q n s'.1 s'.2 g'
 |0,v,w,out,g,s',hv,hv2,hs,he=>by
  unfold vary at he
  by_cases hvq:v<q
  ·rw[if_pos hvq]at he;cases he
  rw[if_neg hvq]at he
  cases he
  refine⟨g, ?_,hs⟩
  rw[ur1 c80L0.eq_def]
  have e1:=ng1 hs.qb 0
  simp(disch:=first|omega|(simp only[Go.Am.rl9,Go.Am.wi2,Go.Am.q89]<;>omega)|fail) only[push_cast,seval,e1,cw6]
 |j+1,v,w,out,g,s',hv,hv2,hs,he=>by
  unfold vary at he
  have e1:=ng1 hs.qb 0
  by_cases hvq:v<q
  ·rw[if_pos hvq]at he
   cases hf':f (w.set a.toNat v,out)with
   |none=>simp only[hf']at he;cases he
   |some s1=>
    simp only[hf']at he
    have hw:w.length=(n+1).toNat:=by have:=hf _ _ hf';simpa using this
    obtain⟨g1,hc,hs1⟩:=ih _ _ _ _ (hs.put (i:=a.toNat) (v:=v)) hf'
    obtain⟨g2,hl,hs2⟩:=qq4 h0 q n a hq hn ha han f ih hf j (v+1) s1.1 s1.2 g1 s' (by omega) (by omega) hs1 he
    refine⟨g2, ?_,hs2⟩
    rw[ur1 c80L0.eq_def]
    have e2:=ng1 hs.wb 0
    have e3:=ng1 (hs.put (i:=a.toNat) (v:=v)).gb 0
    have e4:=l45 (v:=v) hs.wa (i:=a) (by omega) (by omega)
    have hi:0≤a∧a<((n+1).toNat:Int):=by omega
    simp(disch:=first|omega|(simp only[Go.Am.rl9,Go.Am.wi2,Go.Am.q89]<;>omega)|fail) only[push_cast,seval,e1,e2,dec_lt,hi,e4,e3,wrap64,hc]
    exact hl
  ·rw[if_neg hvq]at he
   cases he
   refine⟨g, ?_,hs⟩
   rw[ur1 c80L0.eq_def]
   simp(disch:=first|omega|(simp only[Go.Am.rl9,Go.Am.wi2,Go.Am.q89]<;>omega)|fail) only[push_cast,seval,e1,cw6]
theorem q80{q n:Int}{k:Nat}{a p:Int}{s s':List Int×List Int}(h:ny7 q n k a p s=some s'):s.1.length=(n+1).toNat:=by
 cases k with
 |zero=>
  unfold ny7 at h
  split at h
  ·rename_i hc;exact hc.2.2.2
  ·cases h
 |succ k=>
  unfold ny7 at h
  split at h
  ·rename_i hc;exact hc.2.2
  ·cases h
theorem k21(h0:H)(q n:Int)(hq:q≤10)(hn:n≤10)(hn1:1≤n): ∀(k:Nat) (a p:Int) (w out:List Int) (g:H) (s':List Int×List Int),n+1=a+k→RS h0 q n w out g→ny7 q n k a p (w,out)=some s'→lb1 h0 q n a p g s'
 |0,a,p,w,out,g,s',hk,hs,he=>by
  unfold ny7 at he
  have hc:1≤p∧p≤n∧out.length≤5000∧w.length=(n+1).toNat:=by
   by_cases hc:1≤p∧p≤n∧out.length≤5000∧w.length=(n+1).toNat
   ·exact hc
   ·simp only[]at he;rw[if_neg hc]at he;cases he
  simp only[]at he
  rw[if_pos hc]at he
  obtain⟨hc1,hc2,hc3,hc4⟩:=hc
  unfold lb1
  rw[wn8 T80 rfl]
  unfold F80 c80
  have e1:=ng1 hs.nb 0
  have e2:=ng1 hs.wb 0
  obtain⟨sa,hob,hgr⟩:=hs.ob
  have e3:=ng1 hob 0
  have hp0: ¬p=0:=by omega
  by_cases hm:n.tmod p=0
  ·rw[if_pos hm]at he
   cases he
   have hys:((w.drop 1).take p.toNat).length=p.toNat:=by simp;omega
   obtain⟨sa',g',ha,hgr',hgl,hkeep,hpre⟩:=hgr.app (x:= .slice (some ⟨h0.length+3,1,none⟩) p.toNat n.toNat) ⟨_,_,_,rfl,hys.symm⟩ (by
    unfold b38
    simp only[hys]
    rw[if_neg (by omega),if_pos (Nat.le_refl _)]
    simp only[cv9,if_true,Nat.mul_one]
    exact nz1 hs.wa (by omega)) (by intro e;rw[e]at hys;simp at hys;omega) (by rw[hys];omega) hs.len
   have hl:=hs.len
   have hob':g'.row (h0.length+2)=some ⟨[.slice sa out.length out.length],34,0,true⟩:=by rw[hkeep _ (by omega)];exact hob
   have e5:=xp9 (v':= .slice sa' (out++(w.drop 1).take p.toNat).length (out++(w.drop 1).take p.toNat).length) hob'
   refine⟨g'.set (h0.length+2) (.row ⟨[.slice sa' (out++(w.drop 1).take p.toNat).length (out++(w.drop 1).take p.toNat).length],34,0,true⟩), ?_, ?_⟩
   ·have hcap: ¬(((n+1).toNat:Int)=1):=by omega
    have hsl:(0:Int)≤1∧1≤p+1∧p+1≤((n+1).toNat:Int)∧ss4 g 1 (some ⟨h0.length+3,0,none⟩)=true:=⟨by omega,by omega,by omega,by unfold ss4;simp only[hs.wa];rfl⟩
    have z1:(p+1-1).toNat=p.toNat:=by omega
    have z2:(((n+1).toNat:Int)-1).toNat=n.toNat:=by omega
    simp(disch:=first|omega|(simp only[Go.Am.rl9,Go.Am.wi2,Go.Am.q89]<;>omega)|fail) only[push_cast,seval,e1,e2,e3,dec_lt,wrap64,mr8 hm,hp0,hsl,hcap,z1,z2,ha,e5]
   ·exact{
     pre:=wc4 (hpre _ (by omega) hs.pre) (by omega)
     qb:=by rw[jl1 (by omega),hkeep _ (by omega)];exact hs.qb
     nb:=by rw[jl1 (by omega),hkeep _ (by omega)];exact hs.nb
     wa:=by rw[jl1 (by omega),hkeep _ (by omega)];exact hs.wa
     wb:=by rw[jl1 (by omega),hkeep _ (by omega)];exact hs.wb
     gb:=by rw[jl1 (by omega),hkeep _ (by omega)];exact hs.gb
     ob:=⟨sa',tr3 (by omega),hgr'.carry (fun o ho _=>jl1 (by omega))⟩}
  ·rw[if_neg hm]at he
   cases he
   refine⟨g, ?_,hs⟩
   simp(disch:=first|omega|(simp only[Go.Am.rl9,Go.Am.wi2,Go.Am.q89]<;>omega)|fail) only[push_cast,seval,e1,e2,e3,dec_lt,nb8 hm,hp0]
 |k+1,a,p,w,out,g,s',hk,hs,he=>by
  unfold ny7 at he
  simp only[]at he
  have hc:1≤p∧p≤a∧w.length=(n+1).toNat:=by
   by_cases hc:1≤p∧p≤a∧w.length=(n+1).toNat
   ·exact hc
   ·rw[if_neg hc]at he;cases he
  rw[if_pos hc]at he
  obtain⟨hc1,hc2,hc3⟩:=hc
  cases hg1:ny7 q n k (a+1) p (w.set a.toNat (gi w (a-p)),out)with
  |none=>simp only[hg1]at he;cases he
  |some s1=>
   simp only[hg1]at he
   have hd:s1.1.length=(n+1).toNat∧0≤gi s1.1 (a-p)∧gi s1.1 (a-p)≤100:=by
    by_cases hd:s1.1.length=(n+1).toNat∧0≤gi s1.1 (a-p)∧gi s1.1 (a-p)≤100
    ·exact hd
    ·rw[if_neg hd]at he;cases he
   rw[if_pos hd]at he
   obtain⟨hd1,hd2,hd3⟩:=hd
   obtain⟨g1,hcall,hs1⟩:=k21 h0 q n hq hn hn1 k (a+1) p _ _ _ _ (by omega) (hs.put (i:=a.toNat) (v:=gi w (a-p))) hg1
   obtain⟨g2,hloop,hs2⟩:=qq4 h0 q n a hq hn (by omega) (by omega) (ny7 q n k (a+1) a)
    (fun w' out' g' s'' hs' he'=>k21 h0 q n hq hn hn1 k (a+1) a w' out' g' s'' (by omega) hs' he') (fun s s'' h'=>q80 h') 11 (gi s1.1 (a-p)+1) s1.1 s1.2 g1 s' (by omega) (by omega) hs1 he
   refine⟨g2, ?_,hs2⟩
   rw[wn8 T80 rfl]
   unfold F80 c80
   have e1:=ng1 hs.nb 0
   have e2:=ng1 hs.wb 0
   have e3:=ng1 (hs.put (i:=a.toNat) (v:=gi w (a-p))).gb 0
   have e4:=l45 (v:=gi w (a-p)) hs.wa (i:=a) (by omega) (by omega)
   have e5:=i59 hs.wa (i:=a-p) (by omega) (by omega)
   have e6:=ng1 hs1.wb 0
   have e7:=i59 hs1.wa (i:=a-p) (by omega) (by omega)
   have hi:0≤a∧a<((n+1).toNat:Int):=by omega
   have hi2:0≤a-p∧a-p<((n+1).toNat:Int):=by omega
   simp(disch:=first|omega|(simp only[Go.Am.rl9,Go.Am.wi2,Go.Am.q89]<;>omega)|fail) only[push_cast,seval,e1,e2,e3,cw6,wrap64,hi,hi2,e4,e5,hcall,e6,e7]
   exact hloop
theorem ry1(h g:H)(q n:Int)(ks:List It)(hq:2≤q)(hq2:q≤10)(hn:n≤9223372036854775807)(e1:g.ld1 h.length 0=some (.int .i64 q)): ∀(k:Nat) (i all:Int),n=i+k→0≤i→1≤all→all≤1024→
 goL T [.tmp 4, .tmp 5] [2,3,6,20,21] c38L0 (.blk 0 [2,3]::ks) [(2, .pointer (some ⟨h.length,0,none⟩)),(3, .pointer (some ⟨h.length+1,0,none⟩)),(6, .int .i64 all),(20, .int .i64 n),(21, .int .i64 i)] g=
  if(h81 q k all).2=0 then go T [.tmp 4, .tmp 5] ks (Fr.of [(2, .pointer (some ⟨h.length,0,none⟩)),(3, .pointer (some ⟨h.length+1,0,none⟩))]) g else some (.tuple #[.slice none 0 0, .int .i64 4],g)
 |0,i,all,hk,h0,h1,h2=>by
  rw[ur1 c38L0.eq_def]
  simp(disch:=first|omega|(simp only[Go.Am.rl9,Go.Am.wi2,Go.Am.q89]<;>omega)|fail) only[push_cast,seval,cw6]
  simp[h81]
 |k+1,i,all,hk,h0,h1,h2=>by
  have hm:all*q≤10240:=by
   have:all*q≤1024*10:=Int.mul_le_mul h2 hq2 (by omega) (by omega)
   omega
  have hm2:1≤all*q:=by
   have:1*1≤all*q:=Int.mul_le_mul h1 (by omega) (by omega) (by omega)
   omega
  rw[ur1 c38L0.eq_def]
  by_cases hb:1024<all*q
  ·simp(disch:=first|omega|(simp only[Go.Am.rl9,Go.Am.wi2,Go.Am.q89]<;>omega)|fail) only[push_cast,seval,dec_lt,wrap64,e1]
   simp[h81,hb]
  ·simp(disch:=first|omega|(simp only[Go.Am.rl9,Go.Am.wi2,Go.Am.q89]<;>omega)|fail) only[push_cast,seval,dec_lt,cw6,wrap64,e1]
   rw[ry1 h g q n ks hq hq2 hn e1 k (i+1) (all*q) (by omega) (by omega) (by omega) (by omega)]
   simp[h81,hb]
theorem mi0(h:H)(q n:Int)(hn:n≤10)(he:(gz3 q n).2=0)(l:List Int)(hl:xn7 q n=some l):
 ∃sa h',call T 38 [.int .i64 q, .int .i64 n] h=some (.tuple #[.slice sa l.length l.length, .int .i64 0],h')∧h<+:h'∧Grown h' sa l.length l h.length:=by
 have hb: ¬(q<2∨10<q∨n<1):=by intro hb;unfold gz3 at he;rw[if_pos hb]at he;simp at he
 have e:gz3 q n=h81 q n.toNat 1:=by unfold gz3;rw[if_neg hb]
 rw[e]at he
 unfold xn7 at hl
 cases hg:ny7 q n n.toNat 1 1 (List.replicate (n+1).toNat 0,[])with
 |none=>rw[hg]at hl;cases hl
 |some s=>
 rw[hg]at hl
 cases hl
 have hst:RS h q n (List.replicate (n+1).toNat 0) [] (((h++[Ob.row ⟨[.int .i64 q],3,0,true⟩]++[Ob.row ⟨[.int .i64 n],3,0,true⟩]++[Ob.row ⟨[.slice none 0 0],34,0,true⟩]++[Ob.row ⟨ints (List.replicate (n+1).toNat 0),3,1,true⟩]++[Ob.row ⟨[.slice none 0 0],34,0,true⟩]).set (h.length+4) (.row ⟨[.slice (some ⟨h.length+3,0,none⟩) (n+1).toNat (n+1).toNat],34,0,true⟩)++[Ob.row ⟨[.nilFunc],108,0,true⟩]).set (h.length+5) (.row ⟨[.func (.func 80) #[] #[.pointer (some ⟨h.length+1,0,none⟩), .pointer (some ⟨h.length+2,0,none⟩), .pointer (some ⟨h.length+4,0,none⟩), .pointer (some ⟨h.length+5,0,none⟩), .pointer (some ⟨h.length,0,none⟩)]],108,0,true⟩)):={
  pre:=wc4 (ym5 (wc4 (ym5 (ym5 (ym5 (ym5 (ym5 (List.prefix_refl h)))))) (by omega))) (by omega)
  qb:=by simp(disch:=first|omega|(simp only[Go.Am.rl9,Go.Am.wi2,Go.Am.q89]<;>omega)|fail) only[push_cast,seval,jl1,qa0,rr6]
  nb:=by simp(disch:=first|omega|(simp only[Go.Am.rl9,Go.Am.wi2,Go.Am.q89]<;>omega)|fail) only[push_cast,seval,jl1,qa0,rr6]
  wa:=by simp(disch:=first|omega|(simp only[Go.Am.rl9,Go.Am.wi2,Go.Am.q89]<;>omega)|fail) only[push_cast,seval,jl1,qa0,rr6]
  wb:=by simp(disch:=first|omega|(simp only[Go.Am.rl9,Go.Am.wi2,Go.Am.q89]<;>omega)|fail) only[push_cast,seval,jl1,qa0,rr6,nu7]
  gb:=by simp(disch:=first|omega|(simp only[Go.Am.rl9,Go.Am.wi2,Go.Am.q89]<;>omega)|fail) only[push_cast,seval,jl1,qa0,rr6,nu7]
  ob:=⟨none,by simp(disch:=first|omega|(simp only[Go.Am.rl9,Go.Am.wi2,Go.Am.q89]<;>omega)|fail) only[push_cast,seval,jl1,qa0,rr6], .inl ⟨rfl,rfl,rfl⟩⟩}
 obtain⟨g',hcall,hs⟩:=k21 h q n (by omega) hn (by omega) n.toNat 1 1 _ _ _ _ (by omega) hst hg
 obtain⟨sa,hob,hgr⟩:=hs.ob
 refine⟨sa,g', ?_,hs.pre,by
  rcases hgr with hn|⟨o,h1,h2,h3,h4⟩
  ·exact .inl hn
  ·exact .inr ⟨o,h1,by omega,h3,h4⟩⟩
 rw[wn8 T38 rfl]
 unfold F38 c38
 have hmk:0≤n+1∧n+1≤n+1∧n+1≤1099511627776∧(n+1)*8≤140737488355328:=by omega
 have e7:=ng1 hst.gb 0
 have e8:=ng1 hob 0
 simp(disch:=first|omega|(simp only[Go.Am.rl9,Go.Am.wi2,Go.Am.q89]<;>omega)|fail) only[push_cast,seval,dec_lt,cw6,y56,w28,rl9]
 rw[ry1 h _ q n _ (by omega) (by omega) (by omega) (by simp(disch:=first|omega|(simp only[Go.Am.rl9,Go.Am.wi2,Go.Am.q89]<;>omega)|fail) only[push_cast,seval,y56,w28,rl9]) n.toNat 0 1 (by omega) (by omega) (by omega) (by omega)]
 rw[if_pos he]
 simp(disch:=first|omega|(simp only[Go.Am.rl9,Go.Am.wi2,Go.Am.q89]<;>omega)|fail) only[push_cast,seval,y56,w28,rl9,wi2,wrap64,hmk,k78,xp9 (rr6 _),xp9 (e:=34) (u:=0) (h:=_++[_]),rr6,qa0,nu7,jl1,jf1,m25,Nat.add_assoc,hcall,e8]
end Go.Proofs.Ytlhmdmedagjmnaa
namespace Go.Proofs.Ytlhmdmedagjmnaa
open Go.Am Go.Vm
theorem hl3: ∀(k:Nat) (q all:Nat),all*q^k≤1024→1≤q→(h81 q k all).2=0
 |0,q,all,h,hq=>rfl
 |k+1,q,all,h,hq=>by
  rw[Nat.pow_succ',←Nat.mul_assoc]at h
  have h0:all*q*1≤all*q*q^k:=Nat.mul_le_mul_left _ (Nat.pow_pos hq)
  rw[h81,if_neg (by rw[←Int.natCast_mul];omega),←Int.natCast_mul]
  exact hl3 k q (all*q) h hq
def ik4(q n:Int):Prop:=2≤q∧q≤5∧1≤n∧n≤4
theorem ci0{q n:Int}(h:ik4 q n):(gz3 q n).2=0:=by
 obtain⟨h1,h2,h3,h4⟩:=h
 obtain⟨Q,rfl⟩: ∃Q:Nat,q=Q:=⟨q.toNat,by omega⟩
 obtain⟨N,rfl⟩: ∃N:Nat,n=N:=⟨n.toNat,by omega⟩
 unfold gz3
 rw[if_neg (by omega),Int.toNat_natCast]
 have hp:Q^N≤5^N:=Nat.pow_le_pow_left (by omega) N
 have hp2:5^N≤5^4:=Nat.pow_le_pow_right (by decide) (by omega)
 exact hl3 N Q 1 (by omega) (by omega)
open Classical in
noncomputable def sa3:List AV→Rts→Option VRes
 | [.x (.int .i64 q), .x (.int .i64 n)],[]=>if ik4 q n then(match xn7 q n with
   |some l=>some (.tup [.own 0 [], .x (.int .i64 0)],[.sl (nlT l) 3 1 (ivs l)],[])
   |none=>none)else none
 |_,_=>none
theorem is2{q n:Int}{l:List Int}(h:ik4 q n)(hl:xn7 q n=some l):sa3 [.x (.int .i64 q), .x (.int .i64 n)] []=some (.tup [.own 0 [], .x (.int .i64 0)],[.sl (nlT l) 3 1 (ivs l)],[]):=by
 unfold sa3
 simp only[]
 rw[if_pos h,hl]
theorem fg6{xs0:List AV}{C:Rts}{r:VRes}(he:sa3 xs0 C=some r):VOK T 38 xs0 C r:=by
 unfold sa3 at he
 split at he
 ·rename_i q n
  split at he
  ·rename_i hz
   cases hl:xn7 q n with
   |none=>rw[hl]at he;cases he
   |some l=>
    rw[hl]at he
    cases he
    intro h Ac Z Zp ws i hC hv hk
    obtain rfl:Ac=[]:=by cases Ac with
     |nil=>rfl
     |cons=>cases hC
    rw[Vm.VRL]at hv
    obtain⟨w,ws',rfl,k1,k2⟩:=hv
    rw[Vm.VRL]at k2
    obtain⟨w2,ws2,rfl,k3,k4⟩:=k2
    rw[Vm.VRL]at k4
    rw[Vm.VR]at k1
    rw[Vm.VR]at k3
    subst k1 k3 k4
    obtain⟨sa,h',e,p,g⟩:=mi0 h q n (by have:=hz.2.2.2;omega) (ci0 hz) l hl
    obtain⟨a,P⟩:=re9 i p g
    refine⟨_,h',[],[a],Z,Zp,e,⟨P.s,P.k,P.inv,P.ext, ?_,P.len,P.pin⟩⟩
    rw[Vm.VR]
    exact⟨[_,_],rfl, .cons P.v (.cons (by rw[Vm.VR]) .nil)⟩
  ·cases he
 ·cases he
end Go.Proofs.Ytlhmdmedagjmnaa
namespace Go.Alg
class FK (K:Type) extends Zero K,One K,Add K,Mul K,Neg K where
 inv:K→K
 deq:DecidableEq K
 add_assoc: ∀a b c:K,a+b+c=a+(b+c)
 add_comm: ∀a b:K,a+b=b+a
 add_zero: ∀a:K,a+0=a
 add_neg: ∀a:K,a+ -a=0
 mul_assoc: ∀a b c:K,a*b*c=a*(b*c)
 mul_comm: ∀a b:K,a*b=b*a
 mul_one: ∀a:K,a*1=a
 mul_add: ∀a b c:K,a*(b+c)=a*b+a*c
 mul_inv: ∀a:K,a≠0→a*inv a=1
 zero_ne:(0:K)≠1
instance {K:Type} [FK K]:DecidableEq K:=FK.deq
instance {K:Type} [FK K]:Sub K:=⟨fun a b=>a+ -b⟩
section
variable {K:Type} [FK K]
instance :Std.Associative (α:=K) (· + ·):=⟨FK.add_assoc⟩
instance :Std.Commutative (α:=K) (· + ·):=⟨FK.add_comm⟩
instance :Std.Associative (α:=K) (· * ·):=⟨FK.mul_assoc⟩
instance :Std.Commutative (α:=K) (· * ·):=⟨FK.mul_comm⟩
variable {α β:Type}
end
end Go.Alg
