/-
  What syndromeref's F.Mul, Neg, Add and Sub compute, as the table's numbers. Conditions: a field of the table. What syndromeref's F.Add and F.Sub compute. Conditions: a field of the table. What syndrom ..
-/
import Derived.Test.YtodbgomfeacdhaaKFM0
import Derived.Test.YtodbgomfeacdhaaKFM1
import Derived.Test.YtodbgomfeacdhaaKFM2
import Derived.Test.YtodbgomfeacdhaaKFM3
import Derived.Test.YtodbgomfeacdhaaKFM4
import Derived.Test.YtodbgomfeacdhaaK5
import Derived.WalkKit
import Derived.Test.YtodbgomfeacdhaaKCode
import Derived.Test.YtodbgomfeacdhaaK2
set_option linter.unusedVariables false
set_option linter.unusedSimpArgs false
set_option linter.unusedSectionVars false
set_option maxRecDepth 100000
namespace Go.Proofs.Ytodbgomfeacdhaa
open Go.Am
section
variable {h:H} {q p:Int} {m:Nat} {g:Int} {mod:List Int} {om cm:Nat}
end
section
variable {h:H} {q p:Int} {m:Nat} {g:Int} {mod:List Int} {om cm:Nat}
end
section
variable {q p g:Int} {m:Nat} {mod:List Int}
theorem js7(t:Tabs q g){a b:Int}(ha:1≤a∧a<q)(hb:1≤b∧b<q):fmul q a b=fexp q ((flog q a+flog q b)%(q-1)):=by
 rw[fmul,iy2 ⟨by omega,ha.2⟩,iy2 ⟨by omega,hb.2⟩,show(a==0)=false by simp;omega,show(b==0)=false by simp;omega];rfl
theorem zd3(t:Tabs q g)(hq:2≤q)(i:Int):1≤fexp q (i%(q-1))∧fexp q (i%(q-1))<q∧flog q (fexp q (i%(q-1)))=i%(q-1):=
 t.er _ (Int.emod_nonneg _ (by omega)) (Int.emod_lt_of_pos _ (by omega))
theorem aj3(t:Tabs q g){a:Int}(ha:1≤a∧a<q):finv q a=fexp q ((q-1-flog q a)%(q-1)):=by
 rw[finv,iy2 ⟨by omega,ha.2⟩,show(a==0)=false by simp;omega];rfl
theorem ea4(t:Tabs q g)(hq:2≤q){a:Int}(ha:1≤a∧a<q):(1≤finv q a∧finv q a<q)∧fmul q a (finv q a)=1:=by
 have h1:=zd3 t hq (q-1-flog q a)
 rw[←aj3 t ha]at h1
 refine⟨⟨h1.1,h1.2.1⟩, ?_⟩
 rw[js7 t ha ⟨h1.1,h1.2.1⟩,h1.2.2,Int.add_emod_emod,show flog q a+(q-1-flog q a)=q-1 by omega,Int.emod_self]
 exact t.e0
theorem np3(t:Tabs q g)(hq:2≤q)(hg:1≤g∧g<q)(k:Int):fmul q (fexp q (k%(q-1))) g=fexp q ((k+1)%(q-1)):=by
 have h1:=zd3 t hq k
 rw[js7 t ⟨h1.1,h1.2.1⟩ hg,h1.2.2,t.lg,Int.emod_add_emod,Int.add_emod_emod]
end
section
variable {h:H} {q p:Int} {m:Nat} {g:Int} {mod:List Int} {om cm:Nat}
end
section
variable {h:H} {q p:Int} {m:Nat} {g:Int} {mod:List Int} {om cm:Nat}
end
section
variable {h:H} {q p:Int} {m:Nat} {g:Int} {mod:List Int} {om cm:Nat}
end
section
variable {h:H} {F:Nat} {q p:Int} {m:Nat} {g:Int} {mod:List Int} {E L om fm cm:Nat}
end
section
variable {h:H} {q p:Int} {m:Nat} {g:Int} {mod:List Int} {om cm:Nat}
end
section
variable {h:H} {F F':Nat} {q p:Int} {m:Nat} {g:Int} {mod:List Int} {E L om fm cm:Nat} {s p':Int} {m':Nat} {g':Int} {mod':List Int} {E' L' om' fm' cm':Nat}
end
end Go.Proofs.Ytodbgomfeacdhaa
namespace Go.Proofs.Ytodbgomfeacdhaa
open Go.Am Go.Vm
section
variable {h:H} {F:Nat} {q p:Int} {m:Nat} {g:Int} {mod:List Int} {E L om fm cm:Nat}
end
theorem re9{h h':H}{Z Zp:Nat→Prop}{s':Option Addr}{c':Nat}{zs:List Int}(i:Inv h [] Z Zp)(p:h<+:h')(g:Grown h' s' c' zs h.length): ∃a:AT,Post h [] Zp 0 (.own 0 [],[.sl (nlT zs) 3 1 (ivs zs)],[]) (.slice s' zs.length c') h' [] [a] Z Zp:=by
 obtain⟨a,a1,a2,a3,a4⟩:=pr1 (Z:=Zp) g
 have hnew: ∀o∈a.fp,h.length≤o∧o<h'.length:=fun o ho=>by
  rcases a3 with a3|⟨x,a3,a5⟩
  ·rw[a3]at ho;cases ho
  ·rw[a3]at ho
   rw[List.mem_singleton.1 ho];exact a5
 have hfp:fpL ([]++[a])=a.fp:=by simp[fpL]
 refine⟨a,⟨?_,rfl,⟨by rw[List.nil_append,okL,okL];exact⟨a4,trivial⟩,fun x=> ?_,fun o ho=> ?_,fun o ho hz=> ?_,fun o ho=> ?_,i.zp⟩,⟨p.length_le,fun o ho _=>cb1 p ho,fun o ho=> .inr ?_,fun o ho=>ho,fun o ho=> .inl ho⟩, ?_,rfl,fun i a k h1=>by simp at h1⟩⟩
 ·rw[List.map_cons,List.map_nil,a2]
 ·rw[hfp]
  rcases a3 with a3|⟨x,a3,a5⟩
  ·rw[a3];simp
  ·rw[a3,List.count_singleton];split<;>omega
 ·rw[hfp]at ho;exact(hnew o ho).2
 ·rw[hfp]at ho;have:=i.zlt o hz;have:=hnew o ho;omega
 ·have:=i.zlt o ho;have:=p.length_le;omega
 ·rw[hfp]at ho;exact(hnew o ho).1
 ·rw[Vm.VR]
  refine⟨by simp,fun b hb _=> ?_⟩
  have hb:some a=some b:=hb
  cases hb
  exact a1
end Go.Proofs.Ytodbgomfeacdhaa
namespace Go.Proofs.Ytodbgomfeacdhaa
theorem i62{α:Type}{l:List α}{i:Nat}{x:α}(h:l[i]? =some x):l.drop i=x::l.drop (i+1):=by
 obtain⟨hi,he⟩:=List.getElem?_eq_some_iff.1 h
 rw[List.drop_eq_getElem_cons hi,he]
theorem oh9{α:Type}{l:List α}{i:Nat}(h:l.length≤i):l.drop i=[]:=List.drop_eq_nil_of_le h
theorem ge6{α:Type}{l:List α}{i:Nat}(h:i<l.length): ∃x,l[i]? =some x:=⟨_,List.getElem?_eq_getElem h⟩
def xorL{α:Type}(l:List α)(p:α→Bool):Bool:=l.foldr (fun a b=>p a^^b) false
section
variable {α:Type}
theorem rq8(p:α→Bool):xorL [] p=false:=rfl
theorem ti0(a:α)(l:List α)(p:α→Bool):xorL (a::l) p=(p a^^xorL l p):=rfl
theorem vn3(p:α→Bool): ∀l l':List α,xorL (l++l') p=(xorL l p^^xorL l' p)
 | [],l'=>by rw[List.nil_append,rq8,Bool.false_xor]
 |a::l,l'=>by rw[List.cons_append,ti0,ti0,vn3 p l l',Bool.xor_assoc]
theorem lq7(p r:α→Bool): ∀l:List α,xorL l (fun a=>p a^^r a)=(xorL l p^^xorL l r)
 | []=>rfl
 |a::l=>by
  rw[ti0,ti0,ti0,lq7 p r l]
  cases p a<;>cases r a<;>cases xorL l p<;>cases xorL l r<;>rfl
theorem ex0(b:Bool)(p:α→Bool): ∀l:List α,xorL l (fun a=>b&&p a)=(b&&xorL l p)
 | []=>by cases b<;>rfl
 |a::l=>by
  rw[ti0,ti0,ex0 b p l]
  cases b<;>cases p a<;>cases xorL l p<;>rfl
theorem r85{p r:α→Bool}: ∀{l:List α},(∀a∈l,p a=r a)→xorL l p=xorL l r
 | [],_=>rfl
 |a::l,h=>by rw[ti0,ti0,h a (by simp),r85 fun b hb=>h b (by simp[hb])]
theorem gz2{p:α→Bool}{l:List α}(h: ∀a∈l,p a=false):xorL l p=false:=by
 induction l with
 |nil=>rfl
 |cons a l ih=>rw[ti0,h a (by simp),ih fun b hb=>h b (by simp[hb]),Bool.xor_false]
theorem gn6{β:Type}(p:α→β→Bool)(l':List β): ∀l:List α,xorL l (fun a=>xorL l' (p a))=xorL l' (fun b=>xorL l (fun a=>p a b))
 | []=>by rw[rq8];exact(gz2 fun _ _=>rfl).symm
 |a::l=>by rw[ti0,gn6 p l' l,←lq7];rfl
theorem he5{p:α→Bool}{s:α} [DecidableEq α]: ∀{l:List α},l.Nodup→s∈l→(∀a∈l,a≠s→p a=false)→xorL l p=p s
 | [],_,h,_=>by cases h
 |a::l,hn,h,h0=>by
  rw[List.nodup_cons]at hn
  rw[ti0]
  by_cases ha:a=s
  ·subst ha
   rw[gz2 fun b hb=>h0 b (by simp[hb]) fun e=>hn.1 (e▸hb),Bool.xor_false]
  ·rw[h0 a (by simp) ha,Bool.false_xor]
   refine he5 hn.2 ?_ fun b hb=>h0 b (by simp[hb])
   rcases List.mem_cons.1 h with h|h
   ·exact absurd h.symm ha
   ·exact h
theorem cw5{p:α→Bool}{l:List α}(h:xorL l p=true): ∃a∈l,p a=true:=by
 induction l with
 |nil=>cases h
 |cons a l ih=>
  cases hp:p a with
  |true=>exact⟨a,by simp,hp⟩
  |false=>
   rw[ti0,hp,Bool.false_xor]at h
   obtain⟨b,hb,h1⟩:=ih h
   exact⟨b,by simp[hb],h1⟩
end
theorem vt7(key:Nat→Nat)(e:Nat→Bool)(l:List Nat): ∀{bs:List Nat},bs.Nodup→(∀b∈bs,∃x∈l,key x=b∧e x=true)→bs.length≤(l.filter e).length:=by
 induction l with
 |nil=>
  intro bs _ h
  cases bs with
  |nil=>simp
  |cons b bs=>obtain⟨x,hx,_⟩:=h b (by simp);cases hx
 |cons y l ih=>
  intro bs hn h
  by_cases he:e y=true
  ·have h1:=ih (bs:=bs.erase (key y)) (hn.erase _) fun b hb=>by
    obtain⟨x,hx,hk,hex⟩:=h b (List.mem_of_mem_erase hb)
    rcases List.mem_cons.1 hx with rfl|hx
    ·rw[hk]at hb
     exact absurd hb (List.Nodup.not_mem_erase hn)
    ·exact⟨x,hx,hk,hex⟩
   rw[List.filter_cons,if_pos he,List.length_cons]
   have h2:=List.length_erase (a:=key y) (l:=bs)
   split at h2<;>omega
  ·rw[List.filter_cons,if_neg he]
   refine ih hn fun b hb=> ?_
   obtain⟨x,hx,hk,hex⟩:=h b hb
   rcases List.mem_cons.1 hx with rfl|hx
   ·exact absurd hex he
   ·exact⟨x,hx,hk,hex⟩
def popT(s:Nat):Nat:=s%2+s/2%2+s/4%2+s/8%2+s/16%2
def inM(s x:Nat):Bool:=x&&&s==s
def offM(s x:Nat):Nat:=x^^^(x&&&s)
def monN(r m:Nat):List Nat:=(List.range (r+1)).flatMap fun k=>(List.range (2^m)).filter fun s=>popT s==k
def basN(m s:Nat):List Nat:=(List.range (2^m)).filter fun b=>b&&&s==0
def cosN(m s b:Nat):List Nat:=(List.range (2^m)).filter fun x=>offM s x==b
def u18(m:Nat)(f:Nat→Bool)(s:Nat):Bool:=decide ((basN m s).length<2*((basN m s).filter fun b=>xorL (cosN m s b) f).length)
def fc4(r m n:Nat)(f:Nat→Bool):Nat→Bool:=fun x=>f x^^xorL (monN r m) fun s=>(popT s==n&&u18 m f s)&&inM s x
def mq3(r m:Nat)(w:Nat→Bool):Nat→Nat→Bool
 |0=>w
 |k+1=>fc4 r m (r-k) (mq3 r m w k)
def ua6(r m:Nat)(w:Nat→Bool)(s:Nat):Bool:=u18 m (mq3 r m w (r-popT s)) s
def cj7(r m:Nat)(c:Nat→Bool)(x:Nat):Bool:=xorL (monN r m) fun s=>c s&&inM s x
def offB(m:Nat)(a b:Nat→Bool):Nat:=((List.range (2^m)).filter fun x=>a x^^b x).length
def gt1(m:Nat):Bool:=(List.range (2^m)).all fun s=>(basN m s).length==2^(m-popT s)&&(basN m s).all fun b=>(List.range (2^m)).all fun t=>decide (popT s<popT t)||(xorL (cosN m s b) (inM t)==(t==s))
theorem pa0:((List.range 6).all gt1)=true:=by kernel_rfl
theorem p83:((List.range 6).all fun m=>(List.range (m+1)).all fun r=>decide (monN r m).Nodup)=true:=by kernel_rfl
theorem lu9{r m s:Nat}:s∈monN r m↔popT s≤r∧s<2^m:=by
 unfold monN
 rw[List.mem_flatMap]
 constructor
 ·rintro⟨k,hk,hs⟩
  rw[List.mem_range]at hk
  rw[List.mem_filter,List.mem_range,beq_iff_eq]at hs
  exact⟨by omega,hs.1⟩
 ·rintro⟨h1,h2⟩
  exact⟨popT s,List.mem_range.2 (by omega),List.mem_filter.2 ⟨List.mem_range.2 h2,by simp⟩⟩
section
variable {r m:Nat}
theorem mq1(hm:m≤5)(hr:r≤m):(monN r m).Nodup:=by
 have h:=List.all_eq_true.1 (List.all_eq_true.1 p83 m (List.mem_range.2 (by omega))) r (List.mem_range.2 (by omega))
 exact of_decide_eq_true h
theorem a73(hm:m≤5){s:Nat}(hs:s<2^m):(basN m s).length=2^(m-popT s):=by
 have h:=List.all_eq_true.1 (List.all_eq_true.1 pa0 m (List.mem_range.2 (by omega))) s (List.mem_range.2 hs)
 rw[Bool.and_eq_true]at h
 exact beq_iff_eq.1 h.1
theorem b19(hm:m≤5){s b t:Nat}(hs:s<2^m)(hb:b∈basN m s)(ht:t<2^m)(hp:popT t≤popT s):xorL (cosN m s b) (inM t)=(t==s):=by
 have h:=List.all_eq_true.1 (List.all_eq_true.1 pa0 m (List.mem_range.2 (by omega))) s (List.mem_range.2 hs)
 rw[Bool.and_eq_true]at h
 have h2:=List.all_eq_true.1 (List.all_eq_true.1 h.2 b hb) t (List.mem_range.2 ht)
 rw[Bool.or_eq_true]at h2
 rcases h2 with h2|h2
 ·have:=of_decide_eq_true h2;omega
 ·exact beq_iff_eq.1 h2
theorem eo1(w:Nat→Bool): ∀(k:Nat),k≤r+1→ ∀x,mq3 r m w k x=(w x^^xorL (monN r m) fun s=>(decide (r<popT s+k)&&ua6 r m w s)&&inM s x)
 |0,hk,x=>by
  rw[gz2 (p:=fun s=>(decide (r<popT s+0)&&ua6 r m w s)&&inM s x) (l:=monN r m),Bool.xor_false]
  ·rfl
  ·intro s hs
   have:=(lu9.1 hs).1
   rw[decide_eq_false (by omega)];rfl
 |k+1,hk,x=>by
  show(mq3 r m w k x^^_)=_
  rw[eo1 w k (by omega) x,Bool.xor_assoc,←lq7]
  congr 1
  refine r85 fun s hs=> ?_
  by_cases h1:popT s=r-k
  ·have hc:ua6 r m w s=u18 m (mq3 r m w k) s:=by unfold ua6;rw[h1,show r-(r-k)=k by omega]
   rw[decide_eq_false (by omega),decide_eq_true (show r<popT s+(k+1) by omega),hc,h1]
   simp
  ·rw[show(popT s==r-k)=false by simpa using h1]
   by_cases h2:r<popT s+k
   ·rw[decide_eq_true h2,decide_eq_true (show r<popT s+(k+1) by omega)];simp
   ·rw[decide_eq_false h2,decide_eq_false (show¬r<popT s+(k+1) by omega)];simp
theorem hm3(w:Nat→Bool)(x:Nat):mq3 r m w (r+1) x=(w x^^cj7 r m (ua6 r m w) x):=by
 rw[eo1 w (r+1) (Nat.le_refl _)]
 unfold cj7
 congr 1
 refine r85 fun s hs=> ?_
 rw[decide_eq_true (by omega),Bool.true_and]
theorem b15{α:Type}(p:α→Bool): ∀l:List α,(l.filter p).length+(l.filter fun a=> !p a).length=l.length
 | []=>rfl
 |a::l=>by
  have h:=b15 p l
  rw[List.filter_cons,List.filter_cons]
  cases hp:p a with
  |true=>rw[if_pos rfl,if_neg (by decide)];simp only[List.length_cons];omega
  |false=>rw[if_neg (by decide),if_pos (show(!false)=true from rfl)];simp only[List.length_cons];omega
theorem bc5(hm:m≤5)(hr:r≤m)(e c:Nat→Bool){s:Nat}(hs:s∈monN r m)(he:2*((List.range (2^m)).filter e).length<2^(m-r)):
 u18 m (fun x=>e x^^xorL (monN r m) fun t=>(decide (popT t≤popT s)&&c t)&&inM t x) s=c s:=by
 obtain⟨hsr,hsm⟩:=lu9.1 hs
 have hnd:=mq1 hm hr
 have hbl:=a73 hm hsm
 have hpw:2^(m-r)≤2^(m-popT s):=Nat.pow_le_pow_right (by omega) (by omega)
 have hpar: ∀b∈basN m s,xorL (cosN m s b) (fun x=>e x^^xorL (monN r m) fun t=>(decide (popT t≤popT s)&&c t)&&inM t x)=(xorL (cosN m s b) e^^c s):=by
  intro b hb
  rw[lq7,gn6 (fun x t=>(decide (popT t≤popT s)&&c t)&&inM t x)]
  congr 1
  rw[he5 (s:=s) hnd hs]
  ·rw[ex0,b19 hm hsm hb hsm (Nat.le_refl _),decide_eq_true (Nat.le_refl _)];simp
  ·intro t ht hne
   rw[ex0]
   by_cases hp:popT t≤popT s
   ·rw[b19 hm hsm hb (lu9.1 ht).2 hp,show(t==s)=false by simpa using hne,Bool.and_false]
   ·rw[decide_eq_false hp];simp
 have hodd:((basN m s).filter fun b=>xorL (cosN m s b) e).length≤((List.range (2^m)).filter e).length:=by
  refine vt7 (offM s) e (List.range (2^m)) (List.nodup_range.filter _|>.filter _) fun b hb=> ?_
  obtain⟨x,hx,h1⟩:=cw5 (List.mem_filter.1 hb).2
  rw[cosN,List.mem_filter,beq_iff_eq]at hx
  exact⟨x,hx.1,hx.2,h1⟩
 have hf:((basN m s).filter fun b=>xorL (cosN m s b) (fun x=>e x^^xorL (monN r m) fun t=>(decide (popT t≤popT s)&&c t)&&inM t x))=(basN m s).filter fun b=>xorL (cosN m s b) e^^c s:=List.filter_congr hpar
 unfold u18
 rw[hf]
 cases hc:c s with
 |false=>
  simp only[Bool.xor_false]
  exact decide_eq_false (by omega)
 |true=>
  have h1:=b15 (fun b=>xorL (cosN m s b) e) (basN m s)
  simp only[Bool.xor_true]
  exact decide_eq_true (by omega)
theorem kk1(hm:m≤5)(hr:r≤m)(w c:Nat→Bool)(he:2*offB m w (cj7 r m c)<2^(m-r)): ∀k:Nat,k≤r+1→ ∀x,mq3 r m w k x=(w x^^xorL (monN r m) fun s=>(decide (r<popT s+k)&&c s)&&inM s x)
 |0,hk,x=>by
  rw[gz2 (p:=fun s=>(decide (r<popT s+0)&&c s)&&inM s x) (l:=monN r m),Bool.xor_false]
  ·rfl
  ·intro s hs
   have:=(lu9.1 hs).1
   rw[decide_eq_false (by omega)];rfl
 |k+1,hk,x=>by
  have IH:=kk1 hm hr w c he k (by omega)
  show(mq3 r m w k x^^_)=_
  rw[IH x,Bool.xor_assoc,←lq7]
  congr 1
  refine r85 fun s hs=> ?_
  by_cases h1:popT s=r-k
  ·have hl:mq3 r m w k=fun x=>(w x^^cj7 r m c x)^^xorL (monN r m) fun t=>(decide (popT t≤popT s)&&c t)&&inM t x:=by
    funext y
    rw[IH y,cj7,Bool.xor_assoc,←lq7]
    congr 1
    refine r85 fun t ht=> ?_
    by_cases h2:r<popT t+k
    ·rw[decide_eq_true h2,decide_eq_false (show¬popT t≤popT s by omega)];simp
    ·rw[decide_eq_false h2,decide_eq_true (show popT t≤popT s by omega)];simp
   have hv:u18 m (mq3 r m w k) s=c s:=by rw[hl];exact bc5 hm hr _ c hs he
   rw[decide_eq_false (show¬r<popT s+k by omega),decide_eq_true (show r<popT s+(k+1) by omega),hv,h1]
   simp
  ·rw[show(popT s==r-k)=false by simpa using h1]
   by_cases h2:r<popT s+k
   ·rw[decide_eq_true h2,decide_eq_true (show r<popT s+(k+1) by omega)];simp
   ·rw[decide_eq_false h2,decide_eq_false (show¬r<popT s+(k+1) by omega)];simp
theorem e63(hm:m≤5)(hr:r≤m)(w c:Nat→Bool)(he:2*offB m w (cj7 r m c)<2^(m-r))(x:Nat):mq3 r m w (r+1) x=(w x^^cj7 r m c x):=by
 rw[kk1 hm hr w c he (r+1) (Nat.le_refl _)]
 unfold cj7
 congr 1
 refine r85 fun s hs=> ?_
 rw[decide_eq_true (by omega),Bool.true_and]
end
end Go.Proofs.Ytodbgomfeacdhaa
namespace Go.Proofs.Ytodbgomfeacdhaa
open Go.Am
@[push_cast] theorem py6{α:Type}{h:H}{r:Option α}:behind true h h r=r:=zy7 (List.prefix_refl h)
def anyF(p:Int→Bool)(l:List Int):Nat→Nat→Bool
 |0,_=>false
 |m+1,i=>p (gi l i)||anyF p l m (i+1)
theorem cl1(x:Int)(l:List Int)(i:Nat):gi (x::l) ((i+1:Nat):Int)=gi l i:=by
 unfold gi;rw[Int.toNat_natCast,Int.toNat_natCast];rfl
theorem xj6(p:Int→Bool)(x:Int)(l:List Int): ∀m i,anyF p (x::l) m (i+1)=anyF p l m i
 |0,_=>rfl
 |m+1,i=>by rw[anyF,anyF,cl1,xj6 p x l m (i+1)]
theorem o31(p:Int→Bool): ∀l:List Int,anyF p l l.length 0=l.any p
 | []=>rfl
 |x::l=>by rw[List.length_cons,anyF,xj6,o31 p l,List.any_cons];rfl
theorem cn1{l:List Int}{i:Nat}(hi:i<l.length):gi l i=l[i]:=by
 unfold gi;rw[Int.toNat_natCast,List.getD_eq_getElem?_getD,List.getElem?_eq_getElem hi];rfl
theorem jg0{a b:List Int}(hl:a.length=b.length)(h: ∀p:Nat,p<a.length→gi a p=gi b p):a=b:=by
 refine List.ext_getElem hl fun i h1 h2=> ?_
 have:=h i h1
 rwa [cn1 h1,cn1 h2]at this
section
variable {h:H} {sa:Option Addr} {c:Nat} {l:List Int}
theorem _root_.Go.Am.RdI.at(hr:RdI h sa c l){i:Nat}(hi:i<l.length): ∃o off,sa=some ⟨o,off,none⟩∧o<h.length∧h.ld1 o (off+i)=some (.int .i64 (gi l i)):=by
 obtain⟨o,off,h1,h2,h3⟩:=hr.addr (by omega)
 have:=h3 (i:Int) (by omega) (by omega)
 rw[Int.toNat_natCast]at this
 exact⟨o,off,h1,h2,this⟩
def idxF(p:Int→Bool)(l:List Int):Nat→Nat→Int
 |0,_=> -1
 |m+1,i=>if p (gi l i)=true then i else idxF p l m (i+1)
theorem ft3(p:Int→Bool)(l:List Int): ∀m i,decide (0≤idxF p l m i)=anyF p l m i
 |0,_=>rfl
 |m+1,i=>by
  rw[idxF,anyF]
  cases hp:p (gi l i)with
  |true=>rw[if_pos rfl,Bool.true_or,decide_eq_true (by omega)]
  |false=>rw[if_neg (by decide),Bool.false_or,ft3 p l m (i+1)]
theorem zu9(hr:RdI h sa c l)(hl:l.length≤9223372036854775807){k:FuncId}{cap:Array Value}{p:Int→Bool}(hp: ∀v,call T k (.int .i64 v::cap.toList) h=some (.bool (p v),h)): ∀(m i:Nat),i+m=l.length→ ∀ks,
 goL T [.tmp 4] [0,1,7,8] c141L0 (.blk 0 []::ks) [(0, .slice sa l.length c),(1, .func (.func k) #[] cap),(7, .int .i64 l.length),(8, .int .i64 i)] h=
  if anyF p l m i=true then some (.int .i64 (idxF p l m i),h)else go T [.tmp 4] ks (Fr.of []) h
 |0,i,hi,ks=>by
  rw[ur1 c141L0.eq_def,anyF,if_neg (by decide)]
  simp(disch:=first|omega|(simp only[rl9,wi2,q89]<;>omega)|fail) only[push_cast,seval,wrap64,dec_lt,cw6,nl3,qc6,mr8,nb8,if_pos,if_neg,Int.natCast_add,Int.natCast_one,Int.natCast_zero,Int.toNat_natCast]
 |m+1,i,hi,ks=>by
  have ih:=zu9 hr hl hp m (i+1) (by omega) ks
  obtain⟨o,off,rfl,_,l1⟩:=hr.at (i:=i) (by omega)
  rw[Int.natCast_add,Int.natCast_one]at ih
  rw[ur1 c141L0.eq_def,anyF,idxF]
  have hpi:=hp (gi l i)
  cases he:p (gi l i)with
  |true=>
   rw[he]at hpi
   rw[Bool.true_or,if_pos rfl,if_pos rfl]
   simp(disch:=first|omega|(simp only[rl9,wi2,q89]<;>omega)|fail) only[push_cast,seval,wrap64,dec_lt,cw6,nl3,qc6,mr8,nb8,if_pos,if_neg,Int.natCast_add,Int.natCast_one,Int.natCast_zero,Int.toNat_natCast,l1,hpi]
  |false=>
   rw[he]at hpi
   rw[Bool.false_or,if_neg (show¬false=true by decide),←ih]
   simp(disch:=first|omega|(simp only[rl9,wi2,q89]<;>omega)|fail) only[push_cast,seval,wrap64,dec_lt,cw6,nl3,qc6,mr8,nb8,if_pos,if_neg,Int.natCast_add,Int.natCast_one,Int.natCast_zero,Int.toNat_natCast,l1,hpi]
theorem wi5(hr:RdI h sa c l)(hl:l.length≤9223372036854775807){k:FuncId}{cap:Array Value}{p:Int→Bool}(hp: ∀v,call T k (.int .i64 v::cap.toList) h=some (.bool (p v),h)):
 call T 95 [.slice sa l.length c, .func (.func k) #[] cap] h=some (.bool (l.any p),h):=by
 have hz: ∀m i,anyF p l m i=false→idxF p l m i= -1:=by
  intro m
  induction m with
  |zero=>intro i _;rfl
  |succ m ih=>
   intro i hi
   rw[anyF,Bool.or_eq_false_iff]at hi
   rw[idxF,hi.1,if_neg (by decide)]
   exact ih _ hi.2
 have e1:call T 141 [.slice sa l.length c, .func (.func k) #[] cap] h=some (.int .i64 (idxF p l l.length 0),h):=by
  rw[wn8 T141 rfl]
  unfold F141 c141
  have e:=zu9 hr hl hp l.length 0 (by omega)
  simp only[Int.natCast_zero]at e
  simp(disch:=first|omega|(simp only[rl9,wi2,q89]<;>omega)|fail) only[push_cast,seval]
  rw[e]
  cases ha:anyF p l l.length 0 with
  |true=>rw[if_pos rfl]
  |false=>
   rw[if_neg (by decide)]
   simp(disch:=first|omega|(simp only[rl9,wi2,q89]<;>omega)|fail) only[push_cast,seval]
   rw[hz _ _ ha]
 have e2:=ft3 p l l.length 0
 rw[o31]at e2
 rw[wn8 T95 rfl]
 unfold F95 c95
 simp(disch:=first|omega|(simp only[rl9,wi2,q89]<;>omega)|fail) only[push_cast,seval,e1]
 rw[e2]
def o42(h h':H)(o:Nat)(l:List Int):Prop:=h<+:h'∧h.length≤o∧h'.row o=some ⟨ints l,3,1,true⟩
theorem v82(hr:RdI h sa c l)(h0:0<l.length)(hl:l.length≤1000000): ∃(o:Nat) (h':H),o42 h h' o l∧call T 92 [.slice sa l.length c] h=some (.slice (some ⟨o,0,none⟩) l.length l.length,h'):=by
 obtain⟨o,off,rfl,_⟩:=hr.addr h0
 have hs:=(hr.mono (List.prefix_append h [.row ⟨[],3,1,true⟩])).src
 have e:aapp 3 1 8 (h++[.row ⟨[],3,1,true⟩]) (.slice (some ⟨h.length,0,none⟩) 0 0) (.slice (some ⟨o,off,none⟩) l.length c)=some (.slice (some ⟨h.length+1,0,none⟩) l.length l.length,kill (h++[.row ⟨[],3,1,true⟩]) h.length++[.row ⟨ints l,3,1,true⟩]):=by
  unfold aapp aput
  simp only[hs,cv8]
  rw[if_pos (by simp[few];omega),rl9,Nat.zero_add]
  rfl
 refine⟨h.length+1,kill (h++[.row ⟨[],3,1,true⟩]) h.length++[.row ⟨ints l,3,1,true⟩],⟨ym5 (uw3 (List.prefix_append _ _) (Nat.le_refl _)),by omega,wq4⟩, ?_⟩
 rw[wn8 T92 rfl]
 unfold F92 c92
 simp(disch:=first|omega|(simp only[rl9,wi2,q89]<;>omega)|fail) only[push_cast,seval,e]
end
section
variable {h0:H} {sr:Option Addr} {cr:Nat} {raw:List Int}
end
section
variable {h:H} {sa:Option Addr} {C:Nat} {cs:List (List Int)}
end
def pcA(s:Int):Int:=IntKind.wrap .u64 (Go.bits .and .u64 (s.fdiv (2^min 1 (IntKind.bits .u64))) 6148914691236517205+Go.bits .and .u64 s 6148914691236517205)
def pcB(s:Int):Int:=IntKind.wrap .u64 (Go.bits .and .u64 (s.fdiv (2^min 2 (IntKind.bits .u64))) 3689348814741910323+Go.bits .and .u64 s 3689348814741910323)
def pcC(s:Int):Int:=Go.bits .and .u64 (IntKind.wrap .u64 (s.fdiv (2^min 4 (IntKind.bits .u64))+s)) 1085102592571150095
def pcD(k:Nat)(s:Int):Int:=IntKind.wrap .u64 (s+s.fdiv (2^min k (IntKind.bits .u64)))
def pc64(s:Int):Int:=Go.bits .and .i64 (IntKind.wrap .i64 (pcD 32 (pcD 16 (pcD 8 (pcC (pcB (pcA s))))))) 127
theorem nu2:((List.range 32).all fun s:Nat=>decide (pc64 (s:Int)=((popT s:Nat):Int))&&decide (IntKind.wrap .u64 (s:Int)=(s:Int)))=true:=by kernel_rfl
theorem xt3{s:Nat}(hs:s<32):pc64 (s:Int)=((popT s:Nat):Int)∧IntKind.wrap .u64 (s:Int)=(s:Int):=by
 have h:=List.all_eq_true.1 nu2 s (List.mem_range.2 hs)
 rw[Bool.and_eq_true]at h
 exact⟨of_decide_eq_true h.1,of_decide_eq_true h.2⟩
section
variable {h:H}
theorem zp6(s:Int):call T 159 [.int .u64 s] h=some (.int .i64 (pc64 s),h):=by
 rw[wn8 T159 rfl]
 unfold F159 c159
 simp(disch:=first|omega|(simp only[rl9,wi2,q89]<;>omega)|fail) only[push_cast,seval]
 rfl
theorem qo7{s:Nat}(hs:s<32):call T 123 [.int .u64 s] h=some (.int .i64 (popT s),h):=by
 have e:=zp6 (h:=h) (s:Int)
 rw[(xt3 hs).1]at e
 rw[wn8 T123 rfl]
 unfold F123 c123
 simp(disch:=first|omega|(simp only[rl9,wi2,q89]<;>omega)|fail) only[push_cast,seval,e]
end
def cst(l:List Nat):List Int:=l.map fun n:Nat=>(n:Int)
theorem j61:((List.range 6).all fun m:Nat=>decide (IntKind.wrap .i64 (1*2^min m (IntKind.bits .i64))=((2^m:Nat):Int)))=true:=by kernel_rfl
theorem ug1{m:Nat}(hm:m≤5):IntKind.wrap .i64 (1*2^min m (IntKind.bits .i64))=((2^m:Nat):Int):=of_decide_eq_true (List.all_eq_true.1 j61 m (List.mem_range.2 (by omega)))
theorem ov6{m:Nat}(hm:m≤5):2^m≤32:=Nat.pow_le_pow_right (n:=2) (by omega) hm
section
variable {h0:H}
theorem dp5{r k m M:Nat}(hr:r≤5)(hk:k≤6)(hm:m≤5)(hM:M≤32): ∀(n s:Nat) (zs:List Int) (sa:Option Addr) (c:Nat) (G:H),s+n=M→zs.length+n≤1000→h0<+:G→Grown G sa c zs h0.length→
 ∃(sa':Option Addr) (c':Nat) (G':H),h0<+:G'∧Grown G' sa' c' (zs++cst ((List.range' s n).filter fun s=>popT s==k)) h0.length∧ ∀ks,
  goL T [.tmp 4] [0,1,5,6,14,15] c113L0 (.blk 2 [0,1,5,6]::ks) [(0, .int .i64 r),(1, .int .i64 m),(5, .slice sa zs.length c),(6, .int .i64 k),(14, .int .i64 M),(15, .int .i64 s)] G=
   go T [.tmp 4] ks (Fr.of [(0, .int .i64 r),(1, .int .i64 m),(5, .slice sa' (zs++cst ((List.range' s n).filter fun s=>popT s==k)).length c'),(6, .int .i64 k)]) G'
 |0,s,zs,sa,c,G,hs,hz,hp,hg=>by
  refine⟨sa,c,G,hp,by simpa [cst]using hg,fun ks=> ?_⟩
  have hnil:zs++cst ((List.range' s 0).filter fun s=>popT s==k)=zs:=by simp[cst]
  rw[hnil,ur1 c113L0.eq_def]
  simp(disch:=first|omega|(simp only[rl9,wi2,q89]<;>omega)|fail) only[push_cast,seval,wrap64,dec_lt,cw6,nl3,qc6,mr8,nb8,if_pos,if_neg,Int.natCast_add,Int.natCast_one,Int.natCast_zero,Int.toNat_natCast]
 |n+1,s,zs,sa,c,G,hs,hz,hp,hg=>by
  have IH:=dp5 hr hk hm hM n (s+1)
  have e1:=qo7 (h:=G) (s:=s) (by omega)
  have w1:=(xt3 (s:=s) (by omega)).2
  by_cases hpk:popT s=k
  ·obtain⟨s3,G3,ea,hg3,_,_,hpre⟩:=hg.one (y:=(s:Int)) (by omega) (bt8 hp)
   have hlen:(zs++[(s:Int)]).length=zs.length+1:=by simp
   have hl:zs++cst ((List.range' s (n+1)).filter fun s=>popT s==k)=(zs++[(s:Int)])++cst ((List.range' (s+1) n).filter fun s=>popT s==k):=by
    rw[List.range'_succ,List.filter_cons,if_pos (by simpa using hpk)];simp[cst]
   obtain⟨s4,c4,G4,k1,k2,k3⟩:=IH (zs++[(s:Int)]) s3 (zs.length+1) G3 (by omega) (by omega) (hpre h0 (Nat.le_refl _) hp) hg3
   rw[hl]
   refine⟨s4,c4,G4,k1,k2,fun ks=> ?_⟩
   have ih:=k3 ks
   rw[Int.natCast_add,Int.natCast_one]at ih
   rw[ur1 c113L0.eq_def,←ih]
   simp(disch:=first|omega|(simp only[rl9,wi2,q89]<;>omega)|fail) only[push_cast,seval,wrap64,dec_lt,cw6,nl3,qc6,mr8,nb8,if_pos,if_neg,Int.natCast_add,Int.natCast_one,Int.natCast_zero,Int.toNat_natCast,e1,w1,ea,hlen]
  ·have hl:zs++cst ((List.range' s (n+1)).filter fun s=>popT s==k)=zs++cst ((List.range' (s+1) n).filter fun s=>popT s==k):=by
    rw[List.range'_succ,List.filter_cons,if_neg (by simpa using hpk)]
   obtain⟨s4,c4,G4,k1,k2,k3⟩:=IH zs sa c G (by omega) (by omega) hp hg
   rw[hl]
   refine⟨s4,c4,G4,k1,k2,fun ks=> ?_⟩
   have ih:=k3 ks
   rw[Int.natCast_add,Int.natCast_one]at ih
   rw[ur1 c113L0.eq_def,←ih]
   simp(disch:=first|omega|(simp only[rl9,wi2,q89]<;>omega)|fail) only[push_cast,seval,wrap64,dec_lt,cw6,nl3,qc6,mr8,nb8,if_pos,if_neg,Int.natCast_add,Int.natCast_one,Int.natCast_zero,Int.toNat_natCast,e1,w1]
def monR(m:Nat):Nat→Nat→List Nat
 |0,_=>[]
 |n+1,k=>((List.range (2^m)).filter fun s=>popT s==k)++monR m n (k+1)
theorem ej1(m:Nat): ∀n k,monR m n k=(List.range' k n).flatMap fun k=>(List.range (2^m)).filter fun s=>popT s==k
 |0,_=>rfl
 |n+1,k=>by rw[monR,ej1 m n,List.range'_succ,List.flatMap_cons]
theorem ve5(r m:Nat):monR m (r+1) 0=monN r m:=by rw[ej1,monN,←List.range_eq_range']
theorem gh5(m:Nat): ∀n k,(monR m n k).length≤n*2^m
 |0,_=>by simp[monR]
 |n+1,k=>by
  have:=gh5 m n (k+1)
  have h2:=List.length_filter_le (fun s=>popT s==k) (List.range (2^m))
  rw[List.length_range]at h2
  rw[monR,List.length_append,Nat.add_mul]
  omega
theorem cz3{r m:Nat}(hr:r≤5)(hm:m≤5): ∀(n k:Nat) (zs:List Int) (sa:Option Addr) (c:Nat) (G:H),k+n=r+1→zs.length≤k*32→h0<+:G→Grown G sa c zs h0.length→
 ∃(sa':Option Addr) (c':Nat) (G':H),h0<+:G'∧Grown G' sa' c' (zs++cst (monR m n k)) h0.length∧ ∀ks,
  goL T [.tmp 4] [0,1,5,6] c113L1 (.blk 0 [5]::ks) [(0, .int .i64 r),(1, .int .i64 m),(5, .slice sa zs.length c),(6, .int .i64 k)] G=
   go T [.tmp 4] ks (Fr.of [(5, .slice sa' (zs++cst (monR m n k)).length c')]) G'
 |0,k,zs,sa,c,G,hk,hz,hp,hg=>by
  have hnil:zs++cst (monR m 0 k)=zs:=by simp[cst,monR]
  rw[hnil]
  refine⟨sa,c,G,hp,hg,fun ks=> ?_⟩
  rw[ur1 c113L1.eq_def]
  simp(disch:=first|omega|(simp only[rl9,wi2,q89]<;>omega)|fail) only[push_cast,seval,wrap64,dec_lt,cw6,nl3,qc6,mr8,nb8,if_pos,if_neg,Int.natCast_add,Int.natCast_one,Int.natCast_zero,Int.toNat_natCast]
 |n+1,k,zs,sa,c,G,hk,hz,hp,hg=>by
  have IH:=cz3 hr hm n (k+1)
  obtain⟨M,hMe⟩: ∃M,M=2^m:=⟨_,rfl⟩
  have hM:=ov6 hm
  have hsh:=ug1 hm
  rw[←hMe]at hM hsh
  obtain⟨s3,c3,G3,j1,j2,j3⟩:=dp5 (h0:=h0) hr (k:=k) (by omega) hm hM M 0 zs sa c G (by omega) (by omega) hp hg
  rw[←List.range_eq_range']at j2 j3
  have hfl:=List.length_filter_le (fun s=>popT s==k) (List.range M)
  rw[List.length_range]at hfl
  obtain⟨s4,c4,G4,k1,k2,k3⟩:=IH _ s3 c3 G3 (by omega) (by rw[List.length_append];simp only[cst,List.length_map];omega) j1 j2
  have hl:zs++cst (monR m (n+1) k)=zs++cst ((List.range M).filter fun s=>popT s==k)++cst (monR m n (k+1)):=by simp[cst,monR,hMe]
  rw[hl]
  refine⟨s4,c4,G4,k1,k2,fun ks=> ?_⟩
  have ih:=k3 ks
  rw[Int.natCast_add,Int.natCast_one]at ih
  simp only[Int.natCast_zero]at j3
  rw[ur1 c113L1.eq_def,←ih]
  simp(disch:=first|omega|(simp only[rl9,wi2,q89]<;>omega)|fail) only[push_cast,seval,wrap64,dec_lt,cw6,nl3,qc6,mr8,nb8,if_pos,if_neg,Int.natCast_add,Int.natCast_one,Int.natCast_zero,Int.toNat_natCast,hsh]
  rw[j3]
  simp(disch:=first|omega|(simp only[rl9,wi2,q89]<;>omega)|fail) only[push_cast,seval,wrap64,dec_lt,cw6,nl3,qc6,mr8,nb8,if_pos,if_neg,Int.natCast_add,Int.natCast_one,Int.natCast_zero,Int.toNat_natCast]
end
section
variable {h:H}
theorem as6{r m:Nat}(hr:r≤5)(hm:m≤5): ∃(sa:Option Addr) (c:Nat) (h':H),h<+:h'∧Grown h' sa c (cst (monN r m)) h.length∧call T 113 [.int .i64 r, .int .i64 m] h=some (.slice sa (monN r m).length c,h'):=by
 obtain⟨s1,c1,G,k1,k2,k3⟩:=cz3 (h0:=h) hr hm (r+1) 0 [] none 0 h (by omega) (by simp) (List.prefix_refl _) .nil
 rw[ve5,List.nil_append]at k2 k3
 simp only[Int.natCast_zero,List.length_nil]at k3
 have hl:(cst (monN r m)).length=(monN r m).length:=by simp[cst]
 rw[hl]at k3
 refine⟨s1,c1,G,k1,k2, ?_⟩
 rw[wn8 T113 rfl]
 unfold F113 c113
 simp(disch:=first|omega|(simp only[rl9,wi2,q89]<;>omega)|fail) only[push_cast,seval]
 rw[k3]
 simp(disch:=first|omega|(simp only[rl9,wi2,q89]<;>omega)|fail) only[push_cast,seval]
end
section
variable {h0:H}
end
section
variable {h:H}
def c11(r m:Int):Int:=if m<1∨5<m then 4 else if r<0∨m<r then 6 else 0
theorem o89(r m:Int):call T 112 [.int .i64 r, .int .i64 m] h=some (.int .i64 (c11 r m),h):=by
 unfold c11
 rw[wn8 T112 rfl]
 unfold F112 c112
 by_cases h1:m<1
 ·rw[if_pos (.inl h1)]
  simp(disch:=first|omega|(simp only[rl9,wi2,q89]<;>omega)|fail) only[push_cast,seval,wrap64,dec_lt,cw6,nl3,qc6,mr8,nb8,if_pos,if_neg,Int.natCast_add,Int.natCast_one,Int.natCast_zero,Int.toNat_natCast]
 ·by_cases h2:5<m
  ·rw[if_pos (.inr h2)]
   simp(disch:=first|omega|(simp only[rl9,wi2,q89]<;>omega)|fail) only[push_cast,seval,wrap64,dec_lt,cw6,nl3,qc6,mr8,nb8,if_pos,if_neg,Int.natCast_add,Int.natCast_one,Int.natCast_zero,Int.toNat_natCast]
  ·rw[if_neg (by omega)]
   by_cases h3:r<0
   ·rw[if_pos (.inl h3)]
    simp(disch:=first|omega|(simp only[rl9,wi2,q89]<;>omega)|fail) only[push_cast,seval,wrap64,dec_lt,cw6,nl3,qc6,mr8,nb8,if_pos,if_neg,Int.natCast_add,Int.natCast_one,Int.natCast_zero,Int.toNat_natCast]
   ·by_cases h4:m<r
    ·rw[if_pos (.inr h4)]
     simp(disch:=first|omega|(simp only[rl9,wi2,q89]<;>omega)|fail) only[push_cast,seval,wrap64,dec_lt,cw6,nl3,qc6,mr8,nb8,if_pos,if_neg,Int.natCast_add,Int.natCast_one,Int.natCast_zero,Int.toNat_natCast]
    ·rw[if_neg (by omega)]
     simp(disch:=first|omega|(simp only[rl9,wi2,q89]<;>omega)|fail) only[push_cast,seval,wrap64,dec_lt,cw6,nl3,qc6,mr8,nb8,if_pos,if_neg,Int.natCast_add,Int.natCast_one,Int.natCast_zero,Int.toNat_natCast]
end
def bI(b:Bool):Int:=if b then 1 else 0
def wl(N:Nat)(f:Nat→Bool):List Int:=(List.range N).map fun x:Nat=>bI (f x)
theorem nk3(N:Nat)(f:Nat→Bool):(wl N f).length=N:=by simp[wl]
theorem z09{N x:Nat}(f:Nat→Bool)(hx:x<N):gi (wl N f) x=bI (f x):=by
 unfold gi wl;rw[List.getD_eq_getElem?_getD,Int.toNat_natCast,List.getElem?_map,List.getElem?_range hx];rfl
theorem tr4{N:Nat}{f g:Nat→Bool}(h: ∀x,x<N→f x=g x):wl N f=wl N g:=by
 unfold wl
 refine List.map_congr_left fun x hx=> ?_
 rw[h x (List.mem_range.1 hx)]
theorem n83{N i:Nat}(f g:Nat→Bool)(hi:i<N)(h1: ∀x,x<N→x≠i→g x=f x):(wl N f).set i (bI (g i))=wl N g:=by
 refine jg0 (by simp[nk3]) fun x hx=> ?_
 rw[List.length_set,nk3]at hx
 rw[tl9 (by rw[nk3];exact hi),z09 g hx]
 by_cases he:i=x
 ·rw[if_pos he,he]
 ·rw[if_neg he,z09 f hx,h1 x hx fun e=>he e.symm]
theorem e18:((List.range 32).all fun x:Nat=>(List.range 32).all fun s:Nat=>decide (Go.bits .and .i64 (x:Int) (s:Int)=((x&&&s:Nat):Int)))=true:=by kernel_rfl
theorem ga1{x s:Nat}(hx:x<32)(hs:s<32):Go.bits .and .i64 (x:Int) (s:Int)=((x&&&s:Nat):Int):=
 of_decide_eq_true (List.all_eq_true.1 (List.all_eq_true.1 e18 x (List.mem_range.2 hx)) s (List.mem_range.2 hs))
theorem i40(a b:Bool):Go.bits .xor .i64 (bI a) (bI b)=bI (a^^b):=by cases a<;>cases b<;>kernel_rfl
section
variable {hF:H}
theorem np9{s N o:Nat}(hs:s<32)(hN:N≤32)(ho:hF.length≤o): ∀(n i:Nat) (G:H),i+n=N→hF<+:G→G.row o=some ⟨ints (wl N fun x=>decide (x<i)&&inM s x),3,1,true⟩→
 ∃G':H,hF<+:G'∧G'.row o=some ⟨ints (wl N (inM s)),3,1,true⟩∧ ∀ks,
  goL T [.tmp 4] [0,5,11,12] c114L0 (.blk 0 [5]::ks) [(0, .int .i64 s),(5, .slice (some ⟨o,0,none⟩) N N),(11, .int .i64 N),(12, .int .i64 i)] G=
   go T [.tmp 4] ks (Fr.of [(5, .slice (some ⟨o,0,none⟩) N N)]) G'
 |0,i,G,hi,hp,hr=>by
  have hw:wl N (fun x=>decide (x<i)&&inM s x)=wl N (inM s):=tr4 fun x hx=>by rw[decide_eq_true (by omega),Bool.true_and]
  refine⟨G,hp,by rw[←hw];exact hr,fun ks=> ?_⟩
  rw[ur1 c114L0.eq_def]
  simp(disch:=first|omega|(simp only[rl9,wi2,q89]<;>omega)|fail) only[push_cast,seval,wrap64,dec_lt,cw6,nl3,qc6,mr8,nb8,if_pos,if_neg,Int.natCast_add,Int.natCast_one,Int.natCast_zero,Int.toNat_natCast]
 |n+1,i,G,hi,hp,hr=>by
  have IH:=np9 hs hN ho n (i+1)
  have hb:=ga1 (x:=i) (s:=s) (by omega) hs
  by_cases hin:i&&&s=s
  ·have hi1:inM s i=true:=by unfold inM;simpa using hin
   have es:=l45 hr (i:=(i:Int)) (v:=1) (by omega) (by rw[nk3];omega)
   rw[Int.toNat_natCast]at es
   have hw:(wl N fun x=>decide (x<i)&&inM s x).set i 1=wl N fun x=>decide (x<i+1)&&inM s x:=by
    have:=n83 (N:=N) (i:=i) (fun x=>decide (x<i)&&inM s x) (fun x=>decide (x<i+1)&&inM s x) (by omega) fun x hx hne=>by
     by_cases h:x<i
     ·rw[decide_eq_true h,decide_eq_true (show x<i+1 by omega)]
     ·rw[decide_eq_false h,decide_eq_false (show¬x<i+1 by omega)]
    rw[←this]
    simp[hi1,bI]
   rw[hw]at es
   obtain⟨G1,eG1⟩: ∃G1:H,G1=G.set o (.row ⟨ints (wl N fun x=>decide (x<i+1)&&inM s x),3,1,true⟩):=⟨_,rfl⟩
   rw[←eG1]at es
   have p1:hF<+:G1:=by rw[eG1];exact wc3 hp ho
   have r1:G1.row o=some ⟨ints (wl N fun x=>decide (x<i+1)&&inM s x),3,1,true⟩:=by rw[eG1];exact tr3 (h44 hr)
   obtain⟨G',k1,k2,k3⟩:=IH G1 (by omega) p1 r1
   refine⟨G',k1,k2,fun ks=> ?_⟩
   have ih:=k3 ks
   rw[Int.natCast_add,Int.natCast_one]at ih
   rw[hin]at hb
   rw[ur1 c114L0.eq_def,←ih]
   simp(disch:=first|omega|(simp only[rl9,wi2,q89]<;>omega)|fail) only[push_cast,seval,wrap64,dec_lt,cw6,nl3,qc6,mr8,nb8,if_pos,if_neg,Int.natCast_add,Int.natCast_one,Int.natCast_zero,Int.toNat_natCast,hb,es]
  ·have hi1:inM s i=false:=by unfold inM;simpa using hin
   have hw:(wl N fun x=>decide (x<i)&&inM s x)=wl N fun x=>decide (x<i+1)&&inM s x:=tr4 fun x hx=>by
    by_cases he:x=i
    ·rw[he,hi1,Bool.and_false,Bool.and_false]
    ·by_cases h:x<i
     ·rw[decide_eq_true h,decide_eq_true (show x<i+1 by omega)]
     ·rw[decide_eq_false h,decide_eq_false (show¬x<i+1 by omega)]
   rw[hw]at hr
   obtain⟨G',k1,k2,k3⟩:=IH G (by omega) hp hr
   refine⟨G',k1,k2,fun ks=> ?_⟩
   have ih:=k3 ks
   rw[Int.natCast_add,Int.natCast_one]at ih
   obtain⟨v,hv⟩: ∃v:Int,v=((i&&&s:Nat):Int):=⟨_,rfl⟩
   rw[←hv]at hb
   have hne: ¬v=(s:Int):=by rw[hv];omega
   rw[ur1 c114L0.eq_def,←ih]
   simp(disch:=first|omega|(simp only[rl9,wi2,q89]<;>omega)|fail) only[push_cast,seval,wrap64,dec_lt,cw6,nl3,qc6,mr8,nb8,if_pos,if_neg,Int.natCast_add,Int.natCast_one,Int.natCast_zero,Int.toNat_natCast,hb,nb8 hne]
theorem cy9{h:H}{s m N:Nat}(hm:m≤5)(hM:N=2^m)(hs:s<32): ∃(o:Nat) (h':H),h<+:h'∧h.length≤o∧h'.row o=some ⟨ints (wl N (inM s)),3,1,true⟩∧call T 114 [.int .i64 s, .int .i64 m] h=some (.slice (some ⟨o,0,none⟩) N N,h'):=by
 have hN:=ov6 hm
 have hsh:=ug1 hm
 rw[←hM]at hN hsh
 obtain⟨G1,eG1⟩: ∃G1:H,G1=h++[.row ⟨ints (List.replicate N 0),3,1,true⟩]:=⟨_,rfl⟩
 have hz:List.replicate N (0:Int)=wl N (fun x=>decide (x<0)&&inM s x):=by
  refine jg0 (by simp[nk3]) fun x hx=> ?_
  rw[List.length_replicate]at hx
  rw[z09 _ hx]
  unfold gi
  simp[hx,bI]
 have r1:G1.row h.length=some ⟨ints (wl N fun x=>decide (x<0)&&inM s x),3,1,true⟩:=by rw[←hz,eG1];exact cv8
 have p1:h<+:G1:=by rw[eG1];exact List.prefix_append _ _
 obtain⟨G',k1,k2,k3⟩:=np9 (hF:=h) hs hN (o:=h.length) (Nat.le_refl _) N 0 G1 (by omega) p1 r1
 simp only[Int.natCast_zero]at k3
 refine⟨h.length,G',k1,Nat.le_refl _,k2, ?_⟩
 have hr0:rep [.int .i64 0] N=ints (List.replicate N 0):=k78 _ _
 rw[wn8 T114 rfl]
 unfold F114 c114
 simp(disch:=first|omega|(simp only[rl9,wi2,q89]<;>omega)|fail) only[push_cast,seval,wrap64,dec_lt,cw6,nl3,qc6,mr8,nb8,if_pos,if_neg,Int.natCast_add,Int.natCast_one,Int.natCast_zero,Int.toNat_natCast,hsh,hr0,←eG1]
 rw[k3]
 simp(disch:=first|omega|(simp only[rl9,wi2,q89]<;>omega)|fail) only[push_cast,seval]
theorem ua8{h:H}{N o:Nat}(hN:N≤32)(ho:o<h.length){sb:Option Addr}{cb:Nat}{g:Nat→Bool}(hb: ∀z:List Int,RdI (h.set o (.row ⟨ints z,3,1,true⟩)) sb cb (wl N g))(f:Nat→Bool): ∀(n i:Nat),i+n=N→ ∀ks,
 goL T [] [0,1,6,7] c121L0 (.blk 0 []::ks) [(0, .slice (some ⟨o,0,none⟩) N N),(1, .slice sb N cb),(6, .int .i64 N),(7, .int .i64 i)] (h.set o (.row ⟨ints (wl N fun x=>f x^^(decide (x<i)&&g x)),3,1,true⟩))=
  go T [] ks (Fr.of []) (h.set o (.row ⟨ints (wl N fun x=>f x^^g x),3,1,true⟩))
 |0,i,hi,ks=>by
  have hw:wl N (fun x=>f x^^(decide (x<i)&&g x))=wl N (fun x=>f x^^g x):=tr4 fun x hx=>by rw[decide_eq_true (by omega),Bool.true_and]
  rw[hw,ur1 c121L0.eq_def]
  simp(disch:=first|omega|(simp only[rl9,wi2,q89]<;>omega)|fail) only[push_cast,seval,wrap64,dec_lt,cw6,nl3,qc6,mr8,nb8,if_pos,if_neg,Int.natCast_add,Int.natCast_one,Int.natCast_zero,Int.toNat_natCast]
 |n+1,i,hi,ks=>by
  have ih:=ua8 hN ho hb f n (i+1) (by omega) ks
  have hr:H.row (h.set o (.row ⟨ints (wl N fun x=>f x^^(decide (x<i)&&g x)),3,1,true⟩)) o=some ⟨ints (wl N fun x=>f x^^(decide (x<i)&&g x)),3,1,true⟩:=tr3 ho
  obtain⟨ob,offb,rfl,_,l1⟩:=(hb (wl N fun x=>f x^^(decide (x<i)&&g x))).at (i:=i) (by rw[nk3];omega)
  rw[z09 g (by omega)]at l1
  have l2:=i59 hr (i:=(i:Int)) (by omega) (by rw[nk3];omega)
  rw[Int.toNat_natCast,z09 _ (by omega),decide_eq_false (Nat.lt_irrefl i),Bool.false_and,Bool.xor_false]at l2
  have es:=l45 hr (i:=(i:Int)) (v:=bI (f i^^g i)) (by omega) (by rw[nk3];omega)
  rw[Int.toNat_natCast]at es
  have hw:=n83 (N:=N) (i:=i) (fun x=>f x^^(decide (x<i)&&g x)) (fun x=>f x^^(decide (x<i+1)&&g x)) (by omega) fun x hx hne=>by
   by_cases h:x<i
   ·rw[decide_eq_true h,decide_eq_true (show x<i+1 by omega)]
   ·rw[decide_eq_false h,decide_eq_false (show¬x<i+1 by omega)]
  simp only[Nat.lt_add_one,decide_true,Bool.true_and]at hw
  rw[hw,List.set_set]at es
  rw[Int.natCast_add,Int.natCast_one]at ih
  have hx:=i40 (f i) (g i)
  rw[ur1 c121L0.eq_def,←ih]
  simp(disch:=first|omega|(simp only[rl9,wi2,q89]<;>omega)|fail) only[push_cast,seval,wrap64,dec_lt,cw6,nl3,qc6,mr8,nb8,if_pos,if_neg,Int.natCast_add,Int.natCast_one,Int.natCast_zero,Int.toNat_natCast,l1,l2,hx,es]
end
theorem fc0:((List.range 32).all fun x:Nat=>(List.range 32).all fun s:Nat=>decide (Go.bits .andNot .i64 (x:Int) (s:Int)=((offM s x:Nat):Int)))=true:=by kernel_rfl
theorem a92{x s:Nat}(hx:x<32)(hs:s<32):Go.bits .andNot .i64 (x:Int) (s:Int)=((offM s x:Nat):Int):=
 of_decide_eq_true (List.all_eq_true.1 (List.all_eq_true.1 fc0 x (List.mem_range.2 hx)) s (List.mem_range.2 hs))
section
variable {h:H} {sw:Option Addr} {cw N:Nat} {f:Nat→Bool}
theorem z61(hN:N≤32)(hw:RdI h sw cw (wl N f)){s b:Nat}(hs:s<32)(hb:b<32)(o a:Int): ∀(n x:Nat) (acc:Bool),x+n=N→ ∀ks,
 goL T [.tmp 6] [0,1,7,8,9,10,13,14,22,23] c124L0 (.blk 2 [0,1,7,8,10,13,14]::ks) [(0, .slice sw N cw),(1, .int .i64 s),(7, .int .i64 o),(8, .int .i64 a),(9, .int .i64 b),(10, .int .i64 (bI acc)),(13, .int .i64 N),(14, .int .i64 b),(22, .int .i64 N),(23, .int .i64 x)] h=
  go T [.tmp 6] ks (Fr.of [(0, .slice sw N cw),(1, .int .i64 s),(7, .int .i64 o),(8, .int .i64 a),(10, .int .i64 (bI (acc^^xorL ((List.range' x n).filter fun x=>offM s x==b) f))),(13, .int .i64 N),(14, .int .i64 b)]) h
 |0,x,acc,hx,ks=>by
  have hz:(acc^^xorL ((List.range' x 0).filter fun x=>offM s x==b) f)=acc:=by simp[xorL]
  rw[hz,ur1 c124L0.eq_def]
  simp(disch:=first|omega|(simp only[rl9,wi2,q89]<;>omega)|fail) only[push_cast,seval,wrap64,dec_lt,cw6,nl3,qc6,mr8,nb8,if_pos,if_neg,Int.natCast_add,Int.natCast_one,Int.natCast_zero,Int.toNat_natCast]
 |n+1,x,acc,hx,ks=>by
  have IH:=z61 hN hw hs hb o a n (x+1)
  have hf:=a92 (x:=x) (s:=s) (by omega) hs
  rw[List.range'_succ,List.filter_cons]
  by_cases he:offM s x=b
  ·obtain⟨ob,offb,rfl,_,l1⟩:=hw.at (i:=x) (by rw[nk3];omega)
   rw[z09 f (by omega)]at l1
   have ih:=IH (acc^^f x) (by omega) ks
   rw[Int.natCast_add,Int.natCast_one]at ih
   rw[if_pos (by simpa using he),ti0,←Bool.xor_assoc]
   have hx2:=i40 acc (f x)
   rw[he]at hf
   rw[ur1 c124L0.eq_def,←ih]
   simp(disch:=first|omega|(simp only[rl9,wi2,q89]<;>omega)|fail) only[push_cast,seval,wrap64,dec_lt,cw6,nl3,qc6,mr8,nb8,if_pos,if_neg,Int.natCast_add,Int.natCast_one,Int.natCast_zero,Int.toNat_natCast,hf,l1,hx2]
  ·have ih:=IH acc (by omega) ks
   rw[Int.natCast_add,Int.natCast_one]at ih
   rw[if_neg (by simpa using he)]
   obtain⟨v,hv⟩: ∃v:Int,v=((offM s x:Nat):Int):=⟨_,rfl⟩
   rw[←hv]at hf
   have hne: ¬v=(b:Int):=by rw[hv];omega
   rw[ur1 c124L0.eq_def,←ih]
   simp(disch:=first|omega|(simp only[rl9,wi2,q89]<;>omega)|fail) only[push_cast,seval,wrap64,dec_lt,cw6,nl3,qc6,mr8,nb8,if_pos,if_neg,Int.natCast_add,Int.natCast_one,Int.natCast_zero,Int.toNat_natCast,hf,nb8 hne]
def ry7(m s:Nat)(f:Nat→Bool)(l:List Nat):Nat:=((l.filter fun b=>b&&&s==0).filter fun b=>xorL (cosN m s b) f).length
theorem g48{m:Nat}(hm:m≤5)(hNe:N=2^m)(hw:RdI h sw cw (wl N f)){s:Nat}(hs:s<32): ∀(n b o a:Nat),b+n=N→o+n≤100→a+n≤100→ ∀ks,
 goL T [.tmp 6] [0,1,7,8,13,14] c124L1 (.blk 0 [7,8]::ks) [(0, .slice sw N cw),(1, .int .i64 s),(7, .int .i64 o),(8, .int .i64 a),(13, .int .i64 N),(14, .int .i64 b)] h=
  go T [.tmp 6] ks (Fr.of [(7, .int .i64 (o+ry7 m s f (List.range' b n):Nat)),(8, .int .i64 (a+((List.range' b n).filter fun b=>b&&&s==0).length:Nat))]) h
 |0,b,o,a,hb,h1,h2,ks=>by
  have hz:ry7 m s f (List.range' b 0)=0:=by simp[ry7]
  have hz2:((List.range' b 0).filter fun b=>b&&&s==0).length=0:=by simp
  rw[hz,hz2,Nat.add_zero,Nat.add_zero,ur1 c124L1.eq_def]
  simp(disch:=first|omega|(simp only[rl9,wi2,q89]<;>omega)|fail) only[push_cast,seval,wrap64,dec_lt,cw6,nl3,qc6,mr8,nb8,if_pos,if_neg,Int.natCast_add,Int.natCast_one,Int.natCast_zero,Int.toNat_natCast]
 |n+1,b,o,a,hb,h1,h2,ks=>by
  have hN:=ov6 hm
  rw[←hNe]at hN
  have IH:=g48 hm hNe hw hs n (b+1)
  have ha:=ga1 (x:=b) (s:=s) (by omega) hs
  by_cases he:b&&&s=0
  ·have e1:=fun ks=>z61 hN hw hs (b:=b) (by omega) (o:Int) (a:Int) N 0 false (by omega) ks
   have hc:((List.range' 0 N).filter fun x=>offM s x==b)=cosN m s b:=by rw[←List.range_eq_range',hNe];rfl
   rw[hc,Bool.false_xor]at e1
   obtain⟨v,hv⟩: ∃v,v=xorL (cosN m s b) f:=⟨_,rfl⟩
   rw[←hv]at e1
   have hl:((List.range' b (n+1)).filter fun b=>b&&&s==0).length=1+((List.range' (b+1) n).filter fun b=>b&&&s==0).length:=by
    rw[List.range'_succ,List.filter_cons,if_pos (by simpa using he),List.length_cons,Nat.add_comm]
   have ho:ry7 m s f (List.range' b (n+1))=(if v=true then 1 else 0)+ry7 m s f (List.range' (b+1) n):=by
    unfold ry7
    rw[List.range'_succ,List.filter_cons,if_pos (by simpa using he),List.filter_cons,←hv]
    cases v with
    |true=>rw[if_pos rfl,if_pos rfl,List.length_cons,Nat.add_comm]
    |false=>rw[if_neg (by decide),if_neg (by decide),Nat.zero_add]
   have ih:=IH (o+if v=true then 1 else 0) (a+1) (by omega) (by split<;>omega) (by omega) ks
   rw[hl,ho,←Nat.add_assoc,←Nat.add_assoc,←ih]
   have hbv:(((o+if v=true then 1 else 0:Nat):Nat):Int)=(o:Int)+bI v:=by cases v<;>simp[bI]
   have hbr:0≤bI v∧bI v≤1:=by cases v<;>simp[bI]
   rw[he,Int.natCast_zero]at ha
   rw[hbv,Int.natCast_add,Int.natCast_one,Int.natCast_add,Int.natCast_one]
   have hf0:bI false=0:=rfl
   rw[hf0]at e1
   simp only[Int.natCast_zero]at e1
   rw[ur1 c124L1.eq_def]
   simp(disch:=first|omega|(simp only[rl9,wi2,q89]<;>omega)|fail) only[push_cast,seval,wrap64,dec_lt,cw6,nl3,qc6,mr8,nb8,if_pos,if_neg,Int.natCast_add,Int.natCast_one,Int.natCast_zero,Int.toNat_natCast,ha]
   rw[e1]
   simp(disch:=first|omega|(simp only[rl9,wi2,q89]<;>omega)|fail) only[push_cast,seval,wrap64,dec_lt,cw6,nl3,qc6,mr8,nb8,if_pos,if_neg,Int.natCast_add,Int.natCast_one,Int.natCast_zero,Int.toNat_natCast]
  ·have hl:((List.range' b (n+1)).filter fun b=>b&&&s==0).length=((List.range' (b+1) n).filter fun b=>b&&&s==0).length:=by
    rw[List.range'_succ,List.filter_cons,if_neg (by simpa using he)]
   have ho:ry7 m s f (List.range' b (n+1))=ry7 m s f (List.range' (b+1) n):=by
    unfold ry7
    rw[List.range'_succ,List.filter_cons,if_neg (by simpa using he)]
   have ih:=IH o a (by omega) (by omega) (by omega) ks
   rw[hl,ho,←ih]
   rw[Int.natCast_add,Int.natCast_one]
   obtain⟨v,hv⟩: ∃v:Int,v=((b&&&s:Nat):Int):=⟨_,rfl⟩
   rw[←hv]at ha
   have hne: ¬v=(0:Int):=by rw[hv];omega
   rw[ur1 c124L1.eq_def]
   simp(disch:=first|omega|(simp only[rl9,wi2,q89]<;>omega)|fail) only[push_cast,seval,wrap64,dec_lt,cw6,nl3,qc6,mr8,nb8,if_pos,if_neg,Int.natCast_add,Int.natCast_one,Int.natCast_zero,Int.toNat_natCast,ha,nb8 hne]
theorem yt6{m:Nat}(hm:m≤5)(hNe:N=2^m)(hw:RdI h sw cw (wl N f)){s:Nat}(hs:s<32):call T 124 [.slice sw N cw, .int .i64 s, .int .i64 m] h=some (.bool (u18 m f s),h):=by
 have hN:=ov6 hm
 have hsh:=ug1 hm
 rw[←hNe]at hN hsh
 have e:=fun ks=>g48 hm hNe hw hs N 0 0 0 (by omega) (by omega) (by omega) ks
 rw[←List.range_eq_range',Nat.zero_add,Nat.zero_add]at e
 have h1:ry7 m s f (List.range N)=((basN m s).filter fun b=>xorL (cosN m s b) f).length:=by rw[hNe];rfl
 have h2:((List.range N).filter fun b=>b&&&s==0).length=(basN m s).length:=by rw[hNe];rfl
 rw[h1,h2]at e
 simp only[Int.natCast_zero]at e
 unfold u18
 have hb1:(basN m s).length≤N:=by rw[←h2];have:=List.length_filter_le (fun b=>b&&&s==0) (List.range N);rwa [List.length_range]at this
 have hb2:=List.length_filter_le (fun b=>xorL (cosN m s b) f) (basN m s)
 obtain⟨O,hO⟩: ∃O,O=((basN m s).filter fun b=>xorL (cosN m s b) f).length:=⟨_,rfl⟩
 obtain⟨A,hA⟩: ∃A,A=(basN m s).length:=⟨_,rfl⟩
 rw[←hO]at e hb2⊢
 rw[←hA]at e hb1 hb2⊢
 rw[wn8 T124 rfl]
 unfold F124 c124
 simp(disch:=first|omega|(simp only[rl9,wi2,q89]<;>omega)|fail) only[push_cast,seval,wrap64,dec_lt,cw6,nl3,qc6,mr8,nb8,if_pos,if_neg,Int.natCast_add,Int.natCast_one,Int.natCast_zero,Int.toNat_natCast,hsh]
 rw[e]
 by_cases hlt:A<2*O
 ·rw[decide_eq_true hlt]
  simp(disch:=first|omega|(simp only[rl9,wi2,q89]<;>omega)|fail) only[push_cast,seval,wrap64,dec_lt,cw6,nl3,qc6,mr8,nb8,if_pos,if_neg,Int.natCast_add,Int.natCast_one,Int.natCast_zero,Int.toNat_natCast]
 ·rw[decide_eq_false hlt]
  simp(disch:=first|omega|(simp only[rl9,wi2,q89]<;>omega)|fail) only[push_cast,seval,wrap64,dec_lt,cw6,nl3,qc6,mr8,nb8,if_pos,if_neg,Int.natCast_add,Int.natCast_one,Int.natCast_zero,Int.toNat_natCast]
end
def msg(l:List Nat)(c:Nat→Bool):List Int:=l.map fun s=>bI (c s)
theorem o64(l:List Nat)(c:Nat→Bool):(msg l c).length=l.length:=by simp[msg]
theorem fp7(l:List Nat):(cst l).length=l.length:=by simp[cst]
theorem rx5{l:List Nat}{i s:Nat}(h:l[i]? =some s):gi (cst l) i=(s:Int):=by
 unfold gi cst;rw[List.getD_eq_getElem?_getD,Int.toNat_natCast,List.getElem?_map,h];rfl
theorem sr4{l:List Nat}{i s:Nat}(c:Nat→Bool)(h:l[i]? =some s):gi (msg l c) i=bI (c s):=by
 unfold gi msg;rw[List.getD_eq_getElem?_getD,Int.toNat_natCast,List.getElem?_map,h];rfl
section
variable {hF:H} {l:List Nat} {c:Nat→Bool} {sm sl:Option Addr} {cm' cl N o:Nat}
end
section
variable {h:H} {sa sb:Option Addr} {ca cb N:Nat} {f g:Nat→Bool}
end
section
variable {h:H} {N o:Nat} {f g:Nat→Bool} {sb:Option Addr} {cb:Nat}
theorem wm2{h:H}{o:Nat}{r:Row}(hr:h.row o=some r):h.set o (.row r)=h:=by
 have h0:h[o]? =some (.row r):=by
  unfold H.row at hr
  split at hr
  ·rename_i x hx;cases hr;exact hx
  ·cases hr
 obtain⟨h1,h2⟩:=List.getElem?_eq_some_iff.1 h0
 rw[←h2];exact List.set_getElem_self h1
theorem tx6{o':Nat}(hN:N≤32)(hne:o≠o')(hr:h.row o=some ⟨ints (wl N f),3,1,true⟩)(hr':h.row o'=some ⟨ints (wl N g),3,1,true⟩):
 call T 121 [.slice (some ⟨o,0,none⟩) N N, .slice (some ⟨o',0,none⟩) N N] h=some (.tuple #[],h.set o (.row ⟨ints (wl N fun x=>f x^^g x),3,1,true⟩)):=by
 have hw:wl N f=wl N (fun x=>f x^^(decide (x<0)&&g x)):=tr4 fun x _=>by rw[decide_eq_false (Nat.not_lt_zero x),Bool.false_and,Bool.xor_false]
 have hb: ∀z:List Int,RdI (h.set o (.row ⟨ints z,3,1,true⟩)) (some ⟨o',0,none⟩) N (wl N g):=fun z=>by
  have h1:H.row (h.set o (.row ⟨ints z,3,1,true⟩)) o'=some ⟨ints (wl N g),3,1,true⟩:=by rw[jl1 hne];exact hr'
  have:=RdI.ofRow h1 rfl
  rwa [nk3]at this
 have k3:=fun ks=>ua8 hN (h44 hr) hb f N 0 (by omega) ks
 rw[←hw,wm2 hr]at k3
 simp only[Int.natCast_zero]at k3
 rw[wn8 T121 rfl]
 unfold F121 c121
 simp(disch:=first|omega|(simp only[rl9,wi2,q89]<;>omega)|fail) only[push_cast,seval]
 rw[k3]
 simp(disch:=first|omega|(simp only[rl9,wi2,q89]<;>omega)|fail) only[push_cast,seval]
end
section
variable {h:H} {sa:Option Addr} {ca N:Nat} {f:Nat→Bool}
theorem l53(hN:N≤32)(ha:RdI h sa ca (wl N f)): ∀(n x k:Nat),x+n=N→k+n≤100→ ∀ks,
 goL T [.tmp 2] [3,6,7,8] c77L0 (.blk 0 [3]::ks) [(3, .int .i64 k),(6, .slice sa N ca),(7, .int .i64 N),(8, .int .i64 x)] h=
  go T [.tmp 2] ks (Fr.of [(3, .int .i64 (k+((List.range' x n).filter f).length:Nat))]) h
 |0,x,k,hx,hk,ks=>by
  have hz:((List.range' x 0).filter f).length=0:=by simp
  rw[hz,Nat.add_zero,ur1 c77L0.eq_def]
  simp(disch:=first|omega|(simp only[rl9,wi2,q89]<;>omega)|fail) only[push_cast,seval,wrap64,dec_lt,cw6,nl3,qc6,mr8,nb8,if_pos,if_neg,Int.natCast_add,Int.natCast_one,Int.natCast_zero,Int.toNat_natCast]
 |n+1,x,k,hx,hk,ks=>by
  have IH:=l53 hN ha n (x+1)
  obtain⟨oa,fa,rfl,_,l1⟩:=ha.at (i:=x) (by rw[nk3];omega)
  rw[z09 f (by omega)]at l1
  rw[List.range'_succ,List.filter_cons]
  cases hx:f x with
  |true=>
   rw[hx,show bI true=1 from rfl]at l1
   have ih:=IH (k+1) (by omega) (by omega) ks
   rw[Int.natCast_add,Int.natCast_one,Int.natCast_add,Int.natCast_one]at ih
   rw[if_pos rfl,List.length_cons,show∀a:Nat,k+(a+1)=k+1+a by omega,←ih,ur1 c77L0.eq_def]
   simp(disch:=first|omega|(simp only[rl9,wi2,q89]<;>omega)|fail) only[push_cast,seval,wrap64,dec_lt,cw6,nl3,qc6,mr8,nb8,if_pos,if_neg,Int.natCast_add,Int.natCast_one,Int.natCast_zero,Int.toNat_natCast,l1]
  |false=>
   rw[hx,show bI false=0 from rfl]at l1
   have ih:=IH k (by omega) (by omega) ks
   rw[Int.natCast_add,Int.natCast_one]at ih
   rw[if_neg (by decide),←ih,ur1 c77L0.eq_def]
   simp(disch:=first|omega|(simp only[rl9,wi2,q89]<;>omega)|fail) only[push_cast,seval,wrap64,dec_lt,cw6,nl3,qc6,mr8,nb8,if_pos,if_neg,Int.natCast_add,Int.natCast_one,Int.natCast_zero,Int.toNat_natCast,l1]
theorem cr0(hN:N≤32)(ha:RdI h sa ca (wl N f)):call T 77 [.slice sa N ca] h=some (.int .i64 ((List.range N).filter f).length,h):=by
 have e:=fun ks=>l53 hN ha N 0 0 (by omega) (by omega) ks
 rw[←List.range_eq_range',Nat.zero_add]at e
 simp only[Int.natCast_zero]at e
 rw[wn8 T77 rfl]
 unfold F77 c77
 simp(disch:=first|omega|(simp only[rl9,wi2,q89]<;>omega)|fail) only[push_cast,seval]
 rw[e]
 simp(disch:=first|omega|(simp only[rl9,wi2,q89]<;>omega)|fail) only[push_cast,seval]
end
section
variable {h:H}
end
section
variable {h:H}
end
def qr3(q:Int):List Int→List Int×Bool
 | []=>([],false)
 |a::l=>match qr3 q l with
  |(l',true)=>(a::l',true)
  |(l',false)=>if a+1<q then((a+1)::l',true)else(0::l',false)
theorem pd1(q:Int): ∀l,(qr3 q l).1.length=l.length
 | []=>rfl
 |a::l=>by
  have ih:=pd1 q l
  rw[qr3]
  generalize qr3 q l=x at ih⊢
  obtain⟨l',b⟩:=x
  cases b
  ·simp only
   split<;>simpa using ih
  ·simpa using ih
theorem vq6{q:Int}{s s':List Int}(h:qr3 q s=(s',true)): ∀p:List Int,qr3 q (p++s)=(p++s',true)
 | []=>h
 |a::p=>by rw[List.cons_append,qr3,vq6 h p];rfl
def valS(q:Nat):List Int→Nat
 | []=>0
 |a::l=>a.toNat*q^l.length+valS q l
def digS(q:Int)(l:List Int):Prop:= ∀a∈l,0≤a∧a<q
theorem uc1{q:Nat}: ∀{l:List Int},digS q l→valS q l<q^l.length
 | [],_=>by simp[valS]
 |a::l,h=>by
  have h1:=h a (by simp)
  have ih:=uc1 (l:=l) fun b hb=>h b (by simp[hb])
  rw[valS,List.length_cons,Nat.pow_succ,Nat.mul_comm (q^l.length)]
  have h2:(a.toNat+1)*q^l.length≤q*q^l.length:=Nat.mul_le_mul_right _ (by omega)
  rw[Nat.add_mul,Nat.one_mul]at h2
  omega
theorem jd2{q:Nat}(hq:0<q): ∀{l:List Int},digS q l→digS q (qr3 q l).1∧(if(qr3 q l).2=true then valS q (qr3 q l).1=valS q l+1 else valS q l+1=q^l.length∧ ∀a∈(qr3 q l).1,a=0)
 | [],_=>by simp[qr3,valS,digS]
 |a::l,h=>by
  have h1:=h a (by simp)
  obtain⟨k1,k2⟩:=jd2 hq (l:=l) fun b hb=>h b (by simp[hb])
  have hl:=pd1 q l
  rw[qr3]
  generalize hx:qr3 q l=x at k1 k2 hl⊢
  obtain⟨l',b⟩:=x
  simp only at k1 k2 hl
  cases b with
  |true=>
   simp only[if_true]at k2⊢
   refine⟨fun c hc=> ?_, ?_⟩
   ·rcases List.mem_cons.1 hc with rfl|hc
    ·exact h1
    ·exact k1 c hc
   ·rw[valS,valS,hl,k2];omega
  |false=>
   simp only[Bool.false_eq_true,if_false]at k2⊢
   have hz: ∀{m:List Int},(∀a∈m,a=0)→valS q m=0:=by
    intro m
    induction m with
    |nil=>intro _;rfl
    |cons c m ih=>intro hm;rw[valS,ih fun a ha=>hm a (by simp[ha]),hm c (by simp)];simp
   by_cases hlt:a+1<q
   ·rw[if_pos hlt]
    simp only[if_true]
    refine⟨fun c hc=> ?_, ?_⟩
    ·rcases List.mem_cons.1 hc with rfl|hc
     ·omega
     ·exact k1 c hc
    ·rw[valS,valS,hz k2.2,hl,Nat.add_zero,Nat.add_assoc,k2.1,show(a+1).toNat=a.toNat+1 by omega,Nat.add_mul,Nat.one_mul]
   ·rw[if_neg hlt]
    simp only[Bool.false_eq_true,if_false]
    refine⟨fun c hc=> ?_, ?_,fun c hc=> ?_⟩
    ·rcases List.mem_cons.1 hc with rfl|hc
     ·omega
     ·exact k1 c hc
    ·rw[valS,List.length_cons,Nat.add_assoc,k2.1,show a.toNat=q-1 by omega,Nat.pow_succ,Nat.mul_comm (q^l.length),Nat.sub_mul,Nat.one_mul]
     have:q^l.length≤q*q^l.length:=Nat.le_mul_of_pos_left _ hq
     omega
    ·rcases List.mem_cons.1 hc with rfl|hc
     ·rfl
     ·exact k2.2 c hc
section
variable {hF:H} {q:Int}
theorem ri5{p s:List Int}{a b:Int}{i:Nat}(hi:p.length=i):(p++a::s).set i b=p++b::s:=by
 subst hi;simp
end
def mixM(l:List Nat)(a b:Nat→Bool)(i:Nat):List Int:=msg (l.take i) a++msg (l.drop i) b
theorem lh8(l:List Nat)(a b:Nat→Bool):mixM l a b 0=msg l b:=by simp[mixM,msg]
theorem ui8(l:List Nat)(a b:Nat→Bool):mixM l a b l.length=msg l a:=by simp[mixM,msg]
theorem h18(l:List Nat)(a b:Nat→Bool)(i:Nat):(mixM l a b i).length=l.length:=by
 simp only[mixM,List.length_append,o64,List.length_take,List.length_drop];omega
theorem rf2{l:List Nat}{i s:Nat}(a b:Nat→Bool)(hs:l[i]? =some s):(mixM l a b i).set i (bI (a s))=mixM l a b (i+1):=by
 obtain⟨h1,h2⟩:=List.getElem?_eq_some_iff.1 hs
 have hl:(msg (l.take i) a).length=i:=by rw[o64,List.length_take];omega
 unfold mixM
 rw[List.set_append_right _ _ (by omega),hl,Nat.sub_self,List.drop_eq_getElem_cons h1,List.take_succ_eq_append_getElem h1,h2]
 simp[msg]
theorem ma9{l:List Nat}{i s:Nat}(a b:Nat→Bool)(hs:l[i]? =some s)(he:a s=b s):mixM l a b i=mixM l a b (i+1):=by
 obtain⟨h1,h2⟩:=List.getElem?_eq_some_iff.1 hs
 unfold mixM
 rw[List.drop_eq_getElem_cons h1,List.take_succ_eq_append_getElem h1,h2]
 simp[msg,he]
theorem bl1{α:Type}(l:List α)(a:α)(p:α→Bool):xorL (l++[a]) p=(xorL l p^^p a):=by rw[vn3,ti0,rq8,Bool.xor_false]
theorem vx9{h h':H}{o:Nat}{r:Row}(hr:h.row o=some r)(hp:h<+:h'):h'.row o=some r:=by rw[m20 hp (h44 hr)];exact hr
section
variable {hF:H} {l:List Nat} {r m N n o1 o2 o3:Nat} {f M:Nat→Bool} {sl:Option Addr} {cl:Nat}
theorem o21(hr:r≤5)(hm:m≤5)(hNe:N=2^m)(hn:n≤5)(hl: ∀s∈l,s<32)(hll:l.length≤1000)(hmon:RdI hF sl cl (cst l))(ho:hF.length≤o1)(h13:o1<o3)(h32:o3<o2): ∀(k i:Nat) (G:H),i+k=l.length→hF<+:G→
 G.row o1=some ⟨ints (mixM l (fun s=>M s||(popT s==n&&u18 m f s)) M i),3,1,true⟩→G.row o3=some ⟨ints (wl N f),3,1,true⟩→G.row o2=some ⟨ints (wl N fun x=>xorL (l.take i) fun s=>(popT s==n&&u18 m f s)&&inM s x),3,1,true⟩→
 ∃G':H,hF<+:G'∧G'.row o1=some ⟨ints (msg l fun s=>M s||(popT s==n&&u18 m f s)),3,1,true⟩∧G'.row o3=some ⟨ints (wl N f),3,1,true⟩∧G'.row o2=some ⟨ints (wl N fun x=>xorL l fun s=>(popT s==n&&u18 m f s)&&inM s x),3,1,true⟩∧ ∀ks,
  goL T [.tmp 6, .tmp 7, .tmp 8, .tmp 9] [0,1,6,11,12,13,14,46,47,48] c66L0 (.blk 2 [0,1,6,11,12,13,14]::ks) [(0, .int .i64 r),(1, .int .i64 m),(6, .slice (some ⟨o1,0,none⟩) l.length l.length),(11, .slice sl l.length cl),(12, .slice (some ⟨o3,0,none⟩) N N),(13, .int .i64 n),(14, .slice (some ⟨o2,0,none⟩) N N),(46, .slice sl l.length cl),(47, .int .i64 l.length),(48, .int .i64 i)] G=
   go T [.tmp 6, .tmp 7, .tmp 8, .tmp 9] ks (Fr.of [(0, .int .i64 r),(1, .int .i64 m),(6, .slice (some ⟨o1,0,none⟩) l.length l.length),(11, .slice sl l.length cl),(12, .slice (some ⟨o3,0,none⟩) N N),(13, .int .i64 n),(14, .slice (some ⟨o2,0,none⟩) N N)]) G'
 |0,i,G,hi,hp,r1,r3,r2=>by
  have hie:i=l.length:=by omega
  subst hie
  rw[ui8]at r1
  rw[List.take_length]at r2
  refine⟨G,hp,r1,r3,r2,fun ks=> ?_⟩
  rw[ur1 c66L0.eq_def]
  simp(disch:=first|omega|(simp only[rl9,wi2,q89]<;>omega)|fail) only[push_cast,seval,wrap64,dec_lt,cw6,nl3,qc6,mr8,nb8,if_pos,if_neg,Int.natCast_add,Int.natCast_one,Int.natCast_zero,Int.toNat_natCast]
 |k+1,i,G,hi,hp,r1,r3,r2=>by
  have IH:=o21 hr hm hNe hn hl hll hmon ho h13 h32 k (i+1)
  have hN:=ov6 hm
  rw[←hNe]at hN
  obtain⟨s,hs⟩:=ge6 (l:=l) (i:=i) (by omega)
  have hs32:=hl s (List.mem_of_getElem? hs)
  have htk:l.take (i+1)=l.take i++[s]:=by
   obtain⟨h1,h2⟩:=List.getElem?_eq_some_iff.1 hs
   rw[List.take_succ_eq_append_getElem h1,h2]
  obtain⟨ol,fl,rfl,_,l1⟩:=(hmon.mono hp).at (i:=i) (by rw[fp7];omega)
  rw[rx5 hs]at l1
  have e1:=qo7 (h:=G) hs32
  have w1:=(xt3 hs32).2
  have e2:=yt6 (f:=f) hm hNe (m26 r3 (nk3 _ _)) hs32
  rw[htk]at IH
  simp only[bl1]at IH
  by_cases hyes:(popT s==n&&u18 m f s)=true
  ·have hat:(M s||(popT s==n&&u18 m f s))=true:=by rw[hyes,Bool.or_true]
   obtain⟨G1,es,p1,q1,f1,g1⟩:=xb6 hp ho r1 (i:=i) (by rw[h18];omega) 1
   have hms:=rf2 (i:=i) (fun s=>M s||(popT s==n&&u18 m f s)) M hs
   rw[show bI ((fun s=>M s||(popT s==n&&u18 m f s)) s)=1 by rw[show(fun s=>M s||(popT s==n&&u18 m f s)) s=true from hat];rfl]at hms
   rw[hms]at q1
   obtain⟨o4,G2,p2,ho4,q4,e4⟩:=cy9 (h:=G1) (s:=s) hm hNe hs32
   have q2:G1.row o2=_:=(f1 o2 (by omega)).trans r2
   have q3:G1.row o3=_:=(f1 o3 (by omega)).trans r3
   have u2:=vx9 q2 p2
   have hlt:=h44 q2
   have e5:=tx6 (h:=G2) (o:=o2) (o':=o4) hN (by omega) u2 q4
   obtain⟨G3,eG3⟩: ∃G3:H,G3=G2.set o2 (.row ⟨ints (wl N fun x=>(xorL (l.take i) fun s=>(popT s==n&&u18 m f s)&&inM s x)^^inM s x),3,1,true⟩):=⟨_,rfl⟩
   rw[←eG3]at e5
   obtain⟨G',k1,k2,k3,k4,k5⟩:=IH G3 (by omega) (by rw[eG3];exact wc3 (p1.trans p2) (by omega)) (by rw[eG3,jl1 (by omega)];exact vx9 q1 p2) (by rw[eG3,jl1 (by omega)];exact vx9 q3 p2) (by
    simp only[hyes,Bool.true_and]
    rw[eG3];exact tr3 (h44 u2))
   refine⟨G',k1,k2,k3,k4,fun ks=> ?_⟩
   have ih:=k5 ks
   rw[Int.natCast_add,Int.natCast_one]at ih
   rw[Bool.and_eq_true,beq_iff_eq]at hyes
   rw[hyes.2]at e2
   have hpn:=hyes.1
   rw[hpn]at e1
   rw[ur1 c66L0.eq_def,←ih]
   simp(disch:=first|omega|(simp only[rl9,wi2,q89]<;>omega)|fail) only[push_cast,seval,wrap64,dec_lt,cw6,nl3,qc6,mr8,nb8,if_pos,if_neg,Int.natCast_add,Int.natCast_one,Int.natCast_zero,Int.toNat_natCast,l1,e1,w1,e2,es,e4,e5]
  ·have hno:(popT s==n&&u18 m f s)=false:=by simpa using hyes
   obtain⟨G',k1,k2,k3,k4,k5⟩:=IH G (by omega) hp (by rw[←ma9 (fun s=>M s||(popT s==n&&u18 m f s)) M hs (by simp only[hno,Bool.or_false])];exact r1) r3 (by
    simp only[hno,Bool.false_and,Bool.xor_false];exact r2)
   refine⟨G',k1,k2,k3,k4,fun ks=> ?_⟩
   have ih:=k5 ks
   rw[Int.natCast_add,Int.natCast_one]at ih
   by_cases hpn:popT s=n
   ·rw[hpn,beq_self_eq_true,Bool.true_and]at hno
    rw[hno]at e2
    rw[hpn]at e1
    rw[ur1 c66L0.eq_def,←ih]
    simp(disch:=first|omega|(simp only[rl9,wi2,q89]<;>omega)|fail) only[push_cast,seval,wrap64,dec_lt,cw6,nl3,qc6,mr8,nb8,if_pos,if_neg,Int.natCast_add,Int.natCast_one,Int.natCast_zero,Int.toNat_natCast,l1,e1,w1,e2]
   ·have hne: ¬((popT s:Nat):Int)=(n:Int):=by omega
    obtain⟨v,hv⟩: ∃v:Int,v=((popT s:Nat):Int):=⟨_,rfl⟩
    rw[←hv]at e1 hne
    rw[ur1 c66L0.eq_def,←ih]
    simp(disch:=first|omega|(simp only[rl9,wi2,q89]<;>omega)|fail) only[push_cast,seval,wrap64,dec_lt,cw6,nl3,qc6,mr8,nb8,if_pos,if_neg,Int.natCast_add,Int.natCast_one,Int.natCast_zero,Int.toNat_natCast,l1,e1,w1,nb8 hne]
end
theorem w53{l:List Nat}{c d:Nat→Bool}(h: ∀s∈l,c s=d s):msg l c=msg l d:=by
 unfold msg
 exact List.map_congr_left fun s hs=>by rw[h s hs]
section
variable {hF:H} {r m N o1 o3:Nat} {w:Nat→Bool} {sl:Option Addr} {cl:Nat}
theorem wm0(hr:r≤5)(hm:m≤5)(hNe:N=2^m)(hll:(monN r m).length≤1000)(hmon:RdI hF sl cl (cst (monN r m)))(ho:hF.length≤o1)(h13:o1<o3): ∀(j k:Nat) (G:H),k+j=r+1→hF<+:G→
 G.row o1=some ⟨ints (msg (monN r m) fun s=>decide (r<popT s+k)&&ua6 r m w s),3,1,true⟩→G.row o3=some ⟨ints (wl N (mq3 r m w k)),3,1,true⟩→
 ∃G':H,hF<+:G'∧G'.row o1=some ⟨ints (msg (monN r m) (ua6 r m w)),3,1,true⟩∧G'.row o3=some ⟨ints (wl N (mq3 r m w (r+1))),3,1,true⟩∧ ∀ks,
  goL T [.tmp 6, .tmp 7, .tmp 8, .tmp 9] [0,1,6,11,12,13] c66L1 (.blk 0 [0,1,6,12]::ks) [(0, .int .i64 r),(1, .int .i64 m),(6, .slice (some ⟨o1,0,none⟩) ((monN r m).length) ((monN r m).length)),(11, .slice sl ((monN r m).length) cl),(12, .slice (some ⟨o3,0,none⟩) N N),(13, .int .i64 ((r:Int)-(k:Int)))] G=
   go T [.tmp 6, .tmp 7, .tmp 8, .tmp 9] ks (Fr.of [(0, .int .i64 r),(1, .int .i64 m),(6, .slice (some ⟨o1,0,none⟩) ((monN r m).length) ((monN r m).length)),(12, .slice (some ⟨o3,0,none⟩) N N)]) G'
 |0,k,G,hk,hp,r1,r3=>by
  have hke:k=r+1:=by omega
  subst hke
  have hmm:(msg (monN r m) fun s=>decide (r<popT s+(r+1))&&ua6 r m w s)=msg (monN r m) (ua6 r m w):=w53 fun s _=>by rw[decide_eq_true (by omega),Bool.true_and]
  rw[hmm]at r1
  refine⟨G,hp,r1,r3,fun ks=> ?_⟩
  rw[ur1 c66L1.eq_def]
  simp(disch:=first|omega|(simp only[rl9,wi2,q89]<;>omega)|fail) only[push_cast,seval,wrap64,dec_lt,cw6,nl3,qc6,mr8,nb8,if_pos,if_neg,Int.natCast_add,Int.natCast_one,Int.natCast_zero,Int.toNat_natCast]
 |j+1,k,G,hk,hp,r1,r3=>by
  have IH:=wm0 hr hm hNe hll hmon ho h13 j (k+1)
  have hN:=ov6 hm
  have hsh:=ug1 hm
  rw[←hNe]at hN hsh
  have hl32: ∀s∈monN r m,s<32:=fun s hs=>by have:=(lu9.1 hs).2;omega
  obtain⟨G1,eG1,p1,q1,g1⟩:=e40 G N 0
  have hz:List.replicate N (0:Int)=wl N (fun x=>xorL ((monN r m).take 0) fun s=>(popT s==r-k&&u18 m (mq3 r m w k) s)&&inM s x):=by
   refine jg0 (by simp[nk3]) fun x hx=> ?_
   rw[List.length_replicate]at hx
   rw[z09 _ hx]
   unfold gi
   simp[hx,bI,xorL]
  rw[hz]at q1
  have h3l:=h44 r3
  have hmix:(msg (monN r m) fun s=>decide (r<popT s+k)&&ua6 r m w s)=mixM (monN r m) (fun s=>(decide (r<popT s+k)&&ua6 r m w s)||(popT s==r-k&&u18 m (mq3 r m w k) s)) (fun s=>decide (r<popT s+k)&&ua6 r m w s) 0:=(lh8 _ _ _).symm
  have r1':=vx9 r1 p1
  rw[hmix]at r1'
  obtain⟨G2,p2,u1,u3,u2,e2⟩:=o21 (hF:=hF) (M:=fun s=>decide (r<popT s+k)&&ua6 r m w s) (f:=mq3 r m w k) (n:=r-k) (o2:=G.length) hr hm hNe (by omega) hl32 hll hmon ho h13 h3l (monN r m).length 0 G1 (by omega) (hp.trans p1) r1' (vx9 r3 p1) q1
  have hM:(msg (monN r m) fun s=>(decide (r<popT s+k)&&ua6 r m w s)||(popT s==r-k&&u18 m (mq3 r m w k) s))=msg (monN r m) fun s=>decide (r<popT s+(k+1))&&ua6 r m w s:=w53 fun s hs=>by
   have hle:=(lu9.1 hs).1
   by_cases h1:popT s=r-k
   ·have hc:ua6 r m w s=u18 m (mq3 r m w k) s:=by unfold ua6;rw[h1,show r-(r-k)=k by omega]
    rw[decide_eq_false (by omega),decide_eq_true (show r<popT s+(k+1) by omega),hc,h1]
    simp
   ·rw[show(popT s==r-k)=false by simpa using h1]
    by_cases h2:r<popT s+k
    ·rw[decide_eq_true h2,decide_eq_true (show r<popT s+(k+1) by omega)];simp
    ·rw[decide_eq_false h2,decide_eq_false (show¬r<popT s+(k+1) by omega)];simp
  rw[hM]at u1
  have e3:=tx6 (h:=G2) (o:=o3) (o':=G.length) hN (by omega) u3 u2
  obtain⟨G3,eG3⟩: ∃G3:H,G3=G2.set o3 (.row ⟨ints (wl N fun x=>mq3 r m w k x^^xorL (monN r m) fun s=>(popT s==r-k&&u18 m (mq3 r m w k) s)&&inM s x),3,1,true⟩):=⟨_,rfl⟩
  rw[←eG3]at e3
  obtain⟨G',k1,k2,k3,k4⟩:=IH G3 (by omega) (by rw[eG3];exact wc3 p2 (by omega)) (by rw[eG3,jl1 (by omega)];exact u1) (by rw[eG3];exact tr3 (h44 u3))
  refine⟨G',k1,k2,k3,fun ks=> ?_⟩
  have ih:=k4 ks
  have hnk:((r-k:Nat):Int)=(r:Int)-(k:Int):=by omega
  rw[hnk]at e2
  rw[Int.natCast_add,Int.natCast_one]at ih
  have hnx:(r:Int)-(k:Int)-1=(r:Int)-((k:Int)+1):=by omega
  simp only[Int.natCast_zero]at e2
  rw[ur1 c66L1.eq_def,←ih]
  simp(disch:=first|omega|(simp only[rl9,wi2,q89]<;>omega)|fail) only[push_cast,seval,wrap64,dec_lt,cw6,nl3,qc6,mr8,nb8,if_pos,if_neg,Int.natCast_add,Int.natCast_one,Int.natCast_zero,Int.toNat_natCast,hsh,eG1]
  rw[e2]
  simp(disch:=first|omega|(simp only[rl9,wi2,q89]<;>omega)|fail) only[push_cast,seval,wrap64,dec_lt,cw6,nl3,qc6,mr8,nb8,if_pos,if_neg,Int.natCast_add,Int.natCast_one,Int.natCast_zero,Int.toNat_natCast,e3,hnx]
end
def fk6(l:List Int):Bool:=l.any fun v=> !(decide (v=0)||decide (v=1))
section
variable {h:H}
theorem ua2(v:Int):call T 122 [.int .i64 v] h=some (.bool (!(decide (v=0)||decide (v=1))),h):=by
 have e1:call T 120 [.int .i64 v] h=some (.bool (decide (v=0)||decide (v=1)),h):=by
  rw[wn8 T120 rfl]
  unfold F120 c120
  by_cases h0:v=0
  ·subst h0
   simp(disch:=first|omega|(simp only[rl9,wi2,q89]<;>omega)|fail) only[push_cast,seval,wrap64,dec_lt,cw6,nl3,qc6,mr8,nb8,if_pos,if_neg,Int.natCast_add,Int.natCast_one,Int.natCast_zero,Int.toNat_natCast]
  ·rw[decide_eq_false h0]
   simp(disch:=first|omega|(simp only[rl9,wi2,q89]<;>omega)|fail) only[push_cast,seval,wrap64,dec_lt,cw6,nl3,qc6,mr8,nb8,if_pos,if_neg,Int.natCast_add,Int.natCast_one,Int.natCast_zero,Int.toNat_natCast,nb8 h0]
 rw[wn8 T122 rfl]
 unfold F122 c122
 simp(disch:=first|omega|(simp only[rl9,wi2,q89]<;>omega)|fail) only[push_cast,seval,wrap64,dec_lt,cw6,nl3,qc6,mr8,nb8,if_pos,if_neg,Int.natCast_add,Int.natCast_one,Int.natCast_zero,Int.toNat_natCast,e1]
end
theorem wm9(m:Nat):0<2^m:=Nat.pow_pos (by decide)
theorem l84{r m:Nat}(hr:r≤5)(hm:m≤5):(monN r m).length≤1000:=by
 have:=gh5 m (r+1) 0
 rw[ve5]at this
 have hN:=ov6 hm
 have h2:(r+1)*2^m≤6*32:=Nat.mul_le_mul (by omega) hN
 omega
section
variable {h:H} {r m N:Nat} {f:Nat→Bool} {sw:Option Addr} {cw:Nat}
def offD(r m:Nat)(f:Nat→Bool):Nat:=offB m (cj7 r m (ua6 r m f)) f
theorem at9(hNe:N=2^m):((List.range N).filter (mq3 r m f (r+1))).length=offD r m f:=by
 rw[hNe];unfold offD offB
 refine congrArg List.length (List.filter_congr fun x _=> ?_)
 rw[hm3,Bool.xor_comm]
theorem ge5(hr:r≤m)(hm:m≤5)(hNe:N=2^m)(hw:RdI h sw cw (wl N f))(hb:fk6 (wl N f)=false)(hm1:1≤m): ∃(o:Nat) (h':H),h<+:h'∧h.length≤o∧h'.row o=some ⟨ints (msg (monN r m) (ua6 r m f)),3,1,true⟩∧
 call T 66 [.int .i64 r, .int .i64 m, .slice sw N cw] h=some (if 2*offD r m f<2^(m-r)then .tuple #[.slice (some ⟨o,0,none⟩) (monN r m).length (monN r m).length, .int .i64 (offD r m f), .bool true, .int .i64 0]else .tuple #[.slice none 0 0, .int .i64 0, .bool false, .int .i64 0],h'):=by
 have hN:=ov6 hm
 have hsh:=ug1 hm
 have hN0:=wm9 m
 rw[←hNe]at hN hsh hN0
 have hll:=l84 (r:=r) (m:=m) (by omega) hm
 have e0:=o89 (h:=h) r m
 have hz0:c11 (r:Int) (m:Int)=0:=by unfold c11;rw[if_neg (by omega),if_neg (by omega)]
 rw[hz0]at e0
 have e1:=wi5 (cap:= #[]) hw (by rw[nk3];omega) (fun v=>ua2 (h:=h) v)
 unfold fk6 at hb
 rw[hb,nk3]at e1
 obtain⟨sl,cl,h1,p1,g1,e2⟩:=as6 (h:=h) (r:=r) (by omega) hm
 obtain⟨L,hL⟩: ∃L,L=(monN r m).length:=⟨_,rfl⟩
 rw[←hL]at hll e2⊢
 obtain⟨G1,eG1,p2,q1,g2⟩:=e40 h1 L 0
 have hw2:=hw.mono (p1.trans p2)
 obtain⟨o3,h3,⟨p3,ho3,q3⟩,e3⟩:=v82 hw2 (by rw[nk3];omega) (by rw[nk3];omega)
 rw[nk3]at e3
 have hz:List.replicate L (0:Int)=msg (monN r m) fun s=>decide (r<popT s+0)&&ua6 r m f s:=by
  refine jg0 (by rw[o64,List.length_replicate,hL]) fun i k1=> ?_
  rw[List.length_replicate,hL]at k1
  obtain⟨s,hs⟩:=ge6 k1
  rw[sr4 _ hs]
  have:=(lu9.1 (List.mem_of_getElem? hs)).1
  rw[decide_eq_false (by omega)]
  unfold gi
  simp[hL,k1,bI]
 rw[hz]at q1
 have q3':h3.row o3=some ⟨ints (wl N (mq3 r m f 0)),3,1,true⟩:=q3
 obtain⟨G',k1,k2,k3,k4⟩:=wm0 (hF:=h1) (w:=f) (by omega) hm hNe (by rw[←hL];exact hll) g1.rd (Nat.le_refl _) (by omega) (r+1) 0 h3 (by omega) (p2.trans p3) (vx9 q1 p3) q3'
 have e4:=cr0 (f:=mq3 r m f (r+1)) hN (m26 k3 (nk3 _ _))
 rw[at9 hNe]at e4
 have hoff:offD r m f≤N:=by
  unfold offD offB
  have:=List.length_filter_le (fun x=>cj7 r m (ua6 r m f) x^^f x) (List.range (2^m))
  rw[List.length_range]at this;omega
 refine⟨h1.length,G',p1.trans k1,p1.length_le,k2, ?_⟩
 obtain⟨K,hK⟩: ∃K,K=m-r:=⟨_,rfl⟩
 have hmr:(m:Int)-(r:Int)=(K:Int):=by omega
 have hs2:=ug1 (m:=K) (by omega)
 have hN2:=ov6 (m:=K) (by omega)
 obtain⟨D,hD⟩: ∃D,D=2^K:=⟨_,rfl⟩
 rw[←hK,←hD]
 rw[←hD]at hs2 hN2
 rw[←hL]at k4
 obtain⟨O,hO⟩: ∃O,O=offD r m f:=⟨_,rfl⟩
 rw[←hO]at hoff e4⊢
 simp only[Int.natCast_zero,Int.sub_zero]at k4
 rw[wn8 T66 rfl]
 unfold F66 c66
 simp(disch:=first|omega|(simp only[rl9,wi2,q89]<;>omega)|fail) only[push_cast,seval,wrap64,dec_lt,cw6,nl3,qc6,mr8,nb8,if_pos,if_neg,Int.natCast_add,Int.natCast_one,Int.natCast_zero,Int.toNat_natCast,e0,hsh,e1,e2,eG1,e3]
 rw[k4]
 by_cases hlt:2*O<D
 ·rw[if_pos hlt]
  simp(disch:=first|omega|(simp only[rl9,wi2,q89]<;>omega)|fail) only[push_cast,seval,wrap64,dec_lt,cw6,nl3,qc6,mr8,nb8,if_pos,if_neg,Int.natCast_add,Int.natCast_one,Int.natCast_zero,Int.toNat_natCast,e4,hmr,hs2]
 ·rw[if_neg hlt]
  simp(disch:=first|omega|(simp only[rl9,wi2,q89]<;>omega)|fail) only[push_cast,seval,wrap64,dec_lt,cw6,nl3,qc6,mr8,nb8,if_pos,if_neg,Int.natCast_add,Int.natCast_one,Int.natCast_zero,Int.toNat_natCast,e4,hmr,hs2]
end
section
variable {hF:H} {r m N:Nat} {f:Nat→Bool} {sw:Option Addr} {cw:Nat}
end
theorem lk4(m:Nat)(a b:Nat→Bool):offB m a b=offB m b a:=by
 unfold offB
 refine congrArg List.length (List.filter_congr fun x _=> ?_)
 rw[Bool.xor_comm]
theorem g74{r m:Nat}(hm:m≤5)(hr:r≤m)(f c:Nat→Bool)(he:2*offB m (cj7 r m c) f<2^(m-r)):offD r m f=offB m (cj7 r m c) f:=by
 have h1:=e63 hm hr f c (by rw[lk4];exact he)
 rw[←at9 (r:=r) (m:=m) (f:=f) rfl]
 unfold offB
 refine congrArg List.length (List.filter_congr fun x _=> ?_)
 rw[h1,Bool.xor_comm]
end Go.Proofs.Ytodbgomfeacdhaa
namespace Go.Proofs.Ytodbgomfeacdhaa
open Go.Am Go.Vm
def decF(cs:List Tree)(x:Nat):Bool:=match cs[x]? with
 |some (.v (.int _ z))=>decide (z=1)
 |_=>false
theorem wi4{N:Nat}{f:Nat→Bool}(hf: ∀x,N≤x→f x=false):decF (ivs (wl N f))=f:=by
 funext x
 unfold decF ivs wl
 by_cases hx:x<N
 ·rw[List.getElem?_map,List.getElem?_map,List.getElem?_range hx]
  show decide (bI (f x)=1)=f x
  cases f x<;>rfl
 ·rw[List.getElem?_eq_none (by simp;omega),hf x (by omega)]
theorem vj2(N:Nat)(f:Nat→Bool):fk6 (wl N f)=false:=by
 unfold fk6 wl
 rw[List.any_eq_false]
 intro v hv
 obtain⟨s,_,rfl⟩:=List.mem_map.1 hv
 cases f s<;>simp[bI]
def decP(R M:Nat)(cs:List Tree):Prop:=R≤M∧M≤5∧1≤M∧cs=ivs (wl (2^M) (decF cs))∧2*offD R M (decF cs)<2^(M-R)
def decR(l:List Int)(o:Nat):VRes:=(.tup [.own 0 [], .x (.int .i64 o), .x (.bool true), .x (.int .i64 0)],[.sl (nlT l) 3 1 (ivs l)],[])
open Classical in
noncomputable def ok5:List AV→Rts→Option VRes
 | [.x (.int .i64 r), .x (.int .i64 m), .fz b (.sl nl 0 1 cs)],[]=>if 0≤r∧0≤m∧decP r.toNat m.toNat cs then some (decR (msg (monN r.toNat m.toNat) (ua6 r.toNat m.toNat (decF cs))) (offD r.toNat m.toNat (decF cs)))else none
 |_,_=>none
theorem e41{b:Bool}{nl R M:Nat}{f:Nat→Bool}(h1:R≤M)(h2:M≤5)(h3:1≤M)(hf: ∀x,2^M≤x→f x=false)(hd:2*offD R M f<2^(M-R)):ok5 [.x (.int .i64 R), .x (.int .i64 M), .fz b (.sl nl 0 1 (ivs (wl (2^M) f)))] []=some (decR (msg (monN R M) (ua6 R M f)) (offD R M f)):=by
 unfold ok5 decP
 simp only[Int.toNat_natCast,wi4 hf]
 rw[if_pos ⟨by omega,by omega,h1,h2,h3,trivial,hd⟩]
theorem ps6{xs0:List AV}{C:Rts}{r:VRes}(he:ok5 xs0 C=some r):VOK T 66 xs0 C r:=by
 unfold ok5 at he
 split at he
 ·rename_i r m b nl cs
  split at he
  ·rename_i hz
   obtain⟨r0,m0,h1,h2,h3,h4,h5⟩:=hz
   obtain⟨R,rfl⟩: ∃R:Nat,r=R:=⟨r.toNat,by omega⟩
   obtain⟨M,rfl⟩: ∃M:Nat,m=M:=⟨m.toNat,by omega⟩
   simp only[Int.toNat_natCast]at*
   generalize hF:decF cs=f at*
   subst h4
   cases he
   intro h Ac Z Zp ws i hC hv hk
   obtain rfl:Ac=[]:=by cases Ac with
    |nil=>rfl
    |cons=>cases hC
   rw[Vm.VRL]at hv
   obtain⟨w,ws',rfl,k1,k2⟩:=hv
   rw[Vm.VRL]at k2
   obtain⟨w2,ws2,rfl,k3,k4⟩:=k2
   rw[Vm.VRL]at k4
   obtain⟨w3,ws3,rfl,k5,k6⟩:=k4
   rw[Vm.VRL]at k6
   rw[Vm.VR]at k1
   rw[Vm.VR]at k3
   rw[Vm.VR]at k5
   subst k1 k3 k6
   obtain⟨sa,c,rfl,hr⟩:=nl5 k5
   rw[nk3]
   obtain⟨o,h',p,ho,q,e⟩:=ge5 h1 h2 rfl hr (vj2 _ _) h3
   rw[if_pos h5]at e
   have g:Grown h' (some ⟨o,0,none⟩) (msg (monN R M) (ua6 R M f)).length (msg (monN R M) (ua6 R M f)) h.length:= .inr ⟨o,rfl,ho,rfl,q⟩
   obtain⟨a,P⟩:=re9 i p g
   rw[o64]at P
   refine⟨_,h',[],[a],Z,Zp,e,⟨P.s,P.k,P.inv,P.ext, ?_,P.len,P.pin⟩⟩
   unfold decR
   simp only[]
   rw[Vm.VR]
   exact⟨[_,_,_,_],rfl, .cons P.v (.cons (by rw[Vm.VR]) (.cons (by rw[Vm.VR]) (.cons (by rw[Vm.VR]) .nil)))⟩
  ·cases he
 ·cases he
end Go.Proofs.Ytodbgomfeacdhaa
namespace Go.Alg
class FK (K:Type) extends Zero K,One K,Add K,Mul K,Neg K where
 inv:K→K
 deq:DecidableEq K
 add_assoc: ∀a b c:K,a+b+c=a+(b+c)
 add_comm: ∀a b:K,a+b=b+a
 add_zero: ∀a:K,a+0=a
 add_neg: ∀a:K,a+ -a=0
 mul_assoc: ∀a b c:K,a*b*c=a*(b*c)
 mul_comm: ∀a b:K,a*b=b*a
 mul_one: ∀a:K,a*1=a
 mul_add: ∀a b c:K,a*(b+c)=a*b+a*c
 mul_inv: ∀a:K,a≠0→a*inv a=1
 zero_ne:(0:K)≠1
instance {K:Type} [FK K]:DecidableEq K:=FK.deq
instance {K:Type} [FK K]:Sub K:=⟨fun a b=>a+ -b⟩
section
variable {K:Type} [FK K]
theorem sub_eq(a b:K):a-b=a+ -b:=rfl
theorem zero_add(a:K):0+a=a:=by rw[FK.add_comm,FK.add_zero]
theorem neg_add(a:K): -a+a=0:=by rw[FK.add_comm,FK.add_neg]
theorem one_mul(a:K):1*a=a:=by rw[FK.mul_comm,FK.mul_one]
theorem add_mul(a b c:K):(a+b)*c=a*c+b*c:=by rw[FK.mul_comm,FK.mul_add,FK.mul_comm c a,FK.mul_comm c b]
theorem g50{a b c:K}(h:a+b=a+c):b=c:=by
 have:=congrArg (fun x=> -a+x) h
 simpa only[←FK.add_assoc,neg_add,zero_add]using this
theorem mul_zero(a:K):a*0=0:=by
 have h:a*0+a*0=a*0+0:=by rw[←FK.mul_add,FK.add_zero,FK.add_zero]
 exact g50 h
theorem zero_mul(a:K):0*a=0:=by rw[FK.mul_comm,mul_zero]
theorem ut3{a b:K}(h:a+b=0):b= -a:=g50 (a:=a) (by rw[h,FK.add_neg])
theorem neg_zero: -(0:K)=0:=(ut3 (FK.add_zero (0:K))).symm
theorem neg_mul(a b:K): -a*b= -(a*b):=ut3 (by rw[←add_mul,FK.add_neg,zero_mul])
theorem mul_neg(a b:K):a* -b= -(a*b):=by rw[FK.mul_comm,neg_mul,FK.mul_comm]
theorem tp9(a b:K): -(a+b)= -a+ -b:=(ut3 (by rw[FK.add_assoc,←FK.add_assoc b,FK.add_comm b,FK.add_assoc (-a),FK.add_neg,FK.add_zero,FK.add_neg])).symm
theorem sub_self(a:K):a-a=0:=FK.add_neg a
theorem sub_zero(a:K):a-0=a:=by rw[sub_eq,neg_zero,FK.add_zero]
theorem fj9(a b:K):a-b+b=a:=by rw[sub_eq,FK.add_assoc,neg_add,FK.add_zero]
theorem sub_eq_zero{a b:K}:a-b=0↔a=b:=⟨fun h=>by rw[←fj9 a b,h,zero_add],fun h=>by rw[h,sub_self]⟩
theorem mul_sub(a b c:K):a*(b-c)=a*b-a*c:=by rw[sub_eq,sub_eq,FK.mul_add,mul_neg]
theorem sub_mul(a b c:K):(a-b)*c=a*c-b*c:=by rw[sub_eq,sub_eq,add_mul,neg_mul]
theorem ki7:(1:K)≠0:=fun h=>FK.zero_ne h.symm
theorem inv_mul{a:K}(h:a≠0):FK.inv a*a=1:=by rw[FK.mul_comm,FK.mul_inv a h]
theorem mul_left{a b c:K}(ha:a≠0)(h:a*b=a*c):b=c:=by
 have:=congrArg (fun x=>FK.inv a*x) h
 simpa only[←FK.mul_assoc,inv_mul ha,one_mul]using this
theorem mul_eq_zero{a b:K}(h:a*b=0):a=0∨b=0:=by
 by_cases ha:a=0
 ·exact .inl ha
 ·exact .inr (mul_left ha (by rw[h,mul_zero]))
instance :Std.Associative (α:=K) (· + ·):=⟨FK.add_assoc⟩
instance :Std.Commutative (α:=K) (· + ·):=⟨FK.add_comm⟩
instance :Std.Associative (α:=K) (· * ·):=⟨FK.mul_assoc⟩
instance :Std.Commutative (α:=K) (· * ·):=⟨FK.mul_comm⟩
theorem add4(a b c d:K):(a+b)+(c+d)=(a+c)+(b+d):=by ac_rfl
def sumL{α:Type}(l:List α)(f:α→K):K:=l.foldr (fun a s=>f a+s) 0
variable {α β:Type}
theorem lh9(f:α→K):sumL [] f=0:=rfl
theorem gb6(a:α)(l:List α)(f:α→K):sumL (a::l) f=f a+sumL l f:=rfl
theorem up0(f:α→K): ∀l l':List α,sumL (l++l') f=sumL l f+sumL l' f
 | [],l'=>by rw[List.nil_append,lh9,zero_add]
 |a::l,l'=>by rw[List.cons_append,gb6,gb6,up0 f l l',FK.add_assoc]
theorem jl9(f g:α→K): ∀l:List α,sumL l (fun a=>f a+g a)=sumL l f+sumL l g
 | []=>by rw[lh9,lh9,lh9,FK.add_zero]
 |a::l=>by rw[gb6,gb6,gb6,jl9 f g l,add4]
theorem ro9(c:K)(f:α→K): ∀l:List α,sumL l (fun a=>c*f a)=c*sumL l f
 | []=>by rw[lh9,lh9,mul_zero]
 |a::l=>by rw[gb6,gb6,ro9 c f l,FK.mul_add]
theorem ue3(c:K)(f:α→K)(l:List α):sumL l (fun a=>f a*c)=sumL l f*c:=by
 rw[FK.mul_comm,←ro9]
 congr 1
 funext a
 rw[FK.mul_comm]
theorem eq0(f:α→K): ∀l:List α,sumL l (fun a=> -f a)= -sumL l f
 | []=>by rw[lh9,lh9,neg_zero]
 |a::l=>by rw[gb6,gb6,eq0 f l,tp9]
theorem b16(f g:α→K)(l:List α):sumL l (fun a=>f a-g a)=sumL l f-sumL l g:=by
 simp only[sub_eq]
 rw[jl9,eq0]
theorem ox7{f g:α→K}: ∀{l:List α},(∀a∈l,f a=g a)→sumL l f=sumL l g
 | [],_=>rfl
 |a::l,h=>by rw[gb6,gb6,h a (by simp),ox7 fun b hb=>h b (by simp[hb])]
theorem tx7{f:α→K}{l:List α}(h: ∀a∈l,f a=0):sumL l f=0:=by
 induction l with
 |nil=>rfl
 |cons a l ih=>rw[gb6,h a (by simp),ih fun b hb=>h b (by simp[hb]),FK.add_zero]
theorem j53(f:α→β→K)(l':List β): ∀l:List α,sumL l (fun a=>sumL l' (f a))=sumL l' (fun b=>sumL l (fun a=>f a b))
 | []=>by rw[lh9];exact(tx7 fun _ _=>rfl).symm
 |a::l=>by rw[gb6,j53 f l' l,←jl9];rfl
theorem l63(g:β→α)(f:α→K): ∀l:List β,sumL (l.map g) f=sumL l fun b=>f (g b)
 | []=>rfl
 |b::l=>by rw[List.map_cons,gb6,gb6,l63 g f l]
theorem j94 [DecidableEq α]{f:α→K}{s:α}: ∀{l:List α},l.Nodup→s∈l→(∀a∈l,a≠s→f a=0)→sumL l f=f s
 | [],_,h,_=>by cases h
 |a::l,hn,h,h0=>by
  rw[List.nodup_cons]at hn
  rw[gb6]
  by_cases ha:a=s
  ·subst ha
   rw[tx7 fun b hb=>h0 b (by simp[hb]) fun e=>hn.1 (e▸hb),FK.add_zero]
  ·rw[h0 a (by simp) ha,zero_add]
   refine j94 hn.2 ?_ fun b hb=>h0 b (by simp[hb])
   rcases List.mem_cons.1 h with h|h
   ·exact absurd h.symm ha
   ·exact h
def sumN(n:Nat)(f:Nat→K):K:=sumL (List.range n) f
theorem wr8(f:Nat→K):sumN 0 f=0:=rfl
theorem c71(n:Nat)(f:Nat→K):sumN (n+1) f=f 0+sumN n fun i=>f (i+1):=by
 unfold sumN
 rw[List.range_succ_eq_map,gb6,l63]
theorem xq2{n s:Nat}{f:Nat→K}(hs:s<n)(h: ∀a,a<n→a≠s→f a=0):sumN n f=f s:=
 j94 List.nodup_range (List.mem_range.2 hs) fun a ha=>h a (List.mem_range.1 ha)
theorem rc1{n:Nat}{f g:Nat→K}(h: ∀a,a<n→f a=g a):sumN n f=sumN n g:=ox7 fun a ha=>h a (List.mem_range.1 ha)
theorem ja4{n:Nat}{f:Nat→K}(h: ∀a,a<n→f a=0):sumN n f=0:=tx7 fun a ha=>h a (List.mem_range.1 ha)
end
end Go.Alg
