/-
  The law's polyThrough, polyAt, polyRoots, in the second machine. Conditions: those of each theorem. The law's polyAt and polyRoots, in the second machine. Conditions: those of each theorem. PolySays a ..
-/
import Derived.Test.YtoglhlonhmmieaaGreatK9
import Derived.Test.YtoglhlonhmmieaaGreatK8
set_option linter.unusedVariables false
set_option linter.unusedSimpArgs false
set_option linter.unusedSectionVars false
set_option maxRecDepth 100000
namespace Go.Proofs.YtoglhlonhmmieaaGreat
open Go.Am Go.Vm Go.Alg
set_option maxHeartbeats 4000000
section
variable {q:Int} {b b':Bool} {nl nl':Nat}
theorem uh0{e no:Int}(he:e≠0){xs ys:List Int}{T:Tree}{i:Nat}(ks):
 vgoL W ⟨hNo,[.tmp 8],0⟩ [0,1,2,3,9,10,11] c20L0 (.blk 0 [0,1,2,3,9,10]::ks) [(0, .x (.int .i64 q)),(1, .fz b (.sl nl 0 1 (ivs xs))),(2, .fz b' (.sl nl' 0 1 (ivs ys))),(3, .x (.int .i64 e)),(9, .own 0 []),(10, .x (.int .i64 no)),(11, .x (.int .i64 i))] [T]=vgo W ⟨hNo,[.tmp 8],0⟩ ks (VFr.of [(0, .x (.int .i64 q)),(1, .fz b (.sl nl 0 1 (ivs xs))),(2, .fz b' (.sl nl' 0 1 (ivs ys))),(3, .x (.int .i64 e)),(9, .own 0 []),(10, .x (.int .i64 no))]) [T]:=by
 rw[sb5 c20L0.eq_def]
 by_cases h:(i:Int)<(xs.length:Int)
 ·simp(disch:=first|omega|fail) only[push_cast,seval,vrl,if_pos,if_neg,dec_lt h,nb8 he]
 ·simp(disch:=first|omega|fail) only[push_cast,seval,vrl,if_pos,if_neg,cw6 (Int.not_lt.1 h)]
theorem lg3{xs ys:List Int}(ha:xs.length≤9223372036854775807)(hc:ys.length≤9223372036854775807)(he:tc9 q xs ys≠0):
 o25 W 20 [.x (.int .i64 q), .fz b (.sl nl 0 1 (ivs xs)), .fz b' (.sl nl' 0 1 (ivs ys)), .x (.int .i64 (tc9 q xs ys))] []=some (.x (.bool true),[],[]):=by
 have e1:=fun b nl b' nl'=>ii0 (q:=q) (b:=b) (nl:=nl) (b':=b') (nl':=nl') ha hc he
 have e2:=fun no T ks=>uh0 (q:=q) (b:=b) (nl:=nl) (b':=b') (nl':=nl') (e:=tc9 q xs ys) (no:=no) he (xs:=xs) (ys:=ys) (T:=T) (i:=0) ks
 simp only[Int.natCast_zero]at e2
 generalize tc9 q xs ys=E at*
 rw[o10 rfl T20 rfl]
 unfold F20 c20
 simp(disch:=first|omega|fail) only[push_cast,seval,vrl,if_pos,if_neg,e1,nb8 he]
 rw[e2]
 simp(disch:=first|omega|fail) only[push_cast,seval,vrl,if_pos,if_neg,nb8 he]
end
section
variable {q:Int} [IsFld q] {b b':Bool} {nl nl':Nat}
theorem ck6(L:List (El q))(x:El q):((vs L).any fun y=>decide (y=x.v))=decide (x∈L):=by
 by_cases h:x∈L
 ·rw[decide_eq_true h]
  exact List.any_eq_true.2 ⟨x.v,List.mem_map.2 ⟨x,h,rfl⟩,decide_eq_true rfl⟩
 ·rw[decide_eq_false h]
  refine List.any_eq_false.2 fun v hv=> ?_
  obtain⟨y,hy,rfl⟩:=List.mem_map.1 hv
  intro e
  exact h (by rw[←El.ext' (of_decide_eq_true e)];exact hy)
theorem lh8{b b':Bool}{nl nl':Nat}{X:List (El q)}(hX:X.length≤128){ys:List Int}{no:Int}{T:Tree}: ∀(d i:Nat),i+d=X.length→(X.take i).Nodup→ ∃e':Int,((X.Nodup∧e'=0)∨(¬X.Nodup∧e'=7))∧ ∀ks,
 vgoL W ⟨hNo,[.tmp 8],0⟩ [0,1,2,3,9,10,11] c20L0 (.blk 0 [0,1,2,3,9,10]::ks) [(0, .x (.int .i64 q)),(1, .fz b (.sl nl 0 1 (ivs (vs X)))),(2, .fz b' (.sl nl' 0 1 (ivs ys))),(3, .x (.int .i64 0)),(9, .own 0 []),(10, .x (.int .i64 no)),(11, .x (.int .i64 i))] [T]=vgo W ⟨hNo,[.tmp 8],0⟩ ks (VFr.of [(0, .x (.int .i64 q)),(1, .fz b (.sl nl 0 1 (ivs (vs X)))),(2, .fz b' (.sl nl' 0 1 (ivs ys))),(3, .x (.int .i64 e')),(9, .own 0 []),(10, .x (.int .i64 no))]) [T]
 |0,i,hi,hn=>by
  rw[List.take_of_length_le (by omega)]at hn
  refine⟨0, .inl ⟨hn,rfl⟩,fun ks=> ?_⟩
  have hl:=fi2 X
  rw[sb5 c20L0.eq_def]
  simp(disch:=first|omega|fail) only[push_cast,seval,vrl,if_pos,if_neg,hl]
 |d+1,i,hi,hn=>by
  obtain⟨x,hx⟩:=ge6 (l:=X) (i:=i) (by omega)
  have h1:=iat (show(vs X)[i]? =some x.v by unfold vs;rw[List.getElem?_map,hx];rfl)
  have hl:=fi2 X
  have e1:=fun b nl=>cr7 (b:=b) (nl:=nl) (l:=vs (X.take i)) (x:=x.v) (by rw[fi2,List.length_take];omega)
  simp only[ck6]at e1
  simp only[←ee1]at e1
  have htk:X.take (i+1)=X.take i++[x]:=by rw[List.take_add_one,hx];rfl
  have hlt:(i:Int)<(X.length:Int):=by omega
  have hil:i≤X.length:=by omega
  have hi0:((i:Int)-0).toNat=i:=by omega
  by_cases hm:x∈X.take i
  ·rw[decide_eq_true hm]at e1
   have hnd: ¬X.Nodup:=fun h=>by
    have h2:(X.take (i+1)).Nodup:=h.sublist (List.take_sublist _ _)
    rw[htk,List.nodup_append]at h2
    exact h2.2.2 x hm x (by simp) rfl
   have e2:=fun ks=>uh0 (q:=q) (b:=b) (nl:=nl) (b':=b') (nl':=nl') (e:=7) (no:=no) (by decide) (xs:=vs X) (ys:=ys) (T:=T) (i:=i+1) ks
   refine⟨7, .inr ⟨hnd,rfl⟩,fun ks=> ?_⟩
   rw[Int.natCast_add,Int.natCast_one]at e2
   rw[←e2,sb5 c20L0.eq_def]
   simp(disch:=first|omega|fail) only[push_cast,seval,vrl,if_pos,if_neg,hl,dec_lt hlt,h1,e1,hil,hi0]
  ·rw[decide_eq_false hm]at e1
   obtain⟨e',h2,ih⟩:=lh8 hX (ys:=ys) (no:=no) (T:=T) (b:=b) (nl:=nl) (b':=b') (nl':=nl') d (i+1) (by omega) (by
    rw[htk,List.nodup_append]
    exact⟨hn,by simp,fun a ha c hc e=>hm (by rw[List.mem_singleton]at hc;rw[←hc,←e];exact ha)⟩)
   refine⟨e',h2,fun ks=> ?_⟩
   have ih:=ih ks
   rw[Int.natCast_add,Int.natCast_one]at ih
   rw[←ih,sb5 c20L0.eq_def]
   simp(disch:=first|omega|fail) only[push_cast,seval,vrl,if_pos,if_neg,hl,dec_lt hlt,h1,e1,hil,hi0]
theorem ob5{b b':Bool}{nl nl':Nat}{p m g:Int}{t:Tree}(u:RFo q p m g t){P:List (El q×El q)}(hP:P.length≤128){out:List (El q)}(hol:out.length≤128)(ho: ∀p∈P,ev out p.1=p.2){no:Int}{n:Nat}: ∀(d i:Nat),i+d=P.length→ ∀ks,
 vgoL W ⟨hNo,[.tmp 8],0⟩ [1,2,9,10,12,14] c20L1 (.blk 2 [1,9,10,12]::ks) [(1, .fz b (.sl nl 0 1 (ivs (vs (P.map Prod.fst))))),(2, .fz b' (.sl nl' 0 1 (ivs (vs (P.map Prod.snd))))),(9, .own 0 []),(10, .x (.int .i64 no)),(12, .own 1 []),(14, .x (.int .i64 i))] [.sl n 3 1 (ivs (vs out)), .pt 26 [.v (.int .i64 q), .v (.int .i64 p), .v (.int .i64 m), .v (.int .i64 g), .fz t]]=vgo W ⟨hNo,[.tmp 8],0⟩ ks (VFr.of [(1, .fz b (.sl nl 0 1 (ivs (vs (P.map Prod.fst))))),(9, .own 0 []),(10, .x (.int .i64 no)),(12, .own 1 [])]) [.sl n 3 1 (ivs (vs out)), .pt 26 [.v (.int .i64 q), .v (.int .i64 p), .v (.int .i64 m), .v (.int .i64 g), .fz t]]
 |0,i,hi,ks=>by
  rw[sb5 c20L1.eq_def]
  simp(disch:=first|omega|fail) only[push_cast,seval,vrl,if_pos,if_neg,List.length_map]
 |d+1,i,hi,ks=>by
  have ih:=ob5 u hP hol ho (no:=no) (n:=n) (b:=b) (nl:=nl) (b':=b') (nl':=nl') d (i+1) (by omega) ks
  obtain⟨r,hr⟩:=ge6 (l:=P) (i:=i) (by omega)
  have h1:=iat (show(vs (P.map Prod.fst))[i]? =some r.1.v by unfold vs;rw[List.getElem?_map,List.getElem?_map,hr];rfl)
  have h2:=iat (show(vs (P.map Prod.snd))[i]? =some r.2.v by unfold vs;rw[List.getElem?_map,List.getElem?_map,hr];rfl)
  have e1:=fun b nl=>xz0 (b:=b) (nl:=nl) (a:=out) (x:=r.1) (by omega)
  simp only[ho r (List.mem_of_getElem? hr)]at e1
  rw[u.e]at e1
  have ht:=u.n
  have hoo:=u.o
  have hlt:(i:Int)<(P.length:Int):=by omega
  rw[Int.natCast_add,Int.natCast_one]at ih
  rw[←ih,sb5 c20L1.eq_def]
  simp(disch:=first|omega|fail) only[push_cast,seval,vrl,if_pos,if_neg,List.length_map,dec_lt hlt,h1,h2,ht,hoo,e1]
theorem tg1{X Y:List (El q)}(hX:X.length≤128)(hY:Y.length≤128):
 o25 W 20 [.x (.int .i64 q), .fz b (.sl nl 0 1 (ivs (vs X))), .fz b' (.sl nl' 0 1 (ivs (vs Y))), .x (.int .i64 0)] []=some (.x (.bool true),[],[]):=by
 have hx:=fi2 X
 have hy:=fi2 Y
 by_cases hl:X.length=Y.length
 ·obtain⟨P,hP⟩: ∃P,P=X.zip Y:=⟨_,rfl⟩
  have hf:P.map Prod.fst=X:=by rw[hP];exact List.map_fst_zip (by omega)
  have hs:P.map Prod.snd=Y:=by rw[hP];exact List.map_snd_zip (by omega)
  have hPl:P.length=X.length:=by rw[←hf,List.length_map]
  by_cases hn:X.Nodup
  ·--told
   have key: ∃out:List (El q),Trm out∧out.length≤X.length∧(∀p∈P,ev out p.1=p.2)∧ ∃n,o25 W 53 [.x (.int .i64 q), .fz b (.sl nl 0 1 (ivs (vs X))), .fz b' (.sl nl' 0 1 (ivs (vs Y)))] []=some (.tup [.own 0 [], .x (.int .i64 0)],[.sl n 3 1 (ivs (vs out))],[]):=by
    by_cases h0:P=[]
    ·have hX0:X=[]:=by rw[←hf,h0];rfl
     have hY0:Y=[]:=by rw[←hs,h0];rfl
     obtain⟨n,e⟩:=sz2 (q:=q) (b:=b) (nl:=nl) (b':=b') (nl':=nl')
     refine⟨[],wg5,by simp,fun p hp=>(by rw[h0]at hp;cases hp),n, ?_⟩
     rw[hX0,hY0]
     exact e
    ·obtain⟨out,o1,o2,o3,o4⟩:=jx5 (P:=P) h0 (by have:=s88 hn;omega) (by rw[hf];exact hn)
     obtain⟨n,e⟩:=o4 b nl b' nl'
     rw[hf,hs]at e
     exact⟨out,o1,by omega,o3,n,e⟩
   obtain⟨out,o1,o2,o3,n,e1⟩:=key
   obtain⟨e',h2,e2⟩:=lh8 hX (ys:=vs Y) (no:=0) (T:= .sl n 3 1 (ivs (vs out))) (b:=b) (nl:=nl) (b':=b') (nl':=nl') X.length 0 (by omega) (by simp)
   have he':e'=0:=by
    rcases h2 with h2|h2
    ·exact h2.2
    ·exact absurd hn h2.1
   subst he'
   obtain⟨p,m,g,t,u⟩:=k75 q
   have e3:=fun ks=>ob5 u (P:=P) (by omega) (out:=out) (by omega) o3 (no:=0) (n:=n) (b:=b) (nl:=nl) (b':=b') (nl':=nl') P.length 0 (by omega) ks
   rw[hf,hs]at e3
   simp only[Int.natCast_zero]at e2 e3
   have ef:=uw8 (q:=q)
   rw[u.e]at ef
   have ht:=u.n
   have ho:=u.o
   have e4:=fun b nl=>q18 (q:=q) (b:=b) (nl:=nl) (l:=vs out) (by rw[fi2];omega)
   rw[u.e]at e4
   simp only[i69,Bool.not_false]at e4
   have e5:=fun b nl=>nf6 (b:=b) (nl:=nl) (a:=out) (by omega)
   simp only[ou7 o1]at e5
   have e6:=fun b b' nl nl'=>nb2 (b:=b) (b':=b') (nl:=nl) (nl':=nl') (l:=vs out) (k:=vs out) (by rw[fi2];omega)
   simp only[decide_true]at e6
   have hol:=fi2 out
   have hle:(out.length:Int)≤(X.length:Int):=by omega
   have hl2:(X.length:Int)=(Y.length:Int):=by omega
   generalize vs X=XS at*
   generalize vs Y=YS at*
   generalize vs out=OS at*
   rw[o10 rfl T20 rfl]
   unfold F20 c20
   simp(disch:=first|omega|fail) only[push_cast,seval,vrl,if_pos,if_neg,e1,hx,hy,mr8 hl2]
   rw[e2]
   simp(disch:=first|omega|fail) only[push_cast,seval,vrl,if_pos,if_neg,ef,ht,ho]
   rw[e3]
   simp(disch:=first|omega|fail) only[push_cast,seval,vrl,if_pos,if_neg,hx,hol,nl3 hle,ht,ho,e4,e5,e6]
  ·have e1:=fun b nl b' nl'=>ml0 (P:=P) (b:=b) (nl:=nl) (b':=b') (nl':=nl') (by omega) (by rw[hf];exact hn)
   rw[hf,hs]at e1
   obtain⟨e',h2,e2⟩:=lh8 hX (ys:=vs Y) (no:=7) (T:= .sl 1 3 1 []) (b:=b) (nl:=nl) (b':=b') (nl':=nl') X.length 0 (by omega) (by simp)
   have he':e'=7:=by
    rcases h2 with h2|h2
    ·exact absurd h2.1 hn
    ·exact h2.2
   subst he'
   simp only[Int.natCast_zero]at e2
   have hl2:(X.length:Int)=(Y.length:Int):=by omega
   generalize vs X=XS at*
   generalize vs Y=YS at*
   rw[o10 rfl T20 rfl]
   unfold F20 c20
   simp(disch:=first|omega|fail) only[push_cast,seval,vrl,if_pos,if_neg,e1,hx,hy,mr8 hl2]
   rw[e2]
   simp(disch:=first|omega|fail) only[push_cast,seval,vrl,if_pos,if_neg]
 ·have e1:=fun b nl b' nl'=>x54 (b:=b) (nl:=nl) (b':=b') (nl':=nl') hX hY hl
  have e2:=fun no T ks=>uh0 (q:=q) (b:=b) (nl:=nl) (b':=b') (nl':=nl') (e:=6) (no:=no) (by decide) (xs:=vs X) (ys:=vs Y) (T:=T) (i:=0) ks
  simp only[Int.natCast_zero]at e2
  have hl2: ¬(X.length:Int)=(Y.length:Int):=by omega
  generalize vs X=XS at*
  generalize vs Y=YS at*
  rw[o10 rfl T20 rfl]
  unfold F20 c20
  simp(disch:=first|omega|fail) only[push_cast,seval,vrl,if_pos,if_neg,e1,hx,hy,nb8 hl2]
  rw[e2]
  simp(disch:=first|omega|fail) only[push_cast,seval,vrl,if_pos,if_neg]
end
set_option maxHeartbeats 4000000
theorem r64{q:Int}{b b':Bool}{nl nl':Nat}{xs ys:List Int}(ha:xs.length≤9223372036854775807)(hc:ys.length≤9223372036854775807):
 o25 W 20 [.x (.int .i64 q), .fz b (.sl nl 0 1 (ivs xs)), .fz b' (.sl nl' 0 1 (ivs ys)), .x (.int .i64 (tc9 q xs ys))] []=some (.x (.bool true),[],[]):=by
 by_cases he:tc9 q xs ys=0
 ·obtain⟨h1,h2⟩:=ju9 he
  obtain⟨hf,l1,X,rfl⟩:=rm0 h1
  obtain⟨_,l2,Y,rfl⟩:=rm0 h2
  rw[he]
  exact tg1 (by rwa [fi2]at l1) (by rwa [fi2]at l2)
 ·exact lg3 ha hc he
section
variable {q:Int} {b:Bool} {nl:Nat} {l:List Int}
theorem v19{e v:Int}(h:e≠0→v=0):o25 W 46 [.x (.int .i64 v), .x (.int .i64 e), .x (.int .i64 v), .x (.int .i64 e)] []=some (.x (.bool true),[],[]):=by
 have:=ib6 (l:=v) (k:=v) (e:=e) (f:=e)
 by_cases he:e=0
 ·rw[if_pos he,decide_eq_true he,decide_eq_true rfl]at this;exact this
 ·rw[if_neg he,decide_eq_true rfl,decide_eq_true (h he)]at this;exact this
theorem y99{x:Int}(hl:l.length≤9223372036854775807):
 o25 W 18 [.x (.int .i64 q), .fz b (.sl nl 0 1 (ivs l)), .x (.int .i64 x), .x (.int .i64 (polE q l))] []=some (.x (.bool true),[],[]):=by
 have e1:=fun b nl=>s15 (q:=q) (b:=b) (nl:=nl) (l:=[x]) (by simp)
 rw[show ivs [x]=[Tree.v (.int .i64 x)]from rfl]at e1
 by_cases h1:polE q l=0
 ·by_cases h2:polE q [x]=0
  ·obtain⟨hf,l1,X,rfl⟩:=rm0 h1
   obtain⟨_,_,Y,hY⟩:=rm0 h2
   obtain⟨y,rfl⟩: ∃y:El q,x=y.v:=by
    cases Y with
    |nil=>cases hY
    |cons y Y=>exact⟨y,by have:=hY;unfold vs at this;rw[List.map_cons]at this;exact(List.cons.inj this).1⟩
   rw[fi2]at l1
   have e2:=fun b nl=>yu6 (b:=b) (nl:=nl) (a:=X) (x:=y) l1
   have e3:=fun b nl=>xz0 (b:=b) (nl:=nl) (a:=X) (x:=y) (by omega)
   obtain⟨p,m,g,t,u⟩:=k75 q
   have ef:=uw8 (q:=q)
   rw[u.e]at ef e3
   have ht:=u.n
   have ho:=u.o
   have e4:=v19 (e:=0) (v:=(ev X y).v) (fun h=>absurd rfl h)
   rw[h1]
   rw[h2]at e1
   rw[o10 rfl T18 rfl]
   unfold F18 c18
   simp(disch:=first|omega|fail) only[push_cast,seval,vrl,if_pos,if_neg,e1,ef,ht,ho,e2,e3,e4]
  ·have hb:tc9 q l [x]=polE q [x]:=by unfold tc9;rw[if_pos h1]
   have e2:=fun b nl=>jo2 (q:=q) (b:=b) (nl:=nl) (a:=l) (x:=x) (by omega) (by rw[hb];exact h2)
   simp only[hb]at e2
   have e4:=v19 (e:=polE q [x]) (v:=0) (fun _=>rfl)
   rw[h1]
   generalize polE q [x]=E at*
   rw[o10 rfl T18 rfl]
   unfold F18 c18
   simp(disch:=first|omega|fail) only[push_cast,seval,vrl,if_pos,if_neg,e1,nb8 h2,e2,e4]
 ·have hb:tc9 q l [x]=polE q l:=by unfold tc9;rw[if_neg h1]
  have e2:=fun b nl=>jo2 (q:=q) (b:=b) (nl:=nl) (a:=l) (x:=x) (by omega) (by rw[hb];exact h1)
  simp only[hb]at e2
  have e4:=v19 (e:=polE q l) (v:=0) (fun _=>rfl)
  generalize polE q l=E at*
  rw[o10 rfl T18 rfl]
  unfold F18 c18
  simp(disch:=first|omega|fail) only[push_cast,seval,vrl,if_pos,if_neg,nb8 h1,e2,e4]
theorem le1{e:Int}(h:e≠0)(b b':Bool)(nl nl':Nat):o25 W 16 [.fz b (.sl nl 0 1 []), .x (.int .i64 e), .fz b' (.sl nl' 0 1 []), .x (.int .i64 e)] []=some (.x (.bool true),[],[]):=by
 have:=ea2 (b:=b) (nl:=nl) (b':=b') (nl':=nl') (l:=[]) (k:=[]) (e:=e) (f:=e) (by simp)
 rw[if_neg h,decide_eq_true (rfl:e=e),decide_eq_true (show([]:List Int).length=0 from rfl),Bool.and_true]at this
 simpa only[lz6]using this
theorem jc6{l:List Int}(hl:l.length≤9223372036854775807)(b b':Bool)(nl nl':Nat):o25 W 16 [.fz b (.sl nl 0 1 (ivs l)), .x (.int .i64 0), .fz b' (.sl nl' 0 1 (ivs l)), .x (.int .i64 0)] []=some (.x (.bool true),[],[]):=by
 have:=ea2 (b:=b) (nl:=nl) (b':=b') (nl':=nl') (l:=l) (k:=l) (e:=0) (f:=0) hl
 rw[if_pos rfl,decide_eq_true (rfl:(0:Int)=0),decide_eq_true (rfl:l=l),Bool.and_true]at this
 exact this
theorem qj9{e:Int}(h:e≠0)(b b':Bool)(nl nl':Nat):o25 W 52 [.fz b (.sl nl 0 1 []), .x (.int .i64 e), .fz b' (.sl nl' 0 1 []), .x (.int .i64 e)] []=some (.x (.bool true),[],[]):=by
 have:=dy0 (b:=b) (nl:=nl) (b':=b') (nl':=nl') (nr:=0) (nr':=0) (l:=[]) (k:=[]) (e:=e) (f:=e) (by simp) (by simp)
 rw[if_neg h,decide_eq_true (rfl:e=e),decide_eq_true (show([]:List (List Int)).length=0 from rfl),Bool.and_true]at this
 exact this
theorem a42{l:List (List Int)}(hl:l.length≤9223372036854775807)(he: ∀r∈l,r.length≤9223372036854775807)(b b':Bool)(nl nl' nr nr':Nat):o25 W 52 [.fz b (.sl nl 0 1 (lvs nr l)), .x (.int .i64 0), .fz b' (.sl nl' 0 1 (lvs nr' l)), .x (.int .i64 0)] []=some (.x (.bool true),[],[]):=by
 have:=dy0 (b:=b) (nl:=nl) (b':=b') (nl':=nl') (nr:=nr) (nr':=nr') (l:=l) (k:=l) (e:=0) (f:=0) hl he
 rw[if_pos rfl,decide_eq_true (rfl:(0:Int)=0),decide_eq_true (rfl:l=l),Bool.and_true]at this
 exact this
theorem fc7(hl:l.length≤9223372036854775807)(h1:polE q l≠0):
 o25 W 19 [.x (.int .i64 q), .fz b (.sl nl 0 1 (ivs l)), .x (.int .i64 (polE q l))] []=some (.x (.bool true),[],[]):=by
 have e1:=fun b nl=>da6 (q:=q) (b:=b) (nl:=nl) (a:=l) (by omega) h1
 have e2:=fun b nl=>y38 (q:=q) (b:=b) (nl:=nl) (a:=l) (by omega) h1
 have e3:=fun b nl=>k74 (q:=q) (l:=l) (L:=[]) (e:=polE q l) (no:=1) (by simp) e2 b nl
 have e4:=le1 h1
 have e5:=qj9 h1
 simp only[lz6]at e1
 rw[show decide ((([]:List (List Int)).length:Int)=1)=false from rfl]at e3
 generalize polE q l=E at*
 rw[o10 rfl T19 rfl]
 unfold F19 c19
 simp(disch:=first|omega|fail) only[push_cast,seval,vrl,if_pos,if_neg,nb8 h1,e1,e2,e3,e4,List.tail_cons,e5]
end
section
variable {q:Int} [IsFld q] {b:Bool} {nl:Nat}
theorem rp1{a:List (El q)}(ha:a.length≤128)(h0:xa4 a=[]):
 o25 W 19 [.x (.int .i64 q), .fz b (.sl nl 0 1 (ivs (vs a))), .x (.int .i64 0)] []=some (.x (.bool true),[],[]):=by
 have e0:=fun b nl=>nf6 (b:=b) (nl:=nl) (a:=a) (by omega)
 have e1:=fun b nl=>b76 (b:=b) (nl:=nl) ha h0
 have e2:=fun b nl=>se7 (b:=b) (nl:=nl) ha h0
 have e3:=fun b nl=>k74 (q:=q) (l:=vs a) (L:=[]) (e:=5) (no:=1) (by simp) e2 b nl
 have e4:=le1 (e:=5) (by decide)
 have e5:=qj9 (e:=5) (by decide)
 simp only[h0,rp2,lz6]at e0 e1
 rw[show decide ((([]:List (List Int)).length:Int)=1)=false from rfl]at e3
 generalize vs a=A at*
 rw[o10 rfl T19 rfl]
 unfold F19 c19
 simp(disch:=first|omega|fail) only[push_cast,seval,vrl,if_pos,if_neg,e0,e1,e2,e3,e4,List.tail_cons,e5]
theorem lb7{p m g:Int}{t:Tree}(u:RFo q p m g t){a:List (El q)}(ha:a.length≤128){b:Bool}{nl:Nat}: ∀(d i:Nat),(i:Int)+d=q→ ∀ks,
 vgoL W ⟨h19,[.tmp 6],0⟩ [0,1,2,7,8,9,10,12] c19L0 (.blk 0 [0,1,2,7,8,9,10]::ks) [(0, .x (.int .i64 q)),(1, .fz b (.sl nl 0 1 (ivs (vs a)))),(2, .x (.int .i64 0)),(7, .own 0 []),(8, .x (.slice none 0 0)),(9, .x (.int .i64 0)),(10, .own 1 []),(12, .x (.int .i64 i))] [.sl 1 3 1 (ivs (rtL a i)), .pt 26 [.v (.int .i64 q), .v (.int .i64 p), .v (.int .i64 m), .v (.int .i64 g), .fz t]]=
  vgo W ⟨h19,[.tmp 6],0⟩ ks (VFr.of [(0, .x (.int .i64 q)),(1, .fz b (.sl nl 0 1 (ivs (vs a)))),(2, .x (.int .i64 0)),(7, .own 0 []),(8, .x (.slice none 0 0)),(9, .x (.int .i64 0)),(10, .own 1 [])]) [.sl 1 3 1 (ivs (rtL a q.toNat)), .pt 26 [.v (.int .i64 q), .v (.int .i64 p), .v (.int .i64 m), .v (.int .i64 g), .fz t]]
 |0,i,hi,ks=>by
  have hq:q.toNat=i:=by omega
  have hq2: ¬(i:Int)<q:=by omega
  rw[hq,sb5 c19L0.eq_def]
  simp(disch:=first|omega|fail) only[push_cast,seval,vrl,if_pos,if_neg,cw6 (Int.not_lt.1 hq2)]
 |d+1,i,hi,ks=>by
  have hq:=q_hi (q:=q)
  have ih:=lb7 u ha (b:=b) (nl:=nl) d (i+1) (by omega) ks
  have e1:=fun b nl=>xz0 (b:=b) (nl:=nl) (a:=a) (x:=elE q (i:Int)) (by omega)
  simp only[sx0 (q:=q) (a:=(i:Int)) (by omega)]at e1
  rw[u.e]at e1
  have ht:=u.n
  have ho:=u.o
  have hlen:=h55 a i
  have hlt:(i:Int)<q:=by omega
  rw[Int.natCast_add,Int.natCast_one]at ih
  by_cases h:ev a (elE q (i:Int))=0
  ·rw[vm6,if_pos h]at ih
   rw[h,hc8]at e1
   rw[←ih,sb5 c19L0.eq_def]
   generalize rtL a i=A at*
   simp(disch:=first|omega|fail) only[push_cast,seval,vrl,if_pos,if_neg,dec_lt hlt,ht,ho,e1]
  ·have hne: ¬(ev a (elE q (i:Int))).v=0:=fun e=>h (El.ext' e)
   rw[vm6,if_neg h,List.append_nil]at ih
   rw[←ih,sb5 c19L0.eq_def]
   generalize rtL a i=A at*
   simp(disch:=first|omega|fail) only[push_cast,seval,vrl,if_pos,if_neg,dec_lt hlt,ht,ho,e1,nb8 hne]
theorem e23(a:List (El q))(n:Nat):rtL (xa4 a) n=rtL a n:=by
 unfold rtL
 simp only[hd5]
theorem ds9{a:List (El q)}(ha:a.length≤128)(h0:xa4 a≠[]):
 o25 W 19 [.x (.int .i64 q), .fz b (.sl nl 0 1 (ivs (vs a))), .x (.int .i64 0)] []=some (.x (.bool true),[],[]):=by
 obtain⟨p,m,g,t,u⟩:=k75 q
 have hq:=aw0 (q:=q)
 have hq2:=q_hi (q:=q)
 have e0:=fun b nl=>nf6 (b:=b) (nl:=nl) (a:=a) (by omega)
 have e1:=fun b nl=>d35 (b:=b) (nl:=nl) ha h0
 simp only[e23]at e1
 have el:=fun ks=>lb7 u ha (b:=b) (nl:=nl) q.toNat 0 (by omega) ks
 rw[show rtL a 0=[]from rfl]at el
 simp only[Int.natCast_zero,lz6]at el
 have ef:=uw8 (q:=q)
 rw[u.e]at ef
 have ht:=u.n
 have ho:=u.o
 have la:=tb1 a
 have hp:0<(xa4 a).length:=List.length_pos_iff.2 h0
 have et:=eb8 (q:=q) (by omega) q_hi (k:=(xa4 a).length-1) (by omega)
 rw[show(((xa4 a).length-1:Nat):Int)=((xa4 a).length:Int)-1 by omega]at et
 have hne: ¬((xa4 a).length:Int)=0:=by omega
 have e4:=jc6 (l:=rtL a q.toNat) (by have:=h55 a q.toNat;omega)
 cases hfew:fewQ q (((xa4 a).length-1)/2) 1 with
 |false=>
  have e2:=fun b nl=>ii8 (b:=b) (nl:=nl) ha h0 hfew
  have e3:=fun b nl=>k74 (q:=q) (l:=vs a) (L:=[]) (e:=4) (no:=1) (by simp) e2 b nl
  have e5:=qj9 (e:=4) (by decide)
  rw[show decide ((([]:List (List Int)).length:Int)=1)=false from rfl]at e3
  rw[hfew]at et
  generalize vs a=A at*
  generalize rtL a q.toNat=RT at*
  rw[o10 rfl T19 rfl]
  unfold F19 c19
  simp(disch:=first|omega|fail) only[push_cast,seval,vrl,if_pos,if_neg,e0,nb8 hne,ef,ht,ho]
  rw[el]
  simp(disch:=first|omega|fail) only[push_cast,seval,vrl,if_pos,if_neg,e0,et,e1,e2,e3,e4,List.tail_cons,e5]
 |true=>
  obtain⟨L,hL,e2⟩:=kh8 ha h0 hfew
  have e3:=fun b nl=>k74 (q:=q) (l:=vs a) (L:=L.map vs) (e:=0) (no:=1) (by have:=hL.len;have:=r27 (xa4 a);rw[List.length_map];omega) e2 b nl
  obtain⟨L2,hL2,e6⟩:=vb8 (b:=b) (nl:=nl) ha h0
  obtain rfl:=hL.uniq hL2
  rw[u.e]at e6
  have e5:=a42 (l:=L.map vs) (by have:=hL.len;have:=r27 (xa4 a);rw[List.length_map];omega) fun r hr=>by
   obtain⟨x,hx,rfl⟩:=List.mem_map.1 hr
   obtain⟨i1,i2,c,i3,i4,i5⟩:=hL.sorted.1 x hx
   have h1:=lk3 i3 i1.trm i4 i1.ne
   have h2:=List.length_pos_iff.2 i4
   have h3:=r27 (xa4 a)
   rw[i5]at h1
   rw[fi2];omega
  have hll:(lls 2 (L.map vs)).length=(L.map vs).length:=qf0 _ _
  rw[hfew]at et
  rw[List.length_map]at e3
  have hml:(L.map vs).length=L.length:=List.length_map _
  generalize vs a=A at*
  generalize rtL a q.toNat=RT at*
  rw[o10 rfl T19 rfl]
  unfold F19 c19
  simp(disch:=first|omega|fail) only[push_cast,seval,vrl,if_pos,if_neg,e0,nb8 hne,ef,ht,ho]
  rw[el]
  cases hone:decide ((L.length:Int)=1)with
  |true=>
   rw[hone]at e3
   simp(disch:=first|omega|fail) only[push_cast,seval,vrl,if_pos,if_neg,e0,et,ht,ho,e6,e1,e2,e3,e4,e5,hll,hml,hone]
  |false=>
   rw[hone]at e3
   simp(disch:=first|omega|fail) only[push_cast,seval,vrl,if_pos,if_neg,e0,et,ht,ho,e6,e1,e2,e3,e4,e5,hll,hml,hone]
end
theorem jx1{q:Int}{b:Bool}{nl:Nat}{l:List Int}(hl:l.length≤9223372036854775807):
 o25 W 19 [.x (.int .i64 q), .fz b (.sl nl 0 1 (ivs l)), .x (.int .i64 (polE q l))] []=some (.x (.bool true),[],[]):=by
 by_cases h1:polE q l=0
 ·obtain⟨hf,l1,X,rfl⟩:=rm0 h1
  rw[fi2]at l1
  rw[h1]
  by_cases h0:xa4 X=[]
  ·exact rp1 l1 h0
  ·exact ds9 l1 h0
 ·exact fc7 hl h1
set_option maxHeartbeats 4000000
section
variable {q p m g:Int} [IsFld q] {t:Tree} {b b':Bool} {nl nl':Nat}
theorem fo9{a0 c0:List (El q)}(hc0:xa4 c0≠[])(hal:a0.length≤500)(hcl0:c0.length≤500):
 o25 W 12 [.agg (rFs q), .fz b (.sl nl 0 1 (ivs (vs a0))), .fz b' (.sl nl' 0 1 (ivs (vs c0)))] []=some (.tup [.own 0 [], .own 1 []],[.sl 0 3 1 (ivs (vs (quoP (xa4 a0) (xa4 c0)))), .sl 0 3 1 (ivs (vs (remP (xa4 a0) (xa4 c0))))],[]):=by
 obtain⟨p,m,g,t,u⟩:=k75 q
 have e2:=fun b nl=>nf6 (b:=b) (nl:=nl) (a:=c0) (by omega)
 have hcl1:=tb1 c0
 have hc:=t12 c0
 obtain⟨c,hcc⟩: ∃c,c=xa4 c0:=⟨_,rfl⟩
 rw[←hcc]at hc0 e2 hcl1 hc⊢
 have hcl:c.length≤500:=by omega
 have h0:0<c.length:=List.length_pos_iff.2 hc0
 have hlast:wf c (c.length-1)≠0:=hc (by omega)
 have e1:=fun b nl=>nf6 (b:=b) (nl:=nl) (a:=a0) (by omega)
 have ha:=t12 a0
 have hal2:=tb1 a0
 generalize xa4 a0=a at*
 have l1:=iva (l:=c) (i:=c.length-1) (by omega)
 have w1:IntKind.wrap .i64 ((c.length:Int)-1)=((c.length-1:Nat):Int):=by rw[wrap64 (by omega) (by omega)];omega
 have hinv:=rl7 hlast
 have ht:=u.n
 have ho:=u.o
 have vinv:=fun x:Int=>dy2 (q:=q) (x:=x)
 rw[u.e]at vinv
 obtain⟨k,hk⟩: ∃k,k=if c.length≤a.length then a.length-c.length+1 else 0:=⟨_,rfl⟩
 have hI:DpI a c (List.replicate k 0) a:=⟨fun j=>by rw[rb9,tt8,zero_add],fun _ j _=>m12 k j,ha⟩
 have hQ:c.length≤a.length→a.length-c.length<(List.replicate k (0:El q)).length:=fun h=>by rw[List.length_replicate,hk,if_pos h];omega
 obtain⟨d1,d2⟩:=div_eq hc (cl9 h0 hlast a.length (List.replicate k 0) a (Nat.le_refl _) hI hQ)
 have hkl:k≤600:=by rw[hk];split<;>omega
 have e3:=fun n2 n8 ks=>t07 (c:=c) u (by omega) h0 hlast rfl (n2:=n2) (n8:=n8) a.length (List.replicate k 0) a (Nat.le_refl _) (by omega) (by rw[List.length_replicate];omega) hQ ks
 have dl:=gf6 c (FK.inv (wf c (c.length-1))) a.length (List.replicate k 0) a
 rw[List.length_replicate]at dl
 have e4:=fun b nl=>nf6 (b:=b) (nl:=nl) (a:=(dpT c (FK.inv (wf c (c.length-1))) a.length (List.replicate k 0) a).1) (by omega)
 rw[←d1]at e4
 rw[←d2]at e3
 generalize dpT c (FK.inv (wf c (c.length-1))) a.length (List.replicate k 0) a=D at*
 have hz:List.replicate k (0:Int)=vs (List.replicate k (0:El q)):=by rw[←qj2];rfl
 rw[hinv]at e3
 rw[←hz]at e3
 rw[o10 rfl T12 rfl,u.e]
 unfold F12 c12
 by_cases hl:c.length≤a.length
 ·rw[if_pos hl]at hk
  have w3:IntKind.wrap .i64 ((a.length:Int)-(c.length:Int)+1)=((k:Nat):Int):=by rw[wrap64 (by omega) (by omega)];omega
  generalize hG:c.length-1=c1 at*
  simp(disch:=first|omega|fail) only[push_cast,seval,vrl,if_pos,if_neg,e1,e2,w1,l1,w3,ht,ho,vinv]
  rw[e3]
  simp(disch:=first|omega|fail) only[push_cast,seval,vrl,if_pos,if_neg,e4]
 ·rw[if_neg hl]at hk
  subst hk
  generalize hG:c.length-1=c1 at*
  simp only[List.replicate_zero,lz6]at e3
  simp(disch:=first|omega|fail) only[push_cast,seval,vrl,if_pos,if_neg,e1,e2,w1,l1,ht,ho,vinv]
  rw[e3]
  simp(disch:=first|omega|fail) only[push_cast,seval,vrl,if_pos,if_neg,e4]
end
theorem aw7{q:Int}{b:Bool}{nl:Nat}{l:List Int}(hl:l.length≤9223372036854775807):o25 W 5 [.x (.int .i64 q), .fz b (.sl nl 0 1 (ivs l))] []=some (.x (.int .i64 (polE q l)),[],[]):=by
 by_cases h:l.length≤1000000
 ·exact s15 h
 ·unfold polE
  cases hn:fldN q.toNat with
  |none=>
   have e0:=fg0 hn
   rw[o10 rfl T5 rfl]
   unfold F5 c5
   simp(disch:=first|omega|fail) only[push_cast,seval,vrl,if_pos,if_neg,e0]
  |some x=>
   obtain⟨p0,m0,g0,mod⟩:=x
   haveI:IsFld q:=⟨⟨p0,m0,g0,mod,hn⟩⟩
   obtain⟨p,m,g,t,u⟩:=k75 q
   have e0:=uw8 (q:=q)
   rw[u.e]at e0
   have ht:=u.n
   have ho:=u.o
   have h1:128<l.length:=by omega
   simp only[if_pos h1]
   rw[o10 rfl T5 rfl]
   unfold F5 c5
   simp(disch:=first|omega|fail) only[push_cast,seval,vrl,if_pos,if_neg,e0,ht,ho]
section
variable {q:Int} {b b':Bool} {nl nl':Nat} {l k:List Int} {x:Int}
theorem dw8(hl:l.length≤9223372036854775807)(hk:k.length≤9223372036854775807)(h300: ¬300<IntKind.wrap .i64 ((l.length:Int)+(k.length:Int)))(he:tc9 q l k≠0):
 o25 W 3 [.x (.int .i64 q), .fz b (.sl nl 0 1 (ivs l)), .fz b' (.sl nl' 0 1 (ivs k)), .x (.int .i64 x)] []=some (.x (.bool true),[],[]):=by
 have h3:=cw6 (Int.not_lt.1 h300)
 have a1:=fun b nl=>aw7 (q:=q) (b:=b) (nl:=nl) hl
 have a2:=fun b nl=>aw7 (q:=q) (b:=b) (nl:=nl) hk
 have a3:=fun b nl=>bw7 (q:=q) (b:=b) (nl:=nl) hl
 have cc1:=fun b nl b' nl'=>b87 (q:=q) (b:=b) (nl:=nl) (b':=b') (nl':=nl') hl hk he
 have cc2:=fun b nl b' nl'=>ga3 (q:=q) (b:=b) (nl:=nl) (b':=b') (nl':=nl') hl hk he
 have cc3:=fun b nl b' nl'=>ao5 (q:=q) (b:=b) (nl:=nl) (b':=b') (nl':=nl') hl hk he
 have cc4:=fun b nl b' nl'=>ec8 (q:=q) (b:=b) (nl:=nl) (b':=b') (nl':=nl') hl hk he
 have l1:=le1 he
 have p1:=fun b nl=>y99 (q:=q) (b:=b) (nl:=nl) (x:=x) hl
 have p2:=fun b nl=>jx1 (q:=q) (b:=b) (nl:=nl) hl
 have p3:=fun b nl b' nl'=>r64 (q:=q) (b:=b) (nl:=nl) (b':=b') (nl':=nl') hl hk
 simp only[lz6]at cc1 cc2 cc3 cc4
 by_cases h1:polE q l=0
 ·have hb:tc9 q l k=polE q k:=by unfold tc9;rw[if_pos h1]
  rw[hb]at he
  simp only[hb]at cc1 cc2 cc3 cc4 l1 p3
  simp only[h1]at a1 a3 p1 p2
  generalize polE q k=E at*
  cases hn:fldN q.toNat with
  |none=>
   have e0:=fg0 hn
   rw[o10 rfl T3 rfl]
   unfold F3 c3
   simp(disch:=first|omega|fail) only[push_cast,seval,vrl,if_pos,if_neg,h3,a1,a2,a3,e0,nb8 he,cc1,cc2,cc3,cc4,List.tail_cons,l1,p1,p2,p3]
  |some y=>
   obtain⟨p0,m0,g0,mod⟩:=y
   haveI:IsFld q:=⟨⟨p0,m0,g0,mod,hn⟩⟩
   obtain⟨p,m,g,t,u⟩:=k75 q
   have e0:=uw8 (q:=q)
   rw[u.e]at e0
   have ht:=u.n
   have ho:=u.o
   rw[o10 rfl T3 rfl]
   unfold F3 c3
   simp(disch:=first|omega|fail) only[push_cast,seval,vrl,if_pos,if_neg,h3,a1,a2,a3,e0,ht,ho,nb8 he,cc1,cc2,cc3,cc4,List.tail_cons,l1,p1,p2,p3]
 ·have hb:tc9 q l k=polE q l:=by unfold tc9;rw[if_neg h1]
  rw[hb]at he
  simp only[hb]at cc1 cc2 cc3 cc4 l1 p3
  generalize polE q l=E at*
  cases hn:fldN q.toNat with
  |none=>
   have e0:=fg0 hn
   rw[o10 rfl T3 rfl]
   unfold F3 c3
   simp(disch:=first|omega|fail) only[push_cast,seval,vrl,if_pos,if_neg,h3,a1,a3,e0,nb8 he,cc1,cc2,cc3,cc4,List.tail_cons,l1,p1,p2,p3]
  |some y=>
   obtain⟨p0,m0,g0,mod⟩:=y
   haveI:IsFld q:=⟨⟨p0,m0,g0,mod,hn⟩⟩
   obtain⟨p,m,g,t,u⟩:=k75 q
   have e0:=uw8 (q:=q)
   rw[u.e]at e0
   have ht:=u.n
   have ho:=u.o
   rw[o10 rfl T3 rfl]
   unfold F3 c3
   simp(disch:=first|omega|fail) only[push_cast,seval,vrl,if_pos,if_neg,h3,a1,a3,e0,ht,ho,nb8 he,cc1,cc2,cc3,cc4,List.tail_cons,l1,p1,p2,p3]
end
section
variable {q:Int} [IsFld q] {b b':Bool} {nl nl':Nat} {x:Int}
theorem d91(a c:List (El q)):ca3 a c↔128<(mulK a c).length:=by
 unfold ca3
 rw[←u69]
 have ha:=t12 a
 have hc:=t12 c
 generalize xa4 a=A at*
 generalize xa4 c=C at*
 by_cases h1:A=[]
 ·subst h1;rw[hz3 (.inl rfl)];simp
 ·by_cases h2:C=[]
  ·subst h2;rw[hz3 (.inr rfl)];simp
  ·rw[lk3 ha hc h1 h2]
   have:=List.length_pos_iff.2 h1
   have:=List.length_pos_iff.2 h2
   omega
theorem n85{a c:List (El q)}(ha:a.length≤128)(h:xa4 c≠[]):(quoP (xa4 a) (xa4 c)).length≤200∧(remP (xa4 a) (xa4 c)).length≤200:=by
 have hd:=h79 (a:=xa4 a) (t12 c) h
 have la:=tb1 a
 have hp:=List.length_pos_iff.2 h
 by_cases hl:(xa4 c).length≤(xa4 a).length
 ·have:=(hd.len (t12 a) (t12 c) hl).1
  have:=hd.lt
  omega
 ·obtain⟨e1,e2⟩:=i84 (t12 a) (t12 c) (show(xa4 a).length<(xa4 c).length by omega)
  rw[e1,e2]
  simp;omega
theorem e28{a c:List (El q)}(ha:a.length≤128)(hc:c.length≤128):
 o25 W 3 [.x (.int .i64 q), .fz b (.sl nl 0 1 (ivs (vs a))), .fz b' (.sl nl' 0 1 (ivs (vs c))), .x (.int .i64 x)] []=some (.x (.bool true),[],[]):=by
 obtain⟨p,m,g,t,u⟩:=k75 q
 have hla:=fi2 a
 have hlc:=fi2 c
 have hpa:=i31 ha
 have hpc:=i31 hc
 have hb:tc9 q (vs a) (vs c)=0:=by unfold tc9;rw[if_pos hpa];exact hpc
 have a1:=fun b nl=>aw7 (q:=q) (b:=b) (nl:=nl) (l:=vs a) (by omega)
 have a2:=fun b nl=>aw7 (q:=q) (b:=b) (nl:=nl) (l:=vs c) (by omega)
 have a3:=fun b nl=>bw7 (q:=q) (b:=b) (nl:=nl) (l:=vs a) (by omega)
 have p1:=fun b nl=>y99 (q:=q) (b:=b) (nl:=nl) (x:=x) (l:=vs a) (by omega)
 have p2:=fun b nl=>jx1 (q:=q) (b:=b) (nl:=nl) (l:=vs a) (by omega)
 have p3:=fun b nl b' nl'=>r64 (q:=q) (b:=b) (nl:=nl) (b':=b') (nl':=nl') (xs:=vs a) (ys:=vs c) (by omega) (by omega)
 simp only[hpa]at a1 a3 p1 p2
 simp only[hpc]at a2
 simp only[hb]at p3
 have e0:=uw8 (q:=q)
 have d1:=fun b nl b' nl'=>bw2 (b:=b) (nl:=nl) (b':=b') (nl':=nl') ha hc
 obtain⟨FL2,d2⟩:=sk4 fun b nl b' nl'=>e53 (b:=b) (nl:=nl) (b':=b') (nl':=nl') ha hc
 obtain⟨FL3,d3⟩:=sk4 fun b nl b' nl'=>rf3 (b:=b) (nl:=nl) (b':=b') (nl':=nl') ha hc
 have d5:=fun b nl=>nf6 (b:=b) (nl:=nl) (a:=c) (by omega)
 rw[u.e]at e0 d1 d2 d3
 have ht:=u.n
 have ho:=u.o
 have cc1:=fun b nl b' nl'=>wa2 (b:=b) (nl:=nl) (b':=b') (nl':=nl') ha hc
 obtain⟨G3,cc3⟩:=sk4 fun b nl b' nl'=>na0 (b:=b) (nl:=nl) (b':=b') (nl':=nl') ha hc
 have s1:=mk8 a c
 have s2:=bx5 a c
 have g1:=vc6 (xa4 c).length (N:=128) (t12 c) (show(xa4 a).length≤128 by have:=tb1 a;omega) (by have:=tb1 c;omega)
 have s3:(gcdK a c).length≤128:=by unfold gcdK;rw[r27];exact g1
 have l1:=jc6 (l:=vs (addK a c)) (by rw[fi2];omega)
 have l2:=jc6 (l:=vs (mulK a c)) (by rw[fi2];omega)
 have l3:=jc6 (l:=vs (gcdK a c)) (by rw[fi2];omega)
 have hml:=fi2 (mulK a c)
 have h9:((a.length:Int)+(c.length:Int))≤300:=by omega
 have hmi:=d91 a c
 have step: ∀{z:Int} (Q R:AV),True:=fun _ _=>trivial
 by_cases hz:xa4 c=[]
 ·have cc4:=fun b nl b' nl'=>ws6 (b:=b) (nl:=nl) (b':=b') (nl':=nl') ha hc hz
  have l5:=le1 (e:=5) (by decide)
  simp only[hz,rp2,lz6]at d5 cc4
  by_cases hm:ca3 a c
  ·have cc2:=fun b nl b' nl'=>iy1 (b:=b) (nl:=nl) (b':=b') (nl':=nl') ha hc hm
   exact absurd hz (fun h=>hm.2.1 (by rw[h];rfl))
  ·obtain⟨G2,cc2⟩:=sk4 fun b nl b' nl'=>h84 (b:=b) (nl:=nl) (b':=b') (nl':=nl') ha hc hm
   have hm2: ¬(128:Int)<((mulK a c).length:Int):=by have h7:=mt hmi.2 hm;omega
   generalize addK a c=Z1 at*
   generalize mulK a c=Z2 at*
   generalize gcdK a c=Z3 at*
   generalize vs a=A at*
   generalize vs c=C at*
   rw[o10 rfl T3 rfl]
   unfold F3 c3
   simp(disch:=first|omega|fail) only[push_cast,seval,vrl,if_pos,if_neg,hla,hlc,a1,a2,a3,e0,ht,ho,d1,d2,d3,hml,cw6 (Int.not_lt.1 hm2),d5,cc1,cc2,cc3,cc4,l1,l2,l3,List.tail_cons,l5,p1,p2,p3]
 ·have hzl: ¬((xa4 c).length:Int)=0:=by have:=List.length_pos_iff.2 hz;omega
  have d4:=fun b nl b' nl'=>fo9 (b:=b) (nl:=nl) (b':=b') (nl':=nl') (a0:=a) (c0:=c) hz (by omega) (by omega)
  rw[u.e]at d4
  obtain⟨G4,cc4⟩:=sk4 fun b nl b' nl'=>pl2 (b:=b) (nl:=nl) (b':=b') (nl':=nl') ha hc hz
  obtain⟨q1,q2⟩:=n85 ha hz
  have l5:=jc6 (l:=vs (quoP (xa4 a) (xa4 c))) (by rw[fi2];omega)
  have l6:=jc6 (l:=vs (remP (xa4 a) (xa4 c))) (by rw[fi2];omega)
  by_cases hm:ca3 a c
  ·have cc2:=fun b nl b' nl'=>iy1 (b:=b) (nl:=nl) (b':=b') (nl':=nl') ha hc hm
   have hm2:(128:Int)<((mulK a c).length:Int):=by have:=hmi.1 hm;omega
   have l7: ∀(b b':Bool) (nl nl':Nat),o25 W 16 [.fz b (.sl nl 0 1 []), .x (.int .i64 4), .fz b' (.sl nl' 0 1 (ivs (vs (mulK a c)))), .x (.int .i64 4)] []=some (.x (.bool true),[],[]):=fun b b' nl nl'=>by
    have:=ea2 (b:=b) (nl:=nl) (b':=b') (nl':=nl') (l:=[]) (k:=vs (mulK a c)) (e:=4) (f:=4) (by simp)
    rw[if_neg (by decide),decide_eq_true (rfl:(4:Int)=4),decide_eq_true (show([]:List Int).length=0 from rfl),Bool.and_true]at this
    simpa only[lz6]using this
   simp only[lz6]at cc2
   generalize quoP (xa4 a) (xa4 c)=Z4 at*
   generalize remP (xa4 a) (xa4 c)=Z5 at*
   generalize addK a c=Z1 at*
   generalize mulK a c=Z2 at*
   generalize gcdK a c=Z3 at*
   generalize vs a=A at*
   generalize vs c=C at*
   rw[o10 rfl T3 rfl]
   unfold F3 c3
   simp(disch:=first|omega|fail) only[push_cast,seval,vrl,if_pos,if_neg,hla,hlc,a1,a2,a3,e0,ht,ho,d1,d2,d3,hml,dec_lt hm2,d5,nb8 hzl,d4,cc1,cc2,cc3,cc4,l1,l7,l3,l5,l6,p1,p2,p3]
  ·obtain⟨G2,cc2⟩:=sk4 fun b nl b' nl'=>h84 (b:=b) (nl:=nl) (b':=b') (nl':=nl') ha hc hm
   have hm2: ¬(128:Int)<((mulK a c).length:Int):=by have h7:=mt hmi.2 hm;omega
   generalize quoP (xa4 a) (xa4 c)=Z4 at*
   generalize remP (xa4 a) (xa4 c)=Z5 at*
   generalize addK a c=Z1 at*
   generalize mulK a c=Z2 at*
   generalize gcdK a c=Z3 at*
   generalize vs a=A at*
   generalize vs c=C at*
   rw[o10 rfl T3 rfl]
   unfold F3 c3
   simp(disch:=first|omega|fail) only[push_cast,seval,vrl,if_pos,if_neg,hla,hlc,a1,a2,a3,e0,ht,ho,d1,d2,d3,hml,cw6 (Int.not_lt.1 hm2),d5,nb8 hzl,d4,cc1,cc2,cc3,cc4,l1,l2,l3,l5,l6,p1,p2,p3]
end
theorem g58{q x:Int}{b b':Bool}{nl nl':Nat}{l k:List Int}(hl:l.length≤9223372036854775807)(hk:k.length≤9223372036854775807):
 o25 W 3 [.x (.int .i64 q), .fz b (.sl nl 0 1 (ivs l)), .fz b' (.sl nl' 0 1 (ivs k)), .x (.int .i64 x)] []=some (.x (.bool true),[],[]):=by
 by_cases h300:300<IntKind.wrap .i64 ((l.length:Int)+(k.length:Int))
 ·rw[o10 rfl T3 rfl]
  unfold F3 c3
  simp(disch:=first|omega|fail) only[push_cast,seval,vrl,if_pos,if_neg,dec_lt h300]
 ·by_cases he:tc9 q l k=0
  ·obtain⟨h1,h2⟩:=ju9 he
   obtain⟨hf,l1,X,rfl⟩:=rm0 h1
   obtain⟨_,l2,Y,rfl⟩:=rm0 h2
   exact e28 (by rwa [fi2]at l1) (by rwa [fi2]at l2)
  ·exact dw8 hl hk h300 he
set_option maxHeartbeats 4000000
theorem dd3{b:Bool}{nl:Nat}{raw:List Int}(hl:raw.length≤9223372036854775807){q m n x:Int}(q1: -9223372036854775808≤q)(q2:q≤9223372036854775807)(m1: -9223372036854775808≤m)(m2:m≤9223372036854775807)(n1: -9223372036854775808≤n)(n2:n≤9223372036854775807)(x1: -9223372036854775808≤x)(x2:x≤9223372036854775807):
 o25 W 4 [.fz b (.sl nl 0 1 (ivs raw)), .x (.int .i64 q), .x (.int .i64 m), .x (.int .i64 n), .x (.int .i64 x)] []=some (.x (.bool true),[],[]):=by
 by_cases h256:256<raw.length
 ·rw[o10 rfl T4 rfl]
  unfold F4 c4
  simp(disch:=first|omega|fail) only[push_cast,seval,vrl,if_pos,if_neg]
 ·obtain⟨z,hz,e0⟩:=jx7 q q1 q2
  obtain⟨z1,z2,hfz⟩:=x14 hz
  haveI:=hfz
  have p1:=s89 (n:=9) m1 m2 (by omega)
  have p2:=s89 (n:=9) n1 n2 (by omega)
  have p3:=s89 (n:=z) x1 x2 (by omega)
  obtain⟨m',hm,hm9⟩:=o99 (h58 (a:=m) (n:=9) (by omega)).1 (h58 (a:=m) (n:=9) (by omega)).2
  obtain⟨n',hn,hn9⟩:=o99 (h58 (a:=n) (n:=9) (by omega)).1 (h58 (a:=n) (n:=9) (by omega)).2
  rw[hm]at p1
  rw[hn]at p2
  obtain⟨Z,rfl⟩: ∃Z:Nat,z=(Z:Int):=⟨z.toNat,by omega⟩
  --so many places
  have main: ∀M:Nat,M≤9→M≤Z→ ∃(X Y:List Int),
   (∀b nl,o25 W 24 [.fz b (.sl nl 0 1 (ivs raw)), .x (.int .i64 (Z:Int)), .x (.int .i64 M)] []=some (.own 0 [],[.sl 0 3 1 (ivs X)],[]))∧
   (∀b nl,o25 W 23 [.fz b (.sl nl 0 1 (ivs raw)), .x (.int .i64 M), .x (.int .i64 (Z:Int)), .x (.int .i64 M)] []=some (.own 0 [],[.sl 1 3 1 (ivs Y)],[]))∧
   ∀b nl b' nl',o25 W 20 [.x (.int .i64 (Z:Int)), .fz b (.sl nl 0 1 (ivs X)), .fz b' (.sl nl' 0 1 (ivs Y)), .x (.int .i64 0)] []=some (.x (.bool true),[],[]):=fun M hM9 hMZ=>by
   obtain⟨L,l1,l2,l3,l4⟩:=mz4 (raw:=raw) hl (q:=Z) (n:=M) (by omega) hMZ
   obtain⟨X,hX,_⟩:=ax8 (q:=(Z:Int)) (L:=L) l3 l2
   obtain⟨Y,hY,hYl⟩:=m61 (raw:=raw) (frm:=(M:Int)) (q:=(Z:Int)) (n:=M) (by omega)
   have a1:=fun b nl=>vv4 (b:=b) (nl:=nl) (raw:=raw) hl (frm:=(M:Int)) (q:=(Z:Int)) (by omega) (by omega) (by omega) (N:=M) (by omega)
   refine⟨L,tv7 raw (M:Int) (Z:Int) M,l4,a1,fun b nl b' nl'=> ?_⟩
   have hXl:X.length=M:=by rw[←l1,hX,fi2]
   rw[hX,hY]
   exact tg1 (by omega) (by omega)
  have fin: ∀M:Nat,M≤9→M≤Z→ ∃A B:List Int,
   (∀b nl,o25 W 23 [.fz b (.sl nl 0 1 (ivs raw)), .x (.int .i64 0), .x (.int .i64 (Z:Int)), .x (.int .i64 M)] []=some (.own 0 [],[.sl 1 3 1 (ivs A)],[]))∧
   (∀b nl,o25 W 23 [.fz b (.sl nl 0 1 (ivs raw)), .x (.int .i64 M), .x (.int .i64 (Z:Int)), .x (.int .i64 n')] []=some (.own 0 [],[.sl 1 3 1 (ivs B)],[]))∧
   ∀b nl b' nl' y,o25 W 3 [.x (.int .i64 (Z:Int)), .fz b (.sl nl 0 1 (ivs A)), .fz b' (.sl nl' 0 1 (ivs B)), .x (.int .i64 y)] []=some (.x (.bool true),[],[]):=fun M hM9 hMZ=>by
   have a1:=fun b nl=>vv4 (b:=b) (nl:=nl) (raw:=raw) hl (frm:=0) (q:=(Z:Int)) (by omega) (by omega) (by omega) (N:=M) (by omega)
   have a2:=fun b nl=>vv4 (b:=b) (nl:=nl) (raw:=raw) hl (frm:=(M:Int)) (q:=(Z:Int)) (by omega) (by omega) (by omega) (N:=n') (by omega)
   have l1:=jd5 raw 0 (Z:Int) M
   have l2:=jd5 raw (M:Int) (Z:Int) n'
   exact⟨_,_,a1,a2,fun b nl b' nl' y=>g58 (by omega) (by omega)⟩
  by_cases h:Z<m'
  ·obtain⟨X,Y,b1,b2,b3⟩:=main Z (by omega) (Nat.le_refl _)
   obtain⟨A,B,d1,d2,d3⟩:=fin Z (by omega) (Nat.le_refl _)
   clear main fin
   have hlt:(Z:Int)<(m':Int):=by omega
   rw[o10 rfl T4 rfl]
   unfold F4 c4
   simp(disch:=first|omega|fail) only[push_cast,seval,vrl,if_pos,if_neg,e0,p1,p2,p3,dec_lt hlt,d1,d2,d3,b1,b2,b3]
  ·obtain⟨X,Y,b1,b2,b3⟩:=main m' (by omega) (by omega)
   obtain⟨A,B,d1,d2,d3⟩:=fin m' (by omega) (by omega)
   clear main fin
   have hlt: ¬(Z:Int)<(m':Int):=by omega
   rw[o10 rfl T4 rfl]
   unfold F4 c4
   simp(disch:=first|omega|fail) only[push_cast,seval,vrl,if_pos,if_neg,e0,p1,p2,p3,cw6 (Int.not_lt.1 hlt),d1,d2,d3,b1,b2,b3]
section
variable {h:H} {l:List AV} {ws:List Value}
theorem a23:Vm.VRL h [] (allZ h) (allZ h) [] []:=by rw[Vm.VRL]
theorem dp0(r:Vm.VRL h [] (allZ h) (allZ h) l ws)(v:Value):Vm.VRL h [] (allZ h) (allZ h) (.x v::l) (v::ws):=by
 rw[Vm.VRL];exact⟨v,ws,rfl,by rw[Vm.VR],r⟩
theorem qj4{sa:Option Addr}{c:Nat}{zs:List Int}(hr:RdI h sa c zs): ∀o,sa.map (·.block)=some o→allZ h o:=fun o ho=>by
 rcases hr with⟨rfl,_⟩|⟨_,o2,off,r2,rfl,h1,_⟩
 ·cases ho
 ·cases ho;exact h44 h1
theorem sk6(r:Vm.VRL h [] (allZ h) (allZ h) l ws){sa:Option Addr}{c:Nat}{zs:List Int}(hr:RdI h sa c zs):Vm.VRL h [] (allZ h) (allZ h) (.fz true (.sl 2 0 1 (ivs zs))::l) (.slice sa zs.length c::ws):=by
 rw[Vm.VRL];exact⟨_,ws,rfl,by rw[Vm.VR];exact pd9 hr (qj4 hr),r⟩
end
theorem zm8(h:H)(s0:Option Addr)(c0:Nat)(z0:List Int)(r0:RdI h s0 c0 z0)(_:ss4 h 1 s0=true)(_:z0.length≤9223372036854775807)(a1:Int)(_: -9223372036854775808≤a1)(_:a1≤9223372036854775807)(a2:Int)(_: -9223372036854775808≤a2)(_:a2≤9223372036854775807)(a3:Int)(_: -9223372036854775808≤a3)(_:a3≤9223372036854775807)(a4:Int)(_: -9223372036854775808≤a4)(_:a4≤9223372036854775807):
 ∃h',call T 4 [.slice s0 z0.length c0, .int .i64 a1, .int .i64 a2, .int .i64 a3, .int .i64 a4] h=some (.bool true,h'):=
 vlaw lw2 (sk6 (dp0 (dp0 (dp0 (dp0 a23 _) _) _) _) r0) (by apply dd3<;>assumption)
end Go.Proofs.YtoglhlonhmmieaaGreat
