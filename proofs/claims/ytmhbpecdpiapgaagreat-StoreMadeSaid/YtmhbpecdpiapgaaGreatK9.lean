/-
  store.wide, in the second machine: the answer is solR's. Condition: only nought gives nought. The document's MatrixMay, in the second machine. No condition. Codes: may one be, in the second machine. N ..
-/
import Derived.Test.YtmhbpecdpiapgaaGreatK8
set_option linter.unusedVariables false
set_option linter.unusedSimpArgs false
set_option linter.unusedSectionVars false
set_option maxRecDepth 100000
namespace Go.Proofs.YtmhbpecdpiapgaaGreat
open Go.Am Go.Vm Go.Alg
section
variable {K:Type} [FK K]
theorem ez9(n:Nat): ∀(rows:List (List K)) (s:Nat) (pre suf:List K),pre.length=s→suf.length=rows.length→setP n ((List.range' s rows.length).zip rows) (pre++suf)=pre++rows.map fun r=>wf r n
 | [],s,pre,suf,hp,hs=>by
   obtain rfl:suf=[]:=List.eq_nil_of_length_eq_zero hs
   simp[setP]
 |r::rows,s,pre,suf,hp,hs=>by
  obtain⟨a,suf,rfl⟩: ∃a t,suf=a::t:=by
   cases suf with
   |nil=>simp at hs
   |cons a t=>exact⟨a,t,rfl⟩
  rw[List.length_cons,List.range'_succ,List.zip_cons_cons,setP]
  have hset:(pre++a::suf).set s (wf r n)=(pre++[wf r n])++suf:=by
   subst hp
   rw[List.append_assoc]
   simp
  rw[hset,ez9 n rows (s+1) (pre++[wf r n]) suf (by rw[List.length_append,List.length_singleton,hp]) (by simpa using hs),List.map_cons,List.append_assoc];rfl
end
section
variable {q:Int} [IsFld q] {b:Bool} {nm nb n R:Nat} {M0:List (List (El q))} {B0:List (El q)}
theorem om4{m:List (El q)}{x:El q}(hm:m.length=n):wf (m++[x]) n=x:=by
 unfold wf
 rw[List.getD_eq_getElem?_getD,List.getElem?_append_right (by omega),hm,Nat.sub_self];rfl
theorem r52(hM0: ∀m∈M0,m.length=n)(hB0:B0.length=M0.length){M:List (List (El q))}{B:List (El q)}(hM:M.length=R)(hB:B.length=R)(hrow: ∀k,k<R→(nth M k).length=n)(I:RedI (n+1) (augL M0 B0) (augL M B) (List.range n) n):
 n≤R∧(if((B.drop n).any fun x=>decide (x.v≠0))=true then solR n M0 B0=none else solR n M0 B0=some (B.take n)):=by
 have hal:=wd4 (M:=M) (B:=B) (by omega)
 have hna: ∀k,k<R→nth (augL M B) k=nth M k++[wf B k]:=fun k hk=>zp8 (by omega) (by omega)
 have hpl:=I.pl
 rw[List.length_range,hal,hM]at hpl
 refine⟨hpl, ?_⟩
 obtain⟨s1,s2⟩:=z55 hM0 hB0 I
 rw[List.length_range,hal,hM]at s1 s2
 split
 ·rename_i h
  obtain⟨x,hx,hv⟩:=List.any_eq_true.1 h
  obtain⟨j,hj⟩:=List.getElem?_of_mem hx
  rw[List.getElem?_drop]at hj
  have hjl:=(List.getElem?_eq_some_iff.1 hj).1
  refine s1 ⟨n+j,by omega,by omega, ?_⟩
  rw[hna _ (by omega),om4 (hrow _ (by omega))]
  have:wf B (n+j)=x:=by unfold wf;rw[List.getD_eq_getElem?_getD,hj];rfl
  rw[this]
  intro e
  rw[e]at hv
  simp at hv
  exact hv rfl
 ·rename_i h
  rw[Bool.not_eq_true,List.any_eq_false]at h
  rw[s2 fun⟨k,h1,h2,h3⟩=>h3 (by
   rw[hna k h2,om4 (hrow k h2)]
   have hmem:wf B k∈B.drop n:=by
    refine List.mem_of_getElem? (i:=k-n) ?_
    rw[List.getElem?_drop,show n+(k-n)=k by omega,t16 (by omega)]
   have:=h _ hmem
   exact r57.1 (by simpa using this))]
  congr 1
  unfold outP
  rw[List.length_range]
  have hlt:((augL M B).take n).length=n:=by rw[List.length_take];omega
  have hz:=ez9 n ((augL M B).take n) 0 [] (List.replicate n 0) rfl (by rw[List.length_replicate,hlt])
  rw[hlt,←List.range_eq_range',List.nil_append,List.nil_append]at hz
  rw[hz]
  refine List.ext_getElem? fun k=> ?_
  by_cases hk:k<n
  ·rw[List.getElem?_map,List.getElem?_take,if_pos hk,List.getElem?_take,if_pos hk,gu3 (by omega),hna k (by omega),t16 (by omega)]
   show some (wf (nth M k++[wf B k]) n)=_
   rw[om4 (hrow k (by omega))]
  ·rw[List.getElem?_eq_none (by rw[List.length_map,hlt];omega),List.getElem?_eq_none (by rw[List.length_take];omega)]
end
section
variable {q p m g:Int} {t:Tree} {b:Bool} {nl nr:Nat} {M:List (List Int)}
end
section
variable {q n:Int} {nl nr:Nat} {M:List (List Int)}
end
section
variable {q p m g:Int} [IsFld q] {t:Tree} {b:Bool} {nl nr n6 n7 n9:Nat} {M:List (List (El q))} {A:List (Nat×List (El q))} {w:Nat} {i8:Nat}
theorem m26(u:RFo q p m g t)(hA: ∀a∈A,a.2.length=w∧a.1<w)(hAl:A.length≤100000)(hW:w≤100000):
 ∀(n k:Nat) (r:List (El q)),k+n=A.length→r.length=w→ ∀ks,
  vgoL W ⟨h62,[.tmp 4, .tmp 5],0⟩ [1,2,6,7,8,9,10] c62L0 (.blk 2 [1,2,6,7,8,9]::ks) [(1, .fz b (.sl nl 0 1 (lvs nr (M.map vs)))),(2, .own 0 []),(6, .own 1 []),(7, .own 2 []),(8, .x (.int .i64 i8)),(9, .own 3 []),(10, .x (.int .i64 k))] [.pt 31 [.v (.int .i64 q), .v (.int .i64 p), .v (.int .i64 m), .v (.int .i64 g), .fz t], .sl n6 22 1 (lls 2 (pvR A)), .sl n7 3 1 (ivs (pvP A)), .sl (nl1 k) 3 1 (ivs (vs r))]=
   vgo W ⟨h62,[.tmp 4, .tmp 5],0⟩ ks (VFr.of [(1, .fz b (.sl nl 0 1 (lvs nr (M.map vs)))),(2, .own 0 []),(6, .own 1 []),(7, .own 2 []),(8, .x (.int .i64 i8)),(9, .own 3 [])]) [.pt 31 [.v (.int .i64 q), .v (.int .i64 p), .v (.int .i64 m), .v (.int .i64 g), .fz t], .sl n6 22 1 (lls 2 (pvR A)), .sl n7 3 1 (ivs (pvP A)), .sl (nl1 A.length) 3 1 (ivs (vs (uo6 (A.drop k) r)))]
 |0,k,r,hk,hr,ks=>by
  obtain rfl:k=A.length:=by omega
  have h1:=nu3 A
  rw[oh9 (by omega),sb5 c62L0.eq_def,uo6]
  simp(disch:=first|omega|fail) only[push_cast,seval,vrl,if_pos,if_neg,h1]
 |n+1,k,r,hk,hr,ks=>by
  obtain⟨a,ha⟩:=ge6 (l:=A) (i:=k) (by omega)
  obtain⟨hal,hap⟩:=hA a (List.mem_of_getElem? ha)
  have ih:=m26 u hA hAl hW n (k+1) (dx9 (wf r a.1) r a.2) (by omega) (by rw[wx1 (by rw[hr,hal]),hr]) ks
  have h1:=nu3 A
  have h2:=ga8 A
  have h3:=x08 ha
  have h4:=bx6 ha
  have h5:=iva (l:=r) (i:=a.1) (by omega)
  have hl:=fun b b' nl nl'=>el1 (b:=b) (b':=b') (nl:=nl) (nl':=nl') (c:=wf r a.1) (r:=r) (o:=a.2) (by omega) (by omega)
  rw[u.e]at hl
  have ht:=u.n
  have ho:=u.o
  rw[Int.natCast_add,Int.natCast_one]at ih
  rw[i62 ha,uo6,←ih,sb5 c62L0.eq_def]
  simp(disch:=first|omega|fail) only[push_cast,seval,vrl,if_pos,if_neg,h1,h2,h3,h4,h5,hl,ht,ho]
theorem hf5{T2 T6 T7:Tree}{r:List (El q)}(hrl:r.length=w)(hW:w≤100000): ∀(n i:Nat),i+n=w→ ∀ks,
 vgoL W ⟨h62,[.tmp 4, .tmp 5],0⟩ [1,2,6,7,8,9,11] c62L1 (.blk 4 [1,2,6,7,8,9,11]::ks) [(1, .fz b (.sl nl 0 1 (lvs nr (M.map vs)))),(2, .own 0 []),(6, .own 1 []),(7, .own 2 []),(8, .x (.int .i64 i8)),(9, .own 3 []),(11, .x (.int .i64 i))] [T2,T6,T7, .sl n9 3 1 (ivs (vs r))]=
  vgo W ⟨h62,[.tmp 4, .tmp 5],0⟩ ks (VFr.of [(1, .fz b (.sl nl 0 1 (lvs nr (M.map vs)))),(2, .own 0 []),(6, .own 1 []),(7, .own 2 []),(8, .x (.int .i64 i8)),(9, .own 3 []),(11, .x (.int .i64 (lv6 (r.drop i)+i:Nat)))]) [T2,T6,T7, .sl n9 3 1 (ivs (vs r))]
 |0,i,hi,ks=>by
  rw[oh9 (by omega),lv6,sb5 c62L1.eq_def]
  simp(disch:=first|omega|fail) only[push_cast,seval,vrl,if_pos,if_neg]
 |n+1,i,hi,ks=>by
  have ih:=hf5 (T2:=T2) (T6:=T6) (T7:=T7) hrl hW n (i+1) (by omega) ks
  obtain⟨a,ha⟩:=ge6 (l:=r) (i:=i) (by omega)
  have hwa:wf r i=a:=by
   obtain⟨h1,h2⟩:=List.getElem?_eq_some_iff.1 ha
   rw[i66 h1,h2]
  have h1:=iva (l:=r) (i:=i) (by omega)
  rw[hwa]at h1
  rw[Int.natCast_add,Int.natCast_one]at ih
  rw[i62 ha,lv6]
  by_cases h0:a=0
  ·rw[if_pos h0,show lv6 (r.drop (i+1))+1+i=lv6 (r.drop (i+1))+(i+1) by omega,←ih,sb5 c62L1.eq_def]
   have hv:=r57.2 h0
   simp(disch:=first|omega|fail) only[push_cast,seval,vrl,if_pos,if_neg,h1,hv]
  ·rw[if_neg h0,sb5 c62L1.eq_def]
   simp(disch:=first|omega|fail) only[push_cast,seval,vrl,if_pos,if_neg,h1,nb8 (fun h=>h0 (r57.1 h))]
theorem cc8(u:RFo q p m g t){T6 T7:Tree}{c:El q}{r:List (El q)}{at':Nat}(hrl:r.length=w)(hW:w≤100000): ∀(n j:Nat),j+n=w→ ∀ks,
 vgoL W ⟨h62,[.tmp 4, .tmp 5],0⟩ [1,2,6,7,8,9,11,12,13] c62L2 (.blk 6 [1,2,6,7,8,9,11]::ks) [(1, .fz b (.sl nl 0 1 (lvs nr (M.map vs)))),(2, .own 0 []),(6, .own 1 []),(7, .own 2 []),(8, .x (.int .i64 i8)),(9, .own 3 []),(11, .x (.int .i64 at')),(12, .x (.int .i64 c.v)),(13, .x (.int .i64 j))] [.pt 31 [.v (.int .i64 q), .v (.int .i64 p), .v (.int .i64 m), .v (.int .i64 g), .fz t],T6,T7, .sl n9 3 1 (ivs (vs ((xf5 c r).take j++r.drop j)))]=
  vgo W ⟨h62,[.tmp 4, .tmp 5],0⟩ ks (VFr.of [(1, .fz b (.sl nl 0 1 (lvs nr (M.map vs)))),(2, .own 0 []),(6, .own 1 []),(7, .own 2 []),(8, .x (.int .i64 i8)),(9, .own 3 []),(11, .x (.int .i64 at'))]) [.pt 31 [.v (.int .i64 q), .v (.int .i64 p), .v (.int .i64 m), .v (.int .i64 g), .fz t],T6,T7, .sl n9 3 1 (ivs (vs (xf5 c r)))]
 |0,j,hj,ks=>by
  obtain rfl:j=r.length:=by omega
  unfold xf5
  rw[l44,sb5 c62L2.eq_def]
  simp(disch:=first|omega|fail) only[push_cast,seval,vrl,if_pos,if_neg]
 |n+1,j,hj,ks=>by
  have ih:=cc8 u (T6:=T6) (T7:=T7) (c:=c) (at':=at') hrl hW n (j+1) (by omega) ks
  obtain⟨a,ha⟩:=ge6 (l:=r) (i:=j) (by omega)
  have hcl:=mh9 (fun x=>x*c) r j
  have hat:=zw5 (f:=fun x=>x*c) (l:=r) (j:=j) (by omega)
  have hset:=fz1 (f:=fun x=>x*c) ha
  have hsc: ∀x:List (El q),xf5 c x=x.map fun x=>x*c:=fun _=>rfl
  rw[hsc,←hset]at ih
  rw[hsc]
  generalize hy:(r.map fun x=>x*c).take j++r.drop j=y at ih hcl hat hset
  have hwy:wf y j=a:=by
   unfold wf;rw[List.getD_eq_getElem?_getD,hat,ha];rfl
  have h1:=iva (l:=y) (i:=j) (by omega)
  rw[hwy]at h1
  have ht:=u.n
  have ho:=u.o
  have vmul:=fun x y:Int=>n06 (q:=q) (x:=x) (y:=y)
  rw[u.e]at vmul
  have hs:=g52 y j (a*c)
  rw[ym6]at hs
  rw[Int.natCast_add,Int.natCast_one]at ih
  rw[←ih,sb5 c62L2.eq_def]
  simp(disch:=first|omega|fail) only[push_cast,seval,vrl,if_pos,if_neg,h1,vmul,ht,ho,hs]
theorem nc1(u:RFo q p m g t){T7:Tree}(hA: ∀a∈A,a.2.length=w∧a.1<w)(hAl:A.length≤100000)(hW:w≤100000){r:List (El q)}(hrl:r.length=w){at':Nat}(hat:at'<w): ∀(n k:Nat),k+n=A.length→ ∀ks,
 vgoL W ⟨h62,[.tmp 4, .tmp 5],0⟩ [1,2,6,7,8,9,11,14] c62L3 (.blk 8 [1,2,6,7,8,9,11]::ks) [(1, .fz b (.sl nl 0 1 (lvs nr (M.map vs)))),(2, .own 0 []),(6, .own 1 []),(7, .own 2 []),(8, .x (.int .i64 i8)),(9, .own 3 []),(11, .x (.int .i64 at')),(14, .x (.int .i64 k))] [.pt 31 [.v (.int .i64 q), .v (.int .i64 p), .v (.int .i64 m), .v (.int .i64 g), .fz t], .sl n6 22 1 (lls 2 (pvR ((A.map (updR at' r)).take k++A.drop k))),T7, .sl n9 3 1 (ivs (vs r))]=
  vgo W ⟨h62,[.tmp 4, .tmp 5],0⟩ ks (VFr.of [(1, .fz b (.sl nl 0 1 (lvs nr (M.map vs)))),(2, .own 0 []),(6, .own 1 []),(7, .own 2 []),(8, .x (.int .i64 i8)),(9, .own 3 []),(11, .x (.int .i64 at'))]) [.pt 31 [.v (.int .i64 q), .v (.int .i64 p), .v (.int .i64 m), .v (.int .i64 g), .fz t], .sl n6 22 1 (lls 2 (pvR (A.map (updR at' r)))),T7, .sl n9 3 1 (ivs (vs r))]
 |0,k,hk,ks=>by
  obtain rfl:k=A.length:=by omega
  have h1:=nu3 (A.map (updR at' r))
  rw[List.length_map]at h1
  rw[l44,sb5 c62L3.eq_def]
  simp(disch:=first|omega|fail) only[push_cast,seval,vrl,if_pos,if_neg,h1]
 |n+1,k,hk,ks=>by
  have ih:=nc1 u (T7:=T7) hA hAl hW hrl hat n (k+1) (by omega) ks
  obtain⟨a,ha⟩:=ge6 (l:=A) (i:=k) (by omega)
  obtain⟨hal,hap⟩:=hA a (List.mem_of_getElem? ha)
  have hcl:=mh9 (updR at' r) A k
  have hca:=zw5 (f:=updR at' r) (l:=A) (j:=k) (by omega)
  have hset:=fz1 (f:=updR at' r) ha
  rw[←hset]at ih
  generalize hy:(A.map (updR at' r)).take k++A.drop k=Y at ih hcl hca hset
  rw[ha]at hca
  have h0:=nu3 Y
  have h1:=x08 hca
  have h2:=iva (l:=a.2) (i:=at') (by omega)
  have hl:=fun b b' nl nl'=>el1 (b:=b) (b':=b') (nl:=nl) (nl':=nl') (c:=wf a.2 at') (r:=a.2) (o:=r) (by omega) (by omega)
  rw[u.e]at hl
  have hs:(pvR Y).set k (vs (dx9 (wf a.2 at') a.2 r))=pvR (Y.set k (updR at' r a)):=by rw[←lo1];rfl
  have ht:=u.n
  have ho:=u.o
  rw[Int.natCast_add,Int.natCast_one]at ih
  rw[←ih,sb5 c62L3.eq_def]
  simp(disch:=first|omega|fail) only[push_cast,seval,vrl,if_pos,if_neg,h0,h1,h2,hl,ht,ho,hs]
theorem on7{T2 T6 T9:Tree}(hAl:A.length≤100000){at':Nat}(hl:(lls 2 (pvR A)).length=A.length): ∀(n k:Nat),k+n=A.length→ ∀ks,
 vgoL W ⟨h62,[.tmp 4, .tmp 5],0⟩ [1,2,6,7,8,9,11,15] c62L4 (.blk 10 [1,2,6,7,8,9,11,15]::ks) [(1, .fz b (.sl nl 0 1 (lvs nr (M.map vs)))),(2, .own 0 []),(6, .own 1 []),(7, .own 2 []),(8, .x (.int .i64 i8)),(9, .own 3 []),(11, .x (.int .i64 at')),(15, .x (.int .i64 k))] [T2, .sl n6 22 1 (lls 2 (pvR A)), .sl n7 3 1 (ivs (pvP A)),T9]=
  vgo W ⟨h62,[.tmp 4, .tmp 5],0⟩ ks (VFr.of [(1, .fz b (.sl nl 0 1 (lvs nr (M.map vs)))),(2, .own 0 []),(6, .own 1 []),(7, .own 2 []),(8, .x (.int .i64 i8)),(9, .own 3 []),(11, .x (.int .i64 at')),(15, .x (.int .i64 (posR at' (A.drop k)+k:Nat)))]) [T2, .sl n6 22 1 (lls 2 (pvR A)), .sl n7 3 1 (ivs (pvP A)),T9]
 |0,k,hk,ks=>by
  have h1:=nu3 A
  rw[oh9 (by omega),posR,sb5 c62L4.eq_def]
  simp(disch:=first|omega|fail) only[push_cast,seval,vrl,if_pos,if_neg,h1]
 |n+1,k,hk,ks=>by
  have ih:=on7 (T2:=T2) (T6:=T6) (T9:=T9) hAl (at':=at') hl n (k+1) (by omega) ks
  obtain⟨a,ha⟩:=ge6 (l:=A) (i:=k) (by omega)
  have h1:=nu3 A
  have h2:=ga8 A
  have h4:=bx6 ha
  rw[Int.natCast_add,Int.natCast_one]at ih
  rw[i62 ha,posR]
  by_cases hlt:a.1<at'
  ·rw[if_pos hlt,show posR at' (A.drop (k+1))+1+k=posR at' (A.drop (k+1))+(k+1) by omega,←ih,sb5 c62L4.eq_def]
   simp(disch:=first|omega|fail) only[push_cast,seval,vrl,if_pos,if_neg,h1,h2,h4]
  ·rw[if_neg hlt,sb5 c62L4.eq_def]
   simp(disch:=first|omega|fail) only[push_cast,seval,vrl,if_pos,if_neg,h1,h2,h4]
theorem wv5(u:RFo q p m g t)(hMl: ∀r∈M,r.length=w)(hMn:M.length≤500)(hW:w≤1000): ∀(n i:Nat) (A:List (Nat×List (El q))),i+n=M.length→A.length≤i→(∀a∈A,a.2.length=w∧a.1<w)→ ∀ks,
 vgoL W ⟨h62,[.tmp 4, .tmp 5],0⟩ [1,2,6,7,8] c62L5 (.blk 0 [6,7]::ks) [(1, .fz b (.sl nl 0 1 (lvs nr (M.map vs)))),(2, .own 0 []),(6, .own 1 []),(7, .own 2 []),(8, .x (.int .i64 i))] [.pt 31 [.v (.int .i64 q), .v (.int .i64 p), .v (.int .i64 m), .v (.int .i64 g), .fz t], .sl (nl0 A.length) 22 1 (lls 2 (pvR A)), .sl (nl0 A.length) 3 1 (ivs (pvP A))]=
  vgo W ⟨h62,[.tmp 4, .tmp 5],0⟩ ks (VFr.of [(6, .own 1 []),(7, .own 2 [])]) [.pt 31 [.v (.int .i64 q), .v (.int .i64 p), .v (.int .i64 m), .v (.int .i64 g), .fz t], .sl (nl0 ((M.drop i).foldl vp4 A).length) 22 1 (lls 2 (pvR ((M.drop i).foldl vp4 A))), .sl (nl0 ((M.drop i).foldl vp4 A).length) 3 1 (ivs (pvP ((M.drop i).foldl vp4 A)))]
 |0,i,A,hi,hAi,hA,ks=>by
  rw[oh9 (by omega),List.foldl_nil,sb5 c62L5.eq_def]
  simp(disch:=first|omega|fail) only[push_cast,seval,vrl,if_pos,if_neg]
 |n+1,i,A,hi,hAi,hA,ks=>by
  have IH:=wv5 u hMl hMn hW n (i+1)
  obtain⟨r0,hr0⟩:=ge6 (l:=M) (i:=i) (by omega)
  have hr0l:=hMl r0 (List.mem_of_getElem? hr0)
  have h0:=mva (nl:=nr) hr0
  rw[i62 hr0,List.foldl_cons]
  have hcp:=fun b nl=>xr6 (b:=b) (nl:=nl) (l:=vs r0) (by rw[fi2];omega)
  have e2:=fun ks=>m26 (b:=b) (nl:=nl) (nr:=nr) (n6:=nl0 A.length) (n7:=nl0 A.length) (M:=M) (i8:=i) u hA (by omega) (by omega) A.length 0 r0 (by omega) hr0l ks
  rw[List.drop_zero]at e2
  obtain⟨r,hr⟩: ∃r,uo6 A r0=r:=⟨_,rfl⟩
  rw[hr]at e2
  have hrl:r.length=w:=by rw[←hr];exact m12 (n:=w) (fun a ha=>(hA a ha).1) A r0 (fun _ h=>h) hr0l
  have e3:=fun n9 T2 T6 T7 ks=>hf5 (b:=b) (nl:=nl) (nr:=nr) (n9:=n9) (M:=M) (i8:=i) (T2:=T2) (T6:=T6) (T7:=T7) hrl (by omega) w 0 (by omega) ks
  rw[List.drop_zero,Nat.add_zero]at e3
  obtain⟨at',hat⟩: ∃x,lv6 r=x:=⟨_,rfl⟩
  have hle:at'≤w:=by rw[←hat,←hrl];exact sb2 r
  rw[hat]at e3
  have hadd:=jp6 hr hat
  simp only[Int.natCast_zero,og7]at e2 e3
  have h2:=nu3 A
  have h3:=ga8 A
  by_cases hfull:at'=w
  ·rw[if_pos (by rw[hrl];exact hfull)]at hadd
   rw[hadd]
   have ih:=IH A (by omega) (by omega) hA ks
   rw[Int.natCast_add,Int.natCast_one]at ih
   rw[←ih,sb5 c62L5.eq_def]
   simp(disch:=first|omega|fail) only[push_cast,seval,vrl,if_pos,if_neg,h0,hcp]
   rw[e2]
   simp(disch:=first|omega|fail) only[push_cast,seval,vrl,if_pos,if_neg]
   rw[e3]
   simp(disch:=first|omega|fail) only[push_cast,seval,vrl,if_pos,if_neg]
  ·rw[if_neg (by rw[hrl];exact hfull)]at hadd
   have hne:wf r at'≠0:=by have:=aa0 (l:=r) (by rw[hat,hrl];omega);rwa [hat]at this
   have h1:=iva (l:=r) (i:=at') (by omega)
   obtain⟨c,hc⟩: ∃c,FK.inv (wf r at')=c:=⟨_,rfl⟩
   have hv:=rl7 hne
   rw[hc]at hv hadd
   have ht:=u.n
   have ho:=u.o
   have vinv:=fun x:Int=>dy2 (q:=q) (x:=x)
   rw[u.e]at vinv
   have e4:=fun n9 T6 T7 ks=>cc8 (b:=b) (nl:=nl) (nr:=nr) (n9:=n9) (M:=M) (i8:=i) (T6:=T6) (T7:=T7) (at':=at') u (c:=c) hrl (by omega) w 0 (by omega) ks
   rw[List.take_zero,List.nil_append,List.drop_zero]at e4
   obtain⟨s,hs⟩: ∃s,xf5 c r=s:=⟨_,rfl⟩
   have hsl:s.length=w:=by rw[←hs];unfold xf5;rw[List.length_map,hrl]
   rw[hs]at e4 hadd
   have e5:=fun n6 n9 T7 ks=>nc1 (b:=b) (nl:=nl) (nr:=nr) (n6:=n6) (n9:=n9) (M:=M) (i8:=i) (T7:=T7) u hA (by omega) (by omega) hsl (at':=at') (by omega) A.length 0 (by omega) ks
   rw[List.take_zero,List.drop_zero,List.nil_append]at e5
   obtain⟨A',hA'⟩: ∃A',A.map (updR at' s)=A':=⟨_,rfl⟩
   have hAl':A'.length=A.length:=by rw[←hA',List.length_map]
   have hpv:pvP A'=pvP A:=by rw[←hA',so2]
   have hA2: ∀a∈A',a.2.length=w∧a.1<w:=fun a ha=>by
    rw[←hA']at ha
    obtain⟨b,hb',rfl⟩:=List.mem_map.1 ha
    have:=hA b hb'
    exact⟨by show(dx9 _ _ _).length=w;rw[wx1 (by rw[this.1,hsl]),this.1],this.2⟩
   rw[hA']at e5 hadd
   have h2':=nu3 A'
   have e6:=fun n6 n7 T2 T9 ks=>on7 (b:=b) (nl:=nl) (nr:=nr) (n6:=n6) (n7:=n7) (M:=M) (i8:=i) (T2:=T2) (T6:=T2) (T9:=T9) (A:=A') (by omega) (at':=at') (by rw[qf0,h2']) A'.length 0 (by omega) ks
   rw[List.drop_zero,Nat.add_zero,hpv]at e6
   obtain⟨k,hk⟩: ∃k,posR at' A'=k:=⟨_,rfl⟩
   have hkl:k≤A'.length:=by rw[←hk];exact m85 _ _
   rw[hk]at e6
   rw[on6,hk]at hadd
   rw[hadd]
   have hnl:(A'.take k++(at',s)::A'.drop k).length=A'.length+1:=by
    simp only[List.length_append,List.length_cons,List.length_take,List.length_drop];omega
   have ih:=IH (A'.take k++(at',s)::A'.drop k) (by omega) (by rw[hnl];omega) (fun a ha=>by
    rcases List.mem_append.1 ha with h|h
    ·exact hA2 a (List.mem_of_mem_take h)
    ·rcases List.mem_cons.1 h with rfl|h
     ·exact⟨hsl,by show at'<w;omega⟩
     ·exact hA2 a (List.mem_of_mem_drop h)) ks
   rw[Int.natCast_add,Int.natCast_one]at ih
   rw[hnl]at ih
   simp only[Int.natCast_zero]at e4 e5 e6
   rw[←ih,sb5 c62L5.eq_def]
   simp(disch:=first|omega|fail) only[push_cast,seval,vrl,if_pos,if_neg,h0,hcp]
   rw[e2]
   simp(disch:=first|omega|fail) only[push_cast,seval,vrl,if_pos,if_neg]
   rw[e3]
   simp(disch:=first|omega|fail) only[push_cast,seval,vrl,if_pos,if_neg,h1,vinv,←hv,ht,ho]
   rw[e4]
   simp(disch:=first|omega|fail) only[push_cast,seval,vrl,if_pos,if_neg,h2,ht]
   rw[e5]
   simp(disch:=first|omega|fail) only[push_cast,seval,vrl,if_pos,if_neg]
   rw[e6]
   have hc1:=oz2 hkl
   have hj1:=ct5 hkl
   have hc2:=v40 (A:=A') (k:=k) (n:=A'.length-k) (by omega)
   have hc3:=xb6 (P:=pvP A) (k:=k) h3 (by omega)
   have hc4:=zo1 (P:=pvP A) (k:=k) h3 (by omega)
   have hi1:=np4 A' k at' s
   have hi2:=xk2 (k:=k) (p:=at') (r:=s) hpv
   have hmin':min k A.length=k:=by omega
   have hn1:((k:Int)+((A'.length:Int)-(k:Int))-(k:Int)).toNat=A'.length-k:=by omega
   have hmin:min k A'.length=k:=by omega
   simp(disch:=first|omega|fail) only[push_cast,seval,vrl,if_pos,if_neg,hc1,hj1,hc2,hc3,hc4,hi1,hi2,bo6,nl9,by7,av1,h2',nu3,ga8,hn1,hmin,hmin',Int.sub_zero]
theorem di6(hMl: ∀r∈M,r.length=w)(hMn:M.length≤500)(hW:w≤1000):
 o24 W 62 [.agg (rFs q), .fz b (.sl nl 0 1 (lvs nr (M.map vs)))] []=some (.tup [.own 0 [], .own 1 []],[.sl (nl0 (redR M).length) 22 1 (lls 2 (pvR (redR M))), .sl (nl0 (redR M).length) 3 1 (ivs (pvP (redR M)))],[]):=by
 obtain⟨p,m,g,t,u⟩:=k75 q
 have e:=fun ks=>wv5 (b:=b) (nl:=nl) (nr:=nr) u hMl hMn hW M.length 0 [] (by omega) (by simp) (fun a ha=>by cases ha) ks
 rw[List.drop_zero]at e
 have hp:pvP ([]:List (Nat×List (El q)))=[]:=rfl
 have hr:pvR ([]:List (Nat×List (El q)))=[]:=rfl
 rw[hp,hr]at e
 simp only[vt2,List.length_nil]at e
 simp only[Int.natCast_zero,List.take_zero,List.drop_zero,rp2,lz6,x25,List.map_nil,List.length_nil]at e
 have ht:=u.n
 rw[o10 rfl T62 rfl,u.e]
 unfold F62 c62
 simp(disch:=first|omega|fail) only[push_cast,seval,vrl,if_pos,if_neg,ht]
 rw[e]
 simp(disch:=first|omega|fail) only[push_cast,seval,vrl,if_pos,if_neg,redR]
end
section
variable {q p m g:Int} [IsFld q] {t:Tree} {b b':Bool} {nl nl' nr n7 n8:Nat} {M:List (List (El q))} {A:List (Nat×List (El q))} {N:Nat}
end
section
variable {q:Int} [IsFld q] {n R:Nat}
end
end Go.Proofs.YtmhbpecdpiapgaaGreat
namespace Go.Alg
section
variable {K:Type} [FK K]
theorem y46{α β:Type}(f:α×β→K): ∀(l:List α) (l':List β),l.length=l'.length→ ∀l2 l2',sumL ((l++l2).zip (l'++l2')) f=sumL (l.zip l') f+sumL (l2.zip l2') f:=fun l l' h l2 l2'=>by
 rw[List.zip_append h,up0]
theorem uj4{α β γ:Type}(g:β→γ)(f:α×γ→K): ∀(l:List α) (l':List β),sumL (l.zip (l'.map g)) f=sumL (l.zip l') (fun p=>f (p.1,g p.2))
 | [],_=>rfl
 |_::_,[]=>rfl
 |a::l,b::l'=>by rw[List.map_cons,List.zip_cons_cons,List.zip_cons_cons,gb6,gb6,uj4 g f l l']
theorem hom: ∀(r:Nat) (S:List (Nat→K)),r<S.length→ ∃y:List K,y.length=S.length∧(∃a∈y,a≠0)∧ ∀j,j<r→sumL (y.zip S) (fun p=>p.1*p.2 j)=0
 |0,S,h=>by
  refine⟨List.replicate S.length 1,List.length_replicate,⟨1,List.mem_replicate.2 ⟨by omega,rfl⟩,ki7⟩,fun j hj=>absurd hj (Nat.not_lt_zero j)⟩
 |r+1,S,h=>by
  by_cases hs: ∃s∈S,s r≠0
  ·obtain⟨s,hs,hne⟩:=hs
   obtain⟨S1,S2,rfl⟩:=List.append_of_mem hs
   have hl:r<((S1++S2).map (fun(t:Nat→K) j=>t j-t r*FK.inv (s r)*s j)).length:=by
    simp only[List.length_map,List.length_append,List.length_cons]at h⊢;omega
   obtain⟨y,y1,⟨a,y2,y3⟩,y4⟩:=hom r _ hl
   rw[List.length_map,List.length_append]at y1
   have hsp:y=y.take S1.length++y.drop S1.length:=(List.take_append_drop _ _).symm
   have h1:(y.take S1.length).length=S1.length:=by rw[List.length_take];omega
   have h2:(y.drop S1.length).length=S2.length:=by rw[List.length_drop];omega
   generalize y.take S1.length=u at hsp h1
   generalize y.drop S1.length=w at hsp h2
   subst hsp
   have hsum: ∀(c:K) j,sumL ((u++c::w).zip (S1++s::S2)) (fun p=>p.1*p.2 j)=sumL ((u++w).zip (S1++S2)) (fun p=>p.1*p.2 j)+c*s j:=fun c j=>by
    rw[y46 _ _ _ h1,y46 _ _ _ h1,List.zip_cons_cons,gb6,FK.add_assoc,FK.add_comm (sumL (w.zip S2) _)]
   refine⟨u++ -(sumL ((u++w).zip (S1++S2)) (fun p=>p.1*p.2 r)*FK.inv (s r))::w, ?_,⟨a, ?_,y3⟩,fun j hj=> ?_⟩
   ·simp only[List.length_append,List.length_cons,h1,h2]
   ·simp only[List.mem_append,List.mem_cons]at y2⊢
    rcases y2 with y2|y2
    ·exact .inl y2
    ·exact .inr (.inr y2)
   ·rw[hsum]
    by_cases hjr:j=r
    ·subst hjr
     rw[neg_mul,FK.mul_assoc,inv_mul hne,FK.mul_one,FK.add_neg]
    ·have h3:=y4 j (by omega)
     rw[uj4]at h3
     have h4:sumL ((u++w).zip (S1++S2)) (fun p=>p.1*(p.2 j-p.2 r*FK.inv (s r)*s j))=sumL ((u++w).zip (S1++S2)) (fun p=>p.1*p.2 j)-sumL ((u++w).zip (S1++S2)) (fun p=>p.1*p.2 r)*FK.inv (s r)*s j:=by
      rw[←ue3,←ue3,←b15]
      refine ox7 fun p _=> ?_
      rw[mul_sub,←FK.mul_assoc,←FK.mul_assoc]
     have h3:sumL ((u++w).zip (S1++S2)) (fun p=>p.1*(p.2 j-p.2 r*FK.inv (s r)*s j))=0:=h3
     rw[h4]at h3
     rw[neg_mul,←sub_eq,h3]
  ·obtain⟨y,y1,y2,y3⟩:=hom r S (by omega)
   refine⟨y,y1,y2,fun j hj=> ?_⟩
   by_cases hjr:j=r
   ·subst hjr
    refine tx6 fun p hp=> ?_
    have:p.2 j=0:=Classical.byContradiction fun hne=>hs ⟨p.2,(List.of_mem_zip hp).2,hne⟩
    rw[this,mul_zero]
   ·exact y3 j (by omega)
end
section
variable {K:Type} [FK K] {n:Nat}
section
variable {A:List (Nat×List K)} (hr:Rref n (toF A))
include hr
end
theorem n97(l:List K)(x:K)(k:Nat):wf (l++[x]) k=if k=l.length then x else wf l k:=by
 unfold wf
 rw[List.getD_eq_getElem?_getD,List.getD_eq_getElem?_getD]
 by_cases h:k<l.length
 ·rw[List.getElem?_append_left h,if_neg (by omega)]
 ·rw[List.getElem?_append_right (by omega)]
  by_cases he:k=l.length
  ·rw[if_pos he,he,Nat.sub_self];rfl
  ·rw[if_neg he,List.getElem?_eq_none (by simp;omega),List.getElem?_eq_none (by omega)]
end
end Go.Alg
namespace Go.Proofs.YtmhbpecdpiapgaaGreat
open Go.Am Go.Vm Go.Alg
section
variable {q:Int} {b:Bool} {nl nr:Nat}
theorem ru4 [IsFld q]{N:List (List (El q))}{n:Nat}(hr: ∀r∈N,r.length=n): ∀r∈N.map vs,r.length=n:=fun c hc=>by
 obtain⟨r,hr',rfl⟩:=List.mem_map.1 hc
 rw[fi2,hr r hr']
theorem sy6 [IsFld q]{N:List (List (El q))}{n:Nat}(hl:N.length≤64)(hr: ∀r∈N,r.length=n)(h0:0<n)(hn:n≤64):matE q (N.map vs)=0:=by
 obtain⟨d,hd⟩:=gh1 (q:=q)
 unfold matE
 rw[hd]
 show(if 64<(N.map vs).length then 4 else _)=(0:Int)
 rw[if_neg (by rw[List.length_map];omega),kn4]
 have: ∀L:List (List (El q)),(∀r∈L,r∈N)→wb9 q (nth N 0).length (L.map vs)=0:=by
  intro L
  induction L with
  |nil=>intro _;rfl
  |cons r L ih=>
   intro h
   have h1:r∈N:=h r (by simp)
   have h2:(nth N 0).length=n:=by
    cases N with
    |nil=>cases h1
    |cons a N=>exact hr a (by simp)
   rw[List.map_cons,wb9,if_pos,ih fun x hx=>h x (by simp[hx])]
   unfold rowE
   rw[fi2,hr r h1,h2,if_neg (by omega),if_neg (by omega),if_neg]
   intro h3
   obtain⟨z,hz,h4⟩:=List.any_eq_true.1 h3
   obtain⟨x,hx,rfl⟩:=List.mem_map.1 hz
   rw[x.ok]at h4
   cases h4
 exact this N fun r h=>h
end
section
variable {l:List Int} {nl:Nat} {b:Bool} {x:Int}
theorem a02(hl:l.length≤9223372036854775807): ∀(n i:Nat),i+n=l.length→ ∀ks,
 vgoL W ⟨hNo,[.tmp 4],0⟩ [0,1,7,8] c128L0 (.blk 0 []::ks) [(0, .fz b (.sl nl 0 1 (ivs l))),(1, .x (.int .i64 x)),(7, .x (.int .i64 l.length)),(8, .x (.int .i64 i))] []=
  if fidx (fun y=>decide (x=y)) i (l.drop i)= -1 then vgo W ⟨hNo,[.tmp 4],0⟩ ks (VFr.of []) []else some (.x (.int .i64 (fidx (fun y=>decide (x=y)) i (l.drop i))),[],[])
 |0,i,hi,ks=>by
  rw[oh9 (by omega),fidx,if_pos rfl,sb5 c128L0.eq_def]
  simp(disch:=first|omega|fail) only[push_cast,seval,vrl,if_pos,if_neg]
 |n+1,i,hi,ks=>by
  have ih:=a02 hl n (i+1) (by omega) ks
  obtain⟨a,ha⟩:=ge6 (l:=l) (i:=i) (by omega)
  have h1:=iat ha
  rw[i62 ha,fidx]
  rw[Int.natCast_add,Int.natCast_one]at ih
  by_cases hp:x=a
  ·rw[if_pos (decide_eq_true hp),if_neg (by omega),sb5 c128L0.eq_def]
   simp(disch:=first|omega|fail) only[push_cast,seval,vrl,if_pos,if_neg,h1,mr8 hp]
  ·simp only[decide_eq_false hp,Bool.false_eq_true,if_false]
   rw[←ih,sb5 c128L0.eq_def]
   simp(disch:=first|omega|fail) only[push_cast,seval,vrl,if_pos,if_neg,h1,nb8 hp]
theorem bd9(hl:l.length≤9223372036854775807):
 o24 W 128 [.fz b (.sl nl 0 1 (ivs l)), .x (.int .i64 x)] []=some (.x (.int .i64 (fidx (fun y=>decide (x=y)) 0 l)),[],[]):=by
 have e:=fun ks=>a02 (nl:=nl) (b:=b) (x:=x) hl l.length 0 (by omega) ks
 simp only[Int.natCast_zero,List.take_zero,List.drop_zero,rp2,lz6,x25,List.map_nil,List.length_nil]at e
 rw[o10 rfl T128 rfl]
 unfold F128 c128
 simp(disch:=first|omega|fail) only[push_cast,seval,vrl,if_pos,if_neg]
 rw[e]
 by_cases h:fidx (fun y=>decide (x=y)) 0 l= -1
 ·rw[if_pos h,h]
  simp(disch:=first|omega|fail) only[push_cast,seval,vrl,if_pos,if_neg]
 ·rw[if_neg h]
theorem o94(hl:l.length≤9223372036854775807):
 o24 W 94 [.fz b (.sl nl 0 1 (ivs l)), .x (.int .i64 x)] []=some (.x (.bool (l.any fun y=>decide (x=y))),[],[]):=by
 have e:=fun b nl=>bd9 (nl:=nl) (b:=b) (x:=x) hl
 rw[o10 rfl T94 rfl]
 unfold F94 c94
 rw[←tl6 _ 0 l]
 simp(disch:=first|omega|fail) only[push_cast,seval,vrl,if_pos,if_neg,e]
end
section
variable {q:Int} {b:Bool} {nl nr n6 n7:Nat}
section
variable [IsFld q] {A:List (Nat×List (El q))} {N:Nat} {K:List (List Int)}
end
end
end Go.Proofs.YtmhbpecdpiapgaaGreat
namespace Go.Alg
section
variable {K:Type} [FK K] {n:Nat}
end
end Go.Alg
namespace Go.Proofs.YtmhbpecdpiapgaaGreat
open Go.Am Go.Vm Go.Alg
section
variable {q n:Int} {nl nr:Nat} {M:List (List Int)}
end
section
variable {q:Int} [IsFld q] {k nl nr:Nat} {N:List (List (El q))}
end
section
variable {b b':Bool} {nl nl' nr nr':Nat}
theorem ft0{l k:List Int}(hl:l.length≤9223372036854775807)(hk:k.length=l.length): ∀(d i:Nat),i+d=l.length→ ∀ks,
 vgoL W ⟨hNo,[.tmp 4],0⟩ [0,1,5] c89L0 (.blk 0 []::ks) [(0, .fz b (.sl nl 0 1 (ivs l))),(1, .fz b' (.sl nl' 0 1 (ivs k))),(5, .x (.int .i64 i))] []=
  if l.drop i=k.drop i then vgo W ⟨hNo,[.tmp 4],0⟩ ks (VFr.of []) []else some (.x (.bool false),[],[])
 |0,i,hi,ks=>by
  rw[oh9 (by omega),oh9 (by omega),if_pos rfl,sb5 c89L0.eq_def]
  simp(disch:=first|omega|fail) only[push_cast,seval,vrl,if_pos,if_neg]
 |d+1,i,hi,ks=>by
  have ih:=ft0 hl hk d (i+1) (by omega) ks
  obtain⟨a,ha⟩:=ge6 (l:=l) (i:=i) (by omega)
  obtain⟨c,hc⟩:=ge6 (l:=k) (i:=i) (by omega)
  have h1:=iat ha
  have h2:=iat hc
  rw[i62 ha,i62 hc]
  rw[Int.natCast_add,Int.natCast_one]at ih
  by_cases h:a=c
  ·have hiff:(a::l.drop (i+1)=c::k.drop (i+1))=(l.drop (i+1)=k.drop (i+1)):=by rw[h];simp
   simp only[hiff]
   rw[←ih,sb5 c89L0.eq_def]
   simp(disch:=first|omega|fail) only[push_cast,seval,vrl,if_pos,if_neg,h1,h2,h]
  ·rw[if_neg (by intro e;exact h (List.cons.inj e).1),sb5 c89L0.eq_def]
   simp(disch:=first|omega|fail) only[push_cast,seval,vrl,if_pos,if_neg,h1,h2,nb8 h]
theorem nb2{l k:List Int}(hl:l.length≤9223372036854775807):o24 W 89 [.fz b (.sl nl 0 1 (ivs l)), .fz b' (.sl nl' 0 1 (ivs k))] []=some (.x (.bool (decide (l=k))),[],[]):=by
 by_cases hk:k.length=l.length
 ·have e:=fun ks=>ft0 (b:=b) (b':=b') (nl:=nl) (nl':=nl') hl hk l.length 0 (by omega) ks
  simp only[Int.natCast_zero,List.take_zero,List.drop_zero,rp2,lz6,x25,List.map_nil,List.length_nil]at e
  rw[o10 rfl T89 rfl]
  unfold F89 c89
  simp(disch:=first|omega|fail) only[push_cast,seval,vrl,if_pos,if_neg,hk]
  rw[e]
  by_cases h:l=k
  ·rw[if_pos h,decide_eq_true h]
   simp(disch:=first|omega|fail) only[push_cast,seval,vrl,if_pos,if_neg]
  ·rw[if_neg h,decide_eq_false h]
 ·have h: ¬l=k:=fun e=>hk (by rw[e])
  have h8: ¬(l.length:Int)=(k.length:Int):=by omega
  rw[decide_eq_false h,o10 rfl T89 rfl]
  unfold F89 c89
  simp(disch:=first|omega|fail) only[push_cast,seval,vrl,if_pos,if_neg,nb8 h8]
theorem h40{l k:List (List Int)}(hl:l.length≤9223372036854775807)(he: ∀r∈l,r.length≤9223372036854775807)(hk:k.length=l.length)(hx:47=47): ∀(d i:Nat),i+d=l.length→ ∀ks,
 vgoL W ⟨hNo,[.tmp 4],0⟩ [0,1,5] c47L0 (.blk 0 []::ks) [(0, .fz b (.sl nl 0 1 (lvs nr l))),(1, .fz b' (.sl nl' 0 1 (lvs nr' k))),(5, .x (.int .i64 i))] []=
  if l.drop i=k.drop i then vgo W ⟨hNo,[.tmp 4],0⟩ ks (VFr.of []) []else some (.x (.bool false),[],[])
 |0,i,hi,ks=>by
  rw[oh9 (by omega),oh9 (by omega),if_pos rfl,sb5 c47L0.eq_def]
  simp(disch:=first|omega|fail) only[push_cast,seval,vrl,if_pos,if_neg]
 |d+1,i,hi,ks=>by
  have ih:=h40 hl he hk hx d (i+1) (by omega) ks
  obtain⟨a,ha⟩:=ge6 (l:=l) (i:=i) (by omega)
  obtain⟨c,hc⟩:=ge6 (l:=k) (i:=i) (by omega)
  have h1:=lat (nl:=nr) ha
  have h2:=lat (nl:=nr') hc
  have e:=fun b b' nl nl'=>nb2 (b:=b) (b':=b') (nl:=nl) (nl':=nl') (l:=a) (k:=c) (he a (List.mem_of_getElem? ha))
  rw[i62 ha,i62 hc]
  rw[Int.natCast_add,Int.natCast_one]at ih
  by_cases h:a=c
  ·have hiff:(a::l.drop (i+1)=c::k.drop (i+1))=(l.drop (i+1)=k.drop (i+1)):=by rw[h];simp
   simp only[decide_eq_true h]at e
   simp only[hiff]
   rw[←ih,sb5 c47L0.eq_def]
   simp(disch:=first|omega|fail) only[push_cast,seval,vrl,if_pos,if_neg,h1,h2,e]
  ·simp only[decide_eq_false h]at e
   rw[if_neg (by intro e;exact h (List.cons.inj e).1),sb5 c47L0.eq_def]
   simp(disch:=first|omega|fail) only[push_cast,seval,vrl,if_pos,if_neg,h1,h2,e]
theorem us3{l k:List (List Int)}(hl:l.length≤9223372036854775807)(he: ∀r∈l,r.length≤9223372036854775807):o24 W 47 [.fz b (.sl nl 0 1 (lvs nr l)), .fz b' (.sl nl' 0 1 (lvs nr' k))] []=some (.x (.bool (decide (l=k))),[],[]):=by
 by_cases hk:k.length=l.length
 ·have e:=fun ks=>h40 (b:=b) (b':=b') (nl:=nl) (nl':=nl') (nr:=nr) (nr':=nr') hl he hk rfl l.length 0 (by omega) ks
  simp only[Int.natCast_zero,List.take_zero,List.drop_zero,rp2,lz6,x25,List.map_nil,List.length_nil]at e
  rw[o10 rfl T47 rfl]
  unfold F47 c47
  simp(disch:=first|omega|fail) only[push_cast,seval,vrl,if_pos,if_neg,hk]
  rw[e]
  by_cases h:l=k
  ·rw[if_pos h,decide_eq_true h]
   simp(disch:=first|omega|fail) only[push_cast,seval,vrl,if_pos,if_neg]
  ·rw[if_neg h,decide_eq_false h]
 ·have h: ¬l=k:=fun e=>hk (by rw[e])
  have h8: ¬(l.length:Int)=(k.length:Int):=by omega
  rw[decide_eq_false h,o10 rfl T47 rfl]
  unfold F47 c47
  simp(disch:=first|omega|fail) only[push_cast,seval,vrl,if_pos,if_neg,nb8 h8]
theorem dy0{l k:List (List Int)}{e f:Int}(hl:l.length≤9223372036854775807)(he: ∀r∈l,r.length≤9223372036854775807):o24 W 15 [.fz b (.sl nl 0 1 (lvs nr l)), .x (.int .i64 e), .fz b' (.sl nl' 0 1 (lvs nr' k)), .x (.int .i64 f)] []=some (.x (.bool (if f=0 then decide (e=0)&&decide (l=k)else decide (e=f)&&decide (l.length=0))),[],[]):=by
 have h1:=fun b b' nl nl' nr nr'=>us3 (b:=b) (b':=b') (nl:=nl) (nl':=nl') (nr:=nr) (nr':=nr') (k:=k) hl he
 by_cases hf:f=0
 ·rw[if_pos hf]
  by_cases h0:e=0
  ·rw[decide_eq_true h0,Bool.true_and,o10 rfl T15 rfl]
   unfold F15 c15
   simp(disch:=first|omega|fail) only[push_cast,seval,vrl,if_pos,if_neg,hf,h0,h1]
  ·rw[decide_eq_false h0,Bool.false_and,o10 rfl T15 rfl]
   unfold F15 c15
   simp(disch:=first|omega|fail) only[push_cast,seval,vrl,if_pos,if_neg,hf,nb8 h0]
 ·rw[if_neg hf]
  by_cases h0:e=f
  ·subst h0
   have h8:((l.length:Int)=0)=(l.length=0):=by simp only[eq_iff_iff];omega
   rw[decide_eq_true rfl,Bool.true_and,o10 rfl T15 rfl]
   unfold F15 c15
   by_cases hz:l.length=0
   ·rw[decide_eq_true hz]
    simp(disch:=first|omega|fail) only[push_cast,seval,vrl,if_pos,if_neg,nb8 hf,hz]
   ·rw[decide_eq_false hz]
    simp(disch:=first|omega|fail) only[push_cast,seval,vrl,if_pos,if_neg,nb8 hf]
  ·rw[decide_eq_false h0,Bool.false_and,o10 rfl T15 rfl]
   unfold F15 c15
   simp(disch:=first|omega|fail) only[push_cast,seval,vrl,if_pos,if_neg,nb8 hf,nb8 h0]
theorem ea2{l k:List Int}{e f:Int}(hl:l.length≤9223372036854775807):o24 W 52 [.fz b (.sl nl 0 1 (ivs l)), .x (.int .i64 e), .fz b' (.sl nl' 0 1 (ivs k)), .x (.int .i64 f)] []=some (.x (.bool (if f=0 then decide (e=0)&&decide (l=k)else decide (e=f)&&decide (l.length=0))),[],[]):=by
 have h1:=fun b b' nl nl'=>nb2 (b:=b) (b':=b') (nl:=nl) (nl':=nl') (k:=k) hl
 by_cases hf:f=0
 ·rw[if_pos hf]
  by_cases h0:e=0
  ·rw[decide_eq_true h0,Bool.true_and,o10 rfl T52 rfl]
   unfold F52 c52
   simp(disch:=first|omega|fail) only[push_cast,seval,vrl,if_pos,if_neg,hf,h0,h1]
  ·rw[decide_eq_false h0,Bool.false_and,o10 rfl T52 rfl]
   unfold F52 c52
   simp(disch:=first|omega|fail) only[push_cast,seval,vrl,if_pos,if_neg,hf,nb8 h0]
 ·rw[if_neg hf]
  by_cases h0:e=f
  ·subst h0
   rw[decide_eq_true rfl,Bool.true_and,o10 rfl T52 rfl]
   unfold F52 c52
   by_cases hz:l.length=0
   ·rw[decide_eq_true hz]
    simp(disch:=first|omega|fail) only[push_cast,seval,vrl,if_pos,if_neg,nb8 hf,hz]
   ·rw[decide_eq_false hz]
    simp(disch:=first|omega|fail) only[push_cast,seval,vrl,if_pos,if_neg,nb8 hf]
  ·rw[decide_eq_false h0,Bool.false_and,o10 rfl T52 rfl]
   unfold F52 c52
   simp(disch:=first|omega|fail) only[push_cast,seval,vrl,if_pos,if_neg,nb8 hf,nb8 h0]
theorem ib6{l k:Int}{e f:Int}:o24 W 54 [.x (.int .i64 l), .x (.int .i64 e), .x (.int .i64 k), .x (.int .i64 f)] []=some (.x (.bool (if f=0 then decide (e=0)&&decide (l=k)else decide (e=f)&&decide (l=0))),[],[]):=by
 by_cases hf:f=0
 ·rw[if_pos hf]
  by_cases h0:e=0
  ·rw[decide_eq_true h0,Bool.true_and,o10 rfl T54 rfl]
   unfold F54 c54
   simp(disch:=first|omega|fail) only[push_cast,seval,vrl,if_pos,if_neg,hf,h0]
  ·rw[decide_eq_false h0,Bool.false_and,o10 rfl T54 rfl]
   unfold F54 c54
   simp(disch:=first|omega|fail) only[push_cast,seval,vrl,if_pos,if_neg,hf,nb8 h0]
 ·rw[if_neg hf]
  by_cases h0:e=f
  ·subst h0
   rw[decide_eq_true rfl,Bool.true_and,o10 rfl T54 rfl]
   unfold F54 c54
   simp(disch:=first|omega|fail) only[push_cast,seval,vrl,if_pos,if_neg,nb8 hf]
  ·rw[decide_eq_false h0,Bool.false_and,o10 rfl T54 rfl]
   unfold F54 c54
   simp(disch:=first|omega|fail) only[push_cast,seval,vrl,if_pos,if_neg,nb8 hf,nb8 h0]
theorem ec0{l:List (List Int)}(hl:l.length≤9223372036854775807): ∀(d i:Nat) (n:Int),i+d=l.length→ ∃m:Int,∀(b:Bool) (nl nr:Nat) ks,
 vgoL W ⟨hNo,[.tmp 2],0⟩ [0,3,4] c6L0 (.blk 0 [3]::ks) [(0, .fz b (.sl nl 0 1 (lvs nr l))),(3, .x (.int .i64 n)),(4, .x (.int .i64 i))] []=vgo W ⟨hNo,[.tmp 2],0⟩ ks (VFr.of [(3, .x (.int .i64 m))]) []
 |0,i,n,hi=>by
  refine⟨n,fun b nl nr ks=> ?_⟩
  rw[sb5 c6L0.eq_def]
  simp(disch:=first|omega|fail) only[push_cast,seval,vrl,if_pos,if_neg]
 |d+1,i,n,hi=>by
  obtain⟨r,hr⟩:=ge6 (l:=l) (i:=i) (by omega)
  have h1:=fun nr=>lat (nl:=nr) hr
  by_cases hn:n≤6000
  ·obtain⟨m,hm⟩:=ec0 hl d (i+1) (IntKind.wrap .i64 (n+r.length)) (by omega)
   refine⟨m,fun b nl nr ks=> ?_⟩
   have ih:=hm b nl nr ks
   rw[Int.natCast_add,Int.natCast_one]at ih
   rw[←ih,sb5 c6L0.eq_def]
   simp(disch:=first|omega|fail) only[push_cast,seval,vrl,if_pos,if_neg,h1,nl4 hn]
  ·refine⟨n,fun b nl nr ks=> ?_⟩
   rw[sb5 c6L0.eq_def]
   simp(disch:=first|omega|fail) only[push_cast,seval,vrl,if_pos,if_neg,h1]
theorem tr6{l:List (List Int)}(hl:l.length≤9223372036854775807): ∃z:Bool,∀b nl nr,o24 W 6 [.fz b (.sl nl 0 1 (lvs nr l))] []=some (.x (.bool z),[],[]):=by
 obtain⟨m,e⟩:=ec0 hl l.length 0 l.length (by omega)
 simp only[Int.natCast_zero]at e
 refine⟨decide (6000<m),fun b nl nr=> ?_⟩
 rw[o10 rfl T6 rfl]
 unfold F6 c6
 simp(disch:=first|omega|fail) only[push_cast,seval,vrl,if_pos,if_neg]
 rw[e]
 simp(disch:=first|omega|fail) only[push_cast,seval,vrl,if_pos,if_neg]
section
variable {q:Int} [IsFld q]
theorem e85{p m g:Int}{t:Tree}(u:RFo q p m g t){l:List Int}(hl:l.length≤9223372036854775807): ∀(d i:Nat),i+d=l.length→ ∀ks,
 vgoL W ⟨hNo,[.tmp 4],0⟩ [1,2,5] c12L0 (.blk 0 []::ks) [(1, .fz b (.sl nl 0 1 (ivs l))),(2, .own 0 []),(5, .x (.int .i64 i))] [.pt 31 [.v (.int .i64 q), .v (.int .i64 p), .v (.int .i64 m), .v (.int .i64 g), .fz t]]=
  if((l.drop i).any fun v=> !fok q v)=true then some (.x (.bool false),[],[])else vgo W ⟨hNo,[.tmp 4],0⟩ ks (VFr.of []) [.pt 31 [.v (.int .i64 q), .v (.int .i64 p), .v (.int .i64 m), .v (.int .i64 g), .fz t]]
 |0,i,hi,ks=>by
  rw[oh9 (by omega),if_neg (by simp),sb5 c12L0.eq_def]
  simp(disch:=first|omega|fail) only[push_cast,seval,vrl,if_pos,if_neg]
 |d+1,i,hi,ks=>by
  have ih:=e85 u hl d (i+1) (by omega) ks
  obtain⟨a,ha⟩:=ge6 (l:=l) (i:=i) (by omega)
  have h1:=iat ha
  rw[Int.natCast_add,Int.natCast_one]at ih
  have ht:=u.n
  have ho:=u.o
  have vhas:=fun x:Int=>xb9 (q:=q) (x:=x)
  rw[u.e]at vhas
  rw[i62 ha,List.any_cons]
  cases h:fok q a with
  |true=>
   simp only[h,Bool.not_true,Bool.false_or]
   rw[←ih,sb5 c12L0.eq_def]
   simp(disch:=first|omega|fail) only[push_cast,seval,vrl,if_pos,if_neg,h1,vhas,ht,ho,h]
  |false=>
   simp only[h,Bool.not_false,Bool.true_or,if_true]
   rw[sb5 c12L0.eq_def]
   simp(disch:=first|omega|fail) only[push_cast,seval,vrl,if_pos,if_neg,h1,vhas,ht,ho,h]
theorem q18{l:List Int}(hl:l.length≤9223372036854775807):o24 W 12 [.agg (rFs q), .fz b (.sl nl 0 1 (ivs l))] []=some (.x (.bool (!(l.any fun v=> !fok q v))),[],[]):=by
 obtain⟨p,m,g,t,u⟩:=k75 q
 have e:=fun ks=>e85 (b:=b) (nl:=nl) u hl l.length 0 (by omega) ks
 simp only[Int.natCast_zero,List.take_zero,List.drop_zero,rp2,lz6,x25,List.map_nil,List.length_nil]at e
 have ht:=u.n
 rw[o10 rfl T12 rfl,u.e]
 unfold F12 c12
 simp(disch:=first|omega|fail) only[push_cast,seval,vrl,if_pos,if_neg,ht]
 rw[e]
 cases (l.any fun v=> !fok q v)with
 |true=>rw[if_pos rfl];rfl
 |false=>
  rw[if_neg (by decide)]
  simp(disch:=first|omega|fail) only[push_cast,seval,vrl,if_pos,if_neg]
end
end
section
variable {q n q' n' e:Int} {nl nr nl' nr':Nat} {M M':List (List Int)}
end
section
variable {q:Int} [IsFld q] {k nl nr nl2:Nat} {b:Bool} {N:List (List (El q))} {M:List (List Int)} {w:List Int}
end
def pkI(a n:Int):Int:=(if a<0 then-(a+1)else a).tmod n
theorem h59{a n:Int}(hn:0<n):0≤pkI a n∧pkI a n<n:=by
 unfold pkI
 split
 ·exact⟨Int.tmod_nonneg _ (by omega),Int.tmod_lt_of_pos _ hn⟩
 ·exact⟨Int.tmod_nonneg _ (by omega),Int.tmod_lt_of_pos _ hn⟩
def rwI(l:List Int)(i:Int):Int:=if l.length=0 then i else IntKind.wrap .i64 (gi l (i.tmod l.length)+IntKind.wrap .i64 (IntKind.wrap .i64 (i.tdiv l.length)*7919))
theorem ti9(x:Int): -9223372036854775808≤IntKind.wrap .i64 x∧IntKind.wrap .i64 x≤9223372036854775807:=by rw[IntKind.wrap_i64];omega
theorem bd0{l:List Int}{i:Int}(h0:0≤i)(h1:i≤9223372036854775807): -9223372036854775808≤rwI l i∧rwI l i≤9223372036854775807:=by
 unfold rwI
 split
 ·omega
 ·exact ti9 _
theorem cl0{l:List Int}{i:Int}(h0:0≤i)(h1:i<l.length):(ivs l)[i.toNat]? =some (.v (.int .i64 (gi l i))):=by
 have e:(ivs l)[i.toNat]? =some (.v (.int .i64 (gi l ((i.toNat:Nat):Int)))):=ui5 (by omega)
 rwa [Int.toNat_of_nonneg h0]at e
theorem o99{x:Int}(h0:0≤x){n:Int}(h:x<n): ∃k:Nat,x=(k:Int)∧(k:Int)<n:=⟨x.toNat,by omega,by omega⟩
section
variable {b:Bool} {nl:Nat} {raw:List Int}
theorem s88{a n:Int}(h1: -9223372036854775808≤a)(h2:a≤9223372036854775807)(hn:0<n):o24 W 18 [.x (.int .i64 a), .x (.int .i64 n)] []=some (.x (.int .i64 (pkI a n)),[],[]):=by
 have hz: ¬n=0:=by omega
 rw[o10 rfl T18 rfl]
 unfold F18 c18 pkI
 by_cases h0:a<0
 ·rw[if_pos h0]
  simp(disch:=first|omega|fail) only[push_cast,seval,vrl,if_pos,if_neg,nb8 hz,hz]
  rw[show(0:Int)-(a+1)= -(a+1) by omega]
 ·rw[if_neg h0]
  simp(disch:=first|omega|fail) only[push_cast,seval,vrl,if_pos,if_neg,nb8 hz,hz]
theorem yc3{i:Int}(hi:0≤i)(hl:raw.length≤9223372036854775807):o24 W 58 [.fz b (.sl nl 0 1 (ivs raw)), .x (.int .i64 i)] []=some (.x (.int .i64 (rwI raw i)),[],[]):=by
 rw[o10 rfl T58 rfl]
 unfold F58 c58 rwI
 by_cases h0:raw.length=0
 ·rw[if_pos h0]
  have h0':(raw.length:Int)=0:=by omega
  simp(disch:=first|omega|fail) only[push_cast,seval,vrl,if_pos,if_neg,h0']
 ·rw[if_neg h0]
  have hz: ¬(raw.length:Int)=0:=by omega
  have b1:0≤i.tmod raw.length:=Int.tmod_nonneg _ hi
  have b2:i.tmod raw.length<raw.length:=Int.tmod_lt_of_pos _ (by omega)
  have e:=cl0 b1 b2
  simp(disch:=first|omega|fail) only[push_cast,seval,vrl,if_pos,if_neg,hz,nb8 hz,e]
def numV(raw:List Int)(frm q:Int)(k:Nat):Int:=pkI (rwI raw (frm+k)) q
def tv7(raw:List Int)(frm q:Int)(n:Nat):List Int:=(List.range n).map (numV raw frm q)
theorem jd5(raw:List Int)(frm q:Int)(n:Nat):(tv7 raw frm q n).length=n:=by simp[tv7]
theorem ce7(raw:List Int)(frm q:Int)(n:Nat):tv7 raw frm q (n+1)=tv7 raw frm q n++[numV raw frm q n]:=by unfold tv7;rw[List.range_succ,List.map_append];rfl
theorem dm5{raw:List Int}{frm q:Int}{n:Nat}(hq:0<q): ∀z∈tv7 raw frm q n,fok q z=true:=fun z hz=>by
 obtain⟨k,_,rfl⟩:=List.mem_map.1 hz
 have:=h59 (a:=rwI raw (frm+k)) hq
 unfold numV fok
 rw[decide_eq_true this.1,decide_eq_true this.2];rfl
theorem m61{raw:List Int}{frm q:Int}{n:Nat}(hq:0<q): ∃l:List (El q),tv7 raw frm q n=vs l∧l.length=n:=by
 obtain⟨l,hl⟩:=n39 (dm5 (raw:=raw) (frm:=frm) (n:=n) hq)
 exact⟨l,hl,by rw[←fi2,←hl,jd5]⟩
theorem yq2(hrl:raw.length≤9223372036854775807){frm q:Int}(hf0:0≤frm)(hf1:frm≤1000000000)(hq0:0<q){N:Nat}(hN:N≤100000): ∀(d i:Nat),i+d=N→ ∀ks,
 vgoL W ⟨h19,[.tmp 8],0⟩ [0,1,2,3,9,10] c19L0 (.blk 0 [9]::ks) [(0, .fz b (.sl nl 0 1 (ivs raw))),(1, .x (.int .i64 frm)),(2, .x (.int .i64 q)),(3, .x (.int .i64 N)),(9, .own 0 []),(10, .x (.int .i64 i))] [.sl 1 3 1 (ivs (tv7 raw frm q i))]=
  vgo W ⟨h19,[.tmp 8],0⟩ ks (VFr.of [(9, .own 0 [])]) [.sl 1 3 1 (ivs (tv7 raw frm q N))]
 |0,i,hi,ks=>by
  obtain rfl:i=N:=by omega
  rw[sb5 c19L0.eq_def]
  simp(disch:=first|omega|fail) only[push_cast,seval,vrl,if_pos,if_neg]
 |d+1,i,hi,ks=>by
  have ih:=yq2 hrl hf0 hf1 hq0 hN d (i+1) (by omega) ks
  have e1:=fun b nl=>yc3 (b:=b) (nl:=nl) (raw:=raw) (i:=frm+i) (by omega) hrl
  have hri:=bd0 (l:=raw) (i:=frm+i) (by omega) (by omega)
  have e2:=s88 (n:=q) hri.1 hri.2 hq0
  have hl:=jd5 raw frm q i
  rw[Int.natCast_add,Int.natCast_one,ce7,numV]at ih
  rw[←ih,sb5 c19L0.eq_def]
  simp(disch:=first|omega|fail) only[push_cast,seval,vrl,if_pos,if_neg,e1,e2,hl]
theorem vv4(hrl:raw.length≤9223372036854775807){frm q:Int}(hf0:0≤frm)(hf1:frm≤1000000000)(hq0:0<q){N:Nat}(hN:N≤100000):o24 W 19 [.fz b (.sl nl 0 1 (ivs raw)), .x (.int .i64 frm), .x (.int .i64 q), .x (.int .i64 N)] []=some (.own 0 [],[.sl 1 3 1 (ivs (tv7 raw frm q N))],[]):=by
 have e:=fun ks=>yq2 (b:=b) (nl:=nl) hrl hf0 hf1 hq0 hN N 0 (by omega) ks
 rw[show tv7 raw frm q 0=[]from rfl]at e
 simp only[Int.natCast_zero,List.take_zero,List.drop_zero,rp2,lz6,x25,List.map_nil,List.length_nil]at e
 rw[o10 rfl T19 rfl]
 unfold F19 c19
 simp(disch:=first|omega|fail) only[push_cast,seval,vrl,if_pos,if_neg]
 rw[e]
 simp(disch:=first|omega|fail) only[push_cast,seval,vrl,if_pos,if_neg]
end
def szN:Nat→Nat→List Int
 |0,_=>[]
 |n+1,q=>bif (fldN q).isSome then(q:Int)::szN n (q+1)else szN n (q+1)
def szL:List Int:=szN 63 2
theorem ho7:(szL.all fun z=>decide (2≤z)&&decide (z≤64)&&(fldN z.toNat).isSome)=true:=by kernel_rfl
theorem x14{z:Int}(hz:z∈szL):2≤z∧z≤64∧IsFld z:=by
 have:=List.all_eq_true.1 ho7 z hz
 simp only[Bool.and_eq_true,decide_eq_true_eq]at this
 obtain⟨⟨h1,h2⟩,h3⟩:=this
 obtain⟨⟨p,m,g,mod⟩,hx⟩:=Option.isSome_iff_exists.1 h3
 exact⟨h1,h2,⟨p,m,g,mod,hx⟩⟩
section
variable {k:FuncId} {p:Int→Bool} {l:List Int} {nl:Nat}
theorem ac4(hk: ∀v,o24 W k [.x (.int .i64 v)] []=some (.x (.bool (p v)),[],[]))(hM:vM k=[]){bl:Bool}(hl:l.length≤9223372036854775807): ∀(n i:Nat),i+n=l.length→ ∀ks,
 vgoL W ⟨hNo,[.tmp 4],0⟩ [0,1,7,8] c125L0 (.blk 0 []::ks) [(0, .fz bl (.sl nl 0 1 (ivs l))),(1, .fn k []),(7, .x (.int .i64 l.length)),(8, .x (.int .i64 i))] []=
  if fidx p i (l.drop i)= -1 then vgo W ⟨hNo,[.tmp 4],0⟩ ks (VFr.of []) []else some (.x (.int .i64 (fidx p i (l.drop i))),[],[])
 |0,i,hi,ks=>by
  rw[oh9 (by omega),fidx,if_pos rfl,sb5 c125L0.eq_def]
  simp(disch:=first|omega|fail) only[push_cast,seval,vrl,if_pos,if_neg]
 |n+1,i,hi,ks=>by
  have ih:=ac4 hk hM (bl:=bl) hl n (i+1) (by omega) ks
  obtain⟨a,ha⟩:=ge6 (l:=l) (i:=i) (by omega)
  have h1:=iat ha
  rw[i62 ha,fidx]
  rw[Int.natCast_add,Int.natCast_one]at ih
  have hka:=hk a
  cases hp:p a with
  |true=>
   rw[hp]at hka
   rw[if_pos rfl,if_neg (by omega),sb5 c125L0.eq_def]
   simp(disch:=first|omega|fail) only[push_cast,seval,vrl,if_pos,if_neg,h1,hka,hM]
  |false=>
   rw[hp]at hka
   simp only[Bool.false_eq_true,if_false]
   rw[←ih,sb5 c125L0.eq_def]
   simp(disch:=first|omega|fail) only[push_cast,seval,vrl,if_pos,if_neg,h1,hka,hM]
theorem rq1(hk: ∀v,o24 W k [.x (.int .i64 v)] []=some (.x (.bool (p v)),[],[]))(hM:vM k=[]){bl:Bool}(hl:l.length≤9223372036854775807):
 o24 W 82 [.fz bl (.sl nl 0 1 (ivs l)), .fn k []] []=some (.x (.bool (l.any p)),[],[]):=by
 have e:=fun nl ks=>ac4 (nl:=nl) hk hM (bl:=bl) hl l.length 0 (by omega) ks
 simp only[Int.natCast_zero,List.take_zero,List.drop_zero,rp2,lz6,x25,List.map_nil,List.length_nil]at e
 have e2: ∀bl2 nl,bl2=bl→o24 W 125 [.fz bl2 (.sl nl 0 1 (ivs l)), .fn k []] []=some (.x (.int .i64 (fidx p 0 l)),[],[]):=fun bl2 nl hb=>by
  subst hb
  rw[o10 rfl T125 rfl]
  unfold F125 c125
  simp(disch:=first|omega|fail) only[push_cast,seval,vrl,if_pos,if_neg]
  rw[e]
  by_cases h:fidx p 0 l= -1
  ·rw[if_pos h,h]
   simp(disch:=first|omega|fail) only[push_cast,seval,vrl,if_pos,if_neg]
  ·rw[if_neg h]
 have e3:=fun nl=>e2 bl nl rfl
 rw[o10 rfl T82 rfl]
 unfold F82 c82
 rw[←tl6 p 0 l]
 simp(disch:=first|omega|fail) only[push_cast,seval,vrl,if_pos,if_neg,e3]
end
section
variable {q:Int} [IsFld q] {k nl nr nl2:Nat} {b:Bool} {N:List (List (El q))}
end
section
variable {q:Int} [IsFld q] {b:Bool} {nm nb n:Nat} {M0:List (List (El q))} {B0:List (El q)}
theorem vwnz(v:Int):o24 W 127 [.x (.int .i64 v)] []=some (.x (.bool (decide (v≠0))),[],[]):=by
 rw[o10 rfl T127 rfl]
 unfold F127 c127
 by_cases h:v=0
 ·rw[decide_eq_false (by simpa using h)]
  simp(disch:=first|omega|fail) only[push_cast,seval,vrl,if_pos,if_neg,mr8 h]
 ·rw[decide_eq_true h]
  simp(disch:=first|omega|fail) only[push_cast,seval,vrl,if_pos,if_neg,nb8 h]
theorem u53(hM0: ∀m∈M0,m.length=n)(hB0:B0.length=M0.length)(hR2:M0.length≤1000)(hn2:n≤1000)
 (hker: ∀x:Nat→El q,(∀m∈M0,(sumN n fun j=>wf m j*x j)=0)→ ∀j,j<n→x j=0):
 ∃(X:List (El q)) (ok:Bool) (T1 T2:Tree),(if ok=true then solR n M0 B0=some X else solR n M0 B0=none)∧
  o24 W 92 [.fz b (pF q), .own 0 [], .own 1 [], .x (.int .i64 n)] [.sl nm 22 1 (lls 2 (M0.map vs)), .sl nb 3 1 (ivs (vs B0))]=
   some (.tup [.own 0 [], .x (.bool ok)],[.sl (nlT (vs X)) 3 1 (ivs (vs X))],[T1,T2]):=by
 have I0:=RedI.start (n:=n+1) (a86 (b:=B0) hM0)
 obtain⟨M,B,r1,r2,r3,r4,r5⟩:=ga1 (b:=b) (nm:=nm) (nb:=nb) hM0 hB0 rfl hR2 hn2 hker n 0 M0 B0 (by omega) rfl hB0 (fun k hk=>by rw[t70 hk];exact hM0 _ (List.getElem_mem hk)) I0
 obtain⟨hnR,hs⟩:=r52 hM0 hB0 r1 r2 r3 r4
 simp only[Int.natCast_zero]at r5
 have hBl:(vs B).length=M0.length:=by rw[fi2,r2]
 have htk:(vs B).take n=vs (B.take n):=by unfold vs;rw[List.map_take]
 have hany:((vs B).drop n).any (fun v=>decide (v≠0))=(B.drop n).any fun x=>decide (x.v≠0):=by unfold vs;rw[←List.map_drop,List.any_map];rfl
 have e1:=fun b nl=>h18 (b:=b) (nl:=nl) (zs:=vs (B.take n)) (by rw[fi2,List.length_take];omega)
 have e2:=fun nl=>rq1 (nl:=nl) (l:=(vs B).drop n) (p:=fun v=>decide (v≠0)) (k:=127) vwnz rfl (bl:=false) (by rw[List.length_drop];omega)
 have e3:=fun nl=>rq1 (nl:=nl) (l:=(vs B).drop n) (p:=fun v=>decide (v≠0)) (k:=127) vwnz rfl (bl:=true) (by rw[List.length_drop];omega)
 rw[hany]at e2 e3
 have g1:=u42 (vs B) n
 rw[htk]at g1
 have g2:=yp5 (vs B) n
 have g3:((M0.length:Int)-(n:Int)).toNat=M0.length-n:=by omega
 have g4:((n:Int)-0).toNat=n:=by omega
 have g5:(ivs ((vs B).drop n)).take (M0.length-n)=ivs ((vs B).drop n):=by rw[List.take_of_length_le (by rw[gf1,List.length_drop];omega)]
 refine⟨B.take n, !((B.drop n).any fun x=>decide (x.v≠0)), .sl nm 22 1 (lls 2 (M.map vs)), .sl nb 3 1 (ivs (vs B)), ?_, ?_⟩
 ·cases h:(B.drop n).any fun x=>decide (x.v≠0)with
  |true=>rw[h]at hs;simpa using hs
  |false=>rw[h]at hs;simpa using hs
 ·rw[o10 rfl T92 rfl]
  unfold F92 c92
  simp(disch:=first|omega|fail) only[push_cast,seval,vrl,if_pos,if_neg]
  rw[r5]
  generalize ((B.drop n).any fun x=>decide (x.v≠0))=z at*
  simp(disch:=first|omega|fail) only[push_cast,seval,vrl,if_pos,if_neg,hBl,r2,g1,g2,g3,g4,g5,e1,e2,e3]
end
def plT(e:Nat)(q n k d:Int):Tree:= .pt e [.v (.int .i64 q), .v (.int .i64 n), .v (.int .i64 k), .v (.int .i64 d)]
def h61(k d:Nat):Nat:=k*(k+1)/2+k*(d-k)
def dz3(q n k d:Int):Int:=if fldN q.toNat=none then 1 else if n<2∨q<n∨16<n then 4 else if k<1∨d<k∨n≤d then 6 else 0
structure PlanOK (q n:Int) (k d:Nat):Prop where
 n2:2≤n
 nq:n≤q
 n16:n≤16
 k1:1≤k
 kd:k≤d
 dn:(d:Int)<n
section
variable {q n k d:Int} {b:Bool} {nl e:Nat}
theorem tr7:o24 W 8 [.x (.int .i64 q), .x (.int .i64 n), .x (.int .i64 k), .x (.int .i64 d)] []=
 if dz3 q n k d=0 then some (.tup [.own 0 [], .x (.int .i64 0)],[plT 64 q n k d],[])else some (.tup [.x (.pointer none), .x (.int .i64 (dz3 q n k d))],[],[]):=by
 unfold dz3
 cases hn:fldN q.toNat with
 |none=>
  have e0:=ug9 hn
  rw[if_pos rfl,if_neg (by decide),o10 rfl T8 rfl]
  unfold F8 c8
  simp(disch:=first|omega|fail) only[push_cast,seval,vrl,if_pos,if_neg,e0]
 |some x=>
  obtain⟨p0,m0,g0,mod⟩:=x
  haveI:IsFld q:=⟨⟨p0,m0,g0,mod,hn⟩⟩
  rw[if_neg (show¬some (p0,m0,g0,mod)=none by simp)]
  rw[o10 rfl T8 rfl]
  unfold F8 c8
  by_cases h1:n<2∨q<n∨16<n
  ·rw[if_pos h1,if_neg (by decide)]
   by_cases c1:n<2
   ·simp(disch:=first|omega|fail) only[push_cast,seval,vrl,if_pos,if_neg,dec_lt c1]
   ·by_cases c2:q<n
    ·simp(disch:=first|omega|fail) only[push_cast,seval,vrl,if_pos,if_neg,cw6 (Int.not_lt.1 c1),dec_lt c2]
    ·have c3:16<n:=by omega
     simp(disch:=first|omega|fail) only[push_cast,seval,vrl,if_pos,if_neg,cw6 (Int.not_lt.1 c1),cw6 (Int.not_lt.1 c2),dec_lt c3]
  ·have c1: ¬n<2:=by omega
   have c2: ¬q<n:=by omega
   have c3: ¬16<n:=by omega
   rw[if_neg h1]
   by_cases h2:k<1∨d<k∨n≤d
   ·rw[if_pos h2,if_neg (by decide)]
    by_cases c4:k<1
    ·simp(disch:=first|omega|fail) only[push_cast,seval,vrl,if_pos,if_neg,cw6 (Int.not_lt.1 c1),cw6 (Int.not_lt.1 c2),cw6 (Int.not_lt.1 c3),dec_lt c4]
    ·by_cases c5:d<k
     ·simp(disch:=first|omega|fail) only[push_cast,seval,vrl,if_pos,if_neg,cw6 (Int.not_lt.1 c1),cw6 (Int.not_lt.1 c2),cw6 (Int.not_lt.1 c3),cw6 (Int.not_lt.1 c4),dec_lt c5]
     ·have c6:n≤d:=by omega
      simp(disch:=first|omega|fail) only[push_cast,seval,vrl,if_pos,if_neg,cw6 (Int.not_lt.1 c1),cw6 (Int.not_lt.1 c2),cw6 (Int.not_lt.1 c3),cw6 (Int.not_lt.1 c4),cw6 (Int.not_lt.1 c5),nl4 c6]
   ·have c4: ¬k<1:=by omega
    have c5: ¬d<k:=by omega
    have c6: ¬n≤d:=by omega
    rw[if_neg h2,if_pos rfl]
    simp(disch:=first|omega|fail) only[push_cast,seval,vrl,if_pos,if_neg,cw6 (Int.not_lt.1 c1),cw6 (Int.not_lt.1 c2),cw6 (Int.not_lt.1 c3),cw6 (Int.not_lt.1 c4),cw6 (Int.not_lt.1 c5),qc6 (Int.not_le.1 c6)]
    rfl
end
section
variable {q n:Int} {k d:Nat} {b b':Bool} {nl e:Nat}
theorem bm8(h:PlanOK q n k d):o24 W 10 [.fz b (plT e q n k d)] []=some (.x (.int .i64 (h61 k d:Nat)),[],[]):=by
 have h1:=h.n16
 have h2:=h.kd
 have h3:=h.dn
 have hk:k*(k+1)≤16*17:=Nat.mul_le_mul (by omega) (by omega)
 have hd:k*(d-k)≤16*16:=Nat.mul_le_mul (by omega) (by omega)
 have e1:(k:Int)*((k:Int)+1)=((k*(k+1):Nat):Int):=by rw[Int.natCast_mul];rfl
 have e2:(k:Int)*((d:Int)-(k:Int))=((k*(d-k):Nat):Int):=by rw[Int.natCast_mul,Int.ofNat_sub h2]
 have e3:((k*(k+1):Nat):Int).tdiv 2=((k*(k+1)/2:Nat):Int):=by rw[Int.tdiv_eq_ediv_of_nonneg (by omega)];omega
 unfold plT h61
 rw[o10 rfl T10 rfl]
 unfold F10 c10
 generalize k*(k+1)=A at*
 generalize k*(d-k)=B at*
 simp(disch:=first|omega|fail) only[push_cast,seval,vrl,if_pos,if_neg,e1,e2,e3]
theorem kr0 [IsFld q](v:Int):o24 W 83 [.x (.int .i64 v), .fz b (.pt e [pF q])] []=some (.x (.bool (!fok q v)),[],[]):=by
 rw[o10 rfl T83 rfl]
 unfold F83 c83
 simp(disch:=first|omega|fail) only[push_cast,seval,vrl,if_pos,if_neg]
theorem lt7 [IsFld q]{l:List Int}(hl:l.length≤9223372036854775807):o24 W 43 [.fz b (plT e q n k d), .fz b' (.sl nl 0 1 (ivs l))] []=some (.x (.bool (!l.any fun v=> !fok q v)),[],[]):=by
 have hf:=fun bl nl b e=>eg0 (nl:=nl) (l:=l) (bl:=bl) (k:=83) (b:=b) (t:= .pt e [pF q]) kr0 rfl hl
 unfold plT
 rw[o10 rfl T43 rfl]
 unfold F43 c43
 simp(disch:=first|omega|fail) only[push_cast,seval,vrl,if_pos,if_neg,hf]
end
end Go.Proofs.YtmhbpecdpiapgaaGreat
namespace Go.Alg
section
variable {K:Type} [FK K]
end
end Go.Alg
namespace Go.Proofs.YtmhbpecdpiapgaaGreat
open Go.Am Go.Vm Go.Alg
section
variable {q:Int} {b:Bool} {nl:Nat} {l:List Int}
end
section
variable {q:Int} [IsFld q] {b:Bool} {nl:Nat} {a:List (El q)}
end
end Go.Proofs.YtmhbpecdpiapgaaGreat
namespace Go.Alg
section
variable {K:Type} [FK K]
end
end Go.Alg
namespace Go.Proofs.YtmhbpecdpiapgaaGreat
open Go.Am Go.Vm Go.Alg
section
variable {q:Int} {b b':Bool} {nl nl':Nat}
end
section
variable {q:Int} {b b':Bool} {nl nl':Nat}
end
end Go.Proofs.YtmhbpecdpiapgaaGreat
namespace Go.Alg
section
variable {K:Type} [FK K]
theorem tt9(x y:K):ev [-x,1] y=y-x:=by
 rw[ev,ev,ev,mul_zero,FK.add_zero,FK.mul_one,FK.add_comm];rfl
open Classical in
end
end Go.Alg
namespace Go.Alg
section
variable {K:Type} [FK K]
theorem qc1{n:Nat}{M:List (List K)}{b x:List K}(hM: ∀m∈M,m.length=n)(hb:b.length=M.length)(hx: ∀i,i<M.length→sumN n (fun j=>wf (M.getD i []) j*wf x j)=wf b i): ∃y,solR n M b=some y:=by
 unfold solR
 split
 ·rename_i hno
  exfalso
  obtain⟨r1,r2,r3⟩:=bi2 (a86 (b:=b) hM)
  obtain⟨a,ha,h0⟩:=List.any_eq_true.1 hno
  have h0:a.1=n:=by simpa using h0
  have hsp:Span ((augL M b).map wf) (wf a.2):=(r3 _).1 (.mem (he3.2 ⟨a,ha,rfl⟩))
  have hone:wf a.2 n=1:=by
   have:=r1.one (a.1,wf a.2) (xe5.2 ⟨a,ha,rfl⟩)
   rw[h0]at this;exact this
  have hlow: ∀k,k<n→wf a.2 k=0:=fun k hk=>by
   have:=r1.before (a.1,wf a.2) (xe5.2 ⟨a,ha,rfl⟩) k (by show k<a.1;omega)
   exact this
  have key:sumN n (fun j=>wf a.2 j*wf x j)=wf a.2 n:=by
   refine hsp.lin (P:=fun w=>sumN n (fun j=>w j*wf x j)=w n) ?_ (fun u r c hu hr=> ?_) fun r hr=> ?_
   ·exact ja4 fun j _=>zero_mul _
   ·show sumN n (fun j=>(u j+c*r j)*wf x j)=u n+c*r n
    rw[←hu,←hr,←x18,←pv3]
    exact rc1 fun j _=>by rw[add_mul,FK.mul_assoc]
   ·obtain⟨m,hm,rfl⟩:=List.mem_map.1 hr
    obtain⟨i,hi,rfl⟩:=List.getElem_of_mem hm
    have hiM:i<M.length:=by unfold augL at hi;rw[List.length_zipWith]at hi;omega
    have haug:(augL M b)[i]=M[i]++[b[i]'(by omega)]:=by simp only[augL,List.getElem_zipWith]
    have hml:M[i].length=n:=hM _ (List.getElem_mem hiM)
    have h1:=hx i hiM
    rw[List.getD_eq_getElem?_getD,List.getElem?_eq_getElem hiM]at h1
    rw[haug,n97,hml,if_pos rfl,←i66 (l:=b) (by omega),←h1]
    refine rc1 fun j hj=> ?_
    rw[n97,hml,if_neg (by omega)];rfl
  rw[hone,ja4 fun j hj=>by rw[hlow j hj,zero_mul]]at key
  exact ki7 key.symm
 ·exact⟨_,rfl⟩
end
end Go.Alg
namespace Go.Proofs.YtmhbpecdpiapgaaGreat
open Go.Am Go.Vm Go.Alg
def AllB(q:Nat)(L:List Int):Prop:=L.Perm (pn (List.range q))
theorem AllB.len{q:Nat}{L:List Int}(h:AllB q L):L.length=q:=by rw[h.length_eq,im5,List.length_range]
theorem swap_perm{α:Type} [DecidableEq α]{l:List α}{i j:Nat}{x y:α}(hi:l[i]? =some x)(hj:l[j]? =some y):((l.set i y).set j x).Perm l:=by
 obtain⟨h1,e1⟩:=List.getElem?_eq_some_iff.1 hi
 obtain⟨h2,e2⟩:=List.getElem?_eq_some_iff.1 hj
 refine List.perm_iff_count.2 fun a=> ?_
 by_cases hij:i=j
 ·subst hij
  rw[List.set_set,←e1,List.set_getElem_self]
 ·rw[List.count_set (by simpa using h2),List.count_set h1,List.getElem_set_ne hij]
  subst e1 e2
  have c1:l[i]∈l:=List.getElem_mem h1
  have c2:l[j]∈l:=List.getElem_mem h2
  have p1:=List.count_pos_iff.2 c1
  have p2:=List.count_pos_iff.2 c2
  by_cases ha:l[i]=a<;>by_cases hb:l[j]=a<;>simp[ha,hb]<;>(try subst ha)<;>(try subst hb)<;>omega
section
variable {raw:List Int} {b:Bool} {nl:Nat}
theorem mn8{q n:Nat}(hq:q≤1000): ∀(d i:Nat),i+d=q→ ∀ks,
 vgoL W ⟨hNo,[.tmp 6],0⟩ [0,1,2,7,8] c20L0 (.blk 0 [0,1,2,7]::ks) [(0, .fz b (.sl nl 0 1 (ivs raw))),(1, .x (.int .i64 q)),(2, .x (.int .i64 n)),(7, .own 0 []),(8, .x (.int .i64 i))] [.sl 0 3 1 (ivs (pn (List.range i)++List.replicate (q-i) 0))]=
  vgo W ⟨hNo,[.tmp 6],0⟩ ks (VFr.of [(0, .fz b (.sl nl 0 1 (ivs raw))),(1, .x (.int .i64 q)),(2, .x (.int .i64 n)),(7, .own 0 [])]) [.sl 0 3 1 (ivs (pn (List.range q)))]
 |0,i,hi,ks=>by
  obtain rfl:i=q:=by omega
  rw[Nat.sub_self,List.replicate_zero,List.append_nil,sb5 c20L0.eq_def]
  simp(disch:=first|omega|fail) only[push_cast,seval,vrl,if_pos,if_neg]
 |d+1,i,hi,ks=>by
  have ih:=mn8 hq (n:=n) d (i+1) (by omega) ks
  have hl:(pn (List.range i)++List.replicate (q-i) (0:Int)).length=q:=by
   rw[List.length_append,im5,List.length_range,List.length_replicate];omega
  have hs:(pn (List.range i)++List.replicate (q-i) (0:Int)).set i (i:Int)=pn (List.range (i+1))++List.replicate (q-(i+1)) 0:=by
   rw[List.set_append_right _ _ (by rw[im5,List.length_range];omega),im5,List.length_range,Nat.sub_self,show q-i=(q-(i+1))+1 by omega,List.replicate_succ,List.set_cons_zero,List.range_succ]
   unfold pn
   rw[List.map_append]
   simp
  rw[Int.natCast_add,Int.natCast_one,←hs]at ih
  generalize pn (List.range i)++List.replicate (q-i) (0:Int)=L at*
  rw[←ih,sb5 c20L0.eq_def]
  simp(disch:=first|omega|fail) only[push_cast,seval,vrl,if_pos,if_neg,hl]
theorem c70(hrl:raw.length≤9223372036854775807){q n:Nat}(hq:q≤1000)(hn:n≤q): ∀(d i:Nat) (L:List Int),i+d=n→AllB q L→ ∃L',AllB q L'∧ ∀(b:Bool) (nl:Nat),∀ks,
 vgoL W ⟨hNo,[.tmp 6],0⟩ [0,1,2,7,9] c20L1 (.blk 2 [2,7]::ks) [(0, .fz b (.sl nl 0 1 (ivs raw))),(1, .x (.int .i64 q)),(2, .x (.int .i64 n)),(7, .own 0 []),(9, .x (.int .i64 i))] [.sl 0 3 1 (ivs L)]=
  vgo W ⟨hNo,[.tmp 6],0⟩ ks (VFr.of [(2, .x (.int .i64 n)),(7, .own 0 [])]) [.sl 0 3 1 (ivs L')]
 |0,i,L,hi,hL=>by
  refine⟨L,hL,fun b nl ks=> ?_⟩
  rw[sb5 c20L1.eq_def]
  simp(disch:=first|omega|fail) only[push_cast,seval,vrl,if_pos,if_neg]
 |d+1,i,L,hi,hL=>by
  have hl:=hL.len
  have hr:=bd0 (l:=raw) (i:=(i:Int)) (by omega) (by omega)
  have e1:=fun b nl=>yc3 (b:=b) (nl:=nl) (raw:=raw) (i:=(i:Int)) (by omega) hrl
  have hpos:(0:Int)<(q:Int)-(i:Int):=by omega
  have e2:=s88 (a:=rwI raw (i:Int)) (n:=(q:Int)-(i:Int)) hr.1 hr.2 hpos
  have hk:=h59 (a:=rwI raw (i:Int)) (n:=(q:Int)-(i:Int)) hpos
  obtain⟨k,hk1,hk2⟩:=o99 hk.1 hk.2
  rw[hk1]at e2
  obtain⟨x,hx⟩:=ge6 (l:=L) (i:=i) (by omega)
  obtain⟨y,hy⟩:=ge6 (l:=L) (i:=i+k) (by omega)
  obtain⟨L',h1,h2⟩:=c70 hrl hq hn d (i+1) ((L.set i y).set (i+k) x) (by omega) ((swap_perm hx hy).trans hL)
  refine⟨L',h1,fun b nl ks=> ?_⟩
  have ih:=h2 b nl ks
  have l1:=iat hx
  have l2:=iat hy
  have w1:IntKind.wrap .i64 ((i:Int)+(k:Int))=((i+k:Nat):Int):=by rw[wrap64 (by omega) (by omega)];omega
  have l3:(L.set i y).length=q:=by rw[List.length_set,hl]
  have l4:((L.set i y).set (i+k) x).length=q:=by rw[List.length_set,l3]
  rw[Int.natCast_add,Int.natCast_one]at ih
  rw[←ih,sb5 c20L1.eq_def]
  have hik:i+k<q:=by omega
  generalize i+k=j at*
  simp(disch:=first|omega|fail) only[push_cast,seval,vrl,if_pos,if_neg,e1,e2,w1,l1,l2,hl,l3]
end
section
variable {a c:List Int} {b b':Bool} {nl nl':Nat}
end
section
variable {q:Int} {b:Bool} {nl:Nat} {xs:List Int} {k:Int}
end
section
variable {q:Int} [hq:IsFld q]
variable {b b':Bool} {nl nl':Nat} {X m:List (El q)}
end
section
variable {q:Int}
def oV:Option (El q)→Int
 |none=> -1
 |some x=>x.v
def ws(W:List (Option (El q))):List Int:=W.map oV
end
section
variable {q:Int} {b b':Bool} {nl nl':Nat}
end
theorem rn9{α:Type}{M:List (List α)}{b:List α}{i:Nat}{r:List α}{x:α}(hr:M[i]? =some r)(hx:b[i]? =some x):(augL M b).take (i+1)=(augL M b).take i++[r++[x]]:=by
 have h:(augL M b)[i]? =some (r++[x]):=by unfold augL;rw[List.getElem?_zipWith,hr,hx]
 rw[List.take_add_one,h];rfl
theorem b28{α:Type}{M:List (List α)}{b:List α}(h:b.length=M.length):(augL M b).length=M.length:=by unfold augL;rw[List.length_zipWith,h,Nat.min_self]
section
variable {q p m g:Int} [IsFld q] {t:Tree} {b b':Bool} {nl nl' nr n7 n8:Nat} {M:List (List (El q))} {A:List (Nat×List (El q))} {N:Nat}
theorem zm6{T3:Tree}{y:List (El q)}(hy:y.length=M.length)(hMl: ∀r∈M,r.length=N)(hMn:M.length≤500)(hN:N≤900): ∀(n i:Nat),i+n=M.length→ ∀ks,
 vgoL W ⟨h56,[.tmp 6, .tmp 7],0⟩ [1,2,3,8,9,10] c56L0 (.blk 0 [3,8,9]::ks) [(1, .fz b (.sl nl 0 1 (lvs nr (M.map vs)))),(2, .fz b' (.sl nl' 0 1 (ivs (vs y)))),(3, .own 0 []),(8, .x (.int .i64 N)),(9, .own 1 []),(10, .x (.int .i64 i))] [T3, .sl 1 22 1 (lls 2 (((augL M y).take i).map vs))]=
  vgo W ⟨h56,[.tmp 6, .tmp 7],0⟩ ks (VFr.of [(3, .own 0 []),(8, .x (.int .i64 N)),(9, .own 1 [])]) [T3, .sl 1 22 1 (lls 2 ((augL M y).map vs))]
 |0,i,hi,ks=>by
  have hl:=b28 hy
  rw[List.take_of_length_le (by omega),sb5 c56L0.eq_def]
  simp(disch:=first|omega|fail) only[push_cast,seval,vrl,if_pos,if_neg]
 |n+1,i,hi,ks=>by
  obtain⟨r,hr⟩:=ge6 (l:=M) (i:=i) (by omega)
  obtain⟨x,hx⟩:=ge6 (l:=y) (i:=i) (by omega)
  have hrl:=hMl r (List.mem_of_getElem? hr)
  have hwx:wf y i=x:=by
   obtain⟨h1,h2⟩:=List.getElem?_eq_some_iff.1 hx
   rw[i66 h1,h2]
  have ih:=zm6 (T3:=T3) hy hMl hMn hN n (i+1) (by omega) ks
  rw[rn9 hr hx,List.map_append,Int.natCast_add,Int.natCast_one]at ih
  have h0:=mva (nl:=nr) hr
  have h1:=iva (l:=y) (i:=i) (by omega)
  rw[hwx]at h1
  have hcp:=fun b nl=>xr6 (b:=b) (nl:=nl) (l:=vs r) (by rw[fi2];omega)
  have hl:=b28 hy
  have hv:vs r++[x.v]=vs (r++[x]):=by rw[gq8];rfl
  rw[←ih,sb5 c56L0.eq_def]
  simp(disch:=first|omega|fail) only[push_cast,seval,vrl,if_pos,if_neg,h0,h1,hcp,hl,hv]
theorem es7(hA: ∀a∈A,a.2.length=N+1∧a.1<N+1)(hAl:A.length≤1000)(hN:N≤900):
 ∀(n k:Nat) (x:List (El q)),k+n=A.length→x.length=N→ ∀ks,
  vgoL W ⟨h56,[.tmp 6, .tmp 7],0⟩ [8,11,12,13,14] c56L1 (.blk 2 [13]::ks) [(8, .x (.int .i64 N)),(11, .own 0 []),(12, .own 1 []),(13, .own 2 []),(14, .x (.int .i64 k))] [.sl n7 22 1 (lls 2 (pvR A)), .sl n8 3 1 (ivs (pvP A)), .sl 0 3 1 (ivs (vs x))]=
   if(A.drop k).any (fun a=>a.1==N)=true then some (.tup [.x (.slice none 0 0), .x (.bool false)],[],[])else
    vgo W ⟨h56,[.tmp 6, .tmp 7],0⟩ ks (VFr.of [(13, .own 2 [])]) [.sl n7 22 1 (lls 2 (pvR A)), .sl n8 3 1 (ivs (pvP A)), .sl 0 3 1 (ivs (vs (setP N (A.drop k) x)))]
 |0,k,x,hk,hx,ks=>by
  have h1:=nu3 A
  rw[oh9 (by omega),if_neg (by simp),setP,sb5 c56L1.eq_def]
  simp(disch:=first|omega|fail) only[push_cast,seval,vrl,if_pos,if_neg,h1]
 |n+1,k,x,hk,hx,ks=>by
  obtain⟨a,ha⟩:=ge6 (l:=A) (i:=k) (by omega)
  obtain⟨hal,hap⟩:=hA a (List.mem_of_getElem? ha)
  have h1:=nu3 A
  have h2:=ga8 A
  have h3:=x08 ha
  have h4:=bx6 ha
  rw[i62 ha,List.any_cons,setP]
  by_cases hp:a.1=N
  ·rw[if_pos (by rw[hp,beq_self_eq_true,Bool.true_or]),sb5 c56L1.eq_def]
   rw[hp]at h4
   simp(disch:=first|omega|fail) only[push_cast,seval,vrl,if_pos,if_neg,h1,h2,h4]
  ·have ih:=es7 hA hAl hN n (k+1) (x.set a.1 (wf a.2 N)) (by omega) (by rw[List.length_set];exact hx) ks
   have h5:=iva (l:=a.2) (i:=N) (by omega)
   have hpN:(a.1==N)=false:=by simpa using hp
   have hpi: ¬(a.1:Int)=(N:Int):=by omega
   have hs:=g52 x a.1 (wf a.2 N)
   rw[Int.natCast_add,Int.natCast_one]at ih
   rw[hpN,Bool.false_or,←ih,sb5 c56L1.eq_def]
   simp(disch:=first|omega|fail) only[push_cast,seval,vrl,if_pos,if_neg,h1,h2,h3,h4,h5,nb8 hpi,hs]
theorem x97{y:List (El q)}(hy:y.length=M.length)(hMl: ∀r∈M,r.length=N)(hM0:0<M.length)(hMn:M.length≤500)(hN:N≤900):
 o24 W 56 [.agg (rFs q), .fz b (.sl nl 0 1 (lvs nr (M.map vs))), .fz b' (.sl nl' 0 1 (ivs (vs y)))] []=match solR N M y with
  |none=>some (.tup [.x (.slice none 0 0), .x (.bool false)],[],[])
  |some x=>some (.tup [.own 0 [], .x (.bool true)],[.sl 0 3 1 (ivs (vs x))],[]):=by
 obtain⟨p,m,g,t,u⟩:=k75 q
 obtain⟨r0,hr0⟩:=ge6 (l:=M) (i:=0) hM0
 have h0:=mva (nl:=nr) hr0
 have hr0l:=hMl r0 (List.mem_of_getElem? hr0)
 have e1:=fun T3 ks=>zm6 (T3:=T3) (b:=b) (b':=b') (nl:=nl) (nl':=nl') (nr:=nr) hy hMl hMn hN M.length 0 (by omega) ks
 have hal:=b28 hy
 have e2:=fun b nl nr=>di6 (b:=b) (nl:=nl) (nr:=nr) (a86 (b:=y) hMl) (by omega) (by omega)
 obtain⟨r1,r2,r3⟩:=bi2 (a86 (b:=y) hMl)
 obtain⟨A,hA⟩: ∃A,redR (augL M y)=A:=⟨_,rfl⟩
 rw[hA]at e2 r1 r2
 have hAA: ∀a∈A,a.2.length=N+1∧a.1<N+1:=fun a ha=>⟨r2 a ha,r1.lt (a.1,wf a.2) (xe5.2 ⟨a,ha,rfl⟩)⟩
 have hAl:A.length≤1000:=by
  have:=r1.len
  unfold toF at this
  rw[List.length_map]at this
  omega
 have e3:=fun n7 n8 ks=>es7 (n7:=n7) (n8:=n8) hAA hAl hN A.length 0 (List.replicate N 0) (by omega) (by simp) ks
 simp only[Int.natCast_zero,List.take_zero,List.drop_zero,rp2,lz6,x25,List.map_nil,List.length_nil]at e1
 simp only[Int.natCast_zero,List.take_zero,List.drop_zero,rp2,lz6,x25,List.map_nil,List.length_nil]at e3
 have hz:List.replicate N (0:Int)=vs (List.replicate N (0:El q)):=by rw[←qj2];rfl
 have ht:=u.n
 have ho:=u.o
 rw[u.e]at e2
 unfold solR
 rw[hA,o10 rfl T56 rfl,u.e]
 unfold F56 c56
 simp(disch:=first|omega|fail) only[push_cast,seval,vrl,if_pos,if_neg,ht,h0,hr0l]
 rw[e1]
 simp(disch:=first|omega|fail) only[push_cast,seval,vrl,if_pos,if_neg,ht,ho,e2,hz]
 rw[e3]
 by_cases hany:A.any (fun a=>a.1==N)=true
 ·rw[if_pos hany,if_pos hany]
 ·rw[if_neg hany,if_neg hany]
  simp(disch:=first|omega|fail) only[push_cast,seval,vrl,if_pos,if_neg]
end
theorem vu3{q:Int}{M:List (List (El q))}{at' i:Nat}(hii:i≠at'):((((lls 2 (M.map vs)).set at' Tree.junk).set i Tree.junk).set at' (.sl 2 3 1 (ivs (vs (nth M i))))).set i (.sl 2 3 1 (ivs (vs (nth M at'))))=lls 2 ((swpM M at' i).map vs):=by
 have hsw:(swpM M at' i).map vs=((M.map vs).set at' (vs (nth M i))).set i (vs (nth M at')):=by unfold swpM;rw[List.map_set,List.map_set]
 rw[hsw,←y81,←y81]
 refine List.ext_getElem? fun k=> ?_
 simp only[List.getElem?_set,List.length_set]
 by_cases c1:i=k<;>by_cases c2:at'=k<;>simp[c1,c2]
theorem aw4{q:Int}{M:List (List (El q))}{i:Nat}:(lls 2 (M.map vs)).set i (.sl 2 3 1 (ivs (vs (nth M i))))=lls 2 ((swpM M i i).map vs):=by
 have hsw:(swpM M i i).map vs=((M.map vs).set i (vs (nth M i))).set i (vs (nth M i)):=by unfold swpM;rw[List.map_set,List.map_set]
 rw[y81,hsw,List.set_set]
section
variable {q:Int} [IsFld q] {b b':Bool} {nl nl' nr:Nat} {M:List (List (El q))} {y:List (El q)} {n R:Nat}
theorem gz1(hy:y.length=M.length)(hMl: ∀r∈M,r.length=n)(hn0:0<n)(hMn:M.length≤500)(hN:n≤900): ∀(d i:Nat),i+d=M.length→ ∀ks,
 vgoL W ⟨h130,[.tmp 6, .tmp 7],0⟩ [1,2,8,10,11,36,37] c130L0 (.blk 0 [8,10,11]::ks) [(1, .fz b (.sl nl 0 1 (lvs nr (M.map vs)))),(2, .fz b' (.sl nl' 0 1 (ivs (vs y)))),(8, .fz true (pF q)),(10, .x (.int .i64 n)),(11, .own 0 []),(36, .x (.int .i64 M.length)),(37, .x (.int .i64 i))] [.sl 0 22 1 (lls 2 (((augL M y).map vs).take i++List.replicate d []))]=
  vgo W ⟨h130,[.tmp 6, .tmp 7],0⟩ ks (VFr.of [(8, .fz true (pF q)),(10, .x (.int .i64 n)),(11, .own 0 [])]) [.sl 0 22 1 (lls 2 ((augL M y).map vs))]
 |0,i,hi,ks=>by
  have hl:=b28 hy
  rw[List.replicate_zero,List.append_nil,List.take_of_length_le (by rw[List.length_map];omega),sb5 c130L0.eq_def]
  simp(disch:=first|omega|fail) only[push_cast,seval,vrl,if_pos,if_neg]
 |d+1,i,hi,ks=>by
  obtain⟨r,hr⟩:=ge6 (l:=M) (i:=i) (by omega)
  obtain⟨x,hx⟩:=ge6 (l:=y) (i:=i) (by omega)
  have hrl:=hMl r (List.mem_of_getElem? hr)
  have hwx:wf y i=x:=by
   obtain⟨h1,h2⟩:=List.getElem?_eq_some_iff.1 hx
   rw[i66 h1,h2]
  have ih:=gz1 hy hMl hn0 hMn hN d (i+1) (by omega) ks
  have hg:((augL M y).map vs)[i]? =some (vs (r++[x])):=by
   rw[List.getElem?_map]
   have h:(augL M y)[i]? =some (r++[x]):=by unfold augL;rw[List.getElem?_zipWith,hr,hx]
   rw[h];rfl
  have hl:=b28 hy
  have hn:=l52 (n:=d) hg
  have hYl:(((augL M y).map vs).take i++List.replicate (d+1) []).length=M.length:=by
   simp only[List.length_append,List.length_take,List.length_map,List.length_replicate];omega
  rw[←hn]at ih
  generalize ((augL M y).map vs).take i++List.replicate (d+1) []=Y at ih hYl
  rw[Int.natCast_add,Int.natCast_one]at ih
  have h0:=mva (nl:=nr) hr
  have h1:=iva (l:=y) (i:=i) (by omega)
  rw[hwx]at h1
  have hcp:=fun b nl=>u27 (b:=b) (nl:=nl) (l:=vs r) (by rw[fi2];omega) (by rw[fi2];omega)
  have hv:vs r++[x.v]=vs (r++[x]):=by rw[gq8];rfl
  rw[←ih,sb5 c130L0.eq_def]
  simp(disch:=first|omega|fail) only[push_cast,seval,vrl,if_pos,if_neg,h0,h1,hcp,hYl,hv,y81]
theorem zw3{b b':Bool}{nl e:Nat}{r:List (El q)}{c:Nat}(hc:c<r.length)(hl:r.length≤1000):o24 W 137 [.fz b (.sl nl 0 1 (ivs (vs r))), .fz b' (.pt e [.v (.int .i64 c)])] []=some (.x (.bool (decide ((wf r c).v≠0))),[],[]):=by
 have h1:=iva (l:=r) (i:=c) hc
 rw[o10 rfl T137 rfl]
 unfold F137 c137
 simp(disch:=first|omega|fail) only[push_cast,seval,vrl,if_pos,if_neg,h1]
 by_cases h:(wf r c).v=0
 ·rw[decide_eq_true h,decide_eq_false (by simpa using h)];rfl
 ·rw[decide_eq_false h,decide_eq_true h];rfl
section
variable {T5:Tree} {c at' n0:Nat}
theorem gr3(hR:M.length=R)(hR2:R≤1000)(hn2:n≤1000)(hrow: ∀k,k<R→(nth M k).length=n)(hc:c<n)(hat:at'<R):
 ∀(d k:Nat),k+d=R→ ∀ks,
  vgoL W ⟨h130,[.tmp 6, .tmp 7],0⟩ [8,10,11,13,14,15,55,56,102,103] c130L1 (.blk 4 [8,10,11,13,14,55,56]::ks) [(8, .fz true (pF q)),(10, .x (.int .i64 n0)),(11, .own 0 []),(13, .own 1 []),(14, .own 2 []),(15, .x (.int .i64 at')),(55, .x (.int .i64 n0)),(56, .x (.int .i64 c)),(102, .x (.int .i64 R)),(103, .x (.int .i64 k))] [.sl 0 22 1 (lls 2 (((clrM M at' c).take k++M.drop k).map vs)),T5, .pt 3 [.v (.int .i64 c)]]=
   vgo W ⟨h130,[.tmp 6, .tmp 7],0⟩ ks (VFr.of [(8, .fz true (pF q)),(10, .x (.int .i64 n0)),(11, .own 0 []),(13, .own 1 []),(14, .own 2 []),(55, .x (.int .i64 n0)),(56, .x (.int .i64 c))]) [.sl 0 22 1 (lls 2 ((clrM M at' c).map vs)),T5, .pt 3 [.v (.int .i64 c)]]
 |0,k,hk,ks=>by
  have hcl:=wq1 M at' c
  rw[oh9 (by omega),List.append_nil,List.take_of_length_le (by omega),sb5 c130L1.eq_def]
  simp(disch:=first|omega|fail) only[push_cast,seval,vrl,if_pos,if_neg]
 |d+1,k,hk,ks=>by
  have ih:=gr3 hR hR2 hn2 hrow hc hat d (k+1) (by omega) ks
  have hcl:=wq1 M at' c
  have hck:=kc5 (M:=M) (at':=at') (c:=c) (k:=k) (by omega)
  have hY:((clrM M at' c).take k++M.drop k).length=R:=by simp only[List.length_append,List.length_take,List.length_drop];omega
  have hYk:((clrM M at' c).take k++M.drop k)[k]? =some (nth M k):=by
   rw[List.getElem?_append_right (by rw[List.length_take];omega),List.length_take,Nat.min_eq_left (by omega),Nat.sub_self,List.getElem?_drop,Nat.add_zero,gu3 (by omega)]
  have hYa:((clrM M at' c).take k++M.drop k)[at']? =some (nth M at'):=by
   by_cases h:at'<k
   ·rw[List.getElem?_append_left (by rw[List.length_take];omega),List.getElem?_take,if_pos h,kc5 (by omega),if_pos rfl]
   ·rw[List.getElem?_append_right (by rw[List.length_take];omega),List.length_take,Nat.min_eq_left (by omega),List.getElem?_drop,show k+(at'-k)=at' by omega,gu3 (by omega)]
  have hYn:((clrM M at' c).take k++M.drop k).set k (if k=at' then nth M k else dx9 (wf (nth M k) c) (nth M k) (nth M at'))=(clrM M at' c).take (k+1)++M.drop (k+1):=by
   rw[List.set_append_right _ _ (by rw[List.length_take];omega),List.length_take,Nat.min_eq_left (by omega),Nat.sub_self,List.drop_eq_getElem_cons (by omega:k<M.length),List.set_cons_zero,List.take_add_one,hck,List.append_assoc];rfl
  rw[←hYn]at ih
  generalize (clrM M at' c).take k++M.drop k=Y at ih hY hYk hYa
  rw[Int.natCast_add,Int.natCast_one]at ih
  have h1:=mla (nl:=2) hYk
  have h2:=mla (nl:=2) hYa
  have h3:=iva (l:=nth M k) (i:=c) (by rw[hrow k (by omega)];exact hc)
  have hsame:Y.set k (nth M k)=Y:=em2 hYk
  have hlk:=hrow k (by omega)
  have hla:=hrow at' hat
  by_cases hka:k=at'
  ·rw[if_pos hka,hsame]at ih
   rw[←ih,sb5 c130L1.eq_def]
   simp(disch:=first|omega|fail) only[push_cast,seval,vrl,if_pos,if_neg,h1,h2,h3,hY,hlk]
  ·rw[if_neg hka]at ih
   have hl:=fun b b' nl nl'=>nq1 (b:=b) (b':=b') (nl:=nl) (nl':=nl') (c:=wf (nth M k) c) (r:=nth M k) (o:=nth M at') (by rw[hrow k (by omega),hrow at' hat]) (by rw[hrow k (by omega)];omega)
   have hs:(lls 2 (Y.map vs)).set k (.sl 2 3 1 (ivs (vs (dx9 (wf (nth M k) c) (nth M k) (nth M at')))))=lls 2 ((Y.set k (dx9 (wf (nth M k) c) (nth M k) (nth M at'))).map vs):=by rw[y81,List.map_set]
   have hj:((lls 2 (Y.map vs)).set k Tree.junk)[k]? =some Tree.junk:=List.getElem?_set_self (by rw[qf0,List.length_map];omega)
   rw[←ih,sb5 c130L1.eq_def]
   simp(disch:=first|omega|fail) only[push_cast,seval,vrl,if_pos,if_neg,h1,h2,h3,hY,hlk,hl,hj,List.getElem?_set_ne,List.set_set,hs]
end
theorem wh0{M0:List (List (El q))}{n0:Nat}(hR:M0.length=R)(hR0:0<R)(hR2:R≤1000)(hn2:n≤1000)(hn0:n0<n):
 ∀(d c:Nat) (M:List (List (El q))) (P:List Nat),c+d=n0→RedI n M0 M P c→ ∃(M':List (List (El q))) (P':List Nat),RedI n M0 M' P' n0∧ ∀ks,
  vgoL W ⟨h130,[.tmp 6, .tmp 7],0⟩ [8,10,11,13,55,56] c130L2 (.blk 2 [10,11,13]::ks) [(8, .fz true (pF q)),(10, .x (.int .i64 n0)),(11, .own 0 []),(13, .own 1 []),(55, .x (.int .i64 n0)),(56, .x (.int .i64 c))] [.sl 0 22 1 (lls 2 (M.map vs)), .sl 1 3 1 (ivs (pn P))]=
   vgo W ⟨h130,[.tmp 6, .tmp 7],0⟩ ks (VFr.of [(10, .x (.int .i64 n0)),(11, .own 0 []),(13, .own 1 [])]) [.sl 0 22 1 (lls 2 (M'.map vs)), .sl 1 3 1 (ivs (pn P'))]
 |0,c,M,P,hd,I=>by
  obtain rfl:c=n0:=by omega
  refine⟨M,P,I,fun ks=> ?_⟩
  rw[sb5 c130L2.eq_def]
  simp(disch:=first|omega|fail) only[push_cast,seval,vrl,if_pos,if_neg]
 |d+1,c,M,P,hd,I=>by
  have hMl:M.length=R:=by rw[I.len,hR]
  have hpl:=I.pl
  have hpn:=im5 P
  have IH:=wh0 hR hR0 hR2 hn2 hn0 d (c+1)
  obtain⟨at',hat'⟩: ∃a,a=P.length:=⟨_,rfl⟩
  have hrow: ∀k,k<R→(nth M k).length=n:=fun k hk=>I.len_nth (by omega)
  obtain⟨m,hm⟩: ∃m,m=List.take (R-at') (List.drop at' (List.map vs M)):=⟨_,rfl⟩
  have hmm: ∀{j:Nat} {x:List Int},m[j]? =some x→at'+j<R∧x=vs (nth M (at'+j)):=fun{j x} h=>by
   have hj:=(List.getElem?_eq_some_iff.1 h).1
   rw[hm,List.length_take,List.length_drop,List.length_map]at hj
   rw[hm,List.getElem?_take,if_pos (by omega),List.getElem?_drop,List.getElem?_map,gu3 (by omega)]at h
   exact⟨by omega,(Option.some.inj h).symm⟩
  have hml:m.length=R-at':=by rw[hm,List.length_take,List.length_drop,List.length_map];omega
  have hk: ∀(bl b:Bool) (e:Nat),∀r∈m,o24 W 137 [.fz bl (.sl 2 0 1 (ivs r)), .fz b (.pt e [.v (.int .i64 c)])] []=some (.x (.bool (decide (gi r c≠0))),[],[]):=fun bl b e r hr=>by
   obtain⟨j,hj⟩:=List.getElem?_of_mem hr
   obtain⟨h2,rfl⟩:=hmm hj
   have:=hrow (at'+j) h2
   rw[zw3 (by omega) (by omega),v86];rfl
  have hix:=fun bl nl b e=>aj5 (bl:=bl) (nl:=nl) (nr:=2) (m:=m) (k:=137) (b:=b) (t:= .pt e [.v (.int .i64 c)]) (p:=fun r=>decide (gi r c≠0)) (hk bl b e) rfl (by omega)
  rcases nu4 (fun r=>decide (gi r c≠0)) 0 m with⟨f1,f2⟩|⟨j,x,f1,f2,f3⟩
  ·rw[f1,hm]at hix
   have I':=I.skip (by omega) (fun k h1 h2=>by
    have hmk:vs (nth M k)∈m:=by
     refine List.mem_of_getElem? (i:=k-at') ?_
     rw[hm,List.getElem?_take,if_pos (by omega),List.getElem?_drop,List.getElem?_map,gu3 (by omega),show at'+(k-at')=k by omega];rfl
    have:=f2 _ hmk
    rw[v86]at this
    have h3:(ge (nth M k) c).v=0:=by simpa using this
    exact r57.1 h3)
   obtain⟨M',P',r1,r3⟩:=IH M P (by omega) I'
   refine⟨M',P',r1,fun ks=> ?_⟩
   have ih:=r3 ks
   rw[Int.natCast_add,Int.natCast_one]at ih
   rw[←hat']at hpn
   have hnn:((M.length:Int)-(at':Int)).toNat=R-at':=by omega
   rw[←ih,sb5 c130L2.eq_def]
   simp(disch:=first|omega|fail) only[push_cast,seval,vrl,if_pos,if_neg,hpn,hnn,hix]
  ·have hj:=(List.getElem?_eq_some_iff.1 f2).1
   obtain⟨hR1,rfl⟩:=hmm f2
   rw[f1,Nat.zero_add,hm]at hix
   obtain⟨i,hi⟩: ∃i,i=at'+j:=⟨_,rfl⟩
   rw[←hi]at f3 hR1
   have hne:wf (nth M i) c≠0:=fun e=>by
    have h3:gi (vs (nth M i)) c≠0:=by simpa using f3
    rw[v86]at h3
    exact h3 (r57.2 e)
   have I':=qt5 I (by omega) (i:=i) (by omega) (by omega) hne
   rw[←hat']at I'
   have hscl:(sclM M at' i c).length=M.length:=np1
   have hsrow:=k39 (c:=c) (M:=M) (fun k hk=>hrow k (by omega)) (at':=at') (i:=i) (by omega) (by omega)
   have hin:=gr3 (n0:=n0) (T5:= .sl 1 3 1 (ivs (pn P))) (M:=sclM M at' i c) (R:=R) (n:=n) (c:=c) (at':=at') (by omega) hR2 hn2 (fun k hk=>hsrow k (by omega)) (by omega) (by omega) R 0 (by omega)
   obtain⟨M',P',r1,r3⟩:=IH (clrM (sclM M at' i c) at' c) (P++[c]) (by omega) I'
   refine⟨M',P',r1,fun ks=> ?_⟩
   have ih:=r3 ks
   rw[Int.natCast_add,Int.natCast_one]at ih
   rw[←hat']at hpn
   have hia:(at':Int)+(j:Int)=(i:Int):=by omega
   have hnn:((M.length:Int)-(at':Int)).toNat=R-at':=by omega
   have hla:=hrow i (by omega)
   have hlb:=hrow at' (by omega)
   have h2:=mla (nl:=2) (M:=M) (i:=i) (gu3 (by omega))
   have h3:=mla (nl:=2) (M:=M) (i:=at') (gu3 (by omega))
   have hswl:(swpM M at' i).length=M.length:=p59
   have h4:=mla (nl:=2) (M:=swpM M at' i) (i:=at') (r:=nth M i) (by rw[gu3 (by omega),fj6 (by omega) (by omega)])
   have h5:=iva (l:=nth M i) (i:=c) (by omega)
   have e2:=rl7 hne
   have hsc:=fun b nl=>em7 (b:=b) (nl:=nl) (c:=FK.inv (wf (nth M i) c)) (r:=nth M i) (by omega)
   have hs2:(lls 2 ((swpM M at' i).map vs)).set at' (.sl 2 3 1 (ivs (vs (xf5 (FK.inv (wf (nth M i) c)) (nth M i)))))=lls 2 ((sclM M at' i c).map vs):=by unfold sclM;rw[y81,List.map_set]
   have hL:(lls 2 (M.map vs)).length=R:=by rw[qf0,List.length_map];exact hMl
   simp only[e2]at hsc
   rw[List.take_zero,List.nil_append,List.drop_zero]at hin
   simp only[Int.natCast_zero]at hin
   have hpush:=aw7 P c
   have k3:((lls 2 ((swpM M at' i).map vs)).set at' Tree.junk)[at']? =some Tree.junk:=List.getElem?_set_self (by rw[qf0,List.length_map];omega)
   by_cases hii:i=at'
   ·have k1:((lls 2 (M.map vs)).set at' Tree.junk)[at']? =some Tree.junk:=List.getElem?_set_self (by omega)
    subst hii
    have k2:=aw4 (M:=M) (i:=i)
    rw[←ih,sb5 c130L2.eq_def]
    simp(disch:=first|omega|fail) only[push_cast,seval,vrl,if_pos,if_neg,hpn,hnn,hix,hia,h3,k1,List.set_set,k2,k3,h4,h5,hsc,hs2,hscl]
    rw[hMl,hin]
    simp(disch:=first|omega|fail) only[push_cast,seval,vrl,if_pos,if_neg,hpn,hpush]
   ·have k1:((lls 2 (M.map vs)).set at' Tree.junk)[i]? =some (.sl 2 3 1 (ivs (vs (nth M i)))):=by rw[List.getElem?_set_ne (by omega)];exact h2
    have k2:=vu3 (M:=M) hii
    rw[←ih,sb5 c130L2.eq_def]
    simp(disch:=first|omega|fail) only[push_cast,seval,vrl,if_pos,if_neg,hpn,hnn,hix,hia,h2,h3,k1,k2,k3,h4,h5,hsc,hs2,hscl,List.set_set]
    rw[hMl,hin]
    simp(disch:=first|omega|fail) only[push_cast,seval,vrl,if_pos,if_neg,hpn,hpush]
theorem rm1{P:List Nat}{n0:Nat}(hR:M.length=R)(hR2:R≤1000)(hrow: ∀k,k<R→(nth M k).length=n0+1)(hn2:n0≤1000)(hP:P.length≤R):
 ∀(d k:Nat),P.length+k+d=R→ ∀ks,
  vgoL W ⟨h130,[.tmp 6, .tmp 7],0⟩ [10,11,13,135,136,137] c130L3 (.blk 6 [10,11,13]::ks) [(10, .x (.int .i64 n0)),(11, .own 0 []),(13, .own 1 []),(135, .sub 0 [] 1 P.length (R-P.length)),(136, .x (.int .i64 ((R:Int)-(P.length:Int)))),(137, .x (.int .i64 k))] [.sl 0 22 1 (lls 2 (M.map vs)), .sl 1 3 1 (ivs (pn P))]=
   if((M.drop (P.length+k)).any fun r=> !decide ((wf r n0).v=0))=true then some (.tup [.x (.slice none 0 0), .x (.bool false)],[],[])else
   vgo W ⟨h130,[.tmp 6, .tmp 7],0⟩ ks (VFr.of [(10, .x (.int .i64 n0)),(11, .own 0 []),(13, .own 1 [])]) [.sl 0 22 1 (lls 2 (M.map vs)), .sl 1 3 1 (ivs (pn P))]
 |0,k,hk,ks=>by
  rw[oh9 (by omega),if_neg (by simp),sb5 c130L3.eq_def]
  simp(disch:=first|omega|fail) only[push_cast,seval,vrl,if_pos,if_neg]
 |d+1,k,hk,ks=>by
  have ih:=rm1 hR hR2 hrow hn2 hP d (k+1) (by omega) ks
  rw[Int.natCast_add,Int.natCast_one]at ih
  have h1:=mla (nl:=2) (M:=M) (i:=P.length+k) (gu3 (by omega))
  have h2:=iva (l:=nth M (P.length+k)) (i:=n0) (by rw[hrow _ (by omega)];omega)
  have h3:=hrow (P.length+k) (by omega)
  by_cases hz:(wf (nth M (P.length+k)) n0).v=0
  ·have hz0:=r57.1 hz
   rw[i62 (gu3 (by omega)),List.any_cons,decide_eq_true hz,Bool.not_true,Bool.false_or,show P.length+k+1=P.length+(k+1) by omega,←ih,sb5 c130L3.eq_def]
   simp(disch:=first|omega|fail) only[push_cast,seval,vrl,if_pos,if_neg,h1,h2,h3,mr8 hz]
  ·rw[i62 (gu3 (by omega)),List.any_cons,decide_eq_false hz,Bool.not_false,Bool.true_or,if_pos rfl,sb5 c130L3.eq_def]
   simp(disch:=first|omega|fail) only[push_cast,seval,vrl,if_pos,if_neg,h1,h2,h3,nb8 hz]
theorem wf6{α:Type}{M:List (List α)}{P:List Nat}{k p:Nat}(hp:P[k]? =some p)(hk:k<M.length):(outP M P)[k]? =some (p,nth M k):=by
 have h1:=(List.getElem?_eq_some_iff.1 hp).1
 unfold outP
 rw[List.getElem?_zip_eq_some]
 exact⟨hp,by rw[List.getElem?_take,if_pos h1,gu3 hk]⟩
theorem u45{P:List Nat}{n0:Nat}(hR:M.length=R)(hR2:R≤1000)(hrow: ∀k,k<R→(nth M k).length=n0+1)(hn2:n0≤1000)(hP:P.length≤R)(hPn: ∀p∈P,p<n0):
 ∀(d k:Nat) (x:List (El q)),k+d=P.length→x.length=n0→ ∀ks,
  vgoL W ⟨h130,[.tmp 6, .tmp 7],0⟩ [10,11,20,149,150,151] c130L4 (.blk 8 [20]::ks) [(10, .x (.int .i64 n0)),(11, .own 0 []),(20, .own 1 []),(149, .own 2 []),(150, .x (.int .i64 P.length)),(151, .x (.int .i64 k))] [.sl 0 22 1 (lls 2 (M.map vs)), .sl 0 3 1 (ivs (vs x)), .sl 1 3 1 (ivs (pn P))]=
   vgo W ⟨h130,[.tmp 6, .tmp 7],0⟩ ks (VFr.of [(20, .own 1 [])]) [.sl 0 22 1 (lls 2 (M.map vs)), .sl 0 3 1 (ivs (vs (setP n0 ((outP M P).drop k) x))), .sl 1 3 1 (ivs (pn P))]
 |0,k,x,hk,hx,ks=>by
  have hol:(outP M P).length=P.length:=by unfold outP;rw[List.length_zip,List.length_take];omega
  rw[oh9 (by omega),setP,sb5 c130L4.eq_def]
  simp(disch:=first|omega|fail) only[push_cast,seval,vrl,if_pos,if_neg]
 |d+1,k,x,hk,hx,ks=>by
  obtain⟨p,hp⟩:=ge6 (l:=P) (i:=k) (by omega)
  have hpn:=hPn p (List.mem_of_getElem? hp)
  have ho:=wf6 (M:=M) hp (by omega)
  have ih:=u45 hR hR2 hrow hn2 hP hPn d (k+1) (x.set p (wf (nth M k) n0)) (by omega) (by rw[List.length_set];exact hx) ks
  rw[Int.natCast_add,Int.natCast_one]at ih
  have h1:=mla (nl:=2) (M:=M) (i:=k) (gu3 (by omega))
  have h2:=iva (l:=nth M k) (i:=n0) (by rw[hrow k (by omega)];omega)
  have h3:(ivs (pn P))[k]? =some (.v (.int .i64 p)):=iat (by unfold pn;rw[List.getElem?_map,hp];rfl)
  have h4:=hrow k (by omega)
  have hs:=g52 x p (wf (nth M k) n0)
  have hpl:=im5 P
  rw[i62 ho,setP,←ih,sb5 c130L4.eq_def]
  simp(disch:=first|omega|fail) only[push_cast,seval,vrl,if_pos,if_neg,h1,h2,h3,h4,hs,hpl]
theorem ub4(hy:y.length=M.length)(hMl: ∀r∈M,r.length=n)(hM0:0<M.length)(hn0:0<n)(hMn:M.length≤500)(hN:n≤900):
 o24 W 130 [.x (.int .i64 q), .fz b (.sl nl 0 1 (lvs nr (M.map vs))), .fz b' (.sl nl' 0 1 (ivs (vs y)))] []=match solR n M y with
  |none=>some (.tup [.x (.slice none 0 0), .x (.bool false)],[],[])
  |some x=>some (.tup [.own 0 [], .x (.bool true)],[.sl 0 3 1 (ivs (vs x))],[]):=by
 have e1:=fun ks=>gz1 (b:=b) (b':=b') (nl:=nl) (nl':=nl') (nr:=nr) hy hMl hn0 hMn hN M.length 0 (by omega) ks
 rw[List.take_zero,List.nil_append]at e1
 simp only[Int.natCast_zero]at e1
 have haug:=b28 hy
 obtain⟨N',P,I,e2⟩:=wh0 (n:=n+1) (n0:=n) (M0:=augL M y) (R:=M.length) haug hM0 (by omega) (by omega) (by omega) n 0 (augL M y) [] (by omega) (RedI.start (a86 hMl))
 obtain⟨s1,s2⟩:=z55 hMl hy I
 have hNl:N'.length=M.length:=by rw[I.len,haug]
 have hrow: ∀k,k<M.length→(nth N' k).length=n+1:=fun k hk=>I.len_nth (by omega)
 have hpl:=I.pl
 have e3:=fun ks=>rm1 (M:=N') (P:=P) (n0:=n) hNl (by omega) hrow (by omega) (by omega) (M.length-P.length) 0 (by omega) ks
 have e4:=fun ks=>u45 (M:=N') (P:=P) (n0:=n) hNl (by omega) hrow (by omega) (by omega) (fun p hp=>I.lt p hp) P.length 0 (List.replicate n 0) (by omega) (by simp) ks
 rw[List.drop_zero]at e4
 simp only[Int.natCast_zero,Nat.add_zero]at e3 e4
 have hnil:ivs (pn [])=[]:=rfl
 rw[hnil]at e2
 simp only[Int.natCast_zero]at e2
 obtain⟨r0,hr0⟩:=ge6 (l:=M) (i:=0) hM0
 have h0:=mva (nl:=nr) hr0
 have hr0l:=hMl r0 (List.mem_of_getElem? hr0)
 have hz:=fc2 M.length
 have hz2:List.replicate n (0:Int)=vs (List.replicate n (0:El q)):=by rw[←qj2];rfl
 have hpnl:=im5 P
 have hsub:((M.length:Int)-(P.length:Int)).toNat=M.length-P.length:=by omega
 rw[o10 rfl T130 rfl]
 unfold F130 c130
 simp(disch:=first|omega|fail) only[push_cast,seval,vrl,if_pos,if_neg,h0,hr0l,hz]
 rw[e1]
 simp(disch:=first|omega|fail) only[push_cast,seval,vrl,if_pos,if_neg]
 rw[e2]
 simp(disch:=first|omega|fail) only[push_cast,seval,vrl,if_pos,if_neg,hpnl,hNl,hsub]
 rw[e3]
 have hiff:((N'.drop P.length).any fun r=> !decide ((wf r n).v=0))=true↔ ∃k,P.length≤k∧k<N'.length∧wf (nth N' k) n≠0:=by
  rw[List.any_eq_true]
  constructor
  ·rintro⟨r,hr,hne⟩
   obtain⟨i,hi⟩:=List.getElem?_of_mem hr
   rw[List.getElem?_drop]at hi
   refine⟨P.length+i,by omega,(List.getElem?_eq_some_iff.1 hi).1,fun e=> ?_⟩
   rw[xr8 hi]at e
   rw[decide_eq_true (r57.2 e)]at hne
   cases hne
  ·rintro⟨k,k1,k2,k3⟩
   refine⟨nth N' k,List.mem_of_getElem? (i:=k-P.length) (by rw[List.getElem?_drop,show P.length+(k-P.length)=k by omega,gu3 k2]), ?_⟩
   rw[decide_eq_false fun e=>k3 (r57.1 e)];rfl
 by_cases hex:((N'.drop P.length).any fun r=> !decide ((wf r n).v=0))=true
 ·rw[if_pos hex,s1 (hiff.1 hex)]
 ·rw[if_neg hex,s2 fun h=>hex (hiff.2 h)]
  simp(disch:=first|omega|fail) only[push_cast,seval,vrl,if_pos,if_neg,hz2,hpnl]
  rw[e4]
  simp(disch:=first|omega|fail) only[push_cast,seval,vrl,if_pos,if_neg]
end
section
variable {q:Int} {b b':Bool} {nl nl' nr e:Nat}
theorem kd4 [IsFld q](v:Int):o24 W 129 [.x (.int .i64 v), .fz b (.pt e [pF q])] []=some (.x (.bool (!fok q v)),[],[]):=by
 rw[o10 rfl T129 rfl]
 unfold F129 c129
 simp(disch:=first|omega|fail) only[push_cast,seval,vrl,if_pos,if_neg]
theorem zx6 [IsFld q]{M:List (List (El q))}{y:List (El q)}{n:Nat}(hy:y.length=M.length)(h0:0<M.length)(hl:M.length≤64)(hr: ∀r∈M,r.length=n)(hn0:0<n)(hn:n≤64):
 o24 W 95 [.x (.int .i64 q), .fz b (.sl nl 0 1 (lvs nr (M.map vs))), .fz b' (.sl nl' 0 1 (ivs (vs y)))] []=match solR n M y with
  |none=>some (.tup [.x (.slice none 0 0), .x (.bool false), .x (.int .i64 0)],[],[])
  |some x=>some (.tup [.own 0 [], .x (.bool true), .x (.int .i64 0)],[.sl 0 3 1 (ivs (vs x))],[]):=by
 have h1:=sy6 hl hr hn0 hn
 have e1:=fun b nl nr=>or9 (q:=q) (M:=M.map vs) (b:=b) (nl:=nl) (nr:=nr)
 simp only[h1]at e1
 have hf:=fun bl nl b e=>eg0 (nl:=nl) (l:=vs y) (bl:=bl) (k:=129) (b:=b) (t:= .pt e [pF q]) kd4 rfl (by rw[fi2];omega)
 have hany:((vs y).any fun v=> !fok q v)=false:=List.any_eq_false.2 fun z hz=>by
  obtain⟨x,_,rfl⟩:=List.mem_map.1 hz
  rw[x.ok];decide
 simp only[hany]at hf
 have e2:=fun b nl nr b' nl'=>ub4 (b:=b) (nl:=nl) (nr:=nr) (b':=b') (nl':=nl') hy hr h0 hn0 (by omega) (by omega)
 rw[o10 rfl T95 rfl]
 unfold F95 c95
 cases hs:solR n M y with
 |none=>
  simp only[hs]at e2
  simp(disch:=first|omega|fail) only[push_cast,seval,vrl,if_pos,if_neg,e1,hf,e2,hy]
 |some x=>
  simp only[hs]at e2
  simp(disch:=first|omega|fail) only[push_cast,seval,vrl,if_pos,if_neg,e1,hf,e2,hy]
end
section
variable {α:Type} {n:Nat}
end
section
variable {q:Int} [IsFld q] {b b':Bool} {nl nl' nr:Nat} {M:List (List (El q))} {n:Nat}
end
section
variable {q:Int} {b b':Bool} {nl nl' nr e:Nat}
end
end Go.Proofs.YtmhbpecdpiapgaaGreat
namespace Go.Alg
section
variable {K:Type} [FK K]
end
end Go.Alg
namespace Go.Proofs.YtmhbpecdpiapgaaGreat
open Go.Am Go.Vm Go.Alg
section
variable {q:Int} [h:IsFld q]
theorem mc5(x:El q): ∀n:Nat,(pw x n).v=powI q x.v n
 |0=>rfl
 |n+1=>by rw[pw,ym6,mc5 x n,powI]
theorem v_pw(x:El q)(n:Nat):fpow q x.v n=(pw x n).v:=by
 obtain⟨p,m,g,mod,hn⟩:=h.ok
 obtain⟨hf,t,_⟩:=jj8 hn
 rw[mc5]
 cases n with
 |zero=>
  rw[fpow,x.ok]
  show(bif !true||((x.v==0)&&decide (((0:Nat):Int)<0))then _ else _)=_
  rw[decide_eq_false (by omega),Bool.and_false];rfl
 |succ n=>exact(v22 t hf.q2 ⟨x.lo,x.hi⟩ (n+1) (by omega)).symm
theorem xe7{K:Type} [FK K](n:Nat)(f:Nat→K):ofF (n+1) f=ofF n f++[f n]:=by
 unfold ofF;rw[List.range_succ,List.map_append];rfl
end
section
variable {q:Int} [IsFld q] {b b':Bool} {nl nl':Nat} {P:List (El q×El q)} {k:Nat}
end
section
variable {q n:Int} [IsFld q] {k d:Nat} {b b':Bool} {nl nl' e:Nat}
def pwL(x:El q)(m:Nat):List (El q):=ofF m fun i=>pw x i
theorem bg9{x:El q}{m:Nat}(hm:m≤100): ∀(c i:Nat),i+c=m→ ∀ks,
 vgoL W ⟨h44,[.tmp 6],0⟩ [1,7,9,19,20] c44L0 (.blk 0 [9]::ks) [(1, .x (.int .i64 x.v)),(7, .fz true (pF q)),(9, .own 0 []),(19, .x (.int .i64 m)),(20, .x (.int .i64 i))] [.sl 1 3 1 (ivs (vs (pwL x i)))]=
  vgo W ⟨h44,[.tmp 6],0⟩ ks (VFr.of [(9, .own 0 [])]) [.sl 1 3 1 (ivs (vs (pwL x m)))]
 |0,i,hi,ks=>by
  obtain rfl:i=m:=by omega
  rw[sb5 c44L0.eq_def]
  simp(disch:=first|omega|fail) only[push_cast,seval,vrl,if_pos,if_neg]
 |c+1,i,hi,ks=>by
  have ih:=bg9 (x:=x) hm c (i+1) (by omega) ks
  have hpw:=v_pw x i
  have hl:=gh0 i fun i=>pw x i
  unfold pwL at ih⊢
  rw[Int.natCast_add,Int.natCast_one,xe7,gq8,show vs [pw x i]=[(pw x i).v]from rfl]at ih
  rw[←ih,sb5 c44L0.eq_def]
  generalize ofF i (fun i=>pw x i)=Z at*
  simp(disch:=first|omega|fail) only[push_cast,seval,vrl,if_pos,if_neg,hpw,hl]
theorem ey7{x:El q}{m:Nat}(hm:m≤100):o24 W 44 [.fz b (plT e q n k d), .x (.int .i64 x.v), .x (.int .i64 m)] []=some (.own 0 [],[.sl 1 3 1 (ivs (vs (pwL x m)))],[]):=by
 have e1:=fun ks=>bg9 (x:=x) hm m 0 (by omega) ks
 simp only[Int.natCast_zero,show vs (pwL x 0)=[]from rfl,show ivs []=[]from rfl]at e1
 unfold plT
 rw[o10 rfl T44 rfl]
 unfold F44 c44
 simp(disch:=first|omega|fail) only[push_cast,seval,vrl,if_pos,if_neg]
 rw[e1]
 simp(disch:=first|omega|fail) only[push_cast,seval,vrl,if_pos,if_neg]
end
def bu7(k d i j:Nat):Int:=if k≤min i j then-1 else if max i j<k then((min i j*k-min i j*(min i j-1)/2+max i j-min i j:Nat):Int)else((k*(k+1)/2+min i j*(d-k)+max i j-k:Nat):Int)
section
variable {q n:Int} {k d:Nat} {b b':Bool} {nl nl' e:Nat}
theorem cx4(i j:Nat):List.foldl (mm false) (i:Int) [(j:Int)]=((min i j:Nat):Int):=by
 show(if(j:Int)<(i:Int)then(j:Int)else(i:Int))=_
 split<;>omega
theorem fy9(i j:Nat):List.foldl (mm true) (i:Int) [(j:Int)]=((max i j:Nat):Int):=by
 show(if(i:Int)<(j:Int)then(j:Int)else(i:Int))=_
 split<;>omega
theorem kc6(h:PlanOK q n k d){i j:Nat}(hi:i<d)(hj:j<d)(g1:k≤min i j):o24 W 88 [.fz b (plT e q n k d), .x (.int .i64 i), .x (.int .i64 j)] []=some (.x (.int .i64 (bu7 k d i j)),[],[]):=by
 have h1:=h.n16
 have h2:=h.kd
 have h3:=h.dn
 have m1:=cx4 i j
 have m2:=fy9 i j
 have m3:min i j≤max i j:=by omega
 have m4:max i j<d:=by omega
 unfold plT bu7
 rw[o10 rfl T88 rfl]
 unfold F88 c88
 generalize min i j=a at*
 generalize max i j=c at*
 have g1':(k:Int)≤(a:Int):=by omega
 rw[if_pos g1]
 simp(disch:=first|omega|fail) only[push_cast,seval,vrl,if_pos,if_neg,m1,m2,nl4 g1']
theorem vh0(h:PlanOK q n k d){i j:Nat}(hi:i<d)(hj:j<d)(g1: ¬k≤min i j)(g2:max i j<k):o24 W 88 [.fz b (plT e q n k d), .x (.int .i64 i), .x (.int .i64 j)] []=some (.x (.int .i64 (bu7 k d i j)),[],[]):=by
 have h1:=h.n16
 have h2:=h.kd
 have h3:=h.dn
 have m1:=cx4 i j
 have m2:=fy9 i j
 have m3:min i j≤max i j:=by omega
 have m4:max i j<d:=by omega
 unfold plT bu7
 rw[o10 rfl T88 rfl]
 unfold F88 c88
 generalize min i j=a at*
 generalize max i j=c at*
 have g1': ¬(k:Int)≤(a:Int):=by omega
 rw[if_neg g1]
 have g2':(c:Int)<(k:Int):=by omega
 have b1:a*k≤16*16:=Nat.mul_le_mul (by omega) (by omega)
 have b2:a*(a-1)≤a*k:=Nat.mul_le_mul_left _ (by omega)
 have e1:(a:Int)*(k:Int)=((a*k:Nat):Int):=(Int.natCast_mul ..).symm
 have e2:(a:Int)*((a:Int)-1)=((a*(a-1):Nat):Int):=by
  cases a with
  |zero=>simp
  |succ a=>rw[Int.natCast_mul,Int.ofNat_sub (by omega)];rfl
 have e3:((a*(a-1):Nat):Int).tdiv 2=((a*(a-1)/2:Nat):Int):=by rw[Int.tdiv_eq_ediv_of_nonneg (by omega)];omega
 rw[if_pos g2]
 generalize a*k=A at*
 generalize a*(a-1)=B at*
 have e4:(A:Int)-((B/2:Nat):Int)+(c:Int)-(a:Int)=((A-B/2+c-a:Nat):Int):=by omega
 have b3:B/2≤256:=by omega
 generalize B/2=C at*
 have f1:=qc6 (Int.not_le.1 g1')
 have f2:=dec_lt g2'
 have b4:(A:Int)≤256:=by omega
 have b5:(B:Int)≤256:=by omega
 have b6:(c:Int)≤16:=by omega
 have b7:(a:Int)≤16:=by omega
 generalize (A-C+c-a)=R at*
 clear g1 g1' g2 g2' b1 b2 m3 m4 h1 h2 h3 h hi hj
 simp(disch:=first|omega|fail) only[push_cast,seval,vrl,if_pos,if_neg,m1,m2,f1,f2,e1,e2,e3,e4]
theorem p65(h:PlanOK q n k d){i j:Nat}(hi:i<d)(hj:j<d)(g1: ¬k≤min i j)(g2: ¬max i j<k):o24 W 88 [.fz b (plT e q n k d), .x (.int .i64 i), .x (.int .i64 j)] []=some (.x (.int .i64 (bu7 k d i j)),[],[]):=by
 have h1:=h.n16
 have h2:=h.kd
 have h3:=h.dn
 have m1:=cx4 i j
 have m2:=fy9 i j
 have m3:min i j≤max i j:=by omega
 have m4:max i j<d:=by omega
 unfold plT bu7
 rw[o10 rfl T88 rfl]
 unfold F88 c88
 generalize min i j=a at*
 generalize max i j=c at*
 have g1': ¬(k:Int)≤(a:Int):=by omega
 rw[if_neg g1]
 have g2': ¬(c:Int)<(k:Int):=by omega
 have b1:k*(k+1)≤16*17:=Nat.mul_le_mul (by omega) (by omega)
 have b2:a*(d-k)≤16*16:=Nat.mul_le_mul (by omega) (by omega)
 have e1:(k:Int)*((k:Int)+1)=((k*(k+1):Nat):Int):=by rw[Int.natCast_mul];rfl
 have e2:(a:Int)*((d:Int)-(k:Int))=((a*(d-k):Nat):Int):=by rw[Int.natCast_mul,Int.ofNat_sub h2]
 have e3:((k*(k+1):Nat):Int).tdiv 2=((k*(k+1)/2:Nat):Int):=by rw[Int.tdiv_eq_ediv_of_nonneg (by omega)];omega
 rw[if_neg g2]
 generalize k*(k+1)=A at*
 generalize a*(d-k)=B at*
 have b3:A/2≤256:=by omega
 generalize A/2=C at*
 have e4:(C:Int)+(B:Int)+(c:Int)-(k:Int)=((C+B+c-k:Nat):Int):=by omega
 have f1:=qc6 (Int.not_le.1 g1')
 have f2:=cw6 (Int.not_lt.1 g2')
 have b4:(A:Int)≤272:=by omega
 have b5:(B:Int)≤256:=by omega
 have b6:(c:Int)≤16:=by omega
 have b7:(k:Int)≤16:=by omega
 have b8:0≤(d:Int)-k∧(d:Int)-k≤16:=by omega
 generalize (C+B+c-k)=R at*
 clear g1 g1' g2 g2' b1 b2 m3 m4 h1 h2 h3 h hi hj
 simp(disch:=first|omega|fail) only[push_cast,seval,vrl,if_pos,if_neg,m1,m2,f1,f2,e1,e2,e3,e4]
theorem fm0(h:PlanOK q n k d){i j:Nat}(hi:i<d)(hj:j<d):o24 W 88 [.fz b (plT e q n k d), .x (.int .i64 i), .x (.int .i64 j)] []=some (.x (.int .i64 (bu7 k d i j)),[],[]):=by
 by_cases g1:k≤min i j
 ·exact kc6 h hi hj g1
 ·by_cases g2:max i j<k
  ·exact vh0 h hi hj g1 g2
  ·exact p65 h hi hj g1 g2
def aq0(n:Int)(seen:List Int):List Int→Int
 | []=>0
 |v::r=>if v<0∨n≤v then 10 else if seen.any (fun x=>decide (v=x))then 7 else aq0 n (seen++[v]) r
theorem bt9{l:List Int}(hl:l.length≤1000): ∀(c i:Nat),i+c=l.length→ ∀ks,
 vgoL W ⟨hNo,[.tmp 6],0⟩ [0,1,13,14,15] c91L0 (.blk 0 []::ks) [(0, .fz b (plT e q n k d)),(1, .fz b' (.sl nl 0 1 (ivs l))),(13, .fz b' (.sl nl 0 1 (ivs l))),(14, .x (.int .i64 l.length)),(15, .x (.int .i64 i))] []=
  if aq0 n (l.take i) (l.drop i)=0 then vgo W ⟨hNo,[.tmp 6],0⟩ ks (VFr.of []) []else some (.x (.int .i64 (aq0 n (l.take i) (l.drop i))),[],[])
 |0,i,hi,ks=>by
  rw[oh9 (by omega),aq0,if_pos rfl,sb5 c91L0.eq_def]
  simp(disch:=first|omega|fail) only[push_cast,seval,vrl,if_pos,if_neg]
 |c+1,i,hi,ks=>by
  obtain⟨v,hv⟩:=ge6 (l:=l) (i:=i) (by omega)
  have e1:=iat hv
  have ih:=bt9 hl c (i+1) (by omega) ks
  have e2:=fun bl nl=>o94 (b:=bl) (nl:=nl) (x:=v) (l:=l.take i) (by rw[List.length_take];omega)
  have htk:=u42 l i
  have hti:((i:Int)-0).toNat=i:=by omega
  rw[List.take_add_one,hv,show(some v).toList=[v]from rfl,Int.natCast_add,Int.natCast_one]at ih
  rw[i62 hv,aq0,sb5 c91L0.eq_def]
  unfold plT at*
  by_cases h1:v<0∨n≤v
  ·rw[if_pos h1,if_neg (by decide)]
   by_cases h2:v<0
   ·simp(disch:=first|omega|fail) only[push_cast,seval,vrl,if_pos,if_neg,e1,dec_lt h2]
   ·have h3:n≤v:=by omega
    simp(disch:=first|omega|fail) only[push_cast,seval,vrl,if_pos,if_neg,e1,cw6 (Int.not_lt.1 h2),nl4 h3]
  ·have h2: ¬v<0:=by omega
   have h3: ¬n≤v:=by omega
   rw[if_neg h1]
   cases hc:(l.take i).any (fun x=>decide (v=x))with
   |true=>
    rw[if_pos rfl,if_neg (by decide)]
    simp(disch:=first|omega|fail) only[push_cast,seval,vrl,if_pos,if_neg,e1,cw6 (Int.not_lt.1 h2),qc6 (Int.not_le.1 h3),hti,htk,e2,hc]
   |false=>
    rw[if_neg Bool.false_ne_true]
    simp(disch:=first|omega|fail) only[push_cast,seval,vrl,if_pos,if_neg,e1,cw6 (Int.not_lt.1 h2),qc6 (Int.not_le.1 h3),hti,htk,e2,hc]
    exact ih
end
section
variable {q:Int} {b b':Bool} {nl nl' nr nr':Nat}
section
variable [IsFld q] {N:Nat} {P Q:List (List (El q))}
theorem bv3{i k:Nat}{a w:List (El q)}(hk:Q[k]? =some w)(hal:a.length=Q.length)(hwl:w.length=N)(hN:N≤1000)(hQ:Q.length≤1000)(hP:P.length≤1000){V7:Tree}: ∀(d j:Nat) (x:List (El q)),j+d=N→x.length=N→ ∀ks,
 vgoL W ⟨h45,[.tmp 6, .tmp 7],0⟩ [2,9,11,14,16,47,48,49,58,59,60,68,69,70] c45L0 (.blk 4 [2,9,11,14,47,48,49,58,59,60]::ks) [(2, .fz b' (.sl nl' 0 1 (lvs nr' (Q.map vs)))),(9, .fz true (pF q)),(11, .own 0 []),(14, .own 1 []),(16, .x (.int .i64 ((wf a k).v))),(47, .fz b (.sl nl 0 1 (lvs nr (P.map vs)))),(48, .x (.int .i64 P.length)),(49, .x (.int .i64 i)),(58, .fz b (.sl nr 0 1 (ivs (vs a)))),(59, .x (.int .i64 Q.length)),(60, .x (.int .i64 k)),(68, .fz b' (.sl nr' 0 1 (ivs (vs w)))),(69, .x (.int .i64 N)),(70, .x (.int .i64 j))] [V7, .sl 0 3 1 (ivs (vs x))]=
  vgo W ⟨h45,[.tmp 6, .tmp 7],0⟩ ks (VFr.of [(2, .fz b' (.sl nl' 0 1 (lvs nr' (Q.map vs)))),(9, .fz true (pF q)),(11, .own 0 []),(14, .own 1 []),(47, .fz b (.sl nl 0 1 (lvs nr (P.map vs)))),(48, .x (.int .i64 P.length)),(49, .x (.int .i64 i)),(58, .fz b (.sl nr 0 1 (ivs (vs a)))),(59, .x (.int .i64 Q.length)),(60, .x (.int .i64 k))]) [V7, .sl 0 3 1 (ivs (vs (mac (wf a k) w d j x)))]
 |0,j,x,hj,hx,ks=>by
  rw[mac,sb5 c45L0.eq_def]
  simp(disch:=first|omega|fail) only[push_cast,seval,vrl,if_pos,if_neg]
 |d+1,j,x,hj,hx,ks=>by
  have ih:=bv3 (i:=i) hk hal hwl hN hQ hP (V7:=V7) d (j+1) (x.set j (wf x j+wf a k*wf w j)) (by omega) (by rw[List.length_set];exact hx) ks
  have hk':=(List.getElem?_eq_some_iff.1 hk).1
  have h2:=iva (l:=w) (i:=j) (by omega)
  have h3:=iva (l:=x) (i:=j) (by omega)
  rw[Int.natCast_add,Int.natCast_one,←g52,on0,ym6]at ih
  rw[mac,←ih,sb5 c45L0.eq_def]
  simp(disch:=first|omega|fail) only[push_cast,seval,vrl,if_pos,if_neg,h2,h3]
theorem mt5{i:Nat}{a:List (El q)}(hal:a.length=Q.length)(hwl: ∀w∈Q,w.length=N)(hN:N≤1000)(hQ:Q.length≤1000)(hP:P.length≤1000){V7:Tree}: ∀(n k:Nat) (x:List (El q)),k+n=Q.length→x.length=N→ ∀ks,
 vgoL W ⟨h45,[.tmp 6, .tmp 7],0⟩ [2,9,11,14,47,48,49,58,59,60] c45L1 (.blk 2 [2,9,11,14,47,48,49]::ks) [(2, .fz b' (.sl nl' 0 1 (lvs nr' (Q.map vs)))),(9, .fz true (pF q)),(11, .own 0 []),(14, .own 1 []),(47, .fz b (.sl nl 0 1 (lvs nr (P.map vs)))),(48, .x (.int .i64 P.length)),(49, .x (.int .i64 i)),(58, .fz b (.sl nr 0 1 (ivs (vs a)))),(59, .x (.int .i64 Q.length)),(60, .x (.int .i64 k))] [V7, .sl 0 3 1 (ivs (vs x))]=
  vgo W ⟨h45,[.tmp 6, .tmp 7],0⟩ ks (VFr.of [(2, .fz b' (.sl nl' 0 1 (lvs nr' (Q.map vs)))),(9, .fz true (pF q)),(11, .own 0 []),(14, .own 1 []),(47, .fz b (.sl nl 0 1 (lvs nr (P.map vs)))),(48, .x (.int .i64 P.length)),(49, .x (.int .i64 i))]) [V7, .sl 0 3 1 (ivs (vs (prow N a (Q.drop k) k x)))]
 |0,k,x,hk,hx,ks=>by
  rw[List.drop_eq_nil_of_le (by omega),prow,sb5 c45L1.eq_def]
  simp(disch:=first|omega|fail) only[push_cast,seval,vrl,if_pos,if_neg]
 |n+1,k,x,hk,hx,ks=>by
  obtain⟨w,hw⟩:=ge6 (l:=Q) (i:=k) (by omega)
  have hwn:=hwl w (List.mem_of_getElem? hw)
  have ih:=mt5 (i:=i) hal hwl hN hQ hP (V7:=V7) n (k+1) (mac (wf a k) w N 0 x) (by omega) (by rw[ev4];exact hx) ks
  have e:=fun ks=>bv3 (i:=i) (b:=b) (b':=b') (nl:=nl) (nl':=nl') (nr:=nr) (nr':=nr') (a:=a) hw hal hwn hN hQ hP (V7:=V7) N 0 x (by omega) hx ks
  simp only[Int.natCast_zero,List.take_zero,List.drop_zero,rp2,lz6,x25,List.map_nil,List.length_nil]at e
  have h1:=iva (l:=a) (i:=k) (by omega)
  have h2:=mva (nl:=nr') hw
  rw[Int.natCast_add,Int.natCast_one]at ih
  rw[i62 hw,prow,←ih,sb5 c45L1.eq_def]
  simp(disch:=first|omega|fail) only[push_cast,seval,vrl,if_pos,if_neg,h1,h2,hwn]
  rw[e]
  simp(disch:=first|omega|fail) only[push_cast,seval,vrl,if_pos,if_neg]
theorem s66(hPl: ∀a∈P,a.length=Q.length)(hwl: ∀w∈Q,w.length=N)(hQ0:0<Q.length)(hN:N≤1000)(hQ:Q.length≤1000)(hP:P.length≤1000): ∀(n i:Nat),i+n=P.length→ ∀ks,
 vgoL W ⟨h45,[.tmp 6, .tmp 7],0⟩ [2,9,11,47,48,49] c45L2 (.blk 0 [11]::ks) [(2, .fz b' (.sl nl' 0 1 (lvs nr' (Q.map vs)))),(9, .fz true (pF q)),(11, .own 0 []),(47, .fz b (.sl nl 0 1 (lvs nr (P.map vs)))),(48, .x (.int .i64 P.length)),(49, .x (.int .i64 i))] [.sl 1 22 1 (lls 2 (((em6 N P Q).take i).map vs))]=
  vgo W ⟨h45,[.tmp 6, .tmp 7],0⟩ ks (VFr.of [(11, .own 0 [])]) [.sl 1 22 1 (lls 2 ((em6 N P Q).map vs))]
 |0,i,hi,ks=>by
  obtain rfl:i=P.length:=by omega
  rw[List.take_of_length_le (by simp[em6]),sb5 c45L2.eq_def]
  simp(disch:=first|omega|fail) only[push_cast,seval,vrl,if_pos,if_neg]
 |n+1,i,hi,ks=>by
  have ih:=s66 hPl hwl hQ0 hN hQ hP n (i+1) (by omega) ks
  obtain⟨a,ha⟩:=ge6 (l:=P) (i:=i) (by omega)
  obtain⟨w0,hw0⟩:=ge6 (l:=Q) (i:=0) hQ0
  have hw0l:=hwl w0 (List.mem_of_getElem? hw0)
  have hal:=hPl a (List.mem_of_getElem? ha)
  have h0:=mva (nl:=nr') hw0
  have h1:=mva (nl:=nr) ha
  have e:=fun ks=>mt5 (i:=i) (P:=P) (b:=b) (b':=b') (nl:=nl) (nl':=nl') (nr:=nr) (nr':=nr') hal hwl hN hQ hP (V7:= .sl 1 22 1 (lls 2 (((em6 N P Q).take i).map vs))) Q.length 0 (List.replicate N 0) (by omega) (by simp) ks
  have hz:List.replicate N (0:Int)=vs (List.replicate N (0:El q)):=by rw[←qj2];rfl
  simp only[Int.natCast_zero,List.take_zero,List.drop_zero,rp2,lz6,x25,List.map_nil,List.length_nil]at e
  have hs:(em6 N P Q).take (i+1)=(em6 N P Q).take i++[prow N a Q 0 (List.replicate N 0)]:=by
   have:(em6 N P Q)[i]? =some (prow N a Q 0 (List.replicate N 0)):=by unfold em6;rw[List.getElem?_map,ha];rfl
   rw[List.take_add_one,this];rfl
  rw[hs,List.map_append,Int.natCast_add,Int.natCast_one]at ih
  have hpl:(em6 N P Q).length=P.length:=by simp[em6]
  rw[←ih,sb5 c45L2.eq_def]
  simp(disch:=first|omega|fail) only[push_cast,seval,vrl,if_pos,if_neg,h0,h1,hw0l,hz,hal]
  rw[e]
  simp(disch:=first|omega|fail) only[push_cast,seval,vrl,if_pos,if_neg,hpl]
end
theorem t15 [IsFld q]{P Q:List (List (El q))}{N:Nat}(hP0:0<P.length)(hPl: ∀a∈P,a.length=Q.length)(hwl: ∀w∈Q,w.length=N)(hQ0:0<Q.length)(hN0:0<N)(hN:N≤64)(hQ:Q.length≤64)(hP:P.length≤64):
 o24 W 45 [.x (.int .i64 q), .fz b (.sl nl 0 1 (lvs nr (P.map vs))), .fz b' (.sl nl' 0 1 (lvs nr' (Q.map vs)))] []=some (.tup [.own 0 [], .x (.int .i64 0)],[.sl 1 22 1 (lls 2 ((em6 N P Q).map vs))],[]):=by
 have he1:=sy6 hP hPl hQ0 hQ
 have he2:=sy6 hQ hwl hN0 hN
 have hv1:=ru4 hPl
 have hv2:=ru4 hwl
 have e1:=fun b nl nr=>or9 (q:=q) (M:=P.map vs) (b:=b) (nl:=nl) (nr:=nr)
 have e2:=fun b nl nr=>or9 (q:=q) (M:=Q.map vs) (b:=b) (nl:=nl) (nr:=nr)
 obtain⟨a0,ha0⟩:=ge6 (l:=P) (i:=0) hP0
 have h5:=mva (nl:=nr) ha0
 have ha0l:=hPl a0 (List.mem_of_getElem? ha0)
 have e:=fun ks=>s66 (b:=b) (b':=b') (nl:=nl) (nl':=nl') (nr:=nr) (nr':=nr') hPl hwl hQ0 (by omega) (by omega) (by omega) P.length 0 (by omega) ks
 simp only[Int.natCast_zero,List.take_zero,List.drop_zero,rp2,lz6,x25,List.map_nil,List.length_nil]at e
 rw[o10 rfl T45 rfl]
 unfold F45 c45
 simp(disch:=first|omega|fail) only[push_cast,seval,vrl,if_pos,if_neg,e1,e2,he1,he2,h5,ha0l]
 rw[e]
 simp(disch:=first|omega|fail) only[push_cast,seval,vrl,if_pos,if_neg]
end
def ofL{α:Type}(n:Nat)(f:Nat→α):List α:=(List.range n).map f
theorem u35{α:Type}(n:Nat)(f:Nat→α):(ofL n f).length=n:=by simp[ofL]
theorem ap4{α:Type}(n:Nat)(f:Nat→α):ofL (n+1) f=ofL n f++[f n]:=by unfold ofL;rw[List.range_succ,List.map_append];rfl
theorem yi8{q n:Int}{k d:Nat}(h:PlanOK q n k d){i j:Nat}(hi:i<d)(hj:j<d):bu7 k d i j<(h61 k d:Nat):=by
 have h1:=h.k1
 have h2:=h.kd
 unfold bu7 h61
 have m3:min i j≤max i j:=by omega
 have m4:max i j<d:=by omega
 generalize min i j=a at*
 generalize max i j=c at*
 have t1:k*(k+1)/2*2=k*(k+1):=by
  have:k*(k+1)%2=0:=by
   rcases Nat.mod_two_eq_zero_or_one k with h|h
   ·rw[Nat.mul_mod,h];simp
   ·rw[Nat.mul_mod,Nat.add_mod,h]
  omega
 split
 ·omega
 ·split
  ·rename_i g1 g2
   have b1:a*(a-1)/2*2=a*(a-1):=by
    have:a*(a-1)%2=0:=by
     rcases Nat.mod_two_eq_zero_or_one a with h|h
     ·rw[Nat.mul_mod,h];simp
     ·have:(a-1)%2=0:=by omega
      rw[Nat.mul_mod,this];simp
    omega
   obtain⟨t,rfl⟩: ∃t,k=a+1+t:=⟨k-a-1,by omega⟩
   have e1:(a+1+t)*(a+1+t+1)=a*a+3*a+2+2*(a*t)+3*t+t*t:=by
    simp only[Nat.add_mul,Nat.mul_add,Nat.one_mul,Nat.mul_one]
    have:=Nat.mul_comm a t
    omega
   have e2:a*(a+1+t)=a*a+a+a*t:=by simp only[Nat.mul_add,Nat.mul_one]
   have e3:a*(a-1)+a=a*a:=by
    cases a with
    |zero=>rfl
    |succ a=>rw[Nat.add_sub_cancel,Nat.mul_add (a+1) a 1];omega
   have e4:0≤t*t:=Nat.zero_le _
   omega
  ·rename_i g1 g2
   have b1:(a+1)*(d-k)≤k*(d-k):=Nat.mul_le_mul_right _ (by omega)
   rw[Nat.add_mul,Nat.one_mul]at b1
   omega
section
variable {q n:Int} [IsFld q] {k d:Nat} {b b':Bool} {nl nl' e:Nat}
def gg5(F:List (El q))(k d i j:Nat):El q:=if bu7 k d i j<0 then 0 else wf F (bu7 k d i j).toNat
def sqF(F:List (El q))(k d:Nat):List (List (El q)):=ofL d fun i=>ofF d fun j=>gg5 F k d i j
theorem gv1(h:PlanOK q n k d){F:List (El q)}(hF:F.length=h61 k d){i:Nat}(hi:i<d){T0:List Tree}(hT:T0.length=d): ∀(c j:Nat),j+c=d→ ∀ks,
 vgoL W ⟨hNo,[.tmp 4],0⟩ [0,1,5,6,15,16,31,32] c46L0 (.blk 2 [0,1,5,15,16]::ks) [(0, .fz b (plT e q n k d)),(1, .fz b' (.sl nl 0 1 (ivs (vs F)))),(5, .own 0 []),(6, .x (.int .i64 i)),(15, .x (.int .i64 d)),(16, .x (.int .i64 i)),(31, .x (.int .i64 d)),(32, .x (.int .i64 j))] [.sl nl' 22 1 (T0.set i (.sl 2 3 1 (ivs (vs (ofF j (fun j=>gg5 F k d i j)++List.replicate c 0)))))]=
  vgo W ⟨hNo,[.tmp 4],0⟩ ks (VFr.of [(0, .fz b (plT e q n k d)),(1, .fz b' (.sl nl 0 1 (ivs (vs F)))),(5, .own 0 []),(15, .x (.int .i64 d)),(16, .x (.int .i64 i))]) [.sl nl' 22 1 (T0.set i (.sl 2 3 1 (ivs (vs (ofF d fun j=>gg5 F k d i j)))))]
 |0,j,hj,ks=>by
  obtain rfl:j=d:=by omega
  unfold plT
  rw[List.replicate_zero,List.append_nil,sb5 c46L0.eq_def]
  simp(disch:=first|omega|fail) only[push_cast,seval,vrl,if_pos,if_neg]
 |c+1,j,hj,ks=>by
  have ih:=gv1 h hF hi hT c (j+1) (by omega) ks
  have h1:=h.n16
  have h3:=h.dn
  have e1:=fun b e=>fm0 (b:=b) (e:=e) h hi (show j<d by omega)
  have hlt:=yi8 h hi (show j<d by omega)
  have hsz:h61 k d≤1000:=by
   have h2:=h.kd
   have a1:k*(k+1)≤16*17:=Nat.mul_le_mul (by omega) (by omega)
   have a2:k*(d-k)≤16*16:=Nat.mul_le_mul (by omega) (by omega)
   unfold h61;omega
  have g1: ∀x,(T0.set i x)[i]? =some x:=fun x=>List.getElem?_set_self (by omega)
  have g2: ∀x,(T0.set i x).length=d:=fun x=>by rw[List.length_set,hT]
  have hll: ∀z:El q,(vs (ofF j (fun j=>gg5 F k d i j)++z::List.replicate c 0)).length=d:=fun z=>by
   rw[fi2,List.length_append,gh0,List.length_cons,List.length_replicate];omega
  have hset: ∀x z:El q,(vs (ofF j (fun j=>gg5 F k d i j)++z::List.replicate c 0)).set j x.v=vs (ofF j (fun j=>gg5 F k d i j)++x::List.replicate c 0):=fun x z=>by
   rw[g52]
   congr 1
   rw[List.set_append_right _ _ (by rw[gh0];omega),gh0,Nat.sub_self];rfl
  rw[xe7,List.append_assoc,List.singleton_append,Int.natCast_add,Int.natCast_one]at ih
  rw[List.replicate_succ,←ih]
  clear ih
  have hc:gg5 F k d i j=if bu7 k d i j<0 then 0 else wf F (bu7 k d i j).toNat:=rfl
  rw[sb5 c46L0.eq_def]
  unfold plT at*
  generalize bu7 k d i j=a at*
  by_cases ha:a<0
  ·rw[if_pos ha]at hc
   rw[hc]
   have ha': ¬0≤a:=by omega
   simp(disch:=first|omega|fail) only[push_cast,seval,vrl,if_pos,if_neg,e1,qc6 (Int.not_le.1 ha')]
  ·rw[if_neg ha]at hc
   obtain⟨A,rfl⟩: ∃A:Nat,a=A:=⟨a.toNat,by omega⟩
   rw[Int.toNat_natCast]at hc
   have e2:=iva (l:=F) (i:=A) (by omega)
   have ha':(0:Int)≤(A:Int):=by omega
   have hs:=hset (gg5 F k d i j) 0
   have hl0:=hll 0
   rw[hc]at hs⊢
   generalize vs (ofF j (fun j=>gg5 F k d i j)++0::List.replicate c 0)=R0 at*
   simp(disch:=first|omega|fail) only[push_cast,seval,vrl,if_pos,if_neg,e1,nl4 ha',e2,g1,g2,hl0,hs,List.set_set]
end
theorem repN(x:Tree): ∀n:Nat,repT [x] n=List.replicate n x:=by
 intro n
 induction n with
 |zero=>rfl
 |succ n ih=>rw[repT,ih,List.replicate_succ];rfl
section
variable {q n:Int} [IsFld q] {k d:Nat} {b b':Bool} {nl nl' e:Nat}
def sqT(F:List (El q))(k d i c:Nat):List Tree:=lls 2 ((ofL i fun i=>ofF d fun j=>gg5 F k d i j).map vs)++List.replicate c (.sl 2 3 1 [])
theorem d35(F:List (El q))(k d i c:Nat):(sqT F k d i c).length=i+c:=by
 unfold sqT
 rw[List.length_append,qf0,List.length_map,u35,List.length_replicate]
theorem pa1(F:List (El q))(k d i c:Nat):(sqT F k d i (c+1)).set i (.sl 2 3 1 (ivs (vs (ofF d fun j=>gg5 F k d i j))))=sqT F k d (i+1) c:=by
 unfold sqT
 rw[List.set_append_right _ _ (by rw[qf0,List.length_map,u35];omega),qf0,List.length_map,u35,Nat.sub_self,List.replicate_succ,List.set_cons_zero,ap4,List.map_append,←List.singleton_append,←List.append_assoc]
 congr 1
 exact ng3 2 _ _
theorem sm0(h:PlanOK q n k d){F:List (El q)}(hF:F.length=h61 k d): ∀(c i:Nat),i+c=d→ ∀ks,
 vgoL W ⟨hNo,[.tmp 4],0⟩ [0,1,5,15,16] c46L1 (.blk 0 [5]::ks) [(0, .fz b (plT e q n k d)),(1, .fz b' (.sl nl 0 1 (ivs (vs F)))),(5, .own 0 []),(15, .x (.int .i64 d)),(16, .x (.int .i64 i))] [.sl nl' 22 1 (sqT F k d i c)]=
  vgo W ⟨hNo,[.tmp 4],0⟩ ks (VFr.of [(5, .own 0 [])]) [.sl nl' 22 1 (sqT F k d d 0)]
 |0,i,hi,ks=>by
  obtain rfl:i=d:=by omega
  unfold plT
  rw[sb5 c46L1.eq_def]
  simp(disch:=first|omega|fail) only[push_cast,seval,vrl,if_pos,if_neg]
 |c+1,i,hi,ks=>by
  have ih:=sm0 h hF c (i+1) (by omega) ks
  have h1:=h.n16
  have h3:=h.dn
  have hl:=d35 F k d i (c+1)
  rw[hi]at hl
  have hid:i<d:=by omega
  have e1:=fun ks=>gv1 (b:=b) (b':=b') (nl:=nl) (nl':=nl') (e:=e) h hF hid hl d 0 (by omega) ks
  have hz0:vs (ofF 0 (fun j=>gg5 F k d i j)++List.replicate d 0)=List.replicate d (0:Int):=by
   rw[show ofF 0 (fun j=>gg5 F k d i j)=[]from rfl,List.nil_append]
   unfold vs
   rw[List.map_replicate];rfl
  simp only[hz0,Int.natCast_zero,pa1]at e1
  have g1: ∀x,((sqT F k d i (c+1)).set i x)[i]? =some x:=fun x=>List.getElem?_set_self (by omega)
  have g2: ∀x,((sqT F k d i (c+1)).set i x).length=d:=fun x=>by rw[List.length_set,hl]
  rw[Int.natCast_add,Int.natCast_one]at ih
  rw[←ih,sb5 c46L1.eq_def]
  unfold plT at*
  generalize sqT F k d (i+1) c=Z1 at*
  generalize sqT F k d i (c+1)=Z at*
  simp(disch:=first|omega|fail) only[push_cast,seval,vrl,if_pos,if_neg,hl,g1,g2,cs7,List.length_replicate]
  rw[e1]
  simp(disch:=first|omega|fail) only[push_cast,seval,vrl,if_pos,if_neg]
theorem wf7(h:PlanOK q n k d){F:List (El q)}(hF:F.length=h61 k d):
 o24 W 46 [.fz b (plT e q n k d), .fz b' (.sl nl 0 1 (ivs (vs F)))] []=some (.own 0 [],[.sl 0 22 1 (lls 2 ((sqF F k d).map vs))],[]):=by
 have h1:=h.n16
 have h3:=h.dn
 have e1:=fun ks=>sm0 (b:=b) (b':=b') (nl:=nl) (nl':=0) (e:=e) h hF d 0 (by omega) ks
 have hz:sqT F k d 0 d=List.replicate d (.sl 2 3 1 []):=by unfold sqT;rfl
 have hd:sqT F k d d 0=lls 2 ((sqF F k d).map vs):=by unfold sqT sqF;rw[List.replicate_zero,List.append_nil]
 rw[hz,hd]at e1
 simp only[Int.natCast_zero]at e1
 unfold plT at*
 rw[o10 rfl T46 rfl]
 unfold F46 c46
 simp(disch:=first|omega|fail) only[push_cast,seval,vrl,if_pos,if_neg,repN,List.length_replicate]
 rw[e1]
 simp(disch:=first|omega|fail) only[push_cast,seval,vrl,if_pos,if_neg]
def ndE(q:Int) [IsFld q](a:Int):El q:=if h:0≤a∧a<q then⟨a,h.1,h.2⟩else 0
theorem ol8{a:Int}(h:0≤a∧a<q):(ndE q a).v=a:=by unfold ndE;rw[dif_pos h]
def psiF(q:Int) [IsFld q](N d:Nat):List (List (El q)):=ofL N fun i=>pwL (ndE q i) d
theorem ao2{N:Nat}(h:PlanOK q N k d){l:List Int}: ∀(c i:Nat),i+c=N→ ∀ks,
 vgoL W ⟨h14,[.tmp 4, .tmp 5],0⟩ [0,1,6,22,23] c14L0 (.blk 0 [0,1,6]::ks) [(0, .fz b (plT e q N k d)),(1, .fz b' (.sl nl 0 1 (ivs l))),(6, .own 0 []),(22, .x (.int .i64 N)),(23, .x (.int .i64 i))] [.sl 1 22 1 (lls 2 ((psiF q i d).map vs))]=
  vgo W ⟨h14,[.tmp 4, .tmp 5],0⟩ ks (VFr.of [(0, .fz b (plT e q N k d)),(1, .fz b' (.sl nl 0 1 (ivs l))),(6, .own 0 [])]) [.sl 1 22 1 (lls 2 ((psiF q N d).map vs))]
 |0,i,hi,ks=>by
  obtain rfl:i=N:=by omega
  unfold plT
  rw[sb5 c14L0.eq_def]
  simp(disch:=first|omega|fail) only[push_cast,seval,vrl,if_pos,if_neg]
 |c+1,i,hi,ks=>by
  have ih:=ao2 h (l:=l) c (i+1) (by omega) ks
  have h1:=h.n16
  have h2:=h.nq
  have h3:=h.dn
  have hv:=ol8 (q:=q) (a:=(i:Int)) (by omega)
  have e1:=fun b e=>ey7 (q:=q) (n:=(N:Int)) (k:=k) (d:=d) (b:=b) (e:=e) (x:=ndE q i) (m:=d) (by omega)
  rw[hv]at e1
  have hl:((psiF q i d).map vs).length≤100:=by unfold psiF;rw[List.length_map,u35];omega
  have hsn:=ng3 2 ((psiF q i d).map vs) (vs (pwL (ndE q i) d))
  have hss:(psiF q (i+1) d).map vs=(psiF q i d).map vs++[vs (pwL (ndE q i) d)]:=by unfold psiF;rw[ap4,List.map_append];rfl
  rw[hss,Int.natCast_add,Int.natCast_one]at ih
  rw[←ih,sb5 c14L0.eq_def]
  unfold plT at*
  generalize (psiF q i d).map vs=Z at*
  simp(disch:=first|omega|fail) only[push_cast,seval,vrl,if_pos,if_neg,e1,hsn]
end
section
variable {q n:Int} [IsFld q] {k d:Nat} {b b':Bool} {nl nl' e:Nat}
theorem i41(l:List (El q)):((vs l).any fun v=> !fok q v)=false:=by
 rw[List.any_eq_false]
 intro v hv
 obtain⟨x,_,rfl⟩:=List.mem_map.1 hv
 rw[x.ok];decide
theorem size_le{N:Int}(h:PlanOK q N k d):h61 k d≤1000:=by
 have h1:=h.n16
 have h2:=h.kd
 have h3:=h.dn
 have a1:k*(k+1)≤16*17:=Nat.mul_le_mul (by omega) (by omega)
 have a2:k*(d-k)≤16*16:=Nat.mul_le_mul (by omega) (by omega)
 unfold h61;omega
theorem ij9{N:Nat}: ∀r∈psiF q N d,r.length=d:=fun r hr=>by
 unfold psiF ofL at hr
 obtain⟨i,_,rfl⟩:=List.mem_map.1 hr
 exact gh0 ..
theorem hm3{F:List (El q)}: ∀r∈sqF F k d,r.length=d:=fun r hr=>by
 unfold sqF ofL at hr
 obtain⟨i,_,rfl⟩:=List.mem_map.1 hr
 exact gh0 ..
def allF(F:List (El q))(N k d:Nat):List (List (El q)):=em6 d (psiF q N d) (sqF F k d)
theorem vq8{N:Nat}(h:PlanOK q N k d){F:List (El q)}(hF:F.length=h61 k d):
 o24 W 14 [.fz b (plT e q N k d), .fz b' (.sl nl 0 1 (ivs (vs F)))] []=some (.tup [.own 0 [], .x (.int .i64 0)],[.sl 1 22 1 (lls 2 ((allF F N k d).map vs))],[]):=by
 have h1:=h.n16
 have h2:=h.kd
 have h3:=h.dn
 have h4:=h.k1
 have h5:=h.n2
 have hs:=size_le h
 have e1:=fun b e=>bm8 (b:=b) (e:=e) h
 have e2:=fun b b' nl e=>lt7 (q:=q) (n:=(N:Int)) (k:=k) (d:=d) (b:=b) (b':=b') (nl:=nl) (e:=e) (l:=vs F) (by rw[fi2];omega)
 rw[i41]at e2
 have e3:=fun b b' nl ks=>ao2 (b:=b) (b':=b') (nl:=nl) (e:=e) h (l:=vs F) N 0 (by omega) ks
 simp only[Int.natCast_zero,show(psiF q 0 d).map vs=[]from rfl,x25]at e3
 have e4:=fun b b' nl e=>wf7 (b:=b) (b':=b') (nl:=nl) (e:=e) h hF
 have hpl:(psiF q N d).length=N:=u35 ..
 have hql:(sqF F k d).length=d:=u35 ..
 have e5:=fun b b' nl nr nl' nr'=>t15 (q:=q) (b:=b) (b':=b') (nl:=nl) (nr:=nr) (nl':=nl') (nr':=nr') (P:=psiF q N d) (Q:=sqF F k d) (N:=d) (by omega) (by rw[hql];exact ij9) hm3 (by omega) (by omega) (by omega) (by omega) (by omega)
 unfold allF
 generalize (em6 d (psiF q N d) (sqF F k d)).map vs=R at*
 generalize (psiF q N d).map vs=Ps at*
 generalize (sqF F k d).map vs=Sq at*
 unfold plT at*
 rw[o10 rfl T14 rfl]
 unfold F14 c14
 simp(disch:=first|omega|fail) only[push_cast,seval,vrl,if_pos,if_neg,e1,e2,hF,Bool.not_false,Bool.not_true]
 rw[e3]
 simp(disch:=first|omega|fail) only[push_cast,seval,vrl,if_pos,if_neg,e4,e5]
theorem y15{l:List Int}{m:Nat}(hl:l.length≤1000):
 o24 W 91 [.fz b (plT e q n k d), .fz b' (.sl nl 0 1 (ivs l)), .x (.int .i64 m)] []=some (.x (.int .i64 (if l.length=m then aq0 n [] l else 6)),[],[]):=by
 have e1:=fun ks=>bt9 (q:=q) (n:=n) (k:=k) (d:=d) (b:=b) (b':=b') (nl:=nl) (e:=e) hl l.length 0 (by omega) ks
 simp only[Int.natCast_zero,List.take_zero,List.drop_zero]at e1
 rw[o10 rfl T91 rfl]
 unfold F91 c91
 unfold plT at*
 by_cases h:l.length=m
 ·rw[if_pos h]
  subst h
  simp(disch:=first|omega|fail) only[push_cast,seval,vrl,if_pos,if_neg]
  rw[e1]
  by_cases hz:aq0 n [] l=0
  ·rw[if_pos hz,hz]
   simp(disch:=first|omega|fail) only[push_cast,seval,vrl,if_pos,if_neg]
  ·rw[if_neg hz]
 ·rw[if_neg h]
  have h': ¬(l.length:Int)=(m:Int):=by omega
  simp(disch:=first|omega|fail) only[push_cast,seval,vrl,if_pos,if_neg,nb8 h']
end
section
variable {q n:Int} [IsFld q] {k d:Nat} {b b' b2:Bool} {nl nl' nl2 e:Nat}
theorem hn3{x:El q}{m i:Nat}(h:i<m):(pwL x m)[i]? =some (pw x i):=by
 unfold pwL ofF
 rw[List.getElem?_map,List.getElem?_range h];rfl
def hl6(H:List (El q))(x:El q)(m:Nat):El q:=sumN m fun j=>wf H j*pw x j
theorem xn0(H:List (El q))(x:El q)(m:Nat):hl6 H x (m+1)=hl6 H x m+wf H m*pw x m:=cp9 _ _
theorem ih4{H:List (El q)}(hH:H.length=d)(hd:d≤100){x:El q}: ∀(c i:Nat),i+c=d→ ∀ks,
 vgoL W ⟨hNo,[.tmp 6, .tmp 7],0⟩ [1,8,10,48,49,50] c53L0 (.blk 0 [10]::ks) [(1, .fz b' (.sl nl 0 1 (ivs (vs H)))),(8, .fz true (pF q)),(10, .x (.int .i64 (hl6 H x i).v)),(48, .own 0 []),(49, .x (.int .i64 d)),(50, .x (.int .i64 i))] [.sl 1 3 1 (ivs (vs (pwL x d)))]=
  vgo W ⟨hNo,[.tmp 6, .tmp 7],0⟩ ks (VFr.of [(10, .x (.int .i64 (hl6 H x d).v))]) [.sl 1 3 1 (ivs (vs (pwL x d)))]
 |0,i,hi,ks=>by
  obtain rfl:i=d:=by omega
  rw[sb5 c53L0.eq_def]
  simp(disch:=first|omega|fail) only[push_cast,seval,vrl,if_pos,if_neg]
 |c+1,i,hi,ks=>by
  have ih:=ih4 hH hd (x:=x) c (i+1) (by omega) ks
  have e1:=iva (l:=H) (i:=i) (by omega)
  have e2:=iat (show(vs (pwL x d))[i]? =some (pw x i).v by unfold vs;rw[List.getElem?_map,hn3 (by omega)];rfl)
  have hl:(vs (pwL x d)).length=d:=by rw[fi2];exact gh0 ..
  have hlH:(vs H).length=d:=by rw[fi2,hH]
  rw[xn0,on0,ym6,Int.natCast_add,Int.natCast_one]at ih
  rw[←ih,sb5 c53L0.eq_def]
  generalize vs (pwL x d)=Z at*
  generalize hl6 H x i=S at*
  simp(disch:=first|omega|fail) only[push_cast,seval,vrl,if_pos,if_neg,e1,e2,hl,hlH]
theorem sl9{N:Nat}(h:PlanOK q N k d){H:List (El q)}(hH:H.length=d){lost:Int}(l0:0≤lost)(l1:lost<N):
 o24 W 53 [.fz b (plT e q N k d), .fz b' (.sl nl 0 1 (ivs (vs H))), .x (.int .i64 lost)] []=some (.tup [.x (.int .i64 (hl6 H (ndE q lost) d).v), .x (.int .i64 0)],[],[]):=by
 have h1:=h.n16
 have h2:=h.nq
 have h3:=h.dn
 have hv:=ol8 (q:=q) (a:=lost) (by omega)
 have e1:=fun b b' nl e=>lt7 (q:=q) (n:=(N:Int)) (k:=k) (d:=d) (b:=b) (b':=b') (nl:=nl) (e:=e) (l:=vs H) (by rw[fi2];omega)
 rw[i41]at e1
 have e2:=fun b e=>ey7 (q:=q) (n:=(N:Int)) (k:=k) (d:=d) (b:=b) (e:=e) (x:=ndE q lost) (m:=d) (by omega)
 rw[hv]at e2
 have e3:=fun b' nl ks=>ih4 (b':=b') (nl:=nl) hH (by omega) (x:=ndE q lost) d 0 (by omega) ks
 simp only[Int.natCast_zero,show(hl6 H (ndE q lost) 0).v=0 from rfl]at e3
 have hl:(pwL (ndE q lost) d).length=d:=gh0 ..
 have c1: ¬lost<0:=by omega
 have c2: ¬(N:Int)≤lost:=by omega
 unfold plT at*
 rw[o10 rfl T53 rfl]
 unfold F53 c53
 simp(disch:=first|omega|fail) only[push_cast,seval,vrl,if_pos,if_neg,hH,e1,Bool.not_true,Bool.not_false,cw6 (Int.not_lt.1 c1),qc6 (Int.not_le.1 c2),e2,hl]
 rw[e3]
 simp(disch:=first|omega|fail) only[push_cast,seval,vrl,if_pos,if_neg]
def psiL(q:Int) [IsFld q](l:List Int)(d:Nat):List (List (El q)):=l.map fun v=>pwL (ndE q v) d
theorem j66{N:Nat}(h:PlanOK q N k d){l hs:List Int}(hl:l.length≤100)(hl2: ∀v∈l,0≤v∧v<N): ∀(c i:Nat),i+c=l.length→ ∀ks,
 vgoL W ⟨h57,[.tmp 8, .tmp 9],0⟩ [0,3,11,49,50,51] c57L0 (.blk 0 [0,3,11]::ks) [(0, .fz b (plT e q N k d)),(3, .fz b' (.sl nl 0 1 (ivs hs))),(11, .own 0 []),(49, .fz b2 (.sl nl2 0 1 (ivs l))),(50, .x (.int .i64 l.length)),(51, .x (.int .i64 i))] [.sl 1 22 1 (lls 2 ((psiL q (l.take i) d).map vs))]=
  vgo W ⟨h57,[.tmp 8, .tmp 9],0⟩ ks (VFr.of [(0, .fz b (plT e q N k d)),(3, .fz b' (.sl nl 0 1 (ivs hs))),(11, .own 0 [])]) [.sl 1 22 1 (lls 2 ((psiL q l d).map vs))]
 |0,i,hi,ks=>by
  unfold plT
  rw[List.take_of_length_le (by omega),sb5 c57L0.eq_def]
  simp(disch:=first|omega|fail) only[push_cast,seval,vrl,if_pos,if_neg]
 |c+1,i,hi,ks=>by
  have ih:=j66 h (hs:=hs) hl hl2 c (i+1) (by omega) ks
  have h1:=h.n16
  have h2:=h.nq
  have h3:=h.dn
  obtain⟨v,hv⟩:=ge6 (l:=l) (i:=i) (by omega)
  have hvr:=hl2 v (List.mem_of_getElem? hv)
  have e0:=iat hv
  have hvv:=ol8 (q:=q) (a:=v) (by omega)
  have e1:=fun b e=>ey7 (q:=q) (n:=(N:Int)) (k:=k) (d:=d) (b:=b) (e:=e) (x:=ndE q v) (m:=d) (by omega)
  rw[hvv]at e1
  have hll:((psiL q (l.take i) d).map vs).length≤100:=by unfold psiL;rw[List.length_map,List.length_map,List.length_take];omega
  have hsn:=ng3 2 ((psiL q (l.take i) d).map vs) (vs (pwL (ndE q v) d))
  have hss:(psiL q (l.take (i+1)) d).map vs=(psiL q (l.take i) d).map vs++[vs (pwL (ndE q v) d)]:=by unfold psiL;rw[List.take_add_one,hv,List.map_append,List.map_append];rfl
  rw[hss,Int.natCast_add,Int.natCast_one]at ih
  rw[←ih,sb5 c57L0.eq_def]
  unfold plT at*
  generalize (psiL q (l.take i) d).map vs=Z at*
  simp(disch:=first|omega|fail) only[push_cast,seval,vrl,if_pos,if_neg,e0,e1,hsn]
theorem od8{l:List Int}: ∀r∈psiL q l d,r.length=d:=fun r hr=>by
 unfold psiL at hr
 obtain⟨v,_,rfl⟩:=List.mem_map.1 hr
 exact gh0 ..
theorem u14{N:Nat}(h:PlanOK q N k d){l:List Int}{H x:List (El q)}(hl:l.length=d)(hl2: ∀v∈l,0≤v∧v<N)(hs:aq0 N [] l=0){lost:Int}(l0:0≤lost)(l1:lost<N)(hn:(l.any fun y=>decide (lost=y))=false)(hH:H.length=d)(hx:solR d (psiL q l d) H=some x):
 o24 W 57 [.fz b (plT e q N k d), .x (.int .i64 lost), .fz b' (.sl nl 0 1 (ivs l)), .fz b2 (.sl nl2 0 1 (ivs (vs H)))] []=some (.tup [.own 0 [], .x (.int .i64 0)],[.sl 0 3 1 (ivs (vs x))],[]):=by
 have h1:=h.n16
 have h2:=h.kd
 have h3:=h.dn
 have h4:=h.k1
 have e1:=fun b b' nl e=>y15 (q:=q) (n:=(N:Int)) (k:=k) (d:=d) (b:=b) (b':=b') (nl:=nl) (e:=e) (l:=l) (m:=d) (by omega)
 simp only[if_pos hl,hs]at e1
 have e2:=fun bl nl=>o94 (b:=bl) (nl:=nl) (x:=lost) (l:=l) (by omega)
 simp only[hn]at e2
 have e3:=fun b b' nl e=>lt7 (q:=q) (n:=(N:Int)) (k:=k) (d:=d) (b:=b) (b':=b') (nl:=nl) (e:=e) (l:=vs H) (by rw[fi2];omega)
 rw[i41]at e3
 have e4:=fun b b2 nl nl2 e ks=>j66 (b:=b) (b':=b2) (nl:=nl2) (b2:=b') (nl2:=nl) (e:=e) h (l:=l) (hs:=vs H) (by omega) hl2 l.length 0 (by omega) ks
 simp only[Int.natCast_zero,List.take_zero,show(psiL q [] d).map vs=[]from rfl,x25]at e4
 have hpl:(psiL q l d).length=d:=by unfold psiL;rw[List.length_map,hl]
 have e5:=fun b b' nl nr nl'=>zx6 (q:=q) (b:=b) (b':=b') (nl:=nl) (nr:=nr) (nl':=nl') (M:=psiL q l d) (y:=H) (n:=d) (by rw[hpl,hH]) (by omega) (by omega) od8 (by omega) (by omega)
 simp only[hx]at e5
 have c1: ¬lost<0:=by omega
 have c2: ¬(N:Int)≤lost:=by omega
 have hlH:(vs H).length=d:=by rw[fi2,hH]
 unfold plT at*
 rw[o10 rfl T57 rfl]
 unfold F57 c57
 simp(disch:=first|omega|fail) only[push_cast,seval,vrl,if_pos,if_neg,cw6 (Int.not_lt.1 c1),qc6 (Int.not_le.1 c2),e1,e2,e3,hl,hH,Bool.not_true,Bool.not_false]
 rw[hl]at e4
 rw[e4]
 generalize (psiL q l d).map vs=Ps at*
 simp(disch:=first|omega|fail) only[push_cast,seval,vrl,if_pos,if_neg,e5]
end
section
variable {K:Type} [FK K]
theorem kj5(N:Nat)(a:List K): ∀(Q:List (List K)) (k:Nat) (x:List K) (i:Nat),x.length=N→i<N→wf (prow N a Q k x) i=wf x i+sumN Q.length fun j=>wf a (k+j)*wf (nth Q j) i
 | [],k,x,i,hx,hi=>by rw[prow];show _=wf x i+sumN 0 _;rw[wr8,FK.add_zero]
 |w::Q,k,x,i,hx,hi=>by
  rw[prow,kj5 N a Q (k+1) _ i (by rw[ev4];exact hx) hi,ga7 _ _ _ _ _ _ (by omega),if_pos (by omega),List.length_cons,c68,FK.add_assoc]
  congr 2
  exact rc1 fun j _=>by rw[show k+1+j=k+(j+1) by omega];rfl
end
section
variable {q:Int} [IsFld q] {k d N:Nat}
theorem ms5(k d i j:Nat):bu7 k d i j=bu7 k d j i:=by unfold bu7;rw[Nat.min_comm,Nat.max_comm]
theorem eb3(F:List (El q))(i j:Nat):gg5 F k d i j=gg5 F k d j i:=by unfold gg5;rw[ms5]
theorem dv2{m:Nat}{f:Nat→El q}{j:Nat}(hj:j<m):wf (ofF m f) j=f j:=by
 unfold wf ofF;rw[List.getD_eq_getElem?_getD,List.getElem?_map,List.getElem?_range hj];rfl
theorem wi3{α:Type}{m:Nat}{f:Nat→List α}{j:Nat}(hj:j<m):nth (ofL m f) j=f j:=by
 unfold nth ofL;rw[List.getD_eq_getElem?_getD,List.getElem?_map,List.getElem?_range hj];rfl
def rowA(F:List (El q))(N k d:Nat)(v:Nat):List (El q):=nth (allF F N k d) v
theorem xh8{F:List (El q)}{v:Nat}(hv:v<N):(rowA F N k d v).length=d:=by
 unfold rowA allF em6
 rw[t70 (by rw[List.length_map];unfold psiF;rw[u35];exact hv),List.getElem_map,kv3,List.length_replicate]
theorem ux4{F:List (El q)}{v j:Nat}(hv:v<N)(hj:j<d):wf (rowA F N k d v) j=sumN d fun t=>pw (ndE q v) t*gg5 F k d t j:=by
 have hp:v<(psiF q N d).length:=by unfold psiF;rw[u35];exact hv
 have hps:(psiF q N d)[v]=pwL (ndE q v) d:=by rw[←t70 hp];unfold psiF;exact wi3 hv
 unfold rowA allF em6
 rw[t70 (by rw[List.length_map];exact hp),List.getElem_map,kj5 d _ _ _ _ _ (by simp) hj,hps]
 have hz:wf (List.replicate d (0:El q)) j=0:=by unfold wf;rw[List.getD_eq_getElem?_getD,List.getElem?_replicate,if_pos hj];rfl
 have hs:(sqF F k d).length=d:=u35 ..
 rw[hz,zero_add,hs]
 refine rc1 fun t ht=> ?_
 rw[Nat.zero_add]
 unfold pwL sqF
 rw[dv2 ht,wi3 ht,dv2 hj]
theorem ty7{a b:Int}(ha:0≤a∧a<q)(hb:0≤b∧b<q)(h:ndE q a=ndE q b):a=b:=by
 have:=congrArg El.v h
 rwa [ol8 ha,ol8 hb]at this
theorem wz4{l:List Int}(hn:l.Nodup)(hl: ∀v∈l,0≤v∧v<q):(l.map (ndE q)).Nodup:=by
 rw[List.Nodup,List.pairwise_map]
 exact List.Pairwise.imp_of_mem (fun ha hb h e=>h (ty7 (hl _ ha) (hl _ hb) e)) hn
theorem n18{l:List Int}{i:Nat}{v:Int}(hv:l[i]? =some v)(y:List (El q))(hy:y.length≤d):(sumN d fun j=>wf ((psiL q l d).getD i []) j*wf y j)=ev y (ndE q v):=by
 have:(psiL q l d).getD i []=pwL (ndE q v) d:=by unfold psiL;rw[List.getD_eq_getElem?_getD,List.getElem?_map,hv];rfl
 rw[this,tf2 y _ d hy]
 refine rc1 fun j hj=> ?_
 unfold pwL
 rw[dv2 hj,FK.mul_comm]
end
section
variable {q n:Int} [IsFld q] {k d:Nat} {b b' b2:Bool} {nl nl' nl2 nr e n0 n1:Nat}
def rowS(k d:Nat)(x:El q)(j:Nat):Nat→List (El q)
 |0=>List.replicate (h61 k d) 0
 |t+1=>if bu7 k d t j<0 then rowS k d x j t else(rowS k d x j t).set (bu7 k d t j).toNat (wf (rowS k d x j t) (bu7 k d t j).toNat+pw x t)
theorem g14(x:El q)(j:Nat): ∀t,(rowS k d x j t).length=h61 k d
 |0=>List.length_replicate
 |t+1=>by
  rw[rowS]
  split
  ·exact g14 x j t
  ·rw[List.length_set];exact g14 x j t
theorem s71{N:Nat}(h:PlanOK q N k d){x:El q}{j:Nat}(hj:j<d){A B:Tree}{H:List (List Int)}{l w:List Int}{v:Int}{li i lw:Int}: ∀(c t:Nat),t+c=d→ ∀ks,
 vgoL W ⟨h51,[.tmp 6, .tmp 7],0⟩ [0,2,11,13,14,17,18,19,20,67,68,69,84,85,86,94,95,96] c51L1 (.blk 6 [0,2,11,13,14,17,19,20,67,68,69,84,85,86]::ks) [(0, .fz b (plT e q N k d)),(2, .fz b' (.sl nl 0 1 (lvs nr H))),(11, .fz true (pF q)),(13, .own 0 []),(14, .own 1 []),(17, .own 2 []),(18, .x (.int .i64 j)),(19, .x (.int .i64 v)),(20, .own 3 []),(67, .fz b2 (.sl nl2 0 1 (ivs l))),(68, .x (.int .i64 li)),(69, .x (.int .i64 i)),(84, .fz b' (.sl nr 0 1 (ivs w))),(85, .x (.int .i64 lw)),(86, .x (.int .i64 j)),(94, .own 2 []),(95, .x (.int .i64 d)),(96, .x (.int .i64 t))] [A,B, .sl 1 3 1 (ivs (vs (pwL x d))), .sl n0 3 1 (ivs (vs (rowS k d x j t)))]=
  vgo W ⟨h51,[.tmp 6, .tmp 7],0⟩ ks (VFr.of [(0, .fz b (plT e q N k d)),(2, .fz b' (.sl nl 0 1 (lvs nr H))),(11, .fz true (pF q)),(13, .own 0 []),(14, .own 1 []),(17, .own 2 []),(19, .x (.int .i64 v)),(20, .own 3 []),(67, .fz b2 (.sl nl2 0 1 (ivs l))),(68, .x (.int .i64 li)),(69, .x (.int .i64 i)),(84, .fz b' (.sl nr 0 1 (ivs w))),(85, .x (.int .i64 lw)),(86, .x (.int .i64 j))]) [A,B, .sl 1 3 1 (ivs (vs (pwL x d))), .sl n0 3 1 (ivs (vs (rowS k d x j d)))]
 |0,t,ht,ks=>by
  obtain rfl:t=d:=by omega
  unfold plT
  rw[sb5 c51L1.eq_def]
  simp(disch:=first|omega|fail) only[push_cast,seval,vrl,if_pos,if_neg]
 |c+1,t,ht,ks=>by
  have ih:=s71 h (x:=x) hj (A:=A) (B:=B) (H:=H) (l:=l) (w:=w) (v:=v) (li:=li) (i:=i) (lw:=lw) c (t+1) (by omega) ks
  have htd:t<d:=by omega
  have h1:=h.n16
  have h3:=h.dn
  have e1:=fun b e=>fm0 (b:=b) (e:=e) h htd hj
  have e2:=iat (show(vs (pwL x d))[t]? =some (pw x t).v by unfold vs;rw[List.getElem?_map,hn3 htd];rfl)
  have hlt:=yi8 h htd hj
  have hsz:=size_le h
  have hrl:=g14 (k:=k) (d:=d) x j t
  have hpl:(vs (pwL x d)).length=d:=by rw[fi2];exact gh0 ..
  rw[rowS,Int.natCast_add,Int.natCast_one]at ih
  rw[←ih,sb5 c51L1.eq_def]
  clear ih
  generalize vs (pwL x d)=Z at*
  unfold plT at*
  generalize bu7 k d t j=a at*
  by_cases ha:a<0
  ·have ha': ¬0≤a:=by omega
   rw[if_pos ha]
   simp(disch:=first|omega|fail) only[push_cast,seval,vrl,if_pos,if_neg,e1,e2,hpl,qc6 (Int.not_le.1 ha')]
  ·obtain⟨a0,rfl⟩: ∃a0:Nat,a=a0:=⟨a.toNat,by omega⟩
   have ha':(0:Int)≤(a0:Int):=by omega
   rw[if_neg ha,Int.toNat_natCast]
   have e3:=iva (l:=rowS k d x j t) (i:=a0) (by omega)
   have hs:=g52 (rowS k d x j t) a0 (wf (rowS k d x j t) a0+pw x t)
   rw[on0]at hs
   have hrl':(vs (rowS k d x j t)).length=h61 k d:=by rw[fi2,hrl]
   generalize rowS k d x j t=R at*
   simp(disch:=first|omega|fail) only[push_cast,seval,vrl,if_pos,if_neg,e1,e2,hpl,nl4 ha',e3,hs,hrl']
theorem m40{N:Nat}(h:PlanOK q N k d){x:El q}{Wr:List (El q)}(hW:Wr.length=d){H:List (List Int)}{l:List Int}{li:Int}{i:Nat}(hHi:H[i]? =some (vs Wr))(hHl:H.length≤100){Mr:List (List (El q))}{Br:List (El q)}(hMr:Mr.length≤1000)(hBr:Br.length≤1000): ∀(c j:Nat),j+c=d→ ∀ks,
 vgoL W ⟨h51,[.tmp 6, .tmp 7],0⟩ [0,2,11,13,14,17,67,68,69,84,85,86] c51L2 (.blk 4 [0,2,11,13,14,67,68,69]::ks) [(0, .fz b (plT e q N k d)),(2, .fz b' (.sl nl 0 1 (lvs nr H))),(11, .fz true (pF q)),(13, .own 0 []),(14, .own 1 []),(17, .own 2 []),(67, .fz b2 (.sl nl2 0 1 (ivs l))),(68, .x (.int .i64 li)),(69, .x (.int .i64 i)),(84, .fz b' (.sl nr 0 1 (ivs (vs Wr)))),(85, .x (.int .i64 d)),(86, .x (.int .i64 j))] [.sl 1 22 1 (lls 2 ((Mr++ofL j fun j=>rowS k d x j d).map vs)), .sl 1 3 1 (ivs (vs (Br++Wr.take j))), .sl 1 3 1 (ivs (vs (pwL x d)))]=
  vgo W ⟨h51,[.tmp 6, .tmp 7],0⟩ ks (VFr.of [(0, .fz b (plT e q N k d)),(2, .fz b' (.sl nl 0 1 (lvs nr H))),(11, .fz true (pF q)),(13, .own 0 []),(14, .own 1 []),(67, .fz b2 (.sl nl2 0 1 (ivs l))),(68, .x (.int .i64 li)),(69, .x (.int .i64 i))]) [.sl 1 22 1 (lls 2 ((Mr++ofL d fun j=>rowS k d x j d).map vs)), .sl 1 3 1 (ivs (vs (Br++Wr))), .sl 1 3 1 (ivs (vs (pwL x d)))]
 |0,j,hj,ks=>by
  obtain rfl:j=d:=by omega
  unfold plT
  rw[List.take_of_length_le (by omega),sb5 c51L2.eq_def]
  simp(disch:=first|omega|fail) only[push_cast,seval,vrl,if_pos,if_neg]
 |c+1,j,hj,ks=>by
  have ih:=m40 h (x:=x) hW (l:=l) (li:=li) hHi hHl hMr hBr c (j+1) (by omega) ks
  have hjd:j<d:=by omega
  have h1:=h.n16
  have h3:=h.dn
  have hsz:=size_le h
  have e1:=fun b e=>bm8 (b:=b) (e:=e) h
  have e2:=fun A B ks=>s71 (b:=b) (b':=b') (b2:=b2) (nl:=nl) (nl2:=nl2) (nr:=nr) (n0:=0) (e:=e) h (x:=x) hjd (A:=A) (B:=B) (H:=H) (l:=l) (w:=vs Wr) (v:=(wf Wr j).v) (li:=li) (i:=(i:Int)) (lw:=(d:Int)) d 0 (by omega) ks
  have hz0:vs (rowS k d x j 0)=List.replicate (h61 k d) (0:Int):=by
   rw[rowS];unfold vs
   rw[List.map_replicate];rfl
  simp only[hz0,Int.natCast_zero]at e2
  have e3:=iva (l:=Wr) (i:=j) (by omega)
  have hwl:(vs Wr).length=d:=by rw[fi2,hW]
  have hpl:(pwL x d).length=d:=gh0 ..
  have hM:(Mr++ofL (j+1) fun j=>rowS k d x j d).map vs=(Mr++ofL j fun j=>rowS k d x j d).map vs++[vs (rowS k d x j d)]:=by rw[ap4,←List.append_assoc,List.map_append];rfl
  have hMl:((Mr++ofL j fun j=>rowS k d x j d).map vs).length≤2000:=by rw[List.length_map,List.length_append,u35];omega
  have hsn:=ng3 2 ((Mr++ofL j fun j=>rowS k d x j d).map vs) (vs (rowS k d x j d))
  have hWt:Wr.take (j+1)=Wr.take j++[wf Wr j]:=by
   obtain⟨z,hz⟩:=ge6 (l:=Wr) (i:=j) (by omega)
   rw[List.take_add_one,hz]
   have:wf Wr j=z:=by unfold wf;rw[List.getD_eq_getElem?_getD,hz];rfl
   rw[this];rfl
  have hB:vs (Br++Wr.take (j+1))=vs (Br++Wr.take j)++[(wf Wr j).v]:=by rw[hWt,←List.append_assoc,gq8];rfl
  have hBl:(vs (Br++Wr.take j)).length≤2000:=by rw[fi2,List.length_append,List.length_take];omega
  have hbs:=nc5 (vs (Br++Wr.take j)) (wf Wr j).v
  rw[hM,hB,Int.natCast_add,Int.natCast_one]at ih
  rw[←ih,sb5 c51L2.eq_def]
  clear ih hM hB hWt
  unfold plT at*
  generalize (Mr++ofL j fun j=>rowS k d x j d).map vs=Z at*
  generalize vs (Br++Wr.take j)=Y at*
  generalize h61 k d=S at*
  simp(disch:=first|omega|fail) only[push_cast,seval,vrl,if_pos,if_neg,e1,e3,hwl,hpl,cs7]
  rw[e2]
  simp(disch:=first|omega|fail) only[push_cast,seval,vrl,if_pos,if_neg,hsn,hbs]
def rdM(q:Int) [IsFld q](k d:Nat):List Int→List (List (El q))
 | []=>[]
 |v::l=>(ofL d fun j=>rowS k d (ndE q v) j d)++rdM q k d l
theorem xq0: ∀l l':List Int,rdM q k d (l++l')=rdM q k d l++rdM q k d l'
 | [],l'=>rfl
 |v::l,l'=>by rw[List.cons_append,rdM,rdM,xq0 l l',List.append_assoc]
theorem dn4: ∀l:List Int,(rdM q k d l).length=l.length*d
 | []=>by simp[rdM]
 |v::l=>by rw[rdM,List.length_append,u35,dn4 l,List.length_cons,Nat.add_mul,Nat.one_mul,Nat.add_comm]
theorem nf0{Hs:List (List (El q))}(hr: ∀r∈Hs,r.length=d):Hs.flatten.length=Hs.length*d:=by
 induction Hs with
 |nil=>simp
 |cons r t ih=>
  rw[List.flatten_cons,List.length_append,hr r (by simp),ih (fun x hx=>hr x (by simp[hx])),List.length_cons,Nat.add_mul,Nat.one_mul,Nat.add_comm]
theorem ya9{N:Nat}(h:PlanOK q N k d){l:List Int}{Hs:List (List (El q))}(hl:l.length≤16)(hHl:Hs.length=l.length)(hr: ∀r∈Hs,r.length=d)(hl2: ∀v∈l,0≤v∧v<N): ∀(c i:Nat),i+c=l.length→ ∀ks,
 vgoL W ⟨h51,[.tmp 6, .tmp 7],0⟩ [0,2,11,13,14,67,68,69] c51L3 (.blk 2 [0,11,13,14]::ks) [(0, .fz b (plT e q N k d)),(2, .fz b' (.sl nl 0 1 (lvs nr (Hs.map vs)))),(11, .fz true (pF q)),(13, .own 0 []),(14, .own 1 []),(67, .fz b2 (.sl nl2 0 1 (ivs l))),(68, .x (.int .i64 l.length)),(69, .x (.int .i64 i))] [.sl 1 22 1 (lls 2 ((rdM q k d (l.take i)).map vs)), .sl 1 3 1 (ivs (vs (Hs.take i).flatten))]=
  vgo W ⟨h51,[.tmp 6, .tmp 7],0⟩ ks (VFr.of [(0, .fz b (plT e q N k d)),(11, .fz true (pF q)),(13, .own 0 []),(14, .own 1 [])]) [.sl 1 22 1 (lls 2 ((rdM q k d l).map vs)), .sl 1 3 1 (ivs (vs Hs.flatten))]
 |0,i,hi,ks=>by
  unfold plT
  rw[List.take_of_length_le (by omega),List.take_of_length_le (by omega),sb5 c51L3.eq_def]
  simp(disch:=first|omega|fail) only[push_cast,seval,vrl,if_pos,if_neg]
 |c+1,i,hi,ks=>by
  have ih:=ya9 h hl hHl hr hl2 c (i+1) (by omega) ks
  have h1:=h.n16
  have h2:=h.nq
  have h3:=h.dn
  obtain⟨v,hv⟩:=ge6 (l:=l) (i:=i) (by omega)
  obtain⟨Wr,hw⟩:=ge6 (l:=Hs) (i:=i) (by omega)
  have hwl:=hr Wr (List.mem_of_getElem? hw)
  have hvr:=hl2 v (List.mem_of_getElem? hv)
  have e0:=iat hv
  have hHi:(Hs.map vs)[i]? =some (vs Wr):=by rw[List.getElem?_map,hw];rfl
  have e6:=lat (nl:=nr) hHi
  have hwl2:(vs Wr).length=d:=by rw[fi2,hwl]
  have hil:i<(Hs.map vs).length:=by rw[List.length_map];omega
  have hvv:=ol8 (q:=q) (a:=v) (by omega)
  have e1:=fun b e=>ey7 (q:=q) (n:=(N:Int)) (k:=k) (d:=d) (b:=b) (e:=e) (x:=ndE q v) (m:=d) (by omega)
  rw[hvv]at e1
  have hb1:(l.take i).length*d≤16*16:=Nat.mul_le_mul (by rw[List.length_take];omega) (by omega)
  have hb2:(Hs.take i).length*d≤16*16:=Nat.mul_le_mul (by rw[List.length_take];omega) (by omega)
  have hML:=dn4 (q:=q) (k:=k) (d:=d) (l.take i)
  have hBL:=nf0 (Hs:=Hs.take i) (d:=d) (fun r h=>hr r (List.mem_of_mem_take h))
  have e2:=fun ks=>m40 (b:=b) (b':=b') (b2:=b2) (nl:=nl) (nl2:=nl2) (nr:=nr) (e:=e) h (x:=ndE q v) (Wr:=Wr) hwl (H:=Hs.map vs) (l:=l) (li:=(l.length:Int)) (i:=i) hHi (by rw[List.length_map];omega) (Mr:=rdM q k d (l.take i)) (Br:=(Hs.take i).flatten) (by omega) (by omega) d 0 (by omega) ks
  simp only[Int.natCast_zero,List.take_zero,List.append_nil,show(ofL 0 fun j=>rowS k d (ndE q v) j d)=[]from rfl]at e2
  have hM:rdM q k d (l.take (i+1))=rdM q k d (l.take i)++ofL d fun j=>rowS k d (ndE q v) j d:=by
   rw[List.take_add_one,hv,xq0]
   congr 1
   show(ofL d fun j=>rowS k d (ndE q v) j d)++[]=_
   rw[List.append_nil]
  have hB:(Hs.take (i+1)).flatten=(Hs.take i).flatten++Wr:=by
   rw[List.take_add_one,hw,List.flatten_append]
   congr 1
   show([Wr]:List (List (El q))).flatten=_
   simp
  rw[hM,hB,Int.natCast_add,Int.natCast_one]at ih
  rw[←ih,sb5 c51L3.eq_def]
  clear ih hM hB
  unfold plT at*
  generalize (rdM q k d (l.take i)++ofL d fun j=>rowS k d (ndE q v) j d).map vs=Z1 at*
  generalize vs ((Hs.take i).flatten++Wr)=Y1 at*
  generalize (rdM q k d (l.take i)).map vs=Z at*
  generalize vs (Hs.take i).flatten=Y at*
  simp(disch:=first|omega|fail) only[push_cast,seval,vrl,if_pos,if_neg,e0,e1,e6,hil,hwl2,hwl]
  rw[e2]
  simp(disch:=first|omega|fail) only[push_cast,seval,vrl,if_pos,if_neg]
end
section
variable {K:Type} [FK K]
theorem ep0{n a:Nat}{l:List K}(hl:l.length=n)(ha:a<n)(c:K)(f:Nat→K):(sumN n fun s=>wf (l.set a (wf l a+c)) s*f s)=(sumN n fun s=>wf l s*f s)+c*f a:=by
 have h1: ∀s,wf (l.set a (wf l a+c)) s=wf l s+(if s=a then c else 0):=fun s=>by
  unfold wf
  rw[List.getD_eq_getElem?_getD,List.getElem?_set]
  by_cases h:a=s
  ·subst h
   rw[if_pos rfl,if_pos (by omega),if_pos rfl];rfl
  ·rw[if_neg h,if_neg (fun e=>h e.symm),FK.add_zero,List.getD_eq_getElem?_getD]
 have h2:(sumN n fun s=>wf (l.set a (wf l a+c)) s*f s)=sumN n fun s=>wf l s*f s+(if s=a then c else 0)*f s:=rc1 fun s _=>by rw[h1,add_mul]
 rw[h2,pv3]
 congr 1
 rw[xq2 ha fun s _ hs=>by rw[if_neg hs,zero_mul],if_pos rfl]
end
section
variable {q:Int} [IsFld q] {k d N:Nat}
theorem ur5(h:PlanOK q N k d){G:List (El q)}{x:El q}{j:Nat}(hj:j<d): ∀t,t≤d→(sumN (h61 k d) fun s=>wf (rowS k d x j t) s*wf G s)=sumN t fun i=>pw x i*gg5 G k d i j
 |0,_=>by
  rw[wr8]
  refine ja4 fun s hs=> ?_
  rw[rowS]
  have:wf (List.replicate (h61 k d) (0:El q)) s=0:=by unfold wf;rw[List.getD_eq_getElem?_getD,List.getElem?_replicate,if_pos hs];rfl
  rw[this,zero_mul]
 |t+1,ht=>by
  have ih:=ur5 h (G:=G) (x:=x) hj t (by omega)
  have hlt:=yi8 h (show t<d by omega) hj
  rw[cp9,rowS]
  unfold gg5 at*
  by_cases ha:bu7 k d t j<0
  ·rw[if_pos ha,if_pos ha,mul_zero,FK.add_zero]
   exact ih
  ·rw[if_neg ha,if_neg ha,ep0 (g14 x j t) (by omega),ih]
def triS(k:Nat):Nat→Nat
 |0=>0
 |i+1=>triS k i+(k-i)
theorem tt3(k:Nat): ∀i,i≤k→2*triS k i+i*i=2*(i*k)+i
 |0,_=>by simp[triS]
 |i+1,h=>by
  have ih:=tt3 k i (by omega)
  rw[triS]
  have e1:(i+1)*(i+1)=i*i+2*i+1:=by rw[Nat.add_mul,Nat.mul_add];omega
  have e2:(i+1)*k=i*k+k:=by rw[Nat.add_mul,Nat.one_mul]
  omega
theorem jq1(k s:Nat): ∀m,s<triS k m→ ∃i,i<m∧triS k i≤s∧s<triS k i+(k-i)
 |0,h=>by rw[triS]at h;omega
 |m+1,h=>by
  by_cases hm:s<triS k m
  ·obtain⟨i,h1,h2⟩:=jq1 k s m hm
   exact⟨i,by omega,h2⟩
  ·rw[triS]at h
   exact⟨m,by omega,by omega,by omega⟩
theorem jj0(hkd:k≤d){s:Nat}(hs:s<h61 k d): ∃i j,i<k∧j<d∧bu7 k d i j=(s:Nat):=by
 have ht:=tt3 k k (Nat.le_refl k)
 have hk2:k*(k+1)=k*k+k:=by rw[Nat.mul_add,Nat.mul_one]
 by_cases h:s<k*(k+1)/2
 ·obtain⟨i,h1,h2,h3⟩:=jq1 k s k (by omega)
  have hi:=tt3 k i (by omega)
  refine⟨i,s-triS k i+i,h1,by omega, ?_⟩
  have hij:i≤s-triS k i+i:=by omega
  have hlt:s-triS k i+i<k:=by omega
  unfold bu7
  rw[Nat.min_eq_left hij,Nat.max_eq_right hij,if_neg (by omega),if_pos hlt]
  have e3:i*(i-1)+i=i*i:=by
   cases i with
   |zero=>rfl
   |succ i=>rw[Nat.add_sub_cancel,Nat.mul_add (i+1) i 1];omega
  have e4:i*(i-1)/2*2=i*(i-1):=by
   have:i*(i-1)%2=0:=by
    rcases Nat.mod_two_eq_zero_or_one i with h|h
    ·rw[Nat.mul_mod,h];simp
    ·have:(i-1)%2=0:=by omega
     rw[Nat.mul_mod,this];simp
   omega
  omega
 ·unfold h61 at hs
  have hdk:0<d-k:=by
   rcases Nat.eq_zero_or_pos (d-k)with h0|h0
   ·rw[h0,Nat.mul_zero]at hs;omega
   ·exact h0
  obtain⟨r,hr⟩: ∃r,r=s-k*(k+1)/2:=⟨_,rfl⟩
  have hrk:r/(d-k)<k:=(Nat.div_lt_iff_lt_mul hdk).2 (by omega)
  have hm:=Nat.mod_lt r hdk
  have hdm:=Nat.div_add_mod r (d-k)
  refine⟨r/(d-k),k+r%(d-k),hrk,by omega, ?_⟩
  unfold bu7
  rw[Nat.min_eq_left (by omega),Nat.max_eq_right (by omega),if_neg (by omega),if_neg (by omega)]
  rw[Nat.mul_comm]at hdm
  omega
theorem v81{G:List (El q)}{i j:Nat}(hi:k≤i)(hj:k≤j):gg5 G k d i j=0:=by
 unfold gg5 bu7
 rw[if_pos (show k≤min i j by omega),if_pos (by decide)]
theorem ba1(h:PlanOK q N k d){l:List Int}(hn:l.Nodup)(hlk:l.length=k)(hl: ∀v∈l,0≤v∧v<N){G:List (El q)}(hG:G.length=h61 k d)(hz: ∀v∈l,∀j,j<d→(sumN d fun i=>pw (ndE q v) i*gg5 G k d i j)=0): ∀s,wf G s=0:=by
 have hnq:=h.nq
 have hkd:=h.kd
 have key: ∀j,j<d→(∀i,k≤i→i<d→gg5 G k d i j=0)→ ∀i,i<k→gg5 G k d i j=0:=fun j hj h0 i hi=>by
  have hw:wf (ofF k fun i=>gg5 G k d i j)=fun _=>0:=by
   refine u24 (xs:=l.map (ndE q)) (wz4 hn fun v hv=>by have:=hl v hv;omega) (fun t ht=>ez8 (by rw[gh0];rw[List.length_map]at ht;omega)) fun x hx=> ?_
   obtain⟨v,hv,rfl⟩:=List.mem_map.1 hx
   rw[uo7]
   have:=hz v hv j hj
   rw[jq8 hkd fun t h1 h2=>by rw[h0 t h1 h2,mul_zero]]at this
   rw[←this]
   exact rc1 fun t _=>FK.mul_comm _ _
  have:=congrFun hw i
  rwa [dv2 hi]at this
 have far: ∀i j,i<k→k≤j→j<d→gg5 G k d i j=0:=fun i j hi hj hjd=>key j hjd (fun t ht _=>v81 ht hj) i hi
 have all: ∀i j,i<k→j<d→gg5 G k d i j=0:=fun i j hi hj=>by
  by_cases hjk:k≤j
  ·exact far i j hi hjk hj
  ·exact key j hj (fun t ht htd=>by rw[eb3];exact far j t (by omega) ht htd) i hi
 intro s
 by_cases hs:s<h61 k d
 ·obtain⟨i,j,hi,hj,hp⟩:=jj0 hkd hs
  have:=all i j hi hj
  unfold gg5 at this
  rw[hp,if_neg (by omega),Int.toNat_natCast]at this
  exact this
 ·exact ez8 (by omega)
end
section
variable {q:Int} [IsFld q] {k d N:Nat} {b b' b2:Bool} {nl nl2 nr e:Nat} {l:List Int} {Hs:List (List (El q))}
theorem p58: ∀{l:List Int} {m:List (El q)},m∈rdM q k d l↔ ∃v∈l,∃j,j<d∧m=rowS k d (ndE q v) j d
 | [],m=>by simp[rdM]
 |v::l,m=>by
  rw[rdM,List.mem_append,p58]
  unfold ofL
  constructor
  ·rintro(h|⟨w,hw,h⟩)
   ·obtain⟨j,hj,rfl⟩:=List.mem_map.1 h
    exact⟨v,by simp,j,List.mem_range.1 hj,rfl⟩
   ·exact⟨w,by simp[hw],h⟩
  ·rintro⟨w,hw,j,hj,rfl⟩
   rcases List.mem_cons.1 hw with rfl|hw
   ·exact .inl (List.mem_map.2 ⟨j,List.mem_range.2 hj,rfl⟩)
   ·exact .inr ⟨w,hw,j,hj,rfl⟩
theorem kp3: ∀m∈rdM q k d l,m.length=h61 k d:=fun m hm=>by
 obtain⟨v,_,j,_,rfl⟩:=p58.1 hm
 exact g14 ..
theorem b25(h:PlanOK q N k d)(hn:l.Nodup)(hlk:l.length=k)(hl: ∀v∈l,0≤v∧v<N): ∀x:Nat→El q,(∀m∈rdM q k d l,(sumN (h61 k d) fun j=>wf m j*x j)=0)→ ∀j,j<h61 k d→x j=0:=fun x hx j hj=>by
 have hz:=ba1 h hn hlk hl (G:=ofF (h61 k d) x) (gh0 ..) (fun v hv i hi=>by
  rw[←ur5 h (G:=ofF (h61 k d) x) hi d (Nat.le_refl d)]
  have:=hx _ (p58.2 ⟨v,hv,i,hi,rfl⟩)
  rw[←this]
  exact rc1 fun s hs=>by rw[dv2 hs]) j
 rwa [dv2 hj]at hz
theorem v75(hHl:Hs.length≤100)(hr: ∀r∈Hs,r.length=d)(hd:d≤100): ∀(c i:Nat),i+c=Hs.length→ ∀ks,
 vgoL W ⟨h51,[.tmp 6, .tmp 7],0⟩ [0,1,2,41,42,43] c51L0 (.blk 0 [0,1,2]::ks) [(0, .fz b (plT e q N k d)),(1, .fz b2 (.sl nl2 0 1 (ivs l))),(2, .fz b' (.sl nl 0 1 (lvs nr (Hs.map vs)))),(41, .fz b' (.sl nl 0 1 (lvs nr (Hs.map vs)))),(42, .x (.int .i64 Hs.length)),(43, .x (.int .i64 i))] []=
  vgo W ⟨h51,[.tmp 6, .tmp 7],0⟩ ks (VFr.of [(0, .fz b (plT e q N k d)),(1, .fz b2 (.sl nl2 0 1 (ivs l))),(2, .fz b' (.sl nl 0 1 (lvs nr (Hs.map vs))))]) []
 |0,i,hi,ks=>by
  unfold plT
  rw[sb5 c51L0.eq_def]
  simp(disch:=first|omega|fail) only[push_cast,seval,vrl,if_pos,if_neg]
 |c+1,i,hi,ks=>by
  have ih:=v75 hHl hr hd c (i+1) (by omega) ks
  obtain⟨Wr,hw⟩:=ge6 (l:=Hs) (i:=i) (by omega)
  have hwl:=hr Wr (List.mem_of_getElem? hw)
  have e6:=lat (nl:=nr) (show(Hs.map vs)[i]? =some (vs Wr) by rw[List.getElem?_map,hw];rfl)
  have hil:i<(Hs.map vs).length:=by rw[List.length_map];omega
  have hwl2:(vs Wr).length=d:=by rw[fi2,hwl]
  have e1:=fun b b' nl e=>lt7 (q:=q) (n:=(N:Int)) (k:=k) (d:=d) (b:=b) (b':=b') (nl:=nl) (e:=e) (l:=vs Wr) (by rw[fi2];omega)
  rw[i41]at e1
  rw[Int.natCast_add,Int.natCast_one]at ih
  rw[←ih,sb5 c51L0.eq_def]
  unfold plT at*
  simp(disch:=first|omega|fail) only[push_cast,seval,vrl,if_pos,if_neg,e6,hil,hwl,hwl2,e1,Bool.not_true,Bool.not_false]
theorem x38(h:PlanOK q N k d)(hn:l.Nodup)(hlk:l.length=k)(hl: ∀v∈l,0≤v∧v<N)(hs:aq0 N [] l=0)(hHl:Hs.length=k)(hr: ∀r∈Hs,r.length=d){X:List (El q)}(hX:solR (h61 k d) (rdM q k d l) Hs.flatten=some X):
 o24 W 51 [.fz b (plT e q N k d), .fz b2 (.sl nl2 0 1 (ivs l)), .fz b' (.sl nl 0 1 (lvs nr (Hs.map vs)))] []=some (.tup [.own 0 [], .x (.int .i64 0)],[.sl (nlT (vs X)) 3 1 (ivs (vs X))],[]):=by
 have h1:=h.n16
 have h2:=h.kd
 have h3:=h.dn
 have hsz:=size_le h
 have e1:=fun b b' nl e=>y15 (q:=q) (n:=(N:Int)) (k:=k) (d:=d) (b:=b) (b':=b') (nl:=nl) (e:=e) (l:=l) (m:=k) (by omega)
 simp only[if_pos hlk,hs]at e1
 have e2:=fun b b2 b' nl nl2 nr e ks=>v75 (q:=q) (k:=k) (d:=d) (N:=N) (b:=b) (b':=b') (b2:=b2) (nl:=nl) (nl2:=nl2) (nr:=nr) (e:=e) (l:=l) (Hs:=Hs) (by omega) hr (by omega) Hs.length 0 (by omega) ks
 have e3:=fun b b2 b' nl nl2 nr e ks=>ya9 (b:=b) (b':=b') (b2:=b2) (nl:=nl) (nl2:=nl2) (nr:=nr) (e:=e) h (l:=l) (Hs:=Hs) (by omega) (by omega) hr hl l.length 0 (by omega) ks
 simp only[Int.natCast_zero,List.take_zero,List.map_nil,x25,show(rdM q k d [])=[]from rfl,show vs ([]:List (List (El q))).flatten=[]from rfl,show ivs []=[]from rfl]at e2 e3
 have e4:=fun b e=>bm8 (b:=b) (e:=e) h
 have hlen:Hs.flatten.length=(rdM q k d l).length:=by rw[nf0 hr,dn4,hHl,hlk]
 have hb:l.length*d≤16*16:=Nat.mul_le_mul (by omega) (by omega)
 have hML:=dn4 (q:=q) (k:=k) (d:=d) l
 obtain⟨Y,ok,T1,T2,y1,e5⟩:=u53 (b:=true) (nm:=1) (nb:=1) (n:=h61 k d) (M0:=rdM q k d l) (B0:=Hs.flatten) kp3 hlen (by omega) (by omega) (b25 h hn hlk hl)
 obtain⟨rfl,rfl⟩:ok=true∧Y=X:=by
  cases ok with
  |true=>rw[if_pos rfl,hX]at y1;exact⟨rfl,(Option.some.inj y1).symm⟩
  |false=>rw[if_neg Bool.false_ne_true,hX]at y1;cases y1
 have hHl2:(Hs.map vs).length=Hs.length:=List.length_map ..
 unfold plT at*
 generalize h61 k d=S at*
 generalize (rdM q k d l).map vs=Ps at*
 generalize vs Hs.flatten=Fs at*
 rw[o10 rfl T51 rfl]
 unfold F51 c51
 simp(disch:=first|omega|fail) only[push_cast,seval,vrl,if_pos,if_neg,e1,hlk,hHl,hHl2]
 rw[hHl]at e2
 rw[hlk]at e3
 rw[e2]
 simp(disch:=first|omega|fail) only[push_cast,seval,vrl,if_pos,if_neg,hlk]
 rw[e3]
 simp(disch:=first|omega|fail) only[push_cast,seval,vrl,if_pos,if_neg,e4,e5,Bool.not_true,Bool.not_false]
end
section
variable {q:Int} [IsFld q] {k d N:Nat} {l:List Int} {F:List (El q)}
theorem qb9(h:PlanOK q N k d): ∀l:List Int,(∀v∈l,0≤v∧v<N)→(rdM q k d l).map (fun m=>sumN (h61 k d) fun s=>wf m s*wf F s)=(l.map fun v=>rowA F N k d v.toNat).flatten
 | [],_=>rfl
 |v::l,hl=>by
  obtain⟨h0,h1⟩:=hl v (by simp)
  obtain⟨V,rfl⟩: ∃V:Nat,v=V:=⟨v.toNat,by omega⟩
  rw[rdM,List.map_append,qb9 h l (fun w hw=>hl w (by simp[hw])),List.map_cons,List.flatten_cons,Int.toNat_natCast]
  congr 1
  have hrl:=xh8 (F:=F) (k:=k) (d:=d) (N:=N) (v:=V) (by omega)
  refine List.ext_getElem? fun j=> ?_
  unfold ofL
  rw[List.map_map,List.getElem?_map]
  by_cases hj:j<d
  ·rw[List.getElem?_range hj,t16 (by omega),ux4 (by omega) hj]
   show some _=_
   congr 1
   exact ur5 h hj d (Nat.le_refl d)
  ·rw[List.getElem?_eq_none (by rw[List.length_range];omega),List.getElem?_eq_none (by omega)];rfl
theorem gk8(h:PlanOK q N k d)(hn:l.Nodup)(hlk:l.length=k)(hl: ∀v∈l,0≤v∧v<N)(hF:F.length=h61 k d):solR (h61 k d) (rdM q k d l) (l.map fun v=>rowA F N k d v.toNat).flatten=some F:=by
 have hm:=qb9 (F:=F) h l hl
 have hb:(l.map fun v=>rowA F N k d v.toNat).flatten.length=(rdM q k d l).length:=by rw[←hm,List.length_map]
 have heq: ∀i,i<(rdM q k d l).length→wf (l.map fun v=>rowA F N k d v.toNat).flatten i=sumN (h61 k d) fun s=>wf ((rdM q k d l).getD i []) s*wf F s:=fun i hi=>by
  rw[←hm]
  unfold wf
  rw[List.getD_eq_getElem?_getD,List.getElem?_map,List.getElem?_eq_getElem hi]
  simp[List.getD_eq_getElem?_getD,List.getElem?_eq_getElem hi]
 obtain⟨y,hy⟩:=qc1 (x:=F) kp3 hb (fun i hi=>(heq i hi).symm)
 obtain⟨y1,y2⟩:=l11 kp3 hb hy
 rw[hy]
 congr 1
 refine ou8 (by rw[y1,hF]) ?_
 funext s
 by_cases hs:s<h61 k d
 ·have hz:=b25 h hn hlk hl (fun j=>wf y j+ -wf F j) (fun m hm'=>by
   obtain⟨i,hi,rfl⟩:=List.getElem_of_mem hm'
   have e1:=y2 i hi
   rw[heq i hi]at e1
   have hg:(rdM q k d l).getD i []=(rdM q k d l)[i]:=by rw[List.getD_eq_getElem?_getD,List.getElem?_eq_getElem hi];rfl
   rw[hg]at e1
   have e2:(sumN (h61 k d) fun j=>wf (rdM q k d l)[i] j*(wf y j+ -wf F j))=(sumN (h61 k d) fun j=>wf (rdM q k d l)[i] j*wf y j)+sumN (h61 k d) fun j=> -(wf (rdM q k d l)[i] j*wf F j):=by
    rw[←pv3]
    exact rc1 fun j _=>by rw[FK.mul_add,mul_neg]
   rw[e2,z09,e1,FK.add_neg]) s hs
  have hz:wf y s-wf F s=0:=hz
  have:=congrArg (fun t=>t+wf F s) hz
  rw[sub_eq,FK.add_assoc,neg_add,FK.add_zero,zero_add]at this
  exact this
 ·rw[ez8 (by omega),ez8 (by omega)]
end
end Go.Proofs.YtmhbpecdpiapgaaGreat
namespace Go.Alg
section
variable {K:Type} [FK K]
theorem ty2{a d:K}(h:d≠0):d*(a*FK.inv d)=a:=by
 rw[FK.mul_comm a,←FK.mul_assoc,FK.mul_inv d h,one_mul]
structure ThrI (P R:List (K×K)) (out all:List K):Prop where
 tr:Trm out
 lo:out.length≤P.length
 la:all.length≤P.length+1
 ok: ∀p∈P,ev out p.1=p.2
 z: ∀p∈P,ev all p.1=0
 nz: ∀p∈R,ev all p.1≠0
theorem ThrI.start(R:List (K×K)):ThrI [] R [] [1]:=⟨wg5,Nat.le_refl _,Nat.le_refl _,fun p h=>(by cases h),fun p h=>(by cases h),fun p h e=>ki7 (by
 have:ev [1] p.1=(1:K):=by rw[ev,ev,mul_zero,FK.add_zero]
 rw[←this,e])⟩
theorem ThrI.out{P R:List (K×K)}{out all:List K}{p:K×K}(h:ThrI P (p::R) out all):
 Trm (addK out (all.map fun c=>c*((p.2-ev out p.1)*FK.inv (ev all p.1))))∧(addK out (all.map fun c=>c*((p.2-ev out p.1)*FK.inv (ev all p.1)))).length≤P.length+1∧ ∀r∈P++[p],ev (addK out (all.map fun c=>c*((p.2-ev out p.1)*FK.inv (ev all p.1)))) r.1=r.2:=by
 refine⟨y42 _ _, ?_,fun r hr=> ?_⟩
 ·have h1:=mk8 out (all.map fun c=>c*((p.2-ev out p.1)*FK.inv (ev all p.1)))
  rw[List.length_map]at h1
  have h2:=h.lo
  have h3:=h.la
  omega
 ·rw[k99,hi7]
  rcases List.mem_append.1 hr with hr|hr
  ·rw[h.z r hr,zero_mul,FK.add_zero,h.ok r hr]
  ·rw[List.mem_singleton.1 hr,ty2 (h.nz p (by simp)),FK.add_comm,fj9]
theorem ThrI.step{P R:List (K×K)}{out all:List K}{p:K×K}(hn: ∀r∈R,r.1≠p.1)(h:ThrI P (p::R) out all):
 ThrI (P++[p]) R (addK out (all.map fun c=>c*((p.2-ev out p.1)*FK.inv (ev all p.1)))) (mulK all [-p.1,1]):=by
 obtain⟨h1,h2,h3⟩:=h.out
 refine⟨h1,by rw[List.length_append];exact h2, ?_,h3,fun r hr=> ?_,fun r hr e=> ?_⟩
 ·have h4:=bx4 all [-p.1,1]
  have h5:=h.la
  simp only[List.length_cons,List.length_nil,List.length_append]at h4⊢
  omega
 ·rw[jo3,tt9]
  rcases List.mem_append.1 hr with hr|hr
  ·rw[h.z r hr,zero_mul]
  ·rw[List.mem_singleton.1 hr,sub_eq,FK.add_neg,mul_zero]
 ·rw[jo3,tt9]at e
  rcases mul_eq_zero e with e|e
  ·exact h.nz r (by simp[hr]) e
  ·exact hn r hr (by rw[←fj9 r.1 p.1,e,zero_add])
end
end Go.Alg
