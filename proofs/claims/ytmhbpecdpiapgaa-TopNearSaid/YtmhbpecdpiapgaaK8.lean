/-
  The document's words that are values: may they be, how they are made, how near a message is; in the second machine. Conditions: those of each theorem. matrix.Check, clone, scale, less, in the second m ..
-/
import Derived.Test.YtmhbpecdpiapgaaK7
import Derived.Test.YtmhbpecdpiapgaaK6
set_option linter.unusedVariables false
set_option linter.unusedSimpArgs false
set_option linter.unusedSectionVars false
set_option maxRecDepth 100000
namespace Go.Proofs.Ytmhbpecdpiapgaa
open Go.Am Go.Vm Go.Alg
section
variable {q p m g:Int} {t:Tree} {b b':Bool} {nl nl':Nat} {l:List Int}
theorem z44(x:Int)(l:List Int):(l.any fun y=>decide (y=x))=l.any fun y=>decide (x=y):=by
 congr 1
 funext y
 exact decide_eq_decide.2 eq_comm
variable {xs:List Int} {k:Int}
variable {w:List Int}
end
section
variable {q p m g:Int} [IsFld q] {t:Tree} {b b':Bool} {nl nl':Nat} {a:List (El q)} {x:El q}
end
section
variable {q:Int} {b:Bool} {nl nr e:Nat} {M:List (List Int)}
theorem g07 [IsFld q](v:Int):o24 W 207 [.x (.int .i64 v), .fz b (.pt e [pF q])] []=some (.x (.bool (!fok q v)),[],[]):=by
 rw[o10 rfl T207 rfl]
 unfold F207 c207
 simp(disch:=first|omega|fail) only[push_cast,seval,vrl,if_pos,if_neg]
theorem bc0 [IsFld q](hMl:M.length≤64){n0:Nat}(hn0:n0=(nth M 0).length): ∀(d i:Nat),i+d=M.length→ ∀ks,
 vgoL W ⟨hNo,[.tmp 4],0⟩ [1,5,20,21,22] c162L0 (.blk 0 []::ks) [(1, .fz b (.sl nl 0 1 (lvs nr M))),(5, .own 0 []),(20, .fz b (.sl nl 0 1 (lvs nr M))),(21, .x (.int .i64 M.length)),(22, .x (.int .i64 i))] [.pt 104 [.fz (pF q)]]=
  if wb9 q n0 (M.drop i)=0 then vgo W ⟨hNo,[.tmp 4],0⟩ ks (VFr.of []) [.pt 104 [.fz (pF q)]]else some (.x (.int .i64 (wb9 q n0 (M.drop i))),[],[])
 |0,i,hi,ks=>by
  rw[oh9 (by omega),wb9,if_pos rfl,sb5 c162L0.eq_def]
  simp(disch:=first|omega|fail) only[push_cast,seval,vrl,if_pos,if_neg]
 |d+1,i,hi,ks=>by
  obtain⟨r,hr⟩:=ge6 (l:=M) (i:=i) (by omega)
  obtain⟨r0,hr0⟩:=ge6 (l:=M) (i:=0) (by omega)
  have hr0l:r0.length=n0:=by rw[hn0,xr8 hr0]
  have h0:=lat (nl:=nr) hr
  have h1:=lat (nl:=nr) hr0
  have ih:=bc0 hMl hn0 d (i+1) (by omega) ks
  rw[Int.natCast_add,Int.natCast_one]at ih
  rw[i62 hr]
  by_cases hne:r.length=n0
  ·by_cases hz:r.length=0
   ·have hrow:rowE q n0 r=3:=by unfold rowE;rw[if_pos (.inr hz)]
    rw[kj7 hrow (by decide),if_neg (by decide),sb5 c162L0.eq_def]
    simp(disch:=first|omega|fail) only[push_cast,seval,vrl,if_pos,if_neg,h0,h1,hr0l]
   ·by_cases h64:64<r.length
    ·have hrow:rowE q n0 r=4:=by unfold rowE;rw[if_neg (by omega),if_pos h64]
     rw[kj7 hrow (by decide),if_neg (by decide),sb5 c162L0.eq_def]
     simp(disch:=first|omega|fail) only[push_cast,seval,vrl,if_pos,if_neg,h0,h1,hr0l]
    ·have hf:=fun bl nl b e=>eg0 (nl:=nl) (l:=r) (bl:=bl) (k:=207) (b:=b) (t:= .pt e [pF q]) g07 rfl (by omega)
     cases hany:(r.any fun v=> !fok q v)with
     |true=>
      have hrow:rowE q n0 r=2:=by unfold rowE;rw[if_neg (by omega),if_neg h64,if_pos hany]
      rw[hany]at hf
      rw[kj7 hrow (by decide),if_neg (by decide),sb5 c162L0.eq_def]
      simp(disch:=first|omega|fail) only[push_cast,seval,vrl,if_pos,if_neg,h0,h1,hr0l,hf]
     |false=>
      have hrow:rowE q n0 r=0:=by unfold rowE;rw[if_neg (by omega),if_neg h64,if_neg (by rw[hany];decide)]
      rw[hany]at hf
      rw[qf5 hrow,←ih,sb5 c162L0.eq_def]
      simp(disch:=first|omega|fail) only[push_cast,seval,vrl,if_pos,if_neg,h0,h1,hr0l,hf]
  ·have hrow:rowE q n0 r=3:=by unfold rowE;rw[if_pos (.inl hne)]
   have hne': ¬(r.length:Int)=(n0:Int):=by omega
   rw[kj7 hrow (by decide),if_neg (by decide),sb5 c162L0.eq_def]
   simp(disch:=first|omega|fail) only[push_cast,seval,vrl,if_pos,if_neg,h0,h1,hr0l,nb8 hne']
theorem or9:o24 W 162 [.x (.int .i64 q), .fz b (.sl nl 0 1 (lvs nr M))] []=some (.x (.int .i64 (matE q M)),[],[]):=by
 unfold matE
 cases hn:fldN q.toNat with
 |none=>
  have e1:=ug9 hn
  rw[o10 rfl T162 rfl]
  unfold F162 c162
  simp(disch:=first|omega|fail) only[push_cast,seval,vrl,if_pos,if_neg,e1]
 |some x=>
  obtain⟨p0,m0,g0,mod⟩:=x
  haveI:IsFld q:=⟨⟨p0,m0,g0,mod,hn⟩⟩
  simp only
  by_cases h64:64<M.length
  ·rw[if_pos h64,o10 rfl T162 rfl]
   unfold F162 c162
   simp(disch:=first|omega|fail) only[push_cast,seval,vrl,if_pos,if_neg]
  ·have e:=fun ks=>bc0 (q:=q) (M:=M) (b:=b) (nl:=nl) (nr:=nr) (by omega) rfl M.length 0 (by omega) ks
   rw[if_neg h64,o10 rfl T162 rfl]
   simp only[Int.natCast_zero,List.take_zero,List.drop_zero,rp2,lz6,x25,List.map_nil,List.length_nil]at e
   unfold F162 c162
   simp(disch:=first|omega|fail) only[push_cast,seval,vrl,if_pos,if_neg]
   rw[e]
   by_cases hr:wb9 q (nth M 0).length M=0
   ·rw[if_pos hr,hr]
    simp(disch:=first|omega|fail) only[push_cast,seval,vrl,if_pos,if_neg]
   ·rw[if_neg hr]
end
section
variable {q:Int} [IsFld q] {b b':Bool} {nl nl' nr:Nat} {c:El q}
theorem eh8{r:List (El q)}(hW:r.length≤100000): ∀(n j:Nat),j+n=r.length→ ∀ks,
 vgoL W ⟨hNo,[],1⟩ [0,1,2,8,9] c198L0 (.blk 0 []::ks) [(0, .fz b (pF q)),(1, .own 0 []),(2, .x (.int .i64 c.v)),(8, .x (.int .i64 r.length)),(9, .x (.int .i64 j))] [.sl nl 3 1 (ivs (vs ((xf7 c r).take j++r.drop j)))]=
  vgo W ⟨hNo,[],1⟩ ks (VFr.of []) [.sl nl 3 1 (ivs (vs (xf7 c r)))]
 |0,j,hj,ks=>by
  obtain rfl:j=r.length:=by omega
  unfold xf7
  rw[l44,sb5 c198L0.eq_def]
  simp(disch:=first|omega|fail) only[push_cast,seval,vrl,if_pos,if_neg]
 |n+1,j,hj,ks=>by
  have ih:=eh8 hW n (j+1) (by omega) ks
  obtain⟨a,ha⟩:=ge6 (l:=r) (i:=j) (by omega)
  have hcl:=mh9 (fun x=>x*c) r j
  have hat:=zw5 (f:=fun x=>x*c) (l:=r) (j:=j) (by omega)
  have hset:=fz1 (f:=fun x=>x*c) ha
  have hsc: ∀x:List (El q),xf7 c x=x.map fun x=>x*c:=fun _=>rfl
  rw[hsc,←hset]at ih
  rw[hsc]
  generalize hy:(r.map fun x=>x*c).take j++r.drop j=y at ih hcl hat hset
  have hwy:wf y j=a:=by
   unfold wf;rw[List.getD_eq_getElem?_getD,hat,ha];rfl
  have h1:=iva (l:=y) (i:=j) (by omega)
  rw[hwy]at h1
  have hs:=g52 y j (a*c)
  rw[ym6]at hs
  rw[Int.natCast_add,Int.natCast_one]at ih
  rw[←ih,sb5 c198L0.eq_def]
  simp(disch:=first|omega|fail) only[push_cast,seval,vrl,if_pos,if_neg,h1,hs]
theorem em7{r:List (El q)}(hW:r.length≤100000):
 o24 W 198 [.fz b (pF q), .own 0 [], .x (.int .i64 c.v)] [.sl nl 3 1 (ivs (vs r))]=some (.tup [],[],[.sl nl 3 1 (ivs (vs (xf7 c r)))]):=by
 have e:=fun ks=>eh8 (b:=b) (nl:=nl) (c:=c) (r:=r) hW r.length 0 (by omega) ks
 rw[List.take_zero,List.nil_append,List.drop_zero]at e
 simp only[Int.natCast_zero]at e
 rw[o10 rfl T198 rfl]
 unfold F198 c198
 simp(disch:=first|omega|fail) only[push_cast,seval,vrl,if_pos,if_neg]
 rw[e]
 simp(disch:=first|omega|fail) only[push_cast,seval,vrl,if_pos,if_neg]
theorem jh0{r o:List (El q)}(hl:o.length=r.length)(hW:r.length≤100000): ∀(n j:Nat),j+n=r.length→ ∀ks,
 vgoL W ⟨hNo,[],1⟩ [0,1,2,3,10,11] c199L0 (.blk 0 []::ks) [(0, .fz b (pF q)),(1, .own 0 []),(2, .fz b' (.sl nl' 0 1 (ivs (vs o)))),(3, .x (.int .i64 c.v)),(10, .x (.int .i64 r.length)),(11, .x (.int .i64 j))] [.sl nl 3 1 (ivs (vs ((dx9 c r o).take j++r.drop j)))]=
  vgo W ⟨hNo,[],1⟩ ks (VFr.of []) [.sl nl 3 1 (ivs (vs (dx9 c r o)))]
 |0,j,hj,ks=>by
  have hll:(dx9 c r o).length=r.length:=wx1 hl.symm
  rw[oh9 (by omega),List.append_nil,List.take_of_length_le (by omega),sb5 c199L0.eq_def]
  simp(disch:=first|omega|fail) only[push_cast,seval,vrl,if_pos,if_neg]
 |n+1,j,hj,ks=>by
  have ih:=jh0 hl hW n (j+1) (by omega) ks
  have hll:(dx9 c r o).length=r.length:=wx1 hl.symm
  have hy:((dx9 c r o).take j++r.drop j).set j (wf r j-c*wf o j)=(dx9 c r o).take (j+1)++r.drop (j+1):=by
   rw[List.take_succ_eq_append_getElem (by omega),←i66 (by omega),rq0 hl.symm,List.set_append_right _ _ (by rw[List.length_take];omega),List.length_take,Nat.min_eq_left (by omega),Nat.sub_self,List.drop_eq_getElem_cons (by omega:j<r.length),List.set_cons_zero,List.append_assoc];rfl
  have hyl:((dx9 c r o).take j++r.drop j).length=r.length:=by simp only[List.length_append,List.length_take,List.length_drop];omega
  have hyw:wf ((dx9 c r o).take j++r.drop j) j=wf r j:=by
   unfold wf
   rw[List.getD_eq_getElem?_getD,List.getD_eq_getElem?_getD,List.getElem?_append_right (by rw[List.length_take];omega),List.length_take,Nat.min_eq_left (by omega),Nat.sub_self,List.getElem?_drop,Nat.add_zero]
  rw[←hy]at ih
  generalize (dx9 c r o).take j++r.drop j=y at ih hyl hyw
  have h1:=iva (l:=y) (i:=j) (by omega)
  have h2:=iva (l:=o) (i:=j) (by omega)
  rw[hyw]at h1
  have hs:=g52 y j (wf r j-c*wf o j)
  rw[bq9,ym6]at hs
  rw[Int.natCast_add,Int.natCast_one]at ih
  rw[←ih,sb5 c199L0.eq_def]
  simp(disch:=first|omega|fail) only[push_cast,seval,vrl,if_pos,if_neg,h1,h2,hs]
theorem nq1{r o:List (El q)}(hl:o.length=r.length)(hW:r.length≤100000):
 o24 W 199 [.fz b (pF q), .own 0 [], .fz b' (.sl nl' 0 1 (ivs (vs o))), .x (.int .i64 c.v)] [.sl nl 3 1 (ivs (vs r))]=some (.tup [],[],[.sl nl 3 1 (ivs (vs (dx9 c r o)))]):=by
 have e:=fun ks=>jh0 (b:=b) (b':=b') (nl:=nl) (nl':=nl') (c:=c) hl hW r.length 0 (by omega) ks
 rw[List.take_zero,List.nil_append,List.drop_zero]at e
 simp only[Int.natCast_zero]at e
 rw[o10 rfl T199 rfl]
 unfold F199 c199
 simp(disch:=first|omega|fail) only[push_cast,seval,vrl,if_pos,if_neg]
 rw[e]
 simp(disch:=first|omega|fail) only[push_cast,seval,vrl,if_pos,if_neg]
end
theorem fc2(n:Nat):repT [Tree.sl 2 3 1 []] n=lls 2 (List.replicate n []):=by
 induction n with
 |zero=>rfl
 |succ n ih=>rw[repT,ih];rfl
theorem l52{M:List (List Int)}{i n:Nat}{r:List Int}(hr:M[i]? =some r):(M.take i++List.replicate (n+1) []).set i r=M.take (i+1)++List.replicate n []:=by
 have hi:=(List.getElem?_eq_some_iff.1 hr).1
 rw[List.set_append_right _ _ (by rw[List.length_take];omega),List.length_take,Nat.min_eq_left (by omega),Nat.sub_self,List.replicate_succ,List.set_cons_zero,List.take_add_one,hr,List.append_assoc];rfl
section
variable {b:Bool} {nl nr:Nat} {M:List (List Int)}
theorem ma1(h0: ∀r∈M,0<r.length∧r.length≤1000000)(hM:M.length≤1000000): ∀(n i:Nat),i+n=M.length→ ∀ks,
 vgoL W ⟨hNo,[.tmp 2],0⟩ [3,9,10,11] c196L0 (.blk 0 [3]::ks) [(3, .own 0 []),(9, .fz b (.sl nl 0 1 (lvs nr M))),(10, .x (.int .i64 M.length)),(11, .x (.int .i64 i))] [.sl 0 22 1 (lls 2 (M.take i++List.replicate n []))]=
  vgo W ⟨hNo,[.tmp 2],0⟩ ks (VFr.of [(3, .own 0 [])]) [.sl 0 22 1 (lls 2 M)]
 |0,i,hi,ks=>by
  rw[List.replicate_zero,List.append_nil,List.take_of_length_le (by omega),sb5 c196L0.eq_def]
  simp(disch:=first|omega|fail) only[push_cast,seval,vrl,if_pos,if_neg]
 |n+1,i,hi,ks=>by
  obtain⟨r,hr⟩:=ge6 (l:=M) (i:=i) (by omega)
  have ih:=ma1 h0 hM n (i+1) (by omega) ks
  have hn:=l52 (n:=n) hr
  rw[←hn]at ih
  have hl:(M.take i++List.replicate (n+1) []).length=M.length:=by simp only[List.length_append,List.length_take,List.length_replicate];omega
  generalize M.take i++List.replicate (n+1) []=Y at ih hl
  have h1:=lat (nl:=nr) hr
  have hc:=fun b nl=>u27 (b:=b) (nl:=nl) (h0 r (List.mem_of_getElem? hr)).1 (h0 r (List.mem_of_getElem? hr)).2
  rw[Int.natCast_add,Int.natCast_one]at ih
  rw[←ih,sb5 c196L0.eq_def]
  simp(disch:=first|omega|fail) only[push_cast,seval,vrl,if_pos,if_neg,h1,hc,hl]
theorem y80(h0: ∀r∈M,0<r.length∧r.length≤1000000)(hM:M.length≤1000000):
 o24 W 196 [.fz b (.sl nl 0 1 (lvs nr M))] []=some (.own 0 [],[.sl 0 22 1 (lls 2 M)],[]):=by
 have e:=fun ks=>ma1 (b:=b) (nl:=nl) (nr:=nr) h0 hM M.length 0 (by omega) ks
 rw[List.take_zero,List.nil_append]at e
 simp only[Int.natCast_zero]at e
 have hz:=fc2 M.length
 rw[o10 rfl T196 rfl]
 unfold F196 c196
 simp(disch:=first|omega|fail) only[push_cast,seval,vrl,if_pos,if_neg,hz]
 rw[e]
 simp(disch:=first|omega|fail) only[push_cast,seval,vrl,if_pos,if_neg]
end
theorem em2{α:Type}{l:List α}{i:Nat}{x:α}(h:l[i]? =some x):l.set i x=l:=by
 obtain⟨h1,h2⟩:=List.getElem?_eq_some_iff.1 h
 rw[←h2];exact List.set_getElem_self h1
section
variable {q:Int} [IsFld q] {T5:Tree} {M:List (List (El q))} {R n c at':Nat}
theorem e53(hR:M.length=R)(hR2:R≤1000)(hn2:n≤1000)(hrow: ∀k,k<R→(nth M k).length=n)(hc:c<n)(hat:at'<R):
 ∀(d k:Nat),k+d=R→ ∀ks,
  vgoL W ⟨h151,[.tmp 4, .tmp 5, .tmp 6],0⟩ [1,5,8,10,11,90,91] c151L0 (.blk 2 [1,5,8,10]::ks) [(1, .own 0 []),(5, .own 1 []),(8, .fz true (pF q)),(10, .own 2 []),(11, .x (.int .i64 at')),(90, .x (.int .i64 R)),(91, .x (.int .i64 k))] [.sl 0 22 1 (lls 2 (((clrM M at' c).take k++M.drop k).map vs)),T5, .pt 3 [.v (.int .i64 c)]]=
   vgo W ⟨h151,[.tmp 4, .tmp 5, .tmp 6],0⟩ ks (VFr.of [(1, .own 0 []),(5, .own 1 []),(8, .fz true (pF q)),(10, .own 2 [])]) [.sl 0 22 1 (lls 2 ((clrM M at' c).map vs)),T5, .pt 3 [.v (.int .i64 c)]]
 |0,k,hk,ks=>by
  have hcl:=wq1 M at' c
  rw[oh9 (by omega),List.append_nil,List.take_of_length_le (by omega),sb5 c151L0.eq_def]
  simp(disch:=first|omega|fail) only[push_cast,seval,vrl,if_pos,if_neg]
 |d+1,k,hk,ks=>by
  have ih:=e53 hR hR2 hn2 hrow hc hat d (k+1) (by omega) ks
  have hcl:=wq1 M at' c
  have hck:=kc5 (M:=M) (at':=at') (c:=c) (k:=k) (by omega)
  have hY:((clrM M at' c).take k++M.drop k).length=R:=by simp only[List.length_append,List.length_take,List.length_drop];omega
  have hYk:((clrM M at' c).take k++M.drop k)[k]? =some (nth M k):=by
   rw[List.getElem?_append_right (by rw[List.length_take];omega),List.length_take,Nat.min_eq_left (by omega),Nat.sub_self,List.getElem?_drop,Nat.add_zero,gu3 (by omega)]
  have hYa:((clrM M at' c).take k++M.drop k)[at']? =some (nth M at'):=by
   by_cases h:at'<k
   ·rw[List.getElem?_append_left (by rw[List.length_take];omega),List.getElem?_take,if_pos h,kc5 (by omega),if_pos rfl]
   ·rw[List.getElem?_append_right (by rw[List.length_take];omega),List.length_take,Nat.min_eq_left (by omega),List.getElem?_drop,show k+(at'-k)=at' by omega,gu3 (by omega)]
  have hYn:((clrM M at' c).take k++M.drop k).set k (if k=at' then nth M k else dx9 (wf (nth M k) c) (nth M k) (nth M at'))=(clrM M at' c).take (k+1)++M.drop (k+1):=by
   rw[List.set_append_right _ _ (by rw[List.length_take];omega),List.length_take,Nat.min_eq_left (by omega),Nat.sub_self,List.drop_eq_getElem_cons (by omega:k<M.length),List.set_cons_zero,List.take_add_one,hck,List.append_assoc];rfl
  rw[←hYn]at ih
  generalize (clrM M at' c).take k++M.drop k=Y at ih hY hYk hYa
  rw[Int.natCast_add,Int.natCast_one]at ih
  have h1:=mla (nl:=2) hYk
  have h2:=mla (nl:=2) hYa
  have h3:=iva (l:=nth M k) (i:=c) (by rw[hrow k (by omega)];exact hc)
  have hsame:Y.set k (nth M k)=Y:=em2 hYk
  have hlk:=hrow k (by omega)
  have hla:=hrow at' hat
  by_cases hka:k=at'
  ·rw[if_pos hka,hsame]at ih
   rw[←ih,sb5 c151L0.eq_def]
   simp(disch:=first|omega|fail) only[push_cast,seval,vrl,if_pos,if_neg,h1,h2,h3,hY,hlk]
  ·rw[if_neg hka]at ih
   by_cases hz:(wf (nth M k) c).v=0
   ·have hz0:wf (nth M k) c=0:=r57.1 hz
    rw[hz0,vt1 (by rw[hrow k (by omega),hrow at' hat]),hsame]at ih
    rw[←ih,sb5 c151L0.eq_def]
    simp(disch:=first|omega|fail) only[push_cast,seval,vrl,if_pos,if_neg,h1,h2,h3,hY,hlk,mr8 hz]
   ·have hl:=fun b b' nl nl'=>nq1 (b:=b) (b':=b') (nl:=nl) (nl':=nl') (c:=wf (nth M k) c) (r:=nth M k) (o:=nth M at') (by rw[hrow k (by omega),hrow at' hat]) (by rw[hrow k (by omega)];omega)
    have hs:(lls 2 (Y.map vs)).set k (.sl 2 3 1 (ivs (vs (dx9 (wf (nth M k) c) (nth M k) (nth M at')))))=lls 2 ((Y.set k (dx9 (wf (nth M k) c) (nth M k) (nth M at'))).map vs):=by rw[y81,List.map_set]
    have hj:((lls 2 (Y.map vs)).set k Tree.junk)[k]? =some Tree.junk:=List.getElem?_set_self (by rw[qf0,List.length_map];omega)
    rw[←ih,sb5 c151L0.eq_def]
    simp(disch:=first|omega|fail) only[push_cast,seval,vrl,if_pos,if_neg,h1,h2,h3,hY,hlk,nb8 hz,hl,hj,List.getElem?_set_ne,List.set_set,hs]
theorem rb5{b b':Bool}{nl e:Nat}{r:List (El q)}{c:Nat}(hc:c<r.length)(hl:r.length≤1000):o24 W 197 [.fz b (.sl nl 0 1 (ivs (vs r))), .fz b' (.pt e [.v (.int .i64 c)])] []=some (.x (.bool (decide ((wf r c).v≠0))),[],[]):=by
 have h1:=iva (l:=r) (i:=c) hc
 rw[o10 rfl T197 rfl]
 unfold F197 c197
 simp(disch:=first|omega|fail) only[push_cast,seval,vrl,if_pos,if_neg,h1]
 by_cases h:(wf r c).v=0
 ·rw[decide_eq_true h,decide_eq_false (by simpa using h)];rfl
 ·rw[decide_eq_false h,decide_eq_true h];rfl
theorem aw7(P:List Nat)(c:Nat):pn P++[(c:Int)]=pn (P++[c]):=by unfold pn;rw[List.map_append];rfl
end
section
variable {q:Int} [IsFld q] {n R:Nat}
theorem x17{M0:List (List (El q))}(hR:M0.length=R)(hR0:0<R)(hR2:R≤1000)(hn2:n≤1000):
 ∀(d c:Nat) (M:List (List (El q))) (P:List Nat),c+d=n→RedI n M0 M P c→ ∃(M':List (List (El q))) (P':List Nat) (c':Nat),RedI n M0 M' P' c'∧(c'=n∨P'.length=M'.length)∧ ∀ks,
  vgoL W ⟨h151,[.tmp 4, .tmp 5, .tmp 6],0⟩ [1,5,8,10] c151L1 (.blk 0 [1,5]::ks) [(1, .own 0 []),(5, .own 1 []),(8, .fz true (pF q)),(10, .own 2 [])] [.sl 0 22 1 (lls 2 (M.map vs)), .sl 1 3 1 (ivs (pn P)), .pt 3 [.v (.int .i64 c)]]=
   vgo W ⟨h151,[.tmp 4, .tmp 5, .tmp 6],0⟩ ks (VFr.of [(1, .own 0 []),(5, .own 1 [])]) [.sl 0 22 1 (lls 2 (M'.map vs)), .sl 1 3 1 (ivs (pn P')), .pt 3 [.v (.int .i64 c')]]
 |0,c,M,P,hd,I=>by
  have hcn:c=n:=by omega
  have hMl:M.length=R:=by rw[I.len,hR]
  have h0:=mla (nl:=2) (M:=M) (i:=0) (gu3 (by omega))
  have h1:=I.len_nth (k:=0) (by omega)
  refine⟨M,P,c,I, .inl hcn,fun ks=> ?_⟩
  rw[sb5 c151L1.eq_def]
  simp(disch:=first|omega|fail) only[push_cast,seval,vrl,if_pos,if_neg,h0,h1]
 |d+1,c,M,P,hd,I=>by
  have hMl:M.length=R:=by rw[I.len,hR]
  have h0:=mla (nl:=2) (M:=M) (i:=0) (gu3 (by omega))
  have h1:=I.len_nth (k:=0) (by omega)
  have hpl:=I.pl
  have hpn:=im5 P
  by_cases hfull:P.length=M.length
  ·refine⟨M,P,c,I, .inr hfull,fun ks=> ?_⟩
   rw[sb5 c151L1.eq_def]
   simp(disch:=first|omega|fail) only[push_cast,seval,vrl,if_pos,if_neg,h0,h1,hpn]
  ·have IH:=x17 hR hR0 hR2 hn2 d (c+1)
   obtain⟨at',hat'⟩: ∃a,a=P.length:=⟨_,rfl⟩
   have hrow: ∀k,k<R→(nth M k).length=n:=fun k hk=>I.len_nth (by omega)
   obtain⟨m,hm⟩: ∃m,m=List.take (R-at') (List.drop at' (List.map vs M)):=⟨_,rfl⟩
   have hmm: ∀{j:Nat} {x:List Int},m[j]? =some x→at'+j<R∧x=vs (nth M (at'+j)):=fun{j x} h=>by
    have hj:=(List.getElem?_eq_some_iff.1 h).1
    rw[hm,List.length_take,List.length_drop,List.length_map]at hj
    rw[hm,List.getElem?_take,if_pos (by omega),List.getElem?_drop,List.getElem?_map,gu3 (by omega)]at h
    exact⟨by omega,(Option.some.inj h).symm⟩
   have hml:m.length=R-at':=by rw[hm,List.length_take,List.length_drop,List.length_map];omega
   have hk: ∀(bl b:Bool) (e:Nat),∀r∈m,o24 W 197 [.fz bl (.sl 2 0 1 (ivs r)), .fz b (.pt e [.v (.int .i64 c)])] []=some (.x (.bool (decide (gi r c≠0))),[],[]):=fun bl b e r hr=>by
    obtain⟨j,hj⟩:=List.getElem?_of_mem hr
    obtain⟨h2,rfl⟩:=hmm hj
    have:=hrow (at'+j) h2
    rw[rb5 (by omega) (by omega),v86];rfl
   have hix:=fun bl nl b e=>aj5 (bl:=bl) (nl:=nl) (nr:=2) (m:=m) (k:=197) (b:=b) (t:= .pt e [.v (.int .i64 c)]) (p:=fun r=>decide (gi r c≠0)) (hk bl b e) rfl (by omega)
   rcases nu4 (fun r=>decide (gi r c≠0)) 0 m with⟨f1,f2⟩|⟨j,x,f1,f2,f3⟩
   ·rw[f1,hm]at hix
    have I':=I.skip (by omega) (fun k h1 h2=>by
     have hmk:vs (nth M k)∈m:=by
      refine List.mem_of_getElem? (i:=k-at') ?_
      rw[hm,List.getElem?_take,if_pos (by omega),List.getElem?_drop,List.getElem?_map,gu3 (by omega),show at'+(k-at')=k by omega];rfl
     have:=f2 _ hmk
     rw[v86]at this
     have h3:(ge (nth M k) c).v=0:=by simpa using this
     exact r57.1 h3)
    obtain⟨M',P',c',r1,r2,r3⟩:=IH M P (by omega) I'
    refine⟨M',P',c',r1,r2,fun ks=> ?_⟩
    have ih:=r3 ks
    rw[Int.natCast_add,Int.natCast_one]at ih
    rw[←hat']at hpn
    have hnn:((M.length:Int)-(at':Int)).toNat=R-at':=by omega
    rw[←ih,sb5 c151L1.eq_def]
    simp(disch:=first|omega|fail) only[push_cast,seval,vrl,if_pos,if_neg,h0,h1,hpn,hnn,hix]
   ·--there is one
    have hj:=(List.getElem?_eq_some_iff.1 f2).1
    obtain⟨hR1,rfl⟩:=hmm f2
    rw[f1,Nat.zero_add,hm]at hix
    obtain⟨i,hi⟩: ∃i,i=at'+j:=⟨_,rfl⟩
    rw[←hi]at f3 hR1
    have hne:wf (nth M i) c≠0:=fun e=>by
     have h3:gi (vs (nth M i)) c≠0:=by simpa using f3
     rw[v86]at h3
     exact h3 (r57.2 e)
    have I':=qt5 I (by omega) (i:=i) (by omega) (by omega) hne
    rw[←hat']at I'
    have hscl:(sclM M at' i c).length=M.length:=np1
    have hsrow:=k39 (c:=c) (M:=M) (fun k hk=>hrow k (by omega)) (at':=at') (i:=i) (by omega) (by omega)
    have hin:=e53 (T5:= .sl 1 3 1 (ivs (pn P))) (M:=sclM M at' i c) (R:=R) (n:=n) (c:=c) (at':=at') (by omega) hR2 hn2 (fun k hk=>hsrow k (by omega)) (by omega) (by omega) R 0 (by omega)
    obtain⟨M',P',c',r1,r2,r3⟩:=IH (clrM (sclM M at' i c) at' c) (P++[c]) (by omega) I'
    refine⟨M',P',c',r1,r2,fun ks=> ?_⟩
    have ih:=r3 ks
    rw[Int.natCast_add,Int.natCast_one]at ih
    rw[←hat']at hpn
    have hia:(at':Int)+(j:Int)=(i:Int):=by omega
    have hnn:((M.length:Int)-(at':Int)).toNat=R-at':=by omega
    have hla:=hrow i (by omega)
    have hlb:=hrow at' (by omega)
    have h2:=mla (nl:=2) (M:=M) (i:=i) (gu3 (by omega))
    have h3:=mla (nl:=2) (M:=M) (i:=at') (gu3 (by omega))
    have hsw:(swpM M at' i).map vs=((M.map vs).set at' (vs (nth M i))).set i (vs (nth M at')):=by unfold swpM;rw[List.map_set,List.map_set]
    have hswl:(swpM M at' i).length=M.length:=p58
    have h4:=mla (nl:=2) (M:=swpM M at' i) (i:=at') (r:=nth M i) (by rw[gu3 (by omega),fj6 (by omega) (by omega)])
    have h5:=iva (l:=nth M i) (i:=c) (by omega)
    have e2:=rl7 hne
    have hsc:=fun b nl=>em7 (b:=b) (nl:=nl) (c:=FK.inv (wf (nth M i) c)) (r:=nth M i) (by omega)
    have hs2:(lls 2 ((swpM M at' i).map vs)).set at' (.sl 2 3 1 (ivs (vs (xf7 (FK.inv (wf (nth M i) c)) (nth M i)))))=lls 2 ((sclM M at' i c).map vs):=by unfold sclM;rw[y81,List.map_set]
    have hL:(lls 2 (M.map vs)).length=R:=by rw[qf0,List.length_map];exact hMl
    simp only[e2]at hsc
    rw[List.take_zero,List.nil_append,List.drop_zero]at hin
    simp only[Int.natCast_zero]at hin
    have hpush:=aw7 P c
    have k3:((lls 2 ((swpM M at' i).map vs)).set at' Tree.junk)[at']? =some Tree.junk:=List.getElem?_set_self (by rw[qf0,List.length_map];omega)
    by_cases hii:i=at'
    ·have k1:((lls 2 (M.map vs)).set at' Tree.junk)[at']? =some Tree.junk:=List.getElem?_set_self (by omega)
     subst hii
     have k2:(lls 2 (M.map vs)).set i (.sl 2 3 1 (ivs (vs (nth M i))))=lls 2 ((swpM M i i).map vs):=by
      rw[y81,hsw,List.set_set]
     rw[←ih,sb5 c151L1.eq_def]
     simp(disch:=first|omega|fail) only[push_cast,seval,vrl,if_pos,if_neg,h0,h1,hpn,hnn,hix,hia,h3,k1,List.set_set,k2,k3,h4,h5,hsc,hs2,hscl]
     rw[hMl,hin]
     simp(disch:=first|omega|fail) only[push_cast,seval,vrl,if_pos,if_neg,hpn,hpush]
    ·have k1:((lls 2 (M.map vs)).set at' Tree.junk)[i]? =some (.sl 2 3 1 (ivs (vs (nth M i)))):=by rw[List.getElem?_set_ne (by omega)];exact h2
     have k2:((((lls 2 (M.map vs)).set at' Tree.junk).set i Tree.junk).set at' (.sl 2 3 1 (ivs (vs (nth M i))))).set i (.sl 2 3 1 (ivs (vs (nth M at'))))=lls 2 ((swpM M at' i).map vs):=by
      rw[hsw,←y81,←y81]
      refine List.ext_getElem? fun k=> ?_
      simp only[List.getElem?_set,List.length_set]
      by_cases c1:i=k<;>by_cases c2:at'=k<;>simp[c1,c2]
     rw[←ih,sb5 c151L1.eq_def]
     simp(disch:=first|omega|fail) only[push_cast,seval,vrl,if_pos,if_neg,h0,h1,hpn,hnn,hix,hia,h2,h3,k1,k2,k3,h4,h5,hsc,hs2,hscl,List.set_set]
     rw[hMl,hin]
     simp(disch:=first|omega|fail) only[push_cast,seval,vrl,if_pos,if_neg,hpn,hpush]
end
section
variable {q:Int} {b:Bool} {nl nr:Nat}
theorem e58(he:matE q []=0):o24 W 151 [.x (.int .i64 q), .fz b (.sl nl 0 1 [])] []=some (.tup [.x (.slice none 0 0), .own 0 [], .x (.int .i64 0)],[.sl 1 3 1 []],[]):=by
 have e1:=fun b nl=>or9 (q:=q) (M:=[]) (b:=b) (nl:=nl) (nr:=0)
 simp only[em1,he]at e1
 rw[o10 rfl T151 rfl]
 unfold F151 c151
 simp(disch:=first|omega|fail) only[push_cast,seval,vrl,if_pos,if_neg,e1]
theorem ru4 [IsFld q]{N:List (List (El q))}{n:Nat}(hr: ∀r∈N,r.length=n): ∀r∈N.map vs,r.length=n:=fun c hc=>by
 obtain⟨r,hr',rfl⟩:=List.mem_map.1 hc
 rw[fi2,hr r hr']
theorem sy6 [IsFld q]{N:List (List (El q))}{n:Nat}(hl:N.length≤64)(hr: ∀r∈N,r.length=n)(h0:0<n)(hn:n≤64):matE q (N.map vs)=0:=by
 obtain⟨d,hd⟩:=gh1 (q:=q)
 unfold matE
 rw[hd]
 show(if 64<(N.map vs).length then 4 else _)=(0:Int)
 rw[if_neg (by rw[List.length_map];omega),kn4]
 have: ∀L:List (List (El q)),(∀r∈L,r∈N)→wb9 q (nth N 0).length (L.map vs)=0:=by
  intro L
  induction L with
  |nil=>intro _;rfl
  |cons r L ih=>
   intro h
   have h1:r∈N:=h r (by simp)
   have h2:(nth N 0).length=n:=by
    cases N with
    |nil=>cases h1
    |cons a N=>exact hr a (by simp)
   rw[List.map_cons,wb9,if_pos,ih fun x hx=>h x (by simp[hx])]
   unfold rowE
   rw[fi2,hr r h1,h2,if_neg (by omega),if_neg (by omega),if_neg]
   intro h3
   obtain⟨z,hz,h4⟩:=List.any_eq_true.1 h3
   obtain⟨x,hx,rfl⟩:=List.mem_map.1 hz
   rw[x.ok]at h4
   cases h4
 exact this N fun r h=>h
theorem lq3 [IsFld q]{N:List (List (El q))}{n:Nat}(h0:0<N.length)(hl:N.length≤64)(hr: ∀r∈N,r.length=n)(hn0:0<n)(hn:n≤64):
 o24 W 151 [.x (.int .i64 q), .fz b (.sl nl 0 1 (lvs nr (N.map vs)))] []=some (.tup [.own 0 [], .own 1 [], .x (.int .i64 0)],[.sl 0 22 1 (lls 2 (pvR (redR N))), .sl 1 3 1 (ivs (pvP (redR N)))],[]):=by
 have he:=sy6 hl hr hn0 hn
 have hrv:=ru4 hr
 have e1:=fun b nl nr=>or9 (q:=q) (M:=N.map vs) (b:=b) (nl:=nl) (nr:=nr)
 simp only[he]at e1
 have e2:=fun b nl nr=>y80 (b:=b) (nl:=nl) (nr:=nr) (M:=N.map vs) (fun r hr'=>by have:=hrv r hr';omega) (by rw[List.length_map];omega)
 obtain⟨M',P',c',I,hd,e3⟩:=x17 (M0:=N) (n:=n) (R:=N.length) rfl h0 (by omega) (by omega) n 0 N [] (by omega) (RedI.start hr)
 have hout:=I.end' hd hr
 have hpl:=I.pl
 have hfst:=t15 hpl
 have hsnd:=hn3 hpl
 rw[hout]at hfst hsnd
 have hP:pn P'=pvP (redR N):=by rw[←hfst];unfold pn pvP;rw[List.map_map];rfl
 have hPl:P'.length=(redR N).length:=by rw[←hfst,List.length_map]
 have hR:(M'.map vs).take (redR N).length=pvR (redR N):=by
  rw[←hPl,←List.map_take,←hsnd];unfold pvR;rw[List.map_map];rfl
 have hMl:M'.length=N.length:=I.len
 rw[hP]at e3
 have hpl2:=ga8 (redR N)
 have hnil:ivs (pn [])=[]:=rfl
 rw[hnil]at e3
 simp only[Int.natCast_zero]at e3
 have htk:(lls 2 (M'.map vs)).take (redR N).length=lls 2 (pvR (redR N)):=by rw[mm0,hR]
 rw[o10 rfl T151 rfl]
 unfold F151 c151
 simp(disch:=first|omega|fail) only[push_cast,seval,vrl,if_pos,if_neg,e1,e2]
 rw[e3]
 simp(disch:=first|omega|fail) only[push_cast,seval,vrl,if_pos,if_neg,hpl2,htk]
end
section
variable {q p m g:Int} [IsFld q] {t:Tree} {b:Bool} {nl nr n6 n7 n9:Nat} {M:List (List (El q))} {A:List (Nat×List (El q))} {w:Nat} {i8:Nat}
end
section
variable {q p m g:Int} [IsFld q] {t:Tree} {b b':Bool} {nl nl' nr n7 n8:Nat} {M:List (List (El q))} {A:List (Nat×List (El q))} {N:Nat}
end
section
variable {q:Int} [IsFld q] {b b':Bool} {nl nl' nr:Nat} {M:List (List (El q))} {y:List (El q)} {n R:Nat}
section
variable {T5:Tree} {c at' n0:Nat}
end
end
section
variable {q:Int} {b b':Bool} {nl nl' nr e:Nat}
end
section
variable {α:Type} {n:Nat}
end
section
variable {q:Int} [IsFld q] {b b':Bool} {nl nl' nr:Nat} {M:List (List (El q))} {n:Nat}
end
section
variable {q:Int} {b b':Bool} {nl nl' nr e:Nat}
end
end Go.Proofs.Ytmhbpecdpiapgaa
namespace Go.Alg
section
variable {K:Type} [FK K]
end
end Go.Alg
namespace Go.Proofs.Ytmhbpecdpiapgaa
open Go.Am Go.Vm Go.Alg
section
variable {q:Int} [h:IsFld q]
theorem mc5(x:El q): ∀n:Nat,(pw x n).v=powI q x.v n
 |0=>rfl
 |n+1=>by rw[pw,ym6,mc5 x n,powI]
theorem v_pw(x:El q)(n:Nat):fpow q x.v n=(pw x n).v:=by
 obtain⟨p,m,g,mod,hn⟩:=h.ok
 obtain⟨hf,t,_⟩:=jj8 hn
 rw[mc5]
 cases n with
 |zero=>
  rw[fpow,x.ok]
  show(bif !true||((x.v==0)&&decide (((0:Nat):Int)<0))then _ else _)=_
  rw[decide_eq_false (by omega),Bool.and_false];rfl
 |succ n=>exact(v22 t hf.q2 ⟨x.lo,x.hi⟩ (n+1) (by omega)).symm
end
theorem sk4{A:Bool→Nat→Bool→Nat→Nat→Prop}(h: ∀b nl b' nl',∃n,A b nl b' nl' n): ∃F:Bool→Nat→Bool→Nat→Nat,∀b nl b' nl',A b nl b' nl' (F b nl b' nl'):=
 ⟨fun b nl b' nl'=>Classical.choose (h b nl b' nl'),fun b nl b' nl'=>Classical.choose_spec (h b nl b' nl')⟩
section
variable {q:Int} [IsFld q] {b b':Bool} {nl nl':Nat} {P:List (El q×El q)} {k:Nat}
theorem y91{X:List (El q)}{U:List (Option (El q))}{k:Nat}(hn:X.Nodup)(hX1:1≤X.length)(hX:X.length≤64)(hU:U.length=X.length)(k1:1≤k)(k2:k≤X.length):wrdE q (vs X) k (ws U)=0:=by
 unfold wrdE
 rw[if_pos (la8 hn hX1 hX (by omega) (by omega)),if_neg (by rw[u67,fi2];omega),p09,if_neg (by decide)]
end
section
variable {q p m g:Int} [IsFld q] {t:Tree} {b b' b2:Bool} {nl nl' nl2:Nat} {a:List (El q)} {X:List (El q)} {U:List (Option (El q))}
end
section
variable {K:Type} [FK K]
end
section
variable {q p m g:Int} [IsFld q] {t:Tree} {b b':Bool} {nl nl':Nat} {c:List (El q)} {top:El q}
end
section
variable {q p m g:Int} {t:Tree} {b:Bool} {nl nr:Nat} {M:List (List Int)}
end
section
variable {q n:Int} {nl nr:Nat} {M:List (List Int)}
end
section
variable {q p m g:Int} [IsFld q] {t:Tree} {b b':Bool} {nl nl' nr n7 n8:Nat} {M:List (List (El q))} {A:List (Nat×List (El q))} {N:Nat}
theorem tc4{α:Type}(A:List (Nat×α))(c:Nat):((pvP A).any fun y=>decide (y=(c:Int)))=A.any fun a=>a.1==c:=by
 unfold pvP
 rw[List.any_map]
 congr 1
 funext a
 show decide ((a.1:Int)=(c:Int))=(a.1==c)
 by_cases h:a.1=c
 ·rw[h,decide_eq_true rfl];simp
 ·rw[decide_eq_false (by omega)];symm;simpa using h
end
section
variable {q:Int} {b:Bool} {nl nr n6 n7:Nat}
section
variable [IsFld q] {A:List (Nat×List (El q))} {N:Nat} {K:List (List Int)}
theorem up4(hA: ∀a∈A,a.2.length=N∧a.1<N)(hAl:A.length≤1000)(hN:N≤900){c:Nat}(hc:c<N){T9:Tree}:
 ∀(n k:Nat) (x:List (El q)),k+n=A.length→x.length=N→ ∀ks,
  vgoL W ⟨h112,[.tmp 4, .tmp 5],0⟩ [0,1,6,7,9,11,12,13,39,40,54,55,56] c112L0 (.blk 2 [0,1,6,7,9,11,13,39,40]::ks) [(0, .x (.int .i64 q)),(1, .fz b (.sl nl 0 1 (lvs nr K))),(6, .own 0 []),(7, .own 1 []),(9, .fz true (pF q)),(11, .own 2 []),(12, .x (.int .i64 c)),(13, .own 3 []),(39, .x (.int .i64 N)),(40, .x (.int .i64 c)),(54, .own 1 []),(55, .x (.int .i64 A.length)),(56, .x (.int .i64 k))] [.sl n6 22 1 (lls 2 (pvR A)), .sl n7 3 1 (ivs (pvP A)),T9, .sl 0 3 1 (ivs (vs x))]=
   vgo W ⟨h112,[.tmp 4, .tmp 5],0⟩ ks (VFr.of [(0, .x (.int .i64 q)),(1, .fz b (.sl nl 0 1 (lvs nr K))),(6, .own 0 []),(7, .own 1 []),(9, .fz true (pF q)),(11, .own 2 []),(13, .own 3 []),(39, .x (.int .i64 N)),(40, .x (.int .i64 c))]) [.sl n6 22 1 (lls 2 (pvR A)), .sl n7 3 1 (ivs (pvP A)),T9, .sl 0 3 1 (ivs (vs (setN c (A.drop k) x)))]
 |0,k,x,hk,hx,ks=>by
  have h1:=nu3 A
  rw[oh9 (by omega),setN,sb5 c112L0.eq_def]
  simp(disch:=first|omega|fail) only[push_cast,seval,vrl,if_pos,if_neg,h1]
 |n+1,k,x,hk,hx,ks=>by
  obtain⟨a,ha⟩:=ge6 (l:=A) (i:=k) (by omega)
  obtain⟨hal,hap⟩:=hA a (List.mem_of_getElem? ha)
  have ih:=up4 hA hAl hN hc (T9:=T9) n (k+1) (x.set a.1 (-wf a.2 c)) (by omega) (by rw[List.length_set];exact hx) ks
  have h1:=nu3 A
  have h2:=ga8 A
  have h3:=x08 ha
  have h4:=bx6 ha
  have h5:=iva (l:=a.2) (i:=c) (by omega)
  have hs:=g52 x a.1 (-wf a.2 c)
  rw[tg5]at hs
  rw[Int.natCast_add,Int.natCast_one]at ih
  rw[i62 ha,setN,←ih,sb5 c112L0.eq_def]
  simp(disch:=first|omega|fail) only[push_cast,seval,vrl,if_pos,if_neg,h1,h2,h3,h4,h5,hs]
theorem lu0{α:Type}(A:List (Nat×α))(c:Nat):((pvP A).any fun y=>decide ((c:Int)=y))=A.any fun a=>a.1==c:=by
 rw[←tc4]
 congr 1
 funext y
 exact decide_eq_decide.2 eq_comm
theorem xl7(hA: ∀a∈A,a.2.length=N∧a.1<N)(hAl:A.length≤1000)(hN:N≤900)(hK:0<K.length)(hK0:(nth K 0).length=N):
 ∀(d c:Nat) (L:List (List (El q))),c+d=N→L.length≤c→ ∀ks,
  vgoL W ⟨h112,[.tmp 4, .tmp 5],0⟩ [0,1,6,7,9,11,39,40] c112L1 (.blk 0 [0,11]::ks) [(0, .x (.int .i64 q)),(1, .fz b (.sl nl 0 1 (lvs nr K))),(6, .own 0 []),(7, .own 1 []),(9, .fz true (pF q)),(11, .own 2 []),(39, .x (.int .i64 N)),(40, .x (.int .i64 c))] [.sl n6 22 1 (lls 2 (pvR A)), .sl n7 3 1 (ivs (pvP A)), .sl 1 22 1 (lls 2 (L.map vs))]=
   vgo W ⟨h112,[.tmp 4, .tmp 5],0⟩ ks (VFr.of [(0, .x (.int .i64 q)),(11, .own 2 [])]) [.sl n6 22 1 (lls 2 (pvR A)), .sl n7 3 1 (ivs (pvP A)), .sl 1 22 1 (lls 2 ((L++ez9 N A d c).map vs))]
 |0,c,L,hc,hL,ks=>by
  rw[ez9,List.append_nil,sb5 c112L1.eq_def]
  simp(disch:=first|omega|fail) only[push_cast,seval,vrl,if_pos,if_neg]
 |d+1,c,L,hc,hL,ks=>by
  have IH:=xl7 hA hAl hN hK hK0 d (c+1)
  have h1:=nu3 A
  have h2:=ga8 A
  have e1:=fun b nl=>o94 (b:=b) (nl:=nl) (l:=pvP A) (x:=(c:Int)) (by omega)
  rw[lu0]at e1
  rw[ez9]
  by_cases hin:(A.any fun a=>a.1==c)=true
  ·rw[if_pos hin]
   rw[hin]at e1
   have ih:=IH L (by omega) (by omega) ks
   rw[Int.natCast_add,Int.natCast_one]at ih
   rw[←ih,sb5 c112L1.eq_def]
   simp(disch:=first|omega|fail) only[push_cast,seval,vrl,if_pos,if_neg,e1]
  ·rw[if_neg hin]
   have hin':(A.any fun a=>a.1==c)=false:=Bool.eq_false_iff.mpr hin
   rw[hin']at e1
   have ih:=IH (L++[xRow N c A]) (by omega) (by simp;omega) ks
   rw[List.append_assoc,List.singleton_append,List.map_append,Int.natCast_add,Int.natCast_one]at ih
   obtain⟨k0,hk0⟩:=ge6 (l:=K) (i:=0) hK
   have h3:=lat (nl:=nr) hk0
   have h4:=xr8 hk0
   rw[h4]at hK0
   have e:=fun T9 ks=>up4 (K:=K) (b:=b) (nl:=nl) (nr:=nr) (n6:=n6) (n7:=n7) (T9:=T9) hA hAl hN (c:=c) (by omega) A.length 0 ((List.replicate N (0:El q)).set c 1) (by omega) (by simp) ks
   have hz:(List.replicate N (0:Int)).set c 1=vs ((List.replicate N (0:El q)).set c 1):=by rw[←g52,←qj2];rfl
   simp only[Int.natCast_zero,List.take_zero,List.drop_zero,rp2,lz6,x25,List.map_nil,List.length_nil]at e
   have hx:setN c A ((List.replicate N (0:El q)).set c 1)=xRow N c A:=rfl
   rw[hx]at e
   rw[←ih,sb5 c112L1.eq_def]
   simp(disch:=first|omega|fail) only[push_cast,seval,vrl,if_pos,if_neg,e1,h2,h3,hK0,hz]
   rw[e]
   simp(disch:=first|omega|fail) only[push_cast,seval,vrl,if_pos,if_neg]
end
theorem ss9 [IsFld q]{N:List (List (El q))}{n:Nat}(h0:0<N.length)(hl:N.length≤64)(hr: ∀r∈N,r.length=n)(hn0:0<n)(hn:n≤64):
 o24 W 112 [.x (.int .i64 q), .fz b (.sl nl 0 1 (lvs nr (N.map vs)))] []=some (.tup [.own 0 [], .x (.int .i64 0)],[.sl (if ez9 n (redR N) n 0=[]then 1 else 0) 22 1 (lls 2 (pvR (zt5 n N)))],[]):=by
 have e1:=fun b nl nr=>lq3 (b:=b) (nl:=nl) (nr:=nr) h0 hl hr hn0 hn
 obtain⟨r1,r2,r3⟩:=bi2 hr
 have hAA: ∀a∈redR N,a.2.length=n∧a.1<n:=fun a ha=>⟨r2 a ha,r1.lt (a.1,wf a.2) (xe5.2 ⟨a,ha,rfl⟩)⟩
 have hAl:(redR N).length≤1000:=by have:=ew4 hr;omega
 obtain⟨k0,hk0⟩:=ge6 (l:=N) (i:=0) h0
 have h3:=mva (nl:=nr) hk0
 have hk0l:=hr k0 (List.mem_of_getElem? hk0)
 have e2:=fun n6 n7 ks=>xl7 (K:=N.map vs) (b:=b) (nl:=nl) (nr:=nr) (n6:=n6) (n7:=n7) hAA hAl (by omega) (by rw[List.length_map];exact h0) (by rw[kn4,xr8 hk0];exact hk0l) n 0 [] (by omega) (by simp) ks
 simp only[List.nil_append]at e2
 simp only[Int.natCast_zero,List.take_zero,List.drop_zero,rp2,lz6,x25,List.map_nil,List.length_nil]at e2
 have hnl:=to9 n (redR N) n 0
 rw[o10 rfl T112 rfl]
 unfold F112 c112
 simp(disch:=first|omega|fail) only[push_cast,seval,vrl,if_pos,if_neg,e1,h3,hk0l]
 rw[e2]
 by_cases hT:ez9 n (redR N) n 0=[]
 ·have e3:=fun b nl=>e58 (q:=q) (b:=b) (nl:=nl) (by have:=sy6 (q:=q) (N:=[]) (n:=n) (by simp) (by simp) hn0 hn;exact this)
  have h0:zt5 n N=[]:=by unfold zt5;rw[hT];rfl
  rw[if_pos hT,hT,h0,List.map_nil,x25]
  simp(disch:=first|omega|fail) only[push_cast,seval,vrl,if_pos,if_neg,e3]
  rfl
 ·have hT0:0<(ez9 n (redR N) n 0).length:=List.length_pos_iff.2 hT
  have e3:=fun b nl nr=>lq3 (b:=b) (nl:=nl) (nr:=nr) hT0 (by omega) (sg4 n (redR N) n 0) hn0 hn
  rw[if_neg hT]
  simp(disch:=first|omega|fail) only[push_cast,seval,vrl,if_pos,if_neg,e3]
  rfl
end
section
variable {q n:Int} {nl nr:Nat} {M:List (List Int)}
end
section
variable {q:Int} [IsFld q] {k nl nr:Nat} {N:List (List (El q))}
end
section
variable {b b':Bool} {nl nl' nr nr':Nat}
theorem ft0{l k:List Int}(hl:l.length≤9223372036854775807)(hk:k.length=l.length): ∀(d i:Nat),i+d=l.length→ ∀ks,
 vgoL W ⟨hNo,[.tmp 4],0⟩ [0,1,5] c19L0 (.blk 0 []::ks) [(0, .fz b (.sl nl 0 1 (ivs l))),(1, .fz b' (.sl nl' 0 1 (ivs k))),(5, .x (.int .i64 i))] []=
  if l.drop i=k.drop i then vgo W ⟨hNo,[.tmp 4],0⟩ ks (VFr.of []) []else some (.x (.bool false),[],[])
 |0,i,hi,ks=>by
  rw[oh9 (by omega),oh9 (by omega),if_pos rfl,sb5 c19L0.eq_def]
  simp(disch:=first|omega|fail) only[push_cast,seval,vrl,if_pos,if_neg]
 |d+1,i,hi,ks=>by
  have ih:=ft0 hl hk d (i+1) (by omega) ks
  obtain⟨a,ha⟩:=ge6 (l:=l) (i:=i) (by omega)
  obtain⟨c,hc⟩:=ge6 (l:=k) (i:=i) (by omega)
  have h1:=iat ha
  have h2:=iat hc
  rw[i62 ha,i62 hc]
  rw[Int.natCast_add,Int.natCast_one]at ih
  by_cases h:a=c
  ·have hiff:(a::l.drop (i+1)=c::k.drop (i+1))=(l.drop (i+1)=k.drop (i+1)):=by rw[h];simp
   simp only[hiff]
   rw[←ih,sb5 c19L0.eq_def]
   simp(disch:=first|omega|fail) only[push_cast,seval,vrl,if_pos,if_neg,h1,h2,h]
  ·rw[if_neg (by intro e;exact h (List.cons.inj e).1),sb5 c19L0.eq_def]
   simp(disch:=first|omega|fail) only[push_cast,seval,vrl,if_pos,if_neg,h1,h2,nb8 h]
theorem nb2{l k:List Int}(hl:l.length≤9223372036854775807):o24 W 19 [.fz b (.sl nl 0 1 (ivs l)), .fz b' (.sl nl' 0 1 (ivs k))] []=some (.x (.bool (decide (l=k))),[],[]):=by
 by_cases hk:k.length=l.length
 ·have e:=fun ks=>ft0 (b:=b) (b':=b') (nl:=nl) (nl':=nl') hl hk l.length 0 (by omega) ks
  simp only[Int.natCast_zero,List.take_zero,List.drop_zero,rp2,lz6,x25,List.map_nil,List.length_nil]at e
  rw[o10 rfl T19 rfl]
  unfold F19 c19
  simp(disch:=first|omega|fail) only[push_cast,seval,vrl,if_pos,if_neg,hk]
  rw[e]
  by_cases h:l=k
  ·rw[if_pos h,decide_eq_true h]
   simp(disch:=first|omega|fail) only[push_cast,seval,vrl,if_pos,if_neg]
  ·rw[if_neg h,decide_eq_false h]
 ·have h: ¬l=k:=fun e=>hk (by rw[e])
  have h8: ¬(l.length:Int)=(k.length:Int):=by omega
  rw[decide_eq_false h,o10 rfl T19 rfl]
  unfold F19 c19
  simp(disch:=first|omega|fail) only[push_cast,seval,vrl,if_pos,if_neg,nb8 h8]
section
variable {q:Int} [IsFld q]
end
end
section
variable {q n q' n' e:Int} {nl nr nl' nr':Nat} {M M':List (List Int)}
end
section
variable {q:Int} [IsFld q] {k nl nr nl2:Nat} {b:Bool} {N:List (List (El q))} {M:List (List Int)} {w:List Int}
end
section
variable {k:FuncId} {p:Int→Bool} {l:List Int} {nl:Nat}
end
section
variable {q:Int} [IsFld q] {k nl nr nl2:Nat} {b:Bool} {N:List (List (El q))}
end
def fewQ(q:Int):Nat→Int→Bool
 |0,_=>true
 |d+1,n=>if 4096<n*q then false else fewQ q d (n*q)
theorem qe6{p s:List Int}{a:Int}{i:Nat}(hi:p.length=i):(ivs (p++a::s))[i]? =some (.v (.int .i64 a)):=iat (by subst hi;simp)
section
variable {q:Int} {nl:Nat}
end
section
variable {q:Int}
theorem rr1(h1:0≤q)(h2:q≤64){K:Nat}(hK:K≤1000): ∀(d i:Nat) (n:Int),i+d=K→0≤n→n≤4096→ ∀ks,
 vgoL W ⟨hNo,[.tmp 4],0⟩ [0,5,6,7] c124L0 (.blk 0 []::ks) [(0, .x (.int .i64 q)),(5, .x (.int .i64 n)),(6, .x (.int .i64 K)),(7, .x (.int .i64 i))] []=if fewQ q d n=true then vgo W ⟨hNo,[.tmp 4],0⟩ ks (VFr.of []) []else some (.x (.bool false),[],[])
 |0,i,n,hi,h0,hn,ks=>by
  rw[fewQ,if_pos rfl,sb5 c124L0.eq_def]
  simp(disch:=first|omega|fail) only[push_cast,seval,vrl,if_pos,if_neg]
 |d+1,i,n,hi,hn,hn2,ks=>by
  have hb0:0≤n*q:=Int.mul_nonneg hn h1
  have hb1:n*q≤4096*64:=Int.mul_le_mul hn2 h2 h1 (by decide)
  have hb2:n*q≤262144:=by omega
  rw[fewQ]
  by_cases h:4096<n*q
  ·rw[if_pos h,if_neg (by decide),sb5 c124L0.eq_def]
   simp(disch:=first|omega|fail) only[push_cast,seval,vrl,if_pos,if_neg,dec_lt h]
  ·have ih:=rr1 h1 h2 hK d (i+1) (n*q) (by omega) hb0 (by omega) ks
   rw[Int.natCast_add,Int.natCast_one]at ih
   rw[if_neg h,←ih,sb5 c124L0.eq_def]
   simp(disch:=first|omega|fail) only[push_cast,seval,vrl,if_pos,if_neg,cw6 (Int.not_lt.1 h)]
theorem ln0(h1:0≤q)(h2:q≤64){k:Nat}(hk:k≤1000):o24 W 124 [.x (.int .i64 q), .x (.int .i64 k)] []=some (.x (.bool (fewQ q k 1)),[],[]):=by
 have e:=fun ks=>rr1 h1 h2 hk k 0 1 (by omega) (by decide) (by decide) ks
 simp only[Int.natCast_zero,List.take_zero,List.drop_zero,rp2,lz6,x25,List.map_nil,List.length_nil]at e
 rw[o10 rfl T124 rfl]
 unfold F124 c124
 simp(disch:=first|omega|fail) only[push_cast,seval,vrl,if_pos,if_neg]
 rw[e]
 cases hz:fewQ q k 1 with
 |true=>
  rw[if_pos rfl]
  simp(disch:=first|omega|fail) only[push_cast,seval,vrl,if_pos,if_neg]
 |false=>rw[if_neg (by decide)]
def ky7(q:Int)(xs:List Int)(k:Int)(w:List Int):Int:=if wrdE q xs k w=0 then(if(w.any fun y=>decide (y= -1))=true then 2 else 0)else wrdE q xs k w
variable {b b':Bool} {nl nl':Nat} {xs w:List Int} {k:Int}
theorem xb3(h:wrdE q xs k w=0):w.length≤64:=by
 unfold wrdE at h
 split at h
 ·rename_i h1
  obtain⟨_,X,rfl,_,_,hX,_,_⟩:=z24 h1
  split at h
  ·cases h
  ·rename_i h2;rw[fi2]at h2;omega
 ·exact absurd h ‹_›
theorem di2(hx:xs.length≤9223372036854775807)(hw:w.length≤9223372036854775807):
 o24 W 123 [.x (.int .i64 q), .fz b (.sl nl 0 1 (ivs xs)), .x (.int .i64 k), .fz b' (.sl nl' 0 1 (ivs w))] []=some (.x (.int .i64 (ky7 q xs k w)),[],[]):=by
 have e1:=fun b nl b' nl'=>hd9 (q:=q) (b:=b) (nl:=nl) (b':=b') (nl':=nl') (k:=k) hx hw
 rw[o10 rfl T123 rfl]
 unfold F123 c123 ky7
 by_cases h:wrdE q xs k w=0
 ·have hs:=xb3 h
  have e2:=fun b nl=>o94 (b:=b) (nl:=nl) (x:= -1) (l:=w) (by omega)
  rw[←z44]at e2
  rw[if_pos h]
  cases hc:(w.any fun y=>decide (y= -1))with
  |true=>
   rw[hc]at e2
   rw[if_pos rfl]
   simp(disch:=first|omega|fail) only[push_cast,seval,vrl,if_pos,if_neg,e1,h,e2]
  |false=>
   rw[hc]at e2
   rw[if_neg (by decide)]
   simp(disch:=first|omega|fail) only[push_cast,seval,vrl,if_pos,if_neg,e1,h,e2]
 ·rw[if_neg h]
  simp(disch:=first|omega|fail) only[push_cast,seval,vrl,if_pos,if_neg,e1,nb8 h]
end
theorem q_hi{q:Int} [hq:IsFld q]:q≤64:=by
 obtain⟨p,m,g,mod,hn⟩:=hq.ok
 exact(jj8 hn).1.q64
section
variable {q:Int} [IsFld q]
def elE(q:Int) [IsFld q](a:Int):El q:=if h:0≤a∧a<q then⟨a,h.1,h.2⟩else 0
theorem sx0{a:Int}(h:0≤a∧a<q):(elE q a).v=a:=by unfold elE;rw[dif_pos h]
theorem c87{l:List Int}(h:digS q l):vs (l.map (elE q))=l:=by
 unfold vs
 rw[List.map_map]
 conv=>rhs;rw[←List.map_id l]
 exact List.map_congr_left fun a ha=>sx0 (h a ha)
theorem oa6(z:List (El q)):digS q (vs z):=fun a ha=>by
 obtain⟨x,_,rfl⟩:=List.mem_map.1 ha
 exact⟨x.lo,x.hi⟩
def yv5(z:List (El q)):List (El q):=(qr3 q (vs z)).1.map (elE q)
theorem z55: ∃p:Nat,q=(p:Int)∧2≤p∧p≤64:=⟨q.toNat,by have:=aw0 (q:=q);omega,by have:=aw0 (q:=q);omega,by have:=q_hi (q:=q);omega⟩
theorem mw7(z:List (El q)):vs (yv5 z)=(qr3 q (vs z)).1:=by
 obtain⟨p,hp,h2,_⟩:=z55 (q:=q)
 refine c87 ?_
 have:=(jd2 (q:=p) (by omega) (l:=vs z) (by rw[←hp];exact oa6 z)).1
 rwa [←hp]at this
theorem l71(z:List (El q)):(yv5 z).length=z.length:=by
 have:=congrArg List.length (mw7 z)
 rwa [fi2,pd1,fi2]at this
def adNr(P:List (El q×El q))(r:Int)(z:List (El q))(acc:List (List (El q))):List (List (El q)):=if(offK z P:Int)≤r then acc++[z]else acc
def nrL(P:List (El q×El q))(r:Int):Nat→List (El q)→List (List (El q))→List (List (El q))
 |0,z,acc=>adNr P r z acc
 |n+1,z,acc=>nrL P r n (yv5 z) (adNr P r z acc)
theorem az7(P:List (El q×El q))(r:Int)(z:List (El q))(acc:List (List (El q))):(adNr P r z acc).length≤acc.length+1:=by
 unfold adNr;split<;>simp
theorem nc8{p:Nat}: ∀(d:Nat) (n:Nat),fewQ (p:Int) d (n:Int)=true→n≤4096→n*p^d≤4096
 |0,n,_,hn=>by simpa using hn
 |d+1,n,h,hn=>by
  rw[fewQ]at h
  split at h
  ·cases h
  ·rename_i h1
   rw[←Int.natCast_mul]at h h1
   have:=nc8 d (n*p) h (by omega)
   rw[Nat.mul_assoc,←Nat.pow_succ']at this
   exact this
structure Left (q:Int) (p:Nat) (n:Nat) (z:List (El q)):Prop where
 e:q=(p:Int)
 h:valS p (vs z)+n+1=p^z.length
theorem Left.last{p:Nat}{z:List (El q)}(h:Left q p 0 z):(qr3 q (vs z)).2=false:=by
 have hq:=aw0 (q:=q)
 have h1:=jd2 (q:=p) (by have:=h.e;omega) (l:=vs z) (by rw[←h.e];exact oa6 z)
 rw[←h.e]at h1
 cases hb:(qr3 q (vs z)).2 with
 |false=>rfl
 |true=>
  have h2:=h1.2
  rw[hb,if_pos rfl]at h2
  have h3:=uc1 (q:=p) (l:=(qr3 q (vs z)).1) (by rw[←h.e];exact h1.1)
  rw[pd1,fi2]at h3
  have:=h.h
  omega
theorem Left.more{p n:Nat}{z:List (El q)}(h:Left q p (n+1) z):(qr3 q (vs z)).2=true∧Left q p n (yv5 z):=by
 have hq:=aw0 (q:=q)
 have h1:=jd2 (q:=p) (by have:=h.e;omega) (l:=vs z) (by rw[←h.e];exact oa6 z)
 rw[←h.e]at h1
 have h0:=h.h
 cases hb:(qr3 q (vs z)).2 with
 |false=>
  have h2:=h1.2
  rw[hb,if_neg (by decide),fi2]at h2
  omega
 |true=>
  have h2:=h1.2
  rw[hb,if_pos rfl]at h2
  exact⟨rfl,h.e,by rw[mw7,l71];omega⟩
theorem Left.start{p:Nat}(e:q=(p:Int))(K:Nat):Left q p (p^K-1) (List.replicate K (0:El q)):=by
 have hq:=aw0 (q:=q)
 refine⟨e, ?_⟩
 have h0: ∀k:Nat,valS p (vs (List.replicate k (0:El q)))=0:=by
  intro k
  induction k with
  |zero=>rfl
  |succ k ih=>rw[List.replicate_succ,show vs ((0:El q)::List.replicate k 0)=0::vs (List.replicate k 0)from rfl,valS,ih];simp
 rw[h0,List.length_replicate]
 have:0<p^K:=Nat.pow_pos (by omega)
 omega
end
section
variable {q p m g:Int} [IsFld q] {t:Tree} {b b' b2:Bool} {nl nl' nl2:Nat} {X Y:List (El q)} {r:Int} {K:Nat}
theorem lk9{z:List (El q)}(hz:z.length≤128)(hY:Y.length=X.length)(hX:X.length≤1000){T:Tree}: ∀(d i e:Nat),i+d=X.length→e≤i→ ∀ks,
 vgoL W ⟨h50,[.tmp 10, .tmp 11],0⟩ [0,1,2,3,4,13,14,15,35,36,37] c50L0 (.blk 2 [0,1,2,3,4,13,14,15]::ks) [(0, .x (.int .i64 q)),(1, .fz b (.sl nl 0 1 (ivs (vs X)))),(2, .x (.int .i64 K)),(3, .fz b' (.sl nl' 0 1 (ivs (vs Y)))),(4, .x (.int .i64 r)),(13, .own 0 []),(14, .own 1 []),(15, .x (.int .i64 e)),(35, .fz b (.sl nl 0 1 (ivs (vs X)))),(36, .x (.int .i64 X.length)),(37, .x (.int .i64 i))] [T, .sl nl2 3 1 (ivs (vs z))]=
  vgo W ⟨h50,[.tmp 10, .tmp 11],0⟩ ks (VFr.of [(0, .x (.int .i64 q)),(1, .fz b (.sl nl 0 1 (ivs (vs X)))),(2, .x (.int .i64 K)),(3, .fz b' (.sl nl' 0 1 (ivs (vs Y)))),(4, .x (.int .i64 r)),(13, .own 0 []),(14, .own 1 []),(15, .x (.int .i64 (offK z ((X.zip Y).drop i)+e:Nat)))]) [T, .sl nl2 3 1 (ivs (vs z))]
 |0,i,e,hi,he,ks=>by
  rw[oh9 (by rw[List.length_zip];omega),show offK z []=0 from rfl,Nat.zero_add,sb5 c50L0.eq_def]
  simp(disch:=first|omega|fail) only[push_cast,seval,vrl,if_pos,if_neg]
 |d+1,i,e,hi,he,ks=>by
  obtain⟨x,hx⟩:=ge6 (l:=X) (i:=i) (by omega)
  obtain⟨y,hy⟩:=ge6 (l:=Y) (i:=i) (by omega)
  have hp:(X.zip Y)[i]? =some (x,y):=by rw[List.getElem?_zip_eq_some];exact⟨hx,hy⟩
  have h1:=iat (show(vs X)[i]? =some x.v by unfold vs;rw[List.getElem?_map,hx];rfl)
  have h2:=iat (show(vs Y)[i]? =some y.v by unfold vs;rw[List.getElem?_map,hy];rfl)
  have e1:=fun b nl=>yu6 (b:=b) (nl:=nl) (a:=z) (x:=x) hz
  have ih:=lk9 hz hY hX (T:=T) d (i+1) (e+if ev z x=y then 0 else 1) (by omega) (by split<;>omega) ks
  have c1:((i+1:Nat):Int)=(i:Int)+1:=by omega
  rw[c1]at ih
  rw[i62 hp,di6]
  rw[show offK z ((X.zip Y).drop (i+1))+(e+if ev z x=y then 0 else 1)=(if ev z x=y then 0 else 1)+offK z ((X.zip Y).drop (i+1))+e by omega]at ih
  rw[←ih,sb5 c50L0.eq_def]
  by_cases h:ev z x=y
  ·rw[if_pos h,Nat.add_zero]
   have hv:(ev z x).v=y.v:=by rw[h]
   simp(disch:=first|omega|fail) only[push_cast,seval,vrl,if_pos,if_neg,h1,h2,e1,hv]
  ·rw[if_neg h,show((e+1:Nat):Int)=(e:Int)+1 by omega]
   have hv: ¬(ev z x).v=y.v:=fun e=>h (El.ext' e)
   simp(disch:=first|omega|fail) only[push_cast,seval,vrl,if_pos,if_neg,h1,h2,e1,nb8 hv]
theorem eu4{xs ws:List Int}(hq:q≤1000000){T:Tree}: ∀(i:Nat) (p s s':List Int),p.length=i→(p++s).length≤1000000→(∀a∈p,0≤a∧a<q)→qr3 q s=(s',false)→ ∃j:Int,(0≤j↔(qr3 q (p++s)).2=true)∧ ∀ks,
 vgoL W ⟨h50,[.tmp 10, .tmp 11],0⟩ [0,1,2,3,4,13,14,20] c50L1 (.blk 4 [0,1,2,3,4,13,14,20]::ks) [(0, .x (.int .i64 q)),(1, .fz b (.sl nl 0 1 (ivs xs))),(2, .x (.int .i64 K)),(3, .fz b' (.sl nl' 0 1 (ivs ws))),(4, .x (.int .i64 r)),(13, .own 0 []),(14, .own 1 []),(20, .x (.int .i64 ((i:Int)-1)))] [T, .sl nl2 3 1 (ivs (p++s'))]=
  vgo W ⟨h50,[.tmp 10, .tmp 11],0⟩ ks (VFr.of [(0, .x (.int .i64 q)),(1, .fz b (.sl nl 0 1 (ivs xs))),(2, .x (.int .i64 K)),(3, .fz b' (.sl nl' 0 1 (ivs ws))),(4, .x (.int .i64 r)),(13, .own 0 []),(14, .own 1 []),(20, .x (.int .i64 j))]) [T, .sl nl2 3 1 (ivs (qr3 q (p++s)).1)]
 |0,p,s,s',hi,hn,hd,hs=>by
  obtain rfl:p=[]:=List.eq_nil_of_length_eq_zero hi
  rw[List.nil_append,List.nil_append,hs]
  refine⟨-1,by simp,fun ks=> ?_⟩
  rw[sb5 c50L1.eq_def]
  simp(disch:=first|omega|fail) only[push_cast,seval,vrl,if_pos,if_neg]
 |i+1,p,s,s',hi,hn,hd,hs=>by
  obtain⟨p',a,rfl⟩: ∃p' a,p=p'++[a]:=⟨p.dropLast,p.getLast (by intro h;subst h;simp at hi),(List.dropLast_concat_getLast _).symm⟩
  have hp'l:p'.length=i:=by simpa using hi
  have ha:=hd a (by simp)
  rw[List.append_assoc,List.singleton_append]at hn⊢
  rw[List.append_assoc,List.singleton_append]
  have hsl:s'.length=s.length:=by have:=pd1 q s;rw[hs]at this;exact this
  have hlen:(p'++a::s').length≤1000000:=by simp[hsl]at hn⊢;omega
  have hi2:i<(p'++a::s').length:=by simp;omega
  have l1:=qe6 (s:=s') (a:=a) hp'l
  have l2:=qe6 (s:=s') (a:=a+1) hp'l
  have t1:=ri5 (s:=s') (a:=a) (b:=a+1) hp'l
  have t2:=ri5 (s:=s') (a:=a+1) (b:=0) hp'l
  have e2:(p'++(a+1)::s').length=(p'++a::s').length:=by simp
  have hw:((i+1:Nat):Int)-1=(i:Int):=by omega
  rw[hw]
  by_cases hlt:a+1<q
  ·have hnx:qr3 q (a::s)=((a+1)::s',true):=by rw[qr3,hs];simp only;rw[if_pos hlt]
   rw[vq6 hnx p']
   refine⟨i,⟨fun _=>rfl,fun _=>by omega⟩,fun ks=> ?_⟩
   rw[sb5 c50L1.eq_def]
   simp(disch:=first|omega|fail) only[push_cast,seval,vrl,if_pos,if_neg,l1,l2,t1,e2,dec_lt hlt]
  ·have hnx:qr3 q (a::s)=(0::s',false):=by rw[qr3,hs];simp only;rw[if_neg hlt]
   obtain⟨j,j1,j2⟩:=eu4 hq (T:=T) i p' (a::s) (0::s') hp'l hn (fun c hc=>hd c (by simp[hc])) hnx
   refine⟨j,j1,fun ks=> ?_⟩
   rw[←j2 ks,sb5 c50L1.eq_def]
   simp(disch:=first|omega|fail) only[push_cast,seval,vrl,if_pos,if_neg,l1,l2,t1,t2,e2,cw6 (Int.not_lt.1 hlt)]
theorem b04(hY:Y.length=X.length)(hX:X.length≤64)(hK:K≤64){pp:Nat}: ∀(n:Nat) (z:List (El q)) (acc:List (List (El q))),Left q pp n z→z.length=K→acc.length+n≤10000→ ∀ks,
 vgoL W ⟨h50,[.tmp 10, .tmp 11],0⟩ [0,1,2,3,4,13,14] c50L2 (.blk 0 []::ks) [(0, .x (.int .i64 q)),(1, .fz b (.sl nl 0 1 (ivs (vs X)))),(2, .x (.int .i64 K)),(3, .fz b' (.sl nl' 0 1 (ivs (vs Y)))),(4, .x (.int .i64 r)),(13, .own 0 []),(14, .own 1 [])] [.sl 1 22 1 (lls 2 (acc.map vs)), .sl 0 3 1 (ivs (vs z))]=
  some (.tup [.own 0 [], .x (.int .i64 0)],[.sl 1 22 1 (lls 2 ((nrL (X.zip Y) r n z acc).map vs))],[]):=by
 intro n
 have hqh:=q_hi (q:=q)
 have main: ∀(n:Nat) (z:List (El q)) (acc:List (List (El q))),z.length=K→acc.length≤10000→ ∃j:Int,(0≤j↔(qr3 q (vs z)).2=true)∧ ∀ks,
  (0≤j→vgoL W ⟨h50,[.tmp 10, .tmp 11],0⟩ [0,1,2,3,4,13,14] c50L2 (.blk 0 []::ks) [(0, .x (.int .i64 q)),(1, .fz b (.sl nl 0 1 (ivs (vs X)))),(2, .x (.int .i64 K)),(3, .fz b' (.sl nl' 0 1 (ivs (vs Y)))),(4, .x (.int .i64 r)),(13, .own 0 []),(14, .own 1 [])] [.sl 1 22 1 (lls 2 (acc.map vs)), .sl 0 3 1 (ivs (vs z))]=
    vgoL W ⟨h50,[.tmp 10, .tmp 11],0⟩ [0,1,2,3,4,13,14] c50L2 (.blk 0 []::ks) [(0, .x (.int .i64 q)),(1, .fz b (.sl nl 0 1 (ivs (vs X)))),(2, .x (.int .i64 K)),(3, .fz b' (.sl nl' 0 1 (ivs (vs Y)))),(4, .x (.int .i64 r)),(13, .own 0 []),(14, .own 1 [])] [.sl 1 22 1 (lls 2 ((adNr (X.zip Y) r z acc).map vs)), .sl 0 3 1 (ivs (vs (yv5 z)))])∧
  (j<0→vgoL W ⟨h50,[.tmp 10, .tmp 11],0⟩ [0,1,2,3,4,13,14] c50L2 (.blk 0 []::ks) [(0, .x (.int .i64 q)),(1, .fz b (.sl nl 0 1 (ivs (vs X)))),(2, .x (.int .i64 K)),(3, .fz b' (.sl nl' 0 1 (ivs (vs Y)))),(4, .x (.int .i64 r)),(13, .own 0 []),(14, .own 1 [])] [.sl 1 22 1 (lls 2 (acc.map vs)), .sl 0 3 1 (ivs (vs z))]=
    some (.tup [.own 0 [], .x (.int .i64 0)],[.sl 1 22 1 (lls 2 ((adNr (X.zip Y) r z acc).map vs))],[])):=by
  intro n z acc hz hacc
  obtain⟨j,j1,j2⟩:=eu4 (b:=b) (nl:=nl) (b':=b') (nl':=nl') (xs:=vs X) (ws:=vs Y) (r:=r) (K:=K) (nl2:=0) (q:=q) (by omega) (T:= .sl 1 22 1 (lls 2 ((adNr (X.zip Y) r z acc).map vs))) K (vs z) [] [] (by rw[fi2,hz]) (by rw[List.append_nil,fi2];omega) (fun a ha=>oa6 z a ha) rfl
  rw[List.append_nil]at j1
  simp only[List.append_nil]at j2
  rw[←mw7]at j2
  have e1:=fun T ks=>lk9 (b:=b) (nl:=nl) (b':=b') (nl':=nl') (nl2:=0) (r:=r) (K:=K) (z:=z) (X:=X) (Y:=Y) (by omega) hY (by omega) (T:=T) X.length 0 0 (by omega) (by omega) ks
  rw[List.drop_zero,Nat.add_zero]at e1
  simp only[Int.natCast_zero]at e1
  have e2:=fun b nl=>h19 (b:=b) (nl:=nl) (zs:=vs z) (by rw[fi2];omega)
  have hal:(acc.map vs).length=acc.length:=List.length_map _
  refine⟨j,j1,fun ks=>⟨fun hj=> ?_,fun hj=> ?_⟩⟩
  ·rw[sb5 c50L2.eq_def]
   simp(disch:=first|omega|fail) only[push_cast,seval,vrl,if_pos,if_neg]
   rw[e1]
   by_cases h:(offK z (X.zip Y):Int)≤r
   ·have ha:adNr (X.zip Y) r z acc=acc++[z]:=by unfold adNr;rw[if_pos h]
    rw[ha]at j2⊢
    rw[List.map_append,show List.map vs [z]=[vs z]from rfl]at j2⊢
    simp(disch:=first|omega|fail) only[push_cast,seval,vrl,if_pos,if_neg,nl3 h,e2,hal]
    rw[j2]
    simp(disch:=first|omega|fail) only[push_cast,seval,vrl,if_pos,if_neg,cw6 hj]
   ·have ha:adNr (X.zip Y) r z acc=acc:=by unfold adNr;rw[if_neg h]
    rw[ha]at j2⊢
    simp(disch:=first|omega|fail) only[push_cast,seval,vrl,if_pos,if_neg,qc6 (Int.not_le.1 h)]
    rw[j2]
    simp(disch:=first|omega|fail) only[push_cast,seval,vrl,if_pos,if_neg,cw6 hj]
  ·rw[sb5 c50L2.eq_def]
   simp(disch:=first|omega|fail) only[push_cast,seval,vrl,if_pos,if_neg]
   rw[e1]
   by_cases h:(offK z (X.zip Y):Int)≤r
   ·have ha:adNr (X.zip Y) r z acc=acc++[z]:=by unfold adNr;rw[if_pos h]
    rw[ha]at j2⊢
    rw[List.map_append,show List.map vs [z]=[vs z]from rfl]at j2⊢
    simp(disch:=first|omega|fail) only[push_cast,seval,vrl,if_pos,if_neg,nl3 h,e2,hal]
    rw[j2]
    simp(disch:=first|omega|fail) only[push_cast,seval,vrl,if_pos,if_neg,dec_lt hj]
   ·have ha:adNr (X.zip Y) r z acc=acc:=by unfold adNr;rw[if_neg h]
    rw[ha]at j2⊢
    simp(disch:=first|omega|fail) only[push_cast,seval,vrl,if_pos,if_neg,qc6 (Int.not_le.1 h)]
    rw[j2]
    simp(disch:=first|omega|fail) only[push_cast,seval,vrl,if_pos,if_neg,dec_lt hj]
 induction n with
 |zero=>
  intro z acc hL hz hacc ks
  obtain⟨j,j1,j2⟩:=main 0 z acc hz (by omega)
  have hl:=hL.last
  have hj: ¬0≤j:=fun h=>by have:=j1.1 h;rw[hl]at this;cases this
  rw[(j2 ks).2 (by omega),nrL]
 |succ n IH=>
  intro z acc hL hz hacc ks
  obtain⟨j,j1,j2⟩:=main 0 z acc hz (by omega)
  obtain⟨hm,hL'⟩:=hL.more
  have:=az7 (X.zip Y) r z acc
  rw[(j2 ks).1 (j1.2 hm),nrL]
  exact IH (yv5 z) (adNr (X.zip Y) r z acc) hL' (by rw[l71,hz]) (by omega) ks
end
section
variable {q p m g:Int} [IsFld q] {t:Tree} {b b' b2:Bool} {nl nl' nl2:Nat} {X Y:List (El q)} {r:Int} {K:Nat}
theorem de0(V:List (El q)):ws (V.map some)=vs V:=by unfold ws vs;rw[List.map_map];rfl
def g06(P:List (El q×El q))(r:Int)(K:Nat):List (List (El q)):=nrL P r (q.toNat^K-1) (List.replicate K 0) []
theorem d73(h:fewQ q K 1=true):q.toNat^K≤4096:=by
 obtain⟨pp,rfl,_,_⟩:=z55 (q:=q)
 have:=nc8 (p:=pp) K 1 h (by omega)
 rw[Int.toNat_natCast];omega
theorem pa1(K:Nat):Left q q.toNat (q.toNat^K-1) (List.replicate K (0:El q)):=Left.start (by have:=aw0 (q:=q);omega) K
theorem zt1(hn:X.Nodup)(hY:Y.length=X.length)(hX:X.length≤64)(k1:1≤K)(k2:K≤X.length)(hf:fewQ q K 1=true):
 o24 W 50 [.x (.int .i64 q), .fz b (.sl nl 0 1 (ivs (vs X))), .x (.int .i64 K), .fz b' (.sl nl' 0 1 (ivs (vs Y))), .x (.int .i64 r)] []=some (.tup [.own 0 [], .x (.int .i64 0)],[.sl 1 22 1 (lls 2 ((g06 (X.zip Y) r K).map vs))],[]):=by
 have hq:=aw0 (q:=q)
 have hqh:=q_hi (q:=q)
 have hw:ky7 q (vs X) K (vs Y)=0:=by
  have h1:=y91 (U:=Y.map some) (k:=K) hn (by omega) hX (by rw[List.length_map,hY]) k1 k2
  rw[de0]at h1
  unfold ky7
  rw[if_pos h1,if_neg]
  intro hc
  obtain⟨z,hz,h2⟩:=List.any_eq_true.1 hc
  obtain⟨y,_,rfl⟩:=List.mem_map.1 hz
  have:y.v= -1:=by simpa using h2
  have:=y.lo
  omega
 have e1:=fun b nl b' nl'=>di2 (q:=q) (b:=b) (nl:=nl) (b':=b') (nl':=nl') (xs:=vs X) (w:=vs Y) (k:=K) (by rw[fi2];omega) (by rw[fi2];omega)
 simp only[hw]at e1
 have e2:=ln0 (q:=q) (k:=K) (by omega) hqh (by omega)
 rw[hf]at e2
 have hfl:=d73 hf
 have e:=fun ks=>b04 (b:=b) (nl:=nl) (b':=b') (nl':=nl') (r:=r) hY hX (show K≤64 by omega) _ _ [] (pa1 (q:=q) K) (by simp) (by simp;omega) ks
 have hz:List.replicate K (0:Int)=vs (List.replicate K (0:El q)):=by rw[←qj2];rfl
 rw[←hz]at e
 simp only[List.map_nil,x25]at e
 unfold g06
 rw[o10 rfl T50 rfl]
 unfold F50 c50
 simp(disch:=first|omega|fail) only[push_cast,seval,vrl,if_pos,if_neg,e1,e2]
 rw[e]
end
section
variable {q:Int} {b b':Bool} {nl nl':Nat} {xs w:List Int} {k r:Int}
end
def blkN(m j i:Nat):List (Nat×Nat):=(List.range' i (m-i)).map fun a=>(a,j)
theorem be7{m j i:Nat}(h:i<m):blkN m j i=(i,j)::blkN m j (i+1):=by
 unfold blkN
 rw[show m-i=(m-(i+1))+1 by omega,List.range'_succ];rfl
theorem ge3{m j i:Nat}(h:m≤i):blkN m j i=[]:=by
 unfold blkN
 rw[show m-i=0 by omega];rfl
def monT(k1 t:Nat):Nat→Nat→List (Nat×Nat)
 |0,_=>[]
 |n+1,j=>if j*k1<t then blkN (t-j*k1) j 0++monT k1 t n (j+1)else []
def monL(k1 t:Nat):List (Nat×Nat):=(monT k1 t (t+1) 0).take 64
def prs:List (Nat×Nat)→List Tree
 | []=>[]
 |p::l=> .v (.int .i64 p.1):: .v (.int .i64 p.2)::prs l
theorem tp6: ∀l,(prs l).length=2*l.length
 | []=>rfl
 |p::l=>by rw[prs,List.length_cons,List.length_cons,tp6 l,List.length_cons];omega
theorem px0: ∀l m,prs (l++m)=prs l++prs m
 | [],m=>rfl
 |p::l,m=>by rw[List.cons_append,prs,px0 l m];rfl
theorem h94: ∀{l:List (Nat×Nat)} {i:Nat} {p:Nat×Nat},l[i]? =some p→(prs l)[i*2]? =some (.v (.int .i64 p.1))∧(prs l)[i*2+1]? =some (.v (.int .i64 p.2))
 |p::l,0,_,h=>by cases h;exact⟨rfl,rfl⟩
 |p::l,i+1,q,h=>by
  have:=h94 (l:=l) (i:=i) (p:=q) (by simpa using h)
  rw[prs,show(i+1)*2=i*2+1+1 by omega,List.getElem?_cons_succ,List.getElem?_cons_succ,List.getElem?_cons_succ,List.getElem?_cons_succ]
  exact this
def gdL:List (Nat×Nat)→Nat→Prop
 | [],_=>True
 |p::l,c=>p.2≤c∧gdL l (if p.2=c then c+1 else c)
theorem sz4{m j:Nat}{M:List (Nat×Nat)}: ∀(n i c:Nat),n=m-i→(c=j+1)→gdL M (j+1)→gdL (blkN m j i++M) c
 |0,i,c,hn,hc,hM=>by rw[ge3 (by omega),hc];exact hM
 |n+1,i,c,hn,hc,hM=>by
  rw[be7 (by omega)]
  exact⟨by show j≤c;omega,by rw[if_neg (show¬j=c by omega)];exact sz4 n (i+1) c (by omega) hc hM⟩
theorem im4{k1 t:Nat}: ∀(n j:Nat),gdL (monT k1 t n j) j
 |0,j=>trivial
 |n+1,j=>by
  rw[monT]
  split
  ·rename_i h
   rw[be7 (by omega)]
   exact⟨Nat.le_refl _,by rw[if_pos rfl];exact sz4 _ 1 (j+1) rfl rfl (im4 n (j+1))⟩
  ·trivial
theorem fp6: ∀(l:List (Nat×Nat)) (c n:Nat),gdL l c→gdL (l.take n) c
 | [],c,n,h=>by simpa using h
 |p::l,c,0,h=>by simp[gdL]
 |p::l,c,n+1,h=>by rw[List.take_succ_cons];exact⟨h.1,fp6 l _ n h.2⟩
theorem gn5(k1 t:Nat):gdL (monL k1 t) 0:=fp6 _ _ _ (im4 _ _)
theorem en1{k1 t:Nat}: ∀(n j:Nat),∀p∈monT k1 t n j,p.1<t∧p.2<j+n
 |0,j,p,h=>by cases h
 |n+1,j,p,h=>by
  rw[monT]at h
  split at h
  ·rcases List.mem_append.1 h with h|h
   ·unfold blkN at h
    obtain⟨a,ha,rfl⟩:=List.mem_map.1 h
    have:=List.mem_range'_1.1 ha
    exact⟨by show a<t;omega,by show j<_;omega⟩
   ·have:=en1 n (j+1) p h
    exact⟨this.1,by omega⟩
  ·cases h
theorem rz0{k1 t:Nat}: ∀p∈monL k1 t,p.1≤t∧p.2≤t:=fun p h=>by
 have:=en1 _ _ p (List.mem_of_mem_take h)
 exact⟨by omega,by omega⟩
theorem da6(k1 t:Nat):(monL k1 t).length≤64:=by unfold monL;rw[List.length_take];omega
theorem mg3{k1 t:Nat}(h:1≤t):0<(monL k1 t).length:=by
 unfold monL
 rw[monT,if_pos (by omega),be7 (by omega)]
 simp
theorem pd2(m j i:Nat):(blkN m j i).length=m-i:=by simp[blkN]
section
variable {k t:Nat}
theorem jo9(hk2:2≤k)(hk:k≤100)(ht:t≤100){j:Nat}(hj:j≤100): ∀(n i:Nat) (acc:List (Nat×Nat)),i≤100→n=t-j*(k-1)-i→acc.length+n≤10000→ ∀ks,
 vgoL W ⟨h128,[.tmp 4],0⟩ [0,1,5,6,7] c128L0 (.blk 2 [0,1,5,6]::ks) [(0, .x (.int .i64 k)),(1, .x (.int .i64 t)),(5, .own 0 []),(6, .x (.int .i64 j)),(7, .x (.int .i64 i))] [.sl 1 140 2 (prs acc)]=
  vgo W ⟨h128,[.tmp 4],0⟩ ks (VFr.of [(0, .x (.int .i64 k)),(1, .x (.int .i64 t)),(5, .own 0 []),(6, .x (.int .i64 j))]) [.sl 1 140 2 (prs (acc++blkN (t-j*(k-1)) j i))]:=by
 have hb:j*(k-1)≤10000:=Nat.le_trans (Nat.mul_le_mul hj (show k-1≤100 by omega)) (by decide)
 have hm:(j:Int)*((k:Int)-1)=((j*(k-1):Nat):Int):=by rw[Int.natCast_mul];congr 1;omega
 generalize j*(k-1)=w at*
 intro n
 induction n with
 |zero=>
  intro i acc hi hn ha ks
  have h1: ¬(i:Int)+(w:Int)<(t:Int):=by omega
  rw[ge3 (by omega),List.append_nil,sb5 c128L0.eq_def]
  simp(disch:=first|omega|fail) only[push_cast,seval,vrl,if_pos,if_neg,hm,cw6 (Int.not_lt.1 h1)]
 |succ n IH=>
  intro i acc hi hn ha ks
  have h1:(i:Int)+(w:Int)<(t:Int):=by omega
  have ih:=IH (i+1) (acc++[(i,j)]) (by omega) (by omega) (by rw[List.length_append,List.length_singleton];omega) ks
  have hlen:(prs acc).length=acc.length*2:=by rw[tp6];omega
  have hd:acc.length*2/2=acc.length:=Nat.mul_div_cancel _ (by decide)
  have hsn:prs acc++[Tree.v (.int .i64 i),Tree.v (.int .i64 j)]=prs (acc++[(i,j)]):=by rw[px0];rfl
  rw[Int.natCast_add,Int.natCast_one,List.append_assoc,List.singleton_append]at ih
  rw[be7 (by omega),←ih,sb5 c128L0.eq_def]
  simp(disch:=first|omega|fail) only[push_cast,seval,vrl,if_pos,if_neg,hm,dec_lt h1,hlen,hd,hsn]
theorem f45(hk2:2≤k)(hk:k≤100)(ht:t≤100){F:List (Nat×Nat)}: ∀(n j:Nat) (acc:List (Nat×Nat)),j+n=t+1→acc.length≤1000→acc++monT (k-1) t n j=F→
 ∃L:List (Nat×Nat),(L=F∨256<L.length∧L<+:F)∧L.length≤1000∧ ∀ks,
 vgoL W ⟨h128,[.tmp 4],0⟩ [0,1,5,6] c128L1 (.blk 0 [5]::ks) [(0, .x (.int .i64 k)),(1, .x (.int .i64 t)),(5, .own 0 []),(6, .x (.int .i64 j))] [.sl 1 140 2 (prs acc)]=
  vgo W ⟨h128,[.tmp 4],0⟩ ks (VFr.of [(5, .own 0 [])]) [.sl 1 140 2 (prs L)]:=by
 intro n
 induction n with
 |zero=>
  intro j acc hj ha hF
  rw[monT,List.append_nil]at hF
  refine⟨acc, .inl hF,ha,fun ks=> ?_⟩
  have hb:j*(k-1)≤10100:=Nat.le_trans (Nat.mul_le_mul (show j≤101 by omega) (show k-1≤100 by omega)) (by decide)
  have hb2:j*1≤j*(k-1):=Nat.mul_le_mul_left _ (by omega)
  have hm:(j:Int)*((k:Int)-1)=((j*(k-1):Nat):Int):=by rw[Int.natCast_mul];congr 1;omega
  generalize j*(k-1)=w at*
  have h1: ¬(w:Int)<(t:Int):=by omega
  rw[sb5 c128L1.eq_def]
  simp(disch:=first|omega|fail) only[push_cast,seval,vrl,if_pos,if_neg,hm,cw6 (Int.not_lt.1 h1)]
 |succ n IH=>
  intro j acc hj ha hF
  have hb:j*(k-1)≤10100:=Nat.le_trans (Nat.mul_le_mul (show j≤101 by omega) (show k-1≤100 by omega)) (by decide)
  have hm:(j:Int)*((k:Int)-1)=((j*(k-1):Nat):Int):=by rw[Int.natCast_mul];congr 1;omega
  have hlen:(prs acc).length=acc.length*2:=by rw[tp6];omega
  have hd:acc.length*2/2=acc.length:=Nat.mul_div_cancel _ (by decide)
  by_cases h1:j*(k-1)<t
  ·by_cases h2:acc.length≤256
   ·rw[monT,if_pos h1,←List.append_assoc]at hF
    have hbl:=pd2 (t-j*(k-1)) j 0
    obtain⟨L,a1,a2,a3⟩:=IH (j+1) (acc++blkN (t-j*(k-1)) j 0) (by omega) (by rw[List.length_append];omega) hF
    refine⟨L,a1,a2,fun ks=> ?_⟩
    have ih:=a3 ks
    have e:=fun ks=>jo9 hk2 hk ht (j:=j) (by omega) (t-j*(k-1)) 0 acc (by omega) (by omega) (by omega) ks
    simp only[Int.natCast_zero]at e
    generalize j*(k-1)=w at*
    have h1':(w:Int)<(t:Int):=by omega
    have hk1: ¬(k:Int)=1:=by omega
    rw[Int.natCast_add,Int.natCast_one]at ih
    rw[←ih,sb5 c128L1.eq_def]
    simp(disch:=first|omega|fail) only[push_cast,seval,vrl,if_pos,if_neg,hm,dec_lt h1',hlen,hd]
    rw[e]
    simp(disch:=first|omega|fail) only[push_cast,seval,vrl,if_pos,if_neg,nb8 hk1]
   ·refine⟨acc, .inr ⟨by omega,⟨_,hF⟩⟩,ha,fun ks=> ?_⟩
    generalize j*(k-1)=w at*
    have h1':(w:Int)<(t:Int):=by omega
    have h2': ¬(acc.length:Int)≤256:=by omega
    rw[sb5 c128L1.eq_def]
    simp(disch:=first|omega|fail) only[push_cast,seval,vrl,if_pos,if_neg,hm,dec_lt h1',hlen,hd,qc6 (Int.not_le.1 h2')]
  ·rw[monT,if_neg h1,List.append_nil]at hF
   refine⟨acc, .inl hF,ha,fun ks=> ?_⟩
   generalize j*(k-1)=w at*
   have h1': ¬(w:Int)<(t:Int):=by omega
   rw[sb5 c128L1.eq_def]
   simp(disch:=first|omega|fail) only[push_cast,seval,vrl,if_pos,if_neg,hm,cw6 (Int.not_lt.1 h1')]
theorem av4(hk2:2≤k)(hk:k≤100)(ht:t≤100): ∃L:List (Nat×Nat),L.take 64=monL (k-1) t∧L.length≤1000∧o24 W 128 [.x (.int .i64 k), .x (.int .i64 t)] []=some (.own 0 [],[.sl 1 140 2 (prs L)],[]):=by
 obtain⟨L,a1,a2,a3⟩:=f45 hk2 hk ht (t+1) 0 [] (by omega) (by simp) rfl
 refine⟨L, ?_,a2, ?_⟩
 ·unfold monL
  rw[List.nil_append]at a1
  rcases a1 with rfl|⟨h1,S,h2⟩
  ·rfl
  ·rw[←h2,List.take_append_of_le_length (by omega)]
 ·simp only[Int.natCast_zero,show prs []=[]from rfl]at a3
  rw[o10 rfl T128 rfl]
  unfold F128 c128
  simp(disch:=first|omega|fail) only[push_cast,seval,vrl,if_pos,if_neg]
  rw[a3]
  simp(disch:=first|omega|fail) only[push_cast,seval,vrl,if_pos,if_neg]
end
section
variable {q p m g:Int} [IsFld q] {k t:Nat} {b b':Bool} {nl nl':Nat} {xs w:List Int} {T0:Tree}
end
section
variable {q:Int} [IsFld q]
def rj3(x y:El q)(M:List (Nat×Nat)):List (El q):=M.map fun p=>pw x p.1*pw y p.2
def sudM(X Y:List (El q))(M:List (Nat×Nat)):List (List (El q)):=(X.zip Y).map fun z=>rj3 z.1 z.2 M
theorem oe2(x y:El q)(M:List (Nat×Nat)):(rj3 x y M).length=M.length:=by simp[rj3]
theorem ko5(x y:El q)(M:List (Nat×Nat))(p:Nat×Nat):vs (rj3 x y (M++[p]))=vs (rj3 x y M)++[fmul q (pw x p.1).v (pw y p.2).v]:=by
 unfold rj3;rw[List.map_append,gq8];rfl
theorem cx8{α:Type}{l:List α}{n:Nat}{a:α}(h:l[n]? =some a):l.take (n+1)=l.take n++[a]:=by
 rw[List.take_add_one,h];rfl
variable {X Y:List (El q)} {M:List (Nat×Nat)} {b b':Bool} {nl nl' nM:Nat}
def Cut(k:Nat)(S:AV)(L M:List (Nat×Nat)):Prop:=S= .own k []∧L=M∨S= .sub k [] 2 0 64∧M=L.take 64∧64<L.length∧L.length≤1000
theorem Cut.at'{k:Nat}{S:AV}{L M:List (Nat×Nat)}(h:Cut k S L M){n:Nat}{p:Nat×Nat}(hp:M[n]? =some p):L[n]? =some p:=by
 rcases h with⟨_,rfl⟩|⟨_,rfl,_,_⟩
 ·exact hp
 ·rw[List.getElem?_take]at hp
  split at hp
  ·exact hp
  ·cases hp
theorem Cut.len{k:Nat}{S:AV}{L M:List (Nat×Nat)}(h:Cut k S L M)(hM:M.length≤64):L.length≤1000:=by
 rcases h with⟨_,rfl⟩|⟨_,rfl,_,h⟩
 ·omega
 ·exact h
theorem Cut.eq{k:Nat}{S:AV}{L M:List (Nat×Nat)}(h:Cut k S L M):L.length=M.length∨M.length=64:=by
 rcases h with⟨_,rfl⟩|⟨_,rfl,h,_⟩
 ·exact .inl rfl
 ·exact .inr (by rw[List.length_take];omega)
variable {L:List (Nat×Nat)} {S:AV}
theorem vy7{x y:El q}{i:Nat}(hy:Y[i]? =some y)(hM:M.length≤64)(hS:Cut 0 S L M)(hY:Y.length≤64)(hp: ∀p∈M,p.1≤100∧p.2≤100){T1:Tree}: ∀(d n:Nat),n+d=M.length→ ∀ks,
 vgoL W ⟨h54,[.tmp 10, .tmp 11],0⟩ [0,3,13,14,16,17,18,19,60,61,62,67,68,69] c54L0 (.blk 2 [0,3,13,14,16,19,60,61,62]::ks) [(0, .x (.int .i64 q)),(3, .fz b' (.sl nl' 0 1 (ivs (vs Y)))),(13,S),(14, .fz true (pF q)),(16, .own 1 []),(17, .x (.int .i64 i)),(18, .x (.int .i64 x.v)),(19, .own 2 []),(60, .fz b (.sl nl 0 1 (ivs (vs X)))),(61, .x (.int .i64 X.length)),(62, .x (.int .i64 i)),(67,S),(68, .x (.int .i64 M.length)),(69, .x (.int .i64 n))] [.sl nM 140 2 (prs L),T1, .sl 1 3 1 (ivs (vs (rj3 x y (M.take n))))]=
  vgo W ⟨h54,[.tmp 10, .tmp 11],0⟩ ks (VFr.of [(0, .x (.int .i64 q)),(3, .fz b' (.sl nl' 0 1 (ivs (vs Y)))),(13,S),(14, .fz true (pF q)),(16, .own 1 []),(19, .own 2 []),(60, .fz b (.sl nl 0 1 (ivs (vs X)))),(61, .x (.int .i64 X.length)),(62, .x (.int .i64 i))]) [.sl nM 140 2 (prs L),T1, .sl 1 3 1 (ivs (vs (rj3 x y M)))]
 |0,n,hn,ks=>by
  rcases hS with⟨rfl,hLM⟩|⟨rfl,hLM,hS1,hS2⟩
  ·obtain rfl:=hLM.symm
   rw[List.take_of_length_le (by omega),sb5 c54L0.eq_def]
   simp(disch:=first|omega|fail) only[push_cast,seval,vrl,if_pos,if_neg]
  ·have hM64:(M.length:Int)=64:=by rw[hLM,List.length_take];omega
   rw[List.take_of_length_le (by omega),sb5 c54L0.eq_def]
   simp(disch:=first|omega|fail) only[push_cast,seval,vrl,if_pos,if_neg]
 |d+1,n,hn,ks=>by
  have ih:=vy7 (x:=x) hy hM hS hY hp (T1:=T1) d (n+1) (by omega) ks
  obtain⟨p,hpn⟩:=ge6 (l:=M) (i:=n) (by omega)
  obtain⟨p1,p2⟩:=hp p (List.mem_of_getElem? hpn)
  obtain⟨h1,h2⟩:=h94 (hS.at' hpn)
  have h3:=iat (show(vs Y)[i]? =some y.v by unfold vs;rw[List.getElem?_map,hy];rfl)
  have hl:=tp6 L
  have hLl:L.length≤1000:=hS.len hM
  have hML:=hS.eq
  have hil:i<Y.length:=(List.getElem?_eq_some_iff.1 hy).1
  have ex:=v_pw x p.1
  have ey:=v_pw y p.2
  have hs:=ko5 x y (M.take n) p
  have hsl:=oe2 x y (M.take n)
  rw[List.length_take]at hsl
  rw[cx8 hpn,hs,Int.natCast_add,Int.natCast_one]at ih
  rcases hS with⟨rfl,hLM⟩|⟨rfl,hLM,hS1,hS2⟩
  ·obtain rfl:=hLM.symm
   rw[←ih,sb5 c54L0.eq_def]
   generalize rj3 x y (M.take n)=Z at*
   simp(disch:=first|omega|fail) only[push_cast,seval,vrl,if_pos,if_neg,h1,h2,h3,hl,ex,ey]
  ·have hM64:(M.length:Int)=64:=by rw[hLM,List.length_take];omega
   rw[←ih,sb5 c54L0.eq_def]
   generalize rj3 x y (M.take n)=Z at*
   simp(disch:=first|omega|fail) only[push_cast,seval,vrl,if_pos,if_neg,h1,h2,h3,hl,ex,ey]
theorem d48(hY:Y.length=X.length):(sudM X Y M).length=X.length:=by unfold sudM;rw[List.length_map,List.length_zip,hY,Nat.min_self]
theorem vz2{i:Nat}{x y:El q}(hx:X[i]? =some x)(hy:Y[i]? =some y):(sudM X Y M)[i]? =some (rj3 x y M):=by
 unfold sudM
 rw[List.getElem?_map,List.zip,List.getElem?_zipWith,hx,hy];rfl
theorem s09(hM:M.length≤64)(hS:Cut 0 S L M)(hYX:Y.length=X.length)(hX:X.length≤64)(hp: ∀p∈M,p.1≤100∧p.2≤100): ∀(d i:Nat),i+d=X.length→ ∀ks,
 vgoL W ⟨h54,[.tmp 10, .tmp 11],0⟩ [0,3,13,14,16,60,61,62] c54L1 (.blk 0 [0,13,16]::ks) [(0, .x (.int .i64 q)),(3, .fz b' (.sl nl' 0 1 (ivs (vs Y)))),(13,S),(14, .fz true (pF q)),(16, .own 1 []),(60, .fz b (.sl nl 0 1 (ivs (vs X)))),(61, .x (.int .i64 X.length)),(62, .x (.int .i64 i))] [.sl nM 140 2 (prs L), .sl 1 22 1 (lls 2 (((sudM X Y M).take i).map vs))]=
  vgo W ⟨h54,[.tmp 10, .tmp 11],0⟩ ks (VFr.of [(0, .x (.int .i64 q)),(13,S),(16, .own 1 [])]) [.sl nM 140 2 (prs L), .sl 1 22 1 (lls 2 ((sudM X Y M).map vs))]
 |0,i,hi,ks=>by
  have h1:=d48 (M:=M) hYX
  rcases hS with⟨rfl,hLM⟩|⟨rfl,hLM,hS1,hS2⟩
  ·obtain rfl:=hLM.symm
   rw[List.take_of_length_le (by omega),sb5 c54L1.eq_def]
   simp(disch:=first|omega|fail) only[push_cast,seval,vrl,if_pos,if_neg]
  ·have hM64:(M.length:Int)=64:=by rw[hLM,List.length_take];omega
   rw[List.take_of_length_le (by omega),sb5 c54L1.eq_def]
   simp(disch:=first|omega|fail) only[push_cast,seval,vrl,if_pos,if_neg]
 |d+1,i,hi,ks=>by
  have ih:=s09 hM hS hYX hX hp d (i+1) (by omega) ks
  obtain⟨x,hx⟩:=ge6 (l:=X) (i:=i) (by omega)
  obtain⟨y,hy⟩:=ge6 (l:=Y) (i:=i) (by omega)
  have h1:=iat (show(vs X)[i]? =some x.v by unfold vs;rw[List.getElem?_map,hx];rfl)
  have h2:=vz2 (M:=M) hx hy
  have h3:=d48 (M:=M) hYX
  have hsn:=ng3 2 (((sudM X Y M).take i).map vs) (vs (rj3 x y M))
  have hln:(((sudM X Y M).take i).map vs).length≤64:=by rw[List.length_map,List.length_take];omega
  have hl:=tp6 L
  have hLl:L.length≤1000:=hS.len hM
  have hML:=hS.eq
  have hd2:2*(M.length:Int)/2=M.length:=by omega
  have e:=fun T1 ks=>vy7 (b:=b) (nl:=nl) (b':=b') (nl':=nl') (nM:=nM) (X:=X) (x:=x) hy hM hS (by omega) hp (T1:=T1) M.length 0 (by omega) ks
  simp only[Int.natCast_zero,List.take_zero,show vs (rj3 x y [])=[]from rfl,show ivs []=[]from rfl]at e
  rw[cx8 h2,List.map_append,Int.natCast_add,Int.natCast_one]at ih
  rcases hS with⟨rfl,hLM⟩|⟨rfl,hLM,hS1,hS2⟩
  ·obtain rfl:=hLM.symm
   rw[←ih,sb5 c54L1.eq_def]
   generalize ((sudM X Y M).take i).map vs=Z at*
   simp(disch:=first|omega|fail) only[push_cast,seval,vrl,if_pos,if_neg,h1,hl,hd2]
   rw[e]
   simp(disch:=first|omega|fail) only[push_cast,seval,vrl,if_pos,if_neg,hsn]
  ·have hM64:(M.length:Int)=64:=by rw[hLM,List.length_take];omega
   rw[←ih,sb5 c54L1.eq_def]
   generalize ((sudM X Y M).take i).map vs=Z at*
   simp only[hM64]at e
   simp(disch:=first|omega|fail) only[push_cast,seval,vrl,if_pos,if_neg,h1,hl]
   rw[e]
   simp(disch:=first|omega|fail) only[push_cast,seval,vrl,if_pos,if_neg,hsn]
def putG(G:List (List (El q)))(j:Nat)(v:El q):List (List (El q)):=G.set j (G.getD j []++[v])
def stepG(G:List (List (El q)))(j:Nat)(v:El q):List (List (El q)):=putG (if j=G.length then G++[[]]else G) j v
def grpG(a:List (El q)):List (Nat×Nat)→Nat→List (List (El q))→List (List (El q))
 | [],_,G=>G
 |p::l,n,G=>grpG a l (n+1) (stepG G p.2 (wf a n))
theorem cl3(G:List (List (El q)))(j:Nat)(v:El q):(stepG G j v).length=if j=G.length then G.length+1 else G.length:=by
 unfold stepG putG
 rw[List.length_set]
 split
 ·simp
 ·rfl
theorem ph5(G:List (List (El q)))(v:El q):putG (G++[[]]) G.length v=G++[[v]]:=by
 unfold putG
 simp[List.getD_eq_getElem?_getD]
theorem ht0{G:List (List (El q))}{j:Nat}{r:List (El q)}(v:El q)(h:G[j]? =some r):putG G j v=G.set j (r++[v]):=by
 unfold putG
 rw[List.getD_eq_getElem?_getD,h];rfl
theorem ep3{z:Nat}{A:List (Nat×List (El q))}{a:Nat×List (El q)}(hA:A[0]? =some a)(hA2:A.length≤100)(hal:a.2.length=M.length)(hM:M.length≤64)(hS:Cut 2 S L M): ∀(d n:Nat) (G:List (List (El q))),n+d=M.length→gdL (M.drop n) G.length→G.length≤n→(∀r∈G,r.length≤n)→ ∀ks,
 vgoL W ⟨h54,[.tmp 10, .tmp 11],0⟩ [22,24,106,107,108] c54L2 (.blk 4 [24]::ks) [(22, .own 0 []),(24, .own 1 []),(106,S),(107, .x (.int .i64 M.length)),(108, .x (.int .i64 n))] [.sl z 22 1 (lls 2 (pvR A)), .sl 1 22 1 (lls 2 (G.map vs)), .sl nM 140 2 (prs L)]=
  vgo W ⟨h54,[.tmp 10, .tmp 11],0⟩ ks (VFr.of [(24, .own 1 [])]) [.sl z 22 1 (lls 2 (pvR A)), .sl 1 22 1 (lls 2 ((grpG a.2 (M.drop n) n G).map vs)), .sl nM 140 2 (prs L)]
 |0,n,G,hn,hg,hG,hr,ks=>by
  rcases hS with⟨rfl,hLM⟩|⟨rfl,hLM,hS1,hS2⟩
  ·obtain rfl:=hLM.symm
   rw[oh9 (by omega),grpG,sb5 c54L2.eq_def]
   simp(disch:=first|omega|fail) only[push_cast,seval,vrl,if_pos,if_neg]
  ·have hM64:(M.length:Int)=64:=by rw[hLM,List.length_take];omega
   rw[oh9 (by omega),grpG,sb5 c54L2.eq_def]
   simp(disch:=first|omega|fail) only[push_cast,seval,vrl,if_pos,if_neg]
 |d+1,n,G,hn,hg,hG,hr,ks=>by
  obtain⟨p,hpn⟩:=ge6 (l:=M) (i:=n) (by omega)
  obtain⟨h1,h2⟩:=h94 (hS.at' hpn)
  have hAl:=nu3 A
  have hA0:0<A.length:=(List.getElem?_eq_some_iff.1 hA).1
  have h3:=x08 hA
  have h4:=iva (l:=a.2) (i:=n) (by omega)
  have hl:=tp6 L
  have hLl:L.length≤1000:=hS.len hM
  have hML:=hS.eq
  have hGl:(G.map vs).length=G.length:=List.length_map ..
  rw[i62 hpn]at hg⊢
  obtain⟨hg1,hg2⟩:=hg
  have hsl:=cl3 G p.2 (wf a.2 n)
  have ih:=ep3 (z:=z) hA hA2 hal hM hS d (n+1) (stepG G p.2 (wf a.2 n)) (by omega) (by rw[hsl];exact hg2) (by rw[hsl];split<;>omega) (by
   intro r hr2
   unfold stepG at hr2
   by_cases hj:p.2=G.length
   ·rw[if_pos hj,hj,ph5]at hr2
    rcases List.mem_append.1 hr2 with h|h
    ·have:=hr r h;omega
    ·rw[List.mem_singleton]at h
     subst h;simp
   ·rw[if_neg hj]at hr2
    obtain⟨r0,hr0⟩:=ge6 (l:=G) (i:=p.2) (by omega)
    rw[ht0 _ hr0]at hr2
    rcases List.mem_or_eq_of_mem_set hr2 with h|h
    ·have:=hr r h;omega
    ·have:=hr r0 (List.mem_of_getElem? hr0)
     subst h;rw[List.length_append,List.length_singleton];omega) ks
  rw[grpG]
  rw[Int.natCast_add,Int.natCast_one]at ih
  unfold stepG at ih⊢
  by_cases hj:p.2=G.length
  ·have hs:(putG (G++[[]]) p.2 (wf a.2 n)).map vs=G.map vs++[[(wf a.2 n).v]]:=by rw[hj,ph5,List.map_append];rfl
   rw[if_pos hj]at ih⊢
   rw[hs]at ih
   rcases hS with⟨rfl,hLM⟩|⟨rfl,hLM,hS1,hS2⟩
   ·obtain rfl:=hLM.symm
    rw[←ih,sb5 c54L2.eq_def]
    generalize grpG a.2 (M.drop (n+1)) (n+1) (putG (G++[[]]) p.2 (wf a.2 n))=Z at*
    generalize G.map vs=U at*
    have h7:(lls 2 U++[Tree.v (.slice none 0 0)])[G.length]? =some (Tree.v (.slice none 0 0)):=by
     rw[List.getElem?_append_right (by rw[qf0,hGl];omega),qf0,hGl,Nat.sub_self];rfl
    have h8: ∀(T:Tree),(lls 2 U++[Tree.v (.slice none 0 0)]).set G.length T=lls 2 U++[T]:=fun T=>by
     rw[List.set_append_right _ _ (by rw[qf0,hGl];omega),qf0,hGl,Nat.sub_self];rfl
    have hsn:lls 2 U++[Tree.sl 2 3 1 [.v (.int .i64 (wf a.2 n).v)]]=lls 2 (U++[[(wf a.2 n).v]]):=ng3 2 U [(wf a.2 n).v]
    simp(disch:=first|omega|fail) only[push_cast,seval,vrl,if_pos,if_neg,h1,h2,h3,h4,hl,hAl,hGl,hj,h7,h8,List.set_set,hsn]
   ·have hM64:(M.length:Int)=64:=by rw[hLM,List.length_take];omega
    rw[←ih,sb5 c54L2.eq_def]
    generalize grpG a.2 (M.drop (n+1)) (n+1) (putG (G++[[]]) p.2 (wf a.2 n))=Z at*
    generalize G.map vs=U at*
    have h7:(lls 2 U++[Tree.v (.slice none 0 0)])[G.length]? =some (Tree.v (.slice none 0 0)):=by
     rw[List.getElem?_append_right (by rw[qf0,hGl];omega),qf0,hGl,Nat.sub_self];rfl
    have h8: ∀(T:Tree),(lls 2 U++[Tree.v (.slice none 0 0)]).set G.length T=lls 2 U++[T]:=fun T=>by
     rw[List.set_append_right _ _ (by rw[qf0,hGl];omega),qf0,hGl,Nat.sub_self];rfl
    have hsn:lls 2 U++[Tree.sl 2 3 1 [.v (.int .i64 (wf a.2 n).v)]]=lls 2 (U++[[(wf a.2 n).v]]):=ng3 2 U [(wf a.2 n).v]
    simp(disch:=first|omega|fail) only[push_cast,seval,vrl,if_pos,if_neg,h1,h2,h3,h4,hl,hAl,hGl,hj,h7,h8,List.set_set,hsn]
  ·obtain⟨r0,hr0⟩:=ge6 (l:=G) (i:=p.2) (by omega)
   have hr0l:=hr r0 (List.mem_of_getElem? hr0)
   have h5:(G.map vs)[p.2]? =some (vs r0):=by rw[List.getElem?_map,hr0];rfl
   have hs:(putG G p.2 (wf a.2 n)).map vs=(G.map vs).set p.2 (vs r0++[(wf a.2 n).v]):=by rw[ht0 _ hr0,List.map_set,gq8];rfl
   rw[if_neg hj]at ih⊢
   rw[hs]at ih
   have h6:=th8 (nl:=2) h5
   rcases hS with⟨rfl,hLM⟩|⟨rfl,hLM,hS1,hS2⟩
   ·obtain rfl:=hLM.symm
    rw[←ih,sb5 c54L2.eq_def]
    generalize grpG a.2 (M.drop (n+1)) (n+1) (putG G p.2 (wf a.2 n))=Z at*
    generalize G.map vs=U at*
    have hj': ¬(p.2:Int)=(U.length:Int):=by omega
    simp(disch:=first|omega|fail) only[push_cast,seval,vrl,if_pos,if_neg,h1,h2,h3,h4,hl,hAl,nb8 hj',h6,List.set_set]
   ·have hM64:(M.length:Int)=64:=by rw[hLM,List.length_take];omega
    rw[←ih,sb5 c54L2.eq_def]
    generalize grpG a.2 (M.drop (n+1)) (n+1) (putG G p.2 (wf a.2 n))=Z at*
    generalize G.map vs=U at*
    have hj': ¬(p.2:Int)=(U.length:Int):=by omega
    simp(disch:=first|omega|fail) only[push_cast,seval,vrl,if_pos,if_neg,h1,h2,h3,h4,hl,hAl,nb8 hj',h6,List.set_set]
def sudA(X Y:List (El q))(K t:Nat):List (Nat×List (El q)):=zt5 (monL (K-1) t).length (sudM X Y (monL (K-1) t))
def sudG(X Y:List (El q))(K t:Nat)(a:List (El q)):List (List (El q)):=grpG a (monL (K-1) t) 0 []
theorem wc9(hY:Y.length=X.length): ∀r∈sudM X Y M,r.length=M.length:=fun r hr=>by
 unfold sudM at hr
 obtain⟨z,_,rfl⟩:=List.mem_map.1 hr
 exact oe2 ..
theorem c74{N:List (List (El q))}{n:Nat}(hN: ∀r∈N,r.length=n):(∀a∈zt5 n N,a.2.length=n)∧(zt5 n N).length≤n:=by
 unfold zt5
 have hr:=sg4 n (redR N) n 0
 have hl:=to9 n (redR N) n 0
 obtain⟨_,r2,_⟩:=bi2 hr
 exact⟨r2,by have:=ew4 hr;omega⟩
theorem mp7{K t:Nat}(he:ky7 q (vs X) K (vs Y)=0)(hYX:Y.length=X.length)(hX:X.length≤64)(hK:K≤X.length)(h2:2≤K)(ht:1≤t)(ht2:t≤X.length):
 o24 W 54 [.x (.int .i64 q), .fz b (.sl nl 0 1 (ivs (vs X))), .x (.int .i64 K), .fz b' (.sl nl' 0 1 (ivs (vs Y))), .x (.int .i64 t)] []=
  match(sudA X Y K t)[0]? with
  |none=>some (.tup [.own 0 [], .x (.int .i64 9)],[.sl 1 22 1 []],[])
  |some a=>some (.tup [.own 0 [], .x (.int .i64 0)],[.sl 1 22 1 (lls 2 ((sudG X Y K t a.2).map vs))],[]):=by
 have e1:=fun b nl b' nl'=>di2 (q:=q) (b:=b) (nl:=nl) (b':=b') (nl':=nl') (xs:=vs X) (w:=vs Y) (k:=K) (by rw[fi2];omega) (by rw[fi2];omega)
 simp only[he]at e1
 obtain⟨L,hL1,hL2,e2⟩:=av4 (k:=K) (t:=t) h2 (by omega) (by omega)
 have hM:=da6 (K-1) t
 have hM0:=mg3 (k1:=K-1) ht
 have hp: ∀p∈monL (K-1) t,p.1≤100∧p.2≤100:=fun p hp=>by have:=rz0 p hp;omega
 have hg:=gn5 (K-1) t
 unfold sudA sudG
 generalize monL (K-1) t=M at*
 have e:=fun S hS nM ks=>s09 (b:=b) (nl:=nl) (b':=b') (nl':=nl') (nM:=nM) (S:=S) (L:=L) hM hS hYX hX hp X.length 0 (by omega) ks
 simp only[Int.natCast_zero,List.take_zero,List.map_nil,x25]at e
 have hXl:(sudM X Y M).length=X.length:=d48 hYX
 have e3:=fun b nl nr=>ss9 (b:=b) (nl:=nl) (nr:=nr) (N:=sudM X Y M) (n:=M.length) (by omega) (by omega) (wc9 hYX) hM0 hM
 obtain⟨hA1,hA2⟩:=c74 (wc9 (X:=X) (Y:=Y) (M:=M) hYX)
 generalize zt5 M.length (sudM X Y M)=A at*
 generalize (if ez9 M.length (redR (sudM X Y M)) M.length 0=[]then 1 else 0)=z at*
 have hAl:=nu3 A
 have hl:=tp6 L
 have hlM:=tp6 M
 have hd2:2*(M.length:Int)/2=M.length:=by omega
 have hd1:2*(L.length:Int)/2=L.length:=by omega
 have hk2: ¬(K:Int)<2:=by omega
 have ht3: ¬(t:Int)<1:=by omega
 have ht4: ¬(X.length:Int)<(t:Int):=by omega
 rw[o10 rfl T54 rfl]
 unfold F54 c54
 simp(disch:=first|omega|fail) only[push_cast,seval,vrl,if_pos,if_neg,e1,e2,hl,hd1]
 by_cases h64:L.length≤64
 ·have hLM:L=M:=by rw[←hL1,List.take_of_length_le h64]
  subst hLM
  simp(disch:=first|omega|fail) only[push_cast,seval,vrl,if_pos,if_neg]
  rw[e (.own 0 []) (.inl ⟨rfl,rfl⟩)]
  cases hA:A[0]? with
  |none=>
   have hA0:A.length=0:=by have:=List.getElem?_eq_none_iff.1 hA;omega
   simp(disch:=first|omega|fail) only[push_cast,seval,vrl,if_pos,if_neg,e3,hAl,hA0]
  |some a=>
   have hA0: ¬(A.length:Int)=0:=by have:=(List.getElem?_eq_some_iff.1 hA).1;omega
   have e5:=fun ks=>ep3 (nM:=1) (z:=z) (S:= .own 2 []) hA (by omega) (hA1 a (List.mem_of_getElem? hA)) hM (.inl ⟨rfl,rfl⟩) L.length 0 [] (by omega) (by rw[List.drop_zero];exact hg) (by simp) (fun r hr=>by cases hr) ks
   simp only[Int.natCast_zero,List.drop_zero,List.map_nil,x25]at e5
   simp(disch:=first|omega|fail) only[push_cast,seval,vrl,if_pos,if_neg,e3,hAl,nb8 hA0,hl,hd2]
   rw[e5]
   simp(disch:=first|omega|fail) only[push_cast,seval,vrl,if_pos,if_neg]
 ·have h64':64<L.length:=by omega
  simp(disch:=first|omega|fail) only[push_cast,seval,vrl,if_pos,if_neg,hl]
  rw[e (.sub 0 [] 2 0 64) (.inr ⟨rfl,hL1.symm,h64',by omega⟩)]
  cases hA:A[0]? with
  |none=>
   have hA0:A.length=0:=by have:=List.getElem?_eq_none_iff.1 hA;omega
   simp(disch:=first|omega|fail) only[push_cast,seval,vrl,if_pos,if_neg,e3,hAl,hA0]
  |some a=>
   have hA0: ¬(A.length:Int)=0:=by have:=(List.getElem?_eq_some_iff.1 hA).1;omega
   have e5:=fun nM ks=>ep3 (nM:=nM) (z:=z) (S:= .sub 2 [] 2 0 64) (L:=L) hA (by omega) (hA1 a (List.mem_of_getElem? hA)) hM (.inr ⟨rfl,hL1.symm,h64',by omega⟩) M.length 0 [] (by omega) (by rw[List.drop_zero];exact hg) (by simp) (fun r hr=>by cases hr) ks
   have hM64:(M.length:Int)=64:=by rw[←hL1,List.length_take];omega
   simp only[Int.natCast_zero,List.drop_zero,List.map_nil,x25,hM64]at e5
   simp(disch:=first|omega|fail) only[push_cast,seval,vrl,if_pos,if_neg,e3,hAl,nb8 hA0,hl]
   rw[e5]
   simp(disch:=first|omega|fail) only[push_cast,seval,vrl,if_pos,if_neg]
end
section
variable {q:Int} {b b':Bool} {nl nl':Nat} {xs w:List Int} {k t:Int}
end
end Go.Proofs.Ytmhbpecdpiapgaa
namespace Go.Alg
section
variable {α β:Type}
def sZ:List α→(α→Int)→Int
 | [],_=>0
 |a::l,f=>f a+sZ l f
theorem pj8{f g:α→Int}: ∀{l:List α},(∀a∈l,f a=g a)→sZ l f=sZ l g
 | [],_=>rfl
 |a::l,h=>by rw[sZ,sZ,h a (by simp),pj8 fun b hb=>h b (by simp[hb])]
theorem tf8{f g:α→Int}: ∀{l:List α},(∀a∈l,f a≤g a)→sZ l f≤sZ l g
 | [],_=>Int.le_refl _
 |a::l,h=>by
  have h1:=h a (by simp)
  have h2:=tf8 (l:=l) fun b hb=>h b (by simp[hb])
  rw[sZ,sZ];omega
theorem kf2(f g:α→Int): ∀l:List α,sZ l (fun a=>f a+g a)=sZ l f+sZ l g
 | []=>rfl
 |a::l=>by rw[sZ,sZ,sZ,kf2 f g l];omega
theorem e95(c:Int)(f:α→Int): ∀l:List α,sZ l (fun a=>c*f a)=c*sZ l f
 | []=>by simp[sZ]
 |a::l=>by rw[sZ,sZ,e95 c f l,Int.mul_add]
theorem qx5(c:Int)(f:α→Int)(l:List α):sZ l (fun a=>f a*c)=sZ l f*c:=by
 rw[Int.mul_comm,←e95]
 exact pj8 fun a _=>Int.mul_comm _ _
theorem bs3(c:Int): ∀l:List α,sZ l (fun _=>c)=l.length*c
 | []=>by simp[sZ]
 |a::l=>by rw[sZ,bs3 c l,List.length_cons,Int.natCast_add,Int.add_mul];omega
theorem jr2(l:List α):sZ l (fun _=>0)=0:=by rw[bs3];simp
theorem wp6(f:α→β→Int)(m:List β): ∀l:List α,sZ l (fun a=>sZ m fun b=>f a b)=sZ m fun b=>sZ l fun a=>f a b
 | []=>by
   simp only[sZ]
   rw[jr2]
 |a::l=>by
  simp only[sZ]
  rw[wp6 f m l,←kf2]
theorem zz9{f:α→Int}{l:List α}(h: ∀a∈l,0≤f a):0≤sZ l f:=by
 rw[←jr2 l];exact tf8 h
theorem rg9(f:α→Int)(l:List α):sZ l f*sZ l f≤l.length*sZ l fun a=>f a*f a:=by
 have h:0≤sZ l fun a=>sZ l fun b=>(f a-f b)*(f a-f b):=zz9 fun a _=>zz9 fun b _=>by
  have h1:(f a-f b)*(f a-f b)=(f a-f b)^2:=by rw[Int.pow_succ,Int.pow_succ,Int.pow_zero,Int.one_mul]
  rcases Int.le_total 0 (f a-f b)with h2|h2
  ·exact Int.mul_nonneg h2 h2
  ·exact Int.mul_nonneg_of_nonpos_of_nonpos h2 h2
 have e:(sZ l fun a=>sZ l fun b=>(f a-f b)*(f a-f b))=2*(l.length*sZ l fun a=>f a*f a)+ -2*(sZ l f*sZ l f):=by
  have e1: ∀a b,(f a-f b)*(f a-f b)=f a*f a+(f b*f b+ -2*(f a*f b)):=fun a b=>by
   rw[Int.sub_mul,Int.mul_sub,Int.mul_sub,Int.mul_comm (f b) (f a)];omega
  have e2:(fun a=>sZ l fun b=>(f a-f b)*(f a-f b))=fun a=>l.length*(f a*f a)+((sZ l fun b=>f b*f b)+ -2*(f a*sZ l f)):=funext fun a=>by
   rw[pj8 fun b _=>e1 a b,kf2,kf2,bs3,e95,e95]
  rw[e2,kf2,kf2,e95,bs3,e95,qx5]
  omega
 omega
variable [DecidableEq α]
def iZ(S:List α)(x:α):Int:=if x∈S then 1 else 0
theorem th6: ∀{S X:List α},S.Sublist X→X.Nodup→sZ X (iZ S)=S.length
 |_,_, .slnil,_=>rfl
 |S,a::X, .cons _ h,hn=>by
  rw[List.nodup_cons]at hn
  rw[sZ,th6 h hn.2,iZ,if_neg fun hm=>hn.1 (h.subset hm)];omega
 |a::S,_::X, .cons_cons _ h,hn=>by
  rw[List.nodup_cons]at hn
  rw[sZ,iZ,if_pos (by simp),List.length_cons,pj8 (g:=iZ S) fun x hx=> ?_,th6 h hn.2]
  ·omega
  ·unfold iZ
   by_cases hm:x∈S
   ·rw[if_pos hm,if_pos (List.mem_cons_of_mem _ hm)]
   ·rw[if_neg hm,if_neg]
    rw[List.mem_cons]
    rintro(rfl|h2)
    ·exact hn.1 hx
    ·exact hm h2
theorem su1(S T:List α)(x:α):iZ S x*iZ T x=iZ (S.filter fun y=>decide (y∈T)) x:=by
 unfold iZ
 by_cases h1:x∈S<;>by_cases h2:x∈T<;>simp[h1,h2,List.mem_filter]
theorem zx3 [DecidableEq β]{g:β→Int}{t c:Int}{z:β}: ∀{L:List β},L.Nodup→g z≤t→(∀y∈L,y≠z→g y≤c)→sZ L g≤L.length*c+if z∈L then t-c else 0
 | [],_,_,_=>by simp[sZ]
 |y::L,hn,hz,hc=>by
  rw[List.nodup_cons]at hn
  have ih:=zx3 (L:=L) hn.2 hz fun y hy=>hc y (by simp[hy])
  rw[sZ,List.length_cons,Int.natCast_add,Int.add_mul]
  by_cases h:y=z
  ·subst h
   rw[if_neg hn.1]at ih
   rw[if_pos (by simp)]
   omega
  ·have h2:=hc y (by simp) h
   by_cases h3:z∈L
   ·rw[if_pos h3]at ih
    rw[if_pos (by simp[h3])];omega
   ·rw[if_neg h3]at ih
    rw[if_neg (by rw[List.mem_cons];exact fun h4=>h4.elim (fun e=>h e.symm) h3)];omega
theorem n95 [DecidableEq β]{X:List α}(hX:X.Nodup){L:List β}(hL:L.Nodup){A:β→List α}{t c:Nat}(hA: ∀z∈L,(A z).Sublist X∧(A z).length=t)(hc: ∀z∈L,∀y∈L,y≠z→((A z).filter fun x=>decide (x∈A y)).length≤c)(htc:c≤t):
 (L.length:Int)*((t:Int)*t-X.length*c)≤X.length*((t:Int)-c):=by
 have s1:(sZ X fun x=>sZ L fun z=>iZ (A z) x)=L.length*t:=by
  rw[wp6,←bs3]
  exact pj8 fun z hz=>by rw[th6 (hA z hz).1 hX,(hA z hz).2]
 have s2:(sZ X fun x=>(sZ L fun z=>iZ (A z) x)*sZ L fun z=>iZ (A z) x)≤L.length*(L.length*c+(t-c)):=by
  have e:(sZ X fun x=>(sZ L fun z=>iZ (A z) x)*sZ L fun z=>iZ (A z) x)=sZ L fun z=>sZ L fun y=>sZ X fun x=>iZ (A z) x*iZ (A y) x:=by
   rw[show(fun x=>(sZ L fun z=>iZ (A z) x)*sZ L fun z=>iZ (A z) x)=fun x=>sZ L fun z=>sZ L fun y=>iZ (A z) x*iZ (A y) x from funext fun x=>by
    rw[←qx5]
    exact pj8 fun z _=>by rw[e95],wp6]
   exact pj8 fun z _=>by rw[wp6]
  rw[e,←bs3]
  refine tf8 fun z hz=> ?_
  have h1: ∀y∈L,(sZ X fun x=>iZ (A z) x*iZ (A y) x)=((A z).filter fun x=>decide (x∈A y)).length:=fun y _=>by
   rw[←th6 (List.filter_sublist.trans (hA z hz).1) hX]
   exact pj8 fun x _=>su1 _ _ _
  have h2:=zx3 (g:=fun y=>sZ X fun x=>iZ (A z) x*iZ (A y) x) (t:=t) (c:=c) (z:=z) hL (by
   rw[h1 z hz]
   have:=List.length_filter_le (fun x=>decide (x∈A z)) (A z)
   have:=(hA z hz).2
   omega) fun y hy hne=>by
   rw[h1 y hy]
   have:=hc z hz y hy hne
   omega
  rw[if_pos hz]at h2
  exact h2
 have s3:=rg9 (fun x=>sZ L fun z=>iZ (A z) x) X
 simp only[s1]at s3
 have s4:(X.length:Int)*(sZ X fun x=>(sZ L fun z=>iZ (A z) x)*sZ L fun z=>iZ (A z) x)≤X.length*(L.length*(L.length*c+(t-c))):=Int.mul_le_mul_of_nonneg_left s2 (by omega)
 have s5:=Int.le_trans s3 s4
 by_cases h0:L.length=0
 ·rw[h0]
  have:(0:Int)≤X.length*((t:Int)-c):=Int.mul_nonneg (by omega) (by omega)
  simpa using this
 ·have hlp:(0:Int)<L.length:=by omega
  clear s1 s2 s3 s4 hA hc h0
  generalize (L.length:Int)=l at*
  generalize (X.length:Int)=n at*
  have hl:0<l:=hlp
  have e1:l*t*(l*t)=l*(l*(t*t)):=by
   rw[Int.mul_assoc,Int.mul_left_comm (t:Int) l t]
  have e2:n*(l*(l*c+(t-c)))=l*(n*(l*c+(t-c))):=Int.mul_left_comm ..
  rw[e1,e2]at s5
  have s6:=Int.le_of_mul_le_mul_left s5 hl
  have e3:n*(l*(c:Int))=l*(n*c):=Int.mul_left_comm ..
  rw[Int.mul_add,e3]at s6
  rw[Int.mul_sub]
  omega
end
end Go.Alg
namespace Go.Proofs.Ytmhbpecdpiapgaa
open Go.Am Go.Vm Go.Alg
theorem my7{p:Nat}: ∀{l l':List Int},digS p l→digS p l'→l.length=l'.length→valS p l=valS p l'→l=l'
 | [],[],_,_,_,_=>rfl
 |a::l,b::l',h,h',hl,hv=>by
  have hl':l.length=l'.length:=by simpa using hl
  have h1:=uc1 (l:=l) fun c hc=>h c (by simp[hc])
  have h2:=uc1 (l:=l') fun c hc=>h' c (by simp[hc])
  have h3:=h a (by simp)
  have h4:=h' b (by simp)
  rw[valS,valS,←hl']at hv
  rw[←hl']at h2
  generalize p^l.length=M at*
  have e:a.toNat=b.toNat:=by
   rcases Nat.lt_trichotomy a.toNat b.toNat with h5|h5|h5
   ·have h6:(a.toNat+1)*M≤b.toNat*M:=Nat.mul_le_mul_right _ h5
    rw[Nat.add_mul]at h6;omega
   ·exact h5
   ·have h6:(b.toNat+1)*M≤a.toNat*M:=Nat.mul_le_mul_right _ h5
    rw[Nat.add_mul]at h6;omega
  rw[e]at hv
  rw[my7 (fun c hc=>h c (by simp[hc])) (fun c hc=>h' c (by simp[hc])) hl' (by omega),show a=b by omega]
section
variable {q:Int} [IsFld q] {p:Nat} {P:List (El q×El q)} {r:Int}
theorem td8{z z0:List (El q)}{acc:List (List (El q))}:z0∈adNr P r z acc↔z0∈acc∨(z0=z∧(offK z0 P:Int)≤r):=by
 unfold adNr
 split
 ·rename_i h
  rw[List.mem_append,List.mem_singleton]
  constructor
  ·rintro(h1|rfl)
   ·exact .inl h1
   ·exact .inr ⟨rfl,h⟩
  ·rintro(h1|⟨h1,_⟩)
   ·exact .inl h1
   ·exact .inr h1
 ·rename_i h
  constructor
  ·exact .inl
  ·rintro(h1|⟨rfl,h1⟩)
   ·exact h1
   ·exact absurd h1 h
theorem val_inj{z z0:List (El q)}(e:q=(p:Int))(hl:z0.length=z.length)(hv:valS p (vs z)=valS p (vs z0)):z0=z:=
 qa5 (my7 (p:=p) (by rw[←e];exact oa6 z0) (by rw[←e];exact oa6 z) (by rw[fi2,fi2,hl]) hv.symm)
theorem u04{z0:List (El q)}: ∀(n:Nat) (z:List (El q)) (acc:List (List (El q))),Left q p n z→z0.length=z.length→(z0∈nrL P r n z acc↔z0∈acc∨(valS p (vs z)≤valS p (vs z0)∧(offK z0 P:Int)≤r))
 |0,z,acc,hL,hl=>by
  rw[nrL,td8]
  have h1:=hL.h
  have h2:=uc1 (q:=p) (l:=vs z0) (by rw[←hL.e];exact oa6 z0)
  rw[fi2,hl]at h2
  constructor
  ·rintro(h|⟨rfl,h⟩)
   ·exact .inl h
   ·exact .inr ⟨Nat.le_refl _,h⟩
  ·rintro(h|⟨h3,h⟩)
   ·exact .inl h
   ·exact .inr ⟨val_inj hL.e hl (by omega),h⟩
 |n+1,z,acc,hL,hl=>by
  obtain⟨_,hL2⟩:=hL.more
  have h1:=hL.h
  have h2:=hL2.h
  rw[l71]at h2
  rw[nrL,u04 n _ _ hL2 (by rw[l71,hl]),td8]
  constructor
  ·rintro((h|⟨rfl,h⟩)|⟨h3,h⟩)
   ·exact .inl h
   ·exact .inr ⟨Nat.le_refl _,h⟩
   ·exact .inr ⟨by omega,h⟩
  ·rintro(h|⟨h3,h⟩)
   ·exact .inl (.inl h)
   ·by_cases h4:valS p (vs z)=valS p (vs z0)
    ·exact .inl (.inr ⟨val_inj hL.e hl h4,h⟩)
    ·exact .inr ⟨by omega,h⟩
theorem q75: ∀(n:Nat) (z:List (El q)) (acc:List (List (El q))),Left q p n z→acc.Nodup→(∀a∈acc,a.length=z.length∧valS p (vs a)<valS p (vs z))→(nrL P r n z acc).Nodup∧ ∀a∈nrL P r n z acc,a.length=z.length:=by
 have one: ∀(z:List (El q)) (acc:List (List (El q))),acc.Nodup→(∀a∈acc,a.length=z.length∧valS p (vs a)<valS p (vs z))→(adNr P r z acc).Nodup∧ ∀a∈adNr P r z acc,a.length=z.length∧valS p (vs a)≤valS p (vs z):=fun z acc h1 h2=>by
  refine⟨?_,fun a ha=> ?_⟩
  ·unfold adNr
   split
   ·rw[List.nodup_append]
    refine⟨h1,by simp,fun a ha b hb=> ?_⟩
    rw[List.mem_singleton]at hb
    rintro rfl
    have:=h2 a ha
    rw[hb]at this;omega
   ·exact h1
  ·rcases td8.1 ha with h|⟨rfl,_⟩
   ·have:=h2 a h
    exact⟨this.1,by omega⟩
   ·exact⟨rfl,Nat.le_refl _⟩
 intro n
 induction n with
 |zero=>
  intro z acc hL h1 h2
  have:=one z acc h1 h2
  rw[nrL]
  exact⟨this.1,fun a ha=>(this.2 a ha).1⟩
 |succ n ih=>
  intro z acc hL h1 h2
  obtain⟨_,hL2⟩:=hL.more
  have h3:=hL.h
  have h4:=hL2.h
  rw[l71]at h4
  have h5:=one z acc h1 h2
  have h6:=ih (yv5 z) _ hL2 h5.1 fun a ha=>by
   have:=h5.2 a ha
   rw[l71]
   exact⟨this.1,by omega⟩
  rw[l71]at h6
  rw[nrL];exact h6
theorem jn7{K:Nat}{z:List (El q)}(hz:z.length=K):z∈g06 P r K↔(offK z P:Int)≤r:=by
 unfold g06
 have h:=pa1 (q:=q) K
 rw[u04 _ _ _ h (by rw[hz,List.length_replicate])]
 have h1:=h.h
 rw[List.length_replicate]at h1
 have h2:0<q.toNat^K:=Nat.pow_pos (by have:=aw0 (q:=q);omega)
 constructor
 ·rintro(h|⟨_,h⟩)
  ·cases h
  ·exact h
 ·exact fun h=> .inr ⟨by omega,h⟩
theorem no8(K:Nat):(g06 P r K).Nodup∧ ∀z∈g06 P r K,z.length=K:=by
 have h:=q75 (P:=P) (r:=r) _ _ [] (pa1 (q:=q) K) List.nodup_nil (fun a h=>by cases h)
 rw[List.length_replicate]at h
 exact h
theorem qu6{X Y:List (El q)}{K t:Nat}(hX:X.Nodup)(hY:Y.length=X.length)(hK:1≤K)(ht:1≤t)(hKt:K≤t+1)(hr:r=(X.length:Int)-t):
 ((g06 (X.zip Y) r K).length:Int)*((t:Int)*t-X.length*((K-1:Nat):Int))≤X.length*((t:Int)-((K-1:Nat):Int)):=by
 have hfst:(X.zip Y).map Prod.fst=X:=by rw[List.map_fst_zip];omega
 obtain⟨hn,hl⟩:=no8 (P:=X.zip Y) (r:=r) K
 have hXf:((X.zip Y).map Prod.fst).Nodup:=by rw[hfst];exact hX
 refine n95 hX hn (A:=fun z=>(okK z (X.zip Y)).take t) (fun z hz=> ?_) (fun z hz y hy hne=> ?_) (by omega)
 ·have h1:=wy1 z (X.zip Y)
  rw[List.length_zip,hY,Nat.min_self]at h1
  have h2:=(jn7 (hl z hz)).1 hz
  refine⟨(List.take_sublist _ _).trans ?_,by rw[List.length_take];omega⟩
  rw[←hfst]
  unfold okK
  rw[hfst]
  conv=>rhs;rw[←hfst]
  exact List.Sublist.map _ List.filter_sublist
 ·refine Classical.byContradiction fun h=>hne (ou8 (by rw[hl y hy,hl z hz]) ?_)
  have hz':=hl z hz
  have hy':=hl y hy
  refine yn1 (xs:=((okK z (X.zip Y)).take t).filter fun x=>decide (x∈(okK y (X.zip Y)).take t)) (((ns1 hXf).sublist (List.take_sublist _ _)).sublist List.filter_sublist) (fun k hk=>ez8 (by omega)) (fun k hk=>ez8 (by omega)) fun x hx=> ?_
  obtain⟨h1,h2⟩:=List.mem_filter.1 hx
  obtain⟨v,h3,h4⟩:=sw0 (List.mem_of_mem_take h1)
  obtain⟨u,h5,h6⟩:=sw0 (List.mem_of_mem_take (of_decide_eq_true h2))
  rw[h4,h6]
  --a place has one value
  obtain⟨i,hi,e1⟩:=List.getElem_of_mem h3
  obtain⟨j,hj,e2⟩:=List.getElem_of_mem h5
  rw[List.getElem_zip,Prod.mk.injEq]at e1 e2
  rw[List.length_zip]at hi hj
  have hij:i=j:=(List.getElem_inj hX).1 (e1.1.trans e2.1.symm)
  subst hij
  exact e2.2.symm.trans e1.2
end
def lOK:List (Nat×Nat)→Nat→Nat→Prop
 | [],_,_=>True
 |p::l,c,i=>(0<c∧p=(i,c-1)∧lOK l c (i+1))∨(p=(0,c)∧lOK l (c+1) 1)
theorem xf5: ∀{l:List (Nat×Nat)} {c i:Nat} (k:Nat),lOK l c i→lOK (l.take k) c i
 | [],_,_,k,_=>by simp[lOK]
 |p::l,c,i,0,_=>trivial
 |p::l,c,i,k+1,h=>by
  rw[List.take_succ_cons]
  rcases h with⟨h0,h1,h2⟩|⟨h1,h2⟩
  ·exact .inl ⟨h0,h1,xf5 k h2⟩
  ·exact .inr ⟨h1,xf5 k h2⟩
theorem lt8{m j:Nat}{l:List (Nat×Nat)}(hl: ∀i,lOK l (j+1) i): ∀(n i:Nat),n=m-i→0<i→lOK (blkN m j i++l) (j+1) i
 |0,i,hn,hi=>by rw[ge3 (by omega)];exact hl i
 |n+1,i,hn,hi=>by
  rw[be7 (by omega)]
  exact .inl ⟨by omega,by rw[Nat.add_sub_cancel],lt8 hl n (i+1) (by omega) (by omega)⟩
theorem nx0{k1 t:Nat}: ∀(n j i:Nat),lOK (monT k1 t n j) j i
 |0,j,i=>trivial
 |n+1,j,i=>by
  rw[monT]
  split
  ·rename_i h
   rw[be7 (by omega)]
   exact .inr ⟨rfl,lt8 (fun i=>nx0 n (j+1) i) _ 1 rfl (by omega)⟩
  ·trivial
theorem v28{m j i:Nat}: ∀p∈blkN m j i,p.1<m∧p.2=j:=fun p hp=>by
 unfold blkN at hp
 obtain⟨a,ha,rfl⟩:=List.mem_map.1 hp
 rw[List.mem_range'_1]at ha
 exact⟨by show a<m;omega,rfl⟩
theorem hy4{k1 t:Nat}: ∀(n j:Nat),∀p∈monT k1 t n j,p.1+p.2*k1<t
 |0,j,p,h=>by cases h
 |n+1,j,p,h=>by
  rw[monT]at h
  split at h
  ·rename_i hj
   rcases List.mem_append.1 h with h|h
   ·have:=v28 p h
    rw[this.2];omega
   ·exact hy4 n (j+1) p h
  ·cases h
section
variable {q:Int} [IsFld q]
def mvS(a:List (El q))(x y:El q):List (Nat×Nat)→Nat→El q
 | [],_=>0
 |p::l,n=>wf a n*(pw x p.1*pw y p.2)+mvS a x y l (n+1)
def gvS(x y:El q):List (List (El q))→Nat→El q
 | [],_=>0
 |g::G,j=>ev g x*pw y j+gvS x y G (j+1)
theorem mx0(x y:El q)(g:List (El q)): ∀(G:List (List (El q))) (j:Nat),gvS x y (G++[g]) j=gvS x y G j+ev g x*pw y (j+G.length)
 | [],j=>by rw[List.nil_append,gvS,gvS,gvS,FK.add_zero,zero_add];rfl
 |h::G,j=>by
  rw[List.cons_append,gvS,mx0 x y g G (j+1),gvS,List.length_cons,show j+1+G.length=j+(G.length+1) by omega]
  ac_rfl
theorem zp7(x v:El q): ∀g:List (El q),ev (g++[v]) x=ev g x+v*pw x g.length
 | []=>by
   show v+x*0=0+v*1
   rw[mul_zero,FK.add_zero,zero_add,FK.mul_one]
 |a::g=>by
  rw[List.cons_append,Go.Alg.ev,zp7 x v g,Go.Alg.ev,List.length_cons]
  show a+x*(ev g x+v*pw x g.length)=a+x*ev g x+v*(pw x g.length*x)
  rw[FK.mul_add]
  ac_rfl
theorem l46(a:List (El q))(x y:El q)(t:Nat): ∀(l:List (Nat×Nat)) (n:Nat) (G:List (List (El q))) (g:List (El q)),lOK l (G.length+1) g.length→(∀p∈l,p.1+p.2<t)→(∀(j:Nat) (h:List (El q)),(G++[g])[j]? =some h→h.length+j≤t)→
 gvS x y (grpG a l n (G++[g])) 0=gvS x y (G++[g]) 0+mvS a x y l n∧ ∀(j:Nat) (h:List (El q)),(grpG a l n (G++[g]))[j]? =some h→h.length+j≤t
 | [],n,G,g,_,_,hG=>⟨by rw[grpG,mvS,FK.add_zero],hG⟩
 |p::l,n,G,g,hl,hp,hG=>by
  have hp0:=hp p (by simp)
  rw[grpG,mvS]
  rcases hl with⟨_,h1,h2⟩|⟨h1,h2⟩
  ·rw[Nat.add_sub_cancel]at h1
   have hs:stepG (G++[g]) p.2 (wf a n)=G++[g++[wf a n]]:=by
    unfold stepG
    rw[h1,if_neg (by simp),ht0 _ (show(G++[g])[G.length]? =some g by simp)]
    rw[List.set_append_right _ _ (Nat.le_refl _),Nat.sub_self];rfl
   obtain⟨e1,e2⟩:=l46 a x y t l (n+1) G (g++[wf a n]) (by rw[List.length_append,List.length_singleton];exact h2) (fun p hp2=>hp p (by simp[hp2])) (fun j h hj=>by
    by_cases hjl:j<G.length
    ·rw[List.getElem?_append_left hjl]at hj
     exact hG j h (by rw[List.getElem?_append_left hjl];exact hj)
    ·have:j=G.length:=by
      have:=(List.getElem?_eq_some_iff.1 hj).1
      rw[List.length_append,List.length_singleton]at this;omega
     subst this
     rw[List.getElem?_append_right (Nat.le_refl _),Nat.sub_self]at hj
     cases hj
     rw[h1]at hp0
     rw[List.length_append,List.length_singleton]
     simp only[]at hp0;omega)
   rw[hs]
   refine⟨?_,e2⟩
   rw[e1,mx0,mx0,zp7,Nat.zero_add,h1,FK.mul_comm (ev g x+_),FK.mul_add]
   show _=_+(wf a n*(pw x g.length*pw y G.length)+_)
   ac_rfl
  ·have hs:stepG (G++[g]) p.2 (wf a n)=(G++[g])++[[wf a n]]:=by
    unfold stepG
    have:p.2=(G++[g]).length:=by rw[h1];simp
    rw[if_pos this,this,ph5]
   obtain⟨e1,e2⟩:=l46 a x y t l (n+1) (G++[g]) [wf a n] (by rw[List.length_append,List.length_singleton];exact h2) (fun p hp2=>hp p (by simp[hp2])) (fun j h hj=>by
    by_cases hjl:j<(G++[g]).length
    ·rw[List.getElem?_append_left hjl]at hj
     exact hG j h hj
    ·have:j=(G++[g]).length:=by
      have:=(List.getElem?_eq_some_iff.1 hj).1
      rw[List.length_append,List.length_singleton]at this;omega
     subst this
     rw[List.getElem?_append_right (Nat.le_refl _),Nat.sub_self]at hj
     cases hj
     rw[h1]at hp0
     rw[List.length_append,List.length_singleton,List.length_singleton]
     simp only[]at hp0;omega)
   rw[hs]
   refine⟨?_,e2⟩
   rw[e1,mx0 x y [wf a n],h1,Nat.zero_add,List.length_append,List.length_singleton]
   show _+(wf a n+x*0)*_+_=_+(wf a n*(1*pw y (G.length+1))+_)
   rw[mul_zero,FK.add_zero,one_mul]
   ac_rfl
theorem fj5(a:List (El q))(x y:El q){K t:Nat}(hK:2≤K){X Y:List (El q)}(ht:1≤t):gvS x y (sudG X Y K t a) 0=mvS a x y (monL (K-1) t) 0∧ ∀(j:Nat) (h:List (El q)),(sudG X Y K t a)[j]? =some h→h.length+j≤t:=by
 unfold sudG
 have h1:lOK (monL (K-1) t) 0 0:=xf5 64 (nx0 _ 0 0)
 have h2: ∀p∈monL (K-1) t,p.1+p.2<t:=fun p hp=>by
  have:=hy4 _ _ p (List.mem_of_mem_take hp)
  have h3:p.2*1≤p.2*(K-1):=Nat.mul_le_mul_left _ (by omega)
  omega
 cases hm:monL (K-1) t with
 |nil=>exact⟨rfl,fun j h hj=>by simp[grpG]at hj⟩
 |cons p l=>
  rw[hm]at h1 h2
  rcases h1 with⟨h3,_⟩|⟨h3,h4⟩
  ·omega
  ·have hs:stepG ([]:List (List (El q))) p.2 (wf a 0)=[]++[[wf a 0]]:=by rw[h3];rfl
   obtain⟨e1,e2⟩:=l46 a x y t l 1 [] [wf a 0] h4 (fun p hp=>h2 p (by simp[hp])) (fun j h hj=>by
    have hj0:j=0:=by
     have:=(List.getElem?_eq_some_iff.1 hj).1
     simp at this;omega
    subst hj0
    cases hj
    simp;omega)
   rw[grpG,hs]
   refine⟨?_,e2⟩
   rw[e1,mvS,h3,List.nil_append,gvS,gvS,FK.add_zero]
   show(wf a 0+x*0)*1+_=wf a 0*(1*1)+_
   rw[mul_zero,FK.add_zero,FK.mul_one,FK.mul_one,FK.mul_one]
theorem tt9(a:List (El q))(x y:El q): ∀(l:List (Nat×Nat)) (n:Nat),mvS a x y l n=sumN l.length fun k=>wf (rj3 x y l) k*wf a (n+k)
 | [],n=>rfl
 |p::l,n=>by
  rw[mvS,tt9 a x y l (n+1),List.length_cons,c66]
  show _=(pw x p.1*pw y p.2)*wf a (n+0)+_
  rw[FK.mul_comm (wf a n),Nat.add_zero]
  congr 1
  refine rc1 fun k _=> ?_
  show wf (rj3 x y l) k*wf a (n+1+k)=wf (rj3 x y l) k*wf a (n+(k+1))
  rw[show n+1+k=n+(k+1) by omega]
theorem x45{X Y:List (El q)}{K t:Nat}(hY:Y.length=X.length){a:Nat×List (El q)}(ha:a∈sudA X Y K t){x y:El q}(hxy:(x,y)∈X.zip Y):mvS a.2 x y (monL (K-1) t) 0=0:=by
 have hr:=wc9 (M:=monL (K-1) t) hY
 have hsp:Span (rowsOf (toF (zt5 (monL (K-1) t).length (sudM X Y (monL (K-1) t))))) (wf a.2):= .mem (he1.2 ⟨a,ha,rfl⟩)
 have h:=(((sw1 hr).2.2.1 _).1 hsp).2 (rj3 x y (monL (K-1) t)) (List.mem_map.2 ⟨(x,y),hxy,rfl⟩)
 rw[tt9]
 simp only[Nat.zero_add]
 exact h
def horK:List (List (El q))→List (El q)→List (El q)
 | [],_=>[]
 |g::G,f=>addK (mulK (horK G f) f) g
theorem ng1(f:List (El q))(x:El q): ∀(G:List (List (El q))) (j:Nat),ev (horK G f) x*pw (ev f x) j=gvS x (ev f x) G j
 | [],j=>by rw[horK,gvS];show 0*_=_;rw[zero_mul]
 |g::G,j=>by
  rw[horK,gvS,k99,jo3,←ng1 f x G (j+1),FK.mul_comm (_+_),FK.mul_add]
  show _=_+ev (horK G f) x*(pw (ev f x) j*ev f x)
  ac_rfl
theorem vu6{f:List (El q)}(hf:f.length≤2){t:Nat}: ∀(G:List (List (El q))) (i:Nat),(∀(j:Nat) (h:List (El q)),G[j]? =some h→h.length+(i+j)≤t)→(horK G f).length≤t-i
 | [],i,_=>Nat.zero_le _
 |g::G,i,h=>by
  have h1:=vu6 hf (t:=t) G (i+1) fun j h2 hj=>by
   have:=h (j+1) h2 (by simpa using hj);omega
  have h2:=h 0 g rfl
  have h3:=mk8 (mulK (horK G f) f) g
  have h4:=bx4 (horK G f) f
  by_cases h5:(horK G f).length=0
  ·rw[hz4 (.inl h5)]at h3
   rw[horK,hz4 (.inl h5)]
   simp only[List.length_nil]at h3;omega
  ·rw[horK];omega
theorem hr5(f:List (El q)): ∀G:List (List (El q)),Trm (horK G f)
 | []=>by rw[horK,←n18];exact t12 _
 |g::G=>by rw[horK];exact y42 _ _
theorem sq8{X Y f:List (El q)}{t:Nat}(hX:X.Nodup)(hY:Y.length=X.length)(ht:1≤t)(hf:f.length=2)(hoff:(offK f (X.zip Y):Int)≤(X.length:Int)-t){a:Nat×List (El q)}(ha:a∈sudA X Y 2 t):horK (sudG X Y 2 t a.2) f=[]:=by
 have hfst:(X.zip Y).map Prod.fst=X:=by rw[List.map_fst_zip];omega
 obtain⟨_,hlen⟩:=fj5 (X:=X) (Y:=Y) a.2 0 0 (K:=2) (Nat.le_refl _) ht
 have hl:=vu6 (f:=f) (by omega) (t:=t) (sudG X Y 2 t a.2) 0 (fun j h hj=>by have:=hlen j h hj;omega)
 have hok:=wy1 f (X.zip Y)
 rw[List.length_zip,hY,Nat.min_self]at hok
 have hz:=roots (okK f (X.zip Y)) (horK (sudG X Y 2 t a.2) f) (ns1 (by rw[hfst];exact hX)) (by omega) fun x hx=>by
  obtain⟨y,h1,h2⟩:=sw0 hx
  have h3:=ng1 f x (sudG X Y 2 t a.2) 0
  rw[h2,(fj5 (X:=X) (Y:=Y) a.2 x y (K:=2) (Nat.le_refl _) ht).1,x45 hY ha h1]at h3
  have h4:ev (horK (sudG X Y 2 t a.2) f) x*1=0:=h3
  rwa [FK.mul_one]at h4
 have h5:=vy9 (yw7 hz)
 rwa [ou7 (hr5 f _)]at h5
end
section
variable {q:Int} [IsFld q] {b b':Bool} {nl nl' nr:Nat} {G:List (List (El q))} {f:List (El q)}
theorem nj5(hf:f.length≤2)(hG:G.length≤64)(hl: ∀g∈G,g.length≤64)(hs: ∀j,(horK (G.drop j) f).length≤64): ∀(j:Nat),j≤G.length→ ∀n9,∃n',∀ks,
 vgoL W ⟨hNo,[.tmp 6, .tmp 7],0⟩ [0,1,2,9,10] c55L0 (.blk 0 [9]::ks) [(0, .x (.int .i64 q)),(1, .fz b (.sl nl 0 1 (lvs nr (G.map vs)))),(2, .fz b' (.sl nl' 0 1 (ivs (vs f)))),(9, .own 0 []),(10, .x (.int .i64 ((j:Int)-1)))] [.sl n9 3 1 (ivs (vs (horK (G.drop j) f)))]=
  vgo W ⟨hNo,[.tmp 6, .tmp 7],0⟩ ks (VFr.of [(9, .own 0 [])]) [.sl n' 3 1 (ivs (vs (horK G f)))]
 |0,hj,n9=>by
  refine⟨n9,fun ks=> ?_⟩
  rw[List.drop_zero,sb5 c55L0.eq_def]
  simp(disch:=first|omega|fail) only[push_cast,seval,vrl,if_pos,if_neg]
 |j+1,hj,n9=>by
  obtain⟨g,hg⟩:=ge6 (l:=G) (i:=j) (by omega)
  have hgl:=hl g (List.mem_of_getElem? hg)
  have e0:=lat (nl:=nr) (show(G.map vs)[j]? =some (vs g) by rw[List.getElem?_map,hg];rfl)
  have hml:(G.map vs).length=G.length:=List.length_map ..
  have h1:=hs (j+1)
  have h2:=bx4 (horK (G.drop (j+1)) f) f
  have h3:=tb1 (horK (G.drop (j+1)) f)
  have h4:=tb1 f
  obtain⟨F,e1⟩:=sk4 fun b nl b' nl'=>h85 (b:=b) (nl:=nl) (b':=b') (nl':=nl') (a:=horK (G.drop (j+1)) f) (c:=f) (by omega) (by omega) fun e=>by have:=e.2.2;omega
  have e2:=fun b nl b' nl'=>wa2 (b:=b) (nl:=nl) (b':=b') (nl':=nl') (a:=mulK (horK (G.drop (j+1)) f) f) (c:=g) (by omega) (by omega)
  obtain⟨n',ih⟩:=nj5 hf hG hl hs j (by omega) (nlT (addK (mulK (horK (G.drop (j+1)) f) f) g))
  refine⟨n',fun ks=> ?_⟩
  have ih:=ih ks
  rw[i62 hg,horK]at ih
  have hjj:((j+1:Nat):Int)-1=(j:Int):=by omega
  rw[hjj,←ih,sb5 c55L0.eq_def]
  generalize addK (mulK (horK (G.drop (j+1)) f) f) g=S at*
  generalize mulK (horK (G.drop (j+1)) f) f=M at*
  generalize horK (G.drop (j+1)) f=H at*
  simp(disch:=first|omega|fail) only[push_cast,seval,vrl,if_pos,if_neg,e0,hml,e1,e2]
theorem f03{g:List (El q)}{j:Nat}(hj:G.length=j+1)(hg:G[j]? =some g)(hgl:g.length≤64)(hf:f.length≤2)(hG:G.length≤64)(ks):
 vgoL W ⟨hNo,[.tmp 6, .tmp 7],0⟩ [0,1,2,9,10] c55L0 (.blk 0 [9]::ks) [(0, .x (.int .i64 q)),(1, .fz b (.sl nl 0 1 (lvs nr (G.map vs)))),(2, .fz b' (.sl nl' 0 1 (ivs (vs f)))),(9, .x (.slice none 0 0)),(10, .x (.int .i64 (G.length-1)))] []=
  vgoL W ⟨hNo,[.tmp 6, .tmp 7],0⟩ [0,1,2,9,10] c55L0 (.blk 0 [9]::ks) [(0, .x (.int .i64 q)),(1, .fz b (.sl nl 0 1 (lvs nr (G.map vs)))),(2, .fz b' (.sl nl' 0 1 (ivs (vs f)))),(9, .own 0 []),(10, .x (.int .i64 ((j:Int)-1)))] [.sl (nlT (addK (mulK [] f) g)) 3 1 (ivs (vs (addK (mulK [] f) g)))]:=by
 have e0:=lat (nl:=nr) (show(G.map vs)[j]? =some (vs g) by rw[List.getElem?_map,hg];rfl)
 have hml:(G.map vs).length=G.length:=List.length_map ..
 have h4:=tb1 f
 obtain⟨F,e1⟩:=sk4 fun b nl b' nl'=>h85 (b:=b) (nl:=nl) (b':=b') (nl':=nl') (a:=([]:List (El q))) (c:=f) (by simp) (by omega) fun e=>e.1 rfl
 rw[show ivs (vs ([]:List (El q)))=[]from rfl]at e1
 have h2:=bx4 [] f
 rw[List.length_nil]at h2
 have e2:=fun b nl b' nl'=>wa2 (b:=b) (nl:=nl) (b':=b') (nl':=nl') (a:=mulK [] f) (c:=g) (by omega) (by omega)
 have hjj:(G.length:Int)-1=(j:Int):=by omega
 conv=>lhs;rw[hjj,sb5 c55L0.eq_def]
 generalize addK (mulK [] f) g=S at*
 generalize mulK [] f=M at*
 simp(disch:=first|omega|fail) only[push_cast,seval,vrl,if_pos,if_neg,e0,hml,e1,e2]
theorem fb2(h0:0<G.length)(hf:f.length≤2)(hG:G.length≤64)(hl: ∀g∈G,g.length≤64)(hs: ∀j,(horK (G.drop j) f).length≤64):
 ∃n',o24 W 55 [.x (.int .i64 q), .fz b (.sl nl 0 1 (lvs nr (G.map vs))), .fz b' (.sl nl' 0 1 (ivs (vs f)))] []=some (.tup [.own 0 [], .x (.int .i64 0)],[.sl n' 3 1 (ivs (vs (horK G f)))],[]):=by
 have e1:=fun b nl=>bw7 (q:=q) (b:=b) (nl:=nl) (l:=vs f) (by rw[fi2];omega)
 simp only[i31 (show f.length≤128 by omega)]at e1
 have hml:(G.map vs).length=G.length:=List.length_map ..
 obtain⟨g,hg⟩:=ge6 (l:=G) (i:=G.length-1) (by omega)
 have hgl:=hl g (List.mem_of_getElem? hg)
 have ef:=fun b nl nr b' nl' ks=>f03 (b:=b) (nl:=nl) (nr:=nr) (b':=b') (nl':=nl') (show G.length=(G.length-1)+1 by omega) hg hgl hf hG ks
 obtain⟨n',e2⟩:=nj5 (b:=b) (b':=b') (nl:=nl) (nl':=nl') (nr:=nr) hf hG hl hs (G.length-1) (by omega) (nlT (addK (mulK [] f) g))
 rw[i62 hg,show G.length-1+1=G.length by omega,List.drop_length,show horK [g] f=addK (mulK [] f) g from rfl]at e2
 refine⟨n', ?_⟩
 have h64: ¬(64:Int)<(G.length:Int):=by omega
 rw[o10 rfl T55 rfl]
 unfold F55 c55
 simp(disch:=first|omega|fail) only[push_cast,seval,vrl,if_pos,if_neg,e1,hml,cw6 (Int.not_lt.1 h64)]
 rw[ef,e2]
 simp(disch:=first|omega|fail) only[push_cast,seval,vrl,if_pos,if_neg]
end
section
variable {b b':Bool} {nl nl' nr:Nat} {L:List (List Int)} {m:List Int}
theorem v53(hL:L.length≤9223372036854775807)(hm: ∀l∈L,l.length≤9223372036854775807): ∀(d i:Nat),i+d=L.length→ ∀ks,
 vgoL W ⟨hNo,[.tmp 4],0⟩ [0,1,5] c52L0 (.blk 0 []::ks) [(0, .fz b (.sl nl 0 1 (lvs nr L))),(1, .fz b' (.sl nl' 0 1 (ivs m))),(5, .x (.int .i64 i))] []=if m∈L.drop i then some (.x (.bool true),[],[])else vgo W ⟨hNo,[.tmp 4],0⟩ ks (VFr.of []) []
 |0,i,hi,ks=>by
  rw[oh9 (by omega),if_neg (by simp),sb5 c52L0.eq_def]
  simp(disch:=first|omega|fail) only[push_cast,seval,vrl,if_pos,if_neg]
 |d+1,i,hi,ks=>by
  have ih:=v53 hL hm d (i+1) (by omega) ks
  obtain⟨l,hl⟩:=ge6 (l:=L) (i:=i) (by omega)
  have e0:=lat (nl:=nr) hl
  have e1:=fun b nl b' nl'=>nb2 (b:=b) (nl:=nl) (b':=b') (nl':=nl') (l:=l) (k:=m) (hm l (List.mem_of_getElem? hl))
  rw[Int.natCast_add,Int.natCast_one]at ih
  rw[i62 hl,sb5 c52L0.eq_def]
  by_cases h:l=m
  ·rw[decide_eq_true h]at e1
   rw[if_pos (by rw[h];simp)]
   simp(disch:=first|omega|fail) only[push_cast,seval,vrl,if_pos,if_neg,e0,e1]
  ·rw[decide_eq_false h]at e1
   have hh:(m∈l::L.drop (i+1))=(m∈L.drop (i+1)):=by
    rw[List.mem_cons]
    exact propext ⟨fun h2=>h2.elim (fun e=>absurd e.symm h) id, .inr⟩
   simp only[hh]
   rw[←ih]
   simp(disch:=first|omega|fail) only[push_cast,seval,vrl,if_pos,if_neg,e0,e1]
theorem nv3(hL:L.length≤9223372036854775807)(hm: ∀l∈L,l.length≤9223372036854775807):o24 W 52 [.fz b (.sl nl 0 1 (lvs nr L)), .fz b' (.sl nl' 0 1 (ivs m))] []=some (.x (.bool (decide (m∈L))),[],[]):=by
 have e:=fun ks=>v53 (b:=b) (nl:=nl) (nr:=nr) (b':=b') (nl':=nl') (m:=m) hL hm L.length 0 (by omega) ks
 rw[List.drop_zero]at e
 simp only[Int.natCast_zero]at e
 rw[o10 rfl T52 rfl]
 unfold F52 c52
 simp(disch:=first|omega|fail) only[push_cast,seval,vrl,if_pos,if_neg]
 rw[e]
 by_cases h:m∈L
 ·rw[if_pos h,decide_eq_true h]
 ·rw[if_neg h,decide_eq_false h]
  simp(disch:=first|omega|fail) only[push_cast,seval,vrl,if_pos,if_neg]
end
section
variable {q:Int} [IsFld q] {G L:List (List (El q))}
theorem fi3{t kk:Int}(hG0:0<G.length)(hG:G.length≤64)(hg: ∀g∈G,g.length≤64)(hL:L.length≤10000)(hf: ∀f∈L,f.length≤2∧horK G f=[]∧ ∀j,(horK (G.drop j) f).length≤64): ∀(d i:Nat),i+d=L.length→ ∀ks,
 vgoL W ⟨hNo,[.tmp 12],0⟩ [1,3,15,20,21,22] c7L0 (.blk 0 []::ks) [(1, .x (.int .i64 q)),(3, .x (.int .i64 kk)),(15, .own 0 []),(20, .x (.int .i64 t)),(21, .own 1 []),(22, .x (.int .i64 i))] [.sl 1 22 1 (lls 2 (L.map vs)), .sl 1 22 1 (lls 2 (G.map vs))]=
  vgo W ⟨hNo,[.tmp 12],0⟩ ks (VFr.of []) [.sl 1 22 1 (lls 2 (L.map vs)), .sl 1 22 1 (lls 2 (G.map vs))]
 |0,i,hi,ks=>by
  have hml:(L.map vs).length=L.length:=List.length_map ..
  rw[sb5 c7L0.eq_def]
  simp(disch:=first|omega|fail) only[push_cast,seval,vrl,if_pos,if_neg,hml]
 |d+1,i,hi,ks=>by
  have ih:=fi3 (t:=t) (kk:=kk) hG0 hG hg hL hf d (i+1) (by omega) ks
  have hml:(L.map vs).length=L.length:=List.length_map ..
  obtain⟨f,hfi⟩:=ge6 (l:=L) (i:=i) (by omega)
  obtain⟨h1,h2,h3⟩:=hf f (List.mem_of_getElem? hfi)
  have e0:=th8 (nl:=2) (show(L.map vs)[i]? =some (vs f) by rw[List.getElem?_map,hfi];rfl)
  obtain⟨F,e1⟩:=sk4 fun b nl b' nl'=>fb2 (b:=b) (nl:=nl) (nr:=2) (b':=b') (nl':=nl') (G:=G) (f:=f) hG0 h1 hG hg h3
  rw[h2,show ivs (vs ([]:List (El q)))=[]from rfl]at e1
  rw[Int.natCast_add,Int.natCast_one]at ih
  rw[←ih,sb5 c7L0.eq_def]
  simp(disch:=first|omega|fail) only[push_cast,seval,vrl,if_pos,if_neg,hml,e0,e1]
end
def nszL:List Tree:=[Tree.v (.int .i64 3),Tree.v (.int .i64 4),Tree.v (.int .i64 5),Tree.v (.int .i64 7),Tree.v (.int .i64 8),Tree.v (.int .i64 9),Tree.v (.int .i64 11),Tree.v (.int .i64 13),Tree.v (.int .i64 16)]
theorem ql8{j:Int}(h0:0≤j)(h1:j<9): ∃(i:Nat) (z:Int),j=(i:Int)∧i<9∧3≤z∧z≤16∧IsFld z∧nszL[i]? =some (Tree.v (.int .i64 z)):=by
 obtain⟨i,rfl⟩: ∃i:Nat,j=(i:Int):=⟨j.toNat,by omega⟩
 have:i=0∨i=1∨i=2∨i=3∨i=4∨i=5∨i=6∨i=7∨i=8:=by omega
 rcases this with rfl|rfl|rfl|rfl|rfl|rfl|rfl|rfl|rfl
 ·exact⟨0,3,rfl,by decide,by decide,by decide,(x14 (by decide)).2.2,rfl⟩
 ·exact⟨1,4,rfl,by decide,by decide,by decide,(x14 (by decide)).2.2,rfl⟩
 ·exact⟨2,5,rfl,by decide,by decide,by decide,(x14 (by decide)).2.2,rfl⟩
 ·exact⟨3,7,rfl,by decide,by decide,by decide,(x14 (by decide)).2.2,rfl⟩
 ·exact⟨4,8,rfl,by decide,by decide,by decide,(x14 (by decide)).2.2,rfl⟩
 ·exact⟨5,9,rfl,by decide,by decide,by decide,(x14 (by decide)).2.2,rfl⟩
 ·exact⟨6,11,rfl,by decide,by decide,by decide,(x14 (by decide)).2.2,rfl⟩
 ·exact⟨7,13,rfl,by decide,by decide,by decide,(x14 (by decide)).2.2,rfl⟩
 ·exact⟨8,16,rfl,by decide,by decide,by decide,(x14 (by decide)).2.2,rfl⟩
theorem wq2{z:Int}(h1:0≤z)(h2:z≤16){K:Nat}(k1:1≤K)(k2:K≤2):fewQ z K 1=true:=by
 have hz:z*z≤16*16:=Int.mul_le_mul h2 h2 h1 (by decide)
 have h3: ¬4096<1*z:=by omega
 rcases(show K=1∨K=2 by omega)with rfl|rfl
 ·rw[fewQ,if_neg h3,fewQ]
 ·rw[fewQ,if_neg h3,fewQ,Int.one_mul,if_neg (by omega),fewQ]
section
variable {q:Int} [IsFld q]
theorem hk3(m:List (El q)): ∀(X Y:List (El q)),Y.length=X.length→apN (vs (X.map fun x=>ev m x)) (vs Y)=offK m (X.zip Y)
 | [],[],_=>rfl
 |x::X,y::Y,h=>by
  rw[List.map_cons,show vs (ev m x::X.map fun x=>ev m x)=(ev m x).v::vs (X.map fun x=>ev m x)from rfl,e55,pc5,hk3 m X Y (by simpa using h),List.zip_cons_cons,di6,Nat.add_comm]
  congr 1
  by_cases e:ev m x=y
  ·rw[if_pos (by rw[e]),if_pos e]
  ·rw[if_neg fun e2=>e (El.ext' e2),if_neg e]
theorem iv6{X Y:List (El q)}{K:Nat}(hn:X.Nodup)(hY:Y.length=X.length)(hX:X.length≤64)(k1:1≤K)(k2:K≤X.length):ky7 q (vs X) K (vs Y)=0:=by
 have h1:=y91 (U:=Y.map some) (k:=K) hn (by omega) hX (by rw[List.length_map,hY]) k1 k2
 rw[de0]at h1
 unfold ky7
 rw[if_pos h1,if_neg]
 intro hc
 obtain⟨z,hz,h2⟩:=List.any_eq_true.1 hc
 obtain⟨y,_,rfl⟩:=List.mem_map.1 hz
 have:y.v= -1:=by simpa using h2
 have:=y.lo
 omega
theorem g05(G:List (List (El q)))(j:Nat)(v:El q):G.length≤(stepG G j v).length:=by
 rw[cl3];split<;>omega
theorem wi8(a:List (El q)): ∀(l:List (Nat×Nat)) (n:Nat) (G:List (List (El q))),G.length≤(grpG a l n G).length
 | [],n,G=>Nat.le_refl _
 |p::l,n,G=>by
  rw[grpG]
  exact Nat.le_trans (g05 G p.2 _) (wi8 a l (n+1) _)
theorem sz0{X Y:List (El q)}{t:Nat}(ht:1≤t)(ht2:t≤16)(a:List (El q)):0<(sudG X Y 2 t a).length∧(sudG X Y 2 t a).length≤64∧ ∀g∈sudG X Y 2 t a,g.length≤64:=by
 obtain⟨_,hl⟩:=fj5 (X:=X) (Y:=Y) a 0 0 (K:=2) (Nat.le_refl _) ht
 refine⟨?_, ?_,fun g hg=> ?_⟩
 ·have h0:=mg3 (k1:=2-1) ht
  have h1:lOK (monL (2-1) t) 0 0:=xf5 64 (nx0 _ 0 0)
  unfold sudG
  cases hm:monL (2-1) t with
  |nil=>rw[hm]at h0;cases h0
  |cons p l=>
   rw[hm]at h1
   rcases h1 with⟨h3,_⟩|⟨h3,_⟩
   ·omega
   ·rw[grpG]
    have h4:=wi8 a l (0+1) (stepG [] p.2 (wf a 0))
    have h5:=cl3 ([]:List (List (El q))) p.2 (wf a 0)
    rw[if_pos (by rw[h3];rfl),List.length_nil]at h5
    omega
 ·refine Classical.byContradiction fun h=> ?_
  obtain⟨g,hg⟩:=ge6 (l:=sudG X Y 2 t a) (i:=64) (by omega)
  have:=hl 64 g hg
  omega
 ·obtain⟨i,hi,rfl⟩:=List.getElem_of_mem hg
  have:=hl i _ (List.getElem?_eq_getElem hi)
  omega
theorem az5{X Y:List (El q)}{t:Nat}{r:Int}(hX:X.Nodup)(hY:Y.length=X.length)(ht:1≤t)(ht2:t≤16)(hr:r=(X.length:Int)-t){a:Nat×List (El q)}(ha:a∈sudA X Y 2 t): ∀f∈g06 (X.zip Y) r 2,f.length≤2∧horK (sudG X Y 2 t a.2) f=[]∧ ∀j,(horK ((sudG X Y 2 t a.2).drop j) f).length≤64:=fun f hf=>by
 have hl:=(no8 (P:=X.zip Y) (r:=r) 2).2 f hf
 have ho:=(jn7 hl).1 hf
 obtain⟨_,hlen⟩:=fj5 (X:=X) (Y:=Y) a.2 0 0 (K:=2) (Nat.le_refl _) ht
 refine⟨by omega,sq8 hX hY ht hl (by omega) ha,fun j=> ?_⟩
 have h:=vu6 (f:=f) (by omega) (t:=t) ((sudG X Y 2 t a.2).drop j) j fun i g hg=>by
  rw[List.getElem?_drop]at hg
  exact hlen (j+i) g hg
 omega
theorem kk1{L:List (List (El q))}{m:List (El q)}:vs m∈L.map vs↔m∈L:=by
 rw[List.mem_map]
 constructor
 ·rintro⟨x,hx,e⟩
  rw[←qa5 e];exact hx
 ·exact fun h=>⟨m,h,rfl⟩
end
set_option maxHeartbeats 4000000
theorem fp0{raw gu:List Int}{b b':Bool}{nl nl':Nat}(hl:raw.length≤9223372036854775807)(hl2:gu.length≤9223372036854775807){q n k r:Int}(q1: -9223372036854775808≤q)(q2:q≤9223372036854775807)(n1: -9223372036854775808≤n)(n2:n≤9223372036854775807)(k1: -9223372036854775808≤k)(k2:k≤9223372036854775807)(r1: -9223372036854775808≤r)(r2:r≤9223372036854775807):
 o24 W 7 [.fz b (.sl nl 0 1 (ivs raw)), .x (.int .i64 q), .x (.int .i64 n), .x (.int .i64 k), .x (.int .i64 r), .fz b' (.sl nl' 0 1 (ivs gu))] []=some (.x (.bool true),[],[]):=by
 by_cases h256:256<IntKind.wrap .i64 ((raw.length:Int)+(gu.length:Int))
 ·rw[o10 rfl T7 rfl]
  unfold F7 c7
  simp(disch:=first|omega|fail) only[push_cast,seval,vrl,if_pos,if_neg,dec_lt h256]
 ·have h256':=cw6 (Int.not_lt.1 h256)
  have p0:=s88 q1 q2 (show(0:Int)<9 by omega)
  have hp0:=h60 (a:=q) (n:=9) (by omega)
  obtain⟨i,z,hj,hi,hz3,hz16,hfz,hat⟩:=ql8 hp0.1 hp0.2
  haveI:=hfz
  rw[hj]at p0
  unfold nszL at hat
  have w0:IntKind.wrap .i64 (z-1)=z-1:=wrap64 (by omega) (by omega)
  have p1:=s88 n1 n2 (show(0:Int)<z-1 by omega)
  have hp1:=h60 (a:=n) (n:=z-1) (by omega)
  obtain⟨N,hN⟩: ∃N:Nat,(N:Int)=2+pkI n (z-1):=⟨(2+pkI n (z-1)).toNat,by omega⟩
  have w1:IntKind.wrap .i64 (2+pkI n (z-1))=(N:Int):=by rw[wrap64 (by omega) (by omega)];omega
  have p2:=s88 k1 k2 (show(0:Int)<2 by omega)
  have hp2:=h60 (a:=k) (n:=2) (by omega)
  obtain⟨K,hK⟩: ∃K:Nat,(K:Int)=1+pkI k 2:=⟨(1+pkI k 2).toNat,by omega⟩
  have w2:IntKind.wrap .i64 (1+pkI k 2)=(K:Int):=by rw[wrap64 (by omega) (by omega)];omega
  have p3:=s88 r1 r2 (show(0:Int)<(N:Int) by omega)
  have hp3:=h60 (a:=r) (n:=(N:Int)) (by omega)
  obtain⟨R,hR⟩: ∃R:Nat,pkI r (N:Int)=(R:Int):=⟨(pkI r (N:Int)).toNat,by omega⟩
  rw[hR]at p3 hp3
  have hN2:2≤N:=by omega
  have hN16:N≤16:=by omega
  have hNz:(N:Int)≤z:=by omega
  have hK1:1≤K:=by omega
  have hK2:K≤2:=by omega
  have hRN:R<N:=by omega
  clear hN hK hR
  obtain⟨zn,hzn⟩: ∃zn:Nat,z=(zn:Int):=⟨z.toNat,by omega⟩
  obtain⟨L0,g1,g2,g3,e1⟩:=mz4 hl (q:=zn) (n:=N) (by omega) (by omega)
  rw[←hzn]at g3 e1
  obtain⟨X,rfl,hXn⟩:=ax8 g3 g2
  rw[fi2]at g1
  obtain⟨Y,hY,hYl⟩:=m61 (raw:=raw) (frm:=3) (q:=z) (n:=N) (by omega)
  have e2:=fun b nl=>vv4 (b:=b) (nl:=nl) hl (frm:=3) (q:=z) (by omega) (by omega) (by omega) (N:=N) (by omega)
  rw[hY]at e2
  obtain⟨m,hm,hml⟩:=m61 (raw:=gu) (frm:=0) (q:=z) (n:=K) (by omega)
  have e3:=fun b nl=>vv4 (b:=b) (nl:=nl) hl2 (frm:=0) (q:=z) (by omega) (by omega) (by omega) (N:=K) (by omega)
  rw[hm]at e3
  have hYX:Y.length=X.length:=by omega
  have hfew:=wq2 (show 0≤z by omega) hz16 hK1 hK2
  have e4:=fun b nl b' nl'=>zt1 (b:=b) (nl:=nl) (b':=b') (nl':=nl') (r:=(R:Int)) hXn hYX (by omega) hK1 (by omega) hfew
  have e5:=fun b nl b' nl'=>su9 (b:=b) (nl:=nl) (b':=b') (nl':=nl') (m:=m) hXn (by omega) (by omega) (by omega)
  obtain⟨hnd,hnl⟩:=no8 (P:=X.zip Y) (r:=(R:Int)) K
  have hcnt:(g06 (X.zip Y) (R:Int) K).length≤4096:=by
   have h1:=d73 hfew
   have h2: ∀(n:Nat) (z0:List (El z)) (acc:List (List (El z))),(nrL (X.zip Y) (R:Int) n z0 acc).length≤acc.length+n+1:=by
    intro n
    induction n with
    |zero=>intro z0 acc;rw[nrL];have:=az7 (X.zip Y) (R:Int) z0 acc;omega
    |succ n ih=>intro z0 acc;rw[nrL];have:=az7 (X.zip Y) (R:Int) z0 acc;have:=ih (yv5 z0) (adNr (X.zip Y) (R:Int) z0 acc);omega
   have h3:=h2 (z.toNat^K-1) (List.replicate K 0) []
   have h4:0<z.toNat^K:=Nat.pow_pos (by omega)
   unfold g06
   simp only[List.length_nil]at h3
   omega
  have e6:=fun b nl b' nl'=>nv3 (b:=b) (nl:=nl) (nr:=2) (b':=b') (nl':=nl') (L:=(g06 (X.zip Y) (R:Int) K).map vs) (m:=vs m) (by rw[List.length_map];omega) (fun l hl=>by
   obtain⟨x,hx,rfl⟩:=List.mem_map.1 hl
   rw[fi2,hnl x hx];omega)
  have hmem:decide (vs m∈(g06 (X.zip Y) (R:Int) K).map vs)=decide ((offK m (X.zip Y):Int)≤(R:Int)):=by
   rw[decide_eq_decide,kk1,jn7 hml]
  simp only[hmem]at e6
  have e7:=fun b nl b' nl'=>sg1 (b:=b) (nl:=nl) (b':=b') (nl':=nl') (a:=vs (X.map fun x=>ev m x)) (c:=vs Y) (by rw[fi2,List.length_map];omega) (by rw[fi2];omega)
  rw[if_pos (by rw[fi2,fi2,List.length_map,hYX]),hk3 m X Y hYX]at e7
  obtain⟨T,hT⟩: ∃T:Nat,(N:Int)-(R:Int)=(T:Int):=⟨N-R,by omega⟩
  have hT1:1≤T:=by omega
  have hTN:T≤N:=by omega
  have hj:=qu6 (r:=(R:Int)) (X:=X) (Y:=Y) (K:=K) (t:=T) hXn hYX hK1 hT1 (by omega) (by omega)
  have hall: ∀a∈sudA X Y K T,K=2→(0<(sudG X Y K T a.2).length∧(sudG X Y K T a.2).length≤64∧ ∀g∈sudG X Y K T a.2,g.length≤64)∧ ∀f∈g06 (X.zip Y) (R:Int) K,f.length≤2∧horK (sudG X Y K T a.2) f=[]∧ ∀j,(horK ((sudG X Y K T a.2).drop j) f).length≤64:=fun a ha hk=>by
   subst hk
   exact⟨sz0 hT1 (by omega) a.2,az5 hXn hYX hT1 (by omega) (by omega) ha⟩
  have e8:=fun h2 b nl b' nl'=>mp7 (b:=b) (nl:=nl) (b':=b') (nl':=nl') (K:=K) (t:=T) (iv6 (K:=K) hXn hYX (by omega) hK1 (by omega)) hYX (by omega) (by omega) h2 hT1 (by omega)
  have hap:(offK m (X.zip Y))≤16:=by
   have:=wy1 m (X.zip Y)
   rw[List.length_zip]at this;omega
  generalize offK m (X.zip Y)=off at*
  generalize (X.map fun x=>ev m x)=ENC at*
  generalize g06 (X.zip Y) (R:Int) K=NA at*
  have hNAl:(NA.map vs).length=NA.length:=List.length_map ..
  --products
  rw[g1,show((K-1:Nat):Int)=(K:Int)-1 by omega]at hj
  have hKm:(K:Int)-1=0∨(K:Int)-1=1:=by omega
  obtain⟨NK,hNK,hNK0,hNK1⟩: ∃NK:Int,(N:Int)*((K:Int)-1)=NK∧0≤NK∧NK≤16:=by
   rcases hKm with h|h<;>rw[h]
   ·exact⟨0,by omega,by omega,by omega⟩
   ·exact⟨N,by omega,by omega,by omega⟩
  obtain⟨TT,hTT,hTT0,hTT1⟩: ∃TT:Int,(T:Int)*(T:Int)=TT∧0≤TT∧TT≤256:=by
   refine⟨_,rfl,Int.mul_nonneg (by omega) (by omega), ?_⟩
   have:(T:Int)*(T:Int)≤16*16:=Int.mul_le_mul (by omega) (by omega) (by omega) (by decide)
   omega
  rw[hNK,hTT]at hj
  obtain⟨Q,hQ,hQ0,hQ1⟩: ∃Q:Int,(N:Int)*((T:Int)-((K:Int)-1))=Q∧0≤Q∧Q≤256:=by
   refine⟨_,rfl,Int.mul_nonneg (by omega) (by omega), ?_⟩
   have:(N:Int)*((T:Int)-((K:Int)-1))≤16*16:=Int.mul_le_mul (by omega) (by omega) (by omega) (by decide)
   omega
  rw[hQ]at hj
  obtain⟨P,hP,hP0,hP1⟩: ∃P:Int,(NA.length:Int)*(TT-NK)=P∧ -1048576≤P∧P≤1048576:=by
   refine⟨_,rfl, ?_, ?_⟩
   ·have h1:(NA.length:Int)* -16≤(NA.length:Int)*(TT-NK):=Int.mul_le_mul_of_nonneg_left (by omega) (by omega)
    omega
   ·have h1:(NA.length:Int)*(TT-NK)≤(NA.length:Int)*256:=Int.mul_le_mul_of_nonneg_left (by omega) (by omega)
    omega
  rw[hP]at hj
  clear hnd hXn hnl hmem
  rw[o10 rfl T7 rfl]
  unfold F7 c7
  by_cases hk:K=2
  ·have hk2: ¬(K:Int)<2:=by omega
   have e8:=e8 (by omega)
   cases hA:(sudA X Y K T)[0]? with
   |none=>
    simp only[hA]at e8
    by_cases hb:(off:Int)≤(R:Int)
    ·rw[decide_eq_true hb]at e6
     by_cases hc:NK<TT
     ·simp(disch:=first|omega|fail) only[push_cast,seval,vrl,if_pos,if_neg,h256',p0,hat,w0,p1,w1,p2,w2,p3,e1,e2,e3,e4,e5,e6,e7,e8,nl3 hb,hT,hNK,hTT,hQ,hP,hNAl,dec_lt hc,cw6 hj,cw6 (Int.not_lt.1 hk2)]
     ·simp(disch:=first|omega|fail) only[push_cast,seval,vrl,if_pos,if_neg,h256',p0,hat,w0,p1,w1,p2,w2,p3,e1,e2,e3,e4,e5,e6,e7,e8,nl3 hb,hT,hNK,hTT,hQ,hP,hNAl,cw6 (Int.not_lt.1 hc),cw6 (Int.not_lt.1 hk2)]
    ·rw[decide_eq_false hb]at e6
     by_cases hc:NK<TT
     ·simp(disch:=first|omega|fail) only[push_cast,seval,vrl,if_pos,if_neg,h256',p0,hat,w0,p1,w1,p2,w2,p3,e1,e2,e3,e4,e5,e6,e7,e8,qc6 (Int.not_le.1 hb),hT,hNK,hTT,hQ,hP,hNAl,dec_lt hc,cw6 hj,cw6 (Int.not_lt.1 hk2)]
     ·simp(disch:=first|omega|fail) only[push_cast,seval,vrl,if_pos,if_neg,h256',p0,hat,w0,p1,w1,p2,w2,p3,e1,e2,e3,e4,e5,e6,e7,e8,qc6 (Int.not_le.1 hb),hT,hNK,hTT,hQ,hP,hNAl,cw6 (Int.not_lt.1 hc),cw6 (Int.not_lt.1 hk2)]
   |some a=>
    simp only[hA]at e8
    obtain⟨⟨s1,s2,s3⟩,s4⟩:=hall a (List.mem_of_getElem? hA) hk
    have e9:=fun t kk ks=>fi3 (L:=NA) (G:=sudG X Y K T a.2) (t:=t) (kk:=kk) s1 s2 s3 (by omega) s4 NA.length 0 (by omega) ks
    simp only[Int.natCast_zero]at e9
    by_cases hb:(off:Int)≤(R:Int)
    ·rw[decide_eq_true hb]at e6
     by_cases hc:NK<TT
     ·simp(disch:=first|omega|fail) only[push_cast,seval,vrl,if_pos,if_neg,h256',p0,hat,w0,p1,w1,p2,w2,p3,e1,e2,e3,e4,e5,e6,e7,e8,nl3 hb,hT,hNK,hTT,hQ,hP,hNAl,dec_lt hc,cw6 hj,cw6 (Int.not_lt.1 hk2)]
      rw[e9]
      simp(disch:=first|omega|fail) only[push_cast,seval,vrl,if_pos,if_neg]
     ·simp(disch:=first|omega|fail) only[push_cast,seval,vrl,if_pos,if_neg,h256',p0,hat,w0,p1,w1,p2,w2,p3,e1,e2,e3,e4,e5,e6,e7,e8,nl3 hb,hT,hNK,hTT,hQ,hP,hNAl,cw6 (Int.not_lt.1 hc),cw6 (Int.not_lt.1 hk2)]
      rw[e9]
      simp(disch:=first|omega|fail) only[push_cast,seval,vrl,if_pos,if_neg]
    ·rw[decide_eq_false hb]at e6
     by_cases hc:NK<TT
     ·simp(disch:=first|omega|fail) only[push_cast,seval,vrl,if_pos,if_neg,h256',p0,hat,w0,p1,w1,p2,w2,p3,e1,e2,e3,e4,e5,e6,e7,e8,qc6 (Int.not_le.1 hb),hT,hNK,hTT,hQ,hP,hNAl,dec_lt hc,cw6 hj,cw6 (Int.not_lt.1 hk2)]
      rw[e9]
      simp(disch:=first|omega|fail) only[push_cast,seval,vrl,if_pos,if_neg]
     ·simp(disch:=first|omega|fail) only[push_cast,seval,vrl,if_pos,if_neg,h256',p0,hat,w0,p1,w1,p2,w2,p3,e1,e2,e3,e4,e5,e6,e7,e8,qc6 (Int.not_le.1 hb),hT,hNK,hTT,hQ,hP,hNAl,cw6 (Int.not_lt.1 hc),cw6 (Int.not_lt.1 hk2)]
      rw[e9]
      simp(disch:=first|omega|fail) only[push_cast,seval,vrl,if_pos,if_neg]
  ·have hk2:(K:Int)<2:=by omega
   by_cases hb:(off:Int)≤(R:Int)
   ·rw[decide_eq_true hb]at e6
    by_cases hc:NK<TT
    ·simp(disch:=first|omega|fail) only[push_cast,seval,vrl,if_pos,if_neg,h256',p0,hat,w0,p1,w1,p2,w2,p3,e1,e2,e3,e4,e5,e6,e7,nl3 hb,hT,hNK,hTT,hQ,hP,hNAl,dec_lt hc,cw6 hj,dec_lt hk2]
    ·simp(disch:=first|omega|fail) only[push_cast,seval,vrl,if_pos,if_neg,h256',p0,hat,w0,p1,w1,p2,w2,p3,e1,e2,e3,e4,e5,e6,e7,nl3 hb,hT,hNK,hTT,hQ,hP,hNAl,cw6 (Int.not_lt.1 hc),dec_lt hk2]
   ·rw[decide_eq_false hb]at e6
    by_cases hc:NK<TT
    ·simp(disch:=first|omega|fail) only[push_cast,seval,vrl,if_pos,if_neg,h256',p0,hat,w0,p1,w1,p2,w2,p3,e1,e2,e3,e4,e5,e6,e7,qc6 (Int.not_le.1 hb),hT,hNK,hTT,hQ,hP,hNAl,dec_lt hc,cw6 hj,dec_lt hk2]
    ·simp(disch:=first|omega|fail) only[push_cast,seval,vrl,if_pos,if_neg,h256',p0,hat,w0,p1,w1,p2,w2,p3,e1,e2,e3,e4,e5,e6,e7,qc6 (Int.not_le.1 hb),hT,hNK,hTT,hQ,hP,hNAl,cw6 (Int.not_lt.1 hc),dec_lt hk2]
section
variable {h:H} {l:List AV} {ws:List Value}
theorem a23:Vm.VRL h [] (allZ h) (allZ h) [] []:=by rw[Vm.VRL]
theorem dp0(r:Vm.VRL h [] (allZ h) (allZ h) l ws)(v:Value):Vm.VRL h [] (allZ h) (allZ h) (.x v::l) (v::ws):=by
 rw[Vm.VRL];exact⟨v,ws,rfl,by rw[Vm.VR],r⟩
theorem qj4{sa:Option Addr}{c:Nat}{zs:List Int}(hr:RdI h sa c zs): ∀o,sa.map (·.block)=some o→allZ h o:=fun o ho=>by
 rcases hr with⟨rfl,_⟩|⟨_,o2,off,r2,rfl,h1,_⟩
 ·cases ho
 ·cases ho;exact h42 h1
theorem sk6(r:Vm.VRL h [] (allZ h) (allZ h) l ws){sa:Option Addr}{c:Nat}{zs:List Int}(hr:RdI h sa c zs):Vm.VRL h [] (allZ h) (allZ h) (.fz true (.sl 2 0 1 (ivs zs))::l) (.slice sa zs.length c::ws):=by
 rw[Vm.VRL];exact⟨_,ws,rfl,by rw[Vm.VR];exact pd9 hr (qj4 hr),r⟩
end
theorem rk0(h:H)(s0:Option Addr)(c0:Nat)(z0:List Int)(r0:RdI h s0 c0 z0)(_:ss4 h 1 s0=true)(_:z0.length≤9223372036854775807)(a1:Int)(_: -9223372036854775808≤a1)(_:a1≤9223372036854775807)(a2:Int)(_: -9223372036854775808≤a2)(_:a2≤9223372036854775807)(a3:Int)(_: -9223372036854775808≤a3)(_:a3≤9223372036854775807)(a4:Int)(_: -9223372036854775808≤a4)(_:a4≤9223372036854775807)(s5:Option Addr)(c5:Nat)(z5:List Int)(r5:RdI h s5 c5 z5)(_:ss4 h 1 s5=true)(_:z5.length≤9223372036854775807):
 ∃h',call T 7 [.slice s0 z0.length c0, .int .i64 a1, .int .i64 a2, .int .i64 a3, .int .i64 a4, .slice s5 z5.length c5] h=some (.bool true,h'):=
 vlaw lw2 (sk6 (dp0 (dp0 (dp0 (dp0 (sk6 a23 r5) _) _) _) _) r0) (by apply fp0<;>assumption)
end Go.Proofs.Ytmhbpecdpiapgaa
