/-
  matrix.scale, less, clone, in the second machine. Conditions: a field of the table; rows that fit. matrix.Reduce, in the second machine. Conditions: a field of the table; rows of one length. matrix.Reduce's outer loop, in the second machine. Conditions: a field of the table; rows of one length. (UNDER WAY: does not build yet.) matrix.Reduce, Rank called, in the second machine. Conditions: rows tha ..
-/
import Derived.Test.YtlhmdmedagjmnaaGreatK8
import Derived.Test.YtlhmdmedagjmnaaGreatK7
set_option linter.unusedVariables false
set_option linter.unusedSimpArgs false
set_option linter.unusedSectionVars false
set_option maxRecDepth 100000
namespace Go.Proofs.YtlhmdmedagjmnaaGreat
open Go.Am Go.Vm Go.Alg
section
variable {q:Int} [IsFld q] {b b':Bool} {nl nl' nr:Nat} {c:El q}
theorem eh8{r:List (El q)}(hW:r.length≤100000): ∀(n j:Nat),j+n=r.length→ ∀ks,
 vgoL W ⟨hNo,[],1⟩ [0,1,2,8,9] c145L0 (.blk 0 []::ks) [(0, .fz b (pF q)),(1, .own 0 []),(2, .x (.int .i64 c.v)),(8, .x (.int .i64 r.length)),(9, .x (.int .i64 j))] [.sl nl 3 1 (ivs (vs ((xf5 c r).take j++r.drop j)))]=
  vgo W ⟨hNo,[],1⟩ ks (VFr.of []) [.sl nl 3 1 (ivs (vs (xf5 c r)))]
 |0,j,hj,ks=>by
  obtain rfl:j=r.length:=by omega
  unfold xf5
  rw[l44,sb5 c145L0.eq_def]
  simp(disch:=first|omega|fail) only[push_cast,seval,ui5,lu7,y81,bj9,wrap64,dec_lt,cw6,nl3,qc6,mr8,nb8,if_pos,if_neg]
 |n+1,j,hj,ks=>by
  have ih:=eh8 hW n (j+1) (by omega) ks
  obtain⟨a,ha⟩:=ge6 (l:=r) (i:=j) (by omega)
  have hcl:=mh9 (fun x=>x*c) r j
  have hat:=zw5 (f:=fun x=>x*c) (l:=r) (j:=j) (by omega)
  have hset:=fz1 (f:=fun x=>x*c) ha
  have hsc: ∀x:List (El q),xf5 c x=x.map fun x=>x*c:=fun _=>rfl
  rw[hsc,←hset]at ih
  rw[hsc]
  generalize hy:(r.map fun x=>x*c).take j++r.drop j=y at ih hcl hat hset
  have hwy:wf y j=a:=by
   unfold wf;rw[List.getD_eq_getElem?_getD,hat,ha];rfl
  have h1:=iva (l:=y) (i:=j) (by omega)
  rw[hwy]at h1
  have hs:=g52 y j (a*c)
  rw[ym6]at hs
  rw[Int.natCast_add,Int.natCast_one]at ih
  rw[←ih,sb5 c145L0.eq_def]
  simp(disch:=first|omega|fail) only[push_cast,seval,ui5,lu7,y81,bj9,wrap64,dec_lt,cw6,nl3,qc6,mr8,nb8,if_pos,if_neg,h1,hs]
theorem em7{r:List (El q)}(hW:r.length≤100000):
 o24 W 145 [.fz b (pF q), .own 0 [], .x (.int .i64 c.v)] [.sl nl 3 1 (ivs (vs r))]=some (.tup [],[],[.sl nl 3 1 (ivs (vs (xf5 c r)))]):=by
 have e:=fun ks=>eh8 (b:=b) (nl:=nl) (c:=c) (r:=r) hW r.length 0 (by omega) ks
 rw[List.take_zero,List.nil_append,List.drop_zero]at e
 simp only[Int.natCast_zero]at e
 rw[o10 rfl T145 rfl]
 unfold F145 c145
 simp(disch:=first|omega|fail) only[push_cast,seval,ui5,lu7,y81,bj9,wrap64,dec_lt,cw6,nl3,qc6,mr8,nb8,if_pos,if_neg]
 rw[e]
 simp(disch:=first|omega|fail) only[push_cast,seval,ui5,lu7,y81,bj9,wrap64,dec_lt,cw6,nl3,qc6,mr8,nb8,if_pos,if_neg]
theorem jh0{r o:List (El q)}(hl:o.length=r.length)(hW:r.length≤100000): ∀(n j:Nat),j+n=r.length→ ∀ks,
 vgoL W ⟨hNo,[],1⟩ [0,1,2,3,10,11] c147L0 (.blk 0 []::ks) [(0, .fz b (pF q)),(1, .own 0 []),(2, .fz b' (.sl nl' 0 1 (ivs (vs o)))),(3, .x (.int .i64 c.v)),(10, .x (.int .i64 r.length)),(11, .x (.int .i64 j))] [.sl nl 3 1 (ivs (vs ((dx9 c r o).take j++r.drop j)))]=
  vgo W ⟨hNo,[],1⟩ ks (VFr.of []) [.sl nl 3 1 (ivs (vs (dx9 c r o)))]
 |0,j,hj,ks=>by
  have hll:(dx9 c r o).length=r.length:=wx1 hl.symm
  rw[oh9 (by omega),List.append_nil,List.take_of_length_le (by omega),sb5 c147L0.eq_def]
  simp(disch:=first|omega|fail) only[push_cast,seval,ui5,lu7,y81,bj9,wrap64,dec_lt,cw6,nl3,qc6,mr8,nb8,if_pos,if_neg]
 |n+1,j,hj,ks=>by
  have ih:=jh0 hl hW n (j+1) (by omega) ks
  have hll:(dx9 c r o).length=r.length:=wx1 hl.symm
  have hy:((dx9 c r o).take j++r.drop j).set j (wf r j-c*wf o j)=(dx9 c r o).take (j+1)++r.drop (j+1):=by
   rw[List.take_succ_eq_append_getElem (by omega),←i66 (by omega),rq0 hl.symm,List.set_append_right _ _ (by rw[List.length_take];omega),List.length_take,Nat.min_eq_left (by omega),Nat.sub_self,List.drop_eq_getElem_cons (by omega:j<r.length),List.set_cons_zero,List.append_assoc];rfl
  have hyl:((dx9 c r o).take j++r.drop j).length=r.length:=by simp only[List.length_append,List.length_take,List.length_drop];omega
  have hyw:wf ((dx9 c r o).take j++r.drop j) j=wf r j:=by
   unfold wf
   rw[List.getD_eq_getElem?_getD,List.getD_eq_getElem?_getD,List.getElem?_append_right (by rw[List.length_take];omega),List.length_take,Nat.min_eq_left (by omega),Nat.sub_self,List.getElem?_drop,Nat.add_zero]
  rw[←hy]at ih
  generalize (dx9 c r o).take j++r.drop j=y at ih hyl hyw
  have h1:=iva (l:=y) (i:=j) (by omega)
  have h2:=iva (l:=o) (i:=j) (by omega)
  rw[hyw]at h1
  have hs:=g52 y j (wf r j-c*wf o j)
  rw[bq9,ym6]at hs
  rw[Int.natCast_add,Int.natCast_one]at ih
  rw[←ih,sb5 c147L0.eq_def]
  simp(disch:=first|omega|fail) only[push_cast,seval,ui5,lu7,y81,bj9,wrap64,dec_lt,cw6,nl3,qc6,mr8,nb8,if_pos,if_neg,h1,h2,hs]
theorem nq1{r o:List (El q)}(hl:o.length=r.length)(hW:r.length≤100000):
 o24 W 147 [.fz b (pF q), .own 0 [], .fz b' (.sl nl' 0 1 (ivs (vs o))), .x (.int .i64 c.v)] [.sl nl 3 1 (ivs (vs r))]=some (.tup [],[],[.sl nl 3 1 (ivs (vs (dx9 c r o)))]):=by
 have e:=fun ks=>jh0 (b:=b) (b':=b') (nl:=nl) (nl':=nl') (c:=c) hl hW r.length 0 (by omega) ks
 rw[List.take_zero,List.nil_append,List.drop_zero]at e
 simp only[Int.natCast_zero]at e
 rw[o10 rfl T147 rfl]
 unfold F147 c147
 simp(disch:=first|omega|fail) only[push_cast,seval,ui5,lu7,y81,bj9,wrap64,dec_lt,cw6,nl3,qc6,mr8,nb8,if_pos,if_neg]
 rw[e]
 simp(disch:=first|omega|fail) only[push_cast,seval,ui5,lu7,y81,bj9,wrap64,dec_lt,cw6,nl3,qc6,mr8,nb8,if_pos,if_neg]
end
theorem fc2(n:Nat):repT [Tree.sl 2 3 1 []] n=lls 2 (List.replicate n []):=by
 induction n with
 |zero=>rfl
 |succ n ih=>rw[repT,ih];rfl
theorem l52{M:List (List Int)}{i n:Nat}{r:List Int}(hr:M[i]? =some r):(M.take i++List.replicate (n+1) []).set i r=M.take (i+1)++List.replicate n []:=by
 have hi:=(List.getElem?_eq_some_iff.1 hr).1
 rw[List.set_append_right _ _ (by rw[List.length_take];omega),List.length_take,Nat.min_eq_left (by omega),Nat.sub_self,List.replicate_succ,List.set_cons_zero,List.take_add_one,hr,List.append_assoc];rfl
section
variable {b:Bool} {nl nr:Nat} {M:List (List Int)}
theorem ma1(h0: ∀r∈M,0<r.length∧r.length≤1000000)(hM:M.length≤1000000): ∀(n i:Nat),i+n=M.length→ ∀ks,
 vgoL W ⟨hNo,[.tmp 2],0⟩ [3,9,10,11] c142L0 (.blk 0 [3]::ks) [(3, .own 0 []),(9, .fz b (.sl nl 0 1 (lvs nr M))),(10, .x (.int .i64 M.length)),(11, .x (.int .i64 i))] [.sl 0 22 1 (lls 2 (M.take i++List.replicate n []))]=
  vgo W ⟨hNo,[.tmp 2],0⟩ ks (VFr.of [(3, .own 0 [])]) [.sl 0 22 1 (lls 2 M)]
 |0,i,hi,ks=>by
  rw[List.replicate_zero,List.append_nil,List.take_of_length_le (by omega),sb5 c142L0.eq_def]
  simp(disch:=first|omega|fail) only[push_cast,seval,ui5,lu7,y81,bj9,wrap64,dec_lt,cw6,nl3,qc6,mr8,nb8,if_pos,if_neg]
 |n+1,i,hi,ks=>by
  obtain⟨r,hr⟩:=ge6 (l:=M) (i:=i) (by omega)
  have ih:=ma1 h0 hM n (i+1) (by omega) ks
  have hn:=l52 (n:=n) hr
  rw[←hn]at ih
  have hl:(M.take i++List.replicate (n+1) []).length=M.length:=by simp only[List.length_append,List.length_take,List.length_replicate];omega
  generalize M.take i++List.replicate (n+1) []=Y at ih hl
  have h1:=lat (nl:=nr) hr
  have hc:=fun b nl=>u27 (b:=b) (nl:=nl) (h0 r (List.mem_of_getElem? hr)).1 (h0 r (List.mem_of_getElem? hr)).2
  rw[Int.natCast_add,Int.natCast_one]at ih
  rw[←ih,sb5 c142L0.eq_def]
  simp(disch:=first|omega|fail) only[push_cast,seval,ui5,lu7,y81,bj9,wrap64,dec_lt,cw6,nl3,qc6,mr8,nb8,if_pos,if_neg,h1,hc,hl]
theorem y80(h0: ∀r∈M,0<r.length∧r.length≤1000000)(hM:M.length≤1000000):
 o24 W 142 [.fz b (.sl nl 0 1 (lvs nr M))] []=some (.own 0 [],[.sl 0 22 1 (lls 2 M)],[]):=by
 have e:=fun ks=>ma1 (b:=b) (nl:=nl) (nr:=nr) h0 hM M.length 0 (by omega) ks
 rw[List.take_zero,List.nil_append]at e
 simp only[Int.natCast_zero]at e
 have hz:=fc2 M.length
 rw[o10 rfl T142 rfl]
 unfold F142 c142
 simp(disch:=first|omega|fail) only[push_cast,seval,ui5,lu7,y81,bj9,wrap64,dec_lt,cw6,nl3,qc6,mr8,nb8,if_pos,if_neg,hz]
 rw[e]
 simp(disch:=first|omega|fail) only[push_cast,seval,ui5,lu7,y81,bj9,wrap64,dec_lt,cw6,nl3,qc6,mr8,nb8,if_pos,if_neg]
end
end Go.Proofs.YtlhmdmedagjmnaaGreat
namespace Go.Proofs.YtlhmdmedagjmnaaGreat
open Go.Am Go.Vm Go.Alg
theorem em2{α:Type}{l:List α}{i:Nat}{x:α}(h:l[i]? =some x):l.set i x=l:=by
 obtain⟨h1,h2⟩:=List.getElem?_eq_some_iff.1 h
 rw[←h2];exact List.set_getElem_self h1
section
variable {q:Int} [IsFld q] {T5:Tree} {M:List (List (El q))} {R n c at':Nat}
theorem e53(hR:M.length=R)(hR2:R≤1000)(hn2:n≤1000)(hrow: ∀k,k<R→(nth M k).length=n)(hc:c<n)(hat:at'<R):
 ∀(d k:Nat),k+d=R→ ∀ks,
  vgoL W ⟨h79,[.tmp 4, .tmp 5, .tmp 6],0⟩ [1,5,8,10,11,90,91] c79L0 (.blk 2 [1,5,8,10]::ks) [(1, .own 0 []),(5, .own 1 []),(8, .fz true (pF q)),(10, .own 2 []),(11, .x (.int .i64 at')),(90, .x (.int .i64 R)),(91, .x (.int .i64 k))] [.sl 0 22 1 (lls 2 (((clrM M at' c).take k++M.drop k).map vs)),T5, .pt 3 [.v (.int .i64 c)]]=
   vgo W ⟨h79,[.tmp 4, .tmp 5, .tmp 6],0⟩ ks (VFr.of [(1, .own 0 []),(5, .own 1 []),(8, .fz true (pF q)),(10, .own 2 [])]) [.sl 0 22 1 (lls 2 ((clrM M at' c).map vs)),T5, .pt 3 [.v (.int .i64 c)]]
 |0,k,hk,ks=>by
  have hcl:=wq1 M at' c
  rw[oh9 (by omega),List.append_nil,List.take_of_length_le (by omega),sb5 c79L0.eq_def]
  simp(disch:=first|omega|fail) only[push_cast,seval,ui5,lu7,y81,bj9,wrap64,dec_lt,cw6,nl3,qc6,mr8,nb8,if_pos,if_neg]
 |d+1,k,hk,ks=>by
  have ih:=e53 hR hR2 hn2 hrow hc hat d (k+1) (by omega) ks
  have hcl:=wq1 M at' c
  have hck:=kc5 (M:=M) (at':=at') (c:=c) (k:=k) (by omega)
  have hY:((clrM M at' c).take k++M.drop k).length=R:=by simp only[List.length_append,List.length_take,List.length_drop];omega
  have hYk:((clrM M at' c).take k++M.drop k)[k]? =some (nth M k):=by
   rw[List.getElem?_append_right (by rw[List.length_take];omega),List.length_take,Nat.min_eq_left (by omega),Nat.sub_self,List.getElem?_drop,Nat.add_zero,gu3 (by omega)]
  have hYa:((clrM M at' c).take k++M.drop k)[at']? =some (nth M at'):=by
   by_cases h:at'<k
   ·rw[List.getElem?_append_left (by rw[List.length_take];omega),List.getElem?_take,if_pos h,kc5 (by omega),if_pos rfl]
   ·rw[List.getElem?_append_right (by rw[List.length_take];omega),List.length_take,Nat.min_eq_left (by omega),List.getElem?_drop,show k+(at'-k)=at' by omega,gu3 (by omega)]
  have hYn:((clrM M at' c).take k++M.drop k).set k (if k=at' then nth M k else dx9 (wf (nth M k) c) (nth M k) (nth M at'))=(clrM M at' c).take (k+1)++M.drop (k+1):=by
   rw[List.set_append_right _ _ (by rw[List.length_take];omega),List.length_take,Nat.min_eq_left (by omega),Nat.sub_self,List.drop_eq_getElem_cons (by omega:k<M.length),List.set_cons_zero,List.take_add_one,hck,List.append_assoc];rfl
  rw[←hYn]at ih
  generalize (clrM M at' c).take k++M.drop k=Y at ih hY hYk hYa
  rw[Int.natCast_add,Int.natCast_one]at ih
  have h1:=mla (nl:=2) hYk
  have h2:=mla (nl:=2) hYa
  have h3:=iva (l:=nth M k) (i:=c) (by rw[hrow k (by omega)];exact hc)
  have hsame:Y.set k (nth M k)=Y:=em2 hYk
  have hlk:=hrow k (by omega)
  have hla:=hrow at' hat
  by_cases hka:k=at'
  ·rw[if_pos hka,hsame]at ih
   rw[←ih,sb5 c79L0.eq_def]
   simp(disch:=first|omega|fail) only[push_cast,seval,ui5,lu7,y81,bj9,wrap64,dec_lt,cw6,nl3,qc6,mr8,nb8,if_pos,if_neg,h1,h2,h3,hY,hlk]
  ·rw[if_neg hka]at ih
   by_cases hz:(wf (nth M k) c).v=0
   ·have hz0:wf (nth M k) c=0:=r57.1 hz
    rw[hz0,vt1 (by rw[hrow k (by omega),hrow at' hat]),hsame]at ih
    rw[←ih,sb5 c79L0.eq_def]
    simp(disch:=first|omega|fail) only[push_cast,seval,ui5,lu7,y81,bj9,wrap64,dec_lt,cw6,nl3,qc6,mr8,nb8,if_pos,if_neg,h1,h2,h3,hY,hlk,mr8 hz]
   ·have hl:=fun b b' nl nl'=>nq1 (b:=b) (b':=b') (nl:=nl) (nl':=nl') (c:=wf (nth M k) c) (r:=nth M k) (o:=nth M at') (by rw[hrow k (by omega),hrow at' hat]) (by rw[hrow k (by omega)];omega)
    have hs:(lls 2 (Y.map vs)).set k (.sl 2 3 1 (ivs (vs (dx9 (wf (nth M k) c) (nth M k) (nth M at')))))=lls 2 ((Y.set k (dx9 (wf (nth M k) c) (nth M k) (nth M at'))).map vs):=by rw[y81,List.map_set]
    have hj:((lls 2 (Y.map vs)).set k Tree.junk)[k]? =some Tree.junk:=List.getElem?_set_self (by rw[qf0,List.length_map];omega)
    rw[←ih,sb5 c79L0.eq_def]
    simp(disch:=first|omega|fail) only[push_cast,seval,ui5,lu7,y81,bj9,wrap64,dec_lt,cw6,nl3,qc6,mr8,nb8,if_pos,if_neg,h1,h2,h3,hY,hlk,nb8 hz,hl,hj,List.getElem?_set_ne,List.set_set,hs]
theorem rb5{b b':Bool}{nl e:Nat}{r:List (El q)}{c:Nat}(hc:c<r.length)(hl:r.length≤1000):o24 W 144 [.fz b (.sl nl 0 1 (ivs (vs r))), .fz b' (.pt e [.v (.int .i64 c)])] []=some (.x (.bool (decide ((wf r c).v≠0))),[],[]):=by
 have h1:=iva (l:=r) (i:=c) hc
 rw[o10 rfl T144 rfl]
 unfold F144 c144
 simp(disch:=first|omega|fail) only[push_cast,seval,ui5,lu7,y81,bj9,wrap64,dec_lt,cw6,nl3,qc6,mr8,nb8,if_pos,if_neg,h1]
 by_cases h:(wf r c).v=0
 ·rw[decide_eq_true h,decide_eq_false (by simpa using h)];rfl
 ·rw[decide_eq_false h,decide_eq_true h];rfl
theorem aw7(P:List Nat)(c:Nat):pn P++[(c:Int)]=pn (P++[c]):=by unfold pn;rw[List.map_append];rfl
end
end Go.Proofs.YtlhmdmedagjmnaaGreat
namespace Go.Proofs.YtlhmdmedagjmnaaGreat
open Go.Am Go.Vm Go.Alg
section
variable {q:Int} [IsFld q] {n R:Nat}
theorem x17{M0:List (List (El q))}(hR:M0.length=R)(hR0:0<R)(hR2:R≤1000)(hn2:n≤1000):
 ∀(d c:Nat) (M:List (List (El q))) (P:List Nat),c+d=n→RedI n M0 M P c→ ∃(M':List (List (El q))) (P':List Nat) (c':Nat),RedI n M0 M' P' c'∧(c'=n∨P'.length=M'.length)∧ ∀ks,
  vgoL W ⟨h79,[.tmp 4, .tmp 5, .tmp 6],0⟩ [1,5,8,10] c79L1 (.blk 0 [1,5]::ks) [(1, .own 0 []),(5, .own 1 []),(8, .fz true (pF q)),(10, .own 2 [])] [.sl 0 22 1 (lls 2 (M.map vs)), .sl 1 3 1 (ivs (pn P)), .pt 3 [.v (.int .i64 c)]]=
   vgo W ⟨h79,[.tmp 4, .tmp 5, .tmp 6],0⟩ ks (VFr.of [(1, .own 0 []),(5, .own 1 [])]) [.sl 0 22 1 (lls 2 (M'.map vs)), .sl 1 3 1 (ivs (pn P')), .pt 3 [.v (.int .i64 c')]]
 |0,c,M,P,hd,I=>by
  have hcn:c=n:=by omega
  have hMl:M.length=R:=by rw[I.len,hR]
  have h0:=mla (nl:=2) (M:=M) (i:=0) (gu3 (by omega))
  have h1:=I.len_nth (k:=0) (by omega)
  refine⟨M,P,c,I, .inl hcn,fun ks=> ?_⟩
  rw[sb5 c79L1.eq_def]
  simp(disch:=first|omega|fail) only[push_cast,seval,ui5,lu7,y81,bj9,wrap64,dec_lt,cw6,nl3,qc6,mr8,nb8,if_pos,if_neg,h0,h1]
 |d+1,c,M,P,hd,I=>by
  have hMl:M.length=R:=by rw[I.len,hR]
  have h0:=mla (nl:=2) (M:=M) (i:=0) (gu3 (by omega))
  have h1:=I.len_nth (k:=0) (by omega)
  have hpl:=I.pl
  have hpn:=im5 P
  by_cases hfull:P.length=M.length
  ·refine⟨M,P,c,I, .inr hfull,fun ks=> ?_⟩
   rw[sb5 c79L1.eq_def]
   simp(disch:=first|omega|fail) only[push_cast,seval,ui5,lu7,y81,bj9,wrap64,dec_lt,cw6,nl3,qc6,mr8,nb8,if_pos,if_neg,h0,h1,hpn]
  ·have IH:=x17 hR hR0 hR2 hn2 d (c+1)
   obtain⟨at',hat'⟩: ∃a,a=P.length:=⟨_,rfl⟩
   have hrow: ∀k,k<R→(nth M k).length=n:=fun k hk=>I.len_nth (by omega)
   obtain⟨m,hm⟩: ∃m,m=List.take (R-at') (List.drop at' (List.map vs M)):=⟨_,rfl⟩
   have hmm: ∀{j:Nat} {x:List Int},m[j]? =some x→at'+j<R∧x=vs (nth M (at'+j)):=fun{j x} h=>by
    have hj:=(List.getElem?_eq_some_iff.1 h).1
    rw[hm,List.length_take,List.length_drop,List.length_map]at hj
    rw[hm,List.getElem?_take,if_pos (by omega),List.getElem?_drop,List.getElem?_map,gu3 (by omega)]at h
    exact⟨by omega,(Option.some.inj h).symm⟩
   have hml:m.length=R-at':=by rw[hm,List.length_take,List.length_drop,List.length_map];omega
   have hk: ∀(bl b:Bool) (e:Nat),∀r∈m,o24 W 144 [.fz bl (.sl 2 0 1 (ivs r)), .fz b (.pt e [.v (.int .i64 c)])] []=some (.x (.bool (decide (gi r c≠0))),[],[]):=fun bl b e r hr=>by
    obtain⟨j,hj⟩:=List.getElem?_of_mem hr
    obtain⟨h2,rfl⟩:=hmm hj
    have:=hrow (at'+j) h2
    rw[rb5 (by omega) (by omega),v86];rfl
   have hix:=fun bl nl b e=>aj5 (bl:=bl) (nl:=nl) (nr:=2) (m:=m) (k:=144) (b:=b) (t:= .pt e [.v (.int .i64 c)]) (p:=fun r=>decide (gi r c≠0)) (hk bl b e) rfl (by omega)
   rcases nu4 (fun r=>decide (gi r c≠0)) 0 m with⟨f1,f2⟩|⟨j,x,f1,f2,f3⟩
   ·rw[f1,hm]at hix
    have I':=I.skip (by omega) (fun k h1 h2=>by
     have hmk:vs (nth M k)∈m:=by
      refine List.mem_of_getElem? (i:=k-at') ?_
      rw[hm,List.getElem?_take,if_pos (by omega),List.getElem?_drop,List.getElem?_map,gu3 (by omega),show at'+(k-at')=k by omega];rfl
     have:=f2 _ hmk
     rw[v86]at this
     have h3:(ge (nth M k) c).v=0:=by simpa using this
     exact r57.1 h3)
    obtain⟨M',P',c',r1,r2,r3⟩:=IH M P (by omega) I'
    refine⟨M',P',c',r1,r2,fun ks=> ?_⟩
    have ih:=r3 ks
    rw[Int.natCast_add,Int.natCast_one]at ih
    rw[←hat']at hpn
    have hnn:((M.length:Int)-(at':Int)).toNat=R-at':=by omega
    rw[←ih,sb5 c79L1.eq_def]
    simp(disch:=first|omega|fail) only[push_cast,seval,ui5,lu7,y81,bj9,wrap64,dec_lt,cw6,nl3,qc6,mr8,nb8,if_pos,if_neg,h0,h1,hpn,hnn,hix]
   ·--there is one
    have hj:=(List.getElem?_eq_some_iff.1 f2).1
    obtain⟨hR1,rfl⟩:=hmm f2
    rw[f1,Nat.zero_add,hm]at hix
    obtain⟨i,hi⟩: ∃i,i=at'+j:=⟨_,rfl⟩
    rw[←hi]at f3 hR1
    have hne:wf (nth M i) c≠0:=fun e=>by
     have h3:gi (vs (nth M i)) c≠0:=by simpa using f3
     rw[v86]at h3
     exact h3 (r57.2 e)
    have I':=qt5 I (by omega) (i:=i) (by omega) (by omega) hne
    rw[←hat']at I'
    have hscl:(sclM M at' i c).length=M.length:=np1
    have hsrow:=k39 (c:=c) (M:=M) (fun k hk=>hrow k (by omega)) (at':=at') (i:=i) (by omega) (by omega)
    have hin:=e53 (T5:= .sl 1 3 1 (ivs (pn P))) (M:=sclM M at' i c) (R:=R) (n:=n) (c:=c) (at':=at') (by omega) hR2 hn2 (fun k hk=>hsrow k (by omega)) (by omega) (by omega) R 0 (by omega)
    obtain⟨M',P',c',r1,r2,r3⟩:=IH (clrM (sclM M at' i c) at' c) (P++[c]) (by omega) I'
    refine⟨M',P',c',r1,r2,fun ks=> ?_⟩
    have ih:=r3 ks
    rw[Int.natCast_add,Int.natCast_one]at ih
    rw[←hat']at hpn
    have hia:(at':Int)+(j:Int)=(i:Int):=by omega
    have hnn:((M.length:Int)-(at':Int)).toNat=R-at':=by omega
    have hla:=hrow i (by omega)
    have hlb:=hrow at' (by omega)
    have h2:=mla (nl:=2) (M:=M) (i:=i) (gu3 (by omega))
    have h3:=mla (nl:=2) (M:=M) (i:=at') (gu3 (by omega))
    have hsw:(swpM M at' i).map vs=((M.map vs).set at' (vs (nth M i))).set i (vs (nth M at')):=by unfold swpM;rw[List.map_set,List.map_set]
    have hswl:(swpM M at' i).length=M.length:=p58
    have h4:=mla (nl:=2) (M:=swpM M at' i) (i:=at') (r:=nth M i) (by rw[gu3 (by omega),fj6 (by omega) (by omega)])
    have h5:=iva (l:=nth M i) (i:=c) (by omega)
    have e2:=rl7 hne
    have hsc:=fun b nl=>em7 (b:=b) (nl:=nl) (c:=FK.inv (wf (nth M i) c)) (r:=nth M i) (by omega)
    have hs2:(lls 2 ((swpM M at' i).map vs)).set at' (.sl 2 3 1 (ivs (vs (xf5 (FK.inv (wf (nth M i) c)) (nth M i)))))=lls 2 ((sclM M at' i c).map vs):=by unfold sclM;rw[y81,List.map_set]
    have hL:(lls 2 (M.map vs)).length=R:=by rw[qf0,List.length_map];exact hMl
    simp only[e2]at hsc
    rw[List.take_zero,List.nil_append,List.drop_zero]at hin
    simp only[Int.natCast_zero]at hin
    have hpush:=aw7 P c
    have k3:((lls 2 ((swpM M at' i).map vs)).set at' Tree.junk)[at']? =some Tree.junk:=List.getElem?_set_self (by rw[qf0,List.length_map];omega)
    by_cases hii:i=at'
    ·have k1:((lls 2 (M.map vs)).set at' Tree.junk)[at']? =some Tree.junk:=List.getElem?_set_self (by omega)
     subst hii
     have k2:(lls 2 (M.map vs)).set i (.sl 2 3 1 (ivs (vs (nth M i))))=lls 2 ((swpM M i i).map vs):=by
      rw[y81,hsw,List.set_set]
     rw[←ih,sb5 c79L1.eq_def]
     simp(disch:=first|omega|fail) only[push_cast,seval,ui5,lu7,y81,bj9,wrap64,dec_lt,cw6,nl3,qc6,mr8,nb8,if_pos,if_neg,h0,h1,hpn,hnn,hix,hia,h3,k1,List.set_set,k2,k3,h4,h5,hsc,hs2,hscl]
     rw[hMl,hin]
     simp(disch:=first|omega|fail) only[push_cast,seval,ui5,lu7,y81,bj9,wrap64,dec_lt,cw6,nl3,qc6,mr8,nb8,if_pos,if_neg,hpn,hpush]
    ·have k1:((lls 2 (M.map vs)).set at' Tree.junk)[i]? =some (.sl 2 3 1 (ivs (vs (nth M i)))):=by rw[List.getElem?_set_ne (by omega)];exact h2
     have k2:((((lls 2 (M.map vs)).set at' Tree.junk).set i Tree.junk).set at' (.sl 2 3 1 (ivs (vs (nth M i))))).set i (.sl 2 3 1 (ivs (vs (nth M at'))))=lls 2 ((swpM M at' i).map vs):=by
      rw[hsw,←y81,←y81]
      refine List.ext_getElem? fun k=> ?_
      simp only[List.getElem?_set,List.length_set]
      by_cases c1:i=k<;>by_cases c2:at'=k<;>simp[c1,c2]
     rw[←ih,sb5 c79L1.eq_def]
     simp(disch:=first|omega|fail) only[push_cast,seval,ui5,lu7,y81,bj9,wrap64,dec_lt,cw6,nl3,qc6,mr8,nb8,if_pos,if_neg,h0,h1,hpn,hnn,hix,hia,h2,h3,k1,k2,k3,h4,h5,hsc,hs2,hscl,List.set_set]
     rw[hMl,hin]
     simp(disch:=first|omega|fail) only[push_cast,seval,ui5,lu7,y81,bj9,wrap64,dec_lt,cw6,nl3,qc6,mr8,nb8,if_pos,if_neg,hpn,hpush]
end
end Go.Proofs.YtlhmdmedagjmnaaGreat
namespace Go.Proofs.YtlhmdmedagjmnaaGreat
open Go.Am Go.Vm Go.Alg
section
variable {q:Int} {b:Bool} {nl nr:Nat}
theorem e58(he:matE q []=0):o24 W 79 [.x (.int .i64 q), .fz b (.sl nl 0 1 [])] []=some (.tup [.x (.slice none 0 0), .own 0 [], .x (.int .i64 0)],[.sl 1 3 1 []],[]):=by
 have e1:=fun b nl=>or9 (q:=q) (M:=[]) (b:=b) (nl:=nl) (nr:=0)
 simp only[em1,he]at e1
 rw[o10 rfl T79 rfl]
 unfold F79 c79
 simp(disch:=first|omega|fail) only[push_cast,seval,ui5,lu7,y81,bj9,wrap64,dec_lt,cw6,nl3,qc6,mr8,nb8,if_pos,if_neg,e1]
theorem ru4 [IsFld q]{N:List (List (El q))}{n:Nat}(hr: ∀r∈N,r.length=n): ∀r∈N.map vs,r.length=n:=fun c hc=>by
 obtain⟨r,hr',rfl⟩:=List.mem_map.1 hc
 rw[fi2,hr r hr']
theorem sy6 [IsFld q]{N:List (List (El q))}{n:Nat}(hl:N.length≤64)(hr: ∀r∈N,r.length=n)(h0:0<n)(hn:n≤64):matE q (N.map vs)=0:=by
 obtain⟨d,hd⟩:=gh1 (q:=q)
 unfold matE
 rw[hd]
 show(if 64<(N.map vs).length then 4 else _)=(0:Int)
 rw[if_neg (by rw[List.length_map];omega),kn4]
 have: ∀L:List (List (El q)),(∀r∈L,r∈N)→wb9 q (nth N 0).length (L.map vs)=0:=by
  intro L
  induction L with
  |nil=>intro _;rfl
  |cons r L ih=>
   intro h
   have h1:r∈N:=h r (by simp)
   have h2:(nth N 0).length=n:=by
    cases N with
    |nil=>cases h1
    |cons a N=>exact hr a (by simp)
   rw[List.map_cons,wb9,if_pos,ih fun x hx=>h x (by simp[hx])]
   unfold rowE
   rw[fi2,hr r h1,h2,if_neg (by omega),if_neg (by omega),if_neg]
   intro h3
   obtain⟨z,hz,h4⟩:=List.any_eq_true.1 h3
   obtain⟨x,hx,rfl⟩:=List.mem_map.1 hz
   rw[x.ok]at h4
   cases h4
 exact this N fun r h=>h
theorem lq3 [IsFld q]{N:List (List (El q))}{n:Nat}(h0:0<N.length)(hl:N.length≤64)(hr: ∀r∈N,r.length=n)(hn0:0<n)(hn:n≤64):
 o24 W 79 [.x (.int .i64 q), .fz b (.sl nl 0 1 (lvs nr (N.map vs)))] []=some (.tup [.own 0 [], .own 1 [], .x (.int .i64 0)],[.sl 0 22 1 (lls 2 (pvR (redR N))), .sl 1 3 1 (ivs (pvP (redR N)))],[]):=by
 have he:=sy6 hl hr hn0 hn
 have hrv:=ru4 hr
 have e1:=fun b nl nr=>or9 (q:=q) (M:=N.map vs) (b:=b) (nl:=nl) (nr:=nr)
 simp only[he]at e1
 have e2:=fun b nl nr=>y80 (b:=b) (nl:=nl) (nr:=nr) (M:=N.map vs) (fun r hr'=>by have:=hrv r hr';omega) (by rw[List.length_map];omega)
 obtain⟨M',P',c',I,hd,e3⟩:=x17 (M0:=N) (n:=n) (R:=N.length) rfl h0 (by omega) (by omega) n 0 N [] (by omega) (RedI.start hr)
 have hout:=I.end' hd hr
 have hpl:=I.pl
 have hfst:=t15 hpl
 have hsnd:=hn3 hpl
 rw[hout]at hfst hsnd
 have hP:pn P'=pvP (redR N):=by rw[←hfst];unfold pn pvP;rw[List.map_map];rfl
 have hPl:P'.length=(redR N).length:=by rw[←hfst,List.length_map]
 have hR:(M'.map vs).take (redR N).length=pvR (redR N):=by
  rw[←hPl,←List.map_take,←hsnd];unfold pvR;rw[List.map_map];rfl
 have hMl:M'.length=N.length:=I.len
 rw[hP]at e3
 have hpl2:=ga8 (redR N)
 have hnil:ivs (pn [])=[]:=rfl
 rw[hnil]at e3
 simp only[Int.natCast_zero]at e3
 have htk:(lls 2 (M'.map vs)).take (redR N).length=lls 2 (pvR (redR N)):=by rw[mm0,hR]
 rw[o10 rfl T79 rfl]
 unfold F79 c79
 simp(disch:=first|omega|fail) only[push_cast,seval,ui5,lu7,y81,bj9,wrap64,dec_lt,cw6,nl3,qc6,mr8,nb8,if_pos,if_neg,e1,e2]
 rw[e3]
 simp(disch:=first|omega|fail) only[push_cast,seval,ui5,lu7,y81,bj9,wrap64,dec_lt,cw6,nl3,qc6,mr8,nb8,if_pos,if_neg,hpl2,htk]
end
end Go.Proofs.YtlhmdmedagjmnaaGreat
namespace Go.Proofs.YtlhmdmedagjmnaaGreat
open Go.Am Go.Vm Go.Alg
section
variable {q p m g:Int} [IsFld q] {t:Tree} {b:Bool} {nl nr n6 n7 n9:Nat} {M:List (List (El q))} {A:List (Nat×List (El q))} {w:Nat} {i8:Nat}
theorem m26(u:RFo q p m g t)(hA: ∀a∈A,a.2.length=w∧a.1<w)(hAl:A.length≤100000)(hW:w≤100000):
 ∀(n k:Nat) (r:List (El q)),k+n=A.length→r.length=w→ ∀ks,
  vgoL W ⟨h77,[.tmp 4, .tmp 5],0⟩ [1,2,6,7,8,9,10] c77L0 (.blk 2 [1,2,6,7,8,9]::ks) [(1, .fz b (.sl nl 0 1 (lvs nr (M.map vs)))),(2, .own 0 []),(6, .own 1 []),(7, .own 2 []),(8, .x (.int .i64 i8)),(9, .own 3 []),(10, .x (.int .i64 k))] [.pt 52 [.v (.int .i64 q), .v (.int .i64 p), .v (.int .i64 m), .v (.int .i64 g), .fz t], .sl n6 22 1 (lls 2 (pvR A)), .sl n7 3 1 (ivs (pvP A)), .sl (nl1 k) 3 1 (ivs (vs r))]=
   vgo W ⟨h77,[.tmp 4, .tmp 5],0⟩ ks (VFr.of [(1, .fz b (.sl nl 0 1 (lvs nr (M.map vs)))),(2, .own 0 []),(6, .own 1 []),(7, .own 2 []),(8, .x (.int .i64 i8)),(9, .own 3 [])]) [.pt 52 [.v (.int .i64 q), .v (.int .i64 p), .v (.int .i64 m), .v (.int .i64 g), .fz t], .sl n6 22 1 (lls 2 (pvR A)), .sl n7 3 1 (ivs (pvP A)), .sl (nl1 A.length) 3 1 (ivs (vs (uo6 (A.drop k) r)))]
 |0,k,r,hk,hr,ks=>by
  obtain rfl:k=A.length:=by omega
  have h1:=nu3 A
  rw[oh9 (by omega),sb5 c77L0.eq_def,uo6]
  simp(disch:=first|omega|fail) only[push_cast,seval,ui5,lu7,y81,bj9,wrap64,dec_lt,cw6,nl3,qc6,mr8,nb8,if_pos,if_neg,h1]
 |n+1,k,r,hk,hr,ks=>by
  obtain⟨a,ha⟩:=ge6 (l:=A) (i:=k) (by omega)
  obtain⟨hal,hap⟩:=hA a (List.mem_of_getElem? ha)
  have ih:=m26 u hA hAl hW n (k+1) (dx9 (wf r a.1) r a.2) (by omega) (by rw[wx1 (by rw[hr,hal]),hr]) ks
  have h1:=nu3 A
  have h2:=ga8 A
  have h3:=x08 ha
  have h4:=bx6 ha
  have h5:=iva (l:=r) (i:=a.1) (by omega)
  have hl:=fun b b' nl nl'=>el1 (b:=b) (b':=b') (nl:=nl) (nl':=nl') (c:=wf r a.1) (r:=r) (o:=a.2) (by omega) (by omega)
  rw[u.e]at hl
  have ht:=u.n
  have ho:=u.o
  rw[Int.natCast_add,Int.natCast_one]at ih
  rw[i62 ha,uo6,←ih,sb5 c77L0.eq_def]
  simp(disch:=first|omega|fail) only[push_cast,seval,ui5,lu7,y81,bj9,wrap64,dec_lt,cw6,nl3,qc6,mr8,nb8,if_pos,if_neg,h1,h2,h3,h4,h5,hl,ht,ho]
theorem hf5{T2 T6 T7:Tree}{r:List (El q)}(hrl:r.length=w)(hW:w≤100000): ∀(n i:Nat),i+n=w→ ∀ks,
 vgoL W ⟨h77,[.tmp 4, .tmp 5],0⟩ [1,2,6,7,8,9,11] c77L1 (.blk 4 [1,2,6,7,8,9,11]::ks) [(1, .fz b (.sl nl 0 1 (lvs nr (M.map vs)))),(2, .own 0 []),(6, .own 1 []),(7, .own 2 []),(8, .x (.int .i64 i8)),(9, .own 3 []),(11, .x (.int .i64 i))] [T2,T6,T7, .sl n9 3 1 (ivs (vs r))]=
  vgo W ⟨h77,[.tmp 4, .tmp 5],0⟩ ks (VFr.of [(1, .fz b (.sl nl 0 1 (lvs nr (M.map vs)))),(2, .own 0 []),(6, .own 1 []),(7, .own 2 []),(8, .x (.int .i64 i8)),(9, .own 3 []),(11, .x (.int .i64 (lv6 (r.drop i)+i:Nat)))]) [T2,T6,T7, .sl n9 3 1 (ivs (vs r))]
 |0,i,hi,ks=>by
  rw[oh9 (by omega),lv6,sb5 c77L1.eq_def]
  simp(disch:=first|omega|fail) only[push_cast,seval,ui5,lu7,y81,bj9,wrap64,dec_lt,cw6,nl3,qc6,mr8,nb8,if_pos,if_neg]
 |n+1,i,hi,ks=>by
  have ih:=hf5 (T2:=T2) (T6:=T6) (T7:=T7) hrl hW n (i+1) (by omega) ks
  obtain⟨a,ha⟩:=ge6 (l:=r) (i:=i) (by omega)
  have hwa:wf r i=a:=by
   obtain⟨h1,h2⟩:=List.getElem?_eq_some_iff.1 ha
   rw[i66 h1,h2]
  have h1:=iva (l:=r) (i:=i) (by omega)
  rw[hwa]at h1
  rw[Int.natCast_add,Int.natCast_one]at ih
  rw[i62 ha,lv6]
  by_cases h0:a=0
  ·rw[if_pos h0,show lv6 (r.drop (i+1))+1+i=lv6 (r.drop (i+1))+(i+1) by omega,←ih,sb5 c77L1.eq_def]
   have hv:=r57.2 h0
   simp(disch:=first|omega|fail) only[push_cast,seval,ui5,lu7,y81,bj9,wrap64,dec_lt,cw6,nl3,qc6,mr8,nb8,if_pos,if_neg,h1,hv]
  ·rw[if_neg h0,sb5 c77L1.eq_def]
   simp(disch:=first|omega|fail) only[push_cast,seval,ui5,lu7,y81,bj9,wrap64,dec_lt,cw6,nl3,qc6,mr8,nb8,if_pos,if_neg,h1,nb8 (fun h=>h0 (r57.1 h))]
theorem cc8(u:RFo q p m g t){T6 T7:Tree}{c:El q}{r:List (El q)}{at':Nat}(hrl:r.length=w)(hW:w≤100000): ∀(n j:Nat),j+n=w→ ∀ks,
 vgoL W ⟨h77,[.tmp 4, .tmp 5],0⟩ [1,2,6,7,8,9,11,12,13] c77L2 (.blk 6 [1,2,6,7,8,9,11]::ks) [(1, .fz b (.sl nl 0 1 (lvs nr (M.map vs)))),(2, .own 0 []),(6, .own 1 []),(7, .own 2 []),(8, .x (.int .i64 i8)),(9, .own 3 []),(11, .x (.int .i64 at')),(12, .x (.int .i64 c.v)),(13, .x (.int .i64 j))] [.pt 52 [.v (.int .i64 q), .v (.int .i64 p), .v (.int .i64 m), .v (.int .i64 g), .fz t],T6,T7, .sl n9 3 1 (ivs (vs ((xf5 c r).take j++r.drop j)))]=
  vgo W ⟨h77,[.tmp 4, .tmp 5],0⟩ ks (VFr.of [(1, .fz b (.sl nl 0 1 (lvs nr (M.map vs)))),(2, .own 0 []),(6, .own 1 []),(7, .own 2 []),(8, .x (.int .i64 i8)),(9, .own 3 []),(11, .x (.int .i64 at'))]) [.pt 52 [.v (.int .i64 q), .v (.int .i64 p), .v (.int .i64 m), .v (.int .i64 g), .fz t],T6,T7, .sl n9 3 1 (ivs (vs (xf5 c r)))]
 |0,j,hj,ks=>by
  obtain rfl:j=r.length:=by omega
  unfold xf5
  rw[l44,sb5 c77L2.eq_def]
  simp(disch:=first|omega|fail) only[push_cast,seval,ui5,lu7,y81,bj9,wrap64,dec_lt,cw6,nl3,qc6,mr8,nb8,if_pos,if_neg]
 |n+1,j,hj,ks=>by
  have ih:=cc8 u (T6:=T6) (T7:=T7) (c:=c) (at':=at') hrl hW n (j+1) (by omega) ks
  obtain⟨a,ha⟩:=ge6 (l:=r) (i:=j) (by omega)
  have hcl:=mh9 (fun x=>x*c) r j
  have hat:=zw5 (f:=fun x=>x*c) (l:=r) (j:=j) (by omega)
  have hset:=fz1 (f:=fun x=>x*c) ha
  have hsc: ∀x:List (El q),xf5 c x=x.map fun x=>x*c:=fun _=>rfl
  rw[hsc,←hset]at ih
  rw[hsc]
  generalize hy:(r.map fun x=>x*c).take j++r.drop j=y at ih hcl hat hset
  have hwy:wf y j=a:=by
   unfold wf;rw[List.getD_eq_getElem?_getD,hat,ha];rfl
  have h1:=iva (l:=y) (i:=j) (by omega)
  rw[hwy]at h1
  have ht:=u.n
  have ho:=u.o
  have vmul:=fun x y:Int=>n06 (q:=q) (x:=x) (y:=y)
  rw[u.e]at vmul
  have hs:=g52 y j (a*c)
  rw[ym6]at hs
  rw[Int.natCast_add,Int.natCast_one]at ih
  rw[←ih,sb5 c77L2.eq_def]
  simp(disch:=first|omega|fail) only[push_cast,seval,ui5,lu7,y81,bj9,wrap64,dec_lt,cw6,nl3,qc6,mr8,nb8,if_pos,if_neg,h1,vmul,ht,ho,hs]
theorem nc1(u:RFo q p m g t){T7:Tree}(hA: ∀a∈A,a.2.length=w∧a.1<w)(hAl:A.length≤100000)(hW:w≤100000){r:List (El q)}(hrl:r.length=w){at':Nat}(hat:at'<w): ∀(n k:Nat),k+n=A.length→ ∀ks,
 vgoL W ⟨h77,[.tmp 4, .tmp 5],0⟩ [1,2,6,7,8,9,11,14] c77L3 (.blk 8 [1,2,6,7,8,9,11]::ks) [(1, .fz b (.sl nl 0 1 (lvs nr (M.map vs)))),(2, .own 0 []),(6, .own 1 []),(7, .own 2 []),(8, .x (.int .i64 i8)),(9, .own 3 []),(11, .x (.int .i64 at')),(14, .x (.int .i64 k))] [.pt 52 [.v (.int .i64 q), .v (.int .i64 p), .v (.int .i64 m), .v (.int .i64 g), .fz t], .sl n6 22 1 (lls 2 (pvR ((A.map (updR at' r)).take k++A.drop k))),T7, .sl n9 3 1 (ivs (vs r))]=
  vgo W ⟨h77,[.tmp 4, .tmp 5],0⟩ ks (VFr.of [(1, .fz b (.sl nl 0 1 (lvs nr (M.map vs)))),(2, .own 0 []),(6, .own 1 []),(7, .own 2 []),(8, .x (.int .i64 i8)),(9, .own 3 []),(11, .x (.int .i64 at'))]) [.pt 52 [.v (.int .i64 q), .v (.int .i64 p), .v (.int .i64 m), .v (.int .i64 g), .fz t], .sl n6 22 1 (lls 2 (pvR (A.map (updR at' r)))),T7, .sl n9 3 1 (ivs (vs r))]
 |0,k,hk,ks=>by
  obtain rfl:k=A.length:=by omega
  have h1:=nu3 (A.map (updR at' r))
  rw[List.length_map]at h1
  rw[l44,sb5 c77L3.eq_def]
  simp(disch:=first|omega|fail) only[push_cast,seval,ui5,lu7,y81,bj9,wrap64,dec_lt,cw6,nl3,qc6,mr8,nb8,if_pos,if_neg,h1]
 |n+1,k,hk,ks=>by
  have ih:=nc1 u (T7:=T7) hA hAl hW hrl hat n (k+1) (by omega) ks
  obtain⟨a,ha⟩:=ge6 (l:=A) (i:=k) (by omega)
  obtain⟨hal,hap⟩:=hA a (List.mem_of_getElem? ha)
  have hcl:=mh9 (updR at' r) A k
  have hca:=zw5 (f:=updR at' r) (l:=A) (j:=k) (by omega)
  have hset:=fz1 (f:=updR at' r) ha
  rw[←hset]at ih
  generalize hy:(A.map (updR at' r)).take k++A.drop k=Y at ih hcl hca hset
  rw[ha]at hca
  have h0:=nu3 Y
  have h1:=x08 hca
  have h2:=iva (l:=a.2) (i:=at') (by omega)
  have hl:=fun b b' nl nl'=>el1 (b:=b) (b':=b') (nl:=nl) (nl':=nl') (c:=wf a.2 at') (r:=a.2) (o:=r) (by omega) (by omega)
  rw[u.e]at hl
  have hs:(pvR Y).set k (vs (dx9 (wf a.2 at') a.2 r))=pvR (Y.set k (updR at' r a)):=by rw[←lo1];rfl
  have ht:=u.n
  have ho:=u.o
  rw[Int.natCast_add,Int.natCast_one]at ih
  rw[←ih,sb5 c77L3.eq_def]
  simp(disch:=first|omega|fail) only[push_cast,seval,ui5,lu7,y81,bj9,wrap64,dec_lt,cw6,nl3,qc6,mr8,nb8,if_pos,if_neg,h0,h1,h2,hl,ht,ho,hs]
theorem on7{T2 T6 T9:Tree}(hAl:A.length≤100000){at':Nat}(hl:(lls 2 (pvR A)).length=A.length): ∀(n k:Nat),k+n=A.length→ ∀ks,
 vgoL W ⟨h77,[.tmp 4, .tmp 5],0⟩ [1,2,6,7,8,9,11,15] c77L4 (.blk 10 [1,2,6,7,8,9,11,15]::ks) [(1, .fz b (.sl nl 0 1 (lvs nr (M.map vs)))),(2, .own 0 []),(6, .own 1 []),(7, .own 2 []),(8, .x (.int .i64 i8)),(9, .own 3 []),(11, .x (.int .i64 at')),(15, .x (.int .i64 k))] [T2, .sl n6 22 1 (lls 2 (pvR A)), .sl n7 3 1 (ivs (pvP A)),T9]=
  vgo W ⟨h77,[.tmp 4, .tmp 5],0⟩ ks (VFr.of [(1, .fz b (.sl nl 0 1 (lvs nr (M.map vs)))),(2, .own 0 []),(6, .own 1 []),(7, .own 2 []),(8, .x (.int .i64 i8)),(9, .own 3 []),(11, .x (.int .i64 at')),(15, .x (.int .i64 (posR at' (A.drop k)+k:Nat)))]) [T2, .sl n6 22 1 (lls 2 (pvR A)), .sl n7 3 1 (ivs (pvP A)),T9]
 |0,k,hk,ks=>by
  have h1:=nu3 A
  rw[oh9 (by omega),posR,sb5 c77L4.eq_def]
  simp(disch:=first|omega|fail) only[push_cast,seval,ui5,lu7,y81,bj9,wrap64,dec_lt,cw6,nl3,qc6,mr8,nb8,if_pos,if_neg,h1]
 |n+1,k,hk,ks=>by
  have ih:=on7 (T2:=T2) (T6:=T6) (T9:=T9) hAl (at':=at') hl n (k+1) (by omega) ks
  obtain⟨a,ha⟩:=ge6 (l:=A) (i:=k) (by omega)
  have h1:=nu3 A
  have h2:=ga8 A
  have h4:=bx6 ha
  rw[Int.natCast_add,Int.natCast_one]at ih
  rw[i62 ha,posR]
  by_cases hlt:a.1<at'
  ·rw[if_pos hlt,show posR at' (A.drop (k+1))+1+k=posR at' (A.drop (k+1))+(k+1) by omega,←ih,sb5 c77L4.eq_def]
   simp(disch:=first|omega|fail) only[push_cast,seval,ui5,lu7,y81,bj9,wrap64,dec_lt,cw6,nl3,qc6,mr8,nb8,if_pos,if_neg,h1,h2,h4]
  ·rw[if_neg hlt,sb5 c77L4.eq_def]
   simp(disch:=first|omega|fail) only[push_cast,seval,ui5,lu7,y81,bj9,wrap64,dec_lt,cw6,nl3,qc6,mr8,nb8,if_pos,if_neg,h1,h2,h4]
theorem wv5(u:RFo q p m g t)(hMl: ∀r∈M,r.length=w)(hMn:M.length≤500)(hW:w≤1000): ∀(n i:Nat) (A:List (Nat×List (El q))),i+n=M.length→A.length≤i→(∀a∈A,a.2.length=w∧a.1<w)→ ∀ks,
 vgoL W ⟨h77,[.tmp 4, .tmp 5],0⟩ [1,2,6,7,8] c77L5 (.blk 0 [6,7]::ks) [(1, .fz b (.sl nl 0 1 (lvs nr (M.map vs)))),(2, .own 0 []),(6, .own 1 []),(7, .own 2 []),(8, .x (.int .i64 i))] [.pt 52 [.v (.int .i64 q), .v (.int .i64 p), .v (.int .i64 m), .v (.int .i64 g), .fz t], .sl (nl0 A.length) 22 1 (lls 2 (pvR A)), .sl (nl0 A.length) 3 1 (ivs (pvP A))]=
  vgo W ⟨h77,[.tmp 4, .tmp 5],0⟩ ks (VFr.of [(6, .own 1 []),(7, .own 2 [])]) [.pt 52 [.v (.int .i64 q), .v (.int .i64 p), .v (.int .i64 m), .v (.int .i64 g), .fz t], .sl (nl0 ((M.drop i).foldl vp4 A).length) 22 1 (lls 2 (pvR ((M.drop i).foldl vp4 A))), .sl (nl0 ((M.drop i).foldl vp4 A).length) 3 1 (ivs (pvP ((M.drop i).foldl vp4 A)))]
 |0,i,A,hi,hAi,hA,ks=>by
  rw[oh9 (by omega),List.foldl_nil,sb5 c77L5.eq_def]
  simp(disch:=first|omega|fail) only[push_cast,seval,ui5,lu7,y81,bj9,wrap64,dec_lt,cw6,nl3,qc6,mr8,nb8,if_pos,if_neg]
 |n+1,i,A,hi,hAi,hA,ks=>by
  have IH:=wv5 u hMl hMn hW n (i+1)
  obtain⟨r0,hr0⟩:=ge6 (l:=M) (i:=i) (by omega)
  have hr0l:=hMl r0 (List.mem_of_getElem? hr0)
  have h0:=mva (nl:=nr) hr0
  rw[i62 hr0,List.foldl_cons]
  have hcp:=fun b nl=>xr6 (b:=b) (nl:=nl) (l:=vs r0) (by rw[fi2];omega)
  have e2:=fun ks=>m26 (b:=b) (nl:=nl) (nr:=nr) (n6:=nl0 A.length) (n7:=nl0 A.length) (M:=M) (i8:=i) u hA (by omega) (by omega) A.length 0 r0 (by omega) hr0l ks
  rw[List.drop_zero]at e2
  obtain⟨r,hr⟩: ∃r,uo6 A r0=r:=⟨_,rfl⟩
  rw[hr]at e2
  have hrl:r.length=w:=by rw[←hr];exact m12 (n:=w) (fun a ha=>(hA a ha).1) A r0 (fun _ h=>h) hr0l
  have e3:=fun n9 T2 T6 T7 ks=>hf5 (b:=b) (nl:=nl) (nr:=nr) (n9:=n9) (M:=M) (i8:=i) (T2:=T2) (T6:=T6) (T7:=T7) hrl (by omega) w 0 (by omega) ks
  rw[List.drop_zero,Nat.add_zero]at e3
  obtain⟨at',hat⟩: ∃x,lv6 r=x:=⟨_,rfl⟩
  have hle:at'≤w:=by rw[←hat,←hrl];exact sb2 r
  rw[hat]at e3
  have hadd:=jp6 hr hat
  simp only[Int.natCast_zero,og7]at e2 e3
  have h2:=nu3 A
  have h3:=ga8 A
  by_cases hfull:at'=w
  ·rw[if_pos (by rw[hrl];exact hfull)]at hadd
   rw[hadd]
   have ih:=IH A (by omega) (by omega) hA ks
   rw[Int.natCast_add,Int.natCast_one]at ih
   rw[←ih,sb5 c77L5.eq_def]
   simp(disch:=first|omega|fail) only[push_cast,seval,ui5,lu7,y81,bj9,wrap64,dec_lt,cw6,nl3,qc6,mr8,nb8,if_pos,if_neg,h0,hcp]
   rw[e2]
   simp(disch:=first|omega|fail) only[push_cast,seval,ui5,lu7,y81,bj9,wrap64,dec_lt,cw6,nl3,qc6,mr8,nb8,if_pos,if_neg]
   rw[e3]
   simp(disch:=first|omega|fail) only[push_cast,seval,ui5,lu7,y81,bj9,wrap64,dec_lt,cw6,nl3,qc6,mr8,nb8,if_pos,if_neg]
  ·rw[if_neg (by rw[hrl];exact hfull)]at hadd
   have hne:wf r at'≠0:=by have:=aa0 (l:=r) (by rw[hat,hrl];omega);rwa [hat]at this
   have h1:=iva (l:=r) (i:=at') (by omega)
   obtain⟨c,hc⟩: ∃c,FK.inv (wf r at')=c:=⟨_,rfl⟩
   have hv:=rl7 hne
   rw[hc]at hv hadd
   have ht:=u.n
   have ho:=u.o
   have vinv:=fun x:Int=>dy2 (q:=q) (x:=x)
   rw[u.e]at vinv
   have e4:=fun n9 T6 T7 ks=>cc8 (b:=b) (nl:=nl) (nr:=nr) (n9:=n9) (M:=M) (i8:=i) (T6:=T6) (T7:=T7) (at':=at') u (c:=c) hrl (by omega) w 0 (by omega) ks
   rw[List.take_zero,List.nil_append,List.drop_zero]at e4
   obtain⟨s,hs⟩: ∃s,xf5 c r=s:=⟨_,rfl⟩
   have hsl:s.length=w:=by rw[←hs];unfold xf5;rw[List.length_map,hrl]
   rw[hs]at e4 hadd
   have e5:=fun n6 n9 T7 ks=>nc1 (b:=b) (nl:=nl) (nr:=nr) (n6:=n6) (n9:=n9) (M:=M) (i8:=i) (T7:=T7) u hA (by omega) (by omega) hsl (at':=at') (by omega) A.length 0 (by omega) ks
   rw[List.take_zero,List.drop_zero,List.nil_append]at e5
   obtain⟨A',hA'⟩: ∃A',A.map (updR at' s)=A':=⟨_,rfl⟩
   have hAl':A'.length=A.length:=by rw[←hA',List.length_map]
   have hpv:pvP A'=pvP A:=by rw[←hA',so2]
   have hA2: ∀a∈A',a.2.length=w∧a.1<w:=fun a ha=>by
    rw[←hA']at ha
    obtain⟨b,hb',rfl⟩:=List.mem_map.1 ha
    have:=hA b hb'
    exact⟨by show(dx9 _ _ _).length=w;rw[wx1 (by rw[this.1,hsl]),this.1],this.2⟩
   rw[hA']at e5 hadd
   have h2':=nu3 A'
   have e6:=fun n6 n7 T2 T9 ks=>on7 (b:=b) (nl:=nl) (nr:=nr) (n6:=n6) (n7:=n7) (M:=M) (i8:=i) (T2:=T2) (T6:=T2) (T9:=T9) (A:=A') (by omega) (at':=at') (by rw[qf0,h2']) A'.length 0 (by omega) ks
   rw[List.drop_zero,Nat.add_zero,hpv]at e6
   obtain⟨k,hk⟩: ∃k,posR at' A'=k:=⟨_,rfl⟩
   have hkl:k≤A'.length:=by rw[←hk];exact m85 _ _
   rw[hk]at e6
   rw[on6,hk]at hadd
   rw[hadd]
   have hnl:(A'.take k++(at',s)::A'.drop k).length=A'.length+1:=by
    simp only[List.length_append,List.length_cons,List.length_take,List.length_drop];omega
   have ih:=IH (A'.take k++(at',s)::A'.drop k) (by omega) (by rw[hnl];omega) (fun a ha=>by
    rcases List.mem_append.1 ha with h|h
    ·exact hA2 a (List.mem_of_mem_take h)
    ·rcases List.mem_cons.1 h with rfl|h
     ·exact⟨hsl,by show at'<w;omega⟩
     ·exact hA2 a (List.mem_of_mem_drop h)) ks
   rw[Int.natCast_add,Int.natCast_one]at ih
   rw[hnl]at ih
   simp only[Int.natCast_zero]at e4 e5 e6
   rw[←ih,sb5 c77L5.eq_def]
   simp(disch:=first|omega|fail) only[push_cast,seval,ui5,lu7,y81,bj9,wrap64,dec_lt,cw6,nl3,qc6,mr8,nb8,if_pos,if_neg,h0,hcp]
   rw[e2]
   simp(disch:=first|omega|fail) only[push_cast,seval,ui5,lu7,y81,bj9,wrap64,dec_lt,cw6,nl3,qc6,mr8,nb8,if_pos,if_neg]
   rw[e3]
   simp(disch:=first|omega|fail) only[push_cast,seval,ui5,lu7,y81,bj9,wrap64,dec_lt,cw6,nl3,qc6,mr8,nb8,if_pos,if_neg,h1,vinv,←hv,ht,ho]
   rw[e4]
   simp(disch:=first|omega|fail) only[push_cast,seval,ui5,lu7,y81,bj9,wrap64,dec_lt,cw6,nl3,qc6,mr8,nb8,if_pos,if_neg,h2,ht]
   rw[e5]
   simp(disch:=first|omega|fail) only[push_cast,seval,ui5,lu7,y81,bj9,wrap64,dec_lt,cw6,nl3,qc6,mr8,nb8,if_pos,if_neg]
   rw[e6]
   have hc1:=oz2 hkl
   have hj1:=ct5 hkl
   have hc2:=v40 (A:=A') (k:=k) (n:=A'.length-k) (by omega)
   have hc3:=xb6 (P:=pvP A) (k:=k) h3 (by omega)
   have hc4:=zo1 (P:=pvP A) (k:=k) h3 (by omega)
   have hi1:=np4 A' k at' s
   have hi2:=xk2 (k:=k) (p:=at') (r:=s) hpv
   have hmin':min k A.length=k:=by omega
   have hn1:((k:Int)+((A'.length:Int)-(k:Int))-(k:Int)).toNat=A'.length-k:=by omega
   have hmin:min k A'.length=k:=by omega
   simp(disch:=first|omega|fail) only[push_cast,seval,ui5,lu7,y81,bj9,wrap64,dec_lt,cw6,nl3,qc6,mr8,nb8,if_pos,if_neg,hc1,hj1,hc2,hc3,hc4,hi1,hi2,bo6,nl9,by7,av2,h2',nu3,ga8,hn1,hmin,hmin',Int.sub_zero]
theorem di7(hMl: ∀r∈M,r.length=w)(hMn:M.length≤500)(hW:w≤1000):
 o24 W 77 [.agg (rFs q), .fz b (.sl nl 0 1 (lvs nr (M.map vs)))] []=some (.tup [.own 0 [], .own 1 []],[.sl (nl0 (redR M).length) 22 1 (lls 2 (pvR (redR M))), .sl (nl0 (redR M).length) 3 1 (ivs (pvP (redR M)))],[]):=by
 obtain⟨p,m,g,t,u⟩:=k75 q
 have e:=fun ks=>wv5 (b:=b) (nl:=nl) (nr:=nr) u hMl hMn hW M.length 0 [] (by omega) (by simp) (fun a ha=>by cases ha) ks
 rw[List.drop_zero]at e
 have hp:pvP ([]:List (Nat×List (El q)))=[]:=rfl
 have hr:pvR ([]:List (Nat×List (El q)))=[]:=rfl
 rw[hp,hr]at e
 simp only[vt2,List.length_nil]at e
 simp only[Int.natCast_zero,List.take_zero,List.drop_zero,rp2,lz6,x25,List.map_nil,List.length_nil]at e
 have ht:=u.n
 rw[o10 rfl T77 rfl,u.e]
 unfold F77 c77
 simp(disch:=first|omega|fail) only[push_cast,seval,ui5,lu7,y81,bj9,wrap64,dec_lt,cw6,nl3,qc6,mr8,nb8,if_pos,if_neg,ht]
 rw[e]
 simp(disch:=first|omega|fail) only[push_cast,seval,ui5,lu7,y81,bj9,wrap64,dec_lt,cw6,nl3,qc6,mr8,nb8,if_pos,if_neg,redR]
end
end Go.Proofs.YtlhmdmedagjmnaaGreat
namespace Go.Proofs.YtlhmdmedagjmnaaGreat
open Go.Am Go.Vm Go.Alg
section
variable {q p m g:Int} [IsFld q] {t:Tree} {b b':Bool} {nl nl' nr n7 n8:Nat} {M:List (List (El q))} {A:List (Nat×List (El q))} {N:Nat}
end
end Go.Proofs.YtlhmdmedagjmnaaGreat
namespace Go.Proofs.YtlhmdmedagjmnaaGreat
open Go.Am Go.Vm Go.Alg
section
variable {q:Int} [IsFld q] {b b':Bool} {nl nl' nr:Nat} {M:List (List (El q))} {y:List (El q)} {n R:Nat}
section
variable {T5:Tree} {c at' n0:Nat}
end
end
end Go.Proofs.YtlhmdmedagjmnaaGreat
namespace Go.Proofs.YtlhmdmedagjmnaaGreat
open Go.Am Go.Vm Go.Alg
section
variable {q:Int} {b b':Bool} {nl nl' nr e:Nat}
end
section
variable {α:Type} {n:Nat}
end
section
variable {q:Int} [IsFld q] {b b':Bool} {nl nl' nr:Nat} {M:List (List (El q))} {n:Nat}
end
section
variable {q:Int} {b b':Bool} {nl nl' nr e:Nat}
end
end Go.Proofs.YtlhmdmedagjmnaaGreat
namespace Go.Alg
section
variable {K:Type} [FK K]
end
end Go.Alg
namespace Go.Proofs.YtlhmdmedagjmnaaGreat
open Go.Am Go.Vm Go.Alg
section
variable {q:Int} [h:IsFld q]
theorem mc5(x:El q): ∀n:Nat,(pw x n).v=powI q x.v n
 |0=>rfl
 |n+1=>by rw[pw,ym6,mc5 x n,powI]
theorem v_pw(x:El q)(n:Nat):fpow q x.v n=(pw x n).v:=by
 obtain⟨p,m,g,mod,hn⟩:=h.ok
 obtain⟨hf,t,_⟩:=jj8 hn
 rw[mc5]
 cases n with
 |zero=>
  rw[fpow,x.ok]
  show(bif !true||((x.v==0)&&decide (((0:Nat):Int)<0))then _ else _)=_
  rw[decide_eq_false (by omega),Bool.and_false];rfl
 |succ n=>exact(v22 t hf.q2 ⟨x.lo,x.hi⟩ (n+1) (by omega)).symm
end
section
variable {q:Int} [IsFld q] {b b':Bool} {nl nl':Nat} {P:List (El q×El q)} {k:Nat}
theorem y91{X:List (El q)}{U:List (Option (El q))}{k:Nat}(hn:X.Nodup)(hX1:1≤X.length)(hX:X.length≤64)(hU:U.length=X.length)(k1:1≤k)(k2:k≤X.length):wrdE q (vs X) k (ws U)=0:=by
 unfold wrdE
 rw[if_pos (la8 hn hX1 hX (by omega) (by omega)),if_neg (by rw[u67,fi2];omega),p09,if_neg (by decide)]
end
end Go.Proofs.YtlhmdmedagjmnaaGreat
namespace Go.Proofs.YtlhmdmedagjmnaaGreat
open Go.Am Go.Vm Go.Alg
section
variable {q p m g:Int} [IsFld q] {t:Tree} {b b' b2:Bool} {nl nl' nl2:Nat} {a:List (El q)} {X:List (El q)} {U:List (Option (El q))}
theorem b65(u:RFo q p m g t)(ha:a.length≤1000)(hU:U.length=X.length)(hX:X.length≤1000): ∀(d i e n:Nat),i+d=X.length→e≤i→n≤i→ ∀ks,
 vgoL W ⟨hNo,[.tmp 8, .tmp 9],0⟩ [1,2,3,4,10,11,12] c180L0 (.blk 0 [10,11]::ks) [(1, .fz b (.sl nl 0 1 (ivs (vs X)))),(2, .fz b' (.sl nl' 0 1 (ivs (ws U)))),(3, .fz b2 (.sl nl2 0 1 (ivs (vs a)))),(4, .own 0 []),(10, .x (.int .i64 e)),(11, .x (.int .i64 n)),(12, .x (.int .i64 i))] [.pt 52 [.v (.int .i64 q), .v (.int .i64 p), .v (.int .i64 m), .v (.int .i64 g), .fz t]]=
  vgo W ⟨hNo,[.tmp 8, .tmp 9],0⟩ ks (VFr.of [(10, .x (.int .i64 (offK a (kh0 (X.drop i) (U.drop i))+e:Nat))),(11, .x (.int .i64 ((kh0 (X.drop i) (U.drop i)).length+n:Nat)))]) [.pt 52 [.v (.int .i64 q), .v (.int .i64 p), .v (.int .i64 m), .v (.int .i64 g), .fz t]]
 |0,i,e,n,hi,he,hn,ks=>by
  have hwl:=u67 U
  rw[oh9 (by omega),oh9 (by omega),show kh0 ([]:List (El q)) []=[]from rfl,show offK a []=0 from rfl,List.length_nil,Nat.zero_add,Nat.zero_add,sb5 c180L0.eq_def]
  simp(disch:=first|omega|fail) only[push_cast,seval,ui5,lu7,y81,bj9,wrap64,dec_lt,cw6,nl3,qc6,mr8,nb8,if_pos,if_neg,hwl]
 |d+1,i,e,n,hi,he,hn,ks=>by
  obtain⟨x,hx⟩:=ge6 (l:=X) (i:=i) (by omega)
  obtain⟨o,ho'⟩:=ge6 (l:=U) (i:=i) (by omega)
  have h1:=iat (qb7 ho')
  have h2:=iat (show(vs X)[i]? =some x.v by unfold vs;rw[List.getElem?_map,hx];rfl)
  have hwl:=u67 U
  have ht:=u.n
  have ho:=u.o
  rw[i62 hx,i62 ho']
  cases o with
  |none=>
   rw[show oV (none:Option (El q))= -1 from rfl]at h1
   have ih:=b65 u ha hU hX d (i+1) e n (by omega) (by omega) (by omega) ks
   rw[Int.natCast_add,Int.natCast_one]at ih
   rw[kh0,←ih,sb5 c180L0.eq_def]
   simp(disch:=first|omega|fail) only[push_cast,seval,ui5,lu7,y81,bj9,wrap64,dec_lt,cw6,nl3,qc6,mr8,nb8,if_pos,if_neg,h1,hwl,ht,ho]
  |some y=>
   rw[show oV (some y)=y.v from rfl]at h1
   have hy: ¬y.v= -1:=by have:=y.lo;omega
   have e1:=fun b nl=>xz0 (b:=b) (nl:=nl) (x:=x) ha
   rw[u.e]at e1
   have ih:=b65 u ha hU hX d (i+1) (e+if ev a x=y then 0 else 1) (n+1) (by omega) (by split<;>omega) (by omega) ks
   have c1:((i+1:Nat):Int)=(i:Int)+1:=by omega
   have c2:((n+1:Nat):Int)=(n:Int)+1:=by omega
   rw[c1,c2]at ih
   rw[kh0,di6,List.length_cons]
   rw[show offK a (kh0 (X.drop (i+1)) (U.drop (i+1)))+(e+if ev a x=y then 0 else 1)=(if ev a x=y then 0 else 1)+offK a (kh0 (X.drop (i+1)) (U.drop (i+1)))+e by omega,show(kh0 (X.drop (i+1)) (U.drop (i+1))).length+(n+1)=(kh0 (X.drop (i+1)) (U.drop (i+1))).length+1+n by omega]at ih
   rw[←ih,sb5 c180L0.eq_def]
   by_cases h:ev a x=y
   ·rw[if_pos h,Nat.add_zero]
    have hv:(ev a x).v=y.v:=by rw[h]
    simp(disch:=first|omega|fail) only[push_cast,seval,ui5,lu7,y81,bj9,wrap64,dec_lt,cw6,nl3,qc6,mr8,nb8,if_pos,if_neg,h1,h2,hwl,ht,ho,nb8 hy,e1,hv]
   ·rw[if_neg h,show((e+1:Nat):Int)=(e:Int)+1 by omega]
    have hv: ¬(ev a x).v=y.v:=fun e=>h (El.ext' e)
    simp(disch:=first|omega|fail) only[push_cast,seval,ui5,lu7,y81,bj9,wrap64,dec_lt,cw6,nl3,qc6,mr8,nb8,if_pos,if_neg,h1,h2,hwl,ht,ho,nb8 hy,e1,nb8 hv]
theorem zg2(ha:a.length≤1000)(hU:U.length=X.length)(hX:X.length≤1000):
 o24 W 180 [.agg (rFs q), .fz b (.sl nl 0 1 (ivs (vs X))), .fz b' (.sl nl' 0 1 (ivs (ws U))), .fz b2 (.sl nl2 0 1 (ivs (vs a)))] []=some (.tup [.x (.int .i64 (offK a (kh0 X U):Nat)), .x (.int .i64 ((kh0 X U).length:Nat))],[],[]):=by
 obtain⟨p,m,g,t,u⟩:=k75 q
 have e:=fun ks=>b65 (b:=b) (nl:=nl) (b':=b') (nl':=nl') (b2:=b2) (nl2:=nl2) u ha hU hX X.length 0 0 0 (by omega) (by omega) (by omega) ks
 rw[List.drop_zero,List.drop_zero]at e
 simp only[Int.natCast_zero,Nat.add_zero]at e
 have ht:=u.n
 rw[o10 rfl T180 rfl,u.e]
 unfold F180 c180
 simp(disch:=first|omega|fail) only[push_cast,seval,ui5,lu7,y81,bj9,wrap64,dec_lt,cw6,nl3,qc6,mr8,nb8,if_pos,if_neg,ht]
 rw[e]
 simp(disch:=first|omega|fail) only[push_cast,seval,ui5,lu7,y81,bj9,wrap64,dec_lt,cw6,nl3,qc6,mr8,nb8,if_pos,if_neg]
end
section
variable {K:Type} [FK K]
end
section
variable {q p m g:Int} [IsFld q] {t:Tree} {b b':Bool} {nl nl':Nat} {c:List (El q)} {top:El q}
end
end Go.Proofs.YtlhmdmedagjmnaaGreat
namespace Go.Proofs.YtlhmdmedagjmnaaGreat
open Go.Am Go.Vm Go.Alg
section
variable {q p m g:Int} {t:Tree} {b:Bool} {nl nr:Nat} {M:List (List Int)}
end
end Go.Proofs.YtlhmdmedagjmnaaGreat
namespace Go.Proofs.YtlhmdmedagjmnaaGreat
open Go.Am Go.Vm Go.Alg
section
variable {q n:Int} {nl nr:Nat} {M:List (List Int)}
end
end Go.Proofs.YtlhmdmedagjmnaaGreat
namespace Go.Proofs.YtlhmdmedagjmnaaGreat
open Go.Am Go.Vm Go.Alg
section
variable {q p m g:Int} [IsFld q] {t:Tree} {b b':Bool} {nl nl' nr n7 n8:Nat} {M:List (List (El q))} {A:List (Nat×List (El q))} {N:Nat}
theorem n97(u:RFo q p m g t)(hA: ∀a∈A,a.2.length=N∧a.1<N)(hAl:A.length≤1000)(hN:N≤900){c:Nat}(hc:c<N){T9:Tree}:
 ∀(n k:Nat) (x:List (El q)),k+n=A.length→x.length=N→ ∀ks,
  vgoL W ⟨h78,[.tmp 6],0⟩ [2,3,7,8,9,10,11,12] c78L0 (.blk 2 [2,3,7,8,9,10,11]::ks) [(2, .x (.int .i64 N)),(3, .own 0 []),(7, .own 1 []),(8, .own 2 []),(9, .own 3 []),(10, .x (.int .i64 c)),(11, .own 4 []),(12, .x (.int .i64 k))] [.pt 52 [.v (.int .i64 q), .v (.int .i64 p), .v (.int .i64 m), .v (.int .i64 g), .fz t], .sl n7 22 1 (lls 2 (pvR A)), .sl n8 3 1 (ivs (pvP A)),T9, .sl 0 3 1 (ivs (vs x))]=
   vgo W ⟨h78,[.tmp 6],0⟩ ks (VFr.of [(2, .x (.int .i64 N)),(3, .own 0 []),(7, .own 1 []),(8, .own 2 []),(9, .own 3 []),(10, .x (.int .i64 c)),(11, .own 4 [])]) [.pt 52 [.v (.int .i64 q), .v (.int .i64 p), .v (.int .i64 m), .v (.int .i64 g), .fz t], .sl n7 22 1 (lls 2 (pvR A)), .sl n8 3 1 (ivs (pvP A)),T9, .sl 0 3 1 (ivs (vs (setN c (A.drop k) x)))]
 |0,k,x,hk,hx,ks=>by
  have h1:=nu3 A
  rw[oh9 (by omega),setN,sb5 c78L0.eq_def]
  simp(disch:=first|omega|fail) only[push_cast,seval,ui5,lu7,y81,bj9,wrap64,dec_lt,cw6,nl3,qc6,mr8,nb8,if_pos,if_neg,h1]
 |n+1,k,x,hk,hx,ks=>by
  obtain⟨a,ha⟩:=ge6 (l:=A) (i:=k) (by omega)
  obtain⟨hal,hap⟩:=hA a (List.mem_of_getElem? ha)
  have ih:=n97 u hA hAl hN hc (T9:=T9) n (k+1) (x.set a.1 (-wf a.2 c)) (by omega) (by rw[List.length_set];exact hx) ks
  have h1:=nu3 A
  have h2:=ga8 A
  have h3:=x08 ha
  have h4:=bx6 ha
  have h5:=iva (l:=a.2) (i:=c) (by omega)
  have hs:=g52 x a.1 (-wf a.2 c)
  rw[tg5]at hs
  have ht:=u.n
  have ho:=u.o
  have vneg:=fun x:Int=>ik1 (q:=q) (x:=x)
  rw[u.e]at vneg
  rw[Int.natCast_add,Int.natCast_one]at ih
  rw[i62 ha,setN,←ih,sb5 c78L0.eq_def]
  simp(disch:=first|omega|fail) only[push_cast,seval,ui5,lu7,y81,bj9,wrap64,dec_lt,cw6,nl3,qc6,mr8,nb8,if_pos,if_neg,h1,h2,h3,h4,h5,vneg,ht,ho,hs]
theorem tc4{α:Type}(A:List (Nat×α))(c:Nat):((pvP A).any fun y=>decide (y=(c:Int)))=A.any fun a=>a.1==c:=by
 unfold pvP
 rw[List.any_map]
 congr 1
 funext a
 show decide ((a.1:Int)=(c:Int))=(a.1==c)
 by_cases h:a.1=c
 ·rw[h,decide_eq_true rfl];simp
 ·rw[decide_eq_false (by omega)];symm;simpa using h
theorem go5(u:RFo q p m g t)(hA: ∀a∈A,a.2.length=N∧a.1<N)(hAl:A.length≤1000)(hN:N≤900):
 ∀(d c:Nat) (L:List (List (El q))),c+d=N→L.length≤c→ ∀ks,
  vgoL W ⟨h78,[.tmp 6],0⟩ [2,3,7,8,9,10] c78L1 (.blk 0 [3,9]::ks) [(2, .x (.int .i64 N)),(3, .own 0 []),(7, .own 1 []),(8, .own 2 []),(9, .own 3 []),(10, .x (.int .i64 c))] [.pt 52 [.v (.int .i64 q), .v (.int .i64 p), .v (.int .i64 m), .v (.int .i64 g), .fz t], .sl n7 22 1 (lls 2 (pvR A)), .sl n8 3 1 (ivs (pvP A)), .sl 1 22 1 (lls 2 (L.map vs))]=
   vgo W ⟨h78,[.tmp 6],0⟩ ks (VFr.of [(3, .own 0 []),(9, .own 3 [])]) [.pt 52 [.v (.int .i64 q), .v (.int .i64 p), .v (.int .i64 m), .v (.int .i64 g), .fz t], .sl n7 22 1 (lls 2 (pvR A)), .sl n8 3 1 (ivs (pvP A)), .sl 1 22 1 (lls 2 ((L++ez9 N A d c).map vs))]
 |0,c,L,hc,hL,ks=>by
  rw[ez9,List.append_nil,sb5 c78L1.eq_def]
  simp(disch:=first|omega|fail) only[push_cast,seval,ui5,lu7,y81,bj9,wrap64,dec_lt,cw6,nl3,qc6,mr8,nb8,if_pos,if_neg]
 |d+1,c,L,hc,hL,ks=>by
  have IH:=go5 u hA hAl hN d (c+1)
  have h1:=nu3 A
  have h2:=ga8 A
  have e1:=fun b nl=>cr7 (b:=b) (nl:=nl) (l:=pvP A) (x:=(c:Int)) (by omega)
  rw[tc4]at e1
  rw[ez9]
  by_cases hin:(A.any fun a=>a.1==c)=true
  ·rw[if_pos hin]
   rw[hin]at e1
   have ih:=IH L (by omega) (by omega) ks
   rw[Int.natCast_add,Int.natCast_one]at ih
   rw[←ih,sb5 c78L1.eq_def]
   simp(disch:=first|omega|fail) only[push_cast,seval,ui5,lu7,y81,bj9,wrap64,dec_lt,cw6,nl3,qc6,mr8,nb8,if_pos,if_neg,e1]
  ·rw[if_neg hin]
   have hin':(A.any fun a=>a.1==c)=false:=Bool.eq_false_iff.mpr hin
   rw[hin']at e1
   have ih:=IH (L++[xRow N c A]) (by omega) (by simp;omega) ks
   rw[List.append_assoc,List.singleton_append,List.map_append,Int.natCast_add,Int.natCast_one]at ih
   have e:=fun T9 ks=>n97 (n7:=n7) (n8:=n8) (T9:=T9) u hA hAl hN (c:=c) (by omega) A.length 0 ((List.replicate N (0:El q)).set c 1) (by omega) (by simp) ks
   have hz:(List.replicate N (0:Int)).set c 1=vs ((List.replicate N (0:El q)).set c 1):=by rw[←g52,←qj2];rfl
   simp only[Int.natCast_zero,List.take_zero,List.drop_zero,rp2,lz6,x25,List.map_nil,List.length_nil]at e
   have hx:setN c A ((List.replicate N (0:El q)).set c 1)=xRow N c A:=rfl
   rw[hx]at e
   rw[←ih,sb5 c78L1.eq_def]
   simp(disch:=first|omega|fail) only[push_cast,seval,ui5,lu7,y81,bj9,wrap64,dec_lt,cw6,nl3,qc6,mr8,nb8,if_pos,if_neg,e1,hz]
   rw[e]
   simp(disch:=first|omega|fail) only[push_cast,seval,ui5,lu7,y81,bj9,wrap64,dec_lt,cw6,nl3,qc6,mr8,nb8,if_pos,if_neg]
theorem zi7(hMl: ∀r∈M,r.length=N)(hMn:M.length≤500)(hN:N≤500):
 o24 W 78 [.agg (rFs q), .fz b (.sl nl 0 1 (lvs nr (M.map vs))), .x (.int .i64 N)] []=some (.own 0 [],[.sl (nl0 (zt5 N M).length) 22 1 (lls 2 (pvR (zt5 N M)))],[]):=by
 obtain⟨p,m,g,t,u⟩:=k75 q
 have e1:=fun b nl nr=>di7 (b:=b) (nl:=nl) (nr:=nr) hMl hMn (by omega)
 obtain⟨r1,r2,r3⟩:=bi2 hMl
 have hAA: ∀a∈redR M,a.2.length=N∧a.1<N:=fun a ha=>⟨r2 a ha,r1.lt (a.1,wf a.2) (xe5.2 ⟨a,ha,rfl⟩)⟩
 have hAl:(redR M).length≤1000:=by
  have:=r1.len
  unfold toF at this
  rw[List.length_map]at this
  omega
 have e2:=fun n7 n8 ks=>go5 (n7:=n7) (n8:=n8) u hAA hAl (by omega) N 0 [] (by omega) (by simp) ks
 simp only[List.nil_append]at e2
 simp only[Int.natCast_zero,List.take_zero,List.drop_zero,rp2,lz6,x25,List.map_nil,List.length_nil]at e2
 have hnl:=to9 N (redR M) N 0
 have e3:=fun b nl nr=>di7 (b:=b) (nl:=nl) (nr:=nr) (sg4 N (redR M) N 0) (by omega) (by omega)
 rw[u.e]at e1 e3
 have ht:=u.n
 have ho:=u.o
 rw[o10 rfl T78 rfl,u.e]
 unfold F78 c78
 simp(disch:=first|omega|fail) only[push_cast,seval,ui5,lu7,y81,bj9,wrap64,dec_lt,cw6,nl3,qc6,mr8,nb8,if_pos,if_neg,ht,ho,e1]
 rw[e2]
 simp(disch:=first|omega|fail) only[push_cast,seval,ui5,lu7,y81,bj9,wrap64,dec_lt,cw6,nl3,qc6,mr8,nb8,if_pos,if_neg,ht,ho,e3]
 rfl
end
end Go.Proofs.YtlhmdmedagjmnaaGreat
namespace Go.Proofs.YtlhmdmedagjmnaaGreat
open Go.Am Go.Vm Go.Alg
section
variable {q:Int} {b:Bool} {nl nr n6 n7:Nat}
section
variable [IsFld q] {A:List (Nat×List (El q))} {N:Nat} {K:List (List Int)}
theorem up4(hA: ∀a∈A,a.2.length=N∧a.1<N)(hAl:A.length≤1000)(hN:N≤900){c:Nat}(hc:c<N){T9:Tree}:
 ∀(n k:Nat) (x:List (El q)),k+n=A.length→x.length=N→ ∀ks,
  vgoL W ⟨h80,[.tmp 4, .tmp 5],0⟩ [0,1,6,7,9,11,12,13,39,40,54,55,56] c80L0 (.blk 2 [0,1,6,7,9,11,13,39,40]::ks) [(0, .x (.int .i64 q)),(1, .fz b (.sl nl 0 1 (lvs nr K))),(6, .own 0 []),(7, .own 1 []),(9, .fz true (pF q)),(11, .own 2 []),(12, .x (.int .i64 c)),(13, .own 3 []),(39, .x (.int .i64 N)),(40, .x (.int .i64 c)),(54, .own 1 []),(55, .x (.int .i64 A.length)),(56, .x (.int .i64 k))] [.sl n6 22 1 (lls 2 (pvR A)), .sl n7 3 1 (ivs (pvP A)),T9, .sl 0 3 1 (ivs (vs x))]=
   vgo W ⟨h80,[.tmp 4, .tmp 5],0⟩ ks (VFr.of [(0, .x (.int .i64 q)),(1, .fz b (.sl nl 0 1 (lvs nr K))),(6, .own 0 []),(7, .own 1 []),(9, .fz true (pF q)),(11, .own 2 []),(13, .own 3 []),(39, .x (.int .i64 N)),(40, .x (.int .i64 c))]) [.sl n6 22 1 (lls 2 (pvR A)), .sl n7 3 1 (ivs (pvP A)),T9, .sl 0 3 1 (ivs (vs (setN c (A.drop k) x)))]
 |0,k,x,hk,hx,ks=>by
  have h1:=nu3 A
  rw[oh9 (by omega),setN,sb5 c80L0.eq_def]
  simp(disch:=first|omega|fail) only[push_cast,seval,ui5,lu7,y81,bj9,wrap64,dec_lt,cw6,nl3,qc6,mr8,nb8,if_pos,if_neg,h1]
 |n+1,k,x,hk,hx,ks=>by
  obtain⟨a,ha⟩:=ge6 (l:=A) (i:=k) (by omega)
  obtain⟨hal,hap⟩:=hA a (List.mem_of_getElem? ha)
  have ih:=up4 hA hAl hN hc (T9:=T9) n (k+1) (x.set a.1 (-wf a.2 c)) (by omega) (by rw[List.length_set];exact hx) ks
  have h1:=nu3 A
  have h2:=ga8 A
  have h3:=x08 ha
  have h4:=bx6 ha
  have h5:=iva (l:=a.2) (i:=c) (by omega)
  have hs:=g52 x a.1 (-wf a.2 c)
  rw[tg5]at hs
  rw[Int.natCast_add,Int.natCast_one]at ih
  rw[i62 ha,setN,←ih,sb5 c80L0.eq_def]
  simp(disch:=first|omega|fail) only[push_cast,seval,ui5,lu7,y81,bj9,wrap64,dec_lt,cw6,nl3,qc6,mr8,nb8,if_pos,if_neg,h1,h2,h3,h4,h5,hs]
theorem lu0{α:Type}(A:List (Nat×α))(c:Nat):((pvP A).any fun y=>decide ((c:Int)=y))=A.any fun a=>a.1==c:=by
 rw[←tc4]
 congr 1
 funext y
 exact decide_eq_decide.2 eq_comm
theorem xl7(hA: ∀a∈A,a.2.length=N∧a.1<N)(hAl:A.length≤1000)(hN:N≤900)(hK:0<K.length)(hK0:(nth K 0).length=N):
 ∀(d c:Nat) (L:List (List (El q))),c+d=N→L.length≤c→ ∀ks,
  vgoL W ⟨h80,[.tmp 4, .tmp 5],0⟩ [0,1,6,7,9,11,39,40] c80L1 (.blk 0 [0,11]::ks) [(0, .x (.int .i64 q)),(1, .fz b (.sl nl 0 1 (lvs nr K))),(6, .own 0 []),(7, .own 1 []),(9, .fz true (pF q)),(11, .own 2 []),(39, .x (.int .i64 N)),(40, .x (.int .i64 c))] [.sl n6 22 1 (lls 2 (pvR A)), .sl n7 3 1 (ivs (pvP A)), .sl 1 22 1 (lls 2 (L.map vs))]=
   vgo W ⟨h80,[.tmp 4, .tmp 5],0⟩ ks (VFr.of [(0, .x (.int .i64 q)),(11, .own 2 [])]) [.sl n6 22 1 (lls 2 (pvR A)), .sl n7 3 1 (ivs (pvP A)), .sl 1 22 1 (lls 2 ((L++ez9 N A d c).map vs))]
 |0,c,L,hc,hL,ks=>by
  rw[ez9,List.append_nil,sb5 c80L1.eq_def]
  simp(disch:=first|omega|fail) only[push_cast,seval,ui5,lu7,y81,bj9,wrap64,dec_lt,cw6,nl3,qc6,mr8,nb8,if_pos,if_neg]
 |d+1,c,L,hc,hL,ks=>by
  have IH:=xl7 hA hAl hN hK hK0 d (c+1)
  have h1:=nu3 A
  have h2:=ga8 A
  have e1:=fun b nl=>o94 (b:=b) (nl:=nl) (l:=pvP A) (x:=(c:Int)) (by omega)
  rw[lu0]at e1
  rw[ez9]
  by_cases hin:(A.any fun a=>a.1==c)=true
  ·rw[if_pos hin]
   rw[hin]at e1
   have ih:=IH L (by omega) (by omega) ks
   rw[Int.natCast_add,Int.natCast_one]at ih
   rw[←ih,sb5 c80L1.eq_def]
   simp(disch:=first|omega|fail) only[push_cast,seval,ui5,lu7,y81,bj9,wrap64,dec_lt,cw6,nl3,qc6,mr8,nb8,if_pos,if_neg,e1]
  ·rw[if_neg hin]
   have hin':(A.any fun a=>a.1==c)=false:=Bool.eq_false_iff.mpr hin
   rw[hin']at e1
   have ih:=IH (L++[xRow N c A]) (by omega) (by simp;omega) ks
   rw[List.append_assoc,List.singleton_append,List.map_append,Int.natCast_add,Int.natCast_one]at ih
   obtain⟨k0,hk0⟩:=ge6 (l:=K) (i:=0) hK
   have h3:=lat (nl:=nr) hk0
   have h4:=xr8 hk0
   rw[h4]at hK0
   have e:=fun T9 ks=>up4 (K:=K) (b:=b) (nl:=nl) (nr:=nr) (n6:=n6) (n7:=n7) (T9:=T9) hA hAl hN (c:=c) (by omega) A.length 0 ((List.replicate N (0:El q)).set c 1) (by omega) (by simp) ks
   have hz:(List.replicate N (0:Int)).set c 1=vs ((List.replicate N (0:El q)).set c 1):=by rw[←g52,←qj2];rfl
   simp only[Int.natCast_zero,List.take_zero,List.drop_zero,rp2,lz6,x25,List.map_nil,List.length_nil]at e
   have hx:setN c A ((List.replicate N (0:El q)).set c 1)=xRow N c A:=rfl
   rw[hx]at e
   rw[←ih,sb5 c80L1.eq_def]
   simp(disch:=first|omega|fail) only[push_cast,seval,ui5,lu7,y81,bj9,wrap64,dec_lt,cw6,nl3,qc6,mr8,nb8,if_pos,if_neg,e1,h2,h3,hK0,hz]
   rw[e]
   simp(disch:=first|omega|fail) only[push_cast,seval,ui5,lu7,y81,bj9,wrap64,dec_lt,cw6,nl3,qc6,mr8,nb8,if_pos,if_neg]
end
theorem ss9 [IsFld q]{N:List (List (El q))}{n:Nat}(h0:0<N.length)(hl:N.length≤64)(hr: ∀r∈N,r.length=n)(hn0:0<n)(hn:n≤64):
 o24 W 80 [.x (.int .i64 q), .fz b (.sl nl 0 1 (lvs nr (N.map vs)))] []=some (.tup [.own 0 [], .x (.int .i64 0)],[.sl (if ez9 n (redR N) n 0=[]then 1 else 0) 22 1 (lls 2 (pvR (zt5 n N)))],[]):=by
 have e1:=fun b nl nr=>lq3 (b:=b) (nl:=nl) (nr:=nr) h0 hl hr hn0 hn
 obtain⟨r1,r2,r3⟩:=bi2 hr
 have hAA: ∀a∈redR N,a.2.length=n∧a.1<n:=fun a ha=>⟨r2 a ha,r1.lt (a.1,wf a.2) (xe5.2 ⟨a,ha,rfl⟩)⟩
 have hAl:(redR N).length≤1000:=by have:=ew4 hr;omega
 obtain⟨k0,hk0⟩:=ge6 (l:=N) (i:=0) h0
 have h3:=mva (nl:=nr) hk0
 have hk0l:=hr k0 (List.mem_of_getElem? hk0)
 have e2:=fun n6 n7 ks=>xl7 (K:=N.map vs) (b:=b) (nl:=nl) (nr:=nr) (n6:=n6) (n7:=n7) hAA hAl (by omega) (by rw[List.length_map];exact h0) (by rw[kn4,xr8 hk0];exact hk0l) n 0 [] (by omega) (by simp) ks
 simp only[List.nil_append]at e2
 simp only[Int.natCast_zero,List.take_zero,List.drop_zero,rp2,lz6,x25,List.map_nil,List.length_nil]at e2
 have hnl:=to9 n (redR N) n 0
 rw[o10 rfl T80 rfl]
 unfold F80 c80
 simp(disch:=first|omega|fail) only[push_cast,seval,ui5,lu7,y81,bj9,wrap64,dec_lt,cw6,nl3,qc6,mr8,nb8,if_pos,if_neg,e1,h3,hk0l]
 rw[e2]
 by_cases hT:ez9 n (redR N) n 0=[]
 ·have e3:=fun b nl=>e58 (q:=q) (b:=b) (nl:=nl) (by have:=sy6 (q:=q) (N:=[]) (n:=n) (by simp) (by simp) hn0 hn;exact this)
  have h0:zt5 n N=[]:=by unfold zt5;rw[hT];rfl
  rw[if_pos hT,hT,h0,List.map_nil,x25]
  simp(disch:=first|omega|fail) only[push_cast,seval,ui5,lu7,y81,bj9,wrap64,dec_lt,cw6,nl3,qc6,mr8,nb8,if_pos,if_neg,e3]
  rfl
 ·have hT0:0<(ez9 n (redR N) n 0).length:=List.length_pos_iff.2 hT
  have e3:=fun b nl nr=>lq3 (b:=b) (nl:=nl) (nr:=nr) hT0 (by omega) (sg4 n (redR N) n 0) hn0 hn
  rw[if_neg hT]
  simp(disch:=first|omega|fail) only[push_cast,seval,ui5,lu7,y81,bj9,wrap64,dec_lt,cw6,nl3,qc6,mr8,nb8,if_pos,if_neg,e3]
  rfl
end
end Go.Proofs.YtlhmdmedagjmnaaGreat
namespace Go.Proofs.YtlhmdmedagjmnaaGreat
open Go.Am Go.Vm Go.Alg
section
variable {q n:Int} {nl nr:Nat} {M:List (List Int)}
end
section
variable {q:Int} [IsFld q] {k nl nr:Nat} {N:List (List (El q))}
end
end Go.Proofs.YtlhmdmedagjmnaaGreat
namespace Go.Proofs.YtlhmdmedagjmnaaGreat
open Go.Am Go.Vm Go.Alg
section
variable {b b':Bool} {nl nl' nr nr':Nat}
theorem ft0{l k:List Int}(hl:l.length≤9223372036854775807)(hk:k.length=l.length): ∀(d i:Nat),i+d=l.length→ ∀ks,
 vgoL W ⟨hNo,[.tmp 4],0⟩ [0,1,5] c16L0 (.blk 0 []::ks) [(0, .fz b (.sl nl 0 1 (ivs l))),(1, .fz b' (.sl nl' 0 1 (ivs k))),(5, .x (.int .i64 i))] []=
  if l.drop i=k.drop i then vgo W ⟨hNo,[.tmp 4],0⟩ ks (VFr.of []) []else some (.x (.bool false),[],[])
 |0,i,hi,ks=>by
  rw[oh9 (by omega),oh9 (by omega),if_pos rfl,sb5 c16L0.eq_def]
  simp(disch:=first|omega|fail) only[push_cast,seval,ui5,lu7,y81,bj9,wrap64,dec_lt,cw6,nl3,qc6,mr8,nb8,if_pos,if_neg]
 |d+1,i,hi,ks=>by
  have ih:=ft0 hl hk d (i+1) (by omega) ks
  obtain⟨a,ha⟩:=ge6 (l:=l) (i:=i) (by omega)
  obtain⟨c,hc⟩:=ge6 (l:=k) (i:=i) (by omega)
  have h1:=iat ha
  have h2:=iat hc
  rw[i62 ha,i62 hc]
  rw[Int.natCast_add,Int.natCast_one]at ih
  by_cases h:a=c
  ·have hiff:(a::l.drop (i+1)=c::k.drop (i+1))=(l.drop (i+1)=k.drop (i+1)):=by rw[h];simp
   simp only[hiff]
   rw[←ih,sb5 c16L0.eq_def]
   simp(disch:=first|omega|fail) only[push_cast,seval,ui5,lu7,y81,bj9,wrap64,dec_lt,cw6,nl3,qc6,mr8,nb8,if_pos,if_neg,h1,h2,h]
  ·rw[if_neg (by intro e;exact h (List.cons.inj e).1),sb5 c16L0.eq_def]
   simp(disch:=first|omega|fail) only[push_cast,seval,ui5,lu7,y81,bj9,wrap64,dec_lt,cw6,nl3,qc6,mr8,nb8,if_pos,if_neg,h1,h2,nb8 h]
theorem nb2{l k:List Int}(hl:l.length≤9223372036854775807):o24 W 16 [.fz b (.sl nl 0 1 (ivs l)), .fz b' (.sl nl' 0 1 (ivs k))] []=some (.x (.bool (decide (l=k))),[],[]):=by
 by_cases hk:k.length=l.length
 ·have e:=fun ks=>ft0 (b:=b) (b':=b') (nl:=nl) (nl':=nl') hl hk l.length 0 (by omega) ks
  simp only[Int.natCast_zero,List.take_zero,List.drop_zero,rp2,lz6,x25,List.map_nil,List.length_nil]at e
  rw[o10 rfl T16 rfl]
  unfold F16 c16
  simp(disch:=first|omega|fail) only[push_cast,seval,ui5,lu7,y81,bj9,wrap64,dec_lt,cw6,nl3,qc6,mr8,nb8,if_pos,if_neg,hk]
  rw[e]
  by_cases h:l=k
  ·rw[if_pos h,decide_eq_true h]
   simp(disch:=first|omega|fail) only[push_cast,seval,ui5,lu7,y81,bj9,wrap64,dec_lt,cw6,nl3,qc6,mr8,nb8,if_pos,if_neg]
  ·rw[if_neg h,decide_eq_false h]
 ·have h: ¬l=k:=fun e=>hk (by rw[e])
  have h8: ¬(l.length:Int)=(k.length:Int):=by omega
  rw[decide_eq_false h,o10 rfl T16 rfl]
  unfold F16 c16
  simp(disch:=first|omega|fail) only[push_cast,seval,ui5,lu7,y81,bj9,wrap64,dec_lt,cw6,nl3,qc6,mr8,nb8,if_pos,if_neg,nb8 h8]
theorem h41{l k:List (List Int)}(hl:l.length≤9223372036854775807)(he: ∀r∈l,r.length≤9223372036854775807)(hk:k.length=l.length)(hx:116=116): ∀(d i:Nat),i+d=l.length→ ∀ks,
 vgoL W ⟨hNo,[.tmp 4],0⟩ [0,1,5] c116L0 (.blk 0 []::ks) [(0, .fz b (.sl nl 0 1 (lvs nr l))),(1, .fz b' (.sl nl' 0 1 (lvs nr' k))),(5, .x (.int .i64 i))] []=
  if l.drop i=k.drop i then vgo W ⟨hNo,[.tmp 4],0⟩ ks (VFr.of []) []else some (.x (.bool false),[],[])
 |0,i,hi,ks=>by
  rw[oh9 (by omega),oh9 (by omega),if_pos rfl,sb5 c116L0.eq_def]
  simp(disch:=first|omega|fail) only[push_cast,seval,ui5,lu7,y81,bj9,wrap64,dec_lt,cw6,nl3,qc6,mr8,nb8,if_pos,if_neg]
 |d+1,i,hi,ks=>by
  have ih:=h41 hl he hk hx d (i+1) (by omega) ks
  obtain⟨a,ha⟩:=ge6 (l:=l) (i:=i) (by omega)
  obtain⟨c,hc⟩:=ge6 (l:=k) (i:=i) (by omega)
  have h1:=lat (nl:=nr) ha
  have h2:=lat (nl:=nr') hc
  have e:=fun b b' nl nl'=>nb2 (b:=b) (b':=b') (nl:=nl) (nl':=nl') (l:=a) (k:=c) (he a (List.mem_of_getElem? ha))
  rw[i62 ha,i62 hc]
  rw[Int.natCast_add,Int.natCast_one]at ih
  by_cases h:a=c
  ·have hiff:(a::l.drop (i+1)=c::k.drop (i+1))=(l.drop (i+1)=k.drop (i+1)):=by rw[h];simp
   simp only[decide_eq_true h]at e
   simp only[hiff]
   rw[←ih,sb5 c116L0.eq_def]
   simp(disch:=first|omega|fail) only[push_cast,seval,ui5,lu7,y81,bj9,wrap64,dec_lt,cw6,nl3,qc6,mr8,nb8,if_pos,if_neg,h1,h2,e]
  ·simp only[decide_eq_false h]at e
   rw[if_neg (by intro e;exact h (List.cons.inj e).1),sb5 c116L0.eq_def]
   simp(disch:=first|omega|fail) only[push_cast,seval,ui5,lu7,y81,bj9,wrap64,dec_lt,cw6,nl3,qc6,mr8,nb8,if_pos,if_neg,h1,h2,e]
theorem us3{l k:List (List Int)}(hl:l.length≤9223372036854775807)(he: ∀r∈l,r.length≤9223372036854775807):o24 W 116 [.fz b (.sl nl 0 1 (lvs nr l)), .fz b' (.sl nl' 0 1 (lvs nr' k))] []=some (.x (.bool (decide (l=k))),[],[]):=by
 by_cases hk:k.length=l.length
 ·have e:=fun ks=>h41 (b:=b) (b':=b') (nl:=nl) (nl':=nl') (nr:=nr) (nr':=nr') hl he hk rfl l.length 0 (by omega) ks
  simp only[Int.natCast_zero,List.take_zero,List.drop_zero,rp2,lz6,x25,List.map_nil,List.length_nil]at e
  rw[o10 rfl T116 rfl]
  unfold F116 c116
  simp(disch:=first|omega|fail) only[push_cast,seval,ui5,lu7,y81,bj9,wrap64,dec_lt,cw6,nl3,qc6,mr8,nb8,if_pos,if_neg,hk]
  rw[e]
  by_cases h:l=k
  ·rw[if_pos h,decide_eq_true h]
   simp(disch:=first|omega|fail) only[push_cast,seval,ui5,lu7,y81,bj9,wrap64,dec_lt,cw6,nl3,qc6,mr8,nb8,if_pos,if_neg]
  ·rw[if_neg h,decide_eq_false h]
 ·have h: ¬l=k:=fun e=>hk (by rw[e])
  have h8: ¬(l.length:Int)=(k.length:Int):=by omega
  rw[decide_eq_false h,o10 rfl T116 rfl]
  unfold F116 c116
  simp(disch:=first|omega|fail) only[push_cast,seval,ui5,lu7,y81,bj9,wrap64,dec_lt,cw6,nl3,qc6,mr8,nb8,if_pos,if_neg,nb8 h8]
theorem dy0{l k:List (List Int)}{e f:Int}(hl:l.length≤9223372036854775807)(he: ∀r∈l,r.length≤9223372036854775807):o24 W 53 [.fz b (.sl nl 0 1 (lvs nr l)), .x (.int .i64 e), .fz b' (.sl nl' 0 1 (lvs nr' k)), .x (.int .i64 f)] []=some (.x (.bool (if f=0 then decide (e=0)&&decide (l=k)else decide (e=f)&&decide (l.length=0))),[],[]):=by
 have h1:=fun b b' nl nl' nr nr'=>us3 (b:=b) (b':=b') (nl:=nl) (nl':=nl') (nr:=nr) (nr':=nr') (k:=k) hl he
 by_cases hf:f=0
 ·rw[if_pos hf]
  by_cases h0:e=0
  ·rw[decide_eq_true h0,Bool.true_and,o10 rfl T53 rfl]
   unfold F53 c53
   simp(disch:=first|omega|fail) only[push_cast,seval,ui5,lu7,y81,bj9,wrap64,dec_lt,cw6,nl3,qc6,mr8,nb8,if_pos,if_neg,hf,h0,h1]
  ·rw[decide_eq_false h0,Bool.false_and,o10 rfl T53 rfl]
   unfold F53 c53
   simp(disch:=first|omega|fail) only[push_cast,seval,ui5,lu7,y81,bj9,wrap64,dec_lt,cw6,nl3,qc6,mr8,nb8,if_pos,if_neg,hf,nb8 h0]
 ·rw[if_neg hf]
  by_cases h0:e=f
  ·subst h0
   have h8:((l.length:Int)=0)=(l.length=0):=by simp only[eq_iff_iff];omega
   rw[decide_eq_true rfl,Bool.true_and,o10 rfl T53 rfl]
   unfold F53 c53
   by_cases hz:l.length=0
   ·rw[decide_eq_true hz]
    simp(disch:=first|omega|fail) only[push_cast,seval,ui5,lu7,y81,bj9,wrap64,dec_lt,cw6,nl3,qc6,mr8,nb8,if_pos,if_neg,nb8 hf,hz]
   ·rw[decide_eq_false hz]
    simp(disch:=first|omega|fail) only[push_cast,seval,ui5,lu7,y81,bj9,wrap64,dec_lt,cw6,nl3,qc6,mr8,nb8,if_pos,if_neg,nb8 hf]
  ·rw[decide_eq_false h0,Bool.false_and,o10 rfl T53 rfl]
   unfold F53 c53
   simp(disch:=first|omega|fail) only[push_cast,seval,ui5,lu7,y81,bj9,wrap64,dec_lt,cw6,nl3,qc6,mr8,nb8,if_pos,if_neg,nb8 hf,nb8 h0]
section
variable {q:Int} [IsFld q]
end
end
end Go.Proofs.YtlhmdmedagjmnaaGreat
namespace Go.Proofs.YtlhmdmedagjmnaaGreat
open Go.Am Go.Vm Go.Alg
section
variable {q n q' n' e:Int} {nl nr nl' nr':Nat} {M M':List (List Int)}
end
section
variable {q:Int} [IsFld q] {k nl nr nl2:Nat} {b:Bool} {N:List (List (El q))} {M:List (List Int)} {w:List Int}
end
end Go.Proofs.YtlhmdmedagjmnaaGreat
namespace Go.Proofs.YtlhmdmedagjmnaaGreat
open Go.Am Go.Vm Go.Alg
section
variable {k:FuncId} {p:Int→Bool} {l:List Int} {nl:Nat}
end
section
variable {q:Int} [IsFld q] {k nl nr nl2:Nat} {b:Bool} {N:List (List (El q))}
end
def fewQ(q:Int):Nat→Int→Bool
 |0,_=>true
 |d+1,n=>if 4096<n*q then false else fewQ q d (n*q)
theorem ev9{q:Int}(h1:0≤q)(h2:q≤64){k:Nat}(hk:k≤1000): ∀(d i:Nat) (n:Int),i+d=k→0≤n→n≤4096→ ∀ks,
 vgoL W ⟨hNo,[.tmp 4],0⟩ [0,1,5,6] c128L0 (.blk 0 []::ks) [(0, .x (.int .i64 q)),(1, .x (.int .i64 k)),(5, .x (.int .i64 n)),(6, .x (.int .i64 i))] []=if fewQ q d n=true then vgo W ⟨hNo,[.tmp 4],0⟩ ks (VFr.of []) []else some (.x (.bool false),[],[])
 |0,i,n,hi,hn,hn2,ks=>by
  rw[fewQ,if_pos rfl,sb5 c128L0.eq_def]
  simp(disch:=first|omega|fail) only[push_cast,seval,ui5,lu7,y81,bj9,wrap64,dec_lt,cw6,nl3,qc6,mr8,nb8,if_pos,if_neg]
 |d+1,i,n,hi,hn,hn2,ks=>by
  have hb0:0≤n*q:=Int.mul_nonneg hn h1
  have hb1:n*q≤4096*64:=Int.mul_le_mul hn2 h2 h1 (by decide)
  have hb2:n*q≤262144:=by omega
  rw[fewQ]
  by_cases h:4096<n*q
  ·rw[if_pos h,if_neg (by decide),sb5 c128L0.eq_def]
   simp(disch:=first|omega|fail) only[push_cast,seval,ui5,lu7,y81,bj9,wrap64,dec_lt,cw6,nl3,qc6,mr8,nb8,if_pos,if_neg,dec_lt h]
  ·have ih:=ev9 h1 h2 hk d (i+1) (n*q) (by omega) hb0 (by omega) ks
   rw[Int.natCast_add,Int.natCast_one]at ih
   rw[if_neg h,←ih,sb5 c128L0.eq_def]
   simp(disch:=first|omega|fail) only[push_cast,seval,ui5,lu7,y81,bj9,wrap64,dec_lt,cw6,nl3,qc6,mr8,nb8,if_pos,if_neg,cw6 (Int.not_lt.1 h)]
theorem os1{q:Int}(h1:0≤q)(h2:q≤64){k:Nat}(hk:k≤1000):o24 W 128 [.x (.int .i64 q), .x (.int .i64 k)] []=some (.x (.bool (fewQ q k 1)),[],[]):=by
 have e:=fun ks=>ev9 h1 h2 hk k 0 1 (by omega) (by decide) (by decide) ks
 simp only[Int.natCast_zero,List.take_zero,List.drop_zero,rp2,lz6,x25,List.map_nil,List.length_nil]at e
 rw[o10 rfl T128 rfl]
 unfold F128 c128
 simp(disch:=first|omega|fail) only[push_cast,seval,ui5,lu7,y81,bj9,wrap64,dec_lt,cw6,nl3,qc6,mr8,nb8,if_pos,if_neg]
 rw[e]
 cases hz:fewQ q k 1 with
 |true=>
  rw[if_pos rfl]
  simp(disch:=first|omega|fail) only[push_cast,seval,ui5,lu7,y81,bj9,wrap64,dec_lt,cw6,nl3,qc6,mr8,nb8,if_pos,if_neg]
 |false=>rw[if_neg (by decide)]
end Go.Proofs.YtlhmdmedagjmnaaGreat
namespace Go.Proofs.YtlhmdmedagjmnaaGreat
open Go.Am Go.Vm Go.Alg
theorem qe6{p s:List Int}{a:Int}{i:Nat}(hi:p.length=i):(ivs (p++a::s))[i]? =some (.v (.int .i64 a)):=iat (by subst hi;simp)
section
variable {q:Int} {nl:Nat}
theorem e51(hq:q≤1000000): ∀(i:Nat) (p s s':List Int),p.length=i→(p++s).length≤1000000→(∀a∈p,0≤a∧a<q)→qr3 q s=(s',false)→ ∀ks,
 vgoL W ⟨hNo,[.tmp 4],1⟩ [0,1,5] c137L0 (.blk 0 []::ks) [(0, .own 0 []),(1, .x (.int .i64 q)),(5, .x (.int .i64 ((i:Int)-1)))] [.sl nl 3 1 (ivs (p++s'))]=
  if(qr3 q (p++s)).2=true then some (.x (.bool true),[],[.sl nl 3 1 (ivs (qr3 q (p++s)).1)])else vgo W ⟨hNo,[.tmp 4],1⟩ ks (VFr.of []) [.sl nl 3 1 (ivs (qr3 q (p++s)).1)]
 |0,p,s,s',hi,hn,hd,hs,ks=>by
  obtain rfl:p=[]:=List.eq_nil_of_length_eq_zero hi
  rw[List.nil_append,List.nil_append,hs,if_neg Bool.false_ne_true,sb5 c137L0.eq_def]
  simp(disch:=first|omega|fail) only[push_cast,seval,ui5,lu7,y81,bj9,wrap64,dec_lt,cw6,nl3,qc6,mr8,nb8,if_pos,if_neg]
 |i+1,p,s,s',hi,hn,hd,hs,ks=>by
  obtain⟨p',a,rfl⟩: ∃p' a,p=p'++[a]:=⟨p.dropLast,p.getLast (by intro h;subst h;simp at hi),(List.dropLast_concat_getLast _).symm⟩
  have hp'l:p'.length=i:=by simpa using hi
  have ha:=hd a (by simp)
  rw[List.append_assoc,List.singleton_append]at hn⊢
  rw[List.append_assoc,List.singleton_append]
  have hsl:s'.length=s.length:=by have:=pd1 q s;rw[hs]at this;exact this
  have hlen:(p'++a::s').length≤1000000:=by simp[hsl]at hn⊢;omega
  have hi2:i<(p'++a::s').length:=by simp;omega
  have l1:=qe6 (s:=s') (a:=a) hp'l
  have l2:=qe6 (s:=s') (a:=a+1) hp'l
  have t1:=ri5 (s:=s') (a:=a) (b:=a+1) hp'l
  have t2:=ri5 (s:=s') (a:=a+1) (b:=0) hp'l
  have e2:(p'++(a+1)::s').length=(p'++a::s').length:=by simp
  have e3:(p'++0::s').length=(p'++a::s').length:=by simp
  have hw:((i+1:Nat):Int)-1=(i:Int):=by omega
  rw[hw]
  by_cases hlt:a+1<q
  ·have hnx:qr3 q (a::s)=((a+1)::s',true):=by rw[qr3,hs];simp only;rw[if_pos hlt]
   rw[vq6 hnx p',if_pos rfl,sb5 c137L0.eq_def]
   simp(disch:=first|omega|fail) only[push_cast,seval,ui5,lu7,y81,bj9,wrap64,dec_lt,cw6,nl3,qc6,mr8,nb8,if_pos,if_neg,l1,l2,t1,e2,dec_lt hlt]
  ·have hnx:qr3 q (a::s)=(0::s',false):=by rw[qr3,hs];simp only;rw[if_neg hlt]
   have ih:=e51 hq i p' (a::s) (0::s') hp'l hn (fun c hc=>hd c (by simp[hc])) hnx ks
   rw[←ih,sb5 c137L0.eq_def]
   simp(disch:=first|omega|fail) only[push_cast,seval,ui5,lu7,y81,bj9,wrap64,dec_lt,cw6,nl3,qc6,mr8,nb8,if_pos,if_neg,l1,l2,t1,t2,e2,e3,cw6 (Int.not_lt.1 hlt)]
theorem ll0{z:List Int}(hq:q≤1000000)(hz:z.length≤1000000)(hd:digS q z):
 o24 W 137 [.own 0 [], .x (.int .i64 q)] [.sl nl 3 1 (ivs z)]=some (.x (.bool (qr3 q z).2),[],[.sl nl 3 1 (ivs (qr3 q z).1)]):=by
 have e:=fun ks=>e51 (nl:=nl) hq z.length z [] [] rfl (by simpa using hz) hd rfl ks
 simp only[List.append_nil]at e
 rw[o10 rfl T137 rfl]
 unfold F137 c137
 simp(disch:=first|omega|fail) only[push_cast,seval,ui5,lu7,y81,bj9,wrap64,dec_lt,cw6,nl3,qc6,mr8,nb8,if_pos,if_neg]
 rw[e]
 cases (qr3 q z).2 with
 |true=>rw[if_pos rfl]
 |false=>
  rw[if_neg Bool.false_ne_true]
  simp(disch:=first|omega|fail) only[push_cast,seval,ui5,lu7,y81,bj9,wrap64,dec_lt,cw6,nl3,qc6,mr8,nb8,if_pos,if_neg]
end
section
variable {q:Int}
theorem rr1(h1:0≤q)(h2:q≤64){K:Nat}(hK:K≤1000): ∀(d i:Nat) (n:Int),i+d=K→0≤n→n≤4096→ ∀ks,
 vgoL W ⟨hNo,[.tmp 4],0⟩ [0,5,6,7] c187L0 (.blk 0 []::ks) [(0, .x (.int .i64 q)),(5, .x (.int .i64 n)),(6, .x (.int .i64 K)),(7, .x (.int .i64 i))] []=if fewQ q d n=true then vgo W ⟨hNo,[.tmp 4],0⟩ ks (VFr.of []) []else some (.x (.bool false),[],[])
 |0,i,n,hi,h0,hn,ks=>by
  rw[fewQ,if_pos rfl,sb5 c187L0.eq_def]
  simp(disch:=first|omega|fail) only[push_cast,seval,ui5,lu7,y81,bj9,wrap64,dec_lt,cw6,nl3,qc6,mr8,nb8,if_pos,if_neg]
 |d+1,i,n,hi,hn,hn2,ks=>by
  have hb0:0≤n*q:=Int.mul_nonneg hn h1
  have hb1:n*q≤4096*64:=Int.mul_le_mul hn2 h2 h1 (by decide)
  have hb2:n*q≤262144:=by omega
  rw[fewQ]
  by_cases h:4096<n*q
  ·rw[if_pos h,if_neg (by decide),sb5 c187L0.eq_def]
   simp(disch:=first|omega|fail) only[push_cast,seval,ui5,lu7,y81,bj9,wrap64,dec_lt,cw6,nl3,qc6,mr8,nb8,if_pos,if_neg,dec_lt h]
  ·have ih:=rr1 h1 h2 hK d (i+1) (n*q) (by omega) hb0 (by omega) ks
   rw[Int.natCast_add,Int.natCast_one]at ih
   rw[if_neg h,←ih,sb5 c187L0.eq_def]
   simp(disch:=first|omega|fail) only[push_cast,seval,ui5,lu7,y81,bj9,wrap64,dec_lt,cw6,nl3,qc6,mr8,nb8,if_pos,if_neg,cw6 (Int.not_lt.1 h)]
theorem ln0(h1:0≤q)(h2:q≤64){k:Nat}(hk:k≤1000):o24 W 187 [.x (.int .i64 q), .x (.int .i64 k)] []=some (.x (.bool (fewQ q k 1)),[],[]):=by
 have e:=fun ks=>rr1 h1 h2 hk k 0 1 (by omega) (by decide) (by decide) ks
 simp only[Int.natCast_zero,List.take_zero,List.drop_zero,rp2,lz6,x25,List.map_nil,List.length_nil]at e
 rw[o10 rfl T187 rfl]
 unfold F187 c187
 simp(disch:=first|omega|fail) only[push_cast,seval,ui5,lu7,y81,bj9,wrap64,dec_lt,cw6,nl3,qc6,mr8,nb8,if_pos,if_neg]
 rw[e]
 cases hz:fewQ q k 1 with
 |true=>
  rw[if_pos rfl]
  simp(disch:=first|omega|fail) only[push_cast,seval,ui5,lu7,y81,bj9,wrap64,dec_lt,cw6,nl3,qc6,mr8,nb8,if_pos,if_neg]
 |false=>rw[if_neg (by decide)]
def ky7(q:Int)(xs:List Int)(k:Int)(w:List Int):Int:=if wrdE q xs k w=0 then(if(w.any fun y=>decide (y= -1))=true then 2 else 0)else wrdE q xs k w
variable {b b':Bool} {nl nl':Nat} {xs w:List Int} {k:Int}
theorem xb3(h:wrdE q xs k w=0):w.length≤64:=by
 unfold wrdE at h
 split at h
 ·rename_i h1
  obtain⟨_,X,rfl,_,_,hX,_,_⟩:=z24 h1
  split at h
  ·cases h
  ·rename_i h2;rw[fi2]at h2;omega
 ·exact absurd h ‹_›
theorem di2(hx:xs.length≤9223372036854775807)(hw:w.length≤9223372036854775807):
 o24 W 186 [.x (.int .i64 q), .fz b (.sl nl 0 1 (ivs xs)), .x (.int .i64 k), .fz b' (.sl nl' 0 1 (ivs w))] []=some (.x (.int .i64 (ky7 q xs k w)),[],[]):=by
 have e1:=fun b nl b' nl'=>hd9 (q:=q) (b:=b) (nl:=nl) (b':=b') (nl':=nl') (k:=k) hx hw
 rw[o10 rfl T186 rfl]
 unfold F186 c186 ky7
 by_cases h:wrdE q xs k w=0
 ·have hs:=xb3 h
  have e2:=fun b nl=>o94 (b:=b) (nl:=nl) (x:= -1) (l:=w) (by omega)
  rw[←z44]at e2
  rw[if_pos h]
  cases hc:(w.any fun y=>decide (y= -1))with
  |true=>
   rw[hc]at e2
   rw[if_pos rfl]
   simp(disch:=first|omega|fail) only[push_cast,seval,ui5,lu7,y81,bj9,wrap64,dec_lt,cw6,nl3,qc6,mr8,nb8,if_pos,if_neg,e1,h,e2]
  |false=>
   rw[hc]at e2
   rw[if_neg (by decide)]
   simp(disch:=first|omega|fail) only[push_cast,seval,ui5,lu7,y81,bj9,wrap64,dec_lt,cw6,nl3,qc6,mr8,nb8,if_pos,if_neg,e1,h,e2]
 ·rw[if_neg h]
  simp(disch:=first|omega|fail) only[push_cast,seval,ui5,lu7,y81,bj9,wrap64,dec_lt,cw6,nl3,qc6,mr8,nb8,if_pos,if_neg,e1,nb8 h]
theorem ip4(hx:xs.length≤9223372036854775807)(hw:w.length≤9223372036854775807):
 o24 W 127 [.x (.int .i64 q), .fz b (.sl nl 0 1 (ivs xs)), .x (.int .i64 k), .fz b' (.sl nl' 0 1 (ivs w))] []=some (.x (.int .i64 (ky7 q xs k w)),[],[]):=by
 have e1:=fun b nl b' nl'=>r73 (q:=q) (b:=b) (nl:=nl) (b':=b') (nl':=nl') (k:=k) hx hw
 rw[o10 rfl T127 rfl]
 unfold F127 c127 ky7
 by_cases h:wrdE q xs k w=0
 ·have hs:=xb3 h
  have e2:=fun b nl=>cr7 (b:=b) (nl:=nl) (x:= -1) (l:=w) (by omega)
  rw[if_pos h]
  cases hc:(w.any fun y=>decide (y= -1))with
  |true=>
   rw[hc]at e2
   rw[if_pos rfl]
   simp(disch:=first|omega|fail) only[push_cast,seval,ui5,lu7,y81,bj9,wrap64,dec_lt,cw6,nl3,qc6,mr8,nb8,if_pos,if_neg,e1,h,e2]
  |false=>
   rw[hc]at e2
   rw[if_neg (by decide)]
   simp(disch:=first|omega|fail) only[push_cast,seval,ui5,lu7,y81,bj9,wrap64,dec_lt,cw6,nl3,qc6,mr8,nb8,if_pos,if_neg,e1,h,e2]
 ·rw[if_neg h]
  simp(disch:=first|omega|fail) only[push_cast,seval,ui5,lu7,y81,bj9,wrap64,dec_lt,cw6,nl3,qc6,mr8,nb8,if_pos,if_neg,e1,nb8 h]
end
theorem dp1{q:Int}{xs w:List Int}{k:Int}(h:ky7 q xs k w=0):IsFld q∧ ∃(X Y:List (El q)) (K:Nat),xs=vs X∧w=vs Y∧k=(K:Int)∧X.Nodup∧Y.length=X.length∧X.length≤64∧1≤K∧K≤X.length:=by
 unfold ky7 at h
 split at h
 ·rename_i h1
  split at h
  ·cases h
  ·rename_i h2
   unfold wrdE at h1
   split at h1
   ·rename_i h3
    obtain⟨hf,X,rfl,hn,hX1,hX,hk1,hk2⟩:=z24 h3
    split at h1
    ·cases h1
    ·rename_i h4
     split at h1
     ·cases h1
     ·rename_i h5
      rw[Bool.not_eq_true]at h2 h5
      obtain⟨Y,rfl⟩:=n39 (q:=q) (l:=w) fun z hz=>by
       have g1:=List.any_eq_false.1 h2 z hz
       have g2:=List.any_eq_false.1 h5 z hz
       have g1: ¬z= -1:=by simpa using g1
       rw[decide_eq_false g1]at g2
       simpa using g2
      refine⟨hf,X,Y,k.toNat,rfl,rfl,by omega,hn, ?_,hX,by omega,by omega⟩
      rw[fi2,fi2]at h4
      omega
   ·exact absurd h1 ‹_›
 ·exact absurd h ‹_›
end Go.Proofs.YtlhmdmedagjmnaaGreat
namespace Go.Proofs.YtlhmdmedagjmnaaGreat
open Go.Am Go.Vm Go.Alg
theorem q_hi{q:Int} [hq:IsFld q]:q≤64:=by
 obtain⟨p,m,g,mod,hn⟩:=hq.ok
 exact(jj8 hn).1.q64
section
variable {q:Int} [IsFld q]
def elE(q:Int) [IsFld q](a:Int):El q:=if h:0≤a∧a<q then⟨a,h.1,h.2⟩else 0
theorem sx0{a:Int}(h:0≤a∧a<q):(elE q a).v=a:=by unfold elE;rw[dif_pos h]
theorem c86{l:List Int}(h:digS q l):vs (l.map (elE q))=l:=by
 unfold vs
 rw[List.map_map]
 conv=>rhs;rw[←List.map_id l]
 exact List.map_congr_left fun a ha=>sx0 (h a ha)
theorem oa6(z:List (El q)):digS q (vs z):=fun a ha=>by
 obtain⟨x,_,rfl⟩:=List.mem_map.1 ha
 exact⟨x.lo,x.hi⟩
def yv5(z:List (El q)):List (El q):=(qr3 q (vs z)).1.map (elE q)
theorem z55: ∃p:Nat,q=(p:Int)∧2≤p∧p≤64:=⟨q.toNat,by have:=aw0 (q:=q);omega,by have:=aw0 (q:=q);omega,by have:=q_hi (q:=q);omega⟩
theorem mw7(z:List (El q)):vs (yv5 z)=(qr3 q (vs z)).1:=by
 obtain⟨p,hp,h2,_⟩:=z55 (q:=q)
 refine c86 ?_
 have:=(jd2 (q:=p) (by omega) (l:=vs z) (by rw[←hp];exact oa6 z)).1
 rwa [←hp]at this
theorem l71(z:List (El q)):(yv5 z).length=z.length:=by
 have:=congrArg List.length (mw7 z)
 rwa [fi2,pd1,fi2]at this
def adNr(P:List (El q×El q))(r:Int)(z:List (El q))(acc:List (List (El q))):List (List (El q)):=if(offK z P:Int)≤r then acc++[z]else acc
def nrL(P:List (El q×El q))(r:Int):Nat→List (El q)→List (List (El q))→List (List (El q))
 |0,z,acc=>adNr P r z acc
 |n+1,z,acc=>nrL P r n (yv5 z) (adNr P r z acc)
theorem az7(P:List (El q×El q))(r:Int)(z:List (El q))(acc:List (List (El q))):(adNr P r z acc).length≤acc.length+1:=by
 unfold adNr;split<;>simp
theorem nc8{p:Nat}: ∀(d:Nat) (n:Nat),fewQ (p:Int) d (n:Int)=true→n≤4096→n*p^d≤4096
 |0,n,_,hn=>by simpa using hn
 |d+1,n,h,hn=>by
  rw[fewQ]at h
  split at h
  ·cases h
  ·rename_i h1
   rw[←Int.natCast_mul]at h h1
   have:=nc8 d (n*p) h (by omega)
   rw[Nat.mul_assoc,←Nat.pow_succ']at this
   exact this
structure Left (q:Int) (p:Nat) (n:Nat) (z:List (El q)):Prop where
 e:q=(p:Int)
 h:valS p (vs z)+n+1=p^z.length
theorem Left.last{p:Nat}{z:List (El q)}(h:Left q p 0 z):(qr3 q (vs z)).2=false:=by
 have hq:=aw0 (q:=q)
 have h1:=jd2 (q:=p) (by have:=h.e;omega) (l:=vs z) (by rw[←h.e];exact oa6 z)
 rw[←h.e]at h1
 cases hb:(qr3 q (vs z)).2 with
 |false=>rfl
 |true=>
  have h2:=h1.2
  rw[hb,if_pos rfl]at h2
  have h3:=uc1 (q:=p) (l:=(qr3 q (vs z)).1) (by rw[←h.e];exact h1.1)
  rw[pd1,fi2]at h3
  have:=h.h
  omega
theorem Left.more{p n:Nat}{z:List (El q)}(h:Left q p (n+1) z):(qr3 q (vs z)).2=true∧Left q p n (yv5 z):=by
 have hq:=aw0 (q:=q)
 have h1:=jd2 (q:=p) (by have:=h.e;omega) (l:=vs z) (by rw[←h.e];exact oa6 z)
 rw[←h.e]at h1
 have h0:=h.h
 cases hb:(qr3 q (vs z)).2 with
 |false=>
  have h2:=h1.2
  rw[hb,if_neg (by decide),fi2]at h2
  omega
 |true=>
  have h2:=h1.2
  rw[hb,if_pos rfl]at h2
  exact⟨rfl,h.e,by rw[mw7,l71];omega⟩
theorem Left.start{p:Nat}(e:q=(p:Int))(K:Nat):Left q p (p^K-1) (List.replicate K (0:El q)):=by
 have hq:=aw0 (q:=q)
 refine⟨e, ?_⟩
 have h0: ∀k:Nat,valS p (vs (List.replicate k (0:El q)))=0:=by
  intro k
  induction k with
  |zero=>rfl
  |succ k ih=>rw[List.replicate_succ,show vs ((0:El q)::List.replicate k 0)=0::vs (List.replicate k 0)from rfl,valS,ih];simp
 rw[h0,List.length_replicate]
 have:0<p^K:=Nat.pow_pos (by omega)
 omega
theorem m35: ∀{X Y:List (El q)},Y.length=X.length→kh0 X (Y.map some)=X.zip Y
 | [],[],_=>by rw[List.map_nil,kh0,List.zip_nil_left]<;>simp
 |x::X,y::Y,h=>by
  rw[List.map_cons,kh0,List.zip_cons_cons,m35 (by simpa using h)]
end
section
variable {q p m g:Int} [IsFld q] {t:Tree} {b b' b2:Bool} {nl nl' nl2:Nat} {X Y:List (El q)} {r:Int} {K:Nat}
theorem lk9{z:List (El q)}(hz:z.length≤128)(hY:Y.length=X.length)(hX:X.length≤1000){T:Tree}: ∀(d i e:Nat),i+d=X.length→e≤i→ ∀ks,
 vgoL W ⟨h130,[.tmp 10, .tmp 11],0⟩ [0,1,2,3,4,13,14,15,35,36,37] c130L0 (.blk 2 [0,1,2,3,4,13,14,15]::ks) [(0, .x (.int .i64 q)),(1, .fz b (.sl nl 0 1 (ivs (vs X)))),(2, .x (.int .i64 K)),(3, .fz b' (.sl nl' 0 1 (ivs (vs Y)))),(4, .x (.int .i64 r)),(13, .own 0 []),(14, .own 1 []),(15, .x (.int .i64 e)),(35, .fz b (.sl nl 0 1 (ivs (vs X)))),(36, .x (.int .i64 X.length)),(37, .x (.int .i64 i))] [T, .sl nl2 3 1 (ivs (vs z))]=
  vgo W ⟨h130,[.tmp 10, .tmp 11],0⟩ ks (VFr.of [(0, .x (.int .i64 q)),(1, .fz b (.sl nl 0 1 (ivs (vs X)))),(2, .x (.int .i64 K)),(3, .fz b' (.sl nl' 0 1 (ivs (vs Y)))),(4, .x (.int .i64 r)),(13, .own 0 []),(14, .own 1 []),(15, .x (.int .i64 (offK z ((X.zip Y).drop i)+e:Nat)))]) [T, .sl nl2 3 1 (ivs (vs z))]
 |0,i,e,hi,he,ks=>by
  rw[oh9 (by rw[List.length_zip];omega),show offK z []=0 from rfl,Nat.zero_add,sb5 c130L0.eq_def]
  simp(disch:=first|omega|fail) only[push_cast,seval,ui5,lu7,y81,bj9,wrap64,dec_lt,cw6,nl3,qc6,mr8,nb8,if_pos,if_neg]
 |d+1,i,e,hi,he,ks=>by
  obtain⟨x,hx⟩:=ge6 (l:=X) (i:=i) (by omega)
  obtain⟨y,hy⟩:=ge6 (l:=Y) (i:=i) (by omega)
  have hp:(X.zip Y)[i]? =some (x,y):=by rw[List.getElem?_zip_eq_some];exact⟨hx,hy⟩
  have h1:=iat (show(vs X)[i]? =some x.v by unfold vs;rw[List.getElem?_map,hx];rfl)
  have h2:=iat (show(vs Y)[i]? =some y.v by unfold vs;rw[List.getElem?_map,hy];rfl)
  have e1:=fun b nl=>yu6 (b:=b) (nl:=nl) (a:=z) (x:=x) hz
  have ih:=lk9 hz hY hX (T:=T) d (i+1) (e+if ev z x=y then 0 else 1) (by omega) (by split<;>omega) ks
  have c1:((i+1:Nat):Int)=(i:Int)+1:=by omega
  rw[c1]at ih
  rw[i62 hp,di6]
  rw[show offK z ((X.zip Y).drop (i+1))+(e+if ev z x=y then 0 else 1)=(if ev z x=y then 0 else 1)+offK z ((X.zip Y).drop (i+1))+e by omega]at ih
  rw[←ih,sb5 c130L0.eq_def]
  by_cases h:ev z x=y
  ·rw[if_pos h,Nat.add_zero]
   have hv:(ev z x).v=y.v:=by rw[h]
   simp(disch:=first|omega|fail) only[push_cast,seval,ui5,lu7,y81,bj9,wrap64,dec_lt,cw6,nl3,qc6,mr8,nb8,if_pos,if_neg,h1,h2,e1,hv]
  ·rw[if_neg h,show((e+1:Nat):Int)=(e:Int)+1 by omega]
   have hv: ¬(ev z x).v=y.v:=fun e=>h (El.ext' e)
   simp(disch:=first|omega|fail) only[push_cast,seval,ui5,lu7,y81,bj9,wrap64,dec_lt,cw6,nl3,qc6,mr8,nb8,if_pos,if_neg,h1,h2,e1,nb8 hv]
theorem eu4{xs ws:List Int}(hq:q≤1000000){T:Tree}: ∀(i:Nat) (p s s':List Int),p.length=i→(p++s).length≤1000000→(∀a∈p,0≤a∧a<q)→qr3 q s=(s',false)→ ∃j:Int,(0≤j↔(qr3 q (p++s)).2=true)∧ ∀ks,
 vgoL W ⟨h130,[.tmp 10, .tmp 11],0⟩ [0,1,2,3,4,13,14,20] c130L1 (.blk 4 [0,1,2,3,4,13,14,20]::ks) [(0, .x (.int .i64 q)),(1, .fz b (.sl nl 0 1 (ivs xs))),(2, .x (.int .i64 K)),(3, .fz b' (.sl nl' 0 1 (ivs ws))),(4, .x (.int .i64 r)),(13, .own 0 []),(14, .own 1 []),(20, .x (.int .i64 ((i:Int)-1)))] [T, .sl nl2 3 1 (ivs (p++s'))]=
  vgo W ⟨h130,[.tmp 10, .tmp 11],0⟩ ks (VFr.of [(0, .x (.int .i64 q)),(1, .fz b (.sl nl 0 1 (ivs xs))),(2, .x (.int .i64 K)),(3, .fz b' (.sl nl' 0 1 (ivs ws))),(4, .x (.int .i64 r)),(13, .own 0 []),(14, .own 1 []),(20, .x (.int .i64 j))]) [T, .sl nl2 3 1 (ivs (qr3 q (p++s)).1)]
 |0,p,s,s',hi,hn,hd,hs=>by
  obtain rfl:p=[]:=List.eq_nil_of_length_eq_zero hi
  rw[List.nil_append,List.nil_append,hs]
  refine⟨-1,by simp,fun ks=> ?_⟩
  rw[sb5 c130L1.eq_def]
  simp(disch:=first|omega|fail) only[push_cast,seval,ui5,lu7,y81,bj9,wrap64,dec_lt,cw6,nl3,qc6,mr8,nb8,if_pos,if_neg]
 |i+1,p,s,s',hi,hn,hd,hs=>by
  obtain⟨p',a,rfl⟩: ∃p' a,p=p'++[a]:=⟨p.dropLast,p.getLast (by intro h;subst h;simp at hi),(List.dropLast_concat_getLast _).symm⟩
  have hp'l:p'.length=i:=by simpa using hi
  have ha:=hd a (by simp)
  rw[List.append_assoc,List.singleton_append]at hn⊢
  rw[List.append_assoc,List.singleton_append]
  have hsl:s'.length=s.length:=by have:=pd1 q s;rw[hs]at this;exact this
  have hlen:(p'++a::s').length≤1000000:=by simp[hsl]at hn⊢;omega
  have hi2:i<(p'++a::s').length:=by simp;omega
  have l1:=qe6 (s:=s') (a:=a) hp'l
  have l2:=qe6 (s:=s') (a:=a+1) hp'l
  have t1:=ri5 (s:=s') (a:=a) (b:=a+1) hp'l
  have t2:=ri5 (s:=s') (a:=a+1) (b:=0) hp'l
  have e2:(p'++(a+1)::s').length=(p'++a::s').length:=by simp
  have hw:((i+1:Nat):Int)-1=(i:Int):=by omega
  rw[hw]
  by_cases hlt:a+1<q
  ·have hnx:qr3 q (a::s)=((a+1)::s',true):=by rw[qr3,hs];simp only;rw[if_pos hlt]
   rw[vq6 hnx p']
   refine⟨i,⟨fun _=>rfl,fun _=>by omega⟩,fun ks=> ?_⟩
   rw[sb5 c130L1.eq_def]
   simp(disch:=first|omega|fail) only[push_cast,seval,ui5,lu7,y81,bj9,wrap64,dec_lt,cw6,nl3,qc6,mr8,nb8,if_pos,if_neg,l1,l2,t1,e2,dec_lt hlt]
  ·have hnx:qr3 q (a::s)=(0::s',false):=by rw[qr3,hs];simp only;rw[if_neg hlt]
   obtain⟨j,j1,j2⟩:=eu4 hq (T:=T) i p' (a::s) (0::s') hp'l hn (fun c hc=>hd c (by simp[hc])) hnx
   refine⟨j,j1,fun ks=> ?_⟩
   rw[←j2 ks,sb5 c130L1.eq_def]
   simp(disch:=first|omega|fail) only[push_cast,seval,ui5,lu7,y81,bj9,wrap64,dec_lt,cw6,nl3,qc6,mr8,nb8,if_pos,if_neg,l1,l2,t1,t2,e2,cw6 (Int.not_lt.1 hlt)]
theorem b04(hY:Y.length=X.length)(hX:X.length≤64)(hK:K≤64){pp:Nat}: ∀(n:Nat) (z:List (El q)) (acc:List (List (El q))),Left q pp n z→z.length=K→acc.length+n≤10000→ ∀ks,
 vgoL W ⟨h130,[.tmp 10, .tmp 11],0⟩ [0,1,2,3,4,13,14] c130L2 (.blk 0 []::ks) [(0, .x (.int .i64 q)),(1, .fz b (.sl nl 0 1 (ivs (vs X)))),(2, .x (.int .i64 K)),(3, .fz b' (.sl nl' 0 1 (ivs (vs Y)))),(4, .x (.int .i64 r)),(13, .own 0 []),(14, .own 1 [])] [.sl 1 22 1 (lls 2 (acc.map vs)), .sl 0 3 1 (ivs (vs z))]=
  some (.tup [.own 0 [], .x (.int .i64 0)],[.sl 1 22 1 (lls 2 ((nrL (X.zip Y) r n z acc).map vs))],[]):=by
 intro n
 have hqh:=q_hi (q:=q)
 have main: ∀(n:Nat) (z:List (El q)) (acc:List (List (El q))),z.length=K→acc.length≤10000→ ∃j:Int,(0≤j↔(qr3 q (vs z)).2=true)∧ ∀ks,
  (0≤j→vgoL W ⟨h130,[.tmp 10, .tmp 11],0⟩ [0,1,2,3,4,13,14] c130L2 (.blk 0 []::ks) [(0, .x (.int .i64 q)),(1, .fz b (.sl nl 0 1 (ivs (vs X)))),(2, .x (.int .i64 K)),(3, .fz b' (.sl nl' 0 1 (ivs (vs Y)))),(4, .x (.int .i64 r)),(13, .own 0 []),(14, .own 1 [])] [.sl 1 22 1 (lls 2 (acc.map vs)), .sl 0 3 1 (ivs (vs z))]=
    vgoL W ⟨h130,[.tmp 10, .tmp 11],0⟩ [0,1,2,3,4,13,14] c130L2 (.blk 0 []::ks) [(0, .x (.int .i64 q)),(1, .fz b (.sl nl 0 1 (ivs (vs X)))),(2, .x (.int .i64 K)),(3, .fz b' (.sl nl' 0 1 (ivs (vs Y)))),(4, .x (.int .i64 r)),(13, .own 0 []),(14, .own 1 [])] [.sl 1 22 1 (lls 2 ((adNr (X.zip Y) r z acc).map vs)), .sl 0 3 1 (ivs (vs (yv5 z)))])∧
  (j<0→vgoL W ⟨h130,[.tmp 10, .tmp 11],0⟩ [0,1,2,3,4,13,14] c130L2 (.blk 0 []::ks) [(0, .x (.int .i64 q)),(1, .fz b (.sl nl 0 1 (ivs (vs X)))),(2, .x (.int .i64 K)),(3, .fz b' (.sl nl' 0 1 (ivs (vs Y)))),(4, .x (.int .i64 r)),(13, .own 0 []),(14, .own 1 [])] [.sl 1 22 1 (lls 2 (acc.map vs)), .sl 0 3 1 (ivs (vs z))]=
    some (.tup [.own 0 [], .x (.int .i64 0)],[.sl 1 22 1 (lls 2 ((adNr (X.zip Y) r z acc).map vs))],[])):=by
  intro n z acc hz hacc
  obtain⟨j,j1,j2⟩:=eu4 (b:=b) (nl:=nl) (b':=b') (nl':=nl') (xs:=vs X) (ws:=vs Y) (r:=r) (K:=K) (nl2:=0) (q:=q) (by omega) (T:= .sl 1 22 1 (lls 2 ((adNr (X.zip Y) r z acc).map vs))) K (vs z) [] [] (by rw[fi2,hz]) (by rw[List.append_nil,fi2];omega) (fun a ha=>oa6 z a ha) rfl
  rw[List.append_nil]at j1
  simp only[List.append_nil]at j2
  rw[←mw7]at j2
  have e1:=fun T ks=>lk9 (b:=b) (nl:=nl) (b':=b') (nl':=nl') (nl2:=0) (r:=r) (K:=K) (z:=z) (X:=X) (Y:=Y) (by omega) hY (by omega) (T:=T) X.length 0 0 (by omega) (by omega) ks
  rw[List.drop_zero,Nat.add_zero]at e1
  simp only[Int.natCast_zero]at e1
  have e2:=fun b nl=>h19 (b:=b) (nl:=nl) (zs:=vs z) (by rw[fi2];omega)
  have hal:(acc.map vs).length=acc.length:=List.length_map _
  refine⟨j,j1,fun ks=>⟨fun hj=> ?_,fun hj=> ?_⟩⟩
  ·rw[sb5 c130L2.eq_def]
   simp(disch:=first|omega|fail) only[push_cast,seval,ui5,lu7,y81,bj9,wrap64,dec_lt,cw6,nl3,qc6,mr8,nb8,if_pos,if_neg]
   rw[e1]
   by_cases h:(offK z (X.zip Y):Int)≤r
   ·have ha:adNr (X.zip Y) r z acc=acc++[z]:=by unfold adNr;rw[if_pos h]
    rw[ha]at j2⊢
    rw[List.map_append,show List.map vs [z]=[vs z]from rfl]at j2⊢
    simp(disch:=first|omega|fail) only[push_cast,seval,ui5,lu7,y81,bj9,wrap64,dec_lt,cw6,nl3,qc6,mr8,nb8,if_pos,if_neg,nl3 h,e2,hal]
    rw[j2]
    simp(disch:=first|omega|fail) only[push_cast,seval,ui5,lu7,y81,bj9,wrap64,dec_lt,cw6,nl3,qc6,mr8,nb8,if_pos,if_neg,cw6 hj]
   ·have ha:adNr (X.zip Y) r z acc=acc:=by unfold adNr;rw[if_neg h]
    rw[ha]at j2⊢
    simp(disch:=first|omega|fail) only[push_cast,seval,ui5,lu7,y81,bj9,wrap64,dec_lt,cw6,nl3,qc6,mr8,nb8,if_pos,if_neg,qc6 (Int.not_le.1 h)]
    rw[j2]
    simp(disch:=first|omega|fail) only[push_cast,seval,ui5,lu7,y81,bj9,wrap64,dec_lt,cw6,nl3,qc6,mr8,nb8,if_pos,if_neg,cw6 hj]
  ·rw[sb5 c130L2.eq_def]
   simp(disch:=first|omega|fail) only[push_cast,seval,ui5,lu7,y81,bj9,wrap64,dec_lt,cw6,nl3,qc6,mr8,nb8,if_pos,if_neg]
   rw[e1]
   by_cases h:(offK z (X.zip Y):Int)≤r
   ·have ha:adNr (X.zip Y) r z acc=acc++[z]:=by unfold adNr;rw[if_pos h]
    rw[ha]at j2⊢
    rw[List.map_append,show List.map vs [z]=[vs z]from rfl]at j2⊢
    simp(disch:=first|omega|fail) only[push_cast,seval,ui5,lu7,y81,bj9,wrap64,dec_lt,cw6,nl3,qc6,mr8,nb8,if_pos,if_neg,nl3 h,e2,hal]
    rw[j2]
    simp(disch:=first|omega|fail) only[push_cast,seval,ui5,lu7,y81,bj9,wrap64,dec_lt,cw6,nl3,qc6,mr8,nb8,if_pos,if_neg,dec_lt hj]
   ·have ha:adNr (X.zip Y) r z acc=acc:=by unfold adNr;rw[if_neg h]
    rw[ha]at j2⊢
    simp(disch:=first|omega|fail) only[push_cast,seval,ui5,lu7,y81,bj9,wrap64,dec_lt,cw6,nl3,qc6,mr8,nb8,if_pos,if_neg,qc6 (Int.not_le.1 h)]
    rw[j2]
    simp(disch:=first|omega|fail) only[push_cast,seval,ui5,lu7,y81,bj9,wrap64,dec_lt,cw6,nl3,qc6,mr8,nb8,if_pos,if_neg,dec_lt hj]
 induction n with
 |zero=>
  intro z acc hL hz hacc ks
  obtain⟨j,j1,j2⟩:=main 0 z acc hz (by omega)
  have hl:=hL.last
  have hj: ¬0≤j:=fun h=>by have:=j1.1 h;rw[hl]at this;cases this
  rw[(j2 ks).2 (by omega),nrL]
 |succ n IH=>
  intro z acc hL hz hacc ks
  obtain⟨j,j1,j2⟩:=main 0 z acc hz (by omega)
  obtain⟨hm,hL'⟩:=hL.more
  have:=az7 (X.zip Y) r z acc
  rw[(j2 ks).1 (j1.2 hm),nrL]
  exact IH (yv5 z) (adNr (X.zip Y) r z acc) hL' (by rw[l71,hz]) (by omega) ks
end
end Go.Proofs.YtlhmdmedagjmnaaGreat
namespace Go.Proofs.YtlhmdmedagjmnaaGreat
open Go.Am Go.Vm Go.Alg
section
variable {q p m g:Int} [IsFld q] {t:Tree} {b b' b2:Bool} {nl nl' nl2:Nat} {X Y:List (El q)} {r:Int} {K:Nat}
theorem de0(V:List (El q)):ws (V.map some)=vs V:=by unfold ws vs;rw[List.map_map];rfl
theorem qc9(u:RFo q p m g t)(hY:Y.length=X.length)(hX:X.length≤64)(hK:K≤64){pp:Nat}: ∀(n:Nat) (z:List (El q)) (acc:List (List (El q))),Left q pp n z→z.length=K→acc.length+n≤10000→ ∃Z:Tree,∀ks,
 vgoL W ⟨h129,[.tmp 10],0⟩ [1,3,4,5,11,12,13] c129L0 (.blk 0 [12]::ks) [(1, .fz b (.sl nl 0 1 (ivs (vs X)))),(3, .fz b' (.sl nl' 0 1 (ivs (vs Y)))),(4, .x (.int .i64 r)),(5, .own 0 []),(11, .own 1 []),(12, .own 2 []),(13, .x (.bool true))] [.pt 52 [.v (.int .i64 q), .v (.int .i64 p), .v (.int .i64 m), .v (.int .i64 g), .fz t], .sl 0 3 1 (ivs (vs z)), .sl 1 22 1 (lls 2 (acc.map vs))]=
  vgo W ⟨h129,[.tmp 10],0⟩ ks (VFr.of [(12, .own 2 [])]) [.pt 52 [.v (.int .i64 q), .v (.int .i64 p), .v (.int .i64 m), .v (.int .i64 g), .fz t],Z, .sl 1 22 1 (lls 2 ((nrL (X.zip Y) r n z acc).map vs))]:=by
 have hqh:=q_hi (q:=q)
 have ht:=u.n
 have ho:=u.o
 have main: ∀(z:List (El q)) (acc:List (List (El q))),z.length=K→acc.length≤10000→ ∀(B:Bool),(qr3 q (vs z)).2=B→ ∀ks,
  vgoL W ⟨h129,[.tmp 10],0⟩ [1,3,4,5,11,12,13] c129L0 (.blk 0 [12]::ks) [(1, .fz b (.sl nl 0 1 (ivs (vs X)))),(3, .fz b' (.sl nl' 0 1 (ivs (vs Y)))),(4, .x (.int .i64 r)),(5, .own 0 []),(11, .own 1 []),(12, .own 2 []),(13, .x (.bool true))] [.pt 52 [.v (.int .i64 q), .v (.int .i64 p), .v (.int .i64 m), .v (.int .i64 g), .fz t], .sl 0 3 1 (ivs (vs z)), .sl 1 22 1 (lls 2 (acc.map vs))]=
   vgoL W ⟨h129,[.tmp 10],0⟩ [1,3,4,5,11,12,13] c129L0 (.blk 0 [12]::ks) [(1, .fz b (.sl nl 0 1 (ivs (vs X)))),(3, .fz b' (.sl nl' 0 1 (ivs (vs Y)))),(4, .x (.int .i64 r)),(5, .own 0 []),(11, .own 1 []),(12, .own 2 []),(13, .x (.bool B))] [.pt 52 [.v (.int .i64 q), .v (.int .i64 p), .v (.int .i64 m), .v (.int .i64 g), .fz t], .sl 0 3 1 (ivs (vs (yv5 z))), .sl 1 22 1 (lls 2 ((adNr (X.zip Y) r z acc).map vs))]:=by
  intro z acc hz hacc B hB ks
  have e1:=fun b nl b' nl' b2 nl2=>zg2 (b:=b) (nl:=nl) (b':=b') (nl':=nl') (b2:=b2) (nl2:=nl2) (a:=z) (X:=X) (U:=Y.map some) (by omega) (by rw[List.length_map,hY]) (by omega)
  rw[u.e]at e1
  simp only[de0,m35 hY]at e1
  have e2:=fun b nl=>xr6 (b:=b) (nl:=nl) (l:=vs z) (by rw[fi2];omega)
  have e3:=fun nl=>ll0 (q:=q) (nl:=nl) (z:=vs z) (by omega) (by rw[fi2];omega) (oa6 z)
  rw[hB,←mw7]at e3
  have hal:(acc.map vs).length=acc.length:=List.length_map _
  rw[sb5 c129L0.eq_def]
  by_cases h:(offK z (X.zip Y):Int)≤r
  ·have ha:adNr (X.zip Y) r z acc=acc++[z]:=by unfold adNr;rw[if_pos h]
   rw[ha,List.map_append,show List.map vs [z]=[vs z]from rfl]
   simp(disch:=first|omega|fail) only[push_cast,seval,ui5,lu7,y81,bj9,wrap64,dec_lt,cw6,nl3,qc6,mr8,nb8,if_pos,if_neg,ht,ho,e1,nl3 h,e2,hal,e3]
  ·have ha:adNr (X.zip Y) r z acc=acc:=by unfold adNr;rw[if_neg h]
   rw[ha]
   simp(disch:=first|omega|fail) only[push_cast,seval,ui5,lu7,y81,bj9,wrap64,dec_lt,cw6,nl3,qc6,mr8,nb8,if_pos,if_neg,ht,ho,e1,qc6 (Int.not_le.1 h),e3]
 have fin: ∀(Z:Tree) (L:List (List Int)) ks,
  vgoL W ⟨h129,[.tmp 10],0⟩ [1,3,4,5,11,12,13] c129L0 (.blk 0 [12]::ks) [(1, .fz b (.sl nl 0 1 (ivs (vs X)))),(3, .fz b' (.sl nl' 0 1 (ivs (vs Y)))),(4, .x (.int .i64 r)),(5, .own 0 []),(11, .own 1 []),(12, .own 2 []),(13, .x (.bool false))] [.pt 52 [.v (.int .i64 q), .v (.int .i64 p), .v (.int .i64 m), .v (.int .i64 g), .fz t],Z, .sl 1 22 1 (lls 2 L)]=vgo W ⟨h129,[.tmp 10],0⟩ ks (VFr.of [(12, .own 2 [])]) [.pt 52 [.v (.int .i64 q), .v (.int .i64 p), .v (.int .i64 m), .v (.int .i64 g), .fz t],Z, .sl 1 22 1 (lls 2 L)]:=fun Z L ks=>by
  rw[sb5 c129L0.eq_def]
  simp(disch:=first|omega|fail) only[push_cast,seval,ui5,lu7,y81,bj9,wrap64,dec_lt,cw6,nl3,qc6,mr8,nb8,if_pos,if_neg]
 intro n
 induction n with
 |zero=>
  intro z acc hL hz hacc
  refine⟨.sl 0 3 1 (ivs (vs (yv5 z))),fun ks=> ?_⟩
  rw[main z acc hz (by omega) false hL.last,fin,nrL]
 |succ n IH=>
  intro z acc hL hz hacc
  obtain⟨hm,hL'⟩:=hL.more
  have:=az7 (X.zip Y) r z acc
  obtain⟨Z,h⟩:=IH (yv5 z) (adNr (X.zip Y) r z acc) hL' (by rw[l71,hz]) (by omega)
  exact⟨Z,fun ks=>by rw[main z acc hz (by omega) true hm,h,nrL]⟩
def g06(P:List (El q×El q))(r:Int)(K:Nat):List (List (El q)):=nrL P r (q.toNat^K-1) (List.replicate K 0) []
theorem d73(h:fewQ q K 1=true):q.toNat^K≤4096:=by
 obtain⟨pp,rfl,_,_⟩:=z55 (q:=q)
 have:=nc8 (p:=pp) K 1 h (by omega)
 rw[Int.toNat_natCast];omega
theorem pa1(K:Nat):Left q q.toNat (q.toNat^K-1) (List.replicate K (0:El q)):=Left.start (by have:=aw0 (q:=q);omega) K
theorem qn2(hY:Y.length=X.length)(hX:X.length≤64)(hK:K≤64)(hf:fewQ q K 1=true):
 o24 W 129 [.agg (rFs q), .fz b (.sl nl 0 1 (ivs (vs X))), .x (.int .i64 K), .fz b' (.sl nl' 0 1 (ivs (vs Y))), .x (.int .i64 r)] []=some (.own 0 [],[.sl 1 22 1 (lls 2 ((g06 (X.zip Y) r K).map vs))],[]):=by
 obtain⟨p,m,g,t,u⟩:=k75 q
 have ht:=u.n
 have hfl:=d73 hf
 obtain⟨Z,e⟩:=qc9 (b:=b) (nl:=nl) (b':=b') (nl':=nl') (r:=r) u hY hX hK _ _ [] (pa1 K) (by simp) (by simp;omega)
 have hz:List.replicate K (0:Int)=vs (List.replicate K (0:El q)):=by rw[←qj2];rfl
 rw[←hz]at e
 simp only[List.map_nil,x25]at e
 unfold g06
 rw[o10 rfl T129 rfl,u.e]
 unfold F129 c129
 simp(disch:=first|omega|fail) only[push_cast,seval,ui5,lu7,y81,bj9,wrap64,dec_lt,cw6,nl3,qc6,mr8,nb8,if_pos,if_neg,ht]
 rw[e]
 simp(disch:=first|omega|fail) only[push_cast,seval,ui5,lu7,y81,bj9,wrap64,dec_lt,cw6,nl3,qc6,mr8,nb8,if_pos,if_neg]
theorem zt1(hn:X.Nodup)(hY:Y.length=X.length)(hX:X.length≤64)(k1:1≤K)(k2:K≤X.length)(hf:fewQ q K 1=true):
 o24 W 130 [.x (.int .i64 q), .fz b (.sl nl 0 1 (ivs (vs X))), .x (.int .i64 K), .fz b' (.sl nl' 0 1 (ivs (vs Y))), .x (.int .i64 r)] []=some (.tup [.own 0 [], .x (.int .i64 0)],[.sl 1 22 1 (lls 2 ((g06 (X.zip Y) r K).map vs))],[]):=by
 have hq:=aw0 (q:=q)
 have hqh:=q_hi (q:=q)
 have hw:ky7 q (vs X) K (vs Y)=0:=by
  have h1:=y91 (U:=Y.map some) (k:=K) hn (by omega) hX (by rw[List.length_map,hY]) k1 k2
  rw[de0]at h1
  unfold ky7
  rw[if_pos h1,if_neg]
  intro hc
  obtain⟨z,hz,h2⟩:=List.any_eq_true.1 hc
  obtain⟨y,_,rfl⟩:=List.mem_map.1 hz
  have:y.v= -1:=by simpa using h2
  have:=y.lo
  omega
 have e1:=fun b nl b' nl'=>di2 (q:=q) (b:=b) (nl:=nl) (b':=b') (nl':=nl') (xs:=vs X) (w:=vs Y) (k:=K) (by rw[fi2];omega) (by rw[fi2];omega)
 simp only[hw]at e1
 have e2:=ln0 (q:=q) (k:=K) (by omega) hqh (by omega)
 rw[hf]at e2
 have hfl:=d73 hf
 have e:=fun ks=>b04 (b:=b) (nl:=nl) (b':=b') (nl':=nl') (r:=r) hY hX (show K≤64 by omega) _ _ [] (pa1 (q:=q) K) (by simp) (by simp;omega) ks
 have hz:List.replicate K (0:Int)=vs (List.replicate K (0:El q)):=by rw[←qj2];rfl
 rw[←hz]at e
 simp only[List.map_nil,x25]at e
 unfold g06
 rw[o10 rfl T130 rfl]
 unfold F130 c130
 simp(disch:=first|omega|fail) only[push_cast,seval,ui5,lu7,y81,bj9,wrap64,dec_lt,cw6,nl3,qc6,mr8,nb8,if_pos,if_neg,e1,e2]
 rw[e]
end
section
variable {q:Int} {b b':Bool} {nl nl':Nat} {xs w:List Int} {k r:Int}
def ie2(q:Int)(xs:List Int)(k:Int)(w:List Int):Int:=if ky7 q xs k w=0 then(if fewQ q k.toNat 1=true then 0 else 4)else ky7 q xs k w
theorem f69(hx:xs.length≤9223372036854775807)(hw:w.length≤9223372036854775807)(he:ie2 q xs k w≠0):
 o24 W 130 [.x (.int .i64 q), .fz b (.sl nl 0 1 (ivs xs)), .x (.int .i64 k), .fz b' (.sl nl' 0 1 (ivs w)), .x (.int .i64 r)] []=some (.tup [.own 0 [], .x (.int .i64 (ie2 q xs k w))],[.sl 1 22 1 []],[]):=by
 have e1:=fun b nl b' nl'=>di2 (q:=q) (b:=b) (nl:=nl) (b':=b') (nl':=nl') (k:=k) hx hw
 rw[o10 rfl T130 rfl]
 unfold F130 c130
 unfold ie2 at he⊢
 by_cases h:ky7 q xs k w=0
 ·rw[if_pos h]at he⊢
  obtain⟨hf,X,Y,K,rfl,rfl,rfl,_,_,hX,_,hK⟩:=dp1 h
  rw[Int.toNat_natCast]at he⊢
  have hq:=aw0 (q:=q)
  have e2:=ln0 (q:=q) (k:=K) (by omega) q_hi (by omega)
  by_cases h2:fewQ q K 1=true
  ·rw[if_pos h2]at he;exact absurd rfl he
  ·rw[if_neg h2]
   rw[Bool.not_eq_true]at h2
   rw[h2]at e2
   simp(disch:=first|omega|fail) only[push_cast,seval,ui5,lu7,y81,bj9,wrap64,dec_lt,cw6,nl3,qc6,mr8,nb8,if_pos,if_neg,e1,h,e2]
 ·rw[if_neg h]
  simp(disch:=first|omega|fail) only[push_cast,seval,ui5,lu7,y81,bj9,wrap64,dec_lt,cw6,nl3,qc6,mr8,nb8,if_pos,if_neg,e1,nb8 h]
end
end Go.Proofs.YtlhmdmedagjmnaaGreat
namespace Go.Proofs.YtlhmdmedagjmnaaGreat
open Go.Am Go.Vm Go.Alg
def blkN(m j i:Nat):List (Nat×Nat):=(List.range' i (m-i)).map fun a=>(a,j)
theorem be7{m j i:Nat}(h:i<m):blkN m j i=(i,j)::blkN m j (i+1):=by
 unfold blkN
 rw[show m-i=(m-(i+1))+1 by omega,List.range'_succ];rfl
theorem ge3{m j i:Nat}(h:m≤i):blkN m j i=[]:=by
 unfold blkN
 rw[show m-i=0 by omega];rfl
def monT(k1 t:Nat):Nat→Nat→List (Nat×Nat)
 |0,_=>[]
 |n+1,j=>if j*k1<t then blkN (t-j*k1) j 0++monT k1 t n (j+1)else []
def monL(k1 t:Nat):List (Nat×Nat):=(monT k1 t (t+1) 0).take 64
def prs:List (Nat×Nat)→List Tree
 | []=>[]
 |p::l=> .v (.int .i64 p.1):: .v (.int .i64 p.2)::prs l
theorem tp6: ∀l,(prs l).length=2*l.length
 | []=>rfl
 |p::l=>by rw[prs,List.length_cons,List.length_cons,tp6 l,List.length_cons];omega
theorem px0: ∀l m,prs (l++m)=prs l++prs m
 | [],m=>rfl
 |p::l,m=>by rw[List.cons_append,prs,px0 l m];rfl
theorem h94: ∀{l:List (Nat×Nat)} {i:Nat} {p:Nat×Nat},l[i]? =some p→(prs l)[i*2]? =some (.v (.int .i64 p.1))∧(prs l)[i*2+1]? =some (.v (.int .i64 p.2))
 |p::l,0,_,h=>by cases h;exact⟨rfl,rfl⟩
 |p::l,i+1,q,h=>by
  have:=h94 (l:=l) (i:=i) (p:=q) (by simpa using h)
  rw[prs,show(i+1)*2=i*2+1+1 by omega,List.getElem?_cons_succ,List.getElem?_cons_succ,List.getElem?_cons_succ,List.getElem?_cons_succ]
  exact this
def gdL:List (Nat×Nat)→Nat→Prop
 | [],_=>True
 |p::l,c=>p.2≤c∧gdL l (if p.2=c then c+1 else c)
theorem sz4{m j:Nat}{M:List (Nat×Nat)}: ∀(n i c:Nat),n=m-i→(c=j+1)→gdL M (j+1)→gdL (blkN m j i++M) c
 |0,i,c,hn,hc,hM=>by rw[ge3 (by omega),hc];exact hM
 |n+1,i,c,hn,hc,hM=>by
  rw[be7 (by omega)]
  exact⟨by show j≤c;omega,by rw[if_neg (show¬j=c by omega)];exact sz4 n (i+1) c (by omega) hc hM⟩
theorem im4{k1 t:Nat}: ∀(n j:Nat),gdL (monT k1 t n j) j
 |0,j=>trivial
 |n+1,j=>by
  rw[monT]
  split
  ·rename_i h
   rw[be7 (by omega)]
   exact⟨Nat.le_refl _,by rw[if_pos rfl];exact sz4 _ 1 (j+1) rfl rfl (im4 n (j+1))⟩
  ·trivial
theorem fp6: ∀(l:List (Nat×Nat)) (c n:Nat),gdL l c→gdL (l.take n) c
 | [],c,n,h=>by simpa using h
 |p::l,c,0,h=>by simp[gdL]
 |p::l,c,n+1,h=>by rw[List.take_succ_cons];exact⟨h.1,fp6 l _ n h.2⟩
theorem gn5(k1 t:Nat):gdL (monL k1 t) 0:=fp6 _ _ _ (im4 _ _)
theorem en1{k1 t:Nat}: ∀(n j:Nat),∀p∈monT k1 t n j,p.1<t∧p.2<j+n
 |0,j,p,h=>by cases h
 |n+1,j,p,h=>by
  rw[monT]at h
  split at h
  ·rcases List.mem_append.1 h with h|h
   ·unfold blkN at h
    obtain⟨a,ha,rfl⟩:=List.mem_map.1 h
    have:=List.mem_range'_1.1 ha
    exact⟨by show a<t;omega,by show j<_;omega⟩
   ·have:=en1 n (j+1) p h
    exact⟨this.1,by omega⟩
  ·cases h
theorem rz0{k1 t:Nat}: ∀p∈monL k1 t,p.1≤t∧p.2≤t:=fun p h=>by
 have:=en1 _ _ p (List.mem_of_mem_take h)
 exact⟨by omega,by omega⟩
theorem da6(k1 t:Nat):(monL k1 t).length≤64:=by unfold monL;rw[List.length_take];omega
theorem mg3{k1 t:Nat}(h:1≤t):0<(monL k1 t).length:=by
 unfold monL
 rw[monT,if_pos (by omega),be7 (by omega)]
 simp
theorem pd2(m j i:Nat):(blkN m j i).length=m-i:=by simp[blkN]
section
variable {k t:Nat}
theorem jo9(hk2:2≤k)(hk:k≤100)(ht:t≤100){j:Nat}(hj:j≤100): ∀(n i:Nat) (acc:List (Nat×Nat)),i≤100→n=t-j*(k-1)-i→acc.length+n≤10000→ ∀ks,
 vgoL W ⟨h189,[.tmp 4],0⟩ [0,1,5,6,7] c189L0 (.blk 2 [0,1,5,6]::ks) [(0, .x (.int .i64 k)),(1, .x (.int .i64 t)),(5, .own 0 []),(6, .x (.int .i64 j)),(7, .x (.int .i64 i))] [.sl 1 193 2 (prs acc)]=
  vgo W ⟨h189,[.tmp 4],0⟩ ks (VFr.of [(0, .x (.int .i64 k)),(1, .x (.int .i64 t)),(5, .own 0 []),(6, .x (.int .i64 j))]) [.sl 1 193 2 (prs (acc++blkN (t-j*(k-1)) j i))]:=by
 have hb:j*(k-1)≤10000:=Nat.le_trans (Nat.mul_le_mul hj (show k-1≤100 by omega)) (by decide)
 have hm:(j:Int)*((k:Int)-1)=((j*(k-1):Nat):Int):=by rw[Int.natCast_mul];congr 1;omega
 generalize j*(k-1)=w at*
 intro n
 induction n with
 |zero=>
  intro i acc hi hn ha ks
  have h1: ¬(i:Int)+(w:Int)<(t:Int):=by omega
  rw[ge3 (by omega),List.append_nil,sb5 c189L0.eq_def]
  simp(disch:=first|omega|fail) only[push_cast,seval,ui5,lu7,y81,bj9,wrap64,dec_lt,cw6,nl3,qc6,mr8,nb8,if_pos,if_neg,hm,cw6 (Int.not_lt.1 h1)]
 |succ n IH=>
  intro i acc hi hn ha ks
  have h1:(i:Int)+(w:Int)<(t:Int):=by omega
  have ih:=IH (i+1) (acc++[(i,j)]) (by omega) (by omega) (by rw[List.length_append,List.length_singleton];omega) ks
  have hlen:(prs acc).length=acc.length*2:=by rw[tp6];omega
  have hd:acc.length*2/2=acc.length:=Nat.mul_div_cancel _ (by decide)
  have hsn:prs acc++[Tree.v (.int .i64 i),Tree.v (.int .i64 j)]=prs (acc++[(i,j)]):=by rw[px0];rfl
  rw[Int.natCast_add,Int.natCast_one,List.append_assoc,List.singleton_append]at ih
  rw[be7 (by omega),←ih,sb5 c189L0.eq_def]
  simp(disch:=first|omega|fail) only[push_cast,seval,ui5,lu7,y81,bj9,wrap64,dec_lt,cw6,nl3,qc6,mr8,nb8,if_pos,if_neg,hm,dec_lt h1,hlen,hd,hsn]
theorem f46(hk2:2≤k)(hk:k≤100)(ht:t≤100){F:List (Nat×Nat)}: ∀(n j:Nat) (acc:List (Nat×Nat)),j+n=t+1→acc.length≤1000→acc++monT (k-1) t n j=F→
 ∃L:List (Nat×Nat),(L=F∨256<L.length∧L<+:F)∧L.length≤1000∧ ∀ks,
 vgoL W ⟨h189,[.tmp 4],0⟩ [0,1,5,6] c189L1 (.blk 0 [5]::ks) [(0, .x (.int .i64 k)),(1, .x (.int .i64 t)),(5, .own 0 []),(6, .x (.int .i64 j))] [.sl 1 193 2 (prs acc)]=
  vgo W ⟨h189,[.tmp 4],0⟩ ks (VFr.of [(5, .own 0 [])]) [.sl 1 193 2 (prs L)]:=by
 intro n
 induction n with
 |zero=>
  intro j acc hj ha hF
  rw[monT,List.append_nil]at hF
  refine⟨acc, .inl hF,ha,fun ks=> ?_⟩
  have hb:j*(k-1)≤10100:=Nat.le_trans (Nat.mul_le_mul (show j≤101 by omega) (show k-1≤100 by omega)) (by decide)
  have hb2:j*1≤j*(k-1):=Nat.mul_le_mul_left _ (by omega)
  have hm:(j:Int)*((k:Int)-1)=((j*(k-1):Nat):Int):=by rw[Int.natCast_mul];congr 1;omega
  generalize j*(k-1)=w at*
  have h1: ¬(w:Int)<(t:Int):=by omega
  rw[sb5 c189L1.eq_def]
  simp(disch:=first|omega|fail) only[push_cast,seval,ui5,lu7,y81,bj9,wrap64,dec_lt,cw6,nl3,qc6,mr8,nb8,if_pos,if_neg,hm,cw6 (Int.not_lt.1 h1)]
 |succ n IH=>
  intro j acc hj ha hF
  have hb:j*(k-1)≤10100:=Nat.le_trans (Nat.mul_le_mul (show j≤101 by omega) (show k-1≤100 by omega)) (by decide)
  have hm:(j:Int)*((k:Int)-1)=((j*(k-1):Nat):Int):=by rw[Int.natCast_mul];congr 1;omega
  have hlen:(prs acc).length=acc.length*2:=by rw[tp6];omega
  have hd:acc.length*2/2=acc.length:=Nat.mul_div_cancel _ (by decide)
  by_cases h1:j*(k-1)<t
  ·by_cases h2:acc.length≤256
   ·rw[monT,if_pos h1,←List.append_assoc]at hF
    have hbl:=pd2 (t-j*(k-1)) j 0
    obtain⟨L,a1,a2,a3⟩:=IH (j+1) (acc++blkN (t-j*(k-1)) j 0) (by omega) (by rw[List.length_append];omega) hF
    refine⟨L,a1,a2,fun ks=> ?_⟩
    have ih:=a3 ks
    have e:=fun ks=>jo9 hk2 hk ht (j:=j) (by omega) (t-j*(k-1)) 0 acc (by omega) (by omega) (by omega) ks
    simp only[Int.natCast_zero]at e
    generalize j*(k-1)=w at*
    have h1':(w:Int)<(t:Int):=by omega
    have hk1: ¬(k:Int)=1:=by omega
    rw[Int.natCast_add,Int.natCast_one]at ih
    rw[←ih,sb5 c189L1.eq_def]
    simp(disch:=first|omega|fail) only[push_cast,seval,ui5,lu7,y81,bj9,wrap64,dec_lt,cw6,nl3,qc6,mr8,nb8,if_pos,if_neg,hm,dec_lt h1',hlen,hd]
    rw[e]
    simp(disch:=first|omega|fail) only[push_cast,seval,ui5,lu7,y81,bj9,wrap64,dec_lt,cw6,nl3,qc6,mr8,nb8,if_pos,if_neg,nb8 hk1]
   ·refine⟨acc, .inr ⟨by omega,⟨_,hF⟩⟩,ha,fun ks=> ?_⟩
    generalize j*(k-1)=w at*
    have h1':(w:Int)<(t:Int):=by omega
    have h2': ¬(acc.length:Int)≤256:=by omega
    rw[sb5 c189L1.eq_def]
    simp(disch:=first|omega|fail) only[push_cast,seval,ui5,lu7,y81,bj9,wrap64,dec_lt,cw6,nl3,qc6,mr8,nb8,if_pos,if_neg,hm,dec_lt h1',hlen,hd,qc6 (Int.not_le.1 h2')]
  ·rw[monT,if_neg h1,List.append_nil]at hF
   refine⟨acc, .inl hF,ha,fun ks=> ?_⟩
   generalize j*(k-1)=w at*
   have h1': ¬(w:Int)<(t:Int):=by omega
   rw[sb5 c189L1.eq_def]
   simp(disch:=first|omega|fail) only[push_cast,seval,ui5,lu7,y81,bj9,wrap64,dec_lt,cw6,nl3,qc6,mr8,nb8,if_pos,if_neg,hm,cw6 (Int.not_lt.1 h1')]
theorem av4(hk2:2≤k)(hk:k≤100)(ht:t≤100): ∃L:List (Nat×Nat),L.take 64=monL (k-1) t∧L.length≤1000∧o24 W 189 [.x (.int .i64 k), .x (.int .i64 t)] []=some (.own 0 [],[.sl 1 193 2 (prs L)],[]):=by
 obtain⟨L,a1,a2,a3⟩:=f46 hk2 hk ht (t+1) 0 [] (by omega) (by simp) rfl
 refine⟨L, ?_,a2, ?_⟩
 ·unfold monL
  rw[List.nil_append]at a1
  rcases a1 with rfl|⟨h1,S,h2⟩
  ·rfl
  ·rw[←h2,List.take_append_of_le_length (by omega)]
 ·simp only[Int.natCast_zero,show prs []=[]from rfl]at a3
  rw[o10 rfl T189 rfl]
  unfold F189 c189
  simp(disch:=first|omega|fail) only[push_cast,seval,ui5,lu7,y81,bj9,wrap64,dec_lt,cw6,nl3,qc6,mr8,nb8,if_pos,if_neg]
  rw[a3]
  simp(disch:=first|omega|fail) only[push_cast,seval,ui5,lu7,y81,bj9,wrap64,dec_lt,cw6,nl3,qc6,mr8,nb8,if_pos,if_neg]
end
section
variable {q p m g:Int} [IsFld q] {k t:Nat} {b b':Bool} {nl nl':Nat} {xs w:List Int} {T0:Tree}
def prL(l:List (Nat×Nat)):List (List Int):=l.map fun p=>[(p.1:Int),(p.2:Int)]
theorem ht6(l:List (Nat×Nat)):(prL l).length=l.length:=by simp[prL]
theorem xt6(hk2:2≤k)(hk:k≤100)(ht:t≤100){j:Nat}(hj:j≤100): ∀(n i:Nat) (acc:List (Nat×Nat)),i≤100→n=t-j*(k-1)-i→acc.length≤64→ ∀ks,
 vgoL W ⟨h131,[.tmp 10, .tmp 11],0⟩ [1,2,3,4,5,12,13,14] c131L0 (.blk 2 [1,2,3,4,5,12,13]::ks) [(1, .fz b (.sl nl 0 1 (ivs xs))),(2, .x (.int .i64 k)),(3, .fz b' (.sl nl' 0 1 (ivs w))),(4, .x (.int .i64 t)),(5, .own 0 []),(12, .own 1 []),(13, .x (.int .i64 j)),(14, .x (.int .i64 i))] [T0, .sl 1 22 1 (lls 2 (prL acc))]=
  vgo W ⟨h131,[.tmp 10, .tmp 11],0⟩ ks (VFr.of [(1, .fz b (.sl nl 0 1 (ivs xs))),(2, .x (.int .i64 k)),(3, .fz b' (.sl nl' 0 1 (ivs w))),(4, .x (.int .i64 t)),(5, .own 0 []),(12, .own 1 []),(13, .x (.int .i64 j))]) [T0, .sl 1 22 1 (lls 2 (prL ((acc++blkN (t-j*(k-1)) j i).take 64)))]:=by
 have hb:j*(k-1)≤10000:=Nat.le_trans (Nat.mul_le_mul hj (show k-1≤100 by omega)) (by decide)
 have hm:(j:Int)*((k:Int)-1)=((j*(k-1):Nat):Int):=by rw[Int.natCast_mul];congr 1;omega
 generalize j*(k-1)=w at*
 intro n
 induction n with
 |zero=>
  intro i acc hi hn ha ks
  have h1: ¬(i:Int)+(w:Int)<(t:Int):=by omega
  rw[ge3 (by omega),List.append_nil,List.take_of_length_le ha,sb5 c131L0.eq_def]
  simp(disch:=first|omega|fail) only[push_cast,seval,ui5,lu7,y81,bj9,wrap64,dec_lt,cw6,nl3,qc6,mr8,nb8,if_pos,if_neg,hm,cw6 (Int.not_lt.1 h1)]
 |succ n IH=>
  intro i acc hi hn ha ks
  have h1:(i:Int)+(w:Int)<(t:Int):=by omega
  have hlen:=ht6 acc
  by_cases h2:acc.length<64
  ·have ih:=IH (i+1) (acc++[(i,j)]) (by omega) (by omega) (by rw[List.length_append,List.length_singleton];omega) ks
   have hsn:lls 2 (prL acc)++[Tree.sl 2 3 1 [Tree.v (.int .i64 i),Tree.v (.int .i64 j)]]=lls 2 (prL (acc++[(i,j)])):=by
    unfold prL
    rw[List.map_append,show([(i,j)]:List (Nat×Nat)).map (fun p=>[(p.1:Int),(p.2:Int)])=[[(i:Int),(j:Int)]]from rfl,←ng3];rfl
   rw[Int.natCast_add,Int.natCast_one,List.append_assoc,List.singleton_append]at ih
   rw[be7 (by omega),←ih,sb5 c131L0.eq_def]
   simp(disch:=first|omega|fail) only[push_cast,seval,ui5,lu7,y81,bj9,wrap64,dec_lt,cw6,nl3,qc6,mr8,nb8,if_pos,if_neg,hm,dec_lt h1,hlen,hsn]
  ·have h2': ¬(acc.length:Int)<64:=by omega
   have htk:(acc++blkN (t-w) j i).take 64=acc:=by rw[List.take_append_of_le_length (by omega),List.take_of_length_le ha]
   rw[htk,sb5 c131L0.eq_def]
   simp(disch:=first|omega|fail) only[push_cast,seval,ui5,lu7,y81,bj9,wrap64,dec_lt,cw6,nl3,qc6,mr8,nb8,if_pos,if_neg,hm,dec_lt h1,hlen,cw6 (Int.not_lt.1 h2')]
theorem wf1(hk2:2≤k)(hk:k≤100)(ht:t≤100): ∀(n j:Nat) (acc:List (Nat×Nat)),j+n=t+1→acc.length≤64→ ∀ks,
 vgoL W ⟨h131,[.tmp 10, .tmp 11],0⟩ [1,2,3,4,5,12,13] c131L1 (.blk 0 [1,3,5,12]::ks) [(1, .fz b (.sl nl 0 1 (ivs xs))),(2, .x (.int .i64 k)),(3, .fz b' (.sl nl' 0 1 (ivs w))),(4, .x (.int .i64 t)),(5, .own 0 []),(12, .own 1 []),(13, .x (.int .i64 j))] [T0, .sl 1 22 1 (lls 2 (prL acc))]=
  vgo W ⟨h131,[.tmp 10, .tmp 11],0⟩ ks (VFr.of [(1, .fz b (.sl nl 0 1 (ivs xs))),(3, .fz b' (.sl nl' 0 1 (ivs w))),(5, .own 0 []),(12, .own 1 [])]) [T0, .sl 1 22 1 (lls 2 (prL ((acc++monT (k-1) t n j).take 64)))]:=by
 intro n
 induction n with
 |zero=>
  intro j acc hj ha ks
  have hb:j*(k-1)≤10100:=Nat.le_trans (Nat.mul_le_mul (show j≤101 by omega) (show k-1≤100 by omega)) (by decide)
  have hb2:j*1≤j*(k-1):=Nat.mul_le_mul_left _ (by omega)
  have hm:(j:Int)*((k:Int)-1)=((j*(k-1):Nat):Int):=by rw[Int.natCast_mul];congr 1;omega
  rw[monT,List.append_nil,List.take_of_length_le ha]
  generalize j*(k-1)=v at*
  have h1: ¬(v:Int)<(t:Int):=by omega
  rw[sb5 c131L1.eq_def]
  simp(disch:=first|omega|fail) only[push_cast,seval,ui5,lu7,y81,bj9,wrap64,dec_lt,cw6,nl3,qc6,mr8,nb8,if_pos,if_neg,hm,cw6 (Int.not_lt.1 h1)]
 |succ n IH=>
  intro j acc hj ha ks
  have hb:j*(k-1)≤10100:=Nat.le_trans (Nat.mul_le_mul (show j≤101 by omega) (show k-1≤100 by omega)) (by decide)
  have hm:(j:Int)*((k:Int)-1)=((j*(k-1):Nat):Int):=by rw[Int.natCast_mul];congr 1;omega
  rw[monT]
  by_cases h1:j*(k-1)<t
  ·rw[if_pos h1]
   have ih:=IH (j+1) ((acc++blkN (t-j*(k-1)) j 0).take 64) (by omega) (by rw[List.length_take];omega) ks
   have htt:(((acc++blkN (t-j*(k-1)) j 0).take 64++monT (k-1) t n (j+1))).take 64=(acc++(blkN (t-j*(k-1)) j 0++monT (k-1) t n (j+1))).take 64:=by
    rw[←List.append_assoc]
    generalize acc++blkN (t-j*(k-1)) j 0=A
    generalize monT (k-1) t n (j+1)=B
    have h64:64-min 64 A.length=64-A.length:=by omega
    rw[List.take_append,List.take_append,List.take_take,List.length_take,Nat.min_self,h64]
   rw[htt]at ih
   have e:=fun ks=>xt6 (b:=b) (nl:=nl) (b':=b') (nl':=nl') (xs:=xs) (w:=w) (T0:=T0) hk2 hk ht (j:=j) (by omega) (t-j*(k-1)) 0 acc (by omega) (by omega) ha ks
   simp only[Int.natCast_zero]at e
   generalize j*(k-1)=v at*
   have h1':(v:Int)<(t:Int):=by omega
   rw[Int.natCast_add,Int.natCast_one]at ih
   rw[←ih,sb5 c131L1.eq_def]
   simp(disch:=first|omega|fail) only[push_cast,seval,ui5,lu7,y81,bj9,wrap64,dec_lt,cw6,nl3,qc6,mr8,nb8,if_pos,if_neg,hm,dec_lt h1']
   rw[e]
   simp(disch:=first|omega|fail) only[push_cast,seval,ui5,lu7,y81,bj9,wrap64,dec_lt,cw6,nl3,qc6,mr8,nb8,if_pos,if_neg]
  ·rw[if_neg h1,List.append_nil,List.take_of_length_le ha]
   generalize j*(k-1)=v at*
   have h1': ¬(v:Int)<(t:Int):=by omega
   rw[sb5 c131L1.eq_def]
   simp(disch:=first|omega|fail) only[push_cast,seval,ui5,lu7,y81,bj9,wrap64,dec_lt,cw6,nl3,qc6,mr8,nb8,if_pos,if_neg,hm,cw6 (Int.not_lt.1 h1')]
end
end Go.Proofs.YtlhmdmedagjmnaaGreat
namespace Go.Proofs.YtlhmdmedagjmnaaGreat
open Go.Am Go.Vm Go.Alg
section
variable {q:Int} [IsFld q]
def rj3(x y:El q)(M:List (Nat×Nat)):List (El q):=M.map fun p=>pw x p.1*pw y p.2
def sudM(X Y:List (El q))(M:List (Nat×Nat)):List (List (El q)):=(X.zip Y).map fun z=>rj3 z.1 z.2 M
theorem oe2(x y:El q)(M:List (Nat×Nat)):(rj3 x y M).length=M.length:=by simp[rj3]
theorem ko5(x y:El q)(M:List (Nat×Nat))(p:Nat×Nat):vs (rj3 x y (M++[p]))=vs (rj3 x y M)++[fmul q (pw x p.1).v (pw y p.2).v]:=by
 unfold rj3;rw[List.map_append,gq8];rfl
theorem cx8{α:Type}{l:List α}{n:Nat}{a:α}(h:l[n]? =some a):l.take (n+1)=l.take n++[a]:=by
 rw[List.take_add_one,h];rfl
variable {X Y:List (El q)} {M:List (Nat×Nat)} {b b':Bool} {nl nl' nM:Nat}
def Cut(k:Nat)(S:AV)(L M:List (Nat×Nat)):Prop:=S= .own k []∧L=M∨S= .sub k [] 2 0 64∧M=L.take 64∧64<L.length∧L.length≤1000
theorem Cut.at'{k:Nat}{S:AV}{L M:List (Nat×Nat)}(h:Cut k S L M){n:Nat}{p:Nat×Nat}(hp:M[n]? =some p):L[n]? =some p:=by
 rcases h with⟨_,rfl⟩|⟨_,rfl,_,_⟩
 ·exact hp
 ·rw[List.getElem?_take]at hp
  split at hp
  ·exact hp
  ·cases hp
theorem Cut.len{k:Nat}{S:AV}{L M:List (Nat×Nat)}(h:Cut k S L M)(hM:M.length≤64):L.length≤1000:=by
 rcases h with⟨_,rfl⟩|⟨_,rfl,_,h⟩
 ·omega
 ·exact h
theorem Cut.eq{k:Nat}{S:AV}{L M:List (Nat×Nat)}(h:Cut k S L M):L.length=M.length∨M.length=64:=by
 rcases h with⟨_,rfl⟩|⟨_,rfl,h,_⟩
 ·exact .inl rfl
 ·exact .inr (by rw[List.length_take];omega)
variable {L:List (Nat×Nat)} {S:AV}
theorem vy7{x y:El q}{i:Nat}(hy:Y[i]? =some y)(hM:M.length≤64)(hS:Cut 0 S L M)(hY:Y.length≤64)(hp: ∀p∈M,p.1≤100∧p.2≤100){T1:Tree}: ∀(d n:Nat),n+d=M.length→ ∀ks,
 vgoL W ⟨h132,[.tmp 10, .tmp 11],0⟩ [0,3,13,14,16,17,18,19,60,61,62,67,68,69] c132L0 (.blk 2 [0,3,13,14,16,19,60,61,62]::ks) [(0, .x (.int .i64 q)),(3, .fz b' (.sl nl' 0 1 (ivs (vs Y)))),(13,S),(14, .fz true (pF q)),(16, .own 1 []),(17, .x (.int .i64 i)),(18, .x (.int .i64 x.v)),(19, .own 2 []),(60, .fz b (.sl nl 0 1 (ivs (vs X)))),(61, .x (.int .i64 X.length)),(62, .x (.int .i64 i)),(67,S),(68, .x (.int .i64 M.length)),(69, .x (.int .i64 n))] [.sl nM 193 2 (prs L),T1, .sl 1 3 1 (ivs (vs (rj3 x y (M.take n))))]=
  vgo W ⟨h132,[.tmp 10, .tmp 11],0⟩ ks (VFr.of [(0, .x (.int .i64 q)),(3, .fz b' (.sl nl' 0 1 (ivs (vs Y)))),(13,S),(14, .fz true (pF q)),(16, .own 1 []),(19, .own 2 []),(60, .fz b (.sl nl 0 1 (ivs (vs X)))),(61, .x (.int .i64 X.length)),(62, .x (.int .i64 i))]) [.sl nM 193 2 (prs L),T1, .sl 1 3 1 (ivs (vs (rj3 x y M)))]
 |0,n,hn,ks=>by
  rcases hS with⟨rfl,hLM⟩|⟨rfl,hLM,hS1,hS2⟩
  ·obtain rfl:=hLM.symm
   rw[List.take_of_length_le (by omega),sb5 c132L0.eq_def]
   simp(disch:=first|omega|fail) only[push_cast,seval,ui5,lu7,y81,bj9,wrap64,dec_lt,cw6,nl3,qc6,mr8,nb8,if_pos,if_neg]
  ·have hM64:(M.length:Int)=64:=by rw[hLM,List.length_take];omega
   rw[List.take_of_length_le (by omega),sb5 c132L0.eq_def]
   simp(disch:=first|omega|fail) only[push_cast,seval,ui5,lu7,y81,bj9,wrap64,dec_lt,cw6,nl3,qc6,mr8,nb8,if_pos,if_neg]
 |d+1,n,hn,ks=>by
  have ih:=vy7 (x:=x) hy hM hS hY hp (T1:=T1) d (n+1) (by omega) ks
  obtain⟨p,hpn⟩:=ge6 (l:=M) (i:=n) (by omega)
  obtain⟨p1,p2⟩:=hp p (List.mem_of_getElem? hpn)
  obtain⟨h1,h2⟩:=h94 (hS.at' hpn)
  have h3:=iat (show(vs Y)[i]? =some y.v by unfold vs;rw[List.getElem?_map,hy];rfl)
  have hl:=tp6 L
  have hLl:L.length≤1000:=hS.len hM
  have hML:=hS.eq
  have hil:i<Y.length:=(List.getElem?_eq_some_iff.1 hy).1
  have ex:=v_pw x p.1
  have ey:=v_pw y p.2
  have hs:=ko5 x y (M.take n) p
  have hsl:=oe2 x y (M.take n)
  rw[List.length_take]at hsl
  rw[cx8 hpn,hs,Int.natCast_add,Int.natCast_one]at ih
  rcases hS with⟨rfl,hLM⟩|⟨rfl,hLM,hS1,hS2⟩
  ·obtain rfl:=hLM.symm
   rw[←ih,sb5 c132L0.eq_def]
   generalize rj3 x y (M.take n)=Z at*
   simp(disch:=first|omega|fail) only[push_cast,seval,ui5,lu7,y81,bj9,wrap64,dec_lt,cw6,nl3,qc6,mr8,nb8,if_pos,if_neg,h1,h2,h3,hl,ex,ey]
  ·have hM64:(M.length:Int)=64:=by rw[hLM,List.length_take];omega
   rw[←ih,sb5 c132L0.eq_def]
   generalize rj3 x y (M.take n)=Z at*
   simp(disch:=first|omega|fail) only[push_cast,seval,ui5,lu7,y81,bj9,wrap64,dec_lt,cw6,nl3,qc6,mr8,nb8,if_pos,if_neg,h1,h2,h3,hl,ex,ey]
theorem d48(hY:Y.length=X.length):(sudM X Y M).length=X.length:=by unfold sudM;rw[List.length_map,List.length_zip,hY,Nat.min_self]
theorem vz2{i:Nat}{x y:El q}(hx:X[i]? =some x)(hy:Y[i]? =some y):(sudM X Y M)[i]? =some (rj3 x y M):=by
 unfold sudM
 rw[List.getElem?_map,List.zip,List.getElem?_zipWith,hx,hy];rfl
theorem s09(hM:M.length≤64)(hS:Cut 0 S L M)(hYX:Y.length=X.length)(hX:X.length≤64)(hp: ∀p∈M,p.1≤100∧p.2≤100): ∀(d i:Nat),i+d=X.length→ ∀ks,
 vgoL W ⟨h132,[.tmp 10, .tmp 11],0⟩ [0,3,13,14,16,60,61,62] c132L1 (.blk 0 [0,13,16]::ks) [(0, .x (.int .i64 q)),(3, .fz b' (.sl nl' 0 1 (ivs (vs Y)))),(13,S),(14, .fz true (pF q)),(16, .own 1 []),(60, .fz b (.sl nl 0 1 (ivs (vs X)))),(61, .x (.int .i64 X.length)),(62, .x (.int .i64 i))] [.sl nM 193 2 (prs L), .sl 1 22 1 (lls 2 (((sudM X Y M).take i).map vs))]=
  vgo W ⟨h132,[.tmp 10, .tmp 11],0⟩ ks (VFr.of [(0, .x (.int .i64 q)),(13,S),(16, .own 1 [])]) [.sl nM 193 2 (prs L), .sl 1 22 1 (lls 2 ((sudM X Y M).map vs))]
 |0,i,hi,ks=>by
  have h1:=d48 (M:=M) hYX
  rcases hS with⟨rfl,hLM⟩|⟨rfl,hLM,hS1,hS2⟩
  ·obtain rfl:=hLM.symm
   rw[List.take_of_length_le (by omega),sb5 c132L1.eq_def]
   simp(disch:=first|omega|fail) only[push_cast,seval,ui5,lu7,y81,bj9,wrap64,dec_lt,cw6,nl3,qc6,mr8,nb8,if_pos,if_neg]
  ·have hM64:(M.length:Int)=64:=by rw[hLM,List.length_take];omega
   rw[List.take_of_length_le (by omega),sb5 c132L1.eq_def]
   simp(disch:=first|omega|fail) only[push_cast,seval,ui5,lu7,y81,bj9,wrap64,dec_lt,cw6,nl3,qc6,mr8,nb8,if_pos,if_neg]
 |d+1,i,hi,ks=>by
  have ih:=s09 hM hS hYX hX hp d (i+1) (by omega) ks
  obtain⟨x,hx⟩:=ge6 (l:=X) (i:=i) (by omega)
  obtain⟨y,hy⟩:=ge6 (l:=Y) (i:=i) (by omega)
  have h1:=iat (show(vs X)[i]? =some x.v by unfold vs;rw[List.getElem?_map,hx];rfl)
  have h2:=vz2 (M:=M) hx hy
  have h3:=d48 (M:=M) hYX
  have hsn:=ng3 2 (((sudM X Y M).take i).map vs) (vs (rj3 x y M))
  have hln:(((sudM X Y M).take i).map vs).length≤64:=by rw[List.length_map,List.length_take];omega
  have hl:=tp6 L
  have hLl:L.length≤1000:=hS.len hM
  have hML:=hS.eq
  have hd2:2*(M.length:Int)/2=M.length:=by omega
  have e:=fun T1 ks=>vy7 (b:=b) (nl:=nl) (b':=b') (nl':=nl') (nM:=nM) (X:=X) (x:=x) hy hM hS (by omega) hp (T1:=T1) M.length 0 (by omega) ks
  simp only[Int.natCast_zero,List.take_zero,show vs (rj3 x y [])=[]from rfl,show ivs []=[]from rfl]at e
  rw[cx8 h2,List.map_append,Int.natCast_add,Int.natCast_one]at ih
  rcases hS with⟨rfl,hLM⟩|⟨rfl,hLM,hS1,hS2⟩
  ·obtain rfl:=hLM.symm
   rw[←ih,sb5 c132L1.eq_def]
   generalize ((sudM X Y M).take i).map vs=Z at*
   simp(disch:=first|omega|fail) only[push_cast,seval,ui5,lu7,y81,bj9,wrap64,dec_lt,cw6,nl3,qc6,mr8,nb8,if_pos,if_neg,h1,hl,hd2]
   rw[e]
   simp(disch:=first|omega|fail) only[push_cast,seval,ui5,lu7,y81,bj9,wrap64,dec_lt,cw6,nl3,qc6,mr8,nb8,if_pos,if_neg,hsn]
  ·have hM64:(M.length:Int)=64:=by rw[hLM,List.length_take];omega
   rw[←ih,sb5 c132L1.eq_def]
   generalize ((sudM X Y M).take i).map vs=Z at*
   simp only[hM64]at e
   simp(disch:=first|omega|fail) only[push_cast,seval,ui5,lu7,y81,bj9,wrap64,dec_lt,cw6,nl3,qc6,mr8,nb8,if_pos,if_neg,h1,hl]
   rw[e]
   simp(disch:=first|omega|fail) only[push_cast,seval,ui5,lu7,y81,bj9,wrap64,dec_lt,cw6,nl3,qc6,mr8,nb8,if_pos,if_neg,hsn]
def putG(G:List (List (El q)))(j:Nat)(v:El q):List (List (El q)):=G.set j (G.getD j []++[v])
def stepG(G:List (List (El q)))(j:Nat)(v:El q):List (List (El q)):=putG (if j=G.length then G++[[]]else G) j v
def grpG(a:List (El q)):List (Nat×Nat)→Nat→List (List (El q))→List (List (El q))
 | [],_,G=>G
 |p::l,n,G=>grpG a l (n+1) (stepG G p.2 (wf a n))
theorem cl3(G:List (List (El q)))(j:Nat)(v:El q):(stepG G j v).length=if j=G.length then G.length+1 else G.length:=by
 unfold stepG putG
 rw[List.length_set]
 split
 ·simp
 ·rfl
theorem ph5(G:List (List (El q)))(v:El q):putG (G++[[]]) G.length v=G++[[v]]:=by
 unfold putG
 simp[List.getD_eq_getElem?_getD]
theorem ht0{G:List (List (El q))}{j:Nat}{r:List (El q)}(v:El q)(h:G[j]? =some r):putG G j v=G.set j (r++[v]):=by
 unfold putG
 rw[List.getD_eq_getElem?_getD,h];rfl
theorem ep3{z:Nat}{A:List (Nat×List (El q))}{a:Nat×List (El q)}(hA:A[0]? =some a)(hA2:A.length≤100)(hal:a.2.length=M.length)(hM:M.length≤64)(hS:Cut 2 S L M): ∀(d n:Nat) (G:List (List (El q))),n+d=M.length→gdL (M.drop n) G.length→G.length≤n→(∀r∈G,r.length≤n)→ ∀ks,
 vgoL W ⟨h132,[.tmp 10, .tmp 11],0⟩ [22,24,106,107,108] c132L2 (.blk 4 [24]::ks) [(22, .own 0 []),(24, .own 1 []),(106,S),(107, .x (.int .i64 M.length)),(108, .x (.int .i64 n))] [.sl z 22 1 (lls 2 (pvR A)), .sl 1 22 1 (lls 2 (G.map vs)), .sl nM 193 2 (prs L)]=
  vgo W ⟨h132,[.tmp 10, .tmp 11],0⟩ ks (VFr.of [(24, .own 1 [])]) [.sl z 22 1 (lls 2 (pvR A)), .sl 1 22 1 (lls 2 ((grpG a.2 (M.drop n) n G).map vs)), .sl nM 193 2 (prs L)]
 |0,n,G,hn,hg,hG,hr,ks=>by
  rcases hS with⟨rfl,hLM⟩|⟨rfl,hLM,hS1,hS2⟩
  ·obtain rfl:=hLM.symm
   rw[oh9 (by omega),grpG,sb5 c132L2.eq_def]
   simp(disch:=first|omega|fail) only[push_cast,seval,ui5,lu7,y81,bj9,wrap64,dec_lt,cw6,nl3,qc6,mr8,nb8,if_pos,if_neg]
  ·have hM64:(M.length:Int)=64:=by rw[hLM,List.length_take];omega
   rw[oh9 (by omega),grpG,sb5 c132L2.eq_def]
   simp(disch:=first|omega|fail) only[push_cast,seval,ui5,lu7,y81,bj9,wrap64,dec_lt,cw6,nl3,qc6,mr8,nb8,if_pos,if_neg]
 |d+1,n,G,hn,hg,hG,hr,ks=>by
  obtain⟨p,hpn⟩:=ge6 (l:=M) (i:=n) (by omega)
  obtain⟨h1,h2⟩:=h94 (hS.at' hpn)
  have hAl:=nu3 A
  have hA0:0<A.length:=(List.getElem?_eq_some_iff.1 hA).1
  have h3:=x08 hA
  have h4:=iva (l:=a.2) (i:=n) (by omega)
  have hl:=tp6 L
  have hLl:L.length≤1000:=hS.len hM
  have hML:=hS.eq
  have hGl:(G.map vs).length=G.length:=List.length_map ..
  rw[i62 hpn]at hg⊢
  obtain⟨hg1,hg2⟩:=hg
  have hsl:=cl3 G p.2 (wf a.2 n)
  have ih:=ep3 (z:=z) hA hA2 hal hM hS d (n+1) (stepG G p.2 (wf a.2 n)) (by omega) (by rw[hsl];exact hg2) (by rw[hsl];split<;>omega) (by
   intro r hr2
   unfold stepG at hr2
   by_cases hj:p.2=G.length
   ·rw[if_pos hj,hj,ph5]at hr2
    rcases List.mem_append.1 hr2 with h|h
    ·have:=hr r h;omega
    ·rw[List.mem_singleton]at h
     subst h;simp
   ·rw[if_neg hj]at hr2
    obtain⟨r0,hr0⟩:=ge6 (l:=G) (i:=p.2) (by omega)
    rw[ht0 _ hr0]at hr2
    rcases List.mem_or_eq_of_mem_set hr2 with h|h
    ·have:=hr r h;omega
    ·have:=hr r0 (List.mem_of_getElem? hr0)
     subst h;rw[List.length_append,List.length_singleton];omega) ks
  rw[grpG]
  rw[Int.natCast_add,Int.natCast_one]at ih
  unfold stepG at ih⊢
  by_cases hj:p.2=G.length
  ·have hs:(putG (G++[[]]) p.2 (wf a.2 n)).map vs=G.map vs++[[(wf a.2 n).v]]:=by rw[hj,ph5,List.map_append];rfl
   rw[if_pos hj]at ih⊢
   rw[hs]at ih
   rcases hS with⟨rfl,hLM⟩|⟨rfl,hLM,hS1,hS2⟩
   ·obtain rfl:=hLM.symm
    rw[←ih,sb5 c132L2.eq_def]
    generalize grpG a.2 (M.drop (n+1)) (n+1) (putG (G++[[]]) p.2 (wf a.2 n))=Z at*
    generalize G.map vs=U at*
    have h7:(lls 2 U++[Tree.v (.slice none 0 0)])[G.length]? =some (Tree.v (.slice none 0 0)):=by
     rw[List.getElem?_append_right (by rw[qf0,hGl];omega),qf0,hGl,Nat.sub_self];rfl
    have h8: ∀(T:Tree),(lls 2 U++[Tree.v (.slice none 0 0)]).set G.length T=lls 2 U++[T]:=fun T=>by
     rw[List.set_append_right _ _ (by rw[qf0,hGl];omega),qf0,hGl,Nat.sub_self];rfl
    have hsn:lls 2 U++[Tree.sl 2 3 1 [.v (.int .i64 (wf a.2 n).v)]]=lls 2 (U++[[(wf a.2 n).v]]):=ng3 2 U [(wf a.2 n).v]
    simp(disch:=first|omega|fail) only[push_cast,seval,ui5,lu7,y81,bj9,wrap64,dec_lt,cw6,nl3,qc6,mr8,nb8,if_pos,if_neg,h1,h2,h3,h4,hl,hAl,hGl,hj,h7,h8,List.set_set,hsn]
   ·have hM64:(M.length:Int)=64:=by rw[hLM,List.length_take];omega
    rw[←ih,sb5 c132L2.eq_def]
    generalize grpG a.2 (M.drop (n+1)) (n+1) (putG (G++[[]]) p.2 (wf a.2 n))=Z at*
    generalize G.map vs=U at*
    have h7:(lls 2 U++[Tree.v (.slice none 0 0)])[G.length]? =some (Tree.v (.slice none 0 0)):=by
     rw[List.getElem?_append_right (by rw[qf0,hGl];omega),qf0,hGl,Nat.sub_self];rfl
    have h8: ∀(T:Tree),(lls 2 U++[Tree.v (.slice none 0 0)]).set G.length T=lls 2 U++[T]:=fun T=>by
     rw[List.set_append_right _ _ (by rw[qf0,hGl];omega),qf0,hGl,Nat.sub_self];rfl
    have hsn:lls 2 U++[Tree.sl 2 3 1 [.v (.int .i64 (wf a.2 n).v)]]=lls 2 (U++[[(wf a.2 n).v]]):=ng3 2 U [(wf a.2 n).v]
    simp(disch:=first|omega|fail) only[push_cast,seval,ui5,lu7,y81,bj9,wrap64,dec_lt,cw6,nl3,qc6,mr8,nb8,if_pos,if_neg,h1,h2,h3,h4,hl,hAl,hGl,hj,h7,h8,List.set_set,hsn]
  ·obtain⟨r0,hr0⟩:=ge6 (l:=G) (i:=p.2) (by omega)
   have hr0l:=hr r0 (List.mem_of_getElem? hr0)
   have h5:(G.map vs)[p.2]? =some (vs r0):=by rw[List.getElem?_map,hr0];rfl
   have hs:(putG G p.2 (wf a.2 n)).map vs=(G.map vs).set p.2 (vs r0++[(wf a.2 n).v]):=by rw[ht0 _ hr0,List.map_set,gq8];rfl
   rw[if_neg hj]at ih⊢
   rw[hs]at ih
   have h6:=th8 (nl:=2) h5
   rcases hS with⟨rfl,hLM⟩|⟨rfl,hLM,hS1,hS2⟩
   ·obtain rfl:=hLM.symm
    rw[←ih,sb5 c132L2.eq_def]
    generalize grpG a.2 (M.drop (n+1)) (n+1) (putG G p.2 (wf a.2 n))=Z at*
    generalize G.map vs=U at*
    have hj': ¬(p.2:Int)=(U.length:Int):=by omega
    simp(disch:=first|omega|fail) only[push_cast,seval,ui5,lu7,y81,bj9,wrap64,dec_lt,cw6,nl3,qc6,mr8,nb8,if_pos,if_neg,h1,h2,h3,h4,hl,hAl,nb8 hj',h6,List.set_set]
   ·have hM64:(M.length:Int)=64:=by rw[hLM,List.length_take];omega
    rw[←ih,sb5 c132L2.eq_def]
    generalize grpG a.2 (M.drop (n+1)) (n+1) (putG G p.2 (wf a.2 n))=Z at*
    generalize G.map vs=U at*
    have hj': ¬(p.2:Int)=(U.length:Int):=by omega
    simp(disch:=first|omega|fail) only[push_cast,seval,ui5,lu7,y81,bj9,wrap64,dec_lt,cw6,nl3,qc6,mr8,nb8,if_pos,if_neg,h1,h2,h3,h4,hl,hAl,nb8 hj',h6,List.set_set]
def sudA(X Y:List (El q))(K t:Nat):List (Nat×List (El q)):=zt5 (monL (K-1) t).length (sudM X Y (monL (K-1) t))
def sudG(X Y:List (El q))(K t:Nat)(a:List (El q)):List (List (El q)):=grpG a (monL (K-1) t) 0 []
theorem wc9(hY:Y.length=X.length): ∀r∈sudM X Y M,r.length=M.length:=fun r hr=>by
 unfold sudM at hr
 obtain⟨z,_,rfl⟩:=List.mem_map.1 hr
 exact oe2 ..
theorem c74{N:List (List (El q))}{n:Nat}(hN: ∀r∈N,r.length=n):(∀a∈zt5 n N,a.2.length=n)∧(zt5 n N).length≤n:=by
 unfold zt5
 have hr:=sg4 n (redR N) n 0
 have hl:=to9 n (redR N) n 0
 obtain⟨_,r2,_⟩:=bi2 hr
 exact⟨r2,by have:=ew4 hr;omega⟩
theorem mp7{K t:Nat}(he:ky7 q (vs X) K (vs Y)=0)(hYX:Y.length=X.length)(hX:X.length≤64)(hK:K≤X.length)(h2:2≤K)(ht:1≤t)(ht2:t≤X.length):
 o24 W 132 [.x (.int .i64 q), .fz b (.sl nl 0 1 (ivs (vs X))), .x (.int .i64 K), .fz b' (.sl nl' 0 1 (ivs (vs Y))), .x (.int .i64 t)] []=
  match(sudA X Y K t)[0]? with
  |none=>some (.tup [.own 0 [], .x (.int .i64 9)],[.sl 1 22 1 []],[])
  |some a=>some (.tup [.own 0 [], .x (.int .i64 0)],[.sl 1 22 1 (lls 2 ((sudG X Y K t a.2).map vs))],[]):=by
 have e1:=fun b nl b' nl'=>di2 (q:=q) (b:=b) (nl:=nl) (b':=b') (nl':=nl') (xs:=vs X) (w:=vs Y) (k:=K) (by rw[fi2];omega) (by rw[fi2];omega)
 simp only[he]at e1
 obtain⟨L,hL1,hL2,e2⟩:=av4 (k:=K) (t:=t) h2 (by omega) (by omega)
 have hM:=da6 (K-1) t
 have hM0:=mg3 (k1:=K-1) ht
 have hp: ∀p∈monL (K-1) t,p.1≤100∧p.2≤100:=fun p hp=>by have:=rz0 p hp;omega
 have hg:=gn5 (K-1) t
 unfold sudA sudG
 generalize monL (K-1) t=M at*
 have e:=fun S hS nM ks=>s09 (b:=b) (nl:=nl) (b':=b') (nl':=nl') (nM:=nM) (S:=S) (L:=L) hM hS hYX hX hp X.length 0 (by omega) ks
 simp only[Int.natCast_zero,List.take_zero,List.map_nil,x25]at e
 have hXl:(sudM X Y M).length=X.length:=d48 hYX
 have e3:=fun b nl nr=>ss9 (b:=b) (nl:=nl) (nr:=nr) (N:=sudM X Y M) (n:=M.length) (by omega) (by omega) (wc9 hYX) hM0 hM
 obtain⟨hA1,hA2⟩:=c74 (wc9 (X:=X) (Y:=Y) (M:=M) hYX)
 generalize zt5 M.length (sudM X Y M)=A at*
 generalize (if ez9 M.length (redR (sudM X Y M)) M.length 0=[]then 1 else 0)=z at*
 have hAl:=nu3 A
 have hl:=tp6 L
 have hlM:=tp6 M
 have hd2:2*(M.length:Int)/2=M.length:=by omega
 have hd1:2*(L.length:Int)/2=L.length:=by omega
 have hk2: ¬(K:Int)<2:=by omega
 have ht3: ¬(t:Int)<1:=by omega
 have ht4: ¬(X.length:Int)<(t:Int):=by omega
 rw[o10 rfl T132 rfl]
 unfold F132 c132
 simp(disch:=first|omega|fail) only[push_cast,seval,ui5,lu7,y81,bj9,wrap64,dec_lt,cw6,nl3,qc6,mr8,nb8,if_pos,if_neg,e1,e2,hl,hd1]
 by_cases h64:L.length≤64
 ·have hLM:L=M:=by rw[←hL1,List.take_of_length_le h64]
  subst hLM
  simp(disch:=first|omega|fail) only[push_cast,seval,ui5,lu7,y81,bj9,wrap64,dec_lt,cw6,nl3,qc6,mr8,nb8,if_pos,if_neg]
  rw[e (.own 0 []) (.inl ⟨rfl,rfl⟩)]
  cases hA:A[0]? with
  |none=>
   have hA0:A.length=0:=by have:=List.getElem?_eq_none_iff.1 hA;omega
   simp(disch:=first|omega|fail) only[push_cast,seval,ui5,lu7,y81,bj9,wrap64,dec_lt,cw6,nl3,qc6,mr8,nb8,if_pos,if_neg,e3,hAl,hA0]
  |some a=>
   have hA0: ¬(A.length:Int)=0:=by have:=(List.getElem?_eq_some_iff.1 hA).1;omega
   have e5:=fun ks=>ep3 (nM:=1) (z:=z) (S:= .own 2 []) hA (by omega) (hA1 a (List.mem_of_getElem? hA)) hM (.inl ⟨rfl,rfl⟩) L.length 0 [] (by omega) (by rw[List.drop_zero];exact hg) (by simp) (fun r hr=>by cases hr) ks
   simp only[Int.natCast_zero,List.drop_zero,List.map_nil,x25]at e5
   simp(disch:=first|omega|fail) only[push_cast,seval,ui5,lu7,y81,bj9,wrap64,dec_lt,cw6,nl3,qc6,mr8,nb8,if_pos,if_neg,e3,hAl,nb8 hA0,hl,hd2]
   rw[e5]
   simp(disch:=first|omega|fail) only[push_cast,seval,ui5,lu7,y81,bj9,wrap64,dec_lt,cw6,nl3,qc6,mr8,nb8,if_pos,if_neg]
 ·have h64':64<L.length:=by omega
  simp(disch:=first|omega|fail) only[push_cast,seval,ui5,lu7,y81,bj9,wrap64,dec_lt,cw6,nl3,qc6,mr8,nb8,if_pos,if_neg,hl]
  rw[e (.sub 0 [] 2 0 64) (.inr ⟨rfl,hL1.symm,h64',by omega⟩)]
  cases hA:A[0]? with
  |none=>
   have hA0:A.length=0:=by have:=List.getElem?_eq_none_iff.1 hA;omega
   simp(disch:=first|omega|fail) only[push_cast,seval,ui5,lu7,y81,bj9,wrap64,dec_lt,cw6,nl3,qc6,mr8,nb8,if_pos,if_neg,e3,hAl,hA0]
  |some a=>
   have hA0: ¬(A.length:Int)=0:=by have:=(List.getElem?_eq_some_iff.1 hA).1;omega
   have e5:=fun nM ks=>ep3 (nM:=nM) (z:=z) (S:= .sub 2 [] 2 0 64) (L:=L) hA (by omega) (hA1 a (List.mem_of_getElem? hA)) hM (.inr ⟨rfl,hL1.symm,h64',by omega⟩) M.length 0 [] (by omega) (by rw[List.drop_zero];exact hg) (by simp) (fun r hr=>by cases hr) ks
   have hM64:(M.length:Int)=64:=by rw[←hL1,List.length_take];omega
   simp only[Int.natCast_zero,List.drop_zero,List.map_nil,x25,hM64]at e5
   simp(disch:=first|omega|fail) only[push_cast,seval,ui5,lu7,y81,bj9,wrap64,dec_lt,cw6,nl3,qc6,mr8,nb8,if_pos,if_neg,e3,hAl,nb8 hA0,hl]
   rw[e5]
   simp(disch:=first|omega|fail) only[push_cast,seval,ui5,lu7,y81,bj9,wrap64,dec_lt,cw6,nl3,qc6,mr8,nb8,if_pos,if_neg]
end
section
variable {q:Int} {b b':Bool} {nl nl':Nat} {xs w:List Int} {k t:Int}
def sudE(q:Int)(xs:List Int)(k:Int)(w:List Int)(t:Int):Int:=if ky7 q xs k w=0 then(if k<2∨t<1∨(xs.length:Int)<t then 6 else 0)else ky7 q xs k w
theorem zb3(hx:xs.length≤9223372036854775807)(hw:w.length≤9223372036854775807)(he:sudE q xs k w t≠0):
 o24 W 132 [.x (.int .i64 q), .fz b (.sl nl 0 1 (ivs xs)), .x (.int .i64 k), .fz b' (.sl nl' 0 1 (ivs w)), .x (.int .i64 t)] []=some (.tup [.own 0 [], .x (.int .i64 (sudE q xs k w t))],[.sl 1 22 1 []],[]):=by
 have e1:=fun b nl b' nl'=>di2 (q:=q) (b:=b) (nl:=nl) (b':=b') (nl':=nl') (k:=k) hx hw
 rw[o10 rfl T132 rfl]
 unfold F132 c132
 unfold sudE at he⊢
 by_cases h:ky7 q xs k w=0
 ·rw[if_pos h]at he⊢
  by_cases h2:k<2∨t<1∨(xs.length:Int)<t
  ·rw[if_pos h2]
   by_cases h3:k<2
   ·simp(disch:=first|omega|fail) only[push_cast,seval,ui5,lu7,y81,bj9,wrap64,dec_lt,cw6,nl3,qc6,mr8,nb8,if_pos,if_neg,e1,h,dec_lt h3]
   ·by_cases h4:t<1
    ·simp(disch:=first|omega|fail) only[push_cast,seval,ui5,lu7,y81,bj9,wrap64,dec_lt,cw6,nl3,qc6,mr8,nb8,if_pos,if_neg,e1,h,cw6 (Int.not_lt.1 h3),dec_lt h4]
    ·have h5:(xs.length:Int)<t:=by omega
     simp(disch:=first|omega|fail) only[push_cast,seval,ui5,lu7,y81,bj9,wrap64,dec_lt,cw6,nl3,qc6,mr8,nb8,if_pos,if_neg,e1,h,cw6 (Int.not_lt.1 h3),cw6 (Int.not_lt.1 h4),dec_lt h5]
  ·rw[if_neg h2]at he;exact absurd rfl he
 ·rw[if_neg h]
  simp(disch:=first|omega|fail) only[push_cast,seval,ui5,lu7,y81,bj9,wrap64,dec_lt,cw6,nl3,qc6,mr8,nb8,if_pos,if_neg,e1,nb8 h]
end
end Go.Proofs.YtlhmdmedagjmnaaGreat
namespace Go.Proofs.YtlhmdmedagjmnaaGreat
open Go.Am Go.Vm Go.Alg
section
variable {q p m g:Int} [IsFld q] {t:Tree} {X Y:List (El q)} {M:List (Nat×Nat)} {b b':Bool} {nl nl' nM:Nat}
theorem e01{n:Nat}{a:Nat×Nat}(h:M[n]? =some a):(lls 2 (prL M))[n]? =some (.sl 2 3 1 [.v (.int .i64 a.1), .v (.int .i64 a.2)]):=th8 (nl:=2) (l:=[(a.1:Int),(a.2:Int)]) (by unfold prL;rw[List.getElem?_map,h];rfl)
theorem dg8(u:RFo q p m g t){x y:El q}{i:Nat}(hx:X[i]? =some x)(hy:Y[i]? =some y)(hM:M.length≤64)(hX:X.length≤64)(hY:Y.length≤64)(hp: ∀p∈M,p.1≤100∧p.2≤100){T1:Tree}: ∀(d n:Nat),n+d=M.length→ ∀ks,
 vgoL W ⟨h131,[.tmp 10, .tmp 11],0⟩ [1,3,5,12,15,16,17,18] c131L2 (.blk 6 [1,3,5,12,15,16,17]::ks) [(1, .fz b (.sl nl 0 1 (ivs (vs X)))),(3, .fz b' (.sl nl' 0 1 (ivs (vs Y)))),(5, .own 0 []),(12, .own 1 []),(15, .own 2 []),(16, .x (.int .i64 i)),(17, .own 3 []),(18, .x (.int .i64 n))] [.pt 52 [.v (.int .i64 q), .v (.int .i64 p), .v (.int .i64 m), .v (.int .i64 g), .fz t], .sl nM 22 1 (lls 2 (prL M)),T1, .sl 1 3 1 (ivs (vs (rj3 x y (M.take n))))]=
  vgo W ⟨h131,[.tmp 10, .tmp 11],0⟩ ks (VFr.of [(1, .fz b (.sl nl 0 1 (ivs (vs X)))),(3, .fz b' (.sl nl' 0 1 (ivs (vs Y)))),(5, .own 0 []),(12, .own 1 []),(15, .own 2 []),(16, .x (.int .i64 i)),(17, .own 3 [])]) [.pt 52 [.v (.int .i64 q), .v (.int .i64 p), .v (.int .i64 m), .v (.int .i64 g), .fz t], .sl nM 22 1 (lls 2 (prL M)),T1, .sl 1 3 1 (ivs (vs (rj3 x y M)))]
 |0,n,hn,ks=>by
  have hl:=ht6 M
  rw[List.take_of_length_le (by omega),sb5 c131L2.eq_def]
  simp(disch:=first|omega|fail) only[push_cast,seval,ui5,lu7,y81,bj9,wrap64,dec_lt,cw6,nl3,qc6,mr8,nb8,if_pos,if_neg,hl]
 |d+1,n,hn,ks=>by
  have ih:=dg8 (x:=x) u hx hy hM hX hY hp (T1:=T1) d (n+1) (by omega) ks
  have ht:=u.n
  have ho:=u.o
  have hu:=u.e
  obtain⟨a,han⟩:=ge6 (l:=M) (i:=n) (by omega)
  obtain⟨p1,p2⟩:=hp a (List.mem_of_getElem? han)
  have h1:=e01 han
  have h2:=iat (show(vs X)[i]? =some x.v by unfold vs;rw[List.getElem?_map,hx];rfl)
  have h3:=iat (show(vs Y)[i]? =some y.v by unfold vs;rw[List.getElem?_map,hy];rfl)
  have hxl:i<X.length:=(List.getElem?_eq_some_iff.1 hx).1
  have hyl:i<Y.length:=(List.getElem?_eq_some_iff.1 hy).1
  have hl:=ht6 M
  have ex:=v_pw x a.1
  have ey:=v_pw y a.2
  have hs:=ko5 x y (M.take n) a
  have hsl:=oe2 x y (M.take n)
  rw[List.length_take]at hsl
  have e1:o24 W 188 [.agg [.x (.int .i64 q), .x (.int .i64 p), .x (.int .i64 m), .x (.int .i64 g), .fz true t], .x (.int .i64 x.v), .x (.int .i64 (a.1:Nat))] []=some (.x (.int .i64 (pw x a.1).v),[],[]):=by rw[←u.e,fl3,ex]
  have e2:o24 W 188 [.agg [.x (.int .i64 q), .x (.int .i64 p), .x (.int .i64 m), .x (.int .i64 g), .fz true t], .x (.int .i64 y.v), .x (.int .i64 (a.2:Nat))] []=some (.x (.int .i64 (pw y a.2).v),[],[]):=by rw[←u.e,fl3,ey]
  have e3: ∀a b,o24 W 126 [.agg [.x (.int .i64 q), .x (.int .i64 p), .x (.int .i64 m), .x (.int .i64 g), .fz true t], .x (.int .i64 a), .x (.int .i64 b)] []=some (.x (.int .i64 (fmul q a b)),[],[]):=fun a b=>by rw[←u.e,n06]
  rw[cx8 han,hs,Int.natCast_add,Int.natCast_one]at ih
  rw[←ih,sb5 c131L2.eq_def]
  generalize rj3 x y (M.take n)=Z at*
  simp(disch:=first|omega|fail) only[push_cast,seval,ui5,lu7,y81,bj9,wrap64,dec_lt,cw6,nl3,qc6,mr8,nb8,if_pos,if_neg,h1,h2,h3,hl,ht,ho,e1,e2,e3]
theorem u84(u:RFo q p m g t)(hM:M.length≤64)(hYX:Y.length=X.length)(hX:X.length≤64)(hp: ∀p∈M,p.1≤100∧p.2≤100): ∀(d i:Nat),i+d=X.length→ ∀ks,
 vgoL W ⟨h131,[.tmp 10, .tmp 11],0⟩ [1,3,5,12,15,16] c131L3 (.blk 4 [5,12,15]::ks) [(1, .fz b (.sl nl 0 1 (ivs (vs X)))),(3, .fz b' (.sl nl' 0 1 (ivs (vs Y)))),(5, .own 0 []),(12, .own 1 []),(15, .own 2 []),(16, .x (.int .i64 i))] [.pt 52 [.v (.int .i64 q), .v (.int .i64 p), .v (.int .i64 m), .v (.int .i64 g), .fz t], .sl nM 22 1 (lls 2 (prL M)), .sl 1 22 1 (lls 2 (((sudM X Y M).take i).map vs))]=
  vgo W ⟨h131,[.tmp 10, .tmp 11],0⟩ ks (VFr.of [(5, .own 0 []),(12, .own 1 []),(15, .own 2 [])]) [.pt 52 [.v (.int .i64 q), .v (.int .i64 p), .v (.int .i64 m), .v (.int .i64 g), .fz t], .sl nM 22 1 (lls 2 (prL M)), .sl 1 22 1 (lls 2 ((sudM X Y M).map vs))]
 |0,i,hi,ks=>by
  have h1:=d48 (M:=M) hYX
  rw[List.take_of_length_le (by omega),sb5 c131L3.eq_def]
  simp(disch:=first|omega|fail) only[push_cast,seval,ui5,lu7,y81,bj9,wrap64,dec_lt,cw6,nl3,qc6,mr8,nb8,if_pos,if_neg]
 |d+1,i,hi,ks=>by
  have ih:=u84 u hM hYX hX hp d (i+1) (by omega) ks
  obtain⟨x,hx⟩:=ge6 (l:=X) (i:=i) (by omega)
  obtain⟨y,hy⟩:=ge6 (l:=Y) (i:=i) (by omega)
  have h2:=vz2 (M:=M) hx hy
  have h3:=d48 (M:=M) hYX
  have hsn:=ng3 2 (((sudM X Y M).take i).map vs) (vs (rj3 x y M))
  have hln:(((sudM X Y M).take i).map vs).length≤64:=by rw[List.length_map,List.length_take];omega
  have e:=fun T1 ks=>dg8 (b:=b) (nl:=nl) (b':=b') (nl':=nl') (nM:=nM) (X:=X) (x:=x) u hx hy hM (by omega) (by omega) hp (T1:=T1) M.length 0 (by omega) ks
  simp only[Int.natCast_zero,List.take_zero,show vs (rj3 x y [])=[]from rfl,show ivs []=[]from rfl]at e
  rw[cx8 h2,List.map_append,Int.natCast_add,Int.natCast_one]at ih
  rw[←ih,sb5 c131L3.eq_def]
  generalize ((sudM X Y M).take i).map vs=Z at*
  simp(disch:=first|omega|fail) only[push_cast,seval,ui5,lu7,y81,bj9,wrap64,dec_lt,cw6,nl3,qc6,mr8,nb8,if_pos,if_neg]
  rw[e]
  simp(disch:=first|omega|fail) only[push_cast,seval,ui5,lu7,y81,bj9,wrap64,dec_lt,cw6,nl3,qc6,mr8,nb8,if_pos,if_neg,hsn]
theorem lg6{z:Nat}{A:List (Nat×List (El q))}{a:Nat×List (El q)}(hA:A[0]? =some a)(hA2:A.length≤100)(hal:a.2.length=M.length)(hM:M.length≤64): ∀(d n:Nat) (G:List (List (El q))),n+d=M.length→gdL (M.drop n) G.length→G.length≤n→(∀r∈G,r.length≤n)→ ∀ks,
 vgoL W ⟨h131,[.tmp 10, .tmp 11],0⟩ [12,21,22,23] c131L4 (.blk 8 [22]::ks) [(12, .own 0 []),(21, .own 1 []),(22, .own 2 []),(23, .x (.int .i64 n))] [.sl nM 22 1 (lls 2 (prL M)), .sl z 22 1 (lls 2 (pvR A)), .sl 1 22 1 (lls 2 (G.map vs))]=
  vgo W ⟨h131,[.tmp 10, .tmp 11],0⟩ ks (VFr.of [(22, .own 2 [])]) [.sl nM 22 1 (lls 2 (prL M)), .sl z 22 1 (lls 2 (pvR A)), .sl 1 22 1 (lls 2 ((grpG a.2 (M.drop n) n G).map vs))]
 |0,n,G,hn,hg,hG,hr,ks=>by
  have hl:=ht6 M
  rw[oh9 (by omega),grpG,sb5 c131L4.eq_def]
  simp(disch:=first|omega|fail) only[push_cast,seval,ui5,lu7,y81,bj9,wrap64,dec_lt,cw6,nl3,qc6,mr8,nb8,if_pos,if_neg,hl]
 |d+1,n,G,hn,hg,hG,hr,ks=>by
  obtain⟨p,hpn⟩:=ge6 (l:=M) (i:=n) (by omega)
  have h1:=e01 hpn
  have hAl:=nu3 A
  have hA0:0<A.length:=(List.getElem?_eq_some_iff.1 hA).1
  have h3:=x08 hA
  have h4:=iva (l:=a.2) (i:=n) (by omega)
  have hl:=ht6 M
  have hGl:(G.map vs).length=G.length:=List.length_map ..
  rw[i62 hpn]at hg⊢
  obtain⟨hg1,hg2⟩:=hg
  have hsl:=cl3 G p.2 (wf a.2 n)
  have ih:=lg6 (z:=z) hA hA2 hal hM d (n+1) (stepG G p.2 (wf a.2 n)) (by omega) (by rw[hsl];exact hg2) (by rw[hsl];split<;>omega) (by
   intro r hr2
   unfold stepG at hr2
   by_cases hj:p.2=G.length
   ·rw[if_pos hj,hj,ph5]at hr2
    rcases List.mem_append.1 hr2 with h|h
    ·have:=hr r h;omega
    ·rw[List.mem_singleton]at h
     subst h;simp
   ·rw[if_neg hj]at hr2
    obtain⟨r0,hr0⟩:=ge6 (l:=G) (i:=p.2) (by omega)
    rw[ht0 _ hr0]at hr2
    rcases List.mem_or_eq_of_mem_set hr2 with h|h
    ·have:=hr r h;omega
    ·have:=hr r0 (List.mem_of_getElem? hr0)
     subst h;rw[List.length_append,List.length_singleton];omega) ks
  rw[grpG]
  rw[Int.natCast_add,Int.natCast_one]at ih
  unfold stepG at ih⊢
  by_cases hj:p.2=G.length
  ·have hs:(putG (G++[[]]) p.2 (wf a.2 n)).map vs=G.map vs++[[(wf a.2 n).v]]:=by rw[hj,ph5,List.map_append];rfl
   rw[if_pos hj]at ih⊢
   rw[hs]at ih
   rw[←ih,sb5 c131L4.eq_def]
   generalize grpG a.2 (M.drop (n+1)) (n+1) (putG (G++[[]]) p.2 (wf a.2 n))=Z at*
   generalize G.map vs=U at*
   have h7:(lls 2 U++[Tree.v (.slice none 0 0)])[G.length]? =some (Tree.v (.slice none 0 0)):=by
    rw[List.getElem?_append_right (by rw[qf0,hGl];omega),qf0,hGl,Nat.sub_self];rfl
   have h8: ∀(T:Tree),(lls 2 U++[Tree.v (.slice none 0 0)]).set G.length T=lls 2 U++[T]:=fun T=>by
    rw[List.set_append_right _ _ (by rw[qf0,hGl];omega),qf0,hGl,Nat.sub_self];rfl
   have hsn:lls 2 U++[Tree.sl 2 3 1 [.v (.int .i64 (wf a.2 n).v)]]=lls 2 (U++[[(wf a.2 n).v]]):=ng3 2 U [(wf a.2 n).v]
   simp(disch:=first|omega|fail) only[push_cast,seval,ui5,lu7,y81,bj9,wrap64,dec_lt,cw6,nl3,qc6,mr8,nb8,if_pos,if_neg,h1,h3,h4,hl,hAl,hGl,hj,h7,h8,List.set_set,hsn]
  ·obtain⟨r0,hr0⟩:=ge6 (l:=G) (i:=p.2) (by omega)
   have hr0l:=hr r0 (List.mem_of_getElem? hr0)
   have h5:(G.map vs)[p.2]? =some (vs r0):=by rw[List.getElem?_map,hr0];rfl
   have hs:(putG G p.2 (wf a.2 n)).map vs=(G.map vs).set p.2 (vs r0++[(wf a.2 n).v]):=by rw[ht0 _ hr0,List.map_set,gq8];rfl
   rw[if_neg hj]at ih⊢
   rw[hs]at ih
   have h6:=th8 (nl:=2) h5
   rw[←ih,sb5 c131L4.eq_def]
   generalize grpG a.2 (M.drop (n+1)) (n+1) (putG G p.2 (wf a.2 n))=Z at*
   generalize G.map vs=U at*
   have hj': ¬(p.2:Int)=(U.length:Int):=by omega
   simp(disch:=first|omega|fail) only[push_cast,seval,ui5,lu7,y81,bj9,wrap64,dec_lt,cw6,nl3,qc6,mr8,nb8,if_pos,if_neg,h1,h3,h4,hl,hAl,nb8 hj',h6,List.set_set]
theorem dp9{K t:Nat}(hYX:Y.length=X.length)(hX:X.length≤64)(hK:K≤X.length)(h2:2≤K)(ht:1≤t)(ht2:t≤X.length):
 o24 W 131 [.agg (rFs q), .fz b (.sl nl 0 1 (ivs (vs X))), .x (.int .i64 K), .fz b' (.sl nl' 0 1 (ivs (vs Y))), .x (.int .i64 t)] []=
  match(sudA X Y K t)[0]? with
  |none=>some (.tup [.own 0 [], .x (.bool false)],[.sl 1 22 1 []],[])
  |some a=>some (.tup [.own 0 [], .x (.bool true)],[.sl 1 22 1 (lls 2 ((sudG X Y K t a.2).map vs))],[]):=by
 obtain⟨p,m,g,tr,u⟩:=k75 q
 have ht:=u.n
 have ho:=u.o
 have hM:=da6 (K-1) t
 have hM0:=mg3 (k1:=K-1) (t:=t) ‹_›
 have hp: ∀p∈monL (K-1) t,p.1≤100∧p.2≤100:=fun p hp=>by have:=rz0 p hp;omega
 have hg:=gn5 (K-1) t
 have e0:=fun T0 ks=>wf1 (b:=b) (nl:=nl) (b':=b') (nl':=nl') (xs:=vs X) (w:=vs Y) (T0:=T0) (k:=K) (t:=t) h2 (by omega) (by omega) (t+1) 0 [] (by omega) (by simp) ks
 simp only[List.nil_append,Int.natCast_zero,show prL []=[]from rfl,x25]at e0
 have hun:(monT (K-1) t (t+1) 0).take 64=monL (K-1) t:=rfl
 rw[hun]at e0
 unfold sudA sudG
 generalize monL (K-1) t=M at*
 have e:=fun nM ks=>u84 (b:=b) (nl:=nl) (b':=b') (nl':=nl') (nM:=nM) u hM hYX hX hp X.length 0 (by omega) ks
 simp only[Int.natCast_zero,List.take_zero,List.map_nil,x25]at e
 have hXl:(sudM X Y M).length=X.length:=d48 hYX
 have e3:=fun b nl nr=>zi7 (b:=b) (nl:=nl) (nr:=nr) (M:=sudM X Y M) (N:=M.length) (wc9 hYX) (by omega) (by omega)
 obtain⟨hA1,hA2⟩:=c74 (wc9 (X:=X) (Y:=Y) (M:=M) hYX)
 rw[u.e]at e3⊢
 generalize zt5 M.length (sudM X Y M)=A at*
 have hAl:=nu3 A
 have hl:=ht6 M
 rw[o10 rfl T131 rfl]
 unfold F131 c131
 simp(disch:=first|omega|fail) only[push_cast,seval,ui5,lu7,y81,bj9,wrap64,dec_lt,cw6,nl3,qc6,mr8,nb8,if_pos,if_neg,ht,ho]
 rw[e0]
 simp(disch:=first|omega|fail) only[push_cast,seval,ui5,lu7,y81,bj9,wrap64,dec_lt,cw6,nl3,qc6,mr8,nb8,if_pos,if_neg]
 rw[e]
 cases hA:A[0]? with
 |none=>
  have hA0:A.length=0:=by have:=List.getElem?_eq_none_iff.1 hA;omega
  simp(disch:=first|omega|fail) only[push_cast,seval,ui5,lu7,y81,bj9,wrap64,dec_lt,cw6,nl3,qc6,mr8,nb8,if_pos,if_neg,e3,hAl,hA0,ht,ho,hl]
 |some a=>
  have hA0: ¬(A.length:Int)=0:=by have:=(List.getElem?_eq_some_iff.1 hA).1;omega
  have e5:=fun z ks=>lg6 (nM:=1) (z:=z) hA (by omega) (hA1 a (List.mem_of_getElem? hA)) hM M.length 0 [] (by omega) (by rw[List.drop_zero];exact hg) (by simp) (fun r hr=>by cases hr) ks
  simp only[Int.natCast_zero,List.drop_zero,List.map_nil,x25]at e5
  simp(disch:=first|omega|fail) only[push_cast,seval,ui5,lu7,y81,bj9,wrap64,dec_lt,cw6,nl3,qc6,mr8,nb8,if_pos,if_neg,e3,hAl,nb8 hA0,hl,ht,ho]
  rw[e5]
  simp(disch:=first|omega|fail) only[push_cast,seval,ui5,lu7,y81,bj9,wrap64,dec_lt,cw6,nl3,qc6,mr8,nb8,if_pos,if_neg]
end
end Go.Proofs.YtlhmdmedagjmnaaGreat
