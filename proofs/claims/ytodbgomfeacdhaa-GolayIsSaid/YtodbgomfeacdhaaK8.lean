/-
  Codes: iv1 a place, shortened, with a number more (the program's), in the second machine. Conditions: those of each theorem. Codes: what the document says of words, of a code iv1 a place, shor ..
-/
import Derived.Test.YtodbgomfeacdhaaK7
import Derived.Test.YtodbgomfeacdhaaK6
set_option linter.unusedVariables false
set_option linter.unusedSimpArgs false
set_option linter.unusedSectionVars false
set_option maxRecDepth 100000
namespace Go.Proofs.Ytodbgomfeacdhaa
open Go.Am Go.Vm Go.Alg
section
variable {q:Int} [IsFld q] {n0:Int} {nl nr:Nat} {b:Bool} {t:Tree} {k:FuncId} {N:List (List (El q))} {g:List (El q)→List (El q)} {fg:List (El q)→Nat} {n':Nat}
theorem ll6(hk: ∀r∈N,∀bl nr,o24 W k [.fz bl (.sl nr 0 1 (ivs (vs r))), .fz b t] []=some (.own 0 [],[.sl (fg r) 3 1 (ivs (vs (g r)))],[]))(hM:vM k=[])(hl:N.length≤1000){T6:Tree}: ∀(d i:Nat),i+d=N.length→ ∀ks,
 vgoL W ⟨hNo,[(.cell 6 true 3), .tmp 7],0⟩ [2,6,8,16,17,18] c163L0 (.blk 0 [6,8]::ks) [(2, .fn k [.fz b t]),(6, .own 0 []),(8, .own 1 []),(16, .fz true (.sl nl 0 1 (lvs nr (N.map vs)))),(17, .x (.int .i64 N.length)),(18, .x (.int .i64 i))] [T6, .pt 25 [.v (.int .i64 q), .v (.int .i64 n'), .sl 2 28 1 (lls 2 (((N.map g).take i).map vs))]]=
  vgo W ⟨hNo,[(.cell 6 true 3), .tmp 7],0⟩ ks (VFr.of [(6, .own 0 []),(8, .own 1 [])]) [T6, .pt 25 [.v (.int .i64 q), .v (.int .i64 n'), .sl 2 28 1 (lls 2 ((N.map g).map vs))]]
 |0,i,hi,ks=>by
  rw[List.take_of_length_le (by simp;omega),sb5 c163L0.eq_def]
  simp(disch:=first|omega|fail) only[push_cast,seval,vrl,if_pos,if_neg]
 |d+1,i,hi,ks=>by
  have ih:=ll6 hk hM hl (T6:=T6) d (i+1) (by omega) ks
  obtain⟨r,hr⟩:=ge6 (l:=N) (i:=i) (by omega)
  have h0:=lat (nl:=nr) (show(N.map vs)[i]? =some (vs r) by rw[List.getElem?_map,hr];rfl)
  have hkr:=hk r (List.mem_of_getElem? hr)
  have hg:(N.map g)[i]? =some (g r):=by rw[List.getElem?_map,hr];rfl
  have hlt:(List.take i (List.map g N)).length=i:=by simp;omega
  rw[Int.natCast_add,Int.natCast_one,List.take_add_one,hg,Option.toList_some]at ih
  rw[←ih,sb5 c163L0.eq_def]
  simp(disch:=first|omega|fail) only[push_cast,seval,vrl,if_pos,if_neg,h0,hkr,hM,df0,List.length_map,hlt]
theorem zk5{r:List (El q)}{N':List (List (El q))}(hN:N=r::N')(hk: ∀r∈N,∀bl nr,o24 W k [.fz bl (.sl nr 0 1 (ivs (vs r))), .fz b t] []=some (.own 0 [],[.sl (fg r) 3 1 (ivs (vs (g r)))],[]))(hM:vM k=[])(hl:N.length≤1000){T6:Tree}(ks):
 vgoL W ⟨hNo,[(.cell 6 true 3), .tmp 7],0⟩ [2,6,8,16,17,18] c163L0 (.blk 0 [6,8]::ks) [(2, .fn k [.fz b t]),(6, .own 0 []),(8, .own 1 []),(16, .fz true (.sl nl 0 1 (lvs nr (N.map vs)))),(17, .x (.int .i64 N.length)),(18, .x (.int .i64 0))] [T6, .pt 25 [.v (.int .i64 q), .v (.int .i64 n'), .v (.slice none 0 0)]]=
  vgo W ⟨hNo,[(.cell 6 true 3), .tmp 7],0⟩ ks (VFr.of [(6, .own 0 []),(8, .own 1 [])]) [T6, .pt 25 [.v (.int .i64 q), .v (.int .i64 n'), .sl 2 28 1 (lls 2 ((N.map g).map vs))]]:=by
 have hln:N.length=N'.length+1:=by rw[hN];rfl
 have ih:=ll6 (nl:=nl) (nr:=nr) (n':=n') hk hM hl (T6:=T6) N'.length 1 (by omega) ks
 have h0:=lat (nl:=nr) (show(N.map vs)[0]? =some (vs r) by rw[hN];rfl)
 have hkr:=hk r (by rw[hN];simp)
 have hg:lls 2 (((N.map g).take 1).map vs)=[.sl 2 3 1 (ivs (vs (g r)))]:=by rw[hN];rfl
 rw[hg,Int.natCast_one]at ih
 rw[←ih,sb5 c163L0.eq_def]
 simp(disch:=first|omega|fail) only[push_cast,seval,vrl,if_pos,if_neg,h0,hkr,hM]
theorem iw4(hk: ∀r∈N,∀bl nr,o24 W k [.fz bl (.sl nr 0 1 (ivs (vs r))), .fz b t] []=some (.own 0 [],[.sl (fg r) 3 1 (ivs (vs (g r)))],[]))(hM:vM k=[])(hl:N.length≤64)(h0:0<n')(hn:n'≤64)(hg: ∀r∈N,(g r).length=n'):
 o24 W 163 [.agg [.x (.int .i64 q), .x (.int .i64 n0), .fz true (.sl nl 0 1 (lvs nr (N.map vs)))], .x (.int .i64 n'), .fn k [.fz b t]] []=some (.tup [.agg [.x (.int .i64 q), .x (.int .i64 n'), .own 0 []], .x (.int .i64 0)],[.sl 2 28 1 (lls 2 (pvR (redR (N.map g))))],[]):=by
 have hr: ∀r∈N.map g,r.length=n':=fun r hr=>by
  obtain⟨x,hx,rfl⟩:=List.mem_map.1 hr
  exact hg x hx
 have hgl:(N.map g).length≤64:=by simp;omega
 have hC:=tc0 (q:=q) h0 hn hgl hr (sy6 hgl hr h0 hn)
 have e1:=fun nl nr=>ob1 (nl:=nl) (nr:=nr) hC h0 hn hgl hr
 have l1:(N.map vs).length=N.length:=List.length_map _
 cases hN:N with
 |nil=>
  subst hN
  have e1:=fun nl=>e1 nl 0
  simp only[List.map_nil,em1]at e1
  rw[List.map_nil,em1,List.map_nil,o10 rfl T163 rfl]
  unfold F163 c163
  simp(disch:=first|omega|fail) only[push_cast,seval,vrl,if_pos,if_neg]
  rw[sb5 c163L0.eq_def]
  simp(disch:=first|omega|fail) only[push_cast,seval,vrl,if_pos,if_neg,e1]
 |cons r N'=>
  have e:=fun T6 ks=>zk5 (n':=n') (nl:=nl) (nr:=nr) (T6:=T6) hN hk hM (by omega) ks
  rw[←hN,o10 rfl T163 rfl]
  unfold F163 c163
  simp(disch:=first|omega|fail) only[push_cast,seval,vrl,if_pos,if_neg,l1]
  rw[e]
  simp(disch:=first|omega|fail) only[push_cast,seval,vrl,if_pos,if_neg,e1]
end
section
variable {q n:Int} {nl nr:Nat} {M:List (List Int)} {a:Int}
end
section
variable {q:Int} [IsFld q] {k nl nr:Nat} {N:List (List (El q))} {a:Nat}
theorem gm2{r:List (El q)}(h:0<r.length):nlT (vs r)=0:=by cases r with
 |nil=>cases h
 |cons x r=>rfl
theorem uf8(r:List (El q)){i:Nat}(h:i<r.length):(r.take (i+1)).foldl (fun s v=>s-v) (0:El q)=(r.take i).foldl (fun s v=>s-v) 0-wf r i:=by
 rw[List.take_succ_eq_append_getElem h,List.foldl_append,i66 h];rfl
theorem qy8{r:List (El q)}(hl:r.length≤1000){bl b:Bool}{nr e:Nat}: ∀(d i:Nat),i+d=r.length→ ∀ks,
 vgoL W ⟨h164,[.tmp 3],0⟩ [0,1,4,7,8,9] c164L0 (.blk 0 [0,4]::ks) [(0, .fz bl (.sl nr 0 1 (ivs (vs r)))),(1, .fz b (.pt e [pF q])),(4, .x (.int .i64 (((r.take i).foldl (fun s v=>s-v) (0:El q)).v))),(7, .fz bl (.sl nr 0 1 (ivs (vs r)))),(8, .x (.int .i64 r.length)),(9, .x (.int .i64 i))] []=
  vgo W ⟨h164,[.tmp 3],0⟩ ks (VFr.of [(0, .fz bl (.sl nr 0 1 (ivs (vs r)))),(4, .x (.int .i64 ((nsum r).v)))]) []
 |0,i,hi,ks=>by
  rw[List.take_of_length_le (by omega),sb5 c164L0.eq_def]
  unfold nsum
  simp(disch:=first|omega|fail) only[push_cast,seval,vrl,if_pos,if_neg]
 |d+1,i,hi,ks=>by
  have ih:=qy8 hl (bl:=bl) (b:=b) (nr:=nr) (e:=e) d (i+1) (by omega) ks
  have h1:=iva (l:=r) (i:=i) (by omega)
  rw[Int.natCast_add,Int.natCast_one,uf8 r (by omega),bq9]at ih
  rw[←ih,sb5 c164L0.eq_def]
  simp(disch:=first|omega|fail) only[push_cast,seval,vrl,if_pos,if_neg,h1]
theorem vcxf{r:List (El q)}(h0:0<r.length)(hl:r.length≤1000){bl b:Bool}{nr e:Nat}:
 o24 W 164 [.fz bl (.sl nr 0 1 (ivs (vs r))), .fz b (.pt e [pF q])] []=some (.own 0 [],[.sl 0 3 1 (ivs (vs (extL r)))],[]):=by
 have e1:=fun ks=>qy8 hl (bl:=bl) (b:=b) (nr:=nr) (e:=e) r.length 0 (by omega) ks
 simp only[Int.natCast_zero,List.take_zero,List.drop_zero,rp2,lz6,x25,List.map_nil,List.length_nil]at e1
 rw[List.foldl_nil,hc8]at e1
 have hv:=fi2 r
 have h1:nlT (vs r)=0:=gm2 (by omega)
 have e2:=fun b nl=>h18 (b:=b) (nl:=nl) (zs:=vs r) (by omega)
 rw[o10 rfl T164 rfl]
 unfold F164 c164
 simp(disch:=first|omega|fail) only[push_cast,seval,vrl,if_pos,if_neg,hv]
 rw[e1]
 unfold extL
 rw[gq8,e55,rp2]
 simp(disch:=first|omega|fail) only[push_cast,seval,vrl,if_pos,if_neg,e2,h1]
theorem tw5(he:gi9 q k (N.map vs)=0)(h0:0<k)(hk:k<64)(hl:N.length≤64)(hr: ∀r∈N,r.length=k):
 o24 W 126 [.agg [.x (.int .i64 q), .x (.int .i64 k), .fz true (.sl nl 0 1 (lvs nr (N.map vs)))]] []=some (.tup [.agg [.x (.int .i64 q), .x (.int .i64 ((k:Int)+1)), .own 0 []], .x (.int .i64 0)],[.sl 2 28 1 (lls 2 (pvR (redR (N.map extL))))],[]):=by
 have e1:=fun nl nr=>um1 (q:=q) (n:=k) (M:=N.map vs) (nl:=nl) (nr:=nr)
 simp only[he]at e1
 have e2:=fun n0 nl nr b e=>iw4 (n0:=n0) (nl:=nl) (nr:=nr) (b:=b) (t:= .pt e [pF q]) (k:=164) (N:=N) (g:=extL) (fg:=fun _=>0) (n':=k+1) (fun r hr' bl nr=>vcxf (by rw[hr r hr'];exact h0) (by rw[hr r hr'];omega)) rfl hl (by omega) (by omega) (fun r hr'=>by rw[x19,hr r hr'])
 simp only[Int.natCast_add,Int.natCast_one]at e2
 rw[o10 rfl T126 rfl]
 unfold F126 c126
 simp(disch:=first|omega|fail) only[push_cast,seval,vrl,if_pos,if_neg,e1,nb8 (show¬(k:Int)=64 by omega),e2]
end
section
variable {a c:List Int} {b b':Bool} {nl nl':Nat}
end
section
variable {q:Int} [IsFld q] {k nl nr nl2:Nat} {b:Bool}
end
section
variable {q:Int} [IsFld q] {k nl nr:Nat} {b:Bool} {N:List (List (El q))} {a:Nat}
theorem y36{p m g:Int}{t:Tree}(u:RFo q p m g t){n:Nat}{i:Nat}{r:List (El q)}(hr:N[i]? =some r)(hrl:r.length=n)(hn:n≤64){T1 T3:Tree}: ∀(d j:Nat),j+d=n→ ∀ks,
 vgoL W ⟨h70,[(.cell 2 true 3)],0⟩ [1,2,3,5,6,7,8] c70L0 (.blk 2 [1,2,3,5,6,7]::ks) [(1, .own 0 []),(2, .own 1 []),(3, .own 2 []),(5, .own 3 []),(6, .x (.int .i64 i)),(7, .x (.int .i64 (((r.take j).foldl (fun s v=>s-v) (0:El q)).v))),(8, .x (.int .i64 j))] [.pt 25 [.v (.int .i64 q), .v (.int .i64 n), .fz (.sl nl 0 1 (lvs nr (N.map vs)))],T1, .pt 102 [.v (.int .i64 q), .v (.int .i64 p), .v (.int .i64 m), .v (.int .i64 g), .fz t],T3]=
  vgo W ⟨h70,[(.cell 2 true 3)],0⟩ ks (VFr.of [(1, .own 0 []),(2, .own 1 []),(3, .own 2 []),(5, .own 3 []),(6, .x (.int .i64 i)),(7, .x (.int .i64 ((nsum r).v)))]) [.pt 25 [.v (.int .i64 q), .v (.int .i64 n), .fz (.sl nl 0 1 (lvs nr (N.map vs)))],T1, .pt 102 [.v (.int .i64 q), .v (.int .i64 p), .v (.int .i64 m), .v (.int .i64 g), .fz t],T3]
 |0,j,hj,ks=>by
  rw[List.take_of_length_le (by omega),sb5 c70L0.eq_def]
  unfold nsum
  simp(disch:=first|omega|fail) only[push_cast,seval,vrl,if_pos,if_neg]
 |d+1,j,hj,ks=>by
  have ih:=y36 u hr hrl hn (T1:=T1) (T3:=T3) d (j+1) (by omega) ks
  have h1:=iva (l:=r) (i:=j) (by omega)
  have h0:=mva (nl:=nr) hr
  have hRl:i<N.length:=(List.getElem?_eq_some_iff.1 hr).1
  rw[Int.natCast_add,Int.natCast_one,uf8 r (by omega),bq9]at ih
  have ht:=u.n
  have ho:=u.o
  have vsub:=fun x y:Int=>br1 (q:=q) (x:=x) (y:=y)
  rw[u.e]at vsub
  rw[←ih,sb5 c70L0.eq_def]
  simp(disch:=first|omega|fail) only[push_cast,seval,vrl,if_pos,if_neg,h0,h1,vsub,ht,ho]
theorem b60{p m g:Int}{t:Tree}(u:RFo q p m g t)(hl:N.length≤64)(hr: ∀r∈N,r.length=k)(hk:k≤64){T1:Tree}: ∀(d i:Nat),i+d=N.length→ ∀ks,
 vgoL W ⟨h70,[(.cell 2 true 3)],0⟩ [1,2,3,5,6] c70L1 (.blk 0 [1,2,5]::ks) [(1, .own 0 []),(2, .own 1 []),(3, .own 2 []),(5, .own 3 []),(6, .x (.int .i64 i))] [.pt 25 [.v (.int .i64 q), .v (.int .i64 k), .fz (.sl nl 0 1 (lvs nr (N.map vs)))],T1, .pt 102 [.v (.int .i64 q), .v (.int .i64 p), .v (.int .i64 m), .v (.int .i64 g), .fz t], .sl 1 28 1 (lls 2 (((N.map extL).take i).map vs))]=
  vgo W ⟨h70,[(.cell 2 true 3)],0⟩ ks (VFr.of [(1, .own 0 []),(2, .own 1 []),(5, .own 3 [])]) [.pt 25 [.v (.int .i64 q), .v (.int .i64 k), .fz (.sl nl 0 1 (lvs nr (N.map vs)))],T1, .pt 102 [.v (.int .i64 q), .v (.int .i64 p), .v (.int .i64 m), .v (.int .i64 g), .fz t], .sl 1 28 1 (lls 2 ((N.map extL).map vs))]
 |0,i,hi,ks=>by
  rw[List.take_of_length_le (by simp;omega),sb5 c70L1.eq_def]
  simp(disch:=first|omega|fail) only[push_cast,seval,vrl,if_pos,if_neg]
 |d+1,i,hi,ks=>by
  have ih:=b60 u hl hr hk (T1:=T1) d (i+1) (by omega) ks
  obtain⟨r,hr1⟩:=ge6 (l:=N) (i:=i) (by omega)
  have hrl:=hr r (List.mem_of_getElem? hr1)
  have h0:=mva (nl:=nr) hr1
  have e:=fun T3 ks=>y36 (nl:=nl) (nr:=nr) u hr1 hrl hk (T1:=T1) (T3:=T3) k 0 (by omega) ks
  simp only[Int.natCast_zero,List.take_zero,List.drop_zero,rp2,lz6,x25,List.map_nil,List.length_nil]at e
  simp only[List.foldl_nil,hc8]at e
  have e1:=fun b nl=>xr6 (b:=b) (nl:=nl) (l:=vs r) (by rw[fi2];omega)
  have hv:=fi2 r
  have hg:(N.map extL)[i]? =some (extL r):=by rw[List.getElem?_map,hr1];rfl
  have hlt:(List.take i (N.map extL)).length=i:=by simp;omega
  have hx:ivs (vs r)++[Tree.v (.int .i64 (nsum r).v)]=ivs (vs (extL r)):=by unfold extL;rw[gq8,e55,rp2,Vm.nc5]
  rw[Int.natCast_add,Int.natCast_one,List.take_add_one,hg,Option.toList_some]at ih
  rw[←ih,sb5 c70L1.eq_def]
  simp(disch:=first|omega|fail) only[push_cast,seval,vrl,if_pos,if_neg]
  rw[e]
  simp(disch:=first|omega|fail) only[push_cast,seval,vrl,if_pos,if_neg,h0,e1,hv,Vm.nc5,show vs r++[(nsum r).v]=vs (extL r) by unfold extL;rw[gq8,e55,rp2],df0,List.length_map,hlt]
theorem ku1(h0:0<k)(hk:k<64)(hl:N.length≤64)(hr: ∀r∈N,r.length=k):
 o24 W 70 [.agg [.x (.int .i64 q), .x (.int .i64 k), .fz true (.sl nl 0 1 (lvs nr (N.map vs)))]] []=some (.agg [.x (.int .i64 q), .x (.int .i64 ((k:Int)+1)), .own 0 []],[.sl 2 28 1 (lls 2 (pvR (redR (N.map extL))))],[]):=by
 obtain⟨p,m,g,t,u⟩:=k75 q
 have ht:=u.n
 have ho:=u.o
 have hfe:=u.e
 have e:=fun T1 ks=>b60 (nl:=nl) (nr:=nr) u hl hr (by omega) (T1:=T1) N.length 0 (by omega) ks
 simp only[Int.natCast_zero,List.take_zero,List.drop_zero,rp2,lz6,x25,List.map_nil,List.length_nil]at e
 have e1:=fun nl nr n=>vd8 (q:=q) (nl:=nl) (nr:=nr) (N:=N.map extL) (k:=k+1) (n:=n) (by simp;omega) (fun r hr'=>by
  obtain⟨x,hx,rfl⟩:=List.mem_map.1 hr'
  rw[x19,hr x hx]) (by omega)
 rw[o10 rfl T70 rfl]
 unfold F70 c70
 simp(disch:=first|omega|fail) only[push_cast,seval,vrl,if_pos,if_neg,hfe,ht,ho]
 rw[e]
 simp(disch:=first|omega|fail) only[push_cast,seval,vrl,if_pos,if_neg,e1]
end
end Go.Proofs.Ytodbgomfeacdhaa
namespace Go.Alg
section
variable {K:Type} [FK K]
def disc(C s:Nat→K)(j:Nat):K:=sumN (j+1) fun k=>C k*s (j-k)
def shift(g:Nat)(B:Nat→K)(k:Nat):K:=if k<g then 0 else B (k-g)
end
end Go.Alg
namespace Go.Alg
section
variable {K:Type} [FK K]
theorem pv3(n:Nat)(f g:Nat→K):sumN n (fun i=>f i+g i)=sumN n f+sumN n g:=jl9 _ _ _
theorem z09(n:Nat)(f:Nat→K):sumN n (fun i=> -f i)= -sumN n f:=eq0 _ _
def ofF(n:Nat)(f:Nat→K):List K:=(List.range n).map f
theorem gh0(n:Nat)(f:Nat→K):(ofF n f).length=n:=by simp[ofF]
theorem b43(n:Nat)(f:Nat→K)(k:Nat):wf (ofF n f) k=if k<n then f k else 0:=by
 by_cases h:k<n
 ·rw[if_pos h,i66 (by rw[gh0];exact h)]
  simp[ofF]
 ·rw[if_neg h,ez9 (by rw[gh0];omega)]
theorem ot8{n:Nat}{f:Nat→K}(h: ∀k,n≤k→f k=0):wf (ofF n f)=f:=by
 funext k
 rw[b43]
 split
 ·rfl
 ·exact(h k (by omega)).symm
theorem qt9:wf ([]:List K)=fun _=>0:=rfl
theorem g29(l:List K)(n k:Nat):wf (l.take n) k=if k<n then wf l k else 0:=by
 unfold wf
 rw[List.getD_eq_getElem?_getD,List.getD_eq_getElem?_getD,List.getElem?_take]
 split<;>rfl
theorem nz0(l l':List K)(k:Nat):wf (l++l') k=if k<l.length then wf l k else wf l' (k-l.length):=by
 unfold wf
 rw[List.getD_eq_getElem?_getD,List.getD_eq_getElem?_getD,List.getD_eq_getElem?_getD]
 split
 ·rename_i h;rw[List.getElem?_append_left h]
 ·rename_i h;rw[List.getElem?_append_right (by omega)]
theorem m13(n:Nat)(k:Nat):wf (List.replicate n (0:K)) k=0:=by
 by_cases h:k<n
 ·rw[i66 (by simpa using h),List.getElem_replicate]
 ·rw[ez9 (by simp;omega)]
theorem rb9(n:Nat):wf (List.replicate n (0:K))=fun _=>0:=funext fun k=>m13 n k
def tN(l:List K):Nat→Nat
 |0=>0
 |n+1=>if wf l n=0 then tN l n else n+1
def xa4(l:List K):List K:=l.take (tN l l.length)
theorem vv2(l:List K): ∀n,tN l n≤n
 |0=>Nat.le_refl _
 |n+1=>by have:=vv2 l n;rw[tN];split<;>omega
theorem z25(l:List K): ∀(n i:Nat),tN l n≤i→i<n→wf l i=0
 |0,i,_,h=>by omega
 |n+1,i,h1,h2=>by
  rw[tN]at h1
  split at h1
  ·by_cases he:i=n
   ·subst he;assumption
   ·exact z25 l n i h1 (by omega)
  ·omega
theorem uv7(l:List K): ∀n,tN l n≠0→wf l (tN l n-1)≠0
 |0,h=>absurd rfl h
 |n+1,h=>by
  rw[tN]at h⊢
  split
  ·rename_i h0
   rw[if_pos h0]at h
   exact uv7 l n h
  ·rw[Nat.add_sub_cancel];assumption
theorem kf0(l:List K):(xa4 l).length=tN l l.length:=by
 unfold xa4;rw[List.length_take];have:=vv2 l l.length;omega
theorem tb1(l:List K):(xa4 l).length≤l.length:=by rw[kf0];exact vv2 _ _
theorem vb5(l:List K):wf (xa4 l)=wf l:=by
 funext k
 unfold xa4
 rw[g29]
 split
 ·rfl
 ·by_cases h2:k<l.length
  ·exact(z25 l l.length k (by omega) h2).symm
  ·exact(ez9 (by omega)).symm
def Trm(l:List K):Prop:=l.length≠0→wf l (l.length-1)≠0
theorem ua7(l:List K):Trm (xa4 l):=by
 intro h
 rw[vb5,kf0]
 rw[kf0]at h
 exact uv7 l l.length h
theorem kf6{a:List K}(ha:Trm a){n:Nat}(h: ∀k,n≤k→wf a k=0):a.length≤n:=by
 by_cases hl:a.length≤n
 ·exact hl
 ·exact absurd (h (a.length-1) (by omega)) (ha (by omega))
theorem lz5{a b:List K}(ha:Trm a)(hb:Trm b)(h:wf a=wf b):a=b:=by
 have key: ∀{a b:List K},Trm a→wf a=wf b→a.length≤b.length:=fun ha h=>kf6 ha fun k hk=>by rw[h,ez9 hk]
 exact ou8 (Nat.le_antisymm (key ha h) (key hb h.symm)) h
theorem ou7{a:List K}(h:Trm a):xa4 a=a:=lz5 (ua7 a) h (vb5 a)
theorem df7{a:List K}{n:Nat}(h: ∀k,n≤k→wf a k=0):(xa4 a).length≤n:=kf6 (ua7 a) fun k hk=>by rw[vb5];exact h k hk
theorem wg5:Trm ([]:List K):=fun h=>absurd rfl h
theorem vy9{a:List K}(h:wf a=fun _=>0):xa4 a=[]:=List.eq_nil_of_length_eq_zero (Nat.le_zero.1 (df7 (n:=0) fun k _=>by rw[h]))
theorem rj1{a:List K}:xa4 a=[]↔wf a=fun _=>0:=⟨fun h=>by rw[←vb5 a,h];rfl,vy9⟩
def addK(a b:List K):List K:=xa4 (ofF (max a.length b.length) fun k=>wf a k+wf b k)
theorem w62(a b:List K):wf (addK a b)=fun k=>wf a k+wf b k:=by
 unfold addK
 rw[vb5]
 exact ot8 fun k hk=>by rw[ez9 (by omega),ez9 (by omega),FK.add_zero]
theorem y42(a b:List K):Trm (addK a b):=ua7 _
theorem tt8(g:Nat→K)(k:Nat):disc (fun _=>0) g k=0:=ja4 fun _ _=>zero_mul _
theorem hr4{f g:Nat→K}{n m k:Nat}(hf: ∀i,n≤i→f i=0)(hg: ∀i,m≤i→g i=0)(hk:n+m≤k+1):disc f g k=0:=ja4 fun i hi=>by
 by_cases h:n≤i
 ·rw[hf i h,zero_mul]
 ·rw[hg (k-i) (by omega),mul_zero]
theorem b30{f g:Nat→K}{n m:Nat}(hf: ∀i,n<i→f i=0)(hg: ∀i,m<i→g i=0):disc f g (n+m)=f n*g m:=by
 unfold disc
 rw[xq2 (s:=n) (by omega) fun i hi hne=> ?_]
 ·rw[show n+m-n=m by omega]
 ·by_cases h:n<i
  ·rw[hf i h,zero_mul]
  ·rw[hg _ (by omega),mul_zero]
theorem ck4(f g:Nat→K)(k:Nat):disc f g k=disc g f k:=by
 unfold disc
 have: ∀(n:Nat) (h:Nat→K),sumN n h=sumN n fun i=>h (n-1-i):=by
  intro n
  induction n with
  |zero=>intro h;rfl
  |succ n ih=>
   intro h
   rw[c66,ih,cp9,FK.add_comm]
   refine congr (congrArg _ (rc1 fun i hi=> ?_)) ?_
   ·rw[show n+1-1-i=n-1-i+1 by omega]
   ·rw[show n+1-1-n=0 by omega]
 rw[this]
 refine rc1 fun i hi=> ?_
 rw[show k+1-1-i=k-i by omega,show k-(k-i)=i by omega,FK.mul_comm]
theorem ea3{f g h:Nat→K}{k:Nat}:disc f (fun i=>g i+h i) k=disc f g k+disc f h k:=
 (rc1 fun i _=>FK.mul_add _ _ _).trans (pv3 _ _ _)
theorem bf5{f g h:Nat→K}{k:Nat}:disc (fun i=>f i+g i) h k=disc f h k+disc g h k:=by
 rw[ck4,ea3,ck4 h f,ck4 h g]
theorem bq0{f g:Nat→K}{k:Nat}:disc f (fun i=> -g i) k= -disc f g k:=
 (rc1 fun i _=>mul_neg _ _).trans (z09 _ _)
theorem fh4{f g:Nat→K}{k:Nat}:disc (fun i=> -f i) g k= -disc f g k:=by rw[ck4,bq0,ck4]
def mulK(a b:List K):List K:=if a.length=0∨b.length=0 then []else xa4 (ofF (a.length+b.length-1) (disc (wf a) (wf b)))
theorem zu9(a b:List K):wf (mulK a b)=disc (wf a) (wf b):=by
 unfold mulK
 split
 ·rename_i h
  funext k
  rcases h with h|h
  ·rw[List.eq_nil_of_length_eq_zero h,qt9,tt8]
  ·rw[List.eq_nil_of_length_eq_zero h,ck4,qt9,tt8]
 ·rw[vb5]
  exact ot8 fun k hk=>hr4 (n:=a.length) (m:=b.length) (fun i hi=>ez9 hi) (fun i hi=>ez9 hi) (by omega)
theorem bx4(a b:List K):(mulK a b).length≤a.length+b.length-1:=by
 unfold mulK
 split
 ·exact Nat.zero_le _
 ·exact df7 fun k hk=>by rw[b43,if_neg (by omega)]
theorem lk3{a b:List K}(ha:Trm a)(hb:Trm b)(h1:a≠[])(h2:b≠[]):(mulK a b).length=a.length+b.length-1:=by
 have l1:0<a.length:=List.length_pos_iff.2 h1
 have l2:0<b.length:=List.length_pos_iff.2 h2
 refine Nat.le_antisymm (bx4 a b) (Classical.byContradiction fun h=> ?_)
 have h3:disc (wf a) (wf b) (a.length-1+(b.length-1))=0:=by rw[←zu9,ez9 (by omega)]
 rw[b30 (fun i hi=>ez9 (by omega)) (fun i hi=>ez9 (by omega))]at h3
 exact hl3 (ha (by omega)) (hb (by omega)) h3
def ev:List K→K→K
 | [],_=>0
 |a::l,x=>a+x*ev l x
def sd(x0:K):List K→List K×K
 | []=>([],0)
 | [a]=>([],a)
 |a::b::l=>((sd x0 (b::l)).2::(sd x0 (b::l)).1,a+x0*(sd x0 (b::l)).2)
theorem w89(x0:K): ∀l:List K,(sd x0 l).1.length=l.length-1
 | []=>rfl
 | [a]=>rfl
 |a::b::l=>by
  rw[sd]
  show(sd x0 (b::l)).1.length+1=_
  rw[w89 x0 (b::l)];simp
theorem n68(x0 y:K): ∀l:List K,ev l y=(y-x0)*ev (sd x0 l).1 y+(sd x0 l).2
 | []=>by rw[sd,ev,mul_zero,FK.add_zero]
 | [a]=>by
   show a+y*0=(y-x0)*0+a
   rw[mul_zero,mul_zero,FK.add_zero,zero_add]
 |a::b::l=>by
  rw[ev,n68 x0 y (b::l),sd]
  show a+y*((y-x0)*ev (sd x0 (b::l)).1 y+(sd x0 (b::l)).2)=(y-x0)*((sd x0 (b::l)).2+y*ev (sd x0 (b::l)).1 y)+(a+x0*(sd x0 (b::l)).2)
  generalize (sd x0 (b::l)).2=r
  generalize ev (sd x0 (b::l)).1 y=e
  rw[FK.mul_add,FK.mul_add,sub_mul y x0 r]
  have h1:y*((y-x0)*e)=(y-x0)*(y*e):=by ac_rfl
  rw[h1,sub_eq (y*r)]
  have h2:y*r+ -(x0*r)+(y-x0)*(y*e)+(a+x0*r)=a+((y-x0)*(y*e)+y*r)+(-(x0*r)+x0*r):=by ac_rfl
  rw[h2,neg_add,FK.add_zero]
theorem cz6(x0:K)(l:List K):(sd x0 l).2=ev l x0:=by
 have:=n68 x0 x0 l
 rw[sub_self,zero_mul,zero_add]at this
 exact this.symm
theorem rj2(x0:K): ∀l:List K,(∀c∈(sd x0 l).1,c=0)→(sd x0 l).2=0→ ∀c∈l,c=0
 | [],_,_,c,hc=>by cases hc
 | [a],_,h,c,hc=>by
   rw[List.mem_singleton.1 hc];exact h
 |a::b::l,h1,h2,c,hc=>by
  rw[sd]at h1 h2
  have hr:(sd x0 (b::l)).2=0:=h1 _ (by simp)
  have ih:=rj2 x0 (b::l) (fun c hc=>h1 c (by simp[hc])) hr
  rcases List.mem_cons.1 hc with rfl|hc
  ·rw[hr,mul_zero,FK.add_zero]at h2;exact h2
  ·exact ih c hc
theorem roots: ∀(xs:List K) (f:List K),xs.Nodup→f.length≤xs.length→(∀x∈xs,ev f x=0)→ ∀c∈f,c=0
 | [],f,_,hl,_=>by
   intro c hc
   rw[List.eq_nil_of_length_eq_zero (Nat.le_zero.1 hl)]at hc;cases hc
 |x0::xs,f,hn,hl,hx=>by
  rw[List.nodup_cons]at hn
  have h0:=hx x0 (by simp)
  rw[←cz6]at h0
  have hl2:=w89 x0 f
  rw[List.length_cons]at hl
  refine rj2 x0 f (roots xs _ hn.2 (by omega) fun y hy=> ?_) h0
  have h1:=n68 x0 y f
  rw[hx y (by simp[hy]),h0,FK.add_zero]at h1
  rcases mul_eq_zero h1.symm with h2|h2
  ·exact absurd (by rw[←sub_eq_zero.1 h2];exact hy) hn.1
  ·exact h2
end
end Go.Alg
namespace Go.Alg
section
variable {K:Type} [FK K]
theorem op2{f:Nat→K}{n:Nat}(hf: ∀k,n≤k→f k=0)(hne:f≠fun _=>0): ∃m,f m≠0∧ ∀k,m<k→f k=0:=by
 have h1:wf (ofF n f)=f:=ot8 hf
 have h2:xa4 (ofF n f)≠[]:=fun h=>hne (by rw[←h1];exact rj1.1 h)
 have h3:0<(xa4 (ofF n f)).length:=List.length_pos_iff.2 h2
 refine⟨(xa4 (ofF n f)).length-1, ?_,fun k hk=> ?_⟩
 ·have:=ua7 (ofF n f) (by omega)
  rwa [vb5,h1]at this
 ·rw[←h1,←vb5]
  exact ez9 (by omega)
theorem fq3{f g:Nat→K}{n m:Nat}(hf: ∀k,n≤k→f k=0)(hg: ∀k,m≤k→g k=0)(h1:f≠fun _=>0)(h2:g≠fun _=>0): ∃i j,f i≠0∧(∀k,i<k→f k=0)∧g j≠0∧(∀k,j<k→g k=0)∧disc f g (i+j)≠0:=by
 obtain⟨i,i1,i2⟩:=op2 hf h1
 obtain⟨j,j1,j2⟩:=op2 hg h2
 exact⟨i,j,i1,i2,j1,j2,by rw[b30 i2 j2];exact hl3 i1 j1⟩
structure IsDiv (a b Q R:List K):Prop where
 q:Trm Q
 r:Trm R
 lt:R.length<b.length
 eq: ∀k,wf a k=disc (wf Q) (wf b) k+wf R k
theorem IsDiv.uniq{a b Q R Q' R':List K}(hb:Trm b)(h:IsDiv a b Q R)(h':IsDiv a b Q' R'):Q=Q'∧R=R':=by
 have hbl:0<b.length:=by have:=h.lt;omega
 have hq:wf Q=wf Q':=by
  refine Classical.byContradiction fun hne=> ?_
  have hD:(fun k=>wf Q k+ -wf Q' k)≠fun _=>0:=fun e=>hne (funext fun k=>sub_eq_zero.1 (congrFun e k))
  have hB:wf b≠fun _=>0:=fun e=>hb (by omega) (congrFun e _)
  obtain⟨i,j,i1,i2,j1,j2,h1⟩:=fq3 (n:=max Q.length Q'.length) (m:=b.length) (fun k hk=>by rw[ez9 (by omega),ez9 (by omega),neg_zero,FK.add_zero]) (fun k hk=>ez9 hk) hD hB
  have hj:j=b.length-1:=by
   have h2:=hb (by omega)
   rcases Nat.lt_trichotomy j (b.length-1)with h|h|h
   ·exact absurd (j2 _ h) h2
   ·exact h
   ·exact absurd (ez9 (by omega)) j1
  apply h1
  rw[bf5,fh4]
  have e1:=h.eq (i+j)
  have e2:=h'.eq (i+j)
  rw[ez9 (l:=R) (by have:=h.lt;omega),FK.add_zero]at e1
  rw[ez9 (l:=R') (by have:=h'.lt;omega),FK.add_zero]at e2
  rw[←e1,←e2,FK.add_neg]
 have hQ:=lz5 h.q h'.q hq
 refine⟨hQ,lz5 h.r h'.r (funext fun k=> ?_)⟩
 have e1:=h.eq k
 rw[h'.eq k,hQ]at e1
 exact(g50 e1).symm
theorem uj8(c:K)(k:Nat)(g:Nat→K)(j:Nat):disc (fun i=>if i=k then c else 0) g j=c*shift k g j:=by
 unfold shift
 split
 ·rename_i h
  rw[mul_zero]
  exact ja4 fun i hi=>by
   show(if i=k then c else 0)*_=_
   rw[if_neg (by omega),zero_mul]
 ·rename_i h
  unfold disc
  rw[xq2 (s:=k) (by omega) fun i _ hne=>by
   show(if i=k then c else 0)*_=_
   rw[if_neg hne,zero_mul]]
  show(if k=k then c else 0)*_=_
  rw[if_pos rfl]
structure DivI (a b:List K) (k:Nat) (Q R:List K):Prop where
 eq: ∀j,wf a j=disc (wf Q) (wf b) j+wf R j
 up: ∀j,k+b.length≤j+1→wf R j=0
 low: ∀j,j<k→wf Q j=0
theorem DivI.step{a b:List K}{k:Nat}{Q R Q' R':List K}(hb:0<b.length)(hb0:wf b (b.length-1)≠0)(h:DivI a b (k+1) Q R){c:K}(hc:c=wf R (k+b.length-1)*FK.inv (wf b (b.length-1)))
 (hQ: ∀j,wf Q' j=if j=k then c else wf Q j) (hR: ∀j,wf R' j=wf R j-c*shift k (wf b) j):DivI a b k Q' R':=by
 have hQf:wf Q'=fun j=>wf Q j+(if j=k then c else 0):=funext fun j=>by
  rw[hQ]
  split
  ·rename_i e;rw[e,h.low k (by omega),zero_add]
  ·rw[FK.add_zero]
 refine⟨fun j=> ?_,fun j hj=> ?_,fun j hj=> ?_⟩
 ·rw[h.eq j,hQf,bf5,uj8,hR,FK.add_assoc,FK.add_comm (c*_),fj9]
 ·rw[hR]
  by_cases he:j+1=k+b.length
  ·rw[show k+b.length-1=j by omega]at hc
   unfold shift
   rw[if_neg (by omega),show j-k=b.length-1 by omega,hc,FK.mul_assoc,inv_mul hb0,FK.mul_one,sub_self]
  ·rw[h.up j (by omega)]
   unfold shift
   rw[if_neg (by omega),ez9 (by omega),mul_zero,sub_zero]
 ·rw[hQ,if_neg (by omega),h.low j (by omega)]
theorem DivI.done{a b Q R:List K}(h:DivI a b 0 Q R)(hb:0<b.length):IsDiv a b (xa4 Q) (xa4 R):=by
 refine⟨ua7 _,ua7 _, ?_,fun k=>by rw[vb5,vb5];exact h.eq k⟩
 have:=df7 (a:=R) (n:=b.length-1) fun k hk=>h.up k (by omega)
 omega
theorem DivI.start{a b:List K}{n k:Nat}(hk:a.length≤k+b.length-1):DivI a b k (List.replicate n 0) a:=
 ⟨fun j=>by rw[rb9,tt8,zero_add],fun j hj=>ez9 (by omega),fun j _=>m13 n j⟩
def subR(c:K)(b:List K)(k:Nat):Nat→Nat→List K→List K
 |0,_,R=>R
 |n+1,i,R=>subR c b k n (i+1) (R.set (k+i) (wf R (k+i)-c*wf b i))
theorem xs2(c:K)(b:List K)(k:Nat): ∀(n i:Nat) (R:List K),(subR c b k n i R).length=R.length
 |0,_,_=>rfl
 |n+1,i,R=>by rw[subR,xs2 c b k n,List.length_set]
theorem je9(c:K)(b:List K)(k:Nat): ∀(n i:Nat) (R:List K),k+i+n≤R.length→ ∀j,wf (subR c b k n i R) j=if k+i≤j∧j<k+i+n then wf R j-c*wf b (j-k)else wf R j
 |0,i,R,_,j=>by rw[subR,if_neg (by omega)]
 |n+1,i,R,h,j=>by
  rw[subR,je9 c b k n (i+1) _ (by rw[List.length_set];omega),wf_set (by omega)]
  by_cases h1:j=k+i
  ·subst h1
   rw[if_neg (by omega),if_pos rfl,if_pos (by omega),Nat.add_sub_cancel_left]
  ·rw[if_neg h1]
   by_cases h2:k+(i+1)≤j∧j<k+(i+1)+n
   ·rw[if_pos h2,if_pos (by omega)]
   ·rw[if_neg h2,if_neg (by omega)]
theorem fn2(c:K)(b:List K)(k:Nat)(R:List K)(h:k+b.length≤R.length)(j:Nat):wf (subR c b k b.length 0 R) j=wf R j-c*shift k (wf b) j:=by
 rw[je9 c b k _ _ _ (by omega)]
 unfold shift
 by_cases h1:j<k
 ·rw[if_neg (by omega),if_pos h1,mul_zero,sub_zero]
 ·rw[if_neg h1]
  by_cases h2:j<k+b.length
  ·rw[if_pos (by omega)]
  ·rw[if_neg (by omega),ez9 (l:=b) (by omega),mul_zero,sub_zero]
theorem bg8{a b:List K}(hb:0<b.length)(hb0:wf b (b.length-1)≠0): ∀(k:Nat) (Q R:List K),DivI a b k Q R→k≤Q.length→k+b.length≤R.length+1→ ∃Q' R',DivI a b 0 Q' R'
 |0,Q,R,h,_,_=>⟨Q,R,h⟩
 |k+1,Q,R,h,hq,hr=>bg8 hb hb0 k (Q.set k (wf R (k+b.length-1)*FK.inv (wf b (b.length-1)))) (subR (wf R (k+b.length-1)*FK.inv (wf b (b.length-1))) b k b.length 0 R)
   (h.step hb hb0 rfl (fun j=>wf_set (by omega) j) (fn2 _ b k R (by omega))) (by rw[List.length_set];omega) (by rw[xs2];omega)
theorem uj1{a b:List K}(hb:Trm b)(hb0:b≠[]): ∃Q R,IsDiv a b Q R:=by
 have h1:0<b.length:=List.length_pos_iff.2 hb0
 obtain⟨Q,R,h⟩:=bg8 (a:=a) h1 (hb (by omega)) (a.length+1-b.length) (List.replicate (a.length+1-b.length) 0) (a++List.replicate b.length 0)
  (by
    have e:wf (a++List.replicate b.length 0)=wf a:=funext fun k=>by
     rw[nz0]
     split
     ·rfl
     ·rw[m13,ez9 (by omega)]
    have:=DivI.start (a:=a) (b:=b) (n:=a.length+1-b.length) (k:=a.length+1-b.length) (by omega)
    exact⟨fun j=>by rw[e];exact this.eq j,fun j hj=>by rw[e];exact this.up j hj,this.low⟩) (by simp) (by simp;omega)
 exact⟨_,_,h.done h1⟩
theorem IsDiv.len{a b Q R:List K}(h:IsDiv a b Q R)(ha:Trm a)(hb:Trm b)(hl:b.length≤a.length):Q.length=a.length-b.length+1∧Q≠[]:=by
 have hb0:0<b.length:=by have:=h.lt;omega
 have hne:Q≠[]:=fun e=>by
  have h1:=h.eq (a.length-1)
  rw[e,qt9,tt8,zero_add,ez9 (l:=R) (by have:=h.lt;omega)]at h1
  exact ha (by omega) h1
 have hq:0<Q.length:=List.length_pos_iff.2 hne
 have hlen:=lk3 h.q hb hne (fun e=>by rw[e]at hb0;exact absurd hb0 (by simp))
 have key:mulK Q b≠[]:=fun e=>by rw[e]at hlen;simp at hlen;omega
 refine⟨?_,hne⟩
 rcases Nat.lt_trichotomy (Q.length+b.length-1) a.length with h1|h1|h1
 ·have h2:=h.eq (a.length-1)
  rw[hr4 (n:=Q.length) (m:=b.length) (fun i hi=>ez9 hi) (fun i hi=>ez9 hi) (by omega),ez9 (l:=R) (by have:=h.lt;omega),FK.add_zero]at h2
  exact absurd h2 (ha (by omega))
 ·omega
 ·have h2:=h.eq (Q.length+b.length-2)
  rw[ez9 (by omega),ez9 (l:=R) (by have:=h.lt;omega),FK.add_zero,show Q.length+b.length-2=(Q.length-1)+(b.length-1) by omega,b30 (fun i hi=>ez9 (by omega)) (fun i hi=>ez9 (by omega))]at h2
  exact absurd h2.symm (hl3 (h.q (by omega)) (hb (by omega)))
theorem IsDiv.of_mul{a b Q:List K}(hb:Trm b)(hb0:b≠[])(h:wf a=disc (wf Q) (wf b)):IsDiv a b (xa4 Q) []:=
 ⟨ua7 _,wg5,List.length_pos_iff.2 hb0,fun k=>by rw[vb5,h,qt9,FK.add_zero]⟩
end
end Go.Alg
namespace Go.Proofs.Ytodbgomfeacdhaa
open Go.Am Go.Vm Go.Alg
def polE(q:Int)(a:List Int):Int:=match fldN q.toNat with
 |none=>1
 |some _=>if 128<a.length then 4 else if(a.any fun v=> !fok q v)=true then 2 else 0
theorem i69{q:Int}(a:List (El q)):((vs a).any fun v=> !fok q v)=false:=List.any_eq_false.2 fun z hz=>by
 obtain⟨x,_,rfl⟩:=List.mem_map.1 hz
 rw[x.ok];decide
theorem i31{q:Int} [h:IsFld q]{a:List (El q)}(hl:a.length≤128):polE q (vs a)=0:=by
 obtain⟨p,m,g,mod,hn⟩:=h.ok
 unfold polE
 rw[hn]
 simp only
 rw[if_neg (by rw[fi2];omega),i69,if_neg (by decide)]
section
variable {q:Int} {b:Bool} {nl:Nat} {l:List Int}
theorem kj6 [IsFld q](hl:l.length≤9223372036854775807): ∀(n i:Nat),i+n=l.length→ ∀ks,
 vgoL W ⟨hNo,[.tmp 4],0⟩ [5,20,21,22] c160L0 (.blk 0 []::ks) [(5, .fz true (pF q)),(20, .fz b (.sl nl 0 1 (ivs l))),(21, .x (.int .i64 l.length)),(22, .x (.int .i64 i))] []=if((l.drop i).any fun v=> !fok q v)=true then some (.x (.int .i64 2),[],[])else vgo W ⟨hNo,[.tmp 4],0⟩ ks (VFr.of []) []
 |0,i,hi,ks=>by
  rw[oh9 (by omega),if_neg (by simp),sb5 c160L0.eq_def]
  simp(disch:=first|omega|fail) only[push_cast,seval,vrl,if_pos,if_neg]
 |n+1,i,hi,ks=>by
  have ih:=kj6 hl n (i+1) (by omega) ks
  obtain⟨a,ha⟩:=ge6 (l:=l) (i:=i) (by omega)
  have h1:=iat ha
  rw[i62 ha,List.any_cons]
  rw[Int.natCast_add,Int.natCast_one]at ih
  cases hk:fok q a with
  |false=>
   rw[if_pos (by rfl),sb5 c160L0.eq_def]
   simp(disch:=first|omega|fail) only[push_cast,seval,vrl,if_pos,if_neg,h1,hk]
  |true=>
   rw[Bool.not_true,Bool.false_or,←ih,sb5 c160L0.eq_def]
   simp(disch:=first|omega|fail) only[push_cast,seval,vrl,if_pos,if_neg,h1,hk]
theorem bw7(hl:l.length≤9223372036854775807):o24 W 160 [.x (.int .i64 q), .fz b (.sl nl 0 1 (ivs l))] []=some (.x (.int .i64 (polE q l)),[],[]):=by
 unfold polE
 cases hn:fldN q.toNat with
 |none=>
  have e0:=uh0 hn
  rw[o10 rfl T160 rfl]
  unfold F160 c160
  simp(disch:=first|omega|fail) only[push_cast,seval,vrl,if_pos,if_neg,e0]
 |some x=>
  obtain⟨p0,m0,g0,mod⟩:=x
  haveI:IsFld q:=⟨⟨p0,m0,g0,mod,hn⟩⟩
  simp only
  by_cases h1:128<l.length
  ·rw[if_pos h1,o10 rfl T160 rfl]
   unfold F160 c160
   simp(disch:=first|omega|fail) only[push_cast,seval,vrl,if_pos,if_neg]
  ·rw[if_neg h1]
   have e:=fun ks=>kj6 (q:=q) hl (b:=b) (nl:=nl) l.length 0 (by omega) ks
   simp only[Int.natCast_zero,List.take_zero,List.drop_zero,rp2,lz6,x25,List.map_nil,List.length_nil]at e
   rw[o10 rfl T160 rfl]
   unfold F160 c160
   simp(disch:=first|omega|fail) only[push_cast,seval,vrl,if_pos,if_neg]
   rw[e]
   by_cases h2:(l.any fun v=> !fok q v)=true
   ·rw[if_pos h2,if_pos h2]
   ·rw[if_neg h2,if_neg h2]
    simp(disch:=first|omega|fail) only[push_cast,seval,vrl,if_pos,if_neg]
end
section
variable {q:Int} [IsFld q] {b:Bool} {nl:Nat} {a:List (El q)}
theorem ee1(a:List (El q))(n:Nat):(vs a).take n=vs (a.take n):=by unfold vs;rw[List.map_take]
theorem ks7(a:List (El q)):nlT (vs a)=nlT a:=b99 _ _
theorem yc2(hl:a.length≤1000000): ∀(n:Nat),n≤a.length→ ∀ks,
 vgoL W ⟨hNo,[.tmp 2],0⟩ [0,3] c204L0 (.blk 0 [0,3]::ks) [(0, .fz b (.sl nl 0 1 (ivs (vs a)))),(3, .x (.int .i64 n))] []=vgo W ⟨hNo,[.tmp 2],0⟩ ks (VFr.of [(0, .fz b (.sl nl 0 1 (ivs (vs a)))),(3, .x (.int .i64 (tN a n:Nat)))]) []
 |0,hn,ks=>by
  rw[sb5 c204L0.eq_def,tN]
  simp(disch:=first|omega|fail) only[push_cast,seval,vrl,if_pos,if_neg]
 |n+1,hn,ks=>by
  have ih:=yc2 hl n (by omega) ks
  have h1:=iva (l:=a) (i:=n) (by omega)
  have w1:IntKind.wrap .i64 (((n+1:Nat):Int)-1)=(n:Int):=by rw[wrap64 (by omega) (by omega)];omega
  rw[Int.natCast_add,Int.natCast_one]at w1
  rw[sb5 c204L0.eq_def,tN]
  by_cases h0:wf a n=0
  ·rw[if_pos h0,←ih]
   have h2:(wf a n).v=0:=r57.2 h0
   simp(disch:=first|omega|fail) only[push_cast,seval,vrl,if_pos,if_neg,w1,h1,h2]
  ·rw[if_neg h0]
   have h2: ¬(wf a n).v=0:=fun e=>h0 (r57.1 e)
   simp(disch:=first|omega|fail) only[push_cast,seval,vrl,if_pos,if_neg,w1,h1,nb8 h2]
theorem di3(hl:a.length≤1000000):o24 W 204 [.fz b (.sl nl 0 1 (ivs (vs a)))] []=some (.own 0 [],[.sl (nlT (xa4 a)) 3 1 (ivs (vs (xa4 a)))],[]):=by
 have hle:=vv2 a a.length
 have e:=fun ks=>yc2 (b:=b) (nl:=nl) hl a.length (Nat.le_refl _) ks
 have htk:(vs a).take (tN a a.length)=vs (xa4 a):=ee1 _ _
 have hlt:=tb1 a
 have e1:=fun b nl=>h18 (b:=b) (nl:=nl) (zs:=vs (xa4 a)) (by rw[fi2];omega)
 simp only[ks7]at e1
 rw[o10 rfl T204 rfl]
 unfold F204 c204
 simp(disch:=first|omega|fail) only[push_cast,seval,vrl,if_pos,if_neg]
 rw[e]
 simp(disch:=first|omega|fail) only[push_cast,seval,vrl,if_pos,if_neg,htk,e1,Int.sub_zero]
end
end Go.Proofs.Ytodbgomfeacdhaa
namespace Go.Alg
section
variable {K:Type} [FK K]
def addT(y:List K):Nat→Nat→List K→List K
 |0,_,z=>z
 |n+1,i,z=>addT y n (i+1) (z.set i (wf z i+wf y i))
theorem tl9(y:List K): ∀(n i:Nat) (z:List K),(addT y n i z).length=z.length
 |0,_,_=>rfl
 |n+1,i,z=>by rw[addT,tl9 y n,List.length_set]
theorem e73(y:List K): ∀(n i:Nat) (z:List K),i+n≤z.length→ ∀j,wf (addT y n i z) j=if i≤j∧j<i+n then wf z j+wf y j else wf z j
 |0,i,z,_,j=>by rw[addT,if_neg (by omega)]
 |n+1,i,z,h,j=>by
  rw[addT,e73 y n (i+1) _ (by rw[List.length_set];omega),wf_set (by omega)]
  by_cases h1:j=i
  ·subst h1
   rw[if_neg (by omega),if_pos rfl,if_pos (by omega)]
  ·rw[if_neg h1]
   by_cases h2:i+1≤j∧j<i+1+n
   ·rw[if_pos h2,if_pos (by omega)]
   ·rw[if_neg h2,if_neg (by omega)]
theorem ip0{x y:List K}(h:y.length≤x.length):xa4 (addT y y.length 0 x)=addK x y:=by
 refine lz5 (ua7 _) (y42 _ _) ?_
 rw[vb5,w62]
 funext j
 rw[e73 _ _ _ _ (by omega)]
 split
 ·rfl
 ·rw[ez9 (l:=y) (by omega),FK.add_zero]
theorem c89(a b:List K):addK a b=addK b a:=lz5 (y42 _ _) (y42 _ _) (by
 rw[w62,w62]
 funext j
 exact FK.add_comm _ _)
theorem zy5(a b:List K):addK (xa4 a) (xa4 b)=addK a b:=lz5 (y42 _ _) (y42 _ _) (by rw[w62,w62,vb5,vb5])
def divT(b:List K)(top:K):Nat→List K→List K→List K×List K
 |0,Q,R=>(Q,R)
 |k+1,Q,R=>divT b top k (Q.set k (wf R (k+b.length-1)*top)) (subR (wf R (k+b.length-1)*top) b k b.length 0 R)
theorem w81(b:List K)(top:K): ∀(k:Nat) (Q R:List K),(divT b top k Q R).1.length=Q.length∧(divT b top k Q R).2.length=R.length
 |0,_,_=>⟨rfl,rfl⟩
 |k+1,Q,R=>by
  have:=w81 b top k (Q.set k (wf R (k+b.length-1)*top)) (subR (wf R (k+b.length-1)*top) b k b.length 0 R)
  rw[List.length_set,xs2]at this
  rw[divT];exact this
theorem ch2{a b:List K}(hb:0<b.length)(hb0:wf b (b.length-1)≠0): ∀(k:Nat) (Q R:List K),DivI a b k Q R→k≤Q.length→k+b.length≤R.length+1→DivI a b 0 (divT b (FK.inv (wf b (b.length-1))) k Q R).1 (divT b (FK.inv (wf b (b.length-1))) k Q R).2
 |0,Q,R,h,_,_=>h
 |k+1,Q,R,h,hq,hr=>by
  rw[divT]
  exact ch2 hb hb0 k _ _ (h.step hb hb0 rfl (fun j=>wf_set (by omega) j) (fn2 _ b k R (by omega))) (by rw[List.length_set];omega) (by rw[xs2];omega)
open Classical in
noncomputable def quoP (a b:List K):List K:=if h: ∃p:List K×List K,IsDiv a b p.1 p.2 then(Classical.choose h).1 else []
open Classical in
noncomputable def remP (a b:List K):List K:=if h: ∃p:List K×List K,IsDiv a b p.1 p.2 then(Classical.choose h).2 else []
theorem h79{a b:List K}(hb:Trm b)(hb0:b≠[]):IsDiv a b (quoP a b) (remP a b):=by
 obtain⟨Q,R,h⟩:=uj1 (a:=a) hb hb0
 have hx: ∃p:List K×List K,IsDiv a b p.1 p.2:=⟨(Q,R),h⟩
 unfold quoP remP
 rw[dif_pos hx,dif_pos hx]
 exact Classical.choose_spec hx
theorem div_eq{a b Q R:List K}(hb:Trm b)(h:IsDiv a b Q R):quoP a b=Q∧remP a b=R:=by
 have hb0:b≠[]:=fun e=>by have:=h.lt;rw[e]at this;simp at this
 exact(h79 hb hb0).uniq hb h
theorem kj5{a b:List K}(ha:Trm a)(hb:Trm b)(hb0:b≠[])(hl:b.length≤a.length):(divT b (FK.inv (wf b (b.length-1))) (a.length-b.length+1) (List.replicate (a.length-b.length+1) 0) a).1=quoP a b∧xa4 (divT b (FK.inv (wf b (b.length-1))) (a.length-b.length+1) (List.replicate (a.length-b.length+1) 0) a).2=remP a b:=by
 have h1:0<b.length:=List.length_pos_iff.2 hb0
 have h:=(ch2 (a:=a) h1 (hb (by omega)) (a.length-b.length+1) (List.replicate (a.length-b.length+1) 0) a (DivI.start (by omega)) (by simp) (by omega)).done h1
 have hl1:=(w81 b (FK.inv (wf b (b.length-1))) (a.length-b.length+1) (List.replicate (a.length-b.length+1) 0) a).1
 rw[List.length_replicate]at hl1
 generalize divT b (FK.inv (wf b (b.length-1))) (a.length-b.length+1) (List.replicate (a.length-b.length+1) 0) a=D at h hl1⊢
 obtain⟨e1,e2⟩:=div_eq hb h
 have hq:=(h.len ha hb hl).1
 refine⟨?_,e2.symm⟩
 rw[e1]
 exact ou8 (by rw[hl1,hq]) (vb5 _).symm
theorem i84{a b:List K}(ha:Trm a)(hb:Trm b)(hl:a.length<b.length):quoP a b=[]∧remP a b=a:=div_eq hb ⟨wg5,ha,hl,fun k=>by rw[qt9,tt8,zero_add]⟩
end
end Go.Alg
namespace Go.Proofs.Ytodbgomfeacdhaa
open Go.Am Go.Vm Go.Alg
section
variable {q:Int} {b b':Bool} {nl nl':Nat}
theorem ce8 [IsFld q]{a c:List (El q)}(ha:a.length≤128)(hc:c.length≤128):
 o24 W 202 [.x (.int .i64 q), .fz b (.sl nl 0 1 (ivs (vs a))), .fz b' (.sl nl' 0 1 (ivs (vs c)))] []=some (.tup [.fz true (pF q), .own 0 [], .own 1 [], .x (.int .i64 0)],[.sl (nlT (xa4 a)) 3 1 (ivs (vs (xa4 a))), .sl (nlT (xa4 c)) 3 1 (ivs (vs (xa4 c)))],[]):=by
 have e1:=fun b nl=>bw7 (q:=q) (b:=b) (nl:=nl) (l:=vs a) (by rw[fi2];omega)
 have e2:=fun b nl=>bw7 (q:=q) (b:=b) (nl:=nl) (l:=vs c) (by rw[fi2];omega)
 simp only[i31 ha]at e1
 simp only[i31 hc]at e2
 have e3:=fun b nl=>di3 (b:=b) (nl:=nl) (a:=a) (by omega)
 have e4:=fun b nl=>di3 (b:=b) (nl:=nl) (a:=c) (by omega)
 rw[o10 rfl T202 rfl]
 unfold F202 c202
 simp(disch:=first|omega|fail) only[push_cast,seval,vrl,if_pos,if_neg,e1,e2,e3,e4]
theorem ae4 [IsFld q]{y:List (El q)}(hy:y.length≤1000): ∀(n i:Nat) (z:List (El q)),i+n=y.length→y.length≤z.length→ ∀ks,
 vgoL W ⟨h162,[.tmp 6, .tmp 7],0⟩ [1,8,31,32,33] c162L0 (.blk 0 [1]::ks) [(1, .own 0 []),(8, .fz true (pF q)),(31, .own 1 []),(32, .x (.int .i64 y.length)),(33, .x (.int .i64 i))] [.sl nl 3 1 (ivs (vs z)), .sl nl' 3 1 (ivs (vs y))]=
  vgo W ⟨h162,[.tmp 6, .tmp 7],0⟩ ks (VFr.of [(1, .own 0 [])]) [.sl nl 3 1 (ivs (vs (addT y n i z))), .sl nl' 3 1 (ivs (vs y))]
 |0,i,z,hi,hz,ks=>by
  rw[addT,sb5 c162L0.eq_def]
  simp(disch:=first|omega|fail) only[push_cast,seval,vrl,if_pos,if_neg]
 |n+1,i,z,hi,hz,ks=>by
  have ih:=ae4 hy n (i+1) (z.set i (wf z i+wf y i)) (by omega) (by rw[List.length_set];exact hz) ks
  have h1:=iva (l:=y) (i:=i) (by omega)
  have h2:=iva (l:=z) (i:=i) (by omega)
  rw[Int.natCast_add,Int.natCast_one,←g52,on0]at ih
  rw[addT,←ih,sb5 c162L0.eq_def]
  simp(disch:=first|omega|fail) only[push_cast,seval,vrl,if_pos,if_neg,h1,h2]
theorem wa2 [IsFld q]{a c:List (El q)}(ha:a.length≤128)(hc:c.length≤128):
 o24 W 162 [.x (.int .i64 q), .fz b (.sl nl 0 1 (ivs (vs a))), .fz b' (.sl nl' 0 1 (ivs (vs c)))] []=some (.tup [.own 0 [], .x (.int .i64 0)],[.sl (nlT (addK a c)) 3 1 (ivs (vs (addK a c)))],[]):=by
 have e1:=fun b nl b' nl'=>ce8 (b:=b) (nl:=nl) (b':=b') (nl':=nl') ha hc
 have la:=tb1 a
 have lc:=tb1 c
 have hs:=zy5 a c
 by_cases hl:(xa4 a).length<(xa4 c).length
 ·have e2:=fun nl nl' ks=>ae4 (q:=q) (nl:=nl) (nl':=nl') (y:=xa4 a) (by omega) (xa4 a).length 0 (xa4 c) (by omega) (by omega) ks
  have ht:=ip0 (x:=xa4 c) (y:=xa4 a) (by omega)
  rw[c89,hs]at ht
  have e3:=fun b nl=>di3 (b:=b) (nl:=nl) (a:=addT (xa4 a) (xa4 a).length 0 (xa4 c)) (by rw[tl9];omega)
  simp only[ht]at e3
  generalize addT (xa4 a) (xa4 a).length 0 (xa4 c)=Z at*
  generalize xa4 a=A at*
  generalize xa4 c=C at*
  simp only[Int.natCast_zero,List.take_zero,List.drop_zero,rp2,lz6,x25,List.map_nil,List.length_nil]at e2
  rw[o10 rfl T162 rfl]
  unfold F162 c162
  simp(disch:=first|omega|fail) only[push_cast,seval,vrl,if_pos,if_neg,e1]
  rw[e2]
  simp(disch:=first|omega|fail) only[push_cast,seval,vrl,if_pos,if_neg,e3]
 ·have e2:=fun nl nl' ks=>ae4 (q:=q) (nl:=nl) (nl':=nl') (y:=xa4 c) (by omega) (xa4 c).length 0 (xa4 a) (by omega) (by omega) ks
  have ht:=ip0 (x:=xa4 a) (y:=xa4 c) (by omega)
  rw[hs]at ht
  have e3:=fun b nl=>di3 (b:=b) (nl:=nl) (a:=addT (xa4 c) (xa4 c).length 0 (xa4 a)) (by rw[tl9];omega)
  simp only[ht]at e3
  generalize addT (xa4 c) (xa4 c).length 0 (xa4 a)=Z at*
  generalize xa4 a=A at*
  generalize xa4 c=C at*
  simp only[Int.natCast_zero,List.take_zero,List.drop_zero,rp2,lz6,x25,List.map_nil,List.length_nil]at e2
  rw[o10 rfl T162 rfl]
  unfold F162 c162
  simp(disch:=first|omega|fail) only[push_cast,seval,vrl,if_pos,if_neg,e1]
  rw[e2]
  simp(disch:=first|omega|fail) only[push_cast,seval,vrl,if_pos,if_neg,e3]
end
section
variable {q:Int} {b b':Bool} {nl nl':Nat}
theorem xl6 [IsFld q]{c:List (El q)}{k:Nat}{v:El q}{top:Int}(hc:c.length≤1000)(hk:k≤1000){T:Tree}{nr:Nat}: ∀(n i:Nat) (R:List (El q)),i+n=c.length→k+c.length≤R.length→ ∀ks,
 vgoL W ⟨h203,[.tmp 6, .tmp 7],0⟩ [0,2,6,7,8,9,10,57,58,59] c203L0 (.blk 2 [0,2,6,7,8,9]::ks) [(0, .fz true (pF q)),(2, .fz b' (.sl nl' 0 1 (ivs (vs c)))),(6, .own 0 []),(7, .own 1 []),(8, .x (.int .i64 top)),(9, .x (.int .i64 k)),(10, .x (.int .i64 v.v)),(57, .fz b' (.sl nl' 0 1 (ivs (vs c)))),(58, .x (.int .i64 c.length)),(59, .x (.int .i64 i))] [T, .sl nr 3 1 (ivs (vs R))]=
  vgo W ⟨h203,[.tmp 6, .tmp 7],0⟩ ks (VFr.of [(0, .fz true (pF q)),(2, .fz b' (.sl nl' 0 1 (ivs (vs c)))),(6, .own 0 []),(7, .own 1 []),(8, .x (.int .i64 top)),(9, .x (.int .i64 k))]) [T, .sl nr 3 1 (ivs (vs (subR v c k n i R)))]
 |0,i,R,hi,hR,ks=>by
  rw[subR,sb5 c203L0.eq_def]
  simp(disch:=first|omega|fail) only[push_cast,seval,vrl,if_pos,if_neg]
 |n+1,i,R,hi,hR,ks=>by
  have ih:=xl6 (v:=v) (top:=top) hc hk (T:=T) (nr:=nr) n (i+1) (R.set (k+i) (wf R (k+i)-v*wf c i)) (by omega) (by rw[List.length_set];exact hR) ks
  have h1:=iva (l:=c) (i:=i) (by omega)
  have h2:=iva (l:=R) (i:=k+i) (by omega)
  have w1:IntKind.wrap .i64 ((k:Int)+(i:Int))=((k+i:Nat):Int):=by rw[wrap64 (by omega) (by omega)];omega
  rw[Int.natCast_add,Int.natCast_one,←g52,bq9,ym6]at ih
  rw[subR,←ih,sb5 c203L0.eq_def]
  generalize hG:k+i=ki at*
  simp(disch:=first|omega|fail) only[push_cast,seval,vrl,if_pos,if_neg,h1,w1,h2]
theorem xy4 [IsFld q]{c:List (El q)}{top:El q}(hc:c.length≤900)(hc0:0<c.length){nq nr:Nat}: ∀(k:Nat) (Q R:List (El q)),k≤1000→k≤Q.length→(0<k→k+c.length≤R.length+1)→ ∀ks,
 vgoL W ⟨h203,[.tmp 6, .tmp 7],0⟩ [0,2,6,7,8,9] c203L1 (.blk 0 [6,7]::ks) [(0, .fz true (pF q)),(2, .fz b' (.sl nl' 0 1 (ivs (vs c)))),(6, .own 0 []),(7, .own 1 []),(8, .x (.int .i64 top.v)),(9, .x (.int .i64 ((k:Int)-1)))] [.sl nq 3 1 (ivs (vs Q)), .sl nr 3 1 (ivs (vs R))]=
  vgo W ⟨h203,[.tmp 6, .tmp 7],0⟩ ks (VFr.of [(6, .own 0 []),(7, .own 1 [])]) [.sl nq 3 1 (ivs (vs (divT c top k Q R).1)), .sl nr 3 1 (ivs (vs (divT c top k Q R).2))]
 |0,Q,R,h1,h2,h3,ks=>by
  rw[divT,sb5 c203L1.eq_def]
  simp(disch:=first|omega|fail) only[push_cast,seval,vrl,if_pos,if_neg]
 |k+1,Q,R,h1,h2,h3,ks=>by
  have h3:=h3 (by omega)
  have ih:=xy4 (top:=top) hc hc0 (nq:=nq) (nr:=nr) k (Q.set k (wf R (k+c.length-1)*top)) (subR (wf R (k+c.length-1)*top) c k c.length 0 R) (by omega) (by rw[List.length_set];omega) (fun _=>by rw[xs2];omega) ks
  have e:=fun T ks=>xl6 (b':=b') (nl':=nl') (c:=c) (k:=k) (v:=wf R (k+c.length-1)*top) (top:=top.v) (by omega) (by omega) (T:=T) (nr:=nr) c.length 0 R (by omega) (by omega) ks
  simp only[Int.natCast_zero,List.take_zero,List.drop_zero,rp2,lz6,x25,List.map_nil,List.length_nil]at e
  have l1:=iva (l:=R) (i:=k+c.length-1) (by omega)
  have w1:IntKind.wrap .i64 ((k:Int)+(c.length:Int)-1)=((k+c.length-1:Nat):Int):=by rw[wrap64 (by omega) (by omega)];omega
  have e9:((k+1:Nat):Int)-1=(k:Int):=by omega
  have hm:=ym6 (wf R (k+c.length-1)) top
  rw[←g52,hm]at ih
  rw[hm]at e
  rw[divT,←ih,e9,sb5 c203L1.eq_def]
  generalize hG:k+c.length-1=kc at*
  simp(disch:=first|omega|fail) only[push_cast,seval,vrl,if_pos,if_neg,l1,w1]
  rw[e]
  simp(disch:=first|omega|fail) only[push_cast,seval,vrl,if_pos,if_neg]
theorem ag0 [IsFld q]{a c:List (El q)}(ha:Trm a)(hc:Trm c)(hc0:c≠[])(hal:a.length≤500)(hcl:c.length≤500):
 ∃n,o24 W 203 [.fz true (pF q), .fz b (.sl nl 0 1 (ivs (vs a))), .fz b' (.sl nl' 0 1 (ivs (vs c)))] []=some (.tup [.own 0 [], .own 1 []],[.sl n 3 1 (ivs (vs (quoP a c))), .sl (nlT (remP a c)) 3 1 (ivs (vs (remP a c)))],[]):=by
 have h0:0<c.length:=List.length_pos_iff.2 hc0
 have hlast:wf c (c.length-1)≠0:=hc (by omega)
 have e1:=fun b nl=>h18 (b:=b) (nl:=nl) (zs:=vs a) (by rw[fi2];omega)
 simp only[ks7]at e1
 have l1:=iva (l:=c) (i:=c.length-1) (by omega)
 have w1:IntKind.wrap .i64 ((c.length:Int)-1)=((c.length-1:Nat):Int):=by rw[wrap64 (by omega) (by omega)];omega
 have hinv:=rl7 hlast
 by_cases hl:c.length≤a.length
 ·refine⟨0, ?_⟩
  obtain⟨d1,d2⟩:=kj5 ha hc hc0 hl
  have dl:=w81 c (FK.inv (wf c (c.length-1))) (a.length-c.length+1) (List.replicate (a.length-c.length+1) 0) a
  have e2:=fun nq nr ks=>xy4 (b':=b') (nl':=nl') (c:=c) (top:=FK.inv (wf c (c.length-1))) (by omega) h0 (nq:=nq) (nr:=nr) (a.length-c.length+1) (List.replicate (a.length-c.length+1) 0) a (by omega) (by simp) (fun _=>by omega) ks
  have e3:=fun b nl=>di3 (b:=b) (nl:=nl) (a:=(divT c (FK.inv (wf c (c.length-1))) (a.length-c.length+1) (List.replicate (a.length-c.length+1) 0) a).2) (by rw[dl.2];omega)
  simp only[d2]at e3
  rw[←d1]
  generalize divT c (FK.inv (wf c (c.length-1))) (a.length-c.length+1) (List.replicate (a.length-c.length+1) 0) a=D at*
  have hz:List.replicate (a.length-c.length+1) (0:Int)=vs (List.replicate (a.length-c.length+1) (0:El q)):=by rw[←qj2];rfl
  have w3:IntKind.wrap .i64 ((a.length:Int)-(c.length:Int)+1)=((a.length-c.length+1:Nat):Int):=by rw[wrap64 (by omega) (by omega)];omega
  have hkl:a.length-c.length+1≤600:=by omega
  rw[hinv]at e2
  generalize a.length-c.length+1=k at*
  generalize hG:c.length-1=c1 at*
  rw[o10 rfl T203 rfl]
  unfold F203 c203
  simp(disch:=first|omega|fail) only[push_cast,seval,vrl,if_pos,if_neg,e1,w1,l1,w3,hz]
  rw[e2]
  simp(disch:=first|omega|fail) only[push_cast,seval,vrl,if_pos,if_neg,e3]
 ·refine⟨1, ?_⟩
  obtain⟨d1,d2⟩:=i84 ha hc (show a.length<c.length by omega)
  rw[d1,d2]
  have e2:=fun nq nr ks=>xy4 (b':=b') (nl':=nl') (c:=c) (top:=FK.inv (wf c (c.length-1))) (by omega) h0 (nq:=nq) (nr:=nr) 0 [] a (by omega) (by simp) (fun h=>absurd h (by omega)) ks
  have e3:=fun b nl=>di3 (b:=b) (nl:=nl) (a:=a) (by omega)
  simp only[ou7 ha]at e3
  simp only[divT,Int.natCast_zero,Int.zero_sub,rp2,lz6]at e2
  have hl':(a.length:Int)<(c.length:Int):=by omega
  rw[hinv]at e2
  generalize hG:c.length-1=c1 at*
  rw[o10 rfl T203 rfl]
  unfold F203 c203
  simp(disch:=first|omega|fail) only[push_cast,seval,vrl,if_pos,if_neg,e1,w1,l1]
  rw[e2]
  simp(disch:=first|omega|fail) only[push_cast,seval,vrl,if_pos,if_neg,e3]
  rfl
theorem pl2 [IsFld q]{a c:List (El q)}(ha:a.length≤128)(hc:c.length≤128)(h:xa4 c≠[]):
 ∃n,o24 W 161 [.x (.int .i64 q), .fz b (.sl nl 0 1 (ivs (vs a))), .fz b' (.sl nl' 0 1 (ivs (vs c)))] []=some (.tup [.own 0 [], .own 1 [], .x (.int .i64 0)],[.sl n 3 1 (ivs (vs (quoP (xa4 a) (xa4 c)))), .sl (nlT (remP (xa4 a) (xa4 c))) 3 1 (ivs (vs (remP (xa4 a) (xa4 c))))],[]):=by
 have e1:=fun b nl b' nl'=>ce8 (b:=b) (nl:=nl) (b':=b') (nl':=nl') ha hc
 have la:=tb1 a
 have lc:=tb1 c
 have h0:0<(xa4 c).length:=List.length_pos_iff.2 h
 obtain⟨n,e2⟩:=ag0 (b:=false) (nl:=nlT (xa4 a)) (b':=false) (nl':=nlT (xa4 c)) (ua7 a) (ua7 c) h (by omega) (by omega)
 refine⟨n, ?_⟩
 generalize xa4 a=A at*
 generalize xa4 c=C at*
 have h0': ¬(C.length:Int)=0:=by omega
 rw[o10 rfl T161 rfl]
 unfold F161 c161
 simp(disch:=first|omega|fail) only[push_cast,seval,vrl,if_pos,if_neg,e1,nb8 h0',e2]
end
theorem cd9{α:Type}{A ys:List α}{k:Nat}{y:α}(h:k+ys.length<A.length):(A.take k++ys++A.drop (k+ys.length)).set (k+ys.length) y=A.take k++(ys++[y])++A.drop (k+(ys.length+1)):=by
 have e:(A.take k++ys).length=k+ys.length:=by rw[List.length_append,List.length_take];omega
 obtain⟨x,hx⟩:=ge6 (l:=A) (i:=k+ys.length) h
 rw[List.set_append_right _ _ (by omega),e,Nat.sub_self,i62 hx,List.set_cons_zero]
 simp[Nat.add_assoc]
theorem px5: ∀(ys P Q:List Int),ys.length≤Q.length→setL (ivs (P++Q)) P.length (ivs ys)=ivs (P++ys++Q.drop ys.length)
 | [],P,Q,h=>by
   show ivs (P++Q)=_
   rw[List.append_nil];rfl
 |y::ys,P,[],h=>by cases h
 |y::ys,P,x::Q,h=>by
  show setL ((ivs (P++x::Q)).set P.length (.v (.int .i64 y))) (P.length+1) (ivs ys)=_
  have e1:(ivs (P++x::Q)).set P.length (.v (.int .i64 y))=ivs ((P++[y])++Q):=by
   have:(P++x::Q).set P.length y=(P++[y])++Q:=by
    rw[List.set_append_right _ _ (Nat.le_refl _),Nat.sub_self,List.set_cons_zero,List.append_assoc];rfl
   rw[←this]
   unfold ivs
   rw[List.map_set]
   rfl
  have e2:P.length+1=(P++[y]).length:=by simp
  rw[e1,e2,px5 ys (P++[y]) Q (by simpa using h),List.append_assoc P]
  rfl
theorem jq8(ys zs:List Int)(i:Nat)(h:i+ys.length≤zs.length):setL (ivs zs) i (ivs ys)=ivs (zs.take i++ys++zs.drop (i+ys.length)):=by
 have hlt:(zs.take i).length=i:=by rw[List.length_take];omega
 have:=px5 ys (zs.take i) (zs.drop i) (by rw[List.length_drop];omega)
 rwa [List.take_append_drop,hlt,List.drop_drop]at this
theorem pl3: ∀zs:List Int,(ivs zs).all isV=true
 | []=>rfl
 |z::zs=>pl3 zs
section
variable {q:Int} [IsFld q]
def shR(n:Nat)(g:List (El q))(k:Nat):List (El q):=(List.replicate n 0).take k++g++(List.replicate n 0).drop (k+g.length)
def cycM(n:Nat)(g:List (El q)):List (List (El q)):=(List.range (n+1-g.length)).map (shR n g)
theorem l93{n k:Nat}{g:List (El q)}(h:k+g.length≤n):(shR n g k).length=n:=by
 unfold shR
 simp only[List.length_append,List.length_take,List.length_drop,List.length_replicate]
 omega
theorem td5{n:Nat}{g:List (El q)}(h:g.length≤n): ∀r∈cycM n g,r.length=n:=fun r hr=>by
 obtain⟨k,hk,rfl⟩:=List.mem_map.1 hr
 have:=List.mem_range.1 hk
 exact l93 (by omega)
theorem u52{n:Nat}{g:List (El q)}{k:Nat}(h:k<n+1-g.length):(cycM n g)[k]? =some (shR n g k):=by
 unfold cycM;rw[List.getElem?_map,List.getElem?_range h];rfl
theorem nc3(n:Nat)(g:List (El q)):(cycM n g).length=n+1-g.length:=by unfold cycM;simp
theorem ht2(n:Nat)(g:List (El q))(k:Nat):vs (shR n g k)=(List.replicate n (0:Int)).take k++vs g++(List.replicate n (0:Int)).drop (k+(vs g).length):=by
 have hz:List.replicate n (0:Int)=vs (List.replicate n (0:El q)):=by rw[←qj2];rfl
 unfold shR
 rw[gq8,gq8,hz,fi2]
 unfold vs
 rw[List.map_take,List.map_drop]
end
section
variable {q:Int} [IsFld q] {n:Nat} {g:List (El q)} {nl:Nat} {b:Bool}
theorem iz0(hg:g.length≤n)(hn:n≤64){T1:Tree}{ng:Nat}: ∀(d k:Nat),k+d=n+1-g.length→ ∀ks,
 vgoL W ⟨hNo,[(.cell 6 true 3), .tmp 7],0⟩ [1,2,6,15,16] c125L0 (.blk 0 [6,15]::ks) [(1, .x (.int .i64 n)),(2, .own 0 []),(6, .own 1 []),(15, .own 2 []),(16, .x (.int .i64 k))] [.sl ng 3 1 (ivs (vs g)),T1, .pt 25 [.v (.int .i64 q), .v (.int .i64 n), .sl 2 28 1 (lls 2 (((cycM n g).take k).map vs))]]=
  vgo W ⟨hNo,[(.cell 6 true 3), .tmp 7],0⟩ ks (VFr.of [(6, .own 1 []),(15, .own 2 [])]) [.sl ng 3 1 (ivs (vs g)),T1, .pt 25 [.v (.int .i64 q), .v (.int .i64 n), .sl 2 28 1 (lls 2 ((cycM n g).map vs))]]
 |0,k,hk,ks=>by
  have hv:=fi2 g
  rw[List.take_of_length_le (by rw[nc3];omega),sb5 c125L0.eq_def]
  simp(disch:=first|omega|fail) only[push_cast,seval,vrl,if_pos,if_neg,hv]
 |d+1,k,hk,ks=>by
  have ih:=iz0 hg hn (T1:=T1) (ng:=ng) d (k+1) (by omega) ks
  have hv:=fi2 g
  have hlt:(List.take k (cycM n g)).length=k:=by rw[List.length_take,nc3];omega
  have hs:=jq8 (vs g) (List.replicate n 0) k (by rw[List.length_replicate,hv];omega)
  rw[←ht2]at hs
  have hc:cut 0 g.length 1 (ivs (vs g))=ivs (vs g):=by rw[jp2,Nat.zero_mul,List.drop_zero,List.take_of_length_le (by rw[gf1,hv];omega)]
  have ht:(ivs (vs g)).take (n-k)=ivs (vs g):=List.take_of_length_le (by rw[gf1,hv];omega)
  have ha:=pl3 (vs g)
  rw[Int.natCast_add,Int.natCast_one,List.take_add_one,u52 (by omega),Option.toList_some]at ih
  rw[←ih,sb5 c125L0.eq_def]
  simp(disch:=first|omega|fail) only[push_cast,seval,vrl,if_pos,if_neg,hv,hc,ha,ht,hs,show((n:Int)-(k:Int)).toNat=n-k by omega,df0,List.length_map,hlt]
theorem v78(hg0:g≠[])(hg:g.length≤n)(hn:n≤64){T1:Tree}{ng:Nat}(ks):
 vgoL W ⟨hNo,[(.cell 6 true 3), .tmp 7],0⟩ [1,2,6,15,16] c125L0 (.blk 0 [6,15]::ks) [(1, .x (.int .i64 n)),(2, .own 0 []),(6, .own 1 []),(15, .own 2 []),(16, .x (.int .i64 0))] [.sl ng 3 1 (ivs (vs g)),T1, .pt 25 [.v (.int .i64 q), .v (.int .i64 n), .v (.slice none 0 0)]]=
  vgo W ⟨hNo,[(.cell 6 true 3), .tmp 7],0⟩ ks (VFr.of [(6, .own 1 []),(15, .own 2 [])]) [.sl ng 3 1 (ivs (vs g)),T1, .pt 25 [.v (.int .i64 q), .v (.int .i64 n), .sl 2 28 1 (lls 2 ((cycM n g).map vs))]]:=by
 have ih:=iz0 hg hn (T1:=T1) (ng:=ng) (n-g.length) 1 (by omega) ks
 have hv:=fi2 g
 have hs:=jq8 (vs g) (List.replicate n 0) 0 (by rw[List.length_replicate,hv];omega)
 rw[←ht2]at hs
 have hc:cut 0 g.length 1 (ivs (vs g))=ivs (vs g):=by rw[jp2,Nat.zero_mul,List.drop_zero,List.take_of_length_le (by rw[gf1,hv];omega)]
 have ht:(ivs (vs g)).take n=ivs (vs g):=List.take_of_length_le (by rw[gf1,hv];omega)
 have ha:=pl3 (vs g)
 have hgl:lls 2 (((cycM n g).take 1).map vs)=[.sl 2 3 1 (ivs (vs (shR n g 0)))]:=by
  rw[show(1:Nat)=0+1 from rfl,List.take_add_one,u52 (by omega)];rfl
 rw[hgl,Int.natCast_one]at ih
 rw[←ih,sb5 c125L0.eq_def]
 simp(disch:=first|omega|fail) only[push_cast,seval,vrl,if_pos,if_neg,hv,hc,ha,ht,hs,show((n:Int)-0).toNat=n by omega]
def oneL(n:Nat):List (El q):=((List.replicate (n+1) 0).set 0 (-1)).set n 1
theorem vc9(n:Nat):(oneL n:List (El q)).length=n+1:=by unfold oneL;simp
theorem qp8(n:Nat):((List.replicate (n+1) (0:Int)).set 0 (fneg q 1)).set n 1=vs (oneL n:List (El q)):=by
 have hz:List.replicate (n+1) (0:Int)=vs (List.replicate (n+1) (0:El q)):=by rw[←qj2];rfl
 unfold oneL
 rw[←g52,←g52,←hz,tg5]
 rfl
theorem r60(hg0:g≠[])(ht:xa4 g=g)(hg:g.length≤n)(h0:0<n)(hn:n≤64)(hrem:remP (xa4 (oneL n:List (El q))) g=[]):
 o24 W 125 [.x (.int .i64 q), .x (.int .i64 n), .fz b (.sl nl 0 1 (ivs (vs g)))] []=some (.tup [.agg [.x (.int .i64 q), .x (.int .i64 n), .own 0 []], .x (.int .i64 0)],[.sl 2 28 1 (lls 2 (pvR (redR (cycM n g))))],[]):=by
 have hv:=fi2 g
 have hg1:0<g.length:=List.length_pos_iff.2 hg0
 have e1:=fun b nl=>bw7 (q:=q) (b:=b) (nl:=nl) (l:=vs g) (by rw[hv];omega)
 simp only[i31 (q:=q) (a:=g) (by omega)]at e1
 have ho:=vc9 (q:=q) n
 have e2: ∀b b' nl nl',∃m,o24 W 161 [.x (.int .i64 q), .fz b (.sl nl 0 1 (ivs (vs (oneL n:List (El q))))), .fz b' (.sl nl' 0 1 (ivs (vs g)))] []=some (.tup [.own 0 [], .own 1 [], .x (.int .i64 0)],[.sl m 3 1 (ivs (vs (quoP (xa4 (oneL n)) g))), .sl 2 3 1 []],[]):=fun b b' nl nl'=>by
  obtain⟨m,h⟩:=pl2 (q:=q) (b:=b) (b':=b') (nl:=nl) (nl':=nl') (a:=oneL n) (c:=g) (by omega) (by omega) (by rw[ht];exact hg0)
  rw[ht,hrem]at h
  exact⟨m,h⟩
 obtain⟨m,e2⟩:=e2 false b 0 nl
 have e3:=fun b nl b' nl'=>wa2 (q:=q) (b:=b) (nl:=nl) (b':=b') (nl':=nl') (a:=g) (c:=[]) (by omega) (Nat.zero_le _)
 have hadd:addK g []=g:=by
  refine(lz5 (y42 _ _) (by rw[←ht];exact ua7 _) ?_)
  rw[w62]
  funext i
  rw[ez9 (l:=([]:List (El q))) (Nat.zero_le _),FK.add_zero]
 have hgp:nlT g=0:=by cases g with
  |nil=>exact absurd rfl hg0
  |cons x g=>rfl
 simp only[hadd,hgp,rp2,lz6]at e3
 have hC:=tc0 (q:=q) (k:=n) (N:=cycM n g) h0 hn (by rw[nc3];omega) (td5 hg) (sy6 (by rw[nc3];omega) (td5 hg) h0 hn)
 have e4:=fun nl nr=>ob1 (nl:=nl) (nr:=nr) hC h0 hn (by rw[nc3];omega) (td5 hg)
 have e:=fun T1 ng ks=>v78 (q:=q) (g:=g) (n:=n) hg0 hg hn (T1:=T1) (ng:=ng) ks
 have hone:(Tree.v (.int .i64 (fneg q 1))::ivs (List.replicate n 0)).set n (.v (.int .i64 1))=ivs (vs (oneL n:List (El q))):=by
  rw[←qp8];unfold ivs;rw[List.map_set];rfl
 rw[o10 rfl T125 rfl]
 unfold F125 c125
 simp(disch:=first|omega|fail) only[push_cast,seval,vrl,if_pos,if_neg,e1,show((n:Int)+1).toNat=n+1 by omega,hone,e2,e3]
 rw[e]
 simp(disch:=first|omega|fail) only[push_cast,seval,vrl,if_pos,if_neg,e4]
end
set_option maxHeartbeats 1600000
section
variable {q:Int} [IsFld q] {n:Nat} {g:List (El q)} {nl:Nat} {b:Bool}
def shI(n:Nat)(g:List (El q))(k i:Nat):List (El q):=(List.replicate n 0).take k++g.take i++(List.replicate n 0).drop (k+i)
theorem hc7{k i:Nat}(h:k+g.length≤n)(hi:i≤g.length):(shI n g k i).length=n:=by
 unfold shI
 simp only[List.length_append,List.length_take,List.length_drop,List.length_replicate]
 omega
theorem e54{k i:Nat}(h:k+g.length≤n)(hi:i<g.length):(shI n g k i).set (k+i) (wf g i)=shI n g k (i+1):=by
 have hl:(g.take i).length=i:=by rw[List.length_take];omega
 have:=cd9 (A:=List.replicate n (0:El q)) (ys:=g.take i) (k:=k) (y:=wf g i) (by rw[List.length_replicate,hl];omega)
 rw[hl]at this
 unfold shI
 rw[this,List.take_succ_eq_append_getElem hi,i66 hi]
theorem pq7(hn:n≤64){k:Nat}(hk:k+g.length≤n){T0 T1:Tree}: ∀(d i:Nat),i+d=g.length→ ∀ks,
 vgoL W ⟨hNo,[(.cell 6 true 3)],0⟩ [1,2,6,7,8,9,10] c15L0 (.blk 2 [1,2,6,7,8,9]::ks) [(1, .x (.int .i64 n)),(2, .fz b (.sl nl 0 1 (ivs (vs g)))),(6, .own 0 []),(7, .own 1 []),(8, .x (.int .i64 k)),(9, .own 2 []),(10, .x (.int .i64 i))] [T0,T1, .sl 0 3 1 (ivs (vs (shI n g k i)))]=
  vgo W ⟨hNo,[(.cell 6 true 3)],0⟩ ks (VFr.of [(1, .x (.int .i64 n)),(2, .fz b (.sl nl 0 1 (ivs (vs g)))),(6, .own 0 []),(7, .own 1 []),(8, .x (.int .i64 k)),(9, .own 2 [])]) [T0,T1, .sl 0 3 1 (ivs (vs (shR n g k)))]
 |0,i,hi,ks=>by
  obtain rfl:i=g.length:=by omega
  have hv:=fi2 g
  have hs:shI n g k g.length=shR n g k:=by unfold shI shR;rw[List.take_length]
  rw[hs,sb5 c15L0.eq_def]
  simp(disch:=first|omega|fail) only[push_cast,seval,vrl,if_pos,if_neg,hv]
 |d+1,i,hi,ks=>by
  have ih:=pq7 hn hk (T0:=T0) (T1:=T1) d (i+1) (by omega) ks
  have hv:=fi2 g
  have h1:=iva (l:=g) (i:=i) (by omega)
  have hl:=hc7 (g:=g) hk (i:=i) (by omega)
  have hs:(vs (shI n g k i)).set (k+i) (wf g i).v=vs (shI n g k (i+1)):=by rw[g52,e54 hk (by omega)]
  rw[Int.natCast_add,Int.natCast_one]at ih
  rw[←ih,sb5 c15L0.eq_def]
  simp(disch:=first|omega|fail) only[push_cast,seval,vrl,if_pos,if_neg,hv,h1,hl,show((i:Int)+(k:Int)).toNat=k+i by omega,hs]
theorem zx6(hg:g.length≤n)(hn:n≤64){T0:Tree}: ∀(d k:Nat),k+d=n+1-g.length→ ∀ks,
 vgoL W ⟨hNo,[(.cell 6 true 3)],0⟩ [1,2,6,7,8] c15L1 (.blk 0 [6,7]::ks) [(1, .x (.int .i64 n)),(2, .fz b (.sl nl 0 1 (ivs (vs g)))),(6, .own 0 []),(7, .own 1 []),(8, .x (.int .i64 k))] [T0, .pt 25 [.v (.int .i64 q), .v (.int .i64 n), .sl 2 28 1 (lls 2 (((cycM n g).take k).map vs))]]=
  vgo W ⟨hNo,[(.cell 6 true 3)],0⟩ ks (VFr.of [(6, .own 0 []),(7, .own 1 [])]) [T0, .pt 25 [.v (.int .i64 q), .v (.int .i64 n), .sl 2 28 1 (lls 2 ((cycM n g).map vs))]]
 |0,k,hk,ks=>by
  have hv:=fi2 g
  rw[List.take_of_length_le (by rw[nc3];omega),sb5 c15L1.eq_def]
  simp(disch:=first|omega|fail) only[push_cast,seval,vrl,if_pos,if_neg,hv]
 |d+1,k,hk,ks=>by
  have ih:=zx6 hg hn (T0:=T0) d (k+1) (by omega) ks
  have hv:=fi2 g
  have hlt:(List.take k (cycM n g)).length=k:=by rw[List.length_take,nc3];omega
  have e:=fun T0 T1 ks=>pq7 (b:=b) (nl:=nl) hn (g:=g) (k:=k) (by omega) (T0:=T0) (T1:=T1) g.length 0 (by omega) ks
  have hz:vs (shI n g k 0)=List.replicate n 0:=by
   unfold shI
   rw[List.take_zero,List.append_nil,Nat.add_zero,List.take_append_drop,←qj2];rfl
  rw[hz]at e
  simp only[Int.natCast_zero,List.take_zero,List.drop_zero,rp2,lz6,x25,List.map_nil,List.length_nil]at e
  rw[Int.natCast_add,Int.natCast_one,List.take_add_one,u52 (by omega),Option.toList_some]at ih
  rw[←ih,sb5 c15L1.eq_def]
  simp(disch:=first|omega|fail) only[push_cast,seval,vrl,if_pos,if_neg,hv]
  rw[e]
  simp(disch:=first|omega|fail) only[push_cast,seval,vrl,if_pos,if_neg,df0,List.length_map,hlt]
theorem eb4(hg:g.length≤n)(hn:n≤64){T0:Tree}(ks):
 vgoL W ⟨hNo,[(.cell 6 true 3)],0⟩ [1,2,6,7,8] c15L1 (.blk 0 [6,7]::ks) [(1, .x (.int .i64 n)),(2, .fz b (.sl nl 0 1 (ivs (vs g)))),(6, .own 0 []),(7, .own 1 []),(8, .x (.int .i64 0))] [T0, .pt 25 [.v (.int .i64 q), .v (.int .i64 n), .v (.slice none 0 0)]]=
  vgo W ⟨hNo,[(.cell 6 true 3)],0⟩ ks (VFr.of [(6, .own 0 []),(7, .own 1 [])]) [T0, .pt 25 [.v (.int .i64 q), .v (.int .i64 n), .sl 2 28 1 (lls 2 ((cycM n g).map vs))]]:=by
 have ih:=zx6 (b:=b) (nl:=nl) hg hn (T0:=T0) (n-g.length) 1 (by omega) ks
 have hv:=fi2 g
 have e:=fun T0 T1 ks=>pq7 (b:=b) (nl:=nl) hn (g:=g) (k:=0) (by omega) (T0:=T0) (T1:=T1) g.length 0 (by omega) ks
 have hz:vs (shI n g 0 0)=List.replicate n 0:=by
  unfold shI
  simp only[List.take_zero,List.nil_append,Nat.add_zero,List.drop_zero]
  rw[←qj2];rfl
 rw[hz]at e
 simp only[Int.natCast_zero,List.take_zero,List.drop_zero,rp2,lz6,x25,List.map_nil,List.length_nil]at e
 have hgl:lls 2 (((cycM n g).take 1).map vs)=[.sl 2 3 1 (ivs (vs (shR n g 0)))]:=by
  rw[show(1:Nat)=0+1 from rfl,List.take_add_one,u52 (by omega)];rfl
 rw[hgl,Int.natCast_one]at ih
 rw[←ih,sb5 c15L1.eq_def]
 simp(disch:=first|omega|fail) only[push_cast,seval,vrl,if_pos,if_neg,hv]
 rw[e]
 simp(disch:=first|omega|fail) only[push_cast,seval,vrl,if_pos,if_neg]
theorem bf6{M:List (List (El q))}(hM: ∀r∈M,r.length=n): ∀r∈M.map extL,r.length=n+1:=fun r hr=>by
 obtain⟨x,hx,rfl⟩:=List.mem_map.1 hr
 rw[x19,hM x hx]
theorem ra6(hg:g.length≤n)(h0:0<n)(hn:n<64):
 o24 W 15 [.x (.int .i64 q), .x (.int .i64 n), .fz b (.sl nl 0 1 (ivs (vs g)))] []=some (.agg [.x (.int .i64 q), .x (.int .i64 ((n:Int)+1)), .own 0 []],[.sl 2 28 1 (lls 2 (pvR (redR ((cycM n g).map extL))))],[]):=by
 have hv:=fi2 g
 have e:=fun T0 ks=>eb4 (q:=q) (g:=g) (n:=n) (b:=b) (nl:=nl) hg (by omega) (T0:=T0) ks
 have e1:=fun nl nr=>ku1 (q:=q) (nl:=nl) (nr:=nr) (N:=cycM n g) h0 hn (by rw[nc3];omega) (td5 hg)
 rw[o10 rfl T15 rfl]
 unfold F15 c15
 simp(disch:=first|omega|fail) only[push_cast,seval,vrl,if_pos,if_neg]
 rw[e]
 simp(disch:=first|omega|fail) only[push_cast,seval,vrl,if_pos,if_neg,e1]
theorem ha7(hg0:g≠[])(ht:xa4 g=g)(hg:g.length≤n)(h0:0<n)(hn:n<64)(hrem:remP (xa4 (oneL n:List (El q))) g=[]):
 o24 W 69 [.x (.int .i64 q), .x (.int .i64 n), .fz b (.sl nl 0 1 (ivs (vs g)))] []=some (.agg [.x (.int .i64 q), .x (.int .i64 ((n:Int)+1)), .own 0 []],[.sl 2 28 1 (lls 2 (pvR (redR ((cycM n g).map extL))))],[]):=by
 have hM:=td5 (q:=q) hg
 obtain⟨r1,r2,_⟩:=bi2 hM
 have hle:=ew4 hM
 rw[nc3]at hle
 have hg1:0<g.length:=List.length_pos_iff.2 hg0
 have hl:(p78 (redR (cycM n g))).length≤64:=by rw[gb2];omega
 have hC:=tc0 (q:=q) (k:=n) (N:=p78 (redR (cycM n g))) h0 (by omega) hl (zu4 r2) (sy6 hl (zu4 r2) h0 (by omega))
 have e1:=fun b nl=>r60 (q:=q) (g:=g) (n:=n) (b:=b) (nl:=nl) hg0 ht hg h0 (by omega) hrem
 have e2:=fun nl nr=>tw5 (nl:=nl) (nr:=nr) hC h0 hn hl (zu4 r2)
 rw[x62 hM,←lo1]at e2
 rw[o10 rfl T69 rfl]
 unfold F69 c69
 simp(disch:=first|omega|fail) only[push_cast,seval,vrl,if_pos,if_neg,e1,e2]
end
instance fld2:IsFld 2:=⟨_,_,_,_,rfl⟩
instance fld3:IsFld 3:=⟨_,_,_,_,rfl⟩
def two3:El 3:=⟨2,by decide,by decide⟩
def gB:List (El 2):=[1,0,1,0,1,1,1,0,0,0,1,1]
def hB:List (El 2):=[1,0,1,0,0,1,0,0,1,1,1,1,1]
def gT:List (El 3):=[two3,0,1,two3,1,1]
def hT:List (El 3):=[1,0,1,two3,two3,two3,1]
theorem ju3:vs gB=[1,0,1,0,1,1,1,0,0,0,1,1]:=rfl
theorem ry7:vs gT=[2,0,1,2,1,1]:=rfl
theorem cl8:xa4 gB=gB:=qa5 (by kernel_rfl)
theorem oz5:xa4 gT=gT:=qa5 (by kernel_rfl)
theorem uc5:mulK hB gB=oneL 23:=qa5 (by kernel_rfl)
theorem ia5:mulK hT gT=oneL 11:=qa5 (by kernel_rfl)
theorem jy6{q:Int} [IsFld q]{n:Nat}{g h:List (El q)}(hg:xa4 g=g)(hg0:g≠[])(hm:mulK h g=oneL n):remP (xa4 (oneL n:List (El q))) g=[]:=by
 have htr:Trm g:=by rw[←hg];exact ua7 _
 refine(div_eq htr (IsDiv.of_mul (Q:=h) htr hg0 ?_)).2
 rw[vb5,←hm,zu9]
theorem ub1:o24 W 14 [] []=some (.agg [.x (.int .i64 2), .x (.int .i64 24), .own 0 []],[.sl 2 28 1 (lls 2 (pvR (redR ((cycM 23 gB).map extL))))],[]):=by
 have e1:=fun b nl=>ha7 (q:=2) (g:=gB) (n:=23) (b:=b) (nl:=nl) (by decide) cl8 (by decide) (by decide) (by decide) (jy6 cl8 (by decide) uc5)
 rw[ju3]at e1
 simp only[show ivs [1,0,1,0,1,1,1,0,0,0,1,1]=[.v (.int .i64 1), .v (.int .i64 0), .v (.int .i64 1), .v (.int .i64 0), .v (.int .i64 1), .v (.int .i64 1), .v (.int .i64 1), .v (.int .i64 0), .v (.int .i64 0), .v (.int .i64 0), .v (.int .i64 1), .v (.int .i64 1)]from rfl,show((23:Nat):Int)=23 from rfl,show(23:Int)+1=24 from rfl]at e1
 rw[o10 rfl T14 rfl]
 unfold F14 c14
 simp(disch:=first|omega|fail) only[push_cast,seval,vrl,if_pos,if_neg,e1]
theorem c56:o24 W 16 [] []=some (.agg [.x (.int .i64 3), .x (.int .i64 12), .own 0 []],[.sl 2 28 1 (lls 2 (pvR (redR ((cycM 11 gT).map extL))))],[]):=by
 have e1:=fun b nl=>ha7 (q:=3) (g:=gT) (n:=11) (b:=b) (nl:=nl) (by decide) oz5 (by decide) (by decide) (by decide) (jy6 oz5 (by decide) ia5)
 rw[ry7]at e1
 simp only[show ivs [2,0,1,2,1,1]=[.v (.int .i64 2), .v (.int .i64 0), .v (.int .i64 1), .v (.int .i64 2), .v (.int .i64 1), .v (.int .i64 1)]from rfl,show((11:Nat):Int)=11 from rfl,show(11:Int)+1=12 from rfl]at e1
 rw[o10 rfl T16 rfl]
 unfold F16 c16
 simp(disch:=first|omega|fail) only[push_cast,seval,vrl,if_pos,if_neg,e1]
theorem pw9:o24 W 3 [] []=some (.x (.bool true),[],[]):=by
 have e1:=ub1
 have e2:=c56
 have e3:=fun b nl=>ra6 (q:=2) (g:=gB) (n:=23) (b:=b) (nl:=nl) (by decide) (by decide) (by decide)
 have e4:=fun b nl=>ra6 (q:=3) (g:=gT) (n:=11) (b:=b) (nl:=nl) (by decide) (by decide) (by decide)
 rw[ju3]at e3
 rw[ry7]at e4
 simp only[show ivs [1,0,1,0,1,1,1,0,0,0,1,1]=[.v (.int .i64 1), .v (.int .i64 0), .v (.int .i64 1), .v (.int .i64 0), .v (.int .i64 1), .v (.int .i64 1), .v (.int .i64 1), .v (.int .i64 0), .v (.int .i64 0), .v (.int .i64 0), .v (.int .i64 1), .v (.int .i64 1)]from rfl,show((23:Nat):Int)=23 from rfl,show(23:Int)+1=24 from rfl]at e3
 simp only[show ivs [2,0,1,2,1,1]=[.v (.int .i64 2), .v (.int .i64 0), .v (.int .i64 1), .v (.int .i64 2), .v (.int .i64 1), .v (.int .i64 1)]from rfl,show((11:Nat):Int)=11 from rfl,show(11:Int)+1=12 from rfl]at e4
 have hB:=td5 (q:=2) (n:=23) (g:=gB) (by decide)
 have hT:=td5 (q:=3) (n:=11) (g:=gT) (by decide)
 obtain⟨_,b2,_⟩:=bi2 (bf6 hB)
 obtain⟨_,t2,_⟩:=bi2 (bf6 hT)
 have lb:=ew4 (bf6 hB)
 have lt:=ew4 (bf6 hT)
 rw[List.length_map,nc3]at lb lt
 have f1:=fun nl nr nl' nr'=>uh6 (q:=2) (n:=24) (q':=2) (n':=24) (M:=pvR (redR ((cycM 23 gB).map extL))) (M':=pvR (redR ((cycM 23 gB).map extL))) (nl:=nl) (nr:=nr) (nl':=nl') (nr':=nr') (by rw[nu3];omega) (fun r hr=>by
  rw[lo1]at hr
  obtain⟨x,hx,rfl⟩:=List.mem_map.1 hr
  rw[fi2,zu4 b2 x hx];omega)
 have f2:=fun nl nr nl' nr'=>uh6 (q:=3) (n:=12) (q':=3) (n':=12) (M:=pvR (redR ((cycM 11 gT).map extL))) (M':=pvR (redR ((cycM 11 gT).map extL))) (nl:=nl) (nr:=nr) (nl':=nl') (nr':=nr') (by rw[nu3];omega) (fun r hr=>by
  rw[lo1]at hr
  obtain⟨x,hx,rfl⟩:=List.mem_map.1 hr
  rw[fi2,zu4 t2 x hx];omega)
 simp only[decide_true,Bool.and_true]at f1 f2
 rw[o10 rfl T3 rfl]
 unfold F3 c3
 simp(disch:=first|omega|fail) only[push_cast,seval,vrl,if_pos,if_neg,e1,e2,e3,e4,f1,f2]
section
variable {h:H} {l:List AV} {ws:List Value}
theorem a23:Vm.VRL h [] (allZ h) (allZ h) [] []:=by rw[Vm.VRL]
end
theorem j73(h:H):
 ∃h',call T 3 [] h=some (.bool true,h'):=
 vlaw lw2 a23 (by apply pw9<;>assumption)
end Go.Proofs.Ytodbgomfeacdhaa
