/-
  Codes: iv1 a place, shortened, with a number more (the program's), in the second machine. Conditions: those of each theorem. Codes: what the document says of words, of a code iv1 a place, shor ..
-/
import Derived.Test.YtppbpgmdmiajcaaK0
import Derived.Test.YtppbpgmdmiajcaaK8
import Derived.Test.YtppbpgmdmiajcaaK7
import Derived.Test.YtppbpgmdmiajcaaKCode
import Derived.Test.YtppbpgmdmiajcaaK6
set_option linter.unusedVariables false
set_option linter.unusedSimpArgs false
set_option linter.unusedSectionVars false
set_option maxRecDepth 100000
namespace Go.Proofs.Ytppbpgmdmiajcaa
open Go.Am Go.Vm Go.Alg
section
variable {q:Int} [IsFld q] {n0:Int} {nl nr:Nat} {b:Bool} {t:Tree} {k:FuncId} {N:List (List (El q))} {g:List (El q)→List (El q)} {fg:List (El q)→Nat} {n':Nat}
theorem ll6(hk: ∀r∈N,∀bl nr,o24 W k [.fz bl (.sl nr 0 1 (ivs (vs r))), .fz b t] []=some (.own 0 [],[.sl (fg r) 3 1 (ivs (vs (g r)))],[]))(hM:vM k=[])(hl:N.length≤1000){T6:Tree}: ∀(d i:Nat),i+d=N.length→ ∀ks,
 vgoL W ⟨hNo,[(.cell 6 true 3), .tmp 7],0⟩ [2,6,8,16,17,18] c23L0 (.blk 0 [6,8]::ks) [(2, .fn k [.fz b t]),(6, .own 0 []),(8, .own 1 []),(16, .fz true (.sl nl 0 1 (lvs nr (N.map vs)))),(17, .x (.int .i64 N.length)),(18, .x (.int .i64 i))] [T6, .pt 25 [.v (.int .i64 q), .v (.int .i64 n'), .sl 2 22 1 (lls 2 (((N.map g).take i).map vs))]]=
  vgo W ⟨hNo,[(.cell 6 true 3), .tmp 7],0⟩ ks (VFr.of [(6, .own 0 []),(8, .own 1 [])]) [T6, .pt 25 [.v (.int .i64 q), .v (.int .i64 n'), .sl 2 22 1 (lls 2 ((N.map g).map vs))]]
 |0,i,hi,ks=>by
  rw[sp3 (by simp;omega),sb5 c23L0.eq_def]
  simp(disch:=first|omega|fail) only[push_cast,seval,vrl,if_pos,if_neg]
 |d+1,i,hi,ks=>by
  have ih:=ll6 hk hM hl (T6:=T6) d (i+1) (by omega) ks
  obtain⟨r,hr⟩:=ge6 (l:=N) (i:=i) (by omega)
  have h0:=lat (nl:=nr) (show(N.map vs)[i]? =some (vs r) by rw[us5,hr];rfl)
  have hkr:=hk r (vf6 hr)
  have hg:(N.map g)[i]? =some (g r):=by rw[us5,hr];rfl
  have hlt:(List.take i (List.map g N)).length=i:=by simp;omega
  rw[e96,g71,da3,hg,Option.toList_some]at ih
  rw[←ih,sb5 c23L0.eq_def]
  simp(disch:=first|omega|fail) only[push_cast,seval,vrl,if_pos,if_neg,h0,hkr,hM,df0,q11,hlt]
theorem zk5{r:List (El q)}{N':List (List (El q))}(hN:N=r::N')(hk: ∀r∈N,∀bl nr,o24 W k [.fz bl (.sl nr 0 1 (ivs (vs r))), .fz b t] []=some (.own 0 [],[.sl (fg r) 3 1 (ivs (vs (g r)))],[]))(hM:vM k=[])(hl:N.length≤1000){T6:Tree}(ks):
 vgoL W ⟨hNo,[(.cell 6 true 3), .tmp 7],0⟩ [2,6,8,16,17,18] c23L0 (.blk 0 [6,8]::ks) [(2, .fn k [.fz b t]),(6, .own 0 []),(8, .own 1 []),(16, .fz true (.sl nl 0 1 (lvs nr (N.map vs)))),(17, .x (.int .i64 N.length)),(18, .x (.int .i64 0))] [T6, .pt 25 [.v (.int .i64 q), .v (.int .i64 n'), .v (.slice none 0 0)]]=
  vgo W ⟨hNo,[(.cell 6 true 3), .tmp 7],0⟩ ks (VFr.of [(6, .own 0 []),(8, .own 1 [])]) [T6, .pt 25 [.v (.int .i64 q), .v (.int .i64 n'), .sl 2 22 1 (lls 2 ((N.map g).map vs))]]:=by
 have hln:N.length=N'.length+1:=by rw[hN];rfl
 have ih:=ll6 (nl:=nl) (nr:=nr) (n':=n') hk hM hl (T6:=T6) N'.length 1 (by omega) ks
 have h0:=lat (nl:=nr) (show(N.map vs)[0]? =some (vs r) by rw[hN];rfl)
 have hkr:=hk r (by rw[hN];simp)
 have hg:lls 2 (((N.map g).take 1).map vs)=[.sl 2 3 1 (ivs (vs (g r)))]:=by rw[hN];rfl
 rw[hg,g71]at ih
 rw[←ih,sb5 c23L0.eq_def]
 simp(disch:=first|omega|fail) only[push_cast,seval,vrl,if_pos,if_neg,h0,hkr,hM]
theorem iw4(hk: ∀r∈N,∀bl nr,o24 W k [.fz bl (.sl nr 0 1 (ivs (vs r))), .fz b t] []=some (.own 0 [],[.sl (fg r) 3 1 (ivs (vs (g r)))],[]))(hM:vM k=[])(hl:N.length≤64)(h0:0<n')(hn:n'≤64)(hg: ∀r∈N,(g r).length=n'):
 o24 W 23 [.agg [.x (.int .i64 q), .x (.int .i64 n0), .fz true (.sl nl 0 1 (lvs nr (N.map vs)))], .x (.int .i64 n'), .fn k [.fz b t]] []=some (.tup [.agg [.x (.int .i64 q), .x (.int .i64 n'), .own 0 []], .x (.int .i64 0)],[.sl 2 22 1 (lls 2 (pvR (redR (N.map g))))],[]):=by
 have hr: ∀r∈N.map g,r.length=n':=fun r hr=>by
  obtain⟨x,hx,rfl⟩:=vf1.1 hr
  exact hg x hx
 have hgl:(N.map g).length≤64:=by simp;omega
 have hC:=tc0 (q:=q) h0 hn hgl hr (sy6 hgl hr h0 hn)
 have e1:=fun nl nr=>ob1 (nl:=nl) (nr:=nr) hC h0 hn hgl hr
 have l1:(N.map vs).length=N.length:=q11 _
 cases hN:N with
 |nil=>
  subst hN
  have e1:=fun nl=>e1 nl 0
  simp only[gw5,em1]at e1
  rw[gw5,em1,gw5,o10 rfl T23 rfl]
  unfold F23 c23
  simp(disch:=first|omega|fail) only[push_cast,seval,vrl,if_pos,if_neg]
  rw[sb5 c23L0.eq_def]
  simp(disch:=first|omega|fail) only[push_cast,seval,vrl,if_pos,if_neg,e1]
 |cons r N'=>
  have e:=fun T6 ks=>zk5 (n':=n') (nl:=nl) (nr:=nr) (T6:=T6) hN hk hM (by omega) ks
  rw[←hN,o10 rfl T23 rfl]
  unfold F23 c23
  simp(disch:=first|omega|fail) only[push_cast,seval,vrl,if_pos,if_neg,l1]
  rw[e]
  simp(disch:=first|omega|fail) only[push_cast,seval,vrl,if_pos,if_neg,e1]
end
section
variable {q n:Int} {nl nr:Nat} {M:List (List Int)} {a:Int}
def atE(q n:Int)(M:List (List Int))(a:Int):Int:=if gi9 q n M=0 then(if 0≤a∧a<n then(if n=1 then 4 else 0)else 10)else gi9 q n M
theorem ls0:o24 W 22 [.agg [.x (.int .i64 q), .x (.int .i64 n), .fz true (.sl nl 0 1 (lvs nr M))], .x (.int .i64 a)] []=some (.x (.int .i64 (atE q n M a)),[],[]):=by
 have e1:=fun nl nr=>um1 (q:=q) (n:=n) (M:=M) (nl:=nl) (nr:=nr)
 unfold atE
 rw[o10 rfl T22 rfl]
 unfold F22 c22
 by_cases h1:gi9 q n M=0
 ·rw[if_pos h1]
  by_cases h2:0≤a
  ·by_cases h3:a<n
   ·rw[if_pos ⟨h2,h3⟩]
    by_cases h4:n=1
    ·rw[if_pos h4]
     simp(disch:=first|omega|fail) only[push_cast,seval,vrl,if_pos,if_neg,e1,h1,cw6 h2,qc6 h3,mr8 h4]
    ·rw[if_neg h4]
     simp(disch:=first|omega|fail) only[push_cast,seval,vrl,if_pos,if_neg,e1,h1,cw6 h2,qc6 h3,nb8 h4]
   ·rw[if_neg fun h=>h3 h.2]
    simp(disch:=first|omega|fail) only[push_cast,seval,vrl,if_pos,if_neg,e1,h1,cw6 h2,nl3 (vk3.1 h3)]
  ·rw[if_neg fun h=>h2 h.1]
   simp(disch:=first|omega|fail) only[push_cast,seval,vrl,if_pos,if_neg,e1,h1,dec_lt (Int.not_le.1 h2)]
 ·rw[if_neg h1]
  simp(disch:=first|omega|fail) only[push_cast,seval,vrl,if_pos,if_neg,e1,nb8 h1]
end
section
variable {q:Int} [IsFld q] {k nl nr:Nat} {N:List (List (El q))} {a:Nat}
theorem ph9(r:List (El q))(a:Nat):(vs r).take a++(vs r).drop (a+1)=vs (r.eraseIdx a):=by
 unfold vs
 rw[List.eraseIdx_eq_take_drop_succ,hm3,iw6,gd3]
theorem gm2{r:List (El q)}(h:0<r.length):nlT (vs r)=0:=by cases r with
 |nil=>cases h
 |cons x r=>rfl
theorem vcpf{r:List (El q)}(ha:a<r.length)(hl:r.length≤1000){bl b:Bool}{nr e:Nat}:
 o24 W 24 [.fz bl (.sl nr 0 1 (ivs (vs r))), .fz b (.pt e [.v (.int .i64 a)])] []=some (.own 0 [],[.sl 0 3 1 (ivs (vs (r.eraseIdx a)))],[]):=by
 have hv:=fi2 r
 have h1:nlT (vs r)=0:=gm2 (by omega)
 have e1:=fun b nl=>h18 (b:=b) (nl:=nl) (zs:=vs r) (by omega)
 have e2:=fun nl=>bc7 (nl:=nl) (zs:=vs r) (I:=a) (J:=a+1) (by omega) (by omega) (by omega)
 simp only[ph9,e96,g71]at e2
 rw[o10 rfl T24 rfl]
 unfold F24 c24
 simp(disch:=first|omega|fail) only[push_cast,seval,vrl,if_pos,if_neg,e1,h1,e2]
theorem b22(he:gi9 q k (N.map vs)=0)(h1:1<k)(hk:k≤64)(ha:a<k)(hl:N.length≤64)(hr: ∀r∈N,r.length=k):
 o24 W 8 [.agg [.x (.int .i64 q), .x (.int .i64 k), .fz true (.sl nl 0 1 (lvs nr (N.map vs)))], .x (.int .i64 a)] []=some (.tup [.agg [.x (.int .i64 q), .x (.int .i64 ((k:Int)-1)), .own 0 []], .x (.int .i64 0)],[.sl 2 22 1 (lls 2 (pvR (redR (N.map fun r=>r.eraseIdx a))))],[]):=by
 have e1:=fun nl nr=>ls0 (q:=q) (n:=k) (M:=N.map vs) (nl:=nl) (nr:=nr) (a:=a)
 unfold atE at e1
 simp only[he,oo9,if_pos (show 0≤(a:Int)∧(a:Int)<(k:Int) by omega),if_neg (show¬(k:Int)=1 by omega)]at e1
 have e2:=fun n0 nl nr b e=>iw4 (n0:=n0) (nl:=nl) (nr:=nr) (b:=b) (t:= .pt e [.v (.int .i64 a)]) (k:=24) (N:=N) (g:=fun r=>r.eraseIdx a) (fg:=fun _=>0) (n':=k-1) (fun r hr' bl nr=>vcpf (by rw[hr r hr'];exact ha) (by rw[hr r hr'];omega)) rfl hl (by omega) (by omega) (fun r hr'=>by rw[List.length_eraseIdx,hr r hr',if_pos ha])
 simp only[Int.natCast_sub (show 1≤k by omega),g71]at e2
 rw[o10 rfl T8 rfl]
 unfold F8 c8
 simp(disch:=first|omega|fail) only[push_cast,seval,vrl,if_pos,if_neg,e1,e2]
theorem uf8(r:List (El q)){i:Nat}(h:i<r.length):(r.take (i+1)).foldl (fun s v=>s-v) (0:El q)=(r.take i).foldl (fun s v=>s-v) 0-wf r i:=by
 rw[List.take_succ_eq_append_getElem h,List.foldl_append,i67 h];rfl
theorem qy8{r:List (El q)}(hl:r.length≤1000){bl b:Bool}{nr e:Nat}: ∀(d i:Nat),i+d=r.length→ ∀ks,
 vgoL W ⟨h56,[.tmp 3],0⟩ [0,1,4,7,8,9] c56L0 (.blk 0 [0,4]::ks) [(0, .fz bl (.sl nr 0 1 (ivs (vs r)))),(1, .fz b (.pt e [pF q])),(4, .x (.int .i64 (((r.take i).foldl (fun s v=>s-v) (0:El q)).v))),(7, .fz bl (.sl nr 0 1 (ivs (vs r)))),(8, .x (.int .i64 r.length)),(9, .x (.int .i64 i))] []=
  vgo W ⟨h56,[.tmp 3],0⟩ ks (VFr.of [(0, .fz bl (.sl nr 0 1 (ivs (vs r)))),(4, .x (.int .i64 ((nsum r).v)))]) []
 |0,i,hi,ks=>by
  rw[sp3 (by omega),sb5 c56L0.eq_def]
  unfold nsum
  simp(disch:=first|omega|fail) only[push_cast,seval,vrl,if_pos,if_neg]
 |d+1,i,hi,ks=>by
  have ih:=qy8 hl (bl:=bl) (b:=b) (nr:=nr) (e:=e) d (i+1) (by omega) ks
  have h1:=iva (l:=r) (i:=i) (by omega)
  rw[e96,g71,uf8 r (by omega),bq9]at ih
  rw[←ih,sb5 c56L0.eq_def]
  simp(disch:=first|omega|fail) only[push_cast,seval,vrl,if_pos,if_neg,h1]
theorem vcxf{r:List (El q)}(h0:0<r.length)(hl:r.length≤1000){bl b:Bool}{nr e:Nat}:
 o24 W 56 [.fz bl (.sl nr 0 1 (ivs (vs r))), .fz b (.pt e [pF q])] []=some (.own 0 [],[.sl 0 3 1 (ivs (vs (extL r)))],[]):=by
 have e1:=fun ks=>qy8 hl (bl:=bl) (b:=b) (nr:=nr) (e:=e) r.length 0 (by omega) ks
 simp only[vx9,si3,sv4,rp2,lz6,x25,gw5,fo5]at e1
 rw[List.foldl_nil,hc8]at e1
 have hv:=fi2 r
 have h1:nlT (vs r)=0:=gm2 (by omega)
 have e2:=fun b nl=>h18 (b:=b) (nl:=nl) (zs:=vs r) (by omega)
 rw[o10 rfl T56 rfl]
 unfold F56 c56
 simp(disch:=first|omega|fail) only[push_cast,seval,vrl,if_pos,if_neg,hv]
 rw[e1]
 unfold extL
 rw[gq8,e55,rp2]
 simp(disch:=first|omega|fail) only[push_cast,seval,vrl,if_pos,if_neg,e2,h1]
theorem tw5(he:gi9 q k (N.map vs)=0)(h0:0<k)(hk:k<64)(hl:N.length≤64)(hr: ∀r∈N,r.length=k):
 o24 W 38 [.agg [.x (.int .i64 q), .x (.int .i64 k), .fz true (.sl nl 0 1 (lvs nr (N.map vs)))]] []=some (.tup [.agg [.x (.int .i64 q), .x (.int .i64 ((k:Int)+1)), .own 0 []], .x (.int .i64 0)],[.sl 2 22 1 (lls 2 (pvR (redR (N.map extL))))],[]):=by
 have e1:=fun nl nr=>um1 (q:=q) (n:=k) (M:=N.map vs) (nl:=nl) (nr:=nr)
 simp only[he]at e1
 have e2:=fun n0 nl nr b e=>iw4 (n0:=n0) (nl:=nl) (nr:=nr) (b:=b) (t:= .pt e [pF q]) (k:=56) (N:=N) (g:=extL) (fg:=fun _=>0) (n':=k+1) (fun r hr' bl nr=>vcxf (by rw[hr r hr'];exact h0) (by rw[hr r hr'];omega)) rfl hl (by omega) (by omega) (fun r hr'=>by rw[x19,hr r hr'])
 simp only[e96,g71]at e2
 rw[o10 rfl T38 rfl]
 unfold F38 c38
 simp(disch:=first|omega|fail) only[push_cast,seval,vrl,if_pos,if_neg,e1,nb8 (show¬(k:Int)=64 by omega),e2]
end
def wtW:List Int→Nat
 | []=>0
 |x::a=>(if x=0 then 0 else 1)+wtW a
def apW:List Int→List Int→Nat
 |x::a,y::c=>(if x=y then 0 else 1)+apW a c
 |_,_=>0
theorem p55: ∀a:List Int,wtW a≤a.length
 | []=>jj6 _
 |x::a=>by have:=p55 a;rw[wtW,q90];split<;>omega
section
variable {a c:List Int} {b b':Bool} {nl nl':Nat}
theorem mu5(ha:a.length≤9223372036854775807): ∀(d i n:Nat),i+d=a.length→n≤i→ ∀ks,
 vgoL W ⟨hNo,[.tmp 2],0⟩ [3,6,7,8] c43L0 (.blk 0 [3]::ks) [(3, .x (.int .i64 n)),(6, .fz b (.sl nl 0 1 (ivs a))),(7, .x (.int .i64 a.length)),(8, .x (.int .i64 i))] []=vgo W ⟨hNo,[.tmp 2],0⟩ ks (VFr.of [(3, .x (.int .i64 (n+wtW (a.drop i):Nat)))]) []
 |0,i,n,hi,hn,ks=>by
  rw[oh9 (by omega),sb5 c43L0.eq_def]
  show _=vgo W ⟨hNo,[.tmp 2],0⟩ ks (VFr.of [(3, .x (.int .i64 (n+0:Nat)))]) []
  rw[zy9]
  simp(disch:=first|omega|fail) only[push_cast,seval,vrl,if_pos,if_neg]
 |d+1,i,n,hi,hn,ks=>by
  obtain⟨x,hx⟩:=ge6 (l:=a) (i:=i) (by omega)
  have h1:=iat hx
  have ih:=mu5 ha d (i+1) (n+if x=0 then 0 else 1) (by omega) (by split<;>omega) ks
  rw[i62 hx,wtW]
  rw[q61]at ih
  rw[←ih,sb5 c43L0.eq_def]
  by_cases h:x=0
  ·rw[if_pos h,zy9,e96,g71]
   simp(disch:=first|omega|fail) only[push_cast,seval,vrl,if_pos,if_neg,h1,h]
  ·rw[if_neg h,e96,g71,e96,g71]
   simp(disch:=first|omega|fail) only[push_cast,seval,vrl,if_pos,if_neg,h1,nb8 h]
theorem fd2(ha:a.length≤9223372036854775807):o24 W 43 [.fz b (.sl nl 0 1 (ivs a))] []=some (.x (.int .i64 (wtW a)),[],[]):=by
 have e:=fun ks=>mu5 (b:=b) (nl:=nl) ha a.length 0 0 (by omega) (by omega) ks
 rw[sv4,e03]at e
 simp only[vx9]at e
 rw[o10 rfl T43 rfl]
 unfold F43 c43
 simp(disch:=first|omega|fail) only[push_cast,seval,vrl,if_pos,if_neg]
 rw[e]
 simp(disch:=first|omega|fail) only[push_cast,seval,vrl,if_pos,if_neg]
theorem vu0(hc:c.length=a.length)(ha:a.length≤9223372036854775807): ∀(d i n:Nat),i+d=a.length→n≤i→ ∀ks,
 vgoL W ⟨hNo,[.tmp 4],0⟩ [0,1,5,13,14] c17L0 (.blk 0 [5]::ks) [(0, .fz b (.sl nl 0 1 (ivs a))),(1, .fz b' (.sl nl' 0 1 (ivs c))),(5, .x (.int .i64 n)),(13, .x (.int .i64 a.length)),(14, .x (.int .i64 i))] []=
  vgo W ⟨hNo,[.tmp 4],0⟩ ks (VFr.of [(5, .x (.int .i64 (n+apW (a.drop i) (c.drop i):Nat)))]) []
 |0,i,n,hi,hn,ks=>by
  rw[oh9 (by omega),sb5 c17L0.eq_def]
  show _=vgo W ⟨hNo,[.tmp 4],0⟩ ks (VFr.of [(5, .x (.int .i64 (n+0:Nat)))]) []
  rw[zy9]
  simp(disch:=first|omega|fail) only[push_cast,seval,vrl,if_pos,if_neg]
 |d+1,i,n,hi,hn,ks=>by
  obtain⟨x,hx⟩:=ge6 (l:=a) (i:=i) (by omega)
  obtain⟨y,hy⟩:=ge6 (l:=c) (i:=i) (by omega)
  have h1:=iat hx
  have h2:=iat hy
  have ih:=vu0 hc ha d (i+1) (n+if x=y then 0 else 1) (by omega) (by split<;>omega) ks
  rw[i62 hx,i62 hy,apW]
  rw[q61]at ih
  rw[←ih,sb5 c17L0.eq_def]
  by_cases h:x=y
  ·rw[if_pos h,zy9,e96,g71]
   simp(disch:=first|omega|fail) only[push_cast,seval,vrl,if_pos,if_neg,h1,h2,h]
  ·rw[if_neg h,e96,g71,e96,g71]
   simp(disch:=first|omega|fail) only[push_cast,seval,vrl,if_pos,if_neg,h1,h2,nb8 h]
def apE(a c:List Int):Int:=if a.length=c.length then(apW a c:Int)else-1
theorem w75(ha:a.length≤9223372036854775807)(hcl:c.length≤9223372036854775807):o24 W 17 [.fz b (.sl nl 0 1 (ivs a)), .fz b' (.sl nl' 0 1 (ivs c))] []=some (.x (.int .i64 (apE a c)),[],[]):=by
 unfold apE
 by_cases h:a.length=c.length
 ·rw[if_pos h]
  have e:=fun ks=>vu0 (b:=b) (nl:=nl) (b':=b') (nl':=nl') h.symm ha a.length 0 0 (by omega) (by omega) ks
  rw[sv4,sv4,e03]at e
  simp only[vx9]at e
  rw[o10 rfl T17 rfl]
  unfold F17 c17
  simp(disch:=first|omega|fail) only[push_cast,seval,vrl,if_pos,if_neg,h]
  rw[h]at e
  rw[e]
  simp(disch:=first|omega|fail) only[push_cast,seval,vrl,if_pos,if_neg]
 ·rw[if_neg h]
  have h': ¬(a.length:Int)=(c.length:Int):=by omega
  rw[o10 rfl T17 rfl]
  unfold F17 c17
  simp(disch:=first|omega|fail) only[push_cast,seval,vrl,if_pos,if_neg,nb8 h']
end
section
variable {q:Int} [IsFld q] {k nl nr nl2:Nat} {b:Bool}
end
section
variable {q:Int} [IsFld q] {k nl nr:Nat} {b:Bool} {N:List (List (El q))} {a:Nat}
end
end Go.Proofs.Ytppbpgmdmiajcaa
namespace Go.Alg
section
variable {K:Type} [FK K]
def disc(C s:Nat→K)(j:Nat):K:=sumN (j+1) fun k=>C k*s (j-k)
def shift(g:Nat)(B:Nat→K)(k:Nat):K:=if k<g then 0 else B (k-g)
end
end Go.Alg
namespace Go.Alg
section
variable {K:Type} [FK K]
theorem pv3(n:Nat)(f g:Nat→K):sumN n (fun i=>f i+g i)=sumN n f+sumN n g:=jl9 _ _ _
theorem z09(n:Nat)(f:Nat→K):sumN n (fun i=> -f i)= -sumN n f:=eq0 _ _
def ofF(n:Nat)(f:Nat→K):List K:=(List.range n).map f
theorem gh0(n:Nat)(f:Nat→K):(ofF n f).length=n:=by simp[ofF]
theorem b43(n:Nat)(f:Nat→K)(k:Nat):wf (ofF n f) k=if k<n then f k else 0:=by
 by_cases h:k<n
 ·rw[if_pos h,i67 (by rw[gh0];exact h)]
  simp[ofF]
 ·rw[if_neg h,ez8 (by rw[gh0];omega)]
theorem ot8{n:Nat}{f:Nat→K}(h: ∀k,n≤k→f k=0):wf (ofF n f)=f:=by
 funext k
 rw[b43]
 split
 ·rfl
 ·exact(h k (by omega)).symm
theorem qt9:wf ([]:List K)=fun _=>0:=rfl
theorem qa6(a:K)(l:List K):wf (a::l) 0=a:=rfl
theorem rw8(a:K)(l:List K)(k:Nat):wf (a::l) (k+1)=wf l k:=rfl
theorem g29(l:List K)(n k:Nat):wf (l.take n) k=if k<n then wf l k else 0:=by
 unfold wf
 rw[os6,os6,td4]
 split<;>rfl
theorem nz0(l l':List K)(k:Nat):wf (l++l') k=if k<l.length then wf l k else wf l' (k-l.length):=by
 unfold wf
 rw[os6,os6,os6]
 split
 ·rename_i h;rw[bu4 h]
 ·rename_i h;rw[lp1 (by omega)]
theorem m14(n:Nat)(k:Nat):wf (List.replicate n (0:K)) k=0:=by
 by_cases h:k<n
 ·rw[i67 (by simpa using h),List.getElem_replicate]
 ·rw[ez8 (by simp;omega)]
theorem rb9(n:Nat):wf (List.replicate n (0:K))=fun _=>0:=funext fun k=>m14 n k
def tN(l:List K):Nat→Nat
 |0=>0
 |n+1=>if wf l n=0 then tN l n else n+1
def xa4(l:List K):List K:=l.take (tN l l.length)
theorem vv2(l:List K): ∀n,tN l n≤n
 |0=>jj6 _
 |n+1=>by have:=vv2 l n;rw[tN];split<;>omega
theorem z25(l:List K): ∀(n i:Nat),tN l n≤i→i<n→wf l i=0
 |0,i,_,h=>by omega
 |n+1,i,h1,h2=>by
  rw[tN]at h1
  split at h1
  ·by_cases he:i=n
   ·subst he;assumption
   ·exact z25 l n i h1 (by omega)
  ·omega
theorem uv7(l:List K): ∀n,tN l n≠0→wf l (tN l n-1)≠0
 |0,h=>absurd rfl h
 |n+1,h=>by
  rw[tN]at h⊢
  split
  ·rename_i h0
   rw[if_pos h0]at h
   exact uv7 l n h
  ·rw[Nat.add_sub_cancel];assumption
theorem kf0(l:List K):(xa4 l).length=tN l l.length:=by
 unfold xa4;rw[vb8];have:=vv2 l l.length;omega
theorem tb1(l:List K):(xa4 l).length≤l.length:=by rw[kf0];exact vv2 _ _
theorem vb5(l:List K):wf (xa4 l)=wf l:=by
 funext k
 unfold xa4
 rw[g29]
 split
 ·rfl
 ·by_cases h2:k<l.length
  ·exact(z25 l l.length k (by omega) h2).symm
  ·exact(ez8 (by omega)).symm
def Trm(l:List K):Prop:=l.length≠0→wf l (l.length-1)≠0
theorem ua9(l:List K):Trm (xa4 l):=by
 intro h
 rw[vb5,kf0]
 rw[kf0]at h
 exact uv7 l l.length h
theorem kf6{a:List K}(ha:Trm a){n:Nat}(h: ∀k,n≤k→wf a k=0):a.length≤n:=by
 by_cases hl:a.length≤n
 ·exact hl
 ·exact absurd (h (a.length-1) (by omega)) (ha (by omega))
theorem lz5{a b:List K}(ha:Trm a)(hb:Trm b)(h:wf a=wf b):a=b:=by
 have key: ∀{a b:List K},Trm a→wf a=wf b→a.length≤b.length:=fun ha h=>kf6 ha fun k hk=>by rw[h,ez8 hk]
 exact ou8 (Nat.le_antisymm (key ha h) (key hb h.symm)) h
theorem ou7{a:List K}(h:Trm a):xa4 a=a:=lz5 (ua9 a) h (vb5 a)
theorem df7{a:List K}{n:Nat}(h: ∀k,n≤k→wf a k=0):(xa4 a).length≤n:=kf6 (ua9 a) fun k hk=>by rw[vb5];exact h k hk
theorem wg5:Trm ([]:List K):=fun h=>absurd rfl h
theorem vy9{a:List K}(h:wf a=fun _=>0):xa4 a=[]:=js1 (Nat.le_zero.1 (df7 (n:=0) fun k _=>by rw[h]))
theorem rj1{a:List K}:xa4 a=[]↔wf a=fun _=>0:=⟨fun h=>by rw[←vb5 a,h];rfl,vy9⟩
def addK(a b:List K):List K:=xa4 (ofF (max a.length b.length) fun k=>wf a k+wf b k)
theorem w62(a b:List K):wf (addK a b)=fun k=>wf a k+wf b k:=by
 unfold addK
 rw[vb5]
 exact ot8 fun k hk=>by rw[ez8 (by omega),ez8 (by omega),FK.add_zero]
theorem y42(a b:List K):Trm (addK a b):=ua9 _
theorem tt8(g:Nat→K)(k:Nat):disc (fun _=>0) g k=0:=ja4 fun _ _=>zero_mul _
theorem hr9{f g:Nat→K}{n m k:Nat}(hf: ∀i,n≤i→f i=0)(hg: ∀i,m≤i→g i=0)(hk:n+m≤k+1):disc f g k=0:=ja4 fun i hi=>by
 by_cases h:n≤i
 ·rw[hf i h,zero_mul]
 ·rw[hg (k-i) (by omega),mul_zero]
theorem b30{f g:Nat→K}{n m:Nat}(hf: ∀i,n<i→f i=0)(hg: ∀i,m<i→g i=0):disc f g (n+m)=f n*g m:=by
 unfold disc
 rw[xq2 (s:=n) (by omega) fun i hi hne=> ?_]
 ·rw[show n+m-n=m by omega]
 ·by_cases h:n<i
  ·rw[hf i h,zero_mul]
  ·rw[hg _ (by omega),mul_zero]
theorem ck4(f g:Nat→K)(k:Nat):disc f g k=disc g f k:=by
 unfold disc
 have: ∀(n:Nat) (h:Nat→K),sumN n h=sumN n fun i=>h (n-1-i):=by
  intro n
  induction n with
  |zero=>intro h;rfl
  |succ n ih=>
   intro h
   rw[c81,ih,cp9,FK.add_comm]
   refine congr (congrArg _ (rc1 fun i hi=> ?_)) ?_
   ·rw[show n+1-1-i=n-1-i+1 by omega]
   ·rw[show n+1-1-n=0 by omega]
 rw[this]
 refine rc1 fun i hi=> ?_
 rw[show k+1-1-i=k-i by omega,show k-(k-i)=i by omega,FK.mul_comm]
theorem ea4{f g h:Nat→K}{k:Nat}:disc f (fun i=>g i+h i) k=disc f g k+disc f h k:=
 (rc1 fun i _=>FK.mul_add _ _ _).trans (pv3 _ _ _)
theorem bf5{f g h:Nat→K}{k:Nat}:disc (fun i=>f i+g i) h k=disc f h k+disc g h k:=by
 rw[ck4,ea4,ck4 h f,ck4 h g]
theorem bq0{f g:Nat→K}{k:Nat}:disc f (fun i=> -g i) k= -disc f g k:=
 (rc1 fun i _=>mul_neg _ _).trans (z09 _ _)
theorem fh4{f g:Nat→K}{k:Nat}:disc (fun i=> -f i) g k= -disc f g k:=by rw[ck4,bq0,ck4]
def mulK(a b:List K):List K:=if a.length=0∨b.length=0 then []else xa4 (ofF (a.length+b.length-1) (disc (wf a) (wf b)))
theorem zu9(a b:List K):wf (mulK a b)=disc (wf a) (wf b):=by
 unfold mulK
 split
 ·rename_i h
  funext k
  rcases h with h|h
  ·rw[js1 h,qt9,tt8]
  ·rw[js1 h,ck4,qt9,tt8]
 ·rw[vb5]
  exact ot8 fun k hk=>hr9 (n:=a.length) (m:=b.length) (fun i hi=>ez8 hi) (fun i hi=>ez8 hi) (by omega)
theorem bx4(a b:List K):(mulK a b).length≤a.length+b.length-1:=by
 unfold mulK
 split
 ·exact ms7 _
 ·exact df7 fun k hk=>by rw[b43,if_neg (by omega)]
theorem lk3{a b:List K}(ha:Trm a)(hb:Trm b)(h1:a≠[])(h2:b≠[]):(mulK a b).length=a.length+b.length-1:=by
 have l1:0<a.length:=py7.2 h1
 have l2:0<b.length:=py7.2 h2
 refine Nat.le_antisymm (bx4 a b) (ly6 fun h=> ?_)
 have h3:disc (wf a) (wf b) (a.length-1+(b.length-1))=0:=by rw[←zu9,ez8 (by omega)]
 rw[b30 (fun i hi=>ez8 (by omega)) (fun i hi=>ez8 (by omega))]at h3
 exact hl5 (ha (by omega)) (hb (by omega)) h3
def ev:List K→K→K
 | [],_=>0
 |a::l,x=>a+x*ev l x
def sd(x0:K):List K→List K×K
 | []=>([],0)
 | [a]=>([],a)
 |a::b::l=>((sd x0 (b::l)).2::(sd x0 (b::l)).1,a+x0*(sd x0 (b::l)).2)
theorem w89(x0:K): ∀l:List K,(sd x0 l).1.length=l.length-1
 | []=>rfl
 | [a]=>rfl
 |a::b::l=>by
  rw[sd]
  show(sd x0 (b::l)).1.length+1=_
  rw[w89 x0 (b::l)];simp
theorem n68(x0 y:K): ∀l:List K,ev l y=(y-x0)*ev (sd x0 l).1 y+(sd x0 l).2
 | []=>by rw[sd,ev,mul_zero,FK.add_zero]
 | [a]=>by
   show a+y*0=(y-x0)*0+a
   rw[mul_zero,mul_zero,FK.add_zero,zero_add]
 |a::b::l=>by
  rw[ev,n68 x0 y (b::l),sd]
  show a+y*((y-x0)*ev (sd x0 (b::l)).1 y+(sd x0 (b::l)).2)=(y-x0)*((sd x0 (b::l)).2+y*ev (sd x0 (b::l)).1 y)+(a+x0*(sd x0 (b::l)).2)
  generalize (sd x0 (b::l)).2=r
  generalize ev (sd x0 (b::l)).1 y=e
  rw[FK.mul_add,FK.mul_add,sub_mul y x0 r]
  have h1:y*((y-x0)*e)=(y-x0)*(y*e):=by ac_rfl
  rw[h1,sub_eq (y*r)]
  have h2:y*r+ -(x0*r)+(y-x0)*(y*e)+(a+x0*r)=a+((y-x0)*(y*e)+y*r)+(-(x0*r)+x0*r):=by ac_rfl
  rw[h2,neg_add,FK.add_zero]
theorem cz6(x0:K)(l:List K):(sd x0 l).2=ev l x0:=by
 have:=n68 x0 x0 l
 rw[sub_self,zero_mul,zero_add]at this
 exact this.symm
theorem rj2(x0:K): ∀l:List K,(∀c∈(sd x0 l).1,c=0)→(sd x0 l).2=0→ ∀c∈l,c=0
 | [],_,_,c,hc=>by cases hc
 | [a],_,h,c,hc=>by
   rw[q05.1 hc];exact h
 |a::b::l,h1,h2,c,hc=>by
  rw[sd]at h1 h2
  have hr:(sd x0 (b::l)).2=0:=h1 _ (by simp)
  have ih:=rj2 x0 (b::l) (fun c hc=>h1 c (by simp[hc])) hr
  rcases r04.1 hc with rfl|hc
  ·rw[hr,mul_zero,FK.add_zero]at h2;exact h2
  ·exact ih c hc
theorem roots: ∀(xs:List K) (f:List K),xs.Nodup→f.length≤xs.length→(∀x∈xs,ev f x=0)→ ∀c∈f,c=0
 | [],f,_,hl,_=>by
   intro c hc
   rw[js1 (Nat.le_zero.1 hl)]at hc;cases hc
 |x0::xs,f,hn,hl,hx=>by
  rw[y50]at hn
  have h0:=hx x0 (by simp)
  rw[←cz6]at h0
  have hl2:=w89 x0 f
  rw[q90]at hl
  refine rj2 x0 f (roots xs _ hn.2 (by omega) fun y hy=> ?_) h0
  have h1:=n68 x0 y f
  rw[hx y (by simp[hy]),h0,FK.add_zero]at h1
  rcases mul_eq_zero h1.symm with h2|h2
  ·exact absurd (by rw[←sub_eq_zero.1 h2];exact hy) hn.1
  ·exact h2
end
end Go.Alg
namespace Go.Alg
section
variable {K:Type} [FK K]
theorem op2{f:Nat→K}{n:Nat}(hf: ∀k,n≤k→f k=0)(hne:f≠fun _=>0): ∃m,f m≠0∧ ∀k,m<k→f k=0:=by
 have h1:wf (ofF n f)=f:=ot8 hf
 have h2:xa4 (ofF n f)≠[]:=fun h=>hne (by rw[←h1];exact rj1.1 h)
 have h3:0<(xa4 (ofF n f)).length:=py7.2 h2
 refine⟨(xa4 (ofF n f)).length-1, ?_,fun k hk=> ?_⟩
 ·have:=ua9 (ofF n f) (by omega)
  rwa [vb5,h1]at this
 ·rw[←h1,←vb5]
  exact ez8 (by omega)
theorem fq3{f g:Nat→K}{n m:Nat}(hf: ∀k,n≤k→f k=0)(hg: ∀k,m≤k→g k=0)(h1:f≠fun _=>0)(h2:g≠fun _=>0): ∃i j,f i≠0∧(∀k,i<k→f k=0)∧g j≠0∧(∀k,j<k→g k=0)∧disc f g (i+j)≠0:=by
 obtain⟨i,i1,i2⟩:=op2 hf h1
 obtain⟨j,j1,j2⟩:=op2 hg h2
 exact⟨i,j,i1,i2,j1,j2,by rw[b30 i2 j2];exact hl5 i1 j1⟩
structure IsDiv (a b Q R:List K):Prop where
 q:Trm Q
 r:Trm R
 lt:R.length<b.length
 eq: ∀k,wf a k=disc (wf Q) (wf b) k+wf R k
theorem IsDiv.uniq{a b Q R Q' R':List K}(hb:Trm b)(h:IsDiv a b Q R)(h':IsDiv a b Q' R'):Q=Q'∧R=R':=by
 have hbl:0<b.length:=by have:=h.lt;omega
 have hq:wf Q=wf Q':=by
  refine ly6 fun hne=> ?_
  have hD:(fun k=>wf Q k+ -wf Q' k)≠fun _=>0:=fun e=>hne (funext fun k=>sub_eq_zero.1 (congrFun e k))
  have hB:wf b≠fun _=>0:=fun e=>hb (by omega) (congrFun e _)
  obtain⟨i,j,i1,i2,j1,j2,h1⟩:=fq3 (n:=max Q.length Q'.length) (m:=b.length) (fun k hk=>by rw[ez8 (by omega),ez8 (by omega),neg_zero,FK.add_zero]) (fun k hk=>ez8 hk) hD hB
  have hj:j=b.length-1:=by
   have h2:=hb (by omega)
   rcases Nat.lt_trichotomy j (b.length-1)with h|h|h
   ·exact absurd (j2 _ h) h2
   ·exact h
   ·exact absurd (ez8 (by omega)) j1
  apply h1
  rw[bf5,fh4]
  have e1:=h.eq (i+j)
  have e2:=h'.eq (i+j)
  rw[ez8 (l:=R) (by have:=h.lt;omega),FK.add_zero]at e1
  rw[ez8 (l:=R') (by have:=h'.lt;omega),FK.add_zero]at e2
  rw[←e1,←e2,FK.add_neg]
 have hQ:=lz5 h.q h'.q hq
 refine⟨hQ,lz5 h.r h'.r (funext fun k=> ?_)⟩
 have e1:=h.eq k
 rw[h'.eq k,hQ]at e1
 exact(g50 e1).symm
theorem uj8(c:K)(k:Nat)(g:Nat→K)(j:Nat):disc (fun i=>if i=k then c else 0) g j=c*shift k g j:=by
 unfold shift
 split
 ·rename_i h
  rw[mul_zero]
  exact ja4 fun i hi=>by
   show(if i=k then c else 0)*_=_
   rw[if_neg (by omega),zero_mul]
 ·rename_i h
  unfold disc
  rw[xq2 (s:=k) (by omega) fun i _ hne=>by
   show(if i=k then c else 0)*_=_
   rw[if_neg hne,zero_mul]]
  show(if k=k then c else 0)*_=_
  rw[if_pos rfl]
structure DivI (a b:List K) (k:Nat) (Q R:List K):Prop where
 eq: ∀j,wf a j=disc (wf Q) (wf b) j+wf R j
 up: ∀j,k+b.length≤j+1→wf R j=0
 low: ∀j,j<k→wf Q j=0
theorem DivI.step{a b:List K}{k:Nat}{Q R Q' R':List K}(hb:0<b.length)(hb0:wf b (b.length-1)≠0)(h:DivI a b (k+1) Q R){c:K}(hc:c=wf R (k+b.length-1)*FK.inv (wf b (b.length-1)))
 (hQ: ∀j,wf Q' j=if j=k then c else wf Q j) (hR: ∀j,wf R' j=wf R j-c*shift k (wf b) j):DivI a b k Q' R':=by
 have hQf:wf Q'=fun j=>wf Q j+(if j=k then c else 0):=funext fun j=>by
  rw[hQ]
  split
  ·rename_i e;rw[e,h.low k (by omega),zero_add]
  ·rw[FK.add_zero]
 refine⟨fun j=> ?_,fun j hj=> ?_,fun j hj=> ?_⟩
 ·rw[h.eq j,hQf,bf5,uj8,hR,FK.add_assoc,FK.add_comm (c*_),fj9]
 ·rw[hR]
  by_cases he:j+1=k+b.length
  ·rw[show k+b.length-1=j by omega]at hc
   unfold shift
   rw[if_neg (by omega),show j-k=b.length-1 by omega,hc,FK.mul_assoc,inv_mul hb0,FK.mul_one,sub_self]
  ·rw[h.up j (by omega)]
   unfold shift
   rw[if_neg (by omega),ez8 (by omega),mul_zero,sub_zero]
 ·rw[hQ,if_neg (by omega),h.low j (by omega)]
theorem DivI.done{a b Q R:List K}(h:DivI a b 0 Q R)(hb:0<b.length):IsDiv a b (xa4 Q) (xa4 R):=by
 refine⟨ua9 _,ua9 _, ?_,fun k=>by rw[vb5,vb5];exact h.eq k⟩
 have:=df7 (a:=R) (n:=b.length-1) fun k hk=>h.up k (by omega)
 omega
theorem DivI.start{a b:List K}{n k:Nat}(hk:a.length≤k+b.length-1):DivI a b k (List.replicate n 0) a:=
 ⟨fun j=>by rw[rb9,tt8,zero_add],fun j hj=>ez8 (by omega),fun j _=>m14 n j⟩
def subR(c:K)(b:List K)(k:Nat):Nat→Nat→List K→List K
 |0,_,R=>R
 |n+1,i,R=>subR c b k n (i+1) (R.set (k+i) (wf R (k+i)-c*wf b i))
theorem xs2(c:K)(b:List K)(k:Nat): ∀(n i:Nat) (R:List K),(subR c b k n i R).length=R.length
 |0,_,_=>rfl
 |n+1,i,R=>by rw[subR,xs2 c b k n,kb7]
theorem je9(c:K)(b:List K)(k:Nat): ∀(n i:Nat) (R:List K),k+i+n≤R.length→ ∀j,wf (subR c b k n i R) j=if k+i≤j∧j<k+i+n then wf R j-c*wf b (j-k)else wf R j
 |0,i,R,_,j=>by rw[subR,if_neg (by omega)]
 |n+1,i,R,h,j=>by
  rw[subR,je9 c b k n (i+1) _ (by rw[kb7];omega),wf_set (by omega)]
  by_cases h1:j=k+i
  ·subst h1
   rw[if_neg (by omega),if_pos rfl,if_pos (by omega),Nat.add_sub_cancel_left]
  ·rw[if_neg h1]
   by_cases h2:k+(i+1)≤j∧j<k+(i+1)+n
   ·rw[if_pos h2,if_pos (by omega)]
   ·rw[if_neg h2,if_neg (by omega)]
theorem fn3(c:K)(b:List K)(k:Nat)(R:List K)(h:k+b.length≤R.length)(j:Nat):wf (subR c b k b.length 0 R) j=wf R j-c*shift k (wf b) j:=by
 rw[je9 c b k _ _ _ (by omega)]
 unfold shift
 by_cases h1:j<k
 ·rw[if_neg (by omega),if_pos h1,mul_zero,sub_zero]
 ·rw[if_neg h1]
  by_cases h2:j<k+b.length
  ·rw[if_pos (by omega)]
  ·rw[if_neg (by omega),ez8 (l:=b) (by omega),mul_zero,sub_zero]
theorem bg8{a b:List K}(hb:0<b.length)(hb0:wf b (b.length-1)≠0): ∀(k:Nat) (Q R:List K),DivI a b k Q R→k≤Q.length→k+b.length≤R.length+1→ ∃Q' R',DivI a b 0 Q' R'
 |0,Q,R,h,_,_=>⟨Q,R,h⟩
 |k+1,Q,R,h,hq,hr=>bg8 hb hb0 k (Q.set k (wf R (k+b.length-1)*FK.inv (wf b (b.length-1)))) (subR (wf R (k+b.length-1)*FK.inv (wf b (b.length-1))) b k b.length 0 R)
   (h.step hb hb0 rfl (fun j=>wf_set (by omega) j) (fn3 _ b k R (by omega))) (by rw[kb7];omega) (by rw[xs2];omega)
theorem uj1{a b:List K}(hb:Trm b)(hb0:b≠[]): ∃Q R,IsDiv a b Q R:=by
 have h1:0<b.length:=py7.2 hb0
 obtain⟨Q,R,h⟩:=bg8 (a:=a) h1 (hb (by omega)) (a.length+1-b.length) (List.replicate (a.length+1-b.length) 0) (a++List.replicate b.length 0)
  (by
    have e:wf (a++List.replicate b.length 0)=wf a:=funext fun k=>by
     rw[nz0]
     split
     ·rfl
     ·rw[m14,ez8 (by omega)]
    have:=DivI.start (a:=a) (b:=b) (n:=a.length+1-b.length) (k:=a.length+1-b.length) (by omega)
    exact⟨fun j=>by rw[e];exact this.eq j,fun j hj=>by rw[e];exact this.up j hj,this.low⟩) (by simp) (by simp;omega)
 exact⟨_,_,h.done h1⟩
theorem IsDiv.len{a b Q R:List K}(h:IsDiv a b Q R)(ha:Trm a)(hb:Trm b)(hl:b.length≤a.length):Q.length=a.length-b.length+1∧Q≠[]:=by
 have hb0:0<b.length:=by have:=h.lt;omega
 have hne:Q≠[]:=fun e=>by
  have h1:=h.eq (a.length-1)
  rw[e,qt9,tt8,zero_add,ez8 (l:=R) (by have:=h.lt;omega)]at h1
  exact ha (by omega) h1
 have hq:0<Q.length:=py7.2 hne
 have hlen:=lk3 h.q hb hne (fun e=>by rw[e]at hb0;exact absurd hb0 (by simp))
 have key:mulK Q b≠[]:=fun e=>by rw[e]at hlen;simp at hlen;omega
 refine⟨?_,hne⟩
 rcases Nat.lt_trichotomy (Q.length+b.length-1) a.length with h1|h1|h1
 ·have h2:=h.eq (a.length-1)
  rw[hr9 (n:=Q.length) (m:=b.length) (fun i hi=>ez8 hi) (fun i hi=>ez8 hi) (by omega),ez8 (l:=R) (by have:=h.lt;omega),FK.add_zero]at h2
  exact absurd h2 (ha (by omega))
 ·omega
 ·have h2:=h.eq (Q.length+b.length-2)
  rw[ez8 (by omega),ez8 (l:=R) (by have:=h.lt;omega),FK.add_zero,show Q.length+b.length-2=(Q.length-1)+(b.length-1) by omega,b30 (fun i hi=>ez8 (by omega)) (fun i hi=>ez8 (by omega))]at h2
  exact absurd h2.symm (hl5 (h.q (by omega)) (hb (by omega)))
theorem IsDiv.of_mul{a b Q:List K}(hb:Trm b)(hb0:b≠[])(h:wf a=disc (wf Q) (wf b)):IsDiv a b (xa4 Q) []:=
 ⟨ua9 _,wg5,py7.2 hb0,fun k=>by rw[vb5,h,qt9,FK.add_zero]⟩
end
end Go.Alg
namespace Go.Proofs.Ytppbpgmdmiajcaa
open Go.Am Go.Vm Go.Alg
def polE(q:Int)(a:List Int):Int:=match fldN q.toNat with
 |none=>1
 |some _=>if 128<a.length then 4 else if(a.any fun v=> !fok q v)=true then 2 else 0
theorem i69{q:Int}(a:List (El q)):((vs a).any fun v=> !fok q v)=false:=qb7.2 fun z hz=>by
 obtain⟨x,_,rfl⟩:=vf1.1 hz
 rw[x.ok];decide
theorem i31{q:Int} [h:IsFld q]{a:List (El q)}(hl:a.length≤128):polE q (vs a)=0:=by
 obtain⟨p,m,g,mod,hn⟩:=h.ok
 unfold polE
 rw[hn]
 simp only
 rw[if_neg (by rw[fi2];omega),i69,if_neg (by decide)]
section
variable {q:Int} {b:Bool} {nl:Nat} {l:List Int}
theorem kj6 [IsFld q](hl:l.length≤9223372036854775807): ∀(n i:Nat),i+n=l.length→ ∀ks,
 vgoL W ⟨hNo,[.tmp 4],0⟩ [5,20,21,22] c53L0 (.blk 0 []::ks) [(5, .fz true (pF q)),(20, .fz b (.sl nl 0 1 (ivs l))),(21, .x (.int .i64 l.length)),(22, .x (.int .i64 i))] []=if((l.drop i).any fun v=> !fok q v)=true then some (.x (.int .i64 2),[],[])else vgo W ⟨hNo,[.tmp 4],0⟩ ks (VFr.of []) []
 |0,i,hi,ks=>by
  rw[oh9 (by omega),if_neg (by simp),sb5 c53L0.eq_def]
  simp(disch:=first|omega|fail) only[push_cast,seval,vrl,if_pos,if_neg]
 |n+1,i,hi,ks=>by
  have ih:=kj6 hl n (i+1) (by omega) ks
  obtain⟨a,ha⟩:=ge6 (l:=l) (i:=i) (by omega)
  have h1:=iat ha
  rw[i62 ha,List.any_cons]
  rw[e96,g71]at ih
  cases hk:fok q a with
  |false=>
   rw[if_pos (by rfl),sb5 c53L0.eq_def]
   simp(disch:=first|omega|fail) only[push_cast,seval,vrl,if_pos,if_neg,h1,hk]
  |true=>
   rw[Bool.not_true,Bool.false_or,←ih,sb5 c53L0.eq_def]
   simp(disch:=first|omega|fail) only[push_cast,seval,vrl,if_pos,if_neg,h1,hk]
theorem bw7(hl:l.length≤9223372036854775807):o24 W 53 [.x (.int .i64 q), .fz b (.sl nl 0 1 (ivs l))] []=some (.x (.int .i64 (polE q l)),[],[]):=by
 unfold polE
 cases hn:fldN q.toNat with
 |none=>
  have e0:=ug9 hn
  rw[o10 rfl T53 rfl]
  unfold F53 c53
  simp(disch:=first|omega|fail) only[push_cast,seval,vrl,if_pos,if_neg,e0]
 |some x=>
  obtain⟨p0,m0,g0,mod⟩:=x
  haveI:IsFld q:=⟨⟨p0,m0,g0,mod,hn⟩⟩
  simp only
  by_cases h1:128<l.length
  ·rw[if_pos h1,o10 rfl T53 rfl]
   unfold F53 c53
   simp(disch:=first|omega|fail) only[push_cast,seval,vrl,if_pos,if_neg]
  ·rw[if_neg h1]
   have e:=fun ks=>kj6 (q:=q) hl (b:=b) (nl:=nl) l.length 0 (by omega) ks
   simp only[vx9,si3,sv4,rp2,lz6,x25,gw5,fo5]at e
   rw[o10 rfl T53 rfl]
   unfold F53 c53
   simp(disch:=first|omega|fail) only[push_cast,seval,vrl,if_pos,if_neg]
   rw[e]
   by_cases h2:(l.any fun v=> !fok q v)=true
   ·rw[if_pos h2,if_pos h2]
   ·rw[if_neg h2,if_neg h2]
    simp(disch:=first|omega|fail) only[push_cast,seval,vrl,if_pos,if_neg]
end
section
variable {q:Int} [IsFld q] {b:Bool} {nl:Nat} {a:List (El q)}
theorem ee1(a:List (El q))(n:Nat):(vs a).take n=vs (a.take n):=by unfold vs;rw[iw6]
theorem ks7(a:List (El q)):nlT (vs a)=nlT a:=b99 _ _
theorem yc2(hl:a.length≤1000000): ∀(n:Nat),n≤a.length→ ∀ks,
 vgoL W ⟨hNo,[.tmp 2],0⟩ [0,3] c73L0 (.blk 0 [0,3]::ks) [(0, .fz b (.sl nl 0 1 (ivs (vs a)))),(3, .x (.int .i64 n))] []=vgo W ⟨hNo,[.tmp 2],0⟩ ks (VFr.of [(0, .fz b (.sl nl 0 1 (ivs (vs a)))),(3, .x (.int .i64 (tN a n:Nat)))]) []
 |0,hn,ks=>by
  rw[sb5 c73L0.eq_def,tN]
  simp(disch:=first|omega|fail) only[push_cast,seval,vrl,if_pos,if_neg]
 |n+1,hn,ks=>by
  have ih:=yc2 hl n (by omega) ks
  have h1:=iva (l:=a) (i:=n) (by omega)
  have w1:IntKind.wrap .i64 (((n+1:Nat):Int)-1)=(n:Int):=by rw[wrap64 (by omega) (by omega)];omega
  rw[e96,g71]at w1
  rw[sb5 c73L0.eq_def,tN]
  by_cases h0:wf a n=0
  ·rw[if_pos h0,←ih]
   have h2:(wf a n).v=0:=r57.2 h0
   simp(disch:=first|omega|fail) only[push_cast,seval,vrl,if_pos,if_neg,w1,h1,h2]
  ·rw[if_neg h0]
   have h2: ¬(wf a n).v=0:=fun e=>h0 (r57.1 e)
   simp(disch:=first|omega|fail) only[push_cast,seval,vrl,if_pos,if_neg,w1,h1,nb8 h2]
theorem di3(hl:a.length≤1000000):o24 W 73 [.fz b (.sl nl 0 1 (ivs (vs a)))] []=some (.own 0 [],[.sl (nlT (xa4 a)) 3 1 (ivs (vs (xa4 a)))],[]):=by
 have hle:=vv2 a a.length
 have e:=fun ks=>yc2 (b:=b) (nl:=nl) hl a.length (jj6 _) ks
 have htk:(vs a).take (tN a a.length)=vs (xa4 a):=ee1 _ _
 have hlt:=tb1 a
 have e1:=fun b nl=>h18 (b:=b) (nl:=nl) (zs:=vs (xa4 a)) (by rw[fi2];omega)
 simp only[ks7]at e1
 rw[o10 rfl T73 rfl]
 unfold F73 c73
 simp(disch:=first|omega|fail) only[push_cast,seval,vrl,if_pos,if_neg]
 rw[e]
 simp(disch:=first|omega|fail) only[push_cast,seval,vrl,if_pos,if_neg,htk,e1,Int.sub_zero]
end
end Go.Proofs.Ytppbpgmdmiajcaa
namespace Go.Alg
section
variable {K:Type} [FK K]
def addT(y:List K):Nat→Nat→List K→List K
 |0,_,z=>z
 |n+1,i,z=>addT y n (i+1) (z.set i (wf z i+wf y i))
theorem tl9(y:List K): ∀(n i:Nat) (z:List K),(addT y n i z).length=z.length
 |0,_,_=>rfl
 |n+1,i,z=>by rw[addT,tl9 y n,kb7]
theorem e73(y:List K): ∀(n i:Nat) (z:List K),i+n≤z.length→ ∀j,wf (addT y n i z) j=if i≤j∧j<i+n then wf z j+wf y j else wf z j
 |0,i,z,_,j=>by rw[addT,if_neg (by omega)]
 |n+1,i,z,h,j=>by
  rw[addT,e73 y n (i+1) _ (by rw[kb7];omega),wf_set (by omega)]
  by_cases h1:j=i
  ·subst h1
   rw[if_neg (by omega),if_pos rfl,if_pos (by omega)]
  ·rw[if_neg h1]
   by_cases h2:i+1≤j∧j<i+1+n
   ·rw[if_pos h2,if_pos (by omega)]
   ·rw[if_neg h2,if_neg (by omega)]
theorem ip0{x y:List K}(h:y.length≤x.length):xa4 (addT y y.length 0 x)=addK x y:=by
 refine lz5 (ua9 _) (y42 _ _) ?_
 rw[vb5,w62]
 funext j
 rw[e73 _ _ _ _ (by omega)]
 split
 ·rfl
 ·rw[ez8 (l:=y) (by omega),FK.add_zero]
theorem c89(a b:List K):addK a b=addK b a:=lz5 (y42 _ _) (y42 _ _) (by
 rw[w62,w62]
 funext j
 exact FK.add_comm _ _)
theorem zy5(a b:List K):addK (xa4 a) (xa4 b)=addK a b:=lz5 (y42 _ _) (y42 _ _) (by rw[w62,w62,vb5,vb5])
def divT(b:List K)(top:K):Nat→List K→List K→List K×List K
 |0,Q,R=>(Q,R)
 |k+1,Q,R=>divT b top k (Q.set k (wf R (k+b.length-1)*top)) (subR (wf R (k+b.length-1)*top) b k b.length 0 R)
theorem w81(b:List K)(top:K): ∀(k:Nat) (Q R:List K),(divT b top k Q R).1.length=Q.length∧(divT b top k Q R).2.length=R.length
 |0,_,_=>⟨rfl,rfl⟩
 |k+1,Q,R=>by
  have:=w81 b top k (Q.set k (wf R (k+b.length-1)*top)) (subR (wf R (k+b.length-1)*top) b k b.length 0 R)
  rw[kb7,xs2]at this
  rw[divT];exact this
theorem ch2{a b:List K}(hb:0<b.length)(hb0:wf b (b.length-1)≠0): ∀(k:Nat) (Q R:List K),DivI a b k Q R→k≤Q.length→k+b.length≤R.length+1→DivI a b 0 (divT b (FK.inv (wf b (b.length-1))) k Q R).1 (divT b (FK.inv (wf b (b.length-1))) k Q R).2
 |0,Q,R,h,_,_=>h
 |k+1,Q,R,h,hq,hr=>by
  rw[divT]
  exact ch2 hb hb0 k _ _ (h.step hb hb0 rfl (fun j=>wf_set (by omega) j) (fn3 _ b k R (by omega))) (by rw[kb7];omega) (by rw[xs2];omega)
open Classical in
noncomputable def quoP (a b:List K):List K:=if h: ∃p:List K×List K,IsDiv a b p.1 p.2 then(Classical.choose h).1 else []
open Classical in
noncomputable def remP (a b:List K):List K:=if h: ∃p:List K×List K,IsDiv a b p.1 p.2 then(Classical.choose h).2 else []
theorem h79{a b:List K}(hb:Trm b)(hb0:b≠[]):IsDiv a b (quoP a b) (remP a b):=by
 obtain⟨Q,R,h⟩:=uj1 (a:=a) hb hb0
 have hx: ∃p:List K×List K,IsDiv a b p.1 p.2:=⟨(Q,R),h⟩
 unfold quoP remP
 rw[dif_pos hx,dif_pos hx]
 exact jl7 hx
theorem div_eq{a b Q R:List K}(hb:Trm b)(h:IsDiv a b Q R):quoP a b=Q∧remP a b=R:=by
 have hb0:b≠[]:=fun e=>by have:=h.lt;rw[e]at this;simp at this
 exact(h79 hb hb0).uniq hb h
theorem kj5{a b:List K}(ha:Trm a)(hb:Trm b)(hb0:b≠[])(hl:b.length≤a.length):(divT b (FK.inv (wf b (b.length-1))) (a.length-b.length+1) (List.replicate (a.length-b.length+1) 0) a).1=quoP a b∧xa4 (divT b (FK.inv (wf b (b.length-1))) (a.length-b.length+1) (List.replicate (a.length-b.length+1) 0) a).2=remP a b:=by
 have h1:0<b.length:=py7.2 hb0
 have h:=(ch2 (a:=a) h1 (hb (by omega)) (a.length-b.length+1) (List.replicate (a.length-b.length+1) 0) a (DivI.start (by omega)) (by simp) (by omega)).done h1
 have hl1:=(w81 b (FK.inv (wf b (b.length-1))) (a.length-b.length+1) (List.replicate (a.length-b.length+1) 0) a).1
 rw[jv4]at hl1
 generalize divT b (FK.inv (wf b (b.length-1))) (a.length-b.length+1) (List.replicate (a.length-b.length+1) 0) a=D at h hl1⊢
 obtain⟨e1,e2⟩:=div_eq hb h
 have hq:=(h.len ha hb hl).1
 refine⟨?_,e2.symm⟩
 rw[e1]
 exact ou8 (by rw[hl1,hq]) (vb5 _).symm
theorem i84{a b:List K}(ha:Trm a)(hb:Trm b)(hl:a.length<b.length):quoP a b=[]∧remP a b=a:=div_eq hb ⟨wg5,ha,hl,fun k=>by rw[qt9,tt8,zero_add]⟩
end
end Go.Alg
namespace Go.Proofs.Ytppbpgmdmiajcaa
open Go.Am Go.Vm Go.Alg
section
variable {q:Int} {b b':Bool} {nl nl':Nat}
theorem ce8 [IsFld q]{a c:List (El q)}(ha:a.length≤128)(hc:c.length≤128):
 o24 W 71 [.x (.int .i64 q), .fz b (.sl nl 0 1 (ivs (vs a))), .fz b' (.sl nl' 0 1 (ivs (vs c)))] []=some (.tup [.fz true (pF q), .own 0 [], .own 1 [], .x (.int .i64 0)],[.sl (nlT (xa4 a)) 3 1 (ivs (vs (xa4 a))), .sl (nlT (xa4 c)) 3 1 (ivs (vs (xa4 c)))],[]):=by
 have e1:=fun b nl=>bw7 (q:=q) (b:=b) (nl:=nl) (l:=vs a) (by rw[fi2];omega)
 have e2:=fun b nl=>bw7 (q:=q) (b:=b) (nl:=nl) (l:=vs c) (by rw[fi2];omega)
 simp only[i31 ha]at e1
 simp only[i31 hc]at e2
 have e3:=fun b nl=>di3 (b:=b) (nl:=nl) (a:=a) (by omega)
 have e4:=fun b nl=>di3 (b:=b) (nl:=nl) (a:=c) (by omega)
 rw[o10 rfl T71 rfl]
 unfold F71 c71
 simp(disch:=first|omega|fail) only[push_cast,seval,vrl,if_pos,if_neg,e1,e2,e3,e4]
theorem ae4 [IsFld q]{y:List (El q)}(hy:y.length≤1000): ∀(n i:Nat) (z:List (El q)),i+n=y.length→y.length≤z.length→ ∀ks,
 vgoL W ⟨h55,[.tmp 6, .tmp 7],0⟩ [1,8,31,32,33] c55L0 (.blk 0 [1]::ks) [(1, .own 0 []),(8, .fz true (pF q)),(31, .own 1 []),(32, .x (.int .i64 y.length)),(33, .x (.int .i64 i))] [.sl nl 3 1 (ivs (vs z)), .sl nl' 3 1 (ivs (vs y))]=
  vgo W ⟨h55,[.tmp 6, .tmp 7],0⟩ ks (VFr.of [(1, .own 0 [])]) [.sl nl 3 1 (ivs (vs (addT y n i z))), .sl nl' 3 1 (ivs (vs y))]
 |0,i,z,hi,hz,ks=>by
  rw[addT,sb5 c55L0.eq_def]
  simp(disch:=first|omega|fail) only[push_cast,seval,vrl,if_pos,if_neg]
 |n+1,i,z,hi,hz,ks=>by
  have ih:=ae4 hy n (i+1) (z.set i (wf z i+wf y i)) (by omega) (by rw[kb7];exact hz) ks
  have h1:=iva (l:=y) (i:=i) (by omega)
  have h2:=iva (l:=z) (i:=i) (by omega)
  rw[e96,g71,←g52,on0]at ih
  rw[addT,←ih,sb5 c55L0.eq_def]
  simp(disch:=first|omega|fail) only[push_cast,seval,vrl,if_pos,if_neg,h1,h2]
theorem wa2 [IsFld q]{a c:List (El q)}(ha:a.length≤128)(hc:c.length≤128):
 o24 W 55 [.x (.int .i64 q), .fz b (.sl nl 0 1 (ivs (vs a))), .fz b' (.sl nl' 0 1 (ivs (vs c)))] []=some (.tup [.own 0 [], .x (.int .i64 0)],[.sl (nlT (addK a c)) 3 1 (ivs (vs (addK a c)))],[]):=by
 have e1:=fun b nl b' nl'=>ce8 (b:=b) (nl:=nl) (b':=b') (nl':=nl') ha hc
 have la:=tb1 a
 have lc:=tb1 c
 have hs:=zy5 a c
 by_cases hl:(xa4 a).length<(xa4 c).length
 ·have e2:=fun nl nl' ks=>ae4 (q:=q) (nl:=nl) (nl':=nl') (y:=xa4 a) (by omega) (xa4 a).length 0 (xa4 c) (by omega) (by omega) ks
  have ht:=ip0 (x:=xa4 c) (y:=xa4 a) (by omega)
  rw[c89,hs]at ht
  have e3:=fun b nl=>di3 (b:=b) (nl:=nl) (a:=addT (xa4 a) (xa4 a).length 0 (xa4 c)) (by rw[tl9];omega)
  simp only[ht]at e3
  generalize addT (xa4 a) (xa4 a).length 0 (xa4 c)=Z at*
  generalize xa4 a=A at*
  generalize xa4 c=C at*
  simp only[vx9,si3,sv4,rp2,lz6,x25,gw5,fo5]at e2
  rw[o10 rfl T55 rfl]
  unfold F55 c55
  simp(disch:=first|omega|fail) only[push_cast,seval,vrl,if_pos,if_neg,e1]
  rw[e2]
  simp(disch:=first|omega|fail) only[push_cast,seval,vrl,if_pos,if_neg,e3]
 ·have e2:=fun nl nl' ks=>ae4 (q:=q) (nl:=nl) (nl':=nl') (y:=xa4 c) (by omega) (xa4 c).length 0 (xa4 a) (by omega) (by omega) ks
  have ht:=ip0 (x:=xa4 a) (y:=xa4 c) (by omega)
  rw[hs]at ht
  have e3:=fun b nl=>di3 (b:=b) (nl:=nl) (a:=addT (xa4 c) (xa4 c).length 0 (xa4 a)) (by rw[tl9];omega)
  simp only[ht]at e3
  generalize addT (xa4 c) (xa4 c).length 0 (xa4 a)=Z at*
  generalize xa4 a=A at*
  generalize xa4 c=C at*
  simp only[vx9,si3,sv4,rp2,lz6,x25,gw5,fo5]at e2
  rw[o10 rfl T55 rfl]
  unfold F55 c55
  simp(disch:=first|omega|fail) only[push_cast,seval,vrl,if_pos,if_neg,e1]
  rw[e2]
  simp(disch:=first|omega|fail) only[push_cast,seval,vrl,if_pos,if_neg,e3]
end
section
variable {q:Int} {b b':Bool} {nl nl':Nat}
theorem xl6 [IsFld q]{c:List (El q)}{k:Nat}{v:El q}{top:Int}(hc:c.length≤1000)(hk:k≤1000){T:Tree}{nr:Nat}: ∀(n i:Nat) (R:List (El q)),i+n=c.length→k+c.length≤R.length→ ∀ks,
 vgoL W ⟨h72,[.tmp 6, .tmp 7],0⟩ [0,2,6,7,8,9,10,57,58,59] c72L0 (.blk 2 [0,2,6,7,8,9]::ks) [(0, .fz true (pF q)),(2, .fz b' (.sl nl' 0 1 (ivs (vs c)))),(6, .own 0 []),(7, .own 1 []),(8, .x (.int .i64 top)),(9, .x (.int .i64 k)),(10, .x (.int .i64 v.v)),(57, .fz b' (.sl nl' 0 1 (ivs (vs c)))),(58, .x (.int .i64 c.length)),(59, .x (.int .i64 i))] [T, .sl nr 3 1 (ivs (vs R))]=
  vgo W ⟨h72,[.tmp 6, .tmp 7],0⟩ ks (VFr.of [(0, .fz true (pF q)),(2, .fz b' (.sl nl' 0 1 (ivs (vs c)))),(6, .own 0 []),(7, .own 1 []),(8, .x (.int .i64 top)),(9, .x (.int .i64 k))]) [T, .sl nr 3 1 (ivs (vs (subR v c k n i R)))]
 |0,i,R,hi,hR,ks=>by
  rw[subR,sb5 c72L0.eq_def]
  simp(disch:=first|omega|fail) only[push_cast,seval,vrl,if_pos,if_neg]
 |n+1,i,R,hi,hR,ks=>by
  have ih:=xl6 (v:=v) (top:=top) hc hk (T:=T) (nr:=nr) n (i+1) (R.set (k+i) (wf R (k+i)-v*wf c i)) (by omega) (by rw[kb7];exact hR) ks
  have h1:=iva (l:=c) (i:=i) (by omega)
  have h2:=iva (l:=R) (i:=k+i) (by omega)
  have w1:IntKind.wrap .i64 ((k:Int)+(i:Int))=((k+i:Nat):Int):=by rw[wrap64 (by omega) (by omega)];omega
  rw[e96,g71,←g52,bq9,ym6]at ih
  rw[subR,←ih,sb5 c72L0.eq_def]
  generalize hG:k+i=ki at*
  simp(disch:=first|omega|fail) only[push_cast,seval,vrl,if_pos,if_neg,h1,w1,h2]
theorem xy4 [IsFld q]{c:List (El q)}{top:El q}(hc:c.length≤900)(hc0:0<c.length){nq nr:Nat}: ∀(k:Nat) (Q R:List (El q)),k≤1000→k≤Q.length→(0<k→k+c.length≤R.length+1)→ ∀ks,
 vgoL W ⟨h72,[.tmp 6, .tmp 7],0⟩ [0,2,6,7,8,9] c72L1 (.blk 0 [6,7]::ks) [(0, .fz true (pF q)),(2, .fz b' (.sl nl' 0 1 (ivs (vs c)))),(6, .own 0 []),(7, .own 1 []),(8, .x (.int .i64 top.v)),(9, .x (.int .i64 ((k:Int)-1)))] [.sl nq 3 1 (ivs (vs Q)), .sl nr 3 1 (ivs (vs R))]=
  vgo W ⟨h72,[.tmp 6, .tmp 7],0⟩ ks (VFr.of [(6, .own 0 []),(7, .own 1 [])]) [.sl nq 3 1 (ivs (vs (divT c top k Q R).1)), .sl nr 3 1 (ivs (vs (divT c top k Q R).2))]
 |0,Q,R,h1,h2,h3,ks=>by
  rw[divT,sb5 c72L1.eq_def]
  simp(disch:=first|omega|fail) only[push_cast,seval,vrl,if_pos,if_neg]
 |k+1,Q,R,h1,h2,h3,ks=>by
  have h3:=h3 (by omega)
  have ih:=xy4 (top:=top) hc hc0 (nq:=nq) (nr:=nr) k (Q.set k (wf R (k+c.length-1)*top)) (subR (wf R (k+c.length-1)*top) c k c.length 0 R) (by omega) (by rw[kb7];omega) (fun _=>by rw[xs2];omega) ks
  have e:=fun T ks=>xl6 (b':=b') (nl':=nl') (c:=c) (k:=k) (v:=wf R (k+c.length-1)*top) (top:=top.v) (by omega) (by omega) (T:=T) (nr:=nr) c.length 0 R (by omega) (by omega) ks
  simp only[vx9,si3,sv4,rp2,lz6,x25,gw5,fo5]at e
  have l1:=iva (l:=R) (i:=k+c.length-1) (by omega)
  have w1:IntKind.wrap .i64 ((k:Int)+(c.length:Int)-1)=((k+c.length-1:Nat):Int):=by rw[wrap64 (by omega) (by omega)];omega
  have e9:((k+1:Nat):Int)-1=(k:Int):=by omega
  have hm:=ym6 (wf R (k+c.length-1)) top
  rw[←g52,hm]at ih
  rw[hm]at e
  rw[divT,←ih,e9,sb5 c72L1.eq_def]
  generalize hG:k+c.length-1=kc at*
  simp(disch:=first|omega|fail) only[push_cast,seval,vrl,if_pos,if_neg,l1,w1]
  rw[e]
  simp(disch:=first|omega|fail) only[push_cast,seval,vrl,if_pos,if_neg]
theorem ag0 [IsFld q]{a c:List (El q)}(ha:Trm a)(hc:Trm c)(hc0:c≠[])(hal:a.length≤500)(hcl:c.length≤500):
 ∃n,o24 W 72 [.fz true (pF q), .fz b (.sl nl 0 1 (ivs (vs a))), .fz b' (.sl nl' 0 1 (ivs (vs c)))] []=some (.tup [.own 0 [], .own 1 []],[.sl n 3 1 (ivs (vs (quoP a c))), .sl (nlT (remP a c)) 3 1 (ivs (vs (remP a c)))],[]):=by
 have h0:0<c.length:=py7.2 hc0
 have hlast:wf c (c.length-1)≠0:=hc (by omega)
 have e1:=fun b nl=>h18 (b:=b) (nl:=nl) (zs:=vs a) (by rw[fi2];omega)
 simp only[ks7]at e1
 have l1:=iva (l:=c) (i:=c.length-1) (by omega)
 have w1:IntKind.wrap .i64 ((c.length:Int)-1)=((c.length-1:Nat):Int):=by rw[wrap64 (by omega) (by omega)];omega
 have hinv:=rl7 hlast
 by_cases hl:c.length≤a.length
 ·refine⟨0, ?_⟩
  obtain⟨d1,d2⟩:=kj5 ha hc hc0 hl
  have dl:=w81 c (FK.inv (wf c (c.length-1))) (a.length-c.length+1) (List.replicate (a.length-c.length+1) 0) a
  have e2:=fun nq nr ks=>xy4 (b':=b') (nl':=nl') (c:=c) (top:=FK.inv (wf c (c.length-1))) (by omega) h0 (nq:=nq) (nr:=nr) (a.length-c.length+1) (List.replicate (a.length-c.length+1) 0) a (by omega) (by simp) (fun _=>by omega) ks
  have e3:=fun b nl=>di3 (b:=b) (nl:=nl) (a:=(divT c (FK.inv (wf c (c.length-1))) (a.length-c.length+1) (List.replicate (a.length-c.length+1) 0) a).2) (by rw[dl.2];omega)
  simp only[d2]at e3
  rw[←d1]
  generalize divT c (FK.inv (wf c (c.length-1))) (a.length-c.length+1) (List.replicate (a.length-c.length+1) 0) a=D at*
  have hz:List.replicate (a.length-c.length+1) (0:Int)=vs (List.replicate (a.length-c.length+1) (0:El q)):=by rw[←qj2];rfl
  have w3:IntKind.wrap .i64 ((a.length:Int)-(c.length:Int)+1)=((a.length-c.length+1:Nat):Int):=by rw[wrap64 (by omega) (by omega)];omega
  have hkl:a.length-c.length+1≤600:=by omega
  rw[hinv]at e2
  generalize a.length-c.length+1=k at*
  generalize hG:c.length-1=c1 at*
  rw[o10 rfl T72 rfl]
  unfold F72 c72
  simp(disch:=first|omega|fail) only[push_cast,seval,vrl,if_pos,if_neg,e1,w1,l1,w3,hz]
  rw[e2]
  simp(disch:=first|omega|fail) only[push_cast,seval,vrl,if_pos,if_neg,e3]
 ·refine⟨1, ?_⟩
  obtain⟨d1,d2⟩:=i84 ha hc (show a.length<c.length by omega)
  rw[d1,d2]
  have e2:=fun nq nr ks=>xy4 (b':=b') (nl':=nl') (c:=c) (top:=FK.inv (wf c (c.length-1))) (by omega) h0 (nq:=nq) (nr:=nr) 0 [] a (by omega) (by simp) (fun h=>absurd h (by omega)) ks
  have e3:=fun b nl=>di3 (b:=b) (nl:=nl) (a:=a) (by omega)
  simp only[ou7 ha]at e3
  simp only[divT,vx9,Int.zero_sub,rp2,lz6]at e2
  have hl':(a.length:Int)<(c.length:Int):=by omega
  rw[hinv]at e2
  generalize hG:c.length-1=c1 at*
  rw[o10 rfl T72 rfl]
  unfold F72 c72
  simp(disch:=first|omega|fail) only[push_cast,seval,vrl,if_pos,if_neg,e1,w1,l1]
  rw[e2]
  simp(disch:=first|omega|fail) only[push_cast,seval,vrl,if_pos,if_neg,e3]
  rfl
theorem pl2 [IsFld q]{a c:List (El q)}(ha:a.length≤128)(hc:c.length≤128)(h:xa4 c≠[]):
 ∃n,o24 W 54 [.x (.int .i64 q), .fz b (.sl nl 0 1 (ivs (vs a))), .fz b' (.sl nl' 0 1 (ivs (vs c)))] []=some (.tup [.own 0 [], .own 1 [], .x (.int .i64 0)],[.sl n 3 1 (ivs (vs (quoP (xa4 a) (xa4 c)))), .sl (nlT (remP (xa4 a) (xa4 c))) 3 1 (ivs (vs (remP (xa4 a) (xa4 c))))],[]):=by
 have e1:=fun b nl b' nl'=>ce8 (b:=b) (nl:=nl) (b':=b') (nl':=nl') ha hc
 have la:=tb1 a
 have lc:=tb1 c
 have h0:0<(xa4 c).length:=py7.2 h
 obtain⟨n,e2⟩:=ag0 (b:=false) (nl:=nlT (xa4 a)) (b':=false) (nl':=nlT (xa4 c)) (ua9 a) (ua9 c) h (by omega) (by omega)
 refine⟨n, ?_⟩
 generalize xa4 a=A at*
 generalize xa4 c=C at*
 have h0': ¬(C.length:Int)=0:=by omega
 rw[o10 rfl T54 rfl]
 unfold F54 c54
 simp(disch:=first|omega|fail) only[push_cast,seval,vrl,if_pos,if_neg,e1,nb8 h0',e2]
end
theorem px5: ∀(ys P Q:List Int),ys.length≤Q.length→setL (ivs (P++Q)) P.length (ivs ys)=ivs (P++ys++Q.drop ys.length)
 | [],P,Q,h=>by
   show ivs (P++Q)=_
   rw[nw0];rfl
 |y::ys,P,[],h=>by cases h
 |y::ys,P,x::Q,h=>by
  show setL ((ivs (P++x::Q)).set P.length (.v (.int .i64 y))) (P.length+1) (ivs ys)=_
  have e1:(ivs (P++x::Q)).set P.length (.v (.int .i64 y))=ivs ((P++[y])++Q):=by
   have:(P++x::Q).set P.length y=(P++[y])++Q:=by
    rw[v62 _ _ (jj6 _),ob6,kv0,eh9];rfl
   rw[←this]
   unfold ivs
   rw[fx9]
   rfl
  have e2:P.length+1=(P++[y]).length:=by simp
  rw[e1,e2,px5 ys (P++[y]) Q (by simpa using h),eh9 P]
  rfl
theorem jq8(ys zs:List Int)(i:Nat)(h:i+ys.length≤zs.length):setL (ivs zs) i (ivs ys)=ivs (zs.take i++ys++zs.drop (i+ys.length)):=by
 have hlt:(zs.take i).length=i:=by rw[vb8];omega
 have:=px5 ys (zs.take i) (zs.drop i) (by rw[h50];omega)
 rwa [qr5,hlt,pb3]at this
theorem pl3: ∀zs:List Int,(ivs zs).all isV=true
 | []=>rfl
 |z::zs=>pl3 zs
section
variable {q:Int} [IsFld q]
def shR(n:Nat)(g:List (El q))(k:Nat):List (El q):=(List.replicate n 0).take k++g++(List.replicate n 0).drop (k+g.length)
def cycM(n:Nat)(g:List (El q)):List (List (El q)):=(List.range (n+1-g.length)).map (shR n g)
theorem l93{n k:Nat}{g:List (El q)}(h:k+g.length≤n):(shR n g k).length=n:=by
 unfold shR
 simp only[j82,vb8,h50,jv4]
 omega
theorem td5{n:Nat}{g:List (El q)}(h:g.length≤n): ∀r∈cycM n g,r.length=n:=fun r hr=>by
 obtain⟨k,hk,rfl⟩:=vf1.1 hr
 have:=l16.1 hk
 exact l93 (by omega)
theorem u52{n:Nat}{g:List (El q)}{k:Nat}(h:k<n+1-g.length):(cycM n g)[k]? =some (shR n g k):=by
 unfold cycM;rw[us5,iq9 h];rfl
theorem nc3(n:Nat)(g:List (El q)):(cycM n g).length=n+1-g.length:=by unfold cycM;simp
theorem ht2(n:Nat)(g:List (El q))(k:Nat):vs (shR n g k)=(List.replicate n (0:Int)).take k++vs g++(List.replicate n (0:Int)).drop (k+(vs g).length):=by
 have hz:List.replicate n (0:Int)=vs (List.replicate n (0:El q)):=by rw[←qj2];rfl
 unfold shR
 rw[gq8,gq8,hz,fi2]
 unfold vs
 rw[iw6,gd3]
end
section
variable {q:Int} [IsFld q] {n:Nat} {g:List (El q)} {nl:Nat} {b:Bool}
theorem iz0(hg:g.length≤n)(hn:n≤64){T1:Tree}{ng:Nat}: ∀(d k:Nat),k+d=n+1-g.length→ ∀ks,
 vgoL W ⟨hNo,[(.cell 6 true 3), .tmp 7],0⟩ [1,2,6,15,16] c37L0 (.blk 0 [6,15]::ks) [(1, .x (.int .i64 n)),(2, .own 0 []),(6, .own 1 []),(15, .own 2 []),(16, .x (.int .i64 k))] [.sl ng 3 1 (ivs (vs g)),T1, .pt 25 [.v (.int .i64 q), .v (.int .i64 n), .sl 2 22 1 (lls 2 (((cycM n g).take k).map vs))]]=
  vgo W ⟨hNo,[(.cell 6 true 3), .tmp 7],0⟩ ks (VFr.of [(6, .own 1 []),(15, .own 2 [])]) [.sl ng 3 1 (ivs (vs g)),T1, .pt 25 [.v (.int .i64 q), .v (.int .i64 n), .sl 2 22 1 (lls 2 ((cycM n g).map vs))]]
 |0,k,hk,ks=>by
  have hv:=fi2 g
  rw[sp3 (by rw[nc3];omega),sb5 c37L0.eq_def]
  simp(disch:=first|omega|fail) only[push_cast,seval,vrl,if_pos,if_neg,hv]
 |d+1,k,hk,ks=>by
  have ih:=iz0 hg hn (T1:=T1) (ng:=ng) d (k+1) (by omega) ks
  have hv:=fi2 g
  have hlt:(List.take k (cycM n g)).length=k:=by rw[vb8,nc3];omega
  have hs:=jq8 (vs g) (List.replicate n 0) k (by rw[jv4,hv];omega)
  rw[←ht2]at hs
  have hc:cut 0 g.length 1 (ivs (vs g))=ivs (vs g):=by rw[jp2,v88,sv4,sp3 (by rw[gf1,hv];omega)]
  have ht:(ivs (vs g)).take (n-k)=ivs (vs g):=sp3 (by rw[gf1,hv];omega)
  have ha:=pl3 (vs g)
  rw[e96,g71,da3,u52 (by omega),Option.toList_some]at ih
  rw[←ih,sb5 c37L0.eq_def]
  simp(disch:=first|omega|fail) only[push_cast,seval,vrl,if_pos,if_neg,hv,hc,ha,ht,hs,show((n:Int)-(k:Int)).toNat=n-k by omega,df0,q11,hlt]
theorem v78(hg0:g≠[])(hg:g.length≤n)(hn:n≤64){T1:Tree}{ng:Nat}(ks):
 vgoL W ⟨hNo,[(.cell 6 true 3), .tmp 7],0⟩ [1,2,6,15,16] c37L0 (.blk 0 [6,15]::ks) [(1, .x (.int .i64 n)),(2, .own 0 []),(6, .own 1 []),(15, .own 2 []),(16, .x (.int .i64 0))] [.sl ng 3 1 (ivs (vs g)),T1, .pt 25 [.v (.int .i64 q), .v (.int .i64 n), .v (.slice none 0 0)]]=
  vgo W ⟨hNo,[(.cell 6 true 3), .tmp 7],0⟩ ks (VFr.of [(6, .own 1 []),(15, .own 2 [])]) [.sl ng 3 1 (ivs (vs g)),T1, .pt 25 [.v (.int .i64 q), .v (.int .i64 n), .sl 2 22 1 (lls 2 ((cycM n g).map vs))]]:=by
 have ih:=iz0 hg hn (T1:=T1) (ng:=ng) (n-g.length) 1 (by omega) ks
 have hv:=fi2 g
 have hs:=jq8 (vs g) (List.replicate n 0) 0 (by rw[jv4,hv];omega)
 rw[←ht2]at hs
 have hc:cut 0 g.length 1 (ivs (vs g))=ivs (vs g):=by rw[jp2,v88,sv4,sp3 (by rw[gf1,hv];omega)]
 have ht:(ivs (vs g)).take n=ivs (vs g):=sp3 (by rw[gf1,hv];omega)
 have ha:=pl3 (vs g)
 have hgl:lls 2 (((cycM n g).take 1).map vs)=[.sl 2 3 1 (ivs (vs (shR n g 0)))]:=by
  rw[show(1:Nat)=0+1 from rfl,da3,u52 (by omega)];rfl
 rw[hgl,g71]at ih
 rw[←ih,sb5 c37L0.eq_def]
 simp(disch:=first|omega|fail) only[push_cast,seval,vrl,if_pos,if_neg,hv,hc,ha,ht,hs,show((n:Int)-0).toNat=n by omega]
def oneL(n:Nat):List (El q):=((List.replicate (n+1) 0).set 0 (-1)).set n 1
theorem vc9(n:Nat):(oneL n:List (El q)).length=n+1:=by unfold oneL;simp
theorem qp8(n:Nat):((List.replicate (n+1) (0:Int)).set 0 (fneg q 1)).set n 1=vs (oneL n:List (El q)):=by
 have hz:List.replicate (n+1) (0:Int)=vs (List.replicate (n+1) (0:El q)):=by rw[←qj2];rfl
 unfold oneL
 rw[←g52,←g52,←hz,tg5]
 rfl
theorem r60(hg0:g≠[])(ht:xa4 g=g)(hg:g.length≤n)(h0:0<n)(hn:n≤64)(hrem:remP (xa4 (oneL n:List (El q))) g=[]):
 o24 W 37 [.x (.int .i64 q), .x (.int .i64 n), .fz b (.sl nl 0 1 (ivs (vs g)))] []=some (.tup [.agg [.x (.int .i64 q), .x (.int .i64 n), .own 0 []], .x (.int .i64 0)],[.sl 2 22 1 (lls 2 (pvR (redR (cycM n g))))],[]):=by
 have hv:=fi2 g
 have hg1:0<g.length:=py7.2 hg0
 have e1:=fun b nl=>bw7 (q:=q) (b:=b) (nl:=nl) (l:=vs g) (by rw[hv];omega)
 simp only[i31 (q:=q) (a:=g) (by omega)]at e1
 have ho:=vc9 (q:=q) n
 have e2: ∀b b' nl nl',∃m,o24 W 54 [.x (.int .i64 q), .fz b (.sl nl 0 1 (ivs (vs (oneL n:List (El q))))), .fz b' (.sl nl' 0 1 (ivs (vs g)))] []=some (.tup [.own 0 [], .own 1 [], .x (.int .i64 0)],[.sl m 3 1 (ivs (vs (quoP (xa4 (oneL n)) g))), .sl 2 3 1 []],[]):=fun b b' nl nl'=>by
  obtain⟨m,h⟩:=pl2 (q:=q) (b:=b) (b':=b') (nl:=nl) (nl':=nl') (a:=oneL n) (c:=g) (by omega) (by omega) (by rw[ht];exact hg0)
  rw[ht,hrem]at h
  exact⟨m,h⟩
 obtain⟨m,e2⟩:=e2 false b 0 nl
 have e3:=fun b nl b' nl'=>wa2 (q:=q) (b:=b) (nl:=nl) (b':=b') (nl':=nl') (a:=g) (c:=[]) (by omega) (ms7 _)
 have hadd:addK g []=g:=by
  refine(lz5 (y42 _ _) (by rw[←ht];exact ua9 _) ?_)
  rw[w62]
  funext i
  rw[ez8 (l:=([]:List (El q))) (ms7 _),FK.add_zero]
 have hgp:nlT g=0:=by cases g with
  |nil=>exact absurd rfl hg0
  |cons x g=>rfl
 simp only[hadd,hgp,rp2,lz6]at e3
 have hC:=tc0 (q:=q) (k:=n) (N:=cycM n g) h0 hn (by rw[nc3];omega) (td5 hg) (sy6 (by rw[nc3];omega) (td5 hg) h0 hn)
 have e4:=fun nl nr=>ob1 (nl:=nl) (nr:=nr) hC h0 hn (by rw[nc3];omega) (td5 hg)
 have e:=fun T1 ng ks=>v78 (q:=q) (g:=g) (n:=n) hg0 hg hn (T1:=T1) (ng:=ng) ks
 have hone:(Tree.v (.int .i64 (fneg q 1))::ivs (List.replicate n 0)).set n (.v (.int .i64 1))=ivs (vs (oneL n:List (El q))):=by
  rw[←qp8];unfold ivs;rw[fx9];rfl
 rw[o10 rfl T37 rfl]
 unfold F37 c37
 simp(disch:=first|omega|fail) only[push_cast,seval,vrl,if_pos,if_neg,e1,show((n:Int)+1).toNat=n+1 by omega,hone,e2,e3]
 rw[e]
 simp(disch:=first|omega|fail) only[push_cast,seval,vrl,if_pos,if_neg,e4]
end
set_option maxHeartbeats 1600000
section
variable {q:Int} [IsFld q] {n:Nat} {g:List (El q)} {nl:Nat} {b:Bool}
theorem bf6{M:List (List (El q))}(hM: ∀r∈M,r.length=n): ∀r∈M.map extL,r.length=n+1:=fun r hr=>by
 obtain⟨x,hx,rfl⟩:=vf1.1 hr
 rw[x19,hM x hx]
theorem ha7(hg0:g≠[])(ht:xa4 g=g)(hg:g.length≤n)(h0:0<n)(hn:n<64)(hrem:remP (xa4 (oneL n:List (El q))) g=[]):
 o24 W 18 [.x (.int .i64 q), .x (.int .i64 n), .fz b (.sl nl 0 1 (ivs (vs g)))] []=some (.agg [.x (.int .i64 q), .x (.int .i64 ((n:Int)+1)), .own 0 []],[.sl 2 22 1 (lls 2 (pvR (redR ((cycM n g).map extL))))],[]):=by
 have hM:=td5 (q:=q) hg
 obtain⟨r1,r2,_⟩:=bi2 hM
 have hle:=ew4 hM
 rw[nc3]at hle
 have hg1:0<g.length:=py7.2 hg0
 have hl:(p78 (redR (cycM n g))).length≤64:=by rw[gb0];omega
 have hC:=tc0 (q:=q) (k:=n) (N:=p78 (redR (cycM n g))) h0 (by omega) hl (zu4 r2) (sy6 hl (zu4 r2) h0 (by omega))
 have e1:=fun b nl=>r60 (q:=q) (g:=g) (n:=n) (b:=b) (nl:=nl) hg0 ht hg h0 (by omega) hrem
 have e2:=fun nl nr=>tw5 (nl:=nl) (nr:=nr) hC h0 hn hl (zu4 r2)
 rw[x62 hM,←lo1]at e2
 rw[o10 rfl T18 rfl]
 unfold F18 c18
 simp(disch:=first|omega|fail) only[push_cast,seval,vrl,if_pos,if_neg,e1,e2]
end
instance fld2:IsFld 2:=⟨_,_,_,_,rfl⟩
instance fld3:IsFld 3:=⟨_,_,_,_,rfl⟩
def two3:El 3:=⟨2,by decide,by decide⟩
def gB:List (El 2):=[1,0,1,0,1,1,1,0,0,0,1,1]
def hB:List (El 2):=[1,0,1,0,0,1,0,0,1,1,1,1,1]
def gT:List (El 3):=[two3,0,1,two3,1,1]
def hT:List (El 3):=[1,0,1,two3,two3,two3,1]
theorem ju3:vs gB=[1,0,1,0,1,1,1,0,0,0,1,1]:=rfl
theorem ry7:vs gT=[2,0,1,2,1,1]:=rfl
theorem cl8:xa4 gB=gB:=qa5 (by kernel_rfl)
theorem oz5:xa4 gT=gT:=qa5 (by kernel_rfl)
theorem uc5:mulK hB gB=oneL 23:=qa5 (by kernel_rfl)
theorem ia5:mulK hT gT=oneL 11:=qa5 (by kernel_rfl)
theorem jy6{q:Int} [IsFld q]{n:Nat}{g h:List (El q)}(hg:xa4 g=g)(hg0:g≠[])(hm:mulK h g=oneL n):remP (xa4 (oneL n:List (El q))) g=[]:=by
 have htr:Trm g:=by rw[←hg];exact ua9 _
 refine(div_eq htr (IsDiv.of_mul (Q:=h) htr hg0 ?_)).2
 rw[vb5,←hm,zu9]
theorem ub0:o24 W 4 [] []=some (.agg [.x (.int .i64 2), .x (.int .i64 24), .own 0 []],[.sl 2 22 1 (lls 2 (pvR (redR ((cycM 23 gB).map extL))))],[]):=by
 have e1:=fun b nl=>ha7 (q:=2) (g:=gB) (n:=23) (b:=b) (nl:=nl) (by decide) cl8 (by decide) (by decide) (by decide) (jy6 cl8 (by decide) uc5)
 rw[ju3]at e1
 simp only[show ivs [1,0,1,0,1,1,1,0,0,0,1,1]=[.v (.int .i64 1), .v (.int .i64 0), .v (.int .i64 1), .v (.int .i64 0), .v (.int .i64 1), .v (.int .i64 1), .v (.int .i64 1), .v (.int .i64 0), .v (.int .i64 0), .v (.int .i64 0), .v (.int .i64 1), .v (.int .i64 1)]from rfl,show((23:Nat):Int)=23 from rfl,show(23:Int)+1=24 from rfl]at e1
 rw[o10 rfl T4 rfl]
 unfold F4 c4
 simp(disch:=first|omega|fail) only[push_cast,seval,vrl,if_pos,if_neg,e1]
theorem c86:o24 W 5 [] []=some (.agg [.x (.int .i64 3), .x (.int .i64 12), .own 0 []],[.sl 2 22 1 (lls 2 (pvR (redR ((cycM 11 gT).map extL))))],[]):=by
 have e1:=fun b nl=>ha7 (q:=3) (g:=gT) (n:=11) (b:=b) (nl:=nl) (by decide) oz5 (by decide) (by decide) (by decide) (jy6 oz5 (by decide) ia5)
 rw[ry7]at e1
 simp only[show ivs [2,0,1,2,1,1]=[.v (.int .i64 2), .v (.int .i64 0), .v (.int .i64 1), .v (.int .i64 2), .v (.int .i64 1), .v (.int .i64 1)]from rfl,show((11:Nat):Int)=11 from rfl,show(11:Int)+1=12 from rfl]at e1
 rw[o10 rfl T5 rfl]
 unfold F5 c5
 simp(disch:=first|omega|fail) only[push_cast,seval,vrl,if_pos,if_neg,e1]
section
variable {q:Int} [IsFld q] {k nl nr:Nat} {b:Bool} {N:List (List (El q))} {a:Nat}
end
def pkI(a n:Int):Int:=(if a<0 then-(a+1)else a).tmod n
theorem h58{a n:Int}(hn:0<n):0≤pkI a n∧pkI a n<n:=by
 unfold pkI
 split
 ·exact⟨Int.tmod_nonneg _ (by omega),Int.tmod_lt_of_pos _ hn⟩
 ·exact⟨Int.tmod_nonneg _ (by omega),Int.tmod_lt_of_pos _ hn⟩
def rwI(l:List Int)(i:Int):Int:=if l.length=0 then i else IntKind.wrap .i64 (gi l (i.tmod l.length)+IntKind.wrap .i64 (IntKind.wrap .i64 (i.tdiv l.length)*7919))
theorem ti9(x:Int): -9223372036854775808≤IntKind.wrap .i64 x∧IntKind.wrap .i64 x≤9223372036854775807:=by rw[IntKind.wrap_i64];omega
theorem bd0{l:List Int}{i:Int}(h0:0≤i)(h1:i≤9223372036854775807): -9223372036854775808≤rwI l i∧rwI l i≤9223372036854775807:=by
 unfold rwI
 split
 ·omega
 ·exact ti9 _
theorem cl0{l:List Int}{i:Int}(h0:0≤i)(h1:i<l.length):(ivs l)[i.toNat]? =some (.v (.int .i64 (gi l i))):=by
 have e:(ivs l)[i.toNat]? =some (.v (.int .i64 (gi l ((i.toNat:Nat):Int)))):=ui5 (by omega)
 rwa [Int.toNat_of_nonneg h0]at e
theorem o99{x:Int}(h0:0≤x){n:Int}(h:x<n): ∃k:Nat,x=(k:Int)∧(k:Int)<n:=⟨x.toNat,by omega,by omega⟩
section
variable {b:Bool} {nl:Nat} {raw:List Int}
theorem s88{a n:Int}(h1: -9223372036854775808≤a)(h2:a≤9223372036854775807)(hn:0<n):o24 W 9 [.x (.int .i64 a), .x (.int .i64 n)] []=some (.x (.int .i64 (pkI a n)),[],[]):=by
 have hz: ¬n=0:=by omega
 rw[o10 rfl T9 rfl]
 unfold F9 c9 pkI
 by_cases h0:a<0
 ·rw[if_pos h0]
  simp(disch:=first|omega|fail) only[push_cast,seval,vrl,if_pos,if_neg,nb8 hz,hz]
  rw[show(0:Int)-(a+1)= -(a+1) by omega]
 ·rw[if_neg h0]
  simp(disch:=first|omega|fail) only[push_cast,seval,vrl,if_pos,if_neg,nb8 hz,hz]
theorem yc3{i:Int}(hi:0≤i)(hl:raw.length≤9223372036854775807):o24 W 14 [.fz b (.sl nl 0 1 (ivs raw)), .x (.int .i64 i)] []=some (.x (.int .i64 (rwI raw i)),[],[]):=by
 rw[o10 rfl T14 rfl]
 unfold F14 c14 rwI
 by_cases h0:raw.length=0
 ·rw[if_pos h0]
  have h0':(raw.length:Int)=0:=by omega
  simp(disch:=first|omega|fail) only[push_cast,seval,vrl,if_pos,if_neg,h0']
 ·rw[if_neg h0]
  have hz: ¬(raw.length:Int)=0:=by omega
  have b1:0≤i.tmod raw.length:=Int.tmod_nonneg _ hi
  have b2:i.tmod raw.length<raw.length:=Int.tmod_lt_of_pos _ (by omega)
  have e:=cl0 b1 b2
  simp(disch:=first|omega|fail) only[push_cast,seval,vrl,if_pos,if_neg,hz,nb8 hz,e]
def numV(raw:List Int)(frm q:Int)(k:Nat):Int:=pkI (rwI raw (frm+k)) q
def tv7(raw:List Int)(frm q:Int)(n:Nat):List Int:=(List.range n).map (numV raw frm q)
theorem jd5(raw:List Int)(frm q:Int)(n:Nat):(tv7 raw frm q n).length=n:=by simp[tv7]
theorem ce6(raw:List Int)(frm q:Int)(n:Nat):tv7 raw frm q (n+1)=tv7 raw frm q n++[numV raw frm q n]:=by unfold tv7;rw[List.range_succ,hm3];rfl
theorem dm5{raw:List Int}{frm q:Int}{n:Nat}(hq:0<q): ∀z∈tv7 raw frm q n,fok q z=true:=fun z hz=>by
 obtain⟨k,_,rfl⟩:=vf1.1 hz
 have:=h58 (a:=rwI raw (frm+k)) hq
 unfold numV fok
 rw[ce5 this.1,ce5 this.2];rfl
theorem m61{raw:List Int}{frm q:Int}{n:Nat}(hq:0<q): ∃l:List (El q),tv7 raw frm q n=vs l∧l.length=n:=by
 obtain⟨l,hl⟩:=n43 (dm5 (raw:=raw) (frm:=frm) (n:=n) hq)
 exact⟨l,hl,by rw[←fi2,←hl,jd5]⟩
theorem yq2(hrl:raw.length≤9223372036854775807){frm q:Int}(hf0:0≤frm)(hf1:frm≤1000000000)(hq0:0<q){N:Nat}(hN:N≤100000): ∀(d i:Nat),i+d=N→ ∀ks,
 vgoL W ⟨h12,[.tmp 8],0⟩ [0,1,2,3,9,10] c12L0 (.blk 0 [9]::ks) [(0, .fz b (.sl nl 0 1 (ivs raw))),(1, .x (.int .i64 frm)),(2, .x (.int .i64 q)),(3, .x (.int .i64 N)),(9, .own 0 []),(10, .x (.int .i64 i))] [.sl 1 3 1 (ivs (tv7 raw frm q i))]=
  vgo W ⟨h12,[.tmp 8],0⟩ ks (VFr.of [(9, .own 0 [])]) [.sl 1 3 1 (ivs (tv7 raw frm q N))]
 |0,i,hi,ks=>by
  obtain rfl:i=N:=by omega
  rw[sb5 c12L0.eq_def]
  simp(disch:=first|omega|fail) only[push_cast,seval,vrl,if_pos,if_neg]
 |d+1,i,hi,ks=>by
  have ih:=yq2 hrl hf0 hf1 hq0 hN d (i+1) (by omega) ks
  have e1:=fun b nl=>yc3 (b:=b) (nl:=nl) (raw:=raw) (i:=frm+i) (by omega) hrl
  have hri:=bd0 (l:=raw) (i:=frm+i) (by omega) (by omega)
  have e2:=s88 (n:=q) hri.1 hri.2 hq0
  have hl:=jd5 raw frm q i
  rw[e96,g71,ce6,numV]at ih
  rw[←ih,sb5 c12L0.eq_def]
  simp(disch:=first|omega|fail) only[push_cast,seval,vrl,if_pos,if_neg,e1,e2,hl]
theorem vv4(hrl:raw.length≤9223372036854775807){frm q:Int}(hf0:0≤frm)(hf1:frm≤1000000000)(hq0:0<q){N:Nat}(hN:N≤100000):o24 W 12 [.fz b (.sl nl 0 1 (ivs raw)), .x (.int .i64 frm), .x (.int .i64 q), .x (.int .i64 N)] []=some (.own 0 [],[.sl 1 3 1 (ivs (tv7 raw frm q N))],[]):=by
 have e:=fun ks=>yq2 (b:=b) (nl:=nl) hrl hf0 hf1 hq0 hN N 0 (by omega) ks
 rw[show tv7 raw frm q 0=[]from rfl]at e
 simp only[vx9,si3,sv4,rp2,lz6,x25,gw5,fo5]at e
 rw[o10 rfl T12 rfl]
 unfold F12 c12
 simp(disch:=first|omega|fail) only[push_cast,seval,vrl,if_pos,if_neg]
 rw[e]
 simp(disch:=first|omega|fail) only[push_cast,seval,vrl,if_pos,if_neg]
end
section
variable {k:FuncId} {p:Int→Bool} {l:List Int} {nl:Nat}
end
section
variable {q:Int} [IsFld q] {k nl nr nl2:Nat} {b:Bool} {N:List (List (El q))}
end
def fewQ(q:Int):Nat→Int→Bool
 |0,_=>true
 |d+1,n=>if 4096<n*q then false else fewQ q d (n*q)
section
variable {q n:Int} {nl nr nl2:Nat} {M:List (List Int)} {b:Bool} {w:List Int}
end
section
variable {q:Int} [IsFld q] {k nl nr nl2:Nat} {b:Bool} {N:List (List (El q))} {w:List Int}
end
end Go.Proofs.Ytppbpgmdmiajcaa
namespace Go.Alg
section
variable {K:Type} [FK K]
open Classical in
end
end Go.Alg
namespace Go.Alg
section
variable {K:Type} [FK K]
end
end Go.Alg
namespace Go.Proofs.Ytppbpgmdmiajcaa
open Go.Am Go.Vm Go.Alg
section
variable {raw:List Int} {b:Bool} {nl:Nat}
end
section
variable {a c:List Int} {b b':Bool} {nl nl':Nat}
end
section
variable {q:Int} {b:Bool} {nl:Nat} {xs:List Int} {k:Int}
end
section
variable {q:Int} [hq:IsFld q]
variable {b b':Bool} {nl nl':Nat} {X m:List (El q)}
end
section
variable {q:Int}
def oV:Option (El q)→Int
 |none=> -1
 |some x=>x.v
def ws(W:List (Option (El q))):List Int:=W.map oV
end
section
variable {q:Int} {b b':Bool} {nl nl':Nat}
end
section
variable {q p m g:Int} {t:Tree} {b b':Bool} {nl nl':Nat} {l:List Int}
variable {xs:List Int} {k:Int}
variable {w:List Int}
end
section
variable {q p m g:Int} [IsFld q] {t:Tree} {b b':Bool} {nl nl':Nat} {a:List (El q)} {x:El q}
end
section
variable {q p m g:Int} [IsFld q] {t:Tree} {b b':Bool} {nl nl' nr n7 n8:Nat} {M:List (List (El q))} {A:List (Nat×List (El q))} {N:Nat}
end
section
variable {q:Int} [IsFld q] {b b':Bool} {nl nl' nr:Nat} {M:List (List (El q))} {y:List (El q)} {n R:Nat}
section
variable {T5:Tree} {c at' n0:Nat}
end
end
section
variable {q:Int} {b b':Bool} {nl nl' nr e:Nat}
end
section
variable {α:Type} {n:Nat}
end
section
variable {q:Int} [IsFld q] {b b':Bool} {nl nl' nr:Nat} {M:List (List (El q))} {n:Nat}
end
section
variable {q:Int} {b b':Bool} {nl nl' nr e:Nat}
end
end Go.Proofs.Ytppbpgmdmiajcaa
namespace Go.Alg
section
variable {K:Type} [FK K]
end
end Go.Alg
namespace Go.Proofs.Ytppbpgmdmiajcaa
open Go.Am Go.Vm Go.Alg
section
variable {q:Int} [h:IsFld q]
end
section
variable {q:Int} [IsFld q] {b b':Bool} {nl nl':Nat} {P:List (El q×El q)} {k:Nat}
end
section
variable {q p m g:Int} [IsFld q] {t:Tree} {b b' b2:Bool} {nl nl' nl2:Nat} {a:List (El q)} {X:List (El q)} {U:List (Option (El q))}
end
section
variable {K:Type} [FK K]
end
section
variable {q p m g:Int} [IsFld q] {t:Tree} {b b':Bool} {nl nl':Nat} {c:List (El q)} {top:El q}
end
end Go.Proofs.Ytppbpgmdmiajcaa
namespace Go.Proofs.Ytppbpgmdmiajcaa
open Go.Am
@[push_cast] theorem py6{α:Type}{h:H}{r:Option α}:behind true h h r=r:=zy7 (je0 h)
section
variable {h:H} {sa:Option Addr} {c:Nat} {l:List Int}
end
section
variable {h0:H} {sr:Option Addr} {cr:Nat} {raw:List Int}
end
section
variable {h:H} {sa:Option Addr} {C:Nat} {cs:List (List Int)}
end
section
variable {h:H}
end
def qr3(q:Int):List Int→List Int×Bool
 | []=>([],false)
 |a::l=>match qr3 q l with
  |(l',true)=>(a::l',true)
  |(l',false)=>if a+1<q then((a+1)::l',true)else(0::l',false)
theorem pd1(q:Int): ∀l,(qr3 q l).1.length=l.length
 | []=>rfl
 |a::l=>by
  have ih:=pd1 q l
  rw[qr3]
  generalize qr3 q l=x at ih⊢
  obtain⟨l',b⟩:=x
  cases b
  ·simp only
   split<;>simpa using ih
  ·simpa using ih
theorem vq6{q:Int}{s s':List Int}(h:qr3 q s=(s',true)): ∀p:List Int,qr3 q (p++s)=(p++s',true)
 | []=>h
 |a::p=>by rw[rs6,qr3,vq6 h p];rfl
def valS(q:Nat):List Int→Nat
 | []=>0
 |a::l=>a.toNat*q^l.length+valS q l
def digS(q:Int)(l:List Int):Prop:= ∀a∈l,0≤a∧a<q
theorem uc1{q:Nat}: ∀{l:List Int},digS q l→valS q l<q^l.length
 | [],_=>by simp[valS]
 |a::l,h=>by
  have h1:=h a (by simp)
  have ih:=uc1 (l:=l) fun b hb=>h b (by simp[hb])
  rw[valS,q90,Nat.pow_succ,Nat.mul_comm (q^l.length)]
  have h2:(a.toNat+1)*q^l.length≤q*q^l.length:=wg6 _ (by omega)
  rw[ur9,Nat.one_mul]at h2
  omega
theorem jd2{q:Nat}(hq:0<q): ∀{l:List Int},digS q l→digS q (qr3 q l).1∧(if(qr3 q l).2=true then valS q (qr3 q l).1=valS q l+1 else valS q l+1=q^l.length∧ ∀a∈(qr3 q l).1,a=0)
 | [],_=>by simp[qr3,valS,digS]
 |a::l,h=>by
  have h1:=h a (by simp)
  obtain⟨k1,k2⟩:=jd2 hq (l:=l) fun b hb=>h b (by simp[hb])
  have hl:=pd1 q l
  rw[qr3]
  generalize hx:qr3 q l=x at k1 k2 hl⊢
  obtain⟨l',b⟩:=x
  simp only at k1 k2 hl
  cases b with
  |true=>
   simp only[oo9]at k2⊢
   refine⟨fun c hc=> ?_, ?_⟩
   ·rcases r04.1 hc with rfl|hc
    ·exact h1
    ·exact k1 c hc
   ·rw[valS,valS,hl,k2];omega
  |false=>
   simp only[o35,wj1]at k2⊢
   have hz: ∀{m:List Int},(∀a∈m,a=0)→valS q m=0:=by
    intro m
    induction m with
    |nil=>intro _;rfl
    |cons c m ih=>intro hm;rw[valS,ih fun a ha=>hm a (by simp[ha]),hm c (by simp)];simp
   by_cases hlt:a+1<q
   ·rw[if_pos hlt]
    simp only[oo9]
    refine⟨fun c hc=> ?_, ?_⟩
    ·rcases r04.1 hc with rfl|hc
     ·omega
     ·exact k1 c hc
    ·rw[valS,valS,hz k2.2,hl,zy9,q61,k2.1,show(a+1).toNat=a.toNat+1 by omega,ur9,Nat.one_mul]
   ·rw[if_neg hlt]
    simp only[o35,wj1]
    refine⟨fun c hc=> ?_, ?_,fun c hc=> ?_⟩
    ·rcases r04.1 hc with rfl|hc
     ·omega
     ·exact k1 c hc
    ·rw[valS,q90,q61,k2.1,show a.toNat=q-1 by omega,Nat.pow_succ,Nat.mul_comm (q^l.length),Nat.sub_mul,Nat.one_mul]
     have:q^l.length≤q*q^l.length:=Nat.le_mul_of_pos_left _ hq
     omega
    ·rcases r04.1 hc with rfl|hc
     ·rfl
     ·exact k2.2 c hc
section
variable {hF:H} {q:Int}
theorem ri5{p s:List Int}{a b:Int}{i:Nat}(hi:p.length=i):(p++a::s).set i b=p++b::s:=by
 subst hi;simp
end
end Go.Proofs.Ytppbpgmdmiajcaa
namespace Go.Proofs.Ytppbpgmdmiajcaa
open Go.Am Go.Vm Go.Alg
theorem qe6{p s:List Int}{a:Int}{i:Nat}(hi:p.length=i):(ivs (p++a::s))[i]? =some (.v (.int .i64 a)):=iat (by subst hi;simp)
section
variable {q:Int} {nl:Nat}
end
section
variable {q:Int}
variable {b b':Bool} {nl nl':Nat} {xs w:List Int} {k:Int}
end
theorem q_hi{q:Int} [hq:IsFld q]:q≤64:=by
 obtain⟨p,m,g,mod,hn⟩:=hq.ok
 exact(jj8 hn).1.q64
section
variable {q:Int} [IsFld q]
def elE(q:Int) [IsFld q](a:Int):El q:=if h:0≤a∧a<q then⟨a,h.1,h.2⟩else 0
theorem sx0{a:Int}(h:0≤a∧a<q):(elE q a).v=a:=by unfold elE;rw[dif_pos h]
theorem c87{l:List Int}(h:digS q l):vs (l.map (elE q))=l:=by
 unfold vs
 rw[uk6]
 conv=>rhs;rw[←List.map_id l]
 exact ny8 fun a ha=>sx0 (h a ha)
theorem oa6(z:List (El q)):digS q (vs z):=fun a ha=>by
 obtain⟨x,_,rfl⟩:=vf1.1 ha
 exact⟨x.lo,x.hi⟩
def yv5(z:List (El q)):List (El q):=(qr3 q (vs z)).1.map (elE q)
theorem z55: ∃p:Nat,q=(p:Int)∧2≤p∧p≤64:=⟨q.toNat,by have:=aw1 (q:=q);omega,by have:=aw1 (q:=q);omega,by have:=q_hi (q:=q);omega⟩
theorem mw7(z:List (El q)):vs (yv5 z)=(qr3 q (vs z)).1:=by
 obtain⟨p,hp,h2,_⟩:=z55 (q:=q)
 refine c87 ?_
 have:=(jd2 (q:=p) (by omega) (l:=vs z) (by rw[←hp];exact oa6 z)).1
 rwa [←hp]at this
theorem l71(z:List (El q)):(yv5 z).length=z.length:=by
 have:=congrArg List.length (mw7 z)
 rwa [fi2,pd1,fi2]at this
theorem nc8{p:Nat}: ∀(d:Nat) (n:Nat),fewQ (p:Int) d (n:Int)=true→n≤4096→n*p^d≤4096
 |0,n,_,hn=>by simpa using hn
 |d+1,n,h,hn=>by
  rw[fewQ]at h
  split at h
  ·cases h
  ·rename_i h1
   rw[←Int.natCast_mul]at h h1
   have:=nc8 d (n*p) h (by omega)
   rw[Nat.mul_assoc,←Nat.pow_succ']at this
   exact this
structure Left (q:Int) (p:Nat) (n:Nat) (z:List (El q)):Prop where
 e:q=(p:Int)
 h:valS p (vs z)+n+1=p^z.length
theorem Left.last{p:Nat}{z:List (El q)}(h:Left q p 0 z):(qr3 q (vs z)).2=false:=by
 have hq:=aw1 (q:=q)
 have h1:=jd2 (q:=p) (by have:=h.e;omega) (l:=vs z) (by rw[←h.e];exact oa6 z)
 rw[←h.e]at h1
 cases hb:(qr3 q (vs z)).2 with
 |false=>rfl
 |true=>
  have h2:=h1.2
  rw[hb,if_pos rfl]at h2
  have h3:=uc1 (q:=p) (l:=(qr3 q (vs z)).1) (by rw[←h.e];exact h1.1)
  rw[pd1,fi2]at h3
  have:=h.h
  omega
theorem Left.more{p n:Nat}{z:List (El q)}(h:Left q p (n+1) z):(qr3 q (vs z)).2=true∧Left q p n (yv5 z):=by
 have hq:=aw1 (q:=q)
 have h1:=jd2 (q:=p) (by have:=h.e;omega) (l:=vs z) (by rw[←h.e];exact oa6 z)
 rw[←h.e]at h1
 have h0:=h.h
 cases hb:(qr3 q (vs z)).2 with
 |false=>
  have h2:=h1.2
  rw[hb,if_neg (by decide),fi2]at h2
  omega
 |true=>
  have h2:=h1.2
  rw[hb,if_pos rfl]at h2
  exact⟨rfl,h.e,by rw[mw7,l71];omega⟩
theorem Left.start{p:Nat}(e:q=(p:Int))(K:Nat):Left q p (p^K-1) (List.replicate K (0:El q)):=by
 have hq:=aw1 (q:=q)
 refine⟨e, ?_⟩
 have h0: ∀k:Nat,valS p (vs (List.replicate k (0:El q)))=0:=by
  intro k
  induction k with
  |zero=>rfl
  |succ k ih=>rw[lg2,show vs ((0:El q)::List.replicate k 0)=0::vs (List.replicate k 0)from rfl,valS,ih];simp
 rw[h0,jv4]
 have:0<p^K:=Nat.pow_pos (by omega)
 omega
end
section
variable {q p m g:Int} [IsFld q] {t:Tree} {b b' b2:Bool} {nl nl' nl2:Nat} {X Y:List (El q)} {r:Int} {K:Nat}
end
section
variable {q n:Int} {nl nr:Nat} {M:List (List Int)}
end
section
variable {q:Int} [IsFld q] {k nl nr:Nat} {N:List (List (El q))}
theorem kh1(h1:0≤q)(h2:q≤64){M:List (List Int)}{K:Nat}(hK:K≤1000): ∀(d i:Nat) (n:Int),i+d=K→0≤n→n≤4096→ ∃n':Int,∀ks,
 vgoL W ⟨hNo,[(.cell 2 true 3), .tmp 3],0⟩ [1,2,5,17,18] c34L0 (.blk 0 [1,2]::ks) [(1, .own 0 []),(2, .own 1 []),(5, .x (.int .i64 n)),(17, .x (.int .i64 K)),(18, .x (.int .i64 i))] [.pt 25 [.v (.int .i64 q), .v (.int .i64 k), .sl 2 22 1 (lls 2 M)], .pt 25 [.v (.int .i64 0), .v (.int .i64 0), .sl 2 22 1 []]]=
  if fewQ q d n=true then vgo W ⟨hNo,[(.cell 2 true 3), .tmp 3],0⟩ ks (VFr.of [(1, .own 0 []),(2, .own 1 [])]) [.pt 25 [.v (.int .i64 q), .v (.int .i64 k), .sl 2 22 1 (lls 2 M)], .pt 25 [.v (.int .i64 0), .v (.int .i64 0), .sl 2 22 1 []]]
  else some (.tup [.agg [.x (.int .i64 0), .x (.int .i64 0), .x (.slice none 0 0)], .x (.int .i64 4)],[],[])
 |0,i,n,hi,h0,hn=>by
  refine⟨n,fun ks=> ?_⟩
  rw[fewQ,if_pos rfl,sb5 c34L0.eq_def]
  simp(disch:=first|omega|fail) only[push_cast,seval,vrl,if_pos,if_neg]
 |d+1,i,n,hi,hn,hn2=>by
  have hb0:0≤n*q:=qc0 hn h1
  have hb1:n*q≤4096*64:=ij6 hn2 h2 h1 (by decide)
  have hb2:n*q≤262144:=by omega
  rw[fewQ]
  by_cases h:4096<n*q
  ·rw[if_pos h]
   refine⟨n,fun ks=> ?_⟩
   rw[if_neg (by decide),sb5 c34L0.eq_def]
   simp(disch:=first|omega|fail) only[push_cast,seval,vrl,if_pos,if_neg,dec_lt h]
  ·obtain⟨n',ih⟩:=kh1 h1 h2 (M:=M) hK d (i+1) (n*q) (by omega) hb0 (by omega)
   refine⟨n',fun ks=> ?_⟩
   have ih:=ih ks
   rw[e96,g71]at ih
   rw[if_neg h,←ih,sb5 c34L0.eq_def]
   simp(disch:=first|omega|fail) only[push_cast,seval,vrl,if_pos,if_neg,cw6 (vk3.1 h)]
theorem lw9(he:gi9 q k (N.map vs)=0)(h0:0<k)(hk:k≤64)(hl:N.length≤64)(hr: ∀r∈N,r.length=k):
 o24 W 34 [.agg [.x (.int .i64 q), .x (.int .i64 k), .fz true (.sl nl 0 1 (lvs nr (N.map vs)))]] []=if fewQ q (redR N).length 1=true then some (.tup [.agg [.x (.int .i64 q), .x (.int .i64 k), .own 0 []], .x (.int .i64 0)],[.sl 2 22 1 (lls 2 (pvR (redR N)))],[])
  else some (.tup [.agg [.x (.int .i64 0), .x (.int .i64 0), .x (.slice none 0 0)], .x (.int .i64 4)],[],[]):=by
 have e1:=fun nl nr=>ob1 (nl:=nl) (nr:=nr) he h0 hk hl hr
 have hle:=ew4 hr
 have hq:=aw1 (q:=q)
 obtain⟨n',e⟩:=kh1 (q:=q) (k:=k) (M:=pvR (redR N)) (by omega) q_hi (K:=(redR N).length) (by omega) (redR N).length 0 1 (by omega) (by omega) (by omega)
 simp only[vx9,si3,sv4,rp2,lz6,x25,gw5,fo5]at e
 have h1:=nu3 (redR N)
 rw[o10 rfl T34 rfl]
 unfold F34 c34
 simp(disch:=first|omega|fail) only[push_cast,seval,vrl,if_pos,if_neg,e1,h1]
 rw[e]
 cases fewQ q (redR N).length 1 with
 |true=>
  rw[if_pos rfl,if_pos rfl]
  simp(disch:=first|omega|fail) only[push_cast,seval,vrl,if_pos,if_neg]
 |false=>rw[if_neg (by decide),if_neg (by decide)]
theorem q96{M:List (List Int)}:o24 W 36 [.agg [.x (.int .i64 q), .x (.int .i64 k), .fz true (.sl nl 0 1 (lvs nr M))]] []=some (.fn 52 [.own 0 []],[.pt 25 [.v (.int .i64 q), .v (.int .i64 k), .fz (.sl nl 0 1 (lvs nr M))]],[]):=by
 rw[o10 rfl T36 rfl]
 unfold F36 c36
 simp(disch:=first|omega|fail) only[push_cast,seval,vrl,if_pos,if_neg]
end
section
variable {q:Int} [IsFld q] {k nl nr nl2 nlo:Nat} {b:Bool} {R:List (List (El q))}
def wdL(k:Nat)(R:List (List (El q))):Nat→List (El q)→List (List (El q))
 |0,z=>[encL k z R]
 |n+1,z=>encL k z R::wdL k R n (yv5 z)
def inc1(o:List Int)(w:List (El q)):List Int:=o.set (wtW (vs w)) (o.getD (wtW (vs w)) 0+1)
theorem c75(o:List Int)(w:List (El q)):(inc1 o w).length=o.length:=by unfold inc1;rw[kb7]
structure CntOK (k m:Nat) (o:List Int):Prop where
 len:o.length=k+1
 lo: ∀x∈o,0≤x∧x≤(m:Int)
theorem CntOK.next{m:Nat}{o:List Int}(h:CntOK k m o){w:List (El q)}(hw:w.length=k):CntOK k (m+1) (inc1 o w):=by
 refine⟨by rw[c75,h.len],fun x hx=> ?_⟩
 unfold inc1 at hx
 have hwt:=p55 (vs w)
 rw[fi2]at hwt
 rcases List.mem_or_eq_of_mem_set hx with hx|hx
 ·have:=h.lo x hx;omega
 ·have hm:o.getD (wtW (vs w)) 0∈o:=by
   rw[os6,wu3 (by rw[h.len];omega),ns4]
   exact ws6 _
  have:=h.lo _ hm
  omega
theorem CntOK.at'{m:Nat}{o:List Int}(h:CntOK k m o){w:List (El q)}(hw:w.length=k):o[wtW (vs w)]? =some (o.getD (wtW (vs w)) 0)∧0≤o.getD (wtW (vs w)) 0∧o.getD (wtW (vs w)) 0≤(m:Int)∧wtW (vs w)<o.length:=by
 have hwt:=p55 (vs w)
 rw[fi2]at hwt
 have hlt:wtW (vs w)<o.length:=by rw[h.len];omega
 have e:o[wtW (vs w)]? =some (o.getD (wtW (vs w)) 0):=by rw[os6,wu3 hlt,ns4]
 exact⟨e,(h.lo _ (vf6 e)).1,(h.lo _ (vf6 e)).2,hlt⟩
def v66:Nat→List (El q)→List (El q)
 |0,z=>yv5 z
 |n+1,z=>v66 n (yv5 z)
theorem le0(hq:q≤1000000){T:Tree}: ∀(i:Nat) (p s s':List Int),p.length=i→(p++s).length≤1000000→(∀a∈p,0≤a∧a<q)→qr3 q s=(s',false)→ ∃j:Int,(0≤j↔(qr3 q (p++s)).2=true)∧ ∀ks,
 vgoL W ⟨hNo,[.tmp 2, .tmp 3],0⟩ [5,33,35,37,38,113] c27L0 (.blk 2 [5,33,35,37,38,113]::ks) [(5, .own 0 []),(33, .own 1 []),(35, .fz true (pF q)),(37, .own 2 []),(38, .x (.int .i64 ((i:Int)-1))),(113, .x (.bool false))] [T, .pt 25 [.v (.int .i64 q), .v (.int .i64 k), .fz (.sl nl 0 1 (lvs nr (R.map vs)))], .sl nl2 3 1 (ivs (p++s'))]=
  vgo W ⟨hNo,[.tmp 2, .tmp 3],0⟩ ks (VFr.of [(5, .own 0 []),(33, .own 1 []),(35, .fz true (pF q)),(37, .own 2 []),(38, .x (.int .i64 j)),(113, .x (.bool false))]) [T, .pt 25 [.v (.int .i64 q), .v (.int .i64 k), .fz (.sl nl 0 1 (lvs nr (R.map vs)))], .sl nl2 3 1 (ivs (qr3 q (p++s)).1)]
 |0,p,s,s',hi,hn,hd,hs=>by
  obtain rfl:p=[]:=js1 hi
  rw[m51,m51,hs]
  refine⟨-1,by simp,fun ks=> ?_⟩
  rw[sb5 c27L0.eq_def]
  simp(disch:=first|omega|fail) only[push_cast,seval,vrl,if_pos,if_neg]
 |i+1,p,s,s',hi,hn,hd,hs=>by
  obtain⟨p',a,rfl⟩: ∃p' a,p=p'++[a]:=⟨p.dropLast,p.getLast (by intro h;subst h;simp at hi),(List.dropLast_concat_getLast _).symm⟩
  have hp'l:p'.length=i:=by simpa using hi
  have ha:=hd a (by simp)
  rw[eh9,ii2]at hn⊢
  rw[eh9,ii2]
  have hsl:s'.length=s.length:=by have:=pd1 q s;rw[hs]at this;exact this
  have hlen:(p'++a::s').length≤1000000:=by simp[hsl]at hn⊢;omega
  have hi2:i<(p'++a::s').length:=by simp;omega
  have l1:=qe6 (s:=s') (a:=a) hp'l
  have l2:=qe6 (s:=s') (a:=a+1) hp'l
  have t1:=ri5 (s:=s') (a:=a) (b:=a+1) hp'l
  have t2:=ri5 (s:=s') (a:=a+1) (b:=0) hp'l
  have e2:(p'++(a+1)::s').length=(p'++a::s').length:=by simp
  have hw:((i+1:Nat):Int)-1=(i:Int):=by omega
  rw[hw]
  by_cases hlt:a+1<q
  ·have hnx:qr3 q (a::s)=((a+1)::s',true):=by rw[qr3,hs];simp only;rw[if_pos hlt]
   rw[vq6 hnx p']
   refine⟨i,⟨fun _=>rfl,fun _=>by omega⟩,fun ks=> ?_⟩
   rw[sb5 c27L0.eq_def]
   simp(disch:=first|omega|fail) only[push_cast,seval,vrl,if_pos,if_neg,l1,l2,t1,e2,dec_lt hlt]
  ·have hnx:qr3 q (a::s)=(0::s',false):=by rw[qr3,hs];simp only;rw[if_neg hlt]
   obtain⟨j,j1,j2⟩:=le0 hq (T:=T) i p' (a::s) (0::s') hp'l hn (fun c hc=>hd c (by simp[hc])) hnx
   refine⟨j,j1,fun ks=> ?_⟩
   rw[←j2 ks,sb5 c27L0.eq_def]
   simp(disch:=first|omega|fail) only[push_cast,seval,vrl,if_pos,if_neg,l1,l2,t1,t2,e2,cw6 (vk3.1 hlt)]
theorem ie9(hm:R.length≤64)(hR: ∀r∈R,r.length=k)(hk:k≤64){pp:Nat}: ∀(n m:Nat) (z:List (El q)) (o:List Int),Left q pp n z→z.length=R.length→CntOK k m o→m+n≤100000→ ∀ks kz,ks= .blk 1000 [113,5]::kz→
 vgoL W ⟨hNo,[.tmp 2, .tmp 3],0⟩ [5,33,35,37,113] c27L1 (.blk 0 [5,113]::ks) [(5, .own 0 []),(33, .own 1 []),(35, .fz true (pF q)),(37, .own 2 []),(113, .x (.bool false))] [.pt 22 [.sl nlo 3 1 (ivs o)], .pt 25 [.v (.int .i64 q), .v (.int .i64 k), .fz (.sl nl 0 1 (lvs nr (R.map vs)))], .sl 0 3 1 (ivs (vs z))]=
  vgo W ⟨hNo,[.tmp 2, .tmp 3],0⟩ kz (VFr.of [(113, .x (.bool false)),(5, .own 0 [])]) [.pt 22 [.sl nlo 3 1 (ivs ((wdL k R n z).foldl inc1 o))], .pt 25 [.v (.int .i64 q), .v (.int .i64 k), .fz (.sl nl 0 1 (lvs nr (R.map vs)))], .sl 0 3 1 (ivs (vs (v66 n z)))]:=by
 have hqh:=q_hi (q:=q)
 have turn: ∀(m:Nat) (z:List (El q)) (o:List Int),z.length=R.length→CntOK k m o→m≤100000→ ∃j:Int,(0≤j↔(qr3 q (vs z)).2=true)∧ ∀ks kz,ks= .blk 1000 [113,5]::kz→
  (0≤j→vgoL W ⟨hNo,[.tmp 2, .tmp 3],0⟩ [5,33,35,37,113] c27L1 (.blk 0 [5,113]::ks) [(5, .own 0 []),(33, .own 1 []),(35, .fz true (pF q)),(37, .own 2 []),(113, .x (.bool false))] [.pt 22 [.sl nlo 3 1 (ivs o)], .pt 25 [.v (.int .i64 q), .v (.int .i64 k), .fz (.sl nl 0 1 (lvs nr (R.map vs)))], .sl 0 3 1 (ivs (vs z))]=
    vgoL W ⟨hNo,[.tmp 2, .tmp 3],0⟩ [5,33,35,37,113] c27L1 (.blk 0 [5,113]::ks) [(5, .own 0 []),(33, .own 1 []),(35, .fz true (pF q)),(37, .own 2 []),(113, .x (.bool false))] [.pt 22 [.sl nlo 3 1 (ivs (inc1 o (encL k z R)))], .pt 25 [.v (.int .i64 q), .v (.int .i64 k), .fz (.sl nl 0 1 (lvs nr (R.map vs)))], .sl 0 3 1 (ivs (vs (yv5 z)))])∧
  (j<0→vgoL W ⟨hNo,[.tmp 2, .tmp 3],0⟩ [5,33,35,37,113] c27L1 (.blk 0 [5,113]::ks) [(5, .own 0 []),(33, .own 1 []),(35, .fz true (pF q)),(37, .own 2 []),(113, .x (.bool false))] [.pt 22 [.sl nlo 3 1 (ivs o)], .pt 25 [.v (.int .i64 q), .v (.int .i64 k), .fz (.sl nl 0 1 (lvs nr (R.map vs)))], .sl 0 3 1 (ivs (vs z))]=
    vgo W ⟨hNo,[.tmp 2, .tmp 3],0⟩ kz (VFr.of [(113, .x (.bool false)),(5, .own 0 [])]) [.pt 22 [.sl nlo 3 1 (ivs (inc1 o (encL k z R)))], .pt 25 [.v (.int .i64 q), .v (.int .i64 k), .fz (.sl nl 0 1 (lvs nr (R.map vs)))], .sl 0 3 1 (ivs (vs (yv5 z)))]):=by
  intro m z o hz ho hm'
  obtain⟨j,j1,j2⟩:=le0 (q:=q) (k:=k) (nl:=nl) (nr:=nr) (R:=R) (nl2:=0) (by omega) (T:= .pt 22 [.sl nlo 3 1 (ivs (inc1 o (encL k z R)))]) z.length (vs z) [] [] (by rw[fi2]) (by rw[nw0,fi2];omega) (fun a ha=>oa6 z a ha) rfl
  rw[nw0]at j1
  simp only[nw0]at j2
  rw[←mw7]at j2
  have e1:=fun b nl nr nl2=>gm8 (q:=q) (k:=k) (b:=b) (nl:=nl) (nr:=nr) (nl2:=nl2) (m:=z) (R:=R) hz (by omega) hR (by omega)
  have e2:=fun b nl=>fd2 (b:=b) (nl:=nl) (a:=vs (encL k z R)) (by rw[fi2,b87];omega)
  obtain⟨o1,o2,o3,o4⟩:=ho.at' (w:=encL k z R) (b87 z R)
  have h1:=iat o1
  have hzl:(vs z).length=z.length:=fi2 z
  refine⟨j,j1,fun ks kz hks=>⟨fun hj=> ?_,fun hj=> ?_⟩⟩
  ·rw[hks,sb5 c27L1.eq_def]
   simp(disch:=first|omega|fail) only[push_cast,seval,vrl,if_pos,if_neg,e1,e2,h1,hzl]
   rw[show o.set (wtW (vs (encL k z R))) (o.getD (wtW (vs (encL k z R))) 0+1)=inc1 o (encL k z R)from rfl,j2]
   simp(disch:=first|omega|fail) only[push_cast,seval,vrl,if_pos,if_neg,cw6 hj]
  ·rw[hks,sb5 c27L1.eq_def]
   simp(disch:=first|omega|fail) only[push_cast,seval,vrl,if_pos,if_neg,e1,e2,h1,hzl]
   rw[show o.set (wtW (vs (encL k z R))) (o.getD (wtW (vs (encL k z R))) 0+1)=inc1 o (encL k z R)from rfl,j2]
   simp(disch:=first|omega|fail) only[push_cast,seval,vrl,if_pos,if_neg,dec_lt hj]
 intro n
 induction n with
 |zero=>
  intro m z o hl hz ho hm' ks kz hks
  obtain⟨j,j1,j2⟩:=turn m z o hz ho (by omega)
  have hlast:=hl.last
  rw[hlast]at j1
  rw[((j2 ks kz hks).2 (by by_cases h:0≤j;exact absurd (j1.1 h) (by decide);omega)),wdL,h08,List.foldl_nil,v66]
 |succ n ih=>
  intro m z o hl hz ho hm' ks kz hks
  obtain⟨j,j1,j2⟩:=turn m z o hz ho (by omega)
  obtain⟨l1,l2⟩:=hl.more
  rw[(j2 ks kz hks).1 (j1.2 l1),wdL,h08,v66]
  exact ih (m+1) (yv5 z) (inc1 o (encL k z R)) l2 (by rw[l71,hz]) (ho.next (b87 z R)) (by omega) ks kz hks
def allW(k:Nat)(R:List (List (El q))):List (List (El q)):=wdL k R (q.toNat^R.length-1) (List.replicate R.length 0)
def wgt(k:Nat)(R:List (List (El q))):List Int:=(allW k R).foldl inc1 (List.replicate (k+1) 0)
theorem kp0:CntOK k 0 (List.replicate (k+1) 0):=⟨by simp,fun x hx=>by rw[(List.mem_replicate.1 hx).2];omega⟩
theorem i28(h:fewQ q R.length 1=true):q.toNat^R.length≤4096:=by
 have hq:=aw1 (q:=q)
 have:=nc8 (p:=q.toNat) R.length 1 (by rw[Int.toNat_of_nonneg (by omega)];exact h) (by omega)
 omega
theorem ir7{N:List (List (El q))}(he:gi9 q k (N.map vs)=0)(h0:0<k)(hk:k≤64)(hl:N.length≤64)(hr: ∀r∈N,r.length=k)(hf:fewQ q (redR N).length 1=true):
 o24 W 27 [.agg [.x (.int .i64 q), .x (.int .i64 k), .fz true (.sl nl 0 1 (lvs nr (N.map vs)))]] []=some (.tup [.own 0 [], .x (.int .i64 0)],[.sl 2 3 1 (ivs (wgt k (p78 (redR N))))],[]):=by
 have e1:=fun nl nr=>lw9 (nl:=nl) (nr:=nr) he h0 hk hl hr
 simp only[hf,oo9]at e1
 obtain⟨r1,r2,_⟩:=bi2 hr
 have hle:=ew4 hr
 have hq:=aw1 (q:=q)
 have hrl:(p78 (redR N)).length=(redR N).length:=gb0
 have hpw:=i28 (q:=q) (R:=p78 (redR N)) (by rw[hrl];exact hf)
 have e2:=fun nl nr=>q96 (q:=q) (k:=k) (nl:=nl) (nr:=nr) (M:=pvR (redR N))
 have e3:=fun nlo nl nr ks kz hks=>ie9 (q:=q) (k:=k) (nlo:=nlo) (nl:=nl) (nr:=nr) (R:=p78 (redR N)) (by omega) (zu4 r2) hk (pp:=q.toNat) (q.toNat^(p78 (redR N)).length-1) 0 (List.replicate (p78 (redR N)).length 0) (List.replicate (k+1) 0) (Left.start (by omega) _) (by simp) kp0 (by omega) ks kz hks
 rw[←lo1]at e3
 have h1:=nu3 (redR N)
 have hz:List.replicate (redR N).length (0:Int)=vs (List.replicate (p78 (redR N)).length (0:El q)):=by rw[hrl,←qj2];rfl
 obtain⟨K,hK⟩: ∃K,K=k+1:=⟨_,rfl⟩
 unfold wgt allW
 rw[←hK]at e3⊢
 rw[o10 rfl T27 rfl]
 unfold F27 c27
 have hk1:((k:Int)+1).toNat=K:=by omega
 simp(disch:=first|omega|fail) only[push_cast,seval,vrl,if_pos,if_neg,e1,e2,h1,hz,hk1]
 rw[e3 _ _ _ _ _ rfl]
 simp(disch:=first|omega|fail) only[push_cast,seval,vrl,if_pos,if_neg]
end
section
variable {q n:Int} {nl nr:Nat} {M:List (List Int)}
end
section
variable {q:Int} [IsFld q] {k nl nr nl2:Nat} {b:Bool} {R:List (List (El q))}
end
section
variable {b:Bool} {nl:Nat} {l:List Int}
end
section
variable {q:Int} [IsFld q] {k nl nr:Nat} {N:List (List (El q))}
theorem rc0(R:List (List (El q))):(wgt k R).length=k+1:=by
 unfold wgt
 have: ∀(l:List (List (El q))) (o:List Int),(l.foldl inc1 o).length=o.length:=by
  intro l
  induction l with
  |nil=>intro o;rfl
  |cons a l ih=>intro o;rw[h08,ih,c75]
 rw[this];simp
end
section
variable {q:Int} [IsFld q] {k:Nat}
theorem mg6(o:List Int)(w:List (El q)){d:Nat}(hd:d<o.length):(inc1 o w).getD d 0=o.getD d 0+if wtW (vs w)=d then 1 else 0:=by
 unfold inc1
 simp only[os6,gy2]
 by_cases h:wtW (vs w)=d
 ·rw[if_pos h,if_pos h,if_pos (by rw[h];exact hd),h,ns4,wu3 hd]
 ·rw[if_neg h,if_neg h,Int.add_zero]
theorem xm0(d:Nat): ∀(L:List (List (El q))) (o:List Int),d<o.length→(L.foldl inc1 o).getD d 0=o.getD d 0+((L.filter fun w=>decide (wtW (vs w)=d)).length:Int)
 | [],o,hd=>by simp
 |w::L,o,hd=>by
  rw[h08,xm0 d L (inc1 o w) (by rw[c75];exact hd),mg6 o w hd,List.filter_cons]
  by_cases h:wtW (vs w)=d
  ·rw[if_pos h,if_pos (by simpa using h),q90];omega
  ·rw[if_neg h,if_neg (by simpa using h)];omega
theorem hu3{R:List (List (El q))}{d:Nat}(hd:d≤k):(wgt k R).getD d 0=(((allW k R).filter fun w=>decide (wtW (vs w)=d)).length:Int):=by
 unfold wgt
 rw[xm0 d _ _ (by simp;omega)]
 have:(List.replicate (k+1) (0:Int)).getD d 0=0:=by rw[os6,List.getElem?_replicate];split<;>rfl
 rw[this,Int.zero_add]
end
theorem id6{p:Nat}: ∀{l l':List Int},digS p l→digS p l'→l.length=l'.length→valS p l=valS p l'→l=l'
 | [],[],_,_,_,_=>rfl
 |a::l,b::l',h,h',hl,hv=>by
  have hl':l.length=l'.length:=by simpa using hl
  have h1:=uc1 (l:=l) fun c hc=>h c (by simp[hc])
  have h2:=uc1 (l:=l') fun c hc=>h' c (by simp[hc])
  have h3:=h a (by simp)
  have h4:=h' b (by simp)
  rw[valS,valS,←hl']at hv
  rw[←hl']at h2
  generalize p^l.length=M at*
  have e:a.toNat=b.toNat:=by
   rcases Nat.lt_trichotomy a.toNat b.toNat with h5|h5|h5
   ·have h6:(a.toNat+1)*M≤b.toNat*M:=wg6 _ h5
    rw[ur9]at h6;omega
   ·exact h5
   ·have h6:(b.toNat+1)*M≤a.toNat*M:=wg6 _ h5
    rw[ur9]at h6;omega
  rw[e]at hv
  rw[id6 (fun c hc=>h c (by simp[hc])) (fun c hc=>h' c (by simp[hc])) hl' (by omega),show a=b by omega]
section
variable {q:Int} [IsFld q] {p k:Nat} {R:List (List (El q))}
theorem gu8{n:Nat}{z:List (El q)}(h:Left q p (n+1) z):valS p (vs (yv5 z))=valS p (vs z)+1:=by
 have h2:=h.more.2.h
 have h1:=h.h
 rw[l71]at h2
 omega
theorem p70: ∀(n:Nat) (z z0:List (El q)),Left q p n z→z0.length=z.length→valS p (vs z)≤valS p (vs z0)→encL k z0 R∈wdL k R n z
 |n,z,z0,hl,hlen,hv=>by
  by_cases he:valS p (vs z)=valS p (vs z0)
  ·have hz:z0=z:=qa5 (id6 (p:=p) (by rw[←hl.e];exact oa6 z0) (by rw[←hl.e];exact oa6 z) (by rw[fi2,fi2,hlen]) he.symm)
   rw[hz]
   cases n with
   |zero=>rw[wdL];exact q05.2 rfl
   |succ n=>rw[wdL];exact rn8
  ·cases n with
   |zero=>
    have h1:=hl.h
    have h2:=uc1 (q:=p) (l:=vs z0) (by rw[←hl.e];exact oa6 z0)
    rw[fi2,hlen]at h2
    omega
   |succ n=>
    rw[wdL]
    have h3:=gu8 hl
    exact iz7 _ (p70 n (yv5 z) z0 hl.more.2 (by rw[l71,hlen]) (by omega))
theorem oi3(z:List (El q))(hz:z.length=R.length):encL k z R∈allW k R:=by
 have hq:=aw1 (q:=q)
 have hl:=Left.start (q:=q) (p:=q.toNat) (by omega) R.length
 refine p70 _ _ z hl (by simp[hz]) ?_
 have h1:=hl.h
 rw[jv4]at h1
 have h2:0<q.toNat^R.length:=Nat.pow_pos (by omega)
 omega
theorem sx3: ∀(n:Nat) (z:List (El q)),∀w∈wdL k R n z,∃y:List (El q),y.length=z.length∧w=encL k y R
 |0,z,w,h=>by rw[wdL,q05]at h;exact⟨z,rfl,h⟩
 |n+1,z,w,h=>by
  rw[wdL]at h
  rcases r04.1 h with h|h
  ·exact⟨z,rfl,h⟩
  ·obtain⟨y,h1,h2⟩:=sx3 n _ w h
   exact⟨y,by rw[h1,l71],h2⟩
theorem wf9(w:List (El q)):w∈allW k R↔ ∃z:List (El q),z.length=R.length∧w=encL k z R:=by
 constructor
 ·intro h
  obtain⟨y,h1,h2⟩:=sx3 _ _ w h
  exact⟨y,by rw[h1];simp,h2⟩
 ·rintro⟨z,hz,rfl⟩
  exact oi3 z hz
end
def addM(q:Nat):List Nat→List Nat→List Nat
 |x::a,y::b=>((x+y)%q)::addM q a b
 |_,_=>[]
def mulM(q c:Nat)(a:List Nat):List Nat:=a.map fun x=>c*x%q
def wtM:List Nat→Nat
 | []=>0
 |x::a=>bif Nat.beq x 0 then wtM a else wtM a+1
def chkW(q d:Nat):List (List Nat)→List Nat→Bool
 | [],w=>Nat.beq (wtM w) 0||Nat.ble d (wtM w)
 |r::R,w=>(List.range q).all fun c=>chkW q d R (addM q w (mulM q c r))
def ex5:List (List Nat):=[[1,0,0,0,0,0,0,0,0,0,0,0,1,0,1,0,1,1,1,0,0,0,1,1],[0,1,0,0,0,0,0,0,0,0,0,0,1,1,1,1,1,0,0,1,0,0,1,0],[0,0,1,0,0,0,0,0,0,0,0,0,1,1,0,1,0,0,1,0,1,0,1,1],[0,0,0,1,0,0,0,0,0,0,0,0,1,1,0,0,0,1,1,1,0,1,1,0],[0,0,0,0,1,0,0,0,0,0,0,0,1,1,0,0,1,1,0,1,1,0,0,1],[0,0,0,0,0,1,0,0,0,0,0,0,0,1,1,0,0,1,1,0,1,1,0,1],[0,0,0,0,0,0,1,0,0,0,0,0,0,0,1,1,0,0,1,1,0,1,1,1],[0,0,0,0,0,0,0,1,0,0,0,0,1,0,1,1,0,1,1,1,1,0,0,0],[0,0,0,0,0,0,0,0,1,0,0,0,0,1,0,1,1,0,1,1,1,1,0,0],[0,0,0,0,0,0,0,0,0,1,0,0,0,0,1,0,1,1,0,1,1,1,1,0],[0,0,0,0,0,0,0,0,0,0,1,0,1,0,1,1,1,0,0,0,1,1,0,1],[0,0,0,0,0,0,0,0,0,0,0,1,0,1,0,1,1,1,0,0,0,1,1,1]]
def om2:List (List Nat):=[[1,0,0,0,0,0,2,0,1,2,1,2],[0,1,0,0,0,0,1,2,2,2,1,0],[0,0,1,0,0,0,1,1,1,0,1,1],[0,0,0,1,0,0,1,1,0,2,2,2],[0,0,0,0,1,0,2,1,2,2,0,1],[0,0,0,0,0,1,0,2,1,2,2,1]]
theorem fu9:chkW 3 6 om2 (List.replicate 12 0)=true:=by decide+kernel
theorem aj0:chkW 2 8 ex5 (List.replicate 24 0)=true:=by decide+kernel
section
variable {q:Int} [IsFld q]
def vsN(l:List (El q)):List Nat:=l.map fun x=>x.v.toNat
theorem el0: ∀l:List (El q),wtM (vsN l)=wtW (vs l)
 | []=>rfl
 |x::l=>by
  have ih:=el0 l
  show(bif Nat.beq x.v.toNat 0 then wtM (vsN l)else wtM (vsN l)+1)=(if x.v=0 then 0 else 1)+wtW (vs l)
  rw[ih]
  have:=x.lo
  by_cases h:x.v=0
  ·rw[if_pos h,h];show wtW (vs l)=0+wtW (vs l);omega
  ·rw[if_neg h]
   have hb:Nat.beq x.v.toNat 0=false:=by
    cases hb:Nat.beq x.v.toNat 0 with
    |true=>exact absurd (bg4 hb) (by omega)
    |false=>rfl
   rw[hb];show wtW (vs l)+1=_;omega
structure Mod (q:Int) [IsFld q]:Prop where
 add: ∀a b:El q,(a+b).v.toNat=(a.v.toNat+b.v.toNat)%q.toNat
 mul: ∀a b:El q,(a*b).v.toNat=a.v.toNat*b.v.toNat%q.toNat
theorem el6(hM:Mod q)(c:El q): ∀x w:List (El q),vsN (List.zipWith (fun a b=>a+c*b) x w)=addM q.toNat (vsN x) (mulM q.toNat c.v.toNat (vsN w))
 | [],w=>rfl
 |a::x,[]=>rfl
 |a::x,b::w=>by
  have ih:=el6 hM c x w
  show(a+c*b).v.toNat::vsN (List.zipWith _ x w)=((a.v.toNat+c.v.toNat*b.v.toNat%q.toNat)%q.toNat)::addM q.toNat (vsN x) (mulM q.toNat c.v.toNat (vsN w))
  rw[ih,hM.add,hM.mul]
theorem aw0(c:El q){k:Nat}{x w:List (El q)}(hx:x.length=k)(hw:w.length=k):mac c w k 0 x=List.zipWith (fun a b=>a+c*b) x w:=by
 refine ou8 (by rw[ev4,List.length_zipWith,hx,hw,Nat.min_self]) (funext fun i=> ?_)
 rw[ga7 _ _ _ _ _ _ (by omega)]
 by_cases h:i<k
 ·rw[if_pos (by omega),i67 (l:=List.zipWith _ x w) (by rw[List.length_zipWith];omega),List.getElem_zipWith,i67 (by omega),i67 (by omega)]
 ·rw[if_neg (by omega),ez8 (by omega),ez8 (by rw[List.length_zipWith];omega)]
theorem xy0(hM:Mod q){k d:Nat}(a:List (El q)): ∀(R:List (List (El q))) (i:Nat) (x:List (El q)),x.length=k→(∀r∈R,r.length=k)→chkW q.toNat d (R.map vsN) (vsN x)=true→wtW (vs (prow k a R i x))=0∨d≤wtW (vs (prow k a R i x))
 | [],i,x,hx,hR,h=>by
   rw[prow,←el0]
   unfold chkW at h
   simp only[gw5,ey6]at h
   rcases h with h|h
   ·exact .inl (bg4 h)
   ·exact .inr (fy2 h)
 |r::R,i,x,hx,hR,h=>by
  rw[prow]
  have hr:=hR r rn8
  have hc:(wf a i).v.toNat∈List.range q.toNat:=l16.2 (by have:=(wf a i).lo;have:=(wf a i).hi;omega)
  rw[nf9,chkW]at h
  have h2:=p92.1 h _ hc
  refine xy0 hM a R (i+1) _ (by rw[ev4];exact hx) (fun r' hr'=>hR r' (iz7 _ hr')) ?_
  rw[aw0 _ hx hr,el6 hM]
  exact h2
theorem lz9(hM:Mod q){k d:Nat}{R:List (List (El q))}(hR: ∀r∈R,r.length=k)(h:chkW q.toNat d (R.map vsN) (List.replicate k 0)=true)(z:List (El q)):wtW (vs (encL k z R))=0∨d≤wtW (vs (encL k z R)):=by
 unfold encL
 refine xy0 hM z R 0 _ (by simp) hR ?_
 have e:vsN (List.replicate k (0:El q))=List.replicate k 0:=by unfold vsN;rw[List.map_replicate];rfl
 rw[e];exact h
end
theorem mod2:Mod 2:=by
 have key:((List.range 2).all fun a=>(List.range 2).all fun b=>decide ((fadd 2 (a:Nat) (b:Nat)).toNat=(a+b)%2)&&decide ((fmul 2 (a:Nat) (b:Nat)).toNat=a*b%2))=true:=by kernel_rfl
 have hk: ∀a b:El 2,(fadd 2 a.v b.v).toNat=(a.v.toNat+b.v.toNat)%2∧(fmul 2 a.v b.v).toNat=a.v.toNat*b.v.toNat%2:=fun a b=>by
  have h:=p92.1 (p92.1 key a.v.toNat (l16.2 (by have:=a.lo;have:=a.hi;omega))) b.v.toNat (l16.2 (by have:=b.lo;have:=b.hi;omega))
  simp only[b83,jn8]at h
  rw[show((a.v.toNat:Nat):Int)=a.v by have:=a.lo;omega,show((b.v.toNat:Nat):Int)=b.v by have:=b.lo;omega]at h
  exact h
 exact⟨fun a b=>by rw[on0];exact(hk a b).1,fun a b=>by rw[ym6];exact(hk a b).2⟩
theorem mod3:Mod 3:=by
 have key:((List.range 3).all fun a=>(List.range 3).all fun b=>decide ((fadd 3 (a:Nat) (b:Nat)).toNat=(a+b)%3)&&decide ((fmul 3 (a:Nat) (b:Nat)).toNat=a*b%3))=true:=by kernel_rfl
 have hk: ∀a b:El 3,(fadd 3 a.v b.v).toNat=(a.v.toNat+b.v.toNat)%3∧(fmul 3 a.v b.v).toNat=a.v.toNat*b.v.toNat%3:=fun a b=>by
  have h:=p92.1 (p92.1 key a.v.toNat (l16.2 (by have:=a.lo;have:=a.hi;omega))) b.v.toNat (l16.2 (by have:=b.lo;have:=b.hi;omega))
  simp only[b83,jn8]at h
  rw[show((a.v.toNat:Nat):Int)=a.v by have:=a.lo;omega,show((b.v.toNat:Nat):Int)=b.v by have:=b.lo;omega]at h
  exact h
 exact⟨fun a b=>by rw[on0];exact(hk a b).1,fun a b=>by rw[ym6];exact(hk a b).2⟩
def RT:List (List (El 3)):=p78 (redR ((cycM 11 gT).map extL))
def RBi:List (List (El 2)):=p78 (redR ((cycM 23 gB).map extL))
theorem ii4:RT.map vsN=om2:=by kernel_rfl
theorem ac1:RBi.map vsN=ex5:=by kernel_rfl
theorem kc2:(p78 (zt5 12 RT)).map vsN=om2:=by kernel_rfl
theorem g49:(p78 (zt5 24 RBi)).map vsN=ex5:=by kernel_rfl
theorem mv9{q:Int} [IsFld q]: ∀{a b:List (El q)},vsN a=vsN b→a=b
 | [],[],_=>rfl
 | [],_::_,h=>by cases h
 |_::_,[],h=>by cases h
 |x::a,y::b,h=>by
  have h1:x.v.toNat=y.v.toNat:=(List.cons.inj h).1
  have:=x.lo
  have:=y.lo
  rw[mv9 (a:=a) (b:=b) (List.cons.inj h).2,El.ext' (show x.v=y.v by omega)]
theorem j56{q:Int} [IsFld q]: ∀{A B:List (List (El q))},A.map vsN=B.map vsN→A=B
 | [],[],_=>rfl
 | [],_::_,h=>by cases h
 |_::_,[],h=>by cases h
 |x::A,y::B,h=>by rw[j56 (A:=A) (B:=B) (List.cons.inj h).2,mv9 (List.cons.inj h).1]
theorem ui7:p78 (zt5 12 RT)=RT:=j56 (by rw[kc2,ii4])
theorem xz0:p78 (zt5 24 RBi)=RBi:=j56 (by rw[g49,ac1])
theorem fc9:RT.length=6:=by
 have:=congrArg List.length ii4
 rw[q11]at this
 exact this
theorem s18:RBi.length=12:=by
 have:=congrArg List.length ac1
 rw[q11]at this
 exact this
theorem xe2{q:Int} [IsFld q]{R:List (List (El q))}{k:Nat}(h:((R.map vsN).all fun r=>Nat.beq r.length k)=true): ∀r∈R,r.length=k:=fun r hr=>by
 have:=bg4 (p92.1 h _ (vf1.2 ⟨r,hr,rfl⟩))
 unfold vsN at this
 rwa [q11]at this
theorem xw5: ∀r∈RT,r.length=12:=xe2 (by rw[ii4];rfl)
theorem th6: ∀r∈RBi,r.length=24:=xe2 (by rw[ac1];rfl)
theorem ph1(z:List (El 3)):wtW (vs (encL 12 z RT))=0∨6≤wtW (vs (encL 12 z RT)):=lz9 mod3 xw5 (by rw[ii4];exact fu9) z
theorem w83(z:List (El 2)):wtW (vs (encL 24 z RBi))=0∨8≤wtW (vs (encL 24 z RBi)):=lz9 mod2 th6 (by rw[ac1];exact aj0) z
section
variable {q:Int} [IsFld q] {k nl nr nl2 nw:Nat} {R:List (List (El q))} {w:List (El q)}
def nrB(w b x:List (El q)):List (El q):=if apW (vs x) (vs w)<apW (vs b) (vs w)then x else b
theorem bb9{x:List (El q)}(hx:x.length=w.length):apE (vs x) (vs w)=(apW (vs x) (vs w):Int):=by unfold apE;rw[if_pos (by rw[fi2,fi2,hx])]
theorem yu0(hq:q≤1000000){T1 T2:Tree}: ∀(i:Nat) (p s s':List Int),p.length=i→(p++s).length≤1000000→(∀a∈p,0≤a∧a<q)→qr3 q s=(s',false)→ ∃j:Int,(0≤j↔(qr3 q (p++s)).2=true)∧ ∀ks,
 vgoL W ⟨h15,[.tmp 4, .tmp 5, .tmp 6],0⟩ [3,8,45,47,49,50,137] c15L0 (.blk 2 [3,8,45,47,49,50,137]::ks) [(3, .own 0 []),(8, .own 1 []),(45, .own 2 []),(47, .fz true (pF q)),(49, .own 3 []),(50, .x (.int .i64 ((i:Int)-1))),(137, .x (.bool false))] [T1,T2, .pt 25 [.v (.int .i64 q), .v (.int .i64 k), .fz (.sl nl 0 1 (lvs nr (R.map vs)))], .sl nl2 3 1 (ivs (p++s'))]=
  vgo W ⟨h15,[.tmp 4, .tmp 5, .tmp 6],0⟩ ks (VFr.of [(3, .own 0 []),(8, .own 1 []),(45, .own 2 []),(47, .fz true (pF q)),(49, .own 3 []),(50, .x (.int .i64 j)),(137, .x (.bool false))]) [T1,T2, .pt 25 [.v (.int .i64 q), .v (.int .i64 k), .fz (.sl nl 0 1 (lvs nr (R.map vs)))], .sl nl2 3 1 (ivs (qr3 q (p++s)).1)]
 |0,p,s,s',hi,hn,hd,hs=>by
  obtain rfl:p=[]:=js1 hi
  rw[m51,m51,hs]
  refine⟨-1,by simp,fun ks=> ?_⟩
  rw[sb5 c15L0.eq_def]
  simp(disch:=first|omega|fail) only[push_cast,seval,vrl,if_pos,if_neg]
 |i+1,p,s,s',hi,hn,hd,hs=>by
  obtain⟨p',a,rfl⟩: ∃p' a,p=p'++[a]:=⟨p.dropLast,p.getLast (by intro h;subst h;simp at hi),(List.dropLast_concat_getLast _).symm⟩
  have hp'l:p'.length=i:=by simpa using hi
  have ha:=hd a (by simp)
  rw[eh9,ii2]at hn⊢
  rw[eh9,ii2]
  have hsl:s'.length=s.length:=by have:=pd1 q s;rw[hs]at this;exact this
  have hlen:(p'++a::s').length≤1000000:=by simp[hsl]at hn⊢;omega
  have hi2:i<(p'++a::s').length:=by simp;omega
  have l1:=qe6 (s:=s') (a:=a) hp'l
  have l2:=qe6 (s:=s') (a:=a+1) hp'l
  have t1:=ri5 (s:=s') (a:=a) (b:=a+1) hp'l
  have t2:=ri5 (s:=s') (a:=a+1) (b:=0) hp'l
  have e2:(p'++(a+1)::s').length=(p'++a::s').length:=by simp
  have hw:((i+1:Nat):Int)-1=(i:Int):=by omega
  rw[hw]
  by_cases hlt:a+1<q
  ·have hnx:qr3 q (a::s)=((a+1)::s',true):=by rw[qr3,hs];simp only;rw[if_pos hlt]
   rw[vq6 hnx p']
   refine⟨i,⟨fun _=>rfl,fun _=>by omega⟩,fun ks=> ?_⟩
   rw[sb5 c15L0.eq_def]
   simp(disch:=first|omega|fail) only[push_cast,seval,vrl,if_pos,if_neg,l1,l2,t1,e2,dec_lt hlt]
  ·have hnx:qr3 q (a::s)=(0::s',false):=by rw[qr3,hs];simp only;rw[if_neg hlt]
   obtain⟨j,j1,j2⟩:=yu0 hq (T1:=T1) (T2:=T2) i p' (a::s) (0::s') hp'l hn (fun c hc=>hd c (by simp[hc])) hnx
   refine⟨j,j1,fun ks=> ?_⟩
   rw[←j2 ks,sb5 c15L0.eq_def]
   simp(disch:=first|omega|fail) only[push_cast,seval,vrl,if_pos,if_neg,l1,l2,t1,t2,e2,cw6 (vk3.1 hlt)]
theorem z89{T T3 T4 T5:Tree}{b:List (El q)}(hb:0<b.length):wb3 [T, .pt 22 [.sl 2 3 1 (ivs (vs b))],T3,T4,T5] 0 (.own 1 [0])=some false:=by
 have h1:vsl [T, .pt 22 [.sl 2 3 1 (ivs (vs b))],T3,T4,T5] (.own 1 [0])=some (.o 1 [0] 2 3 1 (ivs (vs b)) 0 ((ivs (vs b)).length/1)):=rfl
 have h2:(ivs (vs b)).length/1≠0:=by rw[Nat.div_one];unfold ivs;rw[q11,fi2];omega
 unfold wb3
 simp only[h1]
 rw[if_neg h2]
theorem xv3(j:Int){z:List (El q)}(j1:0≤j↔(qr3 q (vs z)).2=true)(h:(qr3 q (vs z)).2=false):j<0:=by
 by_cases h0:0≤j
 ·rw[h]at j1;exact absurd (j1.1 h0) (by decide)
 ·omega
theorem oe2(hm:R.length≤64)(hR: ∀r∈R,r.length=k)(hk:k≤64)(hw:w.length=k)(z b:List (El q))(hz:z.length=R.length)(hb:b.length=k)(h0:0<k): ∃j:Int,(0≤j↔(qr3 q (vs z)).2=true)∧ ∀ks kz,ks= .blk 1000 [137,3,8]::kz→
 (0≤j→vgoL W ⟨h15,[.tmp 4, .tmp 5, .tmp 6],0⟩ [3,8,45,47,49,137] c15L1 (.blk 0 [3,8,137]::ks) [(3, .own 0 []),(8, .own 1 []),(45, .own 2 []),(47, .fz true (pF q)),(49, .own 3 []),(137, .x (.bool false))] [.pt 22 [.fz (.sl nw 0 1 (ivs (vs w)))], .pt 22 [.sl 2 3 1 (ivs (vs b))], .pt 25 [.v (.int .i64 q), .v (.int .i64 k), .fz (.sl nl 0 1 (lvs nr (R.map vs)))], .sl 0 3 1 (ivs (vs z))]=
   vgoL W ⟨h15,[.tmp 4, .tmp 5, .tmp 6],0⟩ [3,8,45,47,49,137] c15L1 (.blk 0 [3,8,137]::ks) [(3, .own 0 []),(8, .own 1 []),(45, .own 2 []),(47, .fz true (pF q)),(49, .own 3 []),(137, .x (.bool false))] [.pt 22 [.fz (.sl nw 0 1 (ivs (vs w)))], .pt 22 [.sl 2 3 1 (ivs (vs (nrB w b (encL k z R))))], .pt 25 [.v (.int .i64 q), .v (.int .i64 k), .fz (.sl nl 0 1 (lvs nr (R.map vs)))], .sl 0 3 1 (ivs (vs (yv5 z)))])∧
 (j<0→vgoL W ⟨h15,[.tmp 4, .tmp 5, .tmp 6],0⟩ [3,8,45,47,49,137] c15L1 (.blk 0 [3,8,137]::ks) [(3, .own 0 []),(8, .own 1 []),(45, .own 2 []),(47, .fz true (pF q)),(49, .own 3 []),(137, .x (.bool false))] [.pt 22 [.fz (.sl nw 0 1 (ivs (vs w)))], .pt 22 [.sl 2 3 1 (ivs (vs b))], .pt 25 [.v (.int .i64 q), .v (.int .i64 k), .fz (.sl nl 0 1 (lvs nr (R.map vs)))], .sl 0 3 1 (ivs (vs z))]=
   vgo W ⟨h15,[.tmp 4, .tmp 5, .tmp 6],0⟩ kz (VFr.of [(137, .x (.bool false)),(3, .own 0 []),(8, .own 1 [])]) [.pt 22 [.fz (.sl nw 0 1 (ivs (vs w)))], .pt 22 [.sl 2 3 1 (ivs (vs (nrB w b (encL k z R))))], .pt 25 [.v (.int .i64 q), .v (.int .i64 k), .fz (.sl nl 0 1 (lvs nr (R.map vs)))], .sl 0 3 1 (ivs (vs (yv5 z)))]):=by
 have hqh:=q_hi (q:=q)
 obtain⟨j,j1,j2⟩:=yu0 (q:=q) (k:=k) (nl:=nl) (nr:=nr) (R:=R) (nl2:=0) (by omega) (T1:= .pt 22 [.fz (.sl nw 0 1 (ivs (vs w)))]) (T2:= .pt 22 [.sl 2 3 1 (ivs (vs (nrB w b (encL k z R))))]) z.length (vs z) [] [] (by rw[fi2]) (by rw[nw0,fi2];omega) (fun a ha=>oa6 z a ha) rfl
 rw[nw0]at j1
 simp only[nw0]at j2
 rw[←mw7]at j2
 have e1:=fun b nl nr nl2=>gm8 (q:=q) (k:=k) (b:=b) (nl:=nl) (nr:=nr) (nl2:=nl2) (m:=z) (R:=R) hz (by omega) hR (by omega)
 have hel:(encL k z R).length=k:=b87 z R
 have e2:=fun b b' nl nl'=>w75 (b:=b) (b':=b') (nl:=nl) (nl':=nl') (a:=vs (encL k z R)) (c:=vs w) (by rw[fi2];omega) (by rw[fi2];omega)
 have e3:=fun b1 b' nl nl'=>w75 (b:=b1) (b':=b') (nl:=nl) (nl':=nl') (a:=vs b) (c:=vs w) (by rw[fi2];omega) (by rw[fi2];omega)
 simp only[bb9 (show(encL k z R).length=w.length by omega)]at e2
 simp only[bb9 (show b.length=w.length by omega)]at e3
 have e4:=fun T T3 T4 T5=>z89 (T:=T) (T3:=T3) (T4:=T4) (T5:=T5) (b:=b) (by omega)
 have hzl:(vs z).length=z.length:=fi2 z
 unfold nrB at j2⊢
 by_cases h:apW (vs (encL k z R)) (vs w)<apW (vs b) (vs w)
 ·have hd:(apW (vs (encL k z R)) (vs w):Int)<apW (vs b) (vs w):=by omega
  rw[if_pos h]at j2⊢
  refine⟨j,j1,fun ks kz hks=>⟨fun hj=> ?_,fun hj=> ?_⟩⟩
  ·rw[hks,sb5 c15L1.eq_def]
   simp(disch:=first|omega|fail) only[push_cast,seval,vrl,if_pos,if_neg,e1,e2,e3,e4,hzl,dec_lt hd]
   rw[j2]
   simp(disch:=first|omega|fail) only[push_cast,seval,vrl,if_pos,if_neg,cw6 hj]
  ·rw[hks,sb5 c15L1.eq_def]
   simp(disch:=first|omega|fail) only[push_cast,seval,vrl,if_pos,if_neg,e1,e2,e3,e4,hzl,dec_lt hd]
   rw[j2]
   simp(disch:=first|omega|fail) only[push_cast,seval,vrl,if_pos,if_neg,dec_lt hj]
 ·have hd:(apW (vs b) (vs w):Int)≤apW (vs (encL k z R)) (vs w):=by omega
  rw[if_neg h]at j2⊢
  refine⟨j,j1,fun ks kz hks=>⟨fun hj=> ?_,fun hj=> ?_⟩⟩
  ·rw[hks,sb5 c15L1.eq_def]
   simp(disch:=first|omega|fail) only[push_cast,seval,vrl,if_pos,if_neg,e1,e2,e3,e4,hzl,cw6 hd]
   rw[j2]
   simp(disch:=first|omega|fail) only[push_cast,seval,vrl,if_pos,if_neg,cw6 hj]
  ·rw[hks,sb5 c15L1.eq_def]
   simp(disch:=first|omega|fail) only[push_cast,seval,vrl,if_pos,if_neg,e1,e2,e3,e4,hzl,cw6 hd]
   rw[j2]
   simp(disch:=first|omega|fail) only[push_cast,seval,vrl,if_pos,if_neg,dec_lt hj]
theorem z39(hm:R.length≤64)(hR: ∀r∈R,r.length=k)(hk:k≤64)(hw:w.length=k)(z:List (El q))(hz:z.length=R.length): ∃j:Int,(0≤j↔(qr3 q (vs z)).2=true)∧ ∀ks kz,ks= .blk 1000 [137,3,8]::kz→
 (0≤j→vgoL W ⟨h15,[.tmp 4, .tmp 5, .tmp 6],0⟩ [3,8,45,47,49,137] c15L1 (.blk 0 [3,8,137]::ks) [(3, .own 0 []),(8, .own 1 []),(45, .own 2 []),(47, .fz true (pF q)),(49, .own 3 []),(137, .x (.bool false))] [.pt 22 [.fz (.sl nw 0 1 (ivs (vs w)))], .pt 22 [.v (.slice none 0 0)], .pt 25 [.v (.int .i64 q), .v (.int .i64 k), .fz (.sl nl 0 1 (lvs nr (R.map vs)))], .sl 0 3 1 (ivs (vs z))]=
   vgoL W ⟨h15,[.tmp 4, .tmp 5, .tmp 6],0⟩ [3,8,45,47,49,137] c15L1 (.blk 0 [3,8,137]::ks) [(3, .own 0 []),(8, .own 1 []),(45, .own 2 []),(47, .fz true (pF q)),(49, .own 3 []),(137, .x (.bool false))] [.pt 22 [.fz (.sl nw 0 1 (ivs (vs w)))], .pt 22 [.sl 2 3 1 (ivs (vs (encL k z R)))], .pt 25 [.v (.int .i64 q), .v (.int .i64 k), .fz (.sl nl 0 1 (lvs nr (R.map vs)))], .sl 0 3 1 (ivs (vs (yv5 z)))])∧
 (j<0→vgoL W ⟨h15,[.tmp 4, .tmp 5, .tmp 6],0⟩ [3,8,45,47,49,137] c15L1 (.blk 0 [3,8,137]::ks) [(3, .own 0 []),(8, .own 1 []),(45, .own 2 []),(47, .fz true (pF q)),(49, .own 3 []),(137, .x (.bool false))] [.pt 22 [.fz (.sl nw 0 1 (ivs (vs w)))], .pt 22 [.v (.slice none 0 0)], .pt 25 [.v (.int .i64 q), .v (.int .i64 k), .fz (.sl nl 0 1 (lvs nr (R.map vs)))], .sl 0 3 1 (ivs (vs z))]=
   vgo W ⟨h15,[.tmp 4, .tmp 5, .tmp 6],0⟩ kz (VFr.of [(137, .x (.bool false)),(3, .own 0 []),(8, .own 1 [])]) [.pt 22 [.fz (.sl nw 0 1 (ivs (vs w)))], .pt 22 [.sl 2 3 1 (ivs (vs (encL k z R)))], .pt 25 [.v (.int .i64 q), .v (.int .i64 k), .fz (.sl nl 0 1 (lvs nr (R.map vs)))], .sl 0 3 1 (ivs (vs (yv5 z)))]):=by
 have hqh:=q_hi (q:=q)
 obtain⟨j,j1,j2⟩:=yu0 (q:=q) (k:=k) (nl:=nl) (nr:=nr) (R:=R) (nl2:=0) (by omega) (T1:= .pt 22 [.fz (.sl nw 0 1 (ivs (vs w)))]) (T2:= .pt 22 [.sl 2 3 1 (ivs (vs (encL k z R)))]) z.length (vs z) [] [] (by rw[fi2]) (by rw[nw0,fi2];omega) (fun a ha=>oa6 z a ha) rfl
 rw[nw0]at j1
 simp only[nw0]at j2
 rw[←mw7]at j2
 have e1:=fun b nl nr nl2=>gm8 (q:=q) (k:=k) (b:=b) (nl:=nl) (nr:=nr) (nl2:=nl2) (m:=z) (R:=R) hz (by omega) hR (by omega)
 have hzl:(vs z).length=z.length:=fi2 z
 refine⟨j,j1,fun ks kz hks=>⟨fun hj=> ?_,fun hj=> ?_⟩⟩
 ·rw[hks,sb5 c15L1.eq_def]
  simp(disch:=first|omega|fail) only[push_cast,seval,vrl,if_pos,if_neg,e1,hzl]
  rw[j2]
  simp(disch:=first|omega|fail) only[push_cast,seval,vrl,if_pos,if_neg,cw6 hj]
 ·rw[hks,sb5 c15L1.eq_def]
  simp(disch:=first|omega|fail) only[push_cast,seval,vrl,if_pos,if_neg,e1,hzl]
  rw[j2]
  simp(disch:=first|omega|fail) only[push_cast,seval,vrl,if_pos,if_neg,dec_lt hj]
def nrW(w:List (El q)):List (List (El q))→List (El q)
 | []=>[]
 |x::l=>l.foldl (nrB w) x
theorem jc1{b x:List (El q)}(hb:b.length=k)(hx:x.length=k):(nrB w b x).length=k:=by unfold nrB;split<;>assumption
theorem zk3: ∀(l:List (List (El q))) (b:List (El q)),b.length=k→(∀x∈l,x.length=k)→(l.foldl (nrB w) b).length=k
 | [],b,hb,_=>hb
 |x::l,b,hb,h=>zk3 l _ (jc1 hb (h x rn8)) fun y hy=>h y (iz7 _ hy)
theorem ki8(hm:R.length≤64)(hR: ∀r∈R,r.length=k)(h0:0<k)(hk:k≤64)(hw:w.length=k){pp:Nat}: ∀(n:Nat) (z b:List (El q)),Left q pp n z→z.length=R.length→b.length=k→ ∀ks kz,ks= .blk 1000 [137,3,8]::kz→
 vgoL W ⟨h15,[.tmp 4, .tmp 5, .tmp 6],0⟩ [3,8,45,47,49,137] c15L1 (.blk 0 [3,8,137]::ks) [(3, .own 0 []),(8, .own 1 []),(45, .own 2 []),(47, .fz true (pF q)),(49, .own 3 []),(137, .x (.bool false))] [.pt 22 [.fz (.sl nw 0 1 (ivs (vs w)))], .pt 22 [.sl 2 3 1 (ivs (vs b))], .pt 25 [.v (.int .i64 q), .v (.int .i64 k), .fz (.sl nl 0 1 (lvs nr (R.map vs)))], .sl 0 3 1 (ivs (vs z))]=
  vgo W ⟨h15,[.tmp 4, .tmp 5, .tmp 6],0⟩ kz (VFr.of [(137, .x (.bool false)),(3, .own 0 []),(8, .own 1 [])]) [.pt 22 [.fz (.sl nw 0 1 (ivs (vs w)))], .pt 22 [.sl 2 3 1 (ivs (vs ((wdL k R n z).foldl (nrB w) b)))], .pt 25 [.v (.int .i64 q), .v (.int .i64 k), .fz (.sl nl 0 1 (lvs nr (R.map vs)))], .sl 0 3 1 (ivs (vs (v66 n z)))]
 |0,z,b,hl,hz,hb,ks,kz,hks=>by
  obtain⟨j,j1,j2⟩:=oe2 (nl:=nl) (nr:=nr) (nw:=nw) hm hR hk hw z b hz hb h0
  rw[(j2 ks kz hks).2 (xv3 j j1 hl.last),wdL,h08,List.foldl_nil,v66]
 |n+1,z,b,hl,hz,hb,ks,kz,hks=>by
  obtain⟨j,j1,j2⟩:=oe2 (nl:=nl) (nr:=nr) (nw:=nw) hm hR hk hw z b hz hb h0
  obtain⟨l1,l2⟩:=hl.more
  rw[(j2 ks kz hks).1 (j1.2 l1),wdL,h08,v66]
  exact ki8 hm hR h0 hk hw n (yv5 z) _ l2 (by rw[l71,hz]) (jc1 hb (b87 z R)) ks kz hks
theorem ty0(hm:R.length≤64)(hR: ∀r∈R,r.length=k)(h0:0<k)(hk:k≤64)(hw:w.length=k){pp:Nat}: ∀(n:Nat) (z:List (El q)),Left q pp n z→z.length=R.length→ ∀ks kz,ks= .blk 1000 [137,3,8]::kz→
 vgoL W ⟨h15,[.tmp 4, .tmp 5, .tmp 6],0⟩ [3,8,45,47,49,137] c15L1 (.blk 0 [3,8,137]::ks) [(3, .own 0 []),(8, .own 1 []),(45, .own 2 []),(47, .fz true (pF q)),(49, .own 3 []),(137, .x (.bool false))] [.pt 22 [.fz (.sl nw 0 1 (ivs (vs w)))], .pt 22 [.v (.slice none 0 0)], .pt 25 [.v (.int .i64 q), .v (.int .i64 k), .fz (.sl nl 0 1 (lvs nr (R.map vs)))], .sl 0 3 1 (ivs (vs z))]=
  vgo W ⟨h15,[.tmp 4, .tmp 5, .tmp 6],0⟩ kz (VFr.of [(137, .x (.bool false)),(3, .own 0 []),(8, .own 1 [])]) [.pt 22 [.fz (.sl nw 0 1 (ivs (vs w)))], .pt 22 [.sl 2 3 1 (ivs (vs (nrW w (wdL k R n z))))], .pt 25 [.v (.int .i64 q), .v (.int .i64 k), .fz (.sl nl 0 1 (lvs nr (R.map vs)))], .sl 0 3 1 (ivs (vs (v66 n z)))]
 |0,z,hl,hz,ks,kz,hks=>by
  obtain⟨j,j1,j2⟩:=z39 (nl:=nl) (nr:=nr) (nw:=nw) hm hR hk hw z hz
  rw[(j2 ks kz hks).2 (xv3 j j1 hl.last),wdL,nrW,List.foldl_nil,v66]
 |n+1,z,hl,hz,ks,kz,hks=>by
  obtain⟨j,j1,j2⟩:=z39 (nl:=nl) (nr:=nr) (nw:=nw) hm hR hk hw z hz
  obtain⟨l1,l2⟩:=hl.more
  rw[(j2 ks kz hks).1 (j1.2 l1),wdL,nrW,v66]
  exact ki8 hm hR h0 hk hw n (yv5 z) _ l2 (by rw[l71,hz]) (b87 z R) ks kz hks
theorem jq3(h: ∀x∈allW k R,x.length=k)(hne:0<(allW k R).length):(nrW w (allW k R)).length=k:=by
 cases ha:allW k R with
 |nil=>rw[ha]at hne;exact absurd hne (by simp)
 |cons x l=>
  rw[ha]at h
  rw[nrW]
  exact zk3 l x (h x rn8) fun y hy=>h y (iz7 _ hy)
theorem ly5{N:List (List (El q))}(he:gi9 q k (N.map vs)=0)(h0:0<k)(hk:k≤64)(hl:N.length≤64)(hr: ∀r∈N,r.length=k)(hf:fewQ q (redR N).length 1=true)(hw:w.length=k)(hne:0<(allW k (p78 (redR N))).length)(hall: ∀x∈allW k (p78 (redR N)),x.length=k):
 o24 W 15 [.agg [.x (.int .i64 q), .x (.int .i64 k), .fz true (.sl nl 0 1 (lvs nr (N.map vs)))], .fz true (.sl nw 0 1 (ivs (vs w)))] []=some (.tup [.own 0 [], .x (.int .i64 (apW (vs (nrW w (allW k (p78 (redR N))))) (vs w))), .x (.int .i64 0)],[.sl 2 3 1 (ivs (vs (nrW w (allW k (p78 (redR N))))))],[]):=by
 have e1:=fun nl nr=>lw9 (nl:=nl) (nr:=nr) he h0 hk hl hr
 simp only[hf,oo9]at e1
 obtain⟨r1,r2,_⟩:=bi2 hr
 have hle:=ew4 hr
 have hq:=aw1 (q:=q)
 have hrl:(p78 (redR N)).length=(redR N).length:=gb0
 have e2:=fun nl nr=>q96 (q:=q) (k:=k) (nl:=nl) (nr:=nr) (M:=pvR (redR N))
 have e3:=fun nl nr nw ks kz hks=>ty0 (q:=q) (k:=k) (nl:=nl) (nr:=nr) (nw:=nw) (w:=w) (R:=p78 (redR N)) (by omega) (zu4 r2) h0 hk hw (pp:=q.toNat) (q.toNat^(p78 (redR N)).length-1) (List.replicate (p78 (redR N)).length 0) (Left.start (by omega) _) (by simp) ks kz hks
 rw[←lo1]at e3
 have e4:=fun nl nr b nl2=>gd1 (q:=q) (k:=k) (nl:=nl) (nr:=nr) (nl2:=nl2) (b:=b) (M:=pvR (redR N)) (w:=vs w) (by rw[fi2];omega)
 simp only[op4 hw]at e4
 have h1:=nu3 (redR N)
 have hz:List.replicate (redR N).length (0:Int)=vs (List.replicate (p78 (redR N)).length (0:El q)):=by rw[hrl,←qj2];rfl
 have hbl:=jq3 (w:=w) hall hne
 have e5:=fun b b' nl nl'=>w75 (b:=b) (b':=b') (nl:=nl) (nl':=nl') (a:=vs (nrW w (allW k (p78 (redR N))))) (c:=vs w) (by rw[fi2];omega) (by rw[fi2];omega)
 simp only[bb9 (show(nrW w (allW k (p78 (redR N)))).length=w.length by omega)]at e5
 have hfold:wdL k (p78 (redR N)) (q.toNat^(p78 (redR N)).length-1) (List.replicate (p78 (redR N)).length 0)=allW k (p78 (redR N)):=rfl
 rw[hfold]at e3
 rw[o10 rfl T15 rfl]
 unfold F15 c15
 simp(disch:=first|omega|fail) only[push_cast,seval,vrl,if_pos,if_neg,e1,e2,e4,h1,hz]
 rw[e3 _ _ _ _ _ rfl]
 simp(disch:=first|omega|fail) only[push_cast,seval,vrl,if_pos,if_neg,e5]
end
section
variable {q n:Int} {nl nr nw:Nat} {M:List (List Int)} {w:List Int}
end
section
variable {q:Int} [IsFld q] {k nl nr nw:Nat} {N:List (List (El q))} {w:List Int}
end
section
variable {K:Type} [FK K]
theorem o81(N:Nat)(a:List K): ∀(Q:List (List K)) (k:Nat) (x:List K) (i:Nat),x.length=N→i<N→wf (prow N a Q k x) i=wf x i+sumN Q.length fun j=>wf a (k+j)*wf (nth Q j) i
 | [],k,x,i,hx,hi=>by rw[prow];show _=wf x i+sumN 0 _;rw[wr8,FK.add_zero]
 |w::Q,k,x,i,hx,hi=>by
  rw[prow,o81 N a Q (k+1) _ i (by rw[ev4];exact hx) hi,ga7 _ _ _ _ _ _ (by omega),if_pos (by omega),q90,c81,FK.add_assoc]
  congr 2
  exact rc1 fun j _=>by rw[show k+1+j=k+(j+1) by omega];rfl
end
section
variable {q:Int} [IsFld q] {k:Nat} {R:List (List (El q))}
theorem mj2(z:List (El q)){i:Nat}(hi:i<k):wf (encL k z R) i=sumN R.length fun j=>wf z j*wf (nth R j) i:=by
 unfold encL
 rw[o81 k z R 0 _ i (by simp) hi,i67 (by simpa using hi),List.getElem_replicate,zero_add]
 refine ox7 fun j _=> ?_
 rw[e03]
theorem wl4{f:Nat→El q}(h:Span (R.map wf) f): ∃z:List (El q),z.length=R.length∧ ∀i,i<k→wf (encL k z R) i=f i:=by
 obtain⟨c,rfl⟩:=tw2 h
 refine⟨(List.range R.length).map c,by simp,fun i hi=> ?_⟩
 rw[mj2 _ hi]
 show _=sumN (R.map wf).length _
 rw[q11]
 refine ox7 fun j hj=> ?_
 have hj:=l16.1 hj
 rw[i67 (by simpa using hj),List.getElem_map,List.getElem_range,os6,us5]
 unfold nth
 rw[os6]
 cases hr:R[j]? with
 |none=>rw[fu5]at hr;omega
 |some r=>rfl
end
section
variable {K:Type} [FK K] {k:Nat}
theorem ix9(c:K){w x:List K}(hw:w.length=k)(hx:x.length=k):wf (mac c w k 0 x)=axp c (wf x) (wf w):=by
 funext i
 rw[ga7 _ _ _ _ _ _ (by omega)]
 show _=wf x i+c*wf w i
 by_cases hi:i<k
 ·rw[if_pos ⟨ms7 _,by omega⟩]
 ·rw[if_neg (by omega),ez8 (l:=w) (by omega),mul_zero,FK.add_zero]
theorem fz2{S:List (Nat→K)}{a:List K}: ∀(Q:List (List K)) (i:Nat) (x:List K),x.length=k→(∀r∈Q,r.length=k)→Span S (wf x)→(∀r∈Q,Span S (wf r))→Span S (wf (prow k a Q i x))
 | [],i,x,hx,_,h,_=>by rw[prow];exact h
 |w::Q,i,x,hx,hl,h,hr=>by
  rw[prow]
  refine fz2 Q (i+1) _ (by rw[ev4];exact hx) (fun r h=>hl r (by simp[h])) ?_ fun r h=>hr r (by simp[h])
  rw[ix9 _ (hl w (by simp)) hx]
  exact h.axp (hr w (by simp)) _
end
section
variable {q:Int} [IsFld q] {k:Nat}
theorem w74{m:List (El q)}{R:List (List (El q))}(hR: ∀r∈R,r.length=k):Span (R.map wf) (wf (encL k m R)):=by
 unfold encL
 refine fz2 R 0 _ (by simp) hR (by rw[rb9];exact .zero) fun r hr=> .mem (vf1.2 ⟨r,hr,rfl⟩)
end
section
variable {q:Int} [IsFld q]
theorem a03(l:List (El q))(a i:Nat):wf (l.eraseIdx a) i=if i<a then wf l i else wf l (i+1):=by
 unfold wf
 rw[os6,List.getElem?_eraseIdx]
 split
 ·rw[os6]
 ·rw[os6]
theorem ab2(R:List (List (El q)))(a j:Nat):nth (R.map fun r=>r.eraseIdx a) j=(nth R j).eraseIdx a:=by
 unfold nth
 rw[os6,os6,us5]
 cases R[j]? with
 |none=>rfl
 |some r=>rfl
theorem yn5{k a:Nat}(ha:a<k)(z:List (El q))(R:List (List (El q))):(encL k z R).eraseIdx a=encL (k-1) z (R.map fun r=>r.eraseIdx a):=by
 have hl:(encL k z R).length=k:=b87 _ _
 refine ou8 (by rw[List.length_eraseIdx,if_pos (by omega),hl,b87]) (funext fun i=> ?_)
 rcases Nat.lt_or_ge i (k-1)with hi|hi
 ·rw[a03,mj2 _ hi,q11]
  have e:(fun j=>wf z j*wf (nth (R.map fun r=>r.eraseIdx a) j) i)=fun j=>wf z j*(if i<a then wf (nth R j) i else wf (nth R j) (i+1)):=funext fun j=>by rw[ab2,a03]
  rw[e]
  by_cases h:i<a
  ·rw[if_pos h,mj2 _ (by omega)]
   exact rc1 fun j _=>by rw[if_pos h]
  ·rw[if_neg h,mj2 _ (by omega)]
   exact rc1 fun j _=>by rw[if_neg h]
 ·rw[ez8 (by rw[List.length_eraseIdx,if_pos (by omega),hl];exact hi),ez8 (by rw[b87];exact hi)]
theorem yj0: ∀(l:List Int) (a:Nat),wtW (l.eraseIdx a)≤wtW l∧wtW l≤wtW (l.eraseIdx a)+1
 | [],a=>⟨jj6 _,Nat.le_succ _⟩
 |x::l,0=>by
  show wtW l≤(if x=0 then 0 else 1)+wtW l∧(if x=0 then 0 else 1)+wtW l≤wtW l+1
  split<;>omega
 |x::l,a+1=>by
  obtain⟨h1,h2⟩:=yj0 l a
  show(if x=0 then 0 else 1)+wtW (l.eraseIdx a)≤(if x=0 then 0 else 1)+wtW l∧(if x=0 then 0 else 1)+wtW l≤(if x=0 then 0 else 1)+wtW (l.eraseIdx a)+1
  omega
theorem mf3(r:List (El q))(a:Nat):vs (r.eraseIdx a)=(vs r).eraseIdx a:=by
 unfold vs
 rw[List.eraseIdx_eq_take_drop_succ,List.eraseIdx_eq_take_drop_succ,hm3,iw6,gd3]
theorem rz0(S:List (Nat→El q)): ∀y:List (El q),y.length=S.length→ ∀i,sumL (y.zip S) (fun p=>p.1*p.2 i)=sumN S.length fun j=>wf y j*(S.getD j fun _=>0) i:=by
 induction S with
 |nil=>intro y hy i;cases y with
  |nil=>rfl
  |cons c y=>cases hy
 |cons s S ih=>
  intro y hy i
  cases y with
  |nil=>cases hy
  |cons c y=>
   rw[wl8,gb6,q90,c81,ih y (by simpa using hy) i]
   rfl
theorem rj9(R:List (List (El q)))(j:Nat):((R.map wf).getD j fun _=>0)=wf (nth R j):=by
 unfold nth
 rw[os6,us5,os6]
 cases R[j]? with
 |none=>rfl
 |some r=>rfl
theorem aa6{k:Nat}{R:List (List (El q))}{y:List (El q)}(hy:y.length=R.length){i:Nat}(hi:i<k):sumL (y.zip (R.map wf)) (fun p=>p.1*p.2 i)=wf (encL k y R) i:=by
 rw[rz0 _ _ (by rw[q11];exact hy),q11,mj2 _ hi]
 exact rc1 fun j _=>by rw[rj9]
theorem gl3{k:Nat}{R:List (List (El q))}(hR: ∀r∈R,r.length=k){y:List (El q)}(hy:y.length=R.length){i:Nat}(hi:k≤i):sumL (y.zip (R.map wf)) (fun p=>p.1*p.2 i)=0:=
 tx6 fun p hp=>by
  obtain⟨r,hr,e⟩:=vf1.1 (bn6 hp).2
  rw[←e,ez8 (by rw[hR r hr];exact hi),mul_zero]
theorem r11: ∀{w:List (El q)},wtW (vs w)=0→ ∀i,wf w i=0
 | [],_,i=>rfl
 |a::w,h,i=>by
  rw[e55,wtW]at h
  split at h
  ·rename_i ha
   cases i with
   |zero=>rw[qa6];exact El.ext' ha
   |succ i=>rw[rw8];exact r11 (w:=w) (by omega) i
  ·omega
theorem c88: ∀{w:List (El q)},(∀i,wf w i=0)→wtW (vs w)=0
 | [],_=>rfl
 |a::w,h=>by
  have h0:=h 0
  rw[qa6]at h0
  rw[e55,wtW,c88 (w:=w) fun i=>by have:=h (i+1);rwa [rw8]at this,if_pos (by rw[h0];rfl)]
structure CodeG (q:Int) [IsFld q] (k d:Nat) (R:List (List (El q))):Prop where
 row: ∀r∈R,r.length=k
 ind:wu9 (R.map wf)
 least: ∀z,wtW (vs (encL k z R))=0∨d≤wtW (vs (encL k z R))
variable {k d a:Nat} {R:List (List (El q))}
def punR(a:Nat)(R:List (List (El q))):List (List (El q)):=R.map fun r=>r.eraseIdx a
theorem CodeG.prow(h:CodeG q k d R)(ha:a<k): ∀r∈punR a R,r.length=k-1:=fun r hr=>by
 obtain⟨x,hx,rfl⟩:=vf1.1 hr
 show(x.eraseIdx a).length=k-1
 rw[List.length_eraseIdx,h.row x hx,if_pos ha]
theorem CodeG.pind(h:CodeG q k d R)(ha:a<k)(hd:2≤d):wu9 ((punR a R).map wf):=fun y hy hs=>by
 have hyl:y.length=R.length:=by rw[hy];unfold punR;simp
 have hz: ∀i,wf (encL (k-1) y (punR a R)) i=0:=fun i=>by
  rcases Nat.lt_or_ge i (k-1)with hi|hi
  ·rw[←aa6 (by unfold punR;rw[q11];exact hyl) hi];exact hs i
  ·exact ez8 (by rw[b87];exact hi)
 have h0:=c88 hz
 unfold punR at h0
 rw[←yn5 ha,mf3]at h0
 have h1:=(yj0 (vs (encL k y R)) a).2
 have h2:wtW (vs (encL k y R))=0:=by have:=h.least y;omega
 refine h.ind y (by rw[q11];exact hyl) fun i=> ?_
 rcases Nat.lt_or_ge i k with hi|hi
 ·rw[aa6 hyl hi];exact r11 h2 i
 ·exact gl3 h.row hyl hi
theorem CodeG.prank(h:CodeG q k d R)(ha:a<k)(hd:2≤d):(redR (punR a R)).length=R.length:=by
 have h1:=ew4 (h.prow ha)
 have h2:=ee0 (h.prow ha) (h.pind ha hd)
 have h3:(punR a R).length=R.length:=by unfold punR;simp
 omega
def punW(a:Nat)(R:List (List (El q))):List (List (El q)):=p78 (redR (punR a R))
theorem CodeG.wrow(h:CodeG q k d R)(ha:a<k): ∀r∈punW a R,r.length=k-1:=zu4 (bi2 (h.prow ha)).2.1
theorem CodeG.wspan(h:CodeG q k d R)(ha:a<k)(w:Nat→El q):Span ((punW a R).map wf) w↔Span ((punR a R).map wf) w:=by
 unfold punW
 rw[z42]
 exact(bi2 (h.prow ha)).2.2 w
theorem CodeG.wred(h:CodeG q k d R)(ha:a<k):p78 (redR (punW a R))=punW a R:=by
 obtain⟨r1,r2,_⟩:=bi2 (h.prow ha)
 unfold punW
 rw[jr2 r1 r2]
theorem CodeG.words(h:CodeG q k d R)(ha:a<k)(z:List (El q)): ∃y:List (El q),y.length=R.length∧encL (k-1) z (punW a R)=encL (k-1) y (punR a R):=by
 have hs:=(h.wspan ha _).1 (w74 (h.wrow ha) (m:=z))
 obtain⟨y,y1,y2⟩:=wl4 (k:=k-1) hs
 refine⟨y,by rw[y1];unfold punR;simp,ou8 (by rw[b87,b87]) (funext fun i=> ?_)⟩
 rcases Nat.lt_or_ge i (k-1)with hi|hi
 ·exact(y2 i hi).symm
 ·rw[ez8 (by rw[b87];exact hi),ez8 (by rw[b87];exact hi)]
theorem CodeG.pleast(h:CodeG q k d R)(ha:a<k)(hd:2≤d)(y:List (El q)):wtW (vs (encL (k-1) y (punR a R)))=0∨d-1≤wtW (vs (encL (k-1) y (punR a R))):=by
 unfold punR
 rw[←yn5 ha,mf3]
 obtain⟨h1,h2⟩:=yj0 (vs (encL k y R)) a
 have:=h.least y
 omega
theorem in6: ∀a:List Int,apW a a=0
 | []=>rfl
 |x::a=>by rw[apW,if_pos rfl,in6 a]
theorem wv0: ∀a c:List Int,apW a c=apW c a
 | [],[]=>rfl
 | [],_::_=>rfl
 |_::_,[]=>rfl
 |x::a,y::c=>by
  rw[apW,apW,wv0 a c]
  by_cases h:x=y
  ·rw[if_pos h,if_pos h.symm]
  ·rw[if_neg h,if_neg fun e=>h e.symm]
theorem e63: ∀a b c:List Int,a.length=b.length→b.length=c.length→apW a c≤apW a b+apW b c
 | [],[],[],_,_=>jj6 _
 |x::a,y::b,w::c,h1,h2=>by
  have ih:=e63 a b c (by simpa using h1) (by simpa using h2)
  rw[apW,apW,apW]
  by_cases e1:x=y
  ·by_cases e2:y=w
   ·rw[if_pos e1,if_pos e2,if_pos (e1.trans e2)];omega
   ·rw[if_pos e1,if_neg e2];split<;>omega
  ·rw[if_neg e1];split<;>split<;>omega
theorem de2: ∀(x y w:List (El q)),x.length=y.length→w.length=x.length→(∀i,wf w i=wf x i+ -wf y i)→apW (vs x) (vs y)=wtW (vs w)
 | [],[],[],_,_,_=>rfl
 | [],_::_,_,h,_,_=>by cases h
 |_::_,[],_,h,_,_=>by cases h
 | [],[],_::_,_,h,_=>by cases h
 |_::_,_::_,[],_,h,_=>by cases h
 |a::x,b::y,c::w,h1,h2,h=>by
  have ih:=de2 x y w (by simpa using h1) (by simpa using h2) fun i=>by have:=h (i+1);rwa [rw8,rw8,rw8]at this
  have h0:=h 0
  rw[qa6,qa6,qa6]at h0
  rw[e55,e55,e55,apW,wtW,ih]
  congr 1
  by_cases e:a=b
  ·rw[if_pos (by rw[e]),if_pos (by rw[h0,e,FK.add_neg];rfl)]
  ·rw[if_neg fun e2=>e (El.ext' e2),if_neg fun e2=>e ?_]
   have hc:c=0:=El.ext' e2
   rw[hc]at h0
   have h3:a+ -b+b=0+b:=by rw[←h0]
   rwa [FK.add_assoc,neg_add,FK.add_zero,zero_add]at h3
theorem CodeG.apart(h:CodeG q k d R)(ha:a<k)(hd:2≤d){y z:List (El q)}(hy:y.length=R.length)(hz:z.length=R.length)(hne:encL (k-1) y (punR a R)≠encL (k-1) z (punR a R)):
 d-1≤apW (vs (encL (k-1) y (punR a R))) (vs (encL (k-1) z (punR a R))):=by
 obtain⟨u,hu⟩: ∃u:List (El q),u=ofF R.length fun j=>wf y j+ -wf z j:=⟨_,rfl⟩
 have hpl:(punR a R).length=R.length:=by unfold punR;simp
 have e: ∀i,wf (encL (k-1) u (punR a R)) i=wf (encL (k-1) y (punR a R)) i+ -wf (encL (k-1) z (punR a R)) i:=fun i=>by
  rcases Nat.lt_or_ge i (k-1)with hi|hi
  ·rw[mj2 _ hi,mj2 _ hi,mj2 _ hi,←z09,←pv3]
   refine rc1 fun j hj=> ?_
   rw[hu,b43,if_pos (by omega),add_mul,neg_mul]
  ·rw[ez8 (by rw[b87];exact hi),ez8 (by rw[b87];exact hi),ez8 (by rw[b87];exact hi),FK.add_neg]
 have h1:=de2 _ _ _ (by rw[b87,b87]) (by rw[b87,b87]) e
 rw[h1]
 rcases h.pleast ha hd u with h2|h2
 ·exfalso
  refine hne (ou8 (by rw[b87,b87]) (funext fun i=> ?_))
  have h3:=r11 h2 i
  rw[e i]at h3
  have h4:wf (encL (k-1) y (punR a R)) i+ -wf (encL (k-1) z (punR a R)) i+wf (encL (k-1) z (punR a R)) i=0+wf (encL (k-1) z (punR a R)) i:=by rw[h3]
  rwa [FK.add_assoc,neg_add,FK.add_zero,zero_add]at h4
 ·exact h2
theorem gg0{w c:List (El q)}: ∀(l:List (List (El q))) (b:List (El q)),c∈b::l→(∀x∈b::l,x≠c→apW (vs c) (vs w)<apW (vs x) (vs w))→l.foldl (nrB w) b=c
 | [],b,hc,h=>by
   rw[q05]at hc
   exact hc.symm
 |x::l,b,hc,h=>by
  rw[h08]
  have hx:=h x (by simp)
  have hb:=h b (by simp)
  by_cases e1:b=c
  ·have e:nrB w b x=c:=by
    unfold nrB
    rw[if_neg,e1]
    by_cases e2:x=c
    ·rw[e2,e1];omega
    ·have:=hx e2;rw[e1];omega
   rw[e]
   exact gg0 l c rn8 fun y hy hne=>h y (by
    rcases r04.1 hy with e3|e3
    ·exact absurd e3 hne
    ·simp[e3]) hne
  ·by_cases e2:x=c
   ·have e:nrB w b x=c:=by
     unfold nrB
     rw[if_pos (by rw[e2];exact hb e1),e2]
    rw[e]
    exact gg0 l c rn8 fun y hy hne=>h y (by
     rcases r04.1 hy with e3|e3
     ·exact absurd e3 hne
     ·simp[e3]) hne
   ·have hcl:c∈l:=by
     rcases r04.1 hc with e3|e3
     ·exact absurd e3.symm e1
     ·rcases r04.1 e3 with e4|e4
      ·exact absurd e4.symm e2
      ·exact e4
    refine gg0 l _ (iz7 _ hcl) fun y hy hne=> ?_
    rcases r04.1 hy with e3|e3
    ·rw[e3]
     unfold nrB
     split
     ·exact hx e2
     ·exact hb e1
    ·exact h y (by simp[e3]) hne
theorem wc7{w c:List (El q)}{L:List (List (El q))}(hc:c∈L)(h: ∀x∈L,x≠c→apW (vs c) (vs w)<apW (vs x) (vs w)):nrW w L=c:=by
 cases L with
 |nil=>cases hc
 |cons x l=>exact gg0 l x hc h
theorem CodeG.near(h:CodeG q k d R)(ha:a<k)(hd:2≤d){r:Nat}(hr:2*r+1≤d-1){z w:List (El q)}(hz:z.length=(punW a R).length)(hw:w.length=k-1)(hap:apW (vs (encL (k-1) z (punW a R))) (vs w)≤r):
 nrW w (allW (k-1) (punW a R))=encL (k-1) z (punW a R):=by
 refine wc7 (oi3 z hz) fun x hx hne=> ?_
 obtain⟨y,hy,rfl⟩:=(wf9 x).1 hx
 obtain⟨y',a1,a2⟩:=h.words ha y
 obtain⟨z',b1,b2⟩:=h.words ha z
 rw[a2,b2]at hne⊢
 rw[b2]at hap
 have h1:=h.apart ha hd a1 b1 hne
 have h2:=e63 (vs (encL (k-1) y' (punR a R))) (vs w) (vs (encL (k-1) z' (punR a R))) (by rw[fi2,fi2,b87,hw]) (by rw[fi2,fi2,b87,hw])
 rw[wv0 (vs w)]at h2
 omega
end
set_option maxHeartbeats 4000000
section
variable {q:Int} [IsFld q]
theorem y27{q:Nat}(hq:q≤64){n:Nat}(hn:n≤64): ∀(d i p:Nat),i+d=n→p*q^d≤1073741824→0<p→0<q→ ∀ks,
 vgoL W ⟨hNo,[.tmp 4],0⟩ [0,5,6,7] c44L0 (.blk 0 [5]::ks) [(0, .x (.int .i64 q)),(5, .x (.int .i64 p)),(6, .x (.int .i64 n)),(7, .x (.int .i64 i))] []=vgo W ⟨hNo,[.tmp 4],0⟩ ks (VFr.of [(5, .x (.int .i64 ((p*q^d:Nat):Int)))]) []
 |0,i,p,hi,hp,h0,hq0,ks=>by
  obtain rfl:i=n:=by omega
  simp only[Nat.pow_zero,mp4]
  rw[sb5 c44L0.eq_def]
  simp(disch:=first|omega|fail) only[push_cast,seval,vrl,if_pos,if_neg]
 |d+1,i,p,hi,hp,h0,hq0,ks=>by
  have e:p*q^(d+1)=p*q*q^d:=by rw[Nat.pow_succ,Nat.mul_assoc,Nat.mul_comm q]
  rw[e]at hp
  have hpos:1≤q^d:=Nat.pow_pos hq0
  have hle:p*q≤p*q*q^d:=Nat.le_mul_of_pos_right _ hpos
  have hb1:(p:Int)*(q:Int)≤1073741824:=by rw[←Int.natCast_mul];omega
  have hb0:0≤(p:Int)*(q:Int):=by rw[←Int.natCast_mul];omega
  have ih:=y27 hq hn d (i+1) (p*q) (by omega) hp (Nat.mul_pos h0 hq0) hq0 ks
  have hlt:(i:Int)<(n:Int):=by omega
  rw[e96,g71]at ih
  rw[e,←ih,sb5 c44L0.eq_def,Int.natCast_mul]
  simp(disch:=first|omega|fail) only[push_cast,seval,vrl,if_pos,if_neg,dec_lt hlt,cw6 hb1]
theorem z90{Q:Nat} [IsFld (Q:Int)]{n:Nat}(hQ:Q≤64)(hn:n≤64)(h0:0<n)(hQ0:0<Q)(h:Q^n≤1073741824):o24 W 28 [.x (.int .i64 Q), .x (.int .i64 n)] []=some (.x (.int .i64 0),[],[]):=by
 have e0:=fun ks=>y27 hQ hn n 0 1 (by omega) (by omega) (by omega) hQ0 ks
 rw[Nat.one_mul]at e0
 simp only[vx9,g71]at e0
 have e1:o24 W 44 [.x (.int .i64 Q), .x (.int .i64 n)] []=some (.x (.int .i64 ((Q^n:Nat):Int)),[],[]):=by
  rw[o10 rfl T44 rfl]
  unfold F44 c44
  generalize Q^n=P at*
  simp(disch:=first|omega|fail) only[push_cast,seval,vrl,if_pos,if_neg]
  rw[e0]
  simp(disch:=first|omega|fail) only[push_cast,seval,vrl,if_pos,if_neg]
 have hp: ¬((Q^n:Nat):Int)<0:=by omega
 have hn1: ¬(n:Int)<1:=by omega
 rw[o10 rfl T28 rfl]
 unfold F28 c28
 generalize Q^n=P at*
 simp(disch:=first|omega|fail) only[push_cast,seval,vrl,if_pos,if_neg,cw6 (vk3.1 hn1),e1,cw6 (vk3.1 hp)]
theorem x59{l:List Int}{r:Nat}(hr:r≤10)(hl:l.length≤100)(h: ∀w,1≤w→w≤2*r→w<l.length→gi l (w:Int)≤0){T:Tree}{nl:Nat}: ∀(d w:Nat),1≤w→w+d=min (2*r+1) l.length→ ∀ks,
 vgoL W ⟨hNo,[.tmp 4, .tmp 5],0⟩ [1,2,6,8] c10L0 (.blk 0 [1,2]::ks) [(1, .x (.int .i64 r)),(2, .own 0 []),(6, .own 1 []),(8, .x (.int .i64 w))] [T, .sl nl 3 1 (ivs l)]=vgo W ⟨hNo,[.tmp 4, .tmp 5],0⟩ ks (VFr.of [(1, .x (.int .i64 r)),(2, .own 0 [])]) [T, .sl nl 3 1 (ivs l)]
 |0,w,hw,hd,ks=>by
  rw[sb5 c10L0.eq_def]
  by_cases h1:(w:Int)≤2*(r:Int)
  ·have h2:(l.length:Int)≤(w:Int):=by omega
   simp(disch:=first|omega|fail) only[push_cast,seval,vrl,if_pos,if_neg,nl3 h1,cw6 h2]
  ·simp(disch:=first|omega|fail) only[push_cast,seval,vrl,if_pos,if_neg,qc6 (Int.not_le.1 h1)]
 |d+1,w,hw,hd,ks=>by
  have ih:=x59 hr hl h (T:=T) (nl:=nl) d (w+1) (by omega) (by omega) ks
  have h1:(w:Int)≤2*(r:Int):=by omega
  have h2:(w:Int)<(l.length:Int):=by omega
  have h3:=h w hw (by omega) (by omega)
  have h4:(ivs l)[w]? =some (.v (.int .i64 (gi l (w:Int)))):=ui5 (by omega)
  rw[e96,g71]at ih
  rw[←ih,sb5 c10L0.eq_def]
  generalize gi l (w:Int)=x at*
  simp(disch:=first|omega|fail) only[push_cast,seval,vrl,if_pos,if_neg,nl3 h1,dec_lt h2,h4,cw6 h3]
end
set_option maxHeartbeats 4000000
section
variable {R:Tree}
theorem ya5(ks):vgoL W ⟨hNo,[.tmp 4, .tmp 5],0⟩ [2,9,10,60,61] c10L3 (.blk 2 [2,9,10]::ks) [(2, .own 0 []),(9, .x (.int .i64 1)),(10, .x (.int .i64 0)),(60, .x (.int .i64 4)),(61, .x (.int .i64 0))] [.pt 25 [.v (.int .i64 2), .v (.int .i64 23),R]]=
 vgo W ⟨hNo,[.tmp 4, .tmp 5],0⟩ ks (VFr.of [(2, .own 0 []),(9, .x (.int .i64 1)),(10, .x (.int .i64 2048))]) [.pt 25 [.v (.int .i64 2), .v (.int .i64 23),R]]:=by
 repeat (first|rw[sb5 c10L1.eq_def]|rw[sb5 c10L2.eq_def]|rw[sb5 c10L3.eq_def]
         simp(disch:=first|omega|fail) only[push_cast,seval,vrl,if_pos,if_neg])
theorem j64(ks):vgoL W ⟨hNo,[.tmp 4, .tmp 5],0⟩ [2,9,10,60,61] c10L3 (.blk 2 [2,9,10]::ks) [(2, .own 0 []),(9, .x (.int .i64 1)),(10, .x (.int .i64 0)),(60, .x (.int .i64 3)),(61, .x (.int .i64 0))] [.pt 25 [.v (.int .i64 3), .v (.int .i64 11),R]]=
 vgo W ⟨hNo,[.tmp 4, .tmp 5],0⟩ ks (VFr.of [(2, .own 0 []),(9, .x (.int .i64 1)),(10, .x (.int .i64 243))]) [.pt 25 [.v (.int .i64 3), .v (.int .i64 11),R]]:=by
 repeat (first|rw[sb5 c10L1.eq_def]|rw[sb5 c10L2.eq_def]|rw[sb5 c10L3.eq_def]
         simp(disch:=first|omega|fail) only[push_cast,seval,vrl,if_pos,if_neg])
theorem xw1(ks):vgoL W ⟨hNo,[.tmp 4, .tmp 5],0⟩ [2,9,10,96,97] c10L4 (.blk 8 [9,10]::ks) [(2, .own 0 []),(9, .x (.int .i64 1)),(10, .x (.int .i64 2048)),(96, .x (.int .i64 11)),(97, .x (.int .i64 0))] [.pt 25 [.v (.int .i64 2), .v (.int .i64 23),R]]=
 vgo W ⟨hNo,[.tmp 4, .tmp 5],0⟩ ks (VFr.of [(9, .x (.int .i64 2048)),(10, .x (.int .i64 2048))]) [.pt 25 [.v (.int .i64 2), .v (.int .i64 23),R]]:=by
 repeat (rw[sb5 c10L4.eq_def]
         simp(disch:=first|omega|fail) only[push_cast,seval,vrl,if_pos,if_neg])
theorem bu7(ks):vgoL W ⟨hNo,[.tmp 4, .tmp 5],0⟩ [2,9,10,96,97] c10L4 (.blk 8 [9,10]::ks) [(2, .own 0 []),(9, .x (.int .i64 1)),(10, .x (.int .i64 243)),(96, .x (.int .i64 5)),(97, .x (.int .i64 0))] [.pt 25 [.v (.int .i64 3), .v (.int .i64 11),R]]=
 vgo W ⟨hNo,[.tmp 4, .tmp 5],0⟩ ks (VFr.of [(9, .x (.int .i64 243)),(10, .x (.int .i64 243))]) [.pt 25 [.v (.int .i64 3), .v (.int .i64 11),R]]:=by
 repeat (rw[sb5 c10L4.eq_def]
         simp(disch:=first|omega|fail) only[push_cast,seval,vrl,if_pos,if_neg])
end
set_option maxHeartbeats 4000000
theorem vu7{R:List (List (El 2))}{a nl nr:Nat}(hC:CodeG 2 24 8 R)(hR:R.length=12)(ha:a<24):
 o24 W 10 [.agg [.x (.int .i64 2), .x (.int .i64 23), .fz true (.sl nl 0 1 (lvs nr ((punW a R).map vs)))], .x (.int .i64 3)] []=some (.tup [.x (.bool true), .x (.int .i64 0)],[],[]):=by
 have hrow:=hC.wrow ha
 have hlen:(punW a R).length=12:=by unfold punW;rw[ol1,hC.prank ha (by decide),hR]
 have hred:=hC.wred ha
 have hrl:(redR (punW a R)).length=12:=by rw[←ol1 (redR (punW a R)),hred,hlen]
 have hE:=tc0 (q:=2) (k:=23) (N:=punW a R) (by decide) (by decide) (by omega) hrow (sy6 (by omega) hrow (by decide) (by decide))
 have hf:fewQ 2 (redR (punW a R)).length 1=true:=by rw[hrl];decide
 have e1:=fun nl nr=>ir7 (nl:=nl) (nr:=nr) hE (by decide) (by decide) (by omega) hrow hf
 rw[hred]at e1
 haveI:IsFld ((2:Nat):Int):=(inferInstance:IsFld 2)
 have e2:=z90 (Q:=2) (n:=23) (by decide) (by decide) (by decide) (by decide) (by decide)
 have e3:=fun nl nr=>ob1 (nl:=nl) (nr:=nr) hE (by decide) (by decide) (by omega) hrow
 rw[lo1,hred]at e3
 have hwl:=rc0 (k:=23) (punW a R)
 have hlight: ∀w,1≤w→w≤2*3→w<(wgt 23 (punW a R)).length→gi (wgt 23 (punW a R)) (w:Int)≤0:=fun w h1 h2 h3=>by
  have h4:=hu3 (k:=23) (R:=punW a R) (d:=w) (by omega)
  have h5:(allW 23 (punW a R)).filter (fun x=>decide (wtW (vs x)=w))=[]:=List.filter_eq_nil_iff.2 fun x hx=>by
   obtain⟨z,hz,rfl⟩:=(wf9 x).1 hx
   obtain⟨y,_,hy⟩:=hC.words ha z
   have h6:=hC.pleast ha (by decide) y
   have hy':encL 23 z (punW a R)=encL (24-1) y (punR a R):=hy
   rw[hy']
   simp only[jn8]
   omega
  rw[h5]at h4
  unfold gi
  rw[ao0,h4]
  decide
 have e4:=fun T nl ks=>x59 (r:=3) (by decide) (by omega) hlight (T:=T) (nl:=nl) (min (2*3+1) (wgt 23 (punW a R)).length-1) 1 (by decide) (by omega) ks
 have hml:((punW a R).map vs).length=12:=by rw[q11,hlen]
 simp only[show((3:Nat):Int)=3 from rfl,show((1:Nat):Int)=1 from rfl,show((23:Nat):Int)=23 from rfl,show((2:Nat):Int)=2 from rfl]at e1 e2 e3 e4
 have e5:=fun R ks=>ya5 (R:=R) ks
 have e6:=fun R ks=>xw1 (R:=R) ks
 generalize wgt 23 (punW a R)=l at*
 generalize (punW a R).map vs=Mv at*
 rw[o10 rfl T10 rfl]
 unfold F10 c10
 simp(disch:=first|omega|fail) only[push_cast,seval,vrl,if_pos,if_neg,e1,e2]
 rw[e4]
 simp(disch:=first|omega|fail) only[push_cast,seval,vrl,if_pos,if_neg,e3]
 rw[e5]
 simp(disch:=first|omega|fail) only[push_cast,seval,vrl,if_pos,if_neg,hml]
 rw[e6]
 simp(disch:=first|omega|fail) only[push_cast,seval,vrl,if_pos,if_neg]
theorem uh6{R:List (List (El 3))}{a nl nr:Nat}(hC:CodeG 3 12 6 R)(hR:R.length=6)(ha:a<12):
 o24 W 10 [.agg [.x (.int .i64 3), .x (.int .i64 11), .fz true (.sl nl 0 1 (lvs nr ((punW a R).map vs)))], .x (.int .i64 2)] []=some (.tup [.x (.bool true), .x (.int .i64 0)],[],[]):=by
 have hrow:=hC.wrow ha
 have hlen:(punW a R).length=6:=by unfold punW;rw[ol1,hC.prank ha (by decide),hR]
 have hred:=hC.wred ha
 have hrl:(redR (punW a R)).length=6:=by rw[←ol1 (redR (punW a R)),hred,hlen]
 have hE:=tc0 (q:=3) (k:=11) (N:=punW a R) (by decide) (by decide) (by omega) hrow (sy6 (by omega) hrow (by decide) (by decide))
 have hf:fewQ 3 (redR (punW a R)).length 1=true:=by rw[hrl];decide
 have e1:=fun nl nr=>ir7 (nl:=nl) (nr:=nr) hE (by decide) (by decide) (by omega) hrow hf
 rw[hred]at e1
 haveI:IsFld ((3:Nat):Int):=(inferInstance:IsFld 3)
 have e2:=z90 (Q:=3) (n:=11) (by decide) (by decide) (by decide) (by decide) (by decide)
 have e3:=fun nl nr=>ob1 (nl:=nl) (nr:=nr) hE (by decide) (by decide) (by omega) hrow
 rw[lo1,hred]at e3
 have hwl:=rc0 (k:=11) (punW a R)
 have hlight: ∀w,1≤w→w≤2*2→w<(wgt 11 (punW a R)).length→gi (wgt 11 (punW a R)) (w:Int)≤0:=fun w h1 h2 h3=>by
  have h4:=hu3 (k:=11) (R:=punW a R) (d:=w) (by omega)
  have h5:(allW 11 (punW a R)).filter (fun x=>decide (wtW (vs x)=w))=[]:=List.filter_eq_nil_iff.2 fun x hx=>by
   obtain⟨z,hz,rfl⟩:=(wf9 x).1 hx
   obtain⟨y,_,hy⟩:=hC.words ha z
   have h6:=hC.pleast ha (by decide) y
   have hy':encL 11 z (punW a R)=encL (12-1) y (punR a R):=hy
   rw[hy']
   simp only[jn8]
   omega
  rw[h5]at h4
  unfold gi
  rw[ao0,h4]
  decide
 have e4:=fun T nl ks=>x59 (r:=2) (by decide) (by omega) hlight (T:=T) (nl:=nl) (min (2*2+1) (wgt 11 (punW a R)).length-1) 1 (by decide) (by omega) ks
 have hml:((punW a R).map vs).length=6:=by rw[q11,hlen]
 simp only[show((2:Nat):Int)=2 from rfl,show((1:Nat):Int)=1 from rfl,show((11:Nat):Int)=11 from rfl,show((3:Nat):Int)=3 from rfl]at e1 e2 e3 e4
 have e5:=fun R ks=>j64 (R:=R) ks
 have e6:=fun R ks=>bu7 (R:=R) ks
 generalize wgt 11 (punW a R)=l at*
 generalize (punW a R).map vs=Mv at*
 rw[o10 rfl T10 rfl]
 unfold F10 c10
 simp(disch:=first|omega|fail) only[push_cast,seval,vrl,if_pos,if_neg,e1,e2]
 rw[e4]
 simp(disch:=first|omega|fail) only[push_cast,seval,vrl,if_pos,if_neg,e3]
 rw[e5]
 simp(disch:=first|omega|fail) only[push_cast,seval,vrl,if_pos,if_neg,hml]
 rw[e6]
 simp(disch:=first|omega|fail) only[push_cast,seval,vrl,if_pos,if_neg]
end Go.Proofs.Ytppbpgmdmiajcaa
