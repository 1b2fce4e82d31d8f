/-
  TopPolar, in the second machine: all of it. Conditions: those of each theorem.
  A law's arguments in the second machine. No condition.
  PolarMade and TopPolar answer true, in the first machine. Conditions: arguments as memory has them.
-/
import Derived.Test.YtodbgomfeacdhaaK8
import Derived.Test.YtodbgomfeacdhaaK7
set_option linter.unusedVariables false
set_option linter.unusedSimpArgs false
set_option linter.unusedSectionVars false
set_option maxRecDepth 100000
namespace Go.Proofs.Ytodbgomfeacdhaa
open Go.Am Go.Vm Go.Alg
set_option maxHeartbeats 4000000
theorem zq1: ∀{l:List Nat} {ms:List Int} {x:Nat},x∉l→plG l ms x=0
 |p::l,v::ms,x,h=>by
  rw[plG,if_neg fun e=>h (by rw[e];exact List.mem_cons_self),zq1 fun e=>h (List.mem_cons_of_mem _ e)]
 | [],_,_,_=>rfl
 |_::_,[],_,_=>rfl
theorem qs9: ∀{l:List Nat} {ms:List Int},l.Nodup→l.length=ms.length→l.map (plG l ms)=ms
 | [],[],_,_=>rfl
 |p::l,v::ms,hn,hl=>by
  rw[List.nodup_cons]at hn
  rw[List.map_cons,plG,if_pos rfl]
  congr 1
  rw[←qs9 hn.2 (show l.length=ms.length by simpa using hl)]
  refine List.map_congr_left fun x hx=> ?_
  rw[plG,if_neg fun e=>hn.1 (by rw[←e];exact hx),qs9 hn.2 (by simpa using hl)]
section
variable {m:Nat} {ms:List Int} {f:Nat→Bool}
theorem lf7(hf:plW m ms=wU (2^m) f){x:Nat}(hx:x<2^m):plG (ev3 m ms.length) ms x=bZ (f x):=by
 have h1:=b35 (plG (ev3 m ms.length) ms) hx
 unfold plW at hf
 rw[hf]at h1
 have h2:wU (2^m) f=tb (2^m) fun x=>bU (f x):=rfl
 rw[h2,b35 _ hx,bZ_U]at h1
 exact h1.symm
theorem tt5(hf:plW m ms=wU (2^m) f):fzF (ev3 m ms.length).contains m f 0:=fun x hx hc=>by
 have h1:=lf7 hf hx
 have h2:x∉ev3 m ms.length:=fun h=>by
  rw[Nat.zero_add,List.contains_eq_mem,decide_eq_false_iff_not]at hc
  exact hc h
 rw[zq1 h2]at h1
 cases hb:f x with
 |false=>rfl
 |true=>rw[hb]at h1;cases h1
theorem xx5(hm:m≤5)(hk:ms.length≤2^m)(hf:plW m ms=wU (2^m) f):wv6 (ev3 m ms.length) (tb (2^m) fun x=>bZ (f x))=ms:=by
 obtain⟨h1,h2,h3⟩:=qq9 hm hk
 have h4:=qs9 h2 h1
 unfold wv6
 refine Eq.trans (List.map_congr_left fun x hx=> ?_) h4
 rw[b35 _ (h3 x hx),lf7 hf (h3 x hx)]
end
theorem g92{m:Nat}{f:Nat→Bool}{g:Nat→Int}(h:cmF m f g):G3 (2^m) g∧(tb (2^m) g).any notT=false:=by
 have h1:G3 (2^m) g:=fun x hx=>by
  rcases h x hx with h1|h1
  ·rw[h1];exact vb6 (p76 _)
  ·exact .inl h1
 refine⟨h1,List.any_eq_false.2 fun v hv=> ?_⟩
 obtain⟨x,hx,rfl⟩:=List.mem_map.1 hv
 have:=h1 x (List.mem_range.1 hx)
 unfold tri at this
 unfold notT
 rw[decide_eq_false (by omega),decide_eq_false (by omega)]
 decide
section
variable {raw ls:List Int} {b b':Bool} {nl nl':Nat}
theorem jr6(hrl:raw.length≤9223372036854775807)(hll:ls.length≤9223372036854775807)(hlv: ∀v∈ls,-9223372036854775808≤v∧v≤9223372036854775807){m k less:Int}(m1: -9223372036854775808≤m)(m2:m≤9223372036854775807)(k1: -9223372036854775808≤k)(k2:k≤9223372036854775807)(l1: -9223372036854775808≤less)(l2:less≤9223372036854775807):
 o24 W 11 [.fz b (.sl nl 0 1 (ivs raw)), .x (.int .i64 m), .x (.int .i64 k), .fz b' (.sl nl' 0 1 (ivs ls)), .x (.int .i64 less)] []=some (.x (.bool true),[],[]):=by
 by_cases h256:256<IntKind.wrap .i64 ((raw.length:Int)+(ls.length:Int))
 ·rw[o08 rfl T11 rfl]
  unfold F11 c11
  simp(disch:=first|omega|fail) only[push_cast,seval,vrl,if_pos,if_neg,dec_lt h256]
 ·have h256':=cw6 (Int.not_lt.1 h256)
  have p1:=s88 m1 m2 (show(0:Int)<6 by omega)
  have hp1:=h59 (a:=m) (n:=6) (by omega)
  obtain⟨M,hM⟩: ∃M:Nat,pkI m 6=(M:Int):=⟨(pkI m 6).toNat,by omega⟩
  rw[hM]at p1 hp1
  have hM5:M≤5:=by omega
  have hs:=shp hM5
  obtain⟨hs1,hs2,hs3,hs4⟩:=sh3 hM5
  have h32:=pw32 hM5
  have p2:=s88 k1 k2 (show(0:Int)<((2^M:Nat):Int)+1 by omega)
  have hp2:=h59 (a:=k) (n:=((2^M:Nat):Int)+1) (by omega)
  obtain⟨K,hK⟩: ∃K:Nat,pkI k (((2^M:Nat):Int)+1)=(K:Int):=⟨_,(Int.toNat_of_nonneg hp2.1).symm⟩
  rw[hK]at p2 hp2
  have hKM:K≤2^M:=by omega
  --chances
  have c1:=rp8 hM5
  have hll5:=ej4 M
  have c2:=fun ks=>wy9 (raw:=raw) (ls:=ls) (b:=b) (b':=b') (nl:=nl) (nl':=nl') (L:=losI M) (by rw[ej4];omega) (dd0 hM5) (n11:=nlK M) (m:=(M:Int)) (k:=(K:Int)) (less:=less) (losI M).length 0 (by omega) ks
  rw[List.take_zero,List.sum_nil,Int.natCast_zero,jp3 hM5]at c2
  --a word
  have e1:=fun b nl=>en9 (b:=b) (nl:=nl) (raw:=raw) hrl (frm:=0) (by omega) (by omega) (N:=K) (by omega)
  have hwl:=c31 raw 0 K
  obtain⟨f,hf⟩:=zi4 (ms:=wdV raw 0 K) hM5 (by omega) (tv2 raw 0 K)
  have e2:=fun bb nl=>ud0 (bb:=bb) (nl:=nl) (ms:=wdV raw 0 K) hM5 (by omega) hf
  have hfz:=tt5 hf
  have hpk:=xx5 hM5 (by omega) hf
  rw[hwl]at hfz hpk
  have t1:=fun bb nl=>c03 hM5 (trF M f) bb nl
  have t2:=fun bb nl=>c03 hM5 f bb nl
  rw[x70 (N:=2^M) (f:=trF M (trF M f)) (g:=f) fun x hx=>vt8 f x hx]at t1
  have hWU:wU (2^M) (trF M f)=tb (2^M) fun x=>bZ (trF M f x):=List.map_congr_left fun x _=>bZ_U _
  rw[hWU]at e2 t1 t2
  obtain⟨W',hW'⟩: ∃W':Nat→Int,W'=fun x=>bZ (trF M f x):=⟨_,rfl⟩
  rw[←hW']at e2 t1 t2
  have cW:cmF M f W':=fun x _=> .inl (by rw[hW'])
  have cB:cmF M f (lbF (2^M) W' ls ls.length):=fun x _=>by
   have:=l14 (N:=2^M) (W:=W') (ls:=ls) x ls.length
   rw[hW']at this⊢
   exact this
  have cF:cmF M f (lfF (2^M) W' ls less ls.length):=fun x _=>by
   have:=wp5 (N:=2^M) (W:=W') (ls:=ls) (less:=less) x ls.length
   rw[hW']at this⊢
   exact this
  have e3:=fun b nl=>xr6 (b:=b) (nl:=nl) (l:=tb (2^M) W') (by rw[mh1];omega)
  have e4:=fun ks=>yg8 (ls:=ls) (b':=b') (nl':=nl') h32.1 h32.2 (U:=W') hll hlv (n15:=1) (A:=wdV raw 0 K) (m:=(M:Int)) (k:=(K:Int)) (less:=less) ls.length 0 (by omega) ks
  rw[Int.natCast_zero,show lbF (2^M) W' ls 0=W' from rfl,show lfF (2^M) W' ls less 0=W' from rfl]at e4
  --what is told
  have told: ∀(g:Nat→Int),cmF M f g→rdP (ev3 M K).contains M g 0≠none→ ∀nl,o24 W 60 [.x (.int .i64 M), .x (.int .i64 K), .fz true (.sl nl 0 1 (ivs (tb (2^M) g)))] []=some (.tup [.own 0 [], .x (.bool true), .x (.int .i64 0)],[.sl 0 3 1 (ivs (wdV raw 0 K))],[]):=fun g hg hr nl=>by
   cases hr2:rdP (ev3 M K).contains M g 0 with
   |none=>exact absurd hr2 hr
   |some p=>
    obtain⟨a,s⟩:=p
    obtain⟨g1,g2⟩:=g92 hg
    have e:=rq8 hM5 hKM g1 (nl:=nl) g2 hr2
    obtain⟨ha,_⟩:=bi0 hg hfz hr2
    rw[ha,hpk]at e
    exact e
  have mute: ∀(g:Nat→Int),cmF M f g→rdP (ev3 M K).contains M g 0=none→ ∀nl,o24 W 60 [.x (.int .i64 M), .x (.int .i64 K), .fz true (.sl nl 0 1 (ivs (tb (2^M) g)))] []=some (.tup [.own 0 [], .x (.bool false), .x (.int .i64 0)],[.sl 1 3 1 []],[]):=fun g hg hr nl=>by
   obtain⟨g1,g2⟩:=g92 hg
   exact gi9 hM5 hKM g1 (nl:=nl) g2 hr
  have dW:=told _ cW (xm1 cW hfz fun x _=>by
   rw[hW']
   have:=p76 (trF M f x)
   unfold bit at this
   show 0≤bZ (trF M f x)
   omega)
  have hmore:rdP (ev3 M K).contains M (lbF (2^M) W' ls ls.length) 0≠none→rdP (ev3 M K).contains M (lfF (2^M) W' ls less ls.length) 0≠none:=m82 cB cF hfz fun x _ h=>fc1 x ls.length h
  have tB:=told _ cB
  have tF:=told _ cF
  have uB:=mute _ cB
  have uF:=mute _ cF
  clear told mute
  have s1:=fun b b' nl nl'=>nb2 (b:=b) (b':=b') (nl:=nl) (nl':=nl') (l:=wdV raw 0 K) (k:=wdV raw 0 K) (by omega)
  have s2:=fun b b' nl nl'=>nb2 (b:=b) (b':=b') (nl:=nl) (nl':=nl') (l:=tb (2^M) W') (k:=tb (2^M) W') (by rw[mh1];omega)
  simp only[decide_true]at s1 s2
  have wl:=mh1 (2^M) W'
  have hx1: ∀x:Int,(sumS M*2).tdiv 2=sumS M:=fun _=>by rw[Int.mul_tdiv_cancel _ (by decide)]
  have hx1:=hx1 0
  generalize rdP (ev3 M K).contains M (lbF (2^M) W' ls ls.length) 0=RB at*
  generalize rdP (ev3 M K).contains M (lfF (2^M) W' ls less ls.length) 0=RF at*
  generalize tb (2^M) (lbF (2^M) W' ls ls.length)=B at*
  generalize tb (2^M) (lfF (2^M) W' ls less ls.length)=F at*
  generalize wU (2^M) f=T at*
  clear hW' cW cB cF hfz hpk hf hWU
  generalize tb (2^M) W'=Z at*
  generalize wdV raw 0 K=X at*
  generalize losI M=L at*
  generalize sumS M=S at*
  generalize 2^M=N at*
  by_cases hB:RB=none
  ·have dB:=uB hB
   by_cases hF:RF=none
   ·have dF:=uF hF
    clear uB uF tB tF hmore
    rw[o08 rfl T11 rfl]
    unfold F11 c11
    simp(disch:=first|omega|fail) only[push_cast,seval,vrl,if_pos,if_neg,h256',p1,hs,p2,c1,hll5]
    rw[c2]
    simp(disch:=first|omega|fail) only[push_cast,seval,vrl,if_pos,if_neg,hs,hs1,hs2,hx1,e1,e2,wl,e3]
    rw[e4]
    simp(disch:=first|omega|fail) only[push_cast,seval,vrl,if_pos,if_neg,dB,dF,dW,t1,t2,s1,s2]
   ·have dF:=tF hF
    clear uB uF tB tF hmore
    rw[o08 rfl T11 rfl]
    unfold F11 c11
    simp(disch:=first|omega|fail) only[push_cast,seval,vrl,if_pos,if_neg,h256',p1,hs,p2,c1,hll5]
    rw[c2]
    simp(disch:=first|omega|fail) only[push_cast,seval,vrl,if_pos,if_neg,hs,hs1,hs2,hx1,e1,e2,wl,e3]
    rw[e4]
    simp(disch:=first|omega|fail) only[push_cast,seval,vrl,if_pos,if_neg,dB,dF,dW,t1,t2,s1,s2]
  ·have dB:=tB hB
   have dF:=tF (hmore hB)
   clear uB uF tB tF hmore
   rw[o08 rfl T11 rfl]
   unfold F11 c11
   simp(disch:=first|omega|fail) only[push_cast,seval,vrl,if_pos,if_neg,h256',p1,hs,p2,c1,hll5]
   rw[c2]
   simp(disch:=first|omega|fail) only[push_cast,seval,vrl,if_pos,if_neg,hs,hs1,hs2,hx1,e1,e2,wl,e3]
   rw[e4]
   simp(disch:=first|omega|fail) only[push_cast,seval,vrl,if_pos,if_neg,dB,dF,dW,t1,t2,s1,s2]
end
section
variable {h:H} {l:List AV} {ws:List Value}
theorem a23:Vm.VRL h [] (allZ h) (allZ h) [] []:=by rw[Vm.VRL]
theorem dp0(r:Vm.VRL h [] (allZ h) (allZ h) l ws)(v:Value):Vm.VRL h [] (allZ h) (allZ h) (.x v::l) (v::ws):=by
 rw[Vm.VRL];exact⟨v,ws,rfl,by rw[Vm.VR],r⟩
theorem qj5{sa:Option Addr}{c:Nat}{zs:List Int}(hr:RdI h sa c zs): ∀o,sa.map (·.block)=some o→allZ h o:=fun o ho=>by
 rcases hr with⟨rfl,_⟩|⟨_,o2,off,r2,rfl,h1,_⟩
 ·cases ho
 ·cases ho;exact h44 h1
theorem sk6(r:Vm.VRL h [] (allZ h) (allZ h) l ws){sa:Option Addr}{c:Nat}{zs:List Int}(hr:RdI h sa c zs):Vm.VRL h [] (allZ h) (allZ h) (.fz true (.sl 2 0 1 (ivs zs))::l) (.slice sa zs.length c::ws):=by
 rw[Vm.VRL];exact⟨_,ws,rfl,by rw[Vm.VR];exact pd9 hr (qj5 hr),r⟩
end
theorem i59(h:H)(a0:Int)(_: -9223372036854775808≤a0)(_:a0≤9223372036854775807)(a1:Int)(_: -9223372036854775808≤a1)(_:a1≤9223372036854775807)(s2:Option Addr)(c2:Nat)(z2:List Int)(r2:RdI h s2 c2 z2)(_:ss4 h 1 s2=true)(_:z2.length≤9223372036854775807):
 ∃h',call T 9 [.int .i64 a0, .int .i64 a1, .slice s2 z2.length c2] h=some (.bool true,h'):=
 vlaw lw2 (dp0 (dp0 (sk6 a23 r2) _) _) (by apply mb2<;>assumption)
theorem ax7(h:H)(s0:Option Addr)(c0:Nat)(z0:List Int)(r0:RdI h s0 c0 z0)(_:ss4 h 1 s0=true)(_:z0.length≤9223372036854775807)(a1:Int)(_: -9223372036854775808≤a1)(_:a1≤9223372036854775807)(a2:Int)(_: -9223372036854775808≤a2)(_:a2≤9223372036854775807)(a3:Int)(_: -9223372036854775808≤a3)(_:a3≤9223372036854775807)(a4:Int)(_: -9223372036854775808≤a4)(_:a4≤9223372036854775807):
 ∃h',call T 10 [.slice s0 z0.length c0, .int .i64 a1, .int .i64 a2, .int .i64 a3, .int .i64 a4] h=some (.bool true,h'):=
 vlaw lw2 (sk6 (dp0 (dp0 (dp0 (dp0 a23 _) _) _) _) r0) (by apply ak5<;>assumption)
theorem gs7(h:H)(s0:Option Addr)(c0:Nat)(z0:List Int)(r0:RdI h s0 c0 z0)(_:ss4 h 1 s0=true)(_:z0.length≤9223372036854775807)(_: ∀v∈z0,-9223372036854775808≤v∧v≤9223372036854775807)(a1:Int)(_: -9223372036854775808≤a1)(_:a1≤9223372036854775807)(a2:Int)(_: -9223372036854775808≤a2)(_:a2≤9223372036854775807)(s3:Option Addr)(c3:Nat)(z3:List Int)(r3:RdI h s3 c3 z3)(_:ss4 h 1 s3=true)(_:z3.length≤9223372036854775807)(_: ∀v∈z3,-9223372036854775808≤v∧v≤9223372036854775807)(a4:Int)(_: -9223372036854775808≤a4)(_:a4≤9223372036854775807):
 ∃h',call T 11 [.slice s0 z0.length c0, .int .i64 a1, .int .i64 a2, .slice s3 z3.length c3, .int .i64 a4] h=some (.bool true,h'):=
 vlaw lw2 (sk6 (dp0 (dp0 (sk6 (dp0 a23 _) r3) _) _) r0) (by apply jr6<;>assumption)
end Go.Proofs.Ytodbgomfeacdhaa
