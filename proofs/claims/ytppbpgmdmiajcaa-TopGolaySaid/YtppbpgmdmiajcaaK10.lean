/-
  TopGolay: the loop of what is turned, and the law. Conditions: those of each theorem.
  A law's arguments in the second machine. No condition.
  TopGolay answers true, in the first machine. Conditions: arguments as memory has them.
-/
import Derived.Test.YtppbpgmdmiajcaaK0
import Derived.Test.YtppbpgmdmiajcaaK9
import Derived.Test.YtppbpgmdmiajcaaK8
set_option linter.unusedVariables false
set_option linter.unusedSimpArgs false
set_option linter.unusedSectionVars false
set_option maxRecDepth 100000
namespace Go.Proofs.Ytppbpgmdmiajcaa
open Go.Am Go.Vm Go.Alg
set_option maxHeartbeats 4000000
theorem xe5: ∀(l c:List Int) (i:Nat) (x:Int),apW (l.set i x) c≤apW l c+1
 | [],c,i,x=>Nat.le_succ _
 |a::l,[],0,x=>ms7 _
 |a::l,[],i+1,x=>ms7 _
 |a::l,b::c,0,x=>by
  rw[kv0,apW,apW]
  split<;>split<;>omega
 |a::l,b::c,i+1,x=>by
  have:=xe5 l c i x
  rw[List.set_cons_succ,apW,apW]
  omega
section
variable {Q:Nat} [IsFld (Q:Int)] {at':List Int} {bz:Bool} {nl N K r:Nat} {X Y:Tree} {w:List (El (Q:Int))}
theorem li0(hQ0:0<Q)(hN0:0<N)(hat:at'.length≤9223372036854775807)(hr:r≤10)(hN:N≤64)(hw:w.length=N): ∀(e i:Nat) (b:List (El (Q:Int))),i+e=r→b.length=N→ ∃b':List (El (Q:Int)),b'.length=N∧apW (vs b') (vs w)≤apW (vs b) (vs w)+e∧ ∀ks,
 vgoL W ⟨hNo,[.tmp 8],0⟩ [2,9,10,13,16,18,19] c3L0 (.blk 0 [13,16,18]::ks) [(2, .fz bz (.sl nl 0 1 (ivs at'))),(9, .own 0 []),(10, .x (.int .i64 r)),(13, .own 1 []),(16, .own 2 []),(18, .own 3 []),(19, .x (.int .i64 i))] [.pt 25 [.v (.int .i64 (Q:Int)), .v (.int .i64 (K:Int)),X], .pt 25 [.v (.int .i64 (Q:Int)), .v (.int .i64 (N:Int)),Y], .sl 0 3 1 (ivs (vs w)), .sl 0 3 1 (ivs (vs b))]=
  vgo W ⟨hNo,[.tmp 8],0⟩ ks (VFr.of [(13, .own 1 []),(16, .own 2 []),(18, .own 3 [])]) [.pt 25 [.v (.int .i64 (Q:Int)), .v (.int .i64 (K:Int)),X], .pt 25 [.v (.int .i64 (Q:Int)), .v (.int .i64 (N:Int)),Y], .sl 0 3 1 (ivs (vs w)), .sl 0 3 1 (ivs (vs b'))]
 |0,i,b,hi,hb=>by
  obtain rfl:i=r:=by omega
  refine⟨b,hb,jj6 _,fun ks=> ?_⟩
  rw[sb5 c3L0.eq_def]
  generalize vs b=B at*
  generalize vs w=V at*
  simp(disch:=first|omega|fail) only[push_cast,seval,vrl,if_pos,if_neg]
 |e+1,i,b,hi,hb=>by
  have h1:=bd0 (l:=at') (i:=2*(i:Int)) (by omega) (by omega)
  have h2:=bd0 (l:=at') (i:=2*(i:Int)+1) (by omega) (by omega)
  have e1:=fun b nl=>yc3 (b:=b) (nl:=nl) (raw:=at') (i:=2*(i:Int)) (by omega) hat
  have e2:=fun b nl=>yc3 (b:=b) (nl:=nl) (raw:=at') (i:=2*(i:Int)+1) (by omega) hat
  have e3:=s88 (n:=(N:Int)) h1.1 h1.2 (by omega)
  have e4:=s88 (n:=(Q:Int)) h2.1 h2.2 (by omega)
  obtain⟨j,hj,hjN⟩:=o99 (h58 (a:=rwI at' (2*(i:Int))) (n:=(N:Int)) (by omega)).1 (h58 (a:=rwI at' (2*(i:Int))) (n:=(N:Int)) (by omega)).2
  rw[hj]at e3
  have hpx:=h58 (a:=rwI at' (2*(i:Int)+1)) (n:=(Q:Int)) (by omega)
  obtain⟨y,hy⟩: ∃y:El (Q:Int),y.v=pkI (rwI at' (2*(i:Int)+1)) (Q:Int):=⟨⟨_,hpx.1,hpx.2⟩,rfl⟩
  rw[←hy]at e4
  obtain⟨b',k1,k2,ih⟩:=li0 hQ0 hN0 hat hr hN hw e (i+1) (b.set j y) (by omega) (by rw[kb7];exact hb)
  refine⟨b',k1, ?_,fun ks=> ?_⟩
  ·have h3:=xe5 (vs b) (vs w) j y.v
   rw[←g52]at k2
   omega
  ·have ih:=ih ks
   have hs:(ivs (vs b)).set j (.v (.int .i64 y.v))=ivs (vs (b.set j y)):=by rw[←g52];unfold ivs;rw[fx9];rfl
   have hbl:(vs b).length=N:=by rw[fi2,hb]
   have hlt:(i:Int)<(r:Int):=by omega
   rw[e96,g71]at ih
   rw[←ih,sb5 c3L0.eq_def]
   generalize vs (b.set j y)=B2 at*
   generalize vs b=B at*
   generalize vs w=V at*
   generalize rwI at' (2*(i:Int))=x1 at*
   generalize rwI at' (2*(i:Int)+1)=x2 at*
   simp(disch:=first|omega|fail) only[push_cast,seval,vrl,if_pos,if_neg,dec_lt hlt,e1,e2,e3,e4,hs,hbl]
end
theorem s78{q:Int} [IsFld q]{k:Nat}{M:List (List (El q))}(hM: ∀r∈M,r.length=k):wu9 ((p78 (redR M)).map wf):=by
 obtain⟨r1,r2,_⟩:=bi2 hM
 have e:redR (p78 (redR M))=redR M:=jr2 r1 r2
 exact p53 (zu4 r2) (by rw[e,ol1])
theorem gr8:CodeG 2 24 8 RBi:=⟨th6,s78 (k:=24) (bf6 (n:=23) (td5 (by decide))),w83⟩
theorem jq6:CodeG 3 12 6 RT:=⟨xw5,s78 (k:=12) (bf6 (n:=11) (td5 (by decide))),ph1⟩
theorem p25{R:List (List (El 2))}{M0:List (List Int)}(hC:CodeG 2 24 8 R)(hR:R.length=12)(hself:p78 (zt5 24 R)=R)(cB:o24 W 4 [] []=some (.agg [.x (.int .i64 2), .x (.int .i64 24), .own 0 []],[.sl 2 22 1 (lls 2 (R.map vs))],[])){b b':Bool}{nl nl':Nat}{ms at':List Int}(hl:ms.length≤9223372036854775807)(hl2:at'.length≤9223372036854775807){pl:Int}(p1: -9223372036854775808≤pl)(p2:pl≤9223372036854775807)(h64: ¬64<IntKind.wrap .i64 ((ms.length:Int)+(at'.length:Int))):
 o24 W 3 [.x (.int .i64 pl), .fz b (.sl nl 0 1 (ivs ms)), .fz b' (.sl nl' 0 1 (ivs at')), .x (.bool false)] []=some (.x (.bool true),[],[]):=by
 have hE:=tc0 (q:=2) (k:=24) (N:=R) (by decide) (by decide) (by rw[hR];decide) hC.row (sy6 (by rw[hR];decide) hC.row (by decide) (by decide))
 have e1:=fun nl nr=>x92 (nl:=nl) (nr:=nr) hE (by decide) (by decide) (by rw[hR];decide) hC.row
 rw[lo1,hself]at e1
 have e2:=fun nl nr nl' nr'=>uh7 (q:=2) (n:=24) (q':=2) (n':=24) (M:=R.map vs) (M':=R.map vs) (nl:=nl) (nr:=nr) (nl':=nl') (nr':=nr') (by rw[q11,hR];decide) (fun x hx=>by
  obtain⟨y,hy,rfl⟩:=vf1.1 hx
  rw[fi2,hC.row y hy];decide)
 simp only[decide_true,Bool.and_true]at e2
 have e3:=s88 (n:=24) p1 p2 (by decide)
 obtain⟨a,ha,hak⟩:=o99 (h58 (a:=pl) (n:=24) (by decide)).1 (h58 (a:=pl) (n:=24) (by decide)).2
 rw[ha]at e3
 have hak:a<24:=by omega
 have e4:=fun nl nr=>b22 (nl:=nl) (nr:=nr) (a:=a) hE (by decide) (by decide) hak (by rw[hR];decide) hC.row
 rw[lo1,show p78 (redR (R.map fun r=>r.eraseIdx a))=punW a R from rfl]at e4
 have e5:=fun nl nr=>vu7 (nl:=nl) (nr:=nr) hC hR hak
 have hrow:=hC.wrow hak
 have hlen:(punW a R).length=12:=by unfold punW;rw[ol1,hC.prank hak (by decide),hR]
 have hred:=hC.wred hak
 have hrl:(redR (punW a R)).length=12:=by rw[←ol1 (redR (punW a R)),hred,hlen]
 have hE2:=tc0 (q:=2) (k:=23) (N:=punW a R) (by decide) (by decide) (by omega) hrow (sy6 (by omega) hrow (by decide) (by decide))
 obtain⟨Y,hY,hYl⟩:=m61 (raw:=ms) (frm:=0) (q:=2) (n:=12) (by decide)
 have e6:=fun b nl=>vv4 (b:=b) (nl:=nl) (raw:=ms) hl (frm:=0) (q:=2) (by decide) (by decide) (by decide) (N:=12) (by decide)
 rw[hY]at e6
 have e7:=fun nl nr b nl2=>wc4 (nl:=nl) (nr:=nr) (b:=b) (nl2:=nl2) hE2 (by decide) (by decide) (by omega) hrow (m:=Y) (by rw[hYl,hrl])
 rw[hred]at e7
 obtain⟨w,hw⟩: ∃w,w=encL 23 Y (punW a R):=⟨_,rfl⟩
 have hwl:w.length=23:=by rw[hw];exact b87 _ _
 rw[←hw]at e7
 have e8:=fun b nl=>xr6 (b:=b) (nl:=nl) (l:=vs w) (by rw[fi2,hwl];decide)
 haveI:IsFld ((2:Nat):Int):=(inferInstance:IsFld 2)
 have e9:=fun X Y'=>li0 (Q:=2) (K:=24) (N:=23) (r:=3) (bz:=b') (nl:=nl') (X:=X) (Y:=Y') (w:=w) (by decide) (by decide) hl2 (by decide) (by decide) hwl 3 0 w (by decide) hwl
 have hv:(vs w).length=23:=by rw[fi2,hwl]
 have e10:=fun b nl b' nl'=>nb2 (b:=b) (nl:=nl) (b':=b') (nl':=nl') (l:=vs w) (k:=vs w) (by omega)
 rw[ce5 (rfl:vs w=vs w)]at e10
 have hmv:(R.map vs).length=12:=by rw[q11,hR]
 have hmw:((punW a R).map vs).length=12:=by rw[q11,hlen]
 have near: ∀bb:List (El 2),bb.length=23→apW (vs bb) (vs w)≤3→(∀nl nr nw,o24 W 15 [.agg [.x (.int .i64 2), .x (.int .i64 23), .fz true (.sl nl 0 1 (lvs nr ((punW a R).map vs)))], .fz true (.sl nw 0 1 (ivs (vs bb)))] []=some (.tup [.own 0 [], .x (.int .i64 (apW (vs bb) (vs w):Nat)), .x (.int .i64 0)],[.sl 2 3 1 (ivs (vs w))],[]))∧
  ∀b nl b' nl',o24 W 17 [.fz b (.sl nl 0 1 (ivs (vs bb))), .fz b' (.sl nl' 0 1 (ivs (vs w)))] []=some (.x (.int .i64 (apW (vs bb) (vs w):Nat)),[],[]):=fun bb hb hap=>by
  have hn:=hC.near hak (by decide) (r:=3) (by decide) (z:=Y) (w:=bb) (by rw[hYl,hlen]) hb (by rw[←hw,wv0];exact hap)
  refine⟨fun nl nr nw=> ?_,fun b nl b' nl'=> ?_⟩
  ·have h1:=ly5 (nl:=nl) (nr:=nr) (nw:=nw) (w:=bb) hE2 (by decide) (by decide) (by omega) hrow (by rw[hrl];decide) hb (List.length_pos_of_mem (by rw[hred];exact oi3 Y (by rw[hYl,hlen]))) (fun x hx=>by
    obtain⟨z,_,rfl⟩:=(wf9 x).1 hx
    exact b87 _ _)
   rw[hred]at h1
   have hn':nrW bb (allW 23 (punW a R))=w:=by rw[hw];exact hn
   rw[hn',wv0 (vs w)]at h1
   exact h1
  ·have h1:=w75 (b:=b) (nl:=nl) (b':=b') (nl':=nl') (a:=vs bb) (c:=vs w) (by rw[fi2,hb];decide) (by omega)
   rw[bb9 (by rw[hb,hwl])]at h1
   exact h1
 rw[o10 rfl T3 rfl]
 unfold F3 c3
 simp only[show((2:Nat):Int)=2 from rfl,show((23:Nat):Int)=23 from rfl,show((24:Nat):Int)=24 from rfl,show((3:Nat):Int)=3 from rfl,show((12:Nat):Int)=12 from rfl,show((0:Nat):Int)=0 from rfl,show((24:Int)-1)=23 from rfl]at e1 e2 e3 e4 e5 e6 e7 e9 near
 generalize R.map vs=M1 at*
 generalize (punW a R).map vs=M2 at*
 generalize vs Y=Yv at*
 simp(disch:=first|omega|fail) only[push_cast,seval,vrl,if_pos,if_neg,cw6 (vk3.1 h64),cB,e1,e2,hmv,e3,e4,e5,e6,e7,hmw,hv,e8]
 obtain⟨bb,k1,k2,e9⟩:=e9 (.fz (.sl 2 0 1 (lvs 2 M1))) (.fz (.sl 2 0 1 (lvs 2 M2)))
 rw[in6,e03]at k2
 obtain⟨n1,n2⟩:=near bb k1 k2
 rw[e9]
 generalize vs bb=Bv at*
 simp(disch:=first|omega|fail) only[push_cast,seval,vrl,if_pos,if_neg,n1,n2,e10]
theorem yo0{R:List (List (El 3))}{M0:List (List Int)}(hC:CodeG 3 12 6 R)(hR:R.length=6)(hself:p78 (zt5 12 R)=R)(cB:o24 W 4 [] []=some (.agg [.x (.int .i64 2), .x (.int .i64 24), .own 0 []],[.sl 2 22 1 (lls 2 M0)],[]))(cT:o24 W 5 [] []=some (.agg [.x (.int .i64 3), .x (.int .i64 12), .own 0 []],[.sl 2 22 1 (lls 2 (R.map vs))],[])){b b':Bool}{nl nl':Nat}{ms at':List Int}(hl:ms.length≤9223372036854775807)(hl2:at'.length≤9223372036854775807){pl:Int}(p1: -9223372036854775808≤pl)(p2:pl≤9223372036854775807)(h64: ¬64<IntKind.wrap .i64 ((ms.length:Int)+(at'.length:Int))):
 o24 W 3 [.x (.int .i64 pl), .fz b (.sl nl 0 1 (ivs ms)), .fz b' (.sl nl' 0 1 (ivs at')), .x (.bool true)] []=some (.x (.bool true),[],[]):=by
 have hE:=tc0 (q:=3) (k:=12) (N:=R) (by decide) (by decide) (by rw[hR];decide) hC.row (sy6 (by rw[hR];decide) hC.row (by decide) (by decide))
 have e1:=fun nl nr=>x92 (nl:=nl) (nr:=nr) hE (by decide) (by decide) (by rw[hR];decide) hC.row
 rw[lo1,hself]at e1
 have e2:=fun nl nr nl' nr'=>uh7 (q:=3) (n:=12) (q':=3) (n':=12) (M:=R.map vs) (M':=R.map vs) (nl:=nl) (nr:=nr) (nl':=nl') (nr':=nr') (by rw[q11,hR];decide) (fun x hx=>by
  obtain⟨y,hy,rfl⟩:=vf1.1 hx
  rw[fi2,hC.row y hy];decide)
 simp only[decide_true,Bool.and_true]at e2
 have e3:=s88 (n:=12) p1 p2 (by decide)
 obtain⟨a,ha,hak⟩:=o99 (h58 (a:=pl) (n:=12) (by decide)).1 (h58 (a:=pl) (n:=12) (by decide)).2
 rw[ha]at e3
 have hak:a<12:=by omega
 have e4:=fun nl nr=>b22 (nl:=nl) (nr:=nr) (a:=a) hE (by decide) (by decide) hak (by rw[hR];decide) hC.row
 rw[lo1,show p78 (redR (R.map fun r=>r.eraseIdx a))=punW a R from rfl]at e4
 have e5:=fun nl nr=>uh6 (nl:=nl) (nr:=nr) hC hR hak
 have hrow:=hC.wrow hak
 have hlen:(punW a R).length=6:=by unfold punW;rw[ol1,hC.prank hak (by decide),hR]
 have hred:=hC.wred hak
 have hrl:(redR (punW a R)).length=6:=by rw[←ol1 (redR (punW a R)),hred,hlen]
 have hE2:=tc0 (q:=3) (k:=11) (N:=punW a R) (by decide) (by decide) (by omega) hrow (sy6 (by omega) hrow (by decide) (by decide))
 obtain⟨Y,hY,hYl⟩:=m61 (raw:=ms) (frm:=0) (q:=3) (n:=6) (by decide)
 have e6:=fun b nl=>vv4 (b:=b) (nl:=nl) (raw:=ms) hl (frm:=0) (q:=3) (by decide) (by decide) (by decide) (N:=6) (by decide)
 rw[hY]at e6
 have e7:=fun nl nr b nl2=>wc4 (nl:=nl) (nr:=nr) (b:=b) (nl2:=nl2) hE2 (by decide) (by decide) (by omega) hrow (m:=Y) (by rw[hYl,hrl])
 rw[hred]at e7
 obtain⟨w,hw⟩: ∃w,w=encL 11 Y (punW a R):=⟨_,rfl⟩
 have hwl:w.length=11:=by rw[hw];exact b87 _ _
 rw[←hw]at e7
 have e8:=fun b nl=>xr6 (b:=b) (nl:=nl) (l:=vs w) (by rw[fi2,hwl];decide)
 haveI:IsFld ((3:Nat):Int):=(inferInstance:IsFld 3)
 have e9:=fun X Y'=>li0 (Q:=3) (K:=12) (N:=11) (r:=2) (bz:=b') (nl:=nl') (X:=X) (Y:=Y') (w:=w) (by decide) (by decide) hl2 (by decide) (by decide) hwl 2 0 w (by decide) hwl
 have hv:(vs w).length=11:=by rw[fi2,hwl]
 have e10:=fun b nl b' nl'=>nb2 (b:=b) (nl:=nl) (b':=b') (nl':=nl') (l:=vs w) (k:=vs w) (by omega)
 rw[ce5 (rfl:vs w=vs w)]at e10
 have hmv:(R.map vs).length=6:=by rw[q11,hR]
 have hmw:((punW a R).map vs).length=6:=by rw[q11,hlen]
 have near: ∀bb:List (El 3),bb.length=11→apW (vs bb) (vs w)≤2→(∀nl nr nw,o24 W 15 [.agg [.x (.int .i64 3), .x (.int .i64 11), .fz true (.sl nl 0 1 (lvs nr ((punW a R).map vs)))], .fz true (.sl nw 0 1 (ivs (vs bb)))] []=some (.tup [.own 0 [], .x (.int .i64 (apW (vs bb) (vs w):Nat)), .x (.int .i64 0)],[.sl 2 3 1 (ivs (vs w))],[]))∧
  ∀b nl b' nl',o24 W 17 [.fz b (.sl nl 0 1 (ivs (vs bb))), .fz b' (.sl nl' 0 1 (ivs (vs w)))] []=some (.x (.int .i64 (apW (vs bb) (vs w):Nat)),[],[]):=fun bb hb hap=>by
  have hn:=hC.near hak (by decide) (r:=2) (by decide) (z:=Y) (w:=bb) (by rw[hYl,hlen]) hb (by rw[←hw,wv0];exact hap)
  refine⟨fun nl nr nw=> ?_,fun b nl b' nl'=> ?_⟩
  ·have h1:=ly5 (nl:=nl) (nr:=nr) (nw:=nw) (w:=bb) hE2 (by decide) (by decide) (by omega) hrow (by rw[hrl];decide) hb (List.length_pos_of_mem (by rw[hred];exact oi3 Y (by rw[hYl,hlen]))) (fun x hx=>by
    obtain⟨z,_,rfl⟩:=(wf9 x).1 hx
    exact b87 _ _)
   rw[hred]at h1
   have hn':nrW bb (allW 11 (punW a R))=w:=by rw[hw];exact hn
   rw[hn',wv0 (vs w)]at h1
   exact h1
  ·have h1:=w75 (b:=b) (nl:=nl) (b':=b') (nl':=nl') (a:=vs bb) (c:=vs w) (by rw[fi2,hb];decide) (by omega)
   rw[bb9 (by rw[hb,hwl])]at h1
   exact h1
 rw[o10 rfl T3 rfl]
 unfold F3 c3
 simp only[show((3:Nat):Int)=3 from rfl,show((11:Nat):Int)=11 from rfl,show((12:Nat):Int)=12 from rfl,show((2:Nat):Int)=2 from rfl,show((6:Nat):Int)=6 from rfl,show((0:Nat):Int)=0 from rfl,show((12:Int)-1)=11 from rfl]at e1 e2 e3 e4 e5 e6 e7 e9 near
 generalize R.map vs=M1 at*
 generalize (punW a R).map vs=M2 at*
 generalize vs Y=Yv at*
 simp(disch:=first|omega|fail) only[push_cast,seval,vrl,if_pos,if_neg,cw6 (vk3.1 h64),cB,cT,e1,e2,hmv,e3,e4,e5,e6,e7,hmw,hv,e8]
 obtain⟨bb,k1,k2,e9⟩:=e9 (.fz (.sl 2 0 1 (lvs 2 M1))) (.fz (.sl 2 0 1 (lvs 2 M2)))
 rw[in6,e03]at k2
 obtain⟨n1,n2⟩:=near bb k1 k2
 rw[e9]
 generalize vs bb=Bv at*
 simp(disch:=first|omega|fail) only[push_cast,seval,vrl,if_pos,if_neg,n1,n2,e10]
theorem s25{b b':Bool}{nl nl':Nat}{ms at':List Int}(hl:ms.length≤9223372036854775807)(hl2:at'.length≤9223372036854775807){pl:Int}(p1: -9223372036854775808≤pl)(p2:pl≤9223372036854775807)(h64: ¬64<IntKind.wrap .i64 ((ms.length:Int)+(at'.length:Int))):
 o24 W 3 [.x (.int .i64 pl), .fz b (.sl nl 0 1 (ivs ms)), .fz b' (.sl nl' 0 1 (ivs at')), .x (.bool false)] []=some (.x (.bool true),[],[]):=by
 have cB:=ub0
 rw[lo1]at cB
 exact p25 (M0:=[]) gr8 s18 xz0 cB hl hl2 p1 p2 h64
theorem lj6{b b':Bool}{nl nl':Nat}{ms at':List Int}(hl:ms.length≤9223372036854775807)(hl2:at'.length≤9223372036854775807){pl:Int}(p1: -9223372036854775808≤pl)(p2:pl≤9223372036854775807)(h64: ¬64<IntKind.wrap .i64 ((ms.length:Int)+(at'.length:Int))):
 o24 W 3 [.x (.int .i64 pl), .fz b (.sl nl 0 1 (ivs ms)), .fz b' (.sl nl' 0 1 (ivs at')), .x (.bool true)] []=some (.x (.bool true),[],[]):=by
 have cB:=ub0
 have cT:=c86
 rw[lo1]at cT
 exact yo0 jq6 fc9 ui7 cB cT hl hl2 p1 p2 h64
theorem i00{b b':Bool}{nl nl':Nat}{ms at':List Int}(hl:ms.length≤9223372036854775807)(hl2:at'.length≤9223372036854775807){pl:Int}(p1: -9223372036854775808≤pl)(p2:pl≤9223372036854775807){t:Bool}:
 o24 W 3 [.x (.int .i64 pl), .fz b (.sl nl 0 1 (ivs ms)), .fz b' (.sl nl' 0 1 (ivs at')), .x (.bool t)] []=some (.x (.bool true),[],[]):=by
 by_cases h64:64<IntKind.wrap .i64 ((ms.length:Int)+(at'.length:Int))
 ·rw[o10 rfl T3 rfl]
  unfold F3 c3
  simp(disch:=first|omega|fail) only[push_cast,seval,vrl,if_pos,if_neg,dec_lt h64]
 ·cases t with
  |false=>exact s25 hl hl2 p1 p2 h64
  |true=>exact lj6 hl hl2 p1 p2 h64
section
variable {h:H} {l:List AV} {ws:List Value}
theorem a23:Vm.VRL h [] (allZ h) (allZ h) [] []:=by rw[Vm.VRL]
theorem dp0(r:Vm.VRL h [] (allZ h) (allZ h) l ws)(v:Value):Vm.VRL h [] (allZ h) (allZ h) (.x v::l) (v::ws):=by
 rw[Vm.VRL];exact⟨v,ws,rfl,by rw[Vm.VR],r⟩
theorem qj4{sa:Option Addr}{c:Nat}{zs:List Int}(hr:RdI h sa c zs): ∀o,sa.map (·.block)=some o→allZ h o:=fun o ho=>by
 rcases hr with⟨rfl,_⟩|⟨_,o2,off,r2,rfl,h1,_⟩
 ·cases ho
 ·cases ho;exact h42 h1
theorem sk6(r:Vm.VRL h [] (allZ h) (allZ h) l ws){sa:Option Addr}{c:Nat}{zs:List Int}(hr:RdI h sa c zs):Vm.VRL h [] (allZ h) (allZ h) (.fz true (.sl 2 0 1 (ivs zs))::l) (.slice sa zs.length c::ws):=by
 rw[Vm.VRL];exact⟨_,ws,rfl,by rw[Vm.VR];exact pd9 hr (qj4 hr),r⟩
end
theorem qe3(h:H)(a0:Int)(_: -9223372036854775808≤a0)(_:a0≤9223372036854775807)(s1:Option Addr)(c1:Nat)(z1:List Int)(r1:RdI h s1 c1 z1)(_:ss4 h 1 s1=true)(_:z1.length≤9223372036854775807)(s2:Option Addr)(c2:Nat)(z2:List Int)(r2:RdI h s2 c2 z2)(_:ss4 h 1 s2=true)(_:z2.length≤9223372036854775807)(a3:Bool):
 ∃h',call T 3 [.int .i64 a0, .slice s1 z1.length c1, .slice s2 z2.length c2, .bool a3] h=some (.bool true,h'):=
 vlaw lw2 (dp0 (sk6 (sk6 (dp0 a23 _) r2) r1) _) (by apply i00<;>assumption)
end Go.Proofs.Ytppbpgmdmiajcaa
