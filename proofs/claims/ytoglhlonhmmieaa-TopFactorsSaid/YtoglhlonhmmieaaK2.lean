/-
  Ranges over functions in the small machine: an iterator's run is true to the model. No condition. THE SMALL MACHINE IS TRUE TO THE MODEL, whole functions, ranges over functions too: where it computes  ..
-/
import Derived.Test.YtoglhlonhmmieaaK1
set_option linter.unusedVariables false
set_option linter.unusedSimpArgs false
set_option linter.unusedSectionVars false
set_option maxRecDepth 100000
namespace Go.Am
def sl9(L:List (Nat×Value))(A:Array Value):Array Value:=L.foldl (fun tm (p:Nat×Value)=>tm.setIfInBounds p.1 p.2) A
theorem i66: ∀(L:List (Nat×Value)) (A:Array Value),(sl9 L A).size=A.size
 | [],A=>rfl
 |p::L,A=>by
  show(sl9 L (A.setIfInBounds p.1 p.2)).size=_
  rw[i66 L];simp
theorem aq1: ∀(L:List (Nat×Value)) (A:Array Value) (t:Nat),(∀p∈L,p.1≠t)→(sl9 L A)[t]? =A[t]?
 | [],A,t,_=>rfl
 |p::L,A,t,h=>by
  show(sl9 L (A.setIfInBounds p.1 p.2))[t]? =_
  rw[aq1 L _ t fun q hq=>h q (List.mem_cons_of_mem _ hq)]
  exact Array.getElem?_setIfInBounds_ne (h p List.mem_cons_self)
theorem wl7: ∀(L:List (Nat×Value)) (A:Array Value) (t:Nat) (v:Value),(L.map Prod.fst).Nodup→(t,v)∈L→t<A.size→(sl9 L A)[t]? =some v
 | [],A,t,v,_,h,_=>by cases h
 |p::L,A,t,v,hn,h,hs=>by
  show(sl9 L (A.setIfInBounds p.1 p.2))[t]? =_
  rw[List.map_cons,List.nodup_cons]at hn
  rcases List.mem_cons.1 h with e|h
  ·rw[←e]at hn⊢
   rw[aq1 L _ t fun q hq e2=>hn.1 (by have hm:=List.mem_map_of_mem (f:=Prod.fst) hq;rw[e2]at hm;exact hm)]
   simp[hs]
  ·exact wl7 L _ t v hn.2 h (by simpa using hs)
theorem n89{ps:Array Tmp}{xs:Array Value}{A:Array Value}:(ps.zip xs).foldl (fun tm (p:Tmp×Value)=>tm.setIfInBounds p.1 p.2) A=sl9 (ps.toList.zip xs.toList) A:=by
 rw[←Array.foldl_toList,Array.toList_zip]
 rfl
theorem el8: ∀(l:List Nat) (m:List Value),l.Nodup→((l.zip m).map Prod.fst).Nodup
 | [],m,_=>by simp
 |a::l,[],_=>by simp
 |a::l,b::m,h=>by
  rw[List.zip_cons_cons,List.map_cons,List.nodup_cons]
  obtain⟨h1,h2⟩:=List.nodup_cons.1 h
  refine⟨fun hm=>h1 ?_,el8 l m h2⟩
  obtain⟨⟨x,y⟩,h3,h4⟩:=List.mem_map.1 hm
  have h4:x=a:=h4
  rw[←h4]
  exact(List.of_mem_zip h3).1
theorem PreOK.look{P:Program}{nt:Nat}{Y:List Nat}{ops:Array Oper}: ∀{l:List (Option AOper)} {i:Nat},PreOK P nt Y ops i l→ ∀x∈l.filterMap (fun x=>x),q08 nt x∧ ∀d,x.dst=some d→d∉Y
 | [],_,_,x,hx=>by simp at hx
 |none::l,i,hp,x,hx=>by
  cases hp with
  |mv _ _ _ _ _ _ hp=>exact hp.look x hx
 |some ao::l,i,hp,x,hx=>by
  cases hp with
  |op ho hc hlk hdY hp=>
   rcases List.mem_cons.1 hx with e|hx
   ·subst e
    exact⟨hlk,fun d hd=>hdY d (by rw[←hc.dst];exact hd)⟩
   ·exact hp.look x hx
def RgD.mvs(R:RgD)(args:List Operand):List (Nat×Operand):=(R.Kb.map fun t=>(t+R.o3, .tmp t))++(R.ps.zip args).map fun p=>(p.1+R.o3,shx R.o2 p.2)
theorem RgD.moves_eq(R:RgD)(args:List Operand):R.moves args=⟨some R.J, .pick (.tmp R.J) (.tmp (R.J+1)) (.const (.bool false)),none,false⟩::(R.mvs args).map fun p=>⟨some p.1, .mv p.2,none,false⟩:=by
 unfold RgD.moves RgD.mvs
 simp only[List.map_append,List.map_map,Function.comp_def,List.cons_append]
structure FxI (R:RgD) (fr0:Fr) (l:Nat) (jb:Bool) (fr:Fr) (tm:Array Value):Prop where
 lo:Less (· <R.nt1) fr0 fr
 y: ∀y∈R.Y,fr (y+R.o2)=none
 hi: ∀t,R.o3≤t→t≠R.J→fr t=none
 j:fr R.J=none∨fr R.J=some (.bool jb)
 t0:tm[0]? =some (.func (.yield l) #[] #[])
theorem FxI.keep{R:RgD}{fr0:Fr}{l:Nat}{jb:Bool}{fr:Fr}{tm:Array Value}(h:FxI R fr0 l jb fr tm)(ks:List Nat):FxI R fr0 l jb (Fr.of (hy3 fr ks)) tm:=by
 refine⟨h.lo.keep ks,fun y hy=> ?_,fun t h1 h2=> ?_, ?_,h.t0⟩
 ·rcases c40 fr ks (y+R.o2)with e|e
  ·exact e
  ·rw[e];exact h.y y hy
 ·rcases c40 fr ks t with e|e
  ·exact e
  ·rw[e];exact h.hi t h1 h2
 ·rcases c40 fr ks R.J with e|e
  ·exact .inl e
  ·rw[e];exact h.j
theorem FxI.next{R:RgD}{fr0:Fr}{l:Nat}{jb:Bool}{fr fr1:Fr}{tm tm1:Array Value}(hy0:0∈R.Y)(h:FxI R fr0 l jb fr tm)(h1: ∀t,(t<R.o2∨R.o2+R.nt2≤t)→fr1 t=fr t)(h2: ∀y∈R.Y,fr1 (y+R.o2)=fr (y+R.o2)∧tm1[y]? =tm[y]?):FxI R fr0 l jb fr1 tm1:=by
 refine⟨h.lo.same fun t ht=>h1 t (.inl ht),fun y hy=>by rw[(h2 y hy).1];exact h.y y hy,fun t h3 h4=>by rw[h1 t (.inr h3)];exact h.hi t h3 h4, ?_,by rw[(h2 0 hy0).2];exact h.t0⟩
 rw[h1 R.J (.inr (Nat.le_add_right (R.nt1+R.nt2) R.nt1))]
 exact h.j
section
variable {P:Program} {B0 B1:Nat→Prop} {T:Tab}
theorem ai2(hT:xp2 P T)(hm:P.follows .mixedOrders=true){N:Nat}(hC: ∀m,m≤N→ ∀f,zb8 P B1 T (goN T m) f){rs:List ARes}{v:Value}{h':H}{R:RgD}{K1:List Nat}{ksR:List It}{b:Frame}{c:Frame}{cs:List Frame}{l:Nat}{rc:Loop}{φ0:Ren}{n0:Nat}{cs0:List Frame}{f0:FuncId}
 (hsub: ∀k,B0 k→B1 k) (hl0: ¬B0 l) (hl1:B1 l) (hro:b.roundOf=none) (hki:b.kind= .normal) {fn2:Func} (hf2:P.funcs[b.fn]? =some fn2) (hres:fn2.results= #[]) {Wx:World→Prop} (hWb: ∀{w w'},Wx w→Bel B1 w w'→Wx w') (hWp: ∀{w} x,Wx w→Wx (w.putObj l (.loop x)))
 (hasg:CRo P R.nt1 R.o3 [] (fun _ _ _=>False) [] rc.assign R.cA) (hbod:CRo P R.nt1 R.o3 [] (X3 R.J R.M3) [] rc.body R.cB)
 (hy0:0∈R.Y) (hylt: ∀y∈R.Y,y<R.nt2) (hKb: ∀t∈R.Kb,t<R.nt1∧t∉R.ps) (hps:rc.params.toList=R.ps∧R.ps.Nodup∧ ∀t∈R.ps,t<R.nt1) (hK3: ∀t∈R.K3,t<R.o3∨t=R.J)
 (hst:rc.state= .ready) (hpd:rc.pending=none) {fr0:Fr} (hF0:FR φ0 n0 R.nt1 fr0 rc.tmps)
 (hend: ∀m,m≤N→ ∀(jb:Bool) (fr:Fr) (h:H) (φ:Ren) (w:World),goN T m rs ksR (Fr.of (hy3 fr (R.J::K1))) h=some (v,h')→Less (· <R.nt1) fr0 fr→(fr R.J=none∨fr R.J=some (.bool jb))→HR φ B1 h w→Wx w→w.heap[l]? =some (.loop (rcAt rc jb))→GX P B0 cs0 f0 v h' φ0 n0 cs (c.finish (.tuple #[])) φ h.length w):
 ∀n,n≤N+1→ ∀(jb:Bool) {S:List Nat} {ks:List It} {k:List Item} {fr:Fr} {h:H} {φ:Ren} {w:World} {a:Act},IRo P R.nt2 R.o2 R.Y (X2 P R) (fun ks k=>ks= .blk R.M (R.J::K1)::ksR∧k=[]) S ks k→goN T n rs ks fr h=some (v,h')→FxI R fr0 l jb fr a.tmps→
  FR φ h.length R.nt2 (fr.win R.o2 R.nt2) a.tmps→HR φ B1 h w→(Wx w∧w.heap[l]? =some (.loop (rcAt rc jb)))→a.defers=[]→GX P B0 cs0 f0 v h' φ0 n0 (c::cs) (b.atR a k) φ h.length w:=by
 intro n
 induction n using Nat.strongRecOn with
 |_ n ih=>
 intro hn jb S ks k fr h φ w a hI hr hX hF hH hw hd
 obtain⟨n,rfl,hr⟩:=gS hr
 have hrun2: ∀tm w,(results fn2 tm).run P w= .ok (.tuple #[]) w:=fun tm w=>by simp[results,hres]
 --the iterator's end
 have fin: ∀(m:Nat) {k:List Item} {fr:Fr} {h:H} {φ:Ren} {w:World} {a:Act} {fx:Frame},m≤N→goN T m rs ksR (Fr.of (hy3 fr (R.J::K1))) h=some (v,h')→FxI R fr0 l jb fr a.tmps→HR φ B1 h w→(Wx w∧w.heap[l]? =some (.loop (rcAt rc jb)))→
  step P (lone (b.atR a k) (c::cs) w)= .next (lone fx (c::cs) w)→fx.mode= .returning→fx.defers=[]→fx.kind= .normal→fx.fn=b.fn→GX P B0 cs0 f0 v h' φ0 n0 (c::cs) (b.atR a k) φ h.length w:=by
  intro m k fr h φ w a fx hm' hr hX hH hw hst2 g1 g2 g3 g4
  have hleave:fx.leaving P w (.returned (.tuple #[])):=⟨g1,g2,g3,fn2,by rw[g4];exact hf2,hrun2 _ _⟩
  exact GX.back (.head hst2 (.one (step_leave_returned hleave))) (hend m hm' jb fr h φ w hr hX.lo hX.j hH hw.1 hw.2) (Ext.refl _ _) (Nat.le_refl _) (Bel.refl _ _)
 refine pt1 (o:=R.o2) (Y:=R.Y) (cs:=c::cs) (ds:=[]) (Fx:=FxI R fr0 l jb) (Wx:=fun w=>Wx w∧w.heap[l]? =some (.loop (rcAt rc jb))) (G:=GX P B0 cs0 f0 v h' φ0 n0 (c::cs))
  hT hm (hC n (by omega)) (oa1 n) (fun ρ=>ab0 hT.good n) (fun h1 h2 h3 h4 h5=>GX.back h1 h2 h3 h4 (h5.sub hsub)) (fun ks hx=>hx.keep ks) (fun hx h1 h2=>hx.next hy0 h1 h2)
  (fun hw hb=>⟨hWb hw.1 hb,by rw[hb.block l hl1];exact hw.2⟩) ?_ ?_ (fun hI hr hX hF hH hw hd=>ih n (by omega) (by omega) jb hI hr hX hF hH hw hd) hI hr hX hF hH hw hd
 ·rintro ks k fr h φ w a ⟨rfl,rfl⟩ hr hX hF hH hw hd
  exact fin n (by omega) hr hX hH hw (stepR_end hro) rfl hd hki rfl
 ·rintro S c2 c' ks k fr h φ w a hx hk hr hX hF hH hw hd
  cases hx with
  |ret hS=>
   obtain⟨ks0,k0,⟨rfl,rfl⟩,hp⟩:=is1 hk hS
   have hp2:gc2 R.M ks=some (R.J::K1,ksR):=by rw[hp];simp[gc2]
   simp only[gF,hp2]at hr
   exact fin n (by omega) hr hX hH hw (stepR_ret hro) rfl hd hki rfl
  |yield id ops pre post y d o cl hpre ho hop hcal hy hargs hsz hdst hdlt hdY hgd hpost hlen=>
   have hJ3:R.J=R.o3+R.nt1:=rfl
   have ho3:R.o3=R.o2+R.nt2:=rfl
   have ho2:R.o2=R.nt1:=rfl
   --the small machine
   have hr1:goN T n rs (.code (.region ((pre.filterMap fun x=>x).map (AOper.sh R.o2)++R.moves cl.args.toList)):: .code (.seq (.block R.M3 R.K3 (.seq R.cA R.cB)) (.region (⟨some (d+R.o2), .un .not (.tmp R.J),none,false⟩::post.map (AOper.sh R.o2))))::ks) fr h=some (v,h'):=hr
   clear hr
   obtain⟨m1,rfl,hr2⟩:=gS hr1
   clear hr1
   simp only[gF]at hr2
   split at hr2
   case h_2=>cases hr2
   rename_i fr1 h1 hops
   obtain⟨m2,rfl,hr3⟩:=gS hr2
   have hr4:goN T m2 rs (.code (.block R.M3 R.K3 (.seq R.cA R.cB)):: .code (.region (⟨some (d+R.o2), .un .not (.tmp R.J),none,false⟩::post.map (AOper.sh R.o2)))::ks) fr1 h1=some (v,h'):=hr3
   clear hr2 hr3
   obtain⟨m3,rfl,hr5⟩:=gS hr4
   have hr6:goN T m3 rs (.code (.seq R.cA R.cB):: .blk R.M3 R.K3:: .code (.region (⟨some (d+R.o2), .un .not (.tmp R.J),none,false⟩::post.map (AOper.sh R.o2)))::ks) fr1 h1=some (v,h'):=hr5
   clear hr4 hr5
   obtain⟨m4,rfl,hr7⟩:=gS hr6
   have hr8:goN T m4 rs (.code R.cA:: .code R.cB:: .blk R.M3 R.K3:: .code (.region (⟨some (d+R.o2), .un .not (.tmp R.J),none,false⟩::post.map (AOper.sh R.o2)))::ks) fr1 h1=some (v,h'):=hr7
   clear hr6 hr7
   obtain⟨fr2,h2,hpr,hmv⟩:=eu7 hops
   have hlook:=hpre.look
   obtain⟨hprw,hpro⟩:=zd6 (fun x hx=>(hlook x hx).1) hpr
   have hout2: ∀t,(t<R.o2∨R.o2+R.nt2≤t)→fr2 t=fr t:=fun t ht=>hpro t fun x hx e=>by
    cases hd2:x.dst with
    |none=>rw[hd2]at e;cases e
    |some d2=>
     rw[hd2]at e
     have h5:=(hlook x hx).1.2 d2 hd2
     have e:d2+R.o2=t:=Option.some.inj e
     omega
   rw[RgD.moves_eq]at hmv
   obtain⟨jv,h3,hjv,hmv2⟩:=ae3 (by simp) hmv
   clear hmv
   have hjf:fr2 R.J=some (.bool false)∧jv=some (.bool false)∧h3=h2:=by
    have e1:fr2 R.J=fr R.J:=hout2 _ (.inr (by omega))
    have e2:fr2 (R.J+1)=none:=(hout2 _ (.inr (by omega))).trans (hX.hi _ (by omega) (by omega))
    simp only[aop,ev]at hjv
    cases hj2:fr2 R.J with
    |none=>rw[hj2]at hjv;cases hjv
    |some jw=>
     rw[hj2]at hjv
     rcases hX.j with e3|e3
     ·rw[e1,e3]at hj2;cases hj2
     ·rw[e1,e3]at hj2
      cases hj2
      cases jb with
      |true=>simp[ev,e2]at hjv
      |false=>
       simp[ev,show closed (.bool false)=true from rfl]at hjv
       exact⟨rfl,hjv.1.symm,hjv.2.symm⟩
   obtain⟨hj2,rfl,rfl⟩:=hjf
   have hjb:jb=false:=by
    have e1:fr2 R.J=fr R.J:=hout2 _ (.inr (by omega))
    rcases hX.j with e3|e3
    ·rw[e1,e3]at hj2;cases hj2
    ·rw[e1,e3]at hj2;cases hj2;rfl
   subst hjb
   have hrc:rcAt rc false=rc:=by cases rc;simp[rcAt]at hst hpd⊢;exact⟨hst.symm,hpd.symm⟩
   rw[hrc]at hw
   obtain⟨rfl,hmo,hmi⟩:=cf7 (o3:=R.o3) (R.mvs cl.args.toList) (fun p hp=>by
    rcases List.mem_append.1 hp with hp|hp<;>(obtain⟨q,_,rfl⟩:=List.mem_map.1 hp;exact Nat.le_add_left _ _))
    (fun p hp t ht=>by
      rcases List.mem_append.1 hp with hp|hp
      ·obtain⟨q,hq,rfl⟩:=List.mem_map.1 hp
       have ht:q=t:=by injection ht
       have:=(hKb q hq).1
       subst ht
       exact Nat.lt_of_lt_of_le this (by omega)
      ·obtain⟨⟨q,x⟩,hq,rfl⟩:=List.mem_map.1 hp
       have hx:=hargs x (List.of_mem_zip hq).2
       cases x with
       |tmp u=>
        have ht:u+R.o2=t:=by injection ht
        have hx:u<R.nt2:=hx
        rw[←ht]
        exact Nat.lt_of_lt_of_le (Nat.add_lt_add_right hx R.o2) (by omega)
       |_=>cases ht) hmv2
   have hk1: ∀t,t<R.o3∨t=R.J→ ∀p∈R.mvs cl.args.toList,p.1≠t:=fun t ht p hp e=>by
    rcases List.mem_append.1 hp with hp|hp
    ·obtain⟨q,hq,rfl⟩:=List.mem_map.1 hp
     have:=(hKb q hq).1
     have e:q+R.o3=t:=e
     omega
    ·obtain⟨⟨q,x⟩,hq,rfl⟩:=List.mem_map.1 hp
     have:=hps.2.2 q (List.of_mem_zip hq).1
     have e:q+R.o3=t:=e
     omega
   have hE1: ∀t,t<R.o3→fr1 t=fr2 t:=fun t ht=>by
    rw[hmo t (hk1 t (.inl ht))]
    exact pc9 (fun e=>by have e2:R.J=t:=Option.some.inj e;omega)
   have hEJ:fr1 R.J=some (.bool false):=by rw[hmo _ (hk1 _ (.inr rfl)),qd0]
   have hwin:(fr2.put (some R.J) (some (.bool false))).win R.o2 R.nt2=fr2.win R.o2 R.nt2:=by
    funext t
    by_cases ht:t<R.nt2
    ·rw[uf3 ht,uf3 ht]
     exact pc9 (fun e=>by have e2:R.J=t+R.o2:=Option.some.inj e;omega)
    ·rw[sz2 ht,sz2 ht]
   --the model
   have hYw: ∀y∈R.Y,fr.win R.o2 R.nt2 y=none:=fun y hy=>by rw[uf3 (hylt y hy)];exact hX.y y hy
   intro hE0 hn0
   obtain⟨φ2,w2,a2,s1,s2,s3,s4,s5,s6,s7,s8,s9,s10,s11⟩:=n48 (P:=P) (B:=B1) hT (hC _ (by omega)) (oa1 _) (b:=b) (cs:=c::cs) (k:=k) (ds:=[]) (yv:= .func (.yield l) #[] #[]) hylt hy0 pre 0 hpre hprw (pre.length::List.range' (pre.length+1) post.length) hd hF hH hYw hX.t0
   have hyv:a2.tmps[y]? =some (.func (.yield l) #[] #[]):=by
    rcases hy with rfl|⟨i,x,_,h5,h6,h7⟩
    ·exact s9
    ·exact s11 i x y h5 (by rw[Nat.zero_add];exact h6) h7
   have hrange:List.range ops.size=List.range' 0 pre.length++(pre.length::List.range' (pre.length+1) post.length):=by
    rw[List.range_eq_range',←hlen,show pre.length+1+post.length=pre.length+(post.length+1) by omega,←List.range'_append_1,List.range'_succ,Nat.zero_add]
   have hW2:Wx w2:=hWb hw.1 s7
   have hl2:w2.heap[l]? =some (.loop rc):=by rw[s7.block l hl1];exact hw.2
   have hE2:Ext φ0 n0 φ2:=hE0.trans s5 hn0
   have hn2:n0≤h1.length:=Nat.le_trans hn0 s6
   have hF3:FR φ2 h1.length R.nt1 (fr1.win R.o3 R.nt1) (sl9 (rc.params.toList.zip (cl.args.map a2.eval).toList) rc.tmps):=by
    refine⟨by rw[i66];exact hF0.1,fun t u hu=> ?_⟩
    have ht:t<R.nt1:=Classical.byContradiction fun hn=>by rw[sz2 hn]at hu;cases hu
    rw[uf3 ht]at hu
    by_cases hex: ∃p∈R.mvs cl.args.toList,p.1=t+R.o3
    ·obtain⟨p,hp,hp1,hp2⟩:=hmi (t+R.o3) u hex hu
     rcases List.mem_append.1 hp with hp|hp
     ·obtain⟨q,hq,rfl⟩:=List.mem_map.1 hp
      have e:q=t:=Nat.add_right_cancel hp1
      subst e
      have hv:fr2 q=some u:=by
       have h5:(fr2.put (some R.J) (some (.bool false))) q=some u:=hp2
       rw[pc9 (fun e=>by have e2:R.J=q:=Option.some.inj e;omega)]at h5
       exact h5
      rw[hout2 q (.inl (by omega))]at hv
      rcases hX.lo q ht with e|e
      ·rw[hv]at e;cases e
      ·obtain⟨u',k1,k2⟩:=hF0.2 q u (by rw[←e];exact hv)
       refine⟨u', ?_,k2.mono hE2 hn2⟩
       rw[aq1]
       ·exact k1
       ·rintro⟨x,y⟩ hp e
        have e:x=q:=e
        have hm2:=(List.of_mem_zip hp).1
        rw[hps.1,e]at hm2
        exact(hKb q hq).2 hm2
     ·obtain⟨⟨q,x⟩,hq,rfl⟩:=List.mem_map.1 hp
      have e:q=t:=Nat.add_right_cancel hp1
      subst e
      have h5:ev (fr2.put (some R.J) (some (.bool false))) (shx R.o2 x)=some u:=hp2
      rw[jr1 (hargs x (List.of_mem_zip hq).2),hwin]at h5
      refine⟨_,wl7 _ _ _ _ (by rw[hps.1];exact el8 _ _ hps.2.1) ?_ (Nat.lt_of_lt_of_le ht hF0.1),az8 s3 h5⟩
      rw[hps.1,Array.toList_map,List.zip_map_right]
      exact List.mem_map.2 ⟨(q,x),hq,rfl⟩
    ·exfalso
     rw[hmo _ (fun p hp e=>hex ⟨p,hp,e⟩),pc9 (fun e=>by have e2:R.J=t+R.o3:=Option.some.inj e;omega),hout2 _ (.inr (by omega)),hX.hi _ (by omega) (by omega)]at hu
     cases hu
   have hgo:=rn7 (P:=P) (b:=b) (cs:=c::cs) (k:=k) (rest:=List.range' (pre.length+1) post.length) ho hgd hop hcal hyv hl2 (by rw[hsz,←hps.1];simp)
   rw[n89,show Frame.round l rc.fn (sl9 (rc.params.toList.zip (cl.args.map a2.eval).toList) rc.tmps) rc.assign rc.body .normal=({(default:Frame)with fn:=rc.fn,kind:= .normal,roundOf:=some l}:Frame).atR {tmps:=sl9 (rc.params.toList.zip (cl.args.map a2.eval).toList) rc.tmps,defers:=[]} [.code rc.assign, .beginRound, .code rc.body] by simp[Frame.round,Frame.atR]]at hgo
   have hG:=bl9 hT hm (N:=m4) (fun m hm'=>hC m (by omega)) (rs:=rs) (v:=v) (h':=h') (R:=R) (cs0:=cs0) (f0:=f0) hsub hl0 hl1 (b:={(default:Frame)with fn:=rc.fn,kind:= .normal,roundOf:=some l}) rfl rfl (c:=b.atR a2 (.inRegion ops (pre.length::List.range' (pre.length+1) post.length)::k)) (cs:=c::cs) (frE:=fr1) (φ0:=φ2) (n0:=h1.length) hWb hWp hEJ hst hbod ?_ m4 (by omega) (a:={tmps:=sl9 (rc.params.toList.zip (cl.args.map a2.eval).toList) rc.tmps,defers:=[]}) (.code hasg (.base ⟨rfl,rfl⟩)) hr8 (fun t _=> .inr rfl) hF3 s4 ⟨hW2,hl2⟩ rfl (Ext.refl _ _) (Nat.le_refl _)
   ·refine Goal.back (.head stepR_region (Steps.trans ?_ (.one hgo))) hG s5 s6 (s7.sub hsub)
    rw[hrange]
    exact s1
   ·--the round has ended
    intro m hm' jb' fr' h'' φ' w' hr' hLess hJ' hH' hW' hl' hE' hn'
    obtain⟨m',rfl,hq1⟩:=gS hr'
    clear hr'
    simp only[gF]at hq1
    split at hq1
    case h_2=>cases hq1
    rename_i frP hP hopsP
    obtain⟨nv,hh,hnv,hpo⟩:=ae3 (by simp) hopsP
    clear hopsP
    have hJK:Fr.of (hy3 fr' R.K3) R.J=some (.bool jb'):=by
     rcases c40 fr' R.K3 R.J with e|e
     ·simp[aop,ev,e]at hnv
     ·rcases hJ' with e2|e2
      ·simp[aop,ev,e,e2]at hnv
      ·rw[e,e2]
    have hnv2:nv=some (.bool !jb')∧hh=h'':=by
     simp[aop,ev,hJK,aun]at hnv
     exact⟨hnv.1.symm,hnv.2.symm⟩
    obtain⟨rfl,rfl⟩:=hnv2
    have hKsub: ∀t u,t<R.o3→Fr.of (hy3 fr' R.K3) t=some u→fr2 t=some u:=fun t u ht hu=>by
     have h5:=lr7 _ _ _ _ hu
     rcases hLess t ht with e|e
     ·rw[e]at h5;cases h5
     ·rw[←hE1 t ht,←e];exact h5
    have hKno: ∀t,t<R.o3→Fr.of (hy3 fr' R.K3) t=none∨Fr.of (hy3 fr' R.K3) t=fr2 t:=fun t ht=>by
     cases hu:Fr.of (hy3 fr' R.K3) t with
     |none=>exact .inl rfl
     |some u=>exact .inr (hKsub t u ht hu).symm
    rw[Frame.finish_atR,ho,show((some o).bind fun x=>x.dst)=o.dst from rfl,hdst]
    have hF5:FR φ' hh.length R.nt2 ((Fr.of (hy3 fr' R.K3)).win R.o2 R.nt2) a2.tmps:=(s3.mono hE' hn').sub fun t u hu=>by
     have ht:t<R.nt2:=Classical.byContradiction fun hn=>by rw[sz2 hn]at hu;cases hu
     rw[uf3 ht]at hu⊢
     exact hKsub _ u (by omega) hu
    have hF6:FR φ' hh.length R.nt2 (((Fr.of (hy3 fr' R.K3)).put (some (d+R.o2)) (some (.bool !jb'))).win R.o2 R.nt2) (a2.put (some d) (.bool !jb')).tmps:=by
     rw[show(some (d+R.o2))=(some d).map (· +R.o2)from rfl,p15 (some d) (fun t e=>by cases e;exact hdlt)]
     exact hF5.put (some d) (fun t e=>by cases e;exact hdlt) _ _ fun u hu=>by cases hu;exact .bool _
    have hlook2: ∀x∈post,q08 R.nt2 x∧ ∀d,x.dst=some d→d∉R.Y:=fun x hx=>hpost.look x (by simpa using hx)
    obtain⟨hpow,hpoo⟩:=zd6 (fun x hx=>(hlook2 x hx).1) hpo
    have hout3: ∀t,(t<R.o2∨R.o2+R.nt2≤t)→frP t=Fr.of (hy3 fr' R.K3) t:=fun t ht=>by
     rw[hpoo t fun x hx e=>by
      cases hd2:x.dst with
      |none=>rw[hd2]at e;cases e
      |some d2=>
       rw[hd2]at e
       have h5:=(hlook2 x hx).1.2 d2 hd2
       have e:d2+R.o2=t:=Option.some.inj e
       omega]
     exact pc9 (fun e=>by have e2:d+R.o2=t:=Option.some.inj e;omega)
    have hYd: ∀y∈R.Y,((Fr.of (hy3 fr' R.K3)).put (some (d+R.o2)) (some (.bool !jb'))).win R.o2 R.nt2 y=none:=fun y hy=>by
     have hylt':=hylt y hy
     rw[uf3 hylt',pc9 (fun e=>by
      have e2:d+R.o2=y+R.o2:=Option.some.inj e
      have e3:d=y:=Nat.add_right_cancel e2
      exact hdY (by rw[e3];exact hy))]
     rcases hKno (y+R.o2) (by omega)with e|e
     ·exact e
     ·rw[e]
      have:=s8 y hy
      rw[uf3 hylt']at this
      exact this
    have ht0:(a2.put (some d) (.bool !jb')).tmps[0]? =some (.func (.yield l) #[] #[]):=by
     show(a2.tmps.setIfInBounds d _)[0]? =_
     rw[Array.getElem?_setIfInBounds_ne (fun e=>hdY (by rw[e];exact hy0))]
     exact s9
    have hpow2:gf4 T (goN T m') hh.length ((post.map some).filterMap fun x=>x) (((Fr.of (hy3 fr' R.K3)).put (some (d+R.o2)) (some (.bool !jb'))).win R.o2 R.nt2) hh=some (frP.win R.o2 R.nt2,hP):=by
     rw[show((post.map some).filterMap fun x=>x)=post by rw[List.filterMap_map];exact List.filterMap_some];exact hpow
    obtain⟨φ3,w3,a3,t1,t2,t3,t4,t5,t6,t7,t8,t9,t10,t11⟩:=n48 (P:=P) (B:=B1) hT (hC m' (by omega)) (oa1 m') (b:=b) (cs:=c::cs) (k:=k) (ds:=[]) (yv:= .func (.yield l) #[] #[]) hylt hy0 (post.map some) (pre.length+1) hpost hpow2 [] (show(a2.put (some d) (.bool !jb')).defers=[]from s2) hF6 hH' hYd ht0
    rw[List.append_nil,List.length_map]at t1
    have hX3:FxI R fr0 l jb' frP a3.tmps:=by
     refine⟨fun t ht=> ?_,fun y hy=> ?_,fun t h1 h2=> ?_, ?_,t9⟩
     ·rw[hout3 t (.inl (by have ht:t<R.nt1:=ht;omega))]
      have ht:t<R.nt1:=ht
      rcases hKno t (by omega)with e|e
      ·exact .inl e
      ·rw[e,hout2 t (.inl (by omega))]
       exact hX.lo t ht
     ·have h5:=t8 y hy
      rw[uf3 (hylt y hy)]at h5
      exact h5
     ·rw[hout3 t (.inr (by omega))]
      cases hu:Fr.of (hy3 fr' R.K3) t with
      |none=>rfl
      |some u=>
       obtain⟨h5,_⟩:=lh0 hu
       rcases hK3 t h5 with e|e
       ·omega
       ·exact absurd e h2
     ·rw[hout3 R.J (.inr (by omega)),hJK]
      exact .inr rfl
    have hW3:Wx w3:=hWb hW' t7
    have hl3:w3.heap[l]? =some (.loop (rcAt rc jb')):=by rw[t7.block l hl1];exact hl'
    have hfin:=ih m' (by omega) (by omega) jb' hk hq1 hX3 t3 t4 ⟨hW3,hl3⟩ t2 (((hE2.trans hE' hn2)).trans t5 (Nat.le_trans hn2 hn')) (Nat.le_trans (Nat.le_trans hn2 hn') t6)
    exact Goal.back (t1.trans (.one stepR_region_end)) hfin t5 t6 (t7.sub hsub)
end
end Go.Am
namespace Go.Am
open Go.RowKit (Below)
theorem gx2{l:List Nat}{q i:Nat}(e:q=i)(h:q∈l):i∈l:=by rw[←e];exact h
theorem ig7{T:Tab}{g:List ARes→List It→Fr→H→Res}{n0 nt1 kf nc f:Nat}(hf:f<nt1): ∀(l:List Nat) {fr fr1:Fr} {h h1:H},l.Nodup→
 gf4 T g n0 (l.map fun i=>⟨some (nt1+1+i), .capt kf nc i (.tmp f),none,false⟩) fr h=some (fr1,h1)→
 h1=h∧(∀t,(∀i∈l,nt1+1+i≠t)→fr1 t=fr t)∧ ∀i∈l,∃first cs v,fr f=some (.func (.func kf) first cs)∧cs.size=nc∧cs[i]? =some v∧fr1 (nt1+1+i)=some v
 | [],fr,fr1,h,h1,_,hr=>by
   cases hr
   exact⟨rfl,fun _ _=>rfl,fun i hi=>by cases hi⟩
 |j::l,fr,fr1,h,h1,hn,hr=>by
  obtain⟨hn1,hn2⟩:=List.nodup_cons.1 hn
  obtain⟨v,h2,k1,k2⟩:=ae3 (by simp) hr
  simp only[aop,ev]at k1
  split at k1
  case h_2=>cases k1
  rename_i g' first cs hcs
  split at k1
  case isFalse=>cases k1
  rename_i hg
  obtain⟨rfl,hsz⟩:=hg
  split at k1
  case h_2=>cases k1
  rename_i u hu
  cases k1
  obtain⟨m1,m2,m3⟩:=ig7 hf l hn2 k2
  have hput: ∀t,t≠nt1+1+j→(fr.put (some (nt1+1+j)) (some u)) t=fr t:=fun t ht=>pc9 (fun e=>ht (Option.some.inj e).symm)
  refine⟨m1,fun t ht=> ?_,fun i hi=> ?_⟩
  ·rw[m2 t fun i hi=>ht i (List.mem_cons_of_mem _ hi)]
   exact hput t fun e=>ht j List.mem_cons_self e.symm
  ·rcases List.mem_cons.1 hi with rfl|hi
   ·refine⟨first,cs,u,hcs,hsz,hu, ?_⟩
    rw[m2 _ fun q hq e=>hn1 (gx2 (Nat.add_left_cancel e) hq),qd0]
   ·obtain⟨a,b,c,d1,d2,d3,d4⟩:=m3 i hi
    rw[hput f (by omega)]at d1
    exact⟨a,b,c,d1,d2,d3,d4⟩
section
variable {P:Program} {T:Tab}
theorem Mks.poke{B0 B:Nat→Prop}{w:World}{rs:List Nat}(m:Mks B0 B w rs){l:Nat}(o:Obj)(hl:l∉rs):Mks B0 B (w.putObj l o) rs:=
 ⟨m.nd,fun r hr=>by obtain⟨a,b,c⟩:=m.at' r hr;exact⟨a,b,by rw[World.putObj_heap_other (fun e=>hl (by rw[←e];exact hr))];exact c⟩⟩
def Sim(P:Program)(T:Tab)(n:Nat):Prop:=
 ∀{rs:List ARes} {ks:List It} {fr:Fr} {h:H} {v:Value} {h':H},goN T n rs ks fr h=some (v,h')→
  ∀{B0 B:Nat→Prop} {mr:List Nat} {φ:Ren} {w:World} {a:Act} {b:Frame} {cs:List Frame} {S:List Nat} {k:List Item} {nt:Nat} {fn:Func},P.funcs[b.fn]? =some fn→RR P fn.results.toList rs→b.kind= .normal→b.roundOf=none→
   IRo P nt 0 [] (X1 P nt) (fun ks k=>ks=[]∧k=[]) S ks k→(∀t,nt≤t→fr t=none)→FR φ h.length nt fr a.tmps→HR φ B h w→Up B0 B w→Mks B0 B w mr→a.defers=mr.map mkD→Goal P B0 cs b.fn v h' cs (b.atR a k) φ h.length w
theorem win0{fr:Fr}{nt:Nat}(h: ∀t,nt≤t→fr t=none):fr.win 0 nt=fr:=by
 funext t
 by_cases ht:t<nt
 ·exact uf3 ht
 ·rw[sz2 ht,h t (Nat.le_of_not_lt ht)]
theorem sm8{fr:Fr}{nt:Nat}(h: ∀t,nt≤t→fr t=none)(ks:List Nat): ∀t,nt≤t→Fr.of (hy3 fr ks) t=none:=fun t ht=>by
 rcases c40 fr ks t with e|e
 ·exact e
 ·rw[e];exact h t ht
theorem xv4{nt o:Nat}{Y:List Nat}{X:List Nat→Code→ACode→Prop}{Z:List It→List Item→Prop}{l id:Nat}: ∀{S:List Nat} {ks:List It} {k:List Item},IRo P nt o Y X Z S ks k→id∉S→ ∃ks0 k0,Z ks0 k0∧gc2 id ks=gc2 id ks0∧gotoIn l k=gotoIn l k0
 |_,_,_, .base hz,h=>⟨_,_,hz,rfl,rfl⟩
 |_,_,_, .code _ hk,h=>by obtain⟨a,b,h1,h2,h3⟩:=xv4 hk h;exact⟨a,b,h1,by simp only[gc2];exact h2,by simp only[gotoIn];exact h3⟩
 |_,_,_, .lp _ hk,h=>by obtain⟨a,b,h1,h2,h3⟩:=xv4 hk h;exact⟨a,b,h1,by simp only[gc2];exact h2,by simp only[gotoIn];exact h3⟩
 |_,_,_, .blk (id:=id') hk,h=>by
  obtain⟨a,b,h1,h2,h3⟩:=xv4 hk (fun e=>h (List.mem_cons_of_mem _ e))
  exact⟨a,b,h1,by simp only[gc2];rw[if_neg (fun e=>h (by rw[e];exact List.mem_cons_self))];exact h2,by simp only[gotoIn];exact h3⟩
theorem og2{b:Frame}{a:Act}{k:List Item}{cs:List Frame}{w:World}{c:Code}:step P (lone (b.atR a (.inScope c::k)) cs w)= .next (lone (b.atR a k) cs w):=
 step_lone_go (by simp[stepG,stepG.exec,Frame.atR])
theorem zt6{b:Frame}{a:Act}{k:List Item}{cs:List Frame}{w:World}{c:Code}:step P (lone (b.atR a (.code (.scope c)::k)) cs w)= .next (lone (b.atR a (.code c:: .inScope c::k)) cs w):=
 step_lone_go (by simp[stepG,stepG.exec,Frame.atR])
theorem x80(hT:xp2 P T)(hm:P.follows .mixedOrders=true){B0 B:Nat→Prop}{N:Nat}(hC: ∀m,m≤N→ ∀f,zb8 P B T (goN T m) f){rs:List ARes}{v:Value}{h':H}{b:Frame}{cs:List Frame}{ds:List Deferred}{nt:Nat}{f0:FuncId}
 (hsub: ∀k,B0 k→B k) {Wx:World→Prop} (hWb: ∀{w w':World},Wx w→Bel B w w'→Wx w') {l L K:Nat} {kL ko kh:List Nat} {bd x y:Code} {y':ACode} (hbd:findLabel bd l=some (.seq .skip y)) (hLK:L≠K) (hy:CRo P nt 0 [] (XG l L) [] y y') {ks0:List It} {k0:List Item}
 (hend: ∀m,m≤N→ ∀{fr:Fr} {h:H} {φ:Ren} {w:World} {a:Act},goN T m rs ks0 fr h=some (v,h')→(∀t,nt≤t→fr t=none)→FR φ h.length nt fr a.tmps→HR φ B h w→Wx w→a.defers=ds→Goal P B0 cs f0 v h' cs (b.atR a k0) φ h.length w):
 ∀n,n≤N+1→ ∀{S:List Nat} {ks:List It} {k:List Item} {fr:Fr} {h:H} {φ:Ren} {w:World} {a:Act},IRo P nt 0 [] (XG l L) (fun ks k=>ks= .code (.exit K):: .blk L kL:: .lp kh (.block L kL (.seq y' (.exit K))):: .blk K ko::ks0∧k= .inScope bd::k0) S ks k→goN T n rs ks fr h=some (v,h')→(∀t,nt≤t→fr t=none)→
  FR φ h.length nt fr a.tmps→HR φ B h w→Wx w→a.defers=ds→Goal P B0 cs f0 v h' cs (b.atR a k) φ h.length w:=by
 intro n
 induction n using Nat.strongRecOn with
 |_ n ih=>
 intro hn S ks k fr h φ w a hI hr hX hF hH hw hd
 obtain⟨n,rfl,hr⟩:=gS hr
 refine pt1 (o:=0) (Y:=[]) (cs:=cs) (ds:=ds) (Fx:=fun fr _=> ∀t,nt≤t→fr t=none) (Wx:=Wx) (G:=Goal P B0 cs f0 v h' cs)
  hT hm (hC n (by omega)) (oa1 n) (fun ρ=>ab0 hT.good n) (fun h1 h2 h3 h4 h5=>Goal.back h1 h2 h3 h4 (h5.sub hsub)) (fun ks hx=>sm8 hx ks) (fun hx h1 _ t ht=>by rw[h1 t (.inr (by omega))];exact hx t ht)
  hWb ?_ ?_ (fun hI hr hX hF hH hw hd=>ih n (by omega) (by omega) hI hr hX (by rw[win0 hX]at hF;exact hF) hH hw hd) hI hr hX (by rw[win0 hX];exact hF) hH hw hd
 ·--its end
  rintro ks k fr h φ w a ⟨rfl,rfl⟩ hr hX hF hH hw hd
  rw[win0 hX]at hF
  have hp:gc2 K (.blk L kL:: .lp kh (.block L kL (.seq y' (.exit K))):: .blk K ko::ks0)=some (ko,ks0):=by simp[gc2,hLK]
  simp only[gF,hp]at hr
  exact Goal.back (.one og2) (hend n (by omega) hr (sm8 hX ko) (hF.sub fun t u hu=>lr7 _ _ _ _ hu) hH hw hd) (Ext.refl _ _) (Nat.le_refl _) (Bel.refl _ _)
 ·--a jump
  rintro S c2 c' ks k fr h φ w a hx hk hr hX hF hH hw hd
  rw[win0 hX]at hF
  cases hx with
  |goto hS=>
   obtain⟨ks1,k1,⟨rfl,rfl⟩,hp,hg⟩:=xv4 (l:=l) hk hS
   have hp2:gc2 L ks=some (kL, .lp kh (.block L kL (.seq y' (.exit K))):: .blk K ko::ks0):=by rw[hp];simp[gc2]
   have hg2:gotoIn l k=some (.code (.seq .skip y):: .inScope bd::k0):=by rw[hg];simp only[gotoIn,hbd]
   simp only[gF,hp2]at hr
   have q0:goN T n rs (.lp kh (.block L kL (.seq y' (.exit K))):: .blk K ko::ks0) (Fr.of (hy3 fr kL)) h=some (v,h'):=hr
   clear hr
   obtain⟨m1,rfl,p1⟩:=gS q0
   have q1:goN T m1 rs (.code (.block L kL (.seq y' (.exit K))):: .lp kh (.block L kL (.seq y' (.exit K))):: .blk K ko::ks0) (Fr.of (hy3 (Fr.of (hy3 fr kL)) kh)) h=some (v,h'):=p1
   clear q0 p1
   obtain⟨m2,rfl,p2⟩:=gS q1
   have q2:goN T m2 rs (.code (.seq y' (.exit K)):: .blk L kL:: .lp kh (.block L kL (.seq y' (.exit K))):: .blk K ko::ks0) (Fr.of (hy3 (Fr.of (hy3 fr kL)) kh)) h=some (v,h'):=p2
   clear q1 p2
   obtain⟨m3,rfl,p3⟩:=gS q2
   have q3:goN T m3 rs (.code y':: .code (.exit K):: .blk L kL:: .lp kh (.block L kL (.seq y' (.exit K))):: .blk K ko::ks0) (Fr.of (hy3 (Fr.of (hy3 fr kL)) kh)) h=some (v,h'):=p3
   clear q2 p3
   have hfin:=ih m3 (by omega) (by omega) (.code hy (.base ⟨rfl,rfl⟩)) q3 (sm8 (sm8 hX kL) kh) ((hF.sub fun t u hu=>lr7 _ _ _ _ hu).sub fun t u hu=>lr7 _ _ _ _ hu) hH hw hd
   exact Goal.back (.head (stepR_goto hg2) (.head stepR_seq (.one stepR_skip))) hfin (Ext.refl _ _) (Nat.le_refl _) (Bel.refl _ _)
theorem lt6(hT:xp2 P T)(hm:P.follows .mixedOrders=true){B0 B:Nat→Prop}{N:Nat}(hC: ∀m,m≤N→ ∀f,zb8 P B T (goN T m) f){rs:List ARes}{v:Value}{h':H}{b:Frame}{cs:List Frame}{ds:List Deferred}{nt:Nat}{f0:FuncId}
 (hsub: ∀k,B0 k→B k) {Wx:World→Prop} (hWb: ∀{w w':World},Wx w→Bel B w w'→Wx w') {l L K:Nat} {kL ko kh:List Nat} {bd x y:Code} {y':ACode} (hbd:findLabel bd l=some (.seq .skip y)) (hLK:L≠K) (hy:CRo P nt 0 [] (XG l L) [] y y') {ks0:List It} {k0:List Item}
 (hend: ∀m,m≤N→ ∀{fr:Fr} {h:H} {φ:Ren} {w:World} {a:Act},goN T m rs ks0 fr h=some (v,h')→(∀t,nt≤t→fr t=none)→FR φ h.length nt fr a.tmps→HR φ B h w→Wx w→a.defers=ds→Goal P B0 cs f0 v h' cs (b.atR a k0) φ h.length w):
 ∀n,n≤N+1→ ∀{S:List Nat} {ks:List It} {k:List Item} {fr:Fr} {h:H} {φ:Ren} {w:World} {a:Act},IRo P nt 0 [] (fun _ _ _=>False) (fun ks k=>ks= .code (scA L K kL ko kh y')::ks0∧k= .code (.seq (.label l) y):: .inScope bd::k0) S ks k→goN T n rs ks fr h=some (v,h')→(∀t,nt≤t→fr t=none)→
  FR φ h.length nt fr a.tmps→HR φ B h w→Wx w→a.defers=ds→Goal P B0 cs f0 v h' cs (b.atR a k) φ h.length w:=by
 intro n
 induction n with
 |zero=>intro _ S ks k fr h φ w a _ hr;cases hr
 |succ n ih=>
 intro hn S ks k fr h φ w a hI hr hX hF hH hw hd
 refine pt1 (o:=0) (Y:=[]) (cs:=cs) (ds:=ds) (Fx:=fun fr _=> ∀t,nt≤t→fr t=none) (Wx:=Wx) (G:=Goal P B0 cs f0 v h' cs)
  hT hm (hC n (by omega)) (oa1 n) (fun ρ=>ab0 hT.good n) (fun h1 h2 h3 h4 h5=>Goal.back h1 h2 h3 h4 (h5.sub hsub)) (fun ks hx=>sm8 hx ks) (fun hx h1 _ t ht=>by rw[h1 t (.inr (by omega))];exact hx t ht)
  hWb ?_ (fun hx=>hx.elim) (fun hI hr hX hF hH hw hd=>ih (by omega) hI hr hX (by rw[win0 hX]at hF;exact hF) hH hw hd) hI hr hX (by rw[win0 hX];exact hF) hH hw hd
 rintro ks k fr h φ w a ⟨rfl,rfl⟩ hr hX hF hH hw hd
 rw[win0 hX]at hF
 have q0:goN T n rs (.code (.loop kh (.block L kL (.seq y' (.exit K)))):: .blk K ko::ks0) fr h=some (v,h'):=hr
 clear hr
 obtain⟨m1,rfl,p1⟩:=gS q0
 have q1:goN T m1 rs (.code (.block L kL (.seq y' (.exit K))):: .lp kh (.block L kL (.seq y' (.exit K))):: .blk K ko::ks0) (Fr.of (hy3 fr kh)) h=some (v,h'):=p1
 clear q0 p1
 obtain⟨m2,rfl,p2⟩:=gS q1
 have q2:goN T m2 rs (.code (.seq y' (.exit K)):: .blk L kL:: .lp kh (.block L kL (.seq y' (.exit K))):: .blk K ko::ks0) (Fr.of (hy3 fr kh)) h=some (v,h'):=p2
 clear q1 p2
 obtain⟨m3,rfl,p3⟩:=gS q2
 have q3:goN T m3 rs (.code y':: .code (.exit K):: .blk L kL:: .lp kh (.block L kL (.seq y' (.exit K))):: .blk K ko::ks0) (Fr.of (hy3 fr kh)) h=some (v,h'):=p3
 clear q2 p3
 have hfin:=x80 hT hm hC hsub hWb (kL:=kL) (ko:=ko) (kh:=kh) (x:=x) hbd hLK hy hend m3 (by omega) (.code hy (.base ⟨rfl,rfl⟩)) q3 (sm8 hX kh) (hF.sub fun t u hu=>lr7 _ _ _ _ hu) hH hw hd
 exact Goal.back (.head stepR_seq (.one stepR_label)) hfin (Ext.refl _ _) (Nat.le_refl _) (Bel.refl _ _)
theorem t09{a b:Code}{l:Nat}(h:findLabel a l=none):findLabel (.seq a (.seq (.label l) b)) l=some (.seq .skip b):=by
 have:findLabel (.seq (.label l) b) l=some (.seq .skip b):=by simp[findLabel]
 rw[findLabel,h]
 exact this
theorem ka8(hT:xp2 P T)(hm:P.follows .mixedOrders=true){N:Nat}(hC: ∀m,m≤N→ ∀B f,zb8 P B T (goN T m) f): ∀n,n≤N+1→Sim P T n:=by
 intro n
 induction n using Nat.strongRecOn with
 |_ n ih=>
 intro hn rs ks fr h v h' hr B0 B mr φ w a b cs S k nt fn hfn hrs hki hro hI hX hF hH hU hM hd
 obtain⟨n,rfl,hr⟩:=gS hr
 have hsub:=hU.sub
 --the function returns
 have ret: ∀{fr:Fr} {h:H} {φ:Ren} {w:World} {a:Act} {k:List Item} {fx:Frame},retv rs fr h=some (v,h')→FR φ h.length nt fr a.tmps→HR φ B h w→(Up B0 B w∧Mks B0 B w mr)→a.defers=mr.map mkD→step P (lone (b.atR a k) cs w)= .next (lone fx cs w)→
  fx.mode= .returning→fx.defers=a.defers→fx.kind= .normal→fx.fn=b.fn→fx.tmps=a.tmps→Goal P B0 cs b.fn v h' cs (b.atR a k) φ h.length w:=by
  intro fr h φ w a k fx hr hF hH hw hd hst g1 g2 g3 g4 g5
  obtain⟨w',k1,k2,k3,k4⟩:=v08 (P:=P) (cs:=cs) mr fx w g1 (g2.trans hd) hw.2 hH hw.1
  obtain⟨rfl,v',e1,e2⟩:=kl3 (P:=P) hF k2 hrs hr
  exact⟨φ,w',v',{fx with defers:=[]}, .head hst k1,g4,⟨g1,rfl,g3,fn,by rw[show({fx with defers:=[]}:Frame).fn=fx.fn from rfl,g4];exact hfn,by rw[show({fx with defers:=[]}:Frame).tmps=fx.tmps from rfl,g5];exact e1⟩,e2,k2.down k3,Ext.refl _ _,k4⟩
 refine pt1 (o:=0) (Y:=[]) (cs:=cs) (ds:=mr.map mkD) (Fx:=fun fr _=> ∀t,nt≤t→fr t=none) (Wx:=fun w=>Up B0 B w∧Mks B0 B w mr) (G:=Goal P B0 cs b.fn v h' cs)
  hT hm (hC n (by omega) B) (oa1 n) (fun ρ=>ab0 hT.good n) (fun h1 h2 h3 h4 h5=>Goal.back h1 h2 h3 h4 (h5.sub hsub)) (fun ks hx=>sm8 hx ks) (fun hx h1 _ t ht=>by rw[h1 t (.inr (by omega))];exact hx t ht)
  (fun hw hb=>⟨hw.1.bel hb,hw.2.bel hb⟩) ?_ ?_ (fun hI hr hX hF hH hw hd=>ih n (by omega) (by omega) hr hfn hrs hki hro hI hX (by rw[win0 hX]at hF;exact hF) hH hw.1 hw.2 hd) hI hr hX (by rw[win0 hX];exact hF) hH ⟨hU,hM⟩ hd
 ·rintro ks k fr h φ w a ⟨rfl,rfl⟩ hr hX hF hH hw hd
  rw[win0 hX]at hF
  exact ret hr hF hH hw hd (stepR_end hro) rfl rfl hki rfl rfl
 ·rintro S c2 c' ks k fr h φ w a hx hk hr hX hF hH hw hd
  rw[win0 hX]at hF
  cases hx with
  |ret=>exact ret hr hF hH hw hd (stepR_ret hro) rfl rfl hki rfl rfl
  |scope l L K kL ko kh x y x' y' ok=>
   have q0:goN T n rs (.code x':: .code (scA L K kL ko kh y')::ks) fr h=some (v,h'):=hr
   clear hr
   refine Goal.back (.head zt6 (.one stepR_seq)) (lt6 (P:=P) (B0:=B0) (B:=B) hT hm (N:=n) (fun m hm'=>hC m (by omega) B) (cs:=cs) (ds:=mr.map mkD) hsub (Wx:=fun w=>Up B0 B w∧Mks B0 B w mr) (fun hw hb=>⟨hw.1.bel hb,hw.2.bel hb⟩) (l:=l) (x:=x) (t09 ok.no) ok.ne ok.fb (ks0:=ks) (k0:=k) ?_ n (by omega) (.code ok.fa (.base ⟨rfl,rfl⟩)) q0 hX hF hH hw hd) (Ext.refl _ _) (Nat.le_refl _) (Bel.refl _ _)
   intro m hm' fr h φ w a hr hX hF hH hw hd
   exact ih m (by omega) (by omega) hr hfn hrs hki hro hk hX hF hH hw.1 hw.2 hd
  |range R f kf nc ps assign body K0 K1 cIt hnt ok=>
   subst hnt
   have hJ3:R.J=R.o3+R.nt1:=rfl
   have ho3:R.o3=R.o2+R.nt2:=rfl
   have ho2:R.o2=R.nt1:=rfl
   have hnc1:=ok.hnc.1
   have hnc2:=ok.hnc.2
   --the small machine
   have q0:goN T n rs (.code (.block 0 K0 .skip):: .code (.seq (.region (⟨some R.J, .mv (.const (.bool false)),none,false⟩::bp2 R.nt1 kf nc f)) (.seq (.block R.M (R.J::K1) cIt) (.cond (.tmp R.J) (.seq (.block 0 K1 .skip) .ret) (.block 0 K1 .skip))))::ks) fr h=some (v,h'):=hr
   clear hr
   obtain⟨m1,rfl,p1⟩:=gS q0
   have q1:goN T m1 rs (.code .skip:: .blk 0 K0:: .code (.seq (.region (⟨some R.J, .mv (.const (.bool false)),none,false⟩::bp2 R.nt1 kf nc f)) (.seq (.block R.M (R.J::K1) cIt) (.cond (.tmp R.J) (.seq (.block 0 K1 .skip) .ret) (.block 0 K1 .skip))))::ks) fr h=some (v,h'):=p1
   clear q0 p1
   obtain⟨m2,rfl,p2⟩:=gS q1
   have q2:goN T m2 rs (.blk 0 K0:: .code (.seq (.region (⟨some R.J, .mv (.const (.bool false)),none,false⟩::bp2 R.nt1 kf nc f)) (.seq (.block R.M (R.J::K1) cIt) (.cond (.tmp R.J) (.seq (.block 0 K1 .skip) .ret) (.block 0 K1 .skip))))::ks) fr h=some (v,h'):=p2
   clear q1 p2
   obtain⟨m3,rfl,p3⟩:=gS q2
   have q3:goN T m3 rs (.code (.seq (.region (⟨some R.J, .mv (.const (.bool false)),none,false⟩::bp2 R.nt1 kf nc f)) (.seq (.block R.M (R.J::K1) cIt) (.cond (.tmp R.J) (.seq (.block 0 K1 .skip) .ret) (.block 0 K1 .skip))))::ks) (Fr.of (hy3 fr K0)) h=some (v,h'):=p3
   clear q2 p3
   obtain⟨m4,rfl,p4⟩:=gS q3
   have q4:goN T m4 rs (.code (.region (⟨some R.J, .mv (.const (.bool false)),none,false⟩::bp2 R.nt1 kf nc f)):: .code (.seq (.block R.M (R.J::K1) cIt) (.cond (.tmp R.J) (.seq (.block 0 K1 .skip) .ret) (.block 0 K1 .skip)))::ks) (Fr.of (hy3 fr K0)) h=some (v,h'):=p4
   clear q3 p4
   obtain⟨m5,rfl,p5⟩:=gS q4
   clear q4
   simp only[gF]at p5
   split at p5
   case h_2=>cases p5
   rename_i fr1 h1 hops
   obtain⟨m6,rfl,p6⟩:=gS p5
   have q6:goN T m6 rs (.code (.block R.M (R.J::K1) cIt):: .code (.cond (.tmp R.J) (.seq (.block 0 K1 .skip) .ret) (.block 0 K1 .skip))::ks) fr1 h1=some (v,h'):=p6
   clear p5 p6
   obtain⟨m7,rfl,p7⟩:=gS q6
   have q7:goN T m7 rs (.code cIt:: .blk R.M (R.J::K1):: .code (.cond (.tmp R.J) (.seq (.block 0 K1 .skip) .ret) (.block 0 K1 .skip))::ks) fr1 h1=some (v,h'):=p7
   clear q6 p7
   have hXK: ∀t,R.nt1≤t→Fr.of (hy3 fr K0) t=none:=sm8 hX K0
   have hFK:FR φ h.length R.nt1 (Fr.of (hy3 fr K0)) a.tmps:=hF.sub fun t u hu=>lr7 _ _ _ _ hu
   obtain⟨jv,h2,hjv,hcp⟩:=ae3 (by simp) hops
   have hj2:jv=some (.bool false)∧h2=h:=by
    simp[aop,ev,show closed (.bool false)=true from rfl]at hjv
    exact⟨hjv.1.symm,hjv.2.symm⟩
   obtain⟨rfl,rfl⟩:=hj2
   clear hops hjv
   obtain⟨rfl,hc1,hc2⟩:=ig7 (nt1:=R.nt1) ok.hf (List.range nc) List.nodup_range hcp
   have hlow: ∀t,t<R.nt1→fr1 t=Fr.of (hy3 fr K0) t:=fun t ht=>by
    rw[hc1 t fun i _ e=>by omega]
    exact pc9 (fun e=>by have e2:R.J=t:=Option.some.inj e;omega)
   have hmid: ∀t,R.nt1≤t→t≠R.J→(∀i,i<nc→R.nt1+1+i≠t)→fr1 t=none:=fun t h1 h2 h3=>by
    rw[hc1 t fun i hi=>h3 i (List.mem_range.1 hi),pc9 (fun e=>h2 (Option.some.inj e).symm)]
    exact hXK t h1
   have hJ1:fr1 R.J=some (.bool false):=by rw[hc1 R.J fun i hi e=>by have:=List.mem_range.1 hi;omega,qd0]
   obtain⟨first,cps,v0,hf1,hf2,_,_⟩:=hc2 0 (List.mem_range.2 hnc1)
   rw[pc9 (fun e=>by have e2:R.J=f:=Option.some.inj e;have:=ok.hf;omega)]at hf1
   have hcap: ∀i,i<nc→ ∃u,cps[i]? =some u∧fr1 (R.nt1+1+i)=some u:=fun i hi=>by
    obtain⟨first2,cps2,v2,g1,g2,g3,g4⟩:=hc2 i (List.mem_range.2 hi)
    rw[pc9 (fun e=>by have e2:R.J=f:=Option.some.inj e;have:=ok.hf;omega),hf1]at g1
    cases g1
    exact⟨v2,g3,g4⟩
   --the model
   obtain⟨fv,hfv,hVR⟩:=hFK.2 f _ hf1
   have hfun: ∃cps',fv= .func (.func kf) #[] cps'∧cps.size=cps'.size∧ ∀(i:Nat) (u u':Value),cps[i]? =some u→cps'[i]? =some u'→VR φ h1.length u u':=by
    cases hVR with
    |func _ _ cs' hsz hh=>exact⟨cs',rfl,hsz,fun i u u' k1 k2=>by
      obtain⟨l1,l2⟩:=Array.getElem?_eq_some_iff.1 k1
      obtain⟨l3,l4⟩:=Array.getElem?_eq_some_iff.1 k2
      rw[←l2,←l4]
      exact hh i l1 l3⟩
   obtain⟨cps',rfl,hsz,hcv⟩:=hfun
   obtain⟨fn2,body2,k1,k2,k3,k4,k5,k6⟩:=ok.fn
   let r:=w.heap.size
   let l:=w.heap.size+1
   let rc:Loop:={state:= .ready,pending:=none,fn:=b.fn,tmps:=a.tmps,params:=ps,assign,body,defers:=w.heap.size}
   let w1:=(w.alloc (.deferred (some []))).alloc (.loop rc)
   have hr1:w1.heap[w.heap.size]? =some (.deferred (some [])):=by
    show((w.heap.push _).push _)[w.heap.size]? =_
    rw[Array.getElem?_push,Array.getElem?_push];simp
   have hl1:w1.heap[w.heap.size+1]? =some (.loop rc):=by
    show((w.heap.push _).push _)[w.heap.size+1]? =_
    rw[Array.getElem?_push];simp
   have hold: ∀k,k<w.heap.size→w1.heap[k]? =w.heap[k]? :=fun k hk=>by
    show((w.heap.push _).push _)[k]? =_
    rw[Array.getElem?_push,Array.getElem?_push,Array.size_push]
    rw[if_neg (by omega),if_neg (by omega)]
   have hsz1:w1.heap.size=w.heap.size+2:=by
    show((w.heap.push _).push _).size=_
    simp
   have hBsz: ∀k,B k→k<w.heap.size:=hH.size
   have hB0sz: ∀k,B0 k→k<w.heap.size:=fun k hk=>hBsz k (hsub k hk)
   have hbel:Bel B w w1:=⟨rfl,rfl,rfl,by rw[hsz1];omega,fun k hk=>hold k (hBsz k hk)⟩
   let B1:Nat→Prop:=fun k=>B k∨k=w.heap.size∨k=w.heap.size+1
   have hNr:NotC w1 w.heap.size:=⟨_,hr1,rfl⟩
   have hNl:NotC w1 (w.heap.size+1):=⟨_,hl1,rfl⟩
   have hH1:HR φ B1 h1 w1:=(hH.same (by rw[hsz1];omega) hold).lift (fun k hk=> .inl hk) (fun k hk=>by
    rcases hk with hk|rfl|rfl
    ·exact .inl hk
    ·exact .inr hNr
    ·exact .inr hNl)
   have hU1:Up B0 B1 w1:=⟨fun k hk=> .inl (hsub k hk),fun k hk hn=>by
    rcases hk with hk|rfl|rfl
    ·exact(hw.1.bel hbel).ob k hk hn
    ·exact hNr
    ·exact hNl⟩
   have hM1:Mks B0 B1 w1 (w.heap.size::mr):=by
    have hm':=hw.2.bel hbel
    refine⟨List.nodup_cons.2 ⟨fun hx=> ?_,hw.2.nd⟩,fun x hx=> ?_⟩
    ·exact absurd (hBsz _ (hw.2.at' _ hx).1) (Nat.lt_irrefl _)
    ·rcases List.mem_cons.1 hx with rfl|hx
     ·exact⟨.inr (.inl rfl),fun e=>absurd (hB0sz _ e) (Nat.lt_irrefl _),hr1⟩
     ·obtain⟨g1,g2,g3⟩:=hm'.at' x hx
      exact⟨.inl g1,g2,g3⟩
   have hlM:w.heap.size+1∉w.heap.size::mr:=fun hx=>by
    rcases List.mem_cons.1 hx with e|hx
    ·omega
    ·have:=hBsz _ (hw.2.at' _ hx).1;omega
   have hl0: ¬B0 (w.heap.size+1):=fun e=>by have:=hB0sz _ e;omega
   have he:(Instr.enterLoop b.fn a.tmps ps assign body b.roundOf).run P w= .ok (w.heap.size+1,[mkD w.heap.size]) w1:=by
    rw[hro];exact run_enterLoop_outer _ _ _ _ _
   have hev:a.eval (.tmp f)= .func (.func kf) #[] cps':=by
    show a.tmps.getD f undef=_
    rw[Array.getD_eq_getD_getElem?,hfv];rfl
   have hres:(resolve a.eval (rangeCall (.tmp f) (w.heap.size+1)) 0).run P w1= .ok {target:= .fn (.func kf) cps',args:= #[.func (.yield (w.heap.size+1)) #[] #[]]} w1:=by
    simp only[resolve,rangeCall,hev,Deferred.ofValue]
    simp[Act.eval]
   have k3': ¬fn2.name= "runtime.NumGoroutine" :=by simpa using k3
   have hinv:(invoke (.fn (.func kf) cps') #[.func (.yield (w.heap.size+1)) #[] #[]]).run P w1= .ok (.enter kf (#[.func (.yield (w.heap.size+1)) #[] #[]]++cps')) w1:=by
    simp[invoke,callFunc,k1,k2,k3']
   have hgo:=stepR_rangeFunc (P:=P) (b:=b) (a:=a) (k:=k) (cs:=cs) (w:=w) he hres hinv
   have henter:Frame.enter P kf (#[.func (.yield (w.heap.size+1)) #[] #[]]++cps') .normal=
    ({(default:Frame)with fn:=kf,kind:= .normal,roundOf:=none}:Frame).atR {tmps:= #[.func (.yield (w.heap.size+1)) #[] #[]]++cps'++Array.replicate (fn2.ntmps-(#[.func (.yield (w.heap.size+1)) #[] #[]]++cps':Array Value).size) undef,defers:=[]} [.code body2]:=by
    simp[Frame.enter,Frame.atR,k1,k2]
   rw[henter]at hgo
   have hcs:cps'.size=nc:=by rw[←hsz];exact hf2
   have ht0:(#[.func (.yield (w.heap.size+1)) #[] #[]]++cps'++Array.replicate (fn2.ntmps-(#[.func (.yield (w.heap.size+1)) #[] #[]]++cps':Array Value).size) undef:Array Value)[0]? =some (.func (.yield (w.heap.size+1)) #[] #[]):=by
    rw[Array.getElem?_append_left (by simp;omega),Array.getElem?_append_left (by simp)];rfl
   have hti: ∀i,i<nc→(#[.func (.yield (w.heap.size+1)) #[] #[]]++cps'++Array.replicate (fn2.ntmps-(#[.func (.yield (w.heap.size+1)) #[] #[]]++cps':Array Value).size) undef:Array Value)[i+1]? =cps'[i]? :=fun i hi=>by
    rw[Array.getElem?_append_left (by simp;omega),Array.getElem?_append_right (by simp)];simp
   have hF2:FR φ h1.length R.nt2 (fr1.win R.o2 R.nt2) (#[.func (.yield (w.heap.size+1)) #[] #[]]++cps'++Array.replicate (fn2.ntmps-(#[.func (.yield (w.heap.size+1)) #[] #[]]++cps':Array Value).size) undef:Array Value):=by
    refine⟨by simp;omega,fun t u hu=> ?_⟩
    have ht:t<R.nt2:=Classical.byContradiction fun hn=>by rw[sz2 hn]at hu;cases hu
    rw[uf3 ht]at hu
    by_cases hr:1≤t∧t≤nc
    ·obtain⟨i,rfl⟩: ∃i,t=i+1:=⟨t-1,by omega⟩
     obtain⟨u2,g1,g2⟩:=hcap i (by omega)
     rw[show i+1+R.o2=R.nt1+1+i by omega,g2]at hu
     cases hu
     have hlt:i<cps'.size:=by omega
     refine⟨cps'[i], ?_,hcv i u _ g1 (Array.getElem?_eq_getElem hlt)⟩
     rw[hti i (by omega)]
     exact Array.getElem?_eq_getElem hlt
    ·exfalso
     rw[hmid (t+R.o2) (by omega) (by omega) (fun i hi e=>by omega)]at hu
     cases hu
   have hXI:FxI R (Fr.of (hy3 fr K0)) (w.heap.size+1) false fr1 (#[.func (.yield (w.heap.size+1)) #[] #[]]++cps'++Array.replicate (fn2.ntmps-(#[.func (.yield (w.heap.size+1)) #[] #[]]++cps':Array Value).size) undef:Array Value):=by
    refine⟨fun t ht=> .inr (hlow t ht),fun y hy=> ?_,fun t g1 g2=>hmid t (by omega) g2 (fun i hi e=>by omega), .inr hJ1,ht0⟩
    have hlt:=ok.hylt y hy
    rcases ok.hy.2 y hy with rfl|hy2
    ·exact hmid _ (by omega) (by omega) (fun i hi e=>by omega)
    ·exact hmid _ (by omega) (by omega) (fun i hi e=>by omega)
   have hG:=ai2 (P:=P) (B0:=B0) (B1:=B1) hT hm (N:=m7) (fun m hm'=>hC m (by omega) B1) (rs:=rs) (v:=v) (h':=h') (R:=R) (K1:=K1) (ksR:= .code (.cond (.tmp R.J) (.seq (.block 0 K1 .skip) .ret) (.block 0 K1 .skip))::ks) (b:={(default:Frame)with fn:=kf,kind:= .normal,roundOf:=none})
    (c:=b.atR {a with defers:=[mkD w.heap.size]++a.defers} (.inRangeFunc (w.heap.size+1)::k)) (cs:=cs) (l:=w.heap.size+1) (rc:=rc) (φ0:=φ) (n0:=h1.length) (cs0:=cs) (f0:=b.fn) (fun k hk=> .inl (hsub k hk)) hl0 (.inr (.inr rfl)) rfl rfl k1 (by exact k4)
    (Wx:=fun w'=>Up B0 B1 w'∧Mks B0 B1 w' (w.heap.size::mr)) (fun hw hb=>⟨hw.1.bel hb,hw.2.bel hb⟩) (fun x hw=>⟨hw.1.poke rfl,hw.2.poke _ hlM⟩) ok.asg ok.bod ok.hy.1 ok.hylt ok.hKb ok.hps ok.hK3 rfl rfl hFK ?_ m7 (by omega) false (a:={tmps:= #[.func (.yield (w.heap.size+1)) #[] #[]]++cps'++Array.replicate (fn2.ntmps-(#[.func (.yield (w.heap.size+1)) #[] #[]]++cps':Array Value).size) undef,defers:=[]}) (.code k6 (.base ⟨rfl,rfl⟩)) q7 hXI hF2 hH1 ⟨⟨hU1,hM1⟩,hl1⟩ rfl (Ext.refl _ _) (Nat.le_refl _)
   ·exact Goal.back (.one hgo) hG (Ext.refl _ _) (Nat.le_refl _) (hbel.sub hsub)
   ·--the iterator has returned
    intro m hm' jb fr' h'' φ' w' hr' hLess hJ' hH' hW' hl' hE' hn'
    obtain⟨m',rfl,hq1⟩:=gS hr'
    clear hr'
    have hN':NotC w' (w.heap.size+1):=⟨_,hl',rfl⟩
    rw[finish_atR_inRangeFunc]
    have hsl:=stepR_endRangeFunc (P:=P) (b:=b) (a:={a with defers:=[mkD w.heap.size]++a.defers}) (k:=k) (cs:=cs) (run_endLoop hl' (by cases jb<;>simp[rcAt]))
    have hdef:({a with defers:=[mkD w.heap.size]++a.defers}:Act).defers=(w.heap.size::mr).map mkD:=by
     show [mkD w.heap.size]++a.defers=_
     rw[hd];rfl
    --what is kept
    have keepF: ∀{fq:Fr},(∀t u,fq t=some u→fr' t=some u)→(∀t,R.nt1≤t→Fr.of (hy3 fq K1) t=none)∧FR φ' h''.length R.nt1 (Fr.of (hy3 fq K1)) a.tmps:=fun{fq} hq=>by
     refine⟨fun t ht=> ?_,(hFK.mono hE' hn').sub fun t u hu=> ?_⟩
     ·cases hu:Fr.of (hy3 fq K1) t with
      |none=>rfl
      |some u=>have:=ok.hK1 t (lh0 hu).1;omega
     ·obtain⟨g1,g2⟩:=lh0 hu
      have ht:=ok.hK1 t g1
      have g3:=hq t u g2
      rcases hLess t ht with e|e
      ·rw[e]at g3;cases g3
      ·rw[←e];exact g3
    have hpost:HR φ' B1 h'' (w'.putObj (w.heap.size+1) (.loop {rcAt rc jb with state:= .exhausted})):=hH'.poke _ hN'
    have hUp:Up B0 B1 (w'.putObj (w.heap.size+1) (.loop {rcAt rc jb with state:= .exhausted})):=hW'.1.poke rfl
    have hMk:Mks B0 B1 (w'.putObj (w.heap.size+1) (.loop {rcAt rc jb with state:= .exhausted})) (w.heap.size::mr):=hW'.2.poke _ hlM
    have hless2: ∀t u,Fr.of (hy3 fr' (R.J::K1)) t=some u→fr' t=some u:=fun t u hu=>lr7 _ _ _ _ hu
    have hq2:=hq1
    simp only[gF]at hq2
    split at hq2
    case h_2=>cases hq2
    rename_i t0 ht0
    have hjb:t0=jb:=by
     have ht0:Fr.of (hy3 fr' (R.J::K1)) R.J=some (.bool t0):=ht0
     have h5:=lr7 _ _ _ _ ht0
     rcases hJ' with e|e
     ·rw[e]at h5;cases h5
     ·rw[e]at h5;cases h5;rfl
    subst hjb
    clear hq1
    cases t0 with
    |true=>
     have z0:goN T m' rs (.code (.seq (.block 0 K1 .skip) .ret)::ks) (Fr.of (hy3 fr' (R.J::K1))) h''=some (v,h'):=hq2
     clear hq2
     obtain⟨n1,rfl,y1⟩:=gS z0
     have z1:goN T n1 rs (.code (.block 0 K1 .skip):: .code .ret::ks) (Fr.of (hy3 fr' (R.J::K1))) h''=some (v,h'):=y1
     clear z0 y1
     obtain⟨n2,rfl,y2⟩:=gS z1
     have z2:goN T n2 rs (.code .skip:: .blk 0 K1:: .code .ret::ks) (Fr.of (hy3 fr' (R.J::K1))) h''=some (v,h'):=y2
     clear z1 y2
     obtain⟨n3,rfl,y3⟩:=gS z2
     have z3:goN T n3 rs (.blk 0 K1:: .code .ret::ks) (Fr.of (hy3 fr' (R.J::K1))) h''=some (v,h'):=y3
     clear z2 y3
     obtain⟨n4,rfl,y4⟩:=gS z3
     have z4:goN T n4 rs (.code .ret::ks) (Fr.of (hy3 (Fr.of (hy3 fr' (R.J::K1))) K1)) h''=some (v,h'):=y4
     clear z3 y4
     obtain⟨g1,g2⟩:=keepF hless2
     have hfin:=ih n4 (by omega) (by omega) z4 (B0:=B0) (B:=B1) (mr:=w.heap.size::mr) (a:={a with defers:=[mkD w.heap.size]++a.defers}) (cs:=cs) (k:= .code .ret::k) hfn hrs hki hro (.code (.extra .ret) hk) g1 g2 hpost hUp hMk hdef
     exact Goal.back (.one hsl) hfin (Ext.refl _ _) (Nat.le_refl _) (Bel.poke _ hl0)
    |false=>
     have z1:goN T m' rs (.code (.block 0 K1 .skip)::ks) (Fr.of (hy3 fr' (R.J::K1))) h''=some (v,h'):=hq2
     clear hq2
     obtain⟨n2,rfl,y2⟩:=gS z1
     have z2:goN T n2 rs (.code .skip:: .blk 0 K1::ks) (Fr.of (hy3 fr' (R.J::K1))) h''=some (v,h'):=y2
     clear z1 y2
     obtain⟨n3,rfl,y3⟩:=gS z2
     have z3:goN T n3 rs (.blk 0 K1::ks) (Fr.of (hy3 fr' (R.J::K1))) h''=some (v,h'):=y3
     clear z2 y3
     obtain⟨n4,rfl,y4⟩:=gS z3
     have z4:goN T n4 rs ks (Fr.of (hy3 (Fr.of (hy3 fr' (R.J::K1))) K1)) h''=some (v,h'):=y4
     clear z3 y4
     obtain⟨g1,g2⟩:=keepF hless2
     have hfin:=ih n4 (by omega) (by omega) z4 (B0:=B0) (B:=B1) (mr:=w.heap.size::mr) (a:={a with defers:=[mkD w.heap.size]++a.defers}) (cs:=cs) (k:=k) hfn hrs hki hro hk g1 g2 hpost hUp hMk hdef
     exact Goal.back (.one hsl) hfin (Ext.refl _ _) (Nat.le_refl _) (Bel.poke _ hl0)
theorem sf4{n:Nat}(hS:Sim P T n){f:FuncId}{F:AFun}(hTF:T f=some F)(hF:FunOK P f F)(B:Nat→Prop):zb8 P B T (goN T n) f:=by
 intro vs vs' h h' v he φ w hv hH cs
 unfold enter at he
 rw[hTF]at he
 simp only at he
 split at he
 ·rename_i hlen
  obtain⟨fn,body,h1,h2,h3,h4,h5,h6⟩:=hF.ok
  have henter:Frame.enter P f vs'.toArray .normal=
   ({(default:Frame)with fn:=f,kind:= .normal,roundOf:=none}:Frame).atR {tmps:=vs'.toArray++Array.replicate (fn.ntmps-vs'.toArray.size) undef,defers:=[]} [.code body]:=by
   simp[Frame.enter,Frame.atR,h1,h2]
  rw[henter]
  obtain⟨φ',w',v',fr',s1,s2,s3,s4,s5,s6,s7⟩:=hS he (B0:=B) (B:=B) (mr:=[]) (φ:=φ) (w:=w) (a:={tmps:=vs'.toArray++Array.replicate (fn.ntmps-vs'.toArray.size) undef,defers:=[]}) (b:={(default:Frame)with fn:=f,kind:= .normal,roundOf:=none}) (cs:=cs) (nt:=F.ntmps) (fn:=fn) h1 h5 rfl rfl (.code h3 (.base ⟨rfl,rfl⟩))
   (fun t ht=>by
     cases hu:Fr.args 0 vs t with
     |none=>rfl
     |some u=>
      obtain⟨_,h7⟩:=ea0 vs 0 t u hu
      have hlt:=(List.getElem?_eq_some_iff.1 h7).1
      have:=hF.nargs
      omega)
   ⟨by simp;omega,fun t u hu=>by
     obtain⟨_,h7⟩:=ea0 vs 0 t u hu
     obtain⟨u',h8,h9⟩:=hv.2 t u h7
     have hlt:=(List.getElem?_eq_some_iff.1 h8).1
     refine⟨u', ?_,h9⟩
     rw[Array.getElem?_append_left (by simpa using hlt)]
     simpa using h8⟩ hH ⟨fun _ h=>h,fun k h1 h2=>absurd h1 h2⟩ ⟨List.nodup_nil,fun r hr=>by cases hr⟩ rfl
  exact⟨.returned v',w',fr',⟨φ',v',rfl,s4,s5,s6,s7⟩,s1,s2,s3⟩
 ·cases he
theorem gn1(hT:xp2 P T){n:Nat}(hS:Sim P T n)(hC: ∀m,m<n→ ∀B f,zb8 P B T (goN T m) f)(B:Nat→Prop)(f:FuncId):zb8 P B T (goN T n) f:=by
 cases hF:T f with
 |none=>intro vs vs' h h' v he;unfold enter at he;rw[hF]at he;cases he
 |some F=>
  rcases hT f F hF with h1|h1
  ·exact sf4 hS hF h1 B
  ·exact h1.ok hT.body B n (fun m hm=>hC m hm B)
theorem iy4(hT:xp2 P T)(hm:P.follows .mixedOrders=true): ∀n,∀m,m≤n→ ∀B f,zb8 P B T (goN T m) f
 |0=>fun m hm' B f=>by
  obtain rfl:m=0:=by omega
  exact gn1 hT (fun hr=>by cases hr) (fun m hm=>by omega) B f
 |n+1=>fun m hm' B f=>by
  have ih:=iy4 hT hm n
  by_cases hmn:m≤n
  ·exact ih m hmn B f
  ·obtain rfl:m=n+1:=by omega
   exact gn1 hT (ka8 hT hm ih (n+1) (Nat.le_refl _)) (fun m hm=>ih m (by omega)) B f
theorem vw9{B:Nat→Prop}(hT:xp2 P T)(hm:P.follows .mixedOrders=true){f:FuncId}{vs vs':List Value}{h h':H}{v:Value}(hc:call T f vs h=some (v,h')){φ:Ren}{w:World}(hv:LR φ h.length vs vs')(hH:HR φ B h w):
 Calls P f vs'.toArray w fun e w'=> ∃φ' v',e= .returned v'∧VR φ' h'.length v v'∧HR φ' B h' w'∧Ext φ h.length φ'∧Bel B w w':=by
 have: ∃n,enter T (goN T n) f vs h=some (v,h'):=by
  unfold call at hc
  unfold enter at hc⊢
  cases hF:T f with
  |none=>rw[hF]at hc;cases hc
  |some F=>
   rw[hF]at hc
   simp only at hc⊢
   split at hc
   ·rename_i hl
    obtain⟨n,hn⟩:=ge4.1 hc
    exact⟨n,by rw[if_pos hl];exact hn⟩
   ·cases hc
 obtain⟨n,hn⟩:=this
 exact iy4 hT hm n n (Nat.le_refl _) B f _ _ _ _ _ hn φ w hv hH
theorem vp5(hT:xp2 P T)(hm:P.follows .mixedOrders=true){f:FuncId}{vs vs':List Value}{h h':H}{b:Bool}(hc:call T f vs h=some (.bool b,h')){φ:Ren}{w:World}(hv:LR φ h.length vs vs')(hH:HR φ (old w) h w):
 Calls P f vs'.toArray w fun e w'=>e= .returned (.bool b)∧Below w.heap.size w w':=
 (vw9 hT hm hc hv hH).mono fun e w' ⟨φ',v',he,hvr,_,_,hb⟩=>⟨by rw[he,xz4 hvr],hb.os,hb.tape,hb.output,hb.size,fun k hk=>hb.block k hk⟩
end
#print axioms vp5
end Go.Am
namespace Go.Am
def gdC(ops:Array Oper):Option (Nat×Bool)→Option (Option (Nat×Bool))
 |none=>some none
 |some (j,b)=>match(ops[j]?).bind (·.dst)with
  |some s=>some (some (s,b))
  |none=>none
def u90(nt:Nat):Option Nat→Bool
 |none=>true
 |some d=>Nat.blt d nt
def sx7(P:Program)(nt:Nat)(ops:Array Oper)(o:Oper):Option AOper:=
 match sv3 P o,gdC ops o.guard with
 |some op,some g=>if u90 nt o.dst then some ⟨o.dst,op,g,false⟩else none
 |_,_=>none
def m57(P:Program)(nt:Nat)(ops:Array Oper):List Oper→Option (List AOper)
 | []=>some []
 |o::r=>match sx7 P nt ops o,m57 P nt ops r with
  |some a,some l=>some (a::l)
  |_,_=>none
def mark(W b:Nat)(l:List AOper):List AOper:=
 l.zipIdx.map fun(x,j)=>
  let apart (i:Nat):Bool:= !b.testBit (W*j+i)&& !b.testBit (W*i+j)
  {x with op:=if x.op.isLd&&l.zipIdx.any (fun(y,i)=>Nat.blt j i&&apart i&&y.op.isAppU)then x.op.inBox else x.op,chk:=(x.op.isCall&&l.zipIdx.any fun(y,i)=>i !=j&&apart i&&y.op.cls !=0)||(x.op.isLd&&(l.take j).zipIdx.any fun(y,i)=>apart i&&y.op.cls==2)}
def kk4(W b:Nat)(l:List AOper)(π:List Nat):List AOper:=
 l.zipIdx.map fun(x,j)=>
  let apart (i:Nat):Bool:= !b.testBit (W*j+i)&& !b.testBit (W*i+j)
  let pj:=π.idxOf j
  {x with op:=if x.op.isLd&&l.zipIdx.any (fun(y,i)=>Nat.blt pj (π.idxOf i)&&apart i&&y.op.isAppU)then x.op.inBox else x.op,chk:=(x.op.isCall&&l.zipIdx.any fun(y,i)=>i !=j&&apart i&&y.op.cls !=0)||(x.op.isLd&&l.zipIdx.any fun(y,i)=>Nat.blt (π.idxOf i) pj&&apart i&&y.op.cls==2)}
def boxy(l:List AOper)(x:AOper):Bool:=match x.op with
 | .ld _ _ (.tmp a)=>l.any fun y=>y.dst==some a&&(match y.op with
   | .faddr .. =>true
   |_=>false)
 | .faddr .. =>true
 |_=>false
def dz2(W b:Nat)(l:List AOper):Nat→Nat→List Nat→List Nat
 |0,_,_=>[]
 |n+1,done,left=>
  let r:=left.filter fun i=>((b>>>(W*i))%2^W)&&&done==(b>>>(W*i))%2^W
  match(match r.find? fun i=>(l.getD i opNo).op.cls==0 with
   |some i=>some i
   |none=>match(match r.find? fun i=>boxy l (l.getD i opNo)with
    |some i=>some i
    |none=>r.find? fun i=>(l.getD i opNo).op.cls !=1)with
    |some i=>some i
    |none=>match r.find? fun i=>l.zipIdx.any fun(y,j)=>y.op.cls==3&&b.testBit (W*j+i)with
     |some i=>some i
     |none=>r.head?)with
  |some i=>i::dz2 W b l n (done|||2^i) (left.erase i)
  |none=>[]
def late(l:List AOper):Bool:=l.zipIdx.any fun(x,i)=>match x.op with
 | .app _ _ _ (.tmp a) _=>(l.take i).any fun y=>y.dst==some a&&(match y.op with
   | .mv (.tmp s)=>(l.drop i).any fun z=>match z.op with
     | .mv (.tmp s')=>s'==s
     |_=>false
   |_=>false)
 |_=>false
def wd6(l:List AOper):Bool:=l.any fun x=>x.chk&&x.op.isLd&&boxy l x
def ordB(n:Nat)(π:List Nat):Bool:=decide π.Nodup&&π.all (fun i=>decide (i<n))&&decide (π.length=n)
theorem tx0{n:Nat}{π:List Nat}(h:ordB n π=true):OrdOK n π:=by
 simp only[ordB,Bool.and_eq_true,decide_eq_true_eq,List.all_eq_true]at h
 exact⟨h.1.1,h.1.2,h.2⟩
def ki6(π:List Nat)(l:List AOper):List AOper:=π.map fun i=>l.getD i opNo
def hf3(P:Program)(nt:Nat)(ops:Array Oper)(draw:Bool):Option (List AOper):=
 match m57 P nt ops ops.toList with
 |some l=>match draw with
  |false=>some l
  |true=>force (befN ops.size ops.toList 0 0) fun b=>let l':=mark ops.size b l
   let t:=bm0 ops&&zz8 ops.toList l'
   if t&& !late l'&& !wd6 l' then some l' else
    let π:=dz2 ops.size b l ops.size 0 (List.range ops.size)
    let l2:=kk4 ops.size b l π
    if bm0 ops&&ordB ops.size π&&m73 ops.toList (π.map fun i=>(l2.getD i opNo,i))then some (ki6 π l2)else if t then some l' else none
 |none=>none
def ku7(nt:Nat)(x:AOper):Bool:=x.looks.all (fun t=>Nat.blt t nt)&&u90 nt x.dst
def cB(nt:Nat):Operand→Bool
 | .tmp t=>Nat.blt t nt
 |_=>true
def outB(Y:List Nat)(o:Oper):Bool:=match o.dst with
 |some d=> !Y.contains d
 |none=>true
def o65(P:Program)(nt o:Nat)(Y:List Nat)(ex:List Nat→Code→Option ACode)(kf:Nat→List Nat×List Nat)(S cur:List Nat)(c:Code):Option ACode:=
 match ex S c with
 |some a=>some a
 |none=>match c with
  | .skip=>some .skip
  | .exit id=>if S.contains id then some (.exit id)else none
  | .region _ ops draw=>match hf3 P nt ops draw with
    |some l=>if l.all (ku7 nt)&&ops.toList.all (outB Y)then some (.region (l.map (AOper.sh o)))else some .stuck
    |none=>some .stuck
  | .seq a b=>match o65 P nt o Y ex kf S cur a,o65 P nt o Y ex kf S cur b with
    |some a,some b=>some (.seq a b)
    |_,_=>none
  | .cond c a b=>if cB nt c then match o65 P nt o Y ex kf S cur a,o65 P nt o Y ex kf S cur b with
    |some a,some b=>some (.cond (shx o c) a b)
    |_,_=>none else none
  | .block id a=>match o65 P nt o Y ex kf (id::S) (kf id).1 a with
    |some a=>some (.block id (kf id).2 a)
    |none=>none
  | .loop a=>match o65 P nt o Y ex kf S cur a with
    |some a=>some (.loop cur a)
    |none=>none
  |_=>some .stuck
def ex3(J M3:Nat)(S:List Nat):Code→Option ACode
 | .ret=>if S.contains M3 then none else some (.seq (.region [⟨some J, .mv (.const (.bool true)),none,false⟩]) (.exit M3))
 |_=>none
def isY(Y:List Nat)(o:Oper):Bool:=match o.op with
 | .call c=>match c.callee with
   | .value (.tmp y)=>Y.contains y
   |_=>false
 |_=>false
def mvY(Y:List Nat)(o:Oper):Bool:=(match o.op with
    | .move (.tmp 0)=>true
    | .assign (.tmp 0)=>true
    |_=>false)&&o.guard.isNone&&(match o.dst with
    |some d=>d !=0&&Y.contains d
    |none=>false)
def fi3(P:Program)(nt:Nat)(Y:List Nat)(ops:Array Oper):List Oper→Option (List (Option AOper))
 | []=>some []
 |o::r=>match fi3 P nt Y ops r with
  |some l=>if mvY Y o then some (none::l)else match sx7 P nt ops o with
   |some a=>if ku7 nt a&&outB Y o then some (some a::l)else none
   |none=>none
  |none=>none
def l00:List (Option AOper)→Option (List AOper)
 | []=>some []
 |some a::l=>match l00 l with
  |some l=>some (a::l)
  |none=>none
 |none::_=>none
def ex2(P:Program)(R:RgD)(S:List Nat):Code→Option ACode
 | .ret=>if S.contains R.M then none else some (.exit R.M)
 | .region _ ops false=>match ops.toList.findIdx? (isY R.Y)with
   |none=>none
   |some i=>match ops[i]? with
    |none=>none
    |some o=>match o.op,o.dst,o.guard with
     | .call c,some d,none=>match c.callee with
       | .value (.tmp y)=>match fi3 P R.nt2 R.Y ops (ops.toList.take i),fi3 P R.nt2 R.Y ops (ops.toList.drop (i+1))with
         |some pre,some post0=>match l00 post0 with
          |some post=>
           if(y==0||(List.range pre.length).any fun j=>match pre[j]?,ops[j]? with
               |some none,some x=>x.dst==some y
               |_,_=>false)&&c.args.toList.all (cB R.nt2)&&(c.args.size==R.ps.length)&&Nat.blt d R.nt2&& !R.Y.contains d then
            some (.seq (.region ((pre.filterMap fun x=>x).map (AOper.sh R.o2)++R.moves c.args.toList)) (.seq (.block R.M3 R.K3 (.seq R.cA R.cB)) (.region (⟨some (d+R.o2), .un .not (.tmp R.J),none,false⟩::post.map (AOper.sh R.o2)))))
           else none
          |none=>none
         |_,_=>none
       |_=>none
     |_,_,_=>none
 |_=>none
structure RgIn where
 kf:Nat
 nc:Nat
 M:Nat
 M3:Nat
 K0:List Nat
 K1:List Nat
 K3:List Nat
 Kb:List Nat
 Y:List Nat
 kI:Nat→List Nat×List Nat
 kB:Nat→List Nat×List Nat
def noRg:Nat→Option RgIn:=fun _=>none
def rgB(R:RgD)(x:RgIn)(f:Nat)(fn2:Func):Bool:=
 !(fn2.name== "runtime.NumGoroutine")&&fn2.results.isEmpty&&Nat.blt f R.nt1&&Nat.blt 0 x.nc&&Nat.blt x.nc R.nt2&&R.Y.contains 0&&R.Y.all (fun y=>(y==0||Nat.blt x.nc y)&&Nat.blt y R.nt2)&&
 x.K1.all (fun t=>Nat.blt t R.nt1)&&x.K0.all (fun t=>Nat.blt t R.nt1)&&R.Kb.all (fun t=>Nat.blt t R.nt1&& !R.ps.contains t)&&decide R.ps.Nodup&&R.ps.all (fun t=>Nat.blt t R.nt1)&&R.K3.all (fun t=>Nat.blt t R.o3||t==R.J)
def mkR(nt:Nat)(x:RgIn)(fn2:Func)(ps:List Nat)(cA cB:ACode):RgD:=⟨nt,fn2.ntmps,x.M,x.M3,x.K3,x.Y,x.Kb,ps,cA,cB⟩
def ex1(P:Program)(nt:Nat)(rg:Nat→Option RgIn)(S:List Nat):Code→Option ACode
 | .ret=>some .ret
 | .rangeFunc (.tmp f) ps assign body=>match S with
   | []=>none
   |id::_=>match rg id with
    |none=>none
    |some x=>match P.funcs[x.kf]? with
     |none=>none
     |some fn2=>match fn2.body with
      |none=>none
      |some body2=>match o65 P nt (nt+fn2.ntmps) [] (fun _ _=>none) x.kB [] [] assign,o65 P nt (nt+fn2.ntmps) [] (ex3 (nt+fn2.ntmps+nt) x.M3) x.kB [] [] body with
       |some cA,some cB=>match o65 P fn2.ntmps nt x.Y (ex2 P (mkR nt x fn2 ps.toList cA cB)) x.kI [] [] body2 with
        |some cIt=>if rgB (mkR nt x fn2 ps.toList cA cB) x f fn2 then
          some (.seq (.block 0 x.K0 .skip) (.seq (.region (⟨some (nt+fn2.ntmps+nt), .mv (.const (.bool false)),none,false⟩::bp2 nt x.kf x.nc f))
           (.seq (.block x.M ((nt+fn2.ntmps+nt)::x.K1) cIt) (.cond (.tmp (nt+fn2.ntmps+nt)) (.seq (.block 0 x.K1 .skip) .ret) (.block 0 x.K1 .skip)))))else none
        |none=>none
       |_,_=>none
 |_=>none
def exG(l L:Nat)(S:List Nat):Code→Option ACode
 | .goto m=>if m==l&& !S.contains L then some (.exit L)else none
 |_=>none
def exS(P:Program)(nt:Nat)(kf:Nat→List Nat×List Nat)(rg:Nat→Option RgIn)(S:List Nat):Code→Option ACode
 | .scope (.seq a (.seq (.label l) b))=>match findLabel a l,o65 P nt 0 [] (fun _ _=>none) kf [] [] a,o65 P nt 0 [] (exG l (2000+2*l)) kf [] [] b with
   |none,some a',some b'=>some (.seq a' (scA (2000+2*l) (2001+2*l) (kf (2000+2*l)).2 (kf (2001+2*l)).2 (kf (2001+2*l)).1 b'))
   |_,_,_=>none
 |c=>ex1 P nt rg S c
def y29(P:Program)(nt:Nat)(kf:Nat→List Nat×List Nat)(rg:Nat→Option RgIn)(c:Code):Option ACode:=o65 P nt 0 [] (exS P nt kf rg) kf [] [] c
def ix0(P:Program):List ResultVar→Option (List ARes)
 | []=>some []
 | .tmp t::r=>match ix0 P r with
   |some l=>some (.tmp t::l)
   |none=>none
 | .cell a t::r=>match P.underlying t,P.info? t,ix0 P r with
   |some d,some i,some l=>some (.cell a (cw9 d) i.size::l)
   |_,_,_=>none
def kj8(P:Program)(kf:Nat→List Nat×List Nat)(rg:Nat→Option RgIn)(fn:Func):Option AFun:=
 match fn.body with
 |some body=>match y29 P fn.ntmps kf rg body,ix0 P fn.results.toList with
  |some c,some r=>if(fn.name== "runtime.NumGoroutine")=false∧fn.params.size+fn.nfree≤fn.ntmps∧ev3 c=true then some ⟨c,fn.params.size+fn.nfree,fn.ntmps,r⟩else none
  |_,_=>none
 |none=>none
section
variable {P:Program}
theorem wg4{o:Oper}{op:AOp}(h:sv3 P o=some op):op.inText=op:=by
 unfold sv3 at h
 split at h<;>first
  |(cases h;done)
  |(cases h;rfl)
  |((repeat' split at h)<;>first
     |(cases h;done)
     |(cases h;rfl))
theorem j40{op:AOp}:op.inBox.inText=op.inText:=by cases op<;>rfl
theorem xp6{nt:Nat}{ops:Array Oper}{o:Oper}{a:AOper}(h:sx7 P nt ops o=some a)(b:Bool)(c:Bool):CO P nt ops o {a with op:=if c then a.op.inBox else a.op,chk:=b}:=by
 unfold sx7 at h
 split at h
 ·rename_i op g h1 h2
  split at h
  ·rename_i hd
   cases h
   refine⟨rfl,fun d hd'=> ?_, ?_, ?_⟩
   ·rw[hd']at hd;exact Nat.le_of_ble_eq_true hd
   ·have:=wg4 h1
    cases c
    ·show _=some op.inText
     rw[this];exact h1
    ·show _=some op.inBox.inText
     rw[j40,this];exact h1
   ·unfold gdC at h2
    split at h2
    ·rename_i hg;cases h2;exact .inl ⟨hg,rfl⟩
    ·rename_i j bb hg
     split at h2
     ·rename_i s hs;cases h2;exact .inr ⟨j,bb,s,hg,hs,rfl⟩
     ·cases h2
  ·cases h
 ·cases h
theorem c84{nt:Nat}{ops:Array Oper}: ∀{os:List Oper} {l:List AOper},m57 P nt ops os=some l→l.length=os.length∧ ∀(i:Nat) o,os[i]? =some o→ ∃a,l[i]? =some a∧sx7 P nt ops o=some a
 | [],l,h=>by cases h;exact⟨rfl,fun i o h=>by simp at h⟩
 |o::os,l,h=>by
  simp only[m57]at h
  split at h
  ·rename_i a l' h1 h2
   cases h
   obtain⟨e1,e2⟩:=c84 h2
   refine⟨by simp[e1],fun i x hx=> ?_⟩
   cases i with
   |zero=>simp at hx;subst hx;exact⟨a,rfl,h1⟩
   |succ i=>simpa using e2 i x (by simpa using hx)
  ·cases h
theorem u15{l:List AOper}{n:Nat}(h:l.length=n):ki6 (List.range n) l=l:=by
 unfold ki6
 apply List.ext_getElem?
 intro i
 by_cases hi:i<n
 ·simp[hi,h,List.getD_eq_getElem?_getD]
 ·rw[List.getElem?_eq_none (by simp;omega),List.getElem?_eq_none (by omega)]
theorem od6{ops:Array Oper}{l:List AOper}(hl:l.length=ops.size)(h:zz8 ops.toList l=true):m73 ops.toList ((List.range ops.size).map fun i=>(l.getD i opNo,i))=true:=by
 unfold m73
 unfold zz8 at h
 rw[force_eq]at h⊢
 have he:((List.range ops.size).map fun i=>(l.getD i opNo,i))=l.zipIdx:=by
  apply List.ext_getElem?
  intro i
  by_cases hi:i<ops.size
  ·rw[List.getElem?_map,List.getElem?_range hi,List.getElem?_zipIdx,List.getElem?_eq_getElem (by omega)]
   simp[List.getD_eq_getElem?_getD,hl,hi]
  ·rw[List.getElem?_eq_none (by simp;omega),List.getElem?_eq_none (by simp;omega)]
 rw[he,List.all_eq_true]
 rintro⟨⟨x,j2⟩,j⟩ hx
 have hx1:=List.mem_zipIdx_iff_getElem?.1 hx
 simp only at hx1
 rw[List.getElem?_zipIdx]at hx1
 cases hlj:l[j]? with
 |none=>rw[hlj]at hx1;cases hx1
 |some x'=>
  rw[hlj]at hx1
  simp only[Option.map_some,Option.some.injEq,Prod.mk.injEq,Nat.zero_add]at hx1
  obtain⟨rfl,rfl⟩:=hx1
  rw[List.all_eq_true]at h
  have h1:=h (x',j) (List.mem_zipIdx_iff_getElem?.2 hlj)
  simp only[List.all_eq_true]at h1⊢
  rintro⟨y,i⟩ hy
  obtain⟨a,ha⟩:=List.getElem?_of_mem hy
  rw[List.getElem?_take]at ha
  split at ha
  ·rename_i haj
   rw[List.getElem?_zipIdx]at ha
   cases hla:l[a]? with
   |none=>rw[hla]at ha;cases ha
   |some y'=>
    rw[hla]at ha
    simp only[Option.map_some,Option.some.injEq,Prod.mk.injEq,Nat.zero_add]at ha
    obtain⟨rfl,rfl⟩:=ha
    exact h1 (y',a) (List.mem_zipIdx_iff_getElem?.2 (by simp only;rw[List.getElem?_take,if_pos haj];exact hla))
  ·cases ha
theorem q42{nt:Nat}{ops:Array Oper}{draw:Bool}{l:List AOper}(h:hf3 P nt ops draw=some l): ∃l' π,RegOK P nt ops draw l' π∧l=ki6 π l':=by
 unfold hf3 at h
 split at h
 ·rename_i l0 h0
  obtain⟨e1,e2⟩:=c84 h0
  have e1':l0.length=ops.size:=by simpa using e1
  split at h
  ·cases h
   refine⟨l,List.range ops.size,⟨e1',fun i o ho=> ?_,fun _=>rfl, .range _,fun hd=>by cases hd⟩,(u15 e1').symm⟩
   obtain⟨a,h1,h2⟩:=e2 i o (by simpa using ho)
   have:=xp6 h2 a.chk false
   exact⟨a,h1,this⟩
  ·simp only[force_eq]at h
   have hml:(mark ops.size (befN ops.size ops.toList 0 0) l0).length=ops.size:=by simp[mark,e1']
   have text:(bm0 ops&&zz8 ops.toList (mark ops.size (befN ops.size ops.toList 0 0) l0))=true→mark ops.size (befN ops.size ops.toList 0 0) l0=l→ ∃l' π,RegOK P nt ops true l' π∧l=ki6 π l':=by
    rintro hc rfl
    simp only[Bool.and_eq_true]at hc
    refine⟨_,List.range ops.size,⟨hml,fun i o ho=> ?_,fun hd=>(by cases hd), .range _,fun _=>⟨hc.1,od6 hml hc.2⟩⟩,(u15 hml).symm⟩
    obtain⟨a,h1,h2⟩:=e2 i o (by simpa using ho)
    unfold mark
    simp only[List.getElem?_map,List.getElem?_zipIdx,h1,Option.map_some]
    exact⟨_,rfl,xp6 h2 _ _⟩
   split at h
   ·rename_i hc
    simp only[Bool.and_eq_true]at hc
    exact text (by simp only[Bool.and_eq_true];exact hc.1.1) (Option.some.inj h)
   ·split at h
    ·rename_i hc
     cases h
     simp only[Bool.and_eq_true]at hc
     refine⟨_,_,⟨by simp[kk4,e1'],fun i o ho=> ?_,fun hd=>(by cases hd),tx0 hc.1.2,fun _=>⟨hc.1.1,hc.2⟩⟩,rfl⟩
     obtain⟨a,h1,h2⟩:=e2 i o (by simpa using ho)
     unfold kk4
     simp only[List.getElem?_map,List.getElem?_zipIdx,h1,Option.map_some]
     exact⟨_,rfl,xp6 h2 _ _⟩
    ·split at h
     ·exact text ‹_› (Option.some.inj h)
     ·cases h
 ·cases h
theorem tc7{nt:Nat}{x:AOper}(h:ku7 nt x=true):q08 nt x:=by
 simp only[ku7,Bool.and_eq_true,List.all_eq_true]at h
 refine⟨fun t ht=>Nat.le_of_ble_eq_true (h.1 t ht),fun d hd=> ?_⟩
 have:=h.2
 rw[hd]at this
 exact Nat.le_of_ble_eq_true this
theorem ga1{nt:Nat}{c:Operand}(h:cB nt c=true):cOK nt c:=by
 cases c<;>first|trivial|exact Nat.le_of_ble_eq_true h
theorem de5{Y:List Nat}{o:Oper}(h:outB Y o=true): ∀d,o.dst=some d→d∉Y:=fun d hd=>by
 simp only[outB,hd]at h
 simpa using h
theorem jz1{nt o:Nat}{Y S:List Nat}{X:List Nat→Code→ACode→Prop}{id:Nat}{ops:Array Oper}{draw:Bool}{l:List AOper}(h:hf3 P nt ops draw=some l)(h1:l.all (ku7 nt)=true)(h2:ops.toList.all (outB Y)=true):CRo P nt o Y X S (.region id ops draw) (.region (l.map (AOper.sh o))):=by
 obtain⟨l',π,hr,rfl⟩:=q42 h
 refine .region id ops draw l' π hr (fun x hx=> ?_) (fun i x hx=> ?_)
 ·obtain⟨i,hi,rfl⟩:=List.getElem_of_mem hx
  rw[List.all_eq_true]at h1
  have hm:=hr.ord.mem (i:=i) (by rw[←hr.len];exact hi)
  have:=h1 (l'.getD i opNo) (List.mem_map.2 ⟨i,hm,rfl⟩)
  rw[List.getD_eq_getElem?_getD,List.getElem?_eq_getElem hi]at this
  exact tc7 this
 ·rw[List.all_eq_true]at h2
  exact de5 (h2 x (by simpa using Array.mem_of_getElem? hx))
theorem ea3{nt o:Nat}{Y:List Nat}{ex:List Nat→Code→Option ACode}{X:List Nat→Code→ACode→Prop}{kf:Nat→List Nat×List Nat}(hex: ∀S c a,ex S c=some a→X S c a): ∀{c:Code} {S cur:List Nat} {a:ACode},o65 P nt o Y ex kf S cur c=some a→CRo P nt o Y X S c a:=by
 have hx: ∀{c:Code} {S:List Nat} {a b:ACode},ex S c=some a→some a=some b→CRo P nt o Y X S c b:=fun h1 h2=>by
  cases h2;exact .extra (hex _ _ _ h1)
 intro c
 induction c with
 |skip=>
  intro S cur a h
  unfold o65 at h
  split at h
  ·exact hx ‹_› h
  ·cases h;exact .skip
 |exit id=>
  intro S cur a h
  unfold o65 at h
  split at h
  ·exact hx ‹_› h
  ·simp only at h
   split at h
   ·rename_i hc;cases h;exact .exit (by simpa using hc)
   ·cases h
 |region id ops draw=>
  intro S cur a h
  unfold o65 at h
  split at h
  ·exact hx ‹_› h
  ·simp only at h
   split at h
   ·split at h
    ·rename_i h1 h2
     cases h
     rw[Bool.and_eq_true]at h2
     exact jz1 h1 h2.1 h2.2
    ·cases h;exact .stuck
   ·cases h;exact .stuck
 |seq x y ih1 ih2=>
  intro S cur a h
  unfold o65 at h
  split at h
  ·exact hx ‹_› h
  ·simp only at h
   split at h
   ·cases h;exact .seq (ih1 ‹_›) (ih2 ‹_›)
   ·cases h
 |cond c x y ih1 ih2=>
  intro S cur a h
  unfold o65 at h
  split at h
  ·exact hx ‹_› h
  ·simp only at h
   split at h
   ·split at h
    ·cases h;exact .cond (ga1 ‹_›) (ih1 ‹_›) (ih2 ‹_›)
    ·cases h
   ·cases h
 |block id x ih=>
  intro S cur a h
  unfold o65 at h
  split at h
  ·exact hx ‹_› h
  ·simp only at h
   split at h
   ·cases h;exact .block (ih ‹_›)
   ·cases h
 |loop x ih=>
  intro S cur a h
  unfold o65 at h
  split at h
  ·exact hx ‹_› h
  ·simp only at h
   split at h
   ·cases h;exact .loop (ih ‹_›)
   ·cases h
 |ret=>
  intro S cur a h
  unfold o65 at h
  split at h
  ·exact hx ‹_› h
  ·cases h;exact .stuck
 |rangeFunc=>
  intro S cur a h
  unfold o65 at h
  split at h
  ·exact hx ‹_› h
  ·cases h;exact .stuck
 |scope=>
  intro S cur a h
  unfold o65 at h
  split at h
  ·exact hx ‹_› h
  ·cases h;exact .stuck
 |label=>
  intro S cur a h
  unfold o65 at h
  split at h
  ·exact hx ‹_› h
  ·cases h;exact .stuck
 |goto=>
  intro S cur a h
  unfold o65 at h
  split at h
  ·exact hx ‹_› h
  ·cases h;exact .stuck
 |refuse=>
  intro S cur a h
  unfold o65 at h
  split at h
  ·exact hx ‹_› h
  ·cases h;exact .stuck
theorem l91{J M3:Nat}: ∀S c a,ex3 J M3 S c=some a→X3 J M3 S c a:=by
 intro S c a h
 unfold ex3 at h
 split at h
 ·split at h
  ·cases h
  ·rename_i hc;cases h;exact .ret (by simpa using hc)
 ·cases h
theorem y52{nt:Nat}{Y:List Nat}{ops:Array Oper}: ∀{os:List Oper} {i:Nat} {l:List (Option AOper)},(∀j o,os[j]? =some o→ops[i+j]? =some o)→fi3 P nt Y ops os=some l→PreOK P nt Y ops i l∧l.length=os.length
 | [],i,l,_,h=>by cases h;exact⟨.nil,rfl⟩
 |o::os,i,l,hi,h=>by
  simp only[fi3]at h
  split at h
  ·rename_i l2 h2
   obtain⟨k1,k2⟩:=y52 (i:=i+1) (fun j o ho=>by rw[show i+1+j=i+(j+1) by omega];exact hi (j+1) o (by simpa using ho)) h2
   have ho:=hi 0 o rfl
   rw[Nat.add_zero]at ho
   split at h
   ·rename_i hm
    cases h
    simp only[mvY,Bool.and_eq_true]at hm
    obtain⟨⟨m1,m2⟩,m3⟩:=hm
    refine⟨?_,by simp[k2]⟩
    cases hd:o.dst with
    |none=>rw[hd]at m3;cases m3
    |some d=>
     rw[hd]at m3
     simp only[Bool.and_eq_true,bne_iff_ne,ne_eq]at m3
     refine .mv ho ?_ (by simpa using m2) hd m3.1 (by simpa using m3.2) k1
     split at m1
     ·exact .inl ‹_›
     ·exact .inr ‹_›
     ·cases m1
   ·split at h
    ·rename_i a ha
     split at h
     ·rename_i hc
      cases h
      rw[Bool.and_eq_true]at hc
      refine⟨.op ho ?_ (tc7 hc.1) (de5 hc.2) k1,by simp[k2]⟩
      exact xp6 ha a.chk false
     ·cases h
    ·cases h
  ·cases h
theorem ez5: ∀{l:List (Option AOper)} {m:List AOper},l00 l=some m→l=m.map some
 | [],m,h=>by cases h;rfl
 |some a::l,m,h=>by
  simp only[l00]at h
  split at h
  ·rename_i l2 h2
   cases h
   rw[ez5 h2];rfl
  ·cases h
 |none::l,m,h=>by cases h
theorem z34{R:RgD}: ∀S c a,ex2 P R S c=some a→X2 P R S c a:=by
 intro S c a h
 unfold ex2 at h
 split at h
 ·split at h
  ·cases h
  ·rename_i hc;cases h;exact .ret (by simpa using hc)
 ·rename_i id ops
  split at h
  ·cases h
  ·rename_i i hi
   split at h
   ·cases h
   ·rename_i o ho
    split at h
    ·rename_i c d hop hdst hgd
     split at h
     ·rename_i y hcal
      split at h
      ·rename_i pre post0 hpre hpost0
       split at h
       ·rename_i post hps
        split at h
        ·rename_i hc
         cases h
         obtain rfl:=ez5 hps
         have hil:i<ops.size:=(Array.getElem?_eq_some_iff.1 ho).1
         obtain⟨p1,p2⟩:=y52 (i:=0) (fun j o hj=>by
          rw[Nat.zero_add]
          rw[List.getElem?_take]at hj
          split at hj
          ·simpa using hj
          ·cases hj) hpre
         obtain⟨p3,p4⟩:=y52 (i:=i+1) (fun j o hj=>by
          rw[List.getElem?_drop]at hj
          simpa using hj) hpost0
         have hl1:pre.length=i:=by rw[p2,List.length_take];simp;omega
         have hl2:post.length=ops.size-(i+1):=by
          have:=p4
          rw[List.length_map,List.length_drop]at this
          simpa using this
         subst hl1
         simp only[Bool.and_eq_true,Bool.or_eq_true,beq_iff_eq,List.any_eq_true,List.all_eq_true,Bool.not_eq_true']at hc
         obtain⟨⟨⟨⟨c1,c2⟩,c3⟩,c4⟩,c5⟩:=hc
         refine .yield id ops pre post y d o c p1 ho hop hcal ?_ (fun x hx=>ga1 (c2 x hx)) c3 hdst (Nat.le_of_ble_eq_true c4) (by simpa using c5) hgd p3 (by omega)
         rcases c1 with c1|⟨j,hj,hm⟩
         ·exact .inl c1
         ·refine .inr ?_
          split at hm
          ·rename_i x e1 e2
           exact⟨j,x,List.mem_range.1 hj,e1,e2,by simpa using hm⟩
          ·cases hm
        ·cases h
       ·cases h
      ·cases h
     ·cases h
    ·cases h
 ·cases h
theorem jz5{R:RgD}{x:RgIn}{f:Nat}{fn2:Func}(h:rgB R x f fn2=true):(fn2.name== "runtime.NumGoroutine")=false∧fn2.results= #[]∧f<R.nt1∧(0<x.nc∧x.nc+1≤R.nt2)∧(0∈R.Y∧ ∀y∈R.Y,y=0∨x.nc<y)∧(∀y∈R.Y,y<R.nt2)∧(∀t∈x.K0,t<R.nt1)∧(∀t∈x.K1,t<R.nt1)∧(∀t∈R.Kb,t<R.nt1∧t∉R.ps)∧R.ps.Nodup∧(∀t∈R.ps,t<R.nt1)∧ ∀t∈R.K3,t<R.o3∨t=R.J:=by
 simp only[rgB,Bool.and_eq_true,Bool.or_eq_true,List.all_eq_true,decide_eq_true_eq,beq_iff_eq,Bool.not_eq_true']at h
 obtain⟨⟨⟨⟨⟨⟨⟨⟨⟨⟨⟨⟨a1,a2⟩,a3⟩,a4⟩,a5⟩,a6⟩,a7⟩,a8⟩,a9⟩,a10⟩,a11⟩,a12⟩,a13⟩:=h
 have lt: ∀{a b:Nat},Nat.blt a b=true→a<b:=fun h=>Nat.le_of_ble_eq_true h
 refine⟨a1,by simpa using a2,lt a3,⟨lt a4,lt a5⟩,⟨by simpa using a6,fun y hy=> ?_⟩,fun y hy=>lt (a7 y hy).2,fun t ht=>lt (a9 t ht),fun t ht=>lt (a8 t ht),fun t ht=>⟨lt (a10 t ht).1,by simpa using(a10 t ht).2⟩,a11,fun t ht=>lt (a12 t ht),fun t ht=> ?_⟩
 ·rcases(a7 y hy).1 with e|e
  ·exact .inl e
  ·exact .inr (lt e)
 ·rcases a13 t ht with e|e
  ·exact .inl (lt e)
  ·exact .inr e
theorem g02{nt:Nat}{rg:Nat→Option RgIn}: ∀S c a,ex1 P nt rg S c=some a→X1 P nt S c a:=by
 intro S c a h
 unfold ex1 at h
 split at h
 ·cases h;exact .ret
 ·rename_i f ps assign body
  split at h
  ·cases h
  ·rename_i id S'
   split at h
   ·cases h
   ·rename_i x hx
    split at h
    ·cases h
    ·rename_i fn2 hf2
     split at h
     ·cases h
     ·rename_i body2 hb2
      split at h
      ·rename_i cA cB hA hB
       split at h
       ·rename_i cIt hIt
        split at h
        ·rename_i hc
         cases h
         obtain⟨b1,b2,b3,b4,b5,b6,b7,b8,b9,b10,b11,b12⟩:=jz5 hc
         exact .range (mkR nt x fn2 ps.toList cA cB) f x.kf x.nc ps assign body x.K0 x.K1 cIt rfl
          {fn:=⟨fn2,body2,hf2,hb2,b1,b2,rfl,ea3 z34 hIt⟩
           asg:=ea3 (fun _ _ _ h=>by cases h) hA
           bod:=ea3 l91 hB
           hf:=b3,hnc:=b4,hy:=b5,hylt:=b6,hK0:=b7,hK1:=b8,hKb:=b9,hps:=⟨rfl,b10,b11⟩,hK3:=b12}
        ·cases h
       ·cases h
      ·cases h
 ·cases h
theorem be9{l L:Nat}: ∀S c a,exG l L S c=some a→XG l L S c a:=by
 intro S c a h
 unfold exG at h
 split at h
 ·split at h
  ·rename_i hc
   cases h
   simp only[Bool.and_eq_true,beq_iff_eq,Bool.not_eq_true']at hc
   obtain⟨rfl,h2⟩:=hc
   exact .goto (by simpa using h2)
  ·cases h
 ·cases h
theorem le2{nt:Nat}{kf:Nat→List Nat×List Nat}{rg:Nat→Option RgIn}: ∀S c a,exS P nt kf rg S c=some a→X1 P nt S c a:=by
 intro S c a h
 unfold exS at h
 split at h
 ·rename_i x l y
  split at h
  ·rename_i h1 h2 h3
   cases h
   exact .scope l (2000+2*l) (2001+2*l) _ _ _ x y _ _ ⟨h1,by omega,ea3 (fun _ _ _ h=>by cases h) h2,ea3 be9 h3⟩
  ·cases h
 ·exact g02 _ _ _ h
theorem n73: ∀{rs:List ResultVar} {l:List ARes},ix0 P rs=some l→RR P rs l
 | [],l,h=>by cases h;trivial
 | .tmp t::rs,l,h=>by
   simp only[ix0]at h
   split at h
   ·cases h;exact⟨rfl,n73 ‹_›⟩
   ·cases h
 | .cell a t::rs,l,h=>by
   simp only[ix0]at h
   split at h
   ·cases h;exact⟨rfl,⟨_,_, ‹_›, ‹_›,rfl,rfl⟩,n73 ‹_›⟩
   ·cases h
theorem lh3{kf:Nat→List Nat×List Nat}{rg:Nat→Option RgIn}{f:FuncId}{fn:Func}{F:AFun}(hf:P.funcs[f]? =some fn)(h:kj8 P kf rg fn=some F):FunOK P f F:=by
 unfold kj8 at h
 split at h
 ·rename_i body hb
  split at h
  ·rename_i c r h1 h2
   split at h
   ·rename_i hc
    cases h
    exact⟨hc.2.1,⟨fn,body,hf,hb,ea3 le2 h1,rfl,n73 h2,hc.1⟩,hc.2.2⟩
   ·cases h
  ·cases h
 ·cases h
end
end Go.Am
namespace Go.Am
variable {T:Tab} {rs:List ARes}
def AOp.l(s:Nat):AOp:= .ld false 1 (.tmp s)
def AOp.i(u a b:Nat):AOp:= .iaddr u (.tmp a) (.tmp b)
def AOp.b(o:BinOp)(x y:Nat):AOp:= .bin o (.tmp x) (.tmp y)
def AOp.c(o:BinOp)(x:Nat)(n:Int):AOp:= .bin o (.tmp x) (.const (.int .i64 n))
def AOp.f(k s:Nat):AOp:= .faddr k (.tmp s)
def AOp.n(s:Nat):AOp:= .len (.tmp s)
def AOp.e(i s:Nat):AOp:= .ext i (.tmp s)
def AOp.m(s:Nat):AOp:= .mv (.tmp s)
def AOp.q(f:FuncId)(l:List Nat):AOp:= .call f (l.map .tmp)
def AOper.o(d:Nat)(x:AOp):AOper:=⟨some d,x,none,false⟩
def AOper.n(x:AOp):AOper:=⟨none,x,none,false⟩
def AOper.g(d:Nat)(x:AOp)(c:Nat)(b:Bool):AOper:=⟨some d,x,some (c,b),false⟩
def AOper.m(d s:Nat):AOper:=⟨some d, .mv (.tmp s),none,false⟩
def AOper.k(d:Nat)(n:Int):AOper:=⟨some d, .mv (.const (.int .i64 n)),none,false⟩
attribute [push_cast] AOp.l AOp.i AOp.b AOp.c AOp.f AOp.n AOp.e AOp.m AOp.q AOper.o AOper.n AOper.g AOper.m AOper.k
noncomputable def goL (T:Tab) (rs:List ARes) (kh:List Nat) (c:ACode) (ks:List It) (l:List (Nat×Value)) (h:H):Res:=go T rs (.code c:: .lp kh c::ks) (Fr.of l) h
noncomputable def goO (T:Tab) (rs:List ARes) (n0:Nat) (l:List AOper) (ks:List It) (fr:Fr) (h:H):Res:=
 match gf4 T (go T) n0 l fr h with
 |some (fr',h')=>go T rs ks fr' h'
 |none=>none
noncomputable def goS (T:Tab) (rs:List ARes) (n0:Nat) (d:Option Nat) (l:List AOper) (ks:List It) (fr:Fr):Option (Option Value×H)→Res
 |some (v,h')=>goO T rs n0 l ks (fr.put d v) h'
 |none=>none
noncomputable def goC (T:Tab) (rs:List ARes) (a b:ACode) (ks:List It) (fr:Fr) (h:H):Bool→Res
 |true=>go T rs (.code a::ks) fr h
 |false=>go T rs (.code b::ks) fr h
noncomputable def goX (T:Tab) (rs:List ARes) (fr:Fr) (h:H):Option (List Nat×List It)→Res
 |some (ko,k)=>go T rs k (Fr.of (hy3 fr ko)) h
 |none=>none
section
variable {ks:List It} {fr:Fr} {h:H}
@[push_cast] theorem fq0:go T rs [] fr h=retv rs fr h:=by rw[go_eq];rfl
@[push_cast] theorem s84:go T rs (.code .ret::ks) fr h=retv rs fr h:=by rw[go_eq];rfl
@[push_cast] theorem xp8:go T rs (.code .skip::ks) fr h=go T rs ks fr h:=by rw[go_eq];rfl
@[push_cast] theorem n84{a b:ACode}:go T rs (.code (.seq a b)::ks) fr h=go T rs (.code a:: .code b::ks) fr h:=by rw[go_eq];rfl
@[push_cast] theorem k93{c:Operand}{a b:ACode}:go T rs (.code (.cond c a b)::ks) fr h=match ev fr c with
 |some (.bool t)=>goC T rs a b ks fr h t
 |_=>none:=by
 rw[go_eq]
 simp only[gF]
 cases ev fr c with
 |none=>rfl
 |some v=>cases v<;>first|rfl|(rename_i t;cases t<;>rfl)
@[push_cast] theorem ox6{a b:ACode}:goC T rs a b ks fr h true=go T rs (.code a::ks) fr h:=rfl
@[push_cast] theorem sr1{a b:ACode}:goC T rs a b ks fr h false=go T rs (.code b::ks) fr h:=rfl
@[push_cast] theorem aw5{id:Nat}{ko:List Nat}{c:ACode}:go T rs (.code (.block id ko c)::ks) fr h=go T rs (.code c:: .blk id ko::ks) fr h:=by rw[go_eq];rfl
@[push_cast] theorem de3{id:Nat}{ko:List Nat}:go T rs (.blk id ko::ks) fr h=go T rs ks (Fr.of (hy3 fr ko)) h:=by rw[go_eq];rfl
@[push_cast] theorem zv5{kh:List Nat}{c:ACode}:go T rs (.code (.loop kh c)::ks) fr h=goL T rs kh c ks (hy3 fr kh) h:=by rw[go_eq];rfl
@[push_cast] theorem g72{kh:List Nat}{c:ACode}:go T rs (.lp kh c::ks) fr h=goL T rs kh c ks (hy3 fr kh) h:=by rw[go_eq];rfl
theorem ur1{kh:List Nat}{c c':ACode}(hc:c=c'){l:List (Nat×Value)}:goL T rs kh c ks l h=go T rs (.code c':: .lp kh c::ks) (Fr.of l) h:=by subst hc;rfl
@[push_cast] theorem r03{id:Nat}:go T rs (.code (.exit id)::ks) fr h=goX T rs fr h (gc2 id ks):=by
 rw[go_eq];simp only[gF];unfold goX;split<;>split<;>simp_all
@[push_cast] theorem lv3{ko:List Nat}{k:List It}:goX T rs fr h (some (ko,k))=go T rs k (Fr.of (hy3 fr ko)) h:=rfl
@[push_cast] theorem ch3{l:List AOper}:go T rs (.code (.region l)::ks) fr h=goO T rs h.length l ks fr h:=by rw[go_eq];rfl
@[push_cast] theorem hi7{n0:Nat}:goO T rs n0 [] ks fr h=go T rs ks fr h:=rfl
@[push_cast] theorem fm7{n0:Nat}{o:AOper}{l:List AOper}:goO T rs n0 (o::l) ks fr h=goS T rs n0 o.dst l ks fr (core T (go T) n0 o fr h):=by
 unfold goO
 simp only[gf4]
 unfold km6 goS
 cases core T (go T) n0 o fr h<;>rfl
@[push_cast] theorem bi5{n0:Nat}{d:Option Nat}{l:List AOper}{v:Option Value}{h':H}:goS T rs n0 d l ks fr (some (v,h'))=goO T rs n0 l ks (fr.put d v) h':=rfl
end
@[push_cast] theorem ut4{id id':Nat}{ko:List Nat}{k:List It}:gc2 id (.blk id' ko::k)=bif Nat.beq id' id then some (ko,k)else gc2 id k:=by
 simp only[gc2]
 by_cases he:id'=id
 ·subst he;simp
 ·have:Nat.beq id' id=false:=by cases hb:Nat.beq id' id with
   |false=>rfl
   |true=>exact absurd (Nat.eq_of_beq_eq_true hb) he
  simp[he,this]
@[push_cast] theorem xa3{id:Nat}{c:ACode}{k:List It}:gc2 id (.code c::k)=gc2 id k:=rfl
@[push_cast] theorem w02{id:Nat}{kh:List Nat}{c:ACode}{k:List It}:gc2 id (.lp kh c::k)=gc2 id k:=rfl
@[push_cast] theorem ve7{f:FuncId}{vs:List Value}{h:H}:enter T (go T) f vs h=call T f vs h:=rfl
@[push_cast] theorem zi1{α:Type}{h h':H}{r:Option α}:behind false h h' r=r:=rfl
theorem zy7{α:Type}{h h':H}{r:Option α}(hp:h<+:h'):behind true h h' r=r:=by unfold behind;rw[if_pos hp]
@[push_cast] theorem v18{α:Type}{x y:α}:(bif true then x else y)=x:=rfl
@[push_cast] theorem ua1{α:Type}{x y:α}:(bif false then x else y)=y:=rfl
@[push_cast] theorem nbeq(a b:Nat):Nat.beq a b=(a==b):=by
 by_cases h:a=b
 ·subst h;simp
 ·have:Nat.beq a b=false:=by cases hb:Nat.beq a b with
   |false=>rfl
   |true=>exact absurd (Nat.eq_of_beq_eq_true hb) h
  simp[h,this]
@[push_cast] theorem lc3{fr:Fr}{s t:Nat}{v:Value}:Fr.set fr s v t=bif Nat.beq t s then some v else fr t:=rfl
@[push_cast] theorem ze1{fr:Fr}{s t:Nat}:Fr.del fr s t=bif Nat.beq t s then none else fr t:=rfl
@[push_cast] theorem of_nil{t:Nat}:Fr.of [] t=none:=rfl
@[push_cast] theorem of_cons{t k:Nat}{v:Value}{r:List (Nat×Value)}:Fr.of ((k,v)::r) t=bif Nat.beq t k then some v else Fr.of r t:=rfl
@[push_cast] theorem s19{n t:Nat}:Fr.args n [] t=none:=rfl
@[push_cast] theorem bk0{n t:Nat}{v:Value}{r:List Value}:Fr.args n (v::r) t=bif Nat.beq t n then some v else Fr.args (n+1) r t:=rfl
@[push_cast] theorem fp5{fr:Fr}{s:Nat}{v:Value}:Fr.put fr (some s) (some v)=fr.set s v:=rfl
@[push_cast] theorem zj6{fr:Fr}{s:Nat}:Fr.put fr (some s) none=fr.del s:=rfl
@[push_cast] theorem ur3{fr:Fr}{v:Option Value}:Fr.put fr none v=fr:=by cases v<;>rfl
attribute [push_cast] if_true if_false Bool.true_eq_false Bool.false_eq_true Bool.not_true Bool.not_false Bool.and_true Bool.true_and Bool.and_false Bool.false_and Bool.or_true Bool.true_or Bool.or_false Bool.false_or
@[push_cast] theorem h35:(true==true)=true:=rfl
@[push_cast] theorem ea2:(true==false)=false:=rfl
@[push_cast] theorem yn4:(false==true)=false:=rfl
@[push_cast] theorem kr1:(false==false)=true:=rfl
@[push_cast] theorem st5:(true !=true)=false:=rfl
@[push_cast] theorem li2:(true !=false)=true:=rfl
@[push_cast] theorem dj6:(false !=true)=true:=rfl
@[push_cast] theorem b29:(false !=false)=false:=rfl
@[push_cast] theorem cv9{α:Type}:(none:Option α).isNone=true:=rfl
@[push_cast] theorem ic6{α:Type}{x:α}:(some x).isNone=false:=rfl
@[push_cast] theorem h96{α:Type}:(none:Option α).isSome=false:=rfl
@[push_cast] theorem s52{α:Type}{x:α}:(some x).isSome=true:=rfl
attribute [push_cast] Nat.zero_add Nat.add_zero Nat.mul_one eq_self ne_eq not_true not_false_iff and_true true_and and_self List.getElem?_cons_zero List.getElem?_cons_succ List.map_cons List.map_nil
attribute [push_cast] core gd wb6 aop abin aint th5 astr aun anil ah0 bound cat sized evp evo ho0 mm ev evs closed tc5 hy3 retv ress res1 flat Value.cells decide_true decide_false
theorem wrap64{x:Int}(h1: -9223372036854775808≤x)(h2:x≤9223372036854775807):IntKind.wrap .i64 x=x:=by
 rw[IntKind.wrap_i64];omega
theorem dec_lt{a b:Int}(h:a<b):decide (a<b)=true:=by simpa using h
theorem cw6{a b:Int}(h:b≤a):decide (a<b)=false:=by simpa using h
theorem nl3{a b:Int}(h:a≤b):decide (a≤b)=true:=by simpa using h
theorem qc6{a b:Int}(h:b<a):decide (a≤b)=false:=by simpa using h
theorem mr8{a b:Int}(h:a=b):decide (a=b)=true:=by simpa using h
theorem nb8{a b:Int}(h: ¬a=b):decide (a=b)=false:=by simpa using h
theorem wn8{f:FuncId}{F:AFun}{vs:List Value}{h:H}(hT:T f=some F)(hl:vs.length=F.nargs):call T f vs h=go T F.results [.code F.code] (Fr.args 0 vs) h:=by
 unfold call enter;rw[hT];simp only;rw[if_pos hl]
end Go.Am
namespace Go.Am
def ints(zs:List Int):List Value:=zs.map (Value.int .i64)
def gi(zs:List Int)(i:Int):Int:=zs.getD i.toNat 0
theorem lr6{zs:List Int}{i:Int}(h0:0≤i)(h:i<zs.length):zs[i.toNat]? =some (gi zs i):=by
 unfold gi
 rw[List.getD_eq_getElem?_getD]
 have:i.toNat<zs.length:=by omega
 simp[List.getElem?_eq_getElem this]
theorem h04{zs:List Int}{i:Int}(h0:0≤i)(h:i<zs.length):gi zs i=zs[i.toNat]'(by omega):=by
 unfold gi;rw[List.getD_eq_getElem?_getD,List.getElem?_eq_getElem (by omega)];rfl
theorem k18{zs:List Int}{i:Int}(h0:0≤i)(h:i<zs.length):gi zs i∈zs:=by rw[h04 h0 h];exact List.getElem_mem _
theorem iq5(zs:List Int):(ints zs).length=zs.length:=by simp[ints]
theorem c13{zs:List Int}{i:Int}(h0:0≤i)(h:i<zs.length):(ints zs)[i.toNat]? =some (.int .i64 (gi zs i)):=by
 unfold ints;rw[List.getElem?_map,lr6 h0 h];rfl
def RdI(h:H)(sa:Option Addr)(c:Nat)(zs:List Int):Prop:=
 (sa=none∧c=0∧zs=[])∨(zs.length≤c∧ ∃o off r,sa=some ⟨o,off,none⟩∧h.row o=some r∧(r.own=true→r.unit=1)∧ ∀i:Int,0≤i→i<zs.length→r.cells[off+i.toNat]? =some (.int .i64 (gi zs i)))
theorem RdI.addr{h:H}{sa:Option Addr}{c:Nat}{zs:List Int}(hr:RdI h sa c zs)(hz:0<zs.length):
 ∃o off,sa=some ⟨o,off,none⟩∧o<h.length∧ ∀i:Int,0≤i→i<zs.length→h.ld1 o (off+i.toNat)=some (.int .i64 (gi zs i)):=by
 rcases hr with⟨_,_,rfl⟩|⟨_,o,off,r,h1,h2,h3⟩
 ·simp at hz
 ·exact⟨o,off,h1,h42 h2,fun i h0 hi=>by unfold H.ld1;rw[h2];exact h3.2 i h0 hi⟩
theorem RdI.mono{h h':H}{sa:Option Addr}{c:Nat}{zs:List Int}(hr:RdI h sa c zs)(hp:h<+:h'):RdI h' sa c zs:=by
 rcases hr with h1|⟨h1,o,off,r,h2,h3,h4⟩
 ·exact .inl h1
 ·exact .inr ⟨h1,o,off,r,h2,by rw[m20 hp (h42 h3)];exact h3,h4⟩
theorem RdI.ofRow{h:H}{o:Nat}{r:Row}{zs:List Int}(hr:h.row o=some r)(hc:r.cells=ints zs)(hu:r.own=true→r.unit=1:=by intro _;rfl):RdI h (some ⟨o,0,none⟩) zs.length zs:=
 .inr ⟨Nat.le_refl _,o,0,r,rfl,hr,hu,fun i h0 hi=>by rw[hc,Nat.zero_add];exact c13 h0 hi⟩
theorem z45{h:H}{b:Ob}{o:Nat}(ho:o<h.length):H.row (h++[b]) o=h.row o:=n64 ho
theorem cv8{h:H}{r:Row}:H.row (h++[.row r]) h.length=some r:=by unfold H.row;simp
theorem jl1{h:H}{o o':Nat}{b:Ob}(hne:o≠o'):H.row (h.set o b) o'=h.row o':=by
 unfold H.row;rw[List.getElem?_set_ne hne]
theorem tr3{h:H}{o:Nat}{r:Row}(ho:o<h.length):H.row (h.set o (.row r)) o=some r:=by
 unfold H.row;rw[List.getElem?_set_self ho]
theorem ym5{h h':H}{b:List Ob}(hp:h<+:h'):h<+:h'++b:=hp.trans (List.prefix_append _ _)
theorem wc3{h h':H}{o:Nat}{b:Ob}(hp:h<+:h')(ho:h.length≤o):h<+:h'.set o b:=by
 obtain⟨t,rfl⟩:=hp
 rw[List.set_append_right _ _ (by omega)]
 exact List.prefix_append _ _
theorem bt8{h h':H}(hp:h<+:h'):h.length≤h'.length:=hp.length_le
end Go.Am
namespace Go.Am
@[push_cast] theorem jc2{α:Type}(l:List α):(List.toArray l).toList=l:=rfl
@[push_cast] theorem y64{α:Type}(l:List α)(i:Nat):(List.toArray l)[i]? =l[i]? :=by simp
@[push_cast] theorem la5:(#[]:Array Value).isEmpty=true:=rfl
@[push_cast] theorem a38{α:Type}(l:List α):[]++l=l:=rfl
@[push_cast] theorem ni7{α:Type}(a:α)(l l':List α):(a::l)++l'=a::(l++l'):=rfl
@[push_cast] theorem getD_none{α:Type}(a:α):(none:Option α).getD a=a:=rfl
@[push_cast] theorem getD_some{α:Type}(a b:α):(some b:Option α).getD a=b:=rfl
@[push_cast] theorem oh7{α β:Type}(f:α→β)(b:α):(some b).map f=some (f b):=rfl
@[push_cast] theorem len_nil{α:Type}:([]:List α).length=0:=rfl
@[push_cast] theorem bm4{α:Type}(a:α)(l:List α):(a::l).length=l.length+1:=rfl
@[push_cast] theorem sv8{α:Type}(l:List α):(List.toArray l).size=l.length:=rfl
@[push_cast] theorem qc7(a:Nat):(a==a)=true:=beq_self_eq_true a
@[push_cast] theorem ra5(a:Nat):(a !=a)=false:=by simp
theorem ng1{h:H}{o:Nat}{r:Row}(hr:h.row o=some r)(off:Nat):h.ld1 o off=r.cells[off]? :=by unfold H.ld1;rw[hr]
theorem rr6{h:H}{r:Row}{o:Nat}(ho:o=h.length):H.row (h++[.row r]) o=some r:=by subst ho;exact cv8
theorem wi2{h:H}{o:Nat}{b:Ob}:(h.set o b).length=h.length:=List.length_set
theorem rl9{h:H}{b:Ob}:(h++[b]).length=h.length+1:=by simp
theorem q89{h:H}{o:Nat}:(kill h o).length=h.length:=List.length_set
theorem zz6{h:H}{o o':Nat}(hne:o≠o'):H.row (kill h o) o'=h.row o':=jl1 hne
theorem uw3{h h':H}{o:Nat}(hp:h<+:h')(ho:h.length≤o):h<+:kill h' o:=wc3 hp ho
theorem ints_set{zs:List Int}{i:Nat}{v:Int}(hi:i<zs.length):hu1 (ints zs) i [.int .i64 v]=ints (zs.set i v):=by
 unfold hu1 ints
 have hl:i<(zs.map (Value.int .i64)).length:=by simpa using hi
 rw[List.map_set,List.set_eq_take_append_cons_drop,if_pos hl]
 simp
theorem l45{h:H}{o:Nat}{zs:List Int}{i v:Int}{e u:Nat}(hr:h.row o=some ⟨ints zs,e,u,true⟩)(h0:0≤i)(hi:i<zs.length):
 h.sts o i.toNat [.int .i64 v]=some (h.set o (.row ⟨ints (zs.set i.toNat v),e,u,true⟩)):=by
 unfold H.sts;rw[hr]
 simp only[Bool.true_and,List.length_cons,List.length_nil,iq5]
 rw[if_pos (by simp;omega),ints_set (by omega)]
theorem i59{h:H}{o:Nat}{zs:List Int}{i:Int}{e u:Nat}{b:Bool}(hr:h.row o=some ⟨ints zs,e,u,b⟩)(h0:0≤i)(hi:i<zs.length):
 h.ld1 o i.toNat=some (.int .i64 (gi zs i)):=by rw[ng1 hr];exact c13 h0 hi
theorem nz1{h:H}{o:Nat}{zs:List Int}{e u a n:Nat}{b:Bool}(hr:h.row o=some ⟨ints zs,e,u,b⟩)(hb:a+n≤zs.length):
 h.lds o a n=some (ints ((zs.drop a).take n)):=by
 unfold H.lds;rw[hr]
 simp only[iq5]
 rw[if_pos hb]
 unfold ints
 rw[List.map_take,List.map_drop]
theorem k78(n:Nat)(v:Int):rep [.int .i64 v] n=ints (List.replicate n v):=by
 induction n with
 |zero=>rfl
 |succ n ih=>simp[rep,ints,List.replicate_succ,ih]
theorem mz5(xs ys:List Int):ints xs++ints ys=ints (xs++ys):=by simp[ints]
def Grown(h:H)(sa:Option Addr)(c:Nat)(zs:List Int)(lo:Nat):Prop:=
 (sa=none∧c=0∧zs=[])∨ ∃o,sa=some ⟨o,0,none⟩∧lo≤o∧c=zs.length∧h.row o=some ⟨ints zs,3,1,true⟩
theorem Grown.app{h:H}{sa:Option Addr}{c lo:Nat}{zs ys:List Int}{x:Value}(hg:Grown h sa c zs lo)(hx: ∃a b d,x= .slice a b d∧b=ys.length)
 (hs:b38 h 1 ys.length x=some (ints ys)) (hy:ys≠[]) (hl:zs.length+ys.length≤1099511627776) (hlo:lo≤h.length):
 ∃sa' h',aapp 3 1 8 h (.slice sa zs.length c) x=some (.slice sa' (zs++ys).length (zs++ys).length,h')∧Grown h' sa' (zs++ys).length (zs++ys) lo∧h.length≤h'.length∧
  (∀o,o<lo→h'.row o=h.row o)∧(∀p:H,p.length≤lo→p<+:h→p<+:h'):=by
 obtain⟨a,b,d,rfl,rfl⟩:=hx
 have hyl:ys.length≠0:=fun e=>hy (List.length_eq_zero_iff.mp e)
 rcases hg with⟨rfl,rfl,rfl⟩|⟨o,rfl,ho,rfl,hr⟩
 ·refine⟨some ⟨h.length,0,none⟩,h++[.row ⟨ints ys,3,1,true⟩], ?_, .inr ⟨h.length,rfl,hlo,rfl, ?_⟩,by simp, ?_, ?_⟩
  ·unfold aapp aput;simp only[hs,List.length_nil,List.nil_append]
   rw[if_pos (by simp),if_neg hyl,if_pos (by simp[few]at*;omega)]
  ·simp only[List.nil_append];exact cv8
  ·intro o ho;exact z45 (by omega)
  ·intro p _ hp;exact ym5 hp
 ·have hol:=h42 hr
  refine⟨some ⟨h.length,0,none⟩,kill h o++[.row ⟨ints (zs++ys),3,1,true⟩], ?_, .inr ⟨h.length,rfl,by omega,rfl, ?_⟩,by simp[q89], ?_, ?_⟩
  ·unfold aapp aput;simp only[hs,hr]
   rw[if_pos (by simp[few,iq5]at*;omega)]
   simp only[List.drop_zero,Nat.mul_one,List.length_append]
   rw[List.take_of_length_le (by simp[iq5]),mz5]
  ·rw[show h.length=(kill h o).length from q89.symm];exact cv8
  ·intro o' ho';rw[z45 (by rw[q89];omega),zz6 (by omega)]
  ·intro p hpl hp;exact ym5 (uw3 hp (by omega))
theorem Grown.rd{h:H}{sa:Option Addr}{c lo:Nat}{zs:List Int}(hg:Grown h sa c zs lo):RdI h sa c zs:=by
 rcases hg with hn|⟨o,rfl,_,rfl,hr⟩
 ·exact .inl hn
 ·exact RdI.ofRow hr rfl
theorem Grown.carry{h h':H}{sa:Option Addr}{c lo:Nat}{zs:List Int}(hg:Grown h sa c zs lo)(hk: ∀o,lo≤o→o<h.length→h'.row o=h.row o):Grown h' sa c zs lo:=by
 rcases hg with hn|⟨o,h1,h2,h3,hr⟩
 ·exact .inl hn
 ·exact .inr ⟨o,h1,h2,h3,by rw[hk o h2 (h42 hr)];exact hr⟩
end Go.Am
namespace Go.Vm
open Go.Am
inductive Tree where
 |v (x:Value)
 |sl (nl e u:Nat) (cs:List Tree)
 |pt (e:Nat) (cs:List Tree)
 |fn (f:FuncId) (cs:List Tree)
 |fz (t:Tree)
 |junk
 |ex (t:Tree)
inductive AV where
 |x (v:Value)
 |fz (pm:Bool) (t:Tree)
 |fzc (pm:Bool) (cs:List Tree) (i:Nat)
 |own (r:Nat) (p:List Nat)
 |sub (r:Nat) (p:List Nat) (u lo n:Nat)
 |cell (r:Nat) (p:List Nat) (i:Nat)
 |agg (l:List AV)
 |tup (l:List AV)
 |fn (f:FuncId) (l:List AV)
abbrev VFr:=Nat→Option AV
def VFr.set(fr:VFr)(s:Nat)(v:AV):VFr:=fun t=>bif Nat.beq t s then some v else fr t
def VFr.del(fr:VFr)(s:Nat):VFr:=fun t=>bif Nat.beq t s then none else fr t
def VFr.of:List (Nat×AV)→VFr
 | [],_=>none
 |(k,v)::r,t=>bif Nat.beq t k then some v else VFr.of r t
def VFr.put(fr:VFr):Option Nat→Option AV→VFr
 |some s,some v=>fr.set s v
 |some s,none=>fr.del s
 |none,_=>fr
def VFr.keep(fr:VFr):List Nat→List (Nat×AV)
 | []=>[]
 |k::ks=>match fr k with
  |some v=>(k,v)::fr.keep ks
  |none=>fr.keep ks
def VFr.args:Nat→List AV→VFr
 |_,[],_=>none
 |n,v::r,t=>bif Nat.beq t n then some v else VFr.args (n+1) r t
mutual
def strip:Tree→Tree
 | .v x=> .v x
 | .sl nl e u cs=> .sl nl 0 u (jj5 cs)
 | .pt e cs=> .pt 0 (jj5 cs)
 | .fn f cs=> .fn f (jj5 cs)
 | .fz t=>t
 | .junk=> .junk
 | .ex t=> .ex t
def jj5:List Tree→List Tree
 | []=>[]
 |t::l=>strip t::jj5 l
end
def Tree.kids:Tree→Option (List Tree)
 | .sl _ _ _ cs=>some cs
 | .pt _ cs=>some cs
 |_=>none
def Tree.setKids:Tree→List Tree→Tree
 | .sl nl e u _,cs=> .sl nl e u cs
 | .pt e _,cs=> .pt e cs
 |t,_=>t
def Tree.get:Tree→List Nat→Option Tree
 |t,[]=>some t
 |t,i::p=>match t.kids with
  |some cs=>match cs[i]? with
   |some k=>k.get p
   |none=>none
  |none=>none
def Tree.upd:Tree→List Nat→Tree→Tree
 |_,[],s=>s
 |t,i::p,s=>match t.kids with
  |some cs=>match cs[i]? with
   |some k=>t.setKids (cs.set i (k.upd p s))
   |none=>t
  |none=>t
def isNode:Tree→Bool
 | .sl .. =>true
 | .pt .. =>true
 | .ex (.sl ..)=>true
 | .ex (.pt ..)=>true
 |_=>false
def hc9:Tree→Bool
 | .sl .. =>true
 | .pt .. =>true
 |_=>false
theorem k59{t:Tree}(h:hc9 t=true):isNode t=true:=by cases t<;>first|rfl|cases h
def isV:Tree→Bool
 | .v _=>true
 |_=>false
def plain:Tree→Bool
 | .v _=>true
 | .fz _=>true
 |_=>false
abbrev Rts:=List Tree
def rget(R:Rts)(r:Nat)(p:List Nat):Option Tree:=match R[r]? with
 |some t=>t.get p
 |none=>none
def rset(R:Rts)(r:Nat)(p:List Nat)(s:Tree):Rts:=match R[r]? with
 |some t=>R.set r (t.upd p s)
 |none=>R
def setL{α:Type}:List α→Nat→List α→List α
 |cs,_,[]=>cs
 |cs,i,t::ts=>setL (cs.set i t) (i+1) ts
def vev(fr:VFr):Operand→Option AV
 | .tmp t=>fr t
 | .const (.agg cs)=>if cs.all tc5 then some (.agg (cs.toList.map AV.x))else none
 | .const (.tuple cs)=>none
 | .const v=>if tc5 v then some (.x v)else none
 | .global _=>none
 | .func f=>some (.fn f [])
def vevs(fr:VFr):List Operand→Option (List AV)
 | []=>some []
 |x::r=>match vev fr x,vevs fr r with
  |some v,some vs=>some (v::vs)
  |_,_=>none
def vx(fr:VFr)(o:Operand):Option Value:=match vev fr o with
 |some (.x v)=>some v
 |_=>none
def vxs(fr:VFr):List Operand→Option (List Value)
 | []=>some []
 |x::r=>match vx fr x,vxs fr r with
  |some v,some vs=>some (v::vs)
  |_,_=>none
def vxo(fr:VFr):Option Operand→Option (Option Int)
 |none=>some none
 |some x=>match vx fr x with
  |some v=>match bound v with
   |some i=>some (some i)
   |none=>none
  |none=>none
def one:Value→Bool
 | .agg _=>false
 | .tuple _=>false
 |_=>true
def cellsOf:AV→List AV
 | .agg l=>l
 |a=>[a]
mutual
def ofz(b:Bool):Tree→Option AV
 | .v x=>some (.x x)
 | .sl nl e u cs=>some (.fz b (.sl nl e u cs))
 | .pt e cs=>some (.fz b (.pt e cs))
 | .fn f cs=>match ofzL b cs with
   |some l=>some (.fn f l)
   |none=>none
 | .fz t=>ofz b t
 | .junk=>none
 | .ex (.sl nl e u cs)=>some (.fz b (.ex (.sl nl e u cs)))
 | .ex (.pt e cs)=>some (.fz b (.ex (.pt e cs)))
 | .ex _=>none
def ofzL(b:Bool):List Tree→Option (List AV)
 | []=>some []
 |t::l=>match ofz b t,ofzL b l with
  |some a,some r=>some (a::r)
  |_,_=>none
end
def dull:Tree→Tree
 | .sl _ e u cs=> .sl 2 e u cs
 |t=>t
def vput(sh:Bool)(R:Rts):AV→Option (Tree×Rts)
 | .x v=>if one v then some (.v v,R)else none
 | .fz true t=>if isNode t then some (.fz t,R)else none
 | .own r p=>match rget R r p with
   |some (.fz t)=>if isNode t then some (.fz t,R)else none
   |some .junk=>some (.junk,R)
   |some s=>if isNode s then if sh then some (.fz (strip s),rset R r p (.fz (strip s)))else some (dull s,rset R r p .junk)else none
   |none=>none
 | .fn f []=>some (.fn f [],R)
 |_=>none
def az9(sh:Bool):Rts→List AV→Option (List Tree×Rts)
 |R,[]=>some ([],R)
 |R,a::l=>match vput sh R a with
  |some (t,R1)=>match az9 sh R1 l with
   |some (ts,R2)=>some (t::ts,R2)
   |none=>none
  |none=>none
inductive VP where
 |o (r:Nat) (p:List Nat) (i:Nat)
 |f (b:Bool) (cs:List Tree) (i:Nat)
def vptr(R:Rts):AV→Option VP
 | .cell r p i=>some (.o r p i)
 | .own r p=>match rget R r p with
   |some (.pt _ _)=>some (.o r p 0)
   |some (.fz (.pt _ cs))=>some (.f true cs 0)
   |_=>none
 | .fzc b cs i=>some (.f b cs i)
 | .fz b (.pt _ cs)=>some (.f b cs 0)
 | .fz b (.ex (.pt _ cs))=>some (.f b cs 0)
 |_=>none
inductive VS where
 |o (r:Nat) (p:List Nat) (nl e u:Nat) (cs:List Tree) (lo n:Nat)
 |f (b:Bool) (nl u:Nat) (cs:List Tree)
 |nil
def vsl(R:Rts):AV→Option VS
 | .own r p=>match rget R r p with
   |some (.sl nl e u cs)=>some (.o r p nl e u cs 0 (cs.length/u))
   |some (.fz (.sl nl _ u cs))=>some (.f true nl u cs)
   |_=>none
 | .sub r p w lo n=>match rget R r p with
   |some (.sl nl e u cs)=>if(lo+n)*u≤cs.length∧u=w then some (.o r p (if nl=0 then 0 else 2) e u cs lo n)else none
   |_=>none
 | .fz b (.sl nl _ u cs)=>some (.f b nl u cs)
 | .fz b (.ex (.sl nl _ u cs))=>some (.f b nl u cs)
 | .x (.slice none 0 0)=>some .nil
 |_=>none
def ia8(r:Nat)(p:List Nat)(i:Nat):Tree→Option AV
 | .v x=>some (.x x)
 | .fz t=>ofz true t
 | .fn f cs=>if cs.all isV then match ofzL false cs with
   |some l=>some (.fn f l)
   |none=>none else none
 | .junk=>none
 | .ex _=>none
 | .sl .. =>some (.own r (p++[i]))
 | .pt .. =>some (.own r (p++[i]))
def vy4(R:Rts):VP→Option AV
 | .o r p i=>match rget R r p with
   |some s=>match s.kids with
    |some cs=>match cs[i]? with
     |some k=>ia8 r p i k
     |none=>none
    |none=>none
   |none=>none
 | .f b cs i=>match cs[i]? with
   |some k=>ofz b k
   |none=>none
def ek8(R:Rts)(r:Nat)(p:List Nat)(i:Nat):Option (AV×Rts):=match rget R r p with
 |some s=>match s.kids with
  |some cs=>match cs[i]? with
   |some k=>if hc9 k then some (.own R.length [],rset R r (p++[i]) .junk++[k])else none
   |none=>none
  |none=>none
 |none=>none
def VP.off(k:Nat):VP→VP
 | .o r p i=> .o r p (i+k)
 | .f b cs i=> .f b cs (i+k)
def k12(R:Rts):VP→Bool
 | .f .. =>true
 | .o r p i=>match rget R r p with
   |some (.pt _ _)=>true
   |some (.sl _ _ _ cs)=>decide (i<cs.length)
   |_=>false
def VP.av:VP→AV
 | .o r p i=> .cell r p i
 | .f b cs i=> .fzc b cs i
def hq6(R:Rts)(a:VP):Nat→Option (List AV)
 |0=>some []
 |n+1=>match hq6 R a n,vy4 R (a.off n)with
  |some l,some x=>some (l++[x])
  |_,_=>none
def z26(R:Rts)(r:Nat)(p:List Nat)(i:Nat)(ts:List Tree):Option Rts:=match rget R r p with
 |some s=>match s.kids with
  |some cs=>if i+ts.length≤cs.length then some (rset R r p (s.setKids (setL cs i ts)))else none
  |none=>none
 |none=>none
def cut(lo n u:Nat)(cs:List Tree):List Tree:=if lo=0∧n*u=cs.length then cs else(cs.drop (lo*u)).take (n*u)
theorem jp2(lo n u:Nat)(cs:List Tree):cut lo n u cs=(cs.drop (lo*u)).take (n*u):=by
 unfold cut
 split
 ·rename_i h
  rw[h.1,h.2,Nat.zero_mul,List.drop_zero,List.take_length]
 ·rfl
def VS.part:VS→List Tree
 | .o _ _ _ _ u cs lo n=>cut lo n u cs
 | .f _ _ _ cs=>cs
 | .nil=>[]
def VS.unit(size:Nat):VS→Nat
 | .o _ _ _ _ u _ _ _=>u
 | .f _ _ u _=>u
 | .nil=>size
def fzT:Tree→Tree
 | .v x=> .v x
 |t=> .fz t
def jk(t:Tree):Tree:=if plain t then t else .junk
def vsrc(R:Rts)(size:Nat):VS→Option (List Tree×Rts)
 | .o r p nl e u cs lo n=>if u=size then
    if(cut lo n u cs).all plain then some (cut lo n u cs,R)
    else match rget R r p with
     |some t=>some (cut lo n u cs,rset R r p (t.setKids (setL cs (lo*u) ((cut lo n u cs).map jk))))
     |none=>none
   else none
 | .f b nl u cs=>if u=size then if b then some (cs.map fzT,R)else if cs.all isV then some (cs,R)else none else none
 | .nil=>some ([],R)
abbrev CT:=Nat→Nat→Option (Nat×Nat)
def ia9:Option (Nat×Nat)→Value→Tree
 |some (e,u), .slice none 0 0=>if u=0 then .v (.slice none 0 0)else .sl 2 e u []
 |_,v=> .v v
def zy6(ct:CT):Bool→CT
 |true=>fun _ _=>none
 |false=>ct
def r48(ct:CT)(e:Nat):Nat→List Value→List Tree
 |_,[]=>[]
 |i,v::l=>ia9 (ct e i) v::r48 ct e (i+1) l
def repT(ts:List Tree):Nat→List Tree
 |0=>[]
 |n+1=>ts++repT ts n
inductive Mode where
 |bor (u:Nat)
 |own (e u:Nat)
 |perm (u:Nat)
structure Hint where
 nil:List (Nat×Nat×Nat)
 take:List Nat
 share:List Nat
 move:List Nat
def memN(s:Nat):List Nat→Bool
 | []=>false
 |a::l=>bif Nat.beq s a then true else memN s l
def jk4(s:Nat):List (Nat×Nat×Nat)→Option (Nat×Nat)
 | []=>none
 |(a,e,u)::l=>bif Nat.beq s a then some (e,u)else jk4 s l
def memO:Option Nat→List Nat→Bool
 |some s,l=>memN s l
 |none,_=>false
def g57(l:List Nat):Operand→Bool
 | .tmp s=>memN s l
 |_=>false
def er6(l:List Nat):List Operand→Bool
 | []=>false
 |x::r=>bif g57 l x then true else er6 l r
abbrev VRes:=AV×Rts×Rts
structure VW where
 T:Tab
 P:FuncId→Option (List AV→Rts→Option VRes)
 H:FuncId→Hint
 M:FuncId→List Mode
 ct:CT
def vnil(h:Hint)(R:Rts)(d:Option Nat):AV→AV×Rts
 | .x (.slice none 0 0)=>match d with
   |some s=>match jk4 s h.nil with
    |some (e,u)=>if u=0 then(.x (.slice none 0 0),R)else(.own R.length [],R++[.sl 1 e u []])
    |none=>(.x (.slice none 0 0),R)
   |none=>(.x (.slice none 0 0),R)
 |a=>(a,R)
def vmvd(h:Hint)(d:Option Nat):AV→Option (List Nat)
 | .x (.slice none 0 0)=>match d with
   |some s=>match jk4 s h.nil with
    |some (e,u)=>if u=0 then none else some []
    |none=>none
   |none=>none
 |_=>none
def oa5(R:Rts):AV→Bool
 | .x v=>one v
 | .fz _ t=>isNode t
 | .fzc .. =>true
 | .own r p=>match rget R r p with
   |some (.fz t)=>isNode t
   |some s=>isNode s
   |none=>false
 | .cell r p i=>k12 R (.o r p i)
 | .fn .. =>true
 |_=>false
def p54(R:Rts)(places:Nat→Option (Nat×Nat))(cells:List AV):List (Nat×AV)→Option (List AV)
 | []=>some cells
 |(i,v)::rest=>
  match places i with
  |none=>none
  |some (off,size)=>
   if(cellsOf v).length≠size|| !(cellsOf v).all (oa5 R)||off+size>cells.length then none
   else p54 R places (setL cells off (cellsOf v)) rest
def vevp(fr:VFr):List (Nat×Operand)→Option (List (Nat×AV))
 | []=>some []
 |(i,x)::r=>match vev fr x,vevp fr r with
  |some v,some vs=>some ((i,v)::vs)
  |_,_=>none
def wb3(R:Rts):Nat→AV→Option Bool
 |k, .x v=>anil k v
 |0,a=>match vsl R a with
  |some (.o _ _ 0 _ _ _ _ _)=>some false
  |some (.o _ _ 1 _ _ cs 0 _)=>some cs.isEmpty
  |some (.o _ _ _ _ _ _ _ n)=>if n=0 then none else some false
  |some (.f _ 0 _ _)=>some false
  |some (.f _ 1 _ cs)=>some cs.isEmpty
  |some (.f _ _ _ cs)=>if cs.isEmpty then none else some false
  |some .nil=>some true
  |none=>none
 |1,a=>match vptr R a with
  |some pa=>if k12 R pa then some false else none
  |none=>none
 |2, .fn _ _=>some false
 |_,_=>none
def vbx(R:Rts):AV→Option VP
 | .own r p=>match rget R r p with
   |some (.pt _ _)=>some (.o r p 0)
   |_=>none
 | .cell r p i=>match rget R r p with
   |some (.pt _ _)=>some (.o r p i)
   |_=>none
 |_=>none
def lu1(fr:VFr)(R:Rts):AOp→Option AV
 | .mv x=>vev fr x
 | .ld agg n a=>match vev fr a with
   |some a=>match vptr R a with
    |some pa=>match agg with
     |true=>if n=0 then none else match hq6 R pa n with
      |some l=>some (.agg l)
      |none=>none
     |false=>vy4 R pa
    |none=>none
   |none=>none
 | .nilck x=>match vev fr x with
   |some a=>match vptr R a with
    |some pa=>if k12 R pa then some a else none
    |none=>none
   |_=>none
 | .faddr off x=>match vev fr x with
   |some a=>match vptr R a with
    |some pa=>if k12 R pa then some (pa.off off).av else none
    |none=>none
   |none=>none
 | .fld agg off n x=>match vev fr x with
   |some (.agg cs)=>match agg with
    |true=>some (.agg ((cs.drop off).take n))
    |false=>match cs[off]? with
     |some v=>some v
     |none=>none
   |_=>none
 | .iaddr size x i=>match vev fr x,vx fr i with
   |some a,some (.int _ i)=>match vsl R a with
    |some (.o r p nl e u cs lo n)=>if 0≤i∧i.toNat<n∧u=size then some (.cell r p ((lo+i.toNat)*u))else none
    |some (.f b nl u cs)=>if 0≤i∧i.toNat*u<cs.length∧u=size then some (.fzc b cs (i.toNat*u))else none
    |_=>none
   |_,_=>none
 | .iaddrA len size x i=>match vev fr x,vx fr i with
   |some a,some (.int _ i)=>match vptr R a with
    |some pa=>if 0≤i∧i<len∧k12 R pa=true then some (pa.off (i.toNat*size)).av else none
    |none=>none
   |_,_=>none
 | .idxA len size agg x i=>match vev fr x,vx fr i with
   |some (.agg cs),some (.int _ i)=>
    if 0≤i∧i<len then match agg with
     |true=>some (.agg ((cs.drop (i.toNat*size)).take size))
     |false=>match cs[i.toNat*size]? with
      |some v=>some v
      |none=>none
    else none
   |_,_=>none
 | .ext i x=>match vev fr x with
   |some (.tup vs)=>match vs[i]? with
    |some v=>some v
    |none=>none
   |_=>none
 | .capt g n i x=>match vev fr x with
   |some (.fn f cs)=>if f=g∧cs.length=n then match cs[i]? with
    |some v=>some v
    |none=>none else none
   |_=>none
 | .ldb agg n a=>match vev fr a with
   |some a=>match vbx R a with
    |some pa=>match agg with
     |true=>if n=0 then none else match hq6 R pa n with
      |some l=>some (.agg l)
      |none=>none
     |false=>vy4 R pa
    |none=>none
   |none=>none
 |_=>none
def vop(W:VW)(h:Hint)(d:Option Nat)(fr:VFr)(R:Rts):AOp→Option (Option AV×Rts×Option (List Nat))
 | .mv x=>match vev fr x with
   |some a=>some (some (vnil h R d a).1,(vnil h R d a).2,vmvd h d a)
   |none=>none
 | .pick c a b=>match vx fr c with
   |some (.bool t)=>match vev fr (if t then a else b)with
    |some v=>some (some v,R,none)
    |none=>none
   |_=>none
 | .bin op x y=>match vx fr x,vx fr y with
   |some a,some b=>match abin op a b with
    |some v=>some (some (.x v),R,none)
    |none=>none
   |_,_=>none
 | .eqb neg x y=>match vx fr x,vx fr y with
   |some (.bool a),some (.bool b)=>some (some (.x (.bool (neg !=(a==b)))),R,none)
   |_,_=>none
 | .eqn neg kind x=>match vev fr x with
   |some a=>match wb3 R kind a with
    |some b=>some (some (.x (.bool (neg !=b))),R,none)
    |none=>none
   |none=>none
 | .un op x=>match vx fr x with
   |some a=>match aun op a with
    |some v=>some (some (.x v),R,none)
    |none=>none
   |none=>none
 | .conv k x=>match vx fr x with
   |some (.int _ n)=>some (some (.x (.int k (k.wrap n))),R,none)
   |_=>none
 | .alloc elem zs=>some (some (.own R.length []),R++[.pt elem (r48 (zy6 W.ct (memO d h.take)) elem 0 zs)],none)
 | .box elem size x=>match vev fr x with
   |some a=>if(cellsOf a).length=size then match az9 (g57 h.share x) R (cellsOf a)with
    |some (ts,R1)=>some (some (.own R1.length []),R1++[.pt elem ts],some [])
    |none=>none else none
   |none=>none
 | .build zs places parts=>match vevp fr parts with
   |some vs=>match p54 R (fun i=>places[i]?) (zs.map AV.x) vs with
    |some cs=>some (some (.agg cs),R,none)
    |none=>none
   |none=>none
 | .mkSl elem size len parts=>match vevs fr parts with
   |some vs=>if vs.all (fun a=>(cellsOf a).length==size)&&vs.length==len&&size !=0 then match az9 (er6 h.share parts) R (vs.flatMap cellsOf)with
    |some (ts,R1)=>some (some (.own R1.length []),R1++[.sl 0 elem size ts],some [])
    |none=>none else none
   |none=>none
 | .st n a x=>match vev fr a,vev fr x with
   |some a,some v=>match vptr R a with
    |some (.o r p i)=>if(cellsOf v).length=n∧n≠0 then match az9 (g57 h.share x) R (cellsOf v)with
     |some (ts,R1)=>match z26 R1 r p i ts with
      |some R2=>some (none,R2,some (if ts.all isV then []else [r]))
      |none=>none
     |none=>none else none
    |_=>none
   |_,_=>none
 | .mkf f cap=>match vevs fr cap with
   |some vs=>some (some (.fn f vs),R,none)
   |none=>none
 | .mks elem size bytes zs l c=>match vx fr l,vx fr c with
   |some (.int _ l),some (.int _ c)=>
    if 0≤l∧l≤c∧c≤1099511627776∧c*bytes≤140737488355328∧zs.length=size∧size≠0 then
     some (some (.own R.length []),R++[.sl 0 elem size (repT (r48 W.ct elem 0 zs) l.toNat)],none)else none
   |_,_=>none
 | .sl size x lo hi=>match vev fr x,vxo fr lo,vxo fr hi with
   |some a,some lo,some hi=>match vsl R a with
    |some (.o r p nl e u cs lo0 n0)=>
     if 0≤lo.getD 0∧lo.getD 0≤hi.getD n0∧hi.getD n0≤n0∧u=size then
      match memO d h.move with
      |true=>some (some (.own R.length []),rset R r p .junk++[.sl (if nl=0 then 0 else 2) e u ((cs.drop ((lo0+(lo.getD 0).toNat)*u)).take ((hi.getD n0-lo.getD 0).toNat*u))],some [])
      |false=>some (some (.sub r p u (lo0+(lo.getD 0).toNat) (hi.getD n0-lo.getD 0).toNat),R,none)
     else none
    |some (.f b nl u cs)=>
     if 0≤lo.getD 0∧lo.getD 0≤hi.getD ((cs.length/u:Nat):Int)∧hi.getD ((cs.length/u:Nat):Int)≤(cs.length/u:Nat)∧u=size then
      some (some (.fz b (.sl (if nl=0 then 0 else 2) 0 u ((cs.drop ((lo.getD 0).toNat*u)).take ((hi.getD ((cs.length/u:Nat):Int)-lo.getD 0).toNat*u)))),R,none)
     else none
    |some .nil=>if lo.getD 0=0∧hi.getD 0=0 then some (some (.x (.slice none 0 0)),R,none)else none
    |none=>none
   |_,_,_=>none
 | .sls x lo hi=>match vx fr x,vxo fr lo,vxo fr hi with
   |some (.string s),some lo,some hi=>
    if 0≤lo.getD 0∧lo.getD 0≤hi.getD s.size∧hi.getD s.size≤s.size then some (some (.x (.string (s.extract (lo.getD 0).toNat (hi.getD s.size).toNat))),R,none)else none
   |_,_,_=>none
 | .sl3 x hi mx=>match vev fr x,vx fr hi,vx fr mx with
   |some a,some (.int _ i),some (.int _ j)=>match vsl R a with
    |some (.o r p nl e u cs lo0 n0)=>if 0≤i∧i≤j∧j≤n0 then
      match memO d h.move with
      |true=>some (some (.own R.length []),rset R r p .junk++[.sl (if nl=0 then 0 else 2) e u ((cs.drop (lo0*u)).take (i.toNat*u))],some [])
      |false=>some (some (.sub r p u lo0 i.toNat),R,none)
     else none
    |some (.f b nl u cs)=>if 0≤i∧i≤j∧j≤(cs.length/u:Nat)then some (some (.fz b (.sl (if nl=0 then 0 else 2) 0 u (cs.take (i.toNat*u)))),R,none)else none
    |some .nil=>if i=0∧j=0 then some (some (.x (.slice none 0 0)),R,none)else none
    |none=>none
   |_,_,_=>none
 | .idxS x i=>match vx fr x,vx fr i with
   |some (.string s),some (.int _ i)=>if 0≤i then match s[i.toNat]? with
     |some b=>some (some (.x (.int .u8 b.toNat)),R,none)
     |none=>none else none
   |_,_=>none
 | .len x=>match vev fr x with
   |some a=>match vsl R a with
    |some (.o r p nl e u cs lo n)=>some (some (.x (.int .i64 n)),R,none)
    |some (.f b nl u cs)=>some (some (.x (.int .i64 (cs.length/u:Nat))),R,none)
    |some .nil=>some (some (.x (.int .i64 0)),R,none)
    |none=>none
   |_=>none
 | .lenS x=>match vx fr x with
   |some (.string s)=>some (some (.x (.int .i64 s.size)),R,none)
   |_=>none
 | .lenK n=>some (some (.x (.int .i64 n)),R,none)
 | .minmax mx xs=>match vxs fr xs with
   |some vs=>match vs with
    | .int k n::r=>match ho0 k r with
      |some l=>some (some (.x (.int k (l.foldl (mm mx) n))),R,none)
      |none=>none
    |_=>none
   |none=>none
 | .app elem size bytes s x=>match vev fr s,vev fr x with
   |some s,some x=>match vsl R x with
    |some X=>match vsrc R size X with
     |some (news,R1)=>match vsl R1 s with
      |some (.o r p nl e u cs lo n)=>
       if e=elem∧u=size∧few (n+news.length/u) bytes=true then
        some (some (.own R1.length []),rset R1 r p .junk++[.sl nl e u (cut lo n u cs++news)],some [])
       else none
      |some .nil=>if size≠0∧few (news.length/size) bytes=true then some (some (.own R1.length []),R1++[.sl 1 elem size news],some [])else none
      |_=>none
     |none=>none
    |none=>none
   |_,_=>none
 | .cpy size d s=>match vev fr d,vev fr s with
   |some d,some s=>match vsl R d,vsl R s with
    |some (.o r p nl e u cs lo n),some S=>
     if u=size∧S.part.all isV=true∧S.unit size=size then
      match rget R r p with
      |some t=>some (some (.x (.int .i64 (min (S.part.length/size) n:Nat))),rset R r p (t.setKids (setL cs (lo*u) (S.part.take (n*u)))),some [])
      |none=>none
     else none
    |_,_=>none
   |_,_=>none
 | .appz elem bytes s x=>match vev fr s,vx fr x with
   |some s,some (.int .i64 m)=>if 0≤m∧m≤1099511627776 then match vsl R s with
     |some (.o r p nl e u cs lo n)=>if e=elem∧u=1∧few (n+m.toNat) bytes=true then some (some (.own R.length []),rset R r p .junk++[.sl nl e u (cut lo n u cs++repT [.v (.int .i64 0)] m.toNat)],some [])else none
     |some .nil=>if few m.toNat bytes=true then some (some (.own R.length []),R++[.sl 1 elem 1 (repT [.v (.int .i64 0)] m.toNat)],some [])else none
     |_=>none
    else none
   |_,_=>none
 | .call .. | .calld .. =>none
 | .ld agg n a=>if !agg&&memO d h.take then match vev fr a with
    |some a=>match vptr R a with
     |some (.o r p i)=>match ek8 R r p i with
      |some (v,R1)=>some (some v,R1,some [])
      |none=>none
     |_=>none
    |none=>none
   else match lu1 fr R (.ld agg n a)with
    |some v=>some (some v,R,none)
    |none=>none
 |op=>match lu1 fr R op with
  |some v=>some (some v,R,none)
  |none=>none
end Go.Vm
namespace Go.Vm
open Go.Am
mutual
def np8(R:Rts)(u:Nat):AV→Option AV
 | .x (.slice none 0 0)=>if u=0 then none else some (.fz true (.sl 1 0 u []))
 | .x v=>some (.x v)
 | .fz b t=>some (.fz b t)
 | .fzc b cs i=>some (.fzc b cs i)
 | .own r p=>match rget R r p with
   |some (.fz t)=>some (.fz true t)
   |some s=>if isNode s then some (.fz false (strip s))else none
   |none=>none
 | .sub r p u0 lo n=>match rget R r p with
   |some (.sl nl e w cs)=>if(lo+n)*w≤cs.length∧w=u0 then some (.fz false (.sl (if nl=0 then 0 else 2) 0 w (jj5 ((cs.drop (lo*w)).take (n*w)))))else none
   |_=>none
 | .cell r p i=>if k12 R (.o r p i)then match rget R r p with
   |some s=>match s.kids with
    |some cs=>some (.fzc false (jj5 cs) i)
    |none=>none
   |none=>none else none
 | .agg l=>match re2 R u l with
   |some l=>some (.agg l)
   |none=>none
 | .tup _=>none
 | .fn f l=>match re2 R u l with
   |some l=>some (.fn f l)
   |none=>none
def re2(R:Rts)(u:Nat):List AV→Option (List AV)
 | []=>some []
 |a::l=>match np8 R u a,re2 R u l with
  |some a,some l=>some (a::l)
  |_,_=>none
end
def vpx(u:Nat):Value→AV
 | .slice none 0 0=>if u=0 then .x (.slice none 0 0)else .fz true (.sl 1 0 u [])
 |v=> .x v
mutual
def h05(u:Nat)(R:Rts):AV→Option (AV×Rts)
 | .x v=>some (vpx u v,R)
 | .fz true t=>some (.fz true t,R)
 | .fzc true cs i=>some (.fzc true cs i,R)
 | .own r p=>match rget R r p with
   |some (.fz t)=>some (.fz true t,R)
   |some s=>if isNode s then some (.fz true (strip s),rset R r p (.fz (strip s)))else none
   |none=>none
 | .agg l=>match og4 u R l with
   |some (l,R1)=>some (.agg l,R1)
   |none=>none
 |_=>none
def og4(u:Nat)(R:Rts):List AV→Option (List AV×Rts)
 | []=>some ([],R)
 |a::l=>match h05 u R a with
  |some (a,R1)=>match og4 u R1 l with
   |some (l,R2)=>some (a::l,R2)
   |none=>none
  |none=>none
end
structure Lent where
 R:Rts
 C:Rts
 B:List (Nat×List Nat)
def cb9(s:Lent)(e u:Nat):AV→Option (AV×Lent)
 | .own r p=>match rget s.R r p with
   |some k=>if isNode k&&s.B.all (fun b=> !(Nat.beq b.1 r&&p.isPrefixOf b.2))then some (.own s.C.length [],⟨rset s.R r p .junk,s.C++[k],s.B++[(r,p)]⟩)else none
   |none=>none
 | .x (.slice none 0 0)=>if u=0 then none else some (.own s.C.length [],⟨s.R++[.junk],s.C++[.sl 1 e u []],s.B++[(s.R.length,[])]⟩)
 |_=>none
def dl9(u:Nat)(s:Lent):AV→Option (AV×Rts)
 | .own r p=>if s.B.all (fun b=> !(Nat.beq b.1 r&&p.isPrefixOf b.2))then h05 u s.R (.own r p)else none
 | .fz true t=>some (.fz true t,s.R)
 |_=>none
def me2:List Mode→Lent→List AV→Option (List (Option AV)×Lent)
 | [],s,l=>some (l.map fun _=>none,s)
 |_,s,[]=>some ([],s)
 |m::ms,s,a::l=>match m with
  | .bor _=>match me2 ms s l with
    |some (l,s)=>some (none::l,s)
    |none=>none
  | .own e u=>match cb9 s e u a with
    |some (a,s1)=>match me2 ms s1 l with
     |some (l,s2)=>some (some a::l,s2)
     |none=>none
    |none=>none
  | .perm u=>match(if s.B.isEmpty then h05 u s.R a else dl9 u s a)with
    |some (a,R1)=>match me2 ms ⟨R1,s.C,s.B⟩ l with
     |some (l,s2)=>some (some a::l,s2)
     |none=>none
    |none=>none
def sr7:List Mode→Nat
 | .bor u::_=>u
 |_=>1
def ub3(R:Rts):List Mode→List AV→List (Option AV)→Option (List AV)
 |_,[],_=>some []
 |ms,a::l,some b::bs=>match ub3 R ms.tail l bs with
  |some r=>some (b::r)
  |none=>none
 |ms,a::l,none::bs=>match np8 R (sr7 ms) a,ub3 R ms.tail l bs with
  |some b,some r=>some (b::r)
  |_,_=>none
 |_,_::_,[]=>none
def kj2(ms:List Mode)(R:Rts)(l:List AV):Option (List AV×Lent):=match ms with
 | []=>match re2 R 1 l with
   |some l=>some (l,⟨R,[],[]⟩)
   |none=>none
 |ms=>match me2 ms ⟨R,[],[]⟩ l with
  |some (bs,s)=>match ub3 s.R ms l bs with
   |some l=>some (l,s)
   |none=>none
  |none=>none
def so3:Rts→List (Nat×List Nat)→Rts→Rts
 |R,(r,p)::B,t::ts=>so3 (rset R r p t) B ts
 |R,_,_=>R
def deep(t:Tree):Bool:=match t.kids with
 |some cs=> !cs.all isV
 |none=>false
def uc8:List (Nat×List Nat)→Rts→List Nat
 |(r,p)::B,t::ts=>if deep t then r::uc8 B ts else uc8 B ts
 |_,_=>[]
mutual
def ei9(n:Nat):AV→AV
 | .x v=> .x v
 | .fz b t=> .fz b t
 | .fzc b cs i=> .fzc b cs i
 | .own r p=> .own (r+n) p
 | .sub r p u lo m=> .sub (r+n) p u lo m
 | .cell r p i=> .cell (r+n) p i
 | .agg l=> .agg (mk1 n l)
 | .tup l=> .tup (mk1 n l)
 | .fn f l=> .fn f (mk1 n l)
def mk1(n:Nat):List AV→List AV
 | []=>[]
 |a::l=>ei9 n a::mk1 n l
end
mutual
def vout(R:Rts)(k:Nat):AV→Option (AV×Rts×Rts)
 | .x v=>some (.x v,R,[])
 | .fz true t=>some (.fz true t,R,[])
 | .fzc true cs i=>some (.fzc true cs i,R,[])
 | .own r p=>match rget R r p with
   |some (.fz t)=>some (.fz true t,R,[])
   |some s=>if isNode s then some (.own k [],rset R r p .junk,[s])else none
   |none=>none
 | .sub r p w lo n=>match rget R r p with
   |some (.sl nl e u cs)=>if(lo+n)*u≤cs.length∧u=w then some (.own k [],rset R r p .junk,[.sl (if nl=0 then 0 else 2) e u ((cs.drop (lo*u)).take (n*u))])else none
   |_=>none
 | .agg l=>match vx6 R k l with
   |some (l,R1,S)=>some (.agg l,R1,S)
   |none=>none
 | .tup l=>match vx6 R k l with
   |some (l,R1,S)=>some (.tup l,R1,S)
   |none=>none
 | .fn f l=>match vx6 R k l with
   |some (l,R1,S)=>some (.fn f l,R1,S)
   |none=>none
 |_=>none
def vx6(R:Rts)(k:Nat):List AV→Option (List AV×Rts×Rts)
 | []=>some ([],R,[])
 |a::l=>match vout R k a with
  |some (a,R1,S1)=>match vx6 R1 (k+S1.length) l with
   |some (l,R2,S2)=>some (a::l,R2,S1++S2)
   |none=>none
  |none=>none
end
def og6(R:Rts)(fr:VFr):ARes→Option AV
 | .tmp t=>fr t
 | .cell t agg n=>match fr t with
   |some a=>match vptr R a with
    |some pa=>match agg with
     |true=>if n=0 then none else match hq6 R pa n with
      |some l=>some (.agg l)
      |none=>none
     |false=>vy4 R pa
    |none=>none
   |none=>none
def zp6(R:Rts)(fr:VFr):List ARes→Option (List AV)
 | []=>some []
 |r::rs=>match og6 R fr r,zp6 R fr rs with
  |some v,some vs=>some (v::vs)
  |_,_=>none
structure Ctx where
 h:Hint
 rs:List ARes
 n:Nat
def vone:List AV→AV
 | [v]=>v
 |vs=> .tup vs
def vret(c:Ctx)(fr:VFr)(R:Rts):Option VRes:=match zp6 R fr c.rs with
 |some l=>match vout R 0 (vone l)with
  |some (v,R1,S)=>some (v,S,R1.take c.n)
  |none=>none
 |none=>none
mutual
def rts(acc:List Nat):AV→List Nat
 | .own r _=>bif memN r acc then acc else acc++[r]
 | .sub r _ _ _ _=>bif memN r acc then acc else acc++[r]
 | .cell r _ _=>bif memN r acc then acc else acc++[r]
 | .agg l=>rtsL acc l
 | .tup l=>rtsL acc l
 | .fn _ l=>rtsL acc l
 |_=>acc
def rtsL(acc:List Nat):List AV→List Nat
 | []=>acc
 |a::l=>rtsL (rts acc a) l
end
def rtsF(acc:List Nat):List (Nat×AV)→List Nat
 | []=>acc
 |a::l=>rtsF (rts acc a.2) l
def place(r:Nat):List Nat→Nat
 | []=>0
 |a::l=>bif Nat.beq r a then 0 else place r l+1
mutual
def vren(ids:List Nat):AV→AV
 | .x v=> .x v
 | .fz b t=> .fz b t
 | .fzc b cs i=> .fzc b cs i
 | .own r p=> .own (place r ids) p
 | .sub r p u lo m=> .sub (place r ids) p u lo m
 | .cell r p i=> .cell (place r ids) p i
 | .agg l=> .agg (px1 ids l)
 | .tup l=> .tup (px1 ids l)
 | .fn f l=> .fn f (px1 ids l)
def px1(ids:List Nat):List AV→List AV
 | []=>[]
 |a::l=>vren ids a::px1 ids l
end
def h09(ids:List Nat):List (Nat×AV)→List (Nat×AV)
 | []=>[]
 |(s,a)::l=>(s,vren ids a)::h09 ids l
def x53(R:Rts):List Nat→Rts
 | []=>[]
 |r::l=>(R[r]?.getD .junk)::x53 R l
def hh2:Nat→List Nat
 |0=>[]
 |n+1=>hh2 n++[n]
mutual
def by8(r:Nat):AV→Bool
 | .own s p=>(Nat.beq s r)&& !p.isEmpty
 | .sub s p _ _ _=>(Nat.beq s r)&& !p.isEmpty
 | .cell s p _=>(Nat.beq s r)&& !p.isEmpty
 | .agg l=>dr4 r l
 | .tup l=>dr4 r l
 | .fn _ l=>dr4 r l
 |_=>false
def dr4(r:Nat):List AV→Bool
 | []=>false
 |a::l=>by8 r a||dr4 r l
end
def VFr.inv1(fr:VFr)(r:Nat):VFr:=fun t=>match fr t with
 |some a=>bif by8 r a then none else some a
 |none=>none
def VFr.inv(fr:VFr):List Nat→VFr
 | []=>fr
 |r::l=>(fr.inv1 r).inv l
def vgd(fr:VFr):Option (Nat×Bool)→Option Bool
 |none=>some true
 |some (s,want)=>match fr s with
  |some (.x (.bool b))=>some (b==want)
  |some (.tup _)=>some false
  |_=>none
abbrev VGo:=Ctx→List It→VFr→Rts→Option VRes
def s21(W:VW)(g:VGo)(f:FuncId)(vs:List AV)(C:Rts):Option VRes:=
 match W.P f with
 |some p=>p vs C
 |none=>match W.T f with
  |some F=>if vs.length=F.nargs then g ⟨W.H f,F.results,C.length⟩ [.code F.code] (VFr.args 0 vs) C else none
  |none=>none
def j61(ms:List Mode)(s:Lent):VRes→Option AV×Rts×Option (List Nat)
 |(v,S,K)=>(some (ei9 (so3 s.R s.B K).length v),so3 s.R s.B K++S,match ms with
    | []=>none
    |_=>some (uc8 s.B K))
def vdo(W:VW)(g:VGo)(R:Rts)(chk:Bool)(f:FuncId)(vs:List AV):Option (Option AV×Rts×Option (List Nat)):=
 match kj2 (W.M f) R vs with
 |some (vs,s)=>if chk&& !s.B.isEmpty then none else match s21 W g f vs s.C with
  |some r=>some (j61 (W.M f) s r)
  |none=>none
 |none=>none
def e26(y:List Nat):Operand→Bool
 | .tmp t=>memN t y
 |_=>false
def bt7:Option AV→Bool
 |some (.fz _ t)=>isNode t
 |some (.fzc _ _ _)=>true
 |_=>false
def gd0(fr:VFr)(y:List Nat)(dt:Bool)(o:AOper):Bool:=match o.chk,o.op with
 |true, .ld _ _ a=> !e26 y a&&(match dt with
  |false=>true
  |true=>bt7 (vev fr a))
 |_,_=>true
def ej2(W:VW)(g:VGo)(h:Hint)(o:AOper)(fr:VFr)(R:Rts)(y:List Nat)(dt:Bool):Option (Option AV×Rts×Option (List Nat)):=
 match o.op with
 | .call f args=>match vevs fr args with
   |some vs=>vdo W g R o.chk f vs
   |none=>none
 | .calld x args=>match vev fr x,vevs fr args with
   |some (.fn f cap),some vs=>vdo W g R o.chk f (vs++cap)
   |_,_=>none
 |op=>if gd0 fr y dt o then vop W h o.dst fr R op else none
def vw0(y:List Nat):AOp→Bool
 | .mv x=> !e26 y x
 | .ld _ _ a=> !e26 y a
 | .nilck x=> !e26 y x
 | .faddr _ x=> !e26 y x
 | .fld _ _ _ x=> !e26 y x
 | .iaddr _ x _=> !e26 y x
 | .iaddrA _ _ x _=> !e26 y x
 | .idxA _ _ _ x _=> !e26 y x
 | .ext _ x=> !e26 y x
 |_=>false
def iv1(d:Nat):List Nat→List Nat
 | []=>[]
 |a::l=>bif Nat.beq a d then iv1 d l else a::iv1 d l
def vadr(fr:VFr)(y:List Nat):AOp→Bool
 | .mv x=> !e26 y x
 | .nilck x=> !e26 y x&&bt7 (vev fr x)
 | .faddr _ x=> !e26 y x&&bt7 (vev fr x)
 | .iaddr _ x _=> !e26 y x&&bt7 (vev fr x)
 | .iaddrA _ _ x _=> !e26 y x&&bt7 (vev fr x)
 |_=>false
def qq0(fr:VFr)(y:List Nat)(dt:Bool)(o:AOper):List Nat:=match o.dst with
 |none=>y
 |some d=>match dt with
  |false=>if vw0 y o.op then iv1 d y else d::y
  |true=>if vadr fr y o.op then iv1 d y else d::y
structure VReg where
 fr:VFr
 R:Rts
 y:List Nat
 dt:Bool
def m63(o:AOper)(s:VReg):Option AV×Rts×Option (List Nat)→VReg
 |(v,R,none)=>⟨s.fr.put o.dst v,R,qq0 s.fr s.y s.dt o,s.dt⟩
 |(v,R,some ks)=>⟨(s.fr.inv ks).put o.dst v,R,(match o.dst with
  |none=>s.y
  |some d=>d::s.y),true⟩
def pp0(o:AOper)(s:VReg):VReg:=⟨s.fr.put o.dst (some (.tup [])),s.R,match o.dst with
 |none=>s.y
 |some d=>d::s.y,s.dt⟩
def yi8(W:VW)(g:VGo)(h:Hint)(o:AOper)(s:VReg):Option VReg:=match vgd s.fr o.guard with
 |some false=>some (pp0 o s)
 |some true=>match ej2 W g h o s.fr s.R s.y s.dt with
  |some r=>some (m63 o s r)
  |none=>none
 |none=>none
def x27(W:VW)(g:VGo)(h:Hint):List AOper→VReg→Option VReg
 | [],s=>some s
 |o::l,s=>match yi8 W g h o s with
  |some s=>x27 W g h l s
  |none=>none
def ja9(c:Ctx)(l:List (Nat×AV))(R:Rts):List (Nat×AV)×Rts:=
 (h09 (rtsF (hh2 c.n) l) l,x53 R (rtsF (hh2 c.n) l))
def vF(W:VW)(g:VGo)(c:Ctx):List It→VFr→Rts→Option VRes
 | [],fr,R=>vret c fr R
 | .code .ret::_,fr,R=>vret c fr R
 | .code .skip::ks,fr,R=>g c ks fr R
 | .code .stuck::_,_,_=>none
 | .code (.seq a b)::ks,fr,R=>g c (.code a:: .code b::ks) fr R
 | .code (.cond x a b)::ks,fr,R=>match vev fr x with
   |some (.x (.bool t))=>g c (.code (if t then a else b)::ks) fr R
   |_=>none
 | .code (.block id ko a)::ks,fr,R=>g c (.code a:: .blk id ko::ks) fr R
 | .code (.loop kh a)::ks,fr,R=>g c (.code a:: .lp kh a::ks) (VFr.of (ja9 c (fr.keep kh) R).1) (ja9 c (fr.keep kh) R).2
 | .code (.exit id)::ks,fr,R=>match gc2 id ks with
   |some (ko,k)=>g c k (VFr.of (fr.keep ko)) R
   |none=>none
 | .code (.region l)::ks,fr,R=>match x27 W g c.h l ⟨fr,R,[],false⟩with
   |some s=>g c ks s.fr s.R
   |none=>none
 | .blk _ ko::ks,fr,R=>g c ks (VFr.of (fr.keep ko)) R
 | .lp kh a::ks,fr,R=>g c (.code a:: .lp kh a::ks) (VFr.of (ja9 c (fr.keep kh) R).1) (ja9 c (fr.keep kh) R).2
def vN(W:VW):Nat→VGo
 |0,_,_,_,_=>none
 |n+1,c,ks,fr,R=>vF W (vN W n) c ks fr R
def VLe(g g':VGo):Prop:= ∀c ks fr R r,g c ks fr R=some r→g' c ks fr R=some r
section
variable {W:VW} {g g':VGo}
theorem ga9(hg:VLe g g'){f vs C r}(he:s21 W g f vs C=some r):s21 W g' f vs C=some r:=by
 unfold s21 at*
 split at he
 ·exact he
 ·split at he
  ·split at he
   ·rw[if_pos ‹_›];exact hg _ _ _ _ _ he
   ·cases he
  ·cases he
theorem pi2(hg:VLe g g'){R chk f vs r}(he:vdo W g R chk f vs=some r):vdo W g' R chk f vs=some r:=by
 unfold vdo at*
 split at he
 ·split at he
  ·cases he
  ·rw[if_neg ‹_›]
   split at he
   ·rename_i h1
    rw[ga9 hg h1];exact he
   ·cases he
 ·cases he
theorem o82(hg:VLe g g'){h o fr R y dt r}(he:ej2 W g h o fr R y dt=some r):ej2 W g' h o fr R y dt=some r:=by
 unfold ej2 at*
 split at he
 ·split at he
  ·exact pi2 hg he
  ·cases he
 ·split at he
  ·exact pi2 hg he
  ·cases he
 ·exact he
theorem sh2(hg:VLe g g'){h o s r}(he:yi8 W g h o s=some r):yi8 W g' h o s=some r:=by
 unfold yi8 at*
 split at he
 ·exact he
 ·split at he
  ·rename_i h1;rw[o82 hg h1];exact he
  ·cases he
 ·cases he
theorem ss6(hg:VLe g g'){h:Hint}: ∀{l s r},x27 W g h l s=some r→x27 W g' h l s=some r
 | [],s,r,hr=>hr
 |o::l,s,r,hr=>by
  simp only[x27]at hr⊢
  split at hr
  ·rename_i hs
   rw[sh2 hg hs]
   exact ss6 hg hr
  ·cases hr
theorem le4(hg:VLe g g'):VLe (vF W g) (vF W g'):=by
 intro c ks fr R r hr
 unfold vF at hr⊢
 split at hr<;>first|exact hg _ _ _ _ _ hr|(cases hr;done)|skip
 ·exact hr
 ·exact hr
 ·split at hr
  ·exact hg _ _ _ _ _ hr
  ·cases hr
 ·split at hr
  ·exact hg _ _ _ _ _ hr
  ·cases hr
 ·split at hr
  ·rename_i hs
   rw[ss6 hg hs]
   exact hg _ _ _ _ _ hr
  ·cases hr
end
theorem vu1{W:VW}(n:Nat):VLe (vN W n) (vN W (n+1)):=by
 induction n with
 |zero=>intro c ks fr R r hr;cases hr
 |succ n ih=>exact le4 ih
theorem cq0{W:VW}{n m:Nat}(h:n≤m):VLe (vN W n) (vN W m):=by
 induction h with
 |refl=>intro _ _ _ _ _ h;exact h
 |step _ ih=>intro c ks fr R r hr;exact vu1 _ _ _ _ _ _ (ih _ _ _ _ _ hr)
open Classical in
noncomputable def vgo (W:VW):VGo:=fun c ks fr R=>
 if hx: ∃r,∃n,vN W n c ks fr R=some r then some (Classical.choose hx)else none
theorem yi2{W:VW}{c ks fr R r}:vgo W c ks fr R=some r↔ ∃n,vN W n c ks fr R=some r:=by
 unfold vgo
 constructor
 ·intro he
  split at he
  ·rename_i hx
   have:=Classical.choose_spec hx
   simp only[Option.some.injEq]at he
   rw[he]at this
   exact this
  ·cases he
 ·rintro⟨n,hn⟩
  have hx: ∃r,∃n,vN W n c ks fr R=some r:=⟨r,n,hn⟩
  rw[dif_pos hx]
  obtain⟨m,hm⟩:=Classical.choose_spec hx
  have h1:=cq0 (Nat.le_max_left n m) _ _ _ _ _ hn
  have h2:=cq0 (Nat.le_max_right n m) _ _ _ _ _ hm
  rw[h1]at h2
  exact h2.symm
section
variable {W:VW}
theorem ga8{f vs C r}(he:s21 W (vgo W) f vs C=some r): ∃n,s21 W (vN W n) f vs C=some r:=by
 unfold s21 at he⊢
 split at he
 ·exact⟨0,he⟩
 ·split at he
  ·split at he
   ·rename_i hl
    obtain⟨n,hn⟩:=yi2.1 he
    exact⟨n,by rw[if_pos hl];exact hn⟩
   ·cases he
  ·cases he
theorem z32{R chk f vs r}(he:vdo W (vgo W) R chk f vs=some r): ∃n,vdo W (vN W n) R chk f vs=some r:=by
 unfold vdo at he⊢
 split at he
 ·split at he
  ·cases he
  ·split at he
   ·rename_i h2
    obtain⟨n,hn⟩:=ga8 h2
    exact⟨n,by rw[if_neg ‹_›,hn];exact he⟩
   ·cases he
 ·cases he
theorem y58{h o fr R y dt r}(he:ej2 W (vgo W) h o fr R y dt=some r): ∃n,ej2 W (vN W n) h o fr R y dt=some r:=by
 unfold ej2 at he⊢
 split at he
 ·split at he
  ·exact z32 he
  ·cases he
 ·split at he
  ·exact z32 he
  ·cases he
 ·exact⟨0,he⟩
theorem oj9{h o s r}(he:yi8 W (vgo W) h o s=some r): ∃n,yi8 W (vN W n) h o s=some r:=by
 unfold yi8 at he⊢
 split at he
 ·exact⟨0,he⟩
 ·split at he
  ·rename_i h1
   obtain⟨n,hn⟩:=y58 h1
   exact⟨n,by rw[hn];exact he⟩
  ·cases he
 ·cases he
theorem bd5{h:Hint}: ∀{l s r},x27 W (vgo W) h l s=some r→ ∃n,x27 W (vN W n) h l s=some r
 | [],s,r,he=>⟨0,he⟩
 |o::l,s,r,he=>by
  simp only[x27]at he⊢
  split at he
  ·rename_i h1
   obtain⟨n,hn⟩:=oj9 h1
   obtain⟨m,hm⟩:=bd5 he
   refine⟨max n m, ?_⟩
   rw[sh2 (cq0 (Nat.le_max_left n m)) hn]
   exact ss6 (cq0 (Nat.le_max_right n m)) hm
  ·cases he
theorem hh8{c ks fr R r}(he:vF W (vgo W) c ks fr R=some r): ∃n,vF W (vN W n) c ks fr R=some r:=by
 have one: ∀{c ks fr R r},vgo W c ks fr R=some r→ ∃n,vN W n c ks fr R=some r:=fun h=>yi2.1 h
 unfold vF at he⊢
 split at he<;>first|exact one he|(cases he;done)|skip
 ·exact⟨0,he⟩
 ·exact⟨0,he⟩
 ·split at he
  ·exact one he
  ·cases he
 ·split at he
  ·exact one he
  ·cases he
 ·split at he
  ·rename_i h1
   obtain⟨n,hn⟩:=bd5 h1
   obtain⟨m,hm⟩:=one he
   refine⟨max n m, ?_⟩
   simp only[ss6 (cq0 (Nat.le_max_left n m)) hn]
   exact cq0 (Nat.le_max_right n m) _ _ _ _ _ hm
  ·cases he
theorem y68(c:Ctx)(ks:List It)(fr:VFr)(R:Rts):vgo W c ks fr R=vF W (vgo W) c ks fr R:=by
 have hle: ∀n,VLe (vN W n) (vgo W):=fun n c ks fr R r hr=>yi2.2 ⟨n,hr⟩
 cases hg:vF W (vgo W) c ks fr R with
 |some r=>
  obtain⟨n,hn⟩:=hh8 hg
  exact yi2.2 ⟨n+1,hn⟩
 |none=>
  cases hx:vgo W c ks fr R with
  |none=>rfl
  |some r=>
   obtain⟨n,hn⟩:=yi2.1 hx
   cases n with
   |zero=>cases hn
   |succ n=>
    have:=le4 (hle n) c ks fr R r hn
    rw[hg]at this
    cases this
end
noncomputable def o24 (W:VW) (f:FuncId) (vs:List AV) (C:Rts):Option VRes:=s21 W (vgo W) f vs C
end Go.Vm
namespace Go.Vm
open Go.Am
inductive AT where
 |v (x:Value)
 |sl (o off n c nl e u:Nat) (cs:List AT)
 |nil (nl e u:Nat)
 |pt (o e:Nat) (cs:List AT)
 |fn (f:FuncId)
 |fz (w:Value) (t:Tree)
 |junk (w:Value)
def AT.val:AT→Value
 | .v x=>x
 | .sl o off n c _ _ _ _=> .slice (some ⟨o,off,none⟩) n c
 | .nil _ _ _=> .slice none 0 0
 | .pt o _ _=> .pointer (some ⟨o,0,none⟩)
 | .fn f=> .func (.func f) #[] #[]
 | .fz w _=>w
 | .junk w=>w
mutual
def AT.era:AT→Tree
 | .v x=> .v x
 | .sl _ _ _ _ nl e u cs=> .sl nl e u (eraL cs)
 | .nil nl e u=> .sl nl e u []
 | .pt _ e cs=> .pt e (eraL cs)
 | .fn f=> .fn f []
 | .fz _ t=> .fz t
 | .junk _=> .junk
def eraL:List AT→List Tree
 | []=>[]
 |a::l=>a.era::eraL l
end
mutual
def AT.fp:AT→List Nat
 | .sl o _ _ _ _ _ _ cs=>o::fpL cs
 | .pt o _ cs=>o::fpL cs
 |_=>[]
def fpL:List AT→List Nat
 | []=>[]
 |a::l=>a.fp++fpL l
end
mutual
def Rd(h:H)(Z:Nat→Prop):Tree→Value→Prop
 | .v x,w=>w=x
 | .sl nl e u cs,w=>(cs=[]∧nl≠0∧0<u∧w= .slice none 0 0)∨ ∃o off n c r,w= .slice (some ⟨o,off,none⟩) n c∧Z o∧h.row o=some r∧(r.own=true→r.unit=u)∧0<u∧n*u=cs.length∧n≤c∧(nl=1→cs≠[])∧RdL h Z cs ((r.cells.drop off).take cs.length)
 | .pt e cs,w=> ∃o r,w= .pointer (some ⟨o,0,none⟩)∧Z o∧h.row o=some r∧RdL h Z cs r.cells
 | .fn f cs,w=> ∃caps,w= .func (.func f) #[] (List.toArray caps)∧RdL h Z cs caps
 | .fz t,w=>Rd h Z t w
 | .junk,_=>True
 | .ex t,w=>Ex h Z t w
def RdL(h:H)(Z:Nat→Prop):List Tree→List Value→Prop
 | [],l=>l=[]
 |t::ts,l=> ∃w l',l=w::l'∧Rd h Z t w∧RdL h Z ts l'
def Ex(h:H)(Z:Nat→Prop):Tree→Value→Prop
 | .v x,w=>w=x
 | .sl nl e u cs,w=> ∃o n r,w= .slice (some ⟨o,0,none⟩) n n∧Z o∧h.row o=some r∧r.own=true∧r.elem=e∧r.unit=u∧0<u∧n*u=cs.length∧(nl=1→cs≠[])∧ExL h Z cs r.cells
 | .pt e cs,w=> ∃o r,w= .pointer (some ⟨o,0,none⟩)∧Z o∧h.row o=some r∧r.own=true∧r.elem=e∧r.unit=0∧ExL h Z cs r.cells
 | .fz t,w=>Rd h Z t w
 |_,_=>False
def ExL(h:H)(Z:Nat→Prop):List Tree→List Value→Prop
 | [],l=>l=[]
 |t::ts,l=> ∃w l',l=w::l'∧Ex h Z t w∧ExL h Z ts l'
end
mutual
def ok(h:H)(Z:Nat→Prop):AT→Prop
 | .v _=>True
 | .sl o off n c nl e u cs=> ∃r,h.row o=some r∧r.own=true∧r.elem=e∧r.unit=u∧0<u∧n*u=cs.length∧n≤c∧((nl=1→cs≠[])∧off+cs.length≤r.cells.length)∧(r.cells.drop off).take cs.length=cs.map AT.val∧okL h Z cs
 | .nil nl e u=>nl≠0∧0<u
 | .pt o e cs=> ∃r,h.row o=some r∧(r.own=true∧r.unit=0)∧r.cells=cs.map AT.val∧okL h Z cs
 | .fn _=>True
 | .fz w t=>Rd h Z t w
 | .junk w=>one w=true
def okL(h:H)(Z:Nat→Prop):List AT→Prop
 | []=>True
 |a::l=>ok h Z a∧okL h Z l
end
theorem dk4: ∀l:List AT,eraL l=l.map AT.era
 | []=>rfl
 |a::l=>by rw[eraL,List.map_cons,dk4 l]
theorem gz0: ∀l:List Tree,jj5 l=l.map strip
 | []=>rfl
 |a::l=>by rw[jj5,List.map_cons,gz0 l]
theorem zq7: ∀l:List AT,fpL l=l.flatMap AT.fp
 | []=>rfl
 |a::l=>by rw[fpL,List.flatMap_cons,zq7 l]
theorem ga5{h:H}{Z:Nat→Prop}: ∀{l:List AT},okL h Z l↔ ∀a∈l,ok h Z a
 | []=>by simp[okL]
 |a::l=>by rw[okL,ga5 (l:=l)];simp
theorem RdL.len{h:H}{Z:Nat→Prop}: ∀{ts:List Tree} {l:List Value},RdL h Z ts l→l.length=ts.length
 | [],l,hr=>by rw[RdL]at hr;rw[hr];rfl
 |t::ts,l,hr=>by
  rw[RdL]at hr
  obtain⟨w,l',rfl,_,hr⟩:=hr
  rw[List.length_cons,List.length_cons,hr.len]
theorem RdL.at{h:H}{Z:Nat→Prop}: ∀{ts:List Tree} {l:List Value} {i:Nat} {t:Tree},RdL h Z ts l→ts[i]? =some t→ ∃w,l[i]? =some w∧Rd h Z t w
 | [],l,i,t,hr,ht=>by simp at ht
 |t'::ts,l,i,t,hr,ht=>by
  rw[RdL]at hr
  obtain⟨w,l',rfl,h1,h2⟩:=hr
  cases i with
  |zero=>simp at ht;subst ht;exact⟨w,rfl,h1⟩
  |succ i=>exact h2.at (i:=i) (by simpa using ht)
theorem xo1{h:H}{Z:Nat→Prop}: ∀{ts:List Tree} {l:List Value},RdL h Z ts l↔l.length=ts.length∧ ∀(i:Nat) (t:Tree) (w:Value),ts[i]? =some t→l[i]? =some w→Rd h Z t w
 | [],l=>by
   rw[RdL]
   exact⟨fun e=>by subst e;simp,fun⟨e,_⟩=>List.eq_nil_of_length_eq_zero e⟩
 |t::ts,l=>by
  rw[RdL]
  constructor
  ·rintro⟨w,l',rfl,h1,h2⟩
   obtain⟨e,k⟩:=xo1.1 h2
   refine⟨by rw[List.length_cons,List.length_cons,e],fun i t' w' h3 h4=> ?_⟩
   cases i with
   |zero=>simp at h3 h4;subst h3;subst h4;exact h1
   |succ i=>exact k i t' w' (by simpa using h3) (by simpa using h4)
  ·rintro⟨e,k⟩
   cases l with
   |nil=>simp at e
   |cons w l'=>exact⟨w,l',rfl,k 0 t w rfl rfl,xo1.2 ⟨by simpa using e,fun i t' w' h3 h4=>k (i+1) t' w' (by simpa using h3) (by simpa using h4)⟩⟩
theorem RdL.sub{h:H}{Z:Nat→Prop}{ts:List Tree}{l:List Value}(hr:RdL h Z ts l)(a b:Nat):RdL h Z ((ts.drop a).take b) ((l.drop a).take b):=by
 obtain⟨e,k⟩:=xo1.1 hr
 refine xo1.2 ⟨by simp only[List.length_take,List.length_drop,e],fun i t w h1 h2=> ?_⟩
 rw[List.getElem?_take]at h1 h2
 split at h1
 ·rw[if_pos ‹_›]at h2
  rw[List.getElem?_drop]at h1 h2
  exact k _ t w h1 h2
 ·cases h1
def Same(h h':H)(Z:Nat→Prop):Prop:= ∀o,Z o→h'.row o=h.row o
mutual
theorem Rd.mono{h h':H}{Z Z':Nat→Prop}(hz: ∀o,Z o→Z' o)(hs:Same h h' Z): ∀{t:Tree} {w:Value},Rd h Z t w→Rd h' Z' t w
 | .v x,w,hr=>by rw[Rd]at hr⊢;exact hr
 | .sl nl e u cs,w,hr=>by
   rw[Rd]at hr⊢
   rcases hr with hr|⟨o,off,n,c,r,h1,h2,h3,h4,h5,h6,h7,h8,h9⟩
   ·exact .inl hr
   ·exact .inr ⟨o,off,n,c,r,h1,hz o h2,by rw[hs o h2];exact h3,h4,h5,h6,h7,h8,RdL.mono hz hs h9⟩
 | .pt e cs,w,hr=>by
   rw[Rd]at hr⊢
   obtain⟨o,r,h1,h2,h3,h4⟩:=hr
   exact⟨o,r,h1,hz o h2,by rw[hs o h2];exact h3,RdL.mono hz hs h4⟩
 | .fn f cs,w,hr=>by
   rw[Rd]at hr⊢
   obtain⟨caps,h1,h2⟩:=hr
   exact⟨caps,h1,RdL.mono hz hs h2⟩
 | .fz t,w,hr=>by rw[Rd]at hr⊢;exact Rd.mono hz hs hr
 | .junk,w,hr=>by rw[Rd];trivial
 | .ex t,w,hr=>by rw[Rd]at hr⊢;exact Ex.mono hz hs hr
theorem RdL.mono{h h':H}{Z Z':Nat→Prop}(hz: ∀o,Z o→Z' o)(hs:Same h h' Z): ∀{ts:List Tree} {l:List Value},RdL h Z ts l→RdL h' Z' ts l
 | [],l,hr=>by rw[RdL]at hr⊢;exact hr
 |t::ts,l,hr=>by
  rw[RdL]at hr⊢
  obtain⟨w,l',h1,h2,h3⟩:=hr
  exact⟨w,l',h1,Rd.mono hz hs h2,RdL.mono hz hs h3⟩
theorem Ex.mono{h h':H}{Z Z':Nat→Prop}(hz: ∀o,Z o→Z' o)(hs:Same h h' Z): ∀{t:Tree} {w:Value},Ex h Z t w→Ex h' Z' t w
 | .v x,w,hr=>by rw[Ex]at hr⊢;exact hr
 | .sl nl e u cs,w,hr=>by
   rw[Ex]at hr⊢
   obtain⟨o,n,r,h1,h2,h3,h4⟩:=hr
   obtain⟨h5,h6,h7,h8,h9,h10,h11⟩:=h4
   exact⟨o,n,r,h1,hz o h2,by rw[hs o h2];exact h3,h5,h6,h7,h8,h9,h10,ExL.mono hz hs h11⟩
 | .pt e cs,w,hr=>by
   rw[Ex]at hr⊢
   obtain⟨o,r,h1,h2,h3,h4,h5,h6,h7⟩:=hr
   exact⟨o,r,h1,hz o h2,by rw[hs o h2];exact h3,h4,h5,h6,ExL.mono hz hs h7⟩
 | .fn f cs,w,hr=>by rw[Ex]at hr;exact hr.elim;all_goals simp
 | .fz t,w,hr=>by rw[Ex]at hr⊢;exact Rd.mono hz hs hr
 | .junk,w,hr=>by rw[Ex]at hr;exact hr.elim;all_goals simp
 | .ex t,w,hr=>by rw[Ex]at hr;exact hr.elim;all_goals simp
theorem ExL.mono{h h':H}{Z Z':Nat→Prop}(hz: ∀o,Z o→Z' o)(hs:Same h h' Z): ∀{ts:List Tree} {l:List Value},ExL h Z ts l→ExL h' Z' ts l
 | [],l,hr=>by rw[ExL]at hr⊢;exact hr
 |t::ts,l,hr=>by
  rw[ExL]at hr⊢
  obtain⟨w,l',h1,h2,h3⟩:=hr
  exact⟨w,l',h1,Ex.mono hz hs h2,ExL.mono hz hs h3⟩
end
theorem ExL.len{h:H}{Z:Nat→Prop}: ∀{ts:List Tree} {l:List Value},ExL h Z ts l→l.length=ts.length
 | [],l,hr=>by rw[ExL]at hr;rw[hr];rfl
 |t::ts,l,hr=>by
  rw[ExL]at hr
  obtain⟨w,l',rfl,_,hr⟩:=hr
  rw[List.length_cons,List.length_cons,hr.len]
mutual
theorem Ex.rd{h:H}{Z:Nat→Prop}: ∀{t:Tree} {w:Value},Ex h Z t w→Rd h Z t w
 | .v x,w,hr=>by rw[Ex]at hr;rw[Rd];exact hr
 | .sl nl e u cs,w,hr=>by
   rw[Ex]at hr
   obtain⟨o,n,r,h1,h2,h3,h4,h5,h6,h7,h8,h9,h10⟩:=hr
   rw[Rd]
   refine .inr ⟨o,0,n,n,r,h1,h2,h3,fun _=>h6,h7,h8,Nat.le_refl _,h9, ?_⟩
   rw[List.drop_zero,List.take_of_length_le (by rw[h10.len];exact Nat.le_refl _)]
   exact ExL.rd h10
 | .pt e cs,w,hr=>by
   rw[Ex]at hr
   obtain⟨o,r,h1,h2,h3,h4,h5,h6,h7⟩:=hr
   rw[Rd];exact⟨o,r,h1,h2,h3,ExL.rd h7⟩
 | .fn f cs,w,hr=>by rw[Ex]at hr;exact hr.elim;all_goals simp
 | .fz t,w,hr=>by rw[Ex]at hr;rw[Rd];exact hr
 | .junk,w,hr=>by rw[Rd];trivial
 | .ex t,w,hr=>by rw[Ex]at hr;exact hr.elim;all_goals simp
theorem ExL.rd{h:H}{Z:Nat→Prop}: ∀{ts:List Tree} {l:List Value},ExL h Z ts l→RdL h Z ts l
 | [],l,hr=>by rw[ExL]at hr;rw[RdL];exact hr
 |t::ts,l,hr=>by
  rw[ExL]at hr
  rw[RdL]
  obtain⟨w,l',h1,h2,h3⟩:=hr
  exact⟨w,l',h1,Ex.rd h2,ExL.rd h3⟩
end
mutual
theorem ok.keep{h h':H}{Z Z':Nat→Prop}(hz: ∀o,Z o→Z' o)(hs:Same h h' Z): ∀{a:AT},ok h Z a→(∀o∈a.fp,h'.row o=h.row o)→ok h' Z' a
 | .v x,_,_=>by rw[ok];trivial
 | .sl o off n c nl e u cs,hk,hf=>by
   rw[ok]at hk⊢
   rw[AT.fp]at hf
   obtain⟨r,h1,h2,h3,h4,h5,h6,h7,h8,h9,h10⟩:=hk
   exact⟨r,by rw[hf o (by simp)];exact h1,h2,h3,h4,h5,h6,h7,h8,h9,okL.keep hz hs h10 fun o' ho'=>hf o' (by simp[ho'])⟩
 | .nil nl e u,hk,_=>by rw[ok]at hk⊢;exact hk
 | .pt o e cs,hk,hf=>by
   rw[ok]at hk⊢
   rw[AT.fp]at hf
   obtain⟨r,h1,h2,h3,h4⟩:=hk
   exact⟨r,by rw[hf o (by simp)];exact h1,h2,h3,okL.keep hz hs h4 fun o' ho'=>hf o' (by simp[ho'])⟩
 | .fn f,_,_=>by rw[ok];trivial
 | .fz w t,hk,_=>by rw[ok]at hk⊢;exact Rd.mono hz hs hk
 | .junk w,hk,_=>by rw[ok]at hk⊢;exact hk
theorem okL.keep{h h':H}{Z Z':Nat→Prop}(hz: ∀o,Z o→Z' o)(hs:Same h h' Z): ∀{l:List AT},okL h Z l→(∀o∈fpL l,h'.row o=h.row o)→okL h' Z' l
 | [],_,_=>by rw[okL];trivial
 |a::l,hk,hf=>by
  rw[okL]at hk⊢
  rw[fpL]at hf
  exact⟨ok.keep hz hs hk.1 fun o ho=>hf o (by simp[ho]),okL.keep hz hs hk.2 fun o ho=>hf o (by simp[ho])⟩
end
mutual
theorem ok.rd{h:H}{Z Z':Nat→Prop}(hz: ∀o,Z o→Z' o): ∀{a:AT},ok h Z a→(∀o∈a.fp,Z' o)→Rd h Z' (strip a.era) a.val
 | .v x,_,_=>by rw[AT.era,strip,Rd];rfl
 | .sl o off n c nl e u cs,hk,hf=>by
   rw[ok]at hk
   rw[AT.fp]at hf
   obtain⟨r,h1,h2,h3,h4,h5,h6,h7,h8,h9,h10⟩:=hk
   rw[AT.era,strip,Rd]
   have hl:(jj5 (eraL cs)).length=cs.length:=by rw[gz0,dk4];simp
   refine .inr ⟨o,off,n,c,r,rfl,hf o (by simp),h1,fun _=>h4,h5,by rw[hl];exact h6,h7,fun hn e=>h8.1 hn ?_, ?_⟩
   ·rw[e]at hl;exact List.eq_nil_of_length_eq_zero hl.symm
   ·rw[hl,h9];exact okL.rd hz h10 fun o' ho'=>hf o' (by simp[ho'])
 | .nil nl e u,hk,_=>by
   rw[ok]at hk
   rw[AT.era,strip,jj5,Rd]
   exact .inl ⟨rfl,hk.1,hk.2,rfl⟩
 | .pt o e cs,hk,hf=>by
   rw[ok]at hk
   rw[AT.fp]at hf
   obtain⟨r,h1,h2,h3,h4⟩:=hk
   rw[AT.era,strip,Rd]
   exact⟨o,r,rfl,hf o (by simp),h1,by rw[h3];exact okL.rd hz h4 fun o' ho'=>hf o' (by simp[ho'])⟩
 | .fn f,_,_=>by
   rw[AT.era,strip,jj5,Rd]
   exact⟨[],rfl,by rw[RdL]⟩
 | .fz w t,hk,_=>by
   rw[ok]at hk
   rw[AT.era,strip]
   exact Rd.mono hz (fun _ _=>rfl) hk
 | .junk w,_,_=>by rw[AT.era,strip,Rd];trivial
theorem okL.rd{h:H}{Z Z':Nat→Prop}(hz: ∀o,Z o→Z' o): ∀{l:List AT},okL h Z l→(∀o∈fpL l,Z' o)→RdL h Z' (jj5 (eraL l)) (l.map AT.val)
 | [],_,_=>by rw[eraL,jj5,RdL];rfl
 |a::l,hk,hf=>by
  rw[okL]at hk
  rw[fpL]at hf
  rw[eraL,jj5,RdL]
  exact⟨_,_,rfl,ok.rd hz hk.1 fun o ho=>hf o (by simp[ho]),okL.rd hz hk.2 fun o ho=>hf o (by simp[ho])⟩
end
def AT.kids:AT→Option (List AT)
 | .sl _ _ _ _ _ _ _ cs=>some cs
 | .nil _ _ _=>some []
 | .pt _ _ cs=>some cs
 |_=>none
def AT.setKids:AT→List AT→AT
 | .sl o off n c nl e u _,cs=> .sl o off n c nl e u cs
 | .pt o e _,cs=> .pt o e cs
 |t,_=>t
def AT.get:AT→List Nat→Option AT
 |t,[]=>some t
 |t,i::p=>match t.kids with
  |some cs=>match cs[i]? with
   |some k=>k.get p
   |none=>none
  |none=>none
def AT.upd:AT→List Nat→AT→AT
 |_,[],s=>s
 |t,i::p,s=>match t.kids with
  |some cs=>match cs[i]? with
   |some k=>t.setKids (cs.set i (k.upd p s))
   |none=>t
  |none=>t
def AT.isV:AT→Bool
 | .v _=>true
 |_=>false
theorem wb1(a:AT):a.era.kids=a.kids.map eraL:=by
 cases a<;>rfl
theorem vw3{a:AT}{cs cs':List AT}(hk:a.kids=some cs)(hl:cs'.length=cs.length):(a.setKids cs').era=a.era.setKids (eraL cs'):=by
 cases a with
 |sl=>rfl
 |pt=>rfl
 |nil nl e u=>
  cases hk
  obtain rfl:cs'=[]:=List.eq_nil_of_length_eq_zero (by simpa using hl)
  rfl
 |v=>cases hk
 |fn=>cases hk
 |fz=>cases hk
 |junk=>cases hk
theorem df8(a:AT)(cs:List AT):(a.setKids cs).val=a.val:=by cases a<;>rfl
theorem ua4(a:AT)(cs:List AT):(a.setKids cs).isV=a.isV:=by cases a<;>rfl
theorem xt0: ∀(p:List Nat) (a:AT),a.era.get p=(a.get p).map AT.era
 | [],a=>rfl
 |i::p,a=>by
  simp only[Tree.get,AT.get,wb1]
  cases a.kids with
  |none=>rfl
  |some cs=>
   simp only[Option.map_some]
   rw[dk4,List.getElem?_map]
   cases cs[i]? with
   |none=>rfl
   |some k=>exact xt0 p k
theorem mg2(s:AT): ∀(p:List Nat) (a:AT),(a.upd p s).era=a.era.upd p s.era
 | [],a=>rfl
 |i::p,a=>by
  simp only[Tree.upd,AT.upd,wb1]
  cases hk:a.kids with
  |none=>rfl
  |some cs=>
   simp only[Option.map_some]
   rw[dk4,List.getElem?_map]
   cases cs[i]? with
   |none=>rfl
   |some k=>
    simp only[Option.map_some]
    rw[vw3 hk (by simp),dk4,List.map_set,mg2 s p k]
theorem p33{s:AT}: ∀{p:List Nat} {a k:AT},a.get p=some k→s.val=k.val→(a.upd p s).val=a.val
 | [],a,k,h1,h2=>by cases h1;exact h2
 |i::p,a,k,h1,h2=>by
  simp only[AT.upd,AT.get]at h1⊢
  cases hk:a.kids with
  |none=>rfl
  |some cs=>
   simp only[]
   cases hc:cs[i]? with
   |none=>rfl
   |some b=>exact df8 _ _
theorem vw2{a:AT}{cs:List AT}(hk:a.kids=some cs):(a.fp=[]∧cs=[])∨ ∃o,a.fp=o::fpL cs∧ ∀cs',(a.setKids cs').fp=o::fpL cs':=by
 cases a with
 |sl o off n c nl e u l=>cases hk;exact .inr ⟨o,by rw[AT.fp],fun cs'=>by rw[AT.setKids,AT.fp]⟩
 |pt o e l=>cases hk;exact .inr ⟨o,by rw[AT.fp],fun cs'=>by rw[AT.setKids,AT.fp]⟩
 |nil=>cases hk;exact .inl ⟨by rw[AT.fp];all_goals simp,rfl⟩
 |v=>cases hk
 |fn=>cases hk
 |fz=>cases hk
 |junk=>cases hk
theorem ju4(x:Nat): ∀{cs:List AT} {i:Nat} {k s:AT},cs[i]? =some k→(fpL (cs.set i s)).count x+k.fp.count x=(fpL cs).count x+s.fp.count x
 | [],i,k,s,h=>by simp at h
 |a::cs,0,k,s,h=>by
  simp at h;subst h
  rw[List.set_cons_zero,fpL,fpL,List.count_append,List.count_append];omega
 |a::cs,i+1,k,s,h=>by
  rw[List.set_cons_succ,fpL,fpL,List.count_append,List.count_append]
  have:=ju4 x (cs:=cs) (i:=i) (k:=k) (s:=s) (by simpa using h)
  omega
theorem rh1(x:Nat){s:AT}: ∀{p:List Nat} {a k:AT},a.get p=some k→(a.upd p s).fp.count x+k.fp.count x=a.fp.count x+s.fp.count x
 | [],a,k,h=>by cases h;rw[AT.upd];omega
 |i::p,a,k,h=>by
  simp only[AT.upd,AT.get]at h⊢
  cases hk:a.kids with
  |none=>rw[hk]at h;cases h
  |some cs=>
   rw[hk]at h
   simp only[]at h⊢
   cases hc:cs[i]? with
   |none=>rw[hc]at h;cases h
   |some b=>
    rw[hc]at h
    simp only[]at h⊢
    have h1:=rh1 x (s:=s) h
    have h2:=ju4 x (s:=b.upd p s) hc
    rcases vw2 hk with⟨_,rfl⟩|⟨o,e1,e2⟩
    ·simp at hc
    ·rw[e1,e2,List.count_cons,List.count_cons];omega
theorem un1(x:Nat){p:List Nat}{a k:AT}(h:a.get p=some k):k.fp.count x≤a.fp.count x:=by
 have:=rh1 x (s:= .junk .nilFunc) h
 rw[show(AT.junk .nilFunc).fp=[]from by rw[AT.fp]<;>simp]at this
 simp at this;omega
theorem iu1{h h':H}{Z Z':Nat→Prop}{a:AT}{cs cs':List AT}(hk:a.kids=some cs)(ha:ok h Z a)(hl:cs'.map AT.val=cs.map AT.val)(hr: ∀o,a.fp=o::fpL cs→h'.row o=h.row o)(hcs:okL h' Z' cs'):ok h' Z' (a.setKids cs'):=by
 have hlen:cs'.length=cs.length:=by have:=congrArg List.length hl;simpa using this
 cases a with
 |sl o off n c nl e u l=>
  cases hk
  rw[ok]at ha
  rw[AT.setKids,ok]
  obtain⟨r,h1,h2,h3,h4,h5,h6,h7,h8,h9,h10⟩:=ha
  exact⟨r,by rw[hr o (by rw[AT.fp])];exact h1,h2,h3,h4,h5,by rw[hlen];exact h6,h7,⟨fun hn e=>h8.1 hn (by rw[e]at hlen;exact List.eq_nil_of_length_eq_zero hlen.symm),by rw[hlen];exact h8.2⟩,by rw[hlen,hl];exact h9,hcs⟩
 |pt o e l=>
  cases hk
  rw[ok]at ha
  rw[AT.setKids,ok]
  obtain⟨r,h1,h2,h3,h4⟩:=ha
  exact⟨r,by rw[hr o (by rw[AT.fp])];exact h1,h2,by rw[hl];exact h3,hcs⟩
 |nil nl e u=>rw[AT.setKids];rw[ok]at ha⊢;exact ha;all_goals simp
 |v=>cases hk
 |fn=>cases hk
 |fz=>cases hk
 |junk=>cases hk
theorem by5{h:H}{Z:Nat→Prop}{a:AT}{cs:List AT}(hk:a.kids=some cs)(ha:ok h Z a):okL h Z cs:=by
 cases a with
 |sl=>cases hk;rw[ok]at ha;obtain⟨r,h1,h2,h3,h4,h5,h6,h7,h8,h9,h10⟩:=ha;exact h10
 |pt=>cases hk;rw[ok]at ha;obtain⟨r,h1,h2,h3,h4⟩:=ha;exact h4
 |nil=>cases hk;rw[okL];trivial
 |v=>cases hk
 |fn=>cases hk
 |fz=>cases hk
 |junk=>cases hk
theorem xf2{h:H}{Z:Nat→Prop}: ∀{p:List Nat} {a k:AT},a.get p=some k→ok h Z a→ok h Z k
 | [],a,k,h1,h2=>by cases h1;exact h2
 |i::p,a,k,h1,h2=>by
  simp only[AT.get]at h1
  cases hk:a.kids with
  |none=>rw[hk]at h1;cases h1
  |some cs=>
   rw[hk]at h1
   simp only[]at h1
   cases hc:cs[i]? with
   |none=>rw[hc]at h1;cases h1
   |some b=>
    rw[hc]at h1
    exact xf2 (p:=p) h1 (ga5.1 (by5 hk h2) b (List.mem_of_getElem? hc))
theorem ea8{x:Nat}{l:List Nat}:x∈l↔0<l.count x:=List.count_pos_iff.symm
theorem i85{x:Nat}{cs:List AT}{i:Nat}{k:AT}(hc:cs[i]? =some k)(hx:x∈k.fp):x∈fpL cs:=by
 rw[zq7,List.mem_flatMap];exact⟨k,List.mem_of_getElem? hc,hx⟩
theorem kr3{h h':H}{Z Z':Nat→Prop}(hz: ∀o,Z o→Z' o)(hs:Same h h' Z){s:AT}: ∀{p:List Nat} {a k:AT},a.get p=some k→ok h Z a→(∀x,a.fp.count x≤1)→s.val=k.val→ok h' Z' s→(∀o∈a.fp,o∉k.fp→h'.row o=h.row o)→ok h' Z' (a.upd p s)
 | [],a,k,h1,h2,hn,hv,h3,h4=>by cases h1;exact h3
 |i::p,a,k,h1,h2,hn,hv,h3,h4=>by
  simp only[AT.get,AT.upd]at h1⊢
  cases hk:a.kids with
  |none=>rw[hk]at h1;cases h1
  |some cs=>
   rw[hk]at h1
   simp only[]at h1⊢
   cases hc:cs[i]? with
   |none=>rw[hc]at h1;cases h1
   |some b=>
    rw[hc]at h1
    simp only[]at h1⊢
    rcases vw2 hk with⟨_,rfl⟩|⟨o,e1,e2⟩
    ·simp at hc
    ·have hsub: ∀x,k.fp.count x≤b.fp.count x:=fun x=>un1 x h1
     have hcs: ∀x,(fpL cs).count x≤1∧(x=o→(fpL cs).count x=0):=fun x=>by
      have:=hn x
      rw[e1,List.count_cons]at this
      refine⟨by omega,fun e=> ?_⟩
      subst e
      simp at this
      exact this
     have hb: ∀x,b.fp.count x≤(fpL cs).count x:=fun x=>by
      have:=ju4 x (s:= .junk .nilFunc) hc
      rw[show(AT.junk .nilFunc).fp=[]from by rw[AT.fp]<;>simp]at this
      simp at this;omega
     have hbval:(b.upd p s).val=b.val:=p33 h1 hv
     refine iu1 hk h2 ?_ (fun o' ho'=> ?_) (ga5.2 fun a' ha'=> ?_)
     ·rw[List.map_set,hbval]
      refine List.ext_getElem? fun j=> ?_
      rw[List.getElem?_set]
      split
      ·subst_vars
       split
       ·rw[List.getElem?_map,hc];rfl
       ·rw[List.getElem?_eq_none (by omega)]
      ·rfl
     ·have:o'=o:=by rw[e1]at ho';cases ho';rfl
      subst this
      refine h4 o' (by rw[e1];simp) fun hm=> ?_
      have:=(hcs o').2 rfl
      have:=hb o'
      have:=hsub o'
      have:=ea8.1 hm
      omega
     ·obtain⟨j,hj,rfl⟩:=List.getElem_of_mem ha'
      rw[List.getElem_set]
      split
      ·refine kr3 hz hs h1 (ga5.1 (by5 hk h2) b (List.mem_of_getElem? hc)) (fun x=>by have:=hb x;have:=(hcs x).1;omega) hv h3 fun o' ho' hno=>h4 o' (by rw[e1];simp[i85 hc ho']) hno
      ·rename_i hij
       rw[List.length_set]at hj
       have hmem:cs[j]? =some cs[j]:=List.getElem?_eq_getElem hj
       refine ok.keep hz hs (ga5.1 (by5 hk h2) _ (List.getElem_mem hj)) fun o' ho'=>h4 o' (by rw[e1];simp[i85 hmem ho']) fun hm=> ?_
       --it stands in two of them
       have h5:=ju4 o' (s:= .junk .nilFunc) hc
       rw[show(AT.junk .nilFunc).fp=[]from by rw[AT.fp]<;>simp]at h5
       have h6:o'∈fpL (cs.set i (.junk .nilFunc)):=i85 (i:=j) (k:=cs[j]) (by rw[List.getElem?_set_ne hij];exact hmem) ho'
       have:=ea8.1 h6
       have:=ea8.1 hm
       have:=hsub o'
       have:=(hcs o').1
       simp at h5;omega
end Go.Vm
