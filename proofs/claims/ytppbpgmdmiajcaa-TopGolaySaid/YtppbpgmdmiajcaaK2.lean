/-
  THE SMALL MACHINE IS TRUE TO THE MODEL: where it computes a result of a call, the model's call returns that result, whatever the tape, and leaves all that was there as it was. Ranges over functions to ..
-/
import Derived.Test.YtppbpgmdmiajcaaK0
import Derived.Test.YtppbpgmdmiajcaaK1
set_option linter.unusedVariables false
set_option linter.unusedSimpArgs false
set_option linter.unusedSectionVars false
set_option maxRecDepth 100000
namespace Go.Am
open Go.RowKit (Below)
def isC:Obj→Bool
 | .cells .. | .map .. =>true
 |_=>false
def NotC(w:World)(k:Nat):Prop:= ∃o,w.heap[k]? =some o∧isC o=false
theorem NotC.cell{w:World}{k:Nat}(h:NotC w k)(i:Nat):w.cell? ⟨k,i,none⟩=none:=by
 obtain⟨o,h1,h2⟩:=h
 unfold World.cell?
 simp only[h1]
 cases o<;>first|rfl|cases h2
theorem NotC.lt{w:World}{k:Nat}(h:NotC w k):k<w.heap.size:=by
 obtain⟨o,h1,_⟩:=h
 exact(un8.1 h1).1
structure Up (B0 B:Nat→Prop) (w:World):Prop where
 sub: ∀k,B0 k→B k
 ob: ∀k,B k→ ¬B0 k→NotC w k
section
variable {B0 B:Nat→Prop} {φ:Ren} {h:H} {w w':World}
theorem Up.bel(u:Up B0 B w)(hb:Bel B w w'):Up B0 B w':=
 ⟨u.sub,fun k h1 h2=>by obtain⟨o,h3,h4⟩:=u.ob k h1 h2;exact⟨o,by rw[hb.block k h1];exact h3,h4⟩⟩
theorem HR.down(hH:HR φ B h w)(u:Up B0 B w):HR φ B0 h w:=by
 refine⟨fun o r hr ho hm=> ?_,fun o r hr ho hm=> ?_,fun o r hr ho=> ?_,hH.one,hH.inj,fun k hk=>hH.size k (u.sub k hk)⟩
 ·obtain⟨a,b,c⟩:=hH.mpo o r hr ho hm
  exact⟨a,fun e=>b (u.sub _ e),c⟩
 ·obtain⟨a,b,c,d⟩:=hH.own o r hr ho hm
  exact⟨a,b,fun e=>c (u.sub _ e),d⟩
 ·obtain⟨a,b⟩:=hH.ro o r hr ho
  refine⟨a,fun i c hc=> ?_⟩
  obtain⟨k,v,hv,hv2⟩:=b i c hc
  refine⟨ly6 fun hn=> ?_,v,hv,hv2⟩
  rw[(u.ob _ k hn).cell]at hv
  cases hv
theorem HR.lift{B1:Nat→Prop}(hH:HR φ B h w)(hs: ∀k,B k→B1 k)(hn: ∀k,B1 k→B k∨NotC w k):HR φ B1 h w:=by
 refine⟨fun o r hr ho hm=> ?_,fun o r hr ho hm=> ?_,fun o r hr ho=> ?_,hH.one,hH.inj,fun k hk=>(hn k hk).elim (hH.size k) NotC.lt⟩
 ·obtain⟨a,b,es,ck,d,e⟩:=hH.mpo o r hr ho hm
  refine⟨a,fun hb=> ?_,es,ck,d,e⟩
  rcases hn _ hb with h1|⟨x,h1,h2⟩
  ·exact b h1
  ·rw[d]at h1;cases h1;cases h2
 ·obtain⟨a,b,c,cur,d,e⟩:=hH.own o r hr ho hm
  refine⟨a,b,fun hb=> ?_,cur,d,e⟩
  rcases hn _ hb with h1|⟨x,h1,h2⟩
  ·exact c h1
  ·rw[d]at h1;cases h1;cases h2
 ·obtain⟨a,b⟩:=hH.ro o r hr ho
  refine⟨a,fun i c hc=> ?_⟩
  obtain⟨k,v⟩:=b i c hc
  exact⟨hs _ k,v⟩
theorem HR.poke(hH:HR φ B h w){r:Nat}(o':Obj)(hr:NotC w r):HR φ B h (w.putObj r o'):=by
 have hsz:(w.putObj r o').heap.size=w.heap.size:=by simp[World.putObj]
 refine⟨fun o x hx ho hm=> ?_,fun o x hx ho hm=> ?_,fun o x hx ho=> ?_,hH.one,hH.inj,fun k hk=>by rw[hsz];exact hH.size k hk⟩
 ·obtain⟨a,b,es,ck,d,e⟩:=hH.mpo o x hx ho hm
  refine⟨a,b,es,ck, ?_,e⟩
  have hne:(φ o).blk≠r:=fun e=>by
   obtain⟨y,h1,h2⟩:=hr
   rw[e,h1]at d;cases d;cases h2
  rw[World.putObj_heap_other hne]
  exact d
 ·obtain⟨a,b,c,cur,d,e⟩:=hH.own o x hx ho hm
  refine⟨a,b,c,cur, ?_,e⟩
  have hne:(φ o).blk≠r:=fun e=>by
   obtain⟨y,h1,h2⟩:=hr
   rw[e,h1]at d;cases d;cases h2
  rw[World.putObj_heap_other hne]
  exact d
 ·obtain⟨a,b⟩:=hH.ro o x hx ho
  refine⟨a,fun i c hc=> ?_⟩
  obtain⟨k,v,hv,hv2⟩:=b i c hc
  refine⟨k,v, ?_,hv2⟩
  rw[←hv]
  have hne:(φ o).blk≠r:=fun e=>by rw[e,hr.cell]at hv;cases hv
  exact World.cell?_of_block (World.putObj_heap_other hne)
theorem Bel.poke{r:Nat}(o':Obj)(hr: ¬B r):Bel B w (w.putObj r o'):=
 ⟨rfl,rfl,rfl,by simp[World.putObj],fun k hk=>World.putObj_heap_other (fun e=>hr (e▸hk))⟩
theorem NotC.poke{k r:Nat}{o':Obj}(h:NotC w k)(ho:isC o'=false):NotC (w.putObj r o') k:=by
 by_cases e:k=r
 ·subst e;exact⟨o',World.putObj_heap_same h.lt,ho⟩
 ·obtain⟨o,h1,h2⟩:=h
  exact⟨o,by rw[World.putObj_heap_other e];exact h1,h2⟩
theorem Up.poke(u:Up B0 B w){r:Nat}{o':Obj}(ho:isC o'=false):Up B0 B (w.putObj r o'):=⟨u.sub,fun k h1 h2=>(u.ob k h1 h2).poke ho⟩
def mkD(r:Nat):Deferred:={target:= .collected r,args:= #[]}
structure Mks (B0 B:Nat→Prop) (w:World) (rs:List Nat):Prop where
 nd:rs.Nodup
 at': ∀r∈rs,B r∧ ¬B0 r∧w.heap[r]? =some (.deferred (some []))
theorem Mks.bel{rs:List Nat}(m:Mks B0 B w rs)(hb:Bel B w w'):Mks B0 B w' rs:=⟨m.nd,fun r hr=>by obtain⟨a,b,c⟩:=m.at' r hr;exact⟨a,b,by rw[hb.block r a];exact c⟩⟩
theorem v08{P:Program}{cs:List Frame}: ∀(rs:List Nat) (fr:Frame) (w:World),fr.mode= .returning→fr.defers=rs.map mkD→Mks B0 B w rs→HR φ B h w→Up B0 B w→
 ∃w',Steps P (lone fr cs w) (lone {fr with defers:=[]} cs w')∧HR φ B h w'∧Up B0 B w'∧Bel B0 w w'
 | [],fr,w,hm,hd,_,hH,hu=>by
   have:{fr with defers:=[]}=fr:=by cases fr;simp at hd;subst hd;rfl
   rw[this]
   exact⟨w,Steps.refl _ _,hH,hu,Bel.refl _ _⟩
 |r::rs,fr,w,hm,hd,mk,hH,hu=>by
  obtain⟨a,b,c⟩:=mk.at' r rn8
  have hN:NotC w r:=⟨_,c,rfl⟩
  have hnd:=y50.1 mk.nd
  have h1:step P (lone fr cs w)= .next (lone {fr with defers:=[]++rs.map mkD} cs (w.putObj r (.deferred none))):=
   step_collected (by rw[hm];intro e;cases e) hd rfl (run_takeDeferred c)
  have mk2:Mks B0 B (w.putObj r (.deferred none)) rs:=⟨hnd.2,fun x hx=>by
   obtain⟨a2,b2,c2⟩:=mk.at' x (iz7 _ hx)
   have hne:x≠r:=fun e=>hnd.1 (by rw[←e];exact hx)
   exact⟨a2,b2,by rw[World.putObj_heap_other hne];exact c2⟩⟩
  obtain⟨w',k1,k2,k3,k4⟩:=v08 rs {fr with defers:=[]++rs.map mkD} (w.putObj r (.deferred none)) hm rfl mk2 (hH.poke _ hN) (hu.poke rfl)
  exact⟨w', .head h1 k1,k2,k3,(Bel.poke _ b).trans k4⟩
end
def Goal(P:Program)(B0:Nat→Prop)(cs0:List Frame)(f0:FuncId)(v:Value)(h':H)(cs:List Frame)(fr:Frame)(φ:Ren)(n:Nat)(w:World):Prop:=
 ∃φ' w' v' fr',Steps P (lone fr cs w) (lone fr' cs0 w')∧fr'.fn=f0∧fr'.leaving P w' (.returned v')∧VR φ' h'.length v v'∧HR φ' B0 h' w'∧Ext φ n φ'∧Bel B0 w w'
theorem Goal.back{P:Program}{B0:Nat→Prop}{cs0:List Frame}{f0:FuncId}{v:Value}{h':H}{cs cs1:List Frame}{fr fr1:Frame}{φ φ1:Ren}{n n1:Nat}{w w1:World}
 (hs:Steps P (lone fr cs w) (lone fr1 cs1 w1)) (hg:Goal P B0 cs0 f0 v h' cs1 fr1 φ1 n1 w1) (he:Ext φ n φ1) (hn:n≤n1) (hb:Bel B0 w w1):Goal P B0 cs0 f0 v h' cs fr φ n w:=by
 obtain⟨φ',w',v',fr',a1,a2,a3,a4,a5,a6,a7⟩:=hg
 exact⟨φ',w',v',fr',hs.trans a1,a2,a3,a4,a5,he.trans a6 hn,hb.trans a7⟩
section
variable {P:Program} {B:Nat→Prop} {T:Tab} {g:List ARes→List It→Fr→H→Res}
theorem x24(hT:xp2 P T)(hC: ∀f,zb8 P B T g f)(hg: ∀rs ks fr h v h',g rs ks fr h=some (v,h')→h.length≤h'.length){nt:Nat}{ops:Array Oper}{l:List AOper}{draw:Bool}{π:List Nat}(hr:RegOK P nt ops draw l π)(d:AOper){n0:Nat}{ds:List Deferred}:
 ∀(L:List Nat) {fr fr1:Fr} {h h1:H},(∀i∈L,i<ops.size)→gf4 T g n0 (L.map fun i=>l.getD i d) fr h=some (fr1,h1)→
 ∀{φ:Ren} {w:World} {a:Act} {b:Frame} {cs:List Frame} {k:List Item},a.defers=ds→FR φ h.length nt fr a.tmps→HR φ B h w→
 ∃φ' w' a',Steps P (lone (b.atR a (.inRegion ops L::k)) cs w) (lone (b.atR a' k) cs w')∧a'.defers=ds∧FR φ' h1.length nt fr1 a'.tmps∧HR φ' B h1 w'∧Ext φ h.length φ'∧h.length≤h1.length∧Bel B w w'∧
  ∀y,(∀(i:Nat) o,ops[i]? =some o→o.dst≠some y)→a'.tmps[y]? =a.tmps[y]?
 | [],fr,fr1,h,h1,_,hs,φ,w,a,b,cs,k,hd,hF,hH=>by
   cases hs
   exact⟨φ,w,a, .one stepR_region_end,hd,hF,hH,Ext.refl _ _,jj6 _,Bel.refl _ _,fun _ _=>rfl⟩
 |i::L,fr,fr1,h,h1,hL,hs,φ,w,a,b,cs,k,hd,hF,hH=>by
  have hi:=hL i (by simp)
  obtain⟨ao,e1,e2⟩:=hr.op i ops[i] (ra6 hi)
  simp only[nf9,gf4]at hs
  have e3:l.getD i d=ao:=by rw[os6,e1];rfl
  rw[e3]at hs
  split at hs
  ·rename_i fr2 h2 hst
   obtain⟨φ2,w2,v2,s1,s2,s3,s4,s5,s6⟩:=ic4 (b:=b) (cs:=cs) (k:=k) (rest:=L) hT hC hg (ra6 hi) e2 hst hF hH
   have hd2:(a.put ops[i].dst v2).defers=ds:=by cases ops[i].dst<;>exact hd
   obtain⟨φ3,w3,a3,t1,t2,t3,t4,t5,t6,t7,t8⟩:=x24 hT hC hg hr d L (fun j hj=>hL j (by simp[hj])) hs (b:=b) (cs:=cs) (k:=k) hd2 s2 s3
   refine⟨φ3,w3,a3,s1.trans t1,t2,t3,t4,s4.trans t5 s5,md7 s5 t6,s6.trans t7,fun y hy=> ?_⟩
   rw[t8 y hy]
   have hne:=hy i ops[i] (ra6 hi)
   cases hdst:ops[i].dst with
   |none=>rfl
   |some e=>
    rw[hdst]at hne
    simp only[Act.put]
    exact gb7 (fun e2=>hne (by rw[e2]))
  ·cases hs
theorem HR.drawn{φ:Ren}{h:H}{w:World}(hH:HR φ B h w)(n:Nat):HR φ B h {w with drawn:=n}:=
 hH.same (jj6 _) (fun _ _=>rfl)
theorem pt1(hT:xp2 P T)(hm:P.follows .mixedOrders=true)(hC: ∀f,zb8 P B T g f)(hg: ∀rs ks fr h v h',g rs ks fr h=some (v,h')→h.length≤h'.length)(hE: ∀ρ,EmbG ρ g)
 {rs:List ARes} {v:Value} {h':H} {nt o:Nat} {Y:List Nat} {X:List Nat→Code→ACode→Prop} {Z:List It→List Item→Prop} {b:Frame} {cs:List Frame} {ds:List Deferred} {Fx:Fr→Array Value→Prop} {Wx:World→Prop} {G:Frame→Ren→Nat→World→Prop}
 (hback: ∀{fr fr1:Frame} {φ φ1:Ren} {n n1:Nat} {w w1:World},Steps P (lone fr cs w) (lone fr1 cs w1)→G fr1 φ1 n1 w1→Ext φ n φ1→n≤n1→Bel B w w1→G fr φ n w)
 (hFk: ∀{fr:Fr} {tm:Array Value} (ks:List Nat),Fx fr tm→Fx (Fr.of (hy3 fr ks)) tm)
 (hFr: ∀{fr fr1:Fr} {tm tm1:Array Value},Fx fr tm→(∀t,(t<o∨o+nt≤t)→fr1 t=fr t)→(∀y∈Y,fr1 (y+o)=fr (y+o)∧tm1[y]? =tm[y]?)→Fx fr1 tm1)
 (hW: ∀{w w':World},Wx w→Bel B w w'→Wx w')
 (hbase: ∀{ks:List It} {k:List Item} {fr:Fr} {h:H} {φ:Ren} {w:World} {a:Act},Z ks k→gF T g rs ks fr h=some (v,h')→Fx fr a.tmps→FR φ h.length nt (fr.win o nt) a.tmps→HR φ B h w→Wx w→a.defers=ds→G (b.atR a k) φ h.length w)
 (hextra: ∀{S:List Nat} {c:Code} {c':ACode} {ks:List It} {k:List Item} {fr:Fr} {h:H} {φ:Ren} {w:World} {a:Act},X S c c'→IRo P nt o Y X Z S ks k→gF T g rs (.code c'::ks) fr h=some (v,h')→Fx fr a.tmps→FR φ h.length nt (fr.win o nt) a.tmps→HR φ B h w→Wx w→a.defers=ds→G (b.atR a (.code c::k)) φ h.length w)
 (hnext: ∀{S:List Nat} {ks:List It} {k:List Item} {fr:Fr} {h:H} {φ:Ren} {w:World} {a:Act},IRo P nt o Y X Z S ks k→g rs ks fr h=some (v,h')→Fx fr a.tmps→FR φ h.length nt (fr.win o nt) a.tmps→HR φ B h w→Wx w→a.defers=ds→G (b.atR a k) φ h.length w)
 {S:List Nat} {ks:List It} {k:List Item} {fr:Fr} {h:H} {φ:Ren} {w:World} {a:Act} (hI:IRo P nt o Y X Z S ks k) (hr:gF T g rs ks fr h=some (v,h')) (hX:Fx fr a.tmps) (hF:FR φ h.length nt (fr.win o nt) a.tmps) (hH:HR φ B h w) (hw:Wx w) (hd:a.defers=ds):
 G (b.atR a k) φ h.length w:=by
 have same: ∀{S':List Nat} {ks':List It} {k':List Item} {fr2:Fr},g rs ks' fr2 h=some (v,h')→step P (lone (b.atR a k) cs w)= .next (lone (b.atR a k') cs w)→IRo P nt o Y X Z S' ks' k'→Fx fr2 a.tmps→FR φ h.length nt (fr2.win o nt) a.tmps→G (b.atR a k) φ h.length w:=
  fun hr hst hI hX2 hF2=>hback (.one hst) (hnext hI hr hX2 hF2 hH hw hd) (Ext.refl _ _) (jj6 _) (Bel.refl _ _)
 cases hI with
 |base hz=>exact hbase hz hr hX hF hH hw hd
 |blk hk=>
  simp only[gF]at hr
  exact same hr stepR_inBlock hk (hFk _ hX) (hF.sub fun t u hu=>e79 hu)
 |lp hc hk=>
  simp only[gF]at hr
  exact same hr stepR_inLoop (.code hc (.lp hc hk)) (hFk _ hX) (hF.sub fun t u hu=>e79 hu)
 | @code _ _ _ ks2 k2 hc hk=>
   cases hc with
   |stuck=>simp only[gF]at hr;cases hr
   |skip=>
    simp only[gF]at hr
    exact same hr stepR_skip hk hX hF
   |extra hx=>exact hextra hx hk hr hX hF hH hw hd
   |seq h1 h2=>
    simp only[gF]at hr
    exact same hr stepR_seq (.code h1 (.code h2 hk)) hX hF
   |cond hc h1 h2=>
    simp only[gF,jr1 hc]at hr
    split at hr
    ·rename_i t ht
     have e:=xz4 (az8 hF ht)
     refine same (S':=S) hr (stepR_cond e) ?_ hX hF
     cases t
     ·exact .code h2 hk
     ·exact .code h1 hk
    ·cases hr
   |block h1=>
    simp only[gF]at hr
    exact same hr stepR_block (.code h1 (.blk hk)) hX hF
   |exit hin=>
    simp only[gF]at hr
    obtain⟨ko,ks',k',S',e0,e1,e2⟩:=bz6 hk hin
    rw[e0]at hr
    exact same (S':=S') hr (stepR_exit e1) e2 (hFk _ hX) (hF.sub fun t u hu=>e79 hu)
   | @loop _ kh c c' h1=>
     simp only[gF]at hr
     exact same hr stepR_loop (.code h1 (.lp h1 hk)) (hFk _ hX) (hF.sub fun t u hu=>e79 hu)
   |region id ops draw l π hro hlk hY=>
    simp only[gF]at hr
    split at hr
    ·rename_i fr1 h1 hrun
     have hlk2: ∀x∈π.map (fun i=>l.getD i opNo),q08 nt x:=fun x hx=>by
      obtain⟨i,_,rfl⟩:=vf1.1 hx
      simp only[os6]
      cases hi:l[i]? with
      |none=>exact⟨fun t ht=>by simp[opNo,AOper.looks,AOp.opds,tmpsOf]at ht,fun d hd=>by cases hd⟩
      |some x=>exact hlk x (vf6 hi)
     obtain⟨hrun,hoth⟩:=zd6 hlk2 hrun
     have hlen:=c80 hg hrun
     have hdst: ∀x∈π.map (fun i=>l.getD i opNo),∀d,x.dst=some d→d<nt∧d∉Y:=fun x hx d hd=>by
      refine⟨(hlk2 x hx).2 d hd, ?_⟩
      obtain⟨i,hi,rfl⟩:=vf1.1 hx
      simp only[os6]at hd
      cases hli:l[i]? with
      |none=>rw[hli]at hd;cases hd
      |some y=>
       rw[hli]at hd
       have hil:i<ops.size:=by rw[←hro.len];exact(ck5.1 hli).1
       obtain⟨ao,q1,q2⟩:=hro.op i ops[i] (ra6 hil)
       rw[hli]at q1;cases q1
       exact hY i ops[i] (ra6 hil) d (by rw[←q2.dst];exact hd)
     have hout: ∀t,(t<o∨o+nt≤t)→fr1 t=fr t:=fun t ht=>hoth t fun x hx e=>by
      cases hd:x.dst with
      |none=>rw[hd]at e;cases e
      |some d=>
       rw[hd]at e
       have h5:=(hdst x hx d hd).1
       have e:d+o=t:=pk4 e
       omega
     have hyk: ∀y∈Y,fr1 (y+o)=fr (y+o):=fun y hy=>hoth _ fun x hx e=>by
      cases hd:x.dst with
      |none=>rw[hd]at e;cases e
      |some d=>
       rw[hd]at e
       have e:d+o=y+o:=pk4 e
       have:d=y:=by omega
       exact(hdst x hx d hd).2 (this▸hy)
     have hyt: ∀{a2:Act},(∀y,(∀(i:Nat) o,ops[i]? =some o→o.dst≠some y)→a2.tmps[y]? =a.tmps[y]?)→ ∀y∈Y,fr1 (y+o)=fr (y+o)∧a2.tmps[y]? =a.tmps[y]? :=fun h y hy=>⟨hyk y hy,h y fun i x hx e=>hY i x hx y e hy⟩
     cases hdr:draw with
     |false=>
      subst hdr
      rw[hro.txt rfl]at hrun
      obtain⟨φ2,w2,a2,t1,t2,t3,t4,t5,t6,t7,t8⟩:=x24 hT hC hg hro ⟨none, .lenK 0,none,false⟩ (List.range ops.size) (fun i hi=>l16.1 hi) hrun (b:=b) (cs:=cs) hd hF hH
      exact hback (.head stepR_region t1) (hnext hk hr (hFr hX hout (hyt t8)) t3 t4 (hW hw t7) t2) t5 t6 t7
     |true=>
      subst hdr
      obtain⟨hdn,hco⟩:=hro.dr rfl
      have hst:=stepR_region_draw (P:=P) (b:=b) (a:=a) (k:=k2) (cs:=cs) (w:=w) (id:=id) (ops:=ops)
      rw[hm]at hst
      have hgood: ∀(i:Nat) ao,l[i]? =some ao→True:=fun _ _ _=>trivial
      obtain⟨fr2,h2,hrun2,heqv⟩:=l80 hg hE hT.good hro.len hro.good hro.ord opNo rfl hdn hco (w.tape w.drawn (.order b.fn id)) (WFs.of hF hH) hrun
      have htopo:=vr2 hdn (w.tape w.drawn (.order b.fn id))
      obtain⟨φ2,w2,a2,t1,t2,t3,t4,t5,t6,t7,t8⟩:=x24 hT hC hg hro ⟨none, .lenK 0,none,false⟩ _ (fun i hi=>l16.1 (htopo.perm.mem_iff.1 hi)) hrun2 (b:=b) (cs:=cs) hd hF (hH.drawn _)
      have h0:Bel B w {w with drawn:=w.drawn+1}:=⟨rfl,rfl,rfl,jj6 _,fun _ _=>rfl⟩
      obtain⟨φ3,u1,u2,u3⟩:=heqv.model t3 t4
      exact hback (.head hst t1) (hnext hk hr (hFr hX hout (hyt t8)) u1 u2 (hW hw (h0.trans t7)) t2) (fun o ho=>(u3 o ho).trans (t5 o ho)) hlen (h0.trans t7)
    ·cases hr
end
end Go.Am
namespace Go.Am
open Go.RowKit (Below)
theorem lh0{fr:Fr}: ∀{ks:List Nat} {t:Nat} {v:Value},Fr.of (hy3 fr ks) t=some v→t∈ks∧fr t=some v:=by
 intro ks
 induction ks with
 |nil=>intro t v h;simp[hy3,Fr.of]at h
 |cons k ks ih=>
  intro t v h
  simp only[hy3]at h
  cases hk:fr k with
  |none=>rw[hk]at h;obtain⟨a,b⟩:=ih h;exact⟨iz7 _ a,b⟩
  |some u=>
   rw[hk]at h
   simp only[Fr.of]at h
   cases hb:Nat.beq t k with
   |true=>rw[hb]at h;obtain rfl:=beq_true hb;exact⟨rn8,by rw[hk];exact h⟩
   |false=>rw[hb]at h;obtain⟨a,b⟩:=ih h;exact⟨iz7 _ a,b⟩
theorem eu7{T:Tab}{g:List ARes→List It→Fr→H→Res}{n0:Nat}: ∀{l l2:List AOper} {fr fr1:Fr} {h h1:H},gf4 T g n0 (l++l2) fr h=some (fr1,h1)→ ∃fr2 h2,gf4 T g n0 l fr h=some (fr2,h2)∧gf4 T g n0 l2 fr2 h2=some (fr1,h1)
 | [],l2,fr,fr1,h,h1,hr=>⟨fr,h,rfl,hr⟩
 |x::l,l2,fr,fr1,h,h1,hr=>by
  simp only[rs6,gf4]at hr⊢
  split at hr
  ·rename_i fr' h' hs
   obtain⟨fr2,h2,k1,k2⟩:=eu7 hr
   exact⟨fr2,h2,k1,k2⟩
  ·cases hr
theorem ae3{T:Tab}{g:List ARes→List It→Fr→H→Res}{n0:Nat}{d:Nat}{op:AOp}{l:List AOper}{fr fr1:Fr}{h h1:H}(hop:(∀f a,op≠ .call f a)∧ ∀x a,op≠ .calld x a)(hr:gf4 T g n0 (⟨some d,op,none,false⟩::l) fr h=some (fr1,h1)):
 ∃v h2,aop fr h op=some (v,h2)∧gf4 T g n0 l (fr.put (some d) v) h2=some (fr1,h1):=by
 simp only[gf4,km6]at hr
 split at hr
 ·rename_i fr' h' hs
  split at hs
  ·rename_i v h2 hc
   cases hs
   refine⟨v,_, ?_,hr⟩
   unfold core at hc
   simp only[gd]at hc
   cases op<;>simp_all [wb6]
  ·cases hs
 ·cases hr
theorem cf7{T:Tab}{g:List ARes→List It→Fr→H→Res}{n0 o3:Nat}: ∀(l:List (Nat×Operand)) {fr fr1:Fr} {h h1:H},(∀p∈l,o3≤p.1)→(∀p∈l,∀t,p.2= .tmp t→t<o3)→
 gf4 T g n0 (l.map fun p=>⟨some p.1, .mv p.2,none,false⟩) fr h=some (fr1,h1)→
 h1=h∧(∀t,(∀p∈l,p.1≠t)→fr1 t=fr t)∧ ∀t u,(∃p∈l,p.1=t)→fr1 t=some u→ ∃p∈l,p.1=t∧ev fr p.2=some u
 | [],fr,fr1,h,h1,_,_,hr=>by
   cases hr
   exact⟨rfl,fun _ _=>rfl,fun t u ⟨p,hp,_⟩=>by cases hp⟩
 |p::l,fr,fr1,h,h1,h2,h3,hr=>by
  obtain⟨v,h4,k1,k2⟩:=ae3 (by simp) hr
  simp only[aop]at k1
  split at k1
  ·rename_i u hu
   cases k1
   obtain⟨m1,m2,m3⟩:=cf7 l (fun q hq=>h2 q (iz7 _ hq)) (fun q hq=>h3 q (iz7 _ hq)) k2
   have hp2:=h2 p rn8
   have hev: ∀q∈l,ev (fr.put (some p.1) (some u)) q.2=ev fr q.2:=fun q hq=>by
    have hq3:=h3 q (iz7 _ hq)
    cases hq2:q.2 with
    |tmp t=>
     show fr.put (some p.1) (some u) t=fr t
     exact pc9 (fun e=>by have e2:p.1=t:=pk4 e;exact absurd (hq3 t hq2) (Nat.not_lt.2 (by rw[←e2];exact hp2)))
    |_=>rfl
   refine⟨m1,fun t ht=> ?_,fun t w hex hw=> ?_⟩
   ·rw[m2 t fun q hq=>ht q (iz7 _ hq)]
    exact pc9 (fun e=>ht p rn8 (pk4 e))
   ·by_cases hl: ∃q∈l,q.1=t
    ·obtain⟨q,hq,h5,h6⟩:=m3 t w hl hw
     exact⟨q,iz7 _ hq,h5,by rw[←hev q hq];exact h6⟩
    ·rw[m2 t fun q hq e=>hl ⟨q,hq,e⟩]at hw
     obtain⟨q,hq,h5⟩:=hex
     rcases r04.1 hq with rfl|hq
     ·rw[←h5,qd0]at hw
      exact⟨q,rn8,h5,by rw[hu,hw]⟩
     ·exact absurd ⟨q,hq,h5⟩ hl
  ·cases k1
section
variable {P:Program} {B:Nat→Prop} {T:Tab} {g:List ARes→List It→Fr→H→Res}
theorem tn1{ops:Array Oper}{i:Nat}{rest:List Nat}{o:Oper}{a:Act}{b:Frame}{cs:List Frame}{k:List Item}{w w':World}{v:Value}(ho:ops[i]? =some o)(hgd:o.guard=none)(hnd: ∀c,o.op≠ .defer c)(hrun:(execOp a.eval o).run P w= .ok (.value v) w'):
 step P (lone (b.atR a (.inRegion ops (i::rest)::k)) cs w)= .next (lone (b.atR (a.put o.dst v) (.inRegion ops rest::k)) cs w'):=by
 have hG:=stepGR_op (P:=P) (b:=b) (a:=a) (k:=k) (cs:=cs) (w:=w) (rest:=rest) ho (by simp[Region.wanted,hgd])
 rw[Oper.semAt_eq _ _ _ hnd]at hG
 have hfin:(b.atR a (.inRegion ops (i::rest)::k)).finish v=b.atR (a.put o.dst v) (.inRegion ops rest::k):=by rw[Frame.finish_atR,ho];rfl
 exact step_lone_go (by rw[hG,←hfin];simp[stepG.apply,hrun])
theorem rn7{ops:Array Oper}{i:Nat}{rest:List Nat}{o:Oper}{c:Call}{y l:Nat}{r:Loop}{a:Act}{b:Frame}{cs:List Frame}{k:List Item}{w:World}(ho:ops[i]? =some o)(hgd:o.guard=none)(hc:o.op= .call c)(hcal:c.callee= .value (.tmp y))
 (hy:a.tmps[y]? =some (.func (.yield l) #[] #[])) (hl:w.heap[l]? =some (.loop r)) (hsz:c.args.size=r.params.size):
 step P (lone (b.atR a (.inRegion ops (i::rest)::k)) cs w)= .next (lone (Frame.round l r.fn ((r.params.zip (c.args.map a.eval)).foldl (fun tmps (t,x)=>tmps.setIfInBounds t x) r.tmps) r.assign r.body .normal) (b.atR a (.inRegion ops (i::rest)::k)::cs) w):=by
 have hG:=stepGR_op (P:=P) (b:=b) (a:=a) (k:=k) (cs:=cs) (w:=w) (rest:=rest) ho (by simp[Region.wanted,hgd])
 rw[Oper.semAt_eq _ _ _ (fun d e=>by rw[hc]at e;cases e)]at hG
 have hev:a.eval (.tmp y)= .func (.yield l) #[] #[]:=by
  show a.tmps.getD y undef=_
  rw[he8,hy];rfl
 have hrun:(execOp a.eval o).run P w= .ok (.round l r.fn ((r.params.zip (c.args.map a.eval)).foldl (fun tmps (t,x)=>tmps.setIfInBounds t x) r.tmps) r.assign r.body) w:=by
  have:=run_yield (P:=P) (args:=c.args.map a.eval) hl (by simpa using hsz)
  simp only[execOp,hc,resolve,hcal,hev,Deferred.ofValue,invoke,Sem.run_bind,Sem.run_pure,Result.andThen]
  simpa using this
 exact step_lone_go (by rw[hG];simp[stepG.apply,hrun,Frame.atR])
theorem n48(hT:xp2 P T)(hC: ∀f,zb8 P B T g f)(hg: ∀rs ks fr h v h',g rs ks fr h=some (v,h')→h.length≤h'.length){nt:Nat}{Y:List Nat}{ops:Array Oper}{n0:Nat}{ds:List Deferred}{b:Frame}{cs:List Frame}{k:List Item}{yv:Value}(hYlt: ∀y∈Y,y<nt)(h0Y:0∈Y):
 ∀(l:List (Option AOper)) (i:Nat) {fr fr1:Fr} {h h1:H},PreOK P nt Y ops i l→gf4 T g n0 (l.filterMap fun x=>x) fr h=some (fr1,h1)→
 ∀{φ:Ren} {w:World} {a:Act} (rest:List Nat),a.defers=ds→FR φ h.length nt fr a.tmps→HR φ B h w→(∀y∈Y,fr y=none)→a.tmps[0]? =some yv→
 ∃φ' w' a',Steps P (lone (b.atR a (.inRegion ops (List.range' i l.length++rest)::k)) cs w) (lone (b.atR a' (.inRegion ops rest::k)) cs w')∧a'.defers=ds∧FR φ' h1.length nt fr1 a'.tmps∧HR φ' B h1 w'∧Ext φ h.length φ'∧h.length≤h1.length∧Bel B w w'∧
  (∀y∈Y,fr1 y=none)∧a'.tmps[0]? =some yv∧(∀y∈Y,a.tmps[y]? =some yv→a'.tmps[y]? =some yv)∧ ∀(j:Nat) x y,l[j]? =some none→ops[i+j]? =some x→x.dst=some y→a'.tmps[y]? =some yv
 | [],i,fr,fr1,h,h1,hp,hr,φ,w,a,rest,hd,hF,hH,hY,hy=>by
   cases hr
   exact⟨φ,w,a, .refl _ _,hd,hF,hH,Ext.refl _ _,jj6 _,Bel.refl _ _,hY,hy,fun _ _ h=>h,fun j x y h=>by simp at h⟩
 |some ao::l,i,fr,fr1,h,h1,hp,hr,φ,w,a,rest,hd,hF,hH,hY,hy=>by
  cases hp with
  | @op _ o _ _ ho hc hlk hdY hp=>
  simp only[List.filterMap_cons,gf4]at hr
  split at hr
  ·rename_i fr2 h2 hst
   rw[q90,List.range'_succ,rs6]
   obtain⟨φ2,w2,v2,s1,s2,s3,s4,s5,s6⟩:=ic4 (b:=b) (cs:=cs) (k:=k) (rest:=List.range' (i+1) l.length++rest) hT hC hg ho hc hst hF hH
   have hd2:(a.put o.dst v2).defers=ds:=by cases o.dst<;>exact hd
   have hfr2: ∀y∈Y,fr2 y=fr y:=fun y hyY=>by
    unfold km6 at hst
    split at hst
    ·cases hst
     exact pc9 (fun e=>hdY y (by rw[←hc.dst];exact e) hyY)
    ·cases hst
   have htm: ∀y∈Y,(a.put o.dst v2).tmps[y]? =a.tmps[y]? :=fun y hyY=>by
    cases hod:o.dst with
    |none=>rfl
    |some e=>
     simp only[Act.put]
     exact gb7 (fun e2=>hdY e hod (by rw[e2];exact hyY))
   obtain⟨φ3,w3,a3,t1,t2,t3,t4,t5,t6,t7,t8,t9,t10,t11⟩:=n48 hT hC hg hYlt h0Y l (i+1) hp hr (b:=b) (cs:=cs) (k:=k) rest hd2 s2 s3 (fun y hyY=>by rw[hfr2 y hyY];exact hY y hyY) (by rw[htm 0 h0Y];exact hy)
   refine⟨φ3,w3,a3,s1.trans t1,t2,t3,t4,s4.trans t5 s5,md7 s5 t6,s6.trans t7,t8,t9,fun y hyY h=>t10 y hyY (by rw[htm y hyY];exact h),fun j x y h1 h2 h3=> ?_⟩
   cases j with
   |zero=>simp at h1
   |succ j=>exact t11 j x y (by simpa using h1) (by rw[show i+1+j=i+(j+1) by omega];exact h2) h3
  ·cases hr
 |none::l,i,fr,fr1,h,h1,hp,hr,φ,w,a,rest,hd,hF,hH,hY,hy=>by
  cases hp with
  | @mv _ o d _ ho hop hgd hdst hd0 hdY hp=>
  have hr:gf4 T g n0 (l.filterMap fun x=>x) fr h=some (fr1,h1):=hr
  rw[q90,List.range'_succ,rs6]
  have hev:a.eval (.tmp 0)=yv:=by
   show a.tmps.getD 0 undef=_
   rw[he8,hy];rfl
  have hrun:(execOp a.eval o).run P w= .ok (.value yv) w:=by
   rcases hop with e|e<;>simp[execOp,e,hev]
  have hst:=tn1 (P:=P) (b:=b) (cs:=cs) (k:=k) (rest:=List.range' (i+1) l.length++rest) ho hgd (fun c e=>by rcases hop with q|q<;>rw[q]at e<;>cases e) hrun
  rw[hdst]at hst
  have hsz:d<a.tmps.size:=ui6 (hYlt d hdY) hF.1
  have hF2:FR φ h.length nt fr (a.put (some d) yv).tmps:=by
   refine⟨by simpa [Act.put]using hF.1,fun t u hu=> ?_⟩
   have hne:d≠t:=fun e=>by rw[←e,hY d hdY]at hu;cases hu
   simp only[Act.put]
   rw[gb7 hne]
   exact hF.2 t u hu
  have htm: ∀y:Nat,a.tmps[y]? =some yv→(a.put (some d) yv).tmps[y]? =some yv:=fun y h=>by
   show(a.tmps.setIfInBounds d yv)[y]? =some yv
   by_cases e:d=y
   ·subst e;simp[hsz]
   ·rw[gb7 e];exact h
  obtain⟨φ3,w3,a3,t1,t2,t3,t4,t5,t6,t7,t8,t9,t10,t11⟩:=n48 hT hC hg hYlt h0Y l (i+1) hp hr (b:=b) (cs:=cs) (k:=k) (a:=a.put (some d) yv) rest hd hF2 hH hY (htm 0 hy)
  refine⟨φ3,w3,a3, .head hst t1,t2,t3,t4,t5,t6,t7,t8,t9,fun y hyY h=>t10 y hyY (htm y h),fun j x y h1 h2 h3=> ?_⟩
  cases j with
  |zero=>
   rw[zy9,ho]at h2
   cases h2
   rw[hdst]at h3
   cases h3
   exact t10 d hdY (by show(a.tmps.setIfInBounds d yv)[d]? =some yv;simp[hsz])
  |succ j=>exact t11 j x y (by simpa using h1) (by rw[show i+1+j=i+(j+1) by omega];exact h2) h3
end
end Go.Am
namespace Go.Am
def GX(P:Program)(B0:Nat→Prop)(cs0:List Frame)(f0:FuncId)(v:Value)(h':H)(φ0:Ren)(n0:Nat)(cs:List Frame)(fr:Frame)(φ:Ren)(n:Nat)(w:World):Prop:=
 Ext φ0 n0 φ→n0≤n→Goal P B0 cs0 f0 v h' cs fr φ n w
theorem GX.back{P:Program}{B0:Nat→Prop}{cs0:List Frame}{f0:FuncId}{v:Value}{h':H}{φ0:Ren}{n0:Nat}{cs cs1:List Frame}{fr fr1:Frame}{φ φ1:Ren}{n n1:Nat}{w w1:World}
 (hs:Steps P (lone fr cs w) (lone fr1 cs1 w1)) (hg:GX P B0 cs0 f0 v h' φ0 n0 cs1 fr1 φ1 n1 w1) (he:Ext φ n φ1) (hn:n≤n1) (hb:Bel B0 w w1):GX P B0 cs0 f0 v h' φ0 n0 cs fr φ n w:=
 fun h1 h2=>Goal.back hs (hg (h1.trans he h2) (md7 h2 hn)) he hn hb
theorem gS{T:Tab}{n:Nat}{rs:List ARes}{ks:List It}{fr:Fr}{h:H}{r:Value×H}(hr:goN T n rs ks fr h=some r): ∃m,n=m+1∧gF T (goN T m) rs ks fr h=some r:=by
 cases n with
 |zero=>cases hr
 |succ m=>exact⟨m,rfl,hr⟩
theorem Bel.sub{B0 B:Nat→Prop}{w w':World}(hs: ∀k,B0 k→B k)(h:Bel B w w'):Bel B0 w w':=⟨h.os,h.tape,h.output,h.size,fun k hk=>h.block k (hs k hk)⟩
theorem c76(fr:Fr)(ks:List Nat)(t:Nat):Fr.of (hy3 fr ks) t=none∨Fr.of (hy3 fr ks) t=fr t:=by
 cases h:Fr.of (hy3 fr ks) t with
 |none=>exact .inl rfl
 |some v=>exact .inr (lr7 fr ks t v h).symm
def rcAt(rc:Loop)(jb:Bool):Loop:={rc with state:=if jb then .done else .ready,pending:=if jb then some .ret else none}
def Less(p:Nat→Prop)(fr0 fr:Fr):Prop:= ∀t,p t→fr t=none∨fr t=fr0 t
theorem Less.keep{p:Nat→Prop}{fr0 fr:Fr}(h:Less p fr0 fr)(ks:List Nat):Less p fr0 (Fr.of (hy3 fr ks)):=fun t ht=>by
 rcases c76 fr ks t with e|e
 ·exact .inl e
 ·rw[e];exact h t ht
theorem Less.same{p:Nat→Prop}{fr0 fr fr1:Fr}(h:Less p fr0 fr)(he: ∀t,p t→fr1 t=fr t):Less p fr0 fr1:=fun t ht=>by rw[he t ht];exact h t ht
section
variable {P:Program} {B0 B1:Nat→Prop} {T:Tab}
theorem c78(hT:xp2 P T)(hm:P.follows .mixedOrders=true){N:Nat}(hC: ∀m,m≤N→ ∀f,zb8 P B1 T (goN T m) f){rs:List ARes}{v:Value}{h':H}{R:RgD}{ksR:List It}{b:Frame}{c:Frame}{cs:List Frame}{l:Nat}{rc:Loop}{φ0:Ren}{n0:Nat}{cs0:List Frame}{f0:FuncId}
 (hsub: ∀k,B0 k→B1 k) (hl0: ¬B0 l) (hl1:B1 l) (hro:b.roundOf=some l) (hki:b.kind= .normal) {frE:Fr} {Wx:World→Prop} (hWb: ∀{w w'},Wx w→Bel B1 w w'→Wx w') (hWp: ∀{w} x,Wx w→Wx (w.putObj l (.loop x)))
 (hJ:frE R.J=some (.bool false))
 (hend: ∀m,m≤N→ ∀(jb:Bool) (fr:Fr) (h:H) (φ:Ren) (w:World),goN T m rs ksR (Fr.of (hy3 fr R.K3)) h=some (v,h')→Less (· <R.o3) frE fr→(fr R.J=none∨fr R.J=some (.bool jb))→HR φ B1 h w→Wx w→w.heap[l]? =some (.loop (rcAt rc jb))→GX P B0 cs0 f0 v h' φ0 n0 cs (c.finish (.bool !jb)) φ h.length w):
 ∀n,n≤N+1→ ∀{S:List Nat} {ks:List It} {k:List Item} {fr:Fr} {h:H} {φ:Ren} {w:World} {a:Act},IRo P R.nt1 R.o3 [] (X3 R.J R.M3) (fun ks k=>ks= .blk R.M3 R.K3::ksR∧k=[]) S ks k→goN T n rs ks fr h=some (v,h')→Less (fun t=>t<R.o3∨t=R.J) frE fr→
  FR φ h.length R.nt1 (fr.win R.o3 R.nt1) a.tmps→HR φ B1 h w→(Wx w∧w.heap[l]? =some (.loop {rc with state:= .busy}))→a.defers=[]→GX P B0 cs0 f0 v h' φ0 n0 (c::cs) (b.atR a k) φ h.length w:=by
 intro n
 induction n with
 |zero=>intro _ S ks k fr h φ w a _ hr;cases hr
 |succ n ih=>
  intro hn S ks k fr h φ w a hI hr hX hF hH hw hd
  --the round's end
  have fin: ∀(m:Nat) (jb:Bool) {k:List Item} {fr:Fr} {h:H} {φ:Ren} {w:World} {a:Act},m≤N→goN T m rs ksR (Fr.of (hy3 fr R.K3)) h=some (v,h')→Less (· <R.o3) frE fr→(fr R.J=none∨fr R.J=some (.bool jb))→HR φ B1 h w→(Wx w∧w.heap[l]? =some (.loop {rc with state:= .busy}))→
   step P (lone (b.atR a k) (c::cs) w)= .next (lone (c.finish (.bool !jb)) cs (w.putObj l (.loop (rcAt rc jb))))→GX P B0 cs0 f0 v h' φ0 n0 (c::cs) (b.atR a k) φ h.length w:=by
   intro m jb k fr h φ w a hm' hr hX hJ2 hH hw hst
   have hN:NotC w l:=⟨_,hw.2,rfl⟩
   exact GX.back (.one hst) (hend m hm' jb fr h φ _ hr hX hJ2 (hH.poke _ hN) (hWp _ hw.1) (World.putObj_heap_same hN.lt)) (Ext.refl _ _) (jj6 _) (Bel.poke _ hl0)
  refine pt1 (o:=R.o3) (Y:=[]) (cs:=c::cs) (ds:=[]) (Fx:=fun fr _=>Less (fun t=>t<R.o3∨t=R.J) frE fr) (Wx:=fun w=>Wx w∧w.heap[l]? =some (.loop {rc with state:= .busy})) (G:=GX P B0 cs0 f0 v h' φ0 n0 (c::cs))
   hT hm (hC n (by omega)) (oa1 n) (fun ρ=>ab0 hT.good n) (fun h1 h2 h3 h4 h5=>GX.back h1 h2 h3 h4 (h5.sub hsub)) (fun ks hx=>hx.keep ks) (fun hx h1 _=>hx.same fun t ht=>h1 t (by rcases ht with ht|rfl;exact .inl ht;exact .inr (jj6 _)))
   (fun hw hb=>⟨hWb hw.1 hb,by rw[hb.block l hl1];exact hw.2⟩) ?_ ?_ (fun hI hr hX hF hH hw hd=>ih (by omega) hI hr hX hF hH hw hd) hI hr hX hF hH hw hd
  ·--off its end
   rintro ks k fr h φ w a ⟨rfl,rfl⟩ hr hX hF hH hw hd
   simp only[gF]at hr
   exact fin n false (by omega) hr (fun t ht=>hX t (.inl ht)) (by rcases hX _ (.inr rfl)with e|e;exact .inl e;exact .inr (e.trans hJ)) hH hw (stepR_round_end hro hki (run_endRound (r:={rc with state:= .busy}) none hw.2))
  ·--the function is left
   rintro S c2 c' ks k fr h φ w a hx hk hr hX hF hH hw hd
   cases hx with
   |ret hS=>
    have hr1:goN T n rs (.code (.region [⟨some R.J, .mv (.const (.bool true)),none,false⟩]):: .code (.exit R.M3)::ks) fr h=some (v,h'):=hr
    clear hr
    obtain⟨m,rfl,hr2⟩:=gS hr1
    have hr3:goN T m rs (.code (.exit R.M3)::ks) (fr.put (some R.J) (some (.bool true))) h=some (v,h'):=hr2
    clear hr1 hr2
    obtain⟨m',rfl,hr4⟩:=gS hr3
    obtain⟨ks0,k0,⟨rfl,rfl⟩,hp⟩:=is1 hk hS
    have hp2:gc2 R.M3 ks=some (R.K3,ksR):=by rw[hp];simp[gc2]
    simp only[gF,hp2]at hr4
    refine fin m' true (by omega) hr4 (fun t ht=> ?_) (.inr qd0) hH hw (stepR_round_ret hro hki (run_endRound (r:={rc with state:= .busy}) _ hw.2))
    rw[pc9 (fun e=>by have e2:R.J=t:=pk4 e;have:R.J=R.o3+R.nt1:=rfl;omega)]
    exact hX t (.inl ht)
theorem bl9(hT:xp2 P T)(hm:P.follows .mixedOrders=true){N:Nat}(hC: ∀m,m≤N→ ∀f,zb8 P B1 T (goN T m) f){rs:List ARes}{v:Value}{h':H}{R:RgD}{ksR:List It}{b:Frame}{c:Frame}{cs:List Frame}{l:Nat}{rc:Loop}{φ0:Ren}{n0:Nat}{cs0:List Frame}{f0:FuncId}
 (hsub: ∀k,B0 k→B1 k) (hl0: ¬B0 l) (hl1:B1 l) (hro:b.roundOf=some l) (hki:b.kind= .normal) {frE:Fr} {Wx:World→Prop} (hWb: ∀{w w'},Wx w→Bel B1 w w'→Wx w') (hWp: ∀{w} x,Wx w→Wx (w.putObj l (.loop x)))
 (hJ:frE R.J=some (.bool false)) (hst:rc.state= .ready) {body:Code} (hbod:CRo P R.nt1 R.o3 [] (X3 R.J R.M3) [] body R.cB)
 (hend: ∀m,m≤N→ ∀(jb:Bool) (fr:Fr) (h:H) (φ:Ren) (w:World),goN T m rs ksR (Fr.of (hy3 fr R.K3)) h=some (v,h')→Less (· <R.o3) frE fr→(fr R.J=none∨fr R.J=some (.bool jb))→HR φ B1 h w→Wx w→w.heap[l]? =some (.loop (rcAt rc jb))→GX P B0 cs0 f0 v h' φ0 n0 cs (c.finish (.bool !jb)) φ h.length w):
 ∀n,n≤N+1→ ∀{S:List Nat} {ks:List It} {k:List Item} {fr:Fr} {h:H} {φ:Ren} {w:World} {a:Act},IRo P R.nt1 R.o3 [] (fun _ _ _=>False) (fun ks k=>ks= .code R.cB:: .blk R.M3 R.K3::ksR∧k=[.beginRound, .code body]) S ks k→goN T n rs ks fr h=some (v,h')→Less (fun t=>t<R.o3∨t=R.J) frE fr→
  FR φ h.length R.nt1 (fr.win R.o3 R.nt1) a.tmps→HR φ B1 h w→(Wx w∧w.heap[l]? =some (.loop rc))→a.defers=[]→GX P B0 cs0 f0 v h' φ0 n0 (c::cs) (b.atR a k) φ h.length w:=by
 intro n
 induction n with
 |zero=>intro _ S ks k fr h φ w a _ hr;cases hr
 |succ n ih=>
  intro hn S ks k fr h φ w a hI hr hX hF hH hw hd
  refine pt1 (o:=R.o3) (Y:=[]) (cs:=c::cs) (ds:=[]) (Fx:=fun fr _=>Less (fun t=>t<R.o3∨t=R.J) frE fr) (Wx:=fun w=>Wx w∧w.heap[l]? =some (.loop rc)) (G:=GX P B0 cs0 f0 v h' φ0 n0 (c::cs))
   hT hm (hC n (by omega)) (oa1 n) (fun ρ=>ab0 hT.good n) (fun h1 h2 h3 h4 h5=>GX.back h1 h2 h3 h4 (h5.sub hsub)) (fun ks hx=>hx.keep ks) (fun hx h1 _=>hx.same fun t ht=>h1 t (by rcases ht with ht|rfl;exact .inl ht;exact .inr (jj6 _)))
   (fun hw hb=>⟨hWb hw.1 hb,by rw[hb.block l hl1];exact hw.2⟩) ?_ (fun hx=>hx.elim) (fun hI hr hX hF hH hw hd=>ih (by omega) hI hr hX hF hH hw hd) hI hr hX hF hH hw hd
  rintro ks k fr h φ w a ⟨rfl,rfl⟩ hr hX hF hH hw hd
  have hN:NotC w l:=⟨_,hw.2,rfl⟩
  exact GX.back (.one (stepR_beginRound hro (run_beginRound hw.2 hst))) (c78 hT hm hC hsub hl0 hl1 hro hki hWb hWp hJ hend (n+1) hn (.code hbod (.base ⟨rfl,rfl⟩)) hr hX hF (hH.poke _ hN) ⟨hWp _ hw.1,World.putObj_heap_same hN.lt⟩ hd) (Ext.refl _ _) (jj6 _) (Bel.poke _ hl0)
end
end Go.Am
namespace Go.Am
def sl9(L:List (Nat×Value))(A:Array Value):Array Value:=L.foldl (fun tm (p:Nat×Value)=>tm.setIfInBounds p.1 p.2) A
theorem i66: ∀(L:List (Nat×Value)) (A:Array Value),(sl9 L A).size=A.size
 | [],A=>rfl
 |p::L,A=>by
  show(sl9 L (A.setIfInBounds p.1 p.2)).size=_
  rw[i66 L];simp
theorem aq1: ∀(L:List (Nat×Value)) (A:Array Value) (t:Nat),(∀p∈L,p.1≠t)→(sl9 L A)[t]? =A[t]?
 | [],A,t,_=>rfl
 |p::L,A,t,h=>by
  show(sl9 L (A.setIfInBounds p.1 p.2))[t]? =_
  rw[aq1 L _ t fun q hq=>h q (iz7 _ hq)]
  exact gb7 (h p rn8)
theorem wl7: ∀(L:List (Nat×Value)) (A:Array Value) (t:Nat) (v:Value),(L.map Prod.fst).Nodup→(t,v)∈L→t<A.size→(sl9 L A)[t]? =some v
 | [],A,t,v,_,h,_=>by cases h
 |p::L,A,t,v,hn,h,hs=>by
  show(sl9 L (A.setIfInBounds p.1 p.2))[t]? =_
  rw[nf9,y50]at hn
  rcases r04.1 h with e|h
  ·rw[←e]at hn⊢
   rw[aq1 L _ t fun q hq e2=>hn.1 (by have hm:=List.mem_map_of_mem (f:=Prod.fst) hq;rw[e2]at hm;exact hm)]
   simp[hs]
  ·exact wl7 L _ t v hn.2 h (by simpa using hs)
theorem n89{ps:Array Tmp}{xs:Array Value}{A:Array Value}:(ps.zip xs).foldl (fun tm (p:Tmp×Value)=>tm.setIfInBounds p.1 p.2) A=sl9 (ps.toList.zip xs.toList) A:=by
 rw[←Array.foldl_toList,Array.toList_zip]
 rfl
theorem el8: ∀(l:List Nat) (m:List Value),l.Nodup→((l.zip m).map Prod.fst).Nodup
 | [],m,_=>by simp
 |a::l,[],_=>by simp
 |a::l,b::m,h=>by
  rw[wl8,nf9,y50]
  obtain⟨h1,h2⟩:=y50.1 h
  refine⟨fun hm=>h1 ?_,el8 l m h2⟩
  obtain⟨⟨x,y⟩,h3,h4⟩:=vf1.1 hm
  have h4:x=a:=h4
  rw[←h4]
  exact(bn6 h3).1
theorem PreOK.look{P:Program}{nt:Nat}{Y:List Nat}{ops:Array Oper}: ∀{l:List (Option AOper)} {i:Nat},PreOK P nt Y ops i l→ ∀x∈l.filterMap (fun x=>x),q08 nt x∧ ∀d,x.dst=some d→d∉Y
 | [],_,_,x,hx=>by simp at hx
 |none::l,i,hp,x,hx=>by
  cases hp with
  |mv _ _ _ _ _ _ hp=>exact hp.look x hx
 |some ao::l,i,hp,x,hx=>by
  cases hp with
  |op ho hc hlk hdY hp=>
   rcases r04.1 hx with e|hx
   ·subst e
    exact⟨hlk,fun d hd=>hdY d (by rw[←hc.dst];exact hd)⟩
   ·exact hp.look x hx
def RgD.mvs(R:RgD)(args:List Operand):List (Nat×Operand):=(R.Kb.map fun t=>(t+R.o3, .tmp t))++(R.ps.zip args).map fun p=>(p.1+R.o3,shx R.o2 p.2)
theorem RgD.moves_eq(R:RgD)(args:List Operand):R.moves args=⟨some R.J, .pick (.tmp R.J) (.tmp (R.J+1)) (.const (.bool false)),none,false⟩::(R.mvs args).map fun p=>⟨some p.1, .mv p.2,none,false⟩:=by
 unfold RgD.moves RgD.mvs
 simp only[hm3,uk6,Function.comp_def,rs6]
structure FxI (R:RgD) (fr0:Fr) (l:Nat) (jb:Bool) (fr:Fr) (tm:Array Value):Prop where
 lo:Less (· <R.nt1) fr0 fr
 y: ∀y∈R.Y,fr (y+R.o2)=none
 hi: ∀t,R.o3≤t→t≠R.J→fr t=none
 j:fr R.J=none∨fr R.J=some (.bool jb)
 t0:tm[0]? =some (.func (.yield l) #[] #[])
theorem FxI.keep{R:RgD}{fr0:Fr}{l:Nat}{jb:Bool}{fr:Fr}{tm:Array Value}(h:FxI R fr0 l jb fr tm)(ks:List Nat):FxI R fr0 l jb (Fr.of (hy3 fr ks)) tm:=by
 refine⟨h.lo.keep ks,fun y hy=> ?_,fun t h1 h2=> ?_, ?_,h.t0⟩
 ·rcases c76 fr ks (y+R.o2)with e|e
  ·exact e
  ·rw[e];exact h.y y hy
 ·rcases c76 fr ks t with e|e
  ·exact e
  ·rw[e];exact h.hi t h1 h2
 ·rcases c76 fr ks R.J with e|e
  ·exact .inl e
  ·rw[e];exact h.j
theorem FxI.next{R:RgD}{fr0:Fr}{l:Nat}{jb:Bool}{fr fr1:Fr}{tm tm1:Array Value}(hy0:0∈R.Y)(h:FxI R fr0 l jb fr tm)(h1: ∀t,(t<R.o2∨R.o2+R.nt2≤t)→fr1 t=fr t)(h2: ∀y∈R.Y,fr1 (y+R.o2)=fr (y+R.o2)∧tm1[y]? =tm[y]?):FxI R fr0 l jb fr1 tm1:=by
 refine⟨h.lo.same fun t ht=>h1 t (.inl ht),fun y hy=>by rw[(h2 y hy).1];exact h.y y hy,fun t h3 h4=>by rw[h1 t (.inr h3)];exact h.hi t h3 h4, ?_,by rw[(h2 0 hy0).2];exact h.t0⟩
 rw[h1 R.J (.inr (Nat.le_add_right (R.nt1+R.nt2) R.nt1))]
 exact h.j
section
variable {P:Program} {B0 B1:Nat→Prop} {T:Tab}
theorem ai2(hT:xp2 P T)(hm:P.follows .mixedOrders=true){N:Nat}(hC: ∀m,m≤N→ ∀f,zb8 P B1 T (goN T m) f){rs:List ARes}{v:Value}{h':H}{R:RgD}{K1:List Nat}{ksR:List It}{b:Frame}{c:Frame}{cs:List Frame}{l:Nat}{rc:Loop}{φ0:Ren}{n0:Nat}{cs0:List Frame}{f0:FuncId}
 (hsub: ∀k,B0 k→B1 k) (hl0: ¬B0 l) (hl1:B1 l) (hro:b.roundOf=none) (hki:b.kind= .normal) {fn2:Func} (hf2:P.funcs[b.fn]? =some fn2) (hres:fn2.results= #[]) {Wx:World→Prop} (hWb: ∀{w w'},Wx w→Bel B1 w w'→Wx w') (hWp: ∀{w} x,Wx w→Wx (w.putObj l (.loop x)))
 (hasg:CRo P R.nt1 R.o3 [] (fun _ _ _=>False) [] rc.assign R.cA) (hbod:CRo P R.nt1 R.o3 [] (X3 R.J R.M3) [] rc.body R.cB)
 (hy0:0∈R.Y) (hylt: ∀y∈R.Y,y<R.nt2) (hKb: ∀t∈R.Kb,t<R.nt1∧t∉R.ps) (hps:rc.params.toList=R.ps∧R.ps.Nodup∧ ∀t∈R.ps,t<R.nt1) (hK3: ∀t∈R.K3,t<R.o3∨t=R.J)
 (hst:rc.state= .ready) (hpd:rc.pending=none) {fr0:Fr} (hF0:FR φ0 n0 R.nt1 fr0 rc.tmps)
 (hend: ∀m,m≤N→ ∀(jb:Bool) (fr:Fr) (h:H) (φ:Ren) (w:World),goN T m rs ksR (Fr.of (hy3 fr (R.J::K1))) h=some (v,h')→Less (· <R.nt1) fr0 fr→(fr R.J=none∨fr R.J=some (.bool jb))→HR φ B1 h w→Wx w→w.heap[l]? =some (.loop (rcAt rc jb))→GX P B0 cs0 f0 v h' φ0 n0 cs (c.finish (.tuple #[])) φ h.length w):
 ∀n,n≤N+1→ ∀(jb:Bool) {S:List Nat} {ks:List It} {k:List Item} {fr:Fr} {h:H} {φ:Ren} {w:World} {a:Act},IRo P R.nt2 R.o2 R.Y (X2 P R) (fun ks k=>ks= .blk R.M (R.J::K1)::ksR∧k=[]) S ks k→goN T n rs ks fr h=some (v,h')→FxI R fr0 l jb fr a.tmps→
  FR φ h.length R.nt2 (fr.win R.o2 R.nt2) a.tmps→HR φ B1 h w→(Wx w∧w.heap[l]? =some (.loop (rcAt rc jb)))→a.defers=[]→GX P B0 cs0 f0 v h' φ0 n0 (c::cs) (b.atR a k) φ h.length w:=by
 intro n
 induction n using Nat.strongRecOn with
 |_ n ih=>
 intro hn jb S ks k fr h φ w a hI hr hX hF hH hw hd
 obtain⟨n,rfl,hr⟩:=gS hr
 have hrun2: ∀tm w,(results fn2 tm).run P w= .ok (.tuple #[]) w:=fun tm w=>by simp[results,hres]
 --the iterator's end
 have fin: ∀(m:Nat) {k:List Item} {fr:Fr} {h:H} {φ:Ren} {w:World} {a:Act} {fx:Frame},m≤N→goN T m rs ksR (Fr.of (hy3 fr (R.J::K1))) h=some (v,h')→FxI R fr0 l jb fr a.tmps→HR φ B1 h w→(Wx w∧w.heap[l]? =some (.loop (rcAt rc jb)))→
  step P (lone (b.atR a k) (c::cs) w)= .next (lone fx (c::cs) w)→fx.mode= .returning→fx.defers=[]→fx.kind= .normal→fx.fn=b.fn→GX P B0 cs0 f0 v h' φ0 n0 (c::cs) (b.atR a k) φ h.length w:=by
  intro m k fr h φ w a fx hm' hr hX hH hw hst2 g1 g2 g3 g4
  have hleave:fx.leaving P w (.returned (.tuple #[])):=⟨g1,g2,g3,fn2,by rw[g4];exact hf2,hrun2 _ _⟩
  exact GX.back (.head hst2 (.one (step_leave_returned hleave))) (hend m hm' jb fr h φ w hr hX.lo hX.j hH hw.1 hw.2) (Ext.refl _ _) (jj6 _) (Bel.refl _ _)
 refine pt1 (o:=R.o2) (Y:=R.Y) (cs:=c::cs) (ds:=[]) (Fx:=FxI R fr0 l jb) (Wx:=fun w=>Wx w∧w.heap[l]? =some (.loop (rcAt rc jb))) (G:=GX P B0 cs0 f0 v h' φ0 n0 (c::cs))
  hT hm (hC n (by omega)) (oa1 n) (fun ρ=>ab0 hT.good n) (fun h1 h2 h3 h4 h5=>GX.back h1 h2 h3 h4 (h5.sub hsub)) (fun ks hx=>hx.keep ks) (fun hx h1 h2=>hx.next hy0 h1 h2)
  (fun hw hb=>⟨hWb hw.1 hb,by rw[hb.block l hl1];exact hw.2⟩) ?_ ?_ (fun hI hr hX hF hH hw hd=>ih n (by omega) (by omega) jb hI hr hX hF hH hw hd) hI hr hX hF hH hw hd
 ·rintro ks k fr h φ w a ⟨rfl,rfl⟩ hr hX hF hH hw hd
  exact fin n (by omega) hr hX hH hw (stepR_end hro) rfl hd hki rfl
 ·rintro S c2 c' ks k fr h φ w a hx hk hr hX hF hH hw hd
  cases hx with
  |ret hS=>
   obtain⟨ks0,k0,⟨rfl,rfl⟩,hp⟩:=is1 hk hS
   have hp2:gc2 R.M ks=some (R.J::K1,ksR):=by rw[hp];simp[gc2]
   simp only[gF,hp2]at hr
   exact fin n (by omega) hr hX hH hw (stepR_ret hro) rfl hd hki rfl
  |yield id ops pre post y d o cl hpre ho hop hcal hy hargs hsz hdst hdlt hdY hgd hpost hlen=>
   have hJ3:R.J=R.o3+R.nt1:=rfl
   have ho3:R.o3=R.o2+R.nt2:=rfl
   have ho2:R.o2=R.nt1:=rfl
   --the small machine
   have hr1:goN T n rs (.code (.region ((pre.filterMap fun x=>x).map (AOper.sh R.o2)++R.moves cl.args.toList)):: .code (.seq (.block R.M3 R.K3 (.seq R.cA R.cB)) (.region (⟨some (d+R.o2), .un .not (.tmp R.J),none,false⟩::post.map (AOper.sh R.o2))))::ks) fr h=some (v,h'):=hr
   clear hr
   obtain⟨m1,rfl,hr2⟩:=gS hr1
   clear hr1
   simp only[gF]at hr2
   split at hr2
   case h_2=>cases hr2
   rename_i fr1 h1 hops
   obtain⟨m2,rfl,hr3⟩:=gS hr2
   have hr4:goN T m2 rs (.code (.block R.M3 R.K3 (.seq R.cA R.cB)):: .code (.region (⟨some (d+R.o2), .un .not (.tmp R.J),none,false⟩::post.map (AOper.sh R.o2)))::ks) fr1 h1=some (v,h'):=hr3
   clear hr2 hr3
   obtain⟨m3,rfl,hr5⟩:=gS hr4
   have hr6:goN T m3 rs (.code (.seq R.cA R.cB):: .blk R.M3 R.K3:: .code (.region (⟨some (d+R.o2), .un .not (.tmp R.J),none,false⟩::post.map (AOper.sh R.o2)))::ks) fr1 h1=some (v,h'):=hr5
   clear hr4 hr5
   obtain⟨m4,rfl,hr7⟩:=gS hr6
   have hr8:goN T m4 rs (.code R.cA:: .code R.cB:: .blk R.M3 R.K3:: .code (.region (⟨some (d+R.o2), .un .not (.tmp R.J),none,false⟩::post.map (AOper.sh R.o2)))::ks) fr1 h1=some (v,h'):=hr7
   clear hr6 hr7
   obtain⟨fr2,h2,hpr,hmv⟩:=eu7 hops
   have hlook:=hpre.look
   obtain⟨hprw,hpro⟩:=zd6 (fun x hx=>(hlook x hx).1) hpr
   have hout2: ∀t,(t<R.o2∨R.o2+R.nt2≤t)→fr2 t=fr t:=fun t ht=>hpro t fun x hx e=>by
    cases hd2:x.dst with
    |none=>rw[hd2]at e;cases e
    |some d2=>
     rw[hd2]at e
     have h5:=(hlook x hx).1.2 d2 hd2
     have e:d2+R.o2=t:=pk4 e
     omega
   rw[RgD.moves_eq]at hmv
   obtain⟨jv,h3,hjv,hmv2⟩:=ae3 (by simp) hmv
   clear hmv
   have hjf:fr2 R.J=some (.bool false)∧jv=some (.bool false)∧h3=h2:=by
    have e1:fr2 R.J=fr R.J:=hout2 _ (.inr (by omega))
    have e2:fr2 (R.J+1)=none:=(hout2 _ (.inr (by omega))).trans (hX.hi _ (by omega) (by omega))
    simp only[aop,ev]at hjv
    cases hj2:fr2 R.J with
    |none=>rw[hj2]at hjv;cases hjv
    |some jw=>
     rw[hj2]at hjv
     rcases hX.j with e3|e3
     ·rw[e1,e3]at hj2;cases hj2
     ·rw[e1,e3]at hj2
      cases hj2
      cases jb with
      |true=>simp[ev,e2]at hjv
      |false=>
       simp[ev,show closed (.bool false)=true from rfl]at hjv
       exact⟨rfl,hjv.1.symm,hjv.2.symm⟩
   obtain⟨hj2,rfl,rfl⟩:=hjf
   have hjb:jb=false:=by
    have e1:fr2 R.J=fr R.J:=hout2 _ (.inr (by omega))
    rcases hX.j with e3|e3
    ·rw[e1,e3]at hj2;cases hj2
    ·rw[e1,e3]at hj2;cases hj2;rfl
   subst hjb
   have hrc:rcAt rc false=rc:=by cases rc;simp[rcAt]at hst hpd⊢;exact⟨hst.symm,hpd.symm⟩
   rw[hrc]at hw
   obtain⟨rfl,hmo,hmi⟩:=cf7 (o3:=R.o3) (R.mvs cl.args.toList) (fun p hp=>by
    rcases bk2.1 hp with hp|hp<;>(obtain⟨q,_,rfl⟩:=vf1.1 hp;exact Nat.le_add_left _ _))
    (fun p hp t ht=>by
      rcases bk2.1 hp with hp|hp
      ·obtain⟨q,hq,rfl⟩:=vf1.1 hp
       have ht:q=t:=by injection ht
       have:=(hKb q hq).1
       subst ht
       exact ui6 this (by omega)
      ·obtain⟨⟨q,x⟩,hq,rfl⟩:=vf1.1 hp
       have hx:=hargs x (bn6 hq).2
       cases x with
       |tmp u=>
        have ht:u+R.o2=t:=by injection ht
        have hx:u<R.nt2:=hx
        rw[←ht]
        exact ui6 (Nat.add_lt_add_right hx R.o2) (by omega)
       |_=>cases ht) hmv2
   have hk1: ∀t,t<R.o3∨t=R.J→ ∀p∈R.mvs cl.args.toList,p.1≠t:=fun t ht p hp e=>by
    rcases bk2.1 hp with hp|hp
    ·obtain⟨q,hq,rfl⟩:=vf1.1 hp
     have:=(hKb q hq).1
     have e:q+R.o3=t:=e
     omega
    ·obtain⟨⟨q,x⟩,hq,rfl⟩:=vf1.1 hp
     have:=hps.2.2 q (bn6 hq).1
     have e:q+R.o3=t:=e
     omega
   have hE1: ∀t,t<R.o3→fr1 t=fr2 t:=fun t ht=>by
    rw[hmo t (hk1 t (.inl ht))]
    exact pc9 (fun e=>by have e2:R.J=t:=pk4 e;omega)
   have hEJ:fr1 R.J=some (.bool false):=by rw[hmo _ (hk1 _ (.inr rfl)),qd0]
   have hwin:(fr2.put (some R.J) (some (.bool false))).win R.o2 R.nt2=fr2.win R.o2 R.nt2:=by
    funext t
    by_cases ht:t<R.nt2
    ·rw[uf3 ht,uf3 ht]
     exact pc9 (fun e=>by have e2:R.J=t+R.o2:=pk4 e;omega)
    ·rw[sz2 ht,sz2 ht]
   --the model
   have hYw: ∀y∈R.Y,fr.win R.o2 R.nt2 y=none:=fun y hy=>by rw[uf3 (hylt y hy)];exact hX.y y hy
   intro hE0 hn0
   obtain⟨φ2,w2,a2,s1,s2,s3,s4,s5,s6,s7,s8,s9,s10,s11⟩:=n48 (P:=P) (B:=B1) hT (hC _ (by omega)) (oa1 _) (b:=b) (cs:=c::cs) (k:=k) (ds:=[]) (yv:= .func (.yield l) #[] #[]) hylt hy0 pre 0 hpre hprw (pre.length::List.range' (pre.length+1) post.length) hd hF hH hYw hX.t0
   have hyv:a2.tmps[y]? =some (.func (.yield l) #[] #[]):=by
    rcases hy with rfl|⟨i,x,_,h5,h6,h7⟩
    ·exact s9
    ·exact s11 i x y h5 (by rw[e03];exact h6) h7
   have hrange:List.range ops.size=List.range' 0 pre.length++(pre.length::List.range' (pre.length+1) post.length):=by
    rw[List.range_eq_range',←hlen,show pre.length+1+post.length=pre.length+(post.length+1) by omega,←List.range'_append_1,List.range'_succ,e03]
   have hW2:Wx w2:=hWb hw.1 s7
   have hl2:w2.heap[l]? =some (.loop rc):=by rw[s7.block l hl1];exact hw.2
   have hE2:Ext φ0 n0 φ2:=hE0.trans s5 hn0
   have hn2:n0≤h1.length:=md7 hn0 s6
   have hF3:FR φ2 h1.length R.nt1 (fr1.win R.o3 R.nt1) (sl9 (rc.params.toList.zip (cl.args.map a2.eval).toList) rc.tmps):=by
    refine⟨by rw[i66];exact hF0.1,fun t u hu=> ?_⟩
    have ht:t<R.nt1:=ly6 fun hn=>by rw[sz2 hn]at hu;cases hu
    rw[uf3 ht]at hu
    by_cases hex: ∃p∈R.mvs cl.args.toList,p.1=t+R.o3
    ·obtain⟨p,hp,hp1,hp2⟩:=hmi (t+R.o3) u hex hu
     rcases bk2.1 hp with hp|hp
     ·obtain⟨q,hq,rfl⟩:=vf1.1 hp
      have e:q=t:=Nat.add_right_cancel hp1
      subst e
      have hv:fr2 q=some u:=by
       have h5:(fr2.put (some R.J) (some (.bool false))) q=some u:=hp2
       rw[pc9 (fun e=>by have e2:R.J=q:=pk4 e;omega)]at h5
       exact h5
      rw[hout2 q (.inl (by omega))]at hv
      rcases hX.lo q ht with e|e
      ·rw[hv]at e;cases e
      ·obtain⟨u',k1,k2⟩:=hF0.2 q u (by rw[←e];exact hv)
       refine⟨u', ?_,k2.mono hE2 hn2⟩
       rw[aq1]
       ·exact k1
       ·rintro⟨x,y⟩ hp e
        have e:x=q:=e
        have hm2:=(bn6 hp).1
        rw[hps.1,e]at hm2
        exact(hKb q hq).2 hm2
     ·obtain⟨⟨q,x⟩,hq,rfl⟩:=vf1.1 hp
      have e:q=t:=Nat.add_right_cancel hp1
      subst e
      have h5:ev (fr2.put (some R.J) (some (.bool false))) (shx R.o2 x)=some u:=hp2
      rw[jr1 (hargs x (bn6 hq).2),hwin]at h5
      refine⟨_,wl7 _ _ _ _ (by rw[hps.1];exact el8 _ _ hps.2.1) ?_ (ui6 ht hF0.1),az8 s3 h5⟩
      rw[hps.1,Array.toList_map,List.zip_map_right]
      exact vf1.2 ⟨(q,x),hq,rfl⟩
    ·exfalso
     rw[hmo _ (fun p hp e=>hex ⟨p,hp,e⟩),pc9 (fun e=>by have e2:R.J=t+R.o3:=pk4 e;omega),hout2 _ (.inr (by omega)),hX.hi _ (by omega) (by omega)]at hu
     cases hu
   have hgo:=rn7 (P:=P) (b:=b) (cs:=c::cs) (k:=k) (rest:=List.range' (pre.length+1) post.length) ho hgd hop hcal hyv hl2 (by rw[hsz,←hps.1];simp)
   rw[n89,show Frame.round l rc.fn (sl9 (rc.params.toList.zip (cl.args.map a2.eval).toList) rc.tmps) rc.assign rc.body .normal=({(default:Frame)with fn:=rc.fn,kind:= .normal,roundOf:=some l}:Frame).atR {tmps:=sl9 (rc.params.toList.zip (cl.args.map a2.eval).toList) rc.tmps,defers:=[]} [.code rc.assign, .beginRound, .code rc.body] by simp[Frame.round,Frame.atR]]at hgo
   have hG:=bl9 hT hm (N:=m4) (fun m hm'=>hC m (by omega)) (rs:=rs) (v:=v) (h':=h') (R:=R) (cs0:=cs0) (f0:=f0) hsub hl0 hl1 (b:={(default:Frame)with fn:=rc.fn,kind:= .normal,roundOf:=some l}) rfl rfl (c:=b.atR a2 (.inRegion ops (pre.length::List.range' (pre.length+1) post.length)::k)) (cs:=c::cs) (frE:=fr1) (φ0:=φ2) (n0:=h1.length) hWb hWp hEJ hst hbod ?_ m4 (by omega) (a:={tmps:=sl9 (rc.params.toList.zip (cl.args.map a2.eval).toList) rc.tmps,defers:=[]}) (.code hasg (.base ⟨rfl,rfl⟩)) hr8 (fun t _=> .inr rfl) hF3 s4 ⟨hW2,hl2⟩ rfl (Ext.refl _ _) (jj6 _)
   ·refine Goal.back (.head stepR_region (Steps.trans ?_ (.one hgo))) hG s5 s6 (s7.sub hsub)
    rw[hrange]
    exact s1
   ·--the round has ended
    intro m hm' jb' fr' h'' φ' w' hr' hLess hJ' hH' hW' hl' hE' hn'
    obtain⟨m',rfl,hq1⟩:=gS hr'
    clear hr'
    simp only[gF]at hq1
    split at hq1
    case h_2=>cases hq1
    rename_i frP hP hopsP
    obtain⟨nv,hh,hnv,hpo⟩:=ae3 (by simp) hopsP
    clear hopsP
    have hJK:Fr.of (hy3 fr' R.K3) R.J=some (.bool jb'):=by
     rcases c76 fr' R.K3 R.J with e|e
     ·simp[aop,ev,e]at hnv
     ·rcases hJ' with e2|e2
      ·simp[aop,ev,e,e2]at hnv
      ·rw[e,e2]
    have hnv2:nv=some (.bool !jb')∧hh=h'':=by
     simp[aop,ev,hJK,aun]at hnv
     exact⟨hnv.1.symm,hnv.2.symm⟩
    obtain⟨rfl,rfl⟩:=hnv2
    have hKsub: ∀t u,t<R.o3→Fr.of (hy3 fr' R.K3) t=some u→fr2 t=some u:=fun t u ht hu=>by
     have h5:=lr7 _ _ _ _ hu
     rcases hLess t ht with e|e
     ·rw[e]at h5;cases h5
     ·rw[←hE1 t ht,←e];exact h5
    have hKno: ∀t,t<R.o3→Fr.of (hy3 fr' R.K3) t=none∨Fr.of (hy3 fr' R.K3) t=fr2 t:=fun t ht=>by
     cases hu:Fr.of (hy3 fr' R.K3) t with
     |none=>exact .inl rfl
     |some u=>exact .inr (hKsub t u ht hu).symm
    rw[Frame.finish_atR,ho,show((some o).bind fun x=>x.dst)=o.dst from rfl,hdst]
    have hF5:FR φ' hh.length R.nt2 ((Fr.of (hy3 fr' R.K3)).win R.o2 R.nt2) a2.tmps:=(s3.mono hE' hn').sub fun t u hu=>by
     have ht:t<R.nt2:=ly6 fun hn=>by rw[sz2 hn]at hu;cases hu
     rw[uf3 ht]at hu⊢
     exact hKsub _ u (by omega) hu
    have hF6:FR φ' hh.length R.nt2 (((Fr.of (hy3 fr' R.K3)).put (some (d+R.o2)) (some (.bool !jb'))).win R.o2 R.nt2) (a2.put (some d) (.bool !jb')).tmps:=by
     rw[show(some (d+R.o2))=(some d).map (· +R.o2)from rfl,p15 (some d) (fun t e=>by cases e;exact hdlt)]
     exact hF5.put (some d) (fun t e=>by cases e;exact hdlt) _ _ fun u hu=>by cases hu;exact .bool _
    have hlook2: ∀x∈post,q08 R.nt2 x∧ ∀d,x.dst=some d→d∉R.Y:=fun x hx=>hpost.look x (by simpa using hx)
    obtain⟨hpow,hpoo⟩:=zd6 (fun x hx=>(hlook2 x hx).1) hpo
    have hout3: ∀t,(t<R.o2∨R.o2+R.nt2≤t)→frP t=Fr.of (hy3 fr' R.K3) t:=fun t ht=>by
     rw[hpoo t fun x hx e=>by
      cases hd2:x.dst with
      |none=>rw[hd2]at e;cases e
      |some d2=>
       rw[hd2]at e
       have h5:=(hlook2 x hx).1.2 d2 hd2
       have e:d2+R.o2=t:=pk4 e
       omega]
     exact pc9 (fun e=>by have e2:d+R.o2=t:=pk4 e;omega)
    have hYd: ∀y∈R.Y,((Fr.of (hy3 fr' R.K3)).put (some (d+R.o2)) (some (.bool !jb'))).win R.o2 R.nt2 y=none:=fun y hy=>by
     have hylt':=hylt y hy
     rw[uf3 hylt',pc9 (fun e=>by
      have e2:d+R.o2=y+R.o2:=pk4 e
      have e3:d=y:=Nat.add_right_cancel e2
      exact hdY (by rw[e3];exact hy))]
     rcases hKno (y+R.o2) (by omega)with e|e
     ·exact e
     ·rw[e]
      have:=s8 y hy
      rw[uf3 hylt']at this
      exact this
    have ht0:(a2.put (some d) (.bool !jb')).tmps[0]? =some (.func (.yield l) #[] #[]):=by
     show(a2.tmps.setIfInBounds d _)[0]? =_
     rw[gb7 (fun e=>hdY (by rw[e];exact hy0))]
     exact s9
    have hpow2:gf4 T (goN T m') hh.length ((post.map some).filterMap fun x=>x) (((Fr.of (hy3 fr' R.K3)).put (some (d+R.o2)) (some (.bool !jb'))).win R.o2 R.nt2) hh=some (frP.win R.o2 R.nt2,hP):=by
     rw[show((post.map some).filterMap fun x=>x)=post by rw[List.filterMap_map];exact List.filterMap_some];exact hpow
    obtain⟨φ3,w3,a3,t1,t2,t3,t4,t5,t6,t7,t8,t9,t10,t11⟩:=n48 (P:=P) (B:=B1) hT (hC m' (by omega)) (oa1 m') (b:=b) (cs:=c::cs) (k:=k) (ds:=[]) (yv:= .func (.yield l) #[] #[]) hylt hy0 (post.map some) (pre.length+1) hpost hpow2 [] (show(a2.put (some d) (.bool !jb')).defers=[]from s2) hF6 hH' hYd ht0
    rw[nw0,q11]at t1
    have hX3:FxI R fr0 l jb' frP a3.tmps:=by
     refine⟨fun t ht=> ?_,fun y hy=> ?_,fun t h1 h2=> ?_, ?_,t9⟩
     ·rw[hout3 t (.inl (by have ht:t<R.nt1:=ht;omega))]
      have ht:t<R.nt1:=ht
      rcases hKno t (by omega)with e|e
      ·exact .inl e
      ·rw[e,hout2 t (.inl (by omega))]
       exact hX.lo t ht
     ·have h5:=t8 y hy
      rw[uf3 (hylt y hy)]at h5
      exact h5
     ·rw[hout3 t (.inr (by omega))]
      cases hu:Fr.of (hy3 fr' R.K3) t with
      |none=>rfl
      |some u=>
       obtain⟨h5,_⟩:=lh0 hu
       rcases hK3 t h5 with e|e
       ·omega
       ·exact absurd e h2
     ·rw[hout3 R.J (.inr (by omega)),hJK]
      exact .inr rfl
    have hW3:Wx w3:=hWb hW' t7
    have hl3:w3.heap[l]? =some (.loop (rcAt rc jb')):=by rw[t7.block l hl1];exact hl'
    have hfin:=ih m' (by omega) (by omega) jb' hk hq1 hX3 t3 t4 ⟨hW3,hl3⟩ t2 (((hE2.trans hE' hn2)).trans t5 (md7 hn2 hn')) (md7 (md7 hn2 hn') t6)
    exact Goal.back (t1.trans (.one stepR_region_end)) hfin t5 t6 (t7.sub hsub)
end
end Go.Am
namespace Go.Am
open Go.RowKit (Below)
theorem gx2{l:List Nat}{q i:Nat}(e:q=i)(h:q∈l):i∈l:=by rw[←e];exact h
theorem ig7{T:Tab}{g:List ARes→List It→Fr→H→Res}{n0 nt1 kf nc f:Nat}(hf:f<nt1): ∀(l:List Nat) {fr fr1:Fr} {h h1:H},l.Nodup→
 gf4 T g n0 (l.map fun i=>⟨some (nt1+1+i), .capt kf nc i (.tmp f),none,false⟩) fr h=some (fr1,h1)→
 h1=h∧(∀t,(∀i∈l,nt1+1+i≠t)→fr1 t=fr t)∧ ∀i∈l,∃first cs v,fr f=some (.func (.func kf) first cs)∧cs.size=nc∧cs[i]? =some v∧fr1 (nt1+1+i)=some v
 | [],fr,fr1,h,h1,_,hr=>by
   cases hr
   exact⟨rfl,fun _ _=>rfl,fun i hi=>by cases hi⟩
 |j::l,fr,fr1,h,h1,hn,hr=>by
  obtain⟨hn1,hn2⟩:=y50.1 hn
  obtain⟨v,h2,k1,k2⟩:=ae3 (by simp) hr
  simp only[aop,ev]at k1
  split at k1
  case h_2=>cases k1
  rename_i g' first cs hcs
  split at k1
  case isFalse=>cases k1
  rename_i hg
  obtain⟨rfl,hsz⟩:=hg
  split at k1
  case h_2=>cases k1
  rename_i u hu
  cases k1
  obtain⟨m1,m2,m3⟩:=ig7 hf l hn2 k2
  have hput: ∀t,t≠nt1+1+j→(fr.put (some (nt1+1+j)) (some u)) t=fr t:=fun t ht=>pc9 (fun e=>ht (pk4 e).symm)
  refine⟨m1,fun t ht=> ?_,fun i hi=> ?_⟩
  ·rw[m2 t fun i hi=>ht i (iz7 _ hi)]
   exact hput t fun e=>ht j rn8 e.symm
  ·rcases r04.1 hi with rfl|hi
   ·refine⟨first,cs,u,hcs,hsz,hu, ?_⟩
    rw[m2 _ fun q hq e=>hn1 (gx2 (Nat.add_left_cancel e) hq),qd0]
   ·obtain⟨a,b,c,d1,d2,d3,d4⟩:=m3 i hi
    rw[hput f (by omega)]at d1
    exact⟨a,b,c,d1,d2,d3,d4⟩
section
variable {P:Program} {T:Tab}
theorem Mks.poke{B0 B:Nat→Prop}{w:World}{rs:List Nat}(m:Mks B0 B w rs){l:Nat}(o:Obj)(hl:l∉rs):Mks B0 B (w.putObj l o) rs:=
 ⟨m.nd,fun r hr=>by obtain⟨a,b,c⟩:=m.at' r hr;exact⟨a,b,by rw[World.putObj_heap_other (fun e=>hl (by rw[←e];exact hr))];exact c⟩⟩
def Sim(P:Program)(T:Tab)(n:Nat):Prop:=
 ∀{rs:List ARes} {ks:List It} {fr:Fr} {h:H} {v:Value} {h':H},goN T n rs ks fr h=some (v,h')→
  ∀{B0 B:Nat→Prop} {mr:List Nat} {φ:Ren} {w:World} {a:Act} {b:Frame} {cs:List Frame} {S:List Nat} {k:List Item} {nt:Nat} {fn:Func},P.funcs[b.fn]? =some fn→RR P fn.results.toList rs→b.kind= .normal→b.roundOf=none→
   IRo P nt 0 [] (X1 P nt) (fun ks k=>ks=[]∧k=[]) S ks k→(∀t,nt≤t→fr t=none)→FR φ h.length nt fr a.tmps→HR φ B h w→Up B0 B w→Mks B0 B w mr→a.defers=mr.map mkD→Goal P B0 cs b.fn v h' cs (b.atR a k) φ h.length w
theorem win0{fr:Fr}{nt:Nat}(h: ∀t,nt≤t→fr t=none):fr.win 0 nt=fr:=by
 funext t
 by_cases ht:t<nt
 ·exact uf3 ht
 ·rw[sz2 ht,h t (Nat.le_of_not_lt ht)]
theorem sm8{fr:Fr}{nt:Nat}(h: ∀t,nt≤t→fr t=none)(ks:List Nat): ∀t,nt≤t→Fr.of (hy3 fr ks) t=none:=fun t ht=>by
 rcases c76 fr ks t with e|e
 ·exact e
 ·rw[e];exact h t ht
theorem xv4{nt o:Nat}{Y:List Nat}{X:List Nat→Code→ACode→Prop}{Z:List It→List Item→Prop}{l id:Nat}: ∀{S:List Nat} {ks:List It} {k:List Item},IRo P nt o Y X Z S ks k→id∉S→ ∃ks0 k0,Z ks0 k0∧gc2 id ks=gc2 id ks0∧gotoIn l k=gotoIn l k0
 |_,_,_, .base hz,h=>⟨_,_,hz,rfl,rfl⟩
 |_,_,_, .code _ hk,h=>by obtain⟨a,b,h1,h2,h3⟩:=xv4 hk h;exact⟨a,b,h1,by simp only[gc2];exact h2,by simp only[gotoIn];exact h3⟩
 |_,_,_, .lp _ hk,h=>by obtain⟨a,b,h1,h2,h3⟩:=xv4 hk h;exact⟨a,b,h1,by simp only[gc2];exact h2,by simp only[gotoIn];exact h3⟩
 |_,_,_, .blk (id:=id') hk,h=>by
  obtain⟨a,b,h1,h2,h3⟩:=xv4 hk (fun e=>h (iz7 _ e))
  exact⟨a,b,h1,by simp only[gc2];rw[if_neg (fun e=>h (by rw[e];exact rn8))];exact h2,by simp only[gotoIn];exact h3⟩
theorem og2{b:Frame}{a:Act}{k:List Item}{cs:List Frame}{w:World}{c:Code}:step P (lone (b.atR a (.inScope c::k)) cs w)= .next (lone (b.atR a k) cs w):=
 step_lone_go (by simp[stepG,stepG.exec,Frame.atR])
theorem zt6{b:Frame}{a:Act}{k:List Item}{cs:List Frame}{w:World}{c:Code}:step P (lone (b.atR a (.code (.scope c)::k)) cs w)= .next (lone (b.atR a (.code c:: .inScope c::k)) cs w):=
 step_lone_go (by simp[stepG,stepG.exec,Frame.atR])
theorem x80(hT:xp2 P T)(hm:P.follows .mixedOrders=true){B0 B:Nat→Prop}{N:Nat}(hC: ∀m,m≤N→ ∀f,zb8 P B T (goN T m) f){rs:List ARes}{v:Value}{h':H}{b:Frame}{cs:List Frame}{ds:List Deferred}{nt:Nat}{f0:FuncId}
 (hsub: ∀k,B0 k→B k) {Wx:World→Prop} (hWb: ∀{w w':World},Wx w→Bel B w w'→Wx w') {l L K:Nat} {kL ko kh:List Nat} {bd x y:Code} {y':ACode} (hbd:findLabel bd l=some (.seq .skip y)) (hLK:L≠K) (hy:CRo P nt 0 [] (XG l L) [] y y') {ks0:List It} {k0:List Item}
 (hend: ∀m,m≤N→ ∀{fr:Fr} {h:H} {φ:Ren} {w:World} {a:Act},goN T m rs ks0 fr h=some (v,h')→(∀t,nt≤t→fr t=none)→FR φ h.length nt fr a.tmps→HR φ B h w→Wx w→a.defers=ds→Goal P B0 cs f0 v h' cs (b.atR a k0) φ h.length w):
 ∀n,n≤N+1→ ∀{S:List Nat} {ks:List It} {k:List Item} {fr:Fr} {h:H} {φ:Ren} {w:World} {a:Act},IRo P nt 0 [] (XG l L) (fun ks k=>ks= .code (.exit K):: .blk L kL:: .lp kh (.block L kL (.seq y' (.exit K))):: .blk K ko::ks0∧k= .inScope bd::k0) S ks k→goN T n rs ks fr h=some (v,h')→(∀t,nt≤t→fr t=none)→
  FR φ h.length nt fr a.tmps→HR φ B h w→Wx w→a.defers=ds→Goal P B0 cs f0 v h' cs (b.atR a k) φ h.length w:=by
 intro n
 induction n using Nat.strongRecOn with
 |_ n ih=>
 intro hn S ks k fr h φ w a hI hr hX hF hH hw hd
 obtain⟨n,rfl,hr⟩:=gS hr
 refine pt1 (o:=0) (Y:=[]) (cs:=cs) (ds:=ds) (Fx:=fun fr _=> ∀t,nt≤t→fr t=none) (Wx:=Wx) (G:=Goal P B0 cs f0 v h' cs)
  hT hm (hC n (by omega)) (oa1 n) (fun ρ=>ab0 hT.good n) (fun h1 h2 h3 h4 h5=>Goal.back h1 h2 h3 h4 (h5.sub hsub)) (fun ks hx=>sm8 hx ks) (fun hx h1 _ t ht=>by rw[h1 t (.inr (by omega))];exact hx t ht)
  hWb ?_ ?_ (fun hI hr hX hF hH hw hd=>ih n (by omega) (by omega) hI hr hX (by rw[win0 hX]at hF;exact hF) hH hw hd) hI hr hX (by rw[win0 hX];exact hF) hH hw hd
 ·--its end
  rintro ks k fr h φ w a ⟨rfl,rfl⟩ hr hX hF hH hw hd
  rw[win0 hX]at hF
  have hp:gc2 K (.blk L kL:: .lp kh (.block L kL (.seq y' (.exit K))):: .blk K ko::ks0)=some (ko,ks0):=by simp[gc2,hLK]
  simp only[gF,hp]at hr
  exact Goal.back (.one og2) (hend n (by omega) hr (sm8 hX ko) (hF.sub fun t u hu=>lr7 _ _ _ _ hu) hH hw hd) (Ext.refl _ _) (jj6 _) (Bel.refl _ _)
 ·--a jump
  rintro S c2 c' ks k fr h φ w a hx hk hr hX hF hH hw hd
  rw[win0 hX]at hF
  cases hx with
  |goto hS=>
   obtain⟨ks1,k1,⟨rfl,rfl⟩,hp,hg⟩:=xv4 (l:=l) hk hS
   have hp2:gc2 L ks=some (kL, .lp kh (.block L kL (.seq y' (.exit K))):: .blk K ko::ks0):=by rw[hp];simp[gc2]
   have hg2:gotoIn l k=some (.code (.seq .skip y):: .inScope bd::k0):=by rw[hg];simp only[gotoIn,hbd]
   simp only[gF,hp2]at hr
   have q0:goN T n rs (.lp kh (.block L kL (.seq y' (.exit K))):: .blk K ko::ks0) (Fr.of (hy3 fr kL)) h=some (v,h'):=hr
   clear hr
   obtain⟨m1,rfl,p1⟩:=gS q0
   have q1:goN T m1 rs (.code (.block L kL (.seq y' (.exit K))):: .lp kh (.block L kL (.seq y' (.exit K))):: .blk K ko::ks0) (Fr.of (hy3 (Fr.of (hy3 fr kL)) kh)) h=some (v,h'):=p1
   clear q0 p1
   obtain⟨m2,rfl,p2⟩:=gS q1
   have q2:goN T m2 rs (.code (.seq y' (.exit K)):: .blk L kL:: .lp kh (.block L kL (.seq y' (.exit K))):: .blk K ko::ks0) (Fr.of (hy3 (Fr.of (hy3 fr kL)) kh)) h=some (v,h'):=p2
   clear q1 p2
   obtain⟨m3,rfl,p3⟩:=gS q2
   have q3:goN T m3 rs (.code y':: .code (.exit K):: .blk L kL:: .lp kh (.block L kL (.seq y' (.exit K))):: .blk K ko::ks0) (Fr.of (hy3 (Fr.of (hy3 fr kL)) kh)) h=some (v,h'):=p3
   clear q2 p3
   have hfin:=ih m3 (by omega) (by omega) (.code hy (.base ⟨rfl,rfl⟩)) q3 (sm8 (sm8 hX kL) kh) ((hF.sub fun t u hu=>lr7 _ _ _ _ hu).sub fun t u hu=>lr7 _ _ _ _ hu) hH hw hd
   exact Goal.back (.head (stepR_goto hg2) (.head stepR_seq (.one stepR_skip))) hfin (Ext.refl _ _) (jj6 _) (Bel.refl _ _)
theorem lt6(hT:xp2 P T)(hm:P.follows .mixedOrders=true){B0 B:Nat→Prop}{N:Nat}(hC: ∀m,m≤N→ ∀f,zb8 P B T (goN T m) f){rs:List ARes}{v:Value}{h':H}{b:Frame}{cs:List Frame}{ds:List Deferred}{nt:Nat}{f0:FuncId}
 (hsub: ∀k,B0 k→B k) {Wx:World→Prop} (hWb: ∀{w w':World},Wx w→Bel B w w'→Wx w') {l L K:Nat} {kL ko kh:List Nat} {bd x y:Code} {y':ACode} (hbd:findLabel bd l=some (.seq .skip y)) (hLK:L≠K) (hy:CRo P nt 0 [] (XG l L) [] y y') {ks0:List It} {k0:List Item}
 (hend: ∀m,m≤N→ ∀{fr:Fr} {h:H} {φ:Ren} {w:World} {a:Act},goN T m rs ks0 fr h=some (v,h')→(∀t,nt≤t→fr t=none)→FR φ h.length nt fr a.tmps→HR φ B h w→Wx w→a.defers=ds→Goal P B0 cs f0 v h' cs (b.atR a k0) φ h.length w):
 ∀n,n≤N+1→ ∀{S:List Nat} {ks:List It} {k:List Item} {fr:Fr} {h:H} {φ:Ren} {w:World} {a:Act},IRo P nt 0 [] (fun _ _ _=>False) (fun ks k=>ks= .code (scA L K kL ko kh y')::ks0∧k= .code (.seq (.label l) y):: .inScope bd::k0) S ks k→goN T n rs ks fr h=some (v,h')→(∀t,nt≤t→fr t=none)→
  FR φ h.length nt fr a.tmps→HR φ B h w→Wx w→a.defers=ds→Goal P B0 cs f0 v h' cs (b.atR a k) φ h.length w:=by
 intro n
 induction n with
 |zero=>intro _ S ks k fr h φ w a _ hr;cases hr
 |succ n ih=>
 intro hn S ks k fr h φ w a hI hr hX hF hH hw hd
 refine pt1 (o:=0) (Y:=[]) (cs:=cs) (ds:=ds) (Fx:=fun fr _=> ∀t,nt≤t→fr t=none) (Wx:=Wx) (G:=Goal P B0 cs f0 v h' cs)
  hT hm (hC n (by omega)) (oa1 n) (fun ρ=>ab0 hT.good n) (fun h1 h2 h3 h4 h5=>Goal.back h1 h2 h3 h4 (h5.sub hsub)) (fun ks hx=>sm8 hx ks) (fun hx h1 _ t ht=>by rw[h1 t (.inr (by omega))];exact hx t ht)
  hWb ?_ (fun hx=>hx.elim) (fun hI hr hX hF hH hw hd=>ih (by omega) hI hr hX (by rw[win0 hX]at hF;exact hF) hH hw hd) hI hr hX (by rw[win0 hX];exact hF) hH hw hd
 rintro ks k fr h φ w a ⟨rfl,rfl⟩ hr hX hF hH hw hd
 rw[win0 hX]at hF
 have q0:goN T n rs (.code (.loop kh (.block L kL (.seq y' (.exit K)))):: .blk K ko::ks0) fr h=some (v,h'):=hr
 clear hr
 obtain⟨m1,rfl,p1⟩:=gS q0
 have q1:goN T m1 rs (.code (.block L kL (.seq y' (.exit K))):: .lp kh (.block L kL (.seq y' (.exit K))):: .blk K ko::ks0) (Fr.of (hy3 fr kh)) h=some (v,h'):=p1
 clear q0 p1
 obtain⟨m2,rfl,p2⟩:=gS q1
 have q2:goN T m2 rs (.code (.seq y' (.exit K)):: .blk L kL:: .lp kh (.block L kL (.seq y' (.exit K))):: .blk K ko::ks0) (Fr.of (hy3 fr kh)) h=some (v,h'):=p2
 clear q1 p2
 obtain⟨m3,rfl,p3⟩:=gS q2
 have q3:goN T m3 rs (.code y':: .code (.exit K):: .blk L kL:: .lp kh (.block L kL (.seq y' (.exit K))):: .blk K ko::ks0) (Fr.of (hy3 fr kh)) h=some (v,h'):=p3
 clear q2 p3
 have hfin:=x80 hT hm hC hsub hWb (kL:=kL) (ko:=ko) (kh:=kh) (x:=x) hbd hLK hy hend m3 (by omega) (.code hy (.base ⟨rfl,rfl⟩)) q3 (sm8 hX kh) (hF.sub fun t u hu=>lr7 _ _ _ _ hu) hH hw hd
 exact Goal.back (.head stepR_seq (.one stepR_label)) hfin (Ext.refl _ _) (jj6 _) (Bel.refl _ _)
theorem ua2{a b:Code}{l:Nat}(h:findLabel a l=none):findLabel (.seq a (.seq (.label l) b)) l=some (.seq .skip b):=by
 have:findLabel (.seq (.label l) b) l=some (.seq .skip b):=by simp[findLabel]
 rw[findLabel,h]
 exact this
theorem ka8(hT:xp2 P T)(hm:P.follows .mixedOrders=true){N:Nat}(hC: ∀m,m≤N→ ∀B f,zb8 P B T (goN T m) f): ∀n,n≤N+1→Sim P T n:=by
 intro n
 induction n using Nat.strongRecOn with
 |_ n ih=>
 intro hn rs ks fr h v h' hr B0 B mr φ w a b cs S k nt fn hfn hrs hki hro hI hX hF hH hU hM hd
 obtain⟨n,rfl,hr⟩:=gS hr
 have hsub:=hU.sub
 --the function returns
 have ret: ∀{fr:Fr} {h:H} {φ:Ren} {w:World} {a:Act} {k:List Item} {fx:Frame},retv rs fr h=some (v,h')→FR φ h.length nt fr a.tmps→HR φ B h w→(Up B0 B w∧Mks B0 B w mr)→a.defers=mr.map mkD→step P (lone (b.atR a k) cs w)= .next (lone fx cs w)→
  fx.mode= .returning→fx.defers=a.defers→fx.kind= .normal→fx.fn=b.fn→fx.tmps=a.tmps→Goal P B0 cs b.fn v h' cs (b.atR a k) φ h.length w:=by
  intro fr h φ w a k fx hr hF hH hw hd hst g1 g2 g3 g4 g5
  obtain⟨w',k1,k2,k3,k4⟩:=v08 (P:=P) (cs:=cs) mr fx w g1 (g2.trans hd) hw.2 hH hw.1
  obtain⟨rfl,v',e1,e2⟩:=kl3 (P:=P) hF k2 hrs hr
  exact⟨φ,w',v',{fx with defers:=[]}, .head hst k1,g4,⟨g1,rfl,g3,fn,by rw[show({fx with defers:=[]}:Frame).fn=fx.fn from rfl,g4];exact hfn,by rw[show({fx with defers:=[]}:Frame).tmps=fx.tmps from rfl,g5];exact e1⟩,e2,k2.down k3,Ext.refl _ _,k4⟩
 refine pt1 (o:=0) (Y:=[]) (cs:=cs) (ds:=mr.map mkD) (Fx:=fun fr _=> ∀t,nt≤t→fr t=none) (Wx:=fun w=>Up B0 B w∧Mks B0 B w mr) (G:=Goal P B0 cs b.fn v h' cs)
  hT hm (hC n (by omega) B) (oa1 n) (fun ρ=>ab0 hT.good n) (fun h1 h2 h3 h4 h5=>Goal.back h1 h2 h3 h4 (h5.sub hsub)) (fun ks hx=>sm8 hx ks) (fun hx h1 _ t ht=>by rw[h1 t (.inr (by omega))];exact hx t ht)
  (fun hw hb=>⟨hw.1.bel hb,hw.2.bel hb⟩) ?_ ?_ (fun hI hr hX hF hH hw hd=>ih n (by omega) (by omega) hr hfn hrs hki hro hI hX (by rw[win0 hX]at hF;exact hF) hH hw.1 hw.2 hd) hI hr hX (by rw[win0 hX];exact hF) hH ⟨hU,hM⟩ hd
 ·rintro ks k fr h φ w a ⟨rfl,rfl⟩ hr hX hF hH hw hd
  rw[win0 hX]at hF
  exact ret hr hF hH hw hd (stepR_end hro) rfl rfl hki rfl rfl
 ·rintro S c2 c' ks k fr h φ w a hx hk hr hX hF hH hw hd
  rw[win0 hX]at hF
  cases hx with
  |ret=>exact ret hr hF hH hw hd (stepR_ret hro) rfl rfl hki rfl rfl
  |scope l L K kL ko kh x y x' y' ok=>
   have q0:goN T n rs (.code x':: .code (scA L K kL ko kh y')::ks) fr h=some (v,h'):=hr
   clear hr
   refine Goal.back (.head zt6 (.one stepR_seq)) (lt6 (P:=P) (B0:=B0) (B:=B) hT hm (N:=n) (fun m hm'=>hC m (by omega) B) (cs:=cs) (ds:=mr.map mkD) hsub (Wx:=fun w=>Up B0 B w∧Mks B0 B w mr) (fun hw hb=>⟨hw.1.bel hb,hw.2.bel hb⟩) (l:=l) (x:=x) (ua2 ok.no) ok.ne ok.fb (ks0:=ks) (k0:=k) ?_ n (by omega) (.code ok.fa (.base ⟨rfl,rfl⟩)) q0 hX hF hH hw hd) (Ext.refl _ _) (jj6 _) (Bel.refl _ _)
   intro m hm' fr h φ w a hr hX hF hH hw hd
   exact ih m (by omega) (by omega) hr hfn hrs hki hro hk hX hF hH hw.1 hw.2 hd
  |range R f kf nc ps assign body K0 K1 cIt hnt ok=>
   subst hnt
   have hJ3:R.J=R.o3+R.nt1:=rfl
   have ho3:R.o3=R.o2+R.nt2:=rfl
   have ho2:R.o2=R.nt1:=rfl
   have hnc1:=ok.hnc.1
   have hnc2:=ok.hnc.2
   --the small machine
   have q0:goN T n rs (.code (.block 0 K0 .skip):: .code (.seq (.region (⟨some R.J, .mv (.const (.bool false)),none,false⟩::bp2 R.nt1 kf nc f)) (.seq (.block R.M (R.J::K1) cIt) (.cond (.tmp R.J) (.seq (.block 0 K1 .skip) .ret) (.block 0 K1 .skip))))::ks) fr h=some (v,h'):=hr
   clear hr
   obtain⟨m1,rfl,p1⟩:=gS q0
   have q1:goN T m1 rs (.code .skip:: .blk 0 K0:: .code (.seq (.region (⟨some R.J, .mv (.const (.bool false)),none,false⟩::bp2 R.nt1 kf nc f)) (.seq (.block R.M (R.J::K1) cIt) (.cond (.tmp R.J) (.seq (.block 0 K1 .skip) .ret) (.block 0 K1 .skip))))::ks) fr h=some (v,h'):=p1
   clear q0 p1
   obtain⟨m2,rfl,p2⟩:=gS q1
   have q2:goN T m2 rs (.blk 0 K0:: .code (.seq (.region (⟨some R.J, .mv (.const (.bool false)),none,false⟩::bp2 R.nt1 kf nc f)) (.seq (.block R.M (R.J::K1) cIt) (.cond (.tmp R.J) (.seq (.block 0 K1 .skip) .ret) (.block 0 K1 .skip))))::ks) fr h=some (v,h'):=p2
   clear q1 p2
   obtain⟨m3,rfl,p3⟩:=gS q2
   have q3:goN T m3 rs (.code (.seq (.region (⟨some R.J, .mv (.const (.bool false)),none,false⟩::bp2 R.nt1 kf nc f)) (.seq (.block R.M (R.J::K1) cIt) (.cond (.tmp R.J) (.seq (.block 0 K1 .skip) .ret) (.block 0 K1 .skip))))::ks) (Fr.of (hy3 fr K0)) h=some (v,h'):=p3
   clear q2 p3
   obtain⟨m4,rfl,p4⟩:=gS q3
   have q4:goN T m4 rs (.code (.region (⟨some R.J, .mv (.const (.bool false)),none,false⟩::bp2 R.nt1 kf nc f)):: .code (.seq (.block R.M (R.J::K1) cIt) (.cond (.tmp R.J) (.seq (.block 0 K1 .skip) .ret) (.block 0 K1 .skip)))::ks) (Fr.of (hy3 fr K0)) h=some (v,h'):=p4
   clear q3 p4
   obtain⟨m5,rfl,p5⟩:=gS q4
   clear q4
   simp only[gF]at p5
   split at p5
   case h_2=>cases p5
   rename_i fr1 h1 hops
   obtain⟨m6,rfl,p6⟩:=gS p5
   have q6:goN T m6 rs (.code (.block R.M (R.J::K1) cIt):: .code (.cond (.tmp R.J) (.seq (.block 0 K1 .skip) .ret) (.block 0 K1 .skip))::ks) fr1 h1=some (v,h'):=p6
   clear p5 p6
   obtain⟨m7,rfl,p7⟩:=gS q6
   have q7:goN T m7 rs (.code cIt:: .blk R.M (R.J::K1):: .code (.cond (.tmp R.J) (.seq (.block 0 K1 .skip) .ret) (.block 0 K1 .skip))::ks) fr1 h1=some (v,h'):=p7
   clear q6 p7
   have hXK: ∀t,R.nt1≤t→Fr.of (hy3 fr K0) t=none:=sm8 hX K0
   have hFK:FR φ h.length R.nt1 (Fr.of (hy3 fr K0)) a.tmps:=hF.sub fun t u hu=>lr7 _ _ _ _ hu
   obtain⟨jv,h2,hjv,hcp⟩:=ae3 (by simp) hops
   have hj2:jv=some (.bool false)∧h2=h:=by
    simp[aop,ev,show closed (.bool false)=true from rfl]at hjv
    exact⟨hjv.1.symm,hjv.2.symm⟩
   obtain⟨rfl,rfl⟩:=hj2
   clear hops hjv
   obtain⟨rfl,hc1,hc2⟩:=ig7 (nt1:=R.nt1) ok.hf (List.range nc) s08 hcp
   have hlow: ∀t,t<R.nt1→fr1 t=Fr.of (hy3 fr K0) t:=fun t ht=>by
    rw[hc1 t fun i _ e=>by omega]
    exact pc9 (fun e=>by have e2:R.J=t:=pk4 e;omega)
   have hmid: ∀t,R.nt1≤t→t≠R.J→(∀i,i<nc→R.nt1+1+i≠t)→fr1 t=none:=fun t h1 h2 h3=>by
    rw[hc1 t fun i hi=>h3 i (l16.1 hi),pc9 (fun e=>h2 (pk4 e).symm)]
    exact hXK t h1
   have hJ1:fr1 R.J=some (.bool false):=by rw[hc1 R.J fun i hi e=>by have:=l16.1 hi;omega,qd0]
   obtain⟨first,cps,v0,hf1,hf2,_,_⟩:=hc2 0 (l16.2 hnc1)
   rw[pc9 (fun e=>by have e2:R.J=f:=pk4 e;have:=ok.hf;omega)]at hf1
   have hcap: ∀i,i<nc→ ∃u,cps[i]? =some u∧fr1 (R.nt1+1+i)=some u:=fun i hi=>by
    obtain⟨first2,cps2,v2,g1,g2,g3,g4⟩:=hc2 i (l16.2 hi)
    rw[pc9 (fun e=>by have e2:R.J=f:=pk4 e;have:=ok.hf;omega),hf1]at g1
    cases g1
    exact⟨v2,g3,g4⟩
   --the model
   obtain⟨fv,hfv,hVR⟩:=hFK.2 f _ hf1
   have hfun: ∃cps',fv= .func (.func kf) #[] cps'∧cps.size=cps'.size∧ ∀(i:Nat) (u u':Value),cps[i]? =some u→cps'[i]? =some u'→VR φ h1.length u u':=by
    cases hVR with
    |func _ _ cs' hsz hh=>exact⟨cs',rfl,hsz,fun i u u' k1 k2=>by
      obtain⟨l1,l2⟩:=un8.1 k1
      obtain⟨l3,l4⟩:=un8.1 k2
      rw[←l2,←l4]
      exact hh i l1 l3⟩
   obtain⟨cps',rfl,hsz,hcv⟩:=hfun
   obtain⟨fn2,body2,k1,k2,k3,k4,k5,k6⟩:=ok.fn
   let r:=w.heap.size
   let l:=w.heap.size+1
   let rc:Loop:={state:= .ready,pending:=none,fn:=b.fn,tmps:=a.tmps,params:=ps,assign,body,defers:=w.heap.size}
   let w1:=(w.alloc (.deferred (some []))).alloc (.loop rc)
   have hr1:w1.heap[w.heap.size]? =some (.deferred (some [])):=by
    show((w.heap.push _).push _)[w.heap.size]? =_
    rw[bn2,bn2];simp
   have hl1:w1.heap[w.heap.size+1]? =some (.loop rc):=by
    show((w.heap.push _).push _)[w.heap.size+1]? =_
    rw[bn2];simp
   have hold: ∀k,k<w.heap.size→w1.heap[k]? =w.heap[k]? :=fun k hk=>by
    show((w.heap.push _).push _)[k]? =_
    rw[bn2,bn2,Array.size_push]
    rw[if_neg (by omega),if_neg (by omega)]
   have hsz1:w1.heap.size=w.heap.size+2:=by
    show((w.heap.push _).push _).size=_
    simp
   have hBsz: ∀k,B k→k<w.heap.size:=hH.size
   have hB0sz: ∀k,B0 k→k<w.heap.size:=fun k hk=>hBsz k (hsub k hk)
   have hbel:Bel B w w1:=⟨rfl,rfl,rfl,by rw[hsz1];omega,fun k hk=>hold k (hBsz k hk)⟩
   let B1:Nat→Prop:=fun k=>B k∨k=w.heap.size∨k=w.heap.size+1
   have hNr:NotC w1 w.heap.size:=⟨_,hr1,rfl⟩
   have hNl:NotC w1 (w.heap.size+1):=⟨_,hl1,rfl⟩
   have hH1:HR φ B1 h1 w1:=(hH.same (by rw[hsz1];omega) hold).lift (fun k hk=> .inl hk) (fun k hk=>by
    rcases hk with hk|rfl|rfl
    ·exact .inl hk
    ·exact .inr hNr
    ·exact .inr hNl)
   have hU1:Up B0 B1 w1:=⟨fun k hk=> .inl (hsub k hk),fun k hk hn=>by
    rcases hk with hk|rfl|rfl
    ·exact(hw.1.bel hbel).ob k hk hn
    ·exact hNr
    ·exact hNl⟩
   have hM1:Mks B0 B1 w1 (w.heap.size::mr):=by
    have hm':=hw.2.bel hbel
    refine⟨y50.2 ⟨fun hx=> ?_,hw.2.nd⟩,fun x hx=> ?_⟩
    ·exact absurd (hBsz _ (hw.2.at' _ hx).1) (a36 _)
    ·rcases r04.1 hx with rfl|hx
     ·exact⟨.inr (.inl rfl),fun e=>absurd (hB0sz _ e) (a36 _),hr1⟩
     ·obtain⟨g1,g2,g3⟩:=hm'.at' x hx
      exact⟨.inl g1,g2,g3⟩
   have hlM:w.heap.size+1∉w.heap.size::mr:=fun hx=>by
    rcases r04.1 hx with e|hx
    ·omega
    ·have:=hBsz _ (hw.2.at' _ hx).1;omega
   have hl0: ¬B0 (w.heap.size+1):=fun e=>by have:=hB0sz _ e;omega
   have he:(Instr.enterLoop b.fn a.tmps ps assign body b.roundOf).run P w= .ok (w.heap.size+1,[mkD w.heap.size]) w1:=by
    rw[hro];exact run_enterLoop_outer _ _ _ _ _
   have hev:a.eval (.tmp f)= .func (.func kf) #[] cps':=by
    show a.tmps.getD f undef=_
    rw[he8,hfv];rfl
   have hres:(resolve a.eval (rangeCall (.tmp f) (w.heap.size+1)) 0).run P w1= .ok {target:= .fn (.func kf) cps',args:= #[.func (.yield (w.heap.size+1)) #[] #[]]} w1:=by
    simp only[resolve,rangeCall,hev,Deferred.ofValue]
    simp[Act.eval]
   have k3': ¬fn2.name= "runtime.NumGoroutine" :=by simpa using k3
   have hinv:(invoke (.fn (.func kf) cps') #[.func (.yield (w.heap.size+1)) #[] #[]]).run P w1= .ok (.enter kf (#[.func (.yield (w.heap.size+1)) #[] #[]]++cps')) w1:=by
    simp[invoke,callFunc,k1,k2,k3']
   have hgo:=stepR_rangeFunc (P:=P) (b:=b) (a:=a) (k:=k) (cs:=cs) (w:=w) he hres hinv
   have henter:Frame.enter P kf (#[.func (.yield (w.heap.size+1)) #[] #[]]++cps') .normal=
    ({(default:Frame)with fn:=kf,kind:= .normal,roundOf:=none}:Frame).atR {tmps:= #[.func (.yield (w.heap.size+1)) #[] #[]]++cps'++Array.replicate (fn2.ntmps-(#[.func (.yield (w.heap.size+1)) #[] #[]]++cps':Array Value).size) undef,defers:=[]} [.code body2]:=by
    simp[Frame.enter,Frame.atR,k1,k2]
   rw[henter]at hgo
   have hcs:cps'.size=nc:=by rw[←hsz];exact hf2
   have ht0:(#[.func (.yield (w.heap.size+1)) #[] #[]]++cps'++Array.replicate (fn2.ntmps-(#[.func (.yield (w.heap.size+1)) #[] #[]]++cps':Array Value).size) undef:Array Value)[0]? =some (.func (.yield (w.heap.size+1)) #[] #[]):=by
    rw[a73 (by simp;omega),a73 (by simp)];rfl
   have hti: ∀i,i<nc→(#[.func (.yield (w.heap.size+1)) #[] #[]]++cps'++Array.replicate (fn2.ntmps-(#[.func (.yield (w.heap.size+1)) #[] #[]]++cps':Array Value).size) undef:Array Value)[i+1]? =cps'[i]? :=fun i hi=>by
    rw[a73 (by simp;omega),Array.getElem?_append_right (by simp)];simp
   have hF2:FR φ h1.length R.nt2 (fr1.win R.o2 R.nt2) (#[.func (.yield (w.heap.size+1)) #[] #[]]++cps'++Array.replicate (fn2.ntmps-(#[.func (.yield (w.heap.size+1)) #[] #[]]++cps':Array Value).size) undef:Array Value):=by
    refine⟨by simp;omega,fun t u hu=> ?_⟩
    have ht:t<R.nt2:=ly6 fun hn=>by rw[sz2 hn]at hu;cases hu
    rw[uf3 ht]at hu
    by_cases hr:1≤t∧t≤nc
    ·obtain⟨i,rfl⟩: ∃i,t=i+1:=⟨t-1,by omega⟩
     obtain⟨u2,g1,g2⟩:=hcap i (by omega)
     rw[show i+1+R.o2=R.nt1+1+i by omega,g2]at hu
     cases hu
     have hlt:i<cps'.size:=by omega
     refine⟨cps'[i], ?_,hcv i u _ g1 (ra6 hlt)⟩
     rw[hti i (by omega)]
     exact ra6 hlt
    ·exfalso
     rw[hmid (t+R.o2) (by omega) (by omega) (fun i hi e=>by omega)]at hu
     cases hu
   have hXI:FxI R (Fr.of (hy3 fr K0)) (w.heap.size+1) false fr1 (#[.func (.yield (w.heap.size+1)) #[] #[]]++cps'++Array.replicate (fn2.ntmps-(#[.func (.yield (w.heap.size+1)) #[] #[]]++cps':Array Value).size) undef:Array Value):=by
    refine⟨fun t ht=> .inr (hlow t ht),fun y hy=> ?_,fun t g1 g2=>hmid t (by omega) g2 (fun i hi e=>by omega), .inr hJ1,ht0⟩
    have hlt:=ok.hylt y hy
    rcases ok.hy.2 y hy with rfl|hy2
    ·exact hmid _ (by omega) (by omega) (fun i hi e=>by omega)
    ·exact hmid _ (by omega) (by omega) (fun i hi e=>by omega)
   have hG:=ai2 (P:=P) (B0:=B0) (B1:=B1) hT hm (N:=m7) (fun m hm'=>hC m (by omega) B1) (rs:=rs) (v:=v) (h':=h') (R:=R) (K1:=K1) (ksR:= .code (.cond (.tmp R.J) (.seq (.block 0 K1 .skip) .ret) (.block 0 K1 .skip))::ks) (b:={(default:Frame)with fn:=kf,kind:= .normal,roundOf:=none})
    (c:=b.atR {a with defers:=[mkD w.heap.size]++a.defers} (.inRangeFunc (w.heap.size+1)::k)) (cs:=cs) (l:=w.heap.size+1) (rc:=rc) (φ0:=φ) (n0:=h1.length) (cs0:=cs) (f0:=b.fn) (fun k hk=> .inl (hsub k hk)) hl0 (.inr (.inr rfl)) rfl rfl k1 (by exact k4)
    (Wx:=fun w'=>Up B0 B1 w'∧Mks B0 B1 w' (w.heap.size::mr)) (fun hw hb=>⟨hw.1.bel hb,hw.2.bel hb⟩) (fun x hw=>⟨hw.1.poke rfl,hw.2.poke _ hlM⟩) ok.asg ok.bod ok.hy.1 ok.hylt ok.hKb ok.hps ok.hK3 rfl rfl hFK ?_ m7 (by omega) false (a:={tmps:= #[.func (.yield (w.heap.size+1)) #[] #[]]++cps'++Array.replicate (fn2.ntmps-(#[.func (.yield (w.heap.size+1)) #[] #[]]++cps':Array Value).size) undef,defers:=[]}) (.code k6 (.base ⟨rfl,rfl⟩)) q7 hXI hF2 hH1 ⟨⟨hU1,hM1⟩,hl1⟩ rfl (Ext.refl _ _) (jj6 _)
   ·exact Goal.back (.one hgo) hG (Ext.refl _ _) (jj6 _) (hbel.sub hsub)
   ·--the iterator has returned
    intro m hm' jb fr' h'' φ' w' hr' hLess hJ' hH' hW' hl' hE' hn'
    obtain⟨m',rfl,hq1⟩:=gS hr'
    clear hr'
    have hN':NotC w' (w.heap.size+1):=⟨_,hl',rfl⟩
    rw[finish_atR_inRangeFunc]
    have hsl:=stepR_endRangeFunc (P:=P) (b:=b) (a:={a with defers:=[mkD w.heap.size]++a.defers}) (k:=k) (cs:=cs) (run_endLoop hl' (by cases jb<;>simp[rcAt]))
    have hdef:({a with defers:=[mkD w.heap.size]++a.defers}:Act).defers=(w.heap.size::mr).map mkD:=by
     show [mkD w.heap.size]++a.defers=_
     rw[hd];rfl
    --what is kept
    have keepF: ∀{fq:Fr},(∀t u,fq t=some u→fr' t=some u)→(∀t,R.nt1≤t→Fr.of (hy3 fq K1) t=none)∧FR φ' h''.length R.nt1 (Fr.of (hy3 fq K1)) a.tmps:=fun{fq} hq=>by
     refine⟨fun t ht=> ?_,(hFK.mono hE' hn').sub fun t u hu=> ?_⟩
     ·cases hu:Fr.of (hy3 fq K1) t with
      |none=>rfl
      |some u=>have:=ok.hK1 t (lh0 hu).1;omega
     ·obtain⟨g1,g2⟩:=lh0 hu
      have ht:=ok.hK1 t g1
      have g3:=hq t u g2
      rcases hLess t ht with e|e
      ·rw[e]at g3;cases g3
      ·rw[←e];exact g3
    have hpost:HR φ' B1 h'' (w'.putObj (w.heap.size+1) (.loop {rcAt rc jb with state:= .exhausted})):=hH'.poke _ hN'
    have hUp:Up B0 B1 (w'.putObj (w.heap.size+1) (.loop {rcAt rc jb with state:= .exhausted})):=hW'.1.poke rfl
    have hMk:Mks B0 B1 (w'.putObj (w.heap.size+1) (.loop {rcAt rc jb with state:= .exhausted})) (w.heap.size::mr):=hW'.2.poke _ hlM
    have hless2: ∀t u,Fr.of (hy3 fr' (R.J::K1)) t=some u→fr' t=some u:=fun t u hu=>lr7 _ _ _ _ hu
    have hq2:=hq1
    simp only[gF]at hq2
    split at hq2
    case h_2=>cases hq2
    rename_i t0 ht0
    have hjb:t0=jb:=by
     have ht0:Fr.of (hy3 fr' (R.J::K1)) R.J=some (.bool t0):=ht0
     have h5:=lr7 _ _ _ _ ht0
     rcases hJ' with e|e
     ·rw[e]at h5;cases h5
     ·rw[e]at h5;cases h5;rfl
    subst hjb
    clear hq1
    cases t0 with
    |true=>
     have z0:goN T m' rs (.code (.seq (.block 0 K1 .skip) .ret)::ks) (Fr.of (hy3 fr' (R.J::K1))) h''=some (v,h'):=hq2
     clear hq2
     obtain⟨n1,rfl,y1⟩:=gS z0
     have z1:goN T n1 rs (.code (.block 0 K1 .skip):: .code .ret::ks) (Fr.of (hy3 fr' (R.J::K1))) h''=some (v,h'):=y1
     clear z0 y1
     obtain⟨n2,rfl,y2⟩:=gS z1
     have z2:goN T n2 rs (.code .skip:: .blk 0 K1:: .code .ret::ks) (Fr.of (hy3 fr' (R.J::K1))) h''=some (v,h'):=y2
     clear z1 y2
     obtain⟨n3,rfl,y3⟩:=gS z2
     have z3:goN T n3 rs (.blk 0 K1:: .code .ret::ks) (Fr.of (hy3 fr' (R.J::K1))) h''=some (v,h'):=y3
     clear z2 y3
     obtain⟨n4,rfl,y4⟩:=gS z3
     have z4:goN T n4 rs (.code .ret::ks) (Fr.of (hy3 (Fr.of (hy3 fr' (R.J::K1))) K1)) h''=some (v,h'):=y4
     clear z3 y4
     obtain⟨g1,g2⟩:=keepF hless2
     have hfin:=ih n4 (by omega) (by omega) z4 (B0:=B0) (B:=B1) (mr:=w.heap.size::mr) (a:={a with defers:=[mkD w.heap.size]++a.defers}) (cs:=cs) (k:= .code .ret::k) hfn hrs hki hro (.code (.extra .ret) hk) g1 g2 hpost hUp hMk hdef
     exact Goal.back (.one hsl) hfin (Ext.refl _ _) (jj6 _) (Bel.poke _ hl0)
    |false=>
     have z1:goN T m' rs (.code (.block 0 K1 .skip)::ks) (Fr.of (hy3 fr' (R.J::K1))) h''=some (v,h'):=hq2
     clear hq2
     obtain⟨n2,rfl,y2⟩:=gS z1
     have z2:goN T n2 rs (.code .skip:: .blk 0 K1::ks) (Fr.of (hy3 fr' (R.J::K1))) h''=some (v,h'):=y2
     clear z1 y2
     obtain⟨n3,rfl,y3⟩:=gS z2
     have z3:goN T n3 rs (.blk 0 K1::ks) (Fr.of (hy3 fr' (R.J::K1))) h''=some (v,h'):=y3
     clear z2 y3
     obtain⟨n4,rfl,y4⟩:=gS z3
     have z4:goN T n4 rs ks (Fr.of (hy3 (Fr.of (hy3 fr' (R.J::K1))) K1)) h''=some (v,h'):=y4
     clear z3 y4
     obtain⟨g1,g2⟩:=keepF hless2
     have hfin:=ih n4 (by omega) (by omega) z4 (B0:=B0) (B:=B1) (mr:=w.heap.size::mr) (a:={a with defers:=[mkD w.heap.size]++a.defers}) (cs:=cs) (k:=k) hfn hrs hki hro hk g1 g2 hpost hUp hMk hdef
     exact Goal.back (.one hsl) hfin (Ext.refl _ _) (jj6 _) (Bel.poke _ hl0)
theorem sf4{n:Nat}(hS:Sim P T n){f:FuncId}{F:AFun}(hTF:T f=some F)(hF:FunOK P f F)(B:Nat→Prop):zb8 P B T (goN T n) f:=by
 intro vs vs' h h' v he φ w hv hH cs
 unfold enter at he
 rw[hTF]at he
 simp only at he
 split at he
 ·rename_i hlen
  obtain⟨fn,body,h1,h2,h3,h4,h5,h6⟩:=hF.ok
  have henter:Frame.enter P f vs'.toArray .normal=
   ({(default:Frame)with fn:=f,kind:= .normal,roundOf:=none}:Frame).atR {tmps:=vs'.toArray++Array.replicate (fn.ntmps-vs'.toArray.size) undef,defers:=[]} [.code body]:=by
   simp[Frame.enter,Frame.atR,h1,h2]
  rw[henter]
  obtain⟨φ',w',v',fr',s1,s2,s3,s4,s5,s6,s7⟩:=hS he (B0:=B) (B:=B) (mr:=[]) (φ:=φ) (w:=w) (a:={tmps:=vs'.toArray++Array.replicate (fn.ntmps-vs'.toArray.size) undef,defers:=[]}) (b:={(default:Frame)with fn:=f,kind:= .normal,roundOf:=none}) (cs:=cs) (nt:=F.ntmps) (fn:=fn) h1 h5 rfl rfl (.code h3 (.base ⟨rfl,rfl⟩))
   (fun t ht=>by
     cases hu:Fr.args 0 vs t with
     |none=>rfl
     |some u=>
      obtain⟨_,h7⟩:=ea0 vs 0 t u hu
      have hlt:=(ck5.1 h7).1
      have:=hF.nargs
      omega)
   ⟨by simp;omega,fun t u hu=>by
     obtain⟨_,h7⟩:=ea0 vs 0 t u hu
     obtain⟨u',h8,h9⟩:=hv.2 t u h7
     have hlt:=(ck5.1 h8).1
     refine⟨u', ?_,h9⟩
     rw[a73 (by simpa using hlt)]
     simpa using h8⟩ hH ⟨fun _ h=>h,fun k h1 h2=>absurd h1 h2⟩ ⟨List.nodup_nil,fun r hr=>by cases hr⟩ rfl
  exact⟨.returned v',w',fr',⟨φ',v',rfl,s4,s5,s6,s7⟩,s1,s2,s3⟩
 ·cases he
theorem gn1(hT:xp2 P T){n:Nat}(hS:Sim P T n)(hC: ∀m,m<n→ ∀B f,zb8 P B T (goN T m) f)(B:Nat→Prop)(f:FuncId):zb8 P B T (goN T n) f:=by
 cases hF:T f with
 |none=>intro vs vs' h h' v he;unfold enter at he;rw[hF]at he;cases he
 |some F=>
  rcases hT f F hF with h1|h1
  ·exact sf4 hS hF h1 B
  ·exact h1.ok hT.body B n (fun m hm=>hC m hm B)
theorem iy4(hT:xp2 P T)(hm:P.follows .mixedOrders=true): ∀n,∀m,m≤n→ ∀B f,zb8 P B T (goN T m) f
 |0=>fun m hm' B f=>by
  obtain rfl:m=0:=by omega
  exact gn1 hT (fun hr=>by cases hr) (fun m hm=>by omega) B f
 |n+1=>fun m hm' B f=>by
  have ih:=iy4 hT hm n
  by_cases hmn:m≤n
  ·exact ih m hmn B f
  ·obtain rfl:m=n+1:=by omega
   exact gn1 hT (ka8 hT hm ih (n+1) (jj6 _)) (fun m hm=>ih m (by omega)) B f
theorem vw9{B:Nat→Prop}(hT:xp2 P T)(hm:P.follows .mixedOrders=true){f:FuncId}{vs vs':List Value}{h h':H}{v:Value}(hc:call T f vs h=some (v,h')){φ:Ren}{w:World}(hv:LR φ h.length vs vs')(hH:HR φ B h w):
 Calls P f vs'.toArray w fun e w'=> ∃φ' v',e= .returned v'∧VR φ' h'.length v v'∧HR φ' B h' w'∧Ext φ h.length φ'∧Bel B w w':=by
 have: ∃n,enter T (goN T n) f vs h=some (v,h'):=by
  unfold call at hc
  unfold enter at hc⊢
  cases hF:T f with
  |none=>rw[hF]at hc;cases hc
  |some F=>
   rw[hF]at hc
   simp only at hc⊢
   split at hc
   ·rename_i hl
    obtain⟨n,hn⟩:=ge4.1 hc
    exact⟨n,by rw[if_pos hl];exact hn⟩
   ·cases hc
 obtain⟨n,hn⟩:=this
 exact iy4 hT hm n n (jj6 _) B f _ _ _ _ _ hn φ w hv hH
theorem vp5(hT:xp2 P T)(hm:P.follows .mixedOrders=true){f:FuncId}{vs vs':List Value}{h h':H}{b:Bool}(hc:call T f vs h=some (.bool b,h')){φ:Ren}{w:World}(hv:LR φ h.length vs vs')(hH:HR φ (old w) h w):
 Calls P f vs'.toArray w fun e w'=>e= .returned (.bool b)∧Below w.heap.size w w':=
 (vw9 hT hm hc hv hH).mono fun e w' ⟨φ',v',he,hvr,_,_,hb⟩=>⟨by rw[he,xz4 hvr],hb.os,hb.tape,hb.output,hb.size,fun k hk=>hb.block k hk⟩
end
#print axioms vp5
end Go.Am
namespace Go.Am
def gdC(ops:Array Oper):Option (Nat×Bool)→Option (Option (Nat×Bool))
 |none=>some none
 |some (j,b)=>match(ops[j]?).bind (·.dst)with
  |some s=>some (some (s,b))
  |none=>none
def u90(nt:Nat):Option Nat→Bool
 |none=>true
 |some d=>Nat.blt d nt
def sx7(P:Program)(nt:Nat)(ops:Array Oper)(o:Oper):Option AOper:=
 match sv3 P o,gdC ops o.guard with
 |some op,some g=>if u90 nt o.dst then some ⟨o.dst,op,g,false⟩else none
 |_,_=>none
def m57(P:Program)(nt:Nat)(ops:Array Oper):List Oper→Option (List AOper)
 | []=>some []
 |o::r=>match sx7 P nt ops o,m57 P nt ops r with
  |some a,some l=>some (a::l)
  |_,_=>none
def mark(W b:Nat)(l:List AOper):List AOper:=
 l.zipIdx.map fun(x,j)=>
  let apart (i:Nat):Bool:= !b.testBit (W*j+i)&& !b.testBit (W*i+j)
  {x with op:=if x.op.isLd&&l.zipIdx.any (fun(y,i)=>Nat.blt j i&&apart i&&y.op.isAppU)then x.op.inBox else x.op,chk:=(x.op.isCall&&l.zipIdx.any fun(y,i)=>i !=j&&apart i&&y.op.cls !=0)||(x.op.isLd&&(l.take j).zipIdx.any fun(y,i)=>apart i&&y.op.cls==2)}
def kk4(W b:Nat)(l:List AOper)(π:List Nat):List AOper:=
 l.zipIdx.map fun(x,j)=>
  let apart (i:Nat):Bool:= !b.testBit (W*j+i)&& !b.testBit (W*i+j)
  let pj:=π.idxOf j
  {x with op:=if x.op.isLd&&l.zipIdx.any (fun(y,i)=>Nat.blt pj (π.idxOf i)&&apart i&&y.op.isAppU)then x.op.inBox else x.op,chk:=(x.op.isCall&&l.zipIdx.any fun(y,i)=>i !=j&&apart i&&y.op.cls !=0)||(x.op.isLd&&l.zipIdx.any fun(y,i)=>Nat.blt (π.idxOf i) pj&&apart i&&y.op.cls==2)}
def boxy(l:List AOper)(x:AOper):Bool:=match x.op with
 | .ld _ _ (.tmp a)=>l.any fun y=>y.dst==some a&&(match y.op with
   | .faddr .. =>true
   |_=>false)
 | .faddr .. =>true
 |_=>false
def dz2(W b:Nat)(l:List AOper):Nat→Nat→List Nat→List Nat
 |0,_,_=>[]
 |n+1,done,left=>
  let r:=left.filter fun i=>((b>>>(W*i))%2^W)&&&done==(b>>>(W*i))%2^W
  match(match r.find? fun i=>(l.getD i opNo).op.cls==0 with
   |some i=>some i
   |none=>match(match r.find? fun i=>boxy l (l.getD i opNo)with
    |some i=>some i
    |none=>r.find? fun i=>(l.getD i opNo).op.cls !=1)with
    |some i=>some i
    |none=>match r.find? fun i=>l.zipIdx.any fun(y,j)=>y.op.cls==3&&b.testBit (W*j+i)with
     |some i=>some i
     |none=>r.head?)with
  |some i=>i::dz2 W b l n (done|||2^i) (left.erase i)
  |none=>[]
def late(l:List AOper):Bool:=l.zipIdx.any fun(x,i)=>match x.op with
 | .app _ _ _ (.tmp a) _=>(l.take i).any fun y=>y.dst==some a&&(match y.op with
   | .mv (.tmp s)=>(l.drop i).any fun z=>match z.op with
     | .mv (.tmp s')=>s'==s
     |_=>false
   |_=>false)
 |_=>false
def wd6(l:List AOper):Bool:=l.any fun x=>x.chk&&x.op.isLd&&boxy l x
def ordB(n:Nat)(π:List Nat):Bool:=decide π.Nodup&&π.all (fun i=>decide (i<n))&&decide (π.length=n)
theorem tx0{n:Nat}{π:List Nat}(h:ordB n π=true):OrdOK n π:=by
 simp only[ordB,b83,jn8,p92]at h
 exact⟨h.1.1,h.1.2,h.2⟩
def ki6(π:List Nat)(l:List AOper):List AOper:=π.map fun i=>l.getD i opNo
def hf3(P:Program)(nt:Nat)(ops:Array Oper)(draw:Bool):Option (List AOper):=
 match m57 P nt ops ops.toList with
 |some l=>match draw with
  |false=>some l
  |true=>force (befN ops.size ops.toList 0 0) fun b=>let l':=mark ops.size b l
   let t:=bm0 ops&&zz8 ops.toList l'
   if t&& !late l'&& !wd6 l' then some l' else
    let π:=dz2 ops.size b l ops.size 0 (List.range ops.size)
    let l2:=kk4 ops.size b l π
    if bm0 ops&&ordB ops.size π&&m73 ops.toList (π.map fun i=>(l2.getD i opNo,i))then some (ki6 π l2)else if t then some l' else none
 |none=>none
def ku7(nt:Nat)(x:AOper):Bool:=x.looks.all (fun t=>Nat.blt t nt)&&u90 nt x.dst
def cB(nt:Nat):Operand→Bool
 | .tmp t=>Nat.blt t nt
 |_=>true
def outB(Y:List Nat)(o:Oper):Bool:=match o.dst with
 |some d=> !Y.contains d
 |none=>true
def o65(P:Program)(nt o:Nat)(Y:List Nat)(ex:List Nat→Code→Option ACode)(kf:Nat→List Nat×List Nat)(S cur:List Nat)(c:Code):Option ACode:=
 match ex S c with
 |some a=>some a
 |none=>match c with
  | .skip=>some .skip
  | .exit id=>if S.contains id then some (.exit id)else none
  | .region _ ops draw=>match hf3 P nt ops draw with
    |some l=>if l.all (ku7 nt)&&ops.toList.all (outB Y)then some (.region (l.map (AOper.sh o)))else some .stuck
    |none=>some .stuck
  | .seq a b=>match o65 P nt o Y ex kf S cur a,o65 P nt o Y ex kf S cur b with
    |some a,some b=>some (.seq a b)
    |_,_=>none
  | .cond c a b=>if cB nt c then match o65 P nt o Y ex kf S cur a,o65 P nt o Y ex kf S cur b with
    |some a,some b=>some (.cond (shx o c) a b)
    |_,_=>none else none
  | .block id a=>match o65 P nt o Y ex kf (id::S) (kf id).1 a with
    |some a=>some (.block id (kf id).2 a)
    |none=>none
  | .loop a=>match o65 P nt o Y ex kf S cur a with
    |some a=>some (.loop cur a)
    |none=>none
  |_=>some .stuck
def ex3(J M3:Nat)(S:List Nat):Code→Option ACode
 | .ret=>if S.contains M3 then none else some (.seq (.region [⟨some J, .mv (.const (.bool true)),none,false⟩]) (.exit M3))
 |_=>none
def isY(Y:List Nat)(o:Oper):Bool:=match o.op with
 | .call c=>match c.callee with
   | .value (.tmp y)=>Y.contains y
   |_=>false
 |_=>false
def mvY(Y:List Nat)(o:Oper):Bool:=(match o.op with
    | .move (.tmp 0)=>true
    | .assign (.tmp 0)=>true
    |_=>false)&&o.guard.isNone&&(match o.dst with
    |some d=>d !=0&&Y.contains d
    |none=>false)
def fi3(P:Program)(nt:Nat)(Y:List Nat)(ops:Array Oper):List Oper→Option (List (Option AOper))
 | []=>some []
 |o::r=>match fi3 P nt Y ops r with
  |some l=>if mvY Y o then some (none::l)else match sx7 P nt ops o with
   |some a=>if ku7 nt a&&outB Y o then some (some a::l)else none
   |none=>none
  |none=>none
def l00:List (Option AOper)→Option (List AOper)
 | []=>some []
 |some a::l=>match l00 l with
  |some l=>some (a::l)
  |none=>none
 |none::_=>none
def ex2(P:Program)(R:RgD)(S:List Nat):Code→Option ACode
 | .ret=>if S.contains R.M then none else some (.exit R.M)
 | .region _ ops false=>match ops.toList.findIdx? (isY R.Y)with
   |none=>none
   |some i=>match ops[i]? with
    |none=>none
    |some o=>match o.op,o.dst,o.guard with
     | .call c,some d,none=>match c.callee with
       | .value (.tmp y)=>match fi3 P R.nt2 R.Y ops (ops.toList.take i),fi3 P R.nt2 R.Y ops (ops.toList.drop (i+1))with
         |some pre,some post0=>match l00 post0 with
          |some post=>
           if(y==0||(List.range pre.length).any fun j=>match pre[j]?,ops[j]? with
               |some none,some x=>x.dst==some y
               |_,_=>false)&&c.args.toList.all (cB R.nt2)&&(c.args.size==R.ps.length)&&Nat.blt d R.nt2&& !R.Y.contains d then
            some (.seq (.region ((pre.filterMap fun x=>x).map (AOper.sh R.o2)++R.moves c.args.toList)) (.seq (.block R.M3 R.K3 (.seq R.cA R.cB)) (.region (⟨some (d+R.o2), .un .not (.tmp R.J),none,false⟩::post.map (AOper.sh R.o2)))))
           else none
          |none=>none
         |_,_=>none
       |_=>none
     |_,_,_=>none
 |_=>none
structure RgIn where
 kf:Nat
 nc:Nat
 M:Nat
 M3:Nat
 K0:List Nat
 K1:List Nat
 K3:List Nat
 Kb:List Nat
 Y:List Nat
 kI:Nat→List Nat×List Nat
 kB:Nat→List Nat×List Nat
def noRg:Nat→Option RgIn:=fun _=>none
def rgB(R:RgD)(x:RgIn)(f:Nat)(fn2:Func):Bool:=
 !(fn2.name== "runtime.NumGoroutine")&&fn2.results.isEmpty&&Nat.blt f R.nt1&&Nat.blt 0 x.nc&&Nat.blt x.nc R.nt2&&R.Y.contains 0&&R.Y.all (fun y=>(y==0||Nat.blt x.nc y)&&Nat.blt y R.nt2)&&
 x.K1.all (fun t=>Nat.blt t R.nt1)&&x.K0.all (fun t=>Nat.blt t R.nt1)&&R.Kb.all (fun t=>Nat.blt t R.nt1&& !R.ps.contains t)&&decide R.ps.Nodup&&R.ps.all (fun t=>Nat.blt t R.nt1)&&R.K3.all (fun t=>Nat.blt t R.o3||t==R.J)
def mkR(nt:Nat)(x:RgIn)(fn2:Func)(ps:List Nat)(cA cB:ACode):RgD:=⟨nt,fn2.ntmps,x.M,x.M3,x.K3,x.Y,x.Kb,ps,cA,cB⟩
def ex1(P:Program)(nt:Nat)(rg:Nat→Option RgIn)(S:List Nat):Code→Option ACode
 | .ret=>some .ret
 | .rangeFunc (.tmp f) ps assign body=>match S with
   | []=>none
   |id::_=>match rg id with
    |none=>none
    |some x=>match P.funcs[x.kf]? with
     |none=>none
     |some fn2=>match fn2.body with
      |none=>none
      |some body2=>match o65 P nt (nt+fn2.ntmps) [] (fun _ _=>none) x.kB [] [] assign,o65 P nt (nt+fn2.ntmps) [] (ex3 (nt+fn2.ntmps+nt) x.M3) x.kB [] [] body with
       |some cA,some cB=>match o65 P fn2.ntmps nt x.Y (ex2 P (mkR nt x fn2 ps.toList cA cB)) x.kI [] [] body2 with
        |some cIt=>if rgB (mkR nt x fn2 ps.toList cA cB) x f fn2 then
          some (.seq (.block 0 x.K0 .skip) (.seq (.region (⟨some (nt+fn2.ntmps+nt), .mv (.const (.bool false)),none,false⟩::bp2 nt x.kf x.nc f))
           (.seq (.block x.M ((nt+fn2.ntmps+nt)::x.K1) cIt) (.cond (.tmp (nt+fn2.ntmps+nt)) (.seq (.block 0 x.K1 .skip) .ret) (.block 0 x.K1 .skip)))))else none
        |none=>none
       |_,_=>none
 |_=>none
def exG(l L:Nat)(S:List Nat):Code→Option ACode
 | .goto m=>if m==l&& !S.contains L then some (.exit L)else none
 |_=>none
def exS(P:Program)(nt:Nat)(kf:Nat→List Nat×List Nat)(rg:Nat→Option RgIn)(S:List Nat):Code→Option ACode
 | .scope (.seq a (.seq (.label l) b))=>match findLabel a l,o65 P nt 0 [] (fun _ _=>none) kf [] [] a,o65 P nt 0 [] (exG l (2000+2*l)) kf [] [] b with
   |none,some a',some b'=>some (.seq a' (scA (2000+2*l) (2001+2*l) (kf (2000+2*l)).2 (kf (2001+2*l)).2 (kf (2001+2*l)).1 b'))
   |_,_,_=>none
 |c=>ex1 P nt rg S c
def y29(P:Program)(nt:Nat)(kf:Nat→List Nat×List Nat)(rg:Nat→Option RgIn)(c:Code):Option ACode:=o65 P nt 0 [] (exS P nt kf rg) kf [] [] c
def ix0(P:Program):List ResultVar→Option (List ARes)
 | []=>some []
 | .tmp t::r=>match ix0 P r with
   |some l=>some (.tmp t::l)
   |none=>none
 | .cell a t::r=>match P.underlying t,P.info? t,ix0 P r with
   |some d,some i,some l=>some (.cell a (cw9 d) i.size::l)
   |_,_,_=>none
def kj8(P:Program)(kf:Nat→List Nat×List Nat)(rg:Nat→Option RgIn)(fn:Func):Option AFun:=
 match fn.body with
 |some body=>match y29 P fn.ntmps kf rg body,ix0 P fn.results.toList with
  |some c,some r=>if(fn.name== "runtime.NumGoroutine")=false∧fn.params.size+fn.nfree≤fn.ntmps∧ev3 c=true then some ⟨c,fn.params.size+fn.nfree,fn.ntmps,r⟩else none
  |_,_=>none
 |none=>none
section
variable {P:Program}
theorem wg4{o:Oper}{op:AOp}(h:sv3 P o=some op):op.inText=op:=by
 unfold sv3 at h
 split at h<;>first
  |(cases h;done)
  |(cases h;rfl)
  |((repeat' split at h)<;>first
     |(cases h;done)
     |(cases h;rfl))
theorem j40{op:AOp}:op.inBox.inText=op.inText:=by cases op<;>rfl
theorem xp6{nt:Nat}{ops:Array Oper}{o:Oper}{a:AOper}(h:sx7 P nt ops o=some a)(b:Bool)(c:Bool):CO P nt ops o {a with op:=if c then a.op.inBox else a.op,chk:=b}:=by
 unfold sx7 at h
 split at h
 ·rename_i op g h1 h2
  split at h
  ·rename_i hd
   cases h
   refine⟨rfl,fun d hd'=> ?_, ?_, ?_⟩
   ·rw[hd']at hd;exact fy2 hd
   ·have:=wg4 h1
    cases c
    ·show _=some op.inText
     rw[this];exact h1
    ·show _=some op.inBox.inText
     rw[j40,this];exact h1
   ·unfold gdC at h2
    split at h2
    ·rename_i hg;cases h2;exact .inl ⟨hg,rfl⟩
    ·rename_i j bb hg
     split at h2
     ·rename_i s hs;cases h2;exact .inr ⟨j,bb,s,hg,hs,rfl⟩
     ·cases h2
  ·cases h
 ·cases h
theorem c85{nt:Nat}{ops:Array Oper}: ∀{os:List Oper} {l:List AOper},m57 P nt ops os=some l→l.length=os.length∧ ∀(i:Nat) o,os[i]? =some o→ ∃a,l[i]? =some a∧sx7 P nt ops o=some a
 | [],l,h=>by cases h;exact⟨rfl,fun i o h=>by simp at h⟩
 |o::os,l,h=>by
  simp only[m57]at h
  split at h
  ·rename_i a l' h1 h2
   cases h
   obtain⟨e1,e2⟩:=c85 h2
   refine⟨by simp[e1],fun i x hx=> ?_⟩
   cases i with
   |zero=>simp at hx;subst hx;exact⟨a,rfl,h1⟩
   |succ i=>simpa using e2 i x (by simpa using hx)
  ·cases h
theorem u15{l:List AOper}{n:Nat}(h:l.length=n):ki6 (List.range n) l=l:=by
 unfold ki6
 apply v63
 intro i
 by_cases hi:i<n
 ·simp[hi,h,os6]
 ·rw[pb5 (by simp;omega),pb5 (by omega)]
theorem od6{ops:Array Oper}{l:List AOper}(hl:l.length=ops.size)(h:zz8 ops.toList l=true):m73 ops.toList ((List.range ops.size).map fun i=>(l.getD i opNo,i))=true:=by
 unfold m73
 unfold zz8 at h
 rw[force_eq]at h⊢
 have he:((List.range ops.size).map fun i=>(l.getD i opNo,i))=l.zipIdx:=by
  apply v63
  intro i
  by_cases hi:i<ops.size
  ·rw[us5,iq9 hi,kr6,wu3 (by omega)]
   simp[os6,hl,hi]
  ·rw[pb5 (by simp;omega),pb5 (by simp;omega)]
 rw[he,p92]
 rintro⟨⟨x,j2⟩,j⟩ hx
 have hx1:=b08.1 hx
 simp only at hx1
 rw[kr6]at hx1
 cases hlj:l[j]? with
 |none=>rw[hlj]at hx1;cases hx1
 |some x'=>
  rw[hlj]at hx1
  simp only[eb5,hx3,br6,e03]at hx1
  obtain⟨rfl,rfl⟩:=hx1
  rw[p92]at h
  have h1:=h (x',j) (b08.2 hlj)
  simp only[p92]at h1⊢
  rintro⟨y,i⟩ hy
  obtain⟨a,ha⟩:=es9 hy
  rw[td4]at ha
  split at ha
  ·rename_i haj
   rw[kr6]at ha
   cases hla:l[a]? with
   |none=>rw[hla]at ha;cases ha
   |some y'=>
    rw[hla]at ha
    simp only[eb5,hx3,br6,e03]at ha
    obtain⟨rfl,rfl⟩:=ha
    exact h1 (y',a) (b08.2 (by simp only;rw[td4,if_pos haj];exact hla))
  ·cases ha
theorem q42{nt:Nat}{ops:Array Oper}{draw:Bool}{l:List AOper}(h:hf3 P nt ops draw=some l): ∃l' π,RegOK P nt ops draw l' π∧l=ki6 π l':=by
 unfold hf3 at h
 split at h
 ·rename_i l0 h0
  obtain⟨e1,e2⟩:=c85 h0
  have e1':l0.length=ops.size:=by simpa using e1
  split at h
  ·cases h
   refine⟨l,List.range ops.size,⟨e1',fun i o ho=> ?_,fun _=>rfl, .range _,fun hd=>by cases hd⟩,(u15 e1').symm⟩
   obtain⟨a,h1,h2⟩:=e2 i o (by simpa using ho)
   have:=xp6 h2 a.chk false
   exact⟨a,h1,this⟩
  ·simp only[force_eq]at h
   have hml:(mark ops.size (befN ops.size ops.toList 0 0) l0).length=ops.size:=by simp[mark,e1']
   have text:(bm0 ops&&zz8 ops.toList (mark ops.size (befN ops.size ops.toList 0 0) l0))=true→mark ops.size (befN ops.size ops.toList 0 0) l0=l→ ∃l' π,RegOK P nt ops true l' π∧l=ki6 π l':=by
    rintro hc rfl
    simp only[b83]at hc
    refine⟨_,List.range ops.size,⟨hml,fun i o ho=> ?_,fun hd=>(by cases hd), .range _,fun _=>⟨hc.1,od6 hml hc.2⟩⟩,(u15 hml).symm⟩
    obtain⟨a,h1,h2⟩:=e2 i o (by simpa using ho)
    unfold mark
    simp only[us5,kr6,h1,eb5]
    exact⟨_,rfl,xp6 h2 _ _⟩
   split at h
   ·rename_i hc
    simp only[b83]at hc
    exact text (by simp only[b83];exact hc.1.1) (pk4 h)
   ·split at h
    ·rename_i hc
     cases h
     simp only[b83]at hc
     refine⟨_,_,⟨by simp[kk4,e1'],fun i o ho=> ?_,fun hd=>(by cases hd),tx0 hc.1.2,fun _=>⟨hc.1.1,hc.2⟩⟩,rfl⟩
     obtain⟨a,h1,h2⟩:=e2 i o (by simpa using ho)
     unfold kk4
     simp only[us5,kr6,h1,eb5]
     exact⟨_,rfl,xp6 h2 _ _⟩
    ·split at h
     ·exact text ‹_› (pk4 h)
     ·cases h
 ·cases h
theorem tc7{nt:Nat}{x:AOper}(h:ku7 nt x=true):q08 nt x:=by
 simp only[ku7,b83,p92]at h
 refine⟨fun t ht=>fy2 (h.1 t ht),fun d hd=> ?_⟩
 have:=h.2
 rw[hd]at this
 exact fy2 this
theorem ga1{nt:Nat}{c:Operand}(h:cB nt c=true):cOK nt c:=by
 cases c<;>first|trivial|exact fy2 h
theorem de5{Y:List Nat}{o:Oper}(h:outB Y o=true): ∀d,o.dst=some d→d∉Y:=fun d hd=>by
 simp only[outB,hd]at h
 simpa using h
theorem jz1{nt o:Nat}{Y S:List Nat}{X:List Nat→Code→ACode→Prop}{id:Nat}{ops:Array Oper}{draw:Bool}{l:List AOper}(h:hf3 P nt ops draw=some l)(h1:l.all (ku7 nt)=true)(h2:ops.toList.all (outB Y)=true):CRo P nt o Y X S (.region id ops draw) (.region (l.map (AOper.sh o))):=by
 obtain⟨l',π,hr,rfl⟩:=q42 h
 refine .region id ops draw l' π hr (fun x hx=> ?_) (fun i x hx=> ?_)
 ·obtain⟨i,hi,rfl⟩:=zd4 hx
  rw[p92]at h1
  have hm:=hr.ord.mem (i:=i) (by rw[←hr.len];exact hi)
  have:=h1 (l'.getD i opNo) (vf1.2 ⟨i,hm,rfl⟩)
  rw[os6,wu3 hi]at this
  exact tc7 this
 ·rw[p92]at h2
  exact de5 (h2 x (by simpa using Array.mem_of_getElem? hx))
theorem ea3{nt o:Nat}{Y:List Nat}{ex:List Nat→Code→Option ACode}{X:List Nat→Code→ACode→Prop}{kf:Nat→List Nat×List Nat}(hex: ∀S c a,ex S c=some a→X S c a): ∀{c:Code} {S cur:List Nat} {a:ACode},o65 P nt o Y ex kf S cur c=some a→CRo P nt o Y X S c a:=by
 have hx: ∀{c:Code} {S:List Nat} {a b:ACode},ex S c=some a→some a=some b→CRo P nt o Y X S c b:=fun h1 h2=>by
  cases h2;exact .extra (hex _ _ _ h1)
 intro c
 induction c with
 |skip=>
  intro S cur a h
  unfold o65 at h
  split at h
  ·exact hx ‹_› h
  ·cases h;exact .skip
 |exit id=>
  intro S cur a h
  unfold o65 at h
  split at h
  ·exact hx ‹_› h
  ·simp only at h
   split at h
   ·rename_i hc;cases h;exact .exit (by simpa using hc)
   ·cases h
 |region id ops draw=>
  intro S cur a h
  unfold o65 at h
  split at h
  ·exact hx ‹_› h
  ·simp only at h
   split at h
   ·split at h
    ·rename_i h1 h2
     cases h
     rw[b83]at h2
     exact jz1 h1 h2.1 h2.2
    ·cases h;exact .stuck
   ·cases h;exact .stuck
 |seq x y ih1 ih2=>
  intro S cur a h
  unfold o65 at h
  split at h
  ·exact hx ‹_› h
  ·simp only at h
   split at h
   ·cases h;exact .seq (ih1 ‹_›) (ih2 ‹_›)
   ·cases h
 |cond c x y ih1 ih2=>
  intro S cur a h
  unfold o65 at h
  split at h
  ·exact hx ‹_› h
  ·simp only at h
   split at h
   ·split at h
    ·cases h;exact .cond (ga1 ‹_›) (ih1 ‹_›) (ih2 ‹_›)
    ·cases h
   ·cases h
 |block id x ih=>
  intro S cur a h
  unfold o65 at h
  split at h
  ·exact hx ‹_› h
  ·simp only at h
   split at h
   ·cases h;exact .block (ih ‹_›)
   ·cases h
 |loop x ih=>
  intro S cur a h
  unfold o65 at h
  split at h
  ·exact hx ‹_› h
  ·simp only at h
   split at h
   ·cases h;exact .loop (ih ‹_›)
   ·cases h
 |ret=>
  intro S cur a h
  unfold o65 at h
  split at h
  ·exact hx ‹_› h
  ·cases h;exact .stuck
 |rangeFunc=>
  intro S cur a h
  unfold o65 at h
  split at h
  ·exact hx ‹_› h
  ·cases h;exact .stuck
 |scope=>
  intro S cur a h
  unfold o65 at h
  split at h
  ·exact hx ‹_› h
  ·cases h;exact .stuck
 |label=>
  intro S cur a h
  unfold o65 at h
  split at h
  ·exact hx ‹_› h
  ·cases h;exact .stuck
 |goto=>
  intro S cur a h
  unfold o65 at h
  split at h
  ·exact hx ‹_› h
  ·cases h;exact .stuck
 |refuse=>
  intro S cur a h
  unfold o65 at h
  split at h
  ·exact hx ‹_› h
  ·cases h;exact .stuck
theorem l91{J M3:Nat}: ∀S c a,ex3 J M3 S c=some a→X3 J M3 S c a:=by
 intro S c a h
 unfold ex3 at h
 split at h
 ·split at h
  ·cases h
  ·rename_i hc;cases h;exact .ret (by simpa using hc)
 ·cases h
theorem y52{nt:Nat}{Y:List Nat}{ops:Array Oper}: ∀{os:List Oper} {i:Nat} {l:List (Option AOper)},(∀j o,os[j]? =some o→ops[i+j]? =some o)→fi3 P nt Y ops os=some l→PreOK P nt Y ops i l∧l.length=os.length
 | [],i,l,_,h=>by cases h;exact⟨.nil,rfl⟩
 |o::os,i,l,hi,h=>by
  simp only[fi3]at h
  split at h
  ·rename_i l2 h2
   obtain⟨k1,k2⟩:=y52 (i:=i+1) (fun j o ho=>by rw[show i+1+j=i+(j+1) by omega];exact hi (j+1) o (by simpa using ho)) h2
   have ho:=hi 0 o rfl
   rw[zy9]at ho
   split at h
   ·rename_i hm
    cases h
    simp only[mvY,b83]at hm
    obtain⟨⟨m1,m2⟩,m3⟩:=hm
    refine⟨?_,by simp[k2]⟩
    cases hd:o.dst with
    |none=>rw[hd]at m3;cases m3
    |some d=>
     rw[hd]at m3
     simp only[b83,bne_iff_ne,ne_eq]at m3
     refine .mv ho ?_ (by simpa using m2) hd m3.1 (by simpa using m3.2) k1
     split at m1
     ·exact .inl ‹_›
     ·exact .inr ‹_›
     ·cases m1
   ·split at h
    ·rename_i a ha
     split at h
     ·rename_i hc
      cases h
      rw[b83]at hc
      refine⟨.op ho ?_ (tc7 hc.1) (de5 hc.2) k1,by simp[k2]⟩
      exact xp6 ha a.chk false
     ·cases h
    ·cases h
  ·cases h
theorem ez5: ∀{l:List (Option AOper)} {m:List AOper},l00 l=some m→l=m.map some
 | [],m,h=>by cases h;rfl
 |some a::l,m,h=>by
  simp only[l00]at h
  split at h
  ·rename_i l2 h2
   cases h
   rw[ez5 h2];rfl
  ·cases h
 |none::l,m,h=>by cases h
theorem z34{R:RgD}: ∀S c a,ex2 P R S c=some a→X2 P R S c a:=by
 intro S c a h
 unfold ex2 at h
 split at h
 ·split at h
  ·cases h
  ·rename_i hc;cases h;exact .ret (by simpa using hc)
 ·rename_i id ops
  split at h
  ·cases h
  ·rename_i i hi
   split at h
   ·cases h
   ·rename_i o ho
    split at h
    ·rename_i c d hop hdst hgd
     split at h
     ·rename_i y hcal
      split at h
      ·rename_i pre post0 hpre hpost0
       split at h
       ·rename_i post hps
        split at h
        ·rename_i hc
         cases h
         obtain rfl:=ez5 hps
         have hil:i<ops.size:=(un8.1 ho).1
         obtain⟨p1,p2⟩:=y52 (i:=0) (fun j o hj=>by
          rw[e03]
          rw[td4]at hj
          split at hj
          ·simpa using hj
          ·cases hj) hpre
         obtain⟨p3,p4⟩:=y52 (i:=i+1) (fun j o hj=>by
          rw[s96]at hj
          simpa using hj) hpost0
         have hl1:pre.length=i:=by rw[p2,vb8];simp;omega
         have hl2:post.length=ops.size-(i+1):=by
          have:=p4
          rw[q11,h50]at this
          simpa using this
         subst hl1
         simp only[b83,ey6,ui3,List.any_eq_true,p92,rd4]at hc
         obtain⟨⟨⟨⟨c1,c2⟩,c3⟩,c4⟩,c5⟩:=hc
         refine .yield id ops pre post y d o c p1 ho hop hcal ?_ (fun x hx=>ga1 (c2 x hx)) c3 hdst (fy2 c4) (by simpa using c5) hgd p3 (by omega)
         rcases c1 with c1|⟨j,hj,hm⟩
         ·exact .inl c1
         ·refine .inr ?_
          split at hm
          ·rename_i x e1 e2
           exact⟨j,x,l16.1 hj,e1,e2,by simpa using hm⟩
          ·cases hm
        ·cases h
       ·cases h
      ·cases h
     ·cases h
    ·cases h
 ·cases h
theorem jz5{R:RgD}{x:RgIn}{f:Nat}{fn2:Func}(h:rgB R x f fn2=true):(fn2.name== "runtime.NumGoroutine")=false∧fn2.results= #[]∧f<R.nt1∧(0<x.nc∧x.nc+1≤R.nt2)∧(0∈R.Y∧ ∀y∈R.Y,y=0∨x.nc<y)∧(∀y∈R.Y,y<R.nt2)∧(∀t∈x.K0,t<R.nt1)∧(∀t∈x.K1,t<R.nt1)∧(∀t∈R.Kb,t<R.nt1∧t∉R.ps)∧R.ps.Nodup∧(∀t∈R.ps,t<R.nt1)∧ ∀t∈R.K3,t<R.o3∨t=R.J:=by
 simp only[rgB,b83,ey6,p92,jn8,ui3,rd4]at h
 obtain⟨⟨⟨⟨⟨⟨⟨⟨⟨⟨⟨⟨a1,a2⟩,a3⟩,a4⟩,a5⟩,a6⟩,a7⟩,a8⟩,a9⟩,a10⟩,a11⟩,a12⟩,a13⟩:=h
 have lt: ∀{a b:Nat},Nat.blt a b=true→a<b:=fun h=>fy2 h
 refine⟨a1,by simpa using a2,lt a3,⟨lt a4,lt a5⟩,⟨by simpa using a6,fun y hy=> ?_⟩,fun y hy=>lt (a7 y hy).2,fun t ht=>lt (a9 t ht),fun t ht=>lt (a8 t ht),fun t ht=>⟨lt (a10 t ht).1,by simpa using(a10 t ht).2⟩,a11,fun t ht=>lt (a12 t ht),fun t ht=> ?_⟩
 ·rcases(a7 y hy).1 with e|e
  ·exact .inl e
  ·exact .inr (lt e)
 ·rcases a13 t ht with e|e
  ·exact .inl (lt e)
  ·exact .inr e
theorem g02{nt:Nat}{rg:Nat→Option RgIn}: ∀S c a,ex1 P nt rg S c=some a→X1 P nt S c a:=by
 intro S c a h
 unfold ex1 at h
 split at h
 ·cases h;exact .ret
 ·rename_i f ps assign body
  split at h
  ·cases h
  ·rename_i id S'
   split at h
   ·cases h
   ·rename_i x hx
    split at h
    ·cases h
    ·rename_i fn2 hf2
     split at h
     ·cases h
     ·rename_i body2 hb2
      split at h
      ·rename_i cA cB hA hB
       split at h
       ·rename_i cIt hIt
        split at h
        ·rename_i hc
         cases h
         obtain⟨b1,b2,b3,b4,b5,b6,b7,b8,b9,b10,b11,b12⟩:=jz5 hc
         exact .range (mkR nt x fn2 ps.toList cA cB) f x.kf x.nc ps assign body x.K0 x.K1 cIt rfl
          {fn:=⟨fn2,body2,hf2,hb2,b1,b2,rfl,ea3 z34 hIt⟩
           asg:=ea3 (fun _ _ _ h=>by cases h) hA
           bod:=ea3 l91 hB
           hf:=b3,hnc:=b4,hy:=b5,hylt:=b6,hK0:=b7,hK1:=b8,hKb:=b9,hps:=⟨rfl,b10,b11⟩,hK3:=b12}
        ·cases h
       ·cases h
      ·cases h
 ·cases h
theorem be9{l L:Nat}: ∀S c a,exG l L S c=some a→XG l L S c a:=by
 intro S c a h
 unfold exG at h
 split at h
 ·split at h
  ·rename_i hc
   cases h
   simp only[b83,ui3,rd4]at hc
   obtain⟨rfl,h2⟩:=hc
   exact .goto (by simpa using h2)
  ·cases h
 ·cases h
theorem le2{nt:Nat}{kf:Nat→List Nat×List Nat}{rg:Nat→Option RgIn}: ∀S c a,exS P nt kf rg S c=some a→X1 P nt S c a:=by
 intro S c a h
 unfold exS at h
 split at h
 ·rename_i x l y
  split at h
  ·rename_i h1 h2 h3
   cases h
   exact .scope l (2000+2*l) (2001+2*l) _ _ _ x y _ _ ⟨h1,by omega,ea3 (fun _ _ _ h=>by cases h) h2,ea3 be9 h3⟩
  ·cases h
 ·exact g02 _ _ _ h
theorem n73: ∀{rs:List ResultVar} {l:List ARes},ix0 P rs=some l→RR P rs l
 | [],l,h=>by cases h;trivial
 | .tmp t::rs,l,h=>by
   simp only[ix0]at h
   split at h
   ·cases h;exact⟨rfl,n73 ‹_›⟩
   ·cases h
 | .cell a t::rs,l,h=>by
   simp only[ix0]at h
   split at h
   ·cases h;exact⟨rfl,⟨_,_, ‹_›, ‹_›,rfl,rfl⟩,n73 ‹_›⟩
   ·cases h
theorem lh3{kf:Nat→List Nat×List Nat}{rg:Nat→Option RgIn}{f:FuncId}{fn:Func}{F:AFun}(hf:P.funcs[f]? =some fn)(h:kj8 P kf rg fn=some F):FunOK P f F:=by
 unfold kj8 at h
 split at h
 ·rename_i body hb
  split at h
  ·rename_i c r h1 h2
   split at h
   ·rename_i hc
    cases h
    exact⟨hc.2.1,⟨fn,body,hf,hb,ea3 le2 h1,rfl,n73 h2,hc.1⟩,hc.2.2⟩
   ·cases h
  ·cases h
 ·cases h
end
end Go.Am
namespace Go.Am
variable {T:Tab} {rs:List ARes}
def AOp.l(s:Nat):AOp:= .ld false 1 (.tmp s)
def AOp.i(u a b:Nat):AOp:= .iaddr u (.tmp a) (.tmp b)
def AOp.b(o:BinOp)(x y:Nat):AOp:= .bin o (.tmp x) (.tmp y)
def AOp.c(o:BinOp)(x:Nat)(n:Int):AOp:= .bin o (.tmp x) (.const (.int .i64 n))
def AOp.f(k s:Nat):AOp:= .faddr k (.tmp s)
def AOp.n(s:Nat):AOp:= .len (.tmp s)
def AOp.e(i s:Nat):AOp:= .ext i (.tmp s)
def AOp.m(s:Nat):AOp:= .mv (.tmp s)
def AOp.q(f:FuncId)(l:List Nat):AOp:= .call f (l.map .tmp)
def AOper.o(d:Nat)(x:AOp):AOper:=⟨some d,x,none,false⟩
def AOper.n(x:AOp):AOper:=⟨none,x,none,false⟩
def AOper.g(d:Nat)(x:AOp)(c:Nat)(b:Bool):AOper:=⟨some d,x,some (c,b),false⟩
def AOper.m(d s:Nat):AOper:=⟨some d, .mv (.tmp s),none,false⟩
def AOper.k(d:Nat)(n:Int):AOper:=⟨some d, .mv (.const (.int .i64 n)),none,false⟩
attribute [push_cast] AOp.l AOp.i AOp.b AOp.c AOp.f AOp.n AOp.e AOp.m AOp.q AOper.o AOper.n AOper.g AOper.m AOper.k
def AOper.L(d s:Nat):AOper:=⟨some d, .ld false 1 (.tmp s),none,false⟩
def AOper.I(d u a b:Nat):AOper:=⟨some d, .iaddr u (.tmp a) (.tmp b),none,false⟩
def AOper.B(d:Nat)(o:BinOp)(x y:Nat):AOper:=⟨some d, .bin o (.tmp x) (.tmp y),none,false⟩
def AOper.C(d:Nat)(o:BinOp)(x:Nat)(n:Int):AOper:=⟨some d, .bin o (.tmp x) (.const (.int .i64 n)),none,false⟩
def AOper.F(d k s:Nat):AOper:=⟨some d, .faddr k (.tmp s),none,false⟩
def AOper.N(d s:Nat):AOper:=⟨some d, .len (.tmp s),none,false⟩
def AOper.E(d i s:Nat):AOper:=⟨some d, .ext i (.tmp s),none,false⟩
def AOper.Q(d:Nat)(f:FuncId)(l:List Nat):AOper:=⟨some d, .call f (l.map .tmp),none,false⟩
def AOper.K(d s:Nat):AOper:=⟨some d, .nilck (.tmp s),none,false⟩
def AOper.Z(d:Nat):AOper:=⟨some d, .mv (.const (.slice none 0 0)),none,false⟩
def AOper.P(d c s:Nat):AOper:=⟨some d, .pick (.tmp c) (.const (.bool true)) (.tmp s),none,false⟩
def AOper.S(a s:Nat):AOper:=⟨none, .st 1 (.tmp a) (.tmp s),none,false⟩
def AOper.G(d s c:Nat)(b:Bool):AOper:=⟨some d, .mv (.tmp s),some (c,b),false⟩
def AOper.H(d s c:Nat)(b:Bool):AOper:=⟨some d, .ld false 1 (.tmp s),some (c,b),false⟩
def ACode.R(l:List AOper)(c:ACode):ACode:= .seq (.region l) c
def ACode.D(x:Nat)(a b:ACode):ACode:= .cond (.tmp x) a b
attribute [push_cast] AOper.L AOper.I AOper.B AOper.C AOper.F AOper.N AOper.E AOper.Q AOper.K AOper.Z AOper.P AOper.S AOper.G AOper.H ACode.R ACode.D
noncomputable def goL (T:Tab) (rs:List ARes) (kh:List Nat) (c:ACode) (ks:List It) (l:List (Nat×Value)) (h:H):Res:=go T rs (.code c:: .lp kh c::ks) (Fr.of l) h
noncomputable def goO (T:Tab) (rs:List ARes) (n0:Nat) (l:List AOper) (ks:List It) (fr:Fr) (h:H):Res:=
 match gf4 T (go T) n0 l fr h with
 |some (fr',h')=>go T rs ks fr' h'
 |none=>none
noncomputable def goS (T:Tab) (rs:List ARes) (n0:Nat) (d:Option Nat) (l:List AOper) (ks:List It) (fr:Fr):Option (Option Value×H)→Res
 |some (v,h')=>goO T rs n0 l ks (fr.put d v) h'
 |none=>none
noncomputable def goC (T:Tab) (rs:List ARes) (a b:ACode) (ks:List It) (fr:Fr) (h:H):Bool→Res
 |true=>go T rs (.code a::ks) fr h
 |false=>go T rs (.code b::ks) fr h
noncomputable def goX (T:Tab) (rs:List ARes) (fr:Fr) (h:H):Option (List Nat×List It)→Res
 |some (ko,k)=>go T rs k (Fr.of (hy3 fr ko)) h
 |none=>none
section
variable {ks:List It} {fr:Fr} {h:H}
@[push_cast] theorem fq0:go T rs [] fr h=retv rs fr h:=by rw[go_eq];rfl
@[push_cast] theorem s84:go T rs (.code .ret::ks) fr h=retv rs fr h:=by rw[go_eq];rfl
@[push_cast] theorem xp8:go T rs (.code .skip::ks) fr h=go T rs ks fr h:=by rw[go_eq];rfl
@[push_cast] theorem n84{a b:ACode}:go T rs (.code (.seq a b)::ks) fr h=go T rs (.code a:: .code b::ks) fr h:=by rw[go_eq];rfl
@[push_cast] theorem k93{c:Operand}{a b:ACode}:go T rs (.code (.cond c a b)::ks) fr h=match ev fr c with
 |some (.bool t)=>goC T rs a b ks fr h t
 |_=>none:=by
 rw[go_eq]
 simp only[gF]
 cases ev fr c with
 |none=>rfl
 |some v=>cases v<;>first|rfl|(rename_i t;cases t<;>rfl)
@[push_cast] theorem ox6{a b:ACode}:goC T rs a b ks fr h true=go T rs (.code a::ks) fr h:=rfl
@[push_cast] theorem sr1{a b:ACode}:goC T rs a b ks fr h false=go T rs (.code b::ks) fr h:=rfl
@[push_cast] theorem aw5{id:Nat}{ko:List Nat}{c:ACode}:go T rs (.code (.block id ko c)::ks) fr h=go T rs (.code c:: .blk id ko::ks) fr h:=by rw[go_eq];rfl
@[push_cast] theorem de3{id:Nat}{ko:List Nat}:go T rs (.blk id ko::ks) fr h=go T rs ks (Fr.of (hy3 fr ko)) h:=by rw[go_eq];rfl
@[push_cast] theorem zv5{kh:List Nat}{c:ACode}:go T rs (.code (.loop kh c)::ks) fr h=goL T rs kh c ks (hy3 fr kh) h:=by rw[go_eq];rfl
@[push_cast] theorem g72{kh:List Nat}{c:ACode}:go T rs (.lp kh c::ks) fr h=goL T rs kh c ks (hy3 fr kh) h:=by rw[go_eq];rfl
theorem ur1{kh:List Nat}{c c':ACode}(hc:c=c'){l:List (Nat×Value)}:goL T rs kh c ks l h=go T rs (.code c':: .lp kh c::ks) (Fr.of l) h:=by subst hc;rfl
@[push_cast] theorem r03{id:Nat}:go T rs (.code (.exit id)::ks) fr h=goX T rs fr h (gc2 id ks):=by
 rw[go_eq];simp only[gF];unfold goX;split<;>split<;>simp_all
@[push_cast] theorem lv3{ko:List Nat}{k:List It}:goX T rs fr h (some (ko,k))=go T rs k (Fr.of (hy3 fr ko)) h:=rfl
@[push_cast] theorem ch3{l:List AOper}:go T rs (.code (.region l)::ks) fr h=goO T rs h.length l ks fr h:=by rw[go_eq];rfl
@[push_cast] theorem hi7{n0:Nat}:goO T rs n0 [] ks fr h=go T rs ks fr h:=rfl
@[push_cast] theorem fm7{n0:Nat}{o:AOper}{l:List AOper}:goO T rs n0 (o::l) ks fr h=goS T rs n0 o.dst l ks fr (core T (go T) n0 o fr h):=by
 unfold goO
 simp only[gf4]
 unfold km6 goS
 cases core T (go T) n0 o fr h<;>rfl
@[push_cast] theorem bi5{n0:Nat}{d:Option Nat}{l:List AOper}{v:Option Value}{h':H}:goS T rs n0 d l ks fr (some (v,h'))=goO T rs n0 l ks (fr.put d v) h':=rfl
end
@[push_cast] theorem ut4{id id':Nat}{ko:List Nat}{k:List It}:gc2 id (.blk id' ko::k)=bif Nat.beq id' id then some (ko,k)else gc2 id k:=by
 simp only[gc2]
 by_cases he:id'=id
 ·subst he;simp
 ·have:Nat.beq id' id=false:=by cases hb:Nat.beq id' id with
   |false=>rfl
   |true=>exact absurd (bg4 hb) he
  simp[he,this]
@[push_cast] theorem xa3{id:Nat}{c:ACode}{k:List It}:gc2 id (.code c::k)=gc2 id k:=rfl
@[push_cast] theorem w02{id:Nat}{kh:List Nat}{c:ACode}{k:List It}:gc2 id (.lp kh c::k)=gc2 id k:=rfl
@[push_cast] theorem ve7{f:FuncId}{vs:List Value}{h:H}:enter T (go T) f vs h=call T f vs h:=rfl
@[push_cast] theorem zi1{α:Type}{h h':H}{r:Option α}:behind false h h' r=r:=rfl
theorem zy7{α:Type}{h h':H}{r:Option α}(hp:h<+:h'):behind true h h' r=r:=by unfold behind;rw[if_pos hp]
@[push_cast] theorem v18{α:Type}{x y:α}:(bif true then x else y)=x:=rfl
@[push_cast] theorem ua1{α:Type}{x y:α}:(bif false then x else y)=y:=rfl
@[push_cast] theorem nbeq(a b:Nat):Nat.beq a b=(a==b):=by
 by_cases h:a=b
 ·subst h;simp
 ·have:Nat.beq a b=false:=by cases hb:Nat.beq a b with
   |false=>rfl
   |true=>exact absurd (bg4 hb) h
  simp[h,this]
@[push_cast] theorem lc3{fr:Fr}{s t:Nat}{v:Value}:Fr.set fr s v t=bif Nat.beq t s then some v else fr t:=rfl
@[push_cast] theorem ze1{fr:Fr}{s t:Nat}:Fr.del fr s t=bif Nat.beq t s then none else fr t:=rfl
@[push_cast] theorem of_nil{t:Nat}:Fr.of [] t=none:=rfl
@[push_cast] theorem of_cons{t k:Nat}{v:Value}{r:List (Nat×Value)}:Fr.of ((k,v)::r) t=bif Nat.beq t k then some v else Fr.of r t:=rfl
@[push_cast] theorem s19{n t:Nat}:Fr.args n [] t=none:=rfl
@[push_cast] theorem bk0{n t:Nat}{v:Value}{r:List Value}:Fr.args n (v::r) t=bif Nat.beq t n then some v else Fr.args (n+1) r t:=rfl
@[push_cast] theorem fp5{fr:Fr}{s:Nat}{v:Value}:Fr.put fr (some s) (some v)=fr.set s v:=rfl
@[push_cast] theorem zj6{fr:Fr}{s:Nat}:Fr.put fr (some s) none=fr.del s:=rfl
@[push_cast] theorem ur3{fr:Fr}{v:Option Value}:Fr.put fr none v=fr:=by cases v<;>rfl
attribute [push_cast] if_true if_false Bool.true_eq_false Bool.false_eq_true Bool.not_true Bool.not_false Bool.and_true Bool.true_and Bool.and_false Bool.false_and Bool.or_true Bool.true_or Bool.or_false Bool.false_or
@[push_cast] theorem h35:(true==true)=true:=rfl
@[push_cast] theorem ea2:(true==false)=false:=rfl
@[push_cast] theorem yn4:(false==true)=false:=rfl
@[push_cast] theorem kr1:(false==false)=true:=rfl
@[push_cast] theorem st5:(true !=true)=false:=rfl
@[push_cast] theorem li2:(true !=false)=true:=rfl
@[push_cast] theorem dj6:(false !=true)=true:=rfl
@[push_cast] theorem b29:(false !=false)=false:=rfl
@[push_cast] theorem cv9{α:Type}:(none:Option α).isNone=true:=rfl
@[push_cast] theorem ic6{α:Type}{x:α}:(some x).isNone=false:=rfl
@[push_cast] theorem h96{α:Type}:(none:Option α).isSome=false:=rfl
@[push_cast] theorem s52{α:Type}{x:α}:(some x).isSome=true:=rfl
attribute [push_cast] Nat.zero_add Nat.add_zero Nat.mul_one eq_self ne_eq not_true not_false_iff and_true true_and and_self List.getElem?_cons_zero List.getElem?_cons_succ List.map_cons List.map_nil
attribute [push_cast] core gd wb6 aop abin aint th5 astr aun anil ah0 bound cat sized evp evo ho0 mm ev evs closed tc5 hy3 retv ress res1 flat Value.cells decide_true decide_false
theorem wrap64{x:Int}(h1: -9223372036854775808≤x)(h2:x≤9223372036854775807):IntKind.wrap .i64 x=x:=by
 rw[IntKind.wrap_i64];omega
theorem dec_lt{a b:Int}(h:a<b):decide (a<b)=true:=by simpa using h
theorem cw6{a b:Int}(h:b≤a):decide (a<b)=false:=by simpa using h
theorem nl3{a b:Int}(h:a≤b):decide (a≤b)=true:=by simpa using h
theorem qc6{a b:Int}(h:b<a):decide (a≤b)=false:=by simpa using h
theorem mr8{a b:Int}(h:a=b):decide (a=b)=true:=by simpa using h
theorem nb8{a b:Int}(h: ¬a=b):decide (a=b)=false:=by simpa using h
theorem wn8{f:FuncId}{F:AFun}{vs:List Value}{h:H}(hT:T f=some F)(hl:vs.length=F.nargs):call T f vs h=go T F.results [.code F.code] (Fr.args 0 vs) h:=by
 unfold call enter;rw[hT];simp only;rw[if_pos hl]
end Go.Am
namespace Go.Am
def ints(zs:List Int):List Value:=zs.map (Value.int .i64)
def gi(zs:List Int)(i:Int):Int:=zs.getD i.toNat 0
theorem lr6{zs:List Int}{i:Int}(h0:0≤i)(h:i<zs.length):zs[i.toNat]? =some (gi zs i):=by
 unfold gi
 rw[os6]
 have:i.toNat<zs.length:=by omega
 simp[wu3 this]
theorem h04{zs:List Int}{i:Int}(h0:0≤i)(h:i<zs.length):gi zs i=zs[i.toNat]'(by omega):=by
 unfold gi;rw[os6,wu3 (by omega)];rfl
theorem k18{zs:List Int}{i:Int}(h0:0≤i)(h:i<zs.length):gi zs i∈zs:=by rw[h04 h0 h];exact ws6 _
theorem iq5(zs:List Int):(ints zs).length=zs.length:=by simp[ints]
theorem c25{zs:List Int}{i:Int}(h0:0≤i)(h:i<zs.length):(ints zs)[i.toNat]? =some (.int .i64 (gi zs i)):=by
 unfold ints;rw[us5,lr6 h0 h];rfl
def RdI(h:H)(sa:Option Addr)(c:Nat)(zs:List Int):Prop:=
 (sa=none∧c=0∧zs=[])∨(zs.length≤c∧ ∃o off r,sa=some ⟨o,off,none⟩∧h.row o=some r∧(r.own=true→r.unit=1)∧ ∀i:Int,0≤i→i<zs.length→r.cells[off+i.toNat]? =some (.int .i64 (gi zs i)))
theorem RdI.addr{h:H}{sa:Option Addr}{c:Nat}{zs:List Int}(hr:RdI h sa c zs)(hz:0<zs.length):
 ∃o off,sa=some ⟨o,off,none⟩∧o<h.length∧ ∀i:Int,0≤i→i<zs.length→h.ld1 o (off+i.toNat)=some (.int .i64 (gi zs i)):=by
 rcases hr with⟨_,_,rfl⟩|⟨_,o,off,r,h1,h2,h3⟩
 ·simp at hz
 ·exact⟨o,off,h1,h42 h2,fun i h0 hi=>by unfold H.ld1;rw[h2];exact h3.2 i h0 hi⟩
theorem RdI.mono{h h':H}{sa:Option Addr}{c:Nat}{zs:List Int}(hr:RdI h sa c zs)(hp:h<+:h'):RdI h' sa c zs:=by
 rcases hr with h1|⟨h1,o,off,r,h2,h3,h4⟩
 ·exact .inl h1
 ·exact .inr ⟨h1,o,off,r,h2,by rw[m20 hp (h42 h3)];exact h3,h4⟩
theorem RdI.ofRow{h:H}{o:Nat}{r:Row}{zs:List Int}(hr:h.row o=some r)(hc:r.cells=ints zs)(hu:r.own=true→r.unit=1:=by intro _;rfl):RdI h (some ⟨o,0,none⟩) zs.length zs:=
 .inr ⟨jj6 _,o,0,r,rfl,hr,hu,fun i h0 hi=>by rw[hc,e03];exact c25 h0 hi⟩
theorem z45{h:H}{b:Ob}{o:Nat}(ho:o<h.length):H.row (h++[b]) o=h.row o:=n64 ho
theorem cv8{h:H}{r:Row}:H.row (h++[.row r]) h.length=some r:=by unfold H.row;simp
theorem jl1{h:H}{o o':Nat}{b:Ob}(hne:o≠o'):H.row (h.set o b) o'=h.row o':=by
 unfold H.row;rw[b17 hne]
theorem tr3{h:H}{o:Nat}{r:Row}(ho:o<h.length):H.row (h.set o (.row r)) o=some r:=by
 unfold H.row;rw[j13 ho]
theorem ym5{h h':H}{b:List Ob}(hp:h<+:h'):h<+:h'++b:=hp.trans (w63 _ _)
theorem wc3{h h':H}{o:Nat}{b:Ob}(hp:h<+:h')(ho:h.length≤o):h<+:h'.set o b:=by
 obtain⟨t,rfl⟩:=hp
 rw[v62 _ _ (by omega)]
 exact w63 _ _
theorem bt8{h h':H}(hp:h<+:h'):h.length≤h'.length:=hp.length_le
end Go.Am
namespace Go.Am
@[push_cast] theorem jc2{α:Type}(l:List α):(List.toArray l).toList=l:=rfl
@[push_cast] theorem y64{α:Type}(l:List α)(i:Nat):(List.toArray l)[i]? =l[i]? :=by simp
@[push_cast] theorem la5:(#[]:Array Value).isEmpty=true:=rfl
@[push_cast] theorem a38{α:Type}(l:List α):[]++l=l:=rfl
@[push_cast] theorem ni7{α:Type}(a:α)(l l':List α):(a::l)++l'=a::(l++l'):=rfl
@[push_cast] theorem getD_none{α:Type}(a:α):(none:Option α).getD a=a:=rfl
@[push_cast] theorem getD_some{α:Type}(a b:α):(some b:Option α).getD a=b:=rfl
@[push_cast] theorem oh7{α β:Type}(f:α→β)(b:α):(some b).map f=some (f b):=rfl
@[push_cast] theorem len_nil{α:Type}:([]:List α).length=0:=rfl
@[push_cast] theorem bm4{α:Type}(a:α)(l:List α):(a::l).length=l.length+1:=rfl
@[push_cast] theorem sv8{α:Type}(l:List α):(List.toArray l).size=l.length:=rfl
@[push_cast] theorem qc7(a:Nat):(a==a)=true:=beq_self_eq_true a
@[push_cast] theorem ra5(a:Nat):(a !=a)=false:=by simp
theorem ng1{h:H}{o:Nat}{r:Row}(hr:h.row o=some r)(off:Nat):h.ld1 o off=r.cells[off]? :=by unfold H.ld1;rw[hr]
theorem rr6{h:H}{r:Row}{o:Nat}(ho:o=h.length):H.row (h++[.row r]) o=some r:=by subst ho;exact cv8
theorem wi2{h:H}{o:Nat}{b:Ob}:(h.set o b).length=h.length:=kb7
theorem rl9{h:H}{b:Ob}:(h++[b]).length=h.length+1:=by simp
theorem q89{h:H}{o:Nat}:(kill h o).length=h.length:=kb7
theorem zz6{h:H}{o o':Nat}(hne:o≠o'):H.row (kill h o) o'=h.row o':=jl1 hne
theorem uw3{h h':H}{o:Nat}(hp:h<+:h')(ho:h.length≤o):h<+:kill h' o:=wc3 hp ho
theorem ints_set{zs:List Int}{i:Nat}{v:Int}(hi:i<zs.length):hu1 (ints zs) i [.int .i64 v]=ints (zs.set i v):=by
 unfold hu1 ints
 have hl:i<(zs.map (Value.int .i64)).length:=by simpa using hi
 rw[fx9,List.set_eq_take_append_cons_drop,if_pos hl]
 simp
theorem l45{h:H}{o:Nat}{zs:List Int}{i v:Int}{e u:Nat}(hr:h.row o=some ⟨ints zs,e,u,true⟩)(h0:0≤i)(hi:i<zs.length):
 h.sts o i.toNat [.int .i64 v]=some (h.set o (.row ⟨ints (zs.set i.toNat v),e,u,true⟩)):=by
 unfold H.sts;rw[hr]
 simp only[ed0,q90,fo5,iq5]
 rw[if_pos (by simp;omega),ints_set (by omega)]
theorem i59{h:H}{o:Nat}{zs:List Int}{i:Int}{e u:Nat}{b:Bool}(hr:h.row o=some ⟨ints zs,e,u,b⟩)(h0:0≤i)(hi:i<zs.length):
 h.ld1 o i.toNat=some (.int .i64 (gi zs i)):=by rw[ng1 hr];exact c25 h0 hi
theorem nz1{h:H}{o:Nat}{zs:List Int}{e u a n:Nat}{b:Bool}(hr:h.row o=some ⟨ints zs,e,u,b⟩)(hb:a+n≤zs.length):
 h.lds o a n=some (ints ((zs.drop a).take n)):=by
 unfold H.lds;rw[hr]
 simp only[iq5]
 rw[if_pos hb]
 unfold ints
 rw[iw6,gd3]
theorem k78(n:Nat)(v:Int):rep [.int .i64 v] n=ints (List.replicate n v):=by
 induction n with
 |zero=>rfl
 |succ n ih=>simp[rep,ints,lg2,ih]
theorem mz5(xs ys:List Int):ints xs++ints ys=ints (xs++ys):=by simp[ints]
def Grown(h:H)(sa:Option Addr)(c:Nat)(zs:List Int)(lo:Nat):Prop:=
 (sa=none∧c=0∧zs=[])∨ ∃o,sa=some ⟨o,0,none⟩∧lo≤o∧c=zs.length∧h.row o=some ⟨ints zs,3,1,true⟩
theorem Grown.app{h:H}{sa:Option Addr}{c lo:Nat}{zs ys:List Int}{x:Value}(hg:Grown h sa c zs lo)(hx: ∃a b d,x= .slice a b d∧b=ys.length)
 (hs:b38 h 1 ys.length x=some (ints ys)) (hy:ys≠[]) (hl:zs.length+ys.length≤1099511627776) (hlo:lo≤h.length):
 ∃sa' h',aapp 3 1 8 h (.slice sa zs.length c) x=some (.slice sa' (zs++ys).length (zs++ys).length,h')∧Grown h' sa' (zs++ys).length (zs++ys) lo∧h.length≤h'.length∧
  (∀o,o<lo→h'.row o=h.row o)∧(∀p:H,p.length≤lo→p<+:h→p<+:h'):=by
 obtain⟨a,b,d,rfl,rfl⟩:=hx
 have hyl:ys.length≠0:=fun e=>hy (List.length_eq_zero_iff.mp e)
 rcases hg with⟨rfl,rfl,rfl⟩|⟨o,rfl,ho,rfl,hr⟩
 ·refine⟨some ⟨h.length,0,none⟩,h++[.row ⟨ints ys,3,1,true⟩], ?_, .inr ⟨h.length,rfl,hlo,rfl, ?_⟩,by simp, ?_, ?_⟩
  ·unfold aapp aput;simp only[hs,fo5,m51]
   rw[if_pos (by simp),if_neg hyl,if_pos (by simp[few]at*;omega)]
  ·simp only[m51];exact cv8
  ·intro o ho;exact z45 (by omega)
  ·intro p _ hp;exact ym5 hp
 ·have hol:=h42 hr
  refine⟨some ⟨h.length,0,none⟩,kill h o++[.row ⟨ints (zs++ys),3,1,true⟩], ?_, .inr ⟨h.length,rfl,by omega,rfl, ?_⟩,by simp[q89], ?_, ?_⟩
  ·unfold aapp aput;simp only[hs,hr]
   rw[if_pos (by simp[few,iq5]at*;omega)]
   simp only[sv4,mp4,j82]
   rw[sp3 (by simp[iq5]),mz5]
  ·rw[show h.length=(kill h o).length from q89.symm];exact cv8
  ·intro o' ho';rw[z45 (by rw[q89];omega),zz6 (by omega)]
  ·intro p hpl hp;exact ym5 (uw3 hp (by omega))
theorem Grown.rd{h:H}{sa:Option Addr}{c lo:Nat}{zs:List Int}(hg:Grown h sa c zs lo):RdI h sa c zs:=by
 rcases hg with hn|⟨o,rfl,_,rfl,hr⟩
 ·exact .inl hn
 ·exact RdI.ofRow hr rfl
theorem Grown.carry{h h':H}{sa:Option Addr}{c lo:Nat}{zs:List Int}(hg:Grown h sa c zs lo)(hk: ∀o,lo≤o→o<h.length→h'.row o=h.row o):Grown h' sa c zs lo:=by
 rcases hg with hn|⟨o,h1,h2,h3,hr⟩
 ·exact .inl hn
 ·exact .inr ⟨o,h1,h2,h3,by rw[hk o h2 (h42 hr)];exact hr⟩
end Go.Am
namespace Go.Vm
open Go.Am
inductive Tree where
 |v (x:Value)
 |sl (nl e u:Nat) (cs:List Tree)
 |pt (e:Nat) (cs:List Tree)
  /-- a map of numbers: key, value, key, value .. -/
 |mp (e:Nat) (cs:List Tree)
 |fn (f:FuncId) (cs:List Tree)
 |fz (t:Tree)
 |junk
 |ex (t:Tree)
inductive AV where
 |x (v:Value)
 |fz (pm:Bool) (t:Tree)
 |fzc (pm:Bool) (cs:List Tree) (i:Nat)
 |own (r:Nat) (p:List Nat)
 |sub (r:Nat) (p:List Nat) (u lo n:Nat)
 |cell (r:Nat) (p:List Nat) (i:Nat)
 |agg (l:List AV)
 |tup (l:List AV)
 |fn (f:FuncId) (l:List AV)
abbrev VFr:=Nat→Option AV
def VFr.set(fr:VFr)(s:Nat)(v:AV):VFr:=fun t=>bif Nat.beq t s then some v else fr t
def VFr.del(fr:VFr)(s:Nat):VFr:=fun t=>bif Nat.beq t s then none else fr t
def VFr.of:List (Nat×AV)→VFr
 | [],_=>none
 |(k,v)::r,t=>bif Nat.beq t k then some v else VFr.of r t
def VFr.put(fr:VFr):Option Nat→Option AV→VFr
 |some s,some v=>fr.set s v
 |some s,none=>fr.del s
 |none,_=>fr
def VFr.keep(fr:VFr):List Nat→List (Nat×AV)
 | []=>[]
 |k::ks=>match fr k with
  |some v=>(k,v)::fr.keep ks
  |none=>fr.keep ks
def VFr.args:Nat→List AV→VFr
 |_,[],_=>none
 |n,v::r,t=>bif Nat.beq t n then some v else VFr.args (n+1) r t
mutual
def strip:Tree→Tree
 | .v x=> .v x
 | .sl nl e u cs=> .sl nl 0 u (jj5 cs)
 | .pt e cs=> .pt 0 (jj5 cs)
 | .mp e cs=> .mp 0 (jj5 cs)
 | .fn f cs=> .fn f (jj5 cs)
 | .fz t=>t
 | .junk=> .junk
 | .ex t=> .ex t
def jj5:List Tree→List Tree
 | []=>[]
 |t::l=>strip t::jj5 l
end
def Tree.kids:Tree→Option (List Tree)
 | .sl _ _ _ cs=>some cs
 | .pt _ cs=>some cs
 | .mp _ cs=>some cs
 |_=>none
def Tree.setKids:Tree→List Tree→Tree
 | .sl nl e u _,cs=> .sl nl e u cs
 | .pt e _,cs=> .pt e cs
 | .mp e _,cs=> .mp e cs
 |t,_=>t
def Tree.get:Tree→List Nat→Option Tree
 |t,[]=>some t
 |t,i::p=>match t.kids with
  |some cs=>match cs[i]? with
   |some k=>k.get p
   |none=>none
  |none=>none
def Tree.upd:Tree→List Nat→Tree→Tree
 |_,[],s=>s
 |t,i::p,s=>match t.kids with
  |some cs=>match cs[i]? with
   |some k=>t.setKids (cs.set i (k.upd p s))
   |none=>t
  |none=>t
def isNode:Tree→Bool
 | .sl .. =>true
 | .pt .. =>true
 | .mp .. =>true
 | .ex (.sl ..)=>true
 | .ex (.pt ..)=>true
 |_=>false
def hc9:Tree→Bool
 | .sl .. =>true
 | .pt .. =>true
 | .mp .. =>true
 |_=>false
theorem k60{t:Tree}(h:hc9 t=true):isNode t=true:=by cases t<;>first|rfl|cases h
def isV:Tree→Bool
 | .v _=>true
 |_=>false
def plain:Tree→Bool
 | .v _=>true
 | .fz _=>true
 |_=>false
abbrev Rts:=List Tree
def rget(R:Rts)(r:Nat)(p:List Nat):Option Tree:=match R[r]? with
 |some t=>t.get p
 |none=>none
def rset(R:Rts)(r:Nat)(p:List Nat)(s:Tree):Rts:=match R[r]? with
 |some t=>R.set r (t.upd p s)
 |none=>R
def setL{α:Type}:List α→Nat→List α→List α
 |cs,_,[]=>cs
 |cs,i,t::ts=>setL (cs.set i t) (i+1) ts
def vev(fr:VFr):Operand→Option AV
 | .tmp t=>fr t
 | .const (.agg cs)=>if cs.all tc5 then some (.agg (cs.toList.map AV.x))else none
 | .const (.tuple cs)=>none
 | .const v=>if tc5 v then some (.x v)else none
 | .global _=>none
 | .func f=>some (.fn f [])
def vevs(fr:VFr):List Operand→Option (List AV)
 | []=>some []
 |x::r=>match vev fr x,vevs fr r with
  |some v,some vs=>some (v::vs)
  |_,_=>none
def vx(fr:VFr)(o:Operand):Option Value:=match vev fr o with
 |some (.x v)=>some v
 |_=>none
def vxs(fr:VFr):List Operand→Option (List Value)
 | []=>some []
 |x::r=>match vx fr x,vxs fr r with
  |some v,some vs=>some (v::vs)
  |_,_=>none
def vxo(fr:VFr):Option Operand→Option (Option Int)
 |none=>some none
 |some x=>match vx fr x with
  |some v=>match bound v with
   |some i=>some (some i)
   |none=>none
  |none=>none
def one:Value→Bool
 | .agg _=>false
 | .tuple _=>false
 |_=>true
def cellsOf:AV→List AV
 | .agg l=>l
 |a=>[a]
mutual
def ofz(b:Bool):Tree→Option AV
 | .v x=>some (.x x)
 | .sl nl e u cs=>some (.fz b (.sl nl e u cs))
 | .pt e cs=>some (.fz b (.pt e cs))
 | .mp e cs=>some (.fz b (.mp e cs))
 | .fn f cs=>match ofzL b cs with
   |some l=>some (.fn f l)
   |none=>none
 | .fz t=>ofz b t
 | .junk=>none
 | .ex (.sl nl e u cs)=>some (.fz b (.ex (.sl nl e u cs)))
 | .ex (.pt e cs)=>some (.fz b (.ex (.pt e cs)))
 | .ex _=>none
def ofzL(b:Bool):List Tree→Option (List AV)
 | []=>some []
 |t::l=>match ofz b t,ofzL b l with
  |some a,some r=>some (a::r)
  |_,_=>none
end
def dull:Tree→Tree
 | .sl _ e u cs=> .sl 2 e u cs
 |t=>t
def vput(sh:Bool)(R:Rts):AV→Option (Tree×Rts)
 | .x v=>if one v then some (.v v,R)else none
 | .fz true t=>if isNode t then some (.fz t,R)else none
 | .own r p=>match rget R r p with
   |some (.fz t)=>if isNode t then some (.fz t,R)else none
   |some .junk=>some (.junk,R)
   |some s=>if isNode s then if sh then some (.fz (strip s),rset R r p (.fz (strip s)))else some (dull s,rset R r p .junk)else none
   |none=>none
 | .fn f []=>some (.fn f [],R)
 |_=>none
def az9(sh:Bool):Rts→List AV→Option (List Tree×Rts)
 |R,[]=>some ([],R)
 |R,a::l=>match vput sh R a with
  |some (t,R1)=>match az9 sh R1 l with
   |some (ts,R2)=>some (t::ts,R2)
   |none=>none
  |none=>none
inductive VP where
 |o (r:Nat) (p:List Nat) (i:Nat)
 |f (b:Bool) (cs:List Tree) (i:Nat)
def vptr(R:Rts):AV→Option VP
 | .cell r p i=>some (.o r p i)
 | .own r p=>match rget R r p with
   |some (.pt _ _)=>some (.o r p 0)
   |some (.fz (.pt _ cs))=>some (.f true cs 0)
   |_=>none
 | .fzc b cs i=>some (.f b cs i)
 | .fz b (.pt _ cs)=>some (.f b cs 0)
 | .fz b (.ex (.pt _ cs))=>some (.f b cs 0)
 |_=>none
inductive VS where
 |o (r:Nat) (p:List Nat) (nl e u:Nat) (cs:List Tree) (lo n:Nat)
 |f (b:Bool) (nl u:Nat) (cs:List Tree)
 |nil
def vsl(R:Rts):AV→Option VS
 | .own r p=>match rget R r p with
   |some (.sl nl e u cs)=>some (.o r p nl e u cs 0 (cs.length/u))
   |some (.fz (.sl nl _ u cs))=>some (.f true nl u cs)
   |_=>none
 | .sub r p w lo n=>match rget R r p with
   |some (.sl nl e u cs)=>if(lo+n)*u≤cs.length∧u=w then some (.o r p (if nl=0 then 0 else 2) e u cs lo n)else none
   |_=>none
 | .fz b (.sl nl _ u cs)=>some (.f b nl u cs)
 | .fz b (.ex (.sl nl _ u cs))=>some (.f b nl u cs)
 | .x (.slice none 0 0)=>some .nil
 |_=>none
def ia8(r:Nat)(p:List Nat)(i:Nat):Tree→Option AV
 | .v x=>some (.x x)
 | .fz t=>ofz true t
 | .fn f cs=>if cs.all isV then match ofzL false cs with
   |some l=>some (.fn f l)
   |none=>none else none
 | .junk=>none
 | .ex _=>none
 | .sl .. =>some (.own r (p++[i]))
 | .pt .. =>some (.own r (p++[i]))
 | .mp .. =>some (.own r (p++[i]))
def vy4(R:Rts):VP→Option AV
 | .o r p i=>match rget R r p with
   |some s=>match s.kids with
    |some cs=>match cs[i]? with
     |some k=>ia8 r p i k
     |none=>none
    |none=>none
   |none=>none
 | .f b cs i=>match cs[i]? with
   |some k=>ofz b k
   |none=>none
def ek8(R:Rts)(r:Nat)(p:List Nat)(i:Nat):Option (AV×Rts):=match rget R r p with
 |some s=>match s.kids with
  |some cs=>match cs[i]? with
   |some k=>if hc9 k then some (.own R.length [],rset R r (p++[i]) .junk++[k])else none
   |none=>none
  |none=>none
 |none=>none
def VP.off(k:Nat):VP→VP
 | .o r p i=> .o r p (i+k)
 | .f b cs i=> .f b cs (i+k)
def k12(R:Rts):VP→Bool
 | .f .. =>true
 | .o r p i=>match rget R r p with
   |some (.pt _ _)=>true
   |some (.sl _ _ _ cs)=>decide (i<cs.length)
   |_=>false
def VP.av:VP→AV
 | .o r p i=> .cell r p i
 | .f b cs i=> .fzc b cs i
def hq6(R:Rts)(a:VP):Nat→Option (List AV)
 |0=>some []
 |n+1=>match hq6 R a n,vy4 R (a.off n)with
  |some l,some x=>some (l++[x])
  |_,_=>none
def z26(R:Rts)(r:Nat)(p:List Nat)(i:Nat)(ts:List Tree):Option Rts:=match rget R r p with
 |some s=>match s.kids with
  |some cs=>if i+ts.length≤cs.length then some (rset R r p (s.setKids (setL cs i ts)))else none
  |none=>none
 |none=>none
def cut(lo n u:Nat)(cs:List Tree):List Tree:=if lo=0∧n*u=cs.length then cs else(cs.drop (lo*u)).take (n*u)
theorem jp2(lo n u:Nat)(cs:List Tree):cut lo n u cs=(cs.drop (lo*u)).take (n*u):=by
 unfold cut
 split
 ·rename_i h
  rw[h.1,h.2,v88,sv4,List.take_length]
 ·rfl
def VS.part:VS→List Tree
 | .o _ _ _ _ u cs lo n=>cut lo n u cs
 | .f _ _ _ cs=>cs
 | .nil=>[]
def VS.unit(size:Nat):VS→Nat
 | .o _ _ _ _ u _ _ _=>u
 | .f _ _ u _=>u
 | .nil=>size
def fzT:Tree→Tree
 | .v x=> .v x
 |t=> .fz t
def jk(t:Tree):Tree:=if plain t then t else .junk
def vsrc(R:Rts)(size:Nat):VS→Option (List Tree×Rts)
 | .o r p nl e u cs lo n=>if u=size then
    if(cut lo n u cs).all plain then some (cut lo n u cs,R)
    else match rget R r p with
     |some t=>some (cut lo n u cs,rset R r p (t.setKids (setL cs (lo*u) ((cut lo n u cs).map jk))))
     |none=>none
   else none
 | .f b nl u cs=>if u=size then if b then some (cs.map fzT,R)else if cs.all isV then some (cs,R)else none else none
 | .nil=>some ([],R)
abbrev CT:=Nat→Nat→Option (Nat×Nat)
def ia9:Option (Nat×Nat)→Value→Tree
 |some (e,u), .slice none 0 0=>if u=0 then .v (.slice none 0 0)else .sl 2 e u []
 |_,v=> .v v
def zy6(ct:CT):Bool→CT
 |true=>fun _ _=>none
 |false=>ct
def r48(ct:CT)(e:Nat):Nat→List Value→List Tree
 |_,[]=>[]
 |i,v::l=>ia9 (ct e i) v::r48 ct e (i+1) l
def repT(ts:List Tree):Nat→List Tree
 |0=>[]
 |n+1=>ts++repT ts n
inductive Mode where
 |bor (u:Nat)
 |own (e u:Nat)
 |perm (u:Nat)
structure Hint where
 nil:List (Nat×Nat×Nat)
 take:List Nat
 share:List Nat
 move:List Nat
def memN(s:Nat):List Nat→Bool
 | []=>false
 |a::l=>bif Nat.beq s a then true else memN s l
def jk4(s:Nat):List (Nat×Nat×Nat)→Option (Nat×Nat)
 | []=>none
 |(a,e,u)::l=>bif Nat.beq s a then some (e,u)else jk4 s l
def memO:Option Nat→List Nat→Bool
 |some s,l=>memN s l
 |none,_=>false
def g57(l:List Nat):Operand→Bool
 | .tmp s=>memN s l
 |_=>false
def er6(l:List Nat):List Operand→Bool
 | []=>false
 |x::r=>bif g57 l x then true else er6 l r
abbrev VRes:=AV×Rts×Rts
structure VW where
 T:Tab
 P:FuncId→Option (List AV→Rts→Option VRes)
 H:FuncId→Hint
 M:FuncId→List Mode
 ct:CT
def vnil(h:Hint)(R:Rts)(d:Option Nat):AV→AV×Rts
 | .x (.slice none 0 0)=>match d with
   |some s=>match jk4 s h.nil with
    |some (e,u)=>if u=0 then(.x (.slice none 0 0),R)else(.own R.length [],R++[.sl 1 e u []])
    |none=>(.x (.slice none 0 0),R)
   |none=>(.x (.slice none 0 0),R)
 |a=>(a,R)
def vmvd(h:Hint)(d:Option Nat):AV→Option (List Nat)
 | .x (.slice none 0 0)=>match d with
   |some s=>match jk4 s h.nil with
    |some (e,u)=>if u=0 then none else some []
    |none=>none
   |none=>none
 |_=>none
def oa5(R:Rts):AV→Bool
 | .x v=>one v
 | .fz _ t=>isNode t
 | .fzc .. =>true
 | .own r p=>match rget R r p with
   |some (.fz t)=>isNode t
   |some s=>isNode s
   |none=>false
 | .cell r p i=>k12 R (.o r p i)
 | .fn .. =>true
 |_=>false
def p54(R:Rts)(places:Nat→Option (Nat×Nat))(cells:List AV):List (Nat×AV)→Option (List AV)
 | []=>some cells
 |(i,v)::rest=>
  match places i with
  |none=>none
  |some (off,size)=>
   if(cellsOf v).length≠size|| !(cellsOf v).all (oa5 R)||off+size>cells.length then none
   else p54 R places (setL cells off (cellsOf v)) rest
def vevp(fr:VFr):List (Nat×Operand)→Option (List (Nat×AV))
 | []=>some []
 |(i,x)::r=>match vev fr x,vevp fr r with
  |some v,some vs=>some ((i,v)::vs)
  |_,_=>none
def wb3(R:Rts):Nat→AV→Option Bool
 |k, .x v=>anil k v
 |0,a=>match vsl R a with
  |some (.o _ _ 0 _ _ _ _ _)=>some false
  |some (.o _ _ 1 _ _ cs 0 _)=>some cs.isEmpty
  |some (.o _ _ _ _ _ _ _ n)=>if n=0 then none else some false
  |some (.f _ 0 _ _)=>some false
  |some (.f _ 1 _ cs)=>some cs.isEmpty
  |some (.f _ _ _ cs)=>if cs.isEmpty then none else some false
  |some .nil=>some true
  |none=>none
 |1,a=>match vptr R a with
  |some pa=>if k12 R pa then some false else none
  |none=>none
 |2, .fn _ _=>some false
 |_,_=>none
def vbx(R:Rts):AV→Option VP
 | .own r p=>match rget R r p with
   |some (.pt _ _)=>some (.o r p 0)
   |_=>none
 | .cell r p i=>match rget R r p with
   |some (.pt _ _)=>some (.o r p i)
   |_=>none
 |_=>none
inductive VM where
 |o (r:Nat) (p:List Nat) (cs:List Tree)
 |f (b:Bool) (cs:List Tree)
def VM.cs:VM→List Tree
 | .o _ _ cs=>cs
 | .f _ cs=>cs
def VM.ld(j:Nat)(t:Tree):VM→Option AV
 | .o r p _=>ia8 r p j t
 | .f b _=>ofz b t
def vmap(R:Rts):AV→Option VM
 | .own r p=>match rget R r p with
   |some (.mp _ cs)=>some (.o r p cs)
   |some (.fz (.mp _ cs))=>some (.f true cs)
   |_=>none
 | .fz b (.mp _ cs)=>some (.f b cs)
 |_=>none
def kg9(kd:IntKind)(k:Int):Nat→List Tree→Option (Option Nat)
 |i, .v (.int kd' j)::_::r=>if kd'=kd then(if j=k then some (some (i+1))else kg9 kd k (i+2) r)else none
 |_,[]=>some none
 |_,_=>none
def pr0(kd:IntKind)(k:Int)(x:Tree):List Tree→Option (List Tree)
 | .v (.int kd' j)::t::r=>if kd'=kd then(if j=k then some (.v (.int kd' j)::x::r)else match pr0 kd k x r with
   |some l=>some (.v (.int kd' j)::t::l)
   |none=>none)else none
 | []=>some [.v (.int kd k),x]
 |_=>none
def lu1(fr:VFr)(R:Rts):AOp→Option AV
 | .mv x=>vev fr x
 | .ld agg n a=>match vev fr a with
   |some a=>match vptr R a with
    |some pa=>match agg with
     |true=>if n=0 then none else match hq6 R pa n with
      |some l=>some (.agg l)
      |none=>none
     |false=>vy4 R pa
    |none=>none
   |none=>none
 | .nilck x=>match vev fr x with
   |some a=>match vptr R a with
    |some pa=>if k12 R pa then some a else none
    |none=>none
   |_=>none
 | .faddr off x=>match vev fr x with
   |some a=>match vptr R a with
    |some pa=>if k12 R pa then some (pa.off off).av else none
    |none=>none
   |none=>none
 | .fld agg off n x=>match vev fr x with
   |some (.agg cs)=>match agg with
    |true=>some (.agg ((cs.drop off).take n))
    |false=>match cs[off]? with
     |some v=>some v
     |none=>none
   |_=>none
 | .iaddr size x i=>match vev fr x,vx fr i with
   |some a,some (.int _ i)=>match vsl R a with
    |some (.o r p nl e u cs lo n)=>if 0≤i∧i.toNat<n∧u=size then some (.cell r p ((lo+i.toNat)*u))else none
    |some (.f b nl u cs)=>if 0≤i∧i.toNat*u<cs.length∧u=size then some (.fzc b cs (i.toNat*u))else none
    |_=>none
   |_,_=>none
 | .iaddrA len size x i=>match vev fr x,vx fr i with
   |some a,some (.int _ i)=>match vptr R a with
    |some pa=>if 0≤i∧i<len∧k12 R pa=true then some (pa.off (i.toNat*size)).av else none
    |none=>none
   |_,_=>none
 | .idxA len size agg x i=>match vev fr x,vx fr i with
   |some (.agg cs),some (.int _ i)=>
    if 0≤i∧i<len then match agg with
     |true=>some (.agg ((cs.drop (i.toNat*size)).take size))
     |false=>match cs[i.toNat*size]? with
      |some v=>some v
      |none=>none
    else none
   |_,_=>none
 | .ext i x=>match vev fr x with
   |some (.tup vs)=>match vs[i]? with
    |some v=>some v
    |none=>none
   |_=>none
 | .capt g n i x=>match vev fr x with
   |some (.fn f cs)=>if f=g∧cs.length=n then match cs[i]? with
    |some v=>some v
    |none=>none else none
   |_=>none
 | .ldb agg n a=>match vev fr a with
   |some a=>match vbx R a with
    |some pa=>match agg with
     |true=>if n=0 then none else match hq6 R pa n with
      |some l=>some (.agg l)
      |none=>none
     |false=>vy4 R pa
    |none=>none
   |none=>none
 | .mget kd z m k=>match vev fr m,vx fr k with
   |some a,some (.int kd' i)=>if kd'=kd then match vmap R a with
    |some M=>match kg9 kd i 0 M.cs with
     |some none=>some (.x z)
     |some (some j)=>match M.cs[j]? with
      |some t=>VM.ld j t M
      |none=>none
     |none=>none
    |none=>none else none
   |_,_=>none
 |_=>none
def vop(W:VW)(h:Hint)(d:Option Nat)(fr:VFr)(R:Rts):AOp→Option (Option AV×Rts×Option (List Nat))
 | .mv x=>match vev fr x with
   |some a=>some (some (vnil h R d a).1,(vnil h R d a).2,vmvd h d a)
   |none=>none
 | .pick c a b=>match vx fr c with
   |some (.bool t)=>match vev fr (if t then a else b)with
    |some v=>some (some v,R,none)
    |none=>none
   |_=>none
 | .bin op x y=>match vx fr x,vx fr y with
   |some a,some b=>match abin op a b with
    |some v=>some (some (.x v),R,none)
    |none=>none
   |_,_=>none
 | .eqb neg x y=>match vx fr x,vx fr y with
   |some (.bool a),some (.bool b)=>some (some (.x (.bool (neg !=(a==b)))),R,none)
   |_,_=>none
 | .eqn neg kind x=>match vev fr x with
   |some a=>match wb3 R kind a with
    |some b=>some (some (.x (.bool (neg !=b))),R,none)
    |none=>none
   |none=>none
 | .un op x=>match vx fr x with
   |some a=>match aun op a with
    |some v=>some (some (.x v),R,none)
    |none=>none
   |none=>none
 | .conv k x=>match vx fr x with
   |some (.int _ n)=>some (some (.x (.int k (k.wrap n))),R,none)
   |_=>none
 | .alloc elem zs=>some (some (.own R.length []),R++[.pt elem (r48 (zy6 W.ct (memO d h.take)) elem 0 zs)],none)
 | .box elem size x=>match vev fr x with
   |some a=>if(cellsOf a).length=size then match az9 (g57 h.share x) R (cellsOf a)with
    |some (ts,R1)=>some (some (.own R1.length []),R1++[.pt elem ts],some [])
    |none=>none else none
   |none=>none
 | .build zs places parts=>match vevp fr parts with
   |some vs=>match p54 R (fun i=>places[i]?) (zs.map AV.x) vs with
    |some cs=>some (some (.agg cs),R,none)
    |none=>none
   |none=>none
 | .mkSl elem size len parts=>match vevs fr parts with
   |some vs=>if vs.all (fun a=>(cellsOf a).length==size)&&vs.length==len&&size !=0 then match az9 (er6 h.share parts) R (vs.flatMap cellsOf)with
    |some (ts,R1)=>some (some (.own R1.length []),R1++[.sl 0 elem size ts],some [])
    |none=>none else none
   |none=>none
 | .st n a x=>match vev fr a,vev fr x with
   |some a,some v=>match vptr R a with
    |some (.o r p i)=>if(cellsOf v).length=n∧n≠0 then match az9 (g57 h.share x) R (cellsOf v)with
     |some (ts,R1)=>match z26 R1 r p i ts with
      |some R2=>some (none,R2,some (if ts.all isV then []else [r]))
      |none=>none
     |none=>none else none
    |_=>none
   |_,_=>none
 | .mkf f cap=>match vevs fr cap with
   |some vs=>some (some (.fn f vs),R,none)
   |none=>none
 | .mks elem size bytes zs l c=>match vx fr l,vx fr c with
   |some (.int _ l),some (.int _ c)=>
    if 0≤l∧l≤c∧c≤1099511627776∧c*bytes≤140737488355328∧zs.length=size∧size≠0 then
     some (some (.own R.length []),R++[.sl 0 elem size (repT (r48 W.ct elem 0 zs) l.toNat)],none)else none
   |_,_=>none
 | .sl size x lo hi=>match vev fr x,vxo fr lo,vxo fr hi with
   |some a,some lo,some hi=>match vsl R a with
    |some (.o r p nl e u cs lo0 n0)=>
     if 0≤lo.getD 0∧lo.getD 0≤hi.getD n0∧hi.getD n0≤n0∧u=size then
      match memO d h.move with
      |true=>some (some (.own R.length []),rset R r p .junk++[.sl (if nl=0 then 0 else 2) e u ((cs.drop ((lo0+(lo.getD 0).toNat)*u)).take ((hi.getD n0-lo.getD 0).toNat*u))],some [])
      |false=>some (some (.sub r p u (lo0+(lo.getD 0).toNat) (hi.getD n0-lo.getD 0).toNat),R,none)
     else none
    |some (.f b nl u cs)=>
     if 0≤lo.getD 0∧lo.getD 0≤hi.getD ((cs.length/u:Nat):Int)∧hi.getD ((cs.length/u:Nat):Int)≤(cs.length/u:Nat)∧u=size then
      some (some (.fz b (.sl (if nl=0 then 0 else 2) 0 u ((cs.drop ((lo.getD 0).toNat*u)).take ((hi.getD ((cs.length/u:Nat):Int)-lo.getD 0).toNat*u)))),R,none)
     else none
    |some .nil=>if lo.getD 0=0∧hi.getD 0=0 then some (some (.x (.slice none 0 0)),R,none)else none
    |none=>none
   |_,_,_=>none
 | .sls x lo hi=>match vx fr x,vxo fr lo,vxo fr hi with
   |some (.string s),some lo,some hi=>
    if 0≤lo.getD 0∧lo.getD 0≤hi.getD s.size∧hi.getD s.size≤s.size then some (some (.x (.string (s.extract (lo.getD 0).toNat (hi.getD s.size).toNat))),R,none)else none
   |_,_,_=>none
 | .sl3 x hi mx=>match vev fr x,vx fr hi,vx fr mx with
   |some a,some (.int _ i),some (.int _ j)=>match vsl R a with
    |some (.o r p nl e u cs lo0 n0)=>if 0≤i∧i≤j∧j≤n0 then
      match memO d h.move with
      |true=>some (some (.own R.length []),rset R r p .junk++[.sl (if nl=0 then 0 else 2) e u ((cs.drop (lo0*u)).take (i.toNat*u))],some [])
      |false=>some (some (.sub r p u lo0 i.toNat),R,none)
     else none
    |some (.f b nl u cs)=>if 0≤i∧i≤j∧j≤(cs.length/u:Nat)then some (some (.fz b (.sl (if nl=0 then 0 else 2) 0 u (cs.take (i.toNat*u)))),R,none)else none
    |some .nil=>if i=0∧j=0 then some (some (.x (.slice none 0 0)),R,none)else none
    |none=>none
   |_,_,_=>none
 | .idxS x i=>match vx fr x,vx fr i with
   |some (.string s),some (.int _ i)=>if 0≤i then match s[i.toNat]? with
     |some b=>some (some (.x (.int .u8 b.toNat)),R,none)
     |none=>none else none
   |_,_=>none
 | .len x=>match vev fr x with
   |some a=>match vsl R a with
    |some (.o r p nl e u cs lo n)=>some (some (.x (.int .i64 n)),R,none)
    |some (.f b nl u cs)=>some (some (.x (.int .i64 (cs.length/u:Nat))),R,none)
    |some .nil=>some (some (.x (.int .i64 0)),R,none)
    |none=>none
   |_=>none
 | .lenS x=>match vx fr x with
   |some (.string s)=>some (some (.x (.int .i64 s.size)),R,none)
   |_=>none
 | .lenK n=>some (some (.x (.int .i64 n)),R,none)
 | .minmax mx xs=>match vxs fr xs with
   |some vs=>match vs with
    | .int k n::r=>match ho0 k r with
      |some l=>some (some (.x (.int k (l.foldl (mm mx) n))),R,none)
      |none=>none
    |_=>none
   |none=>none
 | .app elem size bytes s x=>match vev fr s,vev fr x with
   |some s,some x=>match vsl R x with
    |some X=>match vsrc R size X with
     |some (news,R1)=>match vsl R1 s with
      |some (.o r p nl e u cs lo n)=>
       if e=elem∧u=size∧few (n+news.length/u) bytes=true then
        some (some (.own R1.length []),rset R1 r p .junk++[.sl nl e u (cut lo n u cs++news)],some [])
       else none
      |some .nil=>if size≠0∧few (news.length/size) bytes=true then some (some (.own R1.length []),R1++[.sl 1 elem size news],some [])else none
      |_=>none
     |none=>none
    |none=>none
   |_,_=>none
 | .cpy size d s=>match vev fr d,vev fr s with
   |some d,some s=>match vsl R d,vsl R s with
    |some (.o r p nl e u cs lo n),some S=>
     if u=size∧S.part.all isV=true∧S.unit size=size then
      match rget R r p with
      |some t=>some (some (.x (.int .i64 (min (S.part.length/size) n:Nat))),rset R r p (t.setKids (setL cs (lo*u) (S.part.take (n*u)))),some [])
      |none=>none
     else none
    |_,_=>none
   |_,_=>none
 | .appz elem bytes s x=>match vev fr s,vx fr x with
   |some s,some (.int .i64 m)=>if 0≤m∧m≤1099511627776 then match vsl R s with
     |some (.o r p nl e u cs lo n)=>if e=elem∧u=1∧few (n+m.toNat) bytes=true then some (some (.own R.length []),rset R r p .junk++[.sl nl e u (cut lo n u cs++repT [.v (.int .i64 0)] m.toNat)],some [])else none
     |some .nil=>if few m.toNat bytes=true then some (some (.own R.length []),R++[.sl 1 elem 1 (repT [.v (.int .i64 0)] m.toNat)],some [])else none
     |_=>none
    else none
   |_,_=>none
 | .call .. | .calld .. =>none
 | .mmk elem=>some (some (.own R.length []),R++[.mp elem []],none)
 | .mput kd m k x=>match vev fr m,vx fr k,vev fr x with
   |some (.own r p),some (.int kd' i),some a=>if kd'=kd then match vput (g57 h.share x) R a with
    |some (t,R1)=>match rget R1 r p with
     |some (.mp e cs)=>match pr0 kd i t cs with
      |some cs'=>some (none,rset R1 r p (.mp e cs'),some [r])
      |none=>none
     |_=>none
    |none=>none else none
   |_,_,_=>none
 | .ld agg n a=>if !agg&&memO d h.take then match vev fr a with
    |some a=>match vptr R a with
     |some (.o r p i)=>match ek8 R r p i with
      |some (v,R1)=>some (some v,R1,some [])
      |none=>none
     |_=>none
    |none=>none
   else match lu1 fr R (.ld agg n a)with
    |some v=>some (some v,R,none)
    |none=>none
 |op=>match lu1 fr R op with
  |some v=>some (some v,R,none)
  |none=>none
end Go.Vm
