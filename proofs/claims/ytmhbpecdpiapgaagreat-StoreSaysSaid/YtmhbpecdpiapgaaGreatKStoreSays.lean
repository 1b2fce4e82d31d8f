/-
  StoreSays answers true for all arguments. No condition. The frame is the kit's; the walk is mine.
-/
import Derived.Test.YtmhbpecdpiapgaaGreatK10
import Derived.Test.YtmhbpecdpiapgaaGreatK6
import Derived.Test.YtmhbpecdpiapgaaGreatRows
import Derived.WalkKit
import Derived.ProofKit
import Derived.OpenShut
import Derived.ShutString
import Derived.ChangeOld
import Derived.Below
import Derived.Deep.Matrix
namespace Go.Proofs.YtmhbpecdpiapgaaGreat.storeSays
open Go.ChangeShapes Go.WideShapes Go.ChangeAt Go.RowKit Go.Deep
open Go.ChangeMaps (open_string shut_string)
set_option linter.unusedVariables false
theorem own:ownKnob Tryz.prog.godebug=none:=by kernel_rfl
theorem laidOut:laidOutB Tryz.prog=true:=by kernel_rfl
def IsRow(w:World)(a:Option Addr)(len cap:Nat)(zs:List Int):Prop:=
 Go.Am.RoI .i64 w a len cap zs∧len≤maxLen
def IsRows(w:World)(a:Option Addr)(len cap:Nat)(ll:List (List Int)):Prop:=
 Go.Am.RoL w a len cap ll∧len≤maxLen∧ ∀l∈ll,l.length≤maxLen
theorem max_is:maxLen=9223372036854775807:=by kernel_rfl
theorem walk(a0:Int)(a1:Int)(a2:Int)(a3:Int)(a4:Option Addr)(len4 cap4:Nat)(z4:List Int)(a5:Option Addr)(len5 cap5:Nat)(z5:List Int)(a6:Option Addr)(len6 cap6:Nat)(z6:List (List Int))(a7:Int)(a8:Option Addr)(len8 cap8:Nat)(z8:List Int)(w:World)(w0:(Lit.int .i64 a0).wf=true)(w1:(Lit.int .i64 a1).wf=true)(w2:(Lit.int .i64 a2).wf=true)(w3:(Lit.int .i64 a3).wf=true)(w4:IsRow w a4 len4 cap4 z4)(w5:IsRow w a5 len5 cap5 z5)(w6:IsRows w a6 len6 cap6 z6)(w7:(Lit.int .i64 a7).wf=true)(w8:IsRow w a8 len8 cap8 z8):
 Calls Tryz.prog 3 #[.int .i64 a0, .int .i64 a1, .int .i64 a2, .int .i64 a3, .slice a4 len4 cap4, .slice a5 len5 cap5, .slice a6 len6 cap6, .int .i64 a7, .slice a8 len8 cap8] w fun e w'=>e= .returned (.bool true)∧Below w.heap.size w w':=by
 have mx:=max_is
 obtain⟨r4,l4⟩:=w4
 obtain⟨φ4,h4,s4,x4,p4,hh4,v4,d4,u4,n4⟩:=Go.Am.q97 (φ:=Go.Am.φ0) rfl (Go.Am.HR.start _ w) r4 3
 obtain⟨r5,l5⟩:=w5
 obtain⟨φ5,h5,s5,x5,p5,hh5,v5,d5,u5,n5⟩:=Go.Am.q97 rfl hh4 r5 3
 obtain⟨r6,l6,e6⟩:=w6
 obtain⟨φ6,h6,s6,x6,p6,hh6,v6,d6,u6⟩:=Go.Am.du6 rfl hh5 r6 3 3
 have n6:=r6.1
 obtain⟨r8,l8⟩:=w8
 obtain⟨φ8,h8,s8,x8,p8,hh8,v8,d8,u8,n8⟩:=Go.Am.q97 rfl hh6 r8 3
 obtain⟨h',hc⟩:=a42 h8 a0 (Go.Am.t86 w0).1 (Go.Am.t86 w0).2 a1 (Go.Am.t86 w1).1 (Go.Am.t86 w1).2 a2 (Go.Am.t86 w2).1 (Go.Am.t86 w2).2 a3 (Go.Am.t86 w3).1 (Go.Am.t86 w3).2 s4 cap4 (z4.take len4) (d4.mono (((p5).trans p6).trans p8)).i64 (Go.Am.r99 u4 (((p5).trans p6).trans p8)) (by rw[n4];omega) s5 cap5 (z5.take len5) (d5.mono ((p6).trans p8)).i64 (Go.Am.r99 u5 ((p6).trans p8)) (by rw[n5];omega) s6 cap6 z6 (d6.mono (p8)) (Go.Am.r99 u6 (p8)) (by rw[n6];omega) (fun l hl=>by have:=e6 l hl;omega) a7 (Go.Am.t86 w7).1 (Go.Am.t86 w7).2 s8 cap8 (z8.take len8) d8.i64 u8 (by rw[n8];omega)
 rw[n4,n5,n6,n8]at hc
 exact Go.Am.vp5 b41 mixed hc (.cons (.int ..) (.cons (.int ..) (.cons (.int ..) (.cons (.int ..) (.cons (((v4.mono x5 p5.length_le).mono x6 p6.length_le).mono x8 p8.length_le) (.cons ((v5.mono x6 p6.length_le).mono x8 p8.length_le) (.cons (v6.mono x8 p8.length_le) (.cons (.int ..) (.cons v8 (.nil ..)))))))))) hh8
set_option maxRecDepth 100000 in
theorem lifted(os:Os)(started:os.Started)(H:Type)(enc:TypeId×Value→H):
 ReturnsInHanded {} Tryz.checked os 3 .any (Rows.storeSaysSpec.pre6 enc Tryz.prog Tryz.f3 Rows.storeSaysRow.domain false) (Rows.storeSaysSpec.post enc Tryz.prog Tryz.f3 false true false false):=by
 refine returnsInHanded_of_change (C:=Tryz.checked) own started (by kernel_rfl) Tryz.func3
  (ChangeSpec.witness6 (enc:=enc) (C:=Tryz.checked) false ⟨#[], #[.int .i64 0, .int .i64 0, .int .i64 0, .int .i64 0, .slice none 0 0, .slice none 0 0, .slice none 0 0, .int .i64 0, .slice none 0 0],[]⟩ 8 (by kernel_rfl) (by kernel_rfl) (by kernel_rfl) (by kernel_rfl)) ?_
 intro W base args ds gs before hval0 hW hcnd _
 have hval: ∀(j:Nat) t v,Tryz.f3.params[j]? =some t→args[j]? =some v→Value.okWide Tryz.prog W .any base t v:=hval0
 have hW':=hW
 obtain⟨p,q,hA0,hV,rfl,hfz,hnd⟩:=hW
 have hA:DataW.TrodAll enc Tryz.prog W 0 (fun _=>true) true Tryz.f3.params.toList args.toList ds p:=hA0
 rw[Tryz.params3]at hA hval
 obtain⟨v0,vs0,d0,ds0,p0,q0,hargs,rfl,rfl,h0,r0⟩:=trodAll_cons hA
 obtain⟨v1,vs1,d1,ds1,p1,q1,rfl,rfl,rfl,h1,r1⟩:=trodAll_cons r0
 obtain⟨v2,vs2,d2,ds2,p2,q2,rfl,rfl,rfl,h2,r2⟩:=trodAll_cons r1
 obtain⟨v3,vs3,d3,ds3,p3,q3,rfl,rfl,rfl,h3,r3⟩:=trodAll_cons r2
 obtain⟨v4,vs4,d4,ds4,p4,q4,rfl,rfl,rfl,h4,r4⟩:=trodAll_cons r3
 obtain⟨v5,vs5,d5,ds5,p5,q5,rfl,rfl,rfl,h5,r5⟩:=trodAll_cons r4
 obtain⟨v6,vs6,d6,ds6,p6,q6,rfl,rfl,rfl,h6,r6⟩:=trodAll_cons r5
 obtain⟨v7,vs7,d7,ds7,p7,q7,rfl,rfl,rfl,h7,r7⟩:=trodAll_cons r6
 obtain⟨v8,vs8,d8,ds8,p8,q8,rfl,rfl,rfl,h8,r8⟩:=trodAll_cons r7
 obtain⟨rfl,rfl,rfl⟩:=trodAll_nil r8
 obtain rfl:args= #[v0,v1,v2,v3,v4,v5,v6,v7,v8]:=by cases args;simp_all
 obtain⟨rfl,rfl⟩:=trodVars_none hV
 obtain⟨a0,rfl,rfl,rfl,w0⟩:=open_int Tryz.underlying3 (hval 0 3 v0 rfl rfl) h0
 obtain⟨a1,rfl,rfl,rfl,w1⟩:=open_int Tryz.underlying3 (hval 1 3 v1 rfl rfl) h1
 obtain⟨a2,rfl,rfl,rfl,w2⟩:=open_int Tryz.underlying3 (hval 2 3 v2 rfl rfl) h2
 obtain⟨a3,rfl,rfl,rfl,w3⟩:=open_int Tryz.underlying3 (hval 3 3 v3 rfl rfl) h3
 obtain⟨a4,len4,cap4,rfl⟩:=okWide_slice Tryz.underlying22 (hval 4 22 v4 rfl rfl)
 have k4:=h4
 have lt4: ∀x∈p4,x.block<W.heap.size:=by obtain⟨m,hm⟩:=k4;exact DataW.trod_lt m _ _ _ hm
 obtain⟨z4,w4⟩: ∃zs,IsRow W a4 len4 cap4 zs:=by
  obtain⟨fuel,hf⟩:=h4
  rcases open_ints Tryz.underlying22 Tryz.underlying3 (by kernel_rfl) hf with⟨hcs,_⟩|⟨x,l,c,zs,hcs,_,hl,hm,hz,_,hcell,hwz⟩
  ·simp[Value.cells]at hcs
   obtain⟨rfl,rfl,rfl⟩:=hcs
   exact⟨[], .inl ⟨rfl,rfl,rfl,rfl⟩,Nat.zero_le _⟩
  ·simp[Value.cells]at hcs
   obtain⟨rfl,rfl,rfl⟩:=hcs
   have had:=Go.Am.yk7 Tryz.underlying22 (hval 4 22 _ rfl rfl)
   exact⟨zs, .inr ⟨_,rfl,had.1,had.2,hl,by simpa using hz,hcell⟩,Nat.le_trans hl hm⟩
 obtain⟨a5,len5,cap5,rfl⟩:=okWide_slice Tryz.underlying22 (hval 5 22 v5 rfl rfl)
 have k5:=h5
 have lt5: ∀x∈p5,x.block<W.heap.size:=by obtain⟨m,hm⟩:=k5;exact DataW.trod_lt m _ _ _ hm
 obtain⟨z5,w5⟩: ∃zs,IsRow W a5 len5 cap5 zs:=by
  obtain⟨fuel,hf⟩:=h5
  rcases open_ints Tryz.underlying22 Tryz.underlying3 (by kernel_rfl) hf with⟨hcs,_⟩|⟨x,l,c,zs,hcs,_,hl,hm,hz,_,hcell,hwz⟩
  ·simp[Value.cells]at hcs
   obtain⟨rfl,rfl,rfl⟩:=hcs
   exact⟨[], .inl ⟨rfl,rfl,rfl,rfl⟩,Nat.zero_le _⟩
  ·simp[Value.cells]at hcs
   obtain⟨rfl,rfl,rfl⟩:=hcs
   have had:=Go.Am.yk7 Tryz.underlying22 (hval 5 22 _ rfl rfl)
   exact⟨zs, .inr ⟨_,rfl,had.1,had.2,hl,by simpa using hz,hcell⟩,Nat.le_trans hl hm⟩
 obtain⟨a6,len6,cap6,rfl⟩:=okWide_slice Tryz.underlying23 (hval 6 23 v6 rfl rfl)
 have k6:=h6
 have lt6: ∀x∈p6,x.block<W.heap.size:=by obtain⟨m,hm⟩:=k6;exact DataW.trod_lt m _ _ _ hm
 obtain⟨z6,w6⟩: ∃ll,IsRows W a6 len6 cap6 ll:=by
  obtain⟨fuel,hf⟩:=h6
  rcases open_int_rows Tryz.underlying23 Tryz.underlying22 Tryz.underlying3 (by kernel_rfl) (by kernel_rfl) hf with⟨hcs,_⟩|⟨x,l,c,Ad,Ln,Cp,Z,hcs,_,hl,hm,_,hrow⟩
  ·simp[Value.cells]at hcs
   obtain⟨rfl,rfl,rfl⟩:=hcs
   exact⟨[],⟨rfl, .inl ⟨rfl,rfl,rfl⟩⟩,Nat.zero_le _,fun _ h=>absurd h List.not_mem_nil⟩
  ·simp[Value.cells]at hcs
   obtain⟨rfl,rfl,rfl⟩:=hcs
   have had:=Go.Am.yk7 Tryz.underlying23 (hval 6 23 _ rfl rfl)
   refine⟨_,Go.Am.RoL.of had.1 had.2 hl hrow,Nat.le_trans hl hm,fun l' hl'=> ?_⟩
   obtain⟨r,hr,rfl⟩:=List.mem_map.1 hl'
   have:=List.mem_range.1 hr
   obtain⟨_,g1,g2,g3,_⟩:=hrow r (by omega)
   rw[List.length_take]
   omega
 obtain⟨a7,rfl,rfl,rfl,w7⟩:=open_int Tryz.underlying3 (hval 7 3 v7 rfl rfl) h7
 obtain⟨a8,len8,cap8,rfl⟩:=okWide_slice Tryz.underlying22 (hval 8 22 v8 rfl rfl)
 have k8:=h8
 have lt8: ∀x∈p8,x.block<W.heap.size:=by obtain⟨m,hm⟩:=k8;exact DataW.trod_lt m _ _ _ hm
 obtain⟨z8,w8⟩: ∃zs,IsRow W a8 len8 cap8 zs:=by
  obtain⟨fuel,hf⟩:=h8
  rcases open_ints Tryz.underlying22 Tryz.underlying3 (by kernel_rfl) hf with⟨hcs,_⟩|⟨x,l,c,zs,hcs,_,hl,hm,hz,_,hcell,hwz⟩
  ·simp[Value.cells]at hcs
   obtain⟨rfl,rfl,rfl⟩:=hcs
   exact⟨[], .inl ⟨rfl,rfl,rfl,rfl⟩,Nat.zero_le _⟩
  ·simp[Value.cells]at hcs
   obtain⟨rfl,rfl,rfl⟩:=hcs
   have had:=Go.Am.yk7 Tryz.underlying22 (hval 8 22 _ rfl rfl)
   exact⟨zs, .inr ⟨_,rfl,had.1,had.2,hl,by simpa using hz,hcell⟩,Nat.le_trans hl hm⟩
 clear hA0 hval0
 refine(walk a0 a1 a2 a3 a4 len4 cap4 z4 a5 len5 cap5 z5 a6 len6 cap6 z6 a7 a8 len8 cap8 z8 W w0 w1 w2 w3 w4 w5 w6 w7 w8).mono fun e W' ⟨he,bel⟩=> ?_
 subst he
 exact⟨_,rfl,_,_,_,[],_,[],hW',trodAll_mk1 (shut_bool Tryz.underlying4 _),(trodAll_cons_mk (shut_int Tryz.underlying3 w0) (trodAll_cons_mk (shut_int Tryz.underlying3 w1) (trodAll_cons_mk (shut_int Tryz.underlying3 w2) (trodAll_cons_mk (shut_int Tryz.underlying3 w3) (trodAll_cons_mk (Below.trod laidOut (by kernel_rfl) (of_decide_eq_true (by kernel_rfl)) k4 bel lt4) (trodAll_cons_mk (Below.trod laidOut (by kernel_rfl) (of_decide_eq_true (by kernel_rfl)) k5 bel lt5) (trodAll_cons_mk (Below.trod laidOut (by kernel_rfl) (of_decide_eq_true (by kernel_rfl)) k6 bel lt6) (trodAll_cons_mk (shut_int Tryz.underlying3 w7) (trodAll_cons_mk (Below.trod laidOut (by kernel_rfl) (of_decide_eq_true (by kernel_rfl)) k8 bel lt8) trodAll_mk0))))))))),rfl,bel.frame _,fun h=>by cases h⟩
theorem over:Rows.storeSaysRow.holds Tryz.pinned (OpenSpec.ofChange Rows.storeSaysSpec):=
 OpenClaim.holds_of_wide 3 Tryz.f3 rfl rfl rfl rfl rfl rfl rfl ⟨rfl,rfl,rfl,rfl,rfl⟩ rfl rfl rfl rfl rfl (by kernel_rfl) Tryz.func3 (by kernel_rfl)
  (of_decide_eq_true (by kernel_rfl)) (by unfold Func.isWrapper;first|(rw[if_pos (by decide+kernel)];kernel_rfl)|(rw[if_neg (by decide+kernel)];exact⟨rfl,rfl⟩))
  (fun os started H enc _=>lifted os started H enc)
/-- ████ THE STATEMENT ████ -/
theorem proved:Rows.StoreSaysSaid:=over
#print axioms proved
end Go.Proofs.YtmhbpecdpiapgaaGreat.storeSays
