/-
  TopTurned answers true for all arguments. No condition. The frame is the kit's; the walk is mine.
-/
import Derived.Test.YtppbpgmdmiajcaaGreatK0
import Derived.Test.YtppbpgmdmiajcaaGreatK10
import Derived.Test.YtppbpgmdmiajcaaGreatK6
import Derived.Test.YtppbpgmdmiajcaaGreatRows
import Derived.WalkKit
import Derived.ProofKit
import Derived.OpenShut
import Derived.ShutString
import Derived.ChangeOld
import Derived.Below
import Derived.Deep.Matrix
namespace Go.Proofs.YtppbpgmdmiajcaaGreat.topTurned
open Go.ChangeShapes Go.WideShapes Go.ChangeAt Go.RowKit Go.Deep
open Go.ChangeMaps (open_string shut_string)
set_option linter.unusedVariables false
theorem own:ownKnob Tryz.prog.godebug=none:=by kernel_rfl
theorem laidOut:laidOutB Tryz.prog=true:=by kernel_rfl
def IsRow(w:World)(a:Option Addr)(len cap:Nat)(zs:List Int):Prop:=
 Go.Am.RoI .i64 w a len cap zs∧len≤maxLen
def IsRows(w:World)(a:Option Addr)(len cap:Nat)(ll:List (List Int)):Prop:=
 Go.Am.RoL w a len cap ll∧len≤maxLen∧ ∀l∈ll,l.length≤maxLen
theorem max_is:maxLen=9223372036854775807:=by kernel_rfl
theorem walk(a0:Option Addr)(len0 cap0:Nat)(z0:List Int)(a1:Int)(a2:Int)(a3:Option Addr)(len3 cap3:Nat)(z3:List Int)(w:World)(w0:IsRow w a0 len0 cap0 z0)(w1:(Lit.int .i64 a1).wf=true)(w2:(Lit.int .i64 a2).wf=true)(w3:IsRow w a3 len3 cap3 z3):
 Calls Tryz.prog 5 #[.slice a0 len0 cap0, .int .i64 a1, .int .i64 a2, .slice a3 len3 cap3] w fun e w'=>e= .returned (.bool true)∧Below w.heap.size w w':=by
 have mx:=max_is
 obtain⟨r0,l0⟩:=w0
 obtain⟨φ0,h0,s0,x0,p0,hh0,v0,d0,u0,n0⟩:=Go.Am.q97 (φ:=Go.Am.φ0) rfl (Go.Am.HR.start _ w) r0 3
 obtain⟨r3,l3⟩:=w3
 obtain⟨φ3,h3,s3,x3,p3,hh3,v3,d3,u3,n3⟩:=Go.Am.q97 rfl hh0 r3 3
 obtain⟨h',hc⟩:=nu8 h3 s0 cap0 (z0.take len0) (d0.mono (p3)).i64 (Go.Am.r99 u0 (p3)) (by rw[n0];omega) a1 (Go.Am.t86 w1).1 (Go.Am.t86 w1).2 a2 (Go.Am.t86 w2).1 (Go.Am.t86 w2).2 s3 cap3 (z3.take len3) d3.i64 u3 (by rw[n3];omega)
 rw[n0,n3]at hc
 exact Go.Am.vp5 b41 mixed hc (.cons (v0.mono x3 p3.length_le) (.cons (.int ..) (.cons (.int ..) (.cons v3 (.nil ..))))) hh3
set_option maxRecDepth 100000 in
theorem lifted(os:Os)(started:os.Started)(H:Type)(enc:TypeId×Value→H):
 ReturnsInHanded {} Tryz.checked os 5 .any (Rows.topTurnedSpec.pre6 enc Tryz.prog Tryz.f5 Rows.topTurnedRow.domain false) (Rows.topTurnedSpec.post enc Tryz.prog Tryz.f5 false true false false):=by
 refine returnsInHanded_of_change (C:=Tryz.checked) own started (by kernel_rfl) Tryz.func5
  (ChangeSpec.witness6 (enc:=enc) (C:=Tryz.checked) false ⟨#[], #[.slice none 0 0, .int .i64 0, .int .i64 0, .slice none 0 0],[]⟩ 8 (by kernel_rfl) (by kernel_rfl) (by kernel_rfl) (by kernel_rfl)) ?_
 intro W base args ds gs before hval0 hW hcnd _
 have hval: ∀(j:Nat) t v,Tryz.f5.params[j]? =some t→args[j]? =some v→Value.okWide Tryz.prog W .any base t v:=hval0
 have hW':=hW
 obtain⟨p,q,hA0,hV,rfl,hfz,hnd⟩:=hW
 have hA:DataW.TrodAll enc Tryz.prog W 0 (fun _=>true) true Tryz.f5.params.toList args.toList ds p:=hA0
 rw[Tryz.params5]at hA hval
 obtain⟨v0,vs0,d0,ds0,p0,q0,hargs,rfl,rfl,h0,r0⟩:=trodAll_cons hA
 obtain⟨v1,vs1,d1,ds1,p1,q1,rfl,rfl,rfl,h1,r1⟩:=trodAll_cons r0
 obtain⟨v2,vs2,d2,ds2,p2,q2,rfl,rfl,rfl,h2,r2⟩:=trodAll_cons r1
 obtain⟨v3,vs3,d3,ds3,p3,q3,rfl,rfl,rfl,h3,r3⟩:=trodAll_cons r2
 obtain⟨rfl,rfl,rfl⟩:=trodAll_nil r3
 obtain rfl:args= #[v0,v1,v2,v3]:=by cases args;simp_all
 obtain⟨rfl,rfl⟩:=trodVars_none hV
 obtain⟨a0,len0,cap0,rfl⟩:=okWide_slice Tryz.underlying22 (hval 0 22 v0 rfl rfl)
 have k0:=h0
 have lt0: ∀x∈p0,x.block<W.heap.size:=by obtain⟨m,hm⟩:=k0;exact DataW.trod_lt m _ _ _ hm
 obtain⟨z0,w0⟩: ∃zs,IsRow W a0 len0 cap0 zs:=by
  obtain⟨fuel,hf⟩:=h0
  rcases open_ints Tryz.underlying22 Tryz.underlying3 (by kernel_rfl) hf with⟨hcs,_⟩|⟨x,l,c,zs,hcs,_,hl,hm,hz,_,hcell,hwz⟩
  ·simp[Value.cells]at hcs
   obtain⟨rfl,rfl,rfl⟩:=hcs
   exact⟨[], .inl ⟨rfl,rfl,rfl,rfl⟩,ms7 _⟩
  ·simp[Value.cells]at hcs
   obtain⟨rfl,rfl,rfl⟩:=hcs
   have had:=Go.Am.yk7 Tryz.underlying22 (hval 0 22 _ rfl rfl)
   exact⟨zs, .inr ⟨_,rfl,had.1,had.2,hl,by simpa using hz,hcell⟩,md7 hl hm⟩
 obtain⟨a1,rfl,rfl,rfl,w1⟩:=open_int Tryz.underlying3 (hval 1 3 v1 rfl rfl) h1
 obtain⟨a2,rfl,rfl,rfl,w2⟩:=open_int Tryz.underlying3 (hval 2 3 v2 rfl rfl) h2
 obtain⟨a3,len3,cap3,rfl⟩:=okWide_slice Tryz.underlying22 (hval 3 22 v3 rfl rfl)
 have k3:=h3
 have lt3: ∀x∈p3,x.block<W.heap.size:=by obtain⟨m,hm⟩:=k3;exact DataW.trod_lt m _ _ _ hm
 obtain⟨z3,w3⟩: ∃zs,IsRow W a3 len3 cap3 zs:=by
  obtain⟨fuel,hf⟩:=h3
  rcases open_ints Tryz.underlying22 Tryz.underlying3 (by kernel_rfl) hf with⟨hcs,_⟩|⟨x,l,c,zs,hcs,_,hl,hm,hz,_,hcell,hwz⟩
  ·simp[Value.cells]at hcs
   obtain⟨rfl,rfl,rfl⟩:=hcs
   exact⟨[], .inl ⟨rfl,rfl,rfl,rfl⟩,ms7 _⟩
  ·simp[Value.cells]at hcs
   obtain⟨rfl,rfl,rfl⟩:=hcs
   have had:=Go.Am.yk7 Tryz.underlying22 (hval 3 22 _ rfl rfl)
   exact⟨zs, .inr ⟨_,rfl,had.1,had.2,hl,by simpa using hz,hcell⟩,md7 hl hm⟩
 clear hA0 hval0
 refine(walk a0 len0 cap0 z0 a1 a2 a3 len3 cap3 z3 W w0 w1 w2 w3).mono fun e W' ⟨he,bel⟩=> ?_
 subst he
 exact⟨_,rfl,_,_,_,[],_,[],hW',trodAll_mk1 (shut_bool Tryz.underlying4 _),(trodAll_cons_mk (Below.trod laidOut (by kernel_rfl) (kb3 (by kernel_rfl)) k0 bel lt0) (trodAll_cons_mk (shut_int Tryz.underlying3 w1) (trodAll_cons_mk (shut_int Tryz.underlying3 w2) (trodAll_cons_mk (Below.trod laidOut (by kernel_rfl) (kb3 (by kernel_rfl)) k3 bel lt3) trodAll_mk0)))),rfl,bel.frame _,fun h=>by cases h⟩
theorem over:Rows.topTurnedRow.holds Tryz.pinned (OpenSpec.ofChange Rows.topTurnedSpec):=
 OpenClaim.holds_of_wide 5 Tryz.f5 rfl rfl rfl rfl rfl rfl rfl ⟨rfl,rfl,rfl,rfl,rfl⟩ rfl rfl rfl rfl rfl (by kernel_rfl) Tryz.func5 (by kernel_rfl)
  (kb3 (by kernel_rfl)) (by unfold Func.isWrapper;first|(rw[if_pos (by decide+kernel)];kernel_rfl)|(rw[if_neg (by decide+kernel)];exact⟨rfl,rfl⟩))
  (fun os started H enc _=>lifted os started H enc)
/-- ████ THE STATEMENT ████ -/
theorem proved:Rows.TopTurnedSaid:=over
#print axioms proved
end Go.Proofs.YtppbpgmdmiajcaaGreat.topTurned
