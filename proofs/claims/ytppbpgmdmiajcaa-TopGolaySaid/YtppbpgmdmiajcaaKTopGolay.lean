/-
  TopGolay answers true for all arguments. No condition. The frame is the kit's; the walk is mine.
-/
import Derived.Test.YtppbpgmdmiajcaaK0
import Derived.Test.YtppbpgmdmiajcaaK10
import Derived.Test.YtppbpgmdmiajcaaK6
import Derived.Test.YtppbpgmdmiajcaaRows
import Derived.WalkKit
import Derived.ProofKit
import Derived.OpenShut
import Derived.ShutString
import Derived.ChangeOld
import Derived.Below
import Derived.Deep.Matrix
namespace Go.Proofs.Ytppbpgmdmiajcaa.topGolay
open Go.ChangeShapes Go.WideShapes Go.ChangeAt Go.RowKit Go.Deep
open Go.ChangeMaps (open_string shut_string)
set_option linter.unusedVariables false
theorem own:ownKnob Try.prog.godebug=none:=by kernel_rfl
theorem laidOut:laidOutB Try.prog=true:=by kernel_rfl
def IsRow(w:World)(a:Option Addr)(len cap:Nat)(zs:List Int):Prop:=
 Go.Am.RoI .i64 w a len cap zs∧len≤maxLen
def IsRows(w:World)(a:Option Addr)(len cap:Nat)(ll:List (List Int)):Prop:=
 Go.Am.RoL w a len cap ll∧len≤maxLen∧ ∀l∈ll,l.length≤maxLen
theorem max_is:maxLen=9223372036854775807:=by kernel_rfl
theorem walk(a0:Int)(a1:Option Addr)(len1 cap1:Nat)(z1:List Int)(a2:Option Addr)(len2 cap2:Nat)(z2:List Int)(a3:Bool)(w:World)(w0:(Lit.int .i64 a0).wf=true)(w1:IsRow w a1 len1 cap1 z1)(w2:IsRow w a2 len2 cap2 z2):
 Calls Try.prog 3 #[.int .i64 a0, .slice a1 len1 cap1, .slice a2 len2 cap2, .bool a3] w fun e w'=>e= .returned (.bool true)∧Below w.heap.size w w':=by
 have mx:=max_is
 obtain⟨r1,l1⟩:=w1
 obtain⟨φ1,h1,s1,x1,p1,hh1,v1,d1,u1,n1⟩:=Go.Am.q97 (φ:=Go.Am.φ0) rfl (Go.Am.HR.start _ w) r1 3
 obtain⟨r2,l2⟩:=w2
 obtain⟨φ2,h2,s2,x2,p2,hh2,v2,d2,u2,n2⟩:=Go.Am.q97 rfl hh1 r2 3
 obtain⟨h',hc⟩:=qe3 h2 a0 (Go.Am.ua3 w0).1 (Go.Am.ua3 w0).2 s1 cap1 (z1.take len1) (d1.mono (p2)).i64 (Go.Am.r99 u1 (p2)) (by rw[n1];omega) s2 cap2 (z2.take len2) d2.i64 u2 (by rw[n2];omega) a3
 rw[n1,n2]at hc
 exact Go.Am.vp5 b41 mixed hc (.cons (.int ..) (.cons (v1.mono x2 p2.length_le) (.cons v2 (.cons (.bool ..) (.nil ..))))) hh2
set_option maxRecDepth 100000 in
theorem lifted(os:Os)(started:os.Started)(H:Type)(enc:TypeId×Value→H):
 ReturnsInHanded {} Try.checked os 3 .any (Rows.topGolaySpec.pre6 enc Try.prog Try.f3 Rows.topGolayRow.domain false) (Rows.topGolaySpec.post enc Try.prog Try.f3 false true false false):=by
 refine returnsInHanded_of_change (C:=Try.checked) own started (by kernel_rfl) Try.func3
  (ChangeSpec.witness6 (enc:=enc) (C:=Try.checked) false ⟨#[], #[.int .i64 0, .slice none 0 0, .slice none 0 0, .bool false],[]⟩ 8 (by kernel_rfl) (by kernel_rfl) (by kernel_rfl) (by kernel_rfl)) ?_
 intro W base args ds gs before hval0 hW hcnd _
 have hval: ∀(j:Nat) t v,Try.f3.params[j]? =some t→args[j]? =some v→Value.okWide Try.prog W .any base t v:=hval0
 have hW':=hW
 obtain⟨p,q,hA0,hV,rfl,hfz,hnd⟩:=hW
 have hA:DataW.TrodAll enc Try.prog W 0 (fun _=>true) true Try.f3.params.toList args.toList ds p:=hA0
 rw[Try.params3]at hA hval
 obtain⟨v0,vs0,d0,ds0,p0,q0,hargs,rfl,rfl,h0,r0⟩:=trodAll_cons hA
 obtain⟨v1,vs1,d1,ds1,p1,q1,rfl,rfl,rfl,h1,r1⟩:=trodAll_cons r0
 obtain⟨v2,vs2,d2,ds2,p2,q2,rfl,rfl,rfl,h2,r2⟩:=trodAll_cons r1
 obtain⟨v3,vs3,d3,ds3,p3,q3,rfl,rfl,rfl,h3,r3⟩:=trodAll_cons r2
 obtain⟨rfl,rfl,rfl⟩:=trodAll_nil r3
 obtain rfl:args= #[v0,v1,v2,v3]:=by cases args;simp_all
 obtain⟨rfl,rfl⟩:=trodVars_none hV
 obtain⟨a0,rfl,rfl,rfl,w0⟩:=open_int Try.underlying3 (hval 0 3 v0 rfl rfl) h0
 obtain⟨a1,len1,cap1,rfl⟩:=okWide_slice Try.underlying22 (hval 1 22 v1 rfl rfl)
 have k1:=h1
 have lt1: ∀x∈p1,x.block<W.heap.size:=by obtain⟨m,hm⟩:=k1;exact DataW.trod_lt m _ _ _ hm
 obtain⟨z1,w1⟩: ∃zs,IsRow W a1 len1 cap1 zs:=by
  obtain⟨fuel,hf⟩:=h1
  rcases open_ints Try.underlying22 Try.underlying3 (by kernel_rfl) hf with⟨hcs,_⟩|⟨x,l,c,zs,hcs,_,hl,hm,hz,_,hcell,hwz⟩
  ·simp[Value.cells]at hcs
   obtain⟨rfl,rfl,rfl⟩:=hcs
   exact⟨[], .inl ⟨rfl,rfl,rfl,rfl⟩,ms7 _⟩
  ·simp[Value.cells]at hcs
   obtain⟨rfl,rfl,rfl⟩:=hcs
   have had:=Go.Am.yk7 Try.underlying22 (hval 1 22 _ rfl rfl)
   exact⟨zs, .inr ⟨_,rfl,had.1,had.2,hl,by simpa using hz,hcell⟩,md7 hl hm⟩
 obtain⟨a2,len2,cap2,rfl⟩:=okWide_slice Try.underlying22 (hval 2 22 v2 rfl rfl)
 have k2:=h2
 have lt2: ∀x∈p2,x.block<W.heap.size:=by obtain⟨m,hm⟩:=k2;exact DataW.trod_lt m _ _ _ hm
 obtain⟨z2,w2⟩: ∃zs,IsRow W a2 len2 cap2 zs:=by
  obtain⟨fuel,hf⟩:=h2
  rcases open_ints Try.underlying22 Try.underlying3 (by kernel_rfl) hf with⟨hcs,_⟩|⟨x,l,c,zs,hcs,_,hl,hm,hz,_,hcell,hwz⟩
  ·simp[Value.cells]at hcs
   obtain⟨rfl,rfl,rfl⟩:=hcs
   exact⟨[], .inl ⟨rfl,rfl,rfl,rfl⟩,ms7 _⟩
  ·simp[Value.cells]at hcs
   obtain⟨rfl,rfl,rfl⟩:=hcs
   have had:=Go.Am.yk7 Try.underlying22 (hval 2 22 _ rfl rfl)
   exact⟨zs, .inr ⟨_,rfl,had.1,had.2,hl,by simpa using hz,hcell⟩,md7 hl hm⟩
 obtain⟨a3,rfl,rfl,rfl⟩:=open_bool Try.underlying4 (hval 3 4 v3 rfl rfl) h3
 clear hA0 hval0
 refine(walk a0 a1 len1 cap1 z1 a2 len2 cap2 z2 a3 W w0 w1 w2).mono fun e W' ⟨he,bel⟩=> ?_
 subst he
 exact⟨_,rfl,_,_,_,[],_,[],hW',trodAll_mk1 (shut_bool Try.underlying4 _),(trodAll_cons_mk (shut_int Try.underlying3 w0) (trodAll_cons_mk (Below.trod laidOut (by kernel_rfl) (kb3 (by kernel_rfl)) k1 bel lt1) (trodAll_cons_mk (Below.trod laidOut (by kernel_rfl) (kb3 (by kernel_rfl)) k2 bel lt2) (trodAll_cons_mk (shut_bool Try.underlying4 _) trodAll_mk0)))),rfl,bel.frame _,fun h=>by cases h⟩
theorem over:Rows.topGolayRow.holds Try.pinned (OpenSpec.ofChange Rows.topGolaySpec):=
 OpenClaim.holds_of_wide 3 Try.f3 rfl rfl rfl rfl rfl rfl rfl ⟨rfl,rfl,rfl,rfl,rfl⟩ rfl rfl rfl rfl rfl (by kernel_rfl) Try.func3 (by kernel_rfl)
  (kb3 (by kernel_rfl)) (by unfold Func.isWrapper;first|(rw[if_pos (by decide+kernel)];kernel_rfl)|(rw[if_neg (by decide+kernel)];exact⟨rfl,rfl⟩))
  (fun os started H enc _=>lifted os started H enc)
/-- ████ THE STATEMENT ████ -/
theorem proved:Rows.TopGolaySaid:=over
#print axioms proved
end Go.Proofs.Ytppbpgmdmiajcaa.topGolay
