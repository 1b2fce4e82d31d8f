/-
  TopBCH answers true for all arguments. No condition. The frame is the kit's; the walk is mine.
-/
import Derived.Test.YtppbpgmdmiajcaaGreatK0
import Derived.Test.YtppbpgmdmiajcaaGreatK10
import Derived.Test.YtppbpgmdmiajcaaGreatK6
import Derived.Test.YtppbpgmdmiajcaaGreatRows
import Derived.WalkKit
import Derived.ProofKit
import Derived.OpenShut
import Derived.ShutString
import Derived.ChangeOld
import Derived.Below
import Derived.Deep.Matrix
namespace Go.Proofs.YtppbpgmdmiajcaaGreat.topBCH
open Go.ChangeShapes Go.WideShapes Go.ChangeAt Go.RowKit Go.Deep
open Go.ChangeMaps (open_string shut_string)
set_option linter.unusedVariables false
theorem own:ownKnob Tryz.prog.godebug=none:=by kernel_rfl
theorem laidOut:laidOutB Tryz.prog=true:=by kernel_rfl
def IsRow(w:World)(a:Option Addr)(len cap:Nat)(zs:List Int):Prop:=
 Go.Am.RoI .i64 w a len cap zs∧len≤maxLen
def IsRows(w:World)(a:Option Addr)(len cap:Nat)(ll:List (List Int)):Prop:=
 Go.Am.RoL w a len cap ll∧len≤maxLen∧ ∀l∈ll,l.length≤maxLen
theorem max_is:maxLen=9223372036854775807:=by kernel_rfl
theorem walk(a0:Int)(a1:Int)(a2:Int)(w:World)(w0:(Lit.int .i64 a0).wf=true)(w1:(Lit.int .i64 a1).wf=true)(w2:(Lit.int .i64 a2).wf=true):
 Calls Tryz.prog 6 #[.int .i64 a0, .int .i64 a1, .int .i64 a2] w fun e w'=>e= .returned (.bool true)∧Below w.heap.size w w':=by
 have mx:=max_is
 obtain⟨h',hc⟩:=p44 [] a0 (Go.Am.t86 w0).1 (Go.Am.t86 w0).2 a1 (Go.Am.t86 w1).1 (Go.Am.t86 w1).2 a2 (Go.Am.t86 w2).1 (Go.Am.t86 w2).2
 exact Go.Am.pz2 b41 mixed hc (.cons (.int ..) (.cons (.int ..) (.cons (.int ..) (.nil ..)))) w
set_option maxRecDepth 100000 in
theorem lifted(os:Os)(started:os.Started)(H:Type)(enc:TypeId×Value→H):
 ReturnsInHanded {} Tryz.checked os 6 .any (Rows.topBCHSpec.pre6 enc Tryz.prog Tryz.f6 Rows.topBCHRow.domain false) (Rows.topBCHSpec.post enc Tryz.prog Tryz.f6 false true false false):=by
 refine returnsInHanded_of_change (C:=Tryz.checked) own started (by kernel_rfl) Tryz.func6
  (ChangeSpec.witness6 (enc:=enc) (C:=Tryz.checked) false ⟨#[], #[.int .i64 0, .int .i64 0, .int .i64 0],[]⟩ 8 (by kernel_rfl) (by kernel_rfl) (by kernel_rfl) (by kernel_rfl)) ?_
 intro W base args ds gs before hval0 hW hcnd _
 have hval: ∀(j:Nat) t v,Tryz.f6.params[j]? =some t→args[j]? =some v→Value.okWide Tryz.prog W .any base t v:=hval0
 have hW':=hW
 obtain⟨p,q,hA0,hV,rfl,hfz,hnd⟩:=hW
 have hA:DataW.TrodAll enc Tryz.prog W 0 (fun _=>true) true Tryz.f6.params.toList args.toList ds p:=hA0
 rw[Tryz.params6]at hA hval
 obtain⟨v0,vs0,d0,ds0,p0,q0,hargs,rfl,rfl,h0,r0⟩:=trodAll_cons hA
 obtain⟨v1,vs1,d1,ds1,p1,q1,rfl,rfl,rfl,h1,r1⟩:=trodAll_cons r0
 obtain⟨v2,vs2,d2,ds2,p2,q2,rfl,rfl,rfl,h2,r2⟩:=trodAll_cons r1
 obtain⟨rfl,rfl,rfl⟩:=trodAll_nil r2
 obtain rfl:args= #[v0,v1,v2]:=by cases args;simp_all
 obtain⟨rfl,rfl⟩:=trodVars_none hV
 obtain⟨a0,rfl,rfl,rfl,w0⟩:=open_int Tryz.underlying3 (hval 0 3 v0 rfl rfl) h0
 obtain⟨a1,rfl,rfl,rfl,w1⟩:=open_int Tryz.underlying3 (hval 1 3 v1 rfl rfl) h1
 obtain⟨a2,rfl,rfl,rfl,w2⟩:=open_int Tryz.underlying3 (hval 2 3 v2 rfl rfl) h2
 clear hA0 hval0
 refine(walk a0 a1 a2 W w0 w1 w2).mono fun e W' ⟨he,bel⟩=> ?_
 subst he
 exact⟨_,rfl,_,_,_,[],_,[],hW',trodAll_mk1 (shut_bool Tryz.underlying4 _),(trodAll_cons_mk (shut_int Tryz.underlying3 w0) (trodAll_cons_mk (shut_int Tryz.underlying3 w1) (trodAll_cons_mk (shut_int Tryz.underlying3 w2) trodAll_mk0))),rfl,bel.frame _,fun h=>by cases h⟩
theorem over:Rows.topBCHRow.holds Tryz.pinned (OpenSpec.ofChange Rows.topBCHSpec):=
 OpenClaim.holds_of_wide 6 Tryz.f6 rfl rfl rfl rfl rfl rfl rfl ⟨rfl,rfl,rfl,rfl,rfl⟩ rfl rfl rfl rfl rfl (by kernel_rfl) Tryz.func6 (by kernel_rfl)
  (of_decide_eq_true (by kernel_rfl)) (by unfold Func.isWrapper;first|(rw[if_pos (by decide+kernel)];kernel_rfl)|(rw[if_neg (by decide+kernel)];exact⟨rfl,rfl⟩))
  (fun os started H enc _=>lifted os started H enc)
/-- ████ THE STATEMENT ████ -/
theorem proved:Rows.TopBCHSaid:=over
#print axioms proved
end Go.Proofs.YtppbpgmdmiajcaaGreat.topBCH
