/-
  GolayDesigns answers true for all arguments. No condition. The frame is the kit's; the walk is mine.
-/
import Derived.Test.YtodbgomfeacdhaaK7
import Derived.Test.YtodbgomfeacdhaaK5
import Derived.Test.YtodbgomfeacdhaaRows
import Derived.WalkKit
import Derived.ProofKit
import Derived.OpenShut
import Derived.ShutString
import Derived.ChangeOld
import Derived.Below
import Derived.Deep.Matrix
namespace Go.Proofs.Ytodbgomfeacdhaa.golayDesigns
open Go.ChangeShapes Go.WideShapes Go.ChangeAt Go.RowKit Go.Deep
open Go.ChangeMaps (open_string shut_string)
set_option linter.unusedVariables false
theorem own:ownKnob Try.prog.godebug=none:=by kernel_rfl
theorem laidOut:laidOutB Try.prog=true:=by kernel_rfl
def IsRow(w:World)(a:Option Addr)(len cap:Nat)(zs:List Int):Prop:=
 Go.Am.RoI .i64 w a len cap zs∧len≤maxLen
def IsRows(w:World)(a:Option Addr)(len cap:Nat)(ll:List (List Int)):Prop:=
 Go.Am.RoL w a len cap ll∧len≤maxLen∧ ∀l∈ll,l.length≤maxLen
theorem max_is:maxLen=9223372036854775807:=by kernel_rfl
theorem walk(a0:Int)(a1:Option Addr)(len1 cap1:Nat)(z1:List (List Int))(a2:Int)(w:World)(w0:(Lit.int .i64 a0).wf=true)(w1:IsRows w a1 len1 cap1 z1)(w2:(Lit.int .i64 a2).wf=true):
 Calls Try.prog 5 #[.int .i64 a0, .slice a1 len1 cap1, .int .i64 a2] w fun e w'=>e= .returned (.bool true)∧Below w.heap.size w w':=by
 have mx:=max_is
 obtain⟨r1,l1,e1⟩:=w1
 obtain⟨φ1,h1,s1,x1,p1,hh1,v1,d1,u1⟩:=Go.Am.du6 (φ:=Go.Am.φ0) rfl (Go.Am.HR.start _ w) r1 3 3
 have n1:=r1.1
 obtain⟨h',hc⟩:=xe5 h1 a0 (Go.Am.ua1 w0).1 (Go.Am.ua1 w0).2 s1 cap1 z1 d1 u1 (by rw[n1];omega) (fun l hl=>by have:=e1 l hl;omega) a2 (Go.Am.ua1 w2).1 (Go.Am.ua1 w2).2
 rw[n1]at hc
 exact Go.Am.vp5 b41 mixed hc (.cons (.int ..) (.cons v1 (.cons (.int ..) (.nil ..)))) hh1
set_option maxRecDepth 100000 in
theorem lifted(os:Os)(started:os.Started)(H:Type)(enc:TypeId×Value→H):
 ReturnsInHanded {} Try.checked os 5 .any (Rows.golayDesignsSpec.pre6 enc Try.prog Try.f5 Rows.golayDesignsRow.domain false) (Rows.golayDesignsSpec.post enc Try.prog Try.f5 false true false false):=by
 refine returnsInHanded_of_change (C:=Try.checked) own started (by kernel_rfl) Try.func5
  (ChangeSpec.witness6 (enc:=enc) (C:=Try.checked) false ⟨#[], #[.int .i64 0, .slice none 0 0, .int .i64 0],[]⟩ 8 (by kernel_rfl) (by kernel_rfl) (by kernel_rfl) (by kernel_rfl)) ?_
 intro W base args ds gs before hval0 hW hcnd _
 have hval: ∀(j:Nat) t v,Try.f5.params[j]? =some t→args[j]? =some v→Value.okWide Try.prog W .any base t v:=hval0
 have hW':=hW
 obtain⟨p,q,hA0,hV,rfl,hfz,hnd⟩:=hW
 have hA:DataW.TrodAll enc Try.prog W 0 (fun _=>true) true Try.f5.params.toList args.toList ds p:=hA0
 rw[Try.params5]at hA hval
 obtain⟨v0,vs0,d0,ds0,p0,q0,hargs,rfl,rfl,h0,r0⟩:=trodAll_cons hA
 obtain⟨v1,vs1,d1,ds1,p1,q1,rfl,rfl,rfl,h1,r1⟩:=trodAll_cons r0
 obtain⟨v2,vs2,d2,ds2,p2,q2,rfl,rfl,rfl,h2,r2⟩:=trodAll_cons r1
 obtain⟨rfl,rfl,rfl⟩:=trodAll_nil r2
 obtain rfl:args= #[v0,v1,v2]:=by cases args;simp_all
 obtain⟨rfl,rfl⟩:=trodVars_none hV
 obtain⟨a0,rfl,rfl,rfl,w0⟩:=open_int Try.underlying3 (hval 0 3 v0 rfl rfl) h0
 obtain⟨a1,len1,cap1,rfl⟩:=okWide_slice Try.underlying23 (hval 1 23 v1 rfl rfl)
 have k1:=h1
 have lt1: ∀x∈p1,x.block<W.heap.size:=by obtain⟨m,hm⟩:=k1;exact DataW.trod_lt m _ _ _ hm
 obtain⟨z1,w1⟩: ∃ll,IsRows W a1 len1 cap1 ll:=by
  obtain⟨fuel,hf⟩:=h1
  rcases open_int_rows Try.underlying23 Try.underlying28 Try.underlying3 (by kernel_rfl) (by kernel_rfl) hf with⟨hcs,_⟩|⟨x,l,c,Ad,Ln,Cp,Z,hcs,_,hl,hm,_,hrow⟩
  ·simp[Value.cells]at hcs
   obtain⟨rfl,rfl,rfl⟩:=hcs
   exact⟨[],⟨rfl, .inl ⟨rfl,rfl,rfl⟩⟩,Nat.zero_le _,fun _ h=>absurd h List.not_mem_nil⟩
  ·simp[Value.cells]at hcs
   obtain⟨rfl,rfl,rfl⟩:=hcs
   have had:=Go.Am.yk7 Try.underlying23 (hval 1 23 _ rfl rfl)
   refine⟨_,Go.Am.RoL.of had.1 had.2 hl hrow,Nat.le_trans hl hm,fun l' hl'=> ?_⟩
   obtain⟨r,hr,rfl⟩:=List.mem_map.1 hl'
   have:=List.mem_range.1 hr
   obtain⟨_,g1,g2,g3,_⟩:=hrow r (by omega)
   rw[List.length_take]
   omega
 obtain⟨a2,rfl,rfl,rfl,w2⟩:=open_int Try.underlying3 (hval 2 3 v2 rfl rfl) h2
 clear hA0 hval0
 refine(walk a0 a1 len1 cap1 z1 a2 W w0 w1 w2).mono fun e W' ⟨he,bel⟩=> ?_
 subst he
 exact⟨_,rfl,_,_,_,[],_,[],hW',trodAll_mk1 (shut_bool Try.underlying4 _),(trodAll_cons_mk (shut_int Try.underlying3 w0) (trodAll_cons_mk (Below.trod laidOut (by kernel_rfl) (of_decide_eq_true (by kernel_rfl)) k1 bel lt1) (trodAll_cons_mk (shut_int Try.underlying3 w2) trodAll_mk0))),rfl,bel.frame _,fun h=>by cases h⟩
theorem over:Rows.golayDesignsRow.holds Try.pinned (OpenSpec.ofChange Rows.golayDesignsSpec):=
 OpenClaim.holds_of_wide 5 Try.f5 rfl rfl rfl rfl rfl rfl rfl ⟨rfl,rfl,rfl,rfl,rfl⟩ rfl rfl rfl rfl rfl (by kernel_rfl) Try.func5 (by kernel_rfl)
  (of_decide_eq_true (by kernel_rfl)) (by unfold Func.isWrapper;first|(rw[if_pos (by decide+kernel)];kernel_rfl)|(rw[if_neg (by decide+kernel)];exact⟨rfl,rfl⟩))
  (fun os started H enc _=>lifted os started H enc)
/-- ████ THE STATEMENT ████ -/
theorem proved:Rows.GolayDesignsSaid:=over
#print axioms proved
end Go.Proofs.Ytodbgomfeacdhaa.golayDesigns
