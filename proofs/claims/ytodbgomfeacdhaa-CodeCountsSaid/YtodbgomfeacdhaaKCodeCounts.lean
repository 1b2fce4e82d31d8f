/-
  CodeCounts answers true for all arguments. No condition. The frame is the kit's; the walk is mine.
-/
import Derived.Test.YtodbgomfeacdhaaK9
import Derived.Test.YtodbgomfeacdhaaK6
import Derived.Test.YtodbgomfeacdhaaRows
import Derived.WalkKit
import Derived.ProofKit
import Derived.OpenShut
import Derived.ShutString
import Derived.ChangeOld
import Derived.Below
import Derived.Deep.Matrix
namespace Go.Proofs.Ytodbgomfeacdhaa.codeCounts
open Go.ChangeShapes Go.WideShapes Go.ChangeAt Go.RowKit Go.Deep
open Go.ChangeMaps (open_string shut_string)
set_option linter.unusedVariables false
theorem own:ownKnob Try.prog.godebug=none:=by kernel_rfl
theorem laidOut:laidOutB Try.prog=true:=by kernel_rfl
def IsRow(w:World)(a:Option Addr)(len cap:Nat)(zs:List Int):Prop:=
 Go.Am.RoI .i64 w a len cap zs∧len≤maxLen
def IsCode(w:World)(q n:Int)(a:Option Addr)(len cap:Nat)(ll:List (List Int)):Prop:=
 (Lit.int .i64 q).wf=true∧(Lit.int .i64 n).wf=true∧Go.Am.RoL w a len cap ll∧len≤maxLen∧ ∀l∈ll,l.length≤maxLen
def IsRows(w:World)(a:Option Addr)(len cap:Nat)(ll:List (List Int)):Prop:=
 Go.Am.RoL w a len cap ll∧len≤maxLen∧ ∀l∈ll,l.length≤maxLen
theorem max_is:maxLen=9223372036854775807:=by kernel_rfl
theorem walk(m0 o0:Int)(a0:Option Addr)(len0 cap0:Nat)(z0:List (List Int))(a1:Option Addr)(len1 cap1:Nat)(z1:List Int)(w:World)(w0:IsCode w m0 o0 a0 len0 cap0 z0)(w1:IsRow w a1 len1 cap1 z1):
 Calls Try.prog 4 #[.agg #[.int .i64 m0, .int .i64 o0, .slice a0 len0 cap0], .slice a1 len1 cap1] w fun e w'=>e= .returned (.bool true)∧Below w.heap.size w w':=by
 have mx:=max_is
 obtain⟨wm0,wo0,w0⟩:=w0
 obtain⟨r0,l0,e0⟩:=w0
 obtain⟨φ0,h0,s0,x0,p0,hh0,v0,d0,u0⟩:=Go.Am.du6 (φ:=Go.Am.φ0) rfl (Go.Am.HR.start _ w) r0 3 3
 have n0:=r0.1
 obtain⟨r1,l1⟩:=w1
 obtain⟨φ1,h1,s1,x1,p1,hh1,v1,d1,u1,n1⟩:=Go.Am.q97 rfl hh0 r1 3
 obtain⟨h',hc⟩:=sq3 h1 m0 (Go.Am.ua2 wm0).1 (Go.Am.ua2 wm0).2 o0 (Go.Am.ua2 wo0).1 (Go.Am.ua2 wo0).2 s0 cap0 z0 (d0.mono (p1)) (Go.Am.r99 u0 (p1)) (by rw[n0];omega) (fun l hl=>by have:=e0 l hl;omega) s1 cap1 (z1.take len1) d1.i64 u1 (by rw[n1];omega)
 rw[n0,n1]at hc
 exact Go.Am.vp5 b41 mixed hc (.cons (Go.Am.lr3 (v0.mono x1 p1.length_le) rfl) (.cons v1 (.nil ..))) hh1
set_option maxRecDepth 100000 in
theorem lifted(os:Os)(started:os.Started)(H:Type)(enc:TypeId×Value→H):
 ReturnsInHanded {} Try.checked os 4 .any (Rows.codeCountsSpec.pre6 enc Try.prog Try.f4 Rows.codeCountsRow.domain false) (Rows.codeCountsSpec.post enc Try.prog Try.f4 false true false false):=by
 refine returnsInHanded_of_change (C:=Try.checked) own started (by kernel_rfl) Try.func4
  (ChangeSpec.witness6 (enc:=enc) (C:=Try.checked) false ⟨#[], #[.agg #[.int .i64 0, .int .i64 0, .slice none 0 0], .slice none 0 0],[]⟩ 8 (by kernel_rfl) (by kernel_rfl) (by kernel_rfl) (by kernel_rfl)) ?_
 intro W base args ds gs before hval0 hW hcnd _
 have hval: ∀(j:Nat) t v,Try.f4.params[j]? =some t→args[j]? =some v→Value.okWide Try.prog W .any base t v:=hval0
 have hW':=hW
 obtain⟨p,q,hA0,hV,rfl,hfz,hnd⟩:=hW
 have hA:DataW.TrodAll enc Try.prog W 0 (fun _=>true) true Try.f4.params.toList args.toList ds p:=hA0
 rw[Try.params4]at hA hval
 obtain⟨v0,vs0,d0,ds0,p0,q0,hargs,rfl,rfl,h0,r0⟩:=trodAll_cons hA
 obtain⟨v1,vs1,d1,ds1,p1,q1,rfl,rfl,rfl,h1,r1⟩:=trodAll_cons r0
 obtain⟨rfl,rfl,rfl⟩:=trodAll_nil r1
 obtain rfl:args= #[v0,v1]:=by cases args;simp_all
 obtain⟨rfl,rfl⟩:=trodVars_none hV
 have k0:=h0
 have lt0: ∀x∈p0,x.block<W.heap.size:=by obtain⟨m,hm⟩:=k0;exact DataW.trod_lt m _ _ _ hm
 obtain⟨m0,o0,a0,len0,cap0,z0,rfl,w0⟩:=Go.Am.c82 Try.underlying25 Try.underlying3 Try.underlying23 Try.underlying28 ⟨rfl,rfl,rfl,rfl,rfl,rfl⟩ ⟨by kernel_rfl,by kernel_rfl,by kernel_rfl,by kernel_rfl⟩ (by kernel_rfl) (hval 0 25 v0 rfl rfl) h0
 obtain⟨a1,len1,cap1,rfl⟩:=okWide_slice Try.underlying28 (hval 1 28 v1 rfl rfl)
 have k1:=h1
 have lt1: ∀x∈p1,x.block<W.heap.size:=by obtain⟨m,hm⟩:=k1;exact DataW.trod_lt m _ _ _ hm
 obtain⟨z1,w1⟩: ∃zs,IsRow W a1 len1 cap1 zs:=by
  obtain⟨fuel,hf⟩:=h1
  rcases open_ints Try.underlying28 Try.underlying3 (by kernel_rfl) hf with⟨hcs,_⟩|⟨x,l,c,zs,hcs,_,hl,hm,hz,_,hcell,hwz⟩
  ·simp[Value.cells]at hcs
   obtain⟨rfl,rfl,rfl⟩:=hcs
   exact⟨[], .inl ⟨rfl,rfl,rfl,rfl⟩,Nat.zero_le _⟩
  ·simp[Value.cells]at hcs
   obtain⟨rfl,rfl,rfl⟩:=hcs
   have had:=Go.Am.yk7 Try.underlying28 (hval 1 28 _ rfl rfl)
   exact⟨zs, .inr ⟨_,rfl,had.1,had.2,hl,by simpa using hz,hcell⟩,Nat.le_trans hl hm⟩
 clear hA0 hval0
 refine(walk m0 o0 a0 len0 cap0 z0 a1 len1 cap1 z1 W w0 w1).mono fun e W' ⟨he,bel⟩=> ?_
 subst he
 exact⟨_,rfl,_,_,_,[],_,[],hW',trodAll_mk1 (shut_bool Try.underlying4 _),(trodAll_cons_mk (Below.trod laidOut (by kernel_rfl) (of_decide_eq_true (by kernel_rfl)) k0 bel lt0) (trodAll_cons_mk (Below.trod laidOut (by kernel_rfl) (of_decide_eq_true (by kernel_rfl)) k1 bel lt1) trodAll_mk0)),rfl,bel.frame _,fun h=>by cases h⟩
theorem over:Rows.codeCountsRow.holds Try.pinned (OpenSpec.ofChange Rows.codeCountsSpec):=
 OpenClaim.holds_of_wide 4 Try.f4 rfl rfl rfl rfl rfl rfl rfl ⟨rfl,rfl,rfl,rfl,rfl⟩ rfl rfl rfl rfl rfl (by kernel_rfl) Try.func4 (by kernel_rfl)
  (of_decide_eq_true (by kernel_rfl)) (by unfold Func.isWrapper;first|(rw[if_pos (by decide+kernel)];kernel_rfl)|(rw[if_neg (by decide+kernel)];exact⟨rfl,rfl⟩))
  (fun os started H enc _=>lifted os started H enc)
/-- ████ THE STATEMENT ████ -/
theorem proved:Rows.CodeCountsSaid:=over
#print axioms proved
end Go.Proofs.Ytodbgomfeacdhaa.codeCounts
