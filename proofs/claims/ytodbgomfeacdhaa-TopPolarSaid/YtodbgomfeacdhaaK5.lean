/-
  The second machine's tables of this seat, written by a program of my own (vgen.py). No condition. Where a law's call begins: nothing in memory, or the rows of its arguments. No condition. A law's argu ..
-/
import Derived.Test.YtodbgomfeacdhaaK4
import Derived.Test.YtodbgomfeacdhaaKCode
import Derived.WideShapes
import Derived.Deep.Matrix
set_option linter.unusedVariables false
set_option linter.unusedSimpArgs false
set_option linter.unusedSectionVars false
set_option maxRecDepth 100000
namespace Go.Proofs.Ytodbgomfeacdhaa
open Go.Am Go.Vm
def ct:CT
 |23,0=>some (28,1)
 |24,2=>some (28,1)
 |25,2=>some (28,1)
 |28,0=>some (3,1)
 |101,4=>some (3,1)
 |102,4=>some (3,1)
 |106,0=>some (107,1)
 |121,0=>some (4,1)
 |127,0=>some (4,1)
 |127,1=>some (3,1)
 |128,0=>some (4,1)
 |128,1=>some (3,1)
 |186,3=>some (3,1)
 |186,5=>some (3,1)
 |186,6=>some (3,1)
 |187,3=>some (3,1)
 |187,5=>some (3,1)
 |187,6=>some (3,1)
 |_,_=>none
abbrev hNo:Hint:=⟨[],[],[],[]⟩
abbrev h6:Hint:=⟨[(18,28,1)],[],[],[]⟩
abbrev h26:Hint:=⟨[],[8],[],[]⟩
abbrev h31:Hint:=⟨[(8,107,1)],[],[],[]⟩
abbrev h33:Hint:=⟨[(4,28,1),(6,28,1)],[],[],[]⟩
abbrev h34:Hint:=⟨[(4,28,1),(7,28,1)],[],[],[]⟩
abbrev h40:Hint:=⟨[(2,28,1),(3,28,1)],[],[],[]⟩
abbrev h42:Hint:=⟨[(5,28,1)],[],[],[]⟩
abbrev h43:Hint:=⟨[(5,28,1)],[],[],[]⟩
abbrev h46:Hint:=⟨[(8,3,1),(9,3,1)],[],[],[]⟩
abbrev h47:Hint:=⟨[(2,3,1)],[],[],[]⟩
abbrev h48:Hint:=⟨[(2,3,1),(5,3,1)],[],[],[]⟩
abbrev h49:Hint:=⟨[(2,3,1),(8,3,1)],[],[],[]⟩
abbrev h50:Hint:=⟨[(4,3,1),(10,3,1)],[],[],[]⟩
abbrev h51:Hint:=⟨[],[],[],[45]⟩
abbrev h58:Hint:=⟨[(14,3,1)],[],[],[]⟩
abbrev h60:Hint:=⟨[(6,3,1)],[],[],[]⟩
abbrev h63:Hint:=⟨[(7,28,1)],[],[],[]⟩
abbrev h70:Hint:=⟨[(5,28,1)],[],[],[]⟩
abbrev h73:Hint:=⟨[(2,28,1),(6,28,1)],[],[],[]⟩
abbrev h92:Hint:=⟨[(2,3,1)],[],[],[]⟩
abbrev h97:Hint:=⟨[(4,3,1)],[],[],[]⟩
abbrev h108:Hint:=⟨[(2,3,1)],[],[],[]⟩
abbrev h109:Hint:=⟨[(6,3,1),(7,3,1),(11,3,1),(17,3,1),(22,3,1)],[],[],[]⟩
abbrev h111:Hint:=⟨[(4,3,1)],[],[],[]⟩
abbrev h113:Hint:=⟨[(4,3,1),(5,3,1)],[],[],[]⟩
abbrev h115:Hint:=⟨[(27,28,1)],[],[],[]⟩
abbrev h116:Hint:=⟨[(4,28,1),(11,28,1)],[],[],[]⟩
abbrev h118:Hint:=⟨[(5,3,1)],[71],[],[]⟩
abbrev h129:Hint:=⟨[(4,28,1),(5,3,1),(6,28,1),(7,3,1)],[],[],[]⟩
abbrev h136:Hint:=⟨[(6,3,1),(7,3,1)],[],[],[]⟩
abbrev h140:Hint:=⟨[(6,3,1)],[],[],[]⟩
abbrev h161:Hint:=⟨[(6,3,1),(7,3,1)],[],[],[]⟩
abbrev h162:Hint:=⟨[(6,3,1)],[],[],[]⟩
abbrev h164:Hint:=⟨[(3,3,1)],[],[],[]⟩
abbrev h168:Hint:=⟨[(8,3,1),(9,3,1)],[],[],[]⟩
abbrev h203:Hint:=⟨[(6,3,1)],[],[],[]⟩
def vH:FuncId→Hint
 |6=>h6
 |26=>h26
 |31=>h31
 |33=>h33
 |34=>h34
 |40=>h40
 |42=>h42
 |43=>h43
 |46=>h46
 |47=>h47
 |48=>h48
 |49=>h49
 |50=>h50
 |51=>h51
 |58=>h58
 |60=>h60
 |63=>h63
 |70=>h70
 |73=>h73
 |92=>h92
 |97=>h97
 |108=>h108
 |109=>h109
 |111=>h111
 |113=>h113
 |115=>h115
 |116=>h116
 |118=>h118
 |129=>h129
 |136=>h136
 |140=>h140
 |161=>h161
 |162=>h162
 |164=>h164
 |168=>h168
 |203=>h203
 |_=>hNo
def vM:FuncId→List Go.Vm.Mode
 |4=>[.perm 1, .perm 1]
 |9=>[.bor 0, .bor 0, .perm 1]
 |13=>[.perm 1, .perm 1]
 |18=>[.perm 1]
 |19=>[.perm 1]
 |20=>[.perm 1]
 |21=>[.perm 1]
 |25=>[.perm 1, .bor 1]
 |26=>[.perm 1, .perm 1]
 |27=>[.perm 1, .bor 1]
 |58=>[.bor 0, .bor 0, .perm 1, .bor 1, .bor 0]
 |60=>[.bor 0, .bor 0, .perm 1]
 |62=>[.perm 1]
 |63=>[.perm 1, .perm 1]
 |70=>[.perm 1]
 |71=>[.perm 1]
 |72=>[.perm 1]
 |73=>[.perm 1]
 |75=>[.perm 1]
 |76=>[.perm 1]
 |80=>[.perm 1, .bor 1]
 |88=>[.own 3 1, .bor 0]
 |94=>[.own 3 1, .bor 0, .bor 0]
 |99=>[.own 28 1, .bor 0]
 |104=>[.own 3 1, .bor 0]
 |106=>[.own 3 1]
 |111=>[.own 3 1, .perm 1]
 |115=>[.perm 1]
 |117=>[.perm 1, .perm 1]
 |121=>[.own 3 1, .bor 1]
 |126=>[.perm 1]
 |130=>[.bor 1, .perm 1, .bor 1]
 |133=>[.bor 0, .perm 1, .bor 1]
 |142=>[.own 28 1, .bor 0, .bor 0, .bor 0, .bor 0]
 |145=>[.own 3 1, .bor 0, .bor 0]
 |146=>[.own 3 1, .bor 0, .bor 0, .bor 0]
 |148=>[.perm 1]
 |155=>[.bor 0, .own 3 1, .bor 0]
 |157=>[.bor 0, .own 3 1, .bor 1, .bor 0]
 |163=>[.perm 1, .bor 0, .bor 0]
 |178=>[.own 28 1, .bor 0, .bor 0, .bor 0]
 |179=>[.own 28 1, .bor 0, .bor 0, .bor 0]
 |180=>[.own 28 1, .bor 0, .bor 0, .bor 0]
 |182=>[.own 28 1, .bor 0, .bor 0, .bor 0]
 |183=>[.own 28 1, .bor 0, .bor 0, .bor 0]
 |184=>[.own 28 1, .bor 0, .bor 0, .bor 0, .bor 0]
 |185=>[.own 28 1, .bor 0, .bor 0, .bor 0, .bor 0]
 |189=>[.own 3 1, .bor 0, .bor 0, .bor 0]
 |190=>[.own 3 1, .bor 0, .bor 0, .bor 0, .bor 0]
 |191=>[.own 3 1, .bor 0, .bor 0]
 |192=>[.own 3 1, .bor 0, .bor 0]
 |193=>[.own 3 1, .bor 0, .bor 0]
 |195=>[.own 3 1, .bor 0, .bor 0]
 |196=>[.own 3 1, .bor 0, .bor 0]
 |198=>[.own 3 1, .bor 0, .bor 0, .bor 0]
 |199=>[.own 3 1, .bor 0, .bor 0, .bor 0]
 |212=>[.own 28 1, .bor 0, .bor 0, .bor 0, .bor 0]
 |214=>[.own 3 1]
 |215=>[.bor 1, .bor 0, .own 3 1, .bor 0]
 |216=>[.bor 1, .bor 0, .bor 0, .bor 0, .own 3 1, .bor 0]
 |217=>[.own 3 1, .bor 0, .bor 0, .bor 0, .bor 0]
 |218=>[.own 3 1, .bor 0, .bor 0, .bor 0]
 |219=>[.bor 1, .bor 0, .own 3 1]
 |220=>[.bor 1, .bor 0, .bor 0, .bor 0, .own 3 1]
 |227=>[.bor 1, .bor 0, .bor 0, .own 3 1, .bor 0]
 |228=>[.own 3 1, .bor 0, .bor 0, .bor 0, .bor 0]
 |229=>[.bor 1, .bor 0, .bor 0, .own 3 1]
 |_=>[]
@[push_cast] theorem vH9:vH 9=hNo:=rfl
@[push_cast] theorem vM9:vM 9=[.bor 0, .bor 0, .perm 1]:=rfl
@[push_cast] theorem vH10:vH 10=hNo:=rfl
@[push_cast] theorem vM10:vM 10=[]:=rfl
@[push_cast] theorem vH11:vH 11=hNo:=rfl
@[push_cast] theorem vM11:vM 11=[]:=rfl
@[push_cast] theorem vH22:vH 22=hNo:=rfl
@[push_cast] theorem vM22:vM 22=[]:=rfl
@[push_cast] theorem vH28:vH 28=hNo:=rfl
@[push_cast] theorem vM28:vM 28=[]:=rfl
@[push_cast] theorem vH45:vH 45=hNo:=rfl
@[push_cast] theorem vM45:vM 45=[]:=rfl
@[push_cast] theorem vH46:vH 46=h46:=rfl
@[push_cast] theorem vM46:vM 46=[]:=rfl
@[push_cast] theorem vH47:vH 47=h47:=rfl
@[push_cast] theorem vM47:vM 47=[]:=rfl
@[push_cast] theorem vH48:vH 48=h48:=rfl
@[push_cast] theorem vM48:vM 48=[]:=rfl
@[push_cast] theorem vH49:vH 49=h49:=rfl
@[push_cast] theorem vM49:vM 49=[]:=rfl
@[push_cast] theorem vH50:vH 50=h50:=rfl
@[push_cast] theorem vM50:vM 50=[]:=rfl
@[push_cast] theorem vH51:vH 51=h51:=rfl
@[push_cast] theorem vM51:vM 51=[]:=rfl
@[push_cast] theorem vH52:vH 52=hNo:=rfl
@[push_cast] theorem vM52:vM 52=[]:=rfl
@[push_cast] theorem vH53:vH 53=hNo:=rfl
@[push_cast] theorem vM53:vM 53=[]:=rfl
@[push_cast] theorem vH54:vH 54=hNo:=rfl
@[push_cast] theorem vM54:vM 54=[]:=rfl
@[push_cast] theorem vH55:vH 55=hNo:=rfl
@[push_cast] theorem vM55:vM 55=[]:=rfl
@[push_cast] theorem vH56:vH 56=hNo:=rfl
@[push_cast] theorem vM56:vM 56=[]:=rfl
@[push_cast] theorem vH57:vH 57=hNo:=rfl
@[push_cast] theorem vM57:vM 57=[]:=rfl
@[push_cast] theorem vH58:vH 58=h58:=rfl
@[push_cast] theorem vM58:vM 58=[.bor 0, .bor 0, .perm 1, .bor 1, .bor 0]:=rfl
@[push_cast] theorem vH59:vH 59=hNo:=rfl
@[push_cast] theorem vM59:vM 59=[]:=rfl
@[push_cast] theorem vH60:vH 60=h60:=rfl
@[push_cast] theorem vM60:vM 60=[.bor 0, .bor 0, .perm 1]:=rfl
@[push_cast] theorem vH92:vH 92=h92:=rfl
@[push_cast] theorem vM92:vM 92=[]:=rfl
@[push_cast] theorem vH95:vH 95=hNo:=rfl
@[push_cast] theorem vM95:vM 95=[]:=rfl
@[push_cast] theorem hc4:vH 103=hNo:=rfl
@[push_cast] theorem he4:vM 103=[]:=rfl
@[push_cast] theorem kl4:vH 104=hNo:=rfl
@[push_cast] theorem c69:vM 104=[.own 3 1, .bor 0]:=rfl
@[push_cast] theorem im0:vH 105=hNo:=rfl
@[push_cast] theorem b39:vM 105=[]:=rfl
@[push_cast] theorem qr4:vH 106=hNo:=rfl
@[push_cast] theorem lw7:vM 106=[.own 3 1]:=rfl
@[push_cast] theorem yj2:vH 107=hNo:=rfl
@[push_cast] theorem hv4:vM 107=[]:=rfl
@[push_cast] theorem a26:vH 108=h108:=rfl
@[push_cast] theorem c62:vM 108=[]:=rfl
@[push_cast] theorem ea8:vH 109=h109:=rfl
@[push_cast] theorem pe6:vM 109=[]:=rfl
@[push_cast] theorem jq0:vH 110=hNo:=rfl
@[push_cast] theorem xy3:vM 110=[]:=rfl
@[push_cast] theorem wc1:vH 111=h111:=rfl
@[push_cast] theorem gb1:vM 111=[.own 3 1, .perm 1]:=rfl
@[push_cast] theorem h01:vH 141=hNo:=rfl
@[push_cast] theorem wq5:vM 141=[]:=rfl
@[push_cast] theorem gw3:vH 143=hNo:=rfl
@[push_cast] theorem kr4:vM 143=[]:=rfl
@[push_cast] theorem eh0:vH 145=hNo:=rfl
@[push_cast] theorem gv4:vM 145=[.own 3 1, .bor 0, .bor 0]:=rfl
@[push_cast] theorem ts7:vH 146=hNo:=rfl
@[push_cast] theorem ag6:vM 146=[.own 3 1, .bor 0, .bor 0, .bor 0]:=rfl
@[push_cast] theorem pd8:vH 147=hNo:=rfl
@[push_cast] theorem h68:vM 147=[]:=rfl
@[push_cast] theorem aq0:vH 187=hNo:=rfl
@[push_cast] theorem q20:vM 187=[]:=rfl
@[push_cast] theorem ac0:vH 188=hNo:=rfl
@[push_cast] theorem ye7:vM 188=[]:=rfl
@[push_cast] theorem dn4:vH 189=hNo:=rfl
@[push_cast] theorem ir8:vM 189=[.own 3 1, .bor 0, .bor 0, .bor 0]:=rfl
@[push_cast] theorem wa8:vH 190=hNo:=rfl
@[push_cast] theorem ig5:vM 190=[.own 3 1, .bor 0, .bor 0, .bor 0, .bor 0]:=rfl
@[push_cast] theorem ip6:vH 191=hNo:=rfl
@[push_cast] theorem mn5:vM 191=[.own 3 1, .bor 0, .bor 0]:=rfl
@[push_cast] theorem vp6:vH 192=hNo:=rfl
@[push_cast] theorem o03:vM 192=[.own 3 1, .bor 0, .bor 0]:=rfl
@[push_cast] theorem lo8:vH 193=hNo:=rfl
@[push_cast] theorem in5:vM 193=[.own 3 1, .bor 0, .bor 0]:=rfl
@[push_cast] theorem we8:vH 194=hNo:=rfl
@[push_cast] theorem br2:vM 194=[]:=rfl
@[push_cast] theorem uu5:vH 195=hNo:=rfl
@[push_cast] theorem n53:vM 195=[.own 3 1, .bor 0, .bor 0]:=rfl
@[push_cast] theorem ny6:vH 196=hNo:=rfl
@[push_cast] theorem fy5:vM 196=[.own 3 1, .bor 0, .bor 0]:=rfl
@[push_cast] theorem nt6:vH 197=hNo:=rfl
@[push_cast] theorem ai5:vM 197=[]:=rfl
@[push_cast] theorem u60:vH 198=hNo:=rfl
@[push_cast] theorem n45:vM 198=[.own 3 1, .bor 0, .bor 0, .bor 0]:=rfl
@[push_cast] theorem ap8:vH 199=hNo:=rfl
@[push_cast] theorem c20:vM 199=[.own 3 1, .bor 0, .bor 0, .bor 0]:=rfl
@[push_cast] theorem z60:vH 213=hNo:=rfl
@[push_cast] theorem hc7:vM 213=[]:=rfl
@[push_cast] theorem sv7:vH 214=hNo:=rfl
@[push_cast] theorem vb2:vM 214=[.own 3 1]:=rfl
@[push_cast] theorem zo7:vH 217=hNo:=rfl
@[push_cast] theorem b62:vM 217=[.own 3 1, .bor 0, .bor 0, .bor 0, .bor 0]:=rfl
@[push_cast] theorem n44:vH 218=hNo:=rfl
@[push_cast] theorem ay4:vM 218=[.own 3 1, .bor 0, .bor 0, .bor 0]:=rfl
@[push_cast] theorem rr5:vH 219=hNo:=rfl
@[push_cast] theorem o00:vM 219=[.bor 1, .bor 0, .own 3 1]:=rfl
@[push_cast] theorem q23:vH 220=hNo:=rfl
@[push_cast] theorem mx5:vM 220=[.bor 1, .bor 0, .bor 0, .bor 0, .own 3 1]:=rfl
@[push_cast] theorem r84:vH 228=hNo:=rfl
@[push_cast] theorem c63:vM 228=[.own 3 1, .bor 0, .bor 0, .bor 0, .bor 0]:=rfl
@[push_cast] theorem k69:vH 229=hNo:=rfl
@[push_cast] theorem uz6:vM 229=[.bor 1, .bor 0, .bor 0, .own 3 1]:=rfl
attribute [push_cast] ct
end Go.Proofs.Ytodbgomfeacdhaa
namespace Go.Am
open Go.RowKit (Below)
theorem HR.start(φ:Ren)(w:World):HR φ (old w) [] w where
 own:=fun o r h=>by simp[H.row]at h
 ro:=fun o r h=>by simp[H.row]at h
 one:=fun o r h=>by simp[H.row]at h
 inj:=fun o o' r r' h=>by simp[H.row]at h
 size:=fun k hk=>hk
def φ0:Ren:=fun _=>⟨0,0,0,0,false⟩
theorem ua1{n:Int}(h:(Lit.int .i64 n).wf=true): -9223372036854775808≤n∧n≤9223372036854775807:=by
 simp only[Lit.wf,Bool.and_eq_true,decide_eq_true_eq]at h
 exact h
end Go.Am
namespace Go.Am
open Go.RowKit (Below)
def RoI(k:IntKind)(w:World)(a:Option Addr)(len cap:Nat)(zs:List Int):Prop:=
 (a=none∧len=0∧cap=0∧zs=[])∨
 ∃x,a=some x∧x.spot=none∧x.block<w.heap.size∧len≤cap∧zs.length=cap∧ ∀i,i<zs.length→w.cell? (x.add i)=some (.int k (zs.getD i 0))
theorem yk7{P:Program}{w:World}{base:Nat}{t e:TypeId}{x:Addr}{len cap:Nat}(ht:P.underlying t=some (.slice e))(h:Value.okWide P w .any base t (.slice (some x) len cap)):
 x.spot=none∧x.block<w.heap.size:=by
 simp only[Value.okWide,ht,Cell.okWide,Cell.ok,World.has]at h
 obtain⟨_,_,_,hs,row,cells,hsh,_⟩:=h
 refine⟨hs, ?_⟩
 unfold World.shape? at hsh
 by_cases hb:x.block<w.heap.size
 ·exact hb
 ·rw[Array.getElem?_eq_none (by omega)]at hsh;cases hsh
theorem ac6{x:Addr}(hx:x.spot=none)(i:Nat):x.add i=⟨x.block,x.off+i,none⟩:=by
 unfold Addr.add
 obtain⟨b,o,s⟩:=x
 simp only at hx
 subst hx
 split
 ·rename_i h;subst h;rfl
 ·rfl
theorem HR.pushRo{φ:Ren}{B:Nat→Prop}{h:H}{w:World}(hh:HR φ B h w)(r:Row)(b sh cap u:Nat)(hr:r.own=false)(hB:B b)(hone: ∀c∈r.cells,c.oneCell'=true)
 (hc: ∀(i:Nat) (c:Value),r.cells[i]? =some c→ ∃v,w.cell? ⟨b,sh+i,none⟩=some v∧VR φ h.length c v):
 HR (φ.with h.length ⟨b,sh,cap,u,false⟩) B (h++[.row r]) w:=by
 have hext:=Ext.with φ h.length ⟨b,sh,cap,u,false⟩
 have hlen:(h++[Ob.row r]).length=h.length+1:=by simp
 have hmono: ∀{c v},VR φ h.length c v→VR (φ.with h.length ⟨b,sh,cap,u,false⟩) (h++[Ob.row r]).length c v:=fun hv=>hv.mono hext (by omega)
 refine⟨fun o r' hr' ho=> ?_,fun o r' hr' ho=> ?_,fun o r' hr'=> ?_,fun o o' r1 r2 h1 h2 o1 o2 he=> ?_,hh.size⟩
 ·rcases v39 hr' with⟨hlt,hr'⟩|⟨rfl,rfl⟩
  ·rw[hext o hlt]
   obtain⟨h0,h2,h3,cur',h4,h5,h6⟩:=hh.own o r' hr' ho
   exact⟨h0,h2,h3,cur',h4,h5,fun i c hc=>let⟨v,h7,h8⟩:=h6 i c hc;⟨v,h7,hmono h8⟩⟩
  ·rw[hr]at ho;cases ho
 ·rcases v39 hr' with⟨hlt,hr'⟩|⟨rfl,rfl⟩
  ·rw[hext o hlt]
   obtain⟨hn,h1⟩:=hh.ro o r' hr' ho
   exact⟨hn,fun i c hc=>let⟨h0,v,h2,h3⟩:=h1 i c hc;⟨h0,v,h2,hmono h3⟩⟩
  ·rw[Ren.with_same]
   exact⟨rfl,fun i c hi=>let⟨v,h7,h8⟩:=hc i c hi;⟨hB,v,h7,hmono h8⟩⟩
 ·rcases v39 hr' with⟨hlt,hr'⟩|⟨rfl,rfl⟩
  ·exact hh.one o r' hr'
  ·exact hone
 ·rcases v39 h1 with⟨l1,k1⟩|⟨rfl,rfl⟩<;>rcases v39 h2 with⟨l2,k2⟩|⟨rfl,rfl⟩
  ·rw[hext o l1,hext o' l2]at he;exact hh.inj o o' r1 r2 k1 k2 o1 o2 he
  ·rw[hr]at o2;cases o2
  ·rw[hr]at o1;cases o1
  ·rfl
def RdK(k:IntKind)(h:H)(sa:Option Addr)(c:Nat)(zs:List Int):Prop:=
 (sa=none∧c=0∧zs=[])∨(zs.length≤c∧ ∃o off r,sa=some ⟨o,off,none⟩∧h.row o=some r∧(r.own=true→r.unit=1)∧ ∀i:Int,0≤i→i<zs.length→r.cells[off+i.toNat]? =some (.int k (gi zs i)))
theorem RdK.i64{h:H}{sa:Option Addr}{c:Nat}{zs:List Int}(hr:RdK .i64 h sa c zs):RdI h sa c zs:=hr
theorem q97{k:IntKind}{φ:Ren}{B:Nat→Prop}{h:H}{w:World}(hB:B=old w)(hh:HR φ B h w){a:Option Addr}{len cap:Nat}{zs:List Int}(hw:RoI k w a len cap zs)(e:TypeId):
 ∃φ' h' sa,Ext φ h.length φ'∧h<+:h'∧HR φ' B h' w∧VR φ' h'.length (.slice sa len cap) (.slice a len cap)∧RdK k h' sa cap (zs.take len)∧ss4 h' 1 sa=true∧(zs.take len).length=len:=by
 rcases hw with⟨rfl,rfl,rfl,rfl⟩|⟨x,rfl,hs,hb,hl,hz,hc⟩
 ·exact⟨φ,h,none,Ext.refl _ _,List.prefix_refl _,hh, .snil, .inl ⟨rfl,rfl,rfl⟩,rfl,rfl⟩
 ·have hrow:H.row (h++[.row ⟨zs.map (.int k),e,1,false⟩]) h.length=some ⟨zs.map (.int k),e,1,false⟩:=cv8
  refine⟨φ.with h.length ⟨x.block,x.off,cap,1,false⟩,h++[.row ⟨zs.map (.int k),e,1,false⟩],some ⟨h.length,0,none⟩,Ext.with _ _ _,List.prefix_append _ _,hh.pushRo ⟨zs.map (.int k),e,1,false⟩ _ _ cap 1 rfl (by rw[hB];exact hb) ?_ ?_, ?_, .inr ⟨?_,h.length,0,_,rfl,hrow, ?_⟩, ?_, ?_⟩
  ·intro c hc'
   obtain⟨z,_,rfl⟩:=List.mem_map.mp hc'
   rfl
  ·intro i c hi
   rw[List.getElem?_map]at hi
   obtain⟨z,hz1,rfl⟩:=Option.map_eq_some_iff.mp hi
   have hil:=(List.getElem?_eq_some_iff.1 hz1).1
   have:=hc i hil
   rw[ac6 hs]at this
   refine⟨_,this, ?_⟩
   rw[List.getD_eq_getElem?_getD,hz1]
   exact .int k z
  ·have hv:=VR.sl (φ:=φ.with h.length ⟨x.block,x.off,cap,1,false⟩) (n:=(h++[Ob.row ⟨zs.map (.int k),e,1,false⟩]).length) h.length 0 len cap cap x.off (by simp) (Nat.le_refl _) (.inl (by rw[Ren.with_same];rfl)) (by rw[Ren.with_same];intro h;cases h)
   rw[Ren.with_same]at hv
   have hx:x=⟨x.block,x.off,none⟩:=by obtain⟨b,o,s⟩:=x;simp only at hs;subst hs;rfl
   rw[hx]
   exact hv
  ·rw[List.length_take];omega
  ·refine⟨fun h=>by(cases h), ?_⟩
   intro i h0 hi
   rw[List.length_take]at hi
   show(zs.map (Value.int k))[0+i.toNat]? =_
   rw[Nat.zero_add,List.getElem?_map]
   have hg:(zs.take len)[i.toNat]? =some (gi (zs.take len) i):=lr6 h0 (by rw[List.length_take];omega)
   rw[List.getElem?_take,if_pos (by omega)]at hg
   rw[hg];rfl
  ·unfold ss4;simp only[hrow];rfl
  ·rw[List.length_take];omega
theorem RdK.mono{k:IntKind}{h h':H}{sa:Option Addr}{c:Nat}{zs:List Int}(hr:RdK k h sa c zs)(hp:h<+:h'):RdK k h' sa c zs:=by
 rcases hr with h1|⟨h1,o,off,r,h2,h3,h4⟩
 ·exact .inl h1
 ·exact .inr ⟨h1,o,off,r,h2,by rw[m20 hp (h44 h3)];exact h3,h4⟩
theorem r99{h h':H}{n:Nat}{sa:Option Addr}(hu:ss4 h n sa=true)(hp:h<+:h'):ss4 h' n sa=true:=by
 unfold ss4 at hu⊢
 split
 ·rfl
 ·rename_i a
  simp only at hu
  cases hr:h.row a.block with
  |none=>rw[hr]at hu;cases hu
  |some r=>rw[m20 hp (h44 hr),hr];rw[hr]at hu;exact hu
end Go.Am
namespace Go.Am
theorem RdI.src{h:H}{a:Option Addr}{c:Nat}{l:List Int}(hr:RdI h a c l):b38 h 1 l.length (.slice a l.length c)=some (ints l):=by
 unfold b38
 simp only[]
 by_cases h0:l.length=0
 ·rw[if_pos h0,List.length_eq_zero_iff.mp h0];rfl
 ·rw[if_neg h0,if_pos (Nat.le_refl _)]
  rcases hr with⟨_,_,rfl⟩|⟨h1,o,off,r,rfl,hrow,_,hc⟩
  ·exact absurd rfl h0
  ·simp only[cv9,if_true]
   unfold H.lds
   simp only[hrow]
   have hlast:=hc ((l.length-1:Nat):Int) (by omega) (by omega)
   have hb:off+(l.length-1)<r.cells.length:=by
    rw[Int.toNat_natCast]at hlast
    exact(List.getElem?_eq_some_iff.1 hlast).1
   rw[if_pos (by omega),Nat.mul_one]
   congr 1
   refine List.ext_getElem? fun i=> ?_
   by_cases hi:i<l.length
   ·rw[List.getElem?_take,if_pos hi,List.getElem?_drop]
    have h1:=hc (i:Int) (by omega) (by omega)
    have h2:=c14 (zs:=l) (i:=(i:Int)) (by omega) (by omega)
    rw[Int.toNat_natCast]at h1 h2
    rw[h1,h2]
   ·rw[List.getElem?_eq_none (by rw[List.length_take];omega),List.getElem?_eq_none (by rw[iq5];omega)]
theorem wq4{h:H}{b:Ob}{r:Row}:H.row (kill (h++[b]) h.length++[.row r]) (h.length+1)=some r:=rr6 (by rw[q89,rl9])
end Go.Am
namespace Go.Am
theorem Grown.nil{h:H}{lo:Nat}:Grown h none 0 [] lo:= .inl ⟨rfl,rfl,rfl⟩
theorem RdI.nil{h:H}:RdI h none 0 []:= .inl ⟨rfl,rfl,rfl⟩
end Go.Am
namespace Go.Proofs.Ytodbgomfeacdhaa
open Go.Am
def digs(p:Int):Nat→Int→List Int
 |0,_=>[]
 |n+1,a=>(a%p)::digs p n (a/p)
def numb(p:Int):List Int→Int
 | []=>0
 |d::r=>numb p r*p+d
abbrev fvL(q p m g:Int)(ms:Value):List Value:=[.int .i64 q, .int .i64 p, .int .i64 m, .int .i64 g,ms]
abbrev fv(q p m g:Int)(ms:Value):Value:= .agg (fvL q p m g ms).toArray
def axpy(p c:Int):List Int→List Int→List Int
 |a::l,y::ys=>((a+c*y)%p)::axpy p c l ys
 |l,_=>l
def conv(p:Int)(ys:List Int):List Int→List Int→List Int
 | [],l=>l
 |x::xs,l=>match axpy p x l ys with
  | []=>[]
  |a::r=>a::conv p ys xs r
def red(p:Int)(nm:List Int)(m:Nat):Nat→List Int→List Int
 |0,l=>l
 |n+1,l=>red p nm m n (l.take n++axpy p (gi l (n+m:Nat)) ((l.take (n+m)).drop n) nm)
def mulP(p:Int)(m:Nat)(mod:List Int)(a b:Int):Int:=numb p (red p ((mod.take m).map fun d=>p-d) m m (conv p (digs p m b) (digs p m a) (List.replicate (2*m) 0)))
def mulR(q p:Int)(m:Nat)(mod:List Int)(a b:Int):Int:=
 if 0≤a∧a<q then if 0≤b∧b<q then if m=1 then a*b%p else mulP p m mod a b else-1 else-1
def Dig(p:Int)(l:List Int):Prop:= ∀z∈l,0≤z∧z<p
section
variable {q p g0:Int} {m:Nat} {ms:Value} {h1:H} {B:Nat}
end
section
variable {q p g0:Int} {m:Nat} {om fm cm:Nat} {h1:H} {B:Nat} {mod:List Int}
end
structure FOk (q p:Int) (m:Nat) (mod:List Int):Prop where
 q2:2≤q
 q64:q≤64
 p2:2≤p
 p64:p≤64
 m1:1≤m
 m10:m≤10
 pm:p^m=q
 ml:mod.length=m+1
 dig:Dig p mod
def wj0(q p:Int)(m:Nat)(mod:List Int)(g:Int):Nat→Int→Nat→Bool
 |0,_,_=>true
 |n+1,a,s=>bif (a==0)||s.testBit a.toNat then false else wj0 q p m mod g n (mulR q p m mod a g) (s|||1<<<a.toNat)
def dvdN:Nat→Int→Int→Int→Option (Int×Int)
 |0,_,_,_=>none
 |n+1,q,p,m=>bif q%p==0 then dvdN n (q/p) p (m+1)else some (q,m)
def outN:Nat→Int→Int→Option (Int×Int)
 |0,_,_=>none
 |n+1,q,p=>bif decide (q<p)then none else bif q%p==0 then match dvdN 64 q p 0 with
   |some (q',m)=>some (bif q'==1 then(p,m)else(0,0))
   |none=>none
  else outN n q (p+1)
def fldN:Nat→Option (Int×Nat×Int×List Int)
 |2=>some (2,1,1,[0,1])
 |3=>some (3,1,2,[0,1])
 |4=>some (2,2,2,[1,1,1])
 |5=>some (5,1,2,[0,1])
 |7=>some (7,1,3,[0,1])
 |8=>some (2,3,2,[1,1,0,1])
 |9=>some (3,2,3,[2,1,1])
 |11=>some (11,1,2,[0,1])
 |13=>some (13,1,2,[0,1])
 |16=>some (2,4,2,[1,1,0,0,1])
 |17=>some (17,1,3,[0,1])
 |19=>some (19,1,2,[0,1])
 |23=>some (23,1,5,[0,1])
 |25=>some (5,2,5,[2,1,1])
 |27=>some (3,3,3,[1,2,0,1])
 |29=>some (29,1,2,[0,1])
 |31=>some (31,1,3,[0,1])
 |32=>some (2,5,2,[1,0,1,0,0,1])
 |37=>some (37,1,2,[0,1])
 |41=>some (41,1,6,[0,1])
 |43=>some (43,1,3,[0,1])
 |47=>some (47,1,5,[0,1])
 |49=>some (7,2,7,[3,1,1])
 |53=>some (53,1,2,[0,1])
 |59=>some (59,1,2,[0,1])
 |61=>some (61,1,2,[0,1])
 |64=>some (2,6,2,[1,1,0,0,0,0,1])
 |_=>none
def genN(q p:Int):Nat→Int→Option Int
 |0,_=>none
 |n+1,g=>bif wj0 q p 1 [0,1] g (q-1).toNat 1 0 then some g else genN q p n (g+1)
def lowN(q p:Int)(m:Nat):Nat→Int→Option (List Int)
 |0,_=>none
 |n+1,low=>bif wj0 q p m (digs p m low++[1]) p (q-1).toNat 1 0 then some (digs p m low++[1])else lowN q p m n (low+1)
def o66(n:Nat):Bool:=
 match fldN n with
 |none=>decide (outN 64 n 2=some (0,0))
 |some (p,m,g,mod)=>decide (outN 64 n 2=some (p,(m:Int)))&&(bif decide (m=1)then decide (genN n p (n-1) 1=some g)&&decide (mod=[0,1])else decide (lowN n p m n 0=some mod)&&decide (g=p))&&
   decide (p^m=(n:Int))&&decide (mod.length=m+1)&&(mod.all fun d=>decide (0≤d)&&decide (d<p))&&decide (2≤p)&&decide (p≤64)&&decide (1≤m)&&decide (m≤10)&&decide (1≤g)&&decide (g<n)
theorem wb4:((List.range 63).all fun n=>o66 (n+2))=true:=by kernel_rfl
theorem dp6{n:Nat}(h2:2≤n)(h64:n≤64):o66 n=true:=by
 have h:=List.all_eq_true.1 wb4 (n-2) (List.mem_range.2 (by omega))
 rw[show n-2+2=n by omega]at h
 exact h
theorem ug0{n:Nat}{x}(h:fldN n=some x):2≤n∧n≤64:=by
 unfold fldN at h
 split at h<;>first|(cases h;done)|omega
theorem hi9{n:Nat}{p g:Int}{m:Nat}{mod:List Int}(hn:fldN n=some (p,m,g,mod)):FOk n p m mod∧outN 64 n 2=some (p,(m:Int))∧1≤g∧g<n∧
 (if m=1 then genN n p (n-1) 1=some g∧mod=[0,1]else lowN n p m n 0=some mod∧g=p):=by
 obtain⟨h2,h64⟩:=ug0 hn
 have h:=dp6 h2 h64
 unfold o66 at h
 rw[hn]at h
 simp only[Bool.and_eq_true,decide_eq_true_eq,List.all_eq_true]at h
 obtain⟨⟨⟨⟨⟨⟨⟨⟨⟨⟨a1,a2⟩,a3⟩,a4⟩,a5⟩,a6⟩,a7⟩,a8⟩,a9⟩,a10⟩,a11⟩:=h
 refine⟨⟨by omega,by omega,a6,a7,a8,a9,a3,a4,fun z hz=>a5 z hz⟩,a1,a10,a11, ?_⟩
 by_cases hm:m=1
 ·rw[if_pos hm]
  rw[decide_eq_true hm,cond_true]at a2
  simpa using a2
 ·rw[if_neg hm]
  rw[decide_eq_false hm,cond_false]at a2
  simpa using a2
def negm(p:Int)(m:Nat)(mod:List Int):List Int:=(mod.take m).map fun d=>p-d
def vl3(p:Int)(m:Nat)(g:Int)(mod:List Int)(a:Int):Int:=
 if m=1 then a*g%p else numb p (axpy p (gi (digs p m a) (m-1:Nat)) (0::(digs p m a).take (m-1)) (negm p m mod))
section
variable {q p g:Int} {m:Nat} {mod:List Int} {om fm cm F:Nat} {es ls:Value} {h1:H}
end
def ql6(p:Int)(m:Nat)(g:Int)(mod:List Int):Nat→Int→Int→List Int→List Int→Option (List Int×List Int×Int)
 |0,_,a,e,l=>some (e,l,a)
 |n+1,k,a,e,l=>bif (a==0)||decide (0≤gi l a)then none else ql6 p m g mod n (k+1) (vl3 p m g mod a) (e.set k.toNat a) (l.set a.toNat k)
section
variable {q p g:Int} {m:Nat} {mod:List Int} {om fm cm F n0:Nat} {h3:H}
end
def a98(q p:Int)(m:Nat)(g:Int)(mod:List Int):Option (List Int×List Int×Int):=ql6 p m g mod (q-1).toNat 0 1 (List.replicate (q-1).toNat 0) (List.replicate q.toNat (-1))
section
variable {q p g:Int} {m:Nat} {mod:List Int} {om fm cm F:Nat}
end
def tabs(n:Nat):List Int×List Int:=match fldN n with
 |some (p,m,g,mod)=>match a98 n p m g mod with
  |some (e,l,_)=>(e,l)
  |none=>([],[])
 |none=>([],[])
section
variable {q p:Int}
end
def fE:Nat→Nat
 |2=>1
 |3=>129
 |4=>12417
 |5=>802945
 |7=>5437399233
 |8=>351215042689
 |9=>17942261559489
 |11=>108962231611310209
 |13=>528130703586913960065
 |16=>178086203705216420255121537
 |17=>7469972054853685843465900225
 |19=>51117137118817732502590154883201
 |23=>1207086427916563790381117712048146882881
 |25=>4296679298253731530926350344465262988325185
 |27=>27683632007463149621854882158786133120173510849
 |29=>89715812243899246029419422853925757204734979096705
 |31=>505605221232691293432177678203438885605117352412483777
 |32=>27808724541577916742700289517998963655941875844624957569
 |37=>31990165230988380045508509409514329167903399549472002670636056705
 |41=>196803355916697640844645143911777462269678895904315453181343275630346625
 |43=>3321900807795576089098097549222868942314588541243702741999572762779355746497
 |47=>37014835288415908718419972056108441944857760468399085769595186018324491242840101185
 |49=>128530077453093768876085316672720063505956351673680030674482110111078127274219255030209
 |53=>3602121195588004432410006517885224262510220814523301142795360849256216185153407993945964691585
 |59=>270951711388824705647634718687622551811723107360332763645300551177870649566628900357333032853137826791553
 |61=>1164162530822367343872202323236078872099065783920682470882800940302953240449962669651654715119434672229073025
 |64=>324948975432320371080866489111452917039159851672880359415289456819899054707732937472241880484391502374330200768641
 |_=>0
def fL:Nat→Nat
 |2=>0
 |3=>4096
 |4=>528384
 |5=>34344960
 |7=>211594518528
 |8=>22271587258368
 |9=>853571180707840
 |11=>5873569748152750080
 |13=>28862381954672620474368
 |16=>15072009285927600738305839104
 |17=>641428296504441872472814706688
 |19=>2971703673908048670609566042689536
 |23=>61002575878740797758556052345228196061184
 |25=>112218846857214744237616359444941385037799424
 |27=>1770301908688390524519687444532503270070340079616
 |29=>5327470521109204196063143671878030373354884279046144
 |31=>23208944618439905287274454518441023752193352319812075520
 |32=>1508315803883406269205986702105420928032254965126544232448
 |37=>1927099591673215374311082307204349858495420952548674591831439708160
 |41=>35517896703273586666149877416896236316072493915779626231776876054160711680
 |43=>152695369836916395283030424145595212849165003026280530570040278169659573121024
 |47=>2871650009675154084637761202718277526292298413880696712693369280921573131467963310080
 |49=>3753548570383623801084175760024803199156836227648943951560852271794289555882576632152064
 |53=>220544676043655077866277337447867632841115249763151128083848210675118928441550703987060033982464
 |59=>16899643013032953793008289850397817256633102912925032377747267387615061072757643228449870777890379802349568
 |61=>71614788332382989993668620795082232958302001517929830336684845480626721184788401132204757971703161274437734400
 |64=>36265302912251042761276606936058182247505748789568104052998051136038197467810438868035313606317156396572587524100096
 |_=>0
def fexp(q i:Int):Int:=((fE q.toNat>>>(6*i.toNat))%64:Nat)
def flog(q a:Int):Int:=bif a==0 then-1 else((fL q.toNat>>>(6*a.toNat))%64:Nat)
def ua4(n:Nat):Bool:=match fldN n with
 |none=>true
 |some (p,m,g,mod)=>decide (tabs n=((List.range (n-1)).map fun i:Nat=>fexp n i,(List.range n).map fun a:Nat=>flog n a))&&
  ((List.range (n-1)).all fun i=>decide (1≤fexp n i)&&decide (fexp n i<n)&&decide (flog n (fexp n i)=i))&&
  ((List.range (n-1)).all fun a=>decide (0≤flog n (a+1:Nat))&&decide (flog n (a+1:Nat)<n-1)&&decide (fexp n (flog n (a+1:Nat))=(a+1:Nat)))&&decide (flog n g=1%((n:Int)-1))&&decide (fexp n 0=1)
theorem fe1:((List.range 63).all fun n=>ua4 (n+2))=true:=by kernel_rfl
structure Tabs (q g:Int):Prop where
 tab:tabs q.toNat=((List.range (q-1).toNat).map fun i:Nat=>fexp q i,(List.range q.toNat).map fun a:Nat=>flog q a)
 er: ∀i,0≤i→i<q-1→1≤fexp q i∧fexp q i<q∧flog q (fexp q i)=i
 lr: ∀a,1≤a→a<q→0≤flog q a∧flog q a<q-1∧fexp q (flog q a)=a
 lg:flog q g=1%(q-1)
 e0:fexp q 0=1
theorem cb4{q p g:Int}{m:Nat}{mod:List Int}(hn:fldN q.toNat=some (p,m,g,mod)):Tabs q g:=by
 obtain⟨h2,h64⟩:=ug0 hn
 have h:=List.all_eq_true.1 fe1 (q.toNat-2) (List.mem_range.2 (by omega))
 rw[show q.toNat-2+2=q.toNat by omega]at h
 unfold ua4 at h
 rw[hn]at h
 simp only[Bool.and_eq_true,decide_eq_true_eq,List.all_eq_true,List.mem_range]at h
 rw[show((q.toNat:Nat):Int)=q by omega]at h
 obtain⟨⟨⟨⟨h1,h2⟩,h3⟩,h4⟩,h5⟩:=h
 refine⟨by rw[h1,show q.toNat-1=(q-1).toNat by omega],fun i h0 hi=> ?_,fun a h0 ha=> ?_,h4,h5⟩
 ·have:=h2 i.toNat (by omega)
  rw[show((i.toNat:Nat):Int)=i by omega]at this
  exact⟨this.1.1,this.1.2,this.2⟩
 ·have:=h3 (a.toNat-1) (by omega)
  rw[show((a.toNat-1+1:Nat):Int)=a by omega]at this
  exact⟨this.1.1,this.1.2,this.2⟩
def fok(q a:Int):Bool:=decide (0≤a)&&decide (a<q)
def addN(p:Int):Nat→Int→Int→Int
 |0,_,_=>0
 |n+1,a,b=>(a%p+b%p)%p+p*addN p n (a/p) (b/p)
def negN(p:Int):Nat→Int→Int
 |0,_=>0
 |n+1,a=>(p-a%p)%p+p*negN p n (a/p)
def fch(q:Int):Int:=match fldN q.toNat with
 |some (p,_,_,_)=>p
 |none=>0
def fdg(q:Int):Nat:=match fldN q.toNat with
 |some (_,m,_,_)=>m
 |none=>0
def fadd(q a b:Int):Int:=bif fok q a&&fok q b then addN (fch q) (fdg q) a b else-1
def fneg(q a:Int):Int:=bif fok q a then negN (fch q) (fdg q) a else-1
def fmul(q a b:Int):Int:=bif fok q a&&fok q b then bif (a==0)||(b==0)then 0 else fexp q ((flog q a+flog q b)%(q-1))else-1
theorem gc0{q a:Int}:fok q a=true↔0≤a∧a<q:=by unfold fok;simp
theorem iy2{q a:Int}(h:0≤a∧a<q):fok q a=true:=gc0.2 h
section
variable {h:H} {F:Nat} {q p:Int} {m:Nat} {g:Int} {mod:List Int} {E L om fm cm:Nat}
end
theorem y65{q p g:Int}{m:Nat}{mod:List Int}(hn:fldN q.toNat=some (p,m,g,mod)):fch q=p∧fdg q=m:=by
 unfold fch fdg;rw[hn];exact⟨rfl,rfl⟩
section
variable {h:H} {F:Nat} {q p:Int} {m:Nat} {g:Int} {mod:List Int} {E L om fm cm:Nat}
theorem kq3{p:Int}(hp:0<p): ∀(n:Nat) (a b:Int),0≤addN p n a b∧addN p n a b<p^n
 |0,a,b=>by simp[addN]
 |n+1,a,b=>by
  have h1:=kq3 hp n (a/p) (b/p)
  have h2:=Int.emod_nonneg (a%p+b%p) (show p≠0 by omega)
  have h3:=Int.emod_lt_of_pos (a%p+b%p) hp
  have h4:0≤p*addN p n (a/p) (b/p):=Int.mul_nonneg (by omega) h1.1
  have h5:p*(addN p n (a/p) (b/p)+1)≤p*p^n:=Int.mul_le_mul_of_nonneg_left (by omega) (by omega)
  rw[addN,Int.pow_succ,Int.mul_comm (p^n) p]
  rw[Int.mul_add,Int.mul_one]at h5
  omega
theorem ul1{p:Int}(hp:0<p): ∀(n:Nat) (a:Int),0≤negN p n a∧negN p n a<p^n
 |0,a=>by simp[negN]
 |n+1,a=>by
  have h1:=ul1 hp n (a/p)
  have h2:=Int.emod_nonneg (p-a%p) (show p≠0 by omega)
  have h3:=Int.emod_lt_of_pos (p-a%p) hp
  have h4:0≤p*negN p n (a/p):=Int.mul_nonneg (by omega) h1.1
  have h5:p*(negN p n (a/p)+1)≤p*p^n:=Int.mul_le_mul_of_nonneg_left (by omega) (by omega)
  rw[negN,Int.pow_succ,Int.mul_comm (p^n) p]
  rw[Int.mul_add,Int.mul_one]at h5
  omega
end
section
variable {h:H} {F:Nat} {q p:Int} {m:Nat} {g:Int} {mod:List Int} {E L om fm cm:Nat}
end
section
variable {h:H} {F:Nat} {q p:Int} {m:Nat} {g:Int} {mod:List Int} {E L om fm cm:Nat}
end
end Go.Proofs.Ytodbgomfeacdhaa
namespace Go.Am
open Go.RowKit (Below)
def RoIn(w:World)(A:Option Addr)(C:Nat)(l:List Int):Prop:=
 (A=none∧l=[]∧C=0)∨ ∃a,A=some a∧l.length≤C∧(C=0∨(a.spot=none∧a.block<w.heap.size∧ ∃Z:List Int,Z.length=C∧l=Z.take l.length∧ ∀c,c<C→w.cell? (a.add c)=some (.int .i64 (Z.getD c 0))))
def RoL(w:World)(a:Option Addr)(len cap:Nat)(ll:List (List Int)):Prop:=
 ll.length=len∧((a=none∧len=0∧cap=0)∨ ∃x,a=some x∧x.spot=none∧x.block<w.heap.size∧len≤cap∧ ∀(r:Nat) (l:List Int),ll[r]? =some l→ ∃A C,w.cell? (x.add r)=some (.slice A l.length C)∧RoIn w A C l)
section
variable {φ:Ren} {B:Nat→Prop} {h:H} {w:World}
end
end Go.Am
namespace Go.Am
end Go.Am
namespace Go.Am
inductive Tr where
 |v (x:Value)
 |sl (e u:Nat) (cs:List Tr)
 |pt (e:Nat) (cs:List Tr)
section
variable {hF G G':H} {L M:List (Value×Tr)}
end
end Go.Am
namespace Go.Am
def il(zs:List Int):Tr:= .sl 3 1 (zs.map fun z=> .v (.int .i64 z))
section
variable {hF G G':H} {L M:List (Value×Tr)}
end
section
variable {hF G G':H} {L M:List (Value×Tr)}
def ll(e:Nat)(m:List (List Int)):Tr:= .sl e 1 (m.map il)
end
end Go.Am
namespace Go.Am
section
variable {hF G G':H} {L M:List (Value×Tr)}
end
end Go.Am
namespace Go.Am
section
variable {hF G G':H} {L M:List (Value×Tr)}
end
end Go.Am
namespace Go.Proofs.Ytodbgomfeacdhaa
open Go.Am Go.Vm
def nlT{α:Type}:List α→Nat
 | []=>2
 |_::_=>0
theorem b99{α β:Type}(f:α→β): ∀l:List α,nlT (l.map f)=nlT l
 | []=>rfl
 |_::_=>rfl
section
variable {h:H} {sa:Option Addr} {c:Nat} {l:List Int}
theorem v84(hr:RdI h sa c l)(hl:l.length≤1000000): ∃(s':Option Addr) (c':Nat) (h':H),h<+:h'∧Grown h' s' c' l h.length∧call T 92 [.slice sa l.length c] h=some (.slice s' l.length c',h'):=by
 cases sa with
 |none=>
  have hl0:l=[]∧c=0:=by
   rcases hr with⟨_,h1,h2⟩|⟨_,o,off,r,h1,_⟩
   ·exact⟨h2,h1⟩
   ·cases h1
  obtain⟨rfl,rfl⟩:=hl0
  refine⟨none,0,h,List.prefix_refl _, .nil, ?_⟩
  rw[wn8 T92 rfl]
  unfold F92 c92
  simp(disch:=first|omega|(simp only[rl9,wi2,q89]<;>omega)|fail) only[push_cast,seval]
 |some x=>
  obtain⟨o,off,rfl⟩: ∃o off,x=⟨o,off,none⟩:=by
   rcases hr with⟨h1,_⟩|⟨_,o,off,r,h1,_⟩
   ·cases h1
   ·cases h1;exact⟨o,off,rfl⟩
  have hs:=(hr.mono (List.prefix_append h [.row ⟨[],3,1,true⟩])).src
  have e:aapp 3 1 8 (h++[.row ⟨[],3,1,true⟩]) (.slice (some ⟨h.length,0,none⟩) 0 0) (.slice (some ⟨o,off,none⟩) l.length c)=some (.slice (some ⟨h.length+1,0,none⟩) l.length l.length,kill (h++[.row ⟨[],3,1,true⟩]) h.length++[.row ⟨ints l,3,1,true⟩]):=by
   unfold aapp aput
   simp only[hs,cv8]
   rw[if_pos (by simp[few];omega),rl9,Nat.zero_add]
   rfl
  refine⟨some ⟨h.length+1,0,none⟩,l.length,kill (h++[.row ⟨[],3,1,true⟩]) h.length++[.row ⟨ints l,3,1,true⟩],ym5 (uw3 (List.prefix_append _ _) (Nat.le_refl _)), .inr ⟨h.length+1,rfl,by omega,rfl,wq4⟩, ?_⟩
  rw[wn8 T92 rfl]
  unfold F92 c92
  simp(disch:=first|omega|(simp only[rl9,wi2,q89]<;>omega)|fail) only[push_cast,seval,e]
end
theorem da9{h:H}{Z:Nat→Prop}: ∀{zs:List Int} {l:List Value},RdL h Z (ivs zs) l→l=ints zs
 | [],l,hr=>by rw[show ivs []=[]from rfl,RdL]at hr;exact hr
 |z::zs,l,hr=>by
  rw[show ivs (z::zs)= .v (.int .i64 z)::ivs zs from rfl,RdL]at hr
  obtain⟨w,l',rfl,h1,h2⟩:=hr
  rw[Rd]at h1
  rw[h1,da9 h2];rfl
theorem nl4{h:H}{Z:Nat→Prop}{nl e:Nat}{zs:List Int}{w:Value}(hr:Rd h Z (.sl nl e 1 (ivs zs)) w): ∃sa c,w= .slice sa zs.length c∧RdI h sa c zs:=by
 rw[Rd]at hr
 rcases hr with⟨h0,_,_,rfl⟩|⟨o,off,n,c,r,rfl,h1,h2,h3,h4,h5,h6,h7,h8⟩
 ·have:zs=[]:=by cases zs with
   |nil=>rfl
   |cons=>cases h0
  subst this
  exact⟨none,0,rfl, .nil⟩
 ·rw[gf1,Nat.mul_one]at h5
  subst h5
  have h9:=da9 h8
  rw[gf1]at h9
  refine⟨_,c,rfl, .inr ⟨h6,o,off,r,rfl,h2,h3,fun i h0 hi=> ?_⟩⟩
  have h10:=c14 h0 hi
  rw[←h9,List.getElem?_take,if_pos (by omega),List.getElem?_drop]at h10
  exact h10
theorem p27: ∀zs:List Int,eraL (zs.map fun z=>AT.v (.int .i64 z))=ivs zs
 | []=>rfl
 |z::zs=>by rw[List.map_cons,eraL,p27 zs,AT.era];rfl
theorem we9: ∀zs:List Int,fpL (zs.map fun z=>AT.v (.int .i64 z))=[]
 | []=>rfl
 |z::zs=>by rw[List.map_cons,fpL,we9 zs,v_fp];rfl
theorem fs7{h:H}{Z:Nat→Prop}: ∀zs:List Int,okL h Z (zs.map fun z=>AT.v (.int .i64 z))
 | []=>by rw[List.map_nil,okL];trivial
 |z::zs=>by rw[List.map_cons,okL,ok];exact⟨trivial,fs7 zs⟩
theorem pr1{h:H}{Z:Nat→Prop}{sa:Option Addr}{c lo:Nat}{zs:List Int}(g:Grown h sa c zs lo): ∃a:AT,a.val= .slice sa zs.length c∧a.era= .sl (nlT zs) 3 1 (ivs zs)∧(a.fp=[]∨ ∃o,a.fp=[o]∧lo≤o∧o<h.length)∧ok h Z a:=by
 rcases g with⟨rfl,rfl,rfl⟩|⟨o,rfl,h1,rfl,h2⟩
 ·exact⟨.nil 2 3 1,rfl,rfl, .inl (uu7 _ _ _),by rw[ok];exact⟨by decide,by decide⟩⟩
 ·refine⟨.sl o 0 zs.length zs.length (nlT zs) 3 1 (zs.map fun z=>AT.v (.int .i64 z)),rfl,by rw[AT.era,p27], .inr ⟨o,by rw[AT.fp,we9],h1,h44 h2⟩, ?_⟩
  rw[ok]
  refine⟨_,h2,rfl,rfl,rfl,by decide,by simp,Nat.le_refl _,⟨fun hn=> ?_, ?_⟩, ?_,fs7 zs⟩
  ·cases zs<;>cases hn
  ·simp[ints]
  ·show((ints zs).drop 0).take _=_
   rw[List.drop_zero,List.take_of_length_le (by simp[ints]),List.map_map]
   rfl
open Classical in
noncomputable def h90:List AV→Rts→Option VRes
 | [.fz b (.sl nl 0 1 cs)],[]=>if∃zs:List Int,cs=ivs zs∧zs.length≤1000000 then some (.own 0 [],[.sl (nlT cs) 3 1 cs],[])else none
 |_,_=>none
theorem ol3{b:Bool}{nl:Nat}{zs:List Int}(hz:zs.length≤1000000):h90 [.fz b (.sl nl 0 1 (ivs zs))] []=some (.own 0 [],[.sl (nlT zs) 3 1 (ivs zs)],[]):=by
 unfold h90
 simp only[]
 rw[if_pos ⟨zs,rfl,hz⟩]
 unfold ivs
 rw[b99]
theorem x66{xs0:List AV}{C:Rts}{r:VRes}(he:h90 xs0 C=some r):VOK T 92 xs0 C r:=by
 unfold h90 at he
 split at he
 ·rename_i b nl cs
  split at he
  ·rename_i hz
   obtain⟨zs,rfl,hz⟩:=hz
   cases he
   intro h Ac Z Zp ws i hC hv hk
   obtain rfl:Ac=[]:=by cases Ac with
    |nil=>rfl
    |cons=>cases hC
   rw[Vm.VRL]at hv
   obtain⟨w,ws',rfl,h1,h2⟩:=hv
   rw[Vm.VRL]at h2
   subst h2
   rw[Vm.VR]at h1
   obtain⟨sa,c,rfl,hr⟩:=nl4 h1
   obtain⟨s',c',h',p,g,e⟩:=v84 hr hz
   obtain⟨a,a1,a2,a3,a4⟩:=pr1 (Z:=Zp) g
   have hnew: ∀o∈a.fp,h.length≤o∧o<h'.length:=fun o ho=>by
    rcases a3 with a3|⟨x,a3,a5⟩
    ·rw[a3]at ho;cases ho
    ·rw[a3]at ho
     rw[List.mem_singleton.1 ho];exact a5
   have hfp:fpL ([]++[a])=a.fp:=by simp[fpL]
   refine⟨_,h',[],[a],Z,Zp,e,⟨?_,rfl,⟨by rw[List.nil_append,okL,okL];exact⟨a4,trivial⟩,fun x=> ?_,fun o ho=> ?_,fun o ho hz=> ?_,fun o ho=> ?_,i.zp⟩,⟨p.length_le,fun o ho _=>cb1 p ho,fun o ho=> .inr ?_,fun o ho=>ho,fun o ho=> .inl ho⟩, ?_,rfl,fun i a k h1=>by simp at h1⟩⟩
   ·rw[List.map_cons,List.map_nil,a2]
    unfold ivs
    rw[b99]
   ·rw[hfp]
    rcases a3 with a3|⟨x,a3,a5⟩
    ·rw[a3];simp
    ·rw[a3,List.count_singleton];split<;>omega
   ·rw[hfp]at ho;exact(hnew o ho).2
   ·rw[hfp]at ho;have:=i.zlt o hz;have:=hnew o ho;omega
   ·have:=i.zlt o ho;have:=p.length_le;omega
   ·rw[hfp]at ho;exact(hnew o ho).1
   ·rw[Vm.VR]
    refine⟨by simp,fun b hb _=> ?_⟩
    have hb:some a=some b:=hb
    cases hb
    exact a1
  ·cases he
 ·cases he
end Go.Proofs.Ytodbgomfeacdhaa
