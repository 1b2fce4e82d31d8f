/-
  The second machine's tables of this seat, written by a program of my own (vgen.py). No condition. What syndromeref's Digits, Number and F.Has compute. Conditions: those of each theorem. What syndromer ..
-/
import Derived.Test.YtodbgomfeacdhaaK4
import Derived.Test.YtodbgomfeacdhaaKCode
import Derived.Test.YtodbgomfeacdhaaK2
import Derived.Deep.Matrix
set_option linter.unusedVariables false
set_option linter.unusedSimpArgs false
set_option linter.unusedSectionVars false
set_option maxRecDepth 100000
namespace Go.Proofs.Ytodbgomfeacdhaa
open Go.Am Go.Vm
def ct:CT
 |23,0=>some (28,1)
 |24,2=>some (28,1)
 |25,2=>some (28,1)
 |28,0=>some (3,1)
 |101,4=>some (3,1)
 |102,4=>some (3,1)
 |106,0=>some (107,1)
 |121,0=>some (4,1)
 |127,0=>some (4,1)
 |127,1=>some (3,1)
 |128,0=>some (4,1)
 |128,1=>some (3,1)
 |186,3=>some (3,1)
 |186,5=>some (3,1)
 |186,6=>some (3,1)
 |187,3=>some (3,1)
 |187,5=>some (3,1)
 |187,6=>some (3,1)
 |_,_=>none
abbrev hNo:Hint:=⟨[],[],[],[]⟩
abbrev h6:Hint:=⟨[(18,28,1)],[],[],[]⟩
abbrev h26:Hint:=⟨[],[8],[],[]⟩
abbrev h31:Hint:=⟨[(8,107,1)],[],[],[]⟩
abbrev h33:Hint:=⟨[(4,28,1),(6,28,1)],[],[],[]⟩
abbrev h34:Hint:=⟨[(4,28,1),(7,28,1)],[],[],[]⟩
abbrev h40:Hint:=⟨[(2,28,1),(3,28,1)],[],[],[]⟩
abbrev h42:Hint:=⟨[(5,28,1)],[],[],[]⟩
abbrev h43:Hint:=⟨[(5,28,1)],[],[],[]⟩
abbrev h46:Hint:=⟨[(8,3,1),(9,3,1)],[],[],[]⟩
abbrev h47:Hint:=⟨[(2,3,1)],[],[],[]⟩
abbrev h48:Hint:=⟨[(2,3,1),(5,3,1)],[],[],[]⟩
abbrev h49:Hint:=⟨[(2,3,1),(8,3,1)],[],[],[]⟩
abbrev h50:Hint:=⟨[(4,3,1),(10,3,1)],[],[],[]⟩
abbrev h58:Hint:=⟨[(14,3,1)],[],[],[]⟩
abbrev h60:Hint:=⟨[(6,3,1)],[],[],[]⟩
abbrev h63:Hint:=⟨[(7,28,1)],[],[],[]⟩
abbrev h70:Hint:=⟨[(5,28,1)],[],[],[]⟩
abbrev h73:Hint:=⟨[(2,28,1),(6,28,1)],[],[],[]⟩
abbrev h92:Hint:=⟨[(2,3,1)],[],[],[]⟩
abbrev h97:Hint:=⟨[(4,3,1)],[],[],[]⟩
abbrev h108:Hint:=⟨[(2,3,1)],[],[],[]⟩
abbrev h109:Hint:=⟨[(6,3,1),(7,3,1),(11,3,1),(17,3,1),(22,3,1)],[],[],[]⟩
abbrev h111:Hint:=⟨[(4,3,1)],[],[],[]⟩
abbrev h113:Hint:=⟨[(4,3,1),(5,3,1)],[],[],[]⟩
abbrev h115:Hint:=⟨[(27,28,1)],[],[],[]⟩
abbrev h116:Hint:=⟨[(4,28,1),(11,28,1)],[],[],[]⟩
abbrev h118:Hint:=⟨[(5,3,1)],[71],[],[]⟩
abbrev h129:Hint:=⟨[(4,28,1),(5,3,1),(6,28,1),(7,3,1)],[],[],[]⟩
abbrev h136:Hint:=⟨[(6,3,1),(7,3,1)],[],[],[]⟩
abbrev h140:Hint:=⟨[(6,3,1)],[],[],[]⟩
abbrev h161:Hint:=⟨[(6,3,1),(7,3,1)],[],[],[]⟩
abbrev h162:Hint:=⟨[(6,3,1)],[],[],[]⟩
abbrev h164:Hint:=⟨[(3,3,1)],[],[],[]⟩
abbrev h168:Hint:=⟨[(8,3,1),(9,3,1)],[],[],[]⟩
abbrev h203:Hint:=⟨[(6,3,1)],[],[],[]⟩
def vH:FuncId→Hint
 |6=>h6
 |26=>h26
 |31=>h31
 |33=>h33
 |34=>h34
 |40=>h40
 |42=>h42
 |43=>h43
 |46=>h46
 |47=>h47
 |48=>h48
 |49=>h49
 |50=>h50
 |58=>h58
 |60=>h60
 |63=>h63
 |70=>h70
 |73=>h73
 |92=>h92
 |97=>h97
 |108=>h108
 |109=>h109
 |111=>h111
 |113=>h113
 |115=>h115
 |116=>h116
 |118=>h118
 |129=>h129
 |136=>h136
 |140=>h140
 |161=>h161
 |162=>h162
 |164=>h164
 |168=>h168
 |203=>h203
 |_=>hNo
def vM:FuncId→List Go.Vm.Mode
 |4=>[.perm 1, .perm 1]
 |13=>[.perm 1, .perm 1]
 |18=>[.perm 1]
 |19=>[.perm 1]
 |20=>[.perm 1]
 |21=>[.perm 1]
 |25=>[.perm 1, .bor 1]
 |26=>[.perm 1, .perm 1]
 |27=>[.perm 1, .bor 1]
 |62=>[.perm 1]
 |63=>[.perm 1, .perm 1]
 |70=>[.perm 1]
 |71=>[.perm 1]
 |72=>[.perm 1]
 |73=>[.perm 1]
 |75=>[.perm 1]
 |76=>[.perm 1]
 |80=>[.perm 1, .bor 1]
 |88=>[.own 3 1, .bor 0]
 |94=>[.own 3 1, .bor 0, .bor 0]
 |115=>[.perm 1]
 |117=>[.perm 1, .perm 1]
 |121=>[.own 3 1, .bor 1]
 |126=>[.perm 1]
 |130=>[.bor 1, .perm 1, .bor 1]
 |133=>[.bor 0, .perm 1, .bor 1]
 |148=>[.perm 1]
 |155=>[.bor 0, .own 3 1, .bor 0]
 |157=>[.bor 0, .own 3 1, .bor 1, .bor 0]
 |163=>[.perm 1, .bor 0, .bor 0]
 |_=>[]
@[push_cast] theorem vH5:vH 5=hNo:=rfl
@[push_cast] theorem vM5:vM 5=[]:=rfl
@[push_cast] theorem vH17:vH 17=hNo:=rfl
@[push_cast] theorem vM17:vM 17=[]:=rfl
@[push_cast] theorem vH29:vH 29=hNo:=rfl
@[push_cast] theorem vM29:vM 29=[]:=rfl
@[push_cast] theorem vH30:vH 30=hNo:=rfl
@[push_cast] theorem vM30:vM 30=[]:=rfl
@[push_cast] theorem vH31:vH 31=h31:=rfl
@[push_cast] theorem vM31:vM 31=[]:=rfl
@[push_cast] theorem vH82:vH 82=hNo:=rfl
@[push_cast] theorem vM82:vM 82=[]:=rfl
@[push_cast] theorem vH83:vH 83=hNo:=rfl
@[push_cast] theorem vM83:vM 83=[]:=rfl
@[push_cast] theorem vH84:vH 84=hNo:=rfl
@[push_cast] theorem vM84:vM 84=[]:=rfl
@[push_cast] theorem vH85:vH 85=hNo:=rfl
@[push_cast] theorem vM85:vM 85=[]:=rfl
@[push_cast] theorem vH86:vH 86=hNo:=rfl
@[push_cast] theorem vM86:vM 86=[]:=rfl
attribute [push_cast] ct
end Go.Proofs.Ytodbgomfeacdhaa
namespace Go.Proofs.Ytodbgomfeacdhaa
open Go.Am
def digs(p:Int):Nat→Int→List Int
 |0,_=>[]
 |n+1,a=>(a%p)::digs p n (a/p)
def numb(p:Int):List Int→Int
 | []=>0
 |d::r=>numb p r*p+d
abbrev fvL(q p m g:Int)(ms:Value):List Value:=[.int .i64 q, .int .i64 p, .int .i64 m, .int .i64 g,ms]
abbrev fv(q p m g:Int)(ms:Value):Value:= .agg (fvL q p m g ms).toArray
def axpy(p c:Int):List Int→List Int→List Int
 |a::l,y::ys=>((a+c*y)%p)::axpy p c l ys
 |l,_=>l
def conv(p:Int)(ys:List Int):List Int→List Int→List Int
 | [],l=>l
 |x::xs,l=>match axpy p x l ys with
  | []=>[]
  |a::r=>a::conv p ys xs r
def red(p:Int)(nm:List Int)(m:Nat):Nat→List Int→List Int
 |0,l=>l
 |n+1,l=>red p nm m n (l.take n++axpy p (gi l (n+m:Nat)) ((l.take (n+m)).drop n) nm)
def mulP(p:Int)(m:Nat)(mod:List Int)(a b:Int):Int:=numb p (red p ((mod.take m).map fun d=>p-d) m m (conv p (digs p m b) (digs p m a) (List.replicate (2*m) 0)))
def mulR(q p:Int)(m:Nat)(mod:List Int)(a b:Int):Int:=
 if 0≤a∧a<q then if 0≤b∧b<q then if m=1 then a*b%p else mulP p m mod a b else-1 else-1
def Dig(p:Int)(l:List Int):Prop:= ∀z∈l,0≤z∧z<p
section
variable {q p g0:Int} {m:Nat} {ms:Value} {h1:H} {B:Nat}
end
section
variable {q p g0:Int} {m:Nat} {om fm cm:Nat} {h1:H} {B:Nat} {mod:List Int}
end
structure FOk (q p:Int) (m:Nat) (mod:List Int):Prop where
 q2:2≤q
 q64:q≤64
 p2:2≤p
 p64:p≤64
 m1:1≤m
 m10:m≤10
 pm:p^m=q
 ml:mod.length=m+1
 dig:Dig p mod
def wj0(q p:Int)(m:Nat)(mod:List Int)(g:Int):Nat→Int→Nat→Bool
 |0,_,_=>true
 |n+1,a,s=>bif (a==0)||s.testBit a.toNat then false else wj0 q p m mod g n (mulR q p m mod a g) (s|||1<<<a.toNat)
def dvdN:Nat→Int→Int→Int→Option (Int×Int)
 |0,_,_,_=>none
 |n+1,q,p,m=>bif q%p==0 then dvdN n (q/p) p (m+1)else some (q,m)
def outN:Nat→Int→Int→Option (Int×Int)
 |0,_,_=>none
 |n+1,q,p=>bif decide (q<p)then none else bif q%p==0 then match dvdN 64 q p 0 with
   |some (q',m)=>some (bif q'==1 then(p,m)else(0,0))
   |none=>none
  else outN n q (p+1)
def fldN:Nat→Option (Int×Nat×Int×List Int)
 |2=>some (2,1,1,[0,1])
 |3=>some (3,1,2,[0,1])
 |4=>some (2,2,2,[1,1,1])
 |5=>some (5,1,2,[0,1])
 |7=>some (7,1,3,[0,1])
 |8=>some (2,3,2,[1,1,0,1])
 |9=>some (3,2,3,[2,1,1])
 |11=>some (11,1,2,[0,1])
 |13=>some (13,1,2,[0,1])
 |16=>some (2,4,2,[1,1,0,0,1])
 |17=>some (17,1,3,[0,1])
 |19=>some (19,1,2,[0,1])
 |23=>some (23,1,5,[0,1])
 |25=>some (5,2,5,[2,1,1])
 |27=>some (3,3,3,[1,2,0,1])
 |29=>some (29,1,2,[0,1])
 |31=>some (31,1,3,[0,1])
 |32=>some (2,5,2,[1,0,1,0,0,1])
 |37=>some (37,1,2,[0,1])
 |41=>some (41,1,6,[0,1])
 |43=>some (43,1,3,[0,1])
 |47=>some (47,1,5,[0,1])
 |49=>some (7,2,7,[3,1,1])
 |53=>some (53,1,2,[0,1])
 |59=>some (59,1,2,[0,1])
 |61=>some (61,1,2,[0,1])
 |64=>some (2,6,2,[1,1,0,0,0,0,1])
 |_=>none
def genN(q p:Int):Nat→Int→Option Int
 |0,_=>none
 |n+1,g=>bif wj0 q p 1 [0,1] g (q-1).toNat 1 0 then some g else genN q p n (g+1)
def lowN(q p:Int)(m:Nat):Nat→Int→Option (List Int)
 |0,_=>none
 |n+1,low=>bif wj0 q p m (digs p m low++[1]) p (q-1).toNat 1 0 then some (digs p m low++[1])else lowN q p m n (low+1)
def o66(n:Nat):Bool:=
 match fldN n with
 |none=>decide (outN 64 n 2=some (0,0))
 |some (p,m,g,mod)=>decide (outN 64 n 2=some (p,(m:Int)))&&(bif decide (m=1)then decide (genN n p (n-1) 1=some g)&&decide (mod=[0,1])else decide (lowN n p m n 0=some mod)&&decide (g=p))&&
   decide (p^m=(n:Int))&&decide (mod.length=m+1)&&(mod.all fun d=>decide (0≤d)&&decide (d<p))&&decide (2≤p)&&decide (p≤64)&&decide (1≤m)&&decide (m≤10)&&decide (1≤g)&&decide (g<n)
theorem wb4:((List.range 63).all fun n=>o66 (n+2))=true:=by kernel_rfl
theorem dp6{n:Nat}(h2:2≤n)(h64:n≤64):o66 n=true:=by
 have h:=List.all_eq_true.1 wb4 (n-2) (List.mem_range.2 (by omega))
 rw[show n-2+2=n by omega]at h
 exact h
theorem ug0{n:Nat}{x}(h:fldN n=some x):2≤n∧n≤64:=by
 unfold fldN at h
 split at h<;>first|(cases h;done)|omega
theorem hi9{n:Nat}{p g:Int}{m:Nat}{mod:List Int}(hn:fldN n=some (p,m,g,mod)):FOk n p m mod∧outN 64 n 2=some (p,(m:Int))∧1≤g∧g<n∧
 (if m=1 then genN n p (n-1) 1=some g∧mod=[0,1]else lowN n p m n 0=some mod∧g=p):=by
 obtain⟨h2,h64⟩:=ug0 hn
 have h:=dp6 h2 h64
 unfold o66 at h
 rw[hn]at h
 simp only[Bool.and_eq_true,decide_eq_true_eq,List.all_eq_true]at h
 obtain⟨⟨⟨⟨⟨⟨⟨⟨⟨⟨a1,a2⟩,a3⟩,a4⟩,a5⟩,a6⟩,a7⟩,a8⟩,a9⟩,a10⟩,a11⟩:=h
 refine⟨⟨by omega,by omega,a6,a7,a8,a9,a3,a4,fun z hz=>a5 z hz⟩,a1,a10,a11, ?_⟩
 by_cases hm:m=1
 ·rw[if_pos hm]
  rw[decide_eq_true hm,cond_true]at a2
  simpa using a2
 ·rw[if_neg hm]
  rw[decide_eq_false hm,cond_false]at a2
  simpa using a2
def negm(p:Int)(m:Nat)(mod:List Int):List Int:=(mod.take m).map fun d=>p-d
def vl3(p:Int)(m:Nat)(g:Int)(mod:List Int)(a:Int):Int:=
 if m=1 then a*g%p else numb p (axpy p (gi (digs p m a) (m-1:Nat)) (0::(digs p m a).take (m-1)) (negm p m mod))
section
variable {q p g:Int} {m:Nat} {mod:List Int} {om fm cm F:Nat} {es ls:Value} {h1:H}
end
def ql6(p:Int)(m:Nat)(g:Int)(mod:List Int):Nat→Int→Int→List Int→List Int→Option (List Int×List Int×Int)
 |0,_,a,e,l=>some (e,l,a)
 |n+1,k,a,e,l=>bif (a==0)||decide (0≤gi l a)then none else ql6 p m g mod n (k+1) (vl3 p m g mod a) (e.set k.toNat a) (l.set a.toNat k)
section
variable {q p g:Int} {m:Nat} {mod:List Int} {om fm cm F n0:Nat} {h3:H}
end
def a98(q p:Int)(m:Nat)(g:Int)(mod:List Int):Option (List Int×List Int×Int):=ql6 p m g mod (q-1).toNat 0 1 (List.replicate (q-1).toNat 0) (List.replicate q.toNat (-1))
section
variable {q p g:Int} {m:Nat} {mod:List Int} {om fm cm F:Nat}
end
def tabs(n:Nat):List Int×List Int:=match fldN n with
 |some (p,m,g,mod)=>match a98 n p m g mod with
  |some (e,l,_)=>(e,l)
  |none=>([],[])
 |none=>([],[])
section
variable {q p:Int}
end
def fE:Nat→Nat
 |2=>1
 |3=>129
 |4=>12417
 |5=>802945
 |7=>5437399233
 |8=>351215042689
 |9=>17942261559489
 |11=>108962231611310209
 |13=>528130703586913960065
 |16=>178086203705216420255121537
 |17=>7469972054853685843465900225
 |19=>51117137118817732502590154883201
 |23=>1207086427916563790381117712048146882881
 |25=>4296679298253731530926350344465262988325185
 |27=>27683632007463149621854882158786133120173510849
 |29=>89715812243899246029419422853925757204734979096705
 |31=>505605221232691293432177678203438885605117352412483777
 |32=>27808724541577916742700289517998963655941875844624957569
 |37=>31990165230988380045508509409514329167903399549472002670636056705
 |41=>196803355916697640844645143911777462269678895904315453181343275630346625
 |43=>3321900807795576089098097549222868942314588541243702741999572762779355746497
 |47=>37014835288415908718419972056108441944857760468399085769595186018324491242840101185
 |49=>128530077453093768876085316672720063505956351673680030674482110111078127274219255030209
 |53=>3602121195588004432410006517885224262510220814523301142795360849256216185153407993945964691585
 |59=>270951711388824705647634718687622551811723107360332763645300551177870649566628900357333032853137826791553
 |61=>1164162530822367343872202323236078872099065783920682470882800940302953240449962669651654715119434672229073025
 |64=>324948975432320371080866489111452917039159851672880359415289456819899054707732937472241880484391502374330200768641
 |_=>0
def fL:Nat→Nat
 |2=>0
 |3=>4096
 |4=>528384
 |5=>34344960
 |7=>211594518528
 |8=>22271587258368
 |9=>853571180707840
 |11=>5873569748152750080
 |13=>28862381954672620474368
 |16=>15072009285927600738305839104
 |17=>641428296504441872472814706688
 |19=>2971703673908048670609566042689536
 |23=>61002575878740797758556052345228196061184
 |25=>112218846857214744237616359444941385037799424
 |27=>1770301908688390524519687444532503270070340079616
 |29=>5327470521109204196063143671878030373354884279046144
 |31=>23208944618439905287274454518441023752193352319812075520
 |32=>1508315803883406269205986702105420928032254965126544232448
 |37=>1927099591673215374311082307204349858495420952548674591831439708160
 |41=>35517896703273586666149877416896236316072493915779626231776876054160711680
 |43=>152695369836916395283030424145595212849165003026280530570040278169659573121024
 |47=>2871650009675154084637761202718277526292298413880696712693369280921573131467963310080
 |49=>3753548570383623801084175760024803199156836227648943951560852271794289555882576632152064
 |53=>220544676043655077866277337447867632841115249763151128083848210675118928441550703987060033982464
 |59=>16899643013032953793008289850397817256633102912925032377747267387615061072757643228449870777890379802349568
 |61=>71614788332382989993668620795082232958302001517929830336684845480626721184788401132204757971703161274437734400
 |64=>36265302912251042761276606936058182247505748789568104052998051136038197467810438868035313606317156396572587524100096
 |_=>0
def fexp(q i:Int):Int:=((fE q.toNat>>>(6*i.toNat))%64:Nat)
def flog(q a:Int):Int:=bif a==0 then-1 else((fL q.toNat>>>(6*a.toNat))%64:Nat)
def ua3(n:Nat):Bool:=match fldN n with
 |none=>true
 |some (p,m,g,mod)=>decide (tabs n=((List.range (n-1)).map fun i:Nat=>fexp n i,(List.range n).map fun a:Nat=>flog n a))&&
  ((List.range (n-1)).all fun i=>decide (1≤fexp n i)&&decide (fexp n i<n)&&decide (flog n (fexp n i)=i))&&
  ((List.range (n-1)).all fun a=>decide (0≤flog n (a+1:Nat))&&decide (flog n (a+1:Nat)<n-1)&&decide (fexp n (flog n (a+1:Nat))=(a+1:Nat)))&&decide (flog n g=1%((n:Int)-1))&&decide (fexp n 0=1)
theorem fe1:((List.range 63).all fun n=>ua3 (n+2))=true:=by kernel_rfl
structure Tabs (q g:Int):Prop where
 tab:tabs q.toNat=((List.range (q-1).toNat).map fun i:Nat=>fexp q i,(List.range q.toNat).map fun a:Nat=>flog q a)
 er: ∀i,0≤i→i<q-1→1≤fexp q i∧fexp q i<q∧flog q (fexp q i)=i
 lr: ∀a,1≤a→a<q→0≤flog q a∧flog q a<q-1∧fexp q (flog q a)=a
 lg:flog q g=1%(q-1)
 e0:fexp q 0=1
theorem cb4{q p g:Int}{m:Nat}{mod:List Int}(hn:fldN q.toNat=some (p,m,g,mod)):Tabs q g:=by
 obtain⟨h2,h64⟩:=ug0 hn
 have h:=List.all_eq_true.1 fe1 (q.toNat-2) (List.mem_range.2 (by omega))
 rw[show q.toNat-2+2=q.toNat by omega]at h
 unfold ua3 at h
 rw[hn]at h
 simp only[Bool.and_eq_true,decide_eq_true_eq,List.all_eq_true,List.mem_range]at h
 rw[show((q.toNat:Nat):Int)=q by omega]at h
 obtain⟨⟨⟨⟨h1,h2⟩,h3⟩,h4⟩,h5⟩:=h
 refine⟨by rw[h1,show q.toNat-1=(q-1).toNat by omega],fun i h0 hi=> ?_,fun a h0 ha=> ?_,h4,h5⟩
 ·have:=h2 i.toNat (by omega)
  rw[show((i.toNat:Nat):Int)=i by omega]at this
  exact⟨this.1.1,this.1.2,this.2⟩
 ·have:=h3 (a.toNat-1) (by omega)
  rw[show((a.toNat-1+1:Nat):Int)=a by omega]at this
  exact⟨this.1.1,this.1.2,this.2⟩
def fok(q a:Int):Bool:=decide (0≤a)&&decide (a<q)
def addN(p:Int):Nat→Int→Int→Int
 |0,_,_=>0
 |n+1,a,b=>(a%p+b%p)%p+p*addN p n (a/p) (b/p)
def negN(p:Int):Nat→Int→Int
 |0,_=>0
 |n+1,a=>(p-a%p)%p+p*negN p n (a/p)
def fch(q:Int):Int:=match fldN q.toNat with
 |some (p,_,_,_)=>p
 |none=>0
def fdg(q:Int):Nat:=match fldN q.toNat with
 |some (_,m,_,_)=>m
 |none=>0
def fadd(q a b:Int):Int:=bif fok q a&&fok q b then addN (fch q) (fdg q) a b else-1
def fneg(q a:Int):Int:=bif fok q a then negN (fch q) (fdg q) a else-1
def fmul(q a b:Int):Int:=bif fok q a&&fok q b then bif (a==0)||(b==0)then 0 else fexp q ((flog q a+flog q b)%(q-1))else-1
theorem gc0{q a:Int}:fok q a=true↔0≤a∧a<q:=by unfold fok;simp
theorem iy2{q a:Int}(h:0≤a∧a<q):fok q a=true:=gc0.2 h
section
variable {h:H} {F:Nat} {q p:Int} {m:Nat} {g:Int} {mod:List Int} {E L om fm cm:Nat}
end
theorem y65{q p g:Int}{m:Nat}{mod:List Int}(hn:fldN q.toNat=some (p,m,g,mod)):fch q=p∧fdg q=m:=by
 unfold fch fdg;rw[hn];exact⟨rfl,rfl⟩
section
variable {h:H} {F:Nat} {q p:Int} {m:Nat} {g:Int} {mod:List Int} {E L om fm cm:Nat}
theorem kq3{p:Int}(hp:0<p): ∀(n:Nat) (a b:Int),0≤addN p n a b∧addN p n a b<p^n
 |0,a,b=>by simp[addN]
 |n+1,a,b=>by
  have h1:=kq3 hp n (a/p) (b/p)
  have h2:=Int.emod_nonneg (a%p+b%p) (show p≠0 by omega)
  have h3:=Int.emod_lt_of_pos (a%p+b%p) hp
  have h4:0≤p*addN p n (a/p) (b/p):=Int.mul_nonneg (by omega) h1.1
  have h5:p*(addN p n (a/p) (b/p)+1)≤p*p^n:=Int.mul_le_mul_of_nonneg_left (by omega) (by omega)
  rw[addN,Int.pow_succ,Int.mul_comm (p^n) p]
  rw[Int.mul_add,Int.mul_one]at h5
  omega
theorem ul1{p:Int}(hp:0<p): ∀(n:Nat) (a:Int),0≤negN p n a∧negN p n a<p^n
 |0,a=>by simp[negN]
 |n+1,a=>by
  have h1:=ul1 hp n (a/p)
  have h2:=Int.emod_nonneg (p-a%p) (show p≠0 by omega)
  have h3:=Int.emod_lt_of_pos (p-a%p) hp
  have h4:0≤p*negN p n (a/p):=Int.mul_nonneg (by omega) h1.1
  have h5:p*(negN p n (a/p)+1)≤p*p^n:=Int.mul_le_mul_of_nonneg_left (by omega) (by omega)
  rw[negN,Int.pow_succ,Int.mul_comm (p^n) p]
  rw[Int.mul_add,Int.mul_one]at h5
  omega
end
section
variable {h:H} {F:Nat} {q p:Int} {m:Nat} {g:Int} {mod:List Int} {E L om fm cm:Nat}
end
section
variable {h:H} {F:Nat} {q p:Int} {m:Nat} {g:Int} {mod:List Int} {E L om fm cm:Nat}
end
end Go.Proofs.Ytodbgomfeacdhaa
namespace Go.Am
open Go.RowKit (Below)
def RoIn(w:World)(A:Option Addr)(C:Nat)(l:List Int):Prop:=
 (A=none∧l=[]∧C=0)∨ ∃a,A=some a∧l.length≤C∧(C=0∨(a.spot=none∧a.block<w.heap.size∧ ∃Z:List Int,Z.length=C∧l=Z.take l.length∧ ∀c,c<C→w.cell? (a.add c)=some (.int .i64 (Z.getD c 0))))
def RoL(w:World)(a:Option Addr)(len cap:Nat)(ll:List (List Int)):Prop:=
 ll.length=len∧((a=none∧len=0∧cap=0)∨ ∃x,a=some x∧x.spot=none∧x.block<w.heap.size∧len≤cap∧ ∀(r:Nat) (l:List Int),ll[r]? =some l→ ∃A C,w.cell? (x.add r)=some (.slice A l.length C)∧RoIn w A C l)
theorem RoL.of{w:World}{x:Addr}{len cap:Nat}{A:Nat→Option Addr}{L C:Nat→Nat}{Z:Nat→List Int}(h1:x.spot=none)(h2:x.block<w.heap.size)(hl:len≤cap)
 (hr: ∀r,r<cap→w.cell? (x.add r)=some (.slice (A r) (L r) (C r))∧L r≤C r∧C r≤maxLen∧(Z r).length=C r∧(∀n∈Z r,(Lit.int .i64 n).wf=true)∧(A r=none→C r=0)∧ ∀a',A r=some a'→0≤a'.block∧ ∀c,c<C r→w.cell? (a'.add c)=some (.int .i64 ((Z r).getD c 0))):
 RoL w (some x) len cap ((List.range len).map fun r=>(Z r).take (L r)):=by
 refine⟨by simp, .inr ⟨x,rfl,h1,h2,hl,fun r l hrl=> ?_⟩⟩
 rw[List.getElem?_map]at hrl
 obtain⟨r',hr',rfl⟩:=Option.map_eq_some_iff.1 hrl
 have hrr:r'=r∧r<len:=by
  obtain⟨hlt,he⟩:=List.getElem?_eq_some_iff.1 hr'
  simp at hlt he
  exact⟨he.symm,hlt⟩
 obtain⟨rfl,hlt⟩:=hrr
 obtain⟨q1,q2,q3,q4,q5,q6,q7⟩:=hr r' (by omega)
 have hll:((Z r').take (L r')).length=L r':=by rw[List.length_take];omega
 refine⟨A r',C r',by rw[hll];exact q1, ?_⟩
 cases hA:A r' with
 |none=>
  have:=q6 hA
  exact .inl ⟨rfl,List.eq_nil_of_length_eq_zero (by rw[hll];omega),this⟩
 |some a=>
  refine .inr ⟨a,rfl,by rw[hll];exact q2, ?_⟩
  obtain⟨_,q8⟩:=q7 a hA
  by_cases hC:C r'=0
  ·exact .inl hC
  ·have h0:=q8 0 (by omega)
   have ha:a.add 0=a:=by simp[Addr.add]
   rw[ha]at h0
   refine .inr ⟨World.cell?_spot h0, ?_,Z r',q4,by rw[hll],q8⟩
   unfold World.cell? at h0
   by_cases hb:a.block<w.heap.size
   ·exact hb
   ·rw[Array.getElem?_eq_none (by omega)]at h0;cases h0
section
variable {φ:Ren} {B:Nat→Prop} {h:H} {w:World}
theorem ja0(hB:B=old w)(hh:HR φ B h w){b:Nat}(hb:B b){A:Option Addr}{C:Nat}{l:List Int}(hr:RoIn w A C l)(e:TypeId):
 ∃φ' h' sa,Ext φ h.length φ'∧h<+:h'∧HR φ' B h' w∧VR φ' h'.length (.slice sa l.length C) (.slice A l.length C)∧RdI h' sa C l:=by
 rcases hr with⟨rfl,rfl,rfl⟩|⟨a,rfl,hl,hr⟩
 ·exact⟨φ,h,none,Ext.refl _ _,List.prefix_refl _,hh, .snil, .inl ⟨rfl,rfl,rfl⟩⟩
 ·rcases hr with rfl|⟨h1,h2,Z,hZ,hlZ,hc⟩
  ·obtain rfl:l=[]:=List.eq_nil_of_length_eq_zero (by omega)
   have hrow:H.row (h++[.row ⟨[],e,1,false⟩]) h.length=some ⟨[],e,1,false⟩:=cv8
   refine⟨φ.with h.length ⟨b,0,0,1,false⟩,h++[.row ⟨[],e,1,false⟩],some ⟨h.length,0,none⟩,Ext.with _ _ _,List.prefix_append _ _,hh.pushRo ⟨[],e,1,false⟩ b 0 0 1 rfl hb (fun c hc=>by cases hc) (fun i c hc=>by simp at hc), ?_, .inr ⟨Nat.le_refl _,h.length,0,_,rfl,hrow,fun h=>by(cases h),fun i h0 hi=>by simp at hi;omega⟩⟩
   exact .slz h.length 0 a (by simp) (by rw[Ren.with_same])
  ·have hro:RoI .i64 w (some a) l.length C Z:= .inr ⟨a,rfl,h1,h2,hl,hZ,fun i hi=>hc i (by omega)⟩
   obtain⟨φ',h',sa,k1,k2,k3,k4,k5,k6,k7⟩:=q97 hB hh hro e
   refine⟨φ',h',sa,k1,k2,k3,k4, ?_⟩
   rw[←hlZ]at k5
   exact k5.i64
theorem zl6(hB:B=old w){b:Nat}(hb:B b)(e:TypeId): ∀(ll:List (List Int)) (Ac:Nat→Option Addr×Nat) (φ:Ren) (h:H),HR φ B h w→(∀(r:Nat) (l:List Int),ll[r]? =some l→RoIn w (Ac r).1 (Ac r).2 l)→
 ∃(φ':Ren) (h':H) (vs:List Value),Ext φ h.length φ'∧h<+:h'∧HR φ' B h' w∧vs.length=ll.length∧ ∀(r:Nat) (l:List Int),ll[r]? =some l→ ∃sa,vs[r]? =some (.slice sa l.length (Ac r).2)∧VR φ' h'.length (.slice sa l.length (Ac r).2) (.slice (Ac r).1 l.length (Ac r).2)∧RdI h' sa (Ac r).2 l
 | [],Ac,φ,h,hh,hr=>⟨φ,h,[],Ext.refl _ _,List.prefix_refl _,hh,rfl,fun r l hl=>by simp at hl⟩
 |l::ll,Ac,φ,h,hh,hr=>by
  obtain⟨φ1,h1,sa,k1,k2,k3,k4,k5⟩:=ja0 hB hh hb (hr 0 l rfl) e
  obtain⟨φ2,h2,vs,j1,j2,j3,j4,j5⟩:=zl6 hB hb e ll (fun r=>Ac (r+1)) φ1 h1 k3 (fun r l hl=>hr (r+1) l (by simpa using hl))
  refine⟨φ2,h2, .slice sa l.length (Ac 0).2::vs,k1.trans j1 k2.length_le,k2.trans j2,j3,by simp[j4],fun r l' hl=> ?_⟩
  cases r with
  |zero=>
   simp at hl;subst hl
   exact⟨sa,rfl,k4.mono j1 j2.length_le,k5.mono j2⟩
  |succ r=>
   obtain⟨s,m1,m2⟩:=j5 r l' (by simpa using hl)
   exact⟨s,by simpa using m1,m2⟩
theorem du6(hB:B=old w)(hh:HR φ B h w){a:Option Addr}{len cap:Nat}{ll:List (List Int)}(hw:RoL w a len cap ll)(e1 e2:TypeId):
 ∃φ' h' sa,Ext φ h.length φ'∧h<+:h'∧HR φ' B h' w∧VR φ' h'.length (.slice sa len cap) (.slice a len cap)∧RdLL h' sa cap ll∧ss4 h' 1 sa=true:=by
 obtain⟨hlen,hw⟩:=hw
 rcases hw with⟨rfl,rfl,rfl⟩|⟨x,rfl,hs,hb,hl,hr⟩
 ·exact⟨φ,h,none,Ext.refl _ _,List.prefix_refl _,hh, .snil, .inl ⟨rfl,rfl,List.eq_nil_of_length_eq_zero hlen⟩,rfl⟩
 ·obtain⟨Ac,hAc⟩: ∃Ac:Nat→Option Addr×Nat,∀(r:Nat) (l:List Int),ll[r]? =some l→w.cell? (x.add r)=some (.slice (Ac r).1 l.length (Ac r).2)∧RoIn w (Ac r).1 (Ac r).2 l:=by
   have key: ∀r:Nat,∃p:Option Addr×Nat,∀l:List Int,ll[r]? =some l→w.cell? (x.add r)=some (.slice p.1 l.length p.2)∧RoIn w p.1 p.2 l:=by
    intro r
    cases hl':ll[r]? with
    |none=>exact⟨(none,0),fun l h=>by cases h⟩
    |some l=>
     obtain⟨A,C,q1,q2⟩:=hr r l hl'
     exact⟨(A,C),fun l2 h=>by cases h;exact⟨q1,q2⟩⟩
   exact⟨fun r=>Classical.choose (key r),fun r=>Classical.choose_spec (key r)⟩
  obtain⟨φ1,h1,vs,k1,k2,k3,k4,k5⟩:=zl6 hB (b:=x.block) (by rw[hB];exact hb) e1 ll Ac φ h hh (fun r l hl'=>(hAc r l hl').2)
  have hget: ∀(i:Nat) (c:Value),vs[i]? =some c→ ∃l sa,ll[i]? =some l∧c= .slice sa l.length (Ac i).2∧VR φ1 h1.length c (.slice (Ac i).1 l.length (Ac i).2)∧RdI h1 sa (Ac i).2 l:=by
   intro i c hc
   have hi:i<ll.length:=by rw[←k4];exact(List.getElem?_eq_some_iff.1 hc).1
   obtain⟨sa,m1,m2,m3⟩:=k5 i ll[i] (List.getElem?_eq_getElem hi)
   rw[hc]at m1;cases m1
   exact⟨_,sa,List.getElem?_eq_getElem hi,rfl,m2,m3⟩
  have hrow:H.row (h1++[.row ⟨vs,e2,1,false⟩]) h1.length=some ⟨vs,e2,1,false⟩:=cv8
  have hadd: ∀i,x.add i=⟨x.block,x.off+i,none⟩:=ac6 hs
  refine⟨φ1.with h1.length ⟨x.block,x.off,cap,1,false⟩,h1++[.row ⟨vs,e2,1,false⟩],some ⟨h1.length,0,none⟩,k1.trans (Ext.with _ _ _) k2.length_le,ym5 k2,k3.pushRo ⟨vs,e2,1,false⟩ x.block x.off cap 1 rfl (by rw[hB];exact hb) (fun c hc=> ?_) (fun i c hc=> ?_), ?_, .inr ⟨h1.length,⟨vs,e2,1,false⟩,rfl,by omega,hrow,Nat.le_of_eq k4.symm,fun i l hl'=> ?_⟩, ?_⟩
  ·obtain⟨i,hi,he⟩:=List.getElem_of_mem hc
   obtain⟨l,sa,_,rfl,_⟩:=hget i c (by rw[List.getElem?_eq_getElem hi,he])
   rfl
  ·obtain⟨l,sa,m0,m1,m2,m3⟩:=hget i c hc
   have:=(hAc i l m0).1
   rw[hadd]at this
   exact⟨_,this,m2⟩
  ·have hv:=VR.sl (φ:=φ1.with h1.length ⟨x.block,x.off,cap,1,false⟩) (n:=(h1++[Ob.row ⟨vs,e2,1,false⟩]).length) h1.length 0 len cap cap x.off (by simp) (Nat.le_refl _) (.inl (by rw[Ren.with_same];rfl)) (by rw[Ren.with_same];intro h;cases h)
   rw[Ren.with_same]at hv
   have hx:x=⟨x.block,x.off,none⟩:=by obtain⟨b,o,s⟩:=x;simp only at hs;subst hs;rfl
   rw[hx]
   exact hv
  ·obtain⟨sa,m1,m2,m3⟩:=k5 i l hl'
   exact⟨sa,(Ac i).2,m1,m3.mono (List.prefix_append _ _)⟩
  ·unfold ss4;simp only[hrow];rfl
end
end Go.Am
namespace Go.Am
end Go.Am
namespace Go.Am
inductive Tr where
 |v (x:Value)
 |sl (e u:Nat) (cs:List Tr)
 |pt (e:Nat) (cs:List Tr)
section
variable {hF G G':H} {L M:List (Value×Tr)}
end
end Go.Am
namespace Go.Am
def il(zs:List Int):Tr:= .sl 3 1 (zs.map fun z=> .v (.int .i64 z))
section
variable {hF G G':H} {L M:List (Value×Tr)}
end
section
variable {hF G G':H} {L M:List (Value×Tr)}
theorem tl5(zs:List Int)(y:Int):(zs.map fun z=>Tr.v (.int .i64 z))++[Tr.v (.int .i64 y)]=(zs++[y]).map fun z=>Tr.v (.int .i64 z):=by simp
def ll(e:Nat)(m:List (List Int)):Tr:= .sl e 1 (m.map il)
end
end Go.Am
namespace Go.Am
section
variable {hF G G':H} {L M:List (Value×Tr)}
end
end Go.Am
namespace Go.Am
section
variable {hF G G':H} {L M:List (Value×Tr)}
end
end Go.Am
namespace Go.Proofs.Ytodbgomfeacdhaa
open Go.Am Go.Vm
section
variable {h:H} {sa:Option Addr} {c:Nat} {l:List Int}
end
end Go.Proofs.Ytodbgomfeacdhaa
