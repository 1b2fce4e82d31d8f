/-
  Raw numbers turned to elements, lists and matrices; sizes of fields; in the second machine. Conditions: those of each theorem. Codes out of raw numbers; has a code a word; in the second machine. Condi ..
-/
import Derived.Test.YtoglhlonhmmieaaK7
import Derived.Test.YtoglhlonhmmieaaK6
import Derived.Test.YtoglhlonhmmieaaKCode
import Derived.Test.YtoglhlonhmmieaaK5
set_option linter.unusedVariables false
set_option linter.unusedSimpArgs false
set_option linter.unusedSectionVars false
set_option maxRecDepth 100000
namespace Go.Proofs.Ytoglhlonhmmieaa
open Go.Am Go.Vm Go.Alg
def pkI(a n:Int):Int:=(if a<0 then-(a+1)else a).tmod n
theorem h58{a n:Int}(hn:0<n):0≤pkI a n∧pkI a n<n:=by
 unfold pkI
 split
 ·exact⟨Int.tmod_nonneg _ (by omega),Int.tmod_lt_of_pos _ hn⟩
 ·exact⟨Int.tmod_nonneg _ (by omega),Int.tmod_lt_of_pos _ hn⟩
def rwI(l:List Int)(i:Int):Int:=if l.length=0 then i else IntKind.wrap .i64 (gi l (i.tmod l.length)+IntKind.wrap .i64 (IntKind.wrap .i64 (i.tdiv l.length)*7919))
theorem ti9(x:Int): -9223372036854775808≤IntKind.wrap .i64 x∧IntKind.wrap .i64 x≤9223372036854775807:=by rw[IntKind.wrap_i64];omega
theorem bd0{l:List Int}{i:Int}(h0:0≤i)(h1:i≤9223372036854775807): -9223372036854775808≤rwI l i∧rwI l i≤9223372036854775807:=by
 unfold rwI
 split
 ·omega
 ·exact ti9 _
theorem cl0{l:List Int}{i:Int}(h0:0≤i)(h1:i<l.length):(ivs l)[i.toNat]? =some (.v (.int .i64 (gi l i))):=by
 have e:(ivs l)[i.toNat]? =some (.v (.int .i64 (gi l ((i.toNat:Nat):Int)))):=ui5 (by omega)
 rwa [Int.toNat_of_nonneg h0]at e
theorem o99{x:Int}(h0:0≤x){n:Int}(h:x<n): ∃k:Nat,x=(k:Int)∧(k:Int)<n:=⟨x.toNat,by omega,by omega⟩
section
variable {b:Bool} {nl:Nat} {raw:List Int}
theorem s88{a n:Int}(h1: -9223372036854775808≤a)(h2:a≤9223372036854775807)(hn:0<n):o24 W 22 [.x (.int .i64 a), .x (.int .i64 n)] []=some (.x (.int .i64 (pkI a n)),[],[]):=by
 have hz: ¬n=0:=by omega
 rw[o10 rfl T22 rfl]
 unfold F22 c22 pkI
 by_cases h0:a<0
 ·rw[if_pos h0]
  simp(disch:=first|omega|fail) only[push_cast,seval,vrl,if_pos,if_neg,nb8 hz,hz]
  rw[show(0:Int)-(a+1)= -(a+1) by omega]
 ·rw[if_neg h0]
  simp(disch:=first|omega|fail) only[push_cast,seval,vrl,if_pos,if_neg,nb8 hz,hz]
theorem yc3{i:Int}(hi:0≤i)(hl:raw.length≤9223372036854775807):o24 W 23 [.fz b (.sl nl 0 1 (ivs raw)), .x (.int .i64 i)] []=some (.x (.int .i64 (rwI raw i)),[],[]):=by
 rw[o10 rfl T23 rfl]
 unfold F23 c23 rwI
 by_cases h0:raw.length=0
 ·rw[if_pos h0]
  have h0':(raw.length:Int)=0:=by omega
  simp(disch:=first|omega|fail) only[push_cast,seval,vrl,if_pos,if_neg,h0']
 ·rw[if_neg h0]
  have hz: ¬(raw.length:Int)=0:=by omega
  have b1:0≤i.tmod raw.length:=Int.tmod_nonneg _ hi
  have b2:i.tmod raw.length<raw.length:=Int.tmod_lt_of_pos _ (by omega)
  have e:=cl0 b1 b2
  simp(disch:=first|omega|fail) only[push_cast,seval,vrl,if_pos,if_neg,hz,nb8 hz,e]
def numV(raw:List Int)(frm q:Int)(k:Nat):Int:=pkI (rwI raw (frm+k)) q
def tv7(raw:List Int)(frm q:Int)(n:Nat):List Int:=(List.range n).map (numV raw frm q)
theorem jd5(raw:List Int)(frm q:Int)(n:Nat):(tv7 raw frm q n).length=n:=by simp[tv7]
theorem ce6(raw:List Int)(frm q:Int)(n:Nat):tv7 raw frm q (n+1)=tv7 raw frm q n++[numV raw frm q n]:=by unfold tv7;rw[List.range_succ,List.map_append];rfl
theorem dm5{raw:List Int}{frm q:Int}{n:Nat}(hq:0<q): ∀z∈tv7 raw frm q n,fok q z=true:=fun z hz=>by
 obtain⟨k,_,rfl⟩:=List.mem_map.1 hz
 have:=h58 (a:=rwI raw (frm+k)) hq
 unfold numV fok
 rw[decide_eq_true this.1,decide_eq_true this.2];rfl
theorem m61{raw:List Int}{frm q:Int}{n:Nat}(hq:0<q): ∃l:List (El q),tv7 raw frm q n=vs l∧l.length=n:=by
 obtain⟨l,hl⟩:=n43 (dm5 (raw:=raw) (frm:=frm) (n:=n) hq)
 exact⟨l,hl,by rw[←fi2,←hl,jd5]⟩
theorem yq2(hrl:raw.length≤9223372036854775807){frm q:Int}(hf0:0≤frm)(hf1:frm≤1000000000)(hq0:0<q){N:Nat}(hN:N≤100000): ∀(d i:Nat),i+d=N→ ∀ks,
 vgoL W ⟨h25,[.tmp 8],0⟩ [0,1,2,3,9,10] c25L0 (.blk 0 [9]::ks) [(0, .fz b (.sl nl 0 1 (ivs raw))),(1, .x (.int .i64 frm)),(2, .x (.int .i64 q)),(3, .x (.int .i64 N)),(9, .own 0 []),(10, .x (.int .i64 i))] [.sl 1 3 1 (ivs (tv7 raw frm q i))]=
  vgo W ⟨h25,[.tmp 8],0⟩ ks (VFr.of [(9, .own 0 [])]) [.sl 1 3 1 (ivs (tv7 raw frm q N))]
 |0,i,hi,ks=>by
  obtain rfl:i=N:=by omega
  rw[sb5 c25L0.eq_def]
  simp(disch:=first|omega|fail) only[push_cast,seval,vrl,if_pos,if_neg]
 |d+1,i,hi,ks=>by
  have ih:=yq2 hrl hf0 hf1 hq0 hN d (i+1) (by omega) ks
  have e1:=fun b nl=>yc3 (b:=b) (nl:=nl) (raw:=raw) (i:=frm+i) (by omega) hrl
  have hri:=bd0 (l:=raw) (i:=frm+i) (by omega) (by omega)
  have e2:=s88 (n:=q) hri.1 hri.2 hq0
  have hl:=jd5 raw frm q i
  rw[Int.natCast_add,Int.natCast_one,ce6,numV]at ih
  rw[←ih,sb5 c25L0.eq_def]
  simp(disch:=first|omega|fail) only[push_cast,seval,vrl,if_pos,if_neg,e1,e2,hl]
theorem vv4(hrl:raw.length≤9223372036854775807){frm q:Int}(hf0:0≤frm)(hf1:frm≤1000000000)(hq0:0<q){N:Nat}(hN:N≤100000):o24 W 25 [.fz b (.sl nl 0 1 (ivs raw)), .x (.int .i64 frm), .x (.int .i64 q), .x (.int .i64 N)] []=some (.own 0 [],[.sl 1 3 1 (ivs (tv7 raw frm q N))],[]):=by
 have e:=fun ks=>yq2 (b:=b) (nl:=nl) hrl hf0 hf1 hq0 hN N 0 (by omega) ks
 rw[show tv7 raw frm q 0=[]from rfl]at e
 simp only[Int.natCast_zero,List.take_zero,List.drop_zero,rp2,lz6,x25,List.map_nil,List.length_nil]at e
 rw[o10 rfl T25 rfl]
 unfold F25 c25
 simp(disch:=first|omega|fail) only[push_cast,seval,vrl,if_pos,if_neg]
 rw[e]
 simp(disch:=first|omega|fail) only[push_cast,seval,vrl,if_pos,if_neg]
def i35(raw:List Int)(frm q:Int)(n m:Nat):List (List Int):=(List.range m).map fun i:Nat=>tv7 raw (frm+(i:Int)*(n:Int)) q n
theorem om4(raw:List Int)(frm q:Int)(n m:Nat):(i35 raw frm q n m).length=m:=by simp[i35]
theorem ot3(raw:List Int)(frm q:Int)(n m:Nat):i35 raw frm q n (m+1)=i35 raw frm q n m++[tv7 raw (frm+m*n) q n]:=by unfold i35;rw[List.range_succ,List.map_append];rfl
theorem fw6{raw:List Int}{frm q:Int}{n:Nat}(hq:0<q): ∀m,∃M:List (List (El q)),i35 raw frm q n m=M.map vs∧M.length=m∧ ∀r∈M,r.length=n
 |0=>⟨[],rfl,rfl,fun r hr=>by cases hr⟩
 |m+1=>by
  obtain⟨M,h1,h2,h3⟩:=fw6 (raw:=raw) (frm:=frm) (n:=n) hq m
  obtain⟨l,e1,e2⟩:=m61 (raw:=raw) (frm:=frm+m*n) (n:=n) hq
  refine⟨M++[l],by rw[ot3,h1,e1,List.map_append];rfl,by rw[List.length_append,h2];rfl,fun r hr=> ?_⟩
  rcases List.mem_append.1 hr with h|h
  ·exact h3 r h
  ·rw[List.mem_singleton.1 h,e2]
theorem hy5(hrl:raw.length≤9223372036854775807){frm q:Int}(hf0:0≤frm)(hf1:frm≤1000000)(hq0:0<q){n m:Nat}(hn:n≤200)(hm:m≤200): ∀(d i:Nat),i+d=m→ ∀ks,
 vgoL W ⟨h46,[.tmp 10],0⟩ [0,1,2,3,4,11,12] c46L0 (.blk 0 [11]::ks) [(0, .fz b (.sl nl 0 1 (ivs raw))),(1, .x (.int .i64 frm)),(2, .x (.int .i64 q)),(3, .x (.int .i64 m)),(4, .x (.int .i64 n)),(11, .own 0 []),(12, .x (.int .i64 i))] [.sl 1 22 1 (lls 2 (i35 raw frm q n i))]=
  vgo W ⟨h46,[.tmp 10],0⟩ ks (VFr.of [(11, .own 0 [])]) [.sl 1 22 1 (lls 2 (i35 raw frm q n m))]
 |0,i,hi,ks=>by
  obtain rfl:i=m:=by omega
  rw[sb5 c46L0.eq_def]
  simp(disch:=first|omega|fail) only[push_cast,seval,vrl,if_pos,if_neg]
 |d+1,i,hi,ks=>by
  have ih:=hy5 hrl hf0 hf1 hq0 hn hm d (i+1) (by omega) ks
  have hb:((i*n:Nat):Int)≤40000:=by have:=Nat.mul_le_mul (show i≤200 by omega) hn;omega
  rw[Int.natCast_mul]at hb
  have hb0:0≤(i:Int)*(n:Int):=Int.mul_nonneg (by omega) (by omega)
  have e1:=fun b nl=>vv4 (b:=b) (nl:=nl) (frm:=frm+i*n) (N:=n) hrl (by omega) (by omega) hq0 (by omega)
  have hl:=om4 raw frm q n i
  rw[Int.natCast_add,Int.natCast_one,ot3]at ih
  rw[←ih,sb5 c46L0.eq_def]
  simp(disch:=first|omega|fail) only[push_cast,seval,vrl,if_pos,if_neg,e1,hl]
theorem g28(hrl:raw.length≤9223372036854775807){frm q:Int}(hf0:0≤frm)(hf1:frm≤1000000)(hq0:0<q){n m:Nat}(hn:n≤200)(hm:m≤200):o24 W 46 [.fz b (.sl nl 0 1 (ivs raw)), .x (.int .i64 frm), .x (.int .i64 q), .x (.int .i64 m), .x (.int .i64 n)] []=some (.own 0 [],[.sl 1 22 1 (lls 2 (i35 raw frm q n m))],[]):=by
 have e:=fun ks=>hy5 (b:=b) (nl:=nl) hrl hf0 hf1 hq0 hn hm m 0 (by omega) ks
 rw[show i35 raw frm q n 0=[]from rfl]at e
 simp only[Int.natCast_zero,List.take_zero,List.drop_zero,rp2,lz6,x25,List.map_nil,List.length_nil]at e
 rw[o10 rfl T46 rfl]
 unfold F46 c46
 simp(disch:=first|omega|fail) only[push_cast,seval,vrl,if_pos,if_neg]
 rw[e]
 simp(disch:=first|omega|fail) only[push_cast,seval,vrl,if_pos,if_neg]
end
def szN:Nat→Nat→List Int
 |0,_=>[]
 |n+1,q=>bif (fldN q).isSome then(q:Int)::szN n (q+1)else szN n (q+1)
def szL:List Int:=szN 63 2
theorem ho7:(szL.all fun z=>decide (2≤z)&&decide (z≤64)&&(fldN z.toNat).isSome)=true:=by kernel_rfl
theorem x14{z:Int}(hz:z∈szL):2≤z∧z≤64∧IsFld z:=by
 have:=List.all_eq_true.1 ho7 z hz
 simp only[Bool.and_eq_true,decide_eq_true_eq]at this
 obtain⟨⟨h1,h2⟩,h3⟩:=this
 obtain⟨⟨p,m,g,mod⟩,hx⟩:=Option.isSome_iff_exists.1 h3
 exact⟨h1,h2,⟨p,m,g,mod,hx⟩⟩
section
variable {k:FuncId} {p:Int→Bool} {l:List Int} {nl:Nat}
end
section
variable {q:Int} [IsFld q] {k nl nr nl2:Nat} {b:Bool} {N:List (List (El q))}
end
def fewQ(q:Int):Nat→Int→Bool
 |0,_=>true
 |d+1,n=>if 4096<n*q then false else fewQ q d (n*q)
theorem ev9{q:Int}(h1:0≤q)(h2:q≤64){k:Nat}(hk:k≤1000): ∀(d i:Nat) (n:Int),i+d=k→0≤n→n≤4096→ ∀ks,
 vgoL W ⟨hNo,[.tmp 4],0⟩ [0,1,5,6] c45L0 (.blk 0 []::ks) [(0, .x (.int .i64 q)),(1, .x (.int .i64 k)),(5, .x (.int .i64 n)),(6, .x (.int .i64 i))] []=if fewQ q d n=true then vgo W ⟨hNo,[.tmp 4],0⟩ ks (VFr.of []) []else some (.x (.bool false),[],[])
 |0,i,n,hi,hn,hn2,ks=>by
  rw[fewQ,if_pos rfl,sb5 c45L0.eq_def]
  simp(disch:=first|omega|fail) only[push_cast,seval,vrl,if_pos,if_neg]
 |d+1,i,n,hi,hn,hn2,ks=>by
  have hb0:0≤n*q:=Int.mul_nonneg hn h1
  have hb1:n*q≤4096*64:=Int.mul_le_mul hn2 h2 h1 (by decide)
  have hb2:n*q≤262144:=by omega
  rw[fewQ]
  by_cases h:4096<n*q
  ·rw[if_pos h,if_neg (by decide),sb5 c45L0.eq_def]
   simp(disch:=first|omega|fail) only[push_cast,seval,vrl,if_pos,if_neg,dec_lt h]
  ·have ih:=ev9 h1 h2 hk d (i+1) (n*q) (by omega) hb0 (by omega) ks
   rw[Int.natCast_add,Int.natCast_one]at ih
   rw[if_neg h,←ih,sb5 c45L0.eq_def]
   simp(disch:=first|omega|fail) only[push_cast,seval,vrl,if_pos,if_neg,cw6 (Int.not_lt.1 h)]
theorem os1{q:Int}(h1:0≤q)(h2:q≤64){k:Nat}(hk:k≤1000):o24 W 45 [.x (.int .i64 q), .x (.int .i64 k)] []=some (.x (.bool (fewQ q k 1)),[],[]):=by
 have e:=fun ks=>ev9 h1 h2 hk k 0 1 (by omega) (by decide) (by decide) ks
 simp only[Int.natCast_zero,List.take_zero,List.drop_zero,rp2,lz6,x25,List.map_nil,List.length_nil]at e
 rw[o10 rfl T45 rfl]
 unfold F45 c45
 simp(disch:=first|omega|fail) only[push_cast,seval,vrl,if_pos,if_neg]
 rw[e]
 cases hz:fewQ q k 1 with
 |true=>
  rw[if_pos rfl]
  simp(disch:=first|omega|fail) only[push_cast,seval,vrl,if_pos,if_neg]
 |false=>rw[if_neg (by decide)]
theorem u07{z:Int}(h:szL.contains z=true):z∈szL:=by simpa using h
theorem cm6{raw:List Int}{q n r:Int}(h1:0≤q)(h2:q≤64): ∀(d m:Nat),m+d=5→(m=0∨fewQ q m 1=true)→ ∃m':Nat,m'≤5∧(m'=0∨fewQ q m' 1=true)∧ ∀(b:Bool) (nl:Nat) (T:Tree) ks,
 vgoL W ⟨hNo,[(.cell 8 true 3)],0⟩ [0,1,2,3,8,9] c9L0 (.blk 0 [0,1,2,3,8,9]::ks) [(0, .fz b (.sl nl 0 1 (ivs raw))),(1, .x (.int .i64 q)),(2, .x (.int .i64 n)),(3, .x (.int .i64 r)),(8, .own 0 []),(9, .x (.int .i64 m))] [T]=vgo W ⟨hNo,[(.cell 8 true 3)],0⟩ ks (VFr.of [(0, .fz b (.sl nl 0 1 (ivs raw))),(1, .x (.int .i64 q)),(2, .x (.int .i64 n)),(3, .x (.int .i64 r)),(8, .own 0 []),(9, .x (.int .i64 m'))]) [T]
 |0,m,hm,hf=>by
  have e1:=os1 h1 h2 (k:=m+1) (by omega)
  rw[Int.natCast_add,Int.natCast_one]at e1
  refine⟨m,by omega,hf,fun b nl T ks=> ?_⟩
  obtain rfl:m=5:=by omega
  rw[show((5:Nat):Int)+1=6 from rfl]at e1
  rw[sb5 c9L0.eq_def]
  cases hz:fewQ q (5+1) 1 with
  |true=>
   rw[hz]at e1
   simp(disch:=first|omega|fail) only[push_cast,seval,vrl,if_pos,if_neg,e1]
  |false=>
   rw[hz]at e1
   simp(disch:=first|omega|fail) only[push_cast,seval,vrl,if_pos,if_neg,e1]
 |d+1,m,hm,hf=>by
  have e1:=os1 h1 h2 (k:=m+1) (by omega)
  rw[Int.natCast_add,Int.natCast_one]at e1
  cases hz:fewQ q (m+1) 1 with
  |true=>
   rw[hz]at e1
   obtain⟨m',hm',hf',ih⟩:=cm6 (raw:=raw) (n:=n) (r:=r) h1 h2 d (m+1) (by omega) (.inr hz)
   refine⟨m',hm',hf',fun b nl T ks=> ?_⟩
   have ih:=ih b nl T ks
   rw[Int.natCast_add,Int.natCast_one]at ih
   rw[←ih,sb5 c9L0.eq_def]
   simp(disch:=first|omega|fail) only[push_cast,seval,vrl,if_pos,if_neg,e1]
  |false=>
   rw[hz]at e1
   refine⟨m,by omega,hf,fun b nl T ks=> ?_⟩
   rw[sb5 c9L0.eq_def]
   simp(disch:=first|omega|fail) only[push_cast,seval,vrl,if_pos,if_neg,e1]
def ur8:List Int:=[2,3,4,5,8]
theorem hu1:(ur8.all fun z=>szL.contains z&&(List.range 6).all fun m=>(List.range (m+1)).all fun k=> !(decide (m=0)||fewQ z m 1)||fewQ z k 1)=true:=by kernel_rfl
theorem e67{z:Int}(h:z∈ur8):z∈szL:=by
 have h1:=List.all_eq_true.1 hu1 z h
 rw[Bool.and_eq_true]at h1
 exact u07 h1.1
theorem m96{z:Int}(h:z∈ur8){m k:Nat}(hm:m≤5)(hk:k≤m)(hf:m=0∨fewQ z m 1=true):fewQ z k 1=true:=by
 have h1:=List.all_eq_true.1 hu1 z h
 rw[Bool.and_eq_true]at h1
 have h2:=List.all_eq_true.1 (List.all_eq_true.1 h1.2 m (List.mem_range.2 (by omega))) k (List.mem_range.2 (by omega))
 rcases hf with hf|hf
 ·rw[decide_eq_true hf]at h2
  simpa using h2
 ·rw[hf]at h2
  simpa using h2
theorem ly5{i:Int}(h0:0≤i)(h1:i<6): ∃z,([.v (.int .i64 2), .v (.int .i64 2), .v (.int .i64 3), .v (.int .i64 4), .v (.int .i64 5), .v (.int .i64 8)]:List Tree)[i.toNat]? =some (.v (.int .i64 z))∧z∈ur8:=by
 have:i=0∨i=1∨i=2∨i=3∨i=4∨i=5:=by omega
 rcases this with rfl|rfl|rfl|rfl|rfl|rfl
 ·exact⟨2,rfl,by decide⟩
 ·exact⟨2,rfl,by decide⟩
 ·exact⟨3,rfl,by decide⟩
 ·exact⟨4,rfl,by decide⟩
 ·exact⟨5,rfl,by decide⟩
 ·exact⟨8,rfl,by decide⟩
theorem x62{raw:List Int}(hrl:raw.length≤9223372036854775807){q n r:Int}(q1: -9223372036854775808≤q)(q2:q≤9223372036854775807)(n1: -9223372036854775808≤n)(n2:n≤9223372036854775807)(r1: -9223372036854775808≤r)(r2:r≤9223372036854775807):
 ∃(z:Int) (n' m':Nat),z∈ur8∧n'≤11∧m'≤5∧fewQ z m' 1=true∧ ∀(b:Bool) (nl:Nat),o24 W 9 [.fz b (.sl nl 0 1 (ivs raw)), .x (.int .i64 q), .x (.int .i64 n), .x (.int .i64 r)] []=some (.agg [.x (.int .i64 z), .x (.int .i64 ((n'+1:Nat):Int)), .own 0 []],[.sl 2 22 1 (lls 2 (i35 raw 0 z (n'+1) m'))],[]):=by
 have p1:=s88 (n:=6) q1 q2 (by omega)
 obtain⟨z,hz,hz5⟩:=ly5 (h58 (a:=q) (n:=6) (by omega)).1 (h58 (a:=q) (n:=6) (by omega)).2
 have hzm:=e67 hz5
 have hq:=h58 (a:=q) (n:=6) (by omega)
 obtain⟨z1,z2,hfz⟩:=x14 hzm
 have p2:=s88 (n:=12) n1 n2 (by omega)
 obtain⟨n',hn,hn12⟩:=o99 (h58 (a:=n) (n:=12) (by omega)).1 (h58 (a:=n) (n:=12) (by omega)).2
 rw[hn]at p2
 obtain⟨m,hm,hf,e⟩:=cm6 (raw:=raw) (q:=z) (n:=1+(n':Int)) (r:=r) (by omega) (by omega) 5 0 rfl (.inl rfl)
 simp only[Int.natCast_zero]at e
 have p3:=s88 (n:=(m:Int)+1) r1 r2 (by omega)
 obtain⟨m',hm',hm6⟩:=o99 (h58 (a:=r) (n:=(m:Int)+1) (by omega)).1 (h58 (a:=r) (n:=(m:Int)+1) (by omega)).2
 rw[hm']at p3
 refine⟨z,n',m',hz5,by omega,by omega,m96 hz5 hm (by omega) hf,fun b nl=> ?_⟩
 have a1:=fun b nl=>g28 (b:=b) (nl:=nl) hrl (frm:=0) (q:=z) (by omega) (by omega) (by omega) (n:=n'+1) (m:=m') (by omega) (by omega)
 simp only[Int.natCast_add,Int.natCast_one,Int.add_comm _ (1:Int)]at a1 p3
 rw[o10 rfl T9 rfl]
 unfold F9 c9
 simp(disch:=first|omega|fail) only[push_cast,seval,vrl,if_pos,if_neg,p1,hz,p2]
 rw[e]
 simp(disch:=first|omega|fail) only[push_cast,seval,vrl,if_pos,if_neg,p3,a1,Int.add_comm _ (1:Int)]
end Go.Proofs.Ytoglhlonhmmieaa
namespace Go.Alg
section
variable {K:Type} [FK K] {n:Nat}
theorem mr3{M:List (List K)}(hM: ∀m∈M,m.length=n)(w:Nat→K):Span ((p78 (redR M)).map wf) w↔Span (M.map wf) w:=by
 rw[z42];exact(bi2 hM).2.2 w
end
end Go.Alg
namespace Go.Proofs.Ytoglhlonhmmieaa
open Go.Am Go.Vm Go.Alg
section
variable {q n q' n':Int} {nl nr nl' nr':Nat} {M M':List (List Int)}
end
section
variable {q:Int} [IsFld q] {k nl nr nl' nr':Nat} {M B N:List (List (El q))}
end
end Go.Proofs.Ytoglhlonhmmieaa
namespace Go.Proofs.Ytoglhlonhmmieaa
open Go.Am Go.Vm
section
variable {zs:List Int} {I J nl:Nat}
@[push_cast] theorem gi2:vM 79=[.own 3 1, .bor 0, .bor 0]:=rfl
@[push_cast] theorem xx2:vH 79=hNo:=rfl
end
end Go.Proofs.Ytoglhlonhmmieaa
namespace Go.Alg
section
variable {K:Type} [FK K] {n a:Nat}
end
end Go.Alg
namespace Go.Proofs.Ytoglhlonhmmieaa
open Go.Am Go.Vm Go.Alg
section
variable {q:Int} [IsFld q] {n0:Int} {nl nr:Nat} {b:Bool} {t:Tree} {k:FuncId} {N:List (List (El q))} {g:List (El q)→List (El q)} {fg:List (El q)→Nat} {n':Nat}
end
section
variable {q n:Int} {nl nr:Nat} {M:List (List Int)} {a:Int}
end
section
variable {q:Int} [IsFld q] {k nl nr:Nat} {N:List (List (El q))} {a:Nat}
end
def wtW:List Int→Nat
 | []=>0
 |x::a=>(if x=0 then 0 else 1)+wtW a
theorem p55: ∀a:List Int,wtW a≤a.length
 | []=>Nat.le_refl _
 |x::a=>by have:=p55 a;rw[wtW,List.length_cons];split<;>omega
section
variable {a c:List Int} {b b':Bool} {nl nl':Nat}
theorem mu5(ha:a.length≤9223372036854775807): ∀(d i n:Nat),i+d=a.length→n≤i→ ∀ks,
 vgoL W ⟨hNo,[.tmp 2],0⟩ [3,6,7,8] c50L0 (.blk 0 [3]::ks) [(3, .x (.int .i64 n)),(6, .fz b (.sl nl 0 1 (ivs a))),(7, .x (.int .i64 a.length)),(8, .x (.int .i64 i))] []=vgo W ⟨hNo,[.tmp 2],0⟩ ks (VFr.of [(3, .x (.int .i64 (n+wtW (a.drop i):Nat)))]) []
 |0,i,n,hi,hn,ks=>by
  rw[oh9 (by omega),sb5 c50L0.eq_def]
  show _=vgo W ⟨hNo,[.tmp 2],0⟩ ks (VFr.of [(3, .x (.int .i64 (n+0:Nat)))]) []
  rw[Nat.add_zero]
  simp(disch:=first|omega|fail) only[push_cast,seval,vrl,if_pos,if_neg]
 |d+1,i,n,hi,hn,ks=>by
  obtain⟨x,hx⟩:=ge6 (l:=a) (i:=i) (by omega)
  have h1:=iat hx
  have ih:=mu5 ha d (i+1) (n+if x=0 then 0 else 1) (by omega) (by split<;>omega) ks
  rw[i62 hx,wtW]
  rw[Nat.add_assoc]at ih
  rw[←ih,sb5 c50L0.eq_def]
  by_cases h:x=0
  ·rw[if_pos h,Nat.add_zero,Int.natCast_add,Int.natCast_one]
   simp(disch:=first|omega|fail) only[push_cast,seval,vrl,if_pos,if_neg,h1,h]
  ·rw[if_neg h,Int.natCast_add,Int.natCast_one,Int.natCast_add,Int.natCast_one]
   simp(disch:=first|omega|fail) only[push_cast,seval,vrl,if_pos,if_neg,h1,nb8 h]
theorem fd2(ha:a.length≤9223372036854775807):o24 W 50 [.fz b (.sl nl 0 1 (ivs a))] []=some (.x (.int .i64 (wtW a)),[],[]):=by
 have e:=fun ks=>mu5 (b:=b) (nl:=nl) ha a.length 0 0 (by omega) (by omega) ks
 rw[List.drop_zero,Nat.zero_add]at e
 simp only[Int.natCast_zero]at e
 rw[o10 rfl T50 rfl]
 unfold F50 c50
 simp(disch:=first|omega|fail) only[push_cast,seval,vrl,if_pos,if_neg]
 rw[e]
 simp(disch:=first|omega|fail) only[push_cast,seval,vrl,if_pos,if_neg]
end
section
variable {q:Int} [IsFld q] {k nl nr nl2:Nat} {b:Bool}
end
section
variable {q:Int} [IsFld q] {k nl nr:Nat} {b:Bool} {N:List (List (El q))} {a:Nat}
end
section
variable {q:Int} [IsFld q] {k nl nr:Nat} {b:Bool} {N:List (List (El q))} {a:Nat}
end
section
variable {q n:Int} {nl nr nl2:Nat} {M:List (List Int)} {b:Bool} {w:List Int}
end
section
variable {q:Int} [IsFld q] {k nl nr nl2:Nat} {b:Bool} {N:List (List (El q))} {w:List Int}
end
end Go.Proofs.Ytoglhlonhmmieaa
namespace Go.Alg
section
variable {K:Type} [FK K]
end
end Go.Alg
namespace Go.Alg
section
variable {K:Type} [FK K]
def ev:List K→K→K
 | [],_=>0
 |a::l,x=>a+x*ev l x
def sd(x0:K):List K→List K×K
 | []=>([],0)
 | [a]=>([],a)
 |a::b::l=>((sd x0 (b::l)).2::(sd x0 (b::l)).1,a+x0*(sd x0 (b::l)).2)
theorem w89(x0:K): ∀l:List K,(sd x0 l).1.length=l.length-1
 | []=>rfl
 | [a]=>rfl
 |a::b::l=>by
  rw[sd]
  show(sd x0 (b::l)).1.length+1=_
  rw[w89 x0 (b::l)];simp
theorem n68(x0 y:K): ∀l:List K,ev l y=(y-x0)*ev (sd x0 l).1 y+(sd x0 l).2
 | []=>by rw[sd,ev,mul_zero,FK.add_zero]
 | [a]=>by
   show a+y*0=(y-x0)*0+a
   rw[mul_zero,mul_zero,FK.add_zero,zero_add]
 |a::b::l=>by
  rw[ev,n68 x0 y (b::l),sd]
  show a+y*((y-x0)*ev (sd x0 (b::l)).1 y+(sd x0 (b::l)).2)=(y-x0)*((sd x0 (b::l)).2+y*ev (sd x0 (b::l)).1 y)+(a+x0*(sd x0 (b::l)).2)
  generalize (sd x0 (b::l)).2=r
  generalize ev (sd x0 (b::l)).1 y=e
  rw[FK.mul_add,FK.mul_add,sub_mul y x0 r]
  have h1:y*((y-x0)*e)=(y-x0)*(y*e):=by ac_rfl
  rw[h1,sub_eq (y*r)]
  have h2:y*r+ -(x0*r)+(y-x0)*(y*e)+(a+x0*r)=a+((y-x0)*(y*e)+y*r)+(-(x0*r)+x0*r):=by ac_rfl
  rw[h2,neg_add,FK.add_zero]
theorem cz6(x0:K)(l:List K):(sd x0 l).2=ev l x0:=by
 have:=n68 x0 x0 l
 rw[sub_self,zero_mul,zero_add]at this
 exact this.symm
theorem rj2(x0:K): ∀l:List K,(∀c∈(sd x0 l).1,c=0)→(sd x0 l).2=0→ ∀c∈l,c=0
 | [],_,_,c,hc=>by cases hc
 | [a],_,h,c,hc=>by
   rw[List.mem_singleton.1 hc];exact h
 |a::b::l,h1,h2,c,hc=>by
  rw[sd]at h1 h2
  have hr:(sd x0 (b::l)).2=0:=h1 _ (by simp)
  have ih:=rj2 x0 (b::l) (fun c hc=>h1 c (by simp[hc])) hr
  rcases List.mem_cons.1 hc with rfl|hc
  ·rw[hr,mul_zero,FK.add_zero]at h2;exact h2
  ·exact ih c hc
theorem roots: ∀(xs:List K) (f:List K),xs.Nodup→f.length≤xs.length→(∀x∈xs,ev f x=0)→ ∀c∈f,c=0
 | [],f,_,hl,_=>by
   intro c hc
   rw[List.eq_nil_of_length_eq_zero (Nat.le_zero.1 hl)]at hc;cases hc
 |x0::xs,f,hn,hl,hx=>by
  rw[List.nodup_cons]at hn
  have h0:=hx x0 (by simp)
  rw[←cz6]at h0
  have hl2:=w89 x0 f
  rw[List.length_cons]at hl
  refine rj2 x0 f (roots xs _ hn.2 (by omega) fun y hy=> ?_) h0
  have h1:=n68 x0 y f
  rw[hx y (by simp[hy]),h0,FK.add_zero]at h1
  rcases mul_eq_zero h1.symm with h2|h2
  ·exact absurd (by rw[←sub_eq_zero.1 h2];exact hy) hn.1
  ·exact h2
end
end Go.Alg
namespace Go.Alg
section
variable {K:Type} [FK K]
end
end Go.Alg
namespace Go.Proofs.Ytoglhlonhmmieaa
open Go.Am Go.Vm Go.Alg
section
variable {q:Int} {b:Bool} {nl:Nat} {l:List Int}
end
section
variable {q:Int} [IsFld q] {b:Bool} {nl:Nat} {a:List (El q)}
end
end Go.Proofs.Ytoglhlonhmmieaa
namespace Go.Alg
section
variable {K:Type} [FK K]
end
end Go.Alg
namespace Go.Proofs.Ytoglhlonhmmieaa
open Go.Am Go.Vm Go.Alg
section
variable {q:Int} {b b':Bool} {nl nl':Nat}
end
section
variable {q:Int} {b b':Bool} {nl nl':Nat}
end
end Go.Proofs.Ytoglhlonhmmieaa
namespace Go.Alg
section
variable {K:Type} [FK K]
open Classical in
end
end Go.Alg
namespace Go.Alg
section
variable {K:Type} [FK K]
end
end Go.Alg
namespace Go.Proofs.Ytoglhlonhmmieaa
open Go.Am Go.Vm Go.Alg
section
variable {raw:List Int} {b:Bool} {nl:Nat}
end
section
variable {a c:List Int} {b b':Bool} {nl nl':Nat}
end
section
variable {q:Int} {b:Bool} {nl:Nat} {xs:List Int} {k:Int}
end
section
variable {q:Int} [hq:IsFld q]
variable {b b':Bool} {nl nl':Nat} {X m:List (El q)}
end
section
variable {q:Int}
def oV:Option (El q)→Int
 |none=> -1
 |some x=>x.v
def ws(W:List (Option (El q))):List Int:=W.map oV
end
section
variable {q:Int} {b b':Bool} {nl nl':Nat}
end
section
variable {q p m g:Int} {t:Tree} {b b':Bool} {nl nl':Nat} {l:List Int}
variable {xs:List Int} {k:Int}
variable {w:List Int}
end
section
variable {q p m g:Int} [IsFld q] {t:Tree} {b b':Bool} {nl nl':Nat} {a:List (El q)} {x:El q}
end
section
variable {q p m g:Int} [IsFld q] {t:Tree} {b b':Bool} {nl nl' nr n7 n8:Nat} {M:List (List (El q))} {A:List (Nat×List (El q))} {N:Nat}
end
section
variable {q:Int} [IsFld q] {b b':Bool} {nl nl' nr:Nat} {M:List (List (El q))} {y:List (El q)} {n R:Nat}
section
variable {T5:Tree} {c at' n0:Nat}
end
end
section
variable {q:Int} {b b':Bool} {nl nl' nr e:Nat}
end
section
variable {α:Type} {n:Nat}
end
section
variable {q:Int} [IsFld q] {b b':Bool} {nl nl' nr:Nat} {M:List (List (El q))} {n:Nat}
end
section
variable {q:Int} {b b':Bool} {nl nl' nr e:Nat}
end
end Go.Proofs.Ytoglhlonhmmieaa
namespace Go.Alg
section
variable {K:Type} [FK K]
end
end Go.Alg
namespace Go.Proofs.Ytoglhlonhmmieaa
open Go.Am Go.Vm Go.Alg
section
variable {q:Int} [h:IsFld q]
end
section
variable {q:Int} [IsFld q] {b b':Bool} {nl nl':Nat} {P:List (El q×El q)} {k:Nat}
end
section
variable {q p m g:Int} [IsFld q] {t:Tree} {b b' b2:Bool} {nl nl' nl2:Nat} {a:List (El q)} {X:List (El q)} {U:List (Option (El q))}
end
section
variable {K:Type} [FK K]
end
section
variable {q p m g:Int} [IsFld q] {t:Tree} {b b':Bool} {nl nl':Nat} {c:List (El q)} {top:El q}
end
end Go.Proofs.Ytoglhlonhmmieaa
namespace Go.Proofs.Ytoglhlonhmmieaa
open Go.Am
@[push_cast] theorem py6{α:Type}{h:H}{r:Option α}:behind true h h r=r:=zy7 (List.prefix_refl h)
section
variable {h:H} {sa:Option Addr} {c:Nat} {l:List Int}
end
section
variable {h0:H} {sr:Option Addr} {cr:Nat} {raw:List Int}
end
section
variable {h:H} {sa:Option Addr} {C:Nat} {cs:List (List Int)}
end
section
variable {h:H}
end
def qr3(q:Int):List Int→List Int×Bool
 | []=>([],false)
 |a::l=>match qr3 q l with
  |(l',true)=>(a::l',true)
  |(l',false)=>if a+1<q then((a+1)::l',true)else(0::l',false)
theorem pd1(q:Int): ∀l,(qr3 q l).1.length=l.length
 | []=>rfl
 |a::l=>by
  have ih:=pd1 q l
  rw[qr3]
  generalize qr3 q l=x at ih⊢
  obtain⟨l',b⟩:=x
  cases b
  ·simp only
   split<;>simpa using ih
  ·simpa using ih
theorem vq6{q:Int}{s s':List Int}(h:qr3 q s=(s',true)): ∀p:List Int,qr3 q (p++s)=(p++s',true)
 | []=>h
 |a::p=>by rw[List.cons_append,qr3,vq6 h p];rfl
def valS(q:Nat):List Int→Nat
 | []=>0
 |a::l=>a.toNat*q^l.length+valS q l
def digS(q:Int)(l:List Int):Prop:= ∀a∈l,0≤a∧a<q
theorem uc1{q:Nat}: ∀{l:List Int},digS q l→valS q l<q^l.length
 | [],_=>by simp[valS]
 |a::l,h=>by
  have h1:=h a (by simp)
  have ih:=uc1 (l:=l) fun b hb=>h b (by simp[hb])
  rw[valS,List.length_cons,Nat.pow_succ,Nat.mul_comm (q^l.length)]
  have h2:(a.toNat+1)*q^l.length≤q*q^l.length:=Nat.mul_le_mul_right _ (by omega)
  rw[Nat.add_mul,Nat.one_mul]at h2
  omega
theorem jd2{q:Nat}(hq:0<q): ∀{l:List Int},digS q l→digS q (qr3 q l).1∧(if(qr3 q l).2=true then valS q (qr3 q l).1=valS q l+1 else valS q l+1=q^l.length∧ ∀a∈(qr3 q l).1,a=0)
 | [],_=>by simp[qr3,valS,digS]
 |a::l,h=>by
  have h1:=h a (by simp)
  obtain⟨k1,k2⟩:=jd2 hq (l:=l) fun b hb=>h b (by simp[hb])
  have hl:=pd1 q l
  rw[qr3]
  generalize hx:qr3 q l=x at k1 k2 hl⊢
  obtain⟨l',b⟩:=x
  simp only at k1 k2 hl
  cases b with
  |true=>
   simp only[if_true]at k2⊢
   refine⟨fun c hc=> ?_, ?_⟩
   ·rcases List.mem_cons.1 hc with rfl|hc
    ·exact h1
    ·exact k1 c hc
   ·rw[valS,valS,hl,k2];omega
  |false=>
   simp only[Bool.false_eq_true,if_false]at k2⊢
   have hz: ∀{m:List Int},(∀a∈m,a=0)→valS q m=0:=by
    intro m
    induction m with
    |nil=>intro _;rfl
    |cons c m ih=>intro hm;rw[valS,ih fun a ha=>hm a (by simp[ha]),hm c (by simp)];simp
   by_cases hlt:a+1<q
   ·rw[if_pos hlt]
    simp only[if_true]
    refine⟨fun c hc=> ?_, ?_⟩
    ·rcases List.mem_cons.1 hc with rfl|hc
     ·omega
     ·exact k1 c hc
    ·rw[valS,valS,hz k2.2,hl,Nat.add_zero,Nat.add_assoc,k2.1,show(a+1).toNat=a.toNat+1 by omega,Nat.add_mul,Nat.one_mul]
   ·rw[if_neg hlt]
    simp only[Bool.false_eq_true,if_false]
    refine⟨fun c hc=> ?_, ?_,fun c hc=> ?_⟩
    ·rcases List.mem_cons.1 hc with rfl|hc
     ·omega
     ·exact k1 c hc
    ·rw[valS,List.length_cons,Nat.add_assoc,k2.1,show a.toNat=q-1 by omega,Nat.pow_succ,Nat.mul_comm (q^l.length),Nat.sub_mul,Nat.one_mul]
     have:q^l.length≤q*q^l.length:=Nat.le_mul_of_pos_left _ hq
     omega
    ·rcases List.mem_cons.1 hc with rfl|hc
     ·rfl
     ·exact k2.2 c hc
section
variable {hF:H} {q:Int}
theorem ri5{p s:List Int}{a b:Int}{i:Nat}(hi:p.length=i):(p++a::s).set i b=p++b::s:=by
 subst hi;simp
end
end Go.Proofs.Ytoglhlonhmmieaa
namespace Go.Proofs.Ytoglhlonhmmieaa
open Go.Am Go.Vm Go.Alg
theorem qe6{p s:List Int}{a:Int}{i:Nat}(hi:p.length=i):(ivs (p++a::s))[i]? =some (.v (.int .i64 a)):=iat (by subst hi;simp)
section
variable {q:Int} {nl:Nat}
end
section
variable {q:Int}
variable {b b':Bool} {nl nl':Nat} {xs w:List Int} {k:Int}
end
theorem q_hi{q:Int} [hq:IsFld q]:q≤64:=by
 obtain⟨p,m,g,mod,hn⟩:=hq.ok
 exact(jj8 hn).1.q64
section
variable {q:Int} [IsFld q]
def elE(q:Int) [IsFld q](a:Int):El q:=if h:0≤a∧a<q then⟨a,h.1,h.2⟩else 0
theorem sx0{a:Int}(h:0≤a∧a<q):(elE q a).v=a:=by unfold elE;rw[dif_pos h]
theorem c86{l:List Int}(h:digS q l):vs (l.map (elE q))=l:=by
 unfold vs
 rw[List.map_map]
 conv=>rhs;rw[←List.map_id l]
 exact List.map_congr_left fun a ha=>sx0 (h a ha)
theorem oa6(z:List (El q)):digS q (vs z):=fun a ha=>by
 obtain⟨x,_,rfl⟩:=List.mem_map.1 ha
 exact⟨x.lo,x.hi⟩
def yv5(z:List (El q)):List (El q):=(qr3 q (vs z)).1.map (elE q)
theorem z55: ∃p:Nat,q=(p:Int)∧2≤p∧p≤64:=⟨q.toNat,by have:=aw0 (q:=q);omega,by have:=aw0 (q:=q);omega,by have:=q_hi (q:=q);omega⟩
theorem mw7(z:List (El q)):vs (yv5 z)=(qr3 q (vs z)).1:=by
 obtain⟨p,hp,h2,_⟩:=z55 (q:=q)
 refine c86 ?_
 have:=(jd2 (q:=p) (by omega) (l:=vs z) (by rw[←hp];exact oa6 z)).1
 rwa [←hp]at this
theorem l71(z:List (El q)):(yv5 z).length=z.length:=by
 have:=congrArg List.length (mw7 z)
 rwa [fi2,pd1,fi2]at this
theorem nc8{p:Nat}: ∀(d:Nat) (n:Nat),fewQ (p:Int) d (n:Int)=true→n≤4096→n*p^d≤4096
 |0,n,_,hn=>by simpa using hn
 |d+1,n,h,hn=>by
  rw[fewQ]at h
  split at h
  ·cases h
  ·rename_i h1
   rw[←Int.natCast_mul]at h h1
   have:=nc8 d (n*p) h (by omega)
   rw[Nat.mul_assoc,←Nat.pow_succ']at this
   exact this
structure Left (q:Int) (p:Nat) (n:Nat) (z:List (El q)):Prop where
 e:q=(p:Int)
 h:valS p (vs z)+n+1=p^z.length
theorem Left.last{p:Nat}{z:List (El q)}(h:Left q p 0 z):(qr3 q (vs z)).2=false:=by
 have hq:=aw0 (q:=q)
 have h1:=jd2 (q:=p) (by have:=h.e;omega) (l:=vs z) (by rw[←h.e];exact oa6 z)
 rw[←h.e]at h1
 cases hb:(qr3 q (vs z)).2 with
 |false=>rfl
 |true=>
  have h2:=h1.2
  rw[hb,if_pos rfl]at h2
  have h3:=uc1 (q:=p) (l:=(qr3 q (vs z)).1) (by rw[←h.e];exact h1.1)
  rw[pd1,fi2]at h3
  have:=h.h
  omega
theorem Left.more{p n:Nat}{z:List (El q)}(h:Left q p (n+1) z):(qr3 q (vs z)).2=true∧Left q p n (yv5 z):=by
 have hq:=aw0 (q:=q)
 have h1:=jd2 (q:=p) (by have:=h.e;omega) (l:=vs z) (by rw[←h.e];exact oa6 z)
 rw[←h.e]at h1
 have h0:=h.h
 cases hb:(qr3 q (vs z)).2 with
 |false=>
  have h2:=h1.2
  rw[hb,if_neg (by decide),fi2]at h2
  omega
 |true=>
  have h2:=h1.2
  rw[hb,if_pos rfl]at h2
  exact⟨rfl,h.e,by rw[mw7,l71];omega⟩
theorem Left.start{p:Nat}(e:q=(p:Int))(K:Nat):Left q p (p^K-1) (List.replicate K (0:El q)):=by
 have hq:=aw0 (q:=q)
 refine⟨e, ?_⟩
 have h0: ∀k:Nat,valS p (vs (List.replicate k (0:El q)))=0:=by
  intro k
  induction k with
  |zero=>rfl
  |succ k ih=>rw[List.replicate_succ,show vs ((0:El q)::List.replicate k 0)=0::vs (List.replicate k 0)from rfl,valS,ih];simp
 rw[h0,List.length_replicate]
 have:0<p^K:=Nat.pow_pos (by omega)
 omega
end
section
variable {q p m g:Int} [IsFld q] {t:Tree} {b b' b2:Bool} {nl nl' nl2:Nat} {X Y:List (El q)} {r:Int} {K:Nat}
end
section
variable {q n:Int} {nl nr:Nat} {M:List (List Int)}
end
section
variable {q:Int} [IsFld q] {k nl nr:Nat} {N:List (List (El q))}
theorem kh1(h1:0≤q)(h2:q≤64){M:List (List Int)}{K:Nat}(hK:K≤1000): ∀(d i:Nat) (n:Int),i+d=K→0≤n→n≤4096→ ∃n':Int,∀ks,
 vgoL W ⟨hNo,[(.cell 2 true 3), .tmp 3],0⟩ [1,2,5,17,18] c48L0 (.blk 0 [1,2]::ks) [(1, .own 0 []),(2, .own 1 []),(5, .x (.int .i64 n)),(17, .x (.int .i64 K)),(18, .x (.int .i64 i))] [.pt 25 [.v (.int .i64 q), .v (.int .i64 k), .sl 2 22 1 (lls 2 M)], .pt 25 [.v (.int .i64 0), .v (.int .i64 0), .sl 2 22 1 []]]=
  if fewQ q d n=true then vgo W ⟨hNo,[(.cell 2 true 3), .tmp 3],0⟩ ks (VFr.of [(1, .own 0 []),(2, .own 1 [])]) [.pt 25 [.v (.int .i64 q), .v (.int .i64 k), .sl 2 22 1 (lls 2 M)], .pt 25 [.v (.int .i64 0), .v (.int .i64 0), .sl 2 22 1 []]]
  else some (.tup [.agg [.x (.int .i64 0), .x (.int .i64 0), .x (.slice none 0 0)], .x (.int .i64 4)],[],[])
 |0,i,n,hi,h0,hn=>by
  refine⟨n,fun ks=> ?_⟩
  rw[fewQ,if_pos rfl,sb5 c48L0.eq_def]
  simp(disch:=first|omega|fail) only[push_cast,seval,vrl,if_pos,if_neg]
 |d+1,i,n,hi,hn,hn2=>by
  have hb0:0≤n*q:=Int.mul_nonneg hn h1
  have hb1:n*q≤4096*64:=Int.mul_le_mul hn2 h2 h1 (by decide)
  have hb2:n*q≤262144:=by omega
  rw[fewQ]
  by_cases h:4096<n*q
  ·rw[if_pos h]
   refine⟨n,fun ks=> ?_⟩
   rw[if_neg (by decide),sb5 c48L0.eq_def]
   simp(disch:=first|omega|fail) only[push_cast,seval,vrl,if_pos,if_neg,dec_lt h]
  ·obtain⟨n',ih⟩:=kh1 h1 h2 (M:=M) hK d (i+1) (n*q) (by omega) hb0 (by omega)
   refine⟨n',fun ks=> ?_⟩
   have ih:=ih ks
   rw[Int.natCast_add,Int.natCast_one]at ih
   rw[if_neg h,←ih,sb5 c48L0.eq_def]
   simp(disch:=first|omega|fail) only[push_cast,seval,vrl,if_pos,if_neg,cw6 (Int.not_lt.1 h)]
theorem lw9(he:gi9 q k (N.map vs)=0)(h0:0<k)(hk:k≤64)(hl:N.length≤64)(hr: ∀r∈N,r.length=k):
 o24 W 48 [.agg [.x (.int .i64 q), .x (.int .i64 k), .fz true (.sl nl 0 1 (lvs nr (N.map vs)))]] []=if fewQ q (redR N).length 1=true then some (.tup [.agg [.x (.int .i64 q), .x (.int .i64 k), .own 0 []], .x (.int .i64 0)],[.sl 2 22 1 (lls 2 (pvR (redR N)))],[])
  else some (.tup [.agg [.x (.int .i64 0), .x (.int .i64 0), .x (.slice none 0 0)], .x (.int .i64 4)],[],[]):=by
 have e1:=fun nl nr=>ob1 (nl:=nl) (nr:=nr) he h0 hk hl hr
 have hle:=ew4 hr
 have hq:=aw0 (q:=q)
 obtain⟨n',e⟩:=kh1 (q:=q) (k:=k) (M:=pvR (redR N)) (by omega) q_hi (K:=(redR N).length) (by omega) (redR N).length 0 1 (by omega) (by omega) (by omega)
 simp only[Int.natCast_zero,List.take_zero,List.drop_zero,rp2,lz6,x25,List.map_nil,List.length_nil]at e
 have h1:=nu3 (redR N)
 rw[o10 rfl T48 rfl]
 unfold F48 c48
 simp(disch:=first|omega|fail) only[push_cast,seval,vrl,if_pos,if_neg,e1,h1]
 rw[e]
 cases fewQ q (redR N).length 1 with
 |true=>
  rw[if_pos rfl,if_pos rfl]
  simp(disch:=first|omega|fail) only[push_cast,seval,vrl,if_pos,if_neg]
 |false=>rw[if_neg (by decide),if_neg (by decide)]
theorem q96{M:List (List Int)}:o24 W 49 [.agg [.x (.int .i64 q), .x (.int .i64 k), .fz true (.sl nl 0 1 (lvs nr M))]] []=some (.fn 89 [.own 0 []],[.pt 25 [.v (.int .i64 q), .v (.int .i64 k), .fz (.sl nl 0 1 (lvs nr M))]],[]):=by
 rw[o10 rfl T49 rfl]
 unfold F49 c49
 simp(disch:=first|omega|fail) only[push_cast,seval,vrl,if_pos,if_neg]
end
section
variable {q:Int} [IsFld q] {k nl nr nl2 nlo:Nat} {b:Bool} {R:List (List (El q))}
def wdL(k:Nat)(R:List (List (El q))):Nat→List (El q)→List (List (El q))
 |0,z=>[encL k z R]
 |n+1,z=>encL k z R::wdL k R n (yv5 z)
def inc1(o:List Int)(w:List (El q)):List Int:=o.set (wtW (vs w)) (o.getD (wtW (vs w)) 0+1)
theorem c40(o:List Int)(w:List (El q)):(inc1 o w).length=o.length:=by unfold inc1;rw[List.length_set]
structure CntOK (k m:Nat) (o:List Int):Prop where
 len:o.length=k+1
 lo: ∀x∈o,0≤x∧x≤(m:Int)
theorem CntOK.next{m:Nat}{o:List Int}(h:CntOK k m o){w:List (El q)}(hw:w.length=k):CntOK k (m+1) (inc1 o w):=by
 refine⟨by rw[c40,h.len],fun x hx=> ?_⟩
 unfold inc1 at hx
 have hwt:=p55 (vs w)
 rw[fi2]at hwt
 rcases List.mem_or_eq_of_mem_set hx with hx|hx
 ·have:=h.lo x hx;omega
 ·have hm:o.getD (wtW (vs w)) 0∈o:=by
   rw[List.getD_eq_getElem?_getD,List.getElem?_eq_getElem (by rw[h.len];omega),Option.getD_some]
   exact List.getElem_mem _
  have:=h.lo _ hm
  omega
theorem CntOK.at'{m:Nat}{o:List Int}(h:CntOK k m o){w:List (El q)}(hw:w.length=k):o[wtW (vs w)]? =some (o.getD (wtW (vs w)) 0)∧0≤o.getD (wtW (vs w)) 0∧o.getD (wtW (vs w)) 0≤(m:Int)∧wtW (vs w)<o.length:=by
 have hwt:=p55 (vs w)
 rw[fi2]at hwt
 have hlt:wtW (vs w)<o.length:=by rw[h.len];omega
 have e:o[wtW (vs w)]? =some (o.getD (wtW (vs w)) 0):=by rw[List.getD_eq_getElem?_getD,List.getElem?_eq_getElem hlt,Option.getD_some]
 exact⟨e,(h.lo _ (List.mem_of_getElem? e)).1,(h.lo _ (List.mem_of_getElem? e)).2,hlt⟩
def v66:Nat→List (El q)→List (El q)
 |0,z=>yv5 z
 |n+1,z=>v66 n (yv5 z)
theorem le0(hq:q≤1000000){T:Tree}: ∀(i:Nat) (p s s':List Int),p.length=i→(p++s).length≤1000000→(∀a∈p,0≤a∧a<q)→qr3 q s=(s',false)→ ∃j:Int,(0≤j↔(qr3 q (p++s)).2=true)∧ ∀ks,
 vgoL W ⟨hNo,[.tmp 2, .tmp 3],0⟩ [5,33,35,37,38,113] c11L0 (.blk 2 [5,33,35,37,38,113]::ks) [(5, .own 0 []),(33, .own 1 []),(35, .fz true (pF q)),(37, .own 2 []),(38, .x (.int .i64 ((i:Int)-1))),(113, .x (.bool false))] [T, .pt 25 [.v (.int .i64 q), .v (.int .i64 k), .fz (.sl nl 0 1 (lvs nr (R.map vs)))], .sl nl2 3 1 (ivs (p++s'))]=
  vgo W ⟨hNo,[.tmp 2, .tmp 3],0⟩ ks (VFr.of [(5, .own 0 []),(33, .own 1 []),(35, .fz true (pF q)),(37, .own 2 []),(38, .x (.int .i64 j)),(113, .x (.bool false))]) [T, .pt 25 [.v (.int .i64 q), .v (.int .i64 k), .fz (.sl nl 0 1 (lvs nr (R.map vs)))], .sl nl2 3 1 (ivs (qr3 q (p++s)).1)]
 |0,p,s,s',hi,hn,hd,hs=>by
  obtain rfl:p=[]:=List.eq_nil_of_length_eq_zero hi
  rw[List.nil_append,List.nil_append,hs]
  refine⟨-1,by simp,fun ks=> ?_⟩
  rw[sb5 c11L0.eq_def]
  simp(disch:=first|omega|fail) only[push_cast,seval,vrl,if_pos,if_neg]
 |i+1,p,s,s',hi,hn,hd,hs=>by
  obtain⟨p',a,rfl⟩: ∃p' a,p=p'++[a]:=⟨p.dropLast,p.getLast (by intro h;subst h;simp at hi),(List.dropLast_concat_getLast _).symm⟩
  have hp'l:p'.length=i:=by simpa using hi
  have ha:=hd a (by simp)
  rw[List.append_assoc,List.singleton_append]at hn⊢
  rw[List.append_assoc,List.singleton_append]
  have hsl:s'.length=s.length:=by have:=pd1 q s;rw[hs]at this;exact this
  have hlen:(p'++a::s').length≤1000000:=by simp[hsl]at hn⊢;omega
  have hi2:i<(p'++a::s').length:=by simp;omega
  have l1:=qe6 (s:=s') (a:=a) hp'l
  have l2:=qe6 (s:=s') (a:=a+1) hp'l
  have t1:=ri5 (s:=s') (a:=a) (b:=a+1) hp'l
  have t2:=ri5 (s:=s') (a:=a+1) (b:=0) hp'l
  have e2:(p'++(a+1)::s').length=(p'++a::s').length:=by simp
  have hw:((i+1:Nat):Int)-1=(i:Int):=by omega
  rw[hw]
  by_cases hlt:a+1<q
  ·have hnx:qr3 q (a::s)=((a+1)::s',true):=by rw[qr3,hs];simp only;rw[if_pos hlt]
   rw[vq6 hnx p']
   refine⟨i,⟨fun _=>rfl,fun _=>by omega⟩,fun ks=> ?_⟩
   rw[sb5 c11L0.eq_def]
   simp(disch:=first|omega|fail) only[push_cast,seval,vrl,if_pos,if_neg,l1,l2,t1,e2,dec_lt hlt]
  ·have hnx:qr3 q (a::s)=(0::s',false):=by rw[qr3,hs];simp only;rw[if_neg hlt]
   obtain⟨j,j1,j2⟩:=le0 hq (T:=T) i p' (a::s) (0::s') hp'l hn (fun c hc=>hd c (by simp[hc])) hnx
   refine⟨j,j1,fun ks=> ?_⟩
   rw[←j2 ks,sb5 c11L0.eq_def]
   simp(disch:=first|omega|fail) only[push_cast,seval,vrl,if_pos,if_neg,l1,l2,t1,t2,e2,cw6 (Int.not_lt.1 hlt)]
theorem ie9(hm:R.length≤64)(hR: ∀r∈R,r.length=k)(hk:k≤64){pp:Nat}: ∀(n m:Nat) (z:List (El q)) (o:List Int),Left q pp n z→z.length=R.length→CntOK k m o→m+n≤100000→ ∀ks kz,ks= .blk 1000 [113,5]::kz→
 vgoL W ⟨hNo,[.tmp 2, .tmp 3],0⟩ [5,33,35,37,113] c11L1 (.blk 0 [5,113]::ks) [(5, .own 0 []),(33, .own 1 []),(35, .fz true (pF q)),(37, .own 2 []),(113, .x (.bool false))] [.pt 22 [.sl nlo 3 1 (ivs o)], .pt 25 [.v (.int .i64 q), .v (.int .i64 k), .fz (.sl nl 0 1 (lvs nr (R.map vs)))], .sl 0 3 1 (ivs (vs z))]=
  vgo W ⟨hNo,[.tmp 2, .tmp 3],0⟩ kz (VFr.of [(113, .x (.bool false)),(5, .own 0 [])]) [.pt 22 [.sl nlo 3 1 (ivs ((wdL k R n z).foldl inc1 o))], .pt 25 [.v (.int .i64 q), .v (.int .i64 k), .fz (.sl nl 0 1 (lvs nr (R.map vs)))], .sl 0 3 1 (ivs (vs (v66 n z)))]:=by
 have hqh:=q_hi (q:=q)
 have turn: ∀(m:Nat) (z:List (El q)) (o:List Int),z.length=R.length→CntOK k m o→m≤100000→ ∃j:Int,(0≤j↔(qr3 q (vs z)).2=true)∧ ∀ks kz,ks= .blk 1000 [113,5]::kz→
  (0≤j→vgoL W ⟨hNo,[.tmp 2, .tmp 3],0⟩ [5,33,35,37,113] c11L1 (.blk 0 [5,113]::ks) [(5, .own 0 []),(33, .own 1 []),(35, .fz true (pF q)),(37, .own 2 []),(113, .x (.bool false))] [.pt 22 [.sl nlo 3 1 (ivs o)], .pt 25 [.v (.int .i64 q), .v (.int .i64 k), .fz (.sl nl 0 1 (lvs nr (R.map vs)))], .sl 0 3 1 (ivs (vs z))]=
    vgoL W ⟨hNo,[.tmp 2, .tmp 3],0⟩ [5,33,35,37,113] c11L1 (.blk 0 [5,113]::ks) [(5, .own 0 []),(33, .own 1 []),(35, .fz true (pF q)),(37, .own 2 []),(113, .x (.bool false))] [.pt 22 [.sl nlo 3 1 (ivs (inc1 o (encL k z R)))], .pt 25 [.v (.int .i64 q), .v (.int .i64 k), .fz (.sl nl 0 1 (lvs nr (R.map vs)))], .sl 0 3 1 (ivs (vs (yv5 z)))])∧
  (j<0→vgoL W ⟨hNo,[.tmp 2, .tmp 3],0⟩ [5,33,35,37,113] c11L1 (.blk 0 [5,113]::ks) [(5, .own 0 []),(33, .own 1 []),(35, .fz true (pF q)),(37, .own 2 []),(113, .x (.bool false))] [.pt 22 [.sl nlo 3 1 (ivs o)], .pt 25 [.v (.int .i64 q), .v (.int .i64 k), .fz (.sl nl 0 1 (lvs nr (R.map vs)))], .sl 0 3 1 (ivs (vs z))]=
    vgo W ⟨hNo,[.tmp 2, .tmp 3],0⟩ kz (VFr.of [(113, .x (.bool false)),(5, .own 0 [])]) [.pt 22 [.sl nlo 3 1 (ivs (inc1 o (encL k z R)))], .pt 25 [.v (.int .i64 q), .v (.int .i64 k), .fz (.sl nl 0 1 (lvs nr (R.map vs)))], .sl 0 3 1 (ivs (vs (yv5 z)))]):=by
  intro m z o hz ho hm'
  obtain⟨j,j1,j2⟩:=le0 (q:=q) (k:=k) (nl:=nl) (nr:=nr) (R:=R) (nl2:=0) (by omega) (T:= .pt 22 [.sl nlo 3 1 (ivs (inc1 o (encL k z R)))]) z.length (vs z) [] [] (by rw[fi2]) (by rw[List.append_nil,fi2];omega) (fun a ha=>oa6 z a ha) rfl
  rw[List.append_nil]at j1
  simp only[List.append_nil]at j2
  rw[←mw7]at j2
  have e1:=fun b nl nr nl2=>gm8 (q:=q) (k:=k) (b:=b) (nl:=nl) (nr:=nr) (nl2:=nl2) (m:=z) (R:=R) hz (by omega) hR (by omega)
  have e2:=fun b nl=>fd2 (b:=b) (nl:=nl) (a:=vs (encL k z R)) (by rw[fi2,b87];omega)
  obtain⟨o1,o2,o3,o4⟩:=ho.at' (w:=encL k z R) (b87 z R)
  have h1:=iat o1
  have hzl:(vs z).length=z.length:=fi2 z
  refine⟨j,j1,fun ks kz hks=>⟨fun hj=> ?_,fun hj=> ?_⟩⟩
  ·rw[hks,sb5 c11L1.eq_def]
   simp(disch:=first|omega|fail) only[push_cast,seval,vrl,if_pos,if_neg,e1,e2,h1,hzl]
   rw[show o.set (wtW (vs (encL k z R))) (o.getD (wtW (vs (encL k z R))) 0+1)=inc1 o (encL k z R)from rfl,j2]
   simp(disch:=first|omega|fail) only[push_cast,seval,vrl,if_pos,if_neg,cw6 hj]
  ·rw[hks,sb5 c11L1.eq_def]
   simp(disch:=first|omega|fail) only[push_cast,seval,vrl,if_pos,if_neg,e1,e2,h1,hzl]
   rw[show o.set (wtW (vs (encL k z R))) (o.getD (wtW (vs (encL k z R))) 0+1)=inc1 o (encL k z R)from rfl,j2]
   simp(disch:=first|omega|fail) only[push_cast,seval,vrl,if_pos,if_neg,dec_lt hj]
 intro n
 induction n with
 |zero=>
  intro m z o hl hz ho hm' ks kz hks
  obtain⟨j,j1,j2⟩:=turn m z o hz ho (by omega)
  have hlast:=hl.last
  rw[hlast]at j1
  rw[((j2 ks kz hks).2 (by by_cases h:0≤j;exact absurd (j1.1 h) (by decide);omega)),wdL,List.foldl_cons,List.foldl_nil,v66]
 |succ n ih=>
  intro m z o hl hz ho hm' ks kz hks
  obtain⟨j,j1,j2⟩:=turn m z o hz ho (by omega)
  obtain⟨l1,l2⟩:=hl.more
  rw[(j2 ks kz hks).1 (j1.2 l1),wdL,List.foldl_cons,v66]
  exact ih (m+1) (yv5 z) (inc1 o (encL k z R)) l2 (by rw[l71,hz]) (ho.next (b87 z R)) (by omega) ks kz hks
def allW(k:Nat)(R:List (List (El q))):List (List (El q)):=wdL k R (q.toNat^R.length-1) (List.replicate R.length 0)
def wgt(k:Nat)(R:List (List (El q))):List Int:=(allW k R).foldl inc1 (List.replicate (k+1) 0)
theorem kp0:CntOK k 0 (List.replicate (k+1) 0):=⟨by simp,fun x hx=>by rw[(List.mem_replicate.1 hx).2];omega⟩
theorem i28(h:fewQ q R.length 1=true):q.toNat^R.length≤4096:=by
 have hq:=aw0 (q:=q)
 have:=nc8 (p:=q.toNat) R.length 1 (by rw[Int.toNat_of_nonneg (by omega)];exact h) (by omega)
 omega
theorem ir7{N:List (List (El q))}(he:gi9 q k (N.map vs)=0)(h0:0<k)(hk:k≤64)(hl:N.length≤64)(hr: ∀r∈N,r.length=k)(hf:fewQ q (redR N).length 1=true):
 o24 W 11 [.agg [.x (.int .i64 q), .x (.int .i64 k), .fz true (.sl nl 0 1 (lvs nr (N.map vs)))]] []=some (.tup [.own 0 [], .x (.int .i64 0)],[.sl 2 3 1 (ivs (wgt k (p78 (redR N))))],[]):=by
 have e1:=fun nl nr=>lw9 (nl:=nl) (nr:=nr) he h0 hk hl hr
 simp only[hf,if_true]at e1
 obtain⟨r1,r2,_⟩:=bi2 hr
 have hle:=ew4 hr
 have hq:=aw0 (q:=q)
 have hrl:(p78 (redR N)).length=(redR N).length:=gb3
 have hpw:=i28 (q:=q) (R:=p78 (redR N)) (by rw[hrl];exact hf)
 have e2:=fun nl nr=>q96 (q:=q) (k:=k) (nl:=nl) (nr:=nr) (M:=pvR (redR N))
 have e3:=fun nlo nl nr ks kz hks=>ie9 (q:=q) (k:=k) (nlo:=nlo) (nl:=nl) (nr:=nr) (R:=p78 (redR N)) (by omega) (zu4 r2) hk (pp:=q.toNat) (q.toNat^(p78 (redR N)).length-1) 0 (List.replicate (p78 (redR N)).length 0) (List.replicate (k+1) 0) (Left.start (by omega) _) (by simp) kp0 (by omega) ks kz hks
 rw[←lo1]at e3
 have h1:=nu3 (redR N)
 have hz:List.replicate (redR N).length (0:Int)=vs (List.replicate (p78 (redR N)).length (0:El q)):=by rw[hrl,←qj2];rfl
 obtain⟨K,hK⟩: ∃K,K=k+1:=⟨_,rfl⟩
 unfold wgt allW
 rw[←hK]at e3⊢
 rw[o10 rfl T11 rfl]
 unfold F11 c11
 have hk1:((k:Int)+1).toNat=K:=by omega
 simp(disch:=first|omega|fail) only[push_cast,seval,vrl,if_pos,if_neg,e1,e2,h1,hz,hk1]
 rw[e3 _ _ _ _ _ rfl]
 simp(disch:=first|omega|fail) only[push_cast,seval,vrl,if_pos,if_neg]
end
section
variable {q n:Int} {nl nr:Nat} {M:List (List Int)}
theorem by6{e:Int}(he:e≠0)(h: ∀nl nr,o24 W 48 [.agg [.x (.int .i64 q), .x (.int .i64 n), .fz true (.sl nl 0 1 (lvs nr M))]] []=some (.tup [.agg [.x (.int .i64 0), .x (.int .i64 0), .x (.slice none 0 0)], .x (.int .i64 e)],[],[])):
 o24 W 11 [.agg [.x (.int .i64 q), .x (.int .i64 n), .fz true (.sl nl 0 1 (lvs nr M))]] []=some (.tup [.x (.slice none 0 0), .x (.int .i64 e)],[],[]):=by
 rw[o10 rfl T11 rfl]
 unfold F11 c11
 simp(disch:=first|omega|fail) only[push_cast,seval,vrl,if_pos,if_neg,h,nb8 he]
end
section
variable {q:Int} [IsFld q] {k nl nr nl2:Nat} {b:Bool} {R:List (List (El q))}
end
section
variable {b:Bool} {nl:Nat} {l:List Int}
end
section
variable {q:Int} [IsFld q] {k nl nr:Nat} {N:List (List (El q))}
theorem rc0(R:List (List (El q))):(wgt k R).length=k+1:=by
 unfold wgt
 have: ∀(l:List (List (El q))) (o:List Int),(l.foldl inc1 o).length=o.length:=by
  intro l
  induction l with
  |nil=>intro o;rfl
  |cons a l ih=>intro o;rw[List.foldl_cons,ih,c40]
 rw[this];simp
end
section
variable {q:Int} [IsFld q] {k:Nat}
theorem mg6(o:List Int)(w:List (El q)){d:Nat}(hd:d<o.length):(inc1 o w).getD d 0=o.getD d 0+if wtW (vs w)=d then 1 else 0:=by
 unfold inc1
 simp only[List.getD_eq_getElem?_getD,List.getElem?_set]
 by_cases h:wtW (vs w)=d
 ·rw[if_pos h,if_pos h,if_pos (by rw[h];exact hd),h,Option.getD_some,List.getElem?_eq_getElem hd]
 ·rw[if_neg h,if_neg h,Int.add_zero]
theorem xm0(d:Nat): ∀(L:List (List (El q))) (o:List Int),d<o.length→(L.foldl inc1 o).getD d 0=o.getD d 0+((L.filter fun w=>decide (wtW (vs w)=d)).length:Int)
 | [],o,hd=>by simp
 |w::L,o,hd=>by
  rw[List.foldl_cons,xm0 d L (inc1 o w) (by rw[c40];exact hd),mg6 o w hd,List.filter_cons]
  by_cases h:wtW (vs w)=d
  ·rw[if_pos h,if_pos (by simpa using h),List.length_cons];omega
  ·rw[if_neg h,if_neg (by simpa using h)];omega
theorem hu4{R:List (List (El q))}{d:Nat}(hd:d≤k):(wgt k R).getD d 0=(((allW k R).filter fun w=>decide (wtW (vs w)=d)).length:Int):=by
 unfold wgt
 rw[xm0 d _ _ (by simp;omega)]
 have:(List.replicate (k+1) (0:Int)).getD d 0=0:=by rw[List.getD_eq_getElem?_getD,List.getElem?_replicate];split<;>rfl
 rw[this,Int.zero_add]
end
theorem id6{p:Nat}: ∀{l l':List Int},digS p l→digS p l'→l.length=l'.length→valS p l=valS p l'→l=l'
 | [],[],_,_,_,_=>rfl
 |a::l,b::l',h,h',hl,hv=>by
  have hl':l.length=l'.length:=by simpa using hl
  have h1:=uc1 (l:=l) fun c hc=>h c (by simp[hc])
  have h2:=uc1 (l:=l') fun c hc=>h' c (by simp[hc])
  have h3:=h a (by simp)
  have h4:=h' b (by simp)
  rw[valS,valS,←hl']at hv
  rw[←hl']at h2
  generalize p^l.length=M at*
  have e:a.toNat=b.toNat:=by
   rcases Nat.lt_trichotomy a.toNat b.toNat with h5|h5|h5
   ·have h6:(a.toNat+1)*M≤b.toNat*M:=Nat.mul_le_mul_right _ h5
    rw[Nat.add_mul]at h6;omega
   ·exact h5
   ·have h6:(b.toNat+1)*M≤a.toNat*M:=Nat.mul_le_mul_right _ h5
    rw[Nat.add_mul]at h6;omega
  rw[e]at hv
  rw[id6 (fun c hc=>h c (by simp[hc])) (fun c hc=>h' c (by simp[hc])) hl' (by omega),show a=b by omega]
section
variable {q:Int} [IsFld q] {p k:Nat} {R:List (List (El q))}
theorem gu8{n:Nat}{z:List (El q)}(h:Left q p (n+1) z):valS p (vs (yv5 z))=valS p (vs z)+1:=by
 have h2:=h.more.2.h
 have h1:=h.h
 rw[l71]at h2
 omega
end
end Go.Proofs.Ytoglhlonhmmieaa
namespace Go.Alg
section
variable {α β:Type}
def sZ:List α→(α→Int)→Int
 | [],_=>0
 |a::l,f=>f a+sZ l f
theorem pj8{f g:α→Int}: ∀{l:List α},(∀a∈l,f a=g a)→sZ l f=sZ l g
 | [],_=>rfl
 |a::l,h=>by rw[sZ,sZ,h a (by simp),pj8 fun b hb=>h b (by simp[hb])]
theorem kf2(f g:α→Int): ∀l:List α,sZ l (fun a=>f a+g a)=sZ l f+sZ l g
 | []=>rfl
 |a::l=>by rw[sZ,sZ,sZ,kf2 f g l];omega
theorem e95(c:Int)(f:α→Int): ∀l:List α,sZ l (fun a=>c*f a)=c*sZ l f
 | []=>by simp[sZ]
 |a::l=>by rw[sZ,sZ,e95 c f l,Int.mul_add]
theorem qx5(c:Int)(f:α→Int)(l:List α):sZ l (fun a=>f a*c)=sZ l f*c:=by
 rw[Int.mul_comm,←e95]
 exact pj8 fun a _=>Int.mul_comm _ _
theorem bs3(c:Int): ∀l:List α,sZ l (fun _=>c)=l.length*c
 | []=>by simp[sZ]
 |a::l=>by rw[sZ,bs3 c l,List.length_cons,Int.natCast_add,Int.add_mul];omega
theorem jr3(l:List α):sZ l (fun _=>0)=0:=by rw[bs3];simp
theorem wp6(f:α→β→Int)(m:List β): ∀l:List α,sZ l (fun a=>sZ m fun b=>f a b)=sZ m fun b=>sZ l fun a=>f a b
 | []=>by
   simp only[sZ]
   rw[jr3]
 |a::l=>by
  simp only[sZ]
  rw[wp6 f m l,←kf2]
variable [DecidableEq α]
end
end Go.Alg
namespace Go.Proofs.Ytoglhlonhmmieaa
open Go.Am Go.Vm Go.Alg
section
variable {α β:Type}
theorem e02(f:α→Int): ∀l l':List α,sZ (l++l') f=sZ l f+sZ l' f
 | [],l'=>by simp[sZ]
 |a::l,l'=>by rw[List.cons_append,sZ,sZ,e02 f l l'];omega
theorem p04(g:β→α)(f:α→Int): ∀l:List β,sZ (l.map g) f=sZ l fun b=>f (g b)
 | []=>rfl
 |b::l=>by rw[List.map_cons,sZ,sZ,p04 g f l]
theorem vy7(g:β→List α)(f:α→Int): ∀l:List β,sZ (l.flatMap g) f=sZ l fun b=>sZ (g b) f
 | []=>rfl
 |b::l=>by rw[List.flatMap_cons,e02,vy7 g f l,sZ]
theorem pk2{f:α→Int}{l l':List α}(h:l.Perm l'):sZ l f=sZ l' f:=by
 induction h with
 |nil=>rfl
 |cons a _ ih=>rw[sZ,sZ,ih]
 |swap a b l=>rw[sZ,sZ,sZ,sZ];omega
 |trans _ _ h1 h2=>rw[h1,h2]
theorem aw8(p:α→Bool)(f:α→Int): ∀l:List α,sZ l (fun a=>if p a then f a else 0)=sZ (l.filter p) f
 | []=>rfl
 |a::l=>by
  rw[sZ,aw8 p f l,List.filter_cons]
  cases p a<;>simp[sZ]
end
section
variable {q:Int} [IsFld q]
def els(q:Int) [IsFld q]:List (El q):=(List.range q.toNat).map fun i:Nat=>elE q (i:Int)
theorem w66(a:El q):a∈els q:=by
 refine List.mem_map.2 ⟨a.v.toNat,List.mem_range.2 (by have:=a.lo;have:=a.hi;omega),El.ext' ?_⟩
 rw[sx0 (by have:=a.lo;have:=a.hi;omega)]
 have:=a.lo;omega
theorem w55:(els q).Nodup:=by
 unfold els
 refine List.Pairwise.map _ (fun a b h=>h) (List.Pairwise.imp_of_mem (R:=fun a b:Nat=>a≠b) ?_ List.nodup_range)
 intro a b ha hb hab e
 have ha:=List.mem_range.1 ha
 have hb:=List.mem_range.1 hb
 have:=congrArg El.v e
 rw[sx0 (by omega),sx0 (by omega)]at this
 omega
theorem au9:(els q).length=q.toNat:=by simp[els]
theorem kq5:((els q).length:Int)=q:=by rw[au9];have:=aw0 (q:=q);omega
def nz(q:Int) [IsFld q]:List (El q):=(els q).filter fun a=>decide (a≠0)
theorem yy6:(els q).Perm (0::nz q):=by
 refine(List.perm_ext_iff_of_nodup w55 ?_).2 fun a=>⟨fun _=> ?_,fun _=>w66 a⟩
 ·refine List.nodup_cons.2 ⟨fun h=> ?_,List.Pairwise.filter _ w55⟩
  have:=(List.mem_filter.1 h).2
  simp at this
 ·by_cases h:a=0
  ·simp[h]
  ·exact List.mem_cons_of_mem _ (List.mem_filter.2 ⟨w66 a,by simpa using h⟩)
theorem bk1{a:El q}(h:a∈nz q):a≠0:=by simpa using(List.mem_filter.1 h).2
theorem n46(f:El q→Int):sZ (els q) f=f 0+sZ (nz q) f:=by rw[pk2 yy6];rfl
theorem ua6:((nz q).length:Int)=q-1:=by
 have h:=(yy6 (q:=q)).length_eq
 have h2:=kq5 (q:=q)
 rw[List.length_cons]at h
 omega
theorem y60(f:El q→Int){s:El q}(hs:s≠0)(t:El q):sZ (els q) (fun a=>f (s*a+t))=sZ (els q) f:=by
 rw[←p04 (fun a=>s*a+t) f]
 refine pk2 ((List.perm_ext_iff_of_nodup ?_ w55).2 fun a=>⟨fun _=>w66 a,fun _=> ?_⟩)
 ·refine List.Pairwise.map _ (fun a b h=>h) (List.Pairwise.imp (fun{a b} hab e=>hab ?_) w55)
  exact mul_left hs (gb2 e)
 ·refine List.mem_map.2 ⟨FK.inv s*(a-t),w66 _, ?_⟩
  rw[←FK.mul_assoc,FK.mul_inv s hs,one_mul,fj9]
def gg(a:El q):Int:=if a=0 then q-1 else-1
theorem kk8:sZ (els q) (gg (q:=q))=0:=by
 rw[n46]
 have h:sZ (nz q) (gg (q:=q))=sZ (nz q) (fun _=> -1):=pj8 fun a ha=>by unfold gg;rw[if_neg (bk1 ha)]
 rw[h,bs3,ua6]
 unfold gg
 rw[if_pos rfl];omega
theorem aj0{s:El q}(hs:s≠0)(t:El q):sZ (nz q) (fun a=>gg (s*a+t))= -gg t:=by
 have h:=y60 gg hs t
 rw[kk8,n46,mul_zero,zero_add]at h
 omega
def allV(q:Int) [IsFld q]:Nat→List (List (El q))
 |0=>[[]]
 |n+1=>(els q).flatMap fun a=>(allV q n).map (a:: ·)
theorem cm8: ∀{n:Nat} {v:List (El q)},v∈allV q n↔v.length=n
 |0,v=>by rw[allV,List.mem_singleton,List.length_eq_zero_iff]
 |n+1,v=>by
  rw[allV,List.mem_flatMap]
  constructor
  ·rintro⟨a,_,h⟩
   obtain⟨w,hw,rfl⟩:=List.mem_map.1 h
   rw[List.length_cons,cm8.1 hw]
  ·intro h
   cases v with
   |nil=>cases h
   |cons a w=>exact⟨a,w66 a,List.mem_map.2 ⟨w,cm8.2 (by simpa using h),rfl⟩⟩
theorem lb7(n:Nat)(f:List (El q)→Int):sZ (allV q (n+1)) f=sZ (els q) fun a=>sZ (allV q n) fun v=>f (a::v):=by
 rw[allV,vy7]
 exact pj8 fun a _=>p04 _ _ _
theorem hr9: ∀(l:List (El q)) (m:List (List (El q))),l.Nodup→m.Nodup→(l.flatMap fun a=>m.map (a:: ·)).Nodup
 | [],m,_,_=>List.nodup_nil
 |a::l,m,hl,hm=>by
  rw[List.nodup_cons]at hl
  rw[List.flatMap_cons,List.nodup_append]
  refine⟨?_,hr9 l m hl.2 hm, ?_⟩
  ·exact List.Pairwise.map _ (fun a b h=>h) (List.Pairwise.imp (fun{x y} h e=>h (List.cons.inj e).2) hm)
  ·intro x hx y hy e
   obtain⟨u,_,rfl⟩:=List.mem_map.1 hx
   obtain⟨b,hb,hy⟩:=List.mem_flatMap.1 hy
   obtain⟨w,_,rfl⟩:=List.mem_map.1 hy
   exact hl.1 ((List.cons.inj e).1▸hb)
theorem o63: ∀n,(allV q n).Nodup
 |0=>by rw[allV];simp
 |n+1=>hr9 _ _ w55 (o63 n)
theorem s37: ∀n,((allV q n).length:Int)=q^n
 |0=>by rw[Int.pow_zero];rfl
 |n+1=>by
  have h1:=lb7 (q:=q) n fun _=>1
  rw[bs3,Int.mul_one]at h1
  rw[h1]
  simp only[bs3,Int.mul_one]
  rw[s37 n,kq5,Int.pow_succ,Int.mul_comm]
def dotL:List (El q)→List (El q)→El q
 |a::u,b::v=>a*b+dotL u v
 |_,_=>0
def wtE(v:List (El q)):Nat:=wtW (vs v)
theorem xq7(a:El q)(v:List (El q)):wtE (a::v)=(if a=0 then 0 else 1)+wtE v:=by
 unfold wtE
 rw[e55,wtW]
 congr 1
 by_cases h:a=0
 ·rw[if_pos h,if_pos (r57.2 h)]
 ·rw[if_neg h,if_neg fun e=>h (r57.1 e)]
def kW:List (El q)→Nat→Int
 | [],0=>1
 | [],_+1=>0
 |a::u,0=>kW u 0
 |a::u,k+1=>kW u (k+1)+(if a=0 then q-1 else-1)*kW u k
theorem cx9: ∀(u:List (El q)) (k:Nat) (c:El q),sZ (allV q u.length) (fun v=>if wtE v=k then gg (dotL u v+c)else 0)=gg c*kW u k
 | [],k,c=>by
   show sZ [[]] _=_
   cases k with
   |zero=>
    show(if wtE ([]:List (El q))=0 then gg (0+c)else 0)+0=gg c*1
    rw[if_pos (show wtE ([]:List (El q))=0 from rfl),zero_add];omega
   |succ k=>
    show(if wtE ([]:List (El q))=k+1 then gg (0+c)else 0)+0=gg c*0
    rw[if_neg (by show¬0=k+1;omega)];omega
 |a::u,k,c=>by
  rw[List.length_cons,lb7,n46]
  have h0:sZ (allV q u.length) (fun v=>if wtE (0::v)=k then gg (dotL (a::u) (0::v)+c)else 0)=gg c*kW u k:=by
   rw[←cx9 u k c]
   refine pj8 fun v _=> ?_
   rw[xq7,if_pos rfl,Nat.zero_add,dotL,mul_zero,zero_add]
  rw[h0]
  cases k with
  |zero=>
   have h1:sZ (nz q) (fun b=>sZ (allV q u.length) fun v=>if wtE (b::v)=0 then gg (dotL (a::u) (b::v)+c)else 0)=sZ (nz q) fun _=>0:=by
    refine pj8 fun b hb=> ?_
    rw[pj8 (g:=fun _=>0) fun v _=>if_neg (show¬wtE (b::v)=0 by rw[xq7,if_neg (bk1 hb)];omega)]
    exact jr3 _
   rw[h1,jr3,kW,Int.add_zero]
  |succ k=>
   have h1:sZ (nz q) (fun b=>sZ (allV q u.length) fun v=>if wtE (b::v)=k+1 then gg (dotL (a::u) (b::v)+c)else 0)=sZ (nz q) fun b=>gg (a*b+c)*kW u k:=by
    refine pj8 fun b hb=> ?_
    rw[←cx9 u k (a*b+c)]
    refine pj8 fun v _=> ?_
    rw[xq7,if_neg (bk1 hb),dotL]
    by_cases hw:wtE v=k
    ·rw[if_pos hw,if_pos (by omega),FK.add_comm (a*b),FK.add_assoc]
    ·rw[if_neg hw,if_neg (by omega)]
   rw[h1,qx5,kW,Int.mul_add]
   congr 1
   by_cases ha:a=0
   ·subst ha
    have h2:sZ (nz q) (fun b=>gg (0*b+c))=sZ (nz q) fun _=>gg c:=pj8 fun b _=>by rw[zero_mul,zero_add]
    rw[h2,bs3,ua6,if_pos rfl,Int.mul_comm (q-1),Int.mul_assoc]
   ·rw[aj0 ha,if_neg ha]
    rw[Int.neg_mul,Int.neg_mul,Int.mul_neg,Int.one_mul]
theorem wp7: ∀(s:List (El q)) (c:El q),sZ (allV q s.length) (fun z=>gg (dotL z s+c))=if s.all (fun a=>decide (a=0))then q^s.length*gg c else 0
 | [],c=>by
   have h0:sZ (allV q ([]:List (El q)).length) (fun z=>gg (dotL z []+c))=gg (0+c)+0:=rfl
   rw[h0,if_pos (show([]:List (El q)).all (fun a=>decide (a=0))=true from rfl),zero_add,List.length_nil,Int.pow_zero];omega
 |a::s,c=>by
  rw[List.length_cons,lb7,List.all_cons]
  have h1:(fun b=>sZ (allV q s.length) fun z=>gg (dotL (b::z) (a::s)+c))=fun b=>if s.all (fun a=>decide (a=0))then q^s.length*gg (a*b+c)else 0:=funext fun b=>by
   rw[←wp7 s (a*b+c)]
   refine pj8 fun z _=> ?_
   rw[dotL,FK.mul_comm b,FK.add_comm (a*b),FK.add_assoc]
  rw[h1]
  cases hs:s.all (fun a=>decide (a=0))with
  |false=>simp only[Bool.and_false];exact jr3 _
  |true=>
   simp only[Bool.and_true,if_true]
   rw[e95]
   by_cases ha:a=0
   ·subst ha
    have h2:sZ (els q) (fun b=>gg (0*b+c))=sZ (els q) fun _=>gg c:=pj8 fun b _=>by rw[zero_mul,zero_add]
    rw[h2,bs3,kq5,if_pos (by simp),Int.pow_succ,Int.mul_assoc]
   ·rw[y60 gg ha c,kk8,if_neg (by simpa using ha),Int.mul_zero]
end
section
variable {r m k:Nat}
end
end Go.Proofs.Ytoglhlonhmmieaa
namespace Go.Proofs.Ytoglhlonhmmieaa
section
variable {α:Type}
end
section
variable {r m:Nat}
end
end Go.Proofs.Ytoglhlonhmmieaa
namespace Go.Proofs.Ytoglhlonhmmieaa
open Go.Am Go.Vm Go.Alg
section
end
section
variable {l:List Nat} {c:Nat→Bool} {N:Nat}
end
section
variable {r m:Int}
end
section
variable {l:List Nat} {m:Nat}
end
section
variable {r m:Nat}
end
end Go.Proofs.Ytoglhlonhmmieaa
namespace Go.Proofs.Ytoglhlonhmmieaa
section
variable {r m:Nat}
end
end Go.Proofs.Ytoglhlonhmmieaa
namespace Go.Proofs.Ytoglhlonhmmieaa
open Go.Am Go.Vm Go.Alg
section
variable {r m:Nat}
end
section
variable {K:Type} [FK K]
theorem am7(N:Nat)(a:List K): ∀(Q:List (List K)) (k:Nat) (x:List K) (i:Nat),x.length=N→i<N→wf (prow N a Q k x) i=wf x i+sumN Q.length fun j=>wf a (k+j)*wf (nth Q j) i
 | [],k,x,i,hx,hi=>by rw[prow];show _=wf x i+sumN 0 _;rw[wr8,FK.add_zero]
 |w::Q,k,x,i,hx,hi=>by
  rw[prow,am7 N a Q (k+1) _ i (by rw[ev4];exact hx) hi,ga7 _ _ _ _ _ _ (by omega),if_pos (by omega),List.length_cons,c68,FK.add_assoc]
  congr 2
  exact rc1 fun j _=>by rw[show k+1+j=k+(j+1) by omega];rfl
end
section
variable {q:Int} [IsFld q] {k:Nat} {R:List (List (El q))}
theorem mb7(z:List (El q)){i:Nat}(hi:i<k):wf (encL k z R) i=sumN R.length fun j=>wf z j*wf (nth R j) i:=by
 unfold encL
 rw[am7 k z R 0 _ i (by simp) hi,i67 (by simpa using hi),List.getElem_replicate,zero_add]
 refine ox7 fun j _=> ?_
 rw[Nat.zero_add]
theorem zh7{f:Nat→El q}(h:Span (R.map wf) f): ∃z:List (El q),z.length=R.length∧ ∀i,i<k→wf (encL k z R) i=f i:=by
 obtain⟨c,rfl⟩:=tw2 h
 refine⟨(List.range R.length).map c,by simp,fun i hi=> ?_⟩
 rw[mb7 _ hi]
 show _=sumN (R.map wf).length _
 rw[List.length_map]
 refine ox7 fun j hj=> ?_
 have hj:=List.mem_range.1 hj
 rw[i67 (by simpa using hj),List.getElem_map,List.getElem_range,List.getD_eq_getElem?_getD,List.getElem?_map]
 unfold nth
 rw[List.getD_eq_getElem?_getD]
 cases hr:R[j]? with
 |none=>rw[List.getElem?_eq_none_iff]at hr;omega
 |some r=>rfl
end
section
variable {q:Int} [IsFld q] {k:Nat}
theorem xq8: ∀(u v:List (El q)) {n:Nat},u.length=n→v.length=n→dotL u v=dotF n (wf u) (wf v)
 | [],[],n,h,_=>by subst h;rfl
 |a::u,b::v,n,h,h'=>by
  obtain⟨m,rfl⟩: ∃m,n=m+1:=⟨u.length,by simpa using h.symm⟩
  rw[dotL,xq8 u v (n:=m) (by simpa using h) (by simpa using h')]
  unfold dotF
  rw[c68]
  rfl
theorem qm4{α:Type}(f:α→El q)(d:α)(l:List α){j:Nat}(hj:j<l.length):wf (l.map f) j=f (l.getD j d):=by
 rw[i67 (by simpa using hj),List.getElem_map,List.getD_eq_getElem?_getD,List.getElem?_eq_getElem hj]
 rfl
theorem xm7{R:List (List (El q))}{z:List (El q)}(hz:z.length=R.length)(w:Nat→El q):dotF k (wf (encL k z R)) w=dotL z (R.map fun r=>dotF k (wf r) w):=by
 rw[xq8 z _ hz (by simp)]
 unfold dotF
 have h1:sumN k (fun i=>wf (encL k z R) i*w i)=sumN k fun i=>sumN R.length fun j=>wf z j*(wf (nth R j) i*w i):=rc1 fun i hi=>by
  rw[mb7 z hi]
  unfold sumN
  rw[←ue3]
  exact ox7 fun j _=>FK.mul_assoc _ _ _
 rw[h1]
 unfold sumN
 rw[j53]
 refine ox7 fun j hj=> ?_
 have hj:=List.mem_range.1 hj
 rw[ro9,qm4 (fun r=>sumL (List.range k) fun i=>wf r i*w i) ([]:List (El q)) R hj]
 rfl
def dx1(k:Nat)(R:List (List (El q)))(v:List (El q)):Bool:=R.all fun r=>decide (dotF k (wf r) (wf v)=0)
def cntC(k:Nat)(R:List (List (El q)))(j:Nat):Int:=(((allV q R.length).filter fun z=>decide (wtE (encL k z R)=j)).length:Int)
def cntD(k:Nat)(R:List (List (El q)))(j:Nat):Int:=(((allV q k).filter fun v=>decide (wtE v=j)&&dx1 k R v).length:Int)
theorem gt8(R:List (List (El q)))(j:Nat):sZ (allV q R.length) (fun z=>kW (encL k z R) j)=q^R.length*cntD k R j:=by
 have hq:=aw0 (q:=q)
 have hg:gg (0:El q)=q-1:=by unfold gg;rw[if_pos rfl]
 have e1:sZ (allV q R.length) (fun z=>sZ (allV q k) fun v=>if wtE v=j then gg (dotL (encL k z R) v+0)else 0)=(q-1)*sZ (allV q R.length) fun z=>kW (encL k z R) j:=by
  rw[←e95]
  refine pj8 fun z _=> ?_
  have h:=cx9 (encL k z R) j 0
  rw[b87,hg]at h
  exact h
 have e2:sZ (allV q R.length) (fun z=>sZ (allV q k) fun v=>if wtE v=j then gg (dotL (encL k z R) v+0)else 0)=(q-1)*(q^R.length*cntD k R j):=by
  rw[wp6]
  have h1:sZ (allV q k) (fun v=>sZ (allV q R.length) fun z=>if wtE v=j then gg (dotL (encL k z R) v+0)else 0)=sZ (allV q k) fun v=>if(decide (wtE v=j)&&dx1 k R v)=true then q^R.length*(q-1)else 0:=by
   refine pj8 fun v hv=> ?_
   have hvl:=cm8.1 hv
   by_cases hw:wtE v=j
   ·simp only[if_pos hw,decide_eq_true hw,Bool.true_and]
    have h2:=wp7 (R.map fun r=>dotF k (wf r) (wf v)) 0
    rw[List.length_map,hg]at h2
    have h3:sZ (allV q R.length) (fun z=>gg (dotL (encL k z R) v+0))=sZ (allV q R.length) fun z=>gg (dotL z (R.map fun r=>dotF k (wf r) (wf v))+0):=pj8 fun z hz=>by
     rw[xq8 _ v (b87 _ _) hvl,xm7 (cm8.1 hz)]
    rw[h3,h2,List.all_map]
    rfl
   ·simp only[if_neg hw,decide_eq_false hw,Bool.false_and]
    exact jr3 _
  rw[h1,aw8 (fun v=>decide (wtE v=j)&&dx1 k R v) (fun _=>q^R.length*(q-1)),bs3]
  unfold cntD
  rw[Int.mul_comm (q-1),Int.mul_comm (q^R.length) (q-1),Int.mul_comm _ ((q-1)*q^R.length),Int.mul_comm _ (q-1),Int.mul_assoc]
 rw[e1]at e2
 exact Int.eq_of_mul_eq_mul_left (by omega) e2
theorem yj1(Q:Int)(x r:Nat):kS Q x r 0=1:=by unfold kS;simp[sm,sb,sgn,m51,vk9]
theorem we2(f:Nat→Int): ∀m,sm f (m+1)=f 0+sm (fun i=>f (i+1)) m
 |0=>by simp[sm]
 |m+1=>by rw[sm,we2 f m,sm];omega
theorem za0(Q:Int)(x r k:Nat):kS Q (x+1) r (k+1)=kS Q x r (k+1)-kS Q x r k:=by
 unfold kS
 rw[we2,we2 (fun t=>sb x t*qb Q r (k+1-t))]
 have e:sm (fun i=>sb (x+1) (i+1)*qb Q r (k+1-(i+1))) (k+1)=sm (fun i=>sb x (i+1)*qb Q r (k+1-(i+1))+ -1*(sb x i*qb Q r (k-i))) (k+1):=vh6 fun t _=>by
  rw[o69,show k+1-(t+1)=k-t by omega,Int.sub_mul];omega
 rw[e,qa1,xf3]
 have h0:sb (x+1) 0=sb x 0:=by simp[sb,m51]
 rw[h0];omega
theorem b54(v:List (El q)):wtE v≤v.length:=by
 have:=p55 (vs v)
 rw[fi2]at this
 exact this
theorem ny3: ∀(u:List (El q)) (k:Nat),kW u k=kS (q-1) (wtE u) (u.length-wtE u) k
 | [],0=>by rw[kW,yj1]
 | [],k+1=>by
   rw[kW]
   show 0=kS (q-1) 0 0 (k+1)
   rw[←wp4];simp[kA]
 |a::u,0=>by rw[kW,ny3 u 0,yj1,yj1]
 |a::u,k+1=>by
  have h:=b54 u
  rw[kW,ny3 u (k+1),ny3 u k,xq7,List.length_cons]
  by_cases ha:a=0
  ·rw[if_pos ha,if_pos ha,Nat.zero_add,show u.length+1-wtE u=(u.length-wtE u)+1 by omega,iw9]
  ·rw[if_neg ha,if_neg ha,Nat.add_comm 1,show u.length+1-(wtE u+1)=u.length-wtE u by omega,za0];omega
theorem a57(hc:0≤capP q k 1){u:List (El q)}(hu:u.length=k)(j:Nat):kW u j=krN q k j (wtE u):=by
 have h1:=b54 u
 rw[(o19 aw0 (by omega) hc).1,ny3,hu]
 have:=wp4 (q-1) (wtE u) (k-wtE u) j
 rw[show wtE u+(k-wtE u)=k by omega]at this
 exact this.symm
theorem ar3{t v v':Nat→Int}{x:Nat}(h: ∀i,v' i=v i+if i=x then 1 else 0): ∀N,tot t v' N=tot t v N+if x<N then t x else 0
 |0=>by simp[tot]
 |N+1=>by
  rw[tot,tot,ar3 h N,h N,Int.mul_add]
  by_cases h1:x<N
  ·rw[if_pos h1,if_pos (show x<N+1 by omega),if_neg (show¬N=x by omega)];omega
  ·by_cases h2:N=x
   ·rw[if_neg h1,if_pos h2,if_pos (show x<N+1 by omega),h2];omega
   ·rw[if_neg h1,if_neg h2,if_neg (show¬x<N+1 by omega)];omega
theorem mx6(t:Nat→Int): ∀N,tot t (fun _=>0) N=0
 |0=>rfl
 |N+1=>by rw[tot,mx6 t N];omega
theorem yi3{α:Type}(t:Nat→Int)(w:α→Nat)(N:Nat): ∀l:List α,(∀a∈l,w a<N)→sZ l (fun a=>t (w a))=tot t (fun i=>((l.filter fun a=>decide (w a=i)).length:Int)) N
 | [],_=>(mx6 t N).symm
 |a::l,h=>by
  rw[sZ,yi3 t w N l fun b hb=>h b (by simp[hb]),ar3 (t:=t) (v':=fun i=>(((a::l).filter fun a=>decide (w a=i)).length:Int)) (v:=fun i=>((l.filter fun a=>decide (w a=i)).length:Int)) (x:=w a) (fun i=> ?_) N,if_pos (h a (by simp))]
  ·omega
  ·rw[List.filter_cons]
   by_cases hi:i=w a
   ·subst hi;simp
   ·rw[if_neg hi,if_neg (by simpa using fun e=>hi e.symm)];omega
theorem l62{t t' v v':Nat→Int}: ∀N,(∀i,i<N→t i=t' i∧v i=v' i)→tot t v N=tot t' v' N
 |0,_=>rfl
 |N+1,h=>by rw[tot,tot,l62 N fun i hi=>h i (by omega),(h N (by omega)).1,(h N (by omega)).2]
theorem gz3(v:Nat→Int): ∀N,sv v N=tot (fun _=>1) v N
 |0=>rfl
 |N+1=>by rw[sv,tot,gz3 v N];omega
def mdL:Nat→List (El q)→List (List (El q))
 |0,z=>[z]
 |n+1,z=>z::mdL n (yv5 z)
theorem db2(R:List (List (El q))): ∀(n:Nat) (z:List (El q)),wdL k R n z=(mdL n z).map fun z=>encL k z R
 |0,z=>rfl
 |n+1,z=>by rw[wdL,mdL,List.map_cons,db2 R n]
theorem hz9{p:Nat}: ∀(n:Nat) (z:List (El q)),Left q p n z→ ∀y∈mdL n z,y.length=z.length∧valS p (vs z)≤valS p (vs y)
 |0,z,_,y,hy=>by rw[mdL,List.mem_singleton]at hy;subst hy;exact⟨rfl,Nat.le_refl _⟩
 |n+1,z,hl,y,hy=>by
  rw[mdL]at hy
  rcases List.mem_cons.1 hy with h|h
  ·subst h;exact⟨rfl,Nat.le_refl _⟩
  ·have h1:=hz9 n _ hl.more.2 y h
   have h2:=gu8 hl
   rw[l71]at h1
   exact⟨h1.1,by omega⟩
theorem ua3{p:Nat}: ∀(n:Nat) (z:List (El q)),Left q p n z→(mdL n z).Nodup
 |0,z,_=>by rw[mdL];simp
 |n+1,z,hl=>by
  rw[mdL,List.nodup_cons]
  refine⟨fun h=> ?_,ua3 n _ hl.more.2⟩
  have h1:=(hz9 n _ hl.more.2 z h).2
  have h2:=gu8 hl
  omega
theorem do0{p:Nat}: ∀(n:Nat) (z z0:List (El q)),Left q p n z→z0.length=z.length→valS p (vs z)≤valS p (vs z0)→z0∈mdL n z
 |n,z,z0,hl,hlen,hv=>by
  by_cases he:valS p (vs z)=valS p (vs z0)
  ·have hz:z0=z:=qa5 (id6 (p:=p) (by rw[←hl.e];exact oa6 z0) (by rw[←hl.e];exact oa6 z) (by rw[fi2,fi2,hlen]) he.symm)
   rw[hz]
   cases n with
   |zero=>rw[mdL];exact List.mem_singleton.2 rfl
   |succ n=>rw[mdL];exact List.mem_cons_self
  ·cases n with
   |zero=>
    have h1:=hl.h
    have h2:=uc1 (q:=p) (l:=vs z0) (by rw[←hl.e];exact oa6 z0)
    rw[fi2,hlen]at h2
    omega
   |succ n=>
    rw[mdL]
    have h3:=gu8 hl
    exact List.mem_cons_of_mem _ (do0 n (yv5 z) z0 hl.more.2 (by rw[l71,hlen]) (by omega))
theorem qa2(R:List (List (El q))):(allW k R).Perm ((allV q R.length).map fun z=>encL k z R):=by
 have hq:=aw0 (q:=q)
 have hl:=Left.start (q:=q) (p:=q.toNat) (by omega) R.length
 unfold allW
 rw[db2]
 refine List.Perm.map _ ((List.perm_ext_iff_of_nodup (ua3 _ _ hl) (o63 _)).2 fun z=> ?_)
 constructor
 ·intro h
  exact cm8.2 (by have:=(hz9 _ _ hl z h).1;simpa using this)
 ·intro h
  have hz:=cm8.1 h
  refine do0 _ _ z hl (by simp[hz]) ?_
  have h1:=hl.h
  rw[List.length_replicate]at h1
  have h2:0<q.toNat^R.length:=Nat.pow_pos (by omega)
  omega
theorem a95(R:List (List (El q))){j:Nat}(hj:j≤k):(wgt k R).getD j 0=cntC k R j:=by
 rw[hu4 hj]
 unfold cntC
 have h:=((qa2 (k:=k) R).filter fun w=>decide (wtW (vs w)=j)).length_eq
 rw[h,List.filter_map,List.length_map]
 rfl
theorem da9{R:List (List (El q))}(hR: ∀r∈R,r.length=k)(hi:wu9 (R.map wf)){z z':List (El q)}(hz:z.length=R.length)(hz':z'.length=R.length)(h:encL k z R=encL k z' R):z=z':=by
 refine ou8 (by rw[hz,hz']) (funext fun j=> ?_)
 by_cases hj:j<R.length
 ·have h0:=hi ((List.range R.length).map fun j=>wf z j-wf z' j) (by simp) (fun i=> ?_) (wf z j-wf z' j) (List.mem_map.2 ⟨j,List.mem_range.2 hj,rfl⟩)
  ·exact sub_eq_zero.1 h0
  ·rw[nu5 (fun p:El q×(Nat→El q)=>p.1*p.2 i) (0:El q) (fun _=>(0:El q)) _ _ (by simp)]
   simp only[List.length_map,List.length_range]
   have e: ∀j,j<R.length→((List.range R.length).map fun j=>wf z j-wf z' j).getD j 0*((R.map wf).getD j fun _=>0) i=wf z j*wf (nth R j) i-wf z' j*wf (nth R j) i:=fun j hj=>by
    rw[List.getD_eq_getElem?_getD,List.getD_eq_getElem?_getD,List.getElem?_map,List.getElem?_map,List.getElem?_range hj,List.getElem?_eq_getElem hj]
    show(wf z j-wf z' j)*wf R[j] i=_
    have hn:nth R j=R[j]:=by unfold nth;rw[List.getD_eq_getElem?_getD,List.getElem?_eq_getElem hj];rfl
    rw[sub_mul,hn]
   rw[rc1 e]
   unfold sumN
   rw[b15]
   by_cases hik:i<k
   ·have h1:=mb7 (R:=R) z hik
    have h2:=mb7 (R:=R) z' hik
    unfold sumN at h1 h2
    rw[←h1,←h2,h,sub_self]
   ·rw[tx6,tx6,sub_self]
    ·intro j hj
     have hj:=List.mem_range.1 hj
     have hn:nth R j=R[j]:=by unfold nth;rw[List.getD_eq_getElem?_getD,List.getElem?_eq_getElem hj];rfl
     rw[hn,ez8 (l:=R[j]) (k:=i) (by rw[hR _ (List.getElem_mem hj)];omega),mul_zero]
    ·intro j hj
     have hj:=List.mem_range.1 hj
     have hn:nth R j=R[j]:=by unfold nth;rw[List.getD_eq_getElem?_getD,List.getElem?_eq_getElem hj];rfl
     rw[hn,ez8 (l:=R[j]) (k:=i) (by rw[hR _ (List.getElem_mem hj)];omega),mul_zero]
 ·rw[ez8 (by omega),ez8 (by omega)]
theorem xs9{l l':List (El q)}(hl:l.length=l'.length)(h: ∀i,i<l.length→wf l i=wf l' i):l=l':=ou8 hl (funext fun i=>by
 by_cases hi:i<l.length
 ·exact h i hi
 ·rw[ez8 (l:=l) (by omega),ez8 (l:=l') (by omega)])
theorem se2{R:List (List (El q))}(hR: ∀r∈R,r.length=k){v:List (El q)}(hv:v.length=k):Span (R.map wf) (wf v)↔ ∃z:List (El q),z.length=R.length∧encL k z R=v:=by
 constructor
 ·intro h
  obtain⟨z,hz,h1⟩:=zh7 h
  exact⟨z,hz,xs9 (by rw[b87,hv]) fun i hi=>h1 i (by rw[b87]at hi;exact hi)⟩
 ·rintro⟨z,hz,rfl⟩
  have e:wf (encL k z R)=fun i=>sumL (List.range R.length) fun j=>wf z j*wf (nth R j) i:=funext fun i=>by
   by_cases hik:i<k
   ·exact mb7 z hik
   ·rw[ez8 (by rw[b87];omega)]
    refine(tx6 fun j hj=> ?_).symm
    have hj:=List.mem_range.1 hj
    have hn:nth R j=R[j]:=by unfold nth;rw[List.getD_eq_getElem?_getD,List.getElem?_eq_getElem hj];rfl
    rw[hn,ez8 (l:=R[j]) (k:=i) (by rw[hR _ (List.getElem_mem hj)];omega),mul_zero]
  rw[e]
  refine Span.sum (f:=fun j=>wf (nth R j)) (g:=fun j=>wf z j) fun j hj=> .mem (List.mem_map.2 ⟨nth R j, ?_,rfl⟩)
  have hj:=List.mem_range.1 hj
  have hn:nth R j=R[j]:=by unfold nth;rw[List.getD_eq_getElem?_getD,List.getElem?_eq_getElem hj];rfl
  rw[hn]
  exact List.getElem_mem hj
theorem d05(N:List (List (El q)))(hN: ∀r∈N,r.length=k):(∀r∈p78 (zt5 k N),r.length=k)∧wu9 ((p78 (zt5 k N)).map wf):=by
 obtain⟨n1,n2,n3,n4⟩:=sw1 hN
 refine⟨zu4 n2, ?_⟩
 rw[z42]
 exact n1.indep
theorem nk4{N:List (List (El q))}(hN: ∀r∈N,r.length=k)(j:Nat):cntC k (p78 (zt5 k N)) j=cntD k (p78 (redR N)) j:=by
 obtain⟨r1,r2⟩:=d05 N hN
 obtain⟨n1,n2,n3,n4⟩:=sw1 hN
 have hred:=bi2 hN
 have hp:((allV q (p78 (zt5 k N)).length).map fun z=>encL k z (p78 (zt5 k N))).Perm ((allV q k).filter fun v=>dx1 k (p78 (redR N)) v):=by
  refine(List.perm_ext_iff_of_nodup ?_ (List.Pairwise.filter _ (o63 k))).2 fun v=> ?_
  ·refine List.Pairwise.map _ (fun a b h=>h) (List.Pairwise.imp_of_mem (R:=fun a b=>a≠b) ?_ (o63 _))
   intro a b ha hb hab e
   exact hab (da9 r1 r2 (cm8.1 ha) (cm8.1 hb) e)
  ·rw[List.mem_map,List.mem_filter,cm8]
   have key:v.length=k→((∃z:List (El q),z.length=(p78 (zt5 k N)).length∧encL k z (p78 (zt5 k N))=v)↔dx1 k (p78 (redR N)) v=true):=fun hv=>by
    rw[←se2 r1 hv,z42,n3]
    unfold dx1
    rw[List.all_eq_true]
    constructor
    ·rintro⟨_,h⟩ r hr
     refine decide_eq_true (fz3 (R:=N.map wf) (w:=wf v) (fun x hx=> ?_) ((mr3 hN _).1 (.mem (List.mem_map.2 ⟨r,hr,rfl⟩))))
     obtain⟨y,hy,rfl⟩:=List.mem_map.1 hx
     exact h y hy
    ·intro h
     refine⟨fun i hi=>ez8 (by omega),fun m hm=> ?_⟩
     refine fz3 (R:=(p78 (redR N)).map wf) (w:=wf v) (fun x hx=> ?_) ((mr3 hN _).2 (.mem (List.mem_map.2 ⟨m,hm,rfl⟩)))
     obtain⟨y,hy,rfl⟩:=List.mem_map.1 hx
     exact of_decide_eq_true (h y hy)
   constructor
   ·rintro⟨z,hz,rfl⟩
    exact⟨b87 _ _,(key (b87 _ _)).1 ⟨z,cm8.1 hz,rfl⟩⟩
   ·rintro⟨hv,h⟩
    obtain⟨z,hz,rfl⟩:=(key hv).2 h
    exact⟨z,cm8.2 hz,rfl⟩
 have h:=(hp.filter fun v=>decide (wtE v=j)).length_eq
 rw[List.filter_map,List.length_map,List.filter_filter]at h
 unfold cntC cntD
 rw[←h]
 rfl
end
theorem n45{q:Int}{n:Nat}{zs:List Int}{all:Int}{B:Nat→Int}(h: ∀j,j≤n→(shF (tK q n j) (vK zs) all (n+1))=(B j,0))(h0: ∀j,j≤n→0≤B j): ∀(m i:Nat),i+m≤n+1→dlst q n zs all m i=some ((List.range' i m).map B)
 |0,i,_=>rfl
 |m+1,i,hi=>by
  rw[dlst,h i (by omega),if_pos ⟨rfl,h0 i (by omega)⟩,n45 h h0 m (i+1) (by omega)]
  rfl
theorem yb9{t v:Nat→Int}{all B:Int}(h:0<all)(n:Nat)(e:tot t v n=all*B):shF t v all n=(B,0):=by
 obtain⟨h1,h2,h3⟩:=sw2 (t:=t) (v:=v) h n
 rw[e]at h1
 have h4:(shF t v all n).2=all*(B-(shF t v all n).1):=by rw[Int.mul_sub,Int.mul_comm all (shF t v all n).1];omega
 have h5:B-(shF t v all n).1=0:=by
  generalize hd:B-(shF t v all n).1=d at*
  rcases Int.lt_trichotomy d 0 with h6|h6|h6
  ·have:=Int.mul_le_mul_of_nonneg_left (show d≤ -1 by omega) (Int.le_of_lt h)
   omega
  ·exact h6
  ·have:=Int.mul_le_mul_of_nonneg_left (show 1≤d by omega) (Int.le_of_lt h)
   omega
 refine Prod.ext ?_ ?_
 ·show(shF t v all n).1=B
  omega
 ·show(shF t v all n).2=0
  rw[h4,h5,Int.mul_zero]
section
variable {q:Int} [IsFld q] {k:Nat}
theorem nz9(R:List (List (El q))){j:Nat}(hj:j≤k):vK (wgt k R) j=cntC k R j:=by
 rw[←a95 R hj];rfl
theorem hz7(R:List (List (El q)))(hc:0≤capP q k 1)(j:Nat):tot (tK q k j) (vK (wgt k R)) (k+1)=q^R.length*cntD k R j:=by
 rw[←gt8 R j]
 have h1:sZ (allV q R.length) (fun z=>kW (encL k z R) j)=sZ (allV q R.length) fun z=>tK q k j (wtE (encL k z R)):=pj8 fun z _=>by
  have:=b54 (encL k z R)
  rw[b87]at this
  rw[a57 hc (b87 _ _) j]
  unfold tK;rw[if_pos this]
 rw[h1,yi3 (tK q k j) (fun z=>wtE (encL k z R)) (k+1) _ fun z _=>by have:=b54 (encL k z R);rw[b87]at this;omega]
 exact l62 (k+1) fun i hi=>⟨rfl,nz9 R (by omega)⟩
theorem qo9(R:List (List (El q))):sv (vK (wgt k R)) (k+1)=q^R.length:=by
 rw[gz3,←s37 R.length]
 have h:=yi3 (fun _=>1) (fun z=>wtE (encL k z R)) (k+1) (allV q R.length) fun z _=>by have:=b54 (encL k z R);rw[b87]at this;omega
 rw[bs3,Int.mul_one]at h
 rw[h]
 exact l62 (k+1) fun i hi=>⟨rfl,nz9 R (by omega)⟩
theorem s26(R:List (List (El q))): ∀v∈wgt k R,0≤v∧v≤q^R.length:=fun v hv=>by
 obtain⟨j,hj,rfl⟩:=List.mem_iff_getElem.1 hv
 have hl:=rc0 (k:=k) R
 have h1:=a95 (k:=k) R (j:=j) (by omega)
 rw[List.getD_eq_getElem?_getD,List.getElem?_eq_getElem hj]at h1
 have h2:(wgt k R)[j]=cntC k R j:=h1
 have h3:=List.length_filter_le (fun z=>decide (wtE (encL k z R)=j)) (allV q R.length)
 have h4:=s37 (q:=q) R.length
 rw[h2]
 unfold cntC
 omega
theorem dg5(R:List (List (El q)))(hR:R.length≤k)(h1:1≤k)(hc:0≤capP q k 1)(he:cntE q (k:Int)=0):bo5 q (wgt k R)=(0,(List.range (k+1)).map (cntD k R)):=by
 have hq:=aw0 (q:=q)
 have hl:=rc0 (k:=k) R
 obtain⟨c1,c2⟩:capP q k 1=q^k∧q^k≤1073741824:=by
  have:=du1 hq k 1 (by omega) (by omega) hc
  rwa [Int.one_mul]at this
 have hpow:q^R.length≤q^k:=by
  obtain⟨d,rfl⟩: ∃d,k=R.length+d:=⟨k-R.length,by omega⟩
  rw[Int.pow_add]
  have p1:0<q^R.length:=Int.pow_pos (by omega)
  have p2:0<q^d:=Int.pow_pos (by omega)
  have:=Int.mul_le_mul_of_nonneg_left (show 1≤q^d by omega) (Int.le_of_lt p1)
  omega
 have hpos:0<q^R.length:=Int.pow_pos (by omega)
 unfold bo5
 rw[hl,show((k+1:Nat):Int)-1=(k:Int) by omega,if_pos he,show k+1-1=k by omega,qo9]
 have hb:dbad (capP q k 1) (wgt k R)=false:=by
  unfold dbad
  rw[List.any_eq_false]
  intro v hv
  have:=s26 R v hv
  rw[Bool.or_eq_true,decide_eq_true_eq,decide_eq_true_eq]
  omega
 rw[if_neg (by rw[hb];decide),if_neg (by omega),if_neg (by omega),n45 (B:=cntD k R) (fun j hj=>yb9 hpos _ (hz7 R hc j)) (fun j hj=>by unfold cntD;omega) (k+1) 0 (by omega),List.range_eq_range']
theorem wa5(R:List (List (El q))):wgt k R=(List.range (k+1)).map (cntC k R):=by
 refine List.ext_getElem (by simp[rc0]) fun j h1 h2=> ?_
 have hl:=rc0 (k:=k) R
 have h3:=a95 (k:=k) R (j:=j) (by omega)
 rw[List.getD_eq_getElem?_getD,List.getElem?_eq_getElem h1]at h3
 rw[List.getElem_map,List.getElem_range]
 exact h3
theorem fl3{N:List (List (El q))}(hN: ∀r∈N,r.length=k)(h1:1≤k)(hc:0≤capP q k 1)(he:cntE q (k:Int)=0):bo5 q (wgt k (p78 (redR N)))=(0,wgt k (p78 (zt5 k N))):=by
 have hl:(p78 (redR N)).length≤k:=by
  rw[ol1]
  have:=(sw1 hN).2.2.2
  omega
 rw[dg5 _ hl h1 hc he,wa5]
 congr 1
 exact List.map_congr_left fun j _=>(nk4 hN j).symm
theorem q65{N:List (List (El q))}(hN: ∀r∈N,r.length=k)(h1:1≤k)(hc:0≤capP q k 1)(he:cntE q (k:Int)=0):bo5 q (wgt k (p78 (zt5 k N)))=(0,wgt k (p78 (redR N))):=by
 have h:=fl3 (N:=p78 (zt5 k N)) (d05 N hN).1 h1 hc he
 rw[tq6 hN,m63 hN]at h
 exact h
end
section
variable {q:Int} [IsFld q]
end
section
variable {q:Int} [IsFld q] {k:Nat}
theorem zf8{α:Type}{l:List α}(hn:l.Nodup)(h: ∀a∈l,∀b∈l,a=b):l.length≤1:=by
 match l,hn,h with
 | [],_,_=>simp
 | [a],_,_=>simp
 |a::b::l,hn,h=>
  rw[List.nodup_cons]at hn
  exact absurd (by rw[h a (by simp) b (by simp)];simp) hn.1
end
section
variable {q:Int} [IsFld q] {k:Nat}
theorem de0{R:List (List (El q))}:encL k (List.replicate R.length 0) R=List.replicate k (0:El q):=by
 refine xs9 (by rw[b87];simp) fun i hi=> ?_
 rw[b87]at hi
 rw[mb7 _ hi,i67 (by simpa using hi),List.getElem_replicate]
 unfold sumN
 refine tx6 fun j hj=> ?_
 have hj:=List.mem_range.1 hj
 rw[i67 (by simpa using hj),List.getElem_replicate,zero_mul]
end
section
variable {q:Int} {n:Nat}
theorem ww1{k:Int}(h2:2≤q)(h64:q≤64)(k0:0≤k)(k1:k≤9223372036854775807):o24 W 13 [.x (.int .i64 q), .x (.int .i64 k)] []=some (.x (.int .i64 (capP q k.toNat 1)),[],[]):=
 jo9 (l:=[q,k]) (by unfold gPow;simp only[];rw[if_pos ⟨h2,h64,k0,k1⟩])
end
section
variable {q:Int} [IsFld q] {k:Nat}
theorem b24: ∀n:Nat,wtE (List.replicate n (0:El q))=0
 |0=>rfl
 |n+1=>by rw[List.replicate_succ,xq7,if_pos rfl,b24 n]
theorem q53: ∀v:List (El q),wtE v=0→v=List.replicate v.length 0
 | [],_=>rfl
 |a::v,h=>by
  rw[xq7]at h
  by_cases ha:a=0
  ·rw[if_pos ha]at h
   rw[List.length_cons,List.replicate_succ,←q53 v (by omega),ha]
  ·rw[if_neg ha]at h;omega
theorem vp6{R:List (List (El q))}(hR: ∀r∈R,r.length=k)(hi:wu9 (R.map wf)):cntC k R 0=1:=by
 unfold cntC
 have h1:=zf8 (l:=(allV q R.length).filter fun z=>decide (wtE (encL k z R)=0)) ((o63 _).filter _) fun a ha b hb=>by
  obtain⟨a1,a2⟩:=List.mem_filter.1 ha
  obtain⟨b1,b2⟩:=List.mem_filter.1 hb
  have a3:=q53 _ (of_decide_eq_true a2)
  have b3:=q53 _ (of_decide_eq_true b2)
  rw[b87]at a3 b3
  exact da9 hR hi (cm8.1 a1) (cm8.1 b1) (a3.trans b3.symm)
 have h2:List.replicate R.length (0:El q)∈(allV q R.length).filter fun z=>decide (wtE (encL k z R)=0):=List.mem_filter.2 ⟨cm8.2 (by simp),decide_eq_true (by rw[de0,b24])⟩
 have h3:=List.length_pos_of_mem h2
 omega
theorem nc3{R:List (List (El q))}(hR: ∀r∈R,r.length=k)(hi:wu9 (R.map wf)):(wgt k R)[0]? =some 1:=by
 rw[wa5,List.getElem?_map,List.getElem?_range (by omega),Option.map_some,vp6 hR hi]
theorem s90(h1:1≤k):cntE q (k:Int)=if capP q k 1<0 then 4 else 0:=by
 obtain⟨p0,m0,g0,mod,hn⟩:= ‹IsFld q›.ok
 unfold cntE
 rw[hn]
 simp only
 rw[if_neg (by omega),Int.toNat_natCast]
theorem l22(R:List (List (El q)))(h1:1≤k)(hc:capP q k 1<0):bo5 q (wgt k R)=(4,[]):=by
 have hl:=rc0 (k:=k) R
 have he:=s90 (q:=q) h1
 rw[if_pos hc]at he
 unfold bo5
 rw[hl,show((k+1:Nat):Int)-1=(k:Int) by omega,he]
 rfl
end
section
variable {raw:List Int} {b:Bool} {nl:Nat}
set_option maxHeartbeats 4000000
theorem ip1(hl:raw.length≤9223372036854775807){q n r:Int}(q1: -9223372036854775808≤q)(q2:q≤9223372036854775807)(n1: -9223372036854775808≤n)(n2:n≤9223372036854775807)(r1: -9223372036854775808≤r)(r2:r≤9223372036854775807):
 o24 W 3 [.fz b (.sl nl 0 1 (ivs raw)), .x (.int .i64 q), .x (.int .i64 n), .x (.int .i64 r)] []=some (.x (.bool true),[],[]):=by
 by_cases h256:256<raw.length
 ·rw[o10 rfl T3 rfl]
  unfold F3 c3
  simp(disch:=first|omega|fail) only[push_cast,seval,vrl,if_pos,if_neg]
 ·obtain⟨z,n',m',hz5,hn,hm,hfew,e0⟩:=x62 hl q1 q2 n1 n2 r1 r2
  have hz:=e67 hz5
  obtain⟨z1,z2,hfz⟩:=x14 hz
  haveI:=hfz
  obtain⟨M,hM,hMl,hMr⟩:=fw6 (raw:=raw) (frm:=0) (q:=z) (n:=n'+1) (by omega) m'
  rw[hM]at e0
  obtain⟨k,hk⟩: ∃k,k=n'+1:=⟨_,rfl⟩
  rw[←hk]at e0 hMr
  have hcE:=tc0 (q:=z) (k:=k) (by omega) (by omega) (by omega) hMr (sy6 (by omega) hMr (by omega) (by omega))
  obtain⟨a1,a2,a3⟩:=bi2 hMr
  obtain⟨b1,b2,b3,b4⟩:=sw1 hMr
  have hcD:=tc0 (q:=z) (k:=k) (N:=p78 (zt5 k M)) (by omega) (by omega) (by rw[gb3];omega) (zu4 b2) (sy6 (by rw[gb3];omega) (zu4 b2) (by omega) (by omega))
  have hrk:=ew4 hMr
  have hfr:fewQ z (redR M).length 1=true:=m96 hz5 hm (by omega) (.inr hfew)
  have e2:=fun nl nr=>x92 (nl:=nl) (nr:=nr) hcE (by omega) (by omega) (by omega) hMr
  have e3:=fun nl nr=>ir7 (nl:=nl) (nr:=nr) hcE (by omega) (by omega) (by omega) hMr hfr
  have hw1:=rc0 (k:=k) (p78 (redR M))
  have hw2:=nc3 (k:=k) (R:=p78 (redR M)) (zu4 a2) (by rw[z42];exact a1.indep)
  have hw3:=rc0 (k:=k) (p78 (zt5 k M))
  have f1:=fun b nl=>fo4 (b:=b) (nl:=nl) (q:=z) (zs:=wgt k (p78 (redR M))) (by rw[hw1];omega)
  have f2:=ww1 (q:=z) (k:=(k:Int)) (by omega) (by omega) (by omega) (by omega)
  rw[Int.toNat_natCast]at f2
  have hce:=s90 (q:=z) (k:=k) (by omega)
  rw[lo1]at e2
  have w0:=iat hw2
  have g1:fewQ z (redR (p78 (zt5 k M))).length 1=true→ ∀nl nr,o24 W 11 [.agg [.x (.int .i64 z), .x (.int .i64 k), .fz true (.sl nl 0 1 (lvs nr ((p78 (zt5 k M)).map vs)))]] []=some (.tup [.own 0 [], .x (.int .i64 0)],[.sl 2 3 1 (ivs (wgt k (p78 (zt5 k M))))],[]):=fun hf nl nr=>by
   have h:=ir7 (nl:=nl) (nr:=nr) hcD (by omega) (by omega) (by rw[gb3];omega) (zu4 b2) hf
   rw[tq6 hMr]at h
   exact h
  have g2:fewQ z (redR (p78 (zt5 k M))).length 1=false→ ∀nl nr,o24 W 11 [.agg [.x (.int .i64 z), .x (.int .i64 k), .fz true (.sl nl 0 1 (lvs nr ((p78 (zt5 k M)).map vs)))]] []=some (.tup [.x (.slice none 0 0), .x (.int .i64 4)],[],[]):=fun hf nl nr=>by6 (by decide) fun nl nr=>by
   have h:=lw9 (nl:=nl) (nr:=nr) hcD (by omega) (by omega) (by rw[gb3];omega) (zu4 b2)
   rw[hf]at h
   exact h
  have hmw: ¬capP z k 1<0→bo5 z (wgt k (p78 (redR M)))=(0,wgt k (p78 (zt5 k M)))∧bo5 z (wgt k (p78 (zt5 k M)))=(0,wgt k (p78 (redR M))):=fun hc=>by
   rw[if_neg hc]at hce
   exact⟨fl3 hMr (by omega) (by omega) hce,q65 hMr (by omega) (by omega) hce⟩
  have hfar:capP z k 1<0→bo5 z (wgt k (p78 (redR M)))=(4,[]):=l22 _ (by omega)
  have f3:=fun b nl=>fo4 (b:=b) (nl:=nl) (q:=z) (zs:=wgt k (p78 (zt5 k M))) (by rw[hw3];omega)
  have s1:=fun b b' nl nl'=>nb2 (b:=b) (b':=b') (nl:=nl) (nl':=nl') (l:=wgt k (p78 (redR M))) (k:=wgt k (p78 (redR M))) (by omega)
  have s2:=fun b b' nl nl'=>nb2 (b:=b) (b':=b') (nl:=nl) (nl':=nl') (l:=wgt k (p78 (zt5 k M))) (k:=wgt k (p78 (zt5 k M))) (by omega)
  simp only[decide_true]at s1 s2
  generalize fewQ z (redR (p78 (zt5 k M))).length 1=FD at*
  generalize capP z k 1=P at*
  generalize wgt k (p78 (redR M))=A at*
  generalize wgt k (p78 (zt5 k M))=B at*
  generalize (p78 (zt5 k M)).map vs=D at*
  clear hce hcE hcD a1 a2 a3 b1 b2 b3 b4 hM
  by_cases hp:P<0
  ·rw[hfar hp]at f1
   clear hfar hmw f3
   cases FD with
   |true=>
    have g:=g1 rfl
    rw[o10 rfl T3 rfl]
    unfold F3 c3
    simp(disch:=first|omega|fail) only[push_cast,seval,vrl,if_pos,if_neg,e0,e2,e3,hw1,w0,f1,g,f2,dec_lt hp]
   |false=>
    have g:=g2 rfl
    rw[o10 rfl T3 rfl]
    unfold F3 c3
    simp(disch:=first|omega|fail) only[push_cast,seval,vrl,if_pos,if_neg,e0,e2,e3,hw1,w0,f1,g,f2,dec_lt hp]
  ·obtain⟨m1,m2⟩:=hmw hp
   rw[m1]at f1
   rw[m2]at f3
   clear hfar hmw
   cases FD with
   |true=>
    have g:=g1 rfl
    rw[o10 rfl T3 rfl]
    unfold F3 c3
    simp(disch:=first|omega|fail) only[push_cast,seval,vrl,if_pos,if_neg,e0,e2,e3,hw1,w0,f1,f3,g,f2,cw6 (Int.not_lt.1 hp),s1,s2]
   |false=>
    have g:=g2 rfl
    rw[o10 rfl T3 rfl]
    unfold F3 c3
    simp(disch:=first|omega|fail) only[push_cast,seval,vrl,if_pos,if_neg,e0,e2,e3,hw1,w0,f1,f3,g,f2,cw6 (Int.not_lt.1 hp),s1,s2]
end
section
variable {h:H} {l:List AV} {ws:List Value}
theorem a23:Vm.VRL h [] (allZ h) (allZ h) [] []:=by rw[Vm.VRL]
theorem dp0(r:Vm.VRL h [] (allZ h) (allZ h) l ws)(v:Value):Vm.VRL h [] (allZ h) (allZ h) (.x v::l) (v::ws):=by
 rw[Vm.VRL];exact⟨v,ws,rfl,by rw[Vm.VR],r⟩
theorem qj4{sa:Option Addr}{c:Nat}{zs:List Int}(hr:RdI h sa c zs): ∀o,sa.map (·.block)=some o→allZ h o:=fun o ho=>by
 rcases hr with⟨rfl,_⟩|⟨_,o2,off,r2,rfl,h1,_⟩
 ·cases ho
 ·cases ho;exact h42 h1
theorem sk6(r:Vm.VRL h [] (allZ h) (allZ h) l ws){sa:Option Addr}{c:Nat}{zs:List Int}(hr:RdI h sa c zs):Vm.VRL h [] (allZ h) (allZ h) (.fz true (.sl 2 0 1 (ivs zs))::l) (.slice sa zs.length c::ws):=by
 rw[Vm.VRL];exact⟨_,ws,rfl,by rw[Vm.VR];exact pd9 hr (qj4 hr),r⟩
end
theorem sd4(h:H)(s0:Option Addr)(c0:Nat)(z0:List Int)(r0:RdI h s0 c0 z0)(_:ss4 h 1 s0=true)(_:z0.length≤9223372036854775807)(a1:Int)(_: -9223372036854775808≤a1)(_:a1≤9223372036854775807)(a2:Int)(_: -9223372036854775808≤a2)(_:a2≤9223372036854775807)(a3:Int)(_: -9223372036854775808≤a3)(_:a3≤9223372036854775807):
 ∃h',call T 3 [.slice s0 z0.length c0, .int .i64 a1, .int .i64 a2, .int .i64 a3] h=some (.bool true,h'):=
 vlaw lw2 (sk6 (dp0 (dp0 (dp0 a23 _) _) _) r0) (by apply ip1<;>assumption)
end Go.Proofs.Ytoglhlonhmmieaa
