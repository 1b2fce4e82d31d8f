/-
  A small machine of my own that computes what a Go function of the model's does, iv1 draws and with memory as plain lists of values. Here: its code, its memory, one step of it, and what its runs co ..
-/
import Derived.WalkKit
import Derived.KernelRfl
import Derived.WalkSpells
import Derived.WalkLawsBesides
import Derived.Lib.AppendZerosOnto
import Derived.MapKept
import Derived.Carry
set_option linter.unusedVariables false
set_option linter.unusedSimpArgs false
set_option linter.unusedSectionVars false
set_option maxRecDepth 100000
namespace Go
theorem he8:type_of%@Array.getD_eq_getD_getElem?:=@Array.getD_eq_getD_getElem?
theorem a73:type_of%@Array.getElem?_append_left:=@Array.getElem?_append_left
theorem ra6:type_of%@Array.getElem?_eq_getElem:=@Array.getElem?_eq_getElem
theorem un8:type_of%@Array.getElem?_eq_some_iff:=@Array.getElem?_eq_some_iff
theorem bn2:type_of%@Array.getElem?_push:=@Array.getElem?_push
theorem gb7:type_of%@Array.getElem?_setIfInBounds_ne:=@Array.getElem?_setIfInBounds_ne
theorem ld7:type_of%@Array.toList_inj:=@Array.toList_inj
theorem b83:type_of%@Bool.and_eq_true:=@Bool.and_eq_true
theorem o35:type_of%@Bool.false_eq_true:=@Bool.false_eq_true
theorem rd4:type_of%@Bool.not_eq_true':=@Bool.not_eq_true'
theorem ey6:type_of%@Bool.or_eq_true:=@Bool.or_eq_true
theorem ed0:type_of%@Bool.true_and:=@Bool.true_and
theorem ly6:type_of%@Classical.byContradiction:=@Classical.byContradiction
theorem jl7:type_of%@Classical.choose_spec:=@Classical.choose_spec
theorem bk9:type_of%@Int.add_emod_emod:=@Int.add_emod_emod
theorem do0:type_of%@Int.emod_lt_of_pos:=@Int.emod_lt_of_pos
theorem fc1:type_of%@Int.emod_nonneg:=@Int.emod_nonneg
theorem pc1:type_of%@Int.mul_comm:=@Int.mul_comm
theorem ij6:type_of%@Int.mul_le_mul:=@Int.mul_le_mul
theorem hs0:type_of%@Int.mul_le_mul_of_nonneg_left:=@Int.mul_le_mul_of_nonneg_left
theorem qc0:type_of%@Int.mul_nonneg:=@Int.mul_nonneg
theorem e96:type_of%@Int.natCast_add:=@Int.natCast_add
theorem g71:type_of%@Int.natCast_one:=@Int.natCast_one
theorem vx9:type_of%@Int.natCast_zero:=@Int.natCast_zero
theorem vk3:type_of%@Int.not_lt:=@Int.not_lt
theorem pi7:type_of%@Int.pow_succ:=@Int.pow_succ
theorem zj0:type_of%@Int.tdiv_eq_ediv_of_nonneg:=@Int.tdiv_eq_ediv_of_nonneg
theorem dl5:type_of%@Int.tmod_eq_emod_of_nonneg:=@Int.tmod_eq_emod_of_nonneg
theorem ao0:type_of%@Int.toNat_natCast:=@Int.toNat_natCast
theorem p92:type_of%@List.all_eq_true:=@List.all_eq_true
theorem qb7:type_of%@List.any_eq_false:=@List.any_eq_false
theorem eh9:type_of%@List.append_assoc:=@List.append_assoc
theorem nw0:type_of%@List.append_nil:=@List.append_nil
theorem il0:type_of%@List.cons.injEq:=@List.cons.injEq
theorem rs6:type_of%@List.cons_append:=@List.cons_append
theorem m34:type_of%@List.count_append:=@List.count_append
theorem xi6:type_of%@List.count_cons:=@List.count_cons
theorem xe3:type_of%@List.count_eq_zero:=@List.count_eq_zero
theorem pb3:type_of%@List.drop_drop:=@List.drop_drop
theorem gw1:type_of%@List.drop_eq_getElem_cons:=@List.drop_eq_getElem_cons
theorem jx3:type_of%@List.drop_eq_nil_of_le:=@List.drop_eq_nil_of_le
theorem sv4:type_of%@List.drop_zero:=@List.drop_zero
theorem js1:type_of%@List.eq_nil_of_length_eq_zero:=@List.eq_nil_of_length_eq_zero
theorem ug1:type_of%@List.eq_of_mem_replicate:=@List.eq_of_mem_replicate
theorem v63:type_of%@List.ext_getElem?:=@List.ext_getElem?
theorem qw7:type_of%@List.flatMap_eq_nil_iff:=@List.flatMap_eq_nil_iff
theorem h08:type_of%@List.foldl_cons:=@List.foldl_cons
theorem os6:type_of%@List.getD_eq_getElem?_getD:=@List.getD_eq_getElem?_getD
theorem bu4:type_of%@List.getElem?_append_left:=@List.getElem?_append_left
theorem lp1:type_of%@List.getElem?_append_right:=@List.getElem?_append_right
theorem ok0:type_of%@List.getElem?_cons_succ:=@List.getElem?_cons_succ
theorem rw5:type_of%@List.getElem?_cons_zero:=@List.getElem?_cons_zero
theorem s96:type_of%@List.getElem?_drop:=@List.getElem?_drop
theorem wu3:type_of%@List.getElem?_eq_getElem:=@List.getElem?_eq_getElem
theorem pb5:type_of%@List.getElem?_eq_none:=@List.getElem?_eq_none
theorem fu5:type_of%@List.getElem?_eq_none_iff:=@List.getElem?_eq_none_iff
theorem ck5:type_of%@List.getElem?_eq_some_iff:=@List.getElem?_eq_some_iff
theorem us5:type_of%@List.getElem?_map:=@List.getElem?_map
theorem es9:type_of%@List.getElem?_of_mem:=@List.getElem?_of_mem
theorem iq9:type_of%@List.getElem?_range:=@List.getElem?_range
theorem gy2:type_of%@List.getElem?_set:=@List.getElem?_set
theorem b17:type_of%@List.getElem?_set_ne:=@List.getElem?_set_ne
theorem j13:type_of%@List.getElem?_set_self:=@List.getElem?_set_self
theorem td4:type_of%@List.getElem?_take:=@List.getElem?_take
theorem kr6:type_of%@List.getElem?_zipIdx:=@List.getElem?_zipIdx
theorem ws6:type_of%@List.getElem_mem:=@List.getElem_mem
theorem zd4:type_of%@List.getElem_of_mem:=@List.getElem_of_mem
theorem j82:type_of%@List.length_append:=@List.length_append
theorem q90:type_of%@List.length_cons:=@List.length_cons
theorem h50:type_of%@List.length_drop:=@List.length_drop
theorem q11:type_of%@List.length_map:=@List.length_map
theorem fo5:type_of%@List.length_nil:=@List.length_nil
theorem py7:type_of%@List.length_pos_iff:=@List.length_pos_iff
theorem jv4:type_of%@List.length_replicate:=@List.length_replicate
theorem kb7:type_of%@List.length_set:=@List.length_set
theorem mj8:type_of%@List.length_singleton:=@List.length_singleton
theorem vb8:type_of%@List.length_take:=@List.length_take
theorem hm3:type_of%@List.map_append:=@List.map_append
theorem ny8:type_of%@List.map_congr_left:=@List.map_congr_left
theorem nf9:type_of%@List.map_cons:=@List.map_cons
theorem gd3:type_of%@List.map_drop:=@List.map_drop
theorem uk6:type_of%@List.map_map:=@List.map_map
theorem gw5:type_of%@List.map_nil:=@List.map_nil
theorem fx9:type_of%@List.map_set:=@List.map_set
theorem iw6:type_of%@List.map_take:=@List.map_take
theorem bk2:type_of%@List.mem_append:=@List.mem_append
theorem zk7:type_of%@List.mem_append_left:=@List.mem_append_left
theorem r04:type_of%@List.mem_cons:=@List.mem_cons
theorem iz7:type_of%@List.mem_cons_of_mem:=@List.mem_cons_of_mem
theorem rn8:type_of%@List.mem_cons_self:=@List.mem_cons_self
theorem c90:type_of%@List.mem_flatMap:=@List.mem_flatMap
theorem vf1:type_of%@List.mem_map:=@List.mem_map
theorem vf6:type_of%@List.mem_of_getElem?:=@List.mem_of_getElem?
theorem lq8:type_of%@List.mem_of_mem_drop:=@List.mem_of_mem_drop
theorem tn5:type_of%@List.mem_of_mem_take:=@List.mem_of_mem_take
theorem l16:type_of%@List.mem_range:=@List.mem_range
theorem q05:type_of%@List.mem_singleton:=@List.mem_singleton
theorem b08:type_of%@List.mem_zipIdx_iff_getElem?:=@List.mem_zipIdx_iff_getElem?
theorem m51:type_of%@List.nil_append:=@List.nil_append
theorem m71:type_of%@List.nodup_append:=@List.nodup_append
theorem y50:type_of%@List.nodup_cons:=@List.nodup_cons
theorem s08:type_of%@List.nodup_range:=@List.nodup_range
theorem bn6:type_of%@List.of_mem_zip:=@List.of_mem_zip
theorem dk1:type_of%@List.pairwise_cons:=@List.pairwise_cons
theorem o71:type_of%@List.pairwise_map:=@List.pairwise_map
theorem w63:type_of%@List.prefix_append:=@List.prefix_append
theorem je0:type_of%@List.prefix_refl:=@List.prefix_refl
theorem lg2:type_of%@List.replicate_succ:=@List.replicate_succ
theorem v62:type_of%@List.set_append_right:=@List.set_append_right
theorem kv0:type_of%@List.set_cons_zero:=@List.set_cons_zero
theorem ii2:type_of%@List.singleton_append:=@List.singleton_append
theorem da3:type_of%@List.take_add_one:=@List.take_add_one
theorem qr5:type_of%@List.take_append_drop:=@List.take_append_drop
theorem sp3:type_of%@List.take_of_length_le:=@List.take_of_length_le
theorem si3:type_of%@List.take_zero:=@List.take_zero
theorem wl8:type_of%@List.zip_cons_cons:=@List.zip_cons_cons
theorem q61:type_of%@Nat.add_assoc:=@Nat.add_assoc
theorem ur9:type_of%@Nat.add_mul:=@Nat.add_mul
theorem zy9:type_of%@Nat.add_zero:=@Nat.add_zero
theorem b55:type_of%@Nat.beq_refl:=@Nat.beq_refl
theorem bg4:type_of%@Nat.eq_of_beq_eq_true:=@Nat.eq_of_beq_eq_true
theorem uy4:type_of%@Nat.le_max_left:=@Nat.le_max_left
theorem x26:type_of%@Nat.le_max_right:=@Nat.le_max_right
theorem fy2:type_of%@Nat.le_of_ble_eq_true:=@Nat.le_of_ble_eq_true
theorem jj6:type_of%@Nat.le_refl:=@Nat.le_refl
theorem md7:type_of%@Nat.le_trans:=@Nat.le_trans
theorem a36:type_of%@Nat.lt_irrefl:=@Nat.lt_irrefl
theorem ui6:type_of%@Nat.lt_of_lt_of_le:=@Nat.lt_of_lt_of_le
theorem xp9:type_of%@Nat.min_eq_left:=@Nat.min_eq_left
theorem jw5:type_of%@Nat.mul_div_cancel:=@Nat.mul_div_cancel
theorem wg6:type_of%@Nat.mul_le_mul_right:=@Nat.mul_le_mul_right
theorem mp4:type_of%@Nat.mul_one:=@Nat.mul_one
theorem ob6:type_of%@Nat.sub_self:=@Nat.sub_self
theorem e03:type_of%@Nat.zero_add:=@Nat.zero_add
theorem ms7:type_of%@Nat.zero_le:=@Nat.zero_le
theorem v88:type_of%@Nat.zero_mul:=@Nat.zero_mul
theorem ns4:type_of%@Option.getD_some:=@Option.getD_some
theorem qv9:type_of%@Option.isSome_none:=@Option.isSome_none
theorem km1:type_of%@Option.map_eq_some_iff:=@Option.map_eq_some_iff
theorem eb5:type_of%@Option.map_some:=@Option.map_some
theorem pk4:type_of%@Option.some.inj:=@Option.some.inj
theorem hx3:type_of%@Option.some.injEq:=@Option.some.injEq
theorem br6:type_of%@Prod.mk.injEq:=@Prod.mk.injEq
theorem ui3:type_of%@beq_iff_eq:=@beq_iff_eq
theorem ey2:type_of%@cond_false:=@cond_false
theorem nj1:type_of%@cond_true:=@cond_true
theorem lx1:type_of%@decide_eq_false:=@decide_eq_false
theorem ce5:type_of%@decide_eq_true:=@decide_eq_true
theorem jn8:type_of%@decide_eq_true_eq:=@decide_eq_true_eq
theorem wj1:type_of%@if_false:=@if_false
theorem oo9:type_of%@if_true:=@if_true
theorem kb3:type_of%@of_decide_eq_true:=@of_decide_eq_true
end Go
namespace Go.Am
abbrev Fr:=Nat→Option Value
def Fr.set(fr:Fr)(s:Nat)(v:Value):Fr:=fun t=>bif Nat.beq t s then some v else fr t
def Fr.del(fr:Fr)(s:Nat):Fr:=fun t=>bif Nat.beq t s then none else fr t
def Fr.of:List (Nat×Value)→Fr
 | [],_=>none
 |(k,v)::r,t=>bif Nat.beq t k then some v else Fr.of r t
def Fr.put(fr:Fr):Option Nat→Option Value→Fr
 |some s,some v=>fr.set s v
 |some s,none=>fr.del s
 |none,_=>fr
def hy3(fr:Fr):List Nat→List (Nat×Value)
 | []=>[]
 |k::ks=>match fr k with
  |some v=>(k,v)::hy3 fr ks
  |none=>hy3 fr ks
def Fr.args:Nat→List Value→Fr
 |_,[],_=>none
 |n,v::r,t=>bif Nat.beq t n then some v else Fr.args (n+1) r t
structure Row where
 cells:List Value
 elem:TypeId
  /-- cells an element, where it is a slice's row; else 0 -/
 unit:Nat
 own:Bool
inductive Ob where
 |dead
 |row (r:Row)
abbrev H:=List Ob
def H.row(h:H)(o:Nat):Option Row:=match h[o]? with
 |some (.row r)=>some r
 |_=>none
def H.lds(h:H)(o off n:Nat):Option (List Value):=match h.row o with
 |some r=>if off+n≤r.cells.length then some ((r.cells.drop off).take n)else none
 |none=>none
def H.ld1(h:H)(o off:Nat):Option Value:=match h.row o with
 |some r=>r.cells[off]?
 |none=>none
def hu1(l:List Value)(off:Nat)(vs:List Value):List Value:=l.take off++vs++l.drop (off+vs.length)
def H.sts(h:H)(o off:Nat)(vs:List Value):Option H:=match h.row o with
 |some r=>if r.own&&off+vs.length≤r.cells.length then some (h.set o (.row {r with cells:=hu1 r.cells off vs}))else none
 |none=>none
def tc5:Value→Bool
 | .bool _| .int .. | .string _| .pointer none| .slice none 0 0| .nilFunc| .nilIface| .map none=>true
 |_=>false
def closed:Value→Bool
 | .agg cs=>cs.all tc5
 | .tuple cs=>cs.all tc5
 |v=>tc5 v
def ev(fr:Fr):Operand→Option Value
 | .tmp t=>fr t
 | .const v=>if closed v then some v else none
 | .global _=>none
 | .func f=>some (.func (.func f) #[] #[])
def evs(fr:Fr):List Operand→Option (List Value)
 | []=>some []
 |x::r=>match ev fr x,evs fr r with
  |some v,some vs=>some (v::vs)
  |_,_=>none
inductive AOp where
 |mv (x:Operand)
 |pick (c a b:Operand)
 |bin (op:BinOp) (x y:Operand)
 |eqb (neg:Bool) (x y:Operand)
 |eqn (neg:Bool) (kind:Nat) (x:Operand)
 |un (op:UnOp) (x:Operand)
 |conv (k:IntKind) (x:Operand)
 |alloc (elem:TypeId) (zs:List Value)
 |box (elem:TypeId) (size:Nat) (x:Operand)
 |build (zs:List Value) (places:List (Nat×Nat)) (parts:List (Nat×Operand))
 |mkSl (elem:TypeId) (size len:Nat) (parts:List Operand)
 |ld (agg:Bool) (n:Nat) (a:Operand)
 |st (n:Nat) (a x:Operand)
 |nilck (x:Operand)
 |mkf (f:FuncId) (cap:List Operand)
 |mks (elem:TypeId) (size bytes:Nat) (zs:List Value) (l c:Operand)
 |sl (size:Nat) (x:Operand) (lo hi:Option Operand)
 |sls (x:Operand) (lo hi:Option Operand)
  /-- a slice's first ones, with as much room -/
 |sl3 (x hi mx:Operand)
 |faddr (off:Nat) (x:Operand)
 |fld (agg:Bool) (off n:Nat) (x:Operand)
 |iaddr (size:Nat) (x i:Operand)
 |iaddrA (len size:Nat) (x i:Operand)
 |idxA (len size:Nat) (agg:Bool) (x i:Operand)
 |idxS (x i:Operand)
 |len (x:Operand)
 |lenS (x:Operand)
 |lenK (n:Nat)
 |minmax (mx:Bool) (xs:List Operand)
 |app (elem:TypeId) (size bytes:Nat) (s x:Operand)
 |cpy (size:Nat) (d s:Operand)
 |ext (i:Nat) (x:Operand)
 |call (f:FuncId) (args:List Operand)
 |calld (x:Operand) (args:List Operand)
  /-- a load out of a box -/
 |ldb (agg:Bool) (n:Nat) (a:Operand)
  /-- so many bb3 go onto a list of numbers -/
 |appz (elem:TypeId) (bytes:Nat) (s x:Operand)
  /-- what a function of that name holds, at a place -/
 |capt (f:FuncId) (n i:Nat) (x:Operand)
  /-- a map of numbers is made; looked up (z: what is not there); put in -/
 |mmk (elem:TypeId)
 |mget (kd:IntKind) (z:Value) (m k:Operand)
 |mput (kd:IntKind) (m k x:Operand)
structure AOper where
 dst:Option Nat
 op:AOp
 guard:Option (Nat×Bool)
 chk:Bool
def aint(op:BinOp)(k:IntKind)(a b:Int):Option Value:=
 match op with
 | .add=>some (.int k (k.wrap (a+b)))
 | .sub=>some (.int k (k.wrap (a-b)))
 | .mul=>some (.int k (k.wrap (a*b)))
 | .quo=>if b=0 then none else some (.int k (k.wrap (a.tdiv b)))
 | .rem=>if b=0 then none else some (.int k (a.tmod b))
 | .and=>some (.int k (bits .and k a b))
 | .or=>some (.int k (bits .or k a b))
 | .xor=>some (.int k (bits .xor k a b))
 | .andNot=>some (.int k (bits .andNot k a b))
 | .eql=>some (.bool (decide (a=b)))
 | .neq=>some (.bool (!decide (a=b)))
 | .lss=>some (.bool (decide (a<b)))
 | .leq=>some (.bool (decide (a≤b)))
 | .gtr=>some (.bool (decide (b<a)))
 | .geq=>some (.bool (decide (b≤a)))
 |_=>none
def th5(op:BinOp)(k:IntKind)(a b:Int):Option Value:=
 if b<0 then none else match op with
 | .shl=>some (.int k (k.wrap (a*2^(min b.toNat k.bits))))
 | .shr=>some (.int k (a.fdiv (2^(min b.toNat k.bits))))
 |_=>none
def astr(op:BinOp)(x y:ByteArray):Option Value:=
 match op with
 | .add=>if x.size+y.size≤140737488355328 then some (.string (x++y))else none
 | .eql=>some (.bool (x.toList==y.toList))
 | .neq=>some (.bool (!(x.toList==y.toList)))
 | .lss=>some (.bool (Op.bytesLess x.toList y.toList))
 | .leq=>some (.bool (Op.bytesLess x.toList y.toList||x.toList==y.toList))
 | .gtr=>some (.bool (!(Op.bytesLess x.toList y.toList||x.toList==y.toList)))
 | .geq=>some (.bool (!Op.bytesLess x.toList y.toList))
 |_=>none
def abin(op:BinOp):Value→Value→Option Value
 | .int k a, .int k' b=>match op with
   | .shl=>th5 .shl k a b
   | .shr=>th5 .shr k a b
   |op=>if k=k' then aint op k a b else none
 | .string a, .string b=>astr op a b
 |_,_=>none
def aun:UnOp→Value→Option Value
 | .not, .bool b=>some (.bool (!b))
 | .neg, .int k n=>some (.int k (k.wrap (0-n)))
 | .xor, .int k n=>some (.int k (bits .xor k (if k.signed then-1 else k.max) n))
 |_,_=>none
def anil:Nat→Value→Option Bool
 |0, .slice a _ _=>some a.isNone
 |1, .pointer a=>some a.isNone
 |2, .nilFunc=>some true
 |2, .func .. =>some false
 |_,_=>none
def flat:Value→Bool
 | .tuple _=>false
 |_=>true
def ah0(places:Nat→Option (Nat×Nat))(cells:List Value):List (Nat×Value)→Option (List Value)
 | []=>some cells
 |(i,v)::rest=>
  match places i with
  |none=>none
  |some (off,size)=>
   if v.cells.size≠size|| !flat v||off+size>cells.length then none
   else ah0 places (hu1 cells off v.cells.toList) rest
def bound(v:Value):Option Int:=match v with
 | .int _ i=>some i
 |_=>none
def cat:List Value→List Value
 | []=>[]
 |v::r=>v.cells.toList++cat r
def sized(n:Nat):List Value→Bool
 | []=>true
 |v::r=>(v.cells.size==n)&&flat v&&sized n r
def evp(fr:Fr):List (Nat×Operand)→Option (List (Nat×Value))
 | []=>some []
 |(i,x)::r=>match ev fr x,evp fr r with
  |some v,some vs=>some ((i,v)::vs)
  |_,_=>none
def evo(fr:Fr):Option Operand→Option (Option Int)
 |none=>some none
 |some x=>match ev fr x with
  |some v=>match bound v with
   |some i=>some (some i)
   |none=>none
  |none=>none
def ho0(k:IntKind):List Value→Option (List Int)
 | []=>some []
 | .int k' n::r=>if k=k' then match ho0 k r with
   |some l=>some (n::l)
   |none=>none else none
 |_=>none
def mm(mx:Bool)(a b:Int):Int:=if mx then(if a<b then b else a)else(if b<a then b else a)
def rep(zs:List Value):Nat→List Value
 |0=>[]
 |n+1=>zs++rep zs n
def b38(h:H)(size n:Nat):Value→Option (List Value)
 | .slice a l _=>if n=0 then some []else if n≤l then match a with
   |some a=>if a.spot.isNone then h.lds a.block a.off (n*size)else none
   |none=>none else none
 |_=>none
def gn2(kd:IntKind)(k:Int):List Value→Option (Option Value)
 | .int kd' j::v::r=>if kd'=kd then(if j=k then some (some v)else gn2 kd k r)else none
 | []=>some none
 |_=>none
def mset(kd:IntKind)(k:Int)(x:Value):List Value→Option (List Value)
 | .int kd' j::v::r=>if kd'=kd then(if j=k then some (.int kd' j::x::r)else match mset kd k x r with
   |some l=>some (.int kd' j::v::l)
   |none=>none)else none
 | []=>some [.int kd k,x]
 |_=>none
def H.mp(h:H)(o:Nat):Option Row:=match h.row o with
 |some r=>if r.own then some r else none
 |none=>none
def kill(h:H)(o:Nat):H:=h.set o .dead
def few(n bytes:Nat):Bool:=n≤1099511627776&&n*bytes≤140737488355328
def aput(elem:TypeId)(size bytes:Nat)(h:H)(sa:Option Addr)(n c m:Nat)(news:List Value):Option (Value×H):=match sa with
 |none=>if n=0&&c=0 then if m=0 then some (.slice none 0 0,h)
   else if few m bytes then some (.slice (some ⟨h.length,0,none⟩) m m,h++[.row ⟨news,elem,size,true⟩])else none else none
 |some a=>match h.row a.block with
  |some r=>if r.own&&a.spot.isNone&&r.elem==elem&&r.unit==size&&n≤c&&a.off+n*size≤r.cells.length&&few (n+m) bytes then
    some (.slice (some ⟨h.length,0,none⟩) (n+m) (n+m),kill h a.block++[.row ⟨(r.cells.drop a.off).take (n*size)++news,elem,size,true⟩])else none
  |none=>none
def aapp(elem:TypeId)(size bytes:Nat)(h:H)(s x:Value):Option (Value×H):=
 match s,x with
 | .slice sa n c, .slice b m d=>
   match b38 h size m (.slice b m d)with
   |some news=>aput elem size bytes h sa n c m news
   |none=>none
 |_,_=>none
def acpy(size:Nat)(h:H)(d s:Value):Option (Value×H):=
 match d,s with
 | .slice da dl dc, .slice sa sl sc=>
   match b38 h size (min sl dl) (.slice sa sl sc)with
   |some cs=>if min sl dl=0 then some (.int .i64 0,h)else match da with
    |some a=>if a.spot.isNone then match h.sts a.block a.off cs with
     |some h'=>some (.int .i64 (min sl dl:Nat),h')
     |none=>none else none
    |none=>none
   |none=>none
 |_,_=>none
def ss4(h:H)(size:Nat):Option Addr→Bool
 |none=>true
 |some a=>match h.row a.block with
  |some r=> !r.own||r.unit==size
  |none=>false
def boxed(h:H)(o:Nat):Bool:=match h.row o with
 |some r=>r.unit==0
 |none=>false
def bx(fr:Fr)(h:H)(a:Operand):Bool:=match ev fr a with
 |some (.pointer (some a))=>boxed h a.block
 |_=>false
def aop(fr:Fr)(h:H):AOp→Option (Option Value×H)
 | .mv x=>match ev fr x with
   |some v=>some (some v,h)
   |none=>none
 | .pick c a b=>match ev fr c with
   |some (.bool t)=>match ev fr (if t then a else b)with
    |some v=>some (some v,h)
    |none=>none
   |_=>none
 | .bin op x y=>match ev fr x,ev fr y with
   |some a,some b=>match abin op a b with
    |some v=>some (some v,h)
    |none=>none
   |_,_=>none
 | .eqb neg x y=>match ev fr x,ev fr y with
   |some (.bool a),some (.bool b)=>some (some (.bool (neg !=(a==b))),h)
   |_,_=>none
 | .eqn neg kind x=>match ev fr x with
   |some v=>match anil kind v with
    |some b=>some (some (.bool (neg !=b)),h)
    |none=>none
   |none=>none
 | .un op x=>match ev fr x with
   |some a=>match aun op a with
    |some v=>some (some v,h)
    |none=>none
   |none=>none
 | .conv k x=>match ev fr x with
   |some (.int _ n)=>some (some (.int k (k.wrap n)),h)
   |_=>none
 | .alloc elem zs=>some (some (.pointer (some ⟨h.length,0,none⟩)),h++[.row ⟨zs,elem,0,true⟩])
 | .box elem size x=>match ev fr x with
   |some v=>if v.cells.size=size∧flat v=true then some (some (.pointer (some ⟨h.length,0,none⟩)),h++[.row ⟨v.cells.toList,elem,0,true⟩])else none
   |none=>none
 | .build zs places parts=>match evp fr parts with
   |some vs=>match ah0 (fun i=>places[i]?) zs vs with
    |some cs=>some (some (.agg cs.toArray),h)
    |none=>none
   |none=>none
 | .mkSl elem size len parts=>match evs fr parts with
   |some vs=>if sized size vs&&vs.length==len then some (some (.slice (some ⟨h.length,0,none⟩) len len),h++[.row ⟨cat vs,elem,size,true⟩])else none
   |none=>none
 | .ld agg n a=>match ev fr a with
   |some (.pointer (some a))=>if a.spot.isSome then none else match agg with
    |true=>match h.lds a.block a.off n with
     |some cs=>some (some (.agg cs.toArray),h)
     |none=>none
    |false=>match h.ld1 a.block a.off with
     |some v=>some (some v,h)
     |none=>none
   |_=>none
 | .st n a x=>match ev fr a,ev fr x with
   |some (.pointer (some a)),some v=>if a.spot.isSome||v.cells.size !=n|| !flat v then none else match h.sts a.block a.off v.cells.toList with
    |some h'=>some (none,h')
    |none=>none
   |_,_=>none
 | .nilck x=>match ev fr x with
   |some (.pointer (some a))=>some (some (.pointer (some a)),h)
   |_=>none
 | .mkf f cap=>match evs fr cap with
   |some vs=>some (some (.func (.func f) #[] vs.toArray),h)
   |none=>none
 | .mks elem size bytes zs l c=>match ev fr l,ev fr c with
   |some (.int _ l),some (.int _ c)=>
    if 0≤l∧l≤c∧c≤1099511627776∧c*bytes≤140737488355328 then
     some (some (.slice (some ⟨h.length,0,none⟩) l.toNat c.toNat),h++[.row ⟨rep zs c.toNat,elem,size,true⟩])else none
   |_,_=>none
 | .sl size x lo hi=>match ev fr x,evo fr lo,evo fr hi with
   |some (.slice a l c),some lo,some hi=>
    let lo':=lo.getD 0
    let hi':=hi.getD l
    if 0≤lo'∧lo'≤hi'∧hi'≤c∧ss4 h size a=true then
     some (some (.slice (if c=lo' then a else a.map fun a=>⟨a.block,a.off+lo'.toNat*size,none⟩) (hi'-lo').toNat (c-lo').toNat),h)else none
   |_,_,_=>none
 | .sls x lo hi=>match ev fr x,evo fr lo,evo fr hi with
   |some (.string s),some lo,some hi=>
    let lo':=lo.getD 0
    let hi':=hi.getD s.size
    if 0≤lo'∧lo'≤hi'∧hi'≤s.size then some (some (.string (s.extract lo'.toNat hi'.toNat)),h)else none
   |_,_,_=>none
 | .sl3 x hi mx=>match ev fr x,ev fr hi,ev fr mx with
   |some (.slice a l c),some (.int _ i),some (.int _ j)=>if 0≤i∧i≤j∧j≤c then some (some (.slice a i.toNat j.toNat),h)else none
   |_,_,_=>none
 | .faddr off x=>match ev fr x with
   |some (.pointer (some a))=>if a.spot.isSome then none else some (some (.pointer (some ⟨a.block,a.off+off,none⟩)),h)
   |_=>none
 | .fld agg off n x=>match ev fr x with
   |some (.agg cs)=>match agg with
    |true=>some (some (.agg (cs.extract off (off+n))),h)
    |false=>match cs[off]? with
     |some v=>some (some v,h)
     |none=>none
   |_=>none
 | .iaddr size x i=>match ev fr x,ev fr i with
   |some (.slice (some a) l _),some (.int _ i)=>
    if 0≤i∧i<l then if a.spot.isSome then none else some (some (.pointer (some ⟨a.block,a.off+i.toNat*size,none⟩)),h)else none
   |_,_=>none
 | .iaddrA len size x i=>match ev fr x,ev fr i with
   |some (.pointer (some a)),some (.int _ i)=>
    if 0≤i∧i<len then if a.spot.isSome then none else some (some (.pointer (some ⟨a.block,a.off+i.toNat*size,none⟩)),h)else none
   |_,_=>none
 | .idxA len size agg x i=>match ev fr x,ev fr i with
   |some (.agg cs),some (.int _ i)=>
    if 0≤i∧i<len then match agg with
     |true=>some (some (.agg (cs.extract (i.toNat*size) (i.toNat*size+size))),h)
     |false=>match cs[i.toNat*size]? with
      |some v=>some (some v,h)
      |none=>none
    else none
   |_,_=>none
 | .idxS x i=>match ev fr x,ev fr i with
   |some (.string s),some (.int _ i)=>if 0≤i then match s[i.toNat]? with
     |some b=>some (some (.int .u8 b.toNat),h)
     |none=>none else none
   |_,_=>none
 | .len x=>match ev fr x with
   |some (.slice _ n _)=>some (some (.int .i64 n),h)
   |_=>none
 | .lenS x=>match ev fr x with
   |some (.string s)=>some (some (.int .i64 s.size),h)
   |_=>none
 | .lenK n=>some (some (.int .i64 n),h)
 | .minmax mx xs=>match evs fr xs with
   |some vs=>match vs with
    | .int k n::r=>match ho0 k r with
      |some l=>some (some (.int k (l.foldl (mm mx) n)),h)
      |none=>none
    |_=>none
   |none=>none
 | .app elem size bytes s x=>match ev fr s,ev fr x with
   |some s,some x=>match aapp elem size bytes h s x with
    |some (v,h')=>some (some v,h')
    |none=>none
   |_,_=>none
 | .cpy size d s=>match ev fr d,ev fr s with
   |some d,some s=>match acpy size h d s with
    |some (v,h')=>some (some v,h')
    |none=>none
   |_,_=>none
 | .ext i x=>match ev fr x with
   |some (.tuple vs)=>match vs[i]? with
    |some v=>some (some v,h)
    |none=>none
   |_=>none
 | .call .. | .calld .. =>none
 | .ldb agg n a=>if bx fr h a=true then match ev fr a with
   |some (.pointer (some a))=>if a.spot.isSome then none else match agg with
    |true=>match h.lds a.block a.off n with
     |some cs=>some (some (.agg cs.toArray),h)
     |none=>none
    |false=>match h.ld1 a.block a.off with
     |some v=>some (some v,h)
     |none=>none
   |_=>none
   else none
 | .appz elem bytes s x=>match ev fr s,ev fr x with
   |some (.slice sa n c),some (.int .i64 m)=>if 0≤m∧m≤1099511627776 then match aput elem 1 bytes h sa n c m.toNat (List.replicate m.toNat (.int .i64 0))with
    |some (v,h')=>some (some v,h')
    |none=>none else none
   |_,_=>none
 | .capt g n i x=>match ev fr x with
   |some (.func (.func f) _ cs)=>if f=g∧cs.size=n then match cs[i]? with
    |some v=>some (some v,h)
    |none=>none else none
   |_=>none
 | .mmk elem=>some (some (.map (some h.length)),h++[.row ⟨[],elem,0,true⟩])
 | .mget kd z m k=>match ev fr m,ev fr k with
   |some (.map (some o)),some (.int kd' i)=>if kd'=kd then match h.mp o with
    |some r=>match gn2 kd i r.cells with
     |some v=>some (some (v.getD z),h)
     |none=>none
    |none=>none else none
   |_,_=>none
 | .mput kd m k x=>match ev fr m,ev fr k,ev fr x with
   |some (.map (some o)),some (.int kd' i),some v=>if kd'=kd∧v.oneCell'=true then match h.mp o with
    |some r=>match mset kd i v r.cells with
     |some cs=>some (none,h.set o (.row {r with cells:=cs}))
     |none=>none
    |none=>none else none
   |_,_,_=>none
theorem eo7{h:H}{o:Nat}{r:Row}:h.mp o=some r↔h.row o=some r∧r.own=true:=by
 unfold H.mp
 constructor
 ·intro e
  split at e
  ·split at e
   ·rename_i r' hr ho;cases e;exact⟨hr,ho⟩
   ·cases e
  ·cases e
 ·rintro⟨e1,e2⟩
  rw[e1];simp[e2]
theorem oe0{fr:Fr}{h:H}{kd:IntKind}{z:Value}{m k:Operand}{p:Option Value×H}:aop fr h (.mget kd z m k)=some p↔ ∃o i r v,ev fr m=some (.map (some o))∧ev fr k=some (.int kd i)∧h.row o=some r∧r.own=true∧gn2 kd i r.cells=some v∧p=(some (v.getD z),h):=by
 constructor
 ·intro e
  simp only[aop]at e
  split at e
  ·rename_i o kd' i h1 h2
   split at e
   ·rename_i hk
    subst hk
    split at e
    ·rename_i r hr
     split at e
     ·rename_i v hv
      cases e
      obtain⟨k1,k2⟩:=eo7.1 hr
      exact⟨o,i,r,v,h1,h2,k1,k2,hv,rfl⟩
     ·cases e
    ·cases e
   ·cases e
  ·cases e
 ·rintro⟨o,i,r,v,h1,h2,h3,h4,h5,rfl⟩
  simp only[aop,h1,h2,if_pos,eo7.2 ⟨h3,h4⟩,h5]
theorem si8{fr:Fr}{h:H}{kd:IntKind}{m k x:Operand}{p:Option Value×H}:aop fr h (.mput kd m k x)=some p↔ ∃o i v r cs,ev fr m=some (.map (some o))∧ev fr k=some (.int kd i)∧ev fr x=some v∧v.oneCell'=true∧h.row o=some r∧r.own=true∧mset kd i v r.cells=some cs∧p=(none,h.set o (.row {r with cells:=cs})):=by
 constructor
 ·intro e
  simp only[aop]at e
  split at e
  ·rename_i o kd' i v h1 h2 h0
   split at e
   ·rename_i hk
    obtain⟨hk,hv1⟩:=hk
    subst hk
    split at e
    ·rename_i r hr
     split at e
     ·rename_i cs hv
      cases e
      obtain⟨k1,k2⟩:=eo7.1 hr
      exact⟨o,i,v,r,cs,h1,h2,h0,hv1,k1,k2,hv,rfl⟩
     ·cases e
    ·cases e
   ·cases e
  ·cases e
 ·rintro⟨o,i,v,r,cs,h1,h2,h0,hv1,h3,h4,h5,rfl⟩
  simp only[aop,h1,h2,h0,hv1,and_self,if_pos,eo7.2 ⟨h3,h4⟩,h5]
theorem fd7{fr:Fr}{h:H}{agg:Bool}{n:Nat}{a:Operand}:aop fr h (.ldb agg n a)=if bx fr h a=true then aop fr h (.ld agg n a)else none:=rfl
theorem zx2{fr:Fr}{h:H}{agg:Bool}{n:Nat}{a:Operand}{r:Option Value×H}(he:aop fr h (.ldb agg n a)=some r):bx fr h a=true∧aop fr h (.ld agg n a)=some r:=by
 rw[fd7]at he
 split at he
 ·exact⟨‹_›,he⟩
 ·cases he
def AOp.inText:AOp→AOp
 | .ldb agg n a=> .ld agg n a
 |op=>op
def AOp.inBox:AOp→AOp
 | .ld agg n a=> .ldb agg n a
 |op=>op
inductive ACode where
 |skip
 |region (ops:List AOper)
 |seq (a b:ACode)
 |cond (c:Operand) (thn els:ACode)
 |block (id:Nat) (ko:List Nat) (body:ACode)
 |loop (kh:List Nat) (body:ACode)
 |exit (id:Nat)
 |ret
  /-- what this machine does not know: it gives no answer there -/
 |stuck
inductive It where
 |code (c:ACode)
 |blk (id:Nat) (ko:List Nat)
 |lp (kh:List Nat) (body:ACode)
inductive ARes where
 |tmp (t:Nat)
 |cell (t:Nat) (agg:Bool) (n:Nat)
structure AFun where
 code:ACode
 nargs:Nat
 ntmps:Nat
 results:List ARes
abbrev Tab:=FuncId→Option AFun
def gc2(id:Nat):List It→Option (List Nat×List It)
 | []=>none
 | .blk id' ko::k=>if id'=id then some (ko,k)else gc2 id k
 |_::k=>gc2 id k
def res1(fr:Fr)(h:H):ARes→Option Value
 | .tmp t=>fr t
 | .cell t agg n=>match fr t with
   |some (.pointer (some a))=>if a.spot.isSome then none else match agg with
    |true=>match h.lds a.block a.off n with
     |some cs=>some (.agg cs.toArray)
     |none=>none
    |false=>h.ld1 a.block a.off
   |_=>none
def ress(fr:Fr)(h:H):List ARes→Option (List Value)
 | []=>some []
 |r::rs=>match res1 fr h r,ress fr h rs with
  |some v,some vs=>some (v::vs)
  |_,_=>none
def retv(rs:List ARes)(fr:Fr)(h:H):Option (Value×H):=
 match ress fr h rs with
 |some [v]=>some (v,h)
 |some vs=>some (.tuple vs.toArray,h)
 |none=>none
def gd(fr:Fr):Option (Nat×Bool)→Option Bool
 |none=>some true
 |some (s,want)=>match fr s with
  |some (.bool b)=>some (b==want)
  |some (.tuple _)=>some false
  |_=>none
abbrev Res:=Option (Value×H)
def enter(T:Tab)(g:List ARes→List It→Fr→H→Res)(f:FuncId)(vs:List Value)(h:H):Res:=
 match T f with
 |some F=>if vs.length=F.nargs then g F.results [.code F.code] (Fr.args 0 vs) h else none
 |none=>none
open Classical in
noncomputable def behind {α:Type} (chk:Bool) (h h':H) (r:Option α):Option α:=
 match chk with
 |false=>r
 |true=>if h<+:h' then r else none
def wb6(n0:Nat)(fr:Fr)(o:AOper):Bool:=
 match o.chk,o.op with
 |true, .ld _ _ a=>match ev fr a with
  |some (.pointer (some a))=>decide (a.block<n0)
  |_=>false
 |_,_=>true
noncomputable def core (T:Tab) (g:List ARes→List It→Fr→H→Res) (n0:Nat) (o:AOper) (fr:Fr) (h:H):Option (Option Value×H):=
 match gd fr o.guard with
 |some false=>some (some (.tuple #[]),h)
 |some true=>match o.op with
  | .call f args=>match evs fr args with
    |some vs=>match enter T g f vs h with
     |some (v,h')=>behind o.chk h h' (some (some v,h'))
     |none=>none
    |none=>none
  | .calld x args=>match ev fr x,evs fr args with
    |some (.func (.func f) first cap),some vs=>if first.isEmpty then match enter T g f (vs++cap.toList) h with
     |some (v,h')=>behind o.chk h h' (some (some v,h'))
     |none=>none else none
    |_,_=>none
  |op=>if wb6 n0 fr o then aop fr h op else none
 |none=>none
noncomputable def km6 (T:Tab) (g:List ARes→List It→Fr→H→Res) (n0:Nat) (o:AOper) (fr:Fr) (h:H):Option (Fr×H):=
 match core T g n0 o fr h with
 |some (v,h')=>some (fr.put o.dst v,h')
 |none=>none
noncomputable def gf4 (T:Tab) (g:List ARes→List It→Fr→H→Res) (n0:Nat):List AOper→Fr→H→Option (Fr×H)
 | [],fr,h=>some (fr,h)
 |o::l,fr,h=>match km6 T g n0 o fr h with
  |some (fr',h')=>gf4 T g n0 l fr' h'
  |none=>none
noncomputable def gF (T:Tab) (g:List ARes→List It→Fr→H→Res) (rs:List ARes):List It→Fr→H→Res
 | [],fr,h=>retv rs fr h
 | .code .ret::_,fr,h=>retv rs fr h
 | .code .skip::ks,fr,h=>g rs ks fr h
 | .code .stuck::_,_,_=>none
 | .code (.seq a b)::ks,fr,h=>g rs (.code a:: .code b::ks) fr h
 | .code (.cond c a b)::ks,fr,h=>match ev fr c with
   |some (.bool t)=>g rs (.code (if t then a else b)::ks) fr h
   |_=>none
 | .code (.block id ko c)::ks,fr,h=>g rs (.code c:: .blk id ko::ks) fr h
 | .code (.loop kh c)::ks,fr,h=>g rs (.code c:: .lp kh c::ks) (Fr.of (hy3 fr kh)) h
 | .code (.exit id)::ks,fr,h=>match gc2 id ks with
   |some (ko,k)=>g rs k (Fr.of (hy3 fr ko)) h
   |none=>none
 | .code (.region l)::ks,fr,h=>match gf4 T g h.length l fr h with
   |some (fr',h')=>g rs ks fr' h'
   |none=>none
 | .blk _ ko::ks,fr,h=>g rs ks (Fr.of (hy3 fr ko)) h
 | .lp kh c::ks,fr,h=>g rs (.code c:: .lp kh c::ks) (Fr.of (hy3 fr kh)) h
noncomputable def goN (T:Tab):Nat→List ARes→List It→Fr→H→Res
 |0,_,_,_,_=>none
 |n+1,rs,ks,fr,h=>gF T (goN T n) rs ks fr h
end Go.Am
namespace Go.Am
def Le(g g':List ARes→List It→Fr→H→Res):Prop:= ∀rs ks fr h r,g rs ks fr h=some r→g' rs ks fr h=some r
theorem rd3{T:Tab}{g g':List ARes→List It→Fr→H→Res}(hg:Le g g'){f vs h r}(he:enter T g f vs h=some r):enter T g' f vs h=some r:=by
 unfold enter at*
 cases hT:T f with
 |none=>rw[hT]at he;exact he
 |some F=>
  rw[hT]at he
  simp only at he⊢
  split at he
  ·rw[if_pos ‹_›];exact hg _ _ _ _ _ he
  ·cases he
theorem dh9{T:Tab}{g g':List ARes→List It→Fr→H→Res}(hg:Le g g'){n0 o fr h r}(hr:core T g n0 o fr h=some r):core T g' n0 o fr h=some r:=by
 unfold core at hr⊢
 split at hr
 ·exact hr
 ·split at hr
  ·split at hr
   ·split at hr
    ·rename_i he
     rw[rd3 hg he]
     exact hr
    ·cases hr
   ·cases hr
  ·split at hr
   ·split at hr
    ·split at hr
     ·rename_i he
      rw[if_pos ‹_›,rd3 hg he]
      exact hr
     ·cases hr
    ·cases hr
   ·cases hr
  ·exact hr
 ·cases hr
theorem em4{T:Tab}{g g':List ARes→List It→Fr→H→Res}(hg:Le g g'){n0 o fr h r}(hr:km6 T g n0 o fr h=some r):km6 T g' n0 o fr h=some r:=by
 unfold km6 at hr⊢
 split at hr
 ·rename_i hc;rw[dh9 hg hc];exact hr
 ·cases hr
theorem ey4{T:Tab}{g g':List ARes→List It→Fr→H→Res}(hg:Le g g'){n0:Nat}: ∀{l fr h r},gf4 T g n0 l fr h=some r→gf4 T g' n0 l fr h=some r
 | [],fr,h,r,hr=>hr
 |o::l,fr,h,r,hr=>by
  simp only[gf4]at hr⊢
  split at hr
  ·rename_i hs
   rw[em4 hg hs]
   exact ey4 hg hr
  ·cases hr
theorem fi1{T:Tab}{g g':List ARes→List It→Fr→H→Res}(hg:Le g g'):Le (gF T g) (gF T g'):=by
 intro rs ks fr h r hr
 unfold gF at hr⊢
 split at hr<;>first|exact hg _ _ _ _ _ hr|(cases hr;done)|skip
 ·exact hr
 ·exact hr
 ·split at hr
  ·exact hg _ _ _ _ _ hr
  ·cases hr
 ·split at hr
  ·exact hg _ _ _ _ _ hr
  ·cases hr
 ·split at hr
  ·rename_i hs
   rw[ey4 hg hs]
   exact hg _ _ _ _ _ hr
  ·cases hr
theorem gy9{T:Tab}(n:Nat):Le (goN T n) (goN T (n+1)):=by
 induction n with
 |zero=>intro rs ks fr h r hr;cases hr
 |succ n ih=>exact fi1 ih
theorem mf0{T:Tab}{n m:Nat}(h:n≤m):Le (goN T n) (goN T m):=by
 induction h with
 |refl=>intro _ _ _ _ _ h;exact h
 |step _ ih=>intro rs ks fr h r hr;exact gy9 _ _ _ _ _ _ (ih _ _ _ _ _ hr)
open Classical in
noncomputable def go (T:Tab) (rs:List ARes) (ks:List It) (fr:Fr) (h:H):Res:=
 if hx: ∃r,∃n,goN T n rs ks fr h=some r then some (Classical.choose hx)else none
theorem ge4{T:Tab}{rs ks fr h r}:go T rs ks fr h=some r↔ ∃n,goN T n rs ks fr h=some r:=by
 unfold go
 constructor
 ·intro he
  split at he
  ·rename_i hx
   have:=jl7 hx
   simp only[hx3]at he
   rw[he]at this
   exact this
  ·cases he
 ·rintro⟨n,hn⟩
  have hx: ∃r,∃n,goN T n rs ks fr h=some r:=⟨r,n,hn⟩
  rw[dif_pos hx]
  obtain⟨m,hm⟩:=jl7 hx
  have h1:=mf0 (uy4 n m) _ _ _ _ _ hn
  have h2:=mf0 (x26 n m) _ _ _ _ _ hm
  rw[h1]at h2
  exact h2.symm
theorem dw6{T:Tab}{rs ks fr h r}(he:gF T (go T) rs ks fr h=some r): ∃n,gF T (goN T n) rs ks fr h=some r:=by
 have one: ∀{rs ks fr h r},go T rs ks fr h=some r→ ∃n,goN T n rs ks fr h=some r:=fun h=>ge4.1 h
 have ent: ∀{f vs h r},enter T (go T) f vs h=some r→ ∃n,enter T (goN T n) f vs h=some r:=by
  intro f vs h r he
  unfold enter at he⊢
  cases hT:T f with
  |none=>rw[hT]at he;cases he
  |some F=>
   rw[hT]at he
   simp only at he⊢
   split at he
   ·rename_i hl
    obtain⟨n,hn⟩:=one he
    exact⟨n,by rw[if_pos hl];exact hn⟩
   ·cases he
 have cor: ∀{n0 o fr h r},core T (go T) n0 o fr h=some r→ ∃n,core T (goN T n) n0 o fr h=some r:=by
  intro n0 o fr h r he
  unfold core at he⊢
  split at he
  ·exact⟨0,he⟩
  ·split at he
   ·split at he
    ·split at he
     ·rename_i h1
      obtain⟨n,hn⟩:=ent h1
      exact⟨n,by simp only[hn];exact he⟩
     ·cases he
    ·cases he
   ·split at he
    ·split at he
     ·split at he
      ·rename_i h1
       obtain⟨n,hn⟩:=ent h1
       exact⟨n,by rw[if_pos ‹_›];simp only[hn];exact he⟩
      ·cases he
     ·cases he
    ·cases he
   ·exact⟨0,he⟩
  ·cases he
 have stp: ∀{n0 o fr h r},km6 T (go T) n0 o fr h=some r→ ∃n,km6 T (goN T n) n0 o fr h=some r:=by
  intro n0 o fr h r he
  unfold km6 at he⊢
  split at he
  ·rename_i hc
   obtain⟨n,hn⟩:=cor hc
   exact⟨n,by simp only[hn];exact he⟩
  ·cases he
 have ops: ∀{n0:Nat} {l fr h r},gf4 T (go T) n0 l fr h=some r→ ∃n,gf4 T (goN T n) n0 l fr h=some r:=by
  intro n0 l
  induction l with
  |nil=>intro fr h r he;exact⟨0,he⟩
  |cons o l ih=>
   intro fr h r he
   simp only[gf4]at he⊢
   split at he
   ·rename_i h1
    obtain⟨n,hn⟩:=stp h1
    obtain⟨m,hm⟩:=ih he
    refine⟨max n m, ?_⟩
    rw[em4 (mf0 (uy4 n m)) hn]
    exact ey4 (mf0 (x26 n m)) hm
   ·cases he
 unfold gF at he⊢
 split at he<;>first|exact one he|(cases he;done)|skip
 ·exact⟨0,he⟩
 ·exact⟨0,he⟩
 ·split at he
  ·exact one he
  ·cases he
 ·split at he
  ·exact one he
  ·cases he
 ·split at he
  ·rename_i h1
   obtain⟨n,hn⟩:=ops h1
   obtain⟨m,hm⟩:=one he
   refine⟨max n m, ?_⟩
   simp only[ey4 (mf0 (uy4 n m)) hn]
   exact mf0 (x26 n m) _ _ _ _ _ hm
  ·cases he
theorem go_eq(T:Tab)(rs:List ARes)(ks:List It)(fr:Fr)(h:H):go T rs ks fr h=gF T (go T) rs ks fr h:=by
 have hle: ∀n,Le (goN T n) (go T):=fun n rs ks fr h r hr=>ge4.2 ⟨n,hr⟩
 cases hg:gF T (go T) rs ks fr h with
 |some r=>
  obtain⟨n,hn⟩:=dw6 hg
  exact ge4.2 ⟨n+1,hn⟩
 |none=>
  cases hx:go T rs ks fr h with
  |none=>rfl
  |some r=>
   obtain⟨n,hn⟩:=ge4.1 hx
   cases n with
   |zero=>cases hn
   |succ n=>
    have:=fi1 (hle n) rs ks fr h r hn
    rw[hg]at this
    cases this
noncomputable def call (T:Tab) (f:FuncId) (vs:List Value) (h:H):Res:=enter T (go T) f vs h
end Go.Am
namespace Go.Am
structure Ent where
 blk:Nat
 sh:Nat
 cap:Nat
 unit:Nat
 own:Bool
def Ent.mp(e:Ent):Bool:=e.own&&decide (e.cap<e.sh)
theorem Ent.mp_le{b sh cap u:Nat}{w:Bool}(h:sh≤cap):(⟨b,sh,cap,u,w⟩:Ent).mp=false:=by
 unfold Ent.mp;simp;intro _;omega
theorem Ent.mp_ro{e:Ent}(h:e.own=false):e.mp=false:=by unfold Ent.mp;rw[h];rfl
abbrev Ren:=Nat→Ent
inductive VR (φ:Ren) (n:Nat):Value→Value→Prop
 |bool (b:Bool):VR φ n (.bool b) (.bool b)
 |int (k:IntKind) (i:Int):VR φ n (.int k i) (.int k i)
 |float (k:FloatKind) (i:Nat):VR φ n (.float k i) (.float k i)
 |str (s:ByteArray):VR φ n (.string s) (.string s)
 |nilFunc:VR φ n .nilFunc .nilFunc
 |nilIface:VR φ n .nilIface .nilIface
 |pnil:VR φ n (.pointer none) (.pointer none)
 |snil:VR φ n (.slice none 0 0) (.slice none 0 0)
 |mnil:VR φ n (.map none) (.map none)
 |ptr (o off:Nat):o<n→(φ o).mp=false→VR φ n (.pointer (some ⟨o,off,none⟩)) (.pointer (some ⟨(φ o).blk,(φ o).sh+off,none⟩))
 |sl (o off l c c' q:Nat):o<n→(φ o).mp=false→c≤c'→(q=(φ o).sh+off∨(l=0∧c=0))→((φ o).own=true→q+c'*(φ o).unit≤(φ o).cap∧c'≤9223372036854775807)→
   VR φ n (.slice (some ⟨o,off,none⟩) l c) (.slice (some ⟨(φ o).blk,q,none⟩) l c')
  /-- an empty slice that came in: its address says nothing -/
 |slz (o off:Nat) (x:Addr):o<n→(φ o).own=false→VR φ n (.slice (some ⟨o,off,none⟩) 0 0) (.slice (some x) 0 0)
 |map (o:Nat):o<n→(φ o).mp=true→VR φ n (.map (some o)) (.map (some (φ o).blk))
 |func (f:FuncId) (cs cs':Array Value):cs.size=cs'.size→(∀i (h:i<cs.size) (h':i<cs'.size),VR φ n cs[i] cs'[i])→VR φ n (.func (.func f) #[] cs) (.func (.func f) #[] cs')
 |agg (cs cs':Array Value):cs.size=cs'.size→(∀i (h:i<cs.size),cs[i].oneCell'=true)→(∀i (h:i<cs.size) (h':i<cs'.size),VR φ n cs[i] cs'[i])→VR φ n (.agg cs) (.agg cs')
 |tuple (cs cs':Array Value):cs.size=cs'.size→(∀i (h:i<cs.size) (h':i<cs'.size),VR φ n cs[i] cs'[i])→VR φ n (.tuple cs) (.tuple cs')
def Ext(φ:Ren)(n:Nat)(φ':Ren):Prop:= ∀o,o<n→φ' o=φ o
theorem Ext.refl(φ:Ren)(n:Nat):Ext φ n φ:=fun _ _=>rfl
theorem Ext.trans{φ φ' φ'':Ren}{n n':Nat}(h:Ext φ n φ')(h':Ext φ' n' φ'')(hn:n≤n'):Ext φ n φ'':=
 fun o ho=>(h' o (by omega)).trans (h o ho)
theorem VR.mono{φ φ':Ren}{n n':Nat}{v v':Value}(h:VR φ n v v')(he:Ext φ n φ')(hn:n≤n'):VR φ' n' v v':=by
 induction h with
 |bool b=>exact .bool b
 |int k i=>exact .int k i
 |float k i=>exact .float k i
 |str s=>exact .str s
 |nilFunc=>exact .nilFunc
 |nilIface=>exact .nilIface
 |pnil=>exact .pnil
 |snil=>exact .snil
 |mnil=>exact .mnil
 |ptr o off ho hm=>rw[←he o ho];exact .ptr o off (by omega) (by rw[he o ho];exact hm)
 |map o ho hm=>rw[←he o ho];exact .map o (by omega) (by rw[he o ho];exact hm)
 |sl o off l c c' q ho hm hc hq hcap=>rw[←he o ho];exact .sl o off l c c' q (by omega) (by rw[he o ho];exact hm) hc (by rw[he o ho];exact hq) (by rw[he o ho];exact hcap)
 |slz o off x ho hw=>exact .slz o off x (by omega) (by rw[he o ho];exact hw)
 |func f cs cs' hs _ ih=>exact .func f cs cs' hs ih
 |agg cs cs' hs h1 _ ih=>exact .agg cs cs' hs h1 ih
 |tuple cs cs' hs _ ih=>exact .tuple cs cs' hs ih
theorem VR.one{φ:Ren}{n:Nat}{v v':Value}(h:VR φ n v v'):v'.oneCell'=v.oneCell':=by cases h<;>rfl
def LR(φ:Ren)(n:Nat)(l l':List Value):Prop:=l.length=l'.length∧ ∀(i:Nat) (v:Value),l[i]? =some v→ ∃v',l'[i]? =some v'∧VR φ n v v'
theorem LR.nil(φ:Ren)(n:Nat):LR φ n [] []:=⟨rfl,fun i v h=>by simp at h⟩
theorem LR.cons{φ:Ren}{n:Nat}{v v':Value}{l l':List Value}(hv:VR φ n v v')(hl:LR φ n l l'):LR φ n (v::l) (v'::l'):=by
 refine⟨by simp[hl.1],fun i u h=> ?_⟩
 cases i with
 |zero=>simp at h;subst h;exact⟨v',rfl,hv⟩
 |succ i=>simpa using hl.2 i u (by simpa using h)
theorem LR.append{φ:Ren}{n:Nat}{a a' b b':List Value}(ha:LR φ n a a')(hb:LR φ n b b'):LR φ n (a++b) (a'++b'):=by
 refine⟨by simp[ha.1,hb.1],fun i v h=> ?_⟩
 by_cases hi:i<a.length
 ·rw[bu4 hi]at h
  rw[bu4 (by rw[←ha.1];exact hi)]
  exact ha.2 i v h
 ·rw[lp1 (by omega)]at h
  rw[lp1 (by rw[←ha.1];omega),←ha.1]
  exact hb.2 _ v h
theorem LR.take{φ:Ren}{n:Nat}{a a':List Value}(ha:LR φ n a a')(k:Nat):LR φ n (a.take k) (a'.take k):=by
 refine⟨by simp[ha.1],fun i v h=> ?_⟩
 rw[td4]at h⊢
 split at h
 ·rw[if_pos ‹_›];exact ha.2 i v h
 ·cases h
theorem LR.drop{φ:Ren}{n:Nat}{a a':List Value}(ha:LR φ n a a')(k:Nat):LR φ n (a.drop k) (a'.drop k):=by
 refine⟨by simp[ha.1],fun i v h=> ?_⟩
 rw[s96]at h⊢
 exact ha.2 _ v h
theorem LR.hu1{φ:Ren}{n:Nat}{a a' b b':List Value}(ha:LR φ n a a')(hb:LR φ n b b')(off:Nat):LR φ n (hu1 a off b) (hu1 a' off b'):=by
 unfold Am.hu1
 rw[hb.1]
 exact((ha.take off).append hb).append (ha.drop _)
theorem LR.of_arrays{φ:Ren}{n:Nat}{cs cs':Array Value}(hs:cs.size=cs'.size)(h: ∀i (h:i<cs.size) (h':i<cs'.size),VR φ n cs[i] cs'[i]):LR φ n cs.toList cs'.toList:=by
 refine⟨by simpa using hs,fun i v hv=> ?_⟩
 rw[Array.getElem?_toList]at hv⊢
 obtain⟨hi,he⟩:=un8.1 hv
 exact⟨cs'[i]'(by omega),by simp[hs▸hi],he▸h i hi (by omega)⟩
theorem LR.arrays{φ:Ren}{n:Nat}{l l':List Value}(h:LR φ n l l'): ∀i (h:i<l.toArray.size) (h':i<l'.toArray.size),VR φ n l.toArray[i] l'.toArray[i]:=by
 intro i h1 h2
 obtain⟨v',h3,h4⟩:=h.2 i l[i] (by simp[wu3 (show i<l.length by simpa using h1)])
 simp at h1 h2⊢
 rw[wu3 h2]at h3
 simp at h3
 rw[h3];exact h4
theorem LR.one{φ:Ren}{n:Nat}{l l':List Value}(h:LR φ n l l')(h1: ∀v∈l,v.oneCell'=true): ∀v∈l',v.oneCell'=true:=by
 intro v' hv'
 obtain⟨i,hi,he⟩:=zd4 hv'
 have hil:i<l.length:=by rw[h.1];exact hi
 obtain⟨u,h2,h3⟩:=h.2 i l[i] (wu3 hil)
 rw[wu3 hi]at h2
 simp at h2
 rw[←he,h2,h3.one]
 exact h1 _ (ws6 hil)
theorem VR.cells{φ:Ren}{n:Nat}{v v':Value}(h:VR φ n v v'):LR φ n v.cells.toList v'.cells.toList:=by
 cases h with
 |agg cs cs' hs _ hh=>exact LR.of_arrays hs hh
 |_=>refine LR.cons ?_ (LR.nil _ _);constructor<;>assumption
theorem VR.cells_size{φ:Ren}{n:Nat}{v v':Value}(h:VR φ n v v'):v'.cells.size=v.cells.size:=by
 have:=h.cells.1;simpa using this.symm
theorem VR.cells_one{φ:Ren}{n:Nat}{v v':Value}(h:VR φ n v v')(hf:flat v=true): ∀c∈v.cells.toList,c.oneCell'=true:=by
 cases h with
 |agg cs cs' hs h1 hh=>
  intro c hc
  obtain⟨i,hi,he⟩:=zd4 hc
  have:i<cs.size:=by simpa [Value.cells]using hi
  rw[←he];simpa [Value.cells]using h1 i this
 |tuple=>cases hf
 |_=>intro c hc;simp[Value.cells]at hc;subst hc;rfl
theorem en6{φ:Ren}{n:Nat}{v:Value}(h:tc5 v=true):VR φ n v v∧v.oneCell'=true:=by
 unfold tc5 at h
 split at h<;>first|cases h;done|exact⟨by constructor,rfl⟩
theorem xq5{φ:Ren}{n:Nat}{v:Value}(h:closed v=true):VR φ n v v:=by
 unfold closed at h
 split at h
 ·rename_i cs
  rw[Array.all_eq_true]at h
  exact .agg cs cs rfl (fun i hi=>(en6 (φ:=φ) (n:=n) (h i hi)).2) fun i hi _=>(en6 (h i hi)).1
 ·rename_i cs
  rw[Array.all_eq_true]at h
  exact .tuple cs cs rfl fun i hi _=>(en6 (h i hi)).1
 ·exact(en6 h).1
theorem ko0{φ:Ren}{n:Nat}{l:List Value}(h:l.all tc5=true):LR φ n l l:=by
 rw[p92]at h
 exact⟨rfl,fun i v hv=>⟨v,hv,(en6 (h v (vf6 hv))).1⟩⟩
def FR(φ:Ren)(n nt:Nat)(fr:Fr)(tmps:Array Value):Prop:=nt≤tmps.size∧ ∀(t:Nat) (v:Value),fr t=some v→ ∃v',tmps[t]? =some v'∧VR φ n v v'
theorem FR.mono{φ φ':Ren}{n n' nt:Nat}{fr:Fr}{tmps:Array Value}(h:FR φ n nt fr tmps)(he:Ext φ n φ')(hn:n≤n'):FR φ' n' nt fr tmps:=
 ⟨h.1,fun t v hv=>let⟨v',h1,h2⟩:=h.2 t v hv;⟨v',h1,h2.mono he hn⟩⟩
theorem beq_true{a b:Nat}(h:Nat.beq a b=true):a=b:=bg4 h
theorem FR.put{φ:Ren}{n nt:Nat}{fr:Fr}{a:Act}(h:FR φ n nt fr a.tmps)(dst:Option Nat)(hd: ∀d,dst=some d→d<nt)(v:Option Value)(v':Value)
 (hv: ∀u:Value,v=some u→VR φ n u v'):FR φ n nt (fr.put dst v) (a.put dst v').tmps:=by
 cases dst with
 |none=>exact h
 |some d=>
  have hdn:=hd d rfl
  have hds:d<a.tmps.size:=ui6 hdn h.1
  refine⟨by simpa [Act.put]using h.1,fun t u hu=> ?_⟩
  simp only[Act.put]
  have hcase:(Nat.beq t d=true∧v=some u)∨(Nat.beq t d=false∧fr t=some u):=by
   cases v with
   |none=>
    simp only[Fr.put,Fr.del]at hu
    cases hb:Nat.beq t d with
    |true=>rw[hb]at hu;cases hu
    |false=>rw[hb]at hu;exact .inr ⟨rfl,hu⟩
   |some v=>
    simp only[Fr.put,Fr.set]at hu
    cases hb:Nat.beq t d with
    |true=>rw[hb]at hu;exact .inl ⟨rfl,hu⟩
    |false=>rw[hb]at hu;exact .inr ⟨rfl,hu⟩
  rcases hcase with⟨hb,rfl⟩|⟨hb,hu⟩
  ·obtain rfl:=beq_true hb
   exact⟨v',by simp[hds],hv u rfl⟩
  ·have hne:d≠t:=by rintro rfl;rw[b55]at hb;cases hb
   rw[gb7 hne]
   exact h.2 t u hu
theorem lr7(fr:Fr): ∀(ks:List Nat) (t:Nat) (v:Value),Fr.of (hy3 fr ks) t=some v→fr t=some v
 | [],t,v,h=>by simp[hy3,Fr.of]at h
 |k::ks,t,v,h=>by
  simp only[hy3]at h
  cases hk:fr k with
  |none=>rw[hk]at h;exact lr7 fr ks t v h
  |some u=>
   rw[hk]at h
   simp only[Fr.of]at h
   cases hb:Nat.beq t k with
   |true=>rw[hb]at h;obtain rfl:=beq_true hb;rw[hk];exact h
   |false=>rw[hb]at h;exact lr7 fr ks t v h
theorem ea0(vs:List Value): ∀(k t:Nat) (v:Value),Fr.args k vs t=some v→k≤t∧vs[t-k]? =some v:=by
 induction vs with
 |nil=>intro k t v h;simp[Fr.args]at h
 |cons u vs ih=>
  intro k t v h
  simp only[Fr.args]at h
  cases hb:Nat.beq t k with
  |true=>rw[hb]at h;obtain rfl:=beq_true hb;simp at h;subst h;exact⟨jj6 _,by simp⟩
  |false=>
   rw[hb]at h
   obtain⟨h1,h2⟩:=ih (k+1) t v h
   exact⟨by omega,by rw[show t-k=(t-(k+1))+1 by omega];simpa using h2⟩
structure Bel (B:Nat→Prop) (w w':World):Prop where
 os:w'.os=w.os
 tape:w'.tape=w.tape
 output:w'.output=w.output
 size:w.heap.size≤w'.heap.size
 block: ∀k,B k→w'.heap[k]? =w.heap[k]?
abbrev old(w:World):Nat→Prop:=fun k=>k<w.heap.size
theorem Bel.refl(B:Nat→Prop)(w:World):Bel B w w:=⟨rfl,rfl,rfl,jj6 _,fun _ _=>rfl⟩
theorem Bel.trans{B:Nat→Prop}{w w1 w2:World}(h:Bel B w w1)(g:Bel B w1 w2):Bel B w w2:=
 ⟨g.os.trans h.os,g.tape.trans h.tape,g.output.trans h.output,md7 h.size g.size,fun k hk=>(g.block k hk).trans (h.block k hk)⟩
inductive MRel (φ:Ren) (n:Nat):List Value→List MapEntry→Prop
 |nil:MRel φ n [] []
 |cons {k:IntKind} {i:Int} {c:Value} {e:MapEntry} {cs:List Value} {es:List MapEntry}:e.key= .int k i→VR φ n c e.val→MRel φ n cs es→MRel φ n (.int k i::c::cs) (e::es)
theorem MRel.mono{φ φ':Ren}{n n':Nat}{cs:List Value}{es:List MapEntry}(h:MRel φ n cs es)(he:Ext φ n φ')(hn:n≤n'):MRel φ' n' cs es:=by
 induction h with
 |nil=>exact .nil
 |cons h1 h2 _ ih=>exact .cons h1 (h2.mono he hn) ih
structure HR (φ:Ren) (B:Nat→Prop) (h:H) (w:World):Prop where
 mpo: ∀o r,h.row o=some r→r.own=true→(φ o).mp=true→(φ o).unit=r.unit∧ ¬B (φ o).blk∧
  ∃es ck,w.heap[(φ o).blk]? =some (.map es ck)∧MRel φ h.length r.cells es.toList
 own: ∀o r,h.row o=some r→r.own=true→(φ o).mp=false→(φ o).own=true∧(φ o).unit=r.unit∧ ¬B (φ o).blk∧
  ∃cur,w.heap[(φ o).blk]? =some (.cells cur r.elem (0,0))∧cur.size=(φ o).cap∧ ∀(i:Nat) (c:Value),r.cells[i]? =some c→ ∃v,cur[(φ o).sh+i]? =some v∧VR φ h.length c v
 ro: ∀o r,h.row o=some r→r.own=false→(φ o).own=false∧ ∀(i:Nat) (c:Value),r.cells[i]? =some c→B (φ o).blk∧ ∃v,w.cell? ⟨(φ o).blk,(φ o).sh+i,none⟩=some v∧VR φ h.length c v
 one: ∀o r,h.row o=some r→ ∀c∈r.cells,c.oneCell'=true
 inj: ∀o o' r r',h.row o=some r→h.row o'=some r'→r.own=true→r'.own=true→(φ o).blk=(φ o').blk→o=o'
 size: ∀k,B k→k<w.heap.size
theorem fz4{h:H}{o:Nat}{r:Row}(hr:h.row o=some r):o<h.length:=by
 unfold H.row at hr
 split at hr
 ·rename_i hh
  exact(ck5.1 hh).1
 ·cases hr
theorem l28{h:H}{b:List Ob}{o:Nat}(ho:o<h.length):H.row (h++b) o=h.row o:=by
 unfold H.row;rw[bu4 ho]
theorem yi9{h:H}{r:Row}:H.row (h++[.row r]) h.length=some r:=by
 unfold H.row;simp
theorem v39{h:H}{r r':Row}{o:Nat}(hr:H.row (h++[.row r]) o=some r'):(o<h.length∧h.row o=some r')∨(o=h.length∧r'=r):=by
 have hlt:=fz4 hr
 simp at hlt
 by_cases ho:o<h.length
 ·exact .inl ⟨ho,by rw[l28 ho]at hr;exact hr⟩
 ·obtain rfl:o=h.length:=by omega
  rw[yi9]at hr
  exact .inr ⟨rfl,by simpa using hr.symm⟩
theorem ro8{h:H}{o o':Nat}{b:Ob}:H.row (h.set o b) o'=if o=o'∧o<h.length then(match b with| .row r=>some r|_=>none)else h.row o':=by
 unfold H.row
 rw[gy2]
 by_cases he:o=o'
 ·subst he
  by_cases hl:o<h.length
  ·simp[hl];cases b<;>rfl
  ·simp[hl]
 ·simp[he]
theorem HR.cell{φ:Ren}{B:Nat→Prop}{h:H}{w:World}(hh:HR φ B h w){o:Nat}{r:Row}(hr:h.row o=some r)(hm:(φ o).mp=false){i:Nat}{c:Value}(hc:r.cells[i]? =some c):
 ∃v,w.cell? ⟨(φ o).blk,(φ o).sh+i,none⟩=some v∧VR φ h.length c v:=by
 cases ho:r.own with
 |true=>
  obtain⟨_,_,_,cur,h1,_,h2⟩:=hh.own o r hr ho hm
  obtain⟨v,h3,h4⟩:=h2 i c hc
  refine⟨v, ?_,h4⟩
  rw[cell_of_row w _ _ cur _ _ h1]
  exact h3
 |false=>exact((hh.ro o r hr ho).2 i c hc).2
theorem HR.blk_lt{φ:Ren}{B:Nat→Prop}{h:H}{w:World}(hh:HR φ B h w){o:Nat}{r:Row}(hr:h.row o=some r)(ho:r.own=true):(φ o).blk<w.heap.size:=by
 cases hm:(φ o).mp with
 |true=>
  obtain⟨_,_,es,ck,h3,_⟩:=hh.mpo o r hr ho hm
  exact(un8.1 h3).1
 |false=>
  obtain⟨_,_,_,cur,h4,_⟩:=hh.own o r hr ho hm
  exact(un8.1 h4).1
theorem HR.same{φ:Ren}{B:Nat→Prop}{h:H}{w w':World}(hh:HR φ B h w)(hs:w.heap.size≤w'.heap.size)
 (hb: ∀k,k<w.heap.size→w'.heap[k]? =w.heap[k]?):HR φ B h w':=by
 refine⟨fun o r hr ho hm=> ?_,fun o r hr ho hm=> ?_,fun o r hr ho=> ?_,hh.one,hh.inj,fun k hk=>ui6 (hh.size k hk) hs⟩
 ·obtain⟨h0,h2,es,ck,h3,h4⟩:=hh.mpo o r hr ho hm
  exact⟨h0,h2,es,ck,by rw[hb _ (un8.1 h3).1];exact h3,h4⟩
 ·obtain⟨h0,h2,h3,cur,h4,h5,h6⟩:=hh.own o r hr ho hm
  exact⟨h0,h2,h3,cur,by rw[hb _ (un8.1 h4).1];exact h4,h5,h6⟩
 ·obtain⟨hn,h1⟩:=hh.ro o r hr ho
  refine⟨hn,fun i c hc=> ?_⟩
  obtain⟨h0,v,h2,h3⟩:=h1 i c hc
  exact⟨h0,v,by rw[←h2];exact World.cell?_of_block (hb _ (hh.size _ h0)),h3⟩
def Ren.with(φ:Ren)(n:Nat)(e:Ent):Ren:=fun o=>if o=n then e else φ o
theorem Ext.with(φ:Ren)(n:Nat)(e:Ent):Ext φ n (φ.with n e):=fun o ho=>by simp[Ren.with];intro h;omega
theorem Ren.with_same(φ:Ren)(n:Nat)(e:Ent):φ.with n e n=e:=by simp[Ren.with]
theorem HR.push{φ:Ren}{B:Nat→Prop}{h:H}{w w':World}(hh:HR φ B h w)(r:Row)(b sh:Nat)(cur:Array Value)(hle:sh≤cur.size)
 (hr:r.own=true) (hsz:w.heap.size≤w'.heap.size) (hold: ∀k,k<w.heap.size→k≠b→w'.heap[k]? =w.heap[k]?) (hB: ¬B b)
 (hfree: ∀o r,h.row o=some r→r.own=true→(φ o).blk≠b) (hb:w'.heap[b]? =some (.cells cur r.elem (0,0)))
 (hone: ∀c∈r.cells,c.oneCell'=true) (hcur: ∀(i:Nat) (c:Value),r.cells[i]? =some c→ ∃v,cur[sh+i]? =some v∧VR φ h.length c v):
 HR (φ.with h.length ⟨b,sh,cur.size,r.unit,true⟩) B (h++[.row r]) w':=by
 have hext:=Ext.with φ h.length ⟨b,sh,cur.size,r.unit,true⟩
 have hlen:(h++[Ob.row r]).length=h.length+1:=by simp
 have hmono: ∀{c v},VR φ h.length c v→VR (φ.with h.length ⟨b,sh,cur.size,r.unit,true⟩) (h++[Ob.row r]).length c v:=fun hv=>hv.mono hext (by omega)
 refine⟨fun o r' hr' ho hm=> ?_,fun o r' hr' ho hm=> ?_,fun o r' hr' ho=> ?_,fun o r' hr'=> ?_,fun o o' r1 r2 h1 h2 o1 o2 he=> ?_,fun k hk=>ui6 (hh.size k hk) hsz⟩
 ·rcases v39 hr' with⟨hlt,hr'⟩|⟨rfl,rfl⟩
  ·rw[hext o hlt]at hm⊢
   obtain⟨h0,h2,es,ck,h3,h4⟩:=hh.mpo o r' hr' ho hm
   exact⟨h0,h2,es,ck,by rw[hold _ (un8.1 h3).1 (hfree o r' hr' ho)];exact h3,h4.mono hext (by omega)⟩
  ·rw[Ren.with_same,Ent.mp_le hle]at hm;cases hm
 ·rcases v39 hr' with⟨hlt,hr'⟩|⟨rfl,rfl⟩
  ·rw[hext o hlt]at hm⊢
   obtain⟨h0,h2,h3,cur',h4,h5,h6⟩:=hh.own o r' hr' ho hm
   refine⟨h0,h2,h3,cur', ?_,h5,fun i c hc=>let⟨v,h7,h8⟩:=h6 i c hc;⟨v,h7,hmono h8⟩⟩
   rw[hold _ (un8.1 h4).1 (hfree o r' hr' ho)];exact h4
  ·rw[Ren.with_same]
   exact⟨rfl,rfl,hB,cur,hb,rfl,fun i c hc=>let⟨v,h7,h8⟩:=hcur i c hc;⟨v,h7,hmono h8⟩⟩
 ·rcases v39 hr' with⟨hlt,hr'⟩|⟨rfl,rfl⟩
  ·rw[hext o hlt]
   obtain⟨hn,h1⟩:=hh.ro o r' hr' ho
   refine⟨hn,fun i c hc=> ?_⟩
   obtain⟨h0,v,h2,h3⟩:=h1 i c hc
   exact⟨h0,v,by rw[←h2];exact World.cell?_of_block (hold _ (hh.size _ h0) (fun e=>hB (e▸h0))),hmono h3⟩
  ·rw[hr]at ho;cases ho
 ·rcases v39 hr' with⟨hlt,hr'⟩|⟨rfl,rfl⟩
  ·exact hh.one o r' hr'
  ·exact hone
 ·rcases v39 h1 with⟨l1,k1⟩|⟨rfl,rfl⟩<;>rcases v39 h2 with⟨l2,k2⟩|⟨rfl,rfl⟩
  ·rw[hext o l1,hext o' l2]at he;exact hh.inj o o' r1 r2 k1 k2 o1 o2 he
  ·rw[hext o l1,Ren.with_same]at he;exact absurd he (hfree o r1 k1 o1)
  ·rw[hext o' l2,Ren.with_same]at he;exact absurd he.symm (hfree o' r2 k2 o2)
  ·rfl
theorem HR.kill{φ:Ren}{B:Nat→Prop}{h:H}{w:World}(hh:HR φ B h w)(o:Nat):HR φ B (Go.Am.kill h o) w:=by
 have hl:(Go.Am.kill h o).length=h.length:=by simp[Go.Am.kill]
 have hrow: ∀{o' r},(Go.Am.kill h o).row o'=some r→h.row o'=some r∧o'≠o:=by
  intro o' r hr
  have hlt:=fz4 hr
  rw[hl]at hlt
  unfold Go.Am.kill at hr
  rw[ro8]at hr
  split at hr
  ·cases hr
  ·rename_i hne;exact⟨hr,fun e=>hne ⟨e.symm,by omega⟩⟩
 refine⟨fun o' r hr ho hm=> ?_,fun o' r hr ho hm=> ?_,fun o' r hr ho=> ?_,fun o' r hr=>hh.one o' r (hrow hr).1,fun a b r r' h1 h2=>hh.inj a b r r' (hrow h1).1 (hrow h2).1,hh.size⟩
 ·rw[hl];exact hh.mpo o' r (hrow hr).1 ho hm
 ·rw[hl];exact hh.own o' r (hrow hr).1 ho hm
 ·rw[hl];exact hh.ro o' r (hrow hr).1 ho
end Go.Am
namespace Go.Am
open Go.RowKit (Below)
def cw9:TypeDesc→Bool
 | .struct _| .array _ _=>true
 |_=>false
def w12:Operand→Bool
 | .const (.slice none 0 0)| .const (.pointer none)| .const .nilFunc=>true
 |_=>false
def isZ1:List Value→Bool
 | [.int .i64 n]=>n==0
 |_=>false
theorem x89: ∀{l:List Value},isZ1 l=true→l=[.int .i64 0]:=by
 intro l h
 unfold isZ1 at h
 split at h
 ·have:=eq_of_beq h;subst this;rfl
 ·cases h
def mapE(t:TypeId):TypeId:=1000000000+t
def sv3(P:Program)(o:Oper):Option AOp:=
 match o.op with
 | .move x| .assign x=>some (.mv x)
 | .pick c a b=>some (.pick c a b)
 | .binOp op t x y _=>
   match P.underlying t with
   |some (.int _)|some .string=>some (.bin op x y)
   |some .bool=>match op with
    | .eql=>some (.eqb false x y)
    | .neq=>some (.eqb true x y)
    |_=>none
   |some (.slice _)=>if w12 y then match op,y with
     | .eql, .const (.slice none 0 0)=>some (.eqn false 0 x)
     | .neq, .const (.slice none 0 0)=>some (.eqn true 0 x)
     |_,_=>none else none
   |some (.pointer _)=>match op,y with
     | .eql, .const (.pointer none)=>some (.eqn false 1 x)
     | .neq, .const (.pointer none)=>some (.eqn true 1 x)
     |_,_=>none
   |some (.func _ _ _)=>match op,y with
     | .eql, .const .nilFunc=>some (.eqn false 2 x)
     | .neq, .const .nilFunc=>some (.eqn true 2 x)
     |_,_=>none
   |_=>none
 | .unOp op _ x=>some (.un op x)
 | .convert src dst x=>match P.underlying src,P.underlying dst with
   |some (.int _),some (.int k)=>some (.conv k x)
   |_,_=>none
 | .alloc t=>match P.info? t with
   |some i=>match i.zero with
    |some z=>if z.cells.all tc5 then some (.alloc t z.cells.toList)else none
    |none=>none
   |none=>none
 | .box t x=>match P.info? t with
   |some i=>some (.box t i.size x)
   |none=>none
 | .load t a=>match P.underlying t,P.info? t with
   |some d,some i=>some (.ld (cw9 d) i.size a)
   |_,_=>none
 | .store t a x=>match P.info? t with
   |some i=>some (.st i.size a x)
   |none=>none
 | .nilCheck x=>some (.nilck x)
 | .makeFunc (.func f) first cap=>if first.isEmpty then some (.mkf f cap.toList)else none
 | .makeSlice t l c=>match P.underlying t with
   |some (.slice e)=>match P.info? e with
    |some i=>match i.zero with
     |some z=>if z.cells.all tc5&&z.cells.size==i.size&&0<i.size then some (.mks e i.size i.bytes z.cells.toList l c)else none
     |none=>none
    |none=>none
   |_=>none
 | .slice t x lo hi none=>match P.underlying t with
   |some (.slice e)=>match P.info? e with
    |some i=>some (.sl i.size x lo hi)
    |none=>none
   |some .string=>some (.sls x lo hi)
   |_=>none
 | .slice t x none (some hi) (some mx)=>match P.underlying t with
   |some (.slice e)=>match P.info? e with
    |some _=>some (.sl3 x hi mx)
    |none=>none
   |_=>none
 | .fieldAddr s x f=>match P.underlying s with
   |some (.struct fs)=>match fs[f]? with
    |some fd=>match P.info? fd.type with
     |some i=>if i.size=0 then none else some (.faddr fd.offset x)
     |none=>none
    |none=>none
   |_=>none
 | .field s x f=>match P.underlying s with
   |some (.struct fs)=>match fs[f]? with
    |some fd=>match P.underlying fd.type,P.info? fd.type with
     |some d,some i=>some (.fld (cw9 d) fd.offset i.size x)
     |_,_=>none
    |none=>none
   |_=>none
 | .indexAddr t x ix=>match P.underlying t with
   |some (.slice e)=>match P.info? e with
    |some i=>some (.iaddr i.size x ix)
    |none=>none
   |some (.array n e)=>match P.info? e with
    |some i=>some (.iaddrA n i.size x ix)
    |none=>none
   |_=>none
 | .index t x ix=>match P.underlying t with
   |some (.array n e)=>match P.underlying e,P.info? e with
    |some d,some i=>some (.idxA n i.size (cw9 d) x ix)
    |_,_=>none
   |some .string=>some (.idxS x ix)
   |_=>none
 | .extract x i=>some (.ext i x)
 | .build t parts=>match P.info? t,P.underlying t with
   |some i,some (.struct fs)=>match i.zero,fs.toList.mapM (fun f=>(P.info? f.type).map fun i=>(f.offset,i.size))with
    |some z,some pl=>if z.cells.all tc5 then some (.build z.cells.toList pl parts.toList)else none
    |_,_=>none
   |some i,some (.array n e)=>match i.zero,P.info? e with
    |some z,some ie=>if z.cells.all tc5 then some (.build z.cells.toList ((List.range n).map fun j=>(j*ie.size,ie.size)) parts.toList)else none
    |_,_=>none
   |_,_=>none
 | .buildSlice t len parts=>match P.underlying t with
   |some (.slice e)=>match P.info? e with
    |some i=>match i.zero with
     |some z=>if z.cells.all tc5&&z.cells.size==i.size&&(len*i.size≤16777216∧len≤16777216)&&parts.toList.map (·.1)==List.range len then some (.mkSl e i.size len (parts.toList.map (·.2)))else none
     |none=>none
    |none=>none
   |_=>none
 | .call c=>match c.callee with
   | .builtin .len=>match c.argTypes[0]?,c.args.toList with
     |some t,[x]=>match P.underlying t with
      |some (.slice _)=>some (.len x)
      |some .string=>some (.lenS x)
      |some (.array n _)=>some (.lenK n)
      |some (.pointer arr)=>match P.underlying arr with
       |some (.array n _)=>some (.lenK n)
       |_=>none
      |_=>none
     |_,_=>none
   | .builtin .append=>match c.argTypes.toList,c.args.toList with
     | [t,u],[s,x]=>if t=u then match P.underlying t with
       |some (.slice e)=>match P.info? e with
        |some i=>match i.zero with
         |some z=>if z.cells.size==i.size&&0<i.size then some (.app e i.size i.bytes s x)else none
         |none=>none
        |none=>none
       |_=>none else match P.underlying t,P.underlying u with
        |some (.slice e),some (.int _)=>match P.info? e with
         |some i=>match i.zero with
          |some z=>if isZ1 z.cells.toList&&i.size==1 then some (.appz e i.bytes s x)else none
          |none=>none
         |none=>none
        |_,_=>none
     |_,_=>none
   | .builtin .copy=>match c.argTypes.toList,c.args.toList with
     | [t,_],[d,s]=>match P.underlying t with
       |some (.slice e)=>match P.info? e with
        |some i=>some (.cpy i.size d s)
        |none=>none
       |_=>none
     |_,_=>none
   | .builtin .min=>some (.minmax false c.args.toList)
   | .builtin .max=>some (.minmax true c.args.toList)
   | .value (.func f)=>some (.call f c.args.toList)
   | .value x=>some (.calld x c.args.toList)
   |_=>none
 | .makeMap t r=>match r with
   |none=>some (.mmk (mapE t))
   |some _=>none
 | .lookup t x y ok=>if ok then none else match P.underlying t with
   |some (.map kt et)=>match P.underlying kt,P.info? et with
    |some (.int kd),some i=>match i.zero with
     |some z=>if tc5 z then some (.mget kd z x y)else none
     |none=>none
    |_,_=>none
   |_=>none
 | .mapUpdate t x y z=>match P.underlying t with
   |some (.map kt _)=>match P.underlying kt with
    |some (.int kd)=>some (.mput kd x y z)
    |_=>none
   |_=>none
 |_=>none
def OpOK(P:Program)(B:Nat→Prop)(φ:Ren)(h:H)(a:Act)(w:World)(o:Oper)(v:Option Value)(h':H):Prop:=
 ∃φ' v' w',(execOp a.eval o).run P w= .ok (match v with|some _=> .value v'|none=> .skip) w'∧(∀u,v=some u→VR φ' h'.length u v')∧
  HR φ' B h' w'∧Ext φ h.length φ'∧h.length≤h'.length∧Bel B w w'
section
variable {P:Program} {B:Nat→Prop} {φ:Ren} {nt:Nat} {fr:Fr} {h:H} {a:Act} {w:World}
theorem OpOK.pure{o:Oper}{v v':Value}(hH:HR φ B h w)(hr:(execOp a.eval o).run P w= .ok (.value v') w)(hv:VR φ h.length v v'):OpOK P B φ h a w o (some v) h:=
 ⟨φ,v',w,hr,fun u hu=>by cases hu;exact hv,hH,Ext.refl _ _,jj6 _,Bel.refl _ _⟩
theorem az8(hF:FR φ h.length nt fr a.tmps){x:Operand}{v:Value}(hx:ev fr x=some v):VR φ h.length v (a.eval x):=by
 cases x with
 |tmp t=>
  obtain⟨v',h1,h2⟩:=hF.2 t v hx
  simpa [Act.eval,h1]using h2
 |const c=>
  simp only[ev]at hx
  split at hx
  ·cases hx;exact xq5 ‹_›
  ·cases hx
 |global g=>cases hx
 |func f=>cases hx;exact .func f #[] #[] rfl (fun i h _=>by simp at h)
theorem rk2{n:Nat}{k:IntKind}{i:Int}{v':Value}(h:VR φ n (.int k i) v'):v'= .int k i:=by cases h;rfl
theorem xz4{n:Nat}{b:Bool}{v':Value}(h:VR φ n (.bool b) v'):v'= .bool b:=by cases h;rfl
theorem b58{n:Nat}{b:ByteArray}{v':Value}(h:VR φ n (.string b) v'):v'= .string b:=by cases h;rfl
theorem p23(hF:FR φ h.length nt fr a.tmps): ∀{xs:List Operand} {vs:List Value},evs fr xs=some vs→LR φ h.length vs (xs.map a.eval)
 | [],vs,hx=>by cases hx;exact LR.nil _ _
 |x::xs,vs,hx=>by
  simp only[evs]at hx
  split at hx
  ·rename_i v vs' h1 h2
   cases hx
   exact LR.cons (az8 hF h1) (p23 hF h2)
  ·cases hx
theorem s_mv{o:Oper}{x:Operand}(ho:o.op= .move x∨o.op= .assign x)(hF:FR φ h.length nt fr a.tmps)(hH:HR φ B h w){v h'}
 (ha:aop fr h (.mv x)=some (v,h')):OpOK P B φ h a w o v h':=by
 simp only[aop]at ha
 split at ha
 ·cases ha
  refine OpOK.pure hH ?_ (az8 hF ‹_›)
  rcases ho with ho|ho<;>simp[execOp,ho]
 ·cases ha
theorem b19{o:Oper}{c x y:Operand}(ho:o.op= .pick c x y)(hF:FR φ h.length nt fr a.tmps)(hH:HR φ B h w){v h'}
 (ha:aop fr h (.pick c x y)=some (v,h')):OpOK P B φ h a w o v h':=by
 simp only[aop]at ha
 split at ha
 ·rename_i t hc
  have ec:=xz4 (az8 hF hc)
  split at ha
  ·rename_i v hv
   cases ha
   have:=az8 hF hv
   refine OpOK.pure hH ?_ this
   cases t<;>simp[execOp,ho,ec,asBool]
  ·cases ha
 ·cases ha
theorem kg1{o:Oper}{op:BinOp}{t u:TypeId}{x y:Operand}(ho:o.op= .binOp op t x y u)(hF:FR φ h.length nt fr a.tmps)(hH:HR φ B h w){v h'}
 (ha:aop fr h (.bin op x y)=some (v,h')):OpOK P B φ h a w o v h':=by
 simp only[aop]at ha
 split at ha
 ·rename_i p q hp hq
  split at ha
  ·rename_i v hv
   cases ha
   have rp:=az8 hF hp
   have rq:=az8 hF hq
   unfold abin at hv
   split at hv
   ·rename_i k m k' n
    have ep:=rk2 rp
    have eq:=rk2 rq
    have hg:(eqGuard op t x y (.int k m) (.int k' n)).run P w= .ok () w:=by unfold eqGuard;cases op<;>simp
    have sh: ∀{op':BinOp},op=op'→(op'= .shl∨op'= .shr)→th5 op' k m n=some v→OpOK P B φ h a w o (some v) h:=by
     intro op' e ho' hs
     subst e
     unfold th5 at hs
     split at hs
     ·cases hs
     ·rename_i hn
      rcases ho' with rfl|rfl<;>(cases hs;refine OpOK.pure hH ?_ (.int _ _);simp[execOp,ho,ep,eq,hg,binOp,Op.shift,hn])
    split at hv
    ·exact sh rfl (.inl rfl) hv
    ·exact sh rfl (.inr rfl) hv
    ·rename_i hne1 hne2
     split at hv
     ·rename_i hk
      subst hk
      have hrun:(binOp op t (.int k m) (.int k n)).run P w= .ok v w→tc5 v=true→OpOK P B φ h a w o (some v) h:=fun h1 h2=>
       OpOK.pure hH (by simp[execOp,ho,ep,eq,hg,h1]) (en6 h2).1
      cases op<;>simp only[aint]at hv<;>first
       |(cases hv;done)
       |(cases hv;refine hrun ?_ rfl;simp[binOp,Op.intArith,Op.intBits,Op.intCmp,bits];done)
       |(cases hv;refine hrun ?_ rfl;simp[binOp,Op.intCmp,bne];rfl)
       |(split at hv
         ·cases hv
         ·rename_i h0;cases hv;exact hrun (by simp[binOp,Op.intDiv,h0]) rfl)
     ·cases hv
   ·rename_i p q
    have ep:=b58 rp
    have eq:=b58 rq
    have hg:(eqGuard op t x y (.string p) (.string q)).run P w= .ok () w:=by unfold eqGuard;cases op<;>simp
    have hrun:(binOp op t (.string p) (.string q)).run P w= .ok v w→tc5 v=true→OpOK P B φ h a w o (some v) h:=fun h1 h2=>
     OpOK.pure hH (by simp[execOp,ho,ep,eq,hg,h1]) (en6 h2).1
    cases op<;>simp only[astr]at hv<;>first
     |(cases hv;done)
     |(cases hv;refine hrun ?_ rfl;simp[binOp,Op.stringOp];done)
     |(split at hv
       ·rename_i h0
        cases hv;refine hrun ?_ rfl;simp[binOp,Op.stringOp,IntKind.max,IntKind.signed,IntKind.bits];omega
       ·cases hv)
   ·cases hv
  ·cases ha
 ·cases ha
end
end Go.Am
namespace Go.Am
open Go.RowKit (Below)
theorem bq1{φ:Ren}{n:Nat}{a:Addr}{v':Value}(h:VR φ n (.pointer (some a)) v'):
 a.spot=none∧a.block<n∧(φ a.block).mp=false∧v'= .pointer (some ⟨(φ a.block).blk,(φ a.block).sh+a.off,none⟩):=by
 cases h;exact⟨rfl, ‹_›, ‹_›,rfl⟩
theorem bp5{φ:Ren}{n o:Nat}{v':Value}(h:VR φ n (.map (some o)) v'):o<n∧(φ o).mp=true∧v'= .map (some (φ o).blk):=by
 cases h;exact⟨‹_›, ‹_›,rfl⟩
theorem lu8{φ:Ren}{n:Nat}{a:Addr}{l c:Nat}{v':Value}(h:VR φ n (.slice (some a) l c) v'):(φ a.block).mp=false:=by
 cases h with
 |sl o off l c c' q h1 h2=>exact h2
 |slz o off x h1 h2=>exact Ent.mp_ro h2
theorem wy5{φ:Ren}{n:Nat}{a:Addr}{l c:Nat}{v':Value}(h:VR φ n (.slice (some a) l c) v'):
 a.spot=none∧a.block<n∧((l=0∧c=0∧(φ a.block).own=false∧ ∃x,v'= .slice (some x) 0 0)∨ ∃c' q,c≤c'∧(q=(φ a.block).sh+a.off∨(l=0∧c=0))∧((φ a.block).own=true→q+c'*(φ a.block).unit≤(φ a.block).cap)∧v'= .slice (some ⟨(φ a.block).blk,q,none⟩) l c'):=by
 cases h with
 |sl o off l c c' q h1 hm h2 h3 h4=>exact⟨rfl,h1, .inr ⟨_,_,h2,h3,fun ho=>(h4 ho).1,rfl⟩⟩
 |slz o off x h1 h2=>exact⟨rfl,h1, .inl ⟨rfl,rfl,h2,x,rfl⟩⟩
theorem eb2{φ:Ren}{n:Nat}{a x:Addr}{l c l' c':Nat}(h:VR φ n (.slice (some a) l c) (.slice (some x) l' c'))(ho:(φ a.block).own=true):c'≤9223372036854775807:=by
 cases h with
 |sl _ _ _ _ _ _ _ _ _ _ h4=>exact(h4 ho).2
 |slz _ _ _ _ hw=>simp only at ho;rw[hw]at ho;cases ho
theorem a29{φ:Ren}{n:Nat}{a:Addr}{l c:Nat}{v':Value}(h:VR φ n (.slice (some a) l c) v'): ∃x c',v'= .slice (some x) l c':=by
 obtain⟨_,_,h⟩:=wy5 h
 rcases h with⟨rfl,rfl,_,x,rfl⟩|⟨c',q,_,_,_,rfl⟩
 ·exact⟨x,0,rfl⟩
 ·exact⟨_,c',rfl⟩
theorem u06{φ:Ren}{n:Nat}{l c:Nat}{v':Value}(h:VR φ n (.slice none l c) v'):l=0∧c=0∧v'= .slice none 0 0:=by
 cases h;exact⟨rfl,rfl,rfl⟩
theorem lg1{φ:Ren}{n:Nat}{cs:Array Value}{v':Value}(h:VR φ n (.agg cs) v'):
 ∃cs',v'= .agg cs'∧LR φ n cs.toList cs'.toList∧ ∀c∈cs.toList,c.oneCell'=true:=by
 cases h with
 |agg _ cs' hs h1 hh=>
  refine⟨cs',rfl,LR.of_arrays hs hh,fun c hc=> ?_⟩
  obtain⟨i,hi,he⟩:=zd4 hc
  rw[←he];simpa using h1 i (by simpa using hi)
theorem LR.agg{φ:Ren}{n:Nat}{l l':List Value}(h:LR φ n l l')(h1: ∀c∈l,c.oneCell'=true):VR φ n (.agg l.toArray) (.agg l'.toArray):=
 .agg _ _ (by simpa using h.1) (fun i hi=>h1 _ (by simp)) h.arrays
theorem LR.tuple{φ:Ren}{n:Nat}{l l':List Value}(h:LR φ n l l'):VR φ n (.tuple l.toArray) (.tuple l'.toArray):=
 .tuple _ _ (by simpa using h.1) h.arrays
theorem LR.func{φ:Ren}{n:Nat}{l l':List Value}(f:FuncId)(h:LR φ n l l'):VR φ n (.func (.func f) #[] l.toArray) (.func (.func f) #[] l'.toArray):=
 .func _ _ _ (by simpa using h.1) h.arrays
theorem da1{φ:Ren}{n:Nat}{cs:Array Value}{v':Value}(h:VR φ n (.tuple cs) v'): ∃cs',v'= .tuple cs'∧LR φ n cs.toList cs'.toList:=by
 cases h with
 |tuple _ cs' hs hh=>exact⟨cs',rfl,LR.of_arrays hs hh⟩
theorem y71{P:Program}{t:TypeId}{d:TypeDesc}(hd:P.underlying t=some d)(w:World):(isAgg t).run P w= .ok (cw9 d) w:=by
 cases d<;>simp[isAgg,run_underlying hd,cw9]
theorem run_sizeOf{P:Program}{t:TypeId}{i:TypeInfo}(hi:P.info? t=some i)(w:World):(sizeOf t).run P w= .ok i.size w:=by
 simp[sizeOf,typeInfo,hi]
theorem jt8{P:Program}{t:TypeId}{i:TypeInfo}{z:Value}(hi:P.info? t=some i)(hz:i.zero=some z)(w:World):(zeroValue t).run P w= .ok z w:=by
 simp[zeroValue,typeInfo,hi,hz]
theorem sv1(b o n:Nat):(⟨b,o,none⟩:Addr).add n=⟨b,o+n,none⟩:=by
 unfold Addr.add;split<;>simp_all
theorem bf3{h:H}{o off n:Nat}{cs:List Value}(hl:h.lds o off n=some cs): ∃r,h.row o=some r∧off+n≤r.cells.length∧cs=(r.cells.drop off).take n:=by
 unfold H.lds at hl
 split at hl
 ·rename_i r hr
  split at hl
  ·cases hl;exact⟨r,hr, ‹_›,rfl⟩
  ·cases hl
 ·cases hl
theorem HR.cells{φ:Ren}{B:Nat→Prop}{h:H}{w:World}(hh:HR φ B h w){o off n:Nat}(hm:(φ o).mp=false){cs:List Value}(hl:h.lds o off n=some cs):
 cs.length=n∧(∀c∈cs,c.oneCell'=true)∧ ∃cs',LR φ h.length cs cs'∧ ∀(j:Nat) (v:Value),cs'[j]? =some v→w.cell? ((⟨(φ o).blk,(φ o).sh+off,none⟩:Addr).add j)=some v:=by
 obtain⟨r,hr,hn,rfl⟩:=bf3 hl
 have hlen:((r.cells.drop off).take n).length=n:=by simp;omega
 have hget: ∀j,j<n→ ∃v,w.cell? ((⟨(φ o).blk,(φ o).sh+off,none⟩:Addr).add j)=some v∧VR φ h.length (((r.cells.drop off).take n).getD j undef) v:=by
  intro j hj
  have hlt:off+j<r.cells.length:=by omega
  obtain⟨v,h1,h2⟩:=hh.cell hr hm (i:=off+j) (c:=r.cells[off+j]) (wu3 hlt)
  refine⟨v,by rw[sv1,q61];exact h1, ?_⟩
  rw[os6,td4,if_pos hj,s96,wu3 hlt]
  exact h2
 refine⟨hlen,fun c hc=>hh.one o r hr c (lq8 (tn5 hc)), ?_⟩
 refine⟨(List.range n).map fun j=>(w.cell? ((⟨(φ o).blk,(φ o).sh+off,none⟩:Addr).add j)).getD undef,⟨by simp;omega,fun j v hj=> ?_⟩,fun j v hj=> ?_⟩
 ·have hjn:j<n:=by have:=(ck5.1 hj).1;omega
  obtain⟨u,h1,h2⟩:=hget j hjn
  refine⟨u,by simp[hjn,h1], ?_⟩
  rw[os6,hj]at h2
  exact h2
 ·have hjn:j<n:=by have:=(ck5.1 hj).1;simpa using this
  obtain⟨u,h1,h2⟩:=hget j hjn
  simp[hjn,h1]at hj
  rw[h1,hj]
section
variable {P:Program} {B:Nat→Prop} {φ:Ren} {nt:Nat} {fr:Fr} {h:H} {a:Act} {w:World} {o:Oper}
theorem dd9(d:Nat){t e:TypeId}(ht:P.underlying t=some (.slice e))(x:Option Addr)(l c:Nat):(Op.equalIn (d+1) t (.slice x l c) (.slice none 0 0)).run P w= .ok x.isNone w:=by
 cases x<;>simp[Op.equalIn,run_underlying ht]
theorem u91(d:Nat){t e:TypeId}(ht:P.underlying t=some (.pointer e))(x:Option Addr):(Op.equalIn (d+1) t (.pointer x) (.pointer none)).run P w= .ok x.isNone w:=by
 cases x<;>simp[Op.equalIn,run_underlying ht]
theorem cb3(d:Nat){t:TypeId}{p r:Array TypeId}{s:Bool}(ht:P.underlying t=some (.func p r s))(f:FuncId)(cs:Array Value):(Op.equalIn (d+1) t (.func (.func f) #[] cs) .nilFunc).run P w= .ok false w:=by
 simp[Op.equalIn,run_underlying ht]
theorem qh1(d:Nat){t:TypeId}{p r:Array TypeId}{s:Bool}(ht:P.underlying t=some (.func p r s)):(Op.equalIn (d+1) t .nilFunc .nilFunc).run P w= .ok true w:=by
 simp[Op.equalIn,run_underlying ht]
theorem k80(d:Nat){t:TypeId}(ht:P.underlying t=some .bool)(p q:Bool):(Op.equalIn (d+1) t (.bool p) (.bool q)).run P w= .ok (p==q) w:=by
 simp[Op.equalIn,run_underlying ht]
theorem cg8{neg:Bool}{t:TypeId}{x y:Operand}{p q:Value}{b:Bool}(h1:(Op.equal t p q).run P w= .ok b w)
 (hk:(∃m n,p= .bool m∧q= .bool n)∨(∃a l c,p= .slice a l c∧q= .slice none 0 0)∨(∃a,p= .pointer a∧q= .pointer none)∨(q= .nilFunc∧(p= .nilFunc∨ ∃f cs,p= .func (.func f) #[] cs))):
 ((do eqGuard (if neg then BinOp.neq else BinOp.eql) t x y p q;binOp (if neg then BinOp.neq else BinOp.eql) t p q):Sem Value).run P w= .ok (.bool (neg !=b)) w:=by
 have hg: ∀op,(eqGuard op t x y p q).run P w= .ok () w:=by
  intro op
  rcases hk with⟨m,n,rfl,rfl⟩|⟨a,l,c,rfl,rfl⟩|⟨a,rfl,rfl⟩|⟨rfl,rfl|⟨f,cs,rfl⟩⟩<;>(unfold eqGuard;cases op<;>simp)
 have hb:(binOp (if neg then BinOp.neq else BinOp.eql) t p q).run P w= .ok (.bool (neg !=b)) w:=by
  rcases hk with⟨m,n,rfl,rfl⟩|⟨a,l,c,rfl,rfl⟩|⟨a,rfl,rfl⟩|⟨rfl,rfl|⟨f,cs,rfl⟩⟩<;>(cases neg<;>simp[binOp,h1])
 simp only[Sem.run_bind,hg,Result.andThen_ok,hb]
theorem ws1{neg:Bool}{t u:TypeId}{x y:Operand}(ho:o.op= .binOp (if neg then .neq else .eql) t x y u)(ht:P.underlying t=some .bool)(hF:FR φ h.length nt fr a.tmps)(hH:HR φ B h w){v h'}
 (ha:aop fr h (.eqb neg x y)=some (v,h')):OpOK P B φ h a w o v h':=by
 simp only[aop]at ha
 split at ha
 ·rename_i p q hp hq
  cases ha
  have ep:=xz4 (az8 hF hp)
  have eq:=xz4 (az8 hF hq)
  refine OpOK.pure hH ?_ (.bool _)
  have:=cg8 (P:=P) (w:=w) (neg:=neg) (x:=x) (y:=y) (k80 (w:=w) 9999 ht p q) (.inl ⟨p,q,rfl,rfl⟩)
  simp only[execOp,ho,ep,eq]
  rw[Sem.run_bind,this];rfl
 ·cases ha
theorem sz1{neg:Bool}{k:Nat}{t u:TypeId}{x:Operand}{c:Value}(ho:o.op= .binOp (if neg then .neq else .eql) t x (.const c) u)
 (hk:(k=0∧c= .slice none 0 0∧ ∃e,P.underlying t=some (.slice e))∨(k=1∧c= .pointer none∧ ∃e,P.underlying t=some (.pointer e))∨(k=2∧c= .nilFunc∧ ∃p r s,P.underlying t=some (.func p r s)))
 (hF:FR φ h.length nt fr a.tmps) (hH:HR φ B h w) {v h'}
 (ha:aop fr h (.eqn neg k x)=some (v,h')):OpOK P B φ h a w o v h':=by
 simp only[aop]at ha
 split at ha
 ·rename_i p hp
  have rp:=az8 hF hp
  split at ha
  ·rename_i b hb
   cases ha
   refine OpOK.pure hH ?_ (.bool _)
   have key:((do eqGuard (if neg then BinOp.neq else BinOp.eql) t x (.const c) (a.eval x) c;binOp (if neg then BinOp.neq else BinOp.eql) t (a.eval x) c):Sem Value).run P w= .ok (.bool (neg !=b)) w:=by
    rcases hk with⟨rfl,rfl,e,ht⟩|⟨rfl,rfl,e,ht⟩|⟨rfl,rfl,e1,e2,e3,ht⟩
    ·unfold anil at hb
     split at hb<;>first|(exfalso;omega)|(cases hb;done)|skip
     ·cases hb
      generalize a.eval x=v' at rp⊢
      cases rp with
      |snil=>exact cg8 (dd9 (w:=w) 9999 ht none 0 0) (.inr (.inl ⟨_,_,_,rfl,rfl⟩))
      |sl=>exact cg8 (dd9 (w:=w) 9999 ht (some _) _ _) (.inr (.inl ⟨_,_,_,rfl,rfl⟩))
      |slz=>exact cg8 (dd9 (w:=w) 9999 ht (some _) _ _) (.inr (.inl ⟨_,_,_,rfl,rfl⟩))
    ·unfold anil at hb
     split at hb<;>first|(exfalso;omega)|(cases hb;done)|skip
     ·cases hb
      generalize a.eval x=v' at rp⊢
      cases rp with
      |pnil=>exact cg8 (u91 (w:=w) 9999 ht none) (.inr (.inr (.inl ⟨_,rfl,rfl⟩)))
      |ptr=>exact cg8 (u91 (w:=w) 9999 ht (some _)) (.inr (.inr (.inl ⟨_,rfl,rfl⟩)))
    ·unfold anil at hb
     split at hb<;>first|(exfalso;omega)|(cases hb;done)|skip
     ·cases hb
      generalize a.eval x=v' at rp⊢
      cases rp with
      |nilFunc=>exact cg8 (qh1 (w:=w) 9999 ht) (.inr (.inr (.inr ⟨rfl, .inl rfl⟩)))
     ·cases hb
      generalize a.eval x=v' at rp⊢
      cases rp with
      |func f cs cs'=>exact cg8 (cb3 (w:=w) 9999 ht f cs') (.inr (.inr (.inr ⟨rfl, .inr ⟨_,_,rfl⟩⟩)))
   have ec:a.eval (.const c)=c:=rfl
   simp only[execOp,ho,ec]
   rw[Sem.run_bind,key];rfl
  ·cases ha
 ·cases ha
theorem s_un{op:UnOp}{t:TypeId}{x:Operand}(ho:o.op= .unOp op t x)(hF:FR φ h.length nt fr a.tmps)(hH:HR φ B h w){v h'}
 (ha:aop fr h (.un op x)=some (v,h')):OpOK P B φ h a w o v h':=by
 simp only[aop]at ha
 split at ha
 ·rename_i p hp
  have rp:=az8 hF hp
  split at ha
  ·rename_i u hu
   cases ha
   unfold aun at hu
   split at hu<;>first|(cases hu;done)|skip
   ·cases hu;have e:=xz4 rp;exact OpOK.pure hH (by simp[execOp,ho,e,Op.unary]) (.bool _)
   ·cases hu;have e:=rk2 rp;exact OpOK.pure hH (by simp[execOp,ho,e,Op.unary,Op.intArith]) (.int _ _)
   ·cases hu;have e:=rk2 rp;exact OpOK.pure hH (by simp[execOp,ho,e,Op.unary,Op.intBits,bits]) (.int _ _)
  ·cases ha
 ·cases ha
theorem s64{s d:TypeId}{k k':IntKind}{x:Operand}(ho:o.op= .convert s d x)(hs:P.underlying s=some (.int k'))(hd:P.underlying d=some (.int k))(hF:FR φ h.length nt fr a.tmps)(hH:HR φ B h w){v h'}
 (ha:aop fr h (.conv k x)=some (v,h')):OpOK P B φ h a w o v h':=by
 simp only[aop]at ha
 split at ha
 ·rename_i p hp
  cases ha
  have e:=rk2 (az8 hF hp)
  exact OpOK.pure hH (by simp[execOp,ho,e,convert,run_underlying hs,run_underlying hd,Conv.intToInt]) (.int _ _)
 ·cases ha
theorem OpOK.new{φ:Ren}{h:H}{r:Row}{v:Value}(hH:HR φ B h w){cur:Array Value}(hr:r.own=true){v':Value}{w':World}
 (hrun:(execOp a.eval o).run P w= .ok (.value v') w') (hw:w'=w.alloc (.cells cur r.elem)∨w'=w.drew.alloc (.cells cur r.elem)) (hone: ∀c∈r.cells,c.oneCell'=true)
 (hcur: ∀(i:Nat) (c:Value),r.cells[i]? =some c→ ∃v,cur[i]? =some v∧VR φ h.length c v)
 (hv:VR (φ.with h.length ⟨w.heap.size,0,cur.size,r.unit,true⟩) (h.length+1) v v'):OpOK P B φ h a w o (some v) (h++[.row r]):=by
 have hsz:w'.heap.size=w.heap.size+1:=by rcases hw with rfl|rfl<;>simp
 have hold: ∀k,k<w.heap.size→w'.heap[k]? =w.heap[k]? :=by
  intro k hk
  rcases hw with rfl|rfl
  ·exact Below.heap_alloc w _ k hk
  ·exact Below.heap_alloc w.drew _ k hk
 have hnew:w'.heap[w.heap.size]? =some (.cells cur r.elem):=by
  rcases hw with rfl|rfl
  ·exact Go.heap_alloc_new w _
  ·exact Go.heap_alloc_new w.drew _
 refine⟨_,v',w',hrun,fun u hu=> ?_,hH.push r w.heap.size 0 cur (ms7 _) hr (by omega) (fun k hk _=>hold k hk) (fun hb=>a36 _ (hH.size _ hb)) (fun o r hr ho=> ?_) hnew hone (by simpa using hcur),Ext.with _ _ _,by simp, ?_⟩
 ·cases hu;simpa using hv
 ·have:=hH.blk_lt hr ho
  omega
 ·have hb: ∀k,B k→w'.heap[k]? =w.heap[k]? :=fun k hk=>hold k (hH.size k hk)
  rcases hw with rfl|rfl<;>exact⟨rfl,rfl,rfl,by simp,hb⟩
theorem dn2{t:TypeId}{i:TypeInfo}{z:Value}(ho:o.op= .alloc t)(hi:P.info? t=some i)(hz:i.zero=some z)(hc:z.cells.all tc5=true)(hH:HR φ B h w){v h'}
 (ha:aop fr h (.alloc t z.cells.toList)=some (v,h')):OpOK P B φ h a w o v h':=by
 simp only[aop]at ha
 cases ha
 have hcl: ∀c∈z.cells.toList,tc5 c=true:=by rw[Array.all_eq_true']at hc;simpa using hc
 refine OpOK.new (cur:=z.cells) hH rfl (v':= .pointer (some ⟨w.heap.size,0,none⟩)) (by simp[execOp,ho,Instr.alloc,jt8 hi hz,newVar,newRow]) (.inl rfl) (fun c hc=>(en6 (φ:=φ) (n:=0) (hcl c hc)).2) (fun j c hj=> ?_) ?_
 ·exact⟨c,by simpa using hj,(en6 (hcl c (vf6 hj))).1⟩
 ·have:=VR.ptr (φ:=φ.with h.length ⟨w.heap.size,0,z.cells.size,0,true⟩) (n:=h.length+1) h.length 0 (by omega) (by rw[Ren.with_same];exact Ent.mp_le (ms7 _))
  simpa [Ren.with_same]using this
theorem cb0{t:TypeId}{n:Nat}{x:Operand}(ho:o.op= .box t x)(hF:FR φ h.length nt fr a.tmps)(hH:HR φ B h w){v h'}
 (ha:aop fr h (.box t n x)=some (v,h')):OpOK P B φ h a w o v h':=by
 simp only[aop]at ha
 split at ha
 ·rename_i u hu
  split at ha
  ·rename_i hs
   cases ha
   have ru:=az8 hF hu
   refine OpOK.new (cur:=(a.eval x).cells) hH rfl (v':= .pointer (some ⟨w.heap.size,0,none⟩)) (by simp[execOp,ho,Instr.box,newVar,newRow]) (.inl rfl) (ru.cells_one hs.2) (fun j c hj=> ?_) ?_
   ·obtain⟨v',h1,h2⟩:=ru.cells.2 j c hj
    exact⟨v',by simpa using h1,h2⟩
   ·have:=VR.ptr (φ:=φ.with h.length ⟨w.heap.size,0,(a.eval x).cells.size,0,true⟩) (n:=h.length+1) h.length 0 (by omega) (by rw[Ren.with_same];exact Ent.mp_le (ms7 _))
    simpa [Ren.with_same]using this
  ·cases ha
 ·cases ha
theorem s_ld{t:TypeId}{x:Operand}{d:TypeDesc}{i:TypeInfo}(ho:o.op= .load t x)(hd:P.underlying t=some d)(hi:P.info? t=some i)(hF:FR φ h.length nt fr a.tmps)(hH:HR φ B h w){v h'}
 (ha:aop fr h (.ld (cw9 d) i.size x)=some (v,h')):OpOK P B φ h a w o v h':=by
 simp only[aop]at ha
 split at ha
 ·rename_i p hp
  obtain⟨hs,hlt,hmp,e⟩:=bq1 (az8 hF hp)
  simp only[hs,qv9,o35,wj1]at ha
  split at ha
  ·rename_i hag
   split at ha
   ·rename_i cs hcs
    cases ha
    obtain⟨hlen,hone,cs',h1,h2⟩:=hH.cells hmp hcs
    have hl:=run_loadCells_list (P:=P) w ⟨(φ p.block).blk,(φ p.block).sh+p.off,none⟩ cs' h2
    rw[←h1.1,hlen]at hl
    refine OpOK.pure hH ?_ (h1.agg hone)
    simp[execOp,ho,e,Instr.loadAt,Instr.sureAddr,loadVar,y71 hd,hag,run_sizeOf hi,hl]
   ·cases ha
  ·rename_i hag
   split at ha
   ·rename_i u hu
    cases ha
    unfold H.ld1 at hu
    split at hu
    ·rename_i r hr
     obtain⟨u',h1,h2⟩:=hH.cell hr hmp hu
     refine OpOK.pure hH ?_ h2
     simp[execOp,ho,e,Instr.loadAt,Instr.sureAddr,loadVar,y71 hd,hag,h1]
    ·cases hu
   ·cases ha
 ·cases ha
theorem g26{x:Operand}(ho:o.op= .nilCheck x)(hF:FR φ h.length nt fr a.tmps)(hH:HR φ B h w){v h'}
 (ha:aop fr h (.nilck x)=some (v,h')):OpOK P B φ h a w o v h':=by
 simp only[aop]at ha
 split at ha
 ·rename_i p hp
  cases ha
  have rp:=az8 hF hp
  obtain⟨hs,hlt,hmp,e⟩:=bq1 rp
  refine OpOK.pure hH ?_ rp
  simp[execOp,ho,e]
 ·cases ha
theorem aw6{f:FuncId}{first cap:Array Operand}(ho:o.op= .makeFunc (.func f) first cap)(hfi:first.isEmpty=true)(hF:FR φ h.length nt fr a.tmps)(hH:HR φ B h w){v h'}
 (ha:aop fr h (.mkf f cap.toList)=some (v,h')):OpOK P B φ h a w o v h':=by
 simp only[aop]at ha
 split at ha
 ·rename_i vs hvs
  cases ha
  have hl:=p23 hF hvs
  have he:first= #[]:=by simpa using hfi
  subst he
  have e:(cap.toList.map a.eval).toArray=cap.map a.eval:=by apply ld7.1;simp
  refine OpOK.pure hH ?_ (hl.func f)
  rw[e]
  simp[execOp,ho,Instr.makeFunc]
 ·cases ha
theorem pe1{s:TypeId}{x:Operand}{f:Nat}{fs:Array Field}{fd:Field}{i:TypeInfo}(ho:o.op= .fieldAddr s x f)(hs:P.underlying s=some (.struct fs))(hf:fs[f]? =some fd)(hi:P.info? fd.type=some i)(hz: ¬i.size=0)
 (hF:FR φ h.length nt fr a.tmps) (hH:HR φ B h w) {v h'} (ha:aop fr h (.faddr fd.offset x)=some (v,h')):OpOK P B φ h a w o v h':=by
 simp only[aop]at ha
 split at ha
 ·rename_i p hp
  obtain⟨h1,hlt,hmp,e⟩:=bq1 (az8 hF hp)
  simp only[h1,qv9,o35,wj1]at ha
  cases ha
  have:=VR.ptr (φ:=φ) (n:=h.length) p.block (p.off+fd.offset) hlt hmp
  refine OpOK.pure hH ?_ this
  simp[execOp,ho,e,Instr.fieldAt,run_underlying hs,hf,Instr.sureAddr,fieldPlace,run_sizeOf hi,hz,sv1,q61]
 ·cases ha
theorem xr4{t:TypeId}{d:TypeDesc}{i:TypeInfo}(hd:P.underlying t=some d)(hi:P.info? t=some i){cs cs':Array Value}(hl:LR φ h.length cs.toList cs'.toList)(hone: ∀c∈cs.toList,c.oneCell'=true)(off:Nat):
 (cw9 d=true→ ∃v',(part t cs' off).run P w= .ok v' w∧VR φ h.length (.agg (cs.extract off (off+i.size))) v')∧
 (cw9 d=false→ ∀u,cs[off]? =some u→ ∃v',(part t cs' off).run P w= .ok v' w∧VR φ h.length u v'):=by
 constructor
 ·intro hag
  refine⟨.agg (cs'.extract off (off+i.size)),by simp[part,y71 hd,hag,run_sizeOf hi], ?_⟩
  have hl2:=(hl.drop off).take i.size
  have e1: ∀l:Array Value,l.extract off (off+i.size)=(((l.toList.drop off).take i.size)).toArray:=by
   intro l;apply ld7.1;simp[Array.toList_extract,List.extract]
  rw[e1,e1]
  exact hl2.agg fun c hc=>hone c (lq8 (tn5 hc))
 ·intro hag u hu
  obtain⟨v',h1,h2⟩:=hl.2 off u (by simpa using hu)
  have h1':cs'[off]? =some v':=by simpa using h1
  exact⟨v',by simp[part,y71 hd,hag,h1'],h2⟩
theorem qz5{s:TypeId}{x:Operand}{f:Nat}{fs:Array Field}{fd:Field}{d:TypeDesc}{i:TypeInfo}(ho:o.op= .field s x f)(hs:P.underlying s=some (.struct fs))(hf:fs[f]? =some fd)(hd:P.underlying fd.type=some d)(hi:P.info? fd.type=some i)
 (hF:FR φ h.length nt fr a.tmps) (hH:HR φ B h w) {v h'} (ha:aop fr h (.fld (cw9 d) fd.offset i.size x)=some (v,h')):OpOK P B φ h a w o v h':=by
 simp only[aop]at ha
 split at ha
 ·rename_i cs hp
  obtain⟨cs',e,hl,hone⟩:=lg1 (az8 hF hp)
  have hpart:=xr4 (P:=P) (w:=w) hd hi hl hone fd.offset
  have hx: ∀v',(part fd.type cs' fd.offset).run P w= .ok v' w→(execOp a.eval o).run P w= .ok (.value v') w:=by
   intro v' hv'
   simp[execOp,ho,e,Instr.field,run_underlying hs,hf,asAgg,hv']
  split at ha
  ·rename_i hag
   cases ha
   obtain⟨v',h1,h2⟩:=hpart.1 hag
   exact OpOK.pure hH (hx v' h1) h2
  ·rename_i hag
   split at ha
   ·rename_i u hu
    cases ha
    obtain⟨v',h1,h2⟩:=hpart.2 hag u hu
    exact OpOK.pure hH (hx v' h1) h2
   ·cases ha
 ·cases ha
theorem xo3{t e:TypeId}{x ix:Operand}{i:TypeInfo}(ho:o.op= .indexAddr t x ix)(ht:P.underlying t=some (.slice e))(hi:P.info? e=some i)
 (hF:FR φ h.length nt fr a.tmps) (hH:HR φ B h w) {v h'} (ha:aop fr h (.iaddr i.size x ix)=some (v,h')):OpOK P B φ h a w o v h':=by
 simp only[aop]at ha
 split at ha
 ·rename_i p l c k j hp hj
  obtain⟨h1,hlt,hinv⟩:=wy5 (az8 hF hp)
  have hmp:=lu8 (az8 hF hp)
  have e2:=rk2 (az8 hF hj)
  split at ha
  ·rename_i hb
   obtain⟨c',q,_,hq,_,e1⟩:=hinv.resolve_left fun hh=>by omega
   obtain rfl:q=(φ p.block).sh+p.off:=by omega
   simp only[h1,qv9,o35,wj1]at ha
   cases ha
   have:=VR.ptr (φ:=φ) (n:=h.length) p.block (p.off+j.toNat*i.size) hlt hmp
   refine OpOK.pure hH ?_ this
   simp[execOp,ho,e1,e2,Instr.indexAt,run_underlying ht,asIntOf,hb,run_sizeOf hi,sv1,q61]
  ·cases ha
 ·cases ha
theorem dx6{t e:TypeId}{n:Nat}{x ix:Operand}{i:TypeInfo}(ho:o.op= .indexAddr t x ix)(ht:P.underlying t=some (.array n e))(hi:P.info? e=some i)
 (hF:FR φ h.length nt fr a.tmps) (hH:HR φ B h w) {v h'} (ha:aop fr h (.iaddrA n i.size x ix)=some (v,h')):OpOK P B φ h a w o v h':=by
 simp only[aop]at ha
 split at ha
 ·rename_i p k j hp hj
  obtain⟨h1,hlt,hmp,e1⟩:=bq1 (az8 hF hp)
  have e2:=rk2 (az8 hF hj)
  split at ha
  ·rename_i hb
   simp only[h1,qv9,o35,wj1]at ha
   cases ha
   have:=VR.ptr (φ:=φ) (n:=h.length) p.block (p.off+j.toNat*i.size) hlt hmp
   refine OpOK.pure hH ?_ this
   simp[execOp,ho,e1,e2,Instr.indexAt,run_underlying ht,Instr.sureAddr,asIntOf,hb,run_sizeOf hi,sv1,q61]
  ·cases ha
 ·cases ha
theorem fh1{t e:TypeId}{n:Nat}{x ix:Operand}{d:TypeDesc}{i:TypeInfo}(ho:o.op= .index t x ix)(ht:P.underlying t=some (.array n e))(hd:P.underlying e=some d)(hi:P.info? e=some i)
 (hF:FR φ h.length nt fr a.tmps) (hH:HR φ B h w) {v h'} (ha:aop fr h (.idxA n i.size (cw9 d) x ix)=some (v,h')):OpOK P B φ h a w o v h':=by
 simp only[aop]at ha
 split at ha
 ·rename_i cs k j hp hj
  obtain⟨cs',e1,hl,hone⟩:=lg1 (az8 hF hp)
  have e2:=rk2 (az8 hF hj)
  split at ha
  ·rename_i hb
   have hpart:=xr4 (P:=P) (w:=w) hd hi hl hone (j.toNat*i.size)
   have hx: ∀v',(part e cs' (j.toNat*i.size)).run P w= .ok v' w→(execOp a.eval o).run P w= .ok (.value v') w:=by
    intro v' hv'
    simp[execOp,ho,e1,e2,Instr.index,run_underlying ht,asIntOf,hb,run_sizeOf hi,hv']
   split at ha
   ·rename_i hag
    cases ha
    obtain⟨v',h1,h2⟩:=hpart.1 hag
    exact OpOK.pure hH (hx v' h1) h2
   ·rename_i hag
    split at ha
    ·rename_i u hu
     cases ha
     obtain⟨v',h1,h2⟩:=hpart.2 hag u hu
     exact OpOK.pure hH (hx v' h1) h2
    ·cases ha
  ·cases ha
 ·cases ha
theorem g36{t:TypeId}{x ix:Operand}(ho:o.op= .index t x ix)(ht:P.underlying t=some .string)
 (hF:FR φ h.length nt fr a.tmps) (hH:HR φ B h w) {v h'} (ha:aop fr h (.idxS x ix)=some (v,h')):OpOK P B φ h a w o v h':=by
 simp only[aop]at ha
 split at ha
 ·rename_i s k j hp hj
  have e1:=b58 (az8 hF hp)
  have e2:=rk2 (az8 hF hj)
  split at ha
  ·rename_i h0
   split at ha
   ·rename_i b hb
    cases ha
    refine OpOK.pure hH ?_ (.int _ _)
    simp[execOp,ho,e1,e2,Instr.index,run_underlying ht,asIntOf,h0,hb]
   ·cases ha
  ·cases ha
 ·cases ha
theorem bg2{x:Operand}{i:Nat}(ho:o.op= .extract x i)(hF:FR φ h.length nt fr a.tmps)(hH:HR φ B h w){v h'}
 (ha:aop fr h (.ext i x)=some (v,h')):OpOK P B φ h a w o v h':=by
 simp only[aop]at ha
 split at ha
 ·rename_i vs hp
  obtain⟨cs',e1,hl⟩:=da1 (az8 hF hp)
  split at ha
  ·rename_i u hu
   cases ha
   obtain⟨v',h1,h2⟩:=hl.2 i u (by simpa using hu)
   have h1':cs'[i]? =some v':=by simpa using h1
   refine OpOK.pure hH ?_ h2
   simp[execOp,ho,e1,Instr.extract,h1']
  ·cases ha
 ·cases ha
end
end Go.Am
namespace Go.Am
open Go.RowKit (Below)
theorem HR.write{φ:Ren}{B:Nat→Prop}{h:H}{w w':World}(hh:HR φ B h w){o:Nat}{r:Row}(hr:h.row o=some r)(ho:r.own=true)(hm:(φ o).mp=false)(cs:List Value)(cur:Array Value)
 (hsz:w'.heap.size=w.heap.size) (hoth: ∀k,k≠(φ o).blk→w'.heap[k]? =w.heap[k]?) (hb:w'.heap[(φ o).blk]? =some (.cells cur r.elem (0,0))) (hcap:cur.size=(φ o).cap)
 (hone: ∀c∈cs,c.oneCell'=true) (hcs: ∀(i:Nat) (c:Value),cs[i]? =some c→ ∃v,cur[(φ o).sh+i]? =some v∧VR φ h.length c v):
 HR φ B (h.set o (.row {r with cells:=cs})) w':=by
 have hlt:=fz4 hr
 have hl:(h.set o (Ob.row {r with cells:=cs})).length=h.length:=by simp
 have hrow: ∀{o' r'},H.row (h.set o (Ob.row {r with cells:=cs})) o'=some r'→(o'=o∧r'={r with cells:=cs})∨(o'≠o∧h.row o'=some r'):=by
  intro o' r' h'
  rw[ro8]at h'
  split at h'
  ·rename_i he;simp at h';exact .inl ⟨he.1.symm,h'.symm⟩
  ·rename_i hne;exact .inr ⟨fun e=>hne ⟨e.symm,hlt⟩,h'⟩
 have hroot: ∀{o' r'},H.row (h.set o (Ob.row {r with cells:=cs})) o'=some r'→ ∃r0,h.row o'=some r0∧r0.own=r'.own:=by
  intro o' r' h'
  rcases hrow h' with⟨rfl,rfl⟩|⟨_,h'⟩
  ·exact⟨r,hr,rfl⟩
  ·exact⟨r',h',rfl⟩
 obtain⟨g0,g2,g3,g4⟩:=hh.own o r hr ho hm
 refine⟨fun o' r' h' own' hm'=> ?_,fun o' r' h' own' hm'=> ?_,fun o' r' h' own'=> ?_,fun o' r' h'=> ?_,fun a b ra rb h1 h2 o1 o2 he=> ?_,by rw[hsz];exact hh.size⟩
 ·rw[hl]
  rcases hrow h' with⟨rfl,rfl⟩|⟨hne,h'⟩
  ·rw[hm]at hm';cases hm'
  ·obtain⟨k2,k3,es,ck,k4,k5⟩:=hh.mpo o' r' h' own' hm'
   exact⟨k2,k3,es,ck,by rw[hoth _ (fun e=>hne (hh.inj o' o r' r h' hr own' ho e))];exact k4,k5⟩
 ·rw[hl]
  rcases hrow h' with⟨rfl,rfl⟩|⟨hne,h'⟩
  ·exact⟨g0,g2,g3,cur,hb,hcap,hcs⟩
  ·obtain⟨k0,k2,k3,cur',k4,k5,k6⟩:=hh.own o' r' h' own' hm'
   exact⟨k0,k2,k3,cur',by rw[hoth _ (fun e=>hne (hh.inj o' o r' r h' hr own' ho e))];exact k4,k5,k6⟩
 ·rw[hl]
  rcases hrow h' with⟨rfl,rfl⟩|⟨hne,h'⟩
  ·rw[ho]at own';cases own'
  ·obtain⟨kn,k1⟩:=hh.ro o' r' h' own'
   refine⟨kn,fun i c hc=> ?_⟩
   obtain⟨k0,v,k2,k3⟩:=k1 i c hc
   exact⟨k0,v,by rw[←k2];exact World.cell?_of_block (hoth _ (fun e=>g3 (e▸k0))),k3⟩
 ·rcases hrow h' with⟨rfl,rfl⟩|⟨hne,h'⟩
  ·exact hone
  ·exact hh.one o' r' h'
 ·obtain⟨ra',e1,e2⟩:=hroot h1
  obtain⟨rb',e3,e4⟩:=hroot h2
  exact hh.inj a b ra' rb' e1 e3 (e2.trans o1) (e4.trans o2) he
theorem cr9{h h':H}{o off:Nat}{vs:List Value}(hs:h.sts o off vs=some h'):
 ∃r,h.row o=some r∧r.own=true∧off+vs.length≤r.cells.length∧h'=h.set o (.row {r with cells:=hu1 r.cells off vs}):=by
 unfold H.sts at hs
 split at hs
 ·rename_i r hr
  split at hs
  ·rename_i hc
   simp only[b83,jn8]at hc
   cases hs
   exact⟨r,hr,hc.1,hc.2,rfl⟩
  ·cases hs
 ·cases hs
theorem HR.stores{P:Program}{φ:Ren}{B:Nat→Prop}{h h':H}{w:World}(hh:HR φ B h w){o off:Nat}(hm:(φ o).mp=false){vs vs':List Value}(hs:h.sts o off vs=some h')
 (hv:LR φ h.length vs vs') (hone: ∀c∈vs,c.oneCell'=true):
 ∃w',(storeCells ⟨(φ o).blk,(φ o).sh+off,none⟩ vs').run P w= .ok () w'∧HR φ B h' w'∧h'.length=h.length∧Bel B w w':=by
 obtain⟨r,hr,ho,hfit,rfl⟩:=cr9 hs
 obtain⟨g0,g2,g3,cur,g4,g5,g6⟩:=hh.own o r hr ho hm
 generalize hS:(φ o).sh=S at*
 have hlen:r.cells.length=0∨S+r.cells.length≤cur.size:=by
  rcases Nat.eq_zero_or_pos r.cells.length with h0|h0
  ·exact .inl h0
  ·obtain⟨v,h1,_⟩:=g6 (r.cells.length-1) (r.cells[r.cells.length-1]'(by omega)) (wu3 _)
   have:=(un8.1 h1).1
   omega
 rcases Nat.eq_zero_or_pos vs.length with hv0|hv0
 ·obtain rfl:=js1 hv0
  obtain rfl:vs'=[]:=js1 (by rw[←hv.1];rfl)
  refine⟨w,by simp[storeCells],hh.write hr ho hm _ cur rfl (fun _ _=>rfl) g4 g5 ?_ ?_,by simp,Bel.refl _ _⟩
  ·simp only[hu1,nw0,fo5,zy9,qr5];exact hh.one o r hr
  ·simp only[hu1,nw0,fo5,zy9,qr5,hS];exact g6
 have hfit':(S+off)+0+vs'.length≤cur.size:=by rw[←hv.1];omega
 have hst:=run_storeCells_at P (φ o).blk (S+off) r.elem vs' 0 cur w g4 hfit' (hv.one hone)
 simp only[zy9]at hst
 refine⟨_,hst, ?_,by simp, ?_⟩
 ·refine hh.write hr ho hm _ (cur.toList.take (S+off)++vs'++cur.toList.drop (S+off+vs'.length)).toArray (by simp[World.setRow]) (fun k hk=>setRow_other w _ k _ hk) (setRow_heap w _ cur _ _ _ g4) ?_ ?_ ?_
  ·rw[←g5];simp;omega
  ·intro c hc
   unfold hu1 at hc
   simp only[bk2]at hc
   rcases hc with(hc|hc)|hc
   ·exact hh.one o r hr c (tn5 hc)
   ·exact hone c hc
   ·exact hh.one o r hr c (lq8 hc)
  ·intro i c hc
   unfold hu1 at hc
   have hl1:(r.cells.take off).length=off:=by simp;omega
   have hl2:(cur.toList.take (S+off)).length=S+off:=by simp;omega
   rw[eh9]at hc
   rw[hS]
   simp only[List.getElem?_toArray,eh9]
   by_cases hi:i<off
   ·rw[bu4 (by omega),td4,if_pos hi]at hc
    rw[bu4 (by omega),td4,if_pos (by omega)]
    obtain⟨v,h1,h2⟩:=g6 i c hc
    exact⟨v,by simpa using h1,h2⟩
   ·rw[lp1 (by omega),hl1]at hc
    rw[lp1 (by omega),hl2,show S+i-(S+off)=i-off by omega]
    by_cases hi2:i-off<vs.length
    ·rw[bu4 hi2]at hc
     rw[bu4 (by rw[←hv.1];exact hi2)]
     exact hv.2 _ c hc
    ·rw[lp1 (by omega),s96]at hc
     rw[lp1 (by rw[←hv.1];omega),s96,←hv.1]
     rw[show off+vs.length+(i-off-vs.length)=i by omega]at hc
     rw[show S+off+vs.length+(i-off-vs.length)=S+i by omega]
     obtain⟨v,h1,h2⟩:=g6 i c hc
     exact⟨v,by simpa using h1,h2⟩
 ·exact⟨rfl,rfl,rfl,by simp[World.setRow],fun k hk=>setRow_other w _ k _ (fun e=>g3 (e▸hk))⟩
section
variable {P:Program} {B:Nat→Prop} {φ:Ren} {nt:Nat} {fr:Fr} {h:H} {a:Act} {w:World} {o:Oper}
theorem s_st{t:TypeId}{x y:Operand}{i:TypeInfo}(ho:o.op= .store t x y)(hi:P.info? t=some i)(hF:FR φ h.length nt fr a.tmps)(hH:HR φ B h w){v h'}
 (ha:aop fr h (.st i.size x y)=some (v,h')):OpOK P B φ h a w o v h':=by
 simp only[aop]at ha
 split at ha
 ·rename_i p u hp hu
  obtain⟨h1,hlt,hmp,e⟩:=bq1 (az8 hF hp)
  have ru:=az8 hF hu
  split at ha
  ·cases ha
  ·rename_i hc
   simp only[ey6,not_or,Bool.not_eq_true,bne_eq_false_iff_eq,Bool.not_eq_false']at hc
   obtain⟨⟨_,hsz⟩,hfl⟩:=hc
   split at ha
   ·rename_i h2 hst
    cases ha
    obtain⟨w',k1,k2,k3,k4⟩:=hH.stores (P:=P) hmp hst ru.cells (ru.cells_one hfl)
    refine⟨φ,undef,w', ?_,(fun u hu=>by cases hu),k2,Ext.refl _ _,by omega,k4⟩
    have hsz':(a.eval y).cells.size=i.size:=by rw[ru.cells_size,hsz]
    simp[execOp,ho,e,Instr.storeAt,Instr.sureAddr,storeVar,run_sizeOf hi,hsz',k1]
   ·cases ha
 ·cases ha
theorem xd5{zs:List Value}(hz:0<zs.length): ∀(n i:Nat),(rep zs n)[i]? =if i<n*zs.length then zs[i%zs.length]? else none
 |0,i=>by simp[rep]
 |n+1,i=>by
  simp only[rep]
  by_cases hi:i<zs.length
  ·rw[bu4 hi,Nat.mod_eq_of_lt hi,if_pos]
   have:=Nat.le_mul_of_pos_left zs.length (show 0<n+1 by omega)
   exact ui6 hi this
  ·rw[lp1 (by omega),xd5 hz n,show i%zs.length=(i-zs.length)%zs.length from Nat.mod_eq_sub_mod (by omega)]
   have:(n+1)*zs.length=n*zs.length+zs.length:=Nat.succ_mul _ _
   by_cases h1:i-zs.length<n*zs.length
   ·rw[if_pos h1,if_pos (by omega)]
   ·rw[if_neg h1,if_neg (by omega)]
theorem s06{t e:TypeId}{x y:Operand}{i:TypeInfo}{z:Value}(ho:o.op= .makeSlice t x y)(ht:P.underlying t=some (.slice e))(hi:P.info? e=some i)(hz:i.zero=some z)(hc:z.cells.all tc5=true)(hs:z.cells.size=i.size)(hp:0<i.size)
 (hF:FR φ h.length nt fr a.tmps) (hH:HR φ B h w) {v h'}
 (ha:aop fr h (.mks e i.size i.bytes z.cells.toList x y)=some (v,h')):OpOK P B φ h a w o v h':=by
 simp only[aop]at ha
 split at ha
 ·rename_i k1 l k2 c hl hcc
  have e1:=rk2 (az8 hF hl)
  have e2:=rk2 (az8 hF hcc)
  split at ha
  ·rename_i hb
   obtain⟨b1,b2,b3,b4⟩:=hb
   cases ha
   have hcl: ∀c∈z.cells.toList,tc5 c=true:=by rw[Array.all_eq_true']at hc;simpa using hc
   have hzl:z.cells.toList.length=i.size:=by simpa using hs
   have hrun:=run_make (P:=P) w t e i z ht hi hz k1 k2 l c b1 b2 (by rw[pc1];omega) (by omega)
   have hmem: ∀u∈rep z.cells.toList c.toNat,tc5 u=true:=by
    intro u hu
    obtain⟨j,hj,he⟩:=zd4 hu
    have h2:(rep z.cells.toList c.toNat)[j]? =some u:=by rw[←he];exact wu3 hj
    rw[xd5 (by omega)]at h2
    split at h2
    ·exact hcl u (vf6 h2)
    ·cases h2
   refine OpOK.new (cur:=madeCells z.cells (c.toNat*i.size)) hH rfl (v':= .slice (some ⟨w.heap.size,0,none⟩) l.toNat c.toNat) (by simp[execOp,ho,e1,e2,hrun]) (.inl rfl) (fun u hu=>(en6 (φ:=φ) (n:=0) (hmem u hu)).2) (fun j u hj=> ?_) ?_
   ·refine⟨u, ?_,(en6 (hmem u (vf6 hj))).1⟩
    simp only at hj
    rw[xd5 (by omega),hzl]at hj
    split at hj
    ·rename_i hlt
     unfold madeCells
     rw[Array.getElem?_map,Array.getElem?_range,if_pos hlt]
     simp only[eb5]
     have hm:j%z.cells.size<z.cells.size:=Nat.mod_lt _ (by omega)
     rw[←hs,Array.getElem?_toList,ra6 hm]at hj
     rw[getElem!_pos z.cells _ hm]
     exact hj
    ·cases hj
   ·have:=VR.sl (φ:=φ.with h.length ⟨w.heap.size,0,(madeCells z.cells (c.toNat*i.size)).size,i.size,true⟩) (n:=h.length+1) h.length 0 l.toNat c.toNat c.toNat 0 (by omega) (by rw[Ren.with_same];exact Ent.mp_le (ms7 _)) (jj6 _) (by rw[Ren.with_same];exact .inl rfl)
     (by rw[Ren.with_same];intro _;exact⟨by simp[size_madeCells],by omega⟩)
    simpa [Ren.with_same]using this
  ·cases ha
 ·cases ha
theorem e08(hF:FR φ h.length nt fr a.tmps){x:Option Operand}{r:Option Int}(hx:evo fr x=some r):
 (x=none∧r=none)∨ ∃y k i,x=some y∧r=some i∧a.eval y= .int k i:=by
 cases x with
 |none=>simp[evo]at hx;exact .inl ⟨rfl,hx.symm⟩
 |some y=>
  simp only[evo]at hx
  split at hx
  ·rename_i v hv
   split at hx
   ·rename_i i hi
    cases hx
    cases v<;>simp[bound]at hi
    subst hi
    exact .inr ⟨y,_,_,rfl,rfl,rk2 (az8 hF hv)⟩
   ·cases hx
  ·cases hx
theorem i72{lo hi:Option Operand}{l' h2:Option Int}(hF:FR φ h.length nt fr a.tmps)(h1:evo fr lo=some l')(h2':evo fr hi=some h2)(sl:Bool){len cap:Nat}
 (hb:0≤l'.getD 0∧l'.getD 0≤h2.getD len∧h2.getD len≤cap):
 (Instr.sliceBounds sl len cap (lo.map a.eval) (hi.map a.eval) none).run P w= .ok ((l'.getD 0).toNat,(h2.getD len).toNat,cap) w:=by
 rcases e08 hF h1 with⟨rfl,rfl⟩|⟨y,k,i,rfl,rfl,e⟩<;>rcases e08 hF h2' with⟨rfl,rfl⟩|⟨y',k',i',rfl,rfl,e'⟩<;>
  simp only[Option.getD_none,ns4]at hb⊢
 ·simp[Instr.sliceBounds]
 ·obtain⟨b1,b2,b3⟩:=hb
  simp[Instr.sliceBounds,e',Instr.sliceBound,asIntOf,b3,show(0:Int)≤i' by omega]
 ·obtain⟨b1,b2,b3⟩:=hb
  simp[Instr.sliceBounds,e,Instr.sliceBound,asIntOf,b1,b2]
 ·obtain⟨b1,b2,b3⟩:=hb
  have b2':i≤(i'.toNat:Int):=by omega
  simp[Instr.sliceBounds,e,e',Instr.sliceBound,asIntOf,b1,b2',b3,show(0:Int)≤i' by omega]
  intro h;exfalso;omega
theorem s_sl{t e:TypeId}{x:Operand}{lo hi:Option Operand}{i:TypeInfo}(ho:o.op= .slice t x lo hi none)(ht:P.underlying t=some (.slice e))(hi':P.info? e=some i)
 (hF:FR φ h.length nt fr a.tmps) (hH:HR φ B h w) {v h'}
 (ha:aop fr h (.sl i.size x lo hi)=some (v,h')):OpOK P B φ h a w o v h':=by
 simp only[aop]at ha
 split at ha
 ·rename_i p l c lo' hi2 hp hlo hhi
  split at ha
  ·rename_i hb
   cases ha
   have rp:=az8 hF hp
   cases p with
   |none=>
    obtain⟨rfl,rfl,e1⟩:=u06 rp
    have z1:lo'.getD 0=0:=by omega
    have z2:hi2.getD ((0:Nat):Int)=0:=by omega
    have hbr:=i72 (P:=P) (w:=w) (len:=0) (cap:=0) hF hlo hhi true (by rw[z1,z2];simp)
    rw[z1,z2]at hbr
    rw[z1,z2]
    refine OpOK.pure hH (v':= .slice none 0 0) ?_ ?_
    ·simp[execOp,ho,e1,Instr.sliceAt,run_underlying ht,Instr.slice,hbr,run_sizeOf hi']
    ·simpa using VR.snil
   |some p=>
    obtain⟨h1,hlt,hinv⟩:=wy5 rp
    have hmp:=lu8 rp
    rcases hinv with⟨rfl,rfl,hown,x,e1⟩|⟨c',q,hc,hq,hcap,e1⟩
    ·have z1:lo'.getD 0=0:=by omega
     have z2:hi2.getD ((0:Nat):Int)=0:=by omega
     have hbr:=i72 (P:=P) (w:=w) (len:=0) (cap:=0) hF hlo hhi true (by rw[z1,z2];simp)
     rw[z1,z2]at hbr
     rw[z1,z2]
     refine OpOK.pure hH (v':= .slice (some x) 0 0) ?_ ?_
     ·simp[execOp,ho,e1,Instr.sliceAt,run_underlying ht,Instr.slice,hbr,run_sizeOf hi']
     ·obtain⟨o1,off1,sp⟩:=p
      simp only at h1 hlt hown
      subst h1
      simpa using VR.slz o1 off1 x hlt hown
    have hbr:=i72 (P:=P) (w:=w) (len:=l) (cap:=c') hF hlo hhi true ⟨hb.1,hb.2.1,by have:=hb.2.2.1;omega⟩
    generalize lo'.getD 0=L at*
    generalize hi2.getD (l:Int)=R at*
    refine OpOK.pure hH (v':= .slice (if c'=L.toNat then some ⟨(φ p.block).blk,q,none⟩else some ((⟨(φ p.block).blk,q,none⟩:Addr).add (L.toNat*i.size))) (R.toNat-L.toNat) (c'-L.toNat)) ?_ ?_
    ·simp[execOp,ho,e1,Instr.sliceAt,run_underlying ht,Instr.slice,hbr,run_sizeOf hi']
    ·have er:R.toNat-L.toNat=(R-L).toNat:=by omega
     rw[er]
     obtain⟨o1,off1,sp⟩:=p
     simp only at h1 hlt hq hcap hb⊢
     subst h1
     have hroom:(φ o1).own=true→c'≤9223372036854775807:=fun ho=>by rw[e1]at rp;exact eb2 rp ho
     have hcap2:(φ o1).own=true→L.toNat≤c'→q+L.toNat*i.size+(c'-L.toNat)*(φ o1).unit≤(φ o1).cap:=by
      intro ho hl
      have h3:=hcap ho
      have hu:=hb.2.2.2
      simp only[ss4]at hu
      split at hu
      ·rename_i r hr
       cases hown:r.own with
       |true=>
        have hue:r.unit=i.size:=by simpa [hown]using hu
        have:=(hH.own o1 r hr hown hmp).2.1
        rw[this,hue]at h3⊢
        have e3:L.toNat*i.size+(c'-L.toNat)*i.size=c'*i.size:=by rw[←ur9];congr 1;omega
        omega
       |false=>rw[(hH.ro o1 r hr hown).1]at ho;cases ho
      ·cases hu
     by_cases hcl:(c:Int)=L
     ·rw[if_pos hcl]
      have hR:(R-L).toNat=0:=by omega
      have hcc:((c:Int)-L).toNat=0:=by omega
      rw[hR,hcc]
      by_cases hc2:c'=L.toNat
      ·rw[if_pos hc2]
       exact .sl o1 off1 0 0 _ q hlt hmp (by omega) (.inr ⟨rfl,rfl⟩) (fun ho=>⟨by have:=hcap ho;rw[show c'-L.toNat=0 by omega];omega,by omega⟩)
      ·rw[if_neg hc2,sv1]
       exact .sl o1 off1 0 0 _ _ hlt hmp (by omega) (.inr ⟨rfl,rfl⟩) (fun ho=>⟨hcap2 ho (by omega),by have:=hroom ho;omega⟩)
     ·rw[if_neg hcl,if_neg (by omega),sv1]
      have hq':q=(φ o1).sh+off1:=by omega
      exact .sl o1 (off1+L.toNat*i.size) _ _ _ _ hlt hmp (by omega) (.inl (by omega)) (fun ho=>⟨hcap2 ho (by omega),by have:=hroom ho;omega⟩)
  ·cases ha
 ·cases ha
theorem a61{t e:TypeId}{x hi mx:Operand}{i:TypeInfo}(ho:o.op= .slice t x none (some hi) (some mx))(ht:P.underlying t=some (.slice e))(hi':P.info? e=some i)
 (hF:FR φ h.length nt fr a.tmps) (hH:HR φ B h w) {v h'}
 (ha:aop fr h (.sl3 x hi mx)=some (v,h')):OpOK P B φ h a w o v h':=by
 simp only[aop]at ha
 split at ha
 ·rename_i p l c _ I _ J hp hI hJ
  split at ha
  ·rename_i hb
   cases ha
   have rp:=az8 hF hp
   have eI:=rk2 (az8 hF hI)
   have eJ:=rk2 (az8 hF hJ)
   have hbr: ∀{len cap:Nat},J≤cap→(Instr.sliceBounds true len cap none (some (a.eval hi)) (some (a.eval mx))).run P w= .ok (0,I.toNat,J.toNat) w:=by
    intro len cap hc
    have h1:I≤(J.toNat:Int):=by omega
    have h0:0≤J:=by omega
    simp[Instr.sliceBounds,eI,eJ,Instr.sliceBound,asIntOf,hb.1,hc,h0,h1]
    intro h;exfalso;omega
   cases p with
   |none=>
    obtain⟨rfl,rfl,e1⟩:=u06 rp
    have z1:I=0:=by omega
    have z2:J=0:=by omega
    have hbr:=hbr (len:=0) (cap:=0) (by omega)
    rw[z1,z2]at hbr
    rw[z1,z2]
    refine OpOK.pure hH (v':= .slice none 0 0) ?_ ?_
    ·simp[execOp,ho,e1,Instr.sliceAt,run_underlying ht,Instr.slice,hbr,run_sizeOf hi']
    ·simpa using VR.snil
   |some p=>
    obtain⟨h1,hlt,hinv⟩:=wy5 rp
    have hmp:=lu8 rp
    rcases hinv with⟨rfl,rfl,hown,x,e1⟩|⟨c',q,hc,hq,hcap,e1⟩
    ·have z1:I=0:=by omega
     have z2:J=0:=by omega
     have hbr:=hbr (len:=0) (cap:=0) (by omega)
     rw[z1,z2]at hbr
     rw[z1,z2]
     refine OpOK.pure hH (v':= .slice (some x) 0 0) ?_ ?_
     ·simp[execOp,ho,e1,Instr.sliceAt,run_underlying ht,Instr.slice,hbr,run_sizeOf hi']
     ·obtain⟨o1,off1,sp⟩:=p
      simp only at h1 hlt hown
      subst h1
      simpa using VR.slz o1 off1 x hlt hown
    have hbr:=hbr (len:=l) (cap:=c') (by omega)
    refine OpOK.pure hH (v':= .slice (some ⟨(φ p.block).blk,q,none⟩) I.toNat J.toNat) ?_ ?_
    ·by_cases hJ0:J.toNat=0
     ·simp[execOp,ho,e1,Instr.sliceAt,run_underlying ht,Instr.slice,hbr,run_sizeOf hi',hJ0]
     ·simp[execOp,ho,e1,Instr.sliceAt,run_underlying ht,Instr.slice,hbr,run_sizeOf hi',hJ0,Addr.add]
    ·obtain⟨o1,off1,sp⟩:=p
     simp only at h1 hlt hq hcap⊢
     subst h1
     refine .sl o1 off1 _ _ _ q hlt hmp (jj6 _) ?_ (fun ho=> ?_)
     ·rcases hq with hq|hq
      ·exact .inl hq
      ·exact .inr ⟨by omega,by omega⟩
     ·have h2:=hcap ho
      have h3:J.toNat*(φ o1).unit≤c'*(φ o1).unit:=wg6 _ (by omega)
      have h4:c'≤9223372036854775807:=by rw[e1]at rp;exact eb2 rp ho
      exact⟨by omega,by omega⟩
  ·cases ha
 ·cases ha
theorem p43{t:TypeId}{x:Operand}{lo hi:Option Operand}(ho:o.op= .slice t x lo hi none)(ht:P.underlying t=some .string)
 (hF:FR φ h.length nt fr a.tmps) (hH:HR φ B h w) {v h'}
 (ha:aop fr h (.sls x lo hi)=some (v,h')):OpOK P B φ h a w o v h':=by
 simp only[aop]at ha
 split at ha
 ·rename_i s lo' hi2 hp hlo hhi
  split at ha
  ·rename_i hb
   cases ha
   have e1:=b58 (az8 hF hp)
   have hbr:=i72 (P:=P) (w:=w) (len:=s.size) (cap:=s.size) hF hlo hhi false hb
   refine OpOK.pure hH ?_ (.str _)
   simp[execOp,ho,e1,Instr.sliceAt,run_underlying ht,Instr.slice,hbr]
  ·cases ha
 ·cases ha
theorem av0{x:Operand}{t e:TypeId}{ts:Array TypeId}(ho:o.op= .call {callee:= .builtin .len,args:= #[x],argTypes:=ts})(h0:ts[0]? =some t)(ht:P.underlying t=some (.slice e))
 (hF:FR φ h.length nt fr a.tmps) (hH:HR φ B h w) {v h'}
 (ha:aop fr h (.len x)=some (v,h')):OpOK P B φ h a w o v h':=by
 simp only[aop]at ha
 split at ha
 ·rename_i p n c hp
  cases ha
  have rp:=az8 hF hp
  have e1: ∃p' c',a.eval x= .slice p' n c':=by cases p with
   |none=>obtain⟨rfl,rfl,e⟩:=u06 rp;exact⟨_,_,e⟩
   |some p=>obtain⟨_,c',e⟩:=a29 rp;exact⟨_,_,e⟩
  obtain⟨p',c',e1⟩:=e1
  refine OpOK.pure hH ?_ (.int _ _)
  simp[execOp,ho,resolve,invoke,builtin,Builtin.len_,h0,e1,run_underlying ht,goInt]
 ·cases ha
theorem oe1{x:Operand}{t:TypeId}{ts:Array TypeId}(ho:o.op= .call {callee:= .builtin .len,args:= #[x],argTypes:=ts})(h0:ts[0]? =some t)(ht:P.underlying t=some .string)
 (hF:FR φ h.length nt fr a.tmps) (hH:HR φ B h w) {v h'}
 (ha:aop fr h (.lenS x)=some (v,h')):OpOK P B φ h a w o v h':=by
 simp only[aop]at ha
 split at ha
 ·rename_i s hp
  cases ha
  have e1:=b58 (az8 hF hp)
  refine OpOK.pure hH ?_ (.int _ _)
  simp[execOp,ho,resolve,invoke,builtin,Builtin.len_,h0,e1,run_underlying ht,goInt]
 ·cases ha
theorem kg0{x:Operand}{t:TypeId}{n:Nat}{ts:Array TypeId}(ho:o.op= .call {callee:= .builtin .len,args:= #[x],argTypes:=ts})(h0:ts[0]? =some t)
 (ht:(∃e,P.underlying t=some (.array n e))∨ ∃u e,P.underlying t=some (.pointer u)∧P.underlying u=some (.array n e)) (hH:HR φ B h w) {v h'}
 (ha:aop fr h (.lenK n)=some (v,h')):OpOK P B φ h a w o v h':=by
 simp only[aop]at ha
 cases ha
 refine OpOK.pure hH ?_ (.int _ _)
 rcases ht with⟨e,ht⟩|⟨u,e,ht,hu⟩
 ·simp[execOp,ho,resolve,invoke,builtin,Builtin.len_,h0,run_underlying ht,goInt]
 ·simp[execOp,ho,resolve,invoke,builtin,Builtin.len_,h0,run_underlying ht,run_underlying hu,goInt]
end
end Go.Am
namespace Go.Am
open Go.RowKit (Below)
section
variable {P:Program} {B:Nat→Prop} {φ:Ren} {nt:Nat} {fr:Fr} {h:H} {a:Act} {w:World} {o:Oper}
theorem im2(hH:HR φ B h w){size m:Nat}{x x':Value}{news:List Value}(hs:b38 h size m x=some news)(hx:VR φ h.length x x'):
 ∃b' l d' news',x'= .slice b' l d'∧news.length=m*size∧(∀c∈news,c.oneCell'=true)∧LR φ h.length news news'∧(Builtin.firstCells size m x').run P w= .ok news'.toArray w∧
  (m≠0→ ∃p,b'=some p∧ ∀(j:Nat) (v:Value),news'[j]? =some v→w.cell? (p.add j)=some v):=by
 unfold b38 at hs
 split at hs
 ·rename_i b l d
  split at hs
  ·rename_i h0
   cases hs
   subst h0
   cases b with
   |none=>
    obtain⟨rfl,rfl,rfl⟩:=u06 hx
    exact⟨none,0,0,[],rfl,by simp,by simp,LR.nil _ _,by simp[Builtin.firstCells],fun h=>absurd rfl h⟩
   |some b=>
    obtain⟨_,c',rfl⟩:=a29 hx
    exact⟨_,_,_,[],rfl,by simp,by simp,LR.nil _ _,by simp[Builtin.firstCells,loadCells,loadCellsFrom],fun h=>absurd rfl h⟩
  ·rename_i h0
   split at hs
   ·rename_i hml
    split at hs
    ·rename_i p
     split at hs
     ·obtain⟨h1,hlt,hinv⟩:=wy5 hx
      have hmp:=lu8 hx
      obtain⟨c',q,_,hq,_,rfl⟩:=hinv.resolve_left fun hh=>by omega
      clear hinv
      obtain rfl:q=(φ p.block).sh+p.off:=by omega
      obtain⟨hlen,hone,cs',k1,k2⟩:=hH.cells hmp hs
      refine⟨_,_,_,cs',rfl,hlen,hone,k1, ?_,fun _=>⟨_,rfl,k2⟩⟩
      exact run_firstCells_some (P:=P) w size m _ l c' cs' (by rw[←k1.1,hlen]) k2
     ·cases hs
    ·cases hs
   ·cases hs
 ·cases hs
theorem e50{d s:Operand}{t u e:TypeId}{i:TypeInfo}(ho:o.op= .call {callee:= .builtin .copy,args:= #[d,s],argTypes:= #[t,u]})(ht:P.underlying t=some (.slice e))(hi:P.info? e=some i)
 (hF:FR φ h.length nt fr a.tmps) (hH:HR φ B h w) {v h'} (ha:aop fr h (.cpy i.size d s)=some (v,h')):OpOK P B φ h a w o v h':=by
 simp only[aop]at ha
 split at ha
 ·rename_i dv sv hd hs
  split at ha
  ·rename_i v2 h2 hc
   cases ha
   unfold acpy at hc
   split at hc
   ·rename_i da dl dc sa sl sc
    split at hc
    ·rename_i cs hcs
     have rd:=az8 hF hd
     have rs:=az8 hF hs
     obtain⟨b',l,d',news',e1,hlen,hone,hLR,hrun,_⟩:=im2 (P:=P) hH hcs rs
     have hl:l=sl:=by
      cases sa with
      |none=>obtain⟨rfl,rfl,e2⟩:=u06 rs;rw[e2]at e1;cases e1;rfl
      |some p=>obtain⟨_,c',e2⟩:=a29 rs;rw[e2]at e1;cases e1;rfl
     subst hl
     split at hc
     ·rename_i h0
      cases hc
      rw[h0]at hlen hrun
      obtain rfl:news'=[]:=js1 (by rw[←hLR.1,hlen];simp)
      refine OpOK.pure hH ?_ (.int _ _)
      have h0':Nat.min l dl=0:=h0
      cases da with
      |none=>obtain⟨rfl,rfl,e2⟩:=u06 rd
             simp[execOp,ho,resolve,invoke,builtin,Builtin.copy_,e1,e2,run_underlying ht,Builtin.lenOf,run_sizeOf hi,goInt]at hrun⊢
             simp[hrun]
      |some p=>obtain⟨_,c',e2⟩:=a29 rd
               rw[e1]at hrun
               simp[execOp,ho,resolve,invoke,builtin,Builtin.copy_,e1,e2,run_underlying ht,Builtin.lenOf,run_sizeOf hi,goInt,h0',hrun,storeCells]
     ·rename_i h0
      split at hc
      ·rename_i p
       split at hc
       ·split at hc
        ·rename_i h3 hst
         cases hc
         obtain⟨_,hlt,hinv⟩:=wy5 rd
         have hmp:=lu8 rd
         obtain⟨c',q,_,hq,_,e2⟩:=hinv.resolve_left fun hh=>by omega
         clear hinv
         obtain rfl:q=(φ p.block).sh+p.off:=by omega
         obtain⟨w',k1,k2,k3,k4⟩:=hH.stores (P:=P) hmp hst hLR hone
         refine⟨φ, .int .i64 (min l dl:Nat),w', ?_,fun u hu=>by cases hu;exact .int _ _,k2,Ext.refl _ _,by omega,k4⟩
         rw[e1]at hrun
         have hrun':(Builtin.firstCells i.size (Nat.min l dl) (.slice b' l d')).run P w= .ok news'.toArray w:=hrun
         simp[execOp,ho,resolve,invoke,builtin,Builtin.copy_,e1,e2,run_underlying ht,Builtin.lenOf,run_sizeOf hi,goInt,hrun',k1]
        ·cases hc
       ·cases hc
      ·cases hc
    ·cases hc
   ·cases hc
  ·cases ha
 ·cases ha
theorem dj7{t ty e:TypeId}{i:TypeInfo}(ht:P.underlying t=some (.slice e))(hi:P.info? e=some i){p:Addr}{n c m l d:Nat}{b:Option Addr}{news:List Value}{w':World}
 (hl:l=m) (hroom:n+m≤c) (hf:(Builtin.firstCells i.size m (.slice b l d)).run P w= .ok news.toArray w) (hst:(storeCells (p.add (n*i.size)) news).run P w= .ok () w'):
 (Builtin.append_ #[t,t] ty #[.slice (some p) n c, .slice b l d]).run P w= .ok (.slice (some p) (n+m) c) w':=by
 subst hl
 simp[Builtin.append_,run_underlying ht,sizeOf,typeInfo,hi,Builtin.lenOf,hroom,hf,hst]
theorem kt0{s:Operand}{e:TypeId}{i:TypeInfo}{z:Value}(hz:i.zero=some z)(hzs:z.cells.size=i.size)(hp:0<i.size)
 (hF:FR φ h.length nt fr a.tmps) (hH:HR φ B h w) {sa:Option Addr} {n c l:Nat} {news news':List Value} (rs:VR φ h.length (.slice sa n c) (a.eval s)) (hLR:LR φ h.length news news') (hone: ∀c∈news,c.oneCell'=true) (hlen:news.length=l*i.size)
 {R:Value→Value→World→Prop} (hexec: ∀s' v' w',a.eval s=s'→R s' v' w'→(execOp a.eval o).run P w= .ok (.value v') w')
 (r0:l=0→R (.slice none 0 0) (.slice none 0 0) w)
 (r1:l≠0→few l i.bytes=true→R (.slice none 0 0) (.slice (some ⟨w.heap.size,0,none⟩) l (grownCap w l 0 e)) (w.drew.alloc (.cells (news'.toArray++Builtin.zeroCells z.cells (grownCap w l 0 e-l)) e)))
 (r2: ∀(p:Addr) (n c':Nat),n+l≤c'→n+l≤1099511627776→(n+l)*i.bytes≤140737488355328→ ∀w',(storeCells (p.add (n*i.size)) news').run P w= .ok () w'→R (.slice (some p) n c') (.slice (some p) (n+l) c') w')
 (r3: ∀(p:Addr) (n c':Nat) (olds':List Value),l≠0→olds'.length=n*i.size→(∀(j:Nat) (v:Value),olds'[j]? =some v→w.cell? (p.add j)=some v)→c'<n+l→((n+l:Nat):Int)≤9223372036854775807→Builtin.nextslicecap (n+l) c'*i.bytes≤281474976710656→n+l≤1099511627776→(n+l)*i.bytes≤140737488355328→
   R (.slice (some p) n c') (.slice (some ⟨w.heap.size,0,none⟩) (n+l) (grownCap w (n+l) c' e)) (w.drew.alloc (.cells (olds'.toArray++news'.toArray++Builtin.zeroCells z.cells (grownCap w (n+l) c' e-(n+l))) e)))
 {v h'} (hc:aput e i.size i.bytes h sa n c l news=some (v,h')):OpOK P B φ h a w o (some v) h':=by
 have hlen':news'.length=l*i.size:=by rw[←hLR.1,hlen]
 unfold aput at hc
 split at hc
 ·--nil
  split at hc
  ·split at hc
   ·rename_i hm
    cases hc
    subst hm
    obtain⟨rfl,rfl,e2⟩:=u06 rs
    obtain rfl:news'=[]:=js1 (by simpa using hlen')
    exact OpOK.pure hH (hexec _ _ _ e2 (r0 rfl)) .snil
   ·rename_i hm
    split at hc
    ·rename_i hfew
     cases hc
     obtain⟨rfl,rfl,e2⟩:=u06 rs
     have hf0:=hfew
     simp only[few,b83,jn8]at hfew
     have hr:=r1 hm hf0
     have hge:=grownCap_ge w l 0 e
     refine OpOK.new (cur:=news'.toArray++Builtin.zeroCells z.cells (grownCap w l 0 e-l)) hH rfl (hexec _ _ _ e2 hr) (.inr rfl) hone (fun j u hj=> ?_) ?_
     ·obtain⟨u',h3,h4⟩:=hLR.2 j u hj
      have hjl:j<news'.length:=(ck5.1 h3).1
      refine⟨u', ?_,h4⟩
      rw[a73 (by simpa using hjl)]
      simpa using h3
     ·have:=VR.sl (φ:=φ.with h.length ⟨w.heap.size,0,(news'.toArray++Builtin.zeroCells z.cells (grownCap w l 0 e-l)).size,i.size,true⟩) (n:=h.length+1) h.length 0 l l (grownCap w l 0 e) 0 (by omega) (by rw[Ren.with_same];exact Ent.mp_le (ms7 _)) hge (by rw[Ren.with_same];exact .inl rfl)
       (by
         rw[Ren.with_same];intro _
         refine⟨?_,grownCap_le_maxLen w l 0 e (by show l≤9223372036854775807;omega)⟩
         simp only[Array.size_append,List.size_toArray,size_zeroCells,hzs,hlen',←ur9]
         rw[show l+(grownCap w l 0 e-l)=grownCap w l 0 e by omega];omega)
      rw[Ren.with_same]at this
      exact this
    ·cases hc
  ·cases hc
 ·--a row of its own
  rename_i p
  split at hc
  ·rename_i r hr
   split at hc
   ·rename_i hcond
    simp only[b83,ui3,jn8,few]at hcond
    obtain⟨⟨⟨⟨⟨⟨hown,hspot⟩,helem⟩,hunit⟩,hnc⟩,hfit⟩,hfew1,hfew2⟩:=hcond
    cases hc
    obtain⟨_,hlt,hinv⟩:=wy5 rs
    have hmp:=lu8 rs
    obtain⟨c',q,hcc,hq,hcap,e2⟩:=hinv.resolve_left fun hh=>by
     have h3:=hh.2.2.1
     rw[(hH.own p.block r hr hown hmp).1]at h3;cases h3
    obtain⟨g0,g2,g3,cur,g4,g5,g6⟩:=hH.own p.block r hr hown hmp
    have hcap:=hcap g0
    rw[g2,hunit,←g5]at hcap
    have hkl:(kill h p.block).length=h.length:=by simp[kill]
    have hK:=hH.kill p.block
    have hfree: ∀o r',H.row (kill h p.block) o=some r'→r'.own=true→(φ o).blk≠(φ p.block).blk:=by
     intro o r' hr' ho' he
     unfold kill at hr'
     rw[ro8]at hr'
     split at hr'
     ·cases hr'
     ·rename_i hne
      exact hne ⟨(hH.inj o p.block r' r hr' hr ho' hown he).symm,fz4 hr⟩
    have holds: ∃olds',LR φ h.length ((r.cells.drop p.off).take (n*i.size)) olds'∧ ∀(j:Nat) (v:Value),olds'[j]? =some v→w.cell? ((⟨(φ p.block).blk,q,none⟩:Addr).add j)=some v:=by
     by_cases hn0:n=0
     ·subst hn0;exact⟨[],by simpa using LR.nil _ _,by simp⟩
     ·obtain rfl:q=(φ p.block).sh+p.off:=by omega
      have hlds:h.lds p.block p.off (n*i.size)=some ((r.cells.drop p.off).take (n*i.size)):=by unfold H.lds;rw[hr];simp[hfit]
      obtain⟨_,_,cs',k1,k2⟩:=hH.cells hmp hlds
      exact⟨cs',k1,k2⟩
    obtain⟨olds',hLo,hcello⟩:=holds
    have hoL:((r.cells.drop p.off).take (n*i.size)).length=n*i.size:=by simp;omega
    have hone2: ∀c∈(r.cells.drop p.off).take (n*i.size)++news,c.oneCell'=true:=by
     intro c hc
     rcases bk2.1 hc with hc|hc
     ·exact hH.one _ r hr c (lq8 (tn5 hc))
     ·exact hone c hc
    have hLall:=hLo.append hLR
    by_cases hroom:n+l≤c'
    ·--in place
     have hq2:q+n*i.size+0+news'.length≤cur.size:=by
      have:(n+l)*i.size≤c'*i.size:=wg6 _ hroom
      rw[ur9]at this
      omega
     have hst:=run_storeCells_at P (φ p.block).blk (q+n*i.size) r.elem news' 0 cur w g4 hq2 (hLR.one hone)
     simp only[zy9]at hst hq2
     have hr2:=r2 ⟨(φ p.block).blk,q,none⟩ n c' hroom hfew1 hfew2 _ (by rw[sv1];exact hst)
     have hpush:=hK.push (w':=w.setRow (φ p.block).blk (cur.toList.take (q+n*i.size)++news'++cur.toList.drop (q+n*i.size+news'.length)).toArray)
      ⟨(r.cells.drop p.off).take (n*i.size)++news,e,i.size,true⟩ (φ p.block).blk q (cur.toList.take (q+n*i.size)++news'++cur.toList.drop (q+n*i.size+news'.length)).toArray (by simp;omega) rfl (by simp[World.setRow])
      (fun k _ hk=>setRow_other w _ k _ hk) g3 hfree (by rw[←helem];exact setRow_heap w _ cur _ _ _ g4) hone2 (fun j u hj=> ?_)
     ·have hcs:(cur.toList.take (q+n*i.size)++news'++cur.toList.drop (q+n*i.size+news'.length)).toArray.size=cur.size:=by simp;omega
      refine⟨_,_,_,hexec _ _ _ e2 hr2,fun u hu=> ?_,hpush,by rw[hkl];exact Ext.with _ _ _,by simp[hkl],⟨rfl,rfl,rfl,by simp[World.setRow],fun k hk=>setRow_other w _ k _ (fun e=>g3 (e▸hk))⟩⟩
      cases hu
      rw[hkl,hcs]
      have:=VR.sl (φ:=φ.with h.length ⟨(φ p.block).blk,q,cur.size,i.size,true⟩) (n:=h.length+1) h.length 0 (n+l) (n+l) c' q (by omega) (by rw[Ren.with_same];exact Ent.mp_le (by omega)) hroom (by rw[Ren.with_same];exact .inl rfl)
       (by rw[Ren.with_same];intro _;exact⟨hcap,by rw[e2]at rs;exact eb2 rs g0⟩)
      rw[Ren.with_same]at this
      simpa [hkl]using this
     ·rw[hkl]
      simp only at hj
      obtain⟨u',h3,h4⟩:=hLall.2 j u hj
      refine⟨u', ?_,h4⟩
      have hl2:(cur.toList.take (q+n*i.size)).length=q+n*i.size:=by simp;omega
      simp only[List.getElem?_toArray,eh9]
      by_cases hjn:j<n*i.size
      ·rw[bu4 (by rw[←hLo.1,hoL];exact hjn)]at h3
       rw[bu4 (by omega),td4,if_pos (by omega)]
       have hcell:=hcello j u' h3
       rw[sv1,cell_of_row w _ _ cur _ _ g4]at hcell
       simpa using hcell
      ·rw[lp1 (by rw[←hLo.1,hoL];omega),←hLo.1,hoL]at h3
       rw[lp1 (by omega),hl2,show q+j-(q+n*i.size)=j-n*i.size by omega]
       have:=(ck5.1 h3).1
       rw[bu4 this]
       exact h3
    ·--it grows
     have hm:l≠0:=by omega
     have hr2:=r3 ⟨(φ p.block).blk,q,none⟩ n c' olds' hm (by rw[←hLo.1,hoL]) hcello (by omega) (by omega) (growslice_fits (by omega) hfew2) hfew1 hfew2
     have hge:=grownCap_ge w (n+l) c' e
     have hpush:=hK.push (w':=w.drew.alloc (.cells (olds'.toArray++news'.toArray++Builtin.zeroCells z.cells (grownCap w (n+l) c' e-(n+l))) e))
      ⟨(r.cells.drop p.off).take (n*i.size)++news,e,i.size,true⟩ w.heap.size 0 (olds'.toArray++news'.toArray++Builtin.zeroCells z.cells (grownCap w (n+l) c' e-(n+l))) (ms7 _) rfl (by simp)
      (fun k hk _=>Below.heap_alloc w.drew _ k hk) (fun hb=>a36 _ (hH.size _ hb)) (fun o r' hr' ho'=> ?_) (Go.heap_alloc_new w.drew _) hone2 (fun j u hj=> ?_)
     ·refine⟨_,_,_,hexec _ _ _ e2 hr2,fun u hu=> ?_,hpush,by rw[hkl];exact Ext.with _ _ _,by simp[hkl],⟨rfl,rfl,rfl,by simp,fun k hk=>Below.heap_alloc w.drew _ k (hH.size k hk)⟩⟩
      cases hu
      rw[hkl]
      have:=VR.sl (φ:=φ.with h.length ⟨w.heap.size,0,(olds'.toArray++news'.toArray++Builtin.zeroCells z.cells (grownCap w (n+l) c' e-(n+l))).size,i.size,true⟩) (n:=h.length+1) h.length 0 (n+l) (n+l) (grownCap w (n+l) c' e) 0 (by omega) (by rw[Ren.with_same];exact Ent.mp_le (ms7 _)) hge (by rw[Ren.with_same];exact .inl rfl)
       (by
         rw[Ren.with_same];intro _
         refine⟨?_,grownCap_le_maxLen w (n+l) c' e (by show n+l≤9223372036854775807;omega)⟩
         simp only[Array.size_append,List.size_toArray,size_zeroCells,hzs,hlen',←hLo.1,hoL,←ur9]
         rw[show n+l+(grownCap w (n+l) c' e-(n+l))=grownCap w (n+l) c' e by omega];omega)
      rw[Ren.with_same]at this
      simpa [hkl]using this
     ·have:=hK.blk_lt hr' ho'
      omega
     ·rw[hkl]
      simp only at hj
      obtain⟨u',h3,h4⟩:=hLall.2 j u hj
      refine⟨u', ?_,h4⟩
      have hjl:=(ck5.1 h3).1
      rw[e03,a73 (by simpa using hjl)]
      simpa using h3
   ·cases hc
  ·cases hc
theorem zc0{s x:Operand}{t e:TypeId}{i:TypeInfo}{z:Value}(ho:o.op= .call {callee:= .builtin .append,args:= #[s,x],argTypes:= #[t,t]})(ht:P.underlying t=some (.slice e))(hi:P.info? e=some i)
 (hz:i.zero=some z) (hzs:z.cells.size=i.size) (hp:0<i.size)
 (hF:FR φ h.length nt fr a.tmps) (hH:HR φ B h w) {v h'} (ha:aop fr h (.app e i.size i.bytes s x)=some (v,h')):OpOK P B φ h a w o v h':=by
 simp only[aop]at ha
 split at ha
 ·rename_i sv xv hs hx
  split at ha
  ·rename_i v2 h2 hc
   cases ha
   have rs:=az8 hF hs
   have rx:=az8 hF hx
   have hexec: ∀v' w',(Builtin.append_ #[t,t] o.type #[a.eval s,a.eval x]).run P w= .ok v' w'→(execOp a.eval o).run P w= .ok (.value v') w':=by
    intro v' w' hr
    simp[execOp,ho,resolve,invoke,builtin,hr]
   unfold aapp at hc
   split at hc
   ·rename_i sa n c b m d
    split at hc
    ·rename_i news hnews
     obtain⟨b',l,d',news',e1,hlen,hone,hLR,hrun,hsrc⟩:=im2 (P:=P) hH hnews rx
     have hl:l=m:=by
      cases b with
      |none=>obtain⟨rfl,rfl,e2⟩:=u06 rx;rw[e2]at e1;cases e1;rfl
      |some p=>obtain⟨_,c',e2⟩:=a29 rx;rw[e2]at e1;cases e1;rfl
     rw[e1]at hrun
     have hlen':news'.length=m*i.size:=by rw[←hLR.1,hlen]
     subst hl
     refine kt0 (R:=fun s' v' w'=>(Builtin.append_ #[t,t] o.type #[s',a.eval x]).run P w= .ok v' w') hz hzs hp hF hH rs hLR hone hlen (fun s' v' w' h1 h2=>hexec v' w' (by rw[h1];exact h2)) (fun h0=> ?_) (fun hm hfew=> ?_) (fun p n c' hroom _ _ w' hst=> ?_) (fun p n c' olds' _ h1 h2 h3 h4 h5 _ _=> ?_) hc
     ·show(Builtin.append_ #[t,t] o.type #[.slice none 0 0,a.eval x]).run P w=_
      rw[e1]
      subst h0
      simp[Builtin.append_,run_underlying ht,sizeOf,typeInfo,hi,Builtin.lenOf,hrun]
     ·obtain⟨p,rfl,hcell⟩:=hsrc hm
      simp only[few,b83,jn8]at hfew
      show(Builtin.append_ #[t,t] o.type #[.slice none 0 0,a.eval x]).run P w=_
      rw[e1]
      exact run_append_nil (P:=P) w t o.type e i z ht hi hz p l d' news' hlen' hcell (by omega) (by omega) (by omega)
     ·show(Builtin.append_ #[t,t] o.type #[.slice (some p) n c',a.eval x]).run P w=_
      rw[e1]
      exact dj7 (P:=P) (w:=w) (ty:=o.type) ht hi (p:=p) (n:=n) (c:=c') rfl hroom hrun hst
     ·obtain⟨p2,rfl,hcell⟩:=hsrc (by omega)
      show(Builtin.append_ #[t,t] o.type #[.slice (some p) n c',a.eval x]).run P w=_
      rw[e1]
      exact run_append_grow (P:=P) w t o.type e i z ht hi hz p n c' olds' h1 h2 p2 l d' news' hlen' hcell h3 h4 h5
    ·cases hc
   ·cases hc
  ·cases ha
 ·cases ha
theorem aa4{t u ty e:TypeId}{i:TypeInfo}{z:Value}{k:IntKind}(ht:P.underlying t=some (.slice e))(hu:P.underlying u=some (.int k))(hi:P.info? e=some i)(hz:i.zero=some z){p:Addr}{n c l:Nat}{w':World}(h63:l≤1099511627776)(hs:i.size=1)(hb:l*i.bytes≤140737488355328)
 (hzc:Builtin.zeroCells z.cells l=(List.replicate l (.int .i64 0)).toArray) (hroom:n+l≤c) (hst:(storeCells (p.add (n*i.size)) (List.replicate l (.int .i64 0))).run P w= .ok () w'):
 (Builtin.append_ #[t,u] ty #[.slice (some p) n c, .int .i64 l]).run P w= .ok (.slice (some p) (n+l) c) w':=by
 have hw:IntKind.i64.wrap (l:Int)=l:=by rw[IntKind.wrap_i64];omega
 have h48i: ¬(281474976710656<(l:Int)*(i.bytes:Int)):=by
  rw[←Int.natCast_mul]
  omega
 have hneg: ¬((l:Int)<0):=by omega
 rw[hs]at hst
 by_cases h0:l=0
 ·subst h0
  have hw0:IntKind.i64.wrap 0=0:=hw
  have hst0:(storeCells (p.add n) []).run P w= .ok () w':=by simpa using hst
  simp[Builtin.append_,run_underlying ht,run_underlying hu,sizeOf,typeInfo,zeroValue,hi,hz,hs,asInt,asIntOf,hw0,hroom,hst0]
  omega
 ·simp[Builtin.append_,run_underlying ht,run_underlying hu,sizeOf,typeInfo,zeroValue,hi,hz,hs,asInt,asIntOf,hw,hneg,h48i,hroom,h0,hzc]
  rw[mp4]at hst
  rw[hst];rfl
theorem hj5{z:Value}(hz:z.cells.toList=[.int .i64 0])(l:Nat):Builtin.zeroCells z.cells l=(List.replicate l (.int .i64 0)).toArray:=by
 have h1:z.cells= #[.int .i64 0]:=by
  rw[←Array.toArray_toList (xs:=z.cells),hz]
 rw[h1]
 unfold Builtin.zeroCells
 apply Array.ext
 ·simp
 ·intro j h2 h3
  simp[Nat.mod_one]
theorem mi1{s x:Operand}{t u e:TypeId}{k:IntKind}{i:TypeInfo}{z:Value}(ho:o.op= .call {callee:= .builtin .append,args:= #[s,x],argTypes:= #[t,u]})(ht:P.underlying t=some (.slice e))(hu:P.underlying u=some (.int k))(hi:P.info? e=some i)
 (hz:i.zero=some z) (hzs:z.cells.toList=[.int .i64 0]) (hp:i.size=1)
 (hF:FR φ h.length nt fr a.tmps) (hH:HR φ B h w) {v h'} (ha:aop fr h (.appz e i.bytes s x)=some (v,h')):OpOK P B φ h a w o v h':=by
 have hzc:z.cells.size=i.size:=by rw[hp,←Array.length_toList,hzs];rfl
 simp only[aop]at ha
 split at ha
 ·rename_i sa n c m hs hx
  split at ha
  ·rename_i hm
   split at ha
   ·rename_i v2 h2 hc
    cases ha
    have rs:=az8 hF hs
    have rx:=az8 hF hx
    have hexec: ∀v' w',(Builtin.append_ #[t,u] o.type #[a.eval s,a.eval x]).run P w= .ok v' w'→(execOp a.eval o).run P w= .ok (.value v') w':=by
     intro v' w' hr
     simp[execOp,ho,resolve,invoke,builtin,hr]
    obtain⟨l,rfl⟩: ∃l:Nat,m=l:=⟨m.toNat,by omega⟩
    rw[ao0]at hc
    have e1:a.eval x= .int .i64 l:=by
     generalize a.eval x=y at rx
     cases rx;rfl
    have hrep: ∀{j:Nat} {v:Value},(List.replicate l (Value.int .i64 0))[j]? =some v→v= .int .i64 0:=fun hj=>by
     rw[List.getElem?_replicate]at hj
     split at hj
     ·cases hj;rfl
     ·cases hj
    rw[←hp]at hc
    refine kt0 (R:=fun s' v' w'=>(Builtin.append_ #[t,u] o.type #[s',a.eval x]).run P w= .ok v' w') hz hzc (by omega) hF hH rs (news':=List.replicate l (.int .i64 0)) ⟨rfl,fun j v hj=>⟨_,hj,by rw[hrep hj];exact .int _ _⟩⟩ (fun c hc=>by rw[ug1 hc];rfl) (by rw[jv4,hp,mp4]) (fun s' v' w' h1 h2=>hexec v' w' (by rw[h1];exact h2)) (fun h0=> ?_) (fun hm hfew=> ?_) (fun p n c' hroom h1 h2 w' hst=> ?_) (fun p n c' olds' h0 h1 h2 h3 h4 h5 h6 h7=> ?_) hc
    ·show(Builtin.append_ #[t,u] o.type #[.slice none 0 0,a.eval x]).run P w=_
     rw[e1]
     subst h0
     have hw:IntKind.i64.wrap (0:Int)=0:=by rw[IntKind.wrap_i64];omega
     simp[Builtin.append_,run_underlying ht,run_underlying hu,sizeOf,typeInfo,hi,asInt,asIntOf,hw]
    ·simp only[few,b83,jn8]at hfew
     show(Builtin.append_ #[t,u] o.type #[.slice none 0 0,a.eval x]).run P w=_
     rw[e1,Go.Lib.run_append_nil_zeros (P:=P) w t u o.type e i z .i64 k ht hu hi hz l (by omega) (by omega) (by omega) (by omega),hj5 hzs l]
    ·show(Builtin.append_ #[t,u] o.type #[.slice (some p) n c',a.eval x]).run P w=_
     rw[e1]
     exact aa4 ht hu hi hz (by omega) hp (md7 (wg6 _ (Nat.le_add_left l n)) h2) (hj5 hzs l) hroom hst
    ·show(Builtin.append_ #[t,u] o.type #[.slice (some p) n c',a.eval x]).run P w=_
     rw[e1,Go.Lib.run_append_grow_zeros (P:=P) w t u o.type e i z .i64 k ht hu hi hz (some p) n c' olds' (run_firstCells_some (P:=P) w.drew i.size n p n c' olds' h1 (by simpa using h2)) l (by omega) (by omega) h3 h4 (md7 (wg6 i.bytes (Nat.le_add_left l n)) (by omega)) h5,hj5 hzs l]
   ·cases ha
  ·cases ha
 ·cases ha
end
end Go.Am
namespace Go.Am
open Go.RowKit (Below)
theorem re7{l vs:List Value}{off:Nat}(h:off+vs.length≤l.length):(hu1 l off vs).length=l.length:=by
 unfold hu1;simp;omega
theorem gr9{l x y:List Value}{off:Nat}(h:off+x.length≤l.length):hu1 (hu1 l off x) (off+x.length) y=hu1 l off (x++y):=by
 unfold hu1
 have hA:(l.take off++x).length=off+x.length:=by simp;omega
 rw[List.take_append_of_le_length (by omega),sp3 (by omega),List.drop_append,jx3 (by omega),m51,hA,pb3,j82,
  show off+x.length+(off+x.length+y.length-(off+x.length))=off+(x.length+y.length) by omega,←eh9]
theorem u26(off:Nat): ∀(vs:List Value) (j:Nat) (cells:Array Value),off+j+vs.length≤cells.size→
 ((vs.zipIdx j).foldl (fun cs (x:Value×Nat)=>cs.setIfInBounds (off+x.2) x.1) cells).toList=hu1 cells.toList (off+j) vs
 | [],j,cells,_=>by simp[hu1]
 |v::vs,j,cells,hl=>by
  simp only[q90]at hl
  simp only[List.zipIdx_cons,h08]
  rw[u26 off vs (j+1) _ (by simp;omega)]
  unfold hu1
  apply v63
  intro i
  have hs:cells.toList.length=cells.size:=by simp
  simp only[Array.toList_setIfInBounds,List.getElem?_append,vb8,kb7,q90,td4,s96,j82,hs]
  have e1:min (off+(j+1)) cells.size=off+j+1:=by omega
  have e2:min (off+j) cells.size=off+j:=by omega
  rw[e1,e2]
  by_cases h1:i<off+j
  ·rw[if_pos (by omega),if_pos (by omega),if_pos (by omega),if_pos (by omega),if_pos (by omega),if_pos (by omega),b17 (by omega)]
  ·by_cases h2:i=off+j
   ·subst h2
    rw[if_pos (by omega),if_pos (by omega),if_pos (by omega),if_pos (by omega),if_neg (by omega)]
    rw[j13 (by omega)]
    simp
   ·by_cases h3:i<off+j+1+vs.length
    ·rw[if_pos (by omega),if_neg (by omega),if_pos (by omega),if_neg (by omega)]
     rw[show i-(off+j)=(i-(off+j+1))+1 by omega]
     simp
    ·rw[if_neg (by omega),if_neg (by omega),b17 (by omega)]
     congr 1
     omega
theorem km4(off:Nat)(v:Value)(cells:Array Value)(h:off+v.cells.size≤cells.size):
 (v.cells.zipIdx.foldl (fun cs (x:Value×Nat)=>cs.setIfInBounds (off+x.2) x.1) cells).toList=hu1 cells.toList off v.cells.toList:=by
 rw[←Array.foldl_toList,Array.toList_zipIdx]
 have:=u26 off v.cells.toList 0 cells (by simpa using h)
 simpa using this
theorem of1{φ:Ren}{n:Nat}{pl:Nat→Option (Nat×Nat)}{pl':Nat→Option (Nat×Nat)}(hpl: ∀i x,pl i=some x→pl' i=some x):
 ∀(vs:List (Nat×Value)) (vs':List (Nat×Value)) (cells:List Value) (cells':Array Value) (out:List Value),ah0 pl cells vs=some out→LR φ n cells cells'.toList→(∀c∈cells,c.oneCell'=true)→
  vs.length=vs'.length→(∀(i:Nat) x,vs[i]? =some x→ ∃y,vs'[i]? =some y∧y.1=x.1∧VR φ n x.2 y.2)→
  ∃out',Instr.fill pl' cells' vs'=some out'∧LR φ n out out'.toList∧ ∀c∈out,c.oneCell'=true
 | [],vs',cells,cells',out,ha,hc,h1,hl,_=>by
   obtain rfl:vs'=[]:=js1 hl.symm
   simp only[ah0,hx3]at ha
   subst ha
   exact⟨cells',rfl,hc,h1⟩
 |(i,v)::vs,vs',cells,cells',out,ha,hc,h1,hl,hv=>by
  cases vs' with
  |nil=>simp at hl
  |cons y vs'=>
   obtain⟨y1,e1,e2,e3⟩:=hv 0 (i,v) rfl
   simp only[rw5,hx3]at e1
   subst e1
   obtain⟨i',v'⟩:=y
   simp only at e2 e3
   subst e2
   simp only[ah0]at ha
   cases hp:pl i' with
   |none=>rw[hp]at ha;cases ha
   |some os=>
    obtain⟨off,size⟩:=os
    rw[hp]at ha
    simp only at ha
    split at ha
    ·cases ha
    ·rename_i hcond
     simp only[ey6,not_or,Bool.not_eq_true,Bool.not_eq_false',jn8,decide_eq_false_iff_not,Decidable.not_not]at hcond
     obtain⟨⟨hs,hf⟩,hfit⟩:=hcond
     have hs':v'.cells.size=size:=by rw[e3.cells_size];exact hs
     have hcl:cells'.size=cells.length:=by have:=hc.1;simpa using this.symm
     have hone':=km4 off v' cells' (by omega)
     have hsp:LR φ n (hu1 cells off v.cells.toList) (v'.cells.zipIdx.foldl (fun cs (x:Value×Nat)=>cs.setIfInBounds (off+x.2) x.1) cells').toList:=by
      rw[hone'];exact hc.hu1 e3.cells off
     obtain⟨out',k1,k2,k3⟩:=of1 hpl vs vs' _ _ out ha hsp (fun c hcc=>by
      unfold hu1 at hcc
      simp only[bk2]at hcc
      rcases hcc with(hcc|hcc)|hcc
      ·exact h1 c (tn5 hcc)
      ·exact e3.cells_one hf c hcc
      ·exact h1 c (lq8 hcc)) (by simpa using hl) (fun j x hj=>by simpa using hv (j+1) x (by simpa using hj))
     refine⟨out', ?_,k2,k3⟩
     simp only[Instr.fill,hpl _ _ hp]
     rw[if_neg (by simp;omega)]
     exact k1
section
variable {P:Program} {B:Nat→Prop} {φ:Ren} {nt:Nat} {fr:Fr} {h:H} {a:Act} {w:World} {o:Oper}
theorem y82(hF:FR φ h.length nt fr a.tmps): ∀{xs:List (Nat×Operand)} {vs:List (Nat×Value)},evp fr xs=some vs→
 vs.length=(xs.map fun p=>(p.1,a.eval p.2)).length∧ ∀(i:Nat) x,vs[i]? =some x→ ∃y,(xs.map fun p=>(p.1,a.eval p.2))[i]? =some y∧y.1=x.1∧VR φ h.length x.2 y.2
 | [],vs,hx=>by cases hx;exact⟨rfl,fun i x h=>by simp at h⟩
 |(k,x)::xs,vs,hx=>by
  simp only[evp]at hx
  split at hx
  ·rename_i v vs' h1 h2
   cases hx
   obtain⟨e1,e2⟩:=y82 hF h2
   refine⟨by simp[e1],fun i y hy=> ?_⟩
   cases i with
   |zero=>simp at hy;subst hy;exact⟨(k,a.eval x),by simp,rfl,az8 hF h1⟩
   |succ i=>simpa using e2 i y (by simpa using hy)
  ·cases hx
theorem qb9{t:TypeId}{parts:Array (Nat×Operand)}{zs:Value}{pl:List (Nat×Nat)}(ho:o.op= .build t parts)
 (hb: ∀(ps:List (Nat×Value)) (out:Array Value),Instr.fill (fun i=>pl[i]?) zs.cells ps=some out→P.built t ps=some out) (hc:zs.cells.all tc5=true)
 (hF:FR φ h.length nt fr a.tmps) (hH:HR φ B h w) {v h'} (ha:aop fr h (.build zs.cells.toList pl parts.toList)=some (v,h')):OpOK P B φ h a w o v h':=by
 simp only[aop]at ha
 split at ha
 ·rename_i vs hvs
  split at ha
  ·rename_i cs hcs
   cases ha
   obtain⟨e1,e2⟩:=y82 hF hvs
   have hcl:zs.cells.toList.all tc5=true:=by simpa [Array.all_toList]using hc
   obtain⟨out',k1,k2,k3⟩:=of1 (φ:=φ) (n:=h.length) (pl:=fun i=>pl[i]?) (pl':=fun i=>pl[i]?) (fun _ _ h=>h) vs _ _ zs.cells cs hcs (ko0 hcl) (fun c hc=>(en6 (φ:=φ) (n:=0) (p92.1 hcl c hc)).2) e1 e2
   have hl:(parts.map fun(i,x)=>(i,a.eval x)).toList=parts.toList.map fun p=>(p.1,a.eval p.2):=by simp
   have hr:=run_build (P:=P) w t (parts.map fun(i,x)=>(i,a.eval x)) out' (by rw[hl];exact hb _ _ k1)
   have hag:=k2.agg k3
   refine OpOK.pure hH (v':= .agg out') ?_ (by simpa using hag)
   simp[execOp,ho,hr]
  ·cases ha
 ·cases ha
theorem sd8{size:Nat}: ∀(vs:List Value),sized size vs=true→(cat vs).length=vs.length*size∧ ∀c∈cat vs,∃v∈vs,flat v=true∧c∈v.cells.toList
 | [],_=>⟨by simp[cat],fun c h=>by simp[cat]at h⟩
 |v::vs,hs=>by
  simp only[sized,b83,ui3]at hs
  obtain⟨h1,h2⟩:=sd8 vs hs.2
  refine⟨by simp[cat,h1,hs.1.1,ur9];omega,fun c hc=> ?_⟩
  simp only[cat,bk2]at hc
  rcases hc with hc|hc
  ·exact⟨v,by simp,hs.1.2,hc⟩
  ·obtain⟨u,h3,h4,h5⟩:=h2 c hc
   exact⟨u,by simp[h3],h4,h5⟩
theorem ff9{size:Nat}: ∀(vs:List Value) (k:Nat) (cells:Array Value),(∀v∈vs,v.cells.size=size)→(k+vs.length)*size≤cells.size→
 ∃out,Instr.fill (fun i=>some (i*size,size)) cells ((List.range' k vs.length).zip vs)=some out∧out.toList=hu1 cells.toList (k*size) (cat vs)
 | [],k,cells,_,_=>⟨cells,by simp[Instr.fill],by simp[cat,hu1]⟩
 |v::vs,k,cells,hs,hl=>by
  have hv:v.cells.size=size:=hs v (by simp)
  have hfit:k*size+size≤cells.size:=by
   have:(k+1)*size≤(k+(vs.length+1))*size:=wg6 _ (by omega)
   simp only[q90]at hl
   rw[ur9,Nat.one_mul]at this
   omega
  have hone:=km4 (k*size) v cells (by omega)
  have hsz:(v.cells.zipIdx.foldl (fun cs (x:Value×Nat)=>cs.setIfInBounds (k*size+x.2) x.1) cells).size=cells.size:=by
   rw[←Array.length_toList,hone,re7 (by simp;omega),Array.length_toList]
  obtain⟨out,h1,h2⟩:=ff9 vs (k+1) _ (fun u hu=>hs u (by simp[hu])) (by rw[hsz];simp only[q90]at hl;rw[show k+1+vs.length=k+(vs.length+1) by omega];exact hl)
  refine⟨out, ?_, ?_⟩
  ·simp only[q90,List.range'_succ,wl8,Instr.fill]
   rw[if_neg (by simp;omega)]
   exact h1
  ·have hvl:v.cells.toList.length=size:=by simpa using hv
   rw[h2,hone,ur9,Nat.one_mul]
   have:=gr9 (l:=cells.toList) (x:=v.cells.toList) (y:=cat vs) (off:=k*size) (by simp;omega)
   rw[hvl]at this
   exact this
theorem l47(f:Operand→Value): ∀(l:List (Nat×Operand)),l.map (fun p=>(p.1,f p.2))=(l.map (·.1)).zip ((l.map (·.2)).map f)
 | []=>rfl
 |p::l=>by simp[l47 f l]
theorem gv0{t e:TypeId}{len:Nat}{parts:Array (Nat×Operand)}{i:TypeInfo}{z:Value}(ho:o.op= .buildSlice t len parts)(ht:P.underlying t=some (.slice e))(hi:P.info? e=some i)(hz:i.zero=some z)
 (_hc:z.cells.all tc5=true) (hzs:z.cells.size=i.size) (hlen0:len*i.size≤16777216∧len≤16777216) (hix:parts.toList.map (·.1)=List.range len)
 (hF:FR φ h.length nt fr a.tmps) (hH:HR φ B h w) {v h'} (ha:aop fr h (.mkSl e i.size len (parts.toList.map (·.2)))=some (v,h')):OpOK P B φ h a w o v h':=by
 obtain⟨hlen,hlen2⟩:=hlen0
 simp only[aop]at ha
 split at ha
 ·rename_i vs hvs
  split at ha
  ·rename_i hcond
   simp only[b83,ui3]at hcond
   obtain⟨hsz,hvl⟩:=hcond
   cases ha
   have hL:=p23 hF hvs
   obtain⟨hcl,hcm⟩:=sd8 vs hsz
   have hpl:parts.toList.length=len:=by have:=congrArg List.length hix;simpa using this
   generalize hvs':(parts.toList.map (·.2)).map a.eval=vs' at hL
   have hvl':vs'.length=len:=by rw[←hL.1];exact hvl
   have hsz': ∀u∈vs',u.cells.size=i.size:=by
    intro u hu
    obtain⟨j,hj,he⟩:=zd4 hu
    obtain⟨u',h1,h2⟩:=hL.2 j (vs[j]'(by rw[hL.1];exact hj)) (wu3 _)
    rw[wu3 hj,hx3]at h1
    have hm:vs[j]'(by rw[hL.1];exact hj)∈vs:=ws6 _
    have hs2: ∀x∈vs,x.cells.size=i.size:=by
     clear hcl hcm hL hvs hvl hvl' hj he h1 h2 hm
     induction vs with
     |nil=>simp
     |cons x xs ih=>
      simp only[sized,b83,ui3]at hsz
      intro y hy
      rcases r04.1 hy with rfl|hy
      ·exact hsz.1.1
      ·exact ih hsz.2 y hy
    rw[←he,h1,h2.cells_size]
    exact hs2 _ hm
   have hparts:(parts.map fun(j,x)=>(j,a.eval x)).toList=(List.range' 0 vs'.length).zip vs':=by
    rw[hvl',←List.range_eq_range',←hix,←hvs',←l47]
    simp
   generalize hzc:((Array.range (len*i.size)).map (fun j=>(if len*i.size=0 then #[]else z.cells)[j%(if len*i.size=0 then #[]else z.cells).size]!))=zc
   have hzcs:zc.size=len*i.size:=by rw[←hzc];simp
   obtain⟨out,h1,h2⟩:=ff9 (size:=i.size) vs' 0 zc hsz' (by rw[hzcs,e03,hvl'];omega)
   have hcat:LR φ h.length (cat vs) (cat vs'):=by
    clear hparts h1 h2 hsz' hvl' hvs' hcl hcm hsz hvl hvs
    obtain⟨l1,l2⟩:=hL
    induction vs generalizing vs' with
    |nil=>obtain rfl:vs'=[]:=js1 (by simpa using l1.symm);exact LR.nil _ _
    |cons x xs ih=>
     cases vs' with
     |nil=>simp at l1
     |cons y ys=>
      obtain⟨y',k1,k2⟩:=l2 0 x rfl
      simp only[rw5,hx3]at k1
      subst k1
      exact k2.cells.append (ih ys (by simpa using l1) (fun j u hj=>by simpa using l2 (j+1) u (by simpa using hj)))
   have hcl':(cat vs').length=len*i.size:=by rw[←hcat.1,hcl,hvl]
   have hout:out.toList=cat vs':=by
    rw[h2,v88]
    unfold hu1
    simp only[si3,m51,e03]
    rw[jx3 (by simp[hzcs,hcl'])]
    simp
   refine OpOK.new (cur:=out) hH rfl (v':= .slice (some ⟨w.heap.size,0,none⟩) len len) ?_ (.inl rfl) (fun c hc=> ?_) (fun j u hj=> ?_) ?_
   ·have h1':Instr.fill (fun j=>some (j*i.size,i.size)) zc (parts.map fun(j,x)=>(j,a.eval x)).toList=some out:=by rw[hparts];exact h1
    rw[←hzc]at h1'
    have hgt: ¬(16777216<len*i.size):=by omega
    by_cases h0:len*i.size=0
    ·simp only[h0,oo9]at h1'
     simp[execOp,ho,Instr.buildSlice,run_underlying ht,run_sizeOf hi,h0]at h1'⊢
     simp[h1',newRow]
    ·simp only[h0,wj1]at h1'
     simp[execOp,ho,Instr.buildSlice,run_underlying ht,run_sizeOf hi,h0,hgt,jt8 hi hz]at h1'⊢
     simp[h1',newRow]
   ·obtain⟨u,k1,k2,k3⟩:=hcm c hc
    obtain⟨j,hj,he⟩:=zd4 k1
    obtain⟨u',k4,k5⟩:=hL.2 j u (by rw[←he];exact wu3 hj)
    exact k5.cells_one k2 c k3
   ·obtain⟨u',k1,k2⟩:=hcat.2 j u hj
    exact⟨u',by rw[←hout]at k1;simpa using k1,k2⟩
   ·have hos:out.size=len*i.size:=by rw[←Array.length_toList,hout,hcl']
    have:=VR.sl (φ:=φ.with h.length ⟨w.heap.size,0,out.size,i.size,true⟩) (n:=h.length+1) h.length 0 len len len 0 (by omega) (by rw[Ren.with_same];exact Ent.mp_le (ms7 _)) (jj6 _) (by rw[Ren.with_same];exact .inl rfl)
     (by rw[Ren.with_same];intro _;exact⟨by simp[hos],by omega⟩)
    rw[Ren.with_same]at this
    exact this
  ·cases ha
 ·cases ha
theorem ac2{k:IntKind}: ∀{vs:List Value} {l:List Int},ho0 k vs=some l→vs=l.map (Value.int k)
 | [],l,h=>by cases h;rfl
 |v::vs,l,h=>by
  unfold ho0 at h
  split at h
  ·rename_i heq;cases heq
  ·rename_i k' n r heq
   cases heq
   split at h
   ·rename_i hk
    subst hk
    split at h
    ·rename_i l' hl
     cases h
     simp[ac2 hl]
    ·cases h
   ·cases h
  ·cases h
theorem LR.ints{φ:Ren}{n:Nat}{k:IntKind}{l:List Int}{vs':List Value}(h:LR φ n (l.map (Value.int k)) vs'):vs'=l.map (Value.int k):=by
 apply v63
 intro i
 by_cases hi:i<l.length
 ·obtain⟨v',h1,h2⟩:=h.2 i (.int k l[i]) (by simp[hi])
  rw[h1,rk2 h2];simp[hi]
 ·have:=h.1
  rw[pb5 (by simp at this;omega),pb5 (by simp;omega)]
theorem a19{k:IntKind}: ∀(l:List Int) (n:Int),((l.map (Value.int k)).foldlM Builtin.min2 (.int k n)).run P w= .ok (.int k (l.foldl (mm false) n)) w
 | [],n=>by simp
 |x::l,n=>by
  simp only[nf9,List.foldlM_cons,Sem.run_bind,Builtin.min2,Sem.run_pure,Result.andThen_ok,h08]
  exact a19 l _
theorem h57{k:IntKind}: ∀(l:List Int) (n:Int),((l.map (Value.int k)).foldlM Builtin.max2 (.int k n)).run P w= .ok (.int k (l.foldl (mm true) n)) w
 | [],n=>by simp
 |x::l,n=>by
  simp only[nf9,List.foldlM_cons,Sem.run_bind,Builtin.max2,Sem.run_pure,Result.andThen_ok,h08]
  exact h57 l _
theorem l58{mx:Bool}{ts:Array TypeId}{xs:Array Operand}(ho:o.op= .call {callee:= .builtin (if mx then .max else .min),args:=xs,argTypes:=ts})
 (hF:FR φ h.length nt fr a.tmps) (hH:HR φ B h w) {v h'} (ha:aop fr h (.minmax mx xs.toList)=some (v,h')):OpOK P B φ h a w o v h':=by
 simp only[aop]at ha
 split at ha
 ·rename_i vs hvs
  split at ha
  ·rename_i k n r
   split at ha
   ·rename_i l hl
    cases ha
    have hL:=p23 hF hvs
    rw[ac2 hl]at hL
    have he:(xs.toList.map a.eval)=(n::l).map (Value.int k):=by
     have:LR φ h.length ((n::l).map (Value.int k)) (xs.toList.map a.eval):=hL
     exact LR.ints this
    refine OpOK.pure hH ?_ (.int _ _)
    have he2:(xs.map a.eval).toList=(n::l).map (Value.int k):=by simpa using he
    cases mx
    ·simp only[execOp,ho,resolve,invoke,builtin]
     simp[Builtin.min_,he2,a19]
     simp at he
     simp[he,a19]
    ·simp only[execOp,ho,resolve,invoke,builtin]
     simp at he
     simp[Builtin.max_,he,h57]
   ·cases ha
  ·cases ha
 ·cases ha
end
end Go.Am
namespace Go.Am
open Go.RowKit (Below)
open Go.MapKept (run_setObj_map run_checkKey run_findKey heap_set IsKey)
theorem np9{φ:Ren}{n:Nat}{kd:IntKind}{i:Int}{cs:List Value}{es:List MapEntry}(hr:MRel φ n cs es): ∀{v:Option Value} (j:Nat),gn2 kd i cs=some v→
 ∃a,Instr.findNow (.int kd) (.int kd i) es j=some a∧((v=none∧a=none)∨ ∃x x' p,v=some x∧a=some (p,x')∧VR φ n x x'):=by
 induction hr with
 |nil=>intro v j hv;cases hv;exact⟨none,rfl, .inl ⟨rfl,rfl⟩⟩
 | @cons k i' c e cs es h1 h2 h3 ih=>
   intro v j hv
   simp only[gn2]at hv
   split at hv
   ·rename_i hk
    subst hk
    simp only[Instr.findNow,h1,Instr.sameNow,if_pos]
    by_cases hi:i'=i
    ·subst hi
     rw[if_pos rfl]at hv
     cases hv
     rw[beq_self_eq_true]
     exact⟨_,rfl, .inr ⟨c,e.val,j,rfl,rfl,h2⟩⟩
    ·rw[if_neg hi]at hv
     rw[show(i==i')=false from beq_false_of_ne fun e=>hi e.symm]
     exact ih (j+1) hv
   ·cases hv
theorem nq7{φ:Ren}{n:Nat}{kd:IntKind}{i:Int}{x x':Value}(hx:VR φ n x x'){cs:List Value}{es:List MapEntry}(hr:MRel φ n cs es): ∀{cs':List Value} (j ck:Nat),mset kd i x cs=some cs'→
 ∃a,Instr.findNow (.int kd) (.int kd i) es j=some a∧((a=none∧MRel φ n cs' (es++[{key:= .int kd i,val:=x',born:=ck}]))∨
  ∃p y e,a=some (j+p,y)∧es[p]? =some e∧e.key= .int kd i∧MRel φ n cs' (es.set p {e with key:= .int kd i,val:=x'})):=by
 induction hr with
 |nil=>intro cs' j ck hv;cases hv;exact⟨none,rfl, .inl ⟨rfl, .cons rfl hx .nil⟩⟩
 | @cons k i' c e cs es h1 h2 h3 ih=>
   intro cs' j ck hv
   simp only[mset]at hv
   split at hv
   ·rename_i hk
    subst hk
    simp only[Instr.findNow,h1,Instr.sameNow,if_pos]
    by_cases hi:i'=i
    ·subst hi
     rw[if_pos rfl]at hv
     cases hv
     rw[beq_self_eq_true]
     exact⟨_,rfl, .inr ⟨0,e.val,e,rfl,rfl,h1, .cons rfl hx h3⟩⟩
    ·rw[if_neg hi]at hv
     rw[show(i==i')=false from beq_false_of_ne fun e=>hi e.symm]
     cases hc:mset k i x cs with
     |none=>rw[hc]at hv;cases hv
     |some l=>
      rw[hc]at hv
      cases hv
      obtain⟨a,a1,a2⟩:=ih (j+1) ck hc
      refine⟨a,a1, ?_⟩
      rcases a2 with⟨b1,b2⟩|⟨p,y,e',b1,b2,b3,b4⟩
      ·exact .inl ⟨b1, .cons h1 h2 b2⟩
      ·exact .inr ⟨p+1,y,e',by rw[b1];congr 2;omega,b2,b3, .cons h1 h2 b4⟩
   ·cases hv
theorem jr4{α:Type}{l:List α}{p:Nat}{e:α}(f:α→α)(h:l[p]? =some e):l.modify p f=l.set p (f e):=by
 apply v63
 intro j
 rw[List.getElem?_modify,gy2]
 by_cases hj:p=j
 ·subst hj
  have:=(ck5.1 h).1
  rw[wu3 this]at h
  cases h
  simp[this]
 ·simp[hj]
theorem HR.pushMap{φ:Ren}{B:Nat→Prop}{h:H}{w:World}(hh:HR φ B h w)(elem:TypeId):
 HR (φ.with h.length ⟨w.heap.size,1,0,0,true⟩) B (h++[.row ⟨[],elem,0,true⟩]) (w.alloc (.map #[] 0)):=by
 have hsz:(w.alloc (.map #[] 0)).heap.size=w.heap.size+1:=by simp
 have hold: ∀k,k<w.heap.size→(w.alloc (.map #[] 0)).heap[k]? =w.heap[k]? :=fun k hk=>Below.heap_alloc w _ k hk
 have hnew:(w.alloc (.map #[] 0)).heap[w.heap.size]? =some (.map #[] 0):=Go.heap_alloc_new w _
 have hext:=Ext.with φ h.length ⟨w.heap.size,1,0,0,true⟩
 have hmp:(⟨w.heap.size,1,0,0,true⟩:Ent).mp=true:=rfl
 generalize he:(⟨w.heap.size,1,0,0,true⟩:Ent)=en at*
 have hlen:(h++[Ob.row ⟨[],elem,0,true⟩]).length=h.length+1:=by simp
 have hmono: ∀{c v},VR φ h.length c v→VR (φ.with h.length en) (h++[Ob.row ⟨[],elem,0,true⟩]).length c v:=fun hv=>hv.mono hext (by omega)
 have hfree: ∀o r,h.row o=some r→r.own=true→(φ o).blk≠w.heap.size:=fun o r hr ho=>by have:=hh.blk_lt hr ho;omega
 refine⟨fun o r' hr' ho hm=> ?_,fun o r' hr' ho hm=> ?_,fun o r' hr' ho=> ?_,fun o r' hr'=> ?_,fun o o' r1 r2 h1 h2 o1 o2 he'=> ?_,fun k hk=>by have:=hh.size k hk;omega⟩
 ·rcases v39 hr' with⟨hlt,hr'⟩|⟨rfl,rfl⟩
  ·rw[hext o hlt]at hm⊢
   obtain⟨h0,h2,es,ck,h3,h4⟩:=hh.mpo o r' hr' ho hm
   exact⟨h0,h2,es,ck,by rw[hold _ (un8.1 h3).1];exact h3,h4.mono hext (by omega)⟩
  ·rw[Ren.with_same,←he]
   exact⟨rfl,fun hb=>a36 _ (hh.size _ hb), #[],0,hnew, .nil⟩
 ·rcases v39 hr' with⟨hlt,hr'⟩|⟨rfl,rfl⟩
  ·rw[hext o hlt]at hm⊢
   obtain⟨h0,h2,h3,cur',h4,h5,h6⟩:=hh.own o r' hr' ho hm
   exact⟨h0,h2,h3,cur',by rw[hold _ (un8.1 h4).1];exact h4,h5,fun i c hc=>let⟨v,h7,h8⟩:=h6 i c hc;⟨v,h7,hmono h8⟩⟩
  ·rw[Ren.with_same,hmp]at hm;cases hm
 ·rcases v39 hr' with⟨hlt,hr'⟩|⟨rfl,rfl⟩
  ·rw[hext o hlt]
   obtain⟨hn,h1⟩:=hh.ro o r' hr' ho
   refine⟨hn,fun i c hc=> ?_⟩
   obtain⟨h0,v,h2,h3⟩:=h1 i c hc
   exact⟨h0,v,by rw[←h2];exact World.cell?_of_block (hold _ (hh.size _ h0)),hmono h3⟩
  ·cases ho
 ·rcases v39 hr' with⟨hlt,hr'⟩|⟨rfl,rfl⟩
  ·exact hh.one o r' hr'
  ·intro c hc;cases hc
 ·rcases v39 h1 with⟨l1,k1⟩|⟨rfl,rfl⟩<;>rcases v39 h2 with⟨l2,k2⟩|⟨rfl,rfl⟩
  ·rw[hext o l1,hext o' l2]at he';exact hh.inj o o' r1 r2 k1 k2 o1 o2 he'
  ·rw[hext o l1,Ren.with_same,←he]at he';exact absurd he' (hfree o r1 k1 o1)
  ·rw[hext o' l2,Ren.with_same,←he]at he';exact absurd he'.symm (hfree o' r2 k2 o2)
  ·rfl
theorem HR.putMap{φ:Ren}{B:Nat→Prop}{h:H}{w w':World}(hh:HR φ B h w){o:Nat}{r:Row}(hr:h.row o=some r)(ho:r.own=true)(hm:(φ o).mp=true)(cs:List Value)(es:Array MapEntry)(ck:Nat)
 (hsz:w'.heap.size=w.heap.size) (hoth: ∀k,k≠(φ o).blk→w'.heap[k]? =w.heap[k]?) (hb:w'.heap[(φ o).blk]? =some (.map es ck))
 (hone: ∀c∈cs,c.oneCell'=true) (hcs:MRel φ h.length cs es.toList):
 HR φ B (h.set o (.row {r with cells:=cs})) w':=by
 have hlt:=fz4 hr
 have hl:(h.set o (Ob.row {r with cells:=cs})).length=h.length:=by simp
 have hrow: ∀{o' r'},H.row (h.set o (Ob.row {r with cells:=cs})) o'=some r'→(o'=o∧r'={r with cells:=cs})∨(o'≠o∧h.row o'=some r'):=by
  intro o' r' h'
  rw[ro8]at h'
  split at h'
  ·rename_i he;simp at h';exact .inl ⟨he.1.symm,h'.symm⟩
  ·rename_i hne;exact .inr ⟨fun e=>hne ⟨e.symm,hlt⟩,h'⟩
 have hroot: ∀{o' r'},H.row (h.set o (Ob.row {r with cells:=cs})) o'=some r'→ ∃r0,h.row o'=some r0∧r0.own=r'.own:=by
  intro o' r' h'
  rcases hrow h' with⟨rfl,rfl⟩|⟨_,h'⟩
  ·exact⟨r,hr,rfl⟩
  ·exact⟨r',h',rfl⟩
 obtain⟨g2,g3,_⟩:=hh.mpo o r hr ho hm
 refine⟨fun o' r' h' own' hm'=> ?_,fun o' r' h' own' hm'=> ?_,fun o' r' h' own'=> ?_,fun o' r' h'=> ?_,fun a b ra rb h1 h2 o1 o2 he=> ?_,by rw[hsz];exact hh.size⟩
 ·rw[hl]
  rcases hrow h' with⟨rfl,rfl⟩|⟨hne,h'⟩
  ·exact⟨g2,g3,es,ck,hb,hcs⟩
  ·obtain⟨k2,k3,es',ck',k4,k5⟩:=hh.mpo o' r' h' own' hm'
   exact⟨k2,k3,es',ck',by rw[hoth _ (fun e=>hne (hh.inj o' o r' r h' hr own' ho e))];exact k4,k5⟩
 ·rw[hl]
  rcases hrow h' with⟨rfl,rfl⟩|⟨hne,h'⟩
  ·rw[hm]at hm';cases hm'
  ·obtain⟨k0,k2,k3,cur',k4,k5,k6⟩:=hh.own o' r' h' own' hm'
   exact⟨k0,k2,k3,cur',by rw[hoth _ (fun e=>hne (hh.inj o' o r' r h' hr own' ho e))];exact k4,k5,k6⟩
 ·rw[hl]
  rcases hrow h' with⟨rfl,rfl⟩|⟨hne,h'⟩
  ·rw[ho]at own';cases own'
  ·obtain⟨kn,k1⟩:=hh.ro o' r' h' own'
   refine⟨kn,fun i c hc=> ?_⟩
   obtain⟨k0,v,k2,k3⟩:=k1 i c hc
   exact⟨k0,v,by rw[←k2];exact World.cell?_of_block (hoth _ (fun e=>g3 (e▸k0))),k3⟩
 ·rcases hrow h' with⟨rfl,rfl⟩|⟨hne,h'⟩
  ·exact hone
  ·exact hh.one o' r' h'
 ·obtain⟨ra',e1,e2⟩:=hroot h1
  obtain⟨rb',e3,e4⟩:=hroot h2
  exact hh.inj a b ra' rb' e1 e3 (e2.trans o1) (e4.trans o2) he
theorem iu0{kd:IntKind}{i:Int}{x:Value}(hx:x.oneCell'=true): ∀{cs cs':List Value},mset kd i x cs=some cs'→(∀c∈cs,c.oneCell'=true)→ ∀c∈cs',c.oneCell'=true
 | [],cs',h,h1=>by
   cases h
   intro c hc
   rcases r04.1 hc with rfl|hc
   ·rfl
   ·rw[q05]at hc;subst hc;exact hx
 | [a],cs',h,h1=>by cases a<;>cases h
 |a::b::l,cs',h,h1=>by
  have ih:=fun cs' (h:mset kd i x l=some cs')=>iu0 hx h (fun c hc=>h1 c (by simp[hc]))
  have ha:=h1 a (by simp)
  have hb:=h1 b (by simp)
  cases a<;>try (cases h;done)
  rename_i kd' j
  simp only[mset]at h
  split at h
  ·split at h
   ·cases h
    intro c hc
    rcases r04.1 hc with rfl|hc
    ·rfl
    ·rcases r04.1 hc with rfl|hc
     ·exact hx
     ·exact h1 c (by simp[hc])
   ·split at h
    ·rename_i l' hl
     cases h
     intro c hc
     rcases r04.1 hc with rfl|hc
     ·rfl
     ·rcases r04.1 hc with rfl|hc
      ·exact hb
      ·exact ih _ hl c hc
    ·cases h
  ·cases h
section
variable {P:Program} {B:Nat→Prop} {φ:Ren} {nt:Nat} {fr:Fr} {h:H} {a:Act} {w:World} {o:Oper}
theorem v23{t elem:TypeId}(ho:o.op= .makeMap t none)(hH:HR φ B h w){v h'}(ha:aop fr h (.mmk elem)=some (v,h')):OpOK P B φ h a w o v h':=by
 simp only[aop]at ha
 cases ha
 refine⟨_,_,_,by simp only[execOp,ho,Option.map_none];rfl,fun u hu=> ?_,hH.pushMap elem,Ext.with _ _ _,by simp,⟨rfl,rfl,rfl,by simp,fun k hk=>Below.heap_alloc w _ k (hH.size k hk)⟩⟩
 cases hu
 have:=VR.map (φ:=φ.with h.length ⟨w.heap.size,1,0,0,true⟩) (n:=(h++[Ob.row ⟨[],elem,0,true⟩]).length) h.length (by simp) (by rw[Ren.with_same];rfl)
 rw[Ren.with_same]at this
 exact this
theorem zk8{t kt et:TypeId}{kd:IntKind}{x y:Operand}{i:TypeInfo}{z:Value}(ho:o.op= .lookup t x y false)(ht:P.underlying t=some (.map kt et))(hk:P.underlying kt=some (.int kd))(hi:P.info? et=some i)(hz:i.zero=some z)(hcl:tc5 z=true)
 (hF:FR φ h.length nt fr a.tmps) (hH:HR φ B h w) {v h'} (ha:aop fr h (.mget kd z x y)=some (v,h')):OpOK P B φ h a w o v h':=by
 obtain⟨ob,j,r,u,h1,h2,h3,h4,h5,h6⟩:=oe0.1 ha
 cases h6
 obtain⟨hlt,hmp,e1⟩:=bp5 (az8 hF h1)
 have e2:=rk2 (az8 hF h2)
 obtain⟨_,_,es,ck,k1,k2⟩:=hH.mpo ob r h3 h4 hmp
 obtain⟨f,f1,f2⟩:=np9 k2 0 h5
 have hf:=run_findKey (P:=P) (w:=w) hk f1
 have hg:=Go.MapKept.run_getObj_map (P:=P) k1
 have hc:=fun b=>run_checkKey (P:=P) (w:=w) hk (show IsKey (.int kd) (.int kd j)from rfl) b 9999
 rcases f2 with⟨rfl,rfl⟩|⟨q,q',p,rfl,rfl,f3⟩
 ·refine OpOK.pure hH (v':=z) ?_ (en6 hcl).1
  simp[execOp,ho,e1,e2,Instr.lookup,run_underlying ht,hg,hc,hf,jt8 hi hz]
 ·refine OpOK.pure hH (v':=q') ?_ f3
  simp[execOp,ho,e1,e2,Instr.lookup,run_underlying ht,hg,hc,hf]
theorem uk8{t kt et:TypeId}{kd:IntKind}{x y z:Operand}(ho:o.op= .mapUpdate t x y z)(ht:P.underlying t=some (.map kt et))(hk:P.underlying kt=some (.int kd))
 (hF:FR φ h.length nt fr a.tmps) (hH:HR φ B h w) {v h'} (ha:aop fr h (.mput kd x y z)=some (v,h')):OpOK P B φ h a w o v h':=by
 obtain⟨ob,j,u,r,cs,h1,h2,h0,hone,h3,h4,h5,h6⟩:=si8.1 ha
 cases h6
 obtain⟨hlt,hmp,e1⟩:=bp5 (az8 hF h1)
 have e2:=rk2 (az8 hF h2)
 have ru:=az8 hF h0
 obtain⟨_,g3,es,ck,k1,k2⟩:=hH.mpo ob r h3 h4 hmp
 obtain⟨f,f1,f2⟩:=nq7 ru k2 0 ck h5
 have hf:=run_findKey (P:=P) (w:=w) hk f1
 have hg:=Go.MapKept.run_getObj_map (P:=P) k1
 have hc:=fun b=>run_checkKey (P:=P) (w:=w) hk (show IsKey (.int kd) (.int kd j)from rfl) b 9999
 have hs:=fun o'=>run_setObj_map (P:=P) (w:=w) o' k1
 have hput: ∀es' ck',MRel φ h.length cs es'.toList→HR φ B (h.set ob (.row {r with cells:=cs})) {w with heap:=w.heap.setIfInBounds (φ ob).blk (.map es' ck')}:=fun es' ck' hm=>
  hH.putMap h3 h4 hmp cs es' ck' (by simp) (fun k hk=>(heap_set k1).2 k hk) (heap_set k1).1 (iu0 hone h5 (hH.one ob r h3)) hm
 have hbel: ∀o',Bel B w {w with heap:=w.heap.setIfInBounds (φ ob).blk o'}:=fun o'=>⟨rfl,rfl,rfl,by simp,fun k hk=>(heap_set k1).2 k (fun e=>g3 (e▸hk))⟩
 rcases f2 with⟨rfl,f3⟩|⟨p,y',e,rfl,f3,f4,f5⟩
 ·refine⟨φ, .tuple #[],_, ?_,fun u hu=>(by cases hu),hput (es.push {key:= .int kd j,val:=a.eval z,born:=ck}) (ck+1) (by simpa using f3),Ext.refl _ _,by simp,hbel _⟩
  simp[execOp,ho,e1,e2,Instr.mapUpdate,run_underlying ht,hg,hc,hf,hs]
 ·have hmod:(es.modify p fun e=>{e with key:= .int kd j,val:=a.eval z}).toList=es.toList.set p {e with key:= .int kd j,val:=a.eval z}:=by rw[Array.toList_modify,jr4 _ f3]
  refine⟨φ, .tuple #[],_, ?_,fun u hu=>(by cases hu),hput (es.modify p fun e=>{e with key:= .int kd j,val:=a.eval z}) ck (by rw[hmod];exact f5),Ext.refl _ _,by simp,hbel _⟩
  have hkey:((es[p]?).map (·.key)).getD (.int kd j)= .int kd j:=by
   rw[←Array.getElem?_toList,f3];exact f4
  have hstay:(Instr.keyThatStays (.int kd j) (.int kd j)).run P w= .ok (.int kd j) w:=by
   simp[Instr.keyThatStays,Instr.sameBits]
  simp[execOp,ho,e1,e2,Instr.mapUpdate,run_underlying ht,hg,hc,hf,hkey,hstay,hs]
end
end Go.Am
namespace Go.Am
open Go.RowKit (Below)
theorem wv1{pl pl':Nat→Option (Nat×Nat)}(hpl: ∀i x,pl i=some x→pl' i=some x): ∀(ps:List (Nat×Value)) (cells out:Array Value),Instr.fill pl cells ps=some out→Instr.fill pl' cells ps=some out
 | [],cells,out,h=>h
 |(i,v)::ps,cells,out,h=>by
  simp only[Instr.fill]at h⊢
  cases hp:pl i with
  |none=>rw[hp]at h;cases h
  |some x=>
   rw[hp]at h
   rw[hpl i x hp]
   simp only at h⊢
   split at h
   ·cases h
   ·rename_i hc;rw[if_neg hc];exact wv1 hpl ps _ out h
theorem arr1{α:Type}{xs:Array α}{x:α}(h:xs.toList=[x]):xs= #[x]:=by apply ld7.1;simpa using h
theorem arr2{α:Type}{xs:Array α}{x y:α}(h:xs.toList=[x,y]):xs= #[x,y]:=by apply ld7.1;simpa using h
section
variable {P:Program} {B:Nat→Prop} {φ:Ren} {nt:Nat} {fr:Fr} {h:H} {a:Act} {w:World} {o:Oper}
theorem e32{op:AOp}(hc:sv3 P o=some op)(hF:FR φ h.length nt fr a.tmps)(hH:HR φ B h w){v h'}(ha:aop fr h op=some (v,h')):OpOK P B φ h a w o v h':=by
 unfold sv3 at hc
 split at hc
 ·cases hc;exact s_mv (.inl ‹_›) hF hH ha
 ·cases hc;exact s_mv (.inr ‹_›) hF hH ha
 ·cases hc;exact b19 ‹_› hF hH ha
 ·--binOp
  rename_i ho
  split at hc
  ·cases hc;exact kg1 ho hF hH ha
  ·cases hc;exact kg1 ho hF hH ha
  ·split at hc
   ·cases hc;exact ws1 (neg:=false) ho ‹_› hF hH ha
   ·cases hc;exact ws1 (neg:=true) ho ‹_› hF hH ha
   ·cases hc
  ·split at hc
   ·split at hc
    ·cases hc;exact sz1 (neg:=false) ho (.inl ⟨rfl,rfl,_, ‹_›⟩) hF hH ha
    ·cases hc;exact sz1 (neg:=true) ho (.inl ⟨rfl,rfl,_, ‹_›⟩) hF hH ha
    ·cases hc
   ·cases hc
  ·split at hc
   ·cases hc;exact sz1 (neg:=false) ho (.inr (.inl ⟨rfl,rfl,_, ‹_›⟩)) hF hH ha
   ·cases hc;exact sz1 (neg:=true) ho (.inr (.inl ⟨rfl,rfl,_, ‹_›⟩)) hF hH ha
   ·cases hc
  ·split at hc
   ·cases hc;exact sz1 (neg:=false) ho (.inr (.inr ⟨rfl,rfl,_,_,_, ‹_›⟩)) hF hH ha
   ·cases hc;exact sz1 (neg:=true) ho (.inr (.inr ⟨rfl,rfl,_,_,_, ‹_›⟩)) hF hH ha
   ·cases hc
  ·cases hc
 ·cases hc;exact s_un ‹_› hF hH ha
 ·split at hc
  ·cases hc;exact s64 ‹_› ‹_› ‹_› hF hH ha
  ·cases hc
 ·--alloc
  split at hc
  ·split at hc
   ·split at hc
    ·cases hc;exact dn2 ‹_› ‹_› ‹_› ‹_› hH ha
    ·cases hc
   ·cases hc
  ·cases hc
 ·split at hc
  ·cases hc;exact cb0 ‹_› hF hH ha
  ·cases hc
 ·split at hc
  ·cases hc;exact s_ld ‹_› ‹_› ‹_› hF hH ha
  ·cases hc
 ·split at hc
  ·cases hc;exact s_st ‹_› ‹_› hF hH ha
  ·cases hc
 ·cases hc;exact g26 ‹_› hF hH ha
 ·split at hc
  ·cases hc;exact aw6 ‹_› ‹_› hF hH ha
  ·cases hc
 ·--makeSlice
  split at hc
  ·split at hc
   ·split at hc
    ·split at hc
     ·rename_i hcond
      simp only[b83,ui3,jn8]at hcond
      cases hc;exact s06 ‹_› ‹_› ‹_› ‹_› hcond.1.1 hcond.1.2 hcond.2 hF hH ha
     ·cases hc
    ·cases hc
   ·cases hc
  ·cases hc
 ·split at hc
  ·split at hc
   ·cases hc;exact s_sl ‹_› ‹_› ‹_› hF hH ha
   ·cases hc
  ·cases hc;exact p43 ‹_› ‹_› hF hH ha
  ·cases hc
 ·split at hc
  ·split at hc
   ·cases hc;exact a61 ‹_› ‹_› ‹_› hF hH ha
   ·cases hc
  ·cases hc
 ·split at hc
  ·split at hc
   ·split at hc
    ·split at hc
     ·cases hc
     ·cases hc;exact pe1 ‹_› ‹_› ‹_› ‹_› ‹_› hF hH ha
    ·cases hc
   ·cases hc
  ·cases hc
 ·split at hc
  ·split at hc
   ·split at hc
    ·cases hc;exact qz5 ‹_› ‹_› ‹_› ‹_› ‹_› hF hH ha
    ·cases hc
   ·cases hc
  ·cases hc
 ·split at hc
  ·split at hc
   ·cases hc;exact xo3 ‹_› ‹_› ‹_› hF hH ha
   ·cases hc
  ·split at hc
   ·cases hc;exact dx6 ‹_› ‹_› ‹_› hF hH ha
   ·cases hc
  ·cases hc
 ·split at hc
  ·split at hc
   ·cases hc;exact fh1 ‹_› ‹_› ‹_› ‹_› hF hH ha
   ·cases hc
  ·cases hc;exact g36 ‹_› ‹_› hF hH ha
  ·cases hc
 ·cases hc;exact bg2 ‹_› hF hH ha
 ·--build
  split at hc
  ·split at hc
   ·rename_i z pl hz hpl
    split at hc
    ·cases hc
     refine qb9 ‹_› (fun ps out hf=> ?_) ‹_› hF hH ha
     have e1:P.info? _=some _:= ‹P.info? _=some _›
     have e2:P.underlying _=some (.struct _):= ‹P.underlying _=some (.struct _)›
     unfold Program.built
     simp only[e1,e2,hz,hpl]
     simpa using hf
    ·cases hc
   ·cases hc
  ·split at hc
   ·rename_i z ie hz hie
    split at hc
    ·cases hc
     refine qb9 ‹_› (fun ps out hf=> ?_) ‹_› hF hH ha
     have e2:P.underlying _=some (.array _ _):= ‹P.underlying _=some (.array _ _)›
     unfold Program.built
     simp only[*]
     refine wv1 (fun j x hj=> ?_) _ _ _ hf
     simp only[us5]at hj
     cases hr:(List.range _)[j]? with
     |none=>rw[hr]at hj;cases hj
     |some k=>
      rw[hr]at hj
      have:=(ck5.1 hr).2
      simp at this hj
      rw[←hj,this]
    ·cases hc
   ·cases hc
  ·cases hc
 ·--buildSlice
  split at hc
  ·split at hc
   ·split at hc
    ·split at hc
     ·rename_i hcond
      simp only[b83,ui3,jn8]at hcond
      cases hc;exact gv0 ‹_› ‹_› ‹_› ‹_› hcond.1.1.1 hcond.1.1.2 hcond.1.2 hcond.2 hF hH ha
     ·cases hc
    ·cases hc
   ·cases hc
  ·cases hc
 ·--call
  rename_i c ho
  obtain⟨callee,args,argTypes⟩:=c
  simp only at hc
  split at hc
  ·--len
   split at hc
   ·rename_i t x h0 hx
    obtain rfl:=arr1 hx
    split at hc
    ·cases hc;exact av0 ho h0 ‹_› hF hH ha
    ·cases hc;exact oe1 ho h0 ‹_› hF hH ha
    ·cases hc;exact kg0 ho h0 (.inl ⟨_, ‹_›⟩) hH ha
    ·split at hc
     ·cases hc;exact kg0 ho h0 (.inr ⟨_,_, ‹_›, ‹_›⟩) hH ha
     ·cases hc
    ·cases hc
   ·cases hc
  ·--append
   split at hc
   ·rename_i ht hx
    obtain rfl:=arr2 ht
    obtain rfl:=arr2 hx
    split at hc
    ·rename_i htu
     subst htu
     split at hc
     ·split at hc
      ·split at hc
       ·split at hc
        ·rename_i hcond
         simp only[b83,ui3,jn8]at hcond
         cases hc;exact zc0 ho ‹_› ‹_› ‹_› hcond.1 hcond.2 hF hH ha
        ·cases hc
       ·cases hc
      ·cases hc
     ·cases hc
    ·split at hc
     ·split at hc
      ·split at hc
       ·split at hc
        ·rename_i hcond
         simp only[b83,ui3]at hcond
         cases hc;exact mi1 ho ‹_› ‹_› ‹_› ‹_› (x89 hcond.1) hcond.2 hF hH ha
        ·cases hc
       ·cases hc
      ·cases hc
     ·cases hc
   ·cases hc
  ·--copy
   split at hc
   ·rename_i ht hx
    obtain rfl:=arr2 ht
    obtain rfl:=arr2 hx
    split at hc
    ·split at hc
     ·cases hc;exact e50 ho ‹_› ‹_› hF hH ha
     ·cases hc
    ·cases hc
   ·cases hc
  ·cases hc;exact l58 (mx:=false) ho hF hH ha
  ·cases hc;exact l58 (mx:=true) ho hF hH ha
  ·cases hc;cases ha
  ·cases hc;cases ha
  ·cases hc
 ·--makeMap
  split at hc
  ·cases hc;exact v23 ‹_› hH ha
  ·cases hc
 ·--lookup
  rename_i ok ho
  cases ok with
  |true=>cases hc
  |false=>
   rw[if_neg Bool.false_ne_true]at hc
   split at hc
   ·split at hc
    ·split at hc
     ·split at hc
      ·cases hc;exact zk8 ho ‹_› ‹_› ‹_› ‹_› ‹_› hF hH ha
      ·cases hc
     ·cases hc
    ·cases hc
   ·cases hc
 ·--mapUpdate
  split at hc
  ·split at hc
   ·cases hc;exact uk8 ‹_› ‹_› ‹_› hF hH ha
   ·cases hc
  ·cases hc
 ·cases hc
end
end Go.Am
