/-
  A small machine of my own that computes what a Go function of the model's does, without draws and with memory as plain lists of values. Here: its code, its memory, one step of it, and what its runs come to. No condition.
-/
import Derived.WalkKit
import Derived.KernelRfl
namespace Go.Am
set_option linter.unusedVariables false
set_option linter.unusedSimpArgs false

/-! ### frames -/
abbrev Fr := Nat → Option Value
def Fr.set (fr : Fr) (s : Nat) (v : Value) : Fr := fun t => bif Nat.beq t s then some v else fr t
def Fr.del (fr : Fr) (s : Nat) : Fr := fun t => bif Nat.beq t s then none else fr t
def Fr.of : List (Nat × Value) → Fr
  | [], _ => none
  | (k, v) :: r, t => bif Nat.beq t k then some v else Fr.of r t
def Fr.put (fr : Fr) : Option Nat → Option Value → Fr
  | some s, some v => fr.set s v
  | some s, none => fr.del s
  | none, _ => fr
def keepL (fr : Fr) : List Nat → List (Nat × Value)
  | [] => []
  | k :: ks => match fr k with
    | some v => (k, v) :: keepL fr ks
    | none => keepL fr ks
def Fr.args : Nat → List Value → Fr
  | _, [], _ => none
  | n, v :: r, t => bif Nat.beq t n then some v else Fr.args (n + 1) r t

/-! ### memory -/
structure Row where
  cells : List Value
  elem : TypeId
  /-- cells an element, where it is a slice's row; else 0 -/
  unit : Nat
  own : Bool
inductive Ob where
  | dead
  | row (r : Row)
abbrev H := List Ob
def H.row (h : H) (o : Nat) : Option Row := match h[o]? with
  | some (.row r) => some r
  | _ => none
/-- n cells from an address on -/
def H.lds (h : H) (o off n : Nat) : Option (List Value) := match h.row o with
  | some r => if off + n ≤ r.cells.length then some ((r.cells.drop off).take n) else none
  | none => none
def H.ld1 (h : H) (o off : Nat) : Option Value := match h.row o with
  | some r => r.cells[off]?
  | none => none
/-- cells written from an offset on -/
def splice (l : List Value) (off : Nat) (vs : List Value) : List Value := l.take off ++ vs ++ l.drop (off + vs.length)
def H.sts (h : H) (o off : Nat) (vs : List Value) : Option H := match h.row o with
  | some r => if r.own && off + vs.length ≤ r.cells.length then some (h.set o (.row { r with cells := splice r.cells off vs })) else none
  | none => none

/-! ### operations -/
/-- a value that names no memory -/
def closed1 : Value → Bool
  | .bool _ | .int .. | .string _ | .pointer none | .slice none 0 0 | .nilFunc | .nilIface | .map none => true
  | _ => false
def closed : Value → Bool
  | .agg cs => cs.all closed1
  | .tuple cs => cs.all closed1
  | v => closed1 v
def ev (fr : Fr) : Operand → Option Value
  | .tmp t => fr t
  | .const v => if closed v then some v else none
  | .global _ => none
  | .func f => some (.func (.func f) #[] #[])
def evs (fr : Fr) : List Operand → Option (List Value)
  | [] => some []
  | x :: r => match ev fr x, evs fr r with
    | some v, some vs => some (v :: vs)
    | _, _ => none
inductive AOp where
  | mv (x : Operand)
  | pick (c a b : Operand)
  | bin (op : BinOp) (x y : Operand)
  | eqb (neg : Bool) (x y : Operand)
  | eqn (neg : Bool) (kind : Nat) (x : Operand)
  | un (op : UnOp) (x : Operand)
  | conv (k : IntKind) (x : Operand)
  | alloc (elem : TypeId) (zs : List Value)
  | box (elem : TypeId) (size : Nat) (x : Operand)
  | build (zs : List Value) (places : List (Nat × Nat)) (parts : List (Nat × Operand))
  | mkSl (elem : TypeId) (size len : Nat) (parts : List Operand)
  | ld (agg : Bool) (n : Nat) (a : Operand)
  | st (n : Nat) (a x : Operand)
  | nilck (x : Operand)
  | mkf (f : FuncId) (cap : List Operand)
  | mks (elem : TypeId) (size bytes : Nat) (zs : List Value) (l c : Operand)
  | sl (size : Nat) (x : Operand) (lo hi : Option Operand)
  | sls (x : Operand) (lo hi : Option Operand)
  | faddr (off : Nat) (x : Operand)
  | fld (agg : Bool) (off n : Nat) (x : Operand)
  | iaddr (size : Nat) (x i : Operand)
  | iaddrA (len size : Nat) (x i : Operand)
  | idxA (len size : Nat) (agg : Bool) (x i : Operand)
  | idxS (x i : Operand)
  | len (x : Operand)
  | lenS (x : Operand)
  | lenK (n : Nat)
  | minmax (mx : Bool) (xs : List Operand)
  | app (elem : TypeId) (size bytes : Nat) (s x : Operand)
  | cpy (size : Nat) (d s : Operand)
  | ext (i : Nat) (x : Operand)
  | call (f : FuncId) (args : List Operand)
  | calld (x : Operand) (args : List Operand)
structure AOper where
  dst : Option Nat
  op : AOp
  guard : Option (Nat × Bool)
  chk : Bool
def aint (op : BinOp) (k : IntKind) (a b : Int) : Option Value :=
  match op with
  | .add => some (.int k (k.wrap (a + b)))
  | .sub => some (.int k (k.wrap (a - b)))
  | .mul => some (.int k (k.wrap (a * b)))
  | .quo => if b = 0 then none else some (.int k (k.wrap (a.tdiv b)))
  | .rem => if b = 0 then none else some (.int k (a.tmod b))
  | .and => some (.int k (bits .and k a b))
  | .or => some (.int k (bits .or k a b))
  | .xor => some (.int k (bits .xor k a b))
  | .andNot => some (.int k (bits .andNot k a b))
  | .eql => some (.bool (decide (a = b)))
  | .neq => some (.bool (!decide (a = b)))
  | .lss => some (.bool (decide (a < b)))
  | .leq => some (.bool (decide (a ≤ b)))
  | .gtr => some (.bool (decide (b < a)))
  | .geq => some (.bool (decide (b ≤ a)))
  | _ => none
def ashift (op : BinOp) (k : IntKind) (a b : Int) : Option Value :=
  if b < 0 then none else match op with
  | .shl => some (.int k (k.wrap (a * 2 ^ (min b.toNat k.bits))))
  | .shr => some (.int k (a.fdiv (2 ^ (min b.toNat k.bits))))
  | _ => none
def astr (op : BinOp) (x y : ByteArray) : Option Value :=
  match op with
  | .add => if x.size + y.size ≤ 140737488355328 then some (.string (x ++ y)) else none
  | .eql => some (.bool (x.toList == y.toList))
  | .neq => some (.bool (!(x.toList == y.toList)))
  | .lss => some (.bool (Op.bytesLess x.toList y.toList))
  | .leq => some (.bool (Op.bytesLess x.toList y.toList || x.toList == y.toList))
  | .gtr => some (.bool (!(Op.bytesLess x.toList y.toList || x.toList == y.toList)))
  | .geq => some (.bool (!Op.bytesLess x.toList y.toList))
  | _ => none
def abin (op : BinOp) : Value → Value → Option Value
  | .int k a, .int k' b => match op with
    | .shl => ashift .shl k a b
    | .shr => ashift .shr k a b
    | op => if k = k' then aint op k a b else none
  | .string a, .string b => astr op a b
  | _, _ => none
def aun : UnOp → Value → Option Value
  | .not, .bool b => some (.bool (!b))
  | .neg, .int k n => some (.int k (k.wrap (0 - n)))
  | .xor, .int k n => some (.int k (bits .xor k (if k.signed then -1 else k.max) n))
  | _, _ => none
/-- is it nil? (0: a slice, 1: a pointer, 2: a function) -/
def anil : Nat → Value → Option Bool
  | 0, .slice a _ _ => some a.isNone
  | 1, .pointer a => some a.isNone
  | 2, .nilFunc => some true
  | 2, .func .. => some false
  | _, _ => none
/-- no tuple -/
def flat : Value → Bool
  | .tuple _ => false
  | _ => true
def afill (places : Nat → Option (Nat × Nat)) (cells : List Value) : List (Nat × Value) → Option (List Value)
  | [] => some cells
  | (i, v) :: rest =>
    match places i with
    | none => none
    | some (off, size) =>
      if v.cells.size ≠ size || !flat v || off + size > cells.length then none
      else afill places (splice cells off v.cells.toList) rest
def bound (v : Value) : Option Int := match v with
  | .int _ i => some i
  | _ => none
def cat : List Value → List Value
  | [] => []
  | v :: r => v.cells.toList ++ cat r
def sized (n : Nat) : List Value → Bool
  | [] => true
  | v :: r => (v.cells.size == n) && flat v && sized n r
def evp (fr : Fr) : List (Nat × Operand) → Option (List (Nat × Value))
  | [] => some []
  | (i, x) :: r => match ev fr x, evp fr r with
    | some v, some vs => some ((i, v) :: vs)
    | _, _ => none
def evo (fr : Fr) : Option Operand → Option (Option Int)
  | none => some none
  | some x => match ev fr x with
    | some v => match bound v with
      | some i => some (some i)
      | none => none
    | none => none
/-- the numbers of a list of integers of one kind -/
def aints (k : IntKind) : List Value → Option (List Int)
  | [] => some []
  | .int k' n :: r => if k = k' then match aints k r with
    | some l => some (n :: l)
    | none => none else none
  | _ => none
def mm (mx : Bool) (a b : Int) : Int := if mx then (if a < b then b else a) else (if b < a then b else a)
def rep (zs : List Value) : Nat → List Value
  | 0 => []
  | n + 1 => zs ++ rep zs n
/-- what the source of an append or a copy holds: its first n elements -/
def srcCells (h : H) (size n : Nat) : Value → Option (List Value)
  | .slice a l _ => if n = 0 then some [] else if n ≤ l then match a with
    | some a => if a.spot.isNone then h.lds a.block a.off (n * size) else none
    | none => none else none
  | _ => none
def kill (h : H) (o : Nat) : H := h.set o .dead
/-- few enough elements, of few enough bytes -/
def few (n bytes : Nat) : Bool := n ≤ 1099511627776 && n * bytes ≤ 140737488355328
def aapp (elem : TypeId) (size bytes : Nat) (h : H) (s x : Value) : Option (Value × H) :=
  match s, x with
  | .slice sa n c, .slice b m d =>
    match srcCells h size m (.slice b m d) with
    | some news => match sa with
      | none => if n = 0 && c = 0 then if m = 0 then some (.slice none 0 0, h)
          else if few m bytes then some (.slice (some ⟨h.length, 0, none⟩) m m, h ++ [.row ⟨news, elem, size, true⟩]) else none else none
      | some a => match h.row a.block with
        | some r => if r.own && a.spot.isNone && r.elem == elem && r.unit == size && n ≤ c && a.off + n * size ≤ r.cells.length && few (n + m) bytes then
            some (.slice (some ⟨h.length, 0, none⟩) (n + m) (n + m), kill h a.block ++ [.row ⟨(r.cells.drop a.off).take (n * size) ++ news, elem, size, true⟩]) else none
        | none => none
    | none => none
  | _, _ => none
def acpy (size : Nat) (h : H) (d s : Value) : Option (Value × H) :=
  match d, s with
  | .slice da dl dc, .slice sa sl sc =>
    match srcCells h size (min sl dl) (.slice sa sl sc) with
    | some cs => if min sl dl = 0 then some (.int .i64 0, h) else match da with
      | some a => if a.spot.isNone then match h.sts a.block a.off cs with
        | some h' => some (.int .i64 (min sl dl : Nat), h')
        | none => none else none
      | none => none
    | none => none
  | _, _ => none
/-- does a slice's row hold elements of that size? -/
def unitOk (h : H) (size : Nat) : Option Addr → Bool
  | none => true
  | some a => match h.row a.block with
    | some r => !r.own || r.unit == size
    | none => false
/-- what an operation other than a call gives: its value (none: it has none), the memory behind it -/
def aop (fr : Fr) (h : H) : AOp → Option (Option Value × H)
  | .mv x => match ev fr x with
    | some v => some (some v, h)
    | none => none
  | .pick c a b => match ev fr c with
    | some (.bool t) => match ev fr (if t then a else b) with
      | some v => some (some v, h)
      | none => none
    | _ => none
  | .bin op x y => match ev fr x, ev fr y with
    | some a, some b => match abin op a b with
      | some v => some (some v, h)
      | none => none
    | _, _ => none
  | .eqb neg x y => match ev fr x, ev fr y with
    | some (.bool a), some (.bool b) => some (some (.bool (neg != (a == b))), h)
    | _, _ => none
  | .eqn neg kind x => match ev fr x with
    | some v => match anil kind v with
      | some b => some (some (.bool (neg != b)), h)
      | none => none
    | none => none
  | .un op x => match ev fr x with
    | some a => match aun op a with
      | some v => some (some v, h)
      | none => none
    | none => none
  | .conv k x => match ev fr x with
    | some (.int _ n) => some (some (.int k (k.wrap n)), h)
    | _ => none
  | .alloc elem zs => some (some (.pointer (some ⟨h.length, 0, none⟩)), h ++ [.row ⟨zs, elem, 0, true⟩])
  | .box elem size x => match ev fr x with
    | some v => if v.cells.size = size ∧ flat v = true then some (some (.pointer (some ⟨h.length, 0, none⟩)), h ++ [.row ⟨v.cells.toList, elem, 0, true⟩]) else none
    | none => none
  | .build zs places parts => match evp fr parts with
    | some vs => match afill (fun i => places[i]?) zs vs with
      | some cs => some (some (.agg cs.toArray), h)
      | none => none
    | none => none
  | .mkSl elem size len parts => match evs fr parts with
    | some vs => if sized size vs && vs.length == len then some (some (.slice (some ⟨h.length, 0, none⟩) len len), h ++ [.row ⟨cat vs, elem, size, true⟩]) else none
    | none => none
  | .ld agg n a => match ev fr a with
    | some (.pointer (some a)) => if a.spot.isSome then none else match agg with
      | true => match h.lds a.block a.off n with
        | some cs => some (some (.agg cs.toArray), h)
        | none => none
      | false => match h.ld1 a.block a.off with
        | some v => some (some v, h)
        | none => none
    | _ => none
  | .st n a x => match ev fr a, ev fr x with
    | some (.pointer (some a)), some v => if a.spot.isSome || v.cells.size != n || !flat v then none else match h.sts a.block a.off v.cells.toList with
      | some h' => some (none, h')
      | none => none
    | _, _ => none
  | .nilck x => match ev fr x with
    | some (.pointer (some a)) => some (some (.pointer (some a)), h)
    | _ => none
  | .mkf f cap => match evs fr cap with
    | some vs => some (some (.func (.func f) #[] vs.toArray), h)
    | none => none
  | .mks elem size bytes zs l c => match ev fr l, ev fr c with
    | some (.int _ l), some (.int _ c) =>
      if 0 ≤ l ∧ l ≤ c ∧ c ≤ 1099511627776 ∧ c * bytes ≤ 140737488355328 then
        some (some (.slice (some ⟨h.length, 0, none⟩) l.toNat c.toNat), h ++ [.row ⟨rep zs c.toNat, elem, size, true⟩]) else none
    | _, _ => none
  | .sl size x lo hi => match ev fr x, evo fr lo, evo fr hi with
    | some (.slice a l c), some lo, some hi =>
      let lo' := lo.getD 0
      let hi' := hi.getD l
      if 0 ≤ lo' ∧ lo' ≤ hi' ∧ hi' ≤ c ∧ unitOk h size a = true then
        some (some (.slice (if c = lo' then a else a.map fun a => ⟨a.block, a.off + lo'.toNat * size, none⟩) (hi' - lo').toNat (c - lo').toNat), h) else none
    | _, _, _ => none
  | .sls x lo hi => match ev fr x, evo fr lo, evo fr hi with
    | some (.string s), some lo, some hi =>
      let lo' := lo.getD 0
      let hi' := hi.getD s.size
      if 0 ≤ lo' ∧ lo' ≤ hi' ∧ hi' ≤ s.size then some (some (.string (s.extract lo'.toNat hi'.toNat)), h) else none
    | _, _, _ => none
  | .faddr off x => match ev fr x with
    | some (.pointer (some a)) => if a.spot.isSome then none else some (some (.pointer (some ⟨a.block, a.off + off, none⟩)), h)
    | _ => none
  | .fld agg off n x => match ev fr x with
    | some (.agg cs) => match agg with
      | true => some (some (.agg (cs.extract off (off + n))), h)
      | false => match cs[off]? with
        | some v => some (some v, h)
        | none => none
    | _ => none
  | .iaddr size x i => match ev fr x, ev fr i with
    | some (.slice (some a) l _), some (.int _ i) =>
      if 0 ≤ i ∧ i < l then if a.spot.isSome then none else some (some (.pointer (some ⟨a.block, a.off + i.toNat * size, none⟩)), h) else none
    | _, _ => none
  | .iaddrA len size x i => match ev fr x, ev fr i with
    | some (.pointer (some a)), some (.int _ i) =>
      if 0 ≤ i ∧ i < len then if a.spot.isSome then none else some (some (.pointer (some ⟨a.block, a.off + i.toNat * size, none⟩)), h) else none
    | _, _ => none
  | .idxA len size agg x i => match ev fr x, ev fr i with
    | some (.agg cs), some (.int _ i) =>
      if 0 ≤ i ∧ i < len then match agg with
        | true => some (some (.agg (cs.extract (i.toNat * size) (i.toNat * size + size))), h)
        | false => match cs[i.toNat * size]? with
          | some v => some (some v, h)
          | none => none
      else none
    | _, _ => none
  | .idxS x i => match ev fr x, ev fr i with
    | some (.string s), some (.int _ i) => if 0 ≤ i then match s[i.toNat]? with
        | some b => some (some (.int .u8 b.toNat), h)
        | none => none else none
    | _, _ => none
  | .len x => match ev fr x with
    | some (.slice _ n _) => some (some (.int .i64 n), h)
    | _ => none
  | .lenS x => match ev fr x with
    | some (.string s) => some (some (.int .i64 s.size), h)
    | _ => none
  | .lenK n => some (some (.int .i64 n), h)
  | .minmax mx xs => match evs fr xs with
    | some vs => match vs with
      | .int k n :: r => match aints k r with
        | some l => some (some (.int k (l.foldl (mm mx) n)), h)
        | none => none
      | _ => none
    | none => none
  | .app elem size bytes s x => match ev fr s, ev fr x with
    | some s, some x => match aapp elem size bytes h s x with
      | some (v, h') => some (some v, h')
      | none => none
    | _, _ => none
  | .cpy size d s => match ev fr d, ev fr s with
    | some d, some s => match acpy size h d s with
      | some (v, h') => some (some v, h')
      | none => none
    | _, _ => none
  | .ext i x => match ev fr x with
    | some (.tuple vs) => match vs[i]? with
      | some v => some (some v, h)
      | none => none
    | _ => none
  | .call .. | .calld .. => none

/-! ### code -/
inductive ACode where
  | skip
  | region (ops : List AOper)
  | seq (a b : ACode)
  | cond (c : Operand) (thn els : ACode)
  | block (id : Nat) (ko : List Nat) (body : ACode)
  | loop (kh : List Nat) (body : ACode)
  | exit (id : Nat)
  | ret
  /-- what this machine does not know: it gives no answer there -/
  | stuck
inductive It where
  | code (c : ACode)
  | blk (id : Nat) (ko : List Nat)
  | lp (kh : List Nat) (body : ACode)
/-- where a result lies -/
inductive ARes where
  | tmp (t : Nat)
  | cell (t : Nat) (agg : Bool) (n : Nat)
structure AFun where
  code : ACode
  nargs : Nat
  ntmps : Nat
  results : List ARes
abbrev Tab := FuncId → Option AFun
def popTo (id : Nat) : List It → Option (List Nat × List It)
  | [] => none
  | .blk id' ko :: k => if id' = id then some (ko, k) else popTo id k
  | _ :: k => popTo id k
def res1 (fr : Fr) (h : H) : ARes → Option Value
  | .tmp t => fr t
  | .cell t agg n => match fr t with
    | some (.pointer (some a)) => if a.spot.isSome then none else match agg with
      | true => match h.lds a.block a.off n with
        | some cs => some (.agg cs.toArray)
        | none => none
      | false => h.ld1 a.block a.off
    | _ => none
def ress (fr : Fr) (h : H) : List ARes → Option (List Value)
  | [] => some []
  | r :: rs => match res1 fr h r, ress fr h rs with
    | some v, some vs => some (v :: vs)
    | _, _ => none
def retv (rs : List ARes) (fr : Fr) (h : H) : Option (Value × H) :=
  match ress fr h rs with
  | some [v] => some (v, h)
  | some vs => some (.tuple vs.toArray, h)
  | none => none
def gd (fr : Fr) : Option (Nat × Bool) → Option Bool
  | none => some true
  | some (s, want) => match fr s with
    | some (.bool b) => some (b == want)
    | some (.tuple _) => some false
    | _ => none
abbrev Res := Option (Value × H)
def enter (T : Tab) (g : List ARes → List It → Fr → H → Res) (f : FuncId) (vs : List Value) (h : H) : Res :=
  match T f with
  | some F => if vs.length = F.nargs then g F.results [.code F.code] (Fr.args 0 vs) h else none
  | none => none
open Classical in
noncomputable def behind {α : Type} (chk : Bool) (h h' : H) (r : Option α) : Option α :=
  match chk with
  | false => r
  | true => if h <+: h' then r else none
/-- does a load in a region that draws look at what was there before the region? -/
def older (n0 : Nat) (fr : Fr) (o : AOper) : Bool :=
  match o.chk, o.op with
  | true, .ld _ _ a => match ev fr a with
    | some (.pointer (some a)) => decide (a.block < n0)
    | _ => false
  | _, _ => true
/-- the value of an operation and the memory behind it; none in the first place: its guard says no -/
noncomputable def core (T : Tab) (g : List ARes → List It → Fr → H → Res) (n0 : Nat) (o : AOper) (fr : Fr) (h : H) : Option (Option Value × H) :=
  match gd fr o.guard with
  | some false => some (some (.tuple #[]), h)
  | some true => match o.op with
    | .call f args => match evs fr args with
      | some vs => match enter T g f vs h with
        | some (v, h') => behind o.chk h h' (some (some v, h'))
        | none => none
      | none => none
    | .calld x args => match ev fr x, evs fr args with
      | some (.func (.func f) first cap), some vs => if first.isEmpty then match enter T g f (vs ++ cap.toList) h with
        | some (v, h') => behind o.chk h h' (some (some v, h'))
        | none => none else none
      | _, _ => none
    | op => if older n0 fr o then aop fr h op else none
  | none => none

/-- one operation -/
noncomputable def stepO (T : Tab) (g : List ARes → List It → Fr → H → Res) (n0 : Nat) (o : AOper) (fr : Fr) (h : H) : Option (Fr × H) :=
  match core T g n0 o fr h with
  | some (v, h') => some (fr.put o.dst v, h')
  | none => none
noncomputable def runOps (T : Tab) (g : List ARes → List It → Fr → H → Res) (n0 : Nat) : List AOper → Fr → H → Option (Fr × H)
  | [], fr, h => some (fr, h)
  | o :: l, fr, h => match stepO T g n0 o fr h with
    | some (fr', h') => runOps T g n0 l fr' h'
    | none => none
noncomputable def gF (T : Tab) (g : List ARes → List It → Fr → H → Res) (rs : List ARes) : List It → Fr → H → Res
  | [], fr, h => retv rs fr h
  | .code .ret :: _, fr, h => retv rs fr h
  | .code .skip :: ks, fr, h => g rs ks fr h
  | .code .stuck :: _, _, _ => none
  | .code (.seq a b) :: ks, fr, h => g rs (.code a :: .code b :: ks) fr h
  | .code (.cond c a b) :: ks, fr, h => match ev fr c with
    | some (.bool t) => g rs (.code (if t then a else b) :: ks) fr h
    | _ => none
  | .code (.block id ko c) :: ks, fr, h => g rs (.code c :: .blk id ko :: ks) fr h
  | .code (.loop kh c) :: ks, fr, h => g rs (.code c :: .lp kh c :: ks) (Fr.of (keepL fr kh)) h
  | .code (.exit id) :: ks, fr, h => match popTo id ks with
    | some (ko, k) => g rs k (Fr.of (keepL fr ko)) h
    | none => none
  | .code (.region l) :: ks, fr, h => match runOps T g h.length l fr h with
    | some (fr', h') => g rs ks fr' h'
    | none => none
  | .blk _ ko :: ks, fr, h => g rs ks (Fr.of (keepL fr ko)) h
  | .lp kh c :: ks, fr, h => g rs (.code c :: .lp kh c :: ks) (Fr.of (keepL fr kh)) h
noncomputable def goN (T : Tab) : Nat → List ARes → List It → Fr → H → Res
  | 0, _, _, _, _ => none
  | n + 1, rs, ks, fr, h => gF T (goN T n) rs ks fr h

end Go.Am
