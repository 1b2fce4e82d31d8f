/-
  The rings in plain numbers: the way around that takes the least edge by which the rest is not lost. No condition.
-/
import Derived.Test.YtdmgkdaiegdfmaaAm16
namespace Go.Proofs.Ytdmgkdaiegdfmaa
open Go.Am

/-! ### pure -/
def vary (f : List Int × List Int → Option (List Int × List Int)) (q : Int) (at' : Nat) : Nat → Int → List Int × List Int → Option (List Int × List Int)
  | 0, v, s => if v < q then none else some s
  | j + 1, v, s => if v < q then match f (s.1.set at' v, s.2) with
    | none => none
    | some s' => vary f q at' j (v + 1) s'
    else some s
def growP (q n : Int) : Nat → Int → Int → List Int × List Int → Option (List Int × List Int)
  | 0, _, p, s => if 1 ≤ p ∧ p ≤ n ∧ s.2.length ≤ 5000 ∧ s.1.length = (n + 1).toNat then
      (if n.tmod p = 0 then some (s.1, s.2 ++ (s.1.drop 1).take p.toNat) else some s) else none
  | k + 1, a, p, s => if 1 ≤ p ∧ p ≤ a ∧ s.1.length = (n + 1).toNat then
      match growP q n k (a + 1) p (s.1.set a.toNat (gi s.1 (a - p)), s.2) with
      | none => none
      | some s' => if s'.1.length = (n + 1).toNat ∧ 0 ≤ gi s'.1 (a - p) ∧ gi s'.1 (a - p) ≤ 100 then
          vary (growP q n k (a + 1) a) q a.toNat 11 (gi s'.1 (a - p) + 1) s' else none
    else none

/-- where there are such rings: what the list is -/
def ringP (q n : Int) : Option (List Int) := match growP q n n.toNat 1 1 (List.replicate (n + 1).toNat 0, []) with
  | some s => some s.2
  | none => none


/-- a number reckoned before it is used -/
def force {α : Type} (n : Nat) (f : Nat → α) : α := match n with
  | 0 => f 0
  | k + 1 => f (k + 1)
theorem force_eq {α : Type} (n : Nat) (f : Nat → α) : force n f = f n := by cases n <;> rfl

def scanR (m nodes : Nat) : Nat → Nat → Nat → List Nat → Nat → Nat × List Nat × Nat
  | 0, _, seen, st, n => (seen, st, n)
  | j + 1, i, seen, st, n => bif m.testBit i then
      (bif seen.testBit (i % nodes) then force (i + 1) fun i' => force (n + 1) fun n' => scanR m nodes j i' seen st n'
       else force (i % nodes) fun y => force (seen ||| 1 <<< y) fun seen' => force (i + 1) fun i' => force (n + 1) fun n' => scanR m nodes j i' seen' (y :: st) n')
    else force (i + 1) fun i' => scanR m nodes j i' seen st n
def bfsR (q m nodes : Nat) : Nat → Nat → List Nat → Nat → Option Nat
  | 0, _, _, _ => none
  | f + 1, seen, st, n => match st with
    | [] => some n
    | x :: st => match force (x * q) fun i => scanR m nodes q i seen st n with
      | (seen', st', n') => bfsR q m nodes f seen' st' n'
def clr (m i : Nat) : Nat := m ^^^ (1 <<< i)
/-- can all that is left be gone through, if the edge i is taken? (i is left) -/
def goesR (q nodes m cnt i : Nat) : Option Bool :=
  force (i % nodes) fun y => force (clr m i) fun m' => match bfsR q m' nodes (nodes + 1) (1 <<< y) [y] 0 with
    | some n => some (n + 1 == cnt)
    | none => none
def pickR (q nodes m cnt at' : Nat) : Nat → Nat → Option Nat
  | 0, _ => none
  | j + 1, v => bif m.testBit (at' * q + v) then match goesR q nodes m cnt (at' * q + v) with
      | some true => some v
      | some false => force (v + 1) fun v' => pickR q nodes m cnt at' j v'
      | none => none
    else force (v + 1) fun v' => pickR q nodes m cnt at' j v'
def ringR (q nodes : Nat) : Nat → Nat → Nat → Nat → List Nat → Option (Nat × Nat × Nat × List Nat)
  | 0, m, cnt, at', out => some (m, cnt, at', out)
  | k + 1, m, cnt, at', out => match pickR q nodes m cnt at' q 0 with
    | some v => force (at' * q + v) fun i => force (clr m i) fun m' => force (cnt - 1) fun cnt' => force (i % nodes) fun a => ringR q nodes k m' cnt' a (v :: out)
    | none => none
def ringAll (q n : Nat) : Option (List Nat) := match ringR q (q ^ (n - 1)) (q ^ n) (2 ^ (q ^ n) - 1) (q ^ n) 0 [] with
  | some (_, _, _, out) => some ((List.replicate (n - 1) 0 ++ out.reverse).take (q ^ n))
  | none => none
end Go.Proofs.Ytdmgkdaiegdfmaa
