/-
  The fields as numbers: powers and their places, sums, products and all that is made of them. No condition.
-/
import Derived.Test.YtammndhoillliaaFPb
namespace Go.Proofs.Ytammndhoillliaa
open Go.Am
set_option linter.unusedVariables false
set_option linter.unusedSimpArgs false
set_option maxRecDepth 30000

def fE : Nat → Nat
  | 2 => 1
  | 3 => 129
  | 4 => 12417
  | 5 => 802945
  | 7 => 5437399233
  | 8 => 351215042689
  | 9 => 17942261559489
  | 11 => 108962231611310209
  | 13 => 528130703586913960065
  | 16 => 178086203705216420255121537
  | 17 => 7469972054853685843465900225
  | 19 => 51117137118817732502590154883201
  | 23 => 1207086427916563790381117712048146882881
  | 25 => 4296679298253731530926350344465262988325185
  | 27 => 27683632007463149621854882158786133120173510849
  | 29 => 89715812243899246029419422853925757204734979096705
  | 31 => 505605221232691293432177678203438885605117352412483777
  | 32 => 27808724541577916742700289517998963655941875844624957569
  | 37 => 31990165230988380045508509409514329167903399549472002670636056705
  | 41 => 196803355916697640844645143911777462269678895904315453181343275630346625
  | 43 => 3321900807795576089098097549222868942314588541243702741999572762779355746497
  | 47 => 37014835288415908718419972056108441944857760468399085769595186018324491242840101185
  | 49 => 128530077453093768876085316672720063505956351673680030674482110111078127274219255030209
  | 53 => 3602121195588004432410006517885224262510220814523301142795360849256216185153407993945964691585
  | 59 => 270951711388824705647634718687622551811723107360332763645300551177870649566628900357333032853137826791553
  | 61 => 1164162530822367343872202323236078872099065783920682470882800940302953240449962669651654715119434672229073025
  | 64 => 324948975432320371080866489111452917039159851672880359415289456819899054707732937472241880484391502374330200768641
  | _ => 0
def fL : Nat → Nat
  | 2 => 0
  | 3 => 4096
  | 4 => 528384
  | 5 => 34344960
  | 7 => 211594518528
  | 8 => 22271587258368
  | 9 => 853571180707840
  | 11 => 5873569748152750080
  | 13 => 28862381954672620474368
  | 16 => 15072009285927600738305839104
  | 17 => 641428296504441872472814706688
  | 19 => 2971703673908048670609566042689536
  | 23 => 61002575878740797758556052345228196061184
  | 25 => 112218846857214744237616359444941385037799424
  | 27 => 1770301908688390524519687444532503270070340079616
  | 29 => 5327470521109204196063143671878030373354884279046144
  | 31 => 23208944618439905287274454518441023752193352319812075520
  | 32 => 1508315803883406269205986702105420928032254965126544232448
  | 37 => 1927099591673215374311082307204349858495420952548674591831439708160
  | 41 => 35517896703273586666149877416896236316072493915779626231776876054160711680
  | 43 => 152695369836916395283030424145595212849165003026280530570040278169659573121024
  | 47 => 2871650009675154084637761202718277526292298413880696712693369280921573131467963310080
  | 49 => 3753548570383623801084175760024803199156836227648943951560852271794289555882576632152064
  | 53 => 220544676043655077866277337447867632841115249763151128083848210675118928441550703987060033982464
  | 59 => 16899643013032953793008289850397817256633102912925032377747267387615061072757643228449870777890379802349568
  | 61 => 71614788332382989993668620795082232958302001517929830336684845480626721184788401132204757971703161274437734400
  | 64 => 36265302912251042761276606936058182247505748789568104052998051136038197467810438868035313606317156396572587524100096
  | _ => 0
/-- the i-th power of the generator -/
def fexp (q i : Int) : Int := ((fE q.toNat >>> (6 * i.toNat)) % 64 : Nat)
/-- which power a number is -/
def flog (q a : Int) : Int := bif a == 0 then -1 else ((fL q.toNat >>> (6 * a.toNat)) % 64 : Nat)
def tabCheck (n : Nat) : Bool := match fldN n with
  | none => true
  | some (p, m, g, mod) => decide (tabs n = ((List.range (n - 1)).map fun i : Nat => fexp n i, (List.range n).map fun a : Nat => flog n a)) &&
    ((List.range (n - 1)).all fun i => decide (1 ≤ fexp n i) && decide (fexp n i < n) && decide (flog n (fexp n i) = i)) &&
    ((List.range (n - 1)).all fun a => decide (0 ≤ flog n (a + 1 : Nat)) && decide (flog n (a + 1 : Nat) < n - 1) && decide (fexp n (flog n (a + 1 : Nat)) = (a + 1 : Nat))) && decide (flog n g = 1 % ((n : Int) - 1)) && decide (fexp n 0 = 1)
theorem tab_checked : ((List.range 63).all fun n => tabCheck (n + 2)) = true := by kernel_rfl
/-- what the powers and their places have -/
structure Tabs (q g : Int) : Prop where
  tab : tabs q.toNat = ((List.range (q - 1).toNat).map fun i : Nat => fexp q i, (List.range q.toNat).map fun a : Nat => flog q a)
  er : ∀ i, 0 ≤ i → i < q - 1 → 1 ≤ fexp q i ∧ fexp q i < q ∧ flog q (fexp q i) = i
  lr : ∀ a, 1 ≤ a → a < q → 0 ≤ flog q a ∧ flog q a < q - 1 ∧ fexp q (flog q a) = a
  lg : flog q g = 1 % (q - 1)
  e0 : fexp q 0 = 1
theorem tabs_ok {q p g : Int} {m : Nat} {mod : List Int} (hn : fldN q.toNat = some (p, m, g, mod)) : Tabs q g := by
  obtain ⟨h2, h64⟩ := fldN_le hn
  have h := List.all_eq_true.1 tab_checked (q.toNat - 2) (List.mem_range.2 (by omega))
  rw [show q.toNat - 2 + 2 = q.toNat by omega] at h
  unfold tabCheck at h
  rw [hn] at h
  simp only [Bool.and_eq_true, decide_eq_true_eq, List.all_eq_true, List.mem_range] at h
  rw [show ((q.toNat : Nat) : Int) = q by omega] at h
  obtain ⟨⟨⟨⟨h1, h2⟩, h3⟩, h4⟩, h5⟩ := h
  refine ⟨by rw [h1, show q.toNat - 1 = (q - 1).toNat by omega], fun i h0 hi => ?_, fun a h0 ha => ?_, h4, h5⟩
  · have := h2 i.toNat (by omega)
    rw [show ((i.toNat : Nat) : Int) = i by omega] at this
    exact ⟨this.1.1, this.1.2, this.2⟩
  · have := h3 (a.toNat - 1) (by omega)
    rw [show ((a.toNat - 1 + 1 : Nat) : Int) = a by omega] at this
    exact ⟨this.1.1, this.1.2, this.2⟩

/-! ### the numbers' laws as the statements ask for them -/
def fok (q a : Int) : Bool := decide (0 ≤ a) && decide (a < q)
def addN (p : Int) : Nat → Int → Int → Int
  | 0, _, _ => 0
  | n + 1, a, b => (a % p + b % p) % p + p * addN p n (a / p) (b / p)
def negN (p : Int) : Nat → Int → Int
  | 0, _ => 0
  | n + 1, a => (p - a % p) % p + p * negN p n (a / p)
def fch (q : Int) : Int := match fldN q.toNat with
  | some (p, _, _, _) => p
  | none => 0
def fdg (q : Int) : Nat := match fldN q.toNat with
  | some (_, m, _, _) => m
  | none => 0
def fadd (q a b : Int) : Int := bif fok q a && fok q b then addN (fch q) (fdg q) a b else -1
def fneg (q a : Int) : Int := bif fok q a then negN (fch q) (fdg q) a else -1
def fsub (q a b : Int) : Int := fadd q a (fneg q b)
def fmul (q a b : Int) : Int := bif fok q a && fok q b then bif (a == 0) || (b == 0) then 0 else fexp q ((flog q a + flog q b) % (q - 1)) else -1
def finv (q a : Int) : Int := bif fok q a && !(a == 0) then fexp q ((q - 1 - flog q a) % (q - 1)) else -1
def fpow (q a k : Int) : Int := bif !fok q a || ((a == 0) && decide (k < 0)) then -1 else bif k == 0 then 1 else bif a == 0 then 0 else fexp q (flog q a * (k % (q - 1)) % (q - 1))
def flogS (q a : Int) : Int := bif fok q a then flog q a else -1
def frobN (q : Int) : Nat → Int → Int
  | 0, a => a
  | n + 1, a => frobN q n (fpow q a (fch q))
def ffrob (q a t : Int) : Int := bif fok q a then frobN q (t % (fdg q : Int)).toNat a else -1
def traceN (q a : Int) : Nat → Nat → Int → Int
  | 0, _, s => s
  | n + 1, k, s => traceN q a n (k + 1) (fadd q s (ffrob q a (k : Int)))
def normN (q a : Int) : Nat → Nat → Int → Int
  | 0, _, s => s
  | n + 1, k, s => normN q a n (k + 1) (fmul q s (ffrob q a (k : Int)))
def ftrace (q a : Int) : Int := bif fok q a then traceN q a (fdg q) 0 0 else -1
def fnorm (q a : Int) : Int := bif fok q a then normN q a (fdg q) 0 1 else -1
def fwithin (q s : Int) : List Int := match fldN s.toNat with
  | some (p, m, _, _) => bif decide (p = fch q) && decide (fdg q % m = 0) then ((List.range q.toNat).filter fun a : Nat => decide (fpow q a s = a)).map fun a : Nat => (a : Int) else []
  | none => []

/-! ### the document's products are these -/
def mulCheck (n : Nat) : Bool := match fldN n with
  | none => true
  | some (p, m, g, mod) => (List.range n).all fun a => (List.range n).all fun b => decide (mulR n p m mod a b = fmul n a b)
def mulRows (n lo c : Nat) : Bool := match fldN n with
  | none => true
  | some (p, m, g, mod) => (List.range c).all fun a => (List.range n).all fun b => decide (mulR n p m mod (a + lo : Nat) b = fmul n (a + lo : Nat) b)
end Go.Proofs.Ytammndhoillliaa
