/-
  Layer 17, plain: the terms with a number that is not known (but that is not zero), reckoned; where the reckoning does not know, it says so.
-/
import Derived.Test.YtpjjpcgnogpdmaaDoorTmA
namespace Go.Proofs.Law.Sy
open Go Go.En Go.Proofs Go.Proofs.Law

/-- A number: known, or the one that is not, or that one turned. -/
inductive Z | c (k : Int) | w | v
structure SN where
  kind : Nat
  op : Nat
  n : Z
  name : List UInt8
  args : List Int
  fact : List Int
def wr (n : Int) : Int := IntKind.i32.wrap (IntKind.u32.wrap n)
/-- What numbers mean. -/
def ev (W : Int) : Z → Int
  | .c k => k
  | .w => W
  | .v => wr (-W)
def evN (W : Int) (x : SN) : En.Dop.Nod := ⟨x.kind, x.op, ev W x.n, x.name, x.args, x.fact⟩
def guardB {α : Type} (b : Bool) (k : Option α) : Option α := match b with
  | true => k
  | false => none
def eqI (a b : Int) : Bool := decide (a = b)
def in32 (k : Int) : Bool := decide (-2147483648 ≤ k ∧ k ≤ 2147483647)
def mulZ (z : Z) (b : Int) : Option Z := match z with
  | .c k => guardB (in32 k && in32 b) (some (.c (wr (k * b))))
  | .w => match eqI b 1 with
    | true => some .w
    | false => guardB (eqI b (-1)) (some .v)
  | .v => match eqI b 1 with
    | true => some .v
    | false => guardB (eqI b (-1)) (some .w)
def addZ : Z → Z → Option Z
  | .c a, .c b => guardB (in32 a && in32 b) (some (.c (wr (a + b))))
  | .w, .c b => guardB (eqI b 0) (some .w)
  | .c a, .w => guardB (eqI a 0) (some .w)
  | .v, .c b => guardB (eqI b 0) (some .v)
  | .c a, .v => guardB (eqI a 0) (some .v)
  | _, _ => none
/-- Is it zero? -/
def zeroZ : Z → Bool
  | .c k => eqI k 0
  | _ => false
/-- Are they the same? -/
def sameZ : Z → Z → Option Bool
  | .c a, .c b => some (eqI a b)
  | .w, .w => some true
  | .v, .v => some true
  | .w, .c b => guardB (eqI b 0) (some false)
  | .c a, .w => guardB (eqI a 0) (some false)
  | .v, .c b => guardB (eqI b 0) (some false)
  | .c a, .v => guardB (eqI a 0) (some false)
  | _, _ => none
def eqL : List Int → List Int → Bool
  | [], [] => true
  | a :: r, b :: s => match eqI a b with
    | true => eqL r s
    | false => false
  | _, _ => false
def eqU : List UInt8 → List UInt8 → Bool
  | [], [] => true
  | a :: r, b :: s => match Nat.beq a.toNat b.toNat with
    | true => eqU r s
    | false => false
  | _, _ => false
def opB (k : Nat) : Bool := Nat.ble 1 k && Nat.ble k 23
/-- Have they one key? -/
def sameN (x y : SN) : Option Bool := match x.kind, y.kind with
  | 0, 0 => (sameZ x.n y.n).map fun b => b && eqL x.args y.args
  | 1, 1 => some (eqU x.name y.name && eqL x.args y.args)
  | 2, 2 => some (eqU x.name y.name && eqL x.args y.args)
  | 3, 3 => guardB (opB x.op && opB y.op) (some (Nat.beq x.op y.op && eqL x.args y.args))
  | 4, 4 => match eqL x.args y.args && eqL x.fact y.fact with
    | true => sameZ x.n y.n
    | false => some false
  | a, b => guardB (Nat.ble a 4 && Nat.ble b 4 && !(Nat.beq a b) && (!(Nat.beq a 3) || opB x.op) && (!(Nat.beq b 3) || opB y.op)) (some false)
def allI (p : Int → Bool) : List Int → Bool
  | [] => true
  | a :: r => p a && allI p r
def in64 (k : Int) : Bool := decide (-9223372036854775808 ≤ k ∧ k ≤ 9223372036854775807)
def inZ : Z → Bool
  | .c k => in32 k
  | _ => true
def okN (x : SN) : Bool := (!(Nat.beq x.kind 3) || opB x.op) && inZ x.n && Nat.ble x.name.length 20 && Nat.ble x.args.length 20 && Nat.ble x.fact.length 20 && allI in64 x.args && allI in64 x.fact
abbrev R (α : Type) := Option (α × List SN)
def findS (x : SN) : Nat → List SN → Option (Option Nat)
  | _, [] => some none
  | k, y :: r => (sameN x y).bind fun b => match b with
    | true => some (some k)
    | false => findS x (k + 1) r
def put (x : SN) (L : List SN) : R Nat := guardB (okN x && Nat.ble L.length 900) ((findS x 0 L).bind fun o => match o with
  | some i => some (i, L)
  | none => some (L.length, L ++ [x]))
def num (z : Z) (L : List SN) : R Nat := guardB (inZ z) (put ⟨0, 0, z, [], [], []⟩ L)
/-- Terms taken by a factor. -/
def take (b : Int) : List Int → List Int → List (Int × Int) → List Int → Option (List (Int × Int) × List Int)
  | [], _, m, l => some (m, l)
  | a :: r, f :: s, m, l => guardB (in32 f && in32 b && Nat.ble l.length 100 && in32 ((mlookI m a).getD 0)) (take b r s (mputI m a (wr ((mlookI m a).getD 0 + wr (f * b)))) (match (mlookI m a).isSome with
    | true => l
    | false => l ++ [a]))
  | _ :: _, [], _, _ => none
def keep (m : List (Int × Int)) : List Int → List Int × List Int → List Int × List Int
  | [], p => p
  | a :: r, p => match eqI ((mlookI m a).getD 0) 0 with
    | true => keep m r p
    | false => keep m r (p.1 ++ [a], p.2 ++ [(mlookI m a).getD 0])
def smallN (x : SN) : Bool := Nat.ble x.args.length 20 && Nat.beq x.fact.length x.args.length
def add (a b : SN) (by_ : Int) : Option SN := guardB (smallN a && smallN b && in32 by_) ((mulZ b.n by_).bind fun n1 => (addZ a.n n1).bind fun n => (take 1 a.args a.fact [] []).bind fun p => (take by_ b.args b.fact p.1 p.2).bind fun q =>
  guardB (someB q.2 && Nat.ble q.2.length 100) (match keep q.1 (isort q.2) ([], []) with
    | (args, fact) => some ⟨4, 0, n, [], args, fact⟩))
def made (x : SN) (L : List SN) : R Nat := match x.args, x.fact with
  | [], _ => num x.n L
  | [a], f :: _ => match zeroZ x.n with
    | true => match eqI f 1 with
      | true => guardB (decide (0 ≤ a)) (some (a.toNat, L))
      | false => put x L
    | false => put x L
  | [_], [] => none
  | _ :: _ :: _, _ => put x L
def nodeAt (t : Nat) (L : List SN) : Option SN := nth L t
def linear (t : Nat) (L : List SN) : Option SN := (nodeAt t L).bind fun x => match x.kind with
  | 0 => some ⟨4, 0, x.n, [], [], []⟩
  | 4 => some x
  | _ => some ⟨4, 0, .c 0, [], [(t : Int)], [1]⟩
def truth (t : Nat) (L : List SN) : Option Bool := (nodeAt t L).bind fun x => some (Nat.beq x.kind 3 && (Nat.beq x.op 14 || Nat.beq x.op 16 || Nat.beq x.op 18))
def lin0 (z : Z) : SN := ⟨4, 0, z, [], [], []⟩
def less1 (t : Nat) (L : List SN) : R Nat := (linear t L).bind fun x => (add (lin0 (.c 1)) x (-1)).bind fun y => made y L
/-- Which row of factors is more, where they tell. -/
def cmpF : List Int → List Int → Option Bool
  | a :: r, b :: s => match eqI a b with
    | true => cmpF r s
    | false => some (decide (b < a))
  | _, _ => none
def eqn2 (x : SN) (L : List SN) : R Nat := (add (lin0 (.c 0)) x (-1)).bind fun y => guardB (Nat.beq y.fact.length x.fact.length && Nat.ble x.fact.length 50) ((cmpF y.fact x.fact).bind fun g =>
  (made (match g with | true => y | false => x) L).bind fun p => (num (.c 0) p.2).bind fun q => put ⟨3, 14, .c 0, [], [(p.1 : Int), (q.1 : Int)], []⟩ q.2)
def equal (x : SN) (L : List SN) : R Nat := match x.args with
  | [] => num (.c (match zeroZ x.n with | true => 1 | false => 0)) L
  | [a] => guardB (decide (0 ≤ a)) ((truth a.toNat L).bind fun t => match t with
    | false => eqn2 x L
    | true => match x.fact with
      | f :: _ => guardB (in32 f) (match eqI f 1 || eqI f (-1) with
        | true => match x.n with
          | .c k => match eqI k 0 with
            | true => less1 a.toNat L
            | false => match eqI k (-f) with
              | true => some (a.toNat, L)
              | false => none
          | _ => none
        | false => none)
      | [] => none)
  | _ => eqn2 x L
def less (op a b : Nat) (L : List SN) : R Nat := match Nat.beq a b with
  | true => num (.c 0) L
  | false => put ⟨3, op, .c 0, [], [(a : Int), (b : Int)], []⟩ L
def kn (t : Nat) (L : List SN) : Option (Option Z) := (nodeAt t L).bind fun x => match x.kind with
  | 0 => some (some x.n)
  | _ => some none
def apply1 (op a b : Nat) (L : List SN) (ka kb : Option Z) : R Nat := (linear a L).bind fun x => (linear b L).bind fun y => match op with
  | 1 => (add x y 1).bind fun z => made z L
  | 2 => (add x y (-1)).bind fun z => made z L
  | 3 => match ka, kb with
    | some (.c k), _ => (add (lin0 (.c 0)) y k).bind fun z => made z L
    | none, some (.c k) => (add (lin0 (.c 0)) x k).bind fun z => made z L
    | _, _ => none
  | 14 => (add x y (-1)).bind fun z => equal z L
  | 15 => (add x y (-1)).bind fun z => (equal z L).bind fun p => less1 p.1 p.2
  | 16 => less 16 a b L
  | 18 => less 18 a b L
  | _ => none
/-- What an operation tells of two terms. -/
def apply (op a b : Nat) (L : List SN) : R Nat := (kn a L).bind fun ka => (kn b L).bind fun kb => match ka, kb with
  | some _, some _ => none
  | _, _ => match op with
    | 17 => (apply1 16 b a L kb ka).bind fun p => less1 p.1 p.2
    | 19 => (apply1 18 b a L kb ka).bind fun p => less1 p.1 p.2
    | _ => apply1 op a b L ka kb
def zero (a : Nat) (L : List SN) : R Nat := (kn a L).bind fun ka => match ka with
  | some _ => none
  | none => (linear a L).bind fun x => equal x L
def var (name : List UInt8) (L : List SN) : R Nat := put ⟨1, 0, .c 0, name, [], []⟩ L
def awake : Option Bool := (var [120] []).bind fun x => (var [121] x.2).bind fun y => (apply 1 x.1 y.1 y.2).bind fun t => (apply 2 t.1 x.1 t.2).bind fun d => (num (.c 2) d.2).bind fun two => (num (.c 1) two.2).bind fun one =>
  (apply 1 x.1 one.1 one.2).bind fun x1 => (apply 3 two.1 x1.1 x1.2).bind fun a => (num (.c 2) a.2).bind fun two' => (apply 3 x.1 two'.1 two'.2).bind fun b => (apply 2 a.1 b.1 b.2).bind fun z => (kn z.1 z.2).bind fun k => match k with
    | some (.c 2) => some (Nat.beq d.1 y.1)
    | _ => none
def truths (z : Z) (op : Nat) : Option Bool := (var [120] []).bind fun x => (var [121] x.2).bind fun y0 => (num z y0.2).bind fun n => (apply 1 y0.1 n.1 n.2).bind fun y => (match op with | 23 => zero x.1 y.2 | _ => apply op x.1 y.1 y.2).bind fun t =>
  (zero t.1 t.2).bind fun z1 => (zero z1.1 z1.2).bind fun z2 => (zero t.1 z2.2).bind fun z3 => (apply 16 x.1 y.1 z3.2).bind fun l1 => (apply 17 y.1 x.1 l1.2).bind fun l2 => (zero l2.1 l2.2).bind fun l3 =>
  (apply 18 x.1 y.1 l3.2).bind fun u1 => (apply 19 y.1 x.1 u1.2).bind fun u2 => (zero u2.1 u2.2).bind fun u3 => (apply 15 x.1 y.1 u3.2).bind fun e1 => (apply 14 y.1 x.1 e1.2).bind fun e2 => (zero e2.1 e2.2).bind fun e3 =>
  some (Nat.beq z2.1 t.1 && !(Nat.beq z3.1 t.1) && Nat.beq l1.1 l3.1 && Nat.beq u1.1 u3.1 && Nat.beq e1.1 e3.1)
theorem awake_v : awake = some true := by kernel_rfl
theorem truths_v : ([14, 16, 18, 15, 17, 19, 23].all fun op => (truths .w op == some true) && (truths (.c 0) op == some true)) = true := by kernel_rfl
end Go.Proofs.Law.Sy
