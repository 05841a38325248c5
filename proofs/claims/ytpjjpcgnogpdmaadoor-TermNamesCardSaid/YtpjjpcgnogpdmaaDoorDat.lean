/-
  Data of the program, as Lean's types; written by a program (gendat.py) out of the translation's types.
-/
import Derived.Test.YtpjjpcgnogpdmaaDoorEn11
import Derived.Test.YtpjjpcgnogpdmaaDoorLw
namespace Go.En.Dop
open Go

structure Nod where
  kind : Int
  op : Int
  n : Int
  name : List UInt8
  args : List (Int)
  fact : List (Int)
deriving DecidableEq

@[reducible] def DT : Nat → Type
  | 0 => Int
  | 1 => List UInt8
  | 2 => Bool
  | 3 => Int
  | 4 => Nod
  | _ => Unit
@[reducible] def Dfds : Nat → List Fd
  | 0 => [.int .i64]
  | 1 => [.str]
  | 2 => [.bool]
  | 3 => [.int .i64]
  | 4 => [.int .i64, .int .i64, .int .i64, .str, .sl 0, .sl 0]
  | _ => []
@[reducible] def Dto : ∀ τ, DT τ → Ps DT (Dfds τ)
  | 0, x => (x, ())
  | 1, x => (x, ())
  | 2, x => (x, ())
  | 3, x => (x, ())
  | 4, x => (x.kind, x.op, x.n, x.name, x.args, x.fact, ())
  | _ + 5, _ => ()
@[reducible] def Dof : ∀ τ, Ps DT (Dfds τ) → DT τ
  | 0, p => p.1
  | 1, p => p.1
  | 2, p => p.1
  | 3, p => p.1
  | 4, p => ⟨p.1, p.2.1, p.2.2.1, p.2.2.2.1, p.2.2.2.2.1, p.2.2.2.2.2.1⟩
  | _ + 5, _ => ()
def Ddflt : ∀ τ, DT τ
  | 0 => (0 : Int)
  | 1 => []
  | 2 => false
  | 3 => (0 : Int)
  | 4 => ⟨(0 : Int), (0 : Int), (0 : Int), [], [], []⟩
  | _ + 5 => ()
@[reducible] def d0 : Int := (0 : Int)
@[reducible] def d1 : List UInt8 := []
@[reducible] def d2 : Bool := false
@[reducible] def d3 : Int := (0 : Int)
@[reducible] def d4 : Nod := ⟨(0 : Int), (0 : Int), (0 : Int), [], [], []⟩
theorem Dto_of : ∀ τ p, Dto τ (Dof τ p) = p
  | 0, _ => rfl
  | 1, _ => rfl
  | 2, _ => rfl
  | 3, _ => rfl
  | 4, _ => rfl
  | _ + 5, _ => rfl
@[reducible] def D17 : Sig := { T := DT, fds := Dfds, «to» := Dto, of := Dof, to_of := Dto_of, dflt := Ddflt, inv := Sits L17, inv_keep := Sits.keep }
end Go.En.Dop
