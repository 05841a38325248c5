/-
  Data of the program, as Lean's types; written by a program (gendat.py) out of the translation's types.
-/
import Derived.Test.YtfdlkehaccgeeaaDoorEn11
import Derived.Test.YtfdlkehaccgeeaaDoorLw
namespace Go.En.Dop
open Go

structure Rno where
  head : List UInt8
  args : List (Int)
deriving DecidableEq
structure Nod where
  head : List UInt8
  args : List (Int)
deriving DecidableEq
structure Pr where
  x0 : Int
  x1 : Int
deriving DecidableEq

@[reducible] def DT : Nat → Type
  | 0 => Int
  | 1 => List UInt8
  | 2 => Bool
  | 3 => Rno
  | 4 => Nod
  | 5 => Pr
  | 6 => List (Bool)
  | _ => Unit
@[reducible] def Dfds : Nat → List Fd
  | 0 => [.int .i64]
  | 1 => [.str]
  | 2 => [.bool]
  | 3 => [.str, .sl 0]
  | 4 => [.str, .sl 0]
  | 5 => [.int .i64, .int .i64]
  | 6 => [.ow 2 4]
  | _ => []
@[reducible] def Dto : ∀ τ, DT τ → Ps DT (Dfds τ)
  | 0, x => (x, ())
  | 1, x => (x, ())
  | 2, x => (x, ())
  | 3, x => (x.head, x.args, ())
  | 4, x => (x.head, x.args, ())
  | 5, x => (x.x0, x.x1, ())
  | 6, x => (x, ())
  | _ + 7, _ => ()
@[reducible] def Dof : ∀ τ, Ps DT (Dfds τ) → DT τ
  | 0, p => p.1
  | 1, p => p.1
  | 2, p => p.1
  | 3, p => ⟨p.1, p.2.1⟩
  | 4, p => ⟨p.1, p.2.1⟩
  | 5, p => ⟨p.1, p.2.1⟩
  | 6, p => p.1
  | _ + 7, _ => ()
def Ddflt : ∀ τ, DT τ
  | 0 => (0 : Int)
  | 1 => []
  | 2 => false
  | 3 => ⟨[], []⟩
  | 4 => ⟨[], []⟩
  | 5 => ⟨(0 : Int), (0 : Int)⟩
  | 6 => []
  | _ + 7 => ()
@[reducible] def d0 : Int := (0 : Int)
@[reducible] def d1 : List UInt8 := []
@[reducible] def d2 : Bool := false
@[reducible] def d3 : Rno := ⟨[], []⟩
@[reducible] def d4 : Nod := ⟨[], []⟩
@[reducible] def d5 : Pr := ⟨(0 : Int), (0 : Int)⟩
@[reducible] def d6 : List (Bool) := []
theorem Dto_of : ∀ τ p, Dto τ (Dof τ p) = p
  | 0, _ => rfl
  | 1, _ => rfl
  | 2, _ => rfl
  | 3, _ => rfl
  | 4, _ => rfl
  | 5, _ => rfl
  | 6, _ => rfl
  | _ + 7, _ => rfl
@[reducible] def D18 : Sig := { T := DT, fds := Dfds, to := Dto, of := Dof, to_of := Dto_of, dflt := Ddflt, inv := Sits L18, inv_keep := Sits.keep }
end Go.En.Dop
