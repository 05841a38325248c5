/-
  Data of the program, as Lean's types; written by a program (gendat.py) out of the translation's types.
-/
import Derived.Test.YtfonahhlkanabaaDoorEn11
import Derived.Test.YtfonahhlkanabaaDoorLw
namespace Go.En.Dop
open Go

structure Ins where
  kind : Int
  op : Int
  dst : Int
  a : Int
  b : Int
  n : Int
  text : List UInt8
  args0 : Int
  args1 : Int
  args2 : Int
  args3 : Int
  args4 : Int
  args5 : Int
  to_ : Int
  else_ : Int
deriving DecidableEq
structure Fnc where
  name : List UInt8
  params : Int
  regs : Int
  frame : Int
  code : List (Ins)
deriving DecidableEq
structure Glb where
  name : List UInt8
  at_ : Int
  size : Int
  init_ : Int
deriving DecidableEq
structure Unt where
  funcs : List (Fnc)
  globals : List (Glb)
  top : Int
deriving DecidableEq
structure Frm where
  f : Fnc
  regs : List (Int)
  base : Int
  at_ : Int
  dst : Int
deriving DecidableEq
structure Res where
  end_ : Int
  code : Int
  output : List (Int)
deriving DecidableEq
structure Ar6 where
  x0 : Int
  x1 : Int
  x2 : Int
  x3 : Int
  x4 : Int
  x5 : Int
deriving DecidableEq

@[reducible] def DT : Nat → Type
  | 0 => Int
  | 1 => List UInt8
  | 2 => Int
  | 3 => Ins
  | 4 => Fnc
  | 5 => Glb
  | 6 => Unt
  | 7 => Frm
  | 8 => Res
  | 9 => Ar6
  | _ => Unit
@[reducible] def Dfds : Nat → List Fd
  | 0 => [.int .i64]
  | 1 => [.str]
  | 2 => [.int .u8]
  | 3 => [.int .i64, .int .i64, .int .i64, .int .i64, .int .i64, .int .i64, .str, .int .i64, .int .i64, .int .i64, .int .i64, .int .i64, .int .i64, .int .i64, .int .i64]
  | 4 => [.str, .int .i64, .int .i64, .int .i64, .sl 3]
  | 5 => [.str, .int .i64, .int .i64, .int .i64]
  | 6 => [.sl 4, .sl 5, .int .i64]
  | 7 => [.str, .int .i64, .int .i64, .int .i64, .sl 3, .ow 0 3, .int .i64, .int .i64, .int .i64]
  | 8 => [.int .i64, .int .i64, .sl 2]
  | 9 => [.int .i64, .int .i64, .int .i64, .int .i64, .int .i64, .int .i64]
  | _ => []
@[reducible] def Dto : ∀ τ, DT τ → Ps DT (Dfds τ)
  | 0, x => (x, ())
  | 1, x => (x, ())
  | 2, x => (x, ())
  | 3, x => (x.kind, x.op, x.dst, x.a, x.b, x.n, x.text, x.args0, x.args1, x.args2, x.args3, x.args4, x.args5, x.to_, x.else_, ())
  | 4, x => (x.name, x.params, x.regs, x.frame, x.code, ())
  | 5, x => (x.name, x.at_, x.size, x.init_, ())
  | 6, x => (x.funcs, x.globals, x.top, ())
  | 7, x => (x.f.name, x.f.params, x.f.regs, x.f.frame, x.f.code, x.regs, x.base, x.at_, x.dst, ())
  | 8, x => (x.end_, x.code, x.output, ())
  | 9, x => (x.x0, x.x1, x.x2, x.x3, x.x4, x.x5, ())
  | _ + 10, _ => ()
@[reducible] def Dof : ∀ τ, Ps DT (Dfds τ) → DT τ
  | 0, p => p.1
  | 1, p => p.1
  | 2, p => p.1
  | 3, p => ⟨p.1, p.2.1, p.2.2.1, p.2.2.2.1, p.2.2.2.2.1, p.2.2.2.2.2.1, p.2.2.2.2.2.2.1, p.2.2.2.2.2.2.2.1, p.2.2.2.2.2.2.2.2.1, p.2.2.2.2.2.2.2.2.2.1, p.2.2.2.2.2.2.2.2.2.2.1, p.2.2.2.2.2.2.2.2.2.2.2.1, p.2.2.2.2.2.2.2.2.2.2.2.2.1, p.2.2.2.2.2.2.2.2.2.2.2.2.2.1, p.2.2.2.2.2.2.2.2.2.2.2.2.2.2.1⟩
  | 4, p => ⟨p.1, p.2.1, p.2.2.1, p.2.2.2.1, p.2.2.2.2.1⟩
  | 5, p => ⟨p.1, p.2.1, p.2.2.1, p.2.2.2.1⟩
  | 6, p => ⟨p.1, p.2.1, p.2.2.1⟩
  | 7, p => ⟨⟨p.1, p.2.1, p.2.2.1, p.2.2.2.1, p.2.2.2.2.1⟩, p.2.2.2.2.2.1, p.2.2.2.2.2.2.1, p.2.2.2.2.2.2.2.1, p.2.2.2.2.2.2.2.2.1⟩
  | 8, p => ⟨p.1, p.2.1, p.2.2.1⟩
  | 9, p => ⟨p.1, p.2.1, p.2.2.1, p.2.2.2.1, p.2.2.2.2.1, p.2.2.2.2.2.1⟩
  | _ + 10, _ => ()
def Ddflt : ∀ τ, DT τ
  | 0 => (0 : Int)
  | 1 => []
  | 2 => (0 : Int)
  | 3 => ⟨(0 : Int), (0 : Int), (0 : Int), (0 : Int), (0 : Int), (0 : Int), [], (0 : Int), (0 : Int), (0 : Int), (0 : Int), (0 : Int), (0 : Int), (0 : Int), (0 : Int)⟩
  | 4 => ⟨[], (0 : Int), (0 : Int), (0 : Int), []⟩
  | 5 => ⟨[], (0 : Int), (0 : Int), (0 : Int)⟩
  | 6 => ⟨[], [], (0 : Int)⟩
  | 7 => ⟨⟨[], (0 : Int), (0 : Int), (0 : Int), []⟩, [], (0 : Int), (0 : Int), (0 : Int)⟩
  | 8 => ⟨(0 : Int), (0 : Int), []⟩
  | 9 => ⟨(0 : Int), (0 : Int), (0 : Int), (0 : Int), (0 : Int), (0 : Int)⟩
  | _ + 10 => ()
@[reducible] def d0 : Int := (0 : Int)
@[reducible] def d1 : List UInt8 := []
@[reducible] def d2 : Int := (0 : Int)
@[reducible] def d3 : Ins := ⟨(0 : Int), (0 : Int), (0 : Int), (0 : Int), (0 : Int), (0 : Int), [], (0 : Int), (0 : Int), (0 : Int), (0 : Int), (0 : Int), (0 : Int), (0 : Int), (0 : Int)⟩
@[reducible] def d4 : Fnc := ⟨[], (0 : Int), (0 : Int), (0 : Int), []⟩
@[reducible] def d5 : Glb := ⟨[], (0 : Int), (0 : Int), (0 : Int)⟩
@[reducible] def d6 : Unt := ⟨[], [], (0 : Int)⟩
@[reducible] def d7 : Frm := ⟨⟨[], (0 : Int), (0 : Int), (0 : Int), []⟩, [], (0 : Int), (0 : Int), (0 : Int)⟩
@[reducible] def d8 : Res := ⟨(0 : Int), (0 : Int), []⟩
@[reducible] def d9 : Ar6 := ⟨(0 : Int), (0 : Int), (0 : Int), (0 : Int), (0 : Int), (0 : Int)⟩
theorem Dto_of : ∀ τ p, Dto τ (Dof τ p) = p
  | 0, _ => rfl
  | 1, _ => rfl
  | 2, _ => rfl
  | 3, _ => rfl
  | 4, _ => rfl
  | 5, _ => rfl
  | 6, _ => rfl
  | 7, _ => rfl
  | 8, _ => rfl
  | 9, _ => rfl
  | _ + 10, _ => rfl
@[reducible] def D7 : Sig := { T := DT, fds := Dfds, «to» := Dto, of := Dof, to_of := Dto_of, dflt := Ddflt, inv := Sits L7, inv_keep := Sits.keep }
end Go.En.Dop
