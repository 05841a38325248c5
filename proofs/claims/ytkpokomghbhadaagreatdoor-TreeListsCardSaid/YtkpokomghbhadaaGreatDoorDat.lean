/-
 Data of the program, as Lean's types; written by a program (gendat.py) out of the translation's types.
-/
import Derived.Test.YtkpokomghbhadaaGreatDoorEn11
import Derived.Test.YtkpokomghbhadaaGreatDoorLw
namespace Go.En.Dop
open Go
structure Tok where
 kind : Int
 text : List UInt8
 n : Int
 at_ : Int
deriving DecidableEq
structure Nde where
 kind : Int
 a : Int
 b : Int
 c : Int
 d : Int
 text : List UInt8
 n : Int
 type_ : Int
 at_ : Int
deriving DecidableEq
structure Typ where
 kind : Int
 elem : Int
 n : Int
 name : List UInt8
deriving DecidableEq
structure Tre where
 nodes : List (Nde)
 types : List (Typ)
 top : Int
deriving DecidableEq
structure As4 where
 x0 : List UInt8
 x1 : List UInt8
 x2 : List UInt8
 x3 : List UInt8
deriving DecidableEq
structure As2 where
 x0 : List UInt8
 x1 : List UInt8
deriving DecidableEq
@[reducible] def DT : Nat → Type
 | 0 => Int
 | 1 => List UInt8
 | 2 => Bool
 | 3 => Int
 | 4 => Tok
 | 5 => Nde
 | 6 => Typ
 | 7 => Tre
 | 8 => As4
 | 9 => As2
 | _ => Unit
@[reducible] def Dfds : Nat → List Fd
 | 0 => [.int .i64]
 | 1 => [.str]
 | 2 => [.bool]
 | 3 => [.int .u8]
 | 4 => [.int .i64,.str,.int .i64,.int .i64]
 | 5 => [.int .i64,.int .i64,.int .i64,.int .i64,.int .i64,.str,.int .i64,.int .i64,.int .i64]
 | 6 => [.int .i64,.int .i64,.int .i64,.str]
 | 7 => [.sl 5,.sl 6,.int .i64]
 | 8 => [.str,.str,.str,.str]
 | 9 => [.str,.str]
 | _ => []
@[reducible] def Dto : ∀ τ,DT τ → Ps DT (Dfds τ)
 | 0,x => (x,())
 | 1,x => (x,())
 | 2,x => (x,())
 | 3,x => (x,())
 | 4,x => (x.kind,x.text,x.n,x.at_,())
 | 5,x => (x.kind,x.a,x.b,x.c,x.d,x.text,x.n,x.type_,x.at_,())
 | 6,x => (x.kind,x.elem,x.n,x.name,())
 | 7,x => (x.nodes,x.types,x.top,())
 | 8,x => (x.x0,x.x1,x.x2,x.x3,())
 | 9,x => (x.x0,x.x1,())
 | _ + 10,_ => ()
@[reducible] def Dof : ∀ τ,Ps DT (Dfds τ) → DT τ
 | 0,p => p.1
 | 1,p => p.1
 | 2,p => p.1
 | 3,p => p.1
 | 4,p => ⟨p.1,p.2.1,p.2.2.1,p.2.2.2.1⟩
 | 5,p => ⟨p.1,p.2.1,p.2.2.1,p.2.2.2.1,p.2.2.2.2.1,p.2.2.2.2.2.1,p.2.2.2.2.2.2.1,p.2.2.2.2.2.2.2.1,p.2.2.2.2.2.2.2.2.1⟩
 | 6,p => ⟨p.1,p.2.1,p.2.2.1,p.2.2.2.1⟩
 | 7,p => ⟨p.1,p.2.1,p.2.2.1⟩
 | 8,p => ⟨p.1,p.2.1,p.2.2.1,p.2.2.2.1⟩
 | 9,p => ⟨p.1,p.2.1⟩
 | _ + 10,_ => ()
def Ddflt : ∀ τ,DT τ
 | 0 => (0 : Int)
 | 1 => []
 | 2 => false
 | 3 => (0 : Int)
 | 4 => ⟨(0 : Int),[],(0 : Int),(0 : Int)⟩
 | 5 => ⟨(0 : Int),(0 : Int),(0 : Int),(0 : Int),(0 : Int),[],(0 : Int),(0 : Int),(0 : Int)⟩
 | 6 => ⟨(0 : Int),(0 : Int),(0 : Int),[]⟩
 | 7 => ⟨[],[],(0 : Int)⟩
 | 8 => ⟨[],[],[],[]⟩
 | 9 => ⟨[],[]⟩
 | _ + 10 => ()
@[reducible] def d1 : List UInt8 := []
@[reducible] def d2 : Bool := false
@[reducible] def d3 : Int := (0 : Int)
@[reducible] def d4 : Tok := ⟨(0 : Int),[],(0 : Int),(0 : Int)⟩
@[reducible] def d5 : Nde := ⟨(0 : Int),(0 : Int),(0 : Int),(0 : Int),(0 : Int),[],(0 : Int),(0 : Int),(0 : Int)⟩
@[reducible] def d6 : Typ := ⟨(0 : Int),(0 : Int),(0 : Int),[]⟩
theorem Dto_of : ∀ τ p,Dto τ (Dof τ p) = p
 | 0,_ => rfl
 | 1,_ => rfl
 | 2,_ => rfl
 | 3,_ => rfl
 | 4,_ => rfl
 | 5,_ => rfl
 | 6,_ => rfl
 | 7,_ => rfl
 | 8,_ => rfl
 | 9,_ => rfl
 | _ + 10,_ => rfl
@[reducible] def D4 : Sig := { T := DT,fds := Dfds,«to» := Dto,of := Dof,to_of := Dto_of,dflt := Ddflt,inv := Sits L04,inv_keep := Sits.keep }
end Go.En.Dop
