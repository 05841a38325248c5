/- The parser in plain Lean: states carry their bounds; what it does keeps what was there (Step). -/
import Derived.Test.YtkpokomghbhadaaGreatDoorDat
namespace Go.Proofs.TR
open Go.En Go.En.Dop
abbrev Str := List UInt8
structure Z (L : List Tok) where
 at_ : Nat
 N : List Nde
 T : List Typ
 top : Int
 deep : Int
 e : Int
 wh : Int
 hat : at_ ≤ L.length
 hN : N.length ≤ 8192
 hT : T.length ≤ 256
section
variable {L : List Tok}
structure Step (s s' : Z L) : Prop where
 deep : s'.deep = s.deep
 top : s'.top = s.top
 at_ : s.at_ ≤ s'.at_
 err : s.e ≠ 0 → s'.e = s.e
 N : s.N <+: s'.N
 T : s.T <+: s'.T
theorem Step.refl (s : Z L) : Step s s := ⟨rfl,rfl,Nat.le_refl _,fun _ => rfl,List.prefix_refl _,List.prefix_refl _⟩
theorem Step.trans {a b c : Z L} (h : Step a b) (k : Step b c) : Step a c :=
 ⟨k.deep.trans h.deep,k.top.trans h.top,Nat.le_trans h.at_ k.at_,fun he => (k.err (by rw [h.err he]; exact he)).trans (h.err he),h.N.trans k.N,h.T.trans k.T⟩
structure M (L : List Tok) (α : Type) where
 run : Z L → α × Z L
 step : ∀ s,Step s (run s).2
instance : Monad (M L) where
 pure x := ⟨fun s => (x,s),fun s => Step.refl s⟩
 bind m k := ⟨fun s => (k (m.run s).1).run (m.run s).2,fun s => (m.step s).trans ((k (m.run s).1).step _)⟩
theorem run_pure {α : Type} (x : α) (s : Z L) : (pure x : M L α).run s = (x,s) := rfl
theorem run_bind {α β : Type} (m : M L α) (k : α → M L β) (s : Z L) : (m >>= k).run s = (k (m.run s).1).run (m.run s).2 := rfl
theorem run_ite {α : Type} (c : Prop) [Decidable c] (m m' : M L α) (s : Z L) : (if c then m else m').run s = if c then m.run s else m'.run s := by split <;> rfl
def endAt (L : List Tok) : Int := if L.length = 0 then 0 else (L.getD (L.length - 1) d4).at_ + ((L.getD (L.length - 1) d4).text.length : Nat)
def noTok (at_ : Int) : Tok := ⟨0,[],0,at_⟩
def now (s : Z L) : Tok := if s.e = 0 ∧ s.at_ < L.length then L.getD s.at_ d4 else noTok (endAt L)
def bump (s : Z L) : Z L := if h : s.at_ < L.length then { s with at_ := s.at_ + 1,hat := h } else s
theorem bump_step (s : Z L) : Step s (bump s) := by
 unfold bump
 split
 ·exact ⟨rfl,rfl,Nat.le_succ _,fun _ => rfl,List.prefix_refl _,List.prefix_refl _⟩
 ·exact Step.refl s
def failZ (e : Int) (s : Z L) : Z L := if s.e = 0 then { s with e := e,wh := (now s).at_ } else s
theorem failZ_step (e : Int) (s : Z L) : Step s (failZ e s) := by
 unfold failZ
 split
 ·rename_i h; exact ⟨rfl,rfl,Nat.le_refl _,fun h' => absurd h h',List.prefix_refl _,List.prefix_refl _⟩
 ·exact Step.refl s
def isZ (x : Str) (s : Z L) : Bool := (decide ((now s).kind = 4) || decide ((now s).kind = 2)) && decide ((now s).text = x)
def getZ : M L (Z L) := ⟨fun s => (s,s),Step.refl⟩
def nowM : M L Tok := ⟨fun s => (now s,s),Step.refl⟩
def bumpM : M L Unit := ⟨fun s => ((),bump s),bump_step⟩
def fail (e : Int) : M L Unit := ⟨fun s => ((),failZ e s),failZ_step e⟩
def is (x : Str) : M L Bool := ⟨fun s => (isZ x s,s),Step.refl⟩
def take (x : Str) : M L Bool := ⟨fun s => (isZ x s,if isZ x s = true then bump s else s),fun s => by
 show Step s (if _ then _ else _)
 split
 ·exact bump_step s
 ·exact Step.refl s⟩
def must (x : Str) : M L Unit := do
 if (← take x) = true then pure () else fail 5
def kind (k : Int) : M L Tok := do
 let t ← nowM
 let s ← getZ
 if t.kind = k ∧ s.e = 0 then
  bumpM
  pure t
 else
  fail 5
  pure (noTok t.at_)
def putZ (n : Nde) (s : Z L) : Int × Z L := if h : s.e = 0 ∧ s.N.length < 8192 then ((s.N.length : Nat),{ s with N := s.N ++ [n],hN := by simp; omega }) else (-1,s)
def putM (n : Nde) : M L Int := ⟨putZ n,fun s => by
 unfold putZ
 split
 ·exact ⟨rfl,rfl,Nat.le_refl _,fun _ => rfl,List.prefix_append _ _,List.prefix_refl _⟩
 ·exact Step.refl s⟩
def put (n : Nde) : M L Int := do
 let s ← getZ
 if s.N.length = 8192 then
  fail 4
  putM n
 else putM n
def idx (x : Typ) : List Typ → Nat → Int
 | [],_ => -1
 | y :: r,k => if y = x then (k : Nat) else idx x r (k + 1)
def addT (x : Typ) : M L Int := ⟨fun s => if h : s.T.length < 256 then ((s.T.length : Nat),{ s with T := s.T ++ [x],hT := by simp; omega }) else (0,s),fun s => by
 split
 ·exact ⟨rfl,rfl,Nat.le_refl _,fun _ => rfl,List.prefix_refl _,List.prefix_append _ _⟩
 ·exact Step.refl s⟩
def typed (x : Typ) : M L Int := do
 let s ← getZ
 if 0 ≤ idx x s.T 0 then pure (idx x s.T 0)
 else if s.T.length = 256 then
  fail 4
  pure 0
 else addT x
def types : M L Bool := do
 if (← is [105,110,116]) = true then pure true
 else if (← is [117,110,115,105,103,110,101,100]) = true then pure true
 else if (← is [99,104,97,114]) = true then pure true
 else if (← is [118,111,105,100]) = true then pure true
 else is [115,116,114,117,99,116]
def typesAt (L : List Tok) (s : Z L) : Bool := (types.run s).1
def starsL : Nat → Int → M L Int
 | 0,t => pure t
 | f + 1,t => do
  if (← take [42]) = true then
   let t' ← typed ⟨4,t,0,[]⟩
   starsL f t'
  else pure t
def left : M L Nat := do
 let s ← getZ
 pure (L.length - s.at_)
def stars (t : Int) : M L Int := do
 let f ← left
 starsL (f + 1) t
def base : M L Int := do
 if (← take [118,111,105,100]) = true then stars 0
 else if (← take [105,110,116]) = true then stars 1
 else if (← take [117,110,115,105,103,110,101,100]) = true then stars 2
 else if (← take [99,104,97,114]) = true then stars 3
 else
  must [115,116,114,117,99,116]
  let t ← kind 1
  let n ← typed ⟨6,0,0,t.text⟩
  stars n
def array (t : Int) : M L Int := do
 if (← take [91]) = true then
  let n ← kind 3
  must [93]
  typed ⟨5,t,n.n,[]⟩
 else pure t
def node (k at_ : Int) : Nde := ⟨k,-1,-1,-1,-1,[],0,0,at_⟩
def startZ (s : Z L) (n : Int) : Int := if n < 0 then 0 else (s.N.getD n.toNat d5).at_
def listL : List Int → Int → M L Int
 | [],out => pure out
 | x :: r,out => do
  let s ← getZ
  let o ← put { node 20 (startZ s x) with a := x,b := out }
  listL r o
def list (l : List Int) : M L Int := listL l.reverse (-1)
def takeAny : List Str → M L (Option (Str × Int))
 | [] => pure none
 | x :: r => do
  let t ← nowM
  if (← take x) = true then pure (some (x,t.at_)) else takeAny r
def deepZ (s : Z L) (d : Int) : Z L := { s with deep := d }
def downZ (s : Z L) : Z L := if 100 < s.deep + 1 then failZ 6 (deepZ s (s.deep + 1)) else deepZ s (s.deep + 1)
theorem downZ_ok (s : Z L) : (downZ s).deep = s.deep + 1 ∧ (downZ s).top = s.top ∧ (downZ s).at_ = s.at_ ∧ (s.e ≠ 0 → (downZ s).e = s.e) ∧ (downZ s).N = s.N ∧ (downZ s).T = s.T := by
 unfold downZ
 split
 ·have k := failZ_step 6 (deepZ s (s.deep + 1))
  refine ⟨k.deep,k.top,?_,k.err,?_,?_⟩ <;> (unfold failZ; split <;> rfl)
 ·exact ⟨rfl,rfl,rfl,fun _ => rfl,rfl,rfl⟩
def within (f : M L Int) : M L Int := ⟨fun s => if (downZ s).e = 0 then ((f.run (downZ s)).1,deepZ (f.run (downZ s)).2 ((f.run (downZ s)).2.deep - 1)) else (-1,deepZ (downZ s) ((downZ s).deep - 1)),fun s => by
 obtain ⟨a1,a2,a3,a4,a5,a6⟩ := downZ_ok s
 have k := f.step (downZ s)
 by_cases h : (downZ s).e = 0
 ·simp only [if_pos h]
  refine ⟨?_,k.top.trans a2,a3 ▸ k.at_,fun he => (k.err (by rw [a4 he]; exact he)).trans (a4 he),a5 ▸ k.N,a6 ▸ k.T⟩
  show (f.run _).2.deep - 1 = s.deep
  rw [k.deep,a1]; omega
 ·simp only [if_neg h]
  refine ⟨?_,a2,by rw [← a3]; exact Nat.le_refl _,a4,by rw [← a5]; exact List.prefix_refl _,by rw [← a6]; exact List.prefix_refl _⟩
  show _ - 1 = s.deep
  rw [a1]; omega⟩
section
variable (ex cx ux : M L Int)
def argsL : Nat → List Int → M L Int
 | 0,l => list l
 | f + 1,l => do
  if (← take [41]) = true then list l
  else
   let s ← getZ
   if s.e = 0 then
    if 0 < l.length then
     must [44]
     let x ← ex
     argsL f (l ++ [x])
    else
     let x ← ex
     argsL f (l ++ [x])
   else list l
def args : M L Int := do
 let f ← left
 argsL ex (f + 2) []
def primary : M L Int := do
 let t ← nowM
 if t.kind = 3 then
  bumpM
  put { node 1 t.at_ with n := t.n }
 else if t.kind = 1 then
  bumpM
  if (← take [40]) = true then
   let a ← args ex
   put { node 9 t.at_ with text := t.text,a := a }
  else put { node 2 t.at_ with text := t.text }
 else if (← take [40]) = true then
  let a ← ex
  must [41]
  pure a
 else if (← take [103,101,116,99]) = true then
  must [40]
  must [41]
  put (node 14 t.at_)
 else
  must [112,117,116,99]
  must [40]
  let a ← ex
  must [41]
  put { node 15 t.at_ with a := a }
def behindL : Nat → Int → M L Int
 | 0,_ => pure (-1)
 | f + 1,a => do
  let s ← getZ
  if s.e = 0 then
   let t ← nowM
   if (← take [91]) = true then
    let b ← ex
    must [93]
    let a' ← put { node 7 t.at_ with a := a,b := b }
    behindL f a'
   else if (← take [46]) = true then
    let x ← kind 1
    let a' ← put { node 8 t.at_ with a := a,text := x.text }
    behindL f a'
   else if (← take [45,62]) = true then
    let x ← kind 1
    let a' ← put { node 8 t.at_ with a := a,text := x.text,n := 1 }
    behindL f a'
   else if (← take [43,43]) = true then
    let a' ← put { node 13 t.at_ with a := a,text := [43,43] }
    behindL f a'
   else if (← take [45,45]) = true then
    let a' ← put { node 13 t.at_ with a := a,text := [45,45] }
    behindL f a'
   else pure a
  else pure (-1)
def behind (a : Int) : M L Int := do
 let f ← left
 behindL ex (f + 2) a
def unOps : List Str := [[43,43],[45,45],[45],[33],[126],[42],[38]]
def castZ (s : Z L) : Bool := isZ [40] s && decide (s.at_ + 1 < L.length) && typesAt L (bump s)
def unary : M L Int := do
 let t ← nowM
 match ← takeAny unOps with
 | some (x,_) =>
  let a ← ux
  put { node (if x.length = 2 then 12 else 3) t.at_ with text := x,a := a }
 | none =>
  if (← take [115,105,122,101,111,102]) = true then
   must [40]
   let b ← base
   let y ← array b
   must [41]
   put { node 11 t.at_ with type_ := y }
  else
   let s ← getZ
   if castZ s = true then
    must [40]
    let y ← base
    must [41]
    let a ← ux
    put { node 10 t.at_ with type_ := y,a := a }
   else
    let a ← primary ex
    behind ex a
def weak : List (List Str) := [[[124,124]],[[38,38]],[[124]],[[94]],[[38]],[[61,61],[33,61]],[[60],[60,61],[62],[62,61]],[[60,60],[62,62]],[[43],[45]],[[42],[47],[37]]]
def binL (sub : M L Int) (ops : List Str) : Nat → Int → M L Int
 | 0,a => pure a
 | f + 1,a => do
  match ← takeAny ops with
  | some (x,at_) =>
   let b ← sub
   let a' ← put { node 4 at_ with text := x,a := a,b := b }
   binL sub ops f a'
  | none => pure a
def binary : Nat → M L Int
 | 0 => unary ex ux
 | j + 1 => do
  let a ← binary j
  let f ← left
  binL (binary j) (weak.getD (9 - j) []) (f + 1) a
def cond : M L Int := do
 let a ← binary ex ux 10
 let t ← nowM
 if (← take [63]) = true then
  let b ← ex
  must [58]
  let c ← cx
  put { node 6 t.at_ with a := a,b := b,c := c }
 else pure a
def asOps : List Str := [[61],[43,61],[45,61],[42,61],[47,61],[37,61],[38,61],[124,61],[94,61],[60,60,61],[62,62,61]]
def assign : M L Int := do
 let a ← cond ex cx ux
 match ← takeAny asOps with
 | some (x,at_) =>
  let b ← ex
  put { node 5 at_ with text := x,a := a,b := b }
 | none => pure a
end
def lev : Nat → M L Int × M L Int × M L Int
 | 0 => (fun u => (u,u,u)) (pure (-1))
 | n + 1 => (assign (within (lev n).1) (within (lev n).2.1) (within (lev n).2.2),cond (within (lev n).1) (within (lev n).2.1) (within (lev n).2.2),unary (within (lev n).1) (within (lev n).2.2))
def expr (n : Nat) : M L Int := within (lev n).1
def head (ex : M L Int) : M L Int := do
 must [40]
 let a ← ex
 must [41]
 pure a
def maybe (ex : M L Int) (x : Str) : M L Int := do
 if (← take x) = true then pure (-1)
 else
  let a ← ex
  must x
  pure a
section
variable (ex st : M L Int)
def blockL : Nat → List Int → M L Int
 | 0,l => list l
 | f + 1,l => do
  if (← take [125]) = true then list l
  else
   let s ← getZ
   if s.e = 0 then
    let x ← st
    blockL f (l ++ [x])
   else list l
def block : M L Int := do
 let t ← nowM
 must [123]
 let f ← left
 let a ← blockL st (f + 2) []
 put { node 43 t.at_ with a := a }
def namedZ (s : Z L) : Bool := decide ((now s).kind = 1) && decide (s.at_ + 1 < L.length) && decide ((L.getD (s.at_ + 1) d4).text = [58])
def one : M L Int := do
 let t ← nowM
 let n := node 44 t.at_
 if (← is [123]) = true then block st
 else if (← take [59]) = true then put n
 else if (← types) = true then
  let b ← base
  let x ← kind 1
  let y ← array b
  if (← take [61]) = true then
   let a ← ex
   must [59]
   put { n with kind := 45,text := x.text,type_ := y,a := a }
  else
   must [59]
   put { n with kind := 45,text := x.text,type_ := y }
 else if (← take [105,102]) = true then
  let a ← head ex
  let b ← st
  if (← take [101,108,115,101]) = true then
   let c ← st
   put { n with kind := 31,a := a,b := b,c := c }
  else put { n with kind := 31,a := a,b := b }
 else if (← take [119,104,105,108,101]) = true then
  let a ← head ex
  let b ← st
  put { n with kind := 32,a := a,b := b }
 else if (← take [100,111]) = true then
  let b ← st
  must [119,104,105,108,101]
  let a ← head ex
  must [59]
  put { n with kind := 33,a := a,b := b }
 else if (← take [102,111,114]) = true then
  must [40]
  let a ← maybe ex [59]
  let b ← maybe ex [59]
  let c ← maybe ex [41]
  let d ← st
  put { n with kind := 34,a := a,b := b,c := c,d := d }
 else if (← take [98,114,101,97,107]) = true then
  must [59]
  put { n with kind := 35 }
 else if (← take [99,111,110,116,105,110,117,101]) = true then
  must [59]
  put { n with kind := 36 }
 else if (← take [114,101,116,117,114,110]) = true then
  let a ← maybe ex [59]
  put { n with kind := 37,a := a }
 else if (← take [103,111,116,111]) = true then
  let x ← kind 1
  must [59]
  put { n with kind := 38,text := x.text }
 else if (← take [115,119,105,116,99,104]) = true then
  let a ← head ex
  let b ← block st
  put { n with kind := 40,a := a,b := b }
 else if (← take [99,97,115,101]) = true then
  if (← take [45]) = true then
   let x ← kind 3
   must [58]
   let a ← st
   put { n with kind := 41,n := -1 * x.n,a := a }
  else
   let x ← kind 3
   must [58]
   let a ← st
   put { n with kind := 41,n := 1 * x.n,a := a }
 else if (← take [100,101,102,97,117,108,116]) = true then
  must [58]
  let a ← st
  put { n with kind := 42,a := a }
 else
  let s ← getZ
  if namedZ s = true then
   let x ← kind 1
   must [58]
   let a ← st
   put { n with kind := 39,text := x.text,a := a }
  else
   let a ← ex
   must [59]
   put { n with kind := 30,a := a }
end
def oneN : Nat → M L Int
 | 0 => pure (-1)
 | n + 1 => one (expr n) (within (oneN n))
def stmt (n : Nat) : M L Int := within (oneN n)
def param : M L Nde := do
 let t ← nowM
 let b ← base
 let x ← kind 1
 pure { node 51 t.at_ with type_ := b,text := x.text }
def field : M L Int := do
 let f ← param
 let y ← array f.type_
 must [59]
 put { f with type_ := y }
def fieldsL : Nat → List Int → M L (Option (List Int))
 | 0,l => pure (some l)
 | f + 1,l => do
  if l.length = 0 then
   let x ← field
   let s ← getZ
   if s.e = 0 then fieldsL f (l ++ [x]) else pure none
  else if (← take [125]) = true then pure (some l)
  else
   let s ← getZ
   if s.e = 0 then
    let x ← field
    let s ← getZ
    if s.e = 0 then fieldsL f (l ++ [x]) else pure none
   else pure (some l)
def paramsL : Nat → List Int → M L (List Int)
 | 0,l => pure l
 | f + 1,l => do
  if (← take [41]) = true then pure l
  else
   let s ← getZ
   if s.e = 0 then
    if 0 < l.length then
     must [44]
     let p ← param
     let x ← put p
     paramsL f (l ++ [x])
    else
     let p ← param
     let x ← put p
     paramsL f (l ++ [x])
   else pure l
def structZ (s : Z L) : Bool := isZ [115,116,114,117,99,116] s && decide (s.at_ + 2 < L.length) && decide ((L.getD (s.at_ + 2) d4).text = [123])
def top (D : Nat) : M L Int := do
 let t ← nowM
 let s ← getZ
 if structZ s = true then
  must [115,116,114,117,99,116]
  let x ← kind 1
  must [123]
  let f ← left
  match ← fieldsL (f + 2) [] with
  | none => pure (-1)
  | some l =>
   must [59]
   let a ← list l
   put { node 53 t.at_ with text := x.text,a := a }
 else
  let x ← param
  if (← take [40]) = true then
   let f ← left
   let l ← paramsL (f + 2) []
   let a ← list l
   let b ← block (stmt D)
   put { node 50 t.at_ with text := x.text,type_ := x.type_,a := a,b := b }
  else
   let y ← array x.type_
   if (← take [61]) = true then
    if (← take [45]) = true then
     let v ← kind 3
     must [59]
     put { node 52 t.at_ with text := x.text,type_ := y,n := -1 * v.n }
    else
     let v ← kind 3
     must [59]
     put { node 52 t.at_ with text := x.text,type_ := y,n := 1 * v.n }
   else
    must [59]
    put { node 52 t.at_ with text := x.text,type_ := y }
def topsL (D : Nat) : Nat → List Int → M L (List Int)
 | 0,l => pure l
 | f + 1,l => do
  let s ← getZ
  if s.e = 0 then
   let t ← nowM
   if t.kind = 0 then pure l
   else
    let x ← top D
    topsL D f (l ++ [x])
  else pure l
def whole : M L Int := do
 let f ← left
 let l ← topsL 101 (f + 2) []
 list l
end
def types0 : List Typ := [⟨0,0,0,[]⟩,⟨1,0,0,[]⟩,⟨2,0,0,[]⟩,⟨3,0,0,[]⟩]
def first (L : List Tok) : Z L := ⟨0,[],types0,0,0,0,0,Nat.zero_le _,by simp,by decide⟩
def parse (L : List Tok) : Tre × Int × Int :=
 let r := whole.run (first L)
 if r.2.e = 0 then (⟨r.2.N,r.2.T,r.1⟩,0,0) else (⟨[],[],0⟩,r.2.wh,r.2.e)
end Go.Proofs.TR
/- The plain parser goes on, or it fails; what it tells are nodes. -/
set_option maxRecDepth 100000
namespace Go.Proofs.TR
open Go Go.En Go.En.Dop
section
variable {L : List Tok}
theorem take_no {x : Str} {s : Z L} (hb : ((take x).run s).1 = false) : ((take x).run s).2 = s := by
 have hb : isZ x s = false := hb
 show (if isZ x s = true then bump s else s) = s
 rw [if_neg (by rw [hb]; decide)]
theorem run_now {α : Type} (k : Tok → M L α) (s : Z L) : (nowM >>= k).run s = (k (now s)).run s := rfl
theorem run_getZ (s : Z L) : (getZ : M L (Z L)).run s = (s,s) := rfl
theorem run_get {α : Type} (k : Z L → M L α) (s : Z L) : (getZ >>= k).run s = (k s).run s := rfl
theorem now_lt {s : Z L} (hk : (now s).kind ≠ 0) : s.e = 0 ∧ s.at_ < L.length ∧ now s = L.getD s.at_ d4 := by
 unfold now at hk ⊢
 split at hk
 ·rename_i hc; exact ⟨hc.1,hc.2,by rw [if_pos hc]⟩
 ·exact absurd rfl hk
theorem isZ_lt {x : Str} {s : Z L} (hk : isZ x s = true) : s.e = 0 ∧ s.at_ < L.length ∧ now s = L.getD s.at_ d4 ∧ (L.getD s.at_ d4).text = x := by
 simp only [isZ,Bool.and_eq_true,Bool.or_eq_true,decide_eq_true_eq] at hk
 have h1 := now_lt (s := s) (by rcases hk.1 with h | h <;> rw [h] <;> decide)
 exact ⟨h1.1,h1.2.1,h1.2.2,by rw [← h1.2.2]; exact hk.2⟩
theorem bump_lt {s : Z L} (hs : s.at_ < L.length) : bump s = { s with at_ := s.at_ + 1,hat := hs } := dif_pos hs
theorem take_at {x : Str} {s : Z L} (hb : ((take x).run s).1 = true) : ((take x).run s).2.at_ = s.at_ + 1 ∧ s.e = 0 ∧ s.at_ < L.length := by
 have hb : isZ x s = true := hb
 have hl := isZ_lt hb
 refine ⟨?_,hl.1,hl.2.1⟩
 show (if isZ x s = true then bump s else s).at_ = _
 rw [if_pos hb,bump_lt hl.2.1]
theorem takeAny_hit {x : Str} {r : List Str} {s : Z L} (hb : ((take x).run s).1 = true) : (takeAny (x :: r)).run s = (some (x,(now s).at_),((take x).run s).2) := by
 simp only [takeAny,run_now]
 simp only [run_bind,hb,if_true,run_pure]
theorem takeAny_miss {x : Str} {r : List Str} {s : Z L} (hb : ((take x).run s).1 = false) : (takeAny (x :: r)).run s = (takeAny r).run s := by
 simp only [takeAny,run_now]
 simp only [run_bind,hb,Bool.false_eq_true,if_false,take_no hb]
theorem takeAny_or : ∀ (l : List Str) (s : Z L),((takeAny l).run s = (none,s)) ∨ (∃ x ∈ l,(takeAny l).run s = (some (x,(now s).at_),((take x).run s).2) ∧ ((take x).run s).1 = true)
 | [],s => .inl rfl
 | x :: r,s => by
  rcases Bool.eq_false_or_eq_true ((take x).run s).1 with hb | hb
  ·exact .inr ⟨x,List.mem_cons_self,takeAny_hit hb,hb⟩
  ·rw [takeAny_miss hb]
   rcases takeAny_or r s with h | ⟨y,hy,h⟩
   ·exact .inl h
   ·exact .inr ⟨y,List.mem_cons_of_mem _ hy,h⟩
theorem ok_back {α : Type} {f : M L α} {s : Z L} (h : (f.run s).2.e = 0) : s.e = 0 := by
 apply Classical.byContradiction
 intro hn
 exact hn (((f.step s).err hn).symm.trans h)
def Pg {α : Type} (f : M L α) : Prop := ∀ s,(f.run s).2.e = 0 → s.at_ < (f.run s).2.at_
theorem Pg.l {α β : Type} {m : M L α} {k : α → M L β} (h : Pg m) : Pg (m >>= k) := fun s he => by
 rw [run_bind] at he ⊢
 exact Nat.lt_of_lt_of_le (h s (ok_back he)) ((k _).step _).at_
theorem Pg.r {α β : Type} {m : M L α} {k : α → M L β} (h : ∀ x,Pg (k x)) : Pg (m >>= k) := fun s he => by
 rw [run_bind] at he ⊢
 exact Nat.lt_of_le_of_lt (m.step s).at_ (h _ _ he)
theorem Pg.ite {α : Type} {c : Prop} [Decidable c] {a b : M L α} (ha : Pg a) (hb : Pg b) : Pg (if c then a else b) := by split <;> assumption
theorem Pg.take {α : Type} {x : Str} {a b : M L α} (hb : Pg b) : Pg (take x >>= fun r => if r = true then a else b) := fun s he => by
 rw [run_bind] at he ⊢
 rcases Bool.eq_false_or_eq_true ((TR.take x).run s).1 with h | h
 ·rw [if_pos h] at he ⊢
  have := (take_at h).1
  have := (a.step ((TR.take x).run s).2).at_
  omega
 ·rw [if_neg (by rw [h]; decide),take_no h] at he ⊢
  exact hb s he
theorem fail_e {e : Int} (he : e ≠ 0) (s : Z L) : ((fail e).run s).2.e ≠ 0 := by
 show (failZ e s).e ≠ 0
 unfold failZ
 split
 ·exact he
 ·assumption
theorem Pg.fail {e : Int} (he : e ≠ 0) : Pg (L := L) (fail e) := fun s h => absurd h (fail_e he s)
theorem Pg.must {x : Str} : Pg (L := L) (must x) := Pg.take (Pg.fail (by decide))
theorem Pg.kind {k : Int} (hk : k ≠ 0) : Pg (L := L) (kind k) := fun s he => by
 have e : (TR.kind k).run s = (if (now s).kind = k ∧ s.e = 0 then (now s,bump s) else (noTok (now s).at_,failZ 5 s)) := by
  show ((if (now s).kind = k ∧ s.e = 0 then _ else _ : M L Tok)).run s = _
  rw [run_ite]; rfl
 rw [e] at he ⊢
 split at he
 ·rename_i hc
  rw [if_pos hc]
  have hl := now_lt (s := s) (by rw [hc.1]; exact hk)
  show s.at_ < (bump s).at_
  rw [bump_lt hl.2.1]; exact Nat.lt_succ_self _
 ·exact absurd he (fail_e (by decide : (5 : Int) ≠ 0) s)
theorem Pg.bumpNow {α : Type} {c : Tok → Prop} [∀ t,Decidable (c t)] {a b : Tok → M L α} (hc : ∀ t,c t → t.kind ≠ 0) (hb : Pg (nowM >>= b)) : Pg (nowM >>= fun t => if c t then bumpM >>= fun _ => a t else b t) := fun s he => by
 rw [run_now] at he ⊢
 have hb := hb s
 rw [run_now] at hb
 by_cases h : c (now s)
 ·rw [if_pos h,run_bind] at he ⊢
  have hl := now_lt (s := s) (hc _ h)
  have h1 : (bumpM.run s).2.at_ = s.at_ + 1 := by show (bump s).at_ = _; rw [bump_lt hl.2.1]
  have := ((a (now s)).step (bumpM.run s).2).at_
  show s.at_ < ((a (now s)).run (bumpM.run s).2).2.at_
  omega
 ·rw [if_neg h] at he ⊢
  exact hb he
theorem pg_base : Pg (L := L) base := by
 unfold base
 exact Pg.take (Pg.take (Pg.take (Pg.take (Pg.l Pg.must))))
section
variable {ex cx ux st : M L Int}
theorem pg_primary : Pg (primary ex) := by
 unfold primary
 refine Pg.bumpNow (fun t h => by rw [h]; decide) (Pg.bumpNow (fun t h => by rw [h]; decide) (Pg.r fun t => ?_))
 exact Pg.take (Pg.take (Pg.l Pg.must))
theorem pg_unary : Pg (unary ex ux) := fun s he => by
 unfold unary at he ⊢
 rw [run_now,run_bind] at he ⊢
 rcases takeAny_or unOps s with h | ⟨x,_,h,hb⟩
 ·rw [h] at he ⊢
  refine (show Pg _ from ?_) s he
  refine Pg.take (Pg.r fun z => Pg.ite (Pg.l Pg.must) (Pg.l pg_primary))
 ·rw [h] at he ⊢
  have h1 := (take_at hb).1
  exact Nat.lt_of_lt_of_le (show s.at_ < ((take x).run s).2.at_ by omega) (M.step _ _).at_
theorem pg_binary : ∀ (j : Nat),Pg (binary ex ux j)
 | 0 => pg_unary
 | j + 1 => Pg.l (pg_binary j)
theorem pg_cond : Pg (cond ex cx ux) := Pg.l (pg_binary 10)
theorem pg_assign : Pg (assign ex cx ux) := Pg.l pg_cond
theorem pg_block : Pg (block st) := Pg.r fun _ => Pg.l Pg.must
theorem pg_param : Pg (L := L) param := Pg.r fun _ => Pg.l pg_base
def It (f : M L Int) : Prop := ∀ s,(f.run s).1 < ((f.run s).2.N.length : Nat)
theorem It.r {α : Type} {m : M L α} {k : α → M L Int} (h : ∀ x,It (k x)) : It (m >>= k) := fun s => h _ _
theorem It.ite {c : Prop} [Decidable c] {a b : M L Int} (ha : It a) (hb : It b) : It (if c then a else b) := by split <;> assumption
theorem It.put {n : Nde} : It (L := L) (put n) := by
 have h : It (L := L) (putM n) := fun s => by
  show (putZ n s).1 < ((putZ n s).2.N.length : Nat)
  unfold putZ
  split
  ·simp only [List.length_append,List.length_singleton]; omega
  ·show (-1 : Int) < _; omega
 exact It.r fun _ => It.ite (It.r fun _ => h) h
theorem It.neg : It (L := L) (pure (-1)) := fun s => by show (-1 : Int) < _; omega
theorem It.keep {α : Type} {f : M L Int} {k : Int → M L α} (hf : It f) : It (f >>= fun a => k a >>= fun _ => pure a) := fun s => by
 rw [run_bind,run_bind]
 have h1 := hf s
 have h2 := ((k (f.run s).1).step (f.run s).2).N.length_le
 show (f.run s).1 < (((k (f.run s).1).run (f.run s).2).2.N.length : Nat)
 omega
theorem it_primary (hx : It ex) : It (primary ex) := by
 unfold primary
 refine It.r fun t => It.ite (It.r fun _ => It.put) (It.ite (It.r fun _ => It.r fun _ => It.ite (It.r fun _ => It.put) It.put) ?_)
 refine It.r fun _ => It.ite (It.keep hx) ?_
 exact It.r fun _ => It.ite (It.r fun _ => It.r fun _ => It.put) (It.r fun _ => It.r fun _ => It.r fun _ => It.r fun _ => It.put)
def Itn (f : Int → M L Int) : Prop := ∀ (a : Int) (s : Z L),a < (s.N.length : Nat) → ((f a).run s).1 < (((f a).run s).2.N.length : Nat)
theorem Itn.pure' : Itn (L := L) fun a => pure a := fun _ _ h => h
theorem It.b {f : M L Int} {k : Int → M L Int} (hf : It f) (hk : Itn k) : It (f >>= k) := fun s => hk _ _ (hf s)
theorem It.n {f : M L Int} (hf : It f) : Itn fun _ => f := fun _ s _ => hf s
theorem Itn.r {α : Type} {m : M L α} {k : Int → α → M L Int} (h : ∀ x,Itn fun a => k a x) : Itn fun a => m >>= k a := fun a s ha => h _ a _ (Int.lt_of_lt_of_le ha (Int.ofNat_le.2 (m.step s).N.length_le))
theorem Itn.ite {c : Prop} [Decidable c] {a b : Int → M L Int} (ha : Itn a) (hb : Itn b) : Itn fun x => if c then a x else b x := by split <;> assumption
theorem it_behindL : ∀ (f : Nat),Itn (behindL ex f)
 | 0 => fun _ s _ => It.neg s
 | f + 1 => by
  show Itn fun a => behindL ex (f + 1) a
  unfold behindL
  refine Itn.r fun z => Itn.ite (Itn.r fun t => Itn.r fun _ => Itn.ite ?_ ?_) (It.n It.neg)
  ·exact fun a s h => It.r (fun b => It.r fun _ => It.b It.put (it_behindL f)) s
  ·refine Itn.r fun _ => Itn.ite (fun a s h => It.r (fun b => It.b It.put (it_behindL f)) s) ?_
   refine Itn.r fun _ => Itn.ite (fun a s h => It.r (fun b => It.b It.put (it_behindL f)) s) ?_
   refine Itn.r fun _ => Itn.ite (fun a s h => It.b It.put (it_behindL f) s) ?_
   exact Itn.r fun _ => Itn.ite (fun a s h => It.b It.put (it_behindL f) s) Itn.pure'
theorem it_unary (hx : It ex) : It (unary ex ux) := by
 unfold unary
 refine It.r fun t => It.r fun r => ?_
 rcases r with _ | ⟨x,y⟩
 ·refine It.r fun _ => It.ite (It.r fun _ => It.r fun _ => It.r fun _ => It.r fun _ => It.put) (It.r fun _ => It.ite (It.r fun _ => It.r fun _ => It.r fun _ => It.r fun _ => It.put) ?_)
  exact It.b (it_primary hx) (Itn.r fun _ => it_behindL _)
 ·exact It.r fun _ => It.put
theorem it_binL {sub : M L Int} {ops : List Str} : ∀ (f : Nat),Itn (binL sub ops f)
 | 0 => Itn.pure'
 | f + 1 => by
  show Itn fun a => binL sub ops (f + 1) a
  unfold binL
  refine Itn.r fun r => ?_
  rcases r with _ | ⟨x,y⟩
  ·exact Itn.pure'
  ·exact fun a s h => It.r (fun b => It.b It.put (it_binL f)) s
theorem it_binary (hx : It ex) : ∀ (j : Nat),It (binary ex ux j)
 | 0 => it_unary hx
 | j + 1 => It.b (it_binary hx j) (Itn.r fun _ => it_binL _)
theorem it_cond (hx : It ex) : It (cond ex cx ux) := It.b (it_binary hx 10) (Itn.r fun _ => Itn.r fun _ => Itn.ite (fun _ s _ => It.r (fun _ => It.r fun _ => It.r fun _ => It.put) s) Itn.pure')
theorem it_assign (hx : It ex) : It (assign ex cx ux) := by
 unfold assign
 refine It.b (it_cond hx) (Itn.r fun r => ?_)
 rcases r with _ | ⟨x,y⟩
 ·exact Itn.pure'
 ·exact fun a s h => It.r (fun b => It.put) s
theorem it_within {f : M L Int} (hf : It f) : It (within f) := fun s => by
 by_cases h : (downZ s).e = 0
 ·simp only [within,if_pos h]; exact hf _
 ·simp only [within,if_neg h]; omega
end
theorem it_lev : ∀ (n : Nat),It (L := L) (lev n).1
 | 0 => It.neg
 | n + 1 => it_assign (it_within (it_lev n))
theorem pg_within {f : M L Int} {s : Z L} (hf : (downZ s).e = 0 → Pg f) (h : ((within f).run s).2.e = 0) : s.at_ < ((within f).run s).2.at_ := by
 obtain ⟨a1,a2,a3,a4,a5,a6⟩ := downZ_ok s
 by_cases hd : (downZ s).e = 0
 ·simp only [within,if_pos hd] at h ⊢
  have := hf hd _ h
  rw [a3] at this
  exact this
 ·simp only [within,if_neg hd] at h ⊢
  exact absurd h hd
theorem down_deep {s : Z L} (hd : 100 ≤ s.deep) : (downZ s).e ≠ 0 := by
 unfold downZ
 rw [if_pos (by omega)]
 exact fail_e (by decide : (6 : Int) ≠ 0) _
end
end Go.Proofs.TR
