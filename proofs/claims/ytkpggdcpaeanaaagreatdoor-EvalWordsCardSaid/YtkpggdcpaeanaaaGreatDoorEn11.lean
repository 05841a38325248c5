/-
 Trees of what a piece of code comes to (Tr); contracts of functions (Ctr); the evaluation of code up to its next cuts (exec).
-/
import Derived.Test.YtkpggdcpaeanaaaGreatDoorEn10
namespace Go.En
open Go.RowKit
inductive Tr (ι : Nat → Type) (ρ : Type) : Type 1 where
 | ret (r : ρ)
 | cut (c : Nat) (x : ι c)
 | ite (b : Bool) (t e : Tr ι ρ)
 | chk (p : Bool) (t : Tr ι ρ)
 | bnd {B : Type} (m : Option B) (k : B → Tr ι ρ)
 | stuck (why : Nat)
section
variable {ι : Nat → Type} {ρ : Type}
def Tr.eval (M : ∀ c,ι c → Option ρ) : Tr ι ρ → Option ρ
 | .ret r => some r
 | .cut c x => M c x
 | .ite b t e => if b = true then t.eval M else e.eval M
 | .chk p t => if p = true then t.eval M else none
 | .bnd m k => m.bind fun x => (k x).eval M
 | .stuck _ => none
def trun (step : ∀ c,ι c → Tr ι ρ) : Nat → ∀ c,ι c → Option ρ
 | 0,_,_ => none
 | n + 1,c,x => (step c x).eval (trun step n)
def Tr.Holds (Kc : ∀ c,ι c → Prop) (Kr : ρ → Prop) : Tr ι ρ → Prop
 | .ret r => Kr r
 | .cut c x => Kc c x
 | .ite b t e => (b = true → t.Holds Kc Kr) ∧ (b = false → e.Holds Kc Kr)
 | .chk p t => p = true ∧ t.Holds Kc Kr
 | .bnd m k => ∃ x,m = some x ∧ (k x).Holds Kc Kr
 | .stuck _ => False
theorem Tr.holds_of_eval {M : ∀ c,ι c → Option ρ} {r : ρ} : ∀ {t : Tr ι ρ},t.eval M = some r → t.Holds (fun c x => M c x = some r) (· = r)
 | .ret r',h => by simp only [Tr.eval,Option.some.injEq] at h; exact h
 | .cut c x,h => h
 | .ite b t e,h => by
  simp only [Tr.eval] at h
  refine ⟨fun hb => ?_,fun hb => ?_⟩
  ·rw [if_pos hb] at h; exact holds_of_eval h
  ·rw [if_neg (by simp [hb])] at h; exact holds_of_eval h
 | .chk p t,h => by
  simp only [Tr.eval] at h
  split at h
  ·rename_i hp; exact ⟨hp,holds_of_eval h⟩
  ·cases h
 | .bnd m k,h => by
  simp only [Tr.eval] at h
  obtain ⟨x,h1,h2⟩ := Option.bind_eq_some_iff.1 h
  exact ⟨x,h1,holds_of_eval h2⟩
 | .stuck _,h => by simp [Tr.eval] at h
theorem Tr.Holds.mono {Kc Kc' : ∀ c,ι c → Prop} {Kr Kr' : ρ → Prop} (hc : ∀ c x,Kc c x → Kc' c x) (hr : ∀ r,Kr r → Kr' r) : ∀ {t : Tr ι ρ},t.Holds Kc Kr → t.Holds Kc' Kr'
 | .ret r',h => hr _ h
 | .cut c x,h => hc c x h
 | .ite b t e,h => ⟨fun hb => mono hc hr (h.1 hb),fun hb => mono hc hr (h.2 hb)⟩
 | .chk p t,h => ⟨h.1,mono hc hr h.2⟩
 | .bnd m k,h => let ⟨x,h1,h2⟩ := h; ⟨x,h1,mono hc hr h2⟩
 | .stuck _,h => h
end
inductive Out (A B : Type) where
 | tot (g : A → B)
 | pre (p : A → Bool) (g : A → B)
 | opt (m : A → Option B)
def Out.gives {A B : Type} : Out A B → A → B → Prop
 | .tot g,x,y => g x = y
 | .pre p g,x,y => p x = true ∧ g x = y
 | .opt m,x,y => m x = some y
def newB (bn : Nat) : List Box → Nat
 | [] => 0
 | b :: r => match Nat.ble (b.i + 1) bn with
  | true => newB bn r
  | false => newB bn r + 1
def rnOf (bn : Nat) (q : Spec) : Nat := bn + newB bn q.bx
theorem rnOf_le (bn : Nat) (q : Spec) : bn ≤ rnOf bn q := Nat.le_add_right _ _
structure Ctr (S : Sig) where
 f : Nat
 bn : Nat
 sp : Spec
 rs : Spec
 flat : Bool
 out : Out (sp.D S) (rs.D S)
structure Cut where
 key : List (List Nat)
 ts : List Nat
 bn : Nat
 sp : Spec
def stepC : Nat → Code → Option Code
 | 0,.seq x _ => some x
 | 1,.seq _ y => some y
 | 0,.cond _ x _ => some x
 | 1,.cond _ _ y => some y
 | 0,.block _ x => some x
 | 0,.loop x => some x
 | 0,.scope x => some x
 | 0,.rangeFunc _ _ x _ => some x
 | 1,.rangeFunc _ _ _ y => some y
 | l + 2,c => findLabel c l
 | _,_ => none
def atA (body : Code) : List Nat → Option Code
 | [] => some body
 | i :: a => match atA body a with
  | some c => stepC i c
  | none => none
inductive AIt where
 | code (a : List Nat) (c : Code)
 | blk (id : Nat)
 | ops (all : Array Oper) (rest : List Oper)
 | again (a : List Nat) (c : Code)
 | sc (a : List Nat) (c : Code)
def AIt.it : AIt → It
 | .code _ c => .code c
 | .blk id => .blk id
 | .ops all r => .ops all r
 | .again _ c => .again c
 | .sc _ c => .sc c
def AIt.ok (body : Code) : AIt → Prop
 | .code a c => atA body a = some c
 | .again a c => atA body a = some c
 | .sc a c => atA body a = some c
 | _ => True
def AIt.key : AIt → List Nat
 | .code a _ => 0 :: a
 | .blk id => [1,id]
 | .again a _ => 2 :: a
 | .sc a _ => 3 :: a
 | .ops _ _ => [4]
def ofKey (body : Code) : List Nat → Option AIt
 | 0 :: a => match atA body a with
  | some c => some (.code a c)
  | none => none
 | [1,id] => some (.blk id)
 | 2 :: a => match atA body a with
  | some c => some (.again a c)
  | none => none
 | 3 :: a => match atA body a with
  | some c => some (.sc a c)
  | none => none
 | _ => none
def ofKeys (body : Code) : List (List Nat) → Option (List AIt)
 | [] => some []
 | x :: r => match ofKey body x with
  | some i => match ofKeys body r with
   | some l => some (i :: l)
   | none => none
  | none => none
def eqL : List Nat → List Nat → Bool
 | [],[] => true
 | x :: r,y :: t => match Nat.beq x y with
  | true => eqL r t
  | false => false
 | _,_ => false
def eqK : List AIt → List (List Nat) → Bool
 | [],[] => true
 | x :: r,y :: t => match eqL x.key y with
  | true => eqK r t
  | false => false
 | _,_ => false
def exitA (id : Nat) : List AIt → Option (List AIt)
 | [] => none
 | .blk id' :: k => match Nat.beq id id' with
  | true => some k
  | false => exitA id k
 | .code _ _ :: k => exitA id k
 | .ops _ _ :: k => exitA id k
 | .again _ _ :: k => exitA id k
 | .sc _ _ :: k => exitA id k
def gotoA (l : Nat) : List AIt → Option (List AIt)
 | [] => none
 | .sc a c :: k => match findLabel c l with
  | some rest => some (.code ((l + 2) :: a) rest :: .sc a c :: k)
  | none => gotoA l k
 | .code _ _ :: k => gotoA l k
 | .ops _ _ :: k => gotoA l k
 | .again _ _ :: k => gotoA l k
 | .blk _ :: k => gotoA l k
structure Draw where
 pre : List (Nat × Bool)
 suf : List Nat
 ms : List Nat
 fz : Bool
structure Inl where
 body : Code
 sz : Nat
 res : List ResultVar
 dr : List (Nat × Draw)
structure Fr where
 main : Bool
 dr : List (Nat × Draw)
structure Env (S : Sig) where
 inl : List (Nat × Inl)
 tb : List (Nat × TI)
 ct : List (Ctr S)
 cuts : List (Nat × Cut)
 bn : Nat
 res : List ResultVar
 rs : Spec
 sz : Nat
 dr : List (Nat × Draw)
 body : Code
section
variable {S : Sig}
def cutT (cuts : List (Nat × Cut)) (c : Nat) : Type := match lk cuts c with
 | some q => q.sp.D S
 | none => Empty
def Env.ι (E : Env S) (c : Nat) : Type := cutT (S := S) E.cuts c
def Env.ρ (E : Env S) : Type := E.rs.D S
def mkCut (E : Env S) (c : Nat) (q : Cut) (h : lk E.cuts c = some q) (x : q.sp.D S) : E.ι c := by
 unfold Env.ι cutT; rw [h]; exact x
def renN (bn : Nat) (m : List (Nat × Nat)) (n0 : Nat) (i : Nat) : Nat := match Nat.ble (i + 1) bn with
 | true => match lk m i with
  | some j => j
  | none => 0
 | false => n0 + (i - bn)
mutual
def SV.ren (r : Nat → Nat) : SV → SV
 | .v x => .v x
 | .b c => .b c
 | .ptr i off => .ptr (r i) off
 | .row i n => .row (r i) n
 | .tr i => .tr (r i)
 | .ep i z e off => .ep (r i) z e off
 | .view i off len cap => .view (r i) off len cap
 | .mref i => .mref (r i)
 | .mk i e => .mk (r i) e
 | .hm i => .hm (r i)
 | .h i => .h (r i)
 | .vp i off => .vp (r i) off
 | .ap i n e off => .ap (r i) n e off
 | .pr i z e off => .pr (r i) z e off
 | .pp i z e off y j q => .pp (r i) z e off y j q
 | .agg cs => .agg (renL r cs)
 | .tup cs => .tup (renL r cs)
 | .fn f cs => .fn f (renL r cs)
def renL (r : Nat → Nat) : List SV → List SV
 | [] => []
 | x :: t => x.ren r :: renL r t
end
def Own.ren (r : Nat → Nat) : Own S → Own S
 | .blk T cs => .blk T (renL r cs)
 | .row T z n cs => .row T z n (renL r cs)
 | .vu cs => .vu (renL r cs)
 | .tr τ E l => .tr τ E l
 | .sl τ l => .sl τ l
 | .obj p => .obj p
 | .any => .any
 | .dp τ E l => .dp τ E l
 | .mp κ τ ag l => .mp κ τ ag l
 | .mr κ τ ag E l => .mr κ τ ag E l
def renO (r : Nat → Nat) : List (Nat × Own S) → List (Nat × Own S)
 | [] => []
 | (i,b) :: t => (r i,b.ren r) :: renO r t
def idm : Nat → List (Nat × Nat)
 | 0 => []
 | n + 1 => (n,n) :: idm n
def resSV : List SV → SV
 | [x] => x
 | l => .tup l
def callee (s : St S) : Op → Option (Nat × List SV)
 | .call ⟨.value f,⟨args⟩,_⟩ => match ev s f with
  | some (.fn g caps) => match evAll s args with
   | some l => match Nat.ble 1000000 g with
    | true => some (g - 1000000,caps ++ l)
    | false => some (g,l ++ caps)
   | none => none
  | some (.v (.func (.func g) ⟨[]⟩ ⟨caps⟩)) => match evAll s args with
   | some l => some (g,l ++ caps.map .v)
   | none => none
  | _ => none
 | _ => none
def tryC {α : Type 1} (f : Nat) (args : List SV) (o : List (Nat × Own S)) (k : (c : Ctr S) → c.sp.D S → PS S → α) (fail : α) : List (Ctr S) → α
 | [] => fail
 | c :: r => match Nat.beq c.f f with
  | true => match c.sp.parse c.flat args o [] c.bn with
   | some (x,ps) => k c x ps
   | none => tryC f args o k fail r
  | false => tryC f args o k fail r
def nth {α : Type} : List α → Nat → Option α
 | [],_ => none
 | x :: _,0 => some x
 | _ :: r,n + 1 => nth r n
theorem nth_eq {α : Type} : ∀ (l : List α) (n : Nat),nth l n = l[n]?
 | [],_ => by simp [nth]
 | _ :: _,0 => by simp [nth]
 | _ :: r,n + 1 => by simp [nth,nth_eq r n]
inductive Wn where
 | yes
 | no
 | split (d : Nat) (c : Bool)
 | unk
def wants (s : St S) (all : Array Oper) (o : Oper) : Wn :=
 match o.guard with
 | none => .yes
 | some (j,want) => match nth all.toList j with
  | some q => match q.dst with
   | some d => match lk s.t d with
    | some (.v (.bool true)) => match want with
     | true => .yes
     | false => .no
    | some (.v (.bool false)) => match want with
     | true => .no
     | false => .yes
    | some (.v (.tuple ⟨[]⟩)) => .no
    | some (.b c) => .split d c
    | _ => .unk
   | none => .unk
  | none => .unk
def resL (tb : List (Nat × TI)) (s : St S) : List ResultVar → Option (List SV)
 | [] => some []
 | .tmp t :: r => match lk s.t t with
  | some x => match resL tb s r with
   | some l => some (x :: l)
   | none => none
  | none => none
 | .cell t T :: r => match evLoad tb s T (.tmp t) with
  | .val none x => match resL tb s r with
   | some l => some (x :: l)
   | none => none
  | _ => none
def evTmps (s : St S) : List Nat → Option (List SV)
 | [] => some []
 | t :: r => match lk s.t t with
  | some x => match evTmps s r with
   | some l => some (x :: l)
   | none => none
  | none => none
def chkO {ι : Nat → Type} {ρ : Type} (c : Option Bool) (t : Tr ι ρ) : Tr ι ρ := match c with
 | none => t
 | some b => .chk b t
def valsM (m : List (Nat × Nat)) : Nat → Option (List Nat)
 | 0 => some []
 | i + 1 => match lk m i with
  | some j => match valsM m i with
   | some l => some (j :: l)
   | none => none
  | none => none
def allLt (n : Nat) : List Nat → Bool
 | [] => true
 | j :: r => match Nat.ble (j + 1) n with
  | true => allLt n r
  | false => false
def okM (m : List (Nat × Nat)) (bn n : Nat) : Bool := match valsM m bn with
 | some l => allLt n l
 | none => false
def fN {α : Type 1} (n : Nat) (k : Nat → α) : α := match n with
 | 0 => k 0
 | m + 1 => k (m + 1)
theorem fN_eq {α : Type 1} (n : Nat) (k : Nat → α) : fN n k = k n := by cases n <;> rfl
def SV.fc {α : Type 1} : SV → (SV → α) → α
 | .v x,k => k (.v x)
 | .b c,k => k (.b c)
 | .ptr i off,k => fN i fun i => k (.ptr i off)
 | .row i n,k => fN i fun i => k (.row i n)
 | .tr i,k => fN i fun i => k (.tr i)
 | .ep i z e off,k => fN i fun i => k (.ep i z e off)
 | .view i off len cap,k => fN i fun i => k (.view i off len cap)
 | .mref i,k => fN i fun i => k (.mref i)
 | .h i,k => fN i fun i => k (.h i)
 | .vp i off,k => fN i fun i => k (.vp i off)
 | .ap i n e off,k => fN i fun i => k (.ap i n e off)
 | .pr i z e off,k => fN i fun i => k (.pr i z e off)
 | .pp i z e off y j q,k => fN i fun i => k (.pp i z e off y j q)
 | .agg cs,k => k (.agg cs)
 | .tup cs,k => k (.tup cs)
 | .fn f cs,k => k (.fn f cs)
 | .mk i e,k => fN i fun i => k (.mk i e)
 | .hm i,k => fN i fun i => k (.hm i)
theorem SV.fc_eq {α : Type 1} (x : SV) (k : SV → α) : x.fc k = k x := by cases x <;> simp only [SV.fc,fN_eq]
def fcL {α : Type 1} : List SV → (List SV → α) → α
 | [],k => k []
 | x :: r,k => x.fc fun x => fcL r fun r => k (x :: r)
theorem fcL_eq {α : Type 1} : ∀ (l : List SV) (k : List SV → α),fcL l k = k l
 | [],_ => rfl
 | x :: r,k => by simp only [fcL,SV.fc_eq x,fcL_eq r]
def Own.fc {α : Type 1} : Own S → (Own S → α) → α
 | .blk T cs,k => fcL cs fun cs => k (.blk T cs)
 | .row T z n cs,k => fcL cs fun cs => k (.row T z n cs)
 | .vu cs,k => fcL cs fun cs => k (.vu cs)
 | .tr τ E l,k => k (.tr τ E l)
 | .sl τ l,k => k (.sl τ l)
 | .obj p,k => k (.obj p)
 | .any,k => k .any
 | .dp τ E l,k => k (.dp τ E l)
 | .mp κ τ ag l,k => k (.mp κ τ ag l)
 | .mr κ τ ag E l,k => k (.mr κ τ ag E l)
theorem Own.fc_eq {α : Type 1} (b : Own S) (k : Own S → α) : b.fc k = k b := by cases b <;> simp only [Own.fc,fcL_eq]
def fcO {α : Type 1} : List (Nat × Own S) → (List (Nat × Own S) → α) → α
 | [],k => k []
 | (i,b) :: r,k => fN i fun i => b.fc fun b => fcO r fun r => k ((i,b) :: r)
theorem fcO_eq {α : Type 1} : ∀ (l : List (Nat × Own S)) (k : List (Nat × Own S) → α),fcO l k = k l
 | [],_ => rfl
 | (i,b) :: r,k => by simp only [fcO,fN_eq,Own.fc_eq b,fcO_eq r]
def fcT {α : Type 1} : List (Nat × SV) → (List (Nat × SV) → α) → α
 | [],k => k []
 | (i,x) :: r,k => fN i fun i => x.fc fun x => fcT r fun r => k ((i,x) :: r)
theorem fcT_eq {α : Type 1} : ∀ (l : List (Nat × SV)) (k : List (Nat × SV) → α),fcT l k = k l
 | [],_ => rfl
 | (i,x) :: r,k => by simp only [fcT,fN_eq,SV.fc_eq x,fcT_eq r]
def fcN {α : Type 1} : List Nat → (List Nat → α) → α
 | [],k => k []
 | i :: r,k => fN i fun i => fcN r fun r => k (i :: r)
theorem fcN_eq {α : Type 1} : ∀ (l : List Nat) (k : List Nat → α),fcN l k = k l
 | [],_ => rfl
 | i :: r,k => by simp only [fcN,fN_eq,fcN_eq r]
def St.fc {α : Type 1} (s : St S) (k : St S → α) : α := fcT s.t fun t => fcO s.o fun o => fN s.n fun n => k ⟨t,o,n,s.sz⟩
theorem St.fc_eq {α : Type 1} (s : St S) (k : St S → α) : s.fc k = k s := by
 unfold St.fc; rw [fcT_eq,fcO_eq,fN_eq]
def contC {α : Type 1} (s : St S) (c : Ctr S) (ps : PS S) (dst : Option Tmp) (y : c.rs.D S) (k : St S → α) (fail : α) : α :=
 match okM ps.m c.bn s.n with
 | true => match c.rs.enc y (rnOf c.bn c.rs) with
  | (rs',o',n') => match St.put { s with o := renO (renN c.bn ps.m s.n) o' ++ ps.o,n := s.n + (n' - c.bn) } dst (resSV (renL (renN c.bn ps.m s.n) rs')) with
  | some s' => s'.fc k
  | none => fail
 | false => fail
mutual
def SV.frz (j n : Nat) : SV → SV
 | .tr i => match Nat.beq i j with
  | true => .h n
  | false => .tr i
 | .agg cs => .agg (frzS j n cs)
 | .tup cs => .tup (frzS j n cs)
 | .v x => .v x
 | .b c => .b c
 | .ptr i off => .ptr i off
 | .row i m => .row i m
 | .ep i z e off => .ep i z e off
 | .view i off len cap => .view i off len cap
 | .mref i => .mref i
 | .mk i e => .mk i e
 | .hm i => .hm i
 | .h i => .h i
 | .vp i off => .vp i off
 | .ap i m e off => .ap i m e off
 | .pr i z e off => .pr i z e off
 | .pp i z e off y j q => .pp i z e off y j q
 | .fn f cs => .fn f cs
def frzS (j n : Nat) : List SV → List SV
 | [] => []
 | x :: r => x.frz j n :: frzS j n r
end
def frzT (j n : Nat) : List (Nat × SV) → List (Nat × SV)
 | [] => []
 | (t,x) :: r => (t,x.frz j n) :: frzT j n r
def Own.frz (j n : Nat) : Own S → Own S
 | .blk T cs => .blk T (frzS j n cs)
 | b => b
def frzO (j n : Nat) : List (Nat × Own S) → List (Nat × Own S)
 | [] => []
 | (i,b) :: r => (i,b.frz j n) :: frzO j n r
def St.frz (s : St S) (j : Nat) : St S := match lk s.o j with
 | some (.tr τ _ l) => ⟨frzT j s.n s.t,(s.n,.sl τ l) :: frzO j s.n (rm s.o j),s.n + 1,s.sz⟩
 | _ => s
def frzL : St S → List Nat → St S
 | s,[] => s
 | s,j :: r => frzL (s.frz j) r
def trs1 : List SV → List Nat
 | [] => []
 | .tr j :: r => j :: trs1 r
 | _ :: r => trs1 r
def trsL : List SV → List Nat
 | [] => []
 | .tr j :: r => j :: trsL r
 | .agg cs :: r => trs1 cs ++ trsL r
 | _ :: r => trsL r
def trsA : List SV → List Nat
 | [] => []
 | .agg cs :: r => trs1 cs ++ trsA r
 | _ :: r => trsA r
def trsT : List (Nat × SV) → List Nat
 | [] => []
 | (_,.tr j) :: r => j :: trsT r
 | _ :: r => trsT r
def trsO (tb : List (Nat × TI)) : List (Nat × Own S) → List Nat
 | [] => []
 | (_,.blk T cs) :: r => match trs1 cs with
  | [] => trsO tb r
  | l => match lk tb T with
   | some t => match t.τ,t.d with
    | some _,.struct _ => l ++ trsO tb r
    | _,_ => trsO tb r
   | none => trsO tb r
 | _ :: r => trsO tb r
def trsF (tb : List (Nat × TI)) (s : St S) (q : Draw) : List Nat := match memB 9000000 q.suf with
 | true => trsO tb s.o ++ trsT s.t
 | false => trsO tb s.o
def toCut1 (E : Env S) (c : Nat) (k : List AIt) (s : St S) (L : List Nat) (fail : Tr E.ι E.ρ) : Tr E.ι E.ρ :=
 match h : lk E.cuts c with
 | some q => match eqK k q.key with
  | true => match evTmps (frzL s L) q.ts with
   | some vs' => match q.sp.parse true vs' (frzL s L).o (idm E.bn) q.bn with
    | some (x,_) => .cut c (mkCut E c q h x)
    | none => fail
   | none => fail
  | false => .stuck (3000 + c)
 | none => .stuck 1
def toCut0 (E : Env S) (c : Nat) (k : List AIt) (s : St S) : Tr E.ι E.ρ :=
 match lk E.cuts c with
 | some q => match evTmps s q.ts with
  | some vs => toCut1 E c k s [] (toCut1 E c k s (trsA vs) (toCut1 E c k s (trsA vs ++ trsO E.tb s.o) (.stuck (1000 + c))))
  | none => .stuck (2000 + c)
 | none => .stuck 1
def toCut (E : Env S) (c : Nat) (k : List AIt) (s : St S) : Tr E.ι E.ρ :=
 match lk E.cuts c with
 | some q => match eqK k q.key with
  | true => toCut0 E c k s
  | false => toCut0 E (c + 100000) k s
 | none => .stuck 1
def isCut (E : Env S) (c : Nat) : Bool := match lk E.cuts c with
 | some _ => true
 | none => false
def toRet1 (E : Env S) (s : St S) (L : List Nat) (fail : Tr E.ι E.ρ) : Tr E.ι E.ρ :=
 match resL E.tb (frzL s L) E.res with
 | some vs' => match E.rs.parse true vs' (frzL s L).o (idm E.bn) (rnOf E.bn E.rs) with
  | some (y,_) => .ret y
  | none => fail
 | none => fail
def toRet (E : Env S) (s : St S) : Tr E.ι E.ρ :=
 match resL E.tb s E.res with
 | some vs => toRet1 E s [] (toRet1 E s (trsA vs) (toRet1 E s (trsA vs ++ trsO E.tb s.o) (.stuck 2)))
 | none => .stuck 3
def rowTrs (tb : List (Nat × TI)) : Own S → List Nat
 | .row E _ _ cs => match lk tb E with
  | some t => match t.τ with
   | some _ => trs1 cs
   | none => []
  | none => []
 | _ => []
def tmpsOf : List Operand → List Nat
 | [] => []
 | .tmp t :: r => t :: tmpsOf r
 | _ :: r => tmpsOf r
def sndL : List (Nat × Operand) → List Operand
 | [] => []
 | x :: r => x.2 :: sndL r
def opL : Option Operand → List Operand
 | none => []
 | some x => [x]
def opnds : Op → List Operand
 | .move x => [x]
 | .assign x => [x]
 | .box _ x => [x]
 | .load _ x => [x]
 | .store _ x y => [x,y]
 | .nilCheck x => [x]
 | .unOp _ _ x => [x]
 | .convert _ _ x => [x]
 | .fieldAddr _ x _ => [x]
 | .field _ x _ => [x]
 | .extract x _ => [x]
 | .pick c x y => [c,x,y]
 | .binOp _ _ x y _ => [x,y]
 | .indexAddr _ x y => [x,y]
 | .index _ x y => [x,y]
 | .lookup _ x y _ => [x,y]
 | .build _ ⟨ps⟩ => sndL ps
 | .buildSlice _ _ ⟨ps⟩ => sndL ps
 | .makeFunc _ _ ⟨c⟩ => c
 | .slice _ x l h _ => x :: (opL l ++ opL h)
 | .call ⟨.value f,⟨args⟩,_⟩ => f :: args
 | .call ⟨_,⟨args⟩,_⟩ => args
 | .makeSlice _ x y => [x,y]
 | .makeMap _ x => opL x
 | .mapUpdate _ x y z => [x,y,z]
 | .insert _ x y z => [x,y,z]
 | _ => []
def gslot (all : Array Oper) (o : Oper) : List Nat :=
 match o.guard with
 | none => []
 | some (j,_) => match nth all.toList j with
  | some q => match q.dst with
   | some d => [d]
   | none => []
  | none => []
def slots (all : Array Oper) (o : Oper) : List Nat := gslot all o ++ tmpsOf (opnds o.op)
structure Rec (S : Sig) where
 i : Nat
 o : Oper
 pu : Bool
 o1 : List (Nat × Own S)
 n1 : Nat
 n2 : Nat
 x : SV
 cn : List Nat
 gb : List (Nat × Own S)
 tk : Bool
def pick {α : Type} : List Nat → List (Nat × α) → List (Nat × α)
 | [],_ => []
 | u :: r,t => match lk t u with
  | some x => (u,x) :: pick r t
  | none => pick r t
def putAll : List (Nat × SV) → List (Rec S) → List (Nat × SV)
 | t,[] => t
 | t,r :: rs => match r.o.dst with
  | none => putAll t rs
  | some d => putAll (pt t d r.x) rs
def rmN : List Nat → List (Nat × Own S) → List (Nat × Own S)
 | [],o => o
 | j :: c,o => rm (rmN c o) j
def isTr : Own S → Bool
 | .tr _ _ _ => true
 | .mp _ _ _ _ => true
 | .mr _ _ _ _ _ => true
 | .dp _ _ _ => true
 | _ => false
def isTr0 : Own S → Bool
 | .tr _ _ _ => true
 | _ => false
def callB : Op → Bool
 | .call _ => true
 | .makeMap _ _ => true
 | _ => false
def trAt (u : Nat) (o : List (Nat × Own S)) : Bool := match lk o u with
 | some b => isTr b
 | none => false
def newTr (u : Nat) : List (Rec S) → Bool
 | [] => false
 | r :: rs => match callB r.o.op with
  | true => match trAt u r.o1 with
   | true => true
   | false => newTr u rs
  | false => newTr u rs
def dropKO (f : Nat → Bool) : List (Nat × Own S) → List (Nat × Own S)
 | [] => []
 | (i,b) :: r => match f i with
  | true => dropKO f r
  | false => (i,b) :: dropKO f r
def showO (fl : Bool) (hid : List Nat) (rs : List (Rec S)) (o : List (Nat × Own S)) : List (Nat × Own S) := match fl with
 | true => rmN hid (dropKO (fun u => newTr u rs) o)
 | false => o
def oC (L : Nat → Bool) (o : List (Nat × Own S)) : List (Rec S) → List (Nat × Own S)
 | [] => o
 | r :: rs => match L r.i with
  | true => oC L (r.gb ++ (r.o1 ++ rmN r.cn o)) rs
  | false => oC L o rs
def nxt : Nat → List (Rec S) → Nat
 | n,[] => n
 | _,r :: rs => nxt r.n2 rs
def bitB (m i : Nat) : Bool := Nat.beq (Nat.land 1 (Nat.shiftRight m i)) 1
def ancM (ms : List Nat) (j i : Nat) : Bool := match nth ms j with
 | some m => bitB m i
 | none => false
def behind (s : St S) (rs : List (Rec S)) : St S := ⟨putAll s.t rs,oC (fun _ => true) s.o rs,nxt s.n rs,s.sz⟩
def seenAt (fl : Bool) (hid : List Nat) (s : St S) (all : Array Oper) (ms : List Nat) (rs : List (Rec S)) (i : Nat) (o : Oper) (pu : Bool) : St S :=
 ⟨pick (slots all o) (putAll s.t rs),match pu with | true => [] | false => showO fl hid rs (oC (ancM ms i) s.o rs),nxt s.n rs,s.sz⟩
def isG : List Oper → Nat → Bool
 | [],_ => false
 | o :: r,i => match o.guard with
  | some (j,_) => match Nat.beq j i with
   | true => true
   | false => isG r i
  | none => isG r i
def dstOk (d : Option Tmp) (sz : Nat) : Bool := match d with
 | none => true
 | some d => Nat.ble (d + 1) sz
def inRange (n1 n2 : Nat) : List (Nat × Own S) → Bool
 | [] => Nat.ble n1 n2
 | (i,_) :: r => match Nat.ble n1 i,Nat.ble (i + 1) n2 with
  | true,true => inRange n1 n2 r
  | _,_ => false
def lightP : List Pat → Bool
 | [] => true
 | .fd _ :: r => lightP r
 | .st _ :: r => lightP r
 | .fn _ [] :: r => lightP r
 | _ :: _ => false
def Spec.light (q : Spec) : Bool := match q.bx with
 | [] => lightP q.as
 | _ :: _ => false
def Rec.fc {α : Type 1} (r : Rec S) (k : Rec S → α) : α := fcO r.o1 fun o1 => fN r.n1 fun n1 => fN r.n2 fun n2 => r.x.fc fun x => fcN r.cn fun cn => fcO r.gb fun gb => k ⟨r.i,r.o,r.pu,o1,n1,n2,x,cn,gb,r.tk⟩
theorem Rec.fc_eq {α : Type 1} (r : Rec S) (k : Rec S → α) : r.fc k = k r := by
 unfold Rec.fc; rw [fcO_eq,fN_eq,fN_eq,SV.fc_eq,fcN_eq,fcO_eq]
def addR0 {ι : Nat → Type} {ρ : Type} (all : Array Oper) (k : Rec S → Tr ι ρ) (r : Rec S) : Tr ι ρ :=
 match r.x with
 | .b c => match isG all.toList r.i with
  | true => .ite c (k { r with x := .v (.bool true) }) (k { r with x := .v (.bool false) })
  | false => k r
 | _ => k r
def addR {ι : Nat → Type} {ρ : Type} (all : Array Oper) (r : Rec S) (k : Rec S → Tr ι ρ) : Tr ι ρ := r.fc (addR0 all k)
def recC {ι : Nat → Type} {ρ : Type} (st : St S) (i : Nat) (o : Oper) (c : Ctr S) (ps : PS S) (y : c.rs.D S) (k : Rec S → Tr ι ρ) : Tr ι ρ :=
 match c.rs.enc y (rnOf c.bn c.rs) with
 | (rs',o',n') => match inRange st.n (st.n + (n' - c.bn)) (renO (renN c.bn ps.m st.n) o') with
  | true => k ⟨i,o,false,renO (renN c.bn ps.m st.n) o',st.n,st.n + (n' - c.bn),resSV (renL (renN c.bn ps.m st.n) rs'),[],[],false⟩
  | false => .stuck 46
def pureSl {ι : Nat → Type} {ρ : Type} (tb : List (Nat × TI)) (st : St S) (i : Nat) (o : Oper) (fail : Tr ι ρ) (k : Rec S → Tr ι ρ) : Tr ι ρ := match o.op with
 | .slice T x lo hi none => match ev st x with
  | some (.h _) => match evSlice tb st T x lo hi with
   | .nm c o1 n' v => match inRange st.n n' o1 with
    | true => chkO c (k ⟨i,o,true,o1,st.n,n',v,[],[],false⟩)
    | false => fail
   | _ => fail
  | _ => fail
 | _ => fail
inductive Zo (S : Sig) where
 | b0 (e : Nat)
 | a0 (j : Nat) (b : Bool) (c : Option Bool) (o1 : List (Nat × Own S)) (n' : Nat) (v : SV)
 | no
def zeroOf (tb : List (Nat × TI)) (pu : Bool) (all : List Oper) (st : St S) (o : Oper) : Zo S := match pu with
 | true => .no
 | false => match isB0 tb all o with
  | some e => .b0 e
  | none => match app0 tb st o.op with
   | some (j,b,.nm c o1 n' v) => .a0 j b c o1 n' v
   | _ => .no
theorem zeroOf_b0 {tb : List (Nat × TI)} {pu : Bool} {all : List Oper} {st : St S} {o : Oper} {e : Nat} (h : zeroOf tb pu all st o = .b0 e) : pu = false ∧ isB0 tb all o = some e := by
 unfold zeroOf at h
 split at h
 ·cases h
 ·split at h
  ·rename_i he; cases h; exact ⟨rfl,he⟩
  ·split at h <;> cases h
theorem zeroOf_a0 {tb : List (Nat × TI)} {pu : Bool} {all : List Oper} {st : St S} {o : Oper} {j : Nat} {b : Bool} {c : Option Bool} {o1 : List (Nat × Own S)} {n' : Nat} {v : SV} (h : zeroOf tb pu all st o = .a0 j b c o1 n' v) : pu = false ∧ app0 tb st o.op = some (j,b,.nm c o1 n' v) := by
 unfold zeroOf at h
 split at h
 ·cases h
 ·split at h
  ·cases h
  ·split at h
   ·rename_i he; cases h; exact ⟨rfl,he⟩
   ·cases h
def madeB0 (t : Nat) : List Oper → Bool
 | [] => false
 | o :: r => match o.op,o.dst with
  | .buildSlice _ 0 _,some d => match Nat.beq d t with
   | true => true
   | false => madeB0 t r
  | _,_ => madeB0 t r
def fullAt (s : St S) (all : Array Oper) (ms : List Nat) (rs : List (Rec S)) (i : Nat) (o : Oper) : St S :=
 ⟨pick (slots all o) (putAll s.t rs),oC (ancM ms i) s.o rs,nxt s.n rs,s.sz⟩
def keysB (f : Nat → Bool) : List (Nat × Own S) → Bool
 | [] => true
 | (i,_) :: r => match f i with
  | true => keysB f r
  | false => false
def natsB (f : Nat → Bool) : List Nat → Bool
 | [] => true
 | i :: r => match f i with
  | true => natsB f r
  | false => false
def nonE : List Nat → Bool
 | [] => false
 | _ :: _ => true
def befB (own : Bool) (ms : List Nat) (i : Nat) : List (Rec S) → Bool
 | [] => true
 | r :: rs => match nonE r.cn || (own && r.tk) with
  | false => befB own ms i rs
  | true => match ancM ms i r.i with
   | true => befB own ms i rs
   | false => false
def takeB (m : Nat) (hid : List Nat) (ms : List Nat) (i n : Nat) (rs : List (Rec S)) (cn : List Nat) (gb : List (Nat × Own S)) : Bool :=
 natsB (fun j => (memB j hid || newTr j rs) && Nat.ble (j + 1) n) cn && keysB (fun j => memB j cn && Nat.ble (j + 1) m) gb && befB (nonE cn) ms i rs
def con1 (m : Nat) (hid : List Nat) (n : Nat) (ms : List Nat) (i : Nat) (rs : List (Rec S)) (cn : List Nat) (c : Option Bool) (ow : Own S) : Option (List Nat × Option Bool × Own S) := match takeB m hid ms i n rs cn [] with
 | true => some (cn,c,ow)
 | false => none
def conOf (m : Nat) (fl : Bool) (hid : List Nat) (tb : List (Nat × TI)) (st : St S) (ms : List Nat) (i : Nat) (rs : List (Rec S)) (pu : Bool) (op : Op) : Option (List Nat × Option Bool × Own S) :=
 match fl,pu with
 | true,false => match op with
  | .call ⟨.builtin .append,⟨[x,y]⟩,⟨[T,T']⟩⟩ => match Nat.beq T' T,ev st x with
   | true,some (.tr j) => match appX tb st T x y with
    | .x c ((_,ow) :: _) _ _ => con1 m hid st.n ms i rs [j] c ow
    | _ => match tdOf tb T,ev st y,lk st.o j with
     | some (.slice e _),some (.row k 1),some (.mr κ τ ag E ls) => match lk tb e,lk st.o k with
      | some te,some (.row E'' 1 1 [.mref u]) => match lk st.o u,Nat.beq j u,Nat.beq E'' e with
       | some (.mp κ' τ' ag' l),false,true => match Nat.beq te.sz 1,Nat.beq E e,sameB ag' ag,Nat.decEq τ' τ,fdEq κ' κ with
        | true,true,true,.isTrue h,some ⟨h'⟩ => con1 m hid st.n ms i rs [j,u] (some (room te.bs (ls.length + 1))) (.mr κ τ ag E (ls ++ [(h ▸ h' ▸ l : List (κ.T S.T × S.T τ))]))
        | _,_,_,_,_ => none
       | _,_,_ => none
      | _,_ => none
     | _,_,_ => none
   | _,_ => none
  | .buildSlice T n ⟨[(0,x)]⟩ => match Nat.beq n 1,ev st x with
   | true,some (.mref j) => match mkMR tb st T 1 [(0,x)] with
    | .x c ((_,ow) :: _) _ _ => con1 m hid st.n ms i rs [j] c ow
    | _ => none
   | _,_ => none
  | .slice T x none hi none => match tdOf tb T,ev st x with
   | some (.slice _ _),some (.tr j) => match lk st.o j with
    | some (.mr κ τ ag E ls) => match bnd st ls.length hi with
     | some h => con1 m hid st.n ms i rs [j] (some (decide (0 ≤ h ∧ h ≤ ls.length))) (.mr κ τ ag E (ls.take h.toNat))
     | none => none
    | _ => none
   | _,_ => none
  | _ => none
 | _,_ => none
def stoOf (m : Nat) (fl : Bool) (hid : List Nat) (tb : List (Nat × TI)) (st : St S) (ms : List Nat) (i : Nat) (rs : List (Rec S)) (pu : Bool) (op : Op) : Option (Nat × Own S) :=
 match fl,pu with
 | true,false => match op with
  | .store T x y => match ev st x with
   | some (.ptr j _) => match memB j hid,lk st.o j with
    | true,some (.blk _ _) => match evStore tb st T x y with
     | .upd none j' b => match Nat.beq j' j,takeB m hid ms i st.n rs [j] [(j,b)] with
      | true,true => some (j,b)
      | _,_ => none
     | _ => none
    | _,_ => none
   | _ => none
  | _ => none
 | _,_ => none
def goneL (o' : List (Nat × Own S)) : List (Nat × Own S) → List Nat
 | [] => []
 | (i,_) :: r => match lk o' i with
  | some _ => goneL o' r
  | none => i :: goneL o' r
def belowO (n : Nat) : List (Nat × Own S) → List (Nat × Own S)
 | [] => []
 | (i,b) :: r => match Nat.ble (i + 1) n with
  | true => (i,b) :: belowO n r
  | false => belowO n r
def aboveO (n : Nat) : List (Nat × Own S) → List (Nat × Own S)
 | [] => []
 | (i,b) :: r => match Nat.ble (i + 1) n with
  | true => aboveO n r
  | false => (i,b) :: aboveO n r
def inO (o : List (Nat × Own S)) (j : Nat) : Bool := match lk o j with
 | some _ => true
 | none => false
def okMo (m : List (Nat × Nat)) (bn : Nat) (o : List (Nat × Own S)) : Bool := match valsM m bn with
 | some l => natsB (inO o) l
 | none => false
def samePs : List SV → List SV → Bool
 | [],[] => true
 | .ptr i k :: r,.ptr i' k' :: r' => match Nat.beq i i',Nat.beq k k' with
  | true,true => samePs r r'
  | _,_ => false
 | _,_ => false
def sameO : Own S → Own S → Bool
 | .blk T cs,.blk T' cs' => match Nat.beq T T' with
  | true => samePs cs cs'
  | false => false
 | _,_ => false
def keptB (o g : List (Nat × Own S)) (u : Nat) : Bool := match lk g u,lk o u with
 | some b,some b' => sameO b b'
 | _,_ => false
def dropKN (f : Nat → Bool) : List Nat → List Nat
 | [] => []
 | i :: r => match f i with
  | true => dropKN f r
  | false => i :: dropKN f r
def goneK (po o g : List (Nat × Own S)) : List Nat := dropKN (keptB o g) (goneL po o)
def giveK (o g : List (Nat × Own S)) : List (Nat × Own S) := dropKO (keptB o g) g
def takeC {ι : Nat → Type} {ρ : Type} (m : Nat) (hid : List Nat) (ms : List Nat) (rs : List (Rec S)) (st : St S) (i : Nat) (o : Oper) (c : Ctr S) (ps : PS S) (y : c.rs.D S) (k : Rec S → Tr ι ρ) : Tr ι ρ :=
 match c.rs.enc y (rnOf c.bn c.rs) with
 | (rs',o',n') => match okMo ps.m c.bn st.o,inRange st.n (st.n + (n' - c.bn)) (aboveO st.n (renO (renN c.bn ps.m st.n) o')),takeB m hid ms i st.n rs (goneK ps.o st.o (belowO st.n (renO (renN c.bn ps.m st.n) o'))) (giveK st.o (belowO st.n (renO (renN c.bn ps.m st.n) o'))) with
  | true,true,true => k ⟨i,o,false,aboveO st.n (renO (renN c.bn ps.m st.n) o'),st.n,st.n + (n' - c.bn),resSV (renL (renN c.bn ps.m st.n) rs'),goneK ps.o st.o (belowO st.n (renO (renN c.bn ps.m st.n) o')),giveK st.o (belowO st.n (renO (renN c.bn ps.m st.n) o')),true⟩
  | _,_,_ => .stuck 55
def stSame : SV → SV → Bool
 | .ptr a b,.ptr a' b' => match Nat.beq a a',Nat.beq b b' with
  | true,true => true
  | _,_ => false
 | .mref a,.mref a' => Nat.beq a a'
 | _,_ => false
def ldSt (r : R S) (x : SV) : Bool := match r with
 | .val none y => stSame x y
 | _ => false
def goodB (tb : List (Nat × TI)) (T off : Nat) (x : SV) : Own S → Bool
 | .blk _ cs => match lk tb T with
  | some t => ldSt (S := S) (ld t cs off) x
  | none => false
 | _ => false
def stabR (tb : List (Nat × TI)) (T off : Nat) (x : SV) (j : Nat) : List (Rec S) → Bool
 | [] => true
 | r :: rs => match memB j r.cn with
  | false => stabR tb T off x j rs
  | true => match lk r.gb j with
   | some o => match goodB tb T off x o with
    | true => stabR tb T off x j rs
    | false => false
   | none => false
def stabOf (s : St S) (tb : List (Nat × TI)) (st : St S) (rs : List (Rec S)) : Op → Option SV
 | .load T x => match ev st x with
  | some (.ptr j off) => match lk s.o j with
   | some (.blk U cs) => match cs[off]? with
    | some v => match goodB (S := S) tb T off v (.blk U cs),stabR tb T off v j rs with
     | true,true => some v
     | _,_ => none
    | _ => none
   | _ => none
  | _ => none
 | _ => none
def conR (all : List Oper) : List (Nat × Bool) → Bool
 | [] => false
 | (_,true) :: r => conR all r
 | (i,false) :: r => match nth all i with
  | some o => match o.op with
   | .call ⟨.builtin .append,⟨[.tmp t,_]⟩,_⟩ => match madeB0 t all with
    | true => conR all r
    | false => true
   | _ => conR all r
  | none => conR all r
def drawT {ι : Nat → Type} {ρ : Type} (fl : Bool) (hid : List Nat) (tb : List (Nat × TI)) (ct : List (Ctr S)) (s : St S) (all : Array Oper) (ms : List Nat) (fin : List (Rec S) → Tr ι ρ) : List (Nat × Bool) → List (Rec S) → Tr ι ρ
 | [],rs => fin rs
 | (i,pu) :: t,rs => match nth all.toList i with
  | none => .stuck 40
  | some o => match dstOk o.dst s.sz with
   | false => .stuck 41
   | true => match wants (seenAt fl hid s all ms rs i o pu) all o with
    | .no => drawT fl hid tb ct s all ms fin t (rs ++ [⟨i,o,pu,[],nxt s.n rs,nxt s.n rs,.v (.tuple #[]),[],[],false⟩])
    | .yes => match zeroOf tb pu all.toList (seenAt fl hid s all ms rs i o false) o with
     | .b0 e => addR all ⟨i,o,false,[(nxt s.n rs,.blk e [])],nxt s.n rs,nxt s.n rs + 1,.view (nxt s.n rs) 0 0 0,[],[],false⟩ fun r => drawT fl hid tb ct s all ms fin t (rs ++ [r])
     | .a0 j b c o1 n' v => match inRange (nxt s.n rs) n' o1 with
      | true => chkO c (.ite b (addR all ⟨i,o,false,[],nxt s.n rs,nxt s.n rs,.view j 0 0 0,[],[],false⟩ fun r => drawT fl hid tb ct s all ms fin t (rs ++ [r])) (addR all ⟨i,o,false,o1,nxt s.n rs,n',v,[],[],false⟩ fun r => drawT fl hid tb ct s all ms fin t (rs ++ [r])))
      | false => .stuck 49
     | .no => match conOf s.n fl hid tb (fullAt s all ms rs i o) ms i rs pu o.op with
      | some (cn,c,ow) => chkO c (drawT fl hid tb ct s all ms fin t (rs ++ [⟨i,o,false,[(nxt s.n rs,ow)],nxt s.n rs,nxt s.n rs + 1,.tr (nxt s.n rs),cn,[],true⟩]))
      | none => match stoOf s.n fl hid tb (fullAt s all ms rs i o) ms i rs pu o.op with
      | some (j,b) => drawT fl hid tb ct s all ms fin t (rs ++ [⟨i,o,false,[],nxt s.n rs,nxt s.n rs,.v (.tuple #[]),[j],[(j,b)],true⟩])
      | none => match callee (seenAt fl hid s all ms rs i o pu) o.op with
      | some (f,args) => match pu with
       | true => .stuck 42
       | false => tryC f args (showO fl hid rs (oC (ancM ms i) s.o rs)) (fun c x ps => match c.sp.light,Nat.beq c.bn 0 with
        | true,true => match c.out with
         | .tot g => recC (seenAt fl hid s all ms rs i o false) i o c ps (g x) fun r => addR all r fun r => drawT fl hid tb ct s all ms fin t (rs ++ [r])
         | .pre p g => .chk (p x) (recC (seenAt fl hid s all ms rs i o false) i o c ps (g x) fun r => addR all r fun r => drawT fl hid tb ct s all ms fin t (rs ++ [r]))
         | .opt m => .bnd (m x) fun y => recC (seenAt fl hid s all ms rs i o false) i o c ps y fun r => addR all r fun r => drawT fl hid tb ct s all ms fin t (rs ++ [r])
        | _,_ => .stuck 43) (match fl with
        | false => .stuck (10000 + f)
        | true => tryC f args (oC (ancM ms i) s.o rs) (fun c x ps => match c.out with
         | .tot g => takeC s.n hid ms rs (fullAt s all ms rs i o) i o c ps (g x) fun r => addR all r fun r => drawT fl hid tb ct s all ms fin t (rs ++ [r])
         | .pre p g => .chk (p x) (takeC s.n hid ms rs (fullAt s all ms rs i o) i o c ps (g x) fun r => addR all r fun r => drawT fl hid tb ct s all ms fin t (rs ++ [r]))
         | .opt m => .bnd (m x) fun y => takeC s.n hid ms rs (fullAt s all ms rs i o) i o c ps y fun r => addR all r fun r => drawT fl hid tb ct s all ms fin t (rs ++ [r])) (.stuck (10000 + f)) ct) ct
      | none => match evalOp tb (seenAt fl hid s all ms rs i o pu) o.op with
       | .val c x => chkO c (addR all ⟨i,o,pu,[],nxt s.n rs,nxt s.n rs,x,[],[],false⟩ fun r => drawT fl hid tb ct s all ms fin t (rs ++ [r]))
       | .new b => match pu with
        | true => .stuck 44
        | false => addR all ⟨i,o,false,[(nxt s.n rs,b)],nxt s.n rs,nxt s.n rs + 1,resOf b (nxt s.n rs),[],[],false⟩ fun r => drawT fl hid tb ct s all ms fin t (rs ++ [r])
       | .nm c o1 n' v => match pu,inRange (nxt s.n rs) n' o1 with
        | false,true => chkO c (addR all ⟨i,o,false,o1,nxt s.n rs,n',v,[],[],false⟩ fun r => drawT fl hid tb ct s all ms fin t (rs ++ [r]))
        | _,_ => .stuck 45
       | .stop => match pu with
        | true => pureSl tb (seenAt fl hid s all ms rs i o false) i o (.stuck (200000000 + 1000 * i + o.dst.getD 0)) fun r => addR all r fun r => drawT fl hid tb ct s all ms fin t (rs ++ [r])
        | false => match fl,takeB s.n hid ms i (nxt s.n rs) rs [] [],evalOp tb (fullAt s all ms rs i o) o.op with
         | true,true,.val c x => chkO c (addR all ⟨i,o,false,[],nxt s.n rs,nxt s.n rs,x,[],[],true⟩ fun r => drawT fl hid tb ct s all ms fin t (rs ++ [r]))
         | true,true,.nm c o1 n' v => match inRange (nxt s.n rs) n' o1 with
          | true => chkO c (addR all ⟨i,o,false,o1,nxt s.n rs,n',v,[],[],true⟩ fun r => drawT fl hid tb ct s all ms fin t (rs ++ [r]))
          | false => .stuck 56
         | _,_,_ => match fl,stabOf s tb (fullAt s all ms rs i o) rs o.op with
          | true,some x => addR all ⟨i,o,false,[],nxt s.n rs,nxt s.n rs,x,[],[],true⟩ fun r => drawT fl hid tb ct s all ms fin t (rs ++ [r])
          | _,_ => .stuck (200000000 + 1000 * i + o.dst.getD 0)
       | _ => .stuck (200000000 + 1000 * i + o.dst.getD 0)
    | .split _ _ => .stuck 47
    | .unk => .stuck 48
def sufOf : List Nat → List Nat
 | [] => []
 | i :: r => match Nat.ble 1000000 i with
  | true => sufOf r
  | false => i :: sufOf r
def hidS : List Nat → List Nat
 | [] => []
 | i :: r => match Nat.ble 1000000 i with
  | true => (i - 1000000) :: hidS r
  | false => hidS r
def trNames : List (Nat × Own S) → List Nat
 | [] => []
 | (i,b) :: r => match isTr0 b with
  | true => i :: trNames r
  | false => trNames r
mutual
def svNames : SV → List Nat
 | .v _ => []
 | .b _ => []
 | .ptr i _ => [i]
 | .row i _ => [i]
 | .tr i => [i]
 | .ep i _ _ _ => [i]
 | .view i _ _ _ => [i]
 | .mref i => [i]
 | .mk i _ => [i]
 | .hm i => [i]
 | .h i => [i]
 | .vp i _ => [i]
 | .ap i _ _ _ => [i]
 | .pr i _ _ _ => [i]
 | .pp i _ _ _ _ _ _ => [i]
 | .agg cs => svNamesL cs
 | .tup cs => svNamesL cs
 | .fn _ cs => svNamesL cs
def svNamesL : List SV → List Nat
 | [] => []
 | x :: r => svNames x ++ svNamesL r
end
def reachL (o : List (Nat × Own S)) : Nat → List Nat → List Nat
 | 0,_ => []
 | _ + 1,[] => []
 | f + 1,i :: r => match lk o i with
  | some (.blk _ cs) => i :: (reachL o f (svNamesL cs) ++ reachL o f r)
  | some _ => i :: reachL o f r
  | none => reachL o f r
def slotNames (t : List (Nat × SV)) : List Nat → List Nat
 | [] => []
 | u :: r => match lk t u with
  | some x => svNames x ++ slotNames t r
  | none => slotNames t r
def inNames (o : List (Nat × Own S)) : List Nat → List Nat
 | [] => []
 | i :: r => match lk o i with
  | some (.blk _ cs) => svNamesL cs ++ inNames o r
  | _ => inNames o r
def hidNames (o : List (Nat × Own S)) (t : List (Nat × SV)) : List Nat → List Nat
 | [] => []
 | u :: r => match Nat.ble 1000000 u with
  | true => inNames o (slotNames t [u - 1000000]) ++ hidNames o t r
  | false => slotNames t [u] ++ hidNames o t r
def orB : Bool → Bool → Bool
 | true,_ => true
 | false,b => b
def someL : List Nat → Bool
 | [] => false
 | _ :: _ => true
def flOf (all : List Oper) (q : Draw) : Bool := orB (someL (hidS q.suf)) (conR all q.pre)
def hidOf (s : St S) (all : List Oper) (q : Draw) : List Nat := match flOf all q with
 | true => trNames s.o ++ reachL s.o 30 (hidNames s.o s.t (hidS q.suf))
 | false => []
def opsAt (all : Array Oper) : List Nat → List Oper
 | [] => []
 | i :: r => match nth all.toList i with
  | some o => o :: opsAt all r
  | none => opsAt all r
def inSlots : Nat → List SV → List (Nat × SV)
 | _,[] => []
 | i,x :: r => (i,x) :: inSlots (i + 1) r
def hasDefB : List Oper → Bool
 | [] => false
 | o :: r => match deferB o with
  | true => true
  | false => hasDefB r
def trsS (s : St S) : Op → List Nat
 | .mapUpdate _ _ _ v => match ev s v with
  | some x => trsL [x]
  | none => []
 | .insert _ _ _ v => match ev s v with
  | some x => trsL [x]
  | none => []
 | _ => []
def exec {ι : Nat → Type} {ρ : Type} (E : Env S) : Nat → Fr → (Nat → List AIt → St S → Tr ι ρ) → (Bool → St S → Tr ι ρ) → Bool → List AIt → St S → Tr ι ρ
 | 0,_,_,_,_,_,_ => .stuck 4
 | _ + 1,_,_,or',_,[],s => or' false s
 | n + 1,fr,oc,or',go,.ops _ [] :: k,s => exec E n fr oc or' go k s
 | n + 1,fr,oc,or',go,.ops all (o :: r) :: k,s => match wants s all o with
  | .unk => .stuck 6
  | .split d c => .ite c (exec E n fr oc or' go (.ops all (o :: r) :: k) { s with t := pt s.t d (.v (.bool true)) }) (exec E n fr oc or' go (.ops all (o :: r) :: k) { s with t := pt s.t d (.v (.bool false)) })
  | .no => match s.put o.dst (.v (.tuple #[])) with
   | some s' => exec E n fr oc or' go (.ops all r :: k) s'
   | none => .stuck 7
  | .yes => match callee s o.op with
   | some (f,args) => match lk E.inl f with
    | some q => match Nat.ble args.length q.sz with
     | true => exec E n ⟨false,q.dr⟩ (fun _ _ _ => .stuck 50) (fun _ s' => match resL E.tb s' q.res with
      | some vs => match St.put { s with o := s'.o,n := s'.n } o.dst (resSV vs) with
       | some s'' => exec E n fr oc or' go (.ops all r :: k) s''
       | none => .stuck 51
      | none => .stuck 52) false [.code [] q.body] ⟨inSlots 0 args,s.o,s.n,q.sz⟩
     | false => .stuck 53
    | none => tryC f args s.o (fun c x ps => match c.out with
     | .tot g => contC s c ps o.dst (g x) (fun s' => exec E n fr oc or' go (.ops all r :: k) s') (.stuck 8)
     | .pre p g => .chk (p x) (contC s c ps o.dst (g x) (fun s' => exec E n fr oc or' go (.ops all r :: k) s') (.stuck 8))
     | .opt m => .bnd (m x) fun y => contC s c ps o.dst y (fun s' => exec E n fr oc or' go (.ops all r :: k) s') (.stuck 8)) (match trsL args with
      | [] => .stuck (10000 + f)
      | l => exec E n fr oc or' go (.ops all (o :: r) :: k) (frzL s l)) E.ct
   | none => match evalOp E.tb s o.op with
    | .val c x => match s.put o.dst x with
     | some s' => chkO c (exec E n fr oc or' go (.ops all r :: k) s')
     | none => .stuck 9
    | .new b => match rowTrs E.tb b with
     | [] => match St.put { s with o := (s.n,b) :: s.o,n := s.n + 1 } o.dst (resOf b s.n) with
      | some s' => exec E n fr oc or' go (.ops all r :: k) s'
      | none => .stuck 9
     | j :: l => exec E n fr oc or' go (.ops all (o :: r) :: k) (frzL s (j :: l))
    | .upd c i b => match St.put { s with o := pt s.o i b } o.dst (.v (.tuple #[])) with
     | some s' => chkO c (exec E n fr oc or' go (.ops all r :: k) s')
     | none => .stuck 9
    | .nm c o1 n' v => match St.put { s with o := o1 ++ s.o,n := n' } o.dst v with
     | some s' => chkO c (exec E n fr oc or' go (.ops all r :: k) s')
     | none => .stuck 9
    | .x c o' n' v => match St.put { s with o := o',n := n' } o.dst v with
     | some s' => chkO c (exec E n fr oc or' go (.ops all r :: k) s')
     | none => .stuck 9
    | .stop => match trsS s o.op with
     | [] => .stuck (100000000 + 1000 * r.length + o.dst.getD 0)
     | j :: l => exec E n fr oc or' go (.ops all (o :: r) :: k) (frzL s (j :: l))
 | n + 1,fr,oc,or',go,.blk _ :: k,s => exec E n fr oc or' go k s
 | n + 1,fr,oc,or',go,.sc _ _ :: k,s => exec E n fr oc or' go k s
 | n + 1,fr,oc,or',go,.again a c :: k,s => exec E n fr oc or' go (.code a c :: .again a c :: k) s
 | n + 1,fr,oc,or',go,.code a (.seq x y) :: k,s => exec E n fr oc or' go (.code (0 :: a) x :: .code (1 :: a) y :: k) s
 | n + 1,fr,oc,or',go,.code _ .skip :: k,s => exec E n fr oc or' go k s
 | n + 1,fr,oc,or',go,.code _ (.label _) :: k,s => exec E n fr oc or' go k s
 | n + 1,fr,oc,or',go,.code a (.block id x) :: k,s => exec E n fr oc or' go (.code (0 :: a) x :: .blk id :: k) s
 | n + 1,fr,oc,or',go,.code a (.scope x) :: k,s => exec E n fr oc or' go (.code (0 :: a) x :: .sc (0 :: a) x :: k) s
 | n + 1,fr,oc,or',go,.code a (.loop x) :: k,s => exec E n fr oc or' go (.again (0 :: a) x :: k) s
 | n + 1,fr,oc,or',go,.code a (.region id ops d) :: k,s => match (match go with | true => false | false => match fr.main with | true => isCut E id | false => false) with
  | true => oc id (.code a (.region id ops d) :: k) s
  | false => match hasDefB ops.toList with
   | true => oc 999998 (.code a (.region id ops d) :: k) s
   | false => match d with
   | false => exec E n fr oc or' false (.ops ops ops.toList :: k) s
   | true => match lk fr.dr id with
    | some q => match q.fz with
     | false => drawT (flOf ops.toList q) (hidOf s ops.toList q) E.tb E.ct s ops q.ms (fun rs => (behind s rs).fc fun s1 => exec E n fr oc or' false (.ops ops (opsAt ops (sufOf q.suf)) :: k) s1) q.pre []
     | true => drawT (flOf ops.toList q) (hidOf (frzL s (trsF E.tb s q)) ops.toList q) E.tb E.ct (frzL s (trsF E.tb s q)) ops q.ms (fun rs => (behind (frzL s (trsF E.tb s q)) rs).fc fun s1 => exec E n fr oc or' false (.ops ops (opsAt ops (sufOf q.suf)) :: k) s1) q.pre []
    | none => .stuck (30000 + id)
 | n + 1,fr,oc,or',go,.code _ (.exit id) :: k,s => match exitA id k with
  | some k' => exec E n fr oc or' go k' s
  | none => .stuck 10
 | n + 1,fr,oc,or',go,.code _ (.goto l) :: k,s => match gotoA l k with
  | some k' => exec E n fr oc or' go k' s
  | none => .stuck 11
 | n + 1,fr,oc,or',go,.code a (.cond x t e) :: k,s => match ev s x with
  | some (.v (.bool true)) => exec E n fr oc or' go (.code (0 :: a) t :: k) s
  | some (.v (.bool false)) => exec E n fr oc or' go (.code (1 :: a) e :: k) s
  | some (.b c) => .ite c (exec E n fr oc or' go (.code (0 :: a) t :: k) s) (exec E n fr oc or' go (.code (1 :: a) e :: k) s)
  | _ => .stuck 12
 | _ + 1,fr,oc,or',_,.code _ .ret :: _,s => or' true s
 | _ + 1,fr,oc,or',_,.code a (.rangeFunc g ps x y) :: k,s => oc 999999 (.code a (.rangeFunc g ps x y) :: k) s
 | _ + 1,fr,oc,or',_,.code _ (.refuse _) :: _,_ => .stuck 14
def startC (E : Env S) (n : Nat) (q : Cut) (x : q.sp.D S) : Tr E.ι E.ρ :=
 match ofKeys E.body q.key with
 | some k => match q.sp.enc x q.bn with
  | (vs,o,m) => exec E n ⟨true,E.dr⟩ (toCut E) (fun _ => toRet E) true k ⟨q.ts.zip vs,o,m,E.sz⟩
 | none => .stuck 15
def start0 (E : Env S) (n : Nat) (sp : Spec) (x : sp.D S) : Tr E.ι E.ρ :=
 match sp.enc x E.bn with
 | (vs,o,m) => exec E n ⟨true,E.dr⟩ (toCut E) (fun _ => toRet E) false [.code [] E.body] ⟨inSlots 0 vs,o,m,E.sz⟩
end
end Go.En
