/-
 Trees of what a piece of code comes to (Tr); contracts of functions (Ctr); the evaluation of code up to its next cuts (exec).
-/
import Derived.Test.YtikecakpcfpghaaGreatDoorEn10
set_option linter.all false
namespace Go.En
open Go.RowKit
inductive Tr (ι:Nat->Type) (ρ:Type):Type 1 where
 | ret (r:ρ)
 | cut (c:Nat) (x:ι c)
 | ite (b:Bool) (t e:Tr ι ρ)
 | Qi (p:Bool) (t:Tr ι ρ)
 | IX {B:Type} (m:Option B) (k:B->Tr ι ρ)
 | stuck (why:Nat)
section
variable {ι:Nat->Type} {ρ:Type}
def Tr.eval (M: ∀ c,ι c->Option ρ):Tr ι ρ->Option ρ
 | .ret r=>some r
 | .cut c x=>M c x
 | .ite b t e=>if b=true then t.eval M else e.eval M
 | .Qi p t=>if p=true then t.eval M else none
 | .IX m k=>m.bind fun x=>(k x).eval M
 | .stuck _=>none
def DD (step: ∀ c,ι c->Tr ι ρ):Nat-> ∀ c,ι c->Option ρ
 | 0,_,_=>none
 | n+1,c,x=>(step c x).eval (DD step n)
def Tr.Holds (Kc: ∀ c,ι c->Prop) (Kr:ρ->Prop):Tr ι ρ->Prop
 | .ret r=>Kr r
 | .cut c x=>Kc c x
 | .ite b t e=>(b=true->t.Holds Kc Kr)/\(b=false->e.Holds Kc Kr)
 | .Qi p t=>p=true/\t.Holds Kc Kr
 | .IX m k=> ∃ x,m=some x/\(k x).Holds Kc Kr
 | .stuck _=>False
theorem Tr.BE {M: ∀ c,ι c->Option ρ} {r:ρ}: ∀ {t:Tr ι ρ},t.eval M=some r->t.Holds (fun c x=>M c x=some r) (· =r)
 | .ret r',h=>by simp only [Tr.eval,Option.some.injEq] at h;exact h
 | .cut c x,h=>h
 | .ite b t e,h=>by
  simp only [Tr.eval] at h
  refine ⟨fun hb=>?_,fun hb=>?_⟩
  ·rw [if_pos hb] at h;exact BE h
  ·rw [if_neg (by simp [hb])] at h;exact BE h
 | .Qi p t,h=>by
  simp only [Tr.eval] at h
  split at h
  ·rename_i hp;exact ⟨hp,BE h⟩
  ·cases h
 | .IX m k,h=>by
  simp only [Tr.eval] at h
  obtain ⟨x,h1,h2⟩:=Option.bind_eq_some_iff.1 h
  exact ⟨x,h1,BE h2⟩
 | .stuck _,h=>by simp [Tr.eval] at h
theorem Tr.Holds.mono {Kc Kc': ∀ c,ι c->Prop} {Kr Kr':ρ->Prop} (hc: ∀ c x,Kc c x->Kc' c x) (hr: ∀ r,Kr r->Kr' r): ∀ {t:Tr ι ρ},t.Holds Kc Kr->t.Holds Kc' Kr'
 | .ret r',h=>hr _ h
 | .cut c x,h=>hc c x h
 | .ite b t e,h=>⟨fun hb=>mono hc hr (h.1 hb),fun hb=>mono hc hr (h.2 hb)⟩
 | .Qi p t,h=>⟨h.1,mono hc hr h.2⟩
 | .IX m k,h=>let ⟨x,h1,h2⟩:=h;⟨x,h1,mono hc hr h2⟩
 | .stuck _,h=>h
end
inductive Out (A B:Type) where
 | iC (g:A->B)
 | pre (p:A->Bool) (g:A->B)
 | opt (m:A->Option B)
def Out.gives {A B:Type}:Out A B->A->B->Prop
 | .iC g,x,y=>g x=y
 | .pre p g,x,y=>p x=true/\g x=y
 | .opt m,x,y=>m x=some y
def eO (bn:Nat):List Gh->Nat
 | []=>0
 | b::r=>match Nat.ble (b.i+1) bn with
  | true=>eO bn r
  | false=>eO bn r+1
def HR (bn:Nat) (q:Spec):Nat:=bn+eO bn q.bx
theorem Ux (bn:Nat) (q:Spec):bn<=HR bn q:=Nat.le_add_right _ _
structure By (S:Aq) where
 f:Nat
 bn:Nat
 sp:Spec
 rs:Spec
 flat:Bool
 out:Out (sp.D S) (rs.D S)
structure Cut where
 key:List (List Nat)
 ts:List Nat
 bn:Nat
 sp:Spec
def HG:Nat->Code->Option Code
 | 0,.seq x _=>some x
 | 1,.seq _ y=>some y
 | 0,.cond _ x _=>some x
 | 1,.cond _ _ y=>some y
 | 0,.block _ x=>some x
 | 0,.loop x=>some x
 | 0,.scope x=>some x
 | 0,.rangeFunc _ _ x _=>some x
 | 1,.rangeFunc _ _ _ y=>some y
 | l+2,c=>findLabel c l
 | _,_=>none
def HJ (body:Code):List Nat->Option Code
 | []=>some body
 | i::a=>match HJ body a with
  | some c=>HG i c
  | none=>none
inductive Be where
 | code (a:List Nat) (c:Code)
 | AN (id:Nat)
 | ops (all:Array Oper) (rest:List Oper)
 | again (a:List Nat) (c:Code)
 | sc (a:List Nat) (c:Code)
def Be.it:Be->It
 | .code _ c=>.code c
 | .AN id=>.AN id
 | .ops all r=>.ops all r
 | .again _ c=>.again c
 | .sc _ c=>.sc c
def Be.ok (body:Code):Be->Prop
 | .code a c=>HJ body a=some c
 | .again a c=>HJ body a=some c
 | .sc a c=>HJ body a=some c
 | _=>True
def Be.key:Be->List Nat
 | .code a _=>0::a
 | .AN id=>[1,id]
 | .again a _=>2::a
 | .sc a _=>3::a
 | .ops _ _=>[4]
def LH (body:Code):List Nat->Option Be
 | 0::a=>match HJ body a with
  | some c=>some (.code a c)
  | none=>none
 | [1,id]=>some (.AN id)
 | 2::a=>match HJ body a with
  | some c=>some (.again a c)
  | none=>none
 | 3::a=>match HJ body a with
  | some c=>some (.sc a c)
  | none=>none
 | _=>none
def Cb (body:Code):List (List Nat)->Option (List Be)
 | []=>some []
 | x::r=>match LH body x with
  | some i=>match Cb body r with
   | some l=>some (i::l)
   | none=>none
  | none=>none
def dW:List Nat->List Nat->Bool
 | [],[]=>true
 | x::r,y::t=>match Nat.beq x y with
  | true=>dW r t
  | false=>false
 | _,_=>false
def bh:List Be->List (List Nat)->Bool
 | [],[]=>true
 | x::r,y::t=>match dW x.key y with
  | true=>bh r t
  | false=>false
 | _,_=>false
def GK (id:Nat):List Be->Option (List Be)
 | []=>none
 | .AN id'::k=>match Nat.beq id id' with
  | true=>some k
  | false=>GK id k
 | .code _ _::k=>GK id k
 | .ops _ _::k=>GK id k
 | .again _ _::k=>GK id k
 | .sc _ _::k=>GK id k
def GM (l:Nat):List Be->Option (List Be)
 | []=>none
 | .sc a c::k=>match findLabel c l with
  | some rest=>some (.code ((l+2)::a) rest::.sc a c::k)
  | none=>GM l k
 | .code _ _::k=>GM l k
 | .ops _ _::k=>GM l k
 | .again _ _::k=>GM l k
 | .AN _::k=>GM l k
structure Ir where
 pre:List (Nat×Bool)
 H9:List Nat
 ms:List Nat
 fz:Bool
structure lg where
 body:Code
 sz:Nat
 res:List ResultVar
 dr:List (Nat×Ir)
structure Fr where
 main:Bool
 dr:List (Nat×Ir)
structure Env (S:Aq) where
 inl:List (Nat×lg)
 tb:List (Nat×TI)
 ct:List (By S)
 Cx:List (Nat×Cut)
 bn:Nat
 res:List ResultVar
 rs:Spec
 sz:Nat
 dr:List (Nat×Ir)
 body:Code
section
variable {S:Aq}
def dQ (Cx:List (Nat×Cut)) (c:Nat):Type:=match lk Cx c with
 | some q=>q.sp.D S
 | none=>Empty
def Env.ι (E:Env S) (c:Nat):Type:=dQ (S:=S) E.Cx c
def Env.ρ (E:Env S):Type:=E.rs.D S
def DH (E:Env S) (c:Nat) (q:Cut) (h:lk E.Cx c=some q) (x:q.sp.D S):E.ι c:=by
 unfold Env.ι dQ;rw [h];exact x
def Bh (bn:Nat) (m:List (Nat×Nat)) (n0:Nat) (i:Nat):Nat:=match Nat.ble (i+1) bn with
 | true=>match lk m i with
  | some j=>j
  | none=>0
 | false=>n0+(i -bn)
mutual
def SV.JG (r:Nat->Nat):SV->SV
 | .v x=>.v x
 | .b c=>.b c
 | .ptr i off=>.ptr (r i) off
 | .row i n=>.row (r i) n
 | .tr i=>.tr (r i)
 | .ep i z e off=>.ep (r i) z e off
 | .view i off len cap=>.view (r i) off len cap
 | .Bv i=>.Bv (r i)
 | .mk i e=>.mk (r i) e
 | .hm i=>.hm (r i)
 | .h i=>.h (r i)
 | .vp i off=>.vp (r i) off
 | .ap i n e off=>.ap (r i) n e off
 | .pr i z e off=>.pr (r i) z e off
 | .pp i z e off y j q=>.pp (r i) z e off y j q
 | .agg cs=>.agg (CQ r cs)
 | .Gg cs=>.Gg (CQ r cs)
 | .fn f cs=>.fn f (CQ r cs)
def CQ (r:Nat->Nat):List SV->List SV
 | []=>[]
 | x::t=>x.JG r::CQ r t
end
def Own.JG (r:Nat->Nat):Own S->Own S
 | .AN T cs=>.AN T (CQ r cs)
 | .row T z n cs=>.row T z n (CQ r cs)
 | .vu cs=>.vu (CQ r cs)
 | .tr τ E l=>.tr τ E l
 | .sl τ l=>.sl τ l
 | .obj p=>.obj p
 | .any=>.any
 | .dp τ E l=>.dp τ E l
 | .mp κ τ ag l=>.mp κ τ ag l
 | .mr κ τ ag E l=>.mr κ τ ag E l
def Dl (r:Nat->Nat):List (Nat×Own S)->List (Nat×Own S)
 | []=>[]
 | (i,b)::t=>(r i,b.JG r)::Dl r t
def Q3:Nat->List (Nat×Nat)
 | 0=>[]
 | n+1=>(n,n)::Q3 n
def Az:List SV->SV
 | [x]=>x
 | l=>.Gg l
def callee (s:St S):Op->Option (Nat×List SV)
 | .call ⟨.value f,⟨args⟩,_⟩=>match ev s f with
  | some (.fn g caps)=>match HZ s args with
   | some l=>match Nat.ble 1000000 g with
    | true=>some (g -1000000,caps++l)
    | false=>some (g,l++caps)
   | none=>none
  | some (.v (.func (.func g) ⟨[]⟩ ⟨caps⟩))=>match HZ s args with
   | some l=>some (g,l++caps.map .v)
   | none=>none
  | _=>none
 | _=>none
def R9 {α:Type 1} (f:Nat) (args:List SV) (o:List (Nat×Own S)) (k:(c:By S)->c.sp.D S->PS S->α) (fail:α):List (By S)->α
 | []=>fail
 | c::r=>match Nat.beq c.f f with
  | true=>match c.sp.parse c.flat args o [] c.bn with
   | some (x,ps)=>k c x ps
   | none=>R9 f args o k fail r
  | false=>R9 f args o k fail r
def nth {α:Type}:List α->Nat->Option α
 | [],_=>none
 | x::_,0=>some x
 | _::r,n+1=>nth r n
theorem F9 {α:Type}: ∀ (l:List α) (n:Nat),nth l n=l[n]?
 | [],_=>by simp [nth]
 | _::_,0=>by simp [nth]
 | _::r,n+1=>by simp [nth,F9 r n]
inductive Wn where
 | yes
 | no
 | split (d:Nat) (c:Bool)
 | gk
def Bd (s:St S) (all:Array Oper) (o:Oper):Wn:=
 match o.guard with
 | none=>.yes
 | some (j,want)=>match nth all.toList j with
  | some q=>match q.dst with
   | some d=>match lk s.t d with
    | some (.v (.bool true))=>match want with
     | true=>.yes
     | false=>.no
    | some (.v (.bool false))=>match want with
     | true=>.no
     | false=>.yes
    | some (.v (.tuple ⟨[]⟩))=>.no
    | some (.b c)=>.split d c
    | _=>.gk
   | none=>.gk
  | none=>.gk
def La (tb:List (Nat×TI)) (s:St S):List ResultVar->Option (List SV)
 | []=>some []
 | .tmp t::r=>match lk s.t t with
  | some x=>match La tb s r with
   | some l=>some (x::l)
   | none=>none
  | none=>none
 | .cell t T::r=>match Iy tb s T (.tmp t) with
  | .val none x=>match La tb s r with
   | some l=>some (x::l)
   | none=>none
  | _=>none
def F4 (s:St S):List Nat->Option (List SV)
 | []=>some []
 | t::r=>match lk s.t t with
  | some x=>match F4 s r with
   | some l=>some (x::l)
   | none=>none
  | none=>none
def LR {ι:Nat->Type} {ρ:Type} (c:Option Bool) (t:Tr ι ρ):Tr ι ρ:=match c with
 | none=>t
 | some b=>.Qi b t
def N6 (m:List (Nat×Nat)):Nat->Option (List Nat)
 | 0=>some []
 | i+1=>match lk m i with
  | some j=>match N6 m i with
   | some l=>some (j::l)
   | none=>none
  | none=>none
def Tu (n:Nat):List Nat->Bool
 | []=>true
 | j::r=>match Nat.ble (j+1) n with
  | true=>Tu n r
  | false=>false
def hO (m:List (Nat×Nat)) (bn n:Nat):Bool:=match N6 m bn with
 | some l=>Tu n l
 | none=>false
def fN {α:Type 1} (n:Nat) (k:Nat->α):α:=match n with
 | 0=>k 0
 | m+1=>k (m+1)
theorem Mk {α:Type 1} (n:Nat) (k:Nat->α):fN n k=k n:=by cases n<;>rfl
def SV.fc {α:Type 1}:SV->(SV->α)->α
 | .v x,k=>k (.v x)
 | .b c,k=>k (.b c)
 | .ptr i off,k=>fN i fun i=>k (.ptr i off)
 | .row i n,k=>fN i fun i=>k (.row i n)
 | .tr i,k=>fN i fun i=>k (.tr i)
 | .ep i z e off,k=>fN i fun i=>k (.ep i z e off)
 | .view i off len cap,k=>fN i fun i=>k (.view i off len cap)
 | .Bv i,k=>fN i fun i=>k (.Bv i)
 | .h i,k=>fN i fun i=>k (.h i)
 | .vp i off,k=>fN i fun i=>k (.vp i off)
 | .ap i n e off,k=>fN i fun i=>k (.ap i n e off)
 | .pr i z e off,k=>fN i fun i=>k (.pr i z e off)
 | .pp i z e off y j q,k=>fN i fun i=>k (.pp i z e off y j q)
 | .agg cs,k=>k (.agg cs)
 | .Gg cs,k=>k (.Gg cs)
 | .fn f cs,k=>k (.fn f cs)
 | .mk i e,k=>fN i fun i=>k (.mk i e)
 | .hm i,k=>fN i fun i=>k (.hm i)
theorem SV.Fj {α:Type 1} (x:SV) (k:SV->α):x.fc k=k x:=by cases x<;>simp only [SV.fc,Mk]
def gz {α:Type 1}:List SV->(List SV->α)->α
 | [],k=>k []
 | x::r,k=>x.fc fun x=>gz r fun r=>k (x::r)
theorem Wt {α:Type 1}: ∀ (l:List SV) (k:List SV->α),gz l k=k l
 | [],_=>rfl
 | x::r,k=>by simp only [gz,SV.Fj x,Wt r]
def Own.fc {α:Type 1}:Own S->(Own S->α)->α
 | .AN T cs,k=>gz cs fun cs=>k (.AN T cs)
 | .row T z n cs,k=>gz cs fun cs=>k (.row T z n cs)
 | .vu cs,k=>gz cs fun cs=>k (.vu cs)
 | .tr τ E l,k=>k (.tr τ E l)
 | .sl τ l,k=>k (.sl τ l)
 | .obj p,k=>k (.obj p)
 | .any,k=>k .any
 | .dp τ E l,k=>k (.dp τ E l)
 | .mp κ τ ag l,k=>k (.mp κ τ ag l)
 | .mr κ τ ag E l,k=>k (.mr κ τ ag E l)
theorem Own.Fj {α:Type 1} (b:Own S) (k:Own S->α):b.fc k=k b:=by cases b<;>simp only [Own.fc,Wt]
def hC {α:Type 1}:List (Nat×Own S)->(List (Nat×Own S)->α)->α
 | [],k=>k []
 | (i,b)::r,k=>fN i fun i=>b.fc fun b=>hC r fun r=>k ((i,b)::r)
theorem PN {α:Type 1}: ∀ (l:List (Nat×Own S)) (k:List (Nat×Own S)->α),hC l k=k l
 | [],_=>rfl
 | (i,b)::r,k=>by simp only [hC,Mk,Own.Fj b,PN r]
def lQ {α:Type 1}:List (Nat×SV)->(List (Nat×SV)->α)->α
 | [],k=>k []
 | (i,x)::r,k=>fN i fun i=>x.fc fun x=>lQ r fun r=>k ((i,x)::r)
theorem Wv {α:Type 1}: ∀ (l:List (Nat×SV)) (k:List (Nat×SV)->α),lQ l k=k l
 | [],_=>rfl
 | (i,x)::r,k=>by simp only [lQ,Mk,SV.Fj x,Wv r]
def lP {α:Type 1}:List Nat->(List Nat->α)->α
 | [],k=>k []
 | i::r,k=>fN i fun i=>lP r fun r=>k (i::r)
theorem Wu {α:Type 1}: ∀ (l:List Nat) (k:List Nat->α),lP l k=k l
 | [],_=>rfl
 | i::r,k=>by simp only [lP,Mk,Wu r]
def St.fc {α:Type 1} (s:St S) (k:St S->α):α:=lQ s.t fun t=>hC s.o fun o=>fN s.n fun n=>k ⟨t,o,n,s.sz⟩
theorem St.Fj {α:Type 1} (s:St S) (k:St S->α):s.fc k=k s:=by
 unfold St.fc;rw [Wv,PN,Mk]
def OY {α:Type 1} (s:St S) (c:By S) (ps:PS S) (dst:Option Tmp) (y:c.rs.D S) (k:St S->α) (fail:α):α:=
 match hO ps.m c.bn s.n with
 | true=>match c.rs.enc y (HR c.bn c.rs) with
  | (rs',o',n')=>match St.put { s with o:=Dl (Bh c.bn ps.m s.n) o'++ps.o,n:=s.n+(n' -c.bn) } dst (Az (CQ (Bh c.bn ps.m s.n) rs')) with
  | some s'=>s'.fc k
  | none=>fail
 | false=>fail
mutual
def SV.KY (j n:Nat):SV->SV
 | .tr i=>match Nat.beq i j with
  | true=>.h n
  | false=>.tr i
 | .agg cs=>.agg (S9 j n cs)
 | .Gg cs=>.Gg (S9 j n cs)
 | .v x=>.v x
 | .b c=>.b c
 | .ptr i off=>.ptr i off
 | .row i m=>.row i m
 | .ep i z e off=>.ep i z e off
 | .view i off len cap=>.view i off len cap
 | .Bv i=>.Bv i
 | .mk i e=>.mk i e
 | .hm i=>.hm i
 | .h i=>.h i
 | .vp i off=>.vp i off
 | .ap i m e off=>.ap i m e off
 | .pr i z e off=>.pr i z e off
 | .pp i z e off y j q=>.pp i z e off y j q
 | .fn f cs=>.fn f cs
def S9 (j n:Nat):List SV->List SV
 | []=>[]
 | x::r=>x.KY j n::S9 j n r
end
def XW (j n:Nat):List (Nat×SV)->List (Nat×SV)
 | []=>[]
 | (t,x)::r=>(t,x.KY j n)::XW j n r
def Own.KY (j n:Nat):Own S->Own S
 | .AN T cs=>.AN T (S9 j n cs)
 | b=>b
def Vb (j n:Nat):List (Nat×Own S)->List (Nat×Own S)
 | []=>[]
 | (i,b)::r=>(i,b.KY j n)::Vb j n r
def St.KY (s:St S) (j:Nat):St S:=match lk s.o j with
 | some (.tr τ _ l)=>⟨XW j s.n s.t,(s.n,.sl τ l)::Vb j s.n (rm s.o j),s.n+1,s.sz⟩
 | _=>s
def Fc:St S->List Nat->St S
 | s,[]=>s
 | s,j::r=>Fc (s.KY j) r
def WB:List SV->List Nat
 | []=>[]
 | .tr j::r=>j::WB r
 | _::r=>WB r
def Tn:List SV->List Nat
 | []=>[]
 | .tr j::r=>j::Tn r
 | .agg cs::r=>WB cs++Tn r
 | _::r=>Tn r
def WC:List SV->List Nat
 | []=>[]
 | .agg cs::r=>WB cs++WC r
 | _::r=>WC r
def gj:List (Nat×SV)->List Nat
 | []=>[]
 | (_,.tr j)::r=>j::gj r
 | _::r=>gj r
def QU (tb:List (Nat×TI)):List (Nat×Own S)->List Nat
 | []=>[]
 | (_,.AN T cs)::r=>match WB cs with
  | []=>QU tb r
  | l=>match lk tb T with
   | some t=>match t.τ,t.d with
    | some _,.struct _=>l++QU tb r
    | _,_=>QU tb r
   | none=>QU tb r
 | _::r=>QU tb r
def bT (tb:List (Nat×TI)) (s:St S) (q:Ir):List Nat:=match EB 9000000 q.H9 with
 | true=>QU tb s.o++gj s.t
 | false=>QU tb s.o
def N3 (E:Env S) (c:Nat) (k:List Be) (s:St S) (L:List Nat) (fail:Tr E.ι E.ρ):Tr E.ι E.ρ:=
 match h:lk E.Cx c with
 | some q=>match bh k q.key with
  | true=>match F4 (Fc s L) q.ts with
   | some vs'=>match q.sp.parse true vs' (Fc s L).o (Q3 E.bn) q.bn with
    | some (x,_)=>.cut c (DH E c q h x)
    | none=>fail
   | none=>fail
  | false=>.stuck (3000+c)
 | none=>.stuck 1
def QS (E:Env S) (c:Nat) (k:List Be) (s:St S):Tr E.ι E.ρ:=
 match lk E.Cx c with
 | some q=>match F4 s q.ts with
  | some vs=>N3 E c k s [] (N3 E c k s (WC vs) (N3 E c k s (WC vs++QU E.tb s.o) (.stuck (1000+c))))
  | none=>.stuck (2000+c)
 | none=>.stuck 1
def R5 (E:Env S) (c:Nat) (k:List Be) (s:St S):Tr E.ι E.ρ:=
 match lk E.Cx c with
 | some q=>match bh k q.key with
  | true=>QS E c k s
  | false=>QS E (c+100000) k s
 | none=>.stuck 1
def ix (E:Env S) (c:Nat):Bool:=match lk E.Cx c with
 | some _=>true
 | none=>false
def N4 (E:Env S) (s:St S) (L:List Nat) (fail:Tr E.ι E.ρ):Tr E.ι E.ρ:=
 match La E.tb (Fc s L) E.res with
 | some vs'=>match E.rs.parse true vs' (Fc s L).o (Q3 E.bn) (HR E.bn E.rs) with
  | some (y,_)=>.ret y
  | none=>fail
 | none=>fail
def R6 (E:Env S) (s:St S):Tr E.ι E.ρ:=
 match La E.tb s E.res with
 | some vs=>N4 E s [] (N4 E s (WC vs) (N4 E s (WC vs++QU E.tb s.o) (.stuck 2)))
 | none=>.stuck 3
def Y4 (tb:List (Nat×TI)):Own S->List Nat
 | .row E _ _ cs=>match lk tb E with
  | some t=>match t.τ with
   | some _=>WB cs
   | none=>[]
  | none=>[]
 | _=>[]
def tmpsOf:List Operand->List Nat
 | []=>[]
 | .tmp t::r=>t::tmpsOf r
 | _::r=>tmpsOf r
def Tg:List (Nat×Operand)->List Operand
 | []=>[]
 | x::r=>x.2::Tg r
def ae:Option Operand->List Operand
 | none=>[]
 | some x=>[x]
def jW:Op->List Operand
 | .move x=>[x]
 | .assign x=>[x]
 | .box _ x=>[x]
 | .load _ x=>[x]
 | .store _ x y=>[x,y]
 | .nilCheck x=>[x]
 | .unOp _ _ x=>[x]
 | .convert _ _ x=>[x]
 | .fieldAddr _ x _=>[x]
 | .field _ x _=>[x]
 | .extract x _=>[x]
 | .pick c x y=>[c,x,y]
 | .binOp _ _ x y _=>[x,y]
 | .indexAddr _ x y=>[x,y]
 | .index _ x y=>[x,y]
 | .lookup _ x y _=>[x,y]
 | .build _ ⟨ps⟩=>Tg ps
 | .buildSlice _ _ ⟨ps⟩=>Tg ps
 | .makeFunc _ _ ⟨c⟩=>c
 | .slice _ x l h _=>x::(ae l++ae h)
 | .call ⟨.value f,⟨args⟩,_⟩=>f::args
 | .call ⟨_,⟨args⟩,_⟩=>args
 | .makeSlice _ x y=>[x,y]
 | .makeMap _ x=>ae x
 | .mapUpdate _ x y z=>[x,y,z]
 | .insert _ x y z=>[x,y,z]
 | _=>[]
def XZ (all:Array Oper) (o:Oper):List Nat:=
 match o.guard with
 | none=>[]
 | some (j,_)=>match nth all.toList j with
  | some q=>match q.dst with
   | some d=>[d]
   | none=>[]
  | none=>[]
def LM (all:Array Oper) (o:Oper):List Nat:=XZ all o++tmpsOf (jW o.op)
structure Rec (S:Aq) where
 i:Nat
 o:Oper
 pu:Bool
 o1:List (Nat×Own S)
 n1:Nat
 n2:Nat
 x:SV
 cn:List Nat
 gb:List (Nat×Own S)
 tk:Bool
def pick {α:Type}:List Nat->List (Nat×α)->List (Nat×α)
 | [],_=>[]
 | u::r,t=>match lk t u with
  | some x=>(u,x)::pick r t
  | none=>pick r t
def G6:List (Nat×SV)->List (Rec S)->List (Nat×SV)
 | t,[]=>t
 | t,r::rs=>match r.o.dst with
  | none=>G6 t rs
  | some d=>G6 (pt t d r.x) rs
def SJ:List Nat->List (Nat×Own S)->List (Nat×Own S)
 | [],o=>o
 | j::c,o=>rm (SJ c o) j
def l9:Own S->Bool
 | .tr _ _ _=>true
 | .mp _ _ _ _=>true
 | .mr _ _ _ _ _=>true
 | .dp _ _ _=>true
 | _=>false
def jA:Own S->Bool
 | .tr _ _ _=>true
 | _=>false
def OW:Op->Bool
 | .call _=>true
 | .makeMap _ _=>true
 | _=>false
def R8 (u:Nat) (o:List (Nat×Own S)):Bool:=match lk o u with
 | some b=>l9 b
 | none=>false
def Ht (u:Nat):List (Rec S)->Bool
 | []=>false
 | r::rs=>match OW r.o.op with
  | true=>match R8 u r.o1 with
   | true=>true
   | false=>Ht u rs
  | false=>Ht u rs
def Iu (f:Nat->Bool):List (Nat×Own S)->List (Nat×Own S)
 | []=>[]
 | (i,b)::r=>match f i with
  | true=>Iu f r
  | false=>(i,b)::Iu f r
def Oz (fl:Bool) (hid:List Nat) (rs:List (Rec S)) (o:List (Nat×Own S)):List (Nat×Own S):=match fl with
 | true=>SJ hid (Iu (fun u=>Ht u rs) o)
 | false=>o
def oC (L:Nat->Bool) (o:List (Nat×Own S)):List (Rec S)->List (Nat×Own S)
 | []=>o
 | r::rs=>match L r.i with
  | true=>oC L (r.gb++(r.o1++SJ r.cn o)) rs
  | false=>oC L o rs
def A9:Nat->List (Rec S)->Nat
 | n,[]=>n
 | _,r::rs=>A9 r.n2 rs
def dF (m i:Nat):Bool:=Nat.beq (Nat.land 1 (Nat.shiftRight m i)) 1
def B8 (ms:List Nat) (j i:Nat):Bool:=match nth ms j with
 | some m=>dF m i
 | none=>false
def behind (s:St S) (rs:List (Rec S)):St S:=⟨G6 s.t rs,oC (fun _=>true) s.o rs,A9 s.n rs,s.sz⟩
def seenAt (fl:Bool) (hid:List Nat) (s:St S) (all:Array Oper) (ms:List Nat) (rs:List (Rec S)) (i:Nat) (o:Oper) (pu:Bool):St S:=
 ⟨pick (LM all o) (G6 s.t rs),match pu with|true=>[]|false=>Oz fl hid rs (oC (B8 ms i) s.o rs),A9 s.n rs,s.sz⟩
def l8:List Oper->Nat->Bool
 | [],_=>false
 | o::r,i=>match o.guard with
  | some (j,_)=>match Nat.beq j i with
   | true=>true
   | false=>l8 r i
  | none=>l8 r i
def EN (d:Option Tmp) (sz:Nat):Bool:=match d with
 | none=>true
 | some d=>Nat.ble (d+1) sz
def CN (n1 n2:Nat):List (Nat×Own S)->Bool
 | []=>Nat.ble n1 n2
 | (i,_)::r=>match Nat.ble n1 i,Nat.ble (i+1) n2 with
  | true,true=>CN n1 n2 r
  | _,_=>false
def CY:List Cr->Bool
 | []=>true
 | .fd _::r=>CY r
 | .st _::r=>CY r
 | .fn _ []::r=>CY r
 | _::_=>false
def Spec.RH (q:Spec):Bool:=match q.bx with
 | []=>CY q.as
 | _::_=>false
def Rec.fc {α:Type 1} (r:Rec S) (k:Rec S->α):α:=hC r.o1 fun o1=>fN r.n1 fun n1=>fN r.n2 fun n2=>r.x.fc fun x=>lP r.cn fun cn=>hC r.gb fun gb=>k ⟨r.i,r.o,r.pu,o1,n1,n2,x,cn,gb,r.tk⟩
theorem Rec.Fj {α:Type 1} (r:Rec S) (k:Rec S->α):r.fc k=k r:=by
 unfold Rec.fc;rw [PN,Mk,Mk,SV.Fj,Wu,PN]
def WV {ι:Nat->Type} {ρ:Type} (all:Array Oper) (k:Rec S->Tr ι ρ) (r:Rec S):Tr ι ρ:=
 match r.x with
 | .b c=>match l8 all.toList r.i with
  | true=>.ite c (k { r with x:=.v (.bool true) }) (k { r with x:=.v (.bool false) })
  | false=>k r
 | _=>k r
def Eo {ι:Nat->Type} {ρ:Type} (all:Array Oper) (r:Rec S) (k:Rec S->Tr ι ρ):Tr ι ρ:=r.fc (WV all k)
def recC {ι:Nat->Type} {ρ:Type} (st:St S) (i:Nat) (o:Oper) (c:By S) (ps:PS S) (y:c.rs.D S) (k:Rec S->Tr ι ρ):Tr ι ρ:=
 match c.rs.enc y (HR c.bn c.rs) with
 | (rs',o',n')=>match CN st.n (st.n+(n' -c.bn)) (Dl (Bh c.bn ps.m st.n) o') with
  | true=>k ⟨i,o,false,Dl (Bh c.bn ps.m st.n) o',st.n,st.n+(n' -c.bn),Az (CQ (Bh c.bn ps.m st.n) rs'),[],[],false⟩
  | false=>.stuck 46
def Yp {ι:Nat->Type} {ρ:Type} (tb:List (Nat×TI)) (st:St S) (i:Nat) (o:Oper) (fail:Tr ι ρ) (k:Rec S->Tr ι ρ):Tr ι ρ:=match o.op with
 | .slice T x lo hi none=>match ev st x with
  | some (.h _)=>match Gn tb st T x lo hi with
   | .nm c o1 n' v=>match CN st.n n' o1 with
    | true=>LR c (k ⟨i,o,true,o1,st.n,n',v,[],[],false⟩)
    | false=>fail
   | _=>fail
  | _=>fail
 | _=>fail
inductive Zo (S:Aq) where
 | b0 (e:Nat)
 | a0 (j:Nat) (b:Bool) (c:Option Bool) (o1:List (Nat×Own S)) (n':Nat) (v:SV)
 | no
def zeroOf (tb:List (Nat×TI)) (pu:Bool) (all:List Oper) (st:St S) (o:Oper):Zo S:=match pu with
 | true=>.no
 | false=>match Xh tb all o with
  | some e=>.b0 e
  | none=>match VI tb st o.op with
   | some (j,b,.nm c o1 n' v)=>.a0 j b c o1 n' v
   | _=>.no
theorem WG {tb:List (Nat×TI)} {pu:Bool} {all:List Oper} {st:St S} {o:Oper} {e:Nat} (h:zeroOf tb pu all st o=.b0 e):pu=false/\Xh tb all o=some e:=by
 unfold zeroOf at h
 split at h
 ·cases h
 ·split at h
  ·rename_i he;cases h;exact ⟨rfl,he⟩
  ·split at h<;>cases h
theorem WE {tb:List (Nat×TI)} {pu:Bool} {all:List Oper} {st:St S} {o:Oper} {j:Nat} {b:Bool} {c:Option Bool} {o1:List (Nat×Own S)} {n':Nat} {v:SV} (h:zeroOf tb pu all st o=.a0 j b c o1 n' v):pu=false/\VI tb st o.op=some (j,b,.nm c o1 n' v):=by
 unfold zeroOf at h
 split at h
 ·cases h
 ·split at h
  ·cases h
  ·split at h
   ·rename_i he;cases h;exact ⟨rfl,he⟩
   ·cases h
def TM (t:Nat):List Oper->Bool
 | []=>false
 | o::r=>match o.op,o.dst with
  | .buildSlice _ 0 _,some d=>match Nat.beq d t with
   | true=>true
   | false=>TM t r
  | _,_=>TM t r
def BK (s:St S) (all:Array Oper) (ms:List Nat) (rs:List (Rec S)) (i:Nat) (o:Oper):St S:=
 ⟨pick (LM all o) (G6 s.t rs),oC (B8 ms i) s.o rs,A9 s.n rs,s.sz⟩
def UM (f:Nat->Bool):List (Nat×Own S)->Bool
 | []=>true
 | (i,_)::r=>match f i with
  | true=>UM f r
  | false=>false
def NX (f:Nat->Bool):List Nat->Bool
 | []=>true
 | i::r=>match f i with
  | true=>NX f r
  | false=>false
def OP:List Nat->Bool
 | []=>false
 | _::_=>true
def Wb (own:Bool) (ms:List Nat) (i:Nat):List (Rec S)->Bool
 | []=>true
 | r::rs=>match OP r.cn || (own && r.tk) with
  | false=>Wb own ms i rs
  | true=>match B8 ms i r.i with
   | true=>Wb own ms i rs
   | false=>false
def Fu (m:Nat) (hid:List Nat) (ms:List Nat) (i n:Nat) (rs:List (Rec S)) (cn:List Nat) (gb:List (Nat×Own S)):Bool:=
 NX (fun j=>(EB j hid || Ht j rs) && Nat.ble (j+1) n) cn && UM (fun j=>EB j cn && Nat.ble (j+1) m) gb && Wb (OP cn) ms i rs
def VU (m:Nat) (hid:List Nat) (n:Nat) (ms:List Nat) (i:Nat) (rs:List (Rec S)) (cn:List Nat) (c:Option Bool) (ow:Own S):Option (List Nat×Option Bool×Own S):=match Fu m hid ms i n rs cn [] with
 | true=>some (cn,c,ow)
 | false=>none
def T4 (m:Nat) (fl:Bool) (hid:List Nat) (tb:List (Nat×TI)) (st:St S) (ms:List Nat) (i:Nat) (rs:List (Rec S)) (pu:Bool) (op:Op):Option (List Nat×Option Bool×Own S):=
 match fl,pu with
 | true,false=>match op with
  | .call ⟨.builtin .append,⟨[x,y]⟩,⟨[T,T']⟩⟩=>match Nat.beq T' T,ev st x with
   | true,some (.tr j)=>match Qb tb st T x y with
    | .x c ((_,ow)::_) _ _=>VU m hid st.n ms i rs [j] c ow
    | _=>match DC tb T,ev st y,lk st.o j with
     | some (.slice e _),some (.row k 1),some (.mr κ τ ag E ls)=>match lk tb e,lk st.o k with
      | some te,some (.row E'' 1 1 [.Bv u])=>match lk st.o u,Nat.beq j u,Nat.beq E'' e with
       | some (.mp κ' τ' ag' l),false,true=>match Nat.beq te.sz 1,Nat.beq E e,HF ag' ag,Nat.decEq τ' τ,VX κ' κ with
        | true,true,true,.isTrue h,some ⟨h'⟩=>VU m hid st.n ms i rs [j,u] (some (room te.bs (ls.length+1))) (.mr κ τ ag E (ls++[(h▸h'▸l:List (κ.T S.T×S.T τ))]))
        | _,_,_,_,_=>none
       | _,_,_=>none
      | _,_=>none
     | _,_,_=>none
   | _,_=>none
  | .buildSlice T n ⟨[(0,x)]⟩=>match Nat.beq n 1,ev st x with
   | true,some (.Bv j)=>match YQ tb st T 1 [(0,x)] with
    | .x c ((_,ow)::_) _ _=>VU m hid st.n ms i rs [j] c ow
    | _=>none
   | _,_=>none
  | .slice T x none hi none=>match DC tb T,ev st x with
   | some (.slice _ _),some (.tr j)=>match lk st.o j with
    | some (.mr κ τ ag E ls)=>match IX st ls.length hi with
     | some h=>VU m hid st.n ms i rs [j] (some (decide (0<=h/\h<=ls.length))) (.mr κ τ ag E (ls.take h.toNat))
     | none=>none
    | _=>none
   | _,_=>none
  | _=>none
 | _,_=>none
def ZU (m:Nat) (fl:Bool) (hid:List Nat) (tb:List (Nat×TI)) (st:St S) (ms:List Nat) (i:Nat) (rs:List (Rec S)) (pu:Bool) (op:Op):Option (Nat×Own S):=
 match fl,pu with
 | true,false=>match op with
  | .store T x y=>match ev st x with
   | some (.ptr j _)=>match EB j hid,lk st.o j with
    | true,some (.AN _ _)=>match IF tb st T x y with
     | .SC none j' b=>match Nat.beq j' j,Fu m hid ms i st.n rs [j] [(j,b)] with
      | true,true=>some (j,b)
      | _,_=>none
     | _=>none
    | _,_=>none
   | _=>none
  | _=>none
 | _,_=>none
def He (o':List (Nat×Own S)):List (Nat×Own S)->List Nat
 | []=>[]
 | (i,_)::r=>match lk o' i with
  | some _=>He o' r
  | none=>i::He o' r
def Ep (n:Nat):List (Nat×Own S)->List (Nat×Own S)
 | []=>[]
 | (i,b)::r=>match Nat.ble (i+1) n with
  | true=>(i,b)::Ep n r
  | false=>Ep n r
def Fy (n:Nat):List (Nat×Own S)->List (Nat×Own S)
 | []=>[]
 | (i,b)::r=>match Nat.ble (i+1) n with
  | true=>Fy n r
  | false=>(i,b)::Fy n r
def l7 (o:List (Nat×Own S)) (j:Nat):Bool:=match lk o j with
 | some _=>true
 | none=>false
def YZ (m:List (Nat×Nat)) (bn:Nat) (o:List (Nat×Own S)):Bool:=match N6 m bn with
 | some l=>NX (l7 o) l
 | none=>false
def QO:List SV->List SV->Bool
 | [],[]=>true
 | .ptr i k::r,.ptr i' k'::r'=>match Nat.beq i i',Nat.beq k k' with
  | true,true=>QO r r'
  | _,_=>false
 | _,_=>false
def ZC:Own S->Own S->Bool
 | .AN T cs,.AN T' cs'=>match Nat.beq T T' with
  | true=>QO cs cs'
  | false=>false
 | _,_=>false
def Q7 (o g:List (Nat×Own S)) (u:Nat):Bool:=match lk g u,lk o u with
 | some b,some b'=>ZC b b'
 | _,_=>false
def KR (f:Nat->Bool):List Nat->List Nat
 | []=>[]
 | i::r=>match f i with
  | true=>KR f r
  | false=>i::KR f r
def Mv (po o g:List (Nat×Own S)):List Nat:=KR (Q7 o g) (He po o)
def Ji (o g:List (Nat×Own S)):List (Nat×Own S):=Iu (Q7 o g) g
def R4 {ι:Nat->Type} {ρ:Type} (m:Nat) (hid:List Nat) (ms:List Nat) (rs:List (Rec S)) (st:St S) (i:Nat) (o:Oper) (c:By S) (ps:PS S) (y:c.rs.D S) (k:Rec S->Tr ι ρ):Tr ι ρ:=
 match c.rs.enc y (HR c.bn c.rs) with
 | (rs',o',n')=>match YZ ps.m c.bn st.o,CN st.n (st.n+(n' -c.bn)) (Fy st.n (Dl (Bh c.bn ps.m st.n) o')),Fu m hid ms i st.n rs (Mv ps.o st.o (Ep st.n (Dl (Bh c.bn ps.m st.n) o'))) (Ji st.o (Ep st.n (Dl (Bh c.bn ps.m st.n) o'))) with
  | true,true,true=>k ⟨i,o,false,Fy st.n (Dl (Bh c.bn ps.m st.n) o'),st.n,st.n+(n' -c.bn),Az (CQ (Bh c.bn ps.m st.n) rs'),Mv ps.o st.o (Ep st.n (Dl (Bh c.bn ps.m st.n) o')),Ji st.o (Ep st.n (Dl (Bh c.bn ps.m st.n) o')),true⟩
  | _,_,_=>.stuck 55
def Tl:SV->SV->Bool
 | .ptr a b,.ptr a' b'=>match Nat.beq a a',Nat.beq b b' with
  | true,true=>true
  | _,_=>false
 | .Bv a,.Bv a'=>Nat.beq a a'
 | _,_=>false
def eB (r:R S) (x:SV):Bool:=match r with
 | .val none y=>Tl x y
 | _=>false
def Og (tb:List (Nat×TI)) (T off:Nat) (x:SV):Own S->Bool
 | .AN _ cs=>match lk tb T with
  | some t=>eB (S:=S) (ld t cs off) x
  | none=>false
 | _=>false
def Rx (tb:List (Nat×TI)) (T off:Nat) (x:SV) (j:Nat):List (Rec S)->Bool
 | []=>true
 | r::rs=>match EB j r.cn with
  | false=>Rx tb T off x j rs
  | true=>match lk r.gb j with
   | some o=>match Og tb T off x o with
    | true=>Rx tb T off x j rs
    | false=>false
   | none=>false
def Tm (s:St S) (tb:List (Nat×TI)) (st:St S) (rs:List (Rec S)):Op->Option SV
 | .load T x=>match ev st x with
  | some (.ptr j off)=>match lk s.o j with
   | some (.AN U cs)=>match cs[off]? with
    | some v=>match Og (S:=S) tb T off v (.AN U cs),Rx tb T off v j rs with
     | true,true=>some v
     | _,_=>none
    | _=>none
   | _=>none
  | _=>none
 | _=>none
def Wm (all:List Oper):List (Nat×Bool)->Bool
 | []=>false
 | (_,true)::r=>Wm all r
 | (i,false)::r=>match nth all i with
  | some o=>match o.op with
   | .call ⟨.builtin .append,⟨[.tmp t,_]⟩,_⟩=>match TM t all with
    | true=>Wm all r
    | false=>true
   | _=>Wm all r
  | none=>Wm all r
def CU {ι:Nat->Type} {ρ:Type} (fl:Bool) (hid:List Nat) (tb:List (Nat×TI)) (ct:List (By S)) (s:St S) (all:Array Oper) (ms:List Nat) (fin:List (Rec S)->Tr ι ρ):List (Nat×Bool)->List (Rec S)->Tr ι ρ
 | [],rs=>fin rs
 | (i,pu)::t,rs=>match nth all.toList i with
  | none=>.stuck 40
  | some o=>match EN o.dst s.sz with
   | false=>.stuck 41
   | true=>match Bd (seenAt fl hid s all ms rs i o pu) all o with
    | .no=>CU fl hid tb ct s all ms fin t (rs++[⟨i,o,pu,[],A9 s.n rs,A9 s.n rs,.v (.tuple #[]),[],[],false⟩])
    | .yes=>match zeroOf tb pu all.toList (seenAt fl hid s all ms rs i o false) o with
     | .b0 e=>Eo all ⟨i,o,false,[(A9 s.n rs,.AN e [])],A9 s.n rs,A9 s.n rs+1,.view (A9 s.n rs) 0 0 0,[],[],false⟩ fun r=>CU fl hid tb ct s all ms fin t (rs++[r])
     | .a0 j b c o1 n' v=>match CN (A9 s.n rs) n' o1 with
      | true=>LR c (.ite b (Eo all ⟨i,o,false,[],A9 s.n rs,A9 s.n rs,.view j 0 0 0,[],[],false⟩ fun r=>CU fl hid tb ct s all ms fin t (rs++[r])) (Eo all ⟨i,o,false,o1,A9 s.n rs,n',v,[],[],false⟩ fun r=>CU fl hid tb ct s all ms fin t (rs++[r])))
      | false=>.stuck 49
     | .no=>match T4 s.n fl hid tb (BK s all ms rs i o) ms i rs pu o.op with
      | some (cn,c,ow)=>LR c (CU fl hid tb ct s all ms fin t (rs++[⟨i,o,false,[(A9 s.n rs,ow)],A9 s.n rs,A9 s.n rs+1,.tr (A9 s.n rs),cn,[],true⟩]))
      | none=>match ZU s.n fl hid tb (BK s all ms rs i o) ms i rs pu o.op with
      | some (j,b)=>CU fl hid tb ct s all ms fin t (rs++[⟨i,o,false,[],A9 s.n rs,A9 s.n rs,.v (.tuple #[]),[j],[(j,b)],true⟩])
      | none=>match callee (seenAt fl hid s all ms rs i o pu) o.op with
      | some (f,args)=>match pu with
       | true=>.stuck 42
       | false=>R9 f args (Oz fl hid rs (oC (B8 ms i) s.o rs)) (fun c x ps=>match c.sp.RH,Nat.beq c.bn 0 with
        | true,true=>match c.out with
         | .iC g=>recC (seenAt fl hid s all ms rs i o false) i o c ps (g x) fun r=>Eo all r fun r=>CU fl hid tb ct s all ms fin t (rs++[r])
         | .pre p g=>.Qi (p x) (recC (seenAt fl hid s all ms rs i o false) i o c ps (g x) fun r=>Eo all r fun r=>CU fl hid tb ct s all ms fin t (rs++[r]))
         | .opt m=>.IX (m x) fun y=>recC (seenAt fl hid s all ms rs i o false) i o c ps y fun r=>Eo all r fun r=>CU fl hid tb ct s all ms fin t (rs++[r])
        | _,_=>.stuck 43) (match fl with
        | false=>.stuck (10000+f)
        | true=>R9 f args (oC (B8 ms i) s.o rs) (fun c x ps=>match c.out with
         | .iC g=>R4 s.n hid ms rs (BK s all ms rs i o) i o c ps (g x) fun r=>Eo all r fun r=>CU fl hid tb ct s all ms fin t (rs++[r])
         | .pre p g=>.Qi (p x) (R4 s.n hid ms rs (BK s all ms rs i o) i o c ps (g x) fun r=>Eo all r fun r=>CU fl hid tb ct s all ms fin t (rs++[r]))
         | .opt m=>.IX (m x) fun y=>R4 s.n hid ms rs (BK s all ms rs i o) i o c ps y fun r=>Eo all r fun r=>CU fl hid tb ct s all ms fin t (rs++[r])) (.stuck (10000+f)) ct) ct
      | none=>match evalOp tb (seenAt fl hid s all ms rs i o pu) o.op with
       | .val c x=>LR c (Eo all ⟨i,o,pu,[],A9 s.n rs,A9 s.n rs,x,[],[],false⟩ fun r=>CU fl hid tb ct s all ms fin t (rs++[r]))
       | .new b=>match pu with
        | true=>.stuck 44
        | false=>Eo all ⟨i,o,false,[(A9 s.n rs,b)],A9 s.n rs,A9 s.n rs+1,GX b (A9 s.n rs),[],[],false⟩ fun r=>CU fl hid tb ct s all ms fin t (rs++[r])
       | .nm c o1 n' v=>match pu,CN (A9 s.n rs) n' o1 with
        | false,true=>LR c (Eo all ⟨i,o,false,o1,A9 s.n rs,n',v,[],[],false⟩ fun r=>CU fl hid tb ct s all ms fin t (rs++[r]))
        | _,_=>.stuck 45
       | .stop=>match pu with
        | true=>Yp tb (seenAt fl hid s all ms rs i o false) i o (.stuck (200000000+1000*i+o.dst.getD 0)) fun r=>Eo all r fun r=>CU fl hid tb ct s all ms fin t (rs++[r])
        | false=>match fl,Fu s.n hid ms i (A9 s.n rs) rs [] [],evalOp tb (BK s all ms rs i o) o.op with
         | true,true,.val c x=>LR c (Eo all ⟨i,o,false,[],A9 s.n rs,A9 s.n rs,x,[],[],true⟩ fun r=>CU fl hid tb ct s all ms fin t (rs++[r]))
         | true,true,.nm c o1 n' v=>match CN (A9 s.n rs) n' o1 with
          | true=>LR c (Eo all ⟨i,o,false,o1,A9 s.n rs,n',v,[],[],true⟩ fun r=>CU fl hid tb ct s all ms fin t (rs++[r]))
          | false=>.stuck 56
         | _,_,_=>match fl,Tm s tb (BK s all ms rs i o) rs o.op with
          | true,some x=>Eo all ⟨i,o,false,[],A9 s.n rs,A9 s.n rs,x,[],[],true⟩ fun r=>CU fl hid tb ct s all ms fin t (rs++[r])
          | _,_=>.stuck (200000000+1000*i+o.dst.getD 0)
       | _=>.stuck (200000000+1000*i+o.dst.getD 0)
    | .split _ _=>.stuck 47
    | .gk=>.stuck 48
def Ft:List Nat->List Nat
 | []=>[]
 | i::r=>match Nat.ble 1000000 i with
  | true=>Ft r
  | false=>i::Ft r
def Z6:List Nat->List Nat
 | []=>[]
 | i::r=>match Nat.ble 1000000 i with
  | true=>(i -1000000)::Z6 r
  | false=>Z6 r
def QT:List (Nat×Own S)->List Nat
 | []=>[]
 | (i,b)::r=>match jA b with
  | true=>i::QT r
  | false=>QT r
mutual
def U9:SV->List Nat
 | .v _=>[]
 | .b _=>[]
 | .ptr i _=>[i]
 | .row i _=>[i]
 | .tr i=>[i]
 | .ep i _ _ _=>[i]
 | .view i _ _ _=>[i]
 | .Bv i=>[i]
 | .mk i _=>[i]
 | .hm i=>[i]
 | .h i=>[i]
 | .vp i _=>[i]
 | .ap i _ _ _=>[i]
 | .pr i _ _ _=>[i]
 | .pp i _ _ _ _ _ _=>[i]
 | .agg cs=>GZ cs
 | .Gg cs=>GZ cs
 | .fn _ cs=>GZ cs
def GZ:List SV->List Nat
 | []=>[]
 | x::r=>U9 x++GZ r
end
def Nk (o:List (Nat×Own S)):Nat->List Nat->List Nat
 | 0,_=>[]
 | _+1,[]=>[]
 | f+1,i::r=>match lk o i with
  | some (.AN _ cs)=>i::(Nk o f (GZ cs)++Nk o f r)
  | some _=>i::Nk o f r
  | none=>Nk o f r
def IV (t:List (Nat×SV)):List Nat->List Nat
 | []=>[]
 | u::r=>match lk t u with
  | some x=>U9 x++IV t r
  | none=>IV t r
def PZ (o:List (Nat×Own S)):List Nat->List Nat
 | []=>[]
 | i::r=>match lk o i with
  | some (.AN _ cs)=>GZ cs++PZ o r
  | _=>PZ o r
def My (o:List (Nat×Own S)) (t:List (Nat×SV)):List Nat->List Nat
 | []=>[]
 | u::r=>match Nat.ble 1000000 u with
  | true=>PZ o (IV t [u -1000000])++My o t r
  | false=>IV t [u]++My o t r
def nj:Bool->Bool->Bool
 | true,_=>true
 | false,b=>b
def j4:List Nat->Bool
 | []=>false
 | _::_=>true
def dX (all:List Oper) (q:Ir):Bool:=nj (j4 (Z6 q.H9)) (Wm all q.pre)
def b9 (s:St S) (all:List Oper) (q:Ir):List Nat:=match dX all q with
 | true=>QT s.o++Nk s.o 30 (My s.o s.t (Z6 q.H9))
 | false=>[]
def LJ (all:Array Oper):List Nat->List Oper
 | []=>[]
 | i::r=>match nth all.toList i with
  | some o=>o::LJ all r
  | none=>LJ all r
def Bj:Nat->List SV->List (Nat×SV)
 | _,[]=>[]
 | i,x::r=>(i,x)::Bj (i+1) r
def UI:List Oper->Bool
 | []=>false
 | o::r=>match Er o with
  | true=>true
  | false=>UI r
def lC (s:St S):Op->List Nat
 | .mapUpdate _ _ _ v=>match ev s v with
  | some x=>Tn [x]
  | none=>[]
 | .insert _ _ _ v=>match ev s v with
  | some x=>Tn [x]
  | none=>[]
 | _=>[]
def exec {ι:Nat->Type} {ρ:Type} (E:Env S):Nat->Fr->(Nat->List Be->St S->Tr ι ρ)->(Bool->St S->Tr ι ρ)->Bool->List Be->St S->Tr ι ρ
 | 0,_,_,_,_,_,_=>.stuck 4
 | _+1,_,_,or',_,[],s=>or' false s
 | n+1,fr,oc,or',go,.ops _ []::k,s=>exec E n fr oc or' go k s
 | n+1,fr,oc,or',go,.ops all (o::r)::k,s=>match Bd s all o with
  | .gk=>.stuck 6
  | .split d c=>.ite c (exec E n fr oc or' go (.ops all (o::r)::k) { s with t:=pt s.t d (.v (.bool true)) }) (exec E n fr oc or' go (.ops all (o::r)::k) { s with t:=pt s.t d (.v (.bool false)) })
  | .no=>match s.put o.dst (.v (.tuple #[])) with
   | some s'=>exec E n fr oc or' go (.ops all r::k) s'
   | none=>.stuck 7
  | .yes=>match callee s o.op with
   | some (f,args)=>match lk E.inl f with
    | some q=>match Nat.ble args.length q.sz with
     | true=>exec E n ⟨false,q.dr⟩ (fun _ _ _=>.stuck 50) (fun _ s'=>match La E.tb s' q.res with
      | some vs=>match St.put { s with o:=s'.o,n:=s'.n } o.dst (Az vs) with
       | some s''=>exec E n fr oc or' go (.ops all r::k) s''
       | none=>.stuck 51
      | none=>.stuck 52) false [.code [] q.body] ⟨Bj 0 args,s.o,s.n,q.sz⟩
     | false=>.stuck 53
    | none=>R9 f args s.o (fun c x ps=>match c.out with
     | .iC g=>OY s c ps o.dst (g x) (fun s'=>exec E n fr oc or' go (.ops all r::k) s') (.stuck 8)
     | .pre p g=>.Qi (p x) (OY s c ps o.dst (g x) (fun s'=>exec E n fr oc or' go (.ops all r::k) s') (.stuck 8))
     | .opt m=>.IX (m x) fun y=>OY s c ps o.dst y (fun s'=>exec E n fr oc or' go (.ops all r::k) s') (.stuck 8)) (match Tn args with
      | []=>.stuck (10000+f)
      | l=>exec E n fr oc or' go (.ops all (o::r)::k) (Fc s l)) E.ct
   | none=>match evalOp E.tb s o.op with
    | .val c x=>match s.put o.dst x with
     | some s'=>LR c (exec E n fr oc or' go (.ops all r::k) s')
     | none=>.stuck 9
    | .new b=>match Y4 E.tb b with
     | []=>match St.put { s with o:=(s.n,b)::s.o,n:=s.n+1 } o.dst (GX b s.n) with
      | some s'=>exec E n fr oc or' go (.ops all r::k) s'
      | none=>.stuck 9
     | j::l=>exec E n fr oc or' go (.ops all (o::r)::k) (Fc s (j::l))
    | .SC c i b=>match St.put { s with o:=pt s.o i b } o.dst (.v (.tuple #[])) with
     | some s'=>LR c (exec E n fr oc or' go (.ops all r::k) s')
     | none=>.stuck 9
    | .nm c o1 n' v=>match St.put { s with o:=o1++s.o,n:=n' } o.dst v with
     | some s'=>LR c (exec E n fr oc or' go (.ops all r::k) s')
     | none=>.stuck 9
    | .x c o' n' v=>match St.put { s with o:=o',n:=n' } o.dst v with
     | some s'=>LR c (exec E n fr oc or' go (.ops all r::k) s')
     | none=>.stuck 9
    | .stop=>match lC s o.op with
     | []=>.stuck (100000000+1000*r.length+o.dst.getD 0)
     | j::l=>exec E n fr oc or' go (.ops all (o::r)::k) (Fc s (j::l))
 | n+1,fr,oc,or',go,.AN _::k,s=>exec E n fr oc or' go k s
 | n+1,fr,oc,or',go,.sc _ _::k,s=>exec E n fr oc or' go k s
 | n+1,fr,oc,or',go,.again a c::k,s=>exec E n fr oc or' go (.code a c::.again a c::k) s
 | n+1,fr,oc,or',go,.code a (.seq x y)::k,s=>exec E n fr oc or' go (.code (0::a) x::.code (1::a) y::k) s
 | n+1,fr,oc,or',go,.code _ .skip::k,s=>exec E n fr oc or' go k s
 | n+1,fr,oc,or',go,.code _ (.label _)::k,s=>exec E n fr oc or' go k s
 | n+1,fr,oc,or',go,.code a (.block id x)::k,s=>exec E n fr oc or' go (.code (0::a) x::.AN id::k) s
 | n+1,fr,oc,or',go,.code a (.scope x)::k,s=>exec E n fr oc or' go (.code (0::a) x::.sc (0::a) x::k) s
 | n+1,fr,oc,or',go,.code a (.loop x)::k,s=>exec E n fr oc or' go (.again (0::a) x::k) s
 | n+1,fr,oc,or',go,.code a (.region id ops d)::k,s=>match (match go with|true=>false|false=>match fr.main with|true=>ix E id|false=>false) with
  | true=>oc id (.code a (.region id ops d)::k) s
  | false=>match UI ops.toList with
   | true=>oc 999998 (.code a (.region id ops d)::k) s
   | false=>match d with
   | false=>exec E n fr oc or' false (.ops ops ops.toList::k) s
   | true=>match lk fr.dr id with
    | some q=>match q.fz with
     | false=>CU (dX ops.toList q) (b9 s ops.toList q) E.tb E.ct s ops q.ms (fun rs=>(behind s rs).fc fun s1=>exec E n fr oc or' false (.ops ops (LJ ops (Ft q.H9))::k) s1) q.pre []
     | true=>CU (dX ops.toList q) (b9 (Fc s (bT E.tb s q)) ops.toList q) E.tb E.ct (Fc s (bT E.tb s q)) ops q.ms (fun rs=>(behind (Fc s (bT E.tb s q)) rs).fc fun s1=>exec E n fr oc or' false (.ops ops (LJ ops (Ft q.H9))::k) s1) q.pre []
    | none=>.stuck (30000+id)
 | n+1,fr,oc,or',go,.code _ (.exit id)::k,s=>match GK id k with
  | some k'=>exec E n fr oc or' go k' s
  | none=>.stuck 10
 | n+1,fr,oc,or',go,.code _ (.goto l)::k,s=>match GM l k with
  | some k'=>exec E n fr oc or' go k' s
  | none=>.stuck 11
 | n+1,fr,oc,or',go,.code a (.cond x t e)::k,s=>match ev s x with
  | some (.v (.bool true))=>exec E n fr oc or' go (.code (0::a) t::k) s
  | some (.v (.bool false))=>exec E n fr oc or' go (.code (1::a) e::k) s
  | some (.b c)=>.ite c (exec E n fr oc or' go (.code (0::a) t::k) s) (exec E n fr oc or' go (.code (1::a) e::k) s)
  | _=>.stuck 12
 | _+1,fr,oc,or',_,.code _ .ret::_,s=>or' true s
 | _+1,fr,oc,or',_,.code a (.rangeFunc g ps x y)::k,s=>oc 999999 (.code a (.rangeFunc g ps x y)::k) s
 | _+1,fr,oc,or',_,.code _ (.refuse _)::_,_=>.stuck 14
def H7 (E:Env S) (n:Nat) (q:Cut) (x:q.sp.D S):Tr E.ι E.ρ:=
 match Cb E.body q.key with
 | some k=>match q.sp.enc x q.bn with
  | (vs,o,m)=>exec E n ⟨true,E.dr⟩ (R5 E) (fun _=>R6 E) true k ⟨q.ts.zip vs,o,m,E.sz⟩
 | none=>.stuck 15
def H6 (E:Env S) (n:Nat) (sp:Spec) (x:sp.D S):Tr E.ι E.ρ:=
 match sp.enc x E.bn with
 | (vs,o,m)=>exec E n ⟨true,E.dr⟩ (R5 E) (fun _=>R6 E) false [.code [] E.body] ⟨Bj 0 vs,o,m,E.sz⟩
end
end Go.En
