/-
 Trees of what a piece of code comes to (Tr); contracts of functions (Ctr); the evaluation of code up to its next cuts (exec).
-/
import Derived.Test.YtkpggdcpaeanaaaGreatDoorEn10
set_option linter.all false
namespace Go.En
open Go.RowKit
inductive Tr (ι:Nat->Type) (ρ:Type):Type 1 where
 | ret (r:ρ)
 | cut (c:Nat) (x:ι c)
 | ite (b:Bool) (t e:Tr ι ρ)
 | YP (p:Bool) (t:Tr ι ρ)
 | H5 {B:Type} (m:Option B) (k:B->Tr ι ρ)
 | stuck (why:Nat)
section
variable {ι:Nat->Type} {ρ:Type}
def Tr.eval (M: ∀ c,ι c->Option ρ):Tr ι ρ->Option ρ
 | .ret r=>some r
 | .cut c x=>M c x
 | .ite b t e=>if b=true then t.eval M else e.eval M
 | .YP p t=>if p=true then t.eval M else none
 | .H5 m k=>m.bind fun x=>(k x).eval M
 | .stuck _=>none
def EK (step: ∀ c,ι c->Tr ι ρ):Nat-> ∀ c,ι c->Option ρ
 | 0,_,_=>none
 | n+1,c,x=>(step c x).eval (EK step n)
def Tr.Holds (Kc: ∀ c,ι c->Prop) (Kr:ρ->Prop):Tr ι ρ->Prop
 | .ret r=>Kr r
 | .cut c x=>Kc c x
 | .ite b t e=>(b=true->t.Holds Kc Kr)/\(b=false->e.Holds Kc Kr)
 | .YP p t=>p=true/\t.Holds Kc Kr
 | .H5 m k=> ∃ x,m=some x/\(k x).Holds Kc Kr
 | .stuck _=>False
theorem Tr.A5 {M: ∀ c,ι c->Option ρ} {r:ρ}: ∀ {t:Tr ι ρ},t.eval M=some r->t.Holds (fun c x=>M c x=some r) (· =r)
 | .ret r',h=>by simp only [Tr.eval,Option.some.injEq] at h;exact h
 | .cut c x,h=>h
 | .ite b t e,h=>by
  simp only [Tr.eval] at h
  refine ⟨fun hb=>?_,fun hb=>?_⟩
  ·rw [if_pos hb] at h;exact A5 h
  ·rw [if_neg (by simp [hb])] at h;exact A5 h
 | .YP p t,h=>by
  simp only [Tr.eval] at h
  split at h
  ·rename_i hp;exact ⟨hp,A5 h⟩
  ·cases h
 | .H5 m k,h=>by
  simp only [Tr.eval] at h
  obtain ⟨x,h1,h2⟩:=Option.bind_eq_some_iff.1 h
  exact ⟨x,h1,A5 h2⟩
 | .stuck _,h=>by simp [Tr.eval] at h
theorem Tr.Holds.mono {Kc Kc': ∀ c,ι c->Prop} {Kr Kr':ρ->Prop} (hc: ∀ c x,Kc c x->Kc' c x) (hr: ∀ r,Kr r->Kr' r): ∀ {t:Tr ι ρ},t.Holds Kc Kr->t.Holds Kc' Kr'
 | .ret r',h=>hr _ h
 | .cut c x,h=>hc c x h
 | .ite b t e,h=>⟨fun hb=>mono hc hr (h.1 hb),fun hb=>mono hc hr (h.2 hb)⟩
 | .YP p t,h=>⟨h.1,mono hc hr h.2⟩
 | .H5 m k,h=>let ⟨x,h1,h2⟩:=h;⟨x,h1,mono hc hr h2⟩
 | .stuck _,h=>h
end
inductive Out (A B:Type) where
 | Kw (g:A->B)
 | pre (p:A->Bool) (g:A->B)
 | opt (m:A->Option B)
def Out.gives {A B:Type}:Out A B->A->B->Prop
 | .Kw g,x,y=>g x=y
 | .pre p g,x,y=>p x=true/\g x=y
 | .opt m,x,y=>m x=some y
def cd (bn:Nat):List GK->Nat
 | []=>0
 | b::r=>match Nat.ble (b.i+1) bn with
  | true=>cd bn r
  | false=>cd bn r+1
def G0 (bn:Nat) (q:Spec):Nat:=bn+cd bn q.bx
theorem T8 (bn:Nat) (q:Spec):bn<=G0 bn q:=Nat.le_add_right _ _
structure Bp (S:Aj) where
 f:Nat
 bn:Nat
 sp:Spec
 rs:Spec
 flat:Bool
 out:Out (sp.D S) (rs.D S)
structure Cut where
 key:List (List Nat)
 ts:List Nat
 bn:Nat
 sp:Spec
def Gq:Nat->Code->Option Code
 | 0,.seq x _=>some x
 | 1,.seq _ y=>some y
 | 0,.cond _ x _=>some x
 | 1,.cond _ _ y=>some y
 | 0,.block _ x=>some x
 | 0,.loop x=>some x
 | 0,.scope x=>some x
 | 0,.rangeFunc _ _ x _=>some x
 | 1,.rangeFunc _ _ _ y=>some y
 | l+2,c=>findLabel c l
 | _,_=>none
def G2 (body:Code):List Nat->Option Code
 | []=>some body
 | i::a=>match G2 body a with
  | some c=>Gq i c
  | none=>none
inductive BS where
 | code (a:List Nat) (c:Code)
 | AQ (id:Nat)
 | ops (all:Array Oper) (rest:List Oper)
 | again (a:List Nat) (c:Code)
 | sc (a:List Nat) (c:Code)
def BS.it:BS->It
 | .code _ c=>.code c
 | .AQ id=>.AQ id
 | .ops all r=>.ops all r
 | .again _ c=>.again c
 | .sc _ c=>.sc c
def BS.ok (body:Code):BS->Prop
 | .code a c=>G2 body a=some c
 | .again a c=>G2 body a=some c
 | .sc a c=>G2 body a=some c
 | _=>True
def BS.key:BS->List Nat
 | .code a _=>0::a
 | .AQ id=>[1,id]
 | .again a _=>2::a
 | .sc a _=>3::a
 | .ops _ _=>[4]
def Kq (body:Code):List Nat->Option BS
 | 0::a=>match G2 body a with
  | some c=>some (.code a c)
  | none=>none
 | [1,id]=>some (.AQ id)
 | 2::a=>match G2 body a with
  | some c=>some (.again a c)
  | none=>none
 | 3::a=>match G2 body a with
  | some c=>some (.sc a c)
  | none=>none
 | _=>none
def Cv (body:Code):List (List Nat)->Option (List BS)
 | []=>some []
 | x::r=>match Kq body x with
  | some i=>match Cv body r with
   | some l=>some (i::l)
   | none=>none
  | none=>none
def bt:List Nat->List Nat->Bool
 | [],[]=>true
 | x::r,y::t=>match Nat.beq x y with
  | true=>bt r t
  | false=>false
 | _,_=>false
def aG:List BS->List (List Nat)->Bool
 | [],[]=>true
 | x::r,y::t=>match bt x.key y with
  | true=>aG r t
  | false=>false
 | _,_=>false
def Fv (id:Nat):List BS->Option (List BS)
 | []=>none
 | .AQ id'::k=>match Nat.beq id id' with
  | true=>some k
  | false=>Fv id k
 | .code _ _::k=>Fv id k
 | .ops _ _::k=>Fv id k
 | .again _ _::k=>Fv id k
 | .sc _ _::k=>Fv id k
def Fx (l:Nat):List BS->Option (List BS)
 | []=>none
 | .sc a c::k=>match findLabel c l with
  | some rest=>some (.code ((l+2)::a) rest::.sc a c::k)
  | none=>Fx l k
 | .code _ _::k=>Fx l k
 | .ops _ _::k=>Fx l k
 | .again _ _::k=>Fx l k
 | .AQ _::k=>Fx l k
structure IS where
 pre:List (Nat×Bool)
 Hi:List Nat
 ms:List Nat
 fz:Bool
structure jG where
 body:Code
 sz:Nat
 res:List ResultVar
 dr:List (Nat×IS)
structure Fr where
 main:Bool
 dr:List (Nat×IS)
structure Env (S:Aj) where
 inl:List (Nat×jG)
 tb:List (Nat×TI)
 ct:List (Bp S)
 Cs:List (Nat×Cut)
 bn:Nat
 res:List ResultVar
 rs:Spec
 sz:Nat
 dr:List (Nat×IS)
 body:Code
section
variable {S:Aj}
def bf (Cs:List (Nat×Cut)) (c:Nat):Type:=match lk Cs c with
 | some q=>q.sp.D S
 | none=>Empty
def Env.ι (E:Env S) (c:Nat):Type:=bf (S:=S) E.Cs c
def Env.ρ (E:Env S):Type:=E.rs.D S
def Ds (E:Env S) (c:Nat) (q:Cut) (h:lk E.Cs c=some q) (x:q.sp.D S):E.ι c:=by
 unfold Env.ι bf;rw [h];exact x
def BW (bn:Nat) (m:List (Nat×Nat)) (n0:Nat) (i:Nat):Nat:=match Nat.ble (i+1) bn with
 | true=>match lk m i with
  | some j=>j
  | none=>0
 | false=>n0+(i -bn)
mutual
def SV.Iu (r:Nat->Nat):SV->SV
 | .v x=>.v x
 | .b c=>.b c
 | .ptr i off=>.ptr (r i) off
 | .row i n=>.row (r i) n
 | .tr i=>.tr (r i)
 | .ep i z e off=>.ep (r i) z e off
 | .view i off len cap=>.view (r i) off len cap
 | .Bm i=>.Bm (r i)
 | .mk i e=>.mk (r i) e
 | .hm i=>.hm (r i)
 | .h i=>.h (r i)
 | .vp i off=>.vp (r i) off
 | .ap i n e off=>.ap (r i) n e off
 | .pr i z e off=>.pr (r i) z e off
 | .pp i z e off y j q=>.pp (r i) z e off y j q
 | .agg cs=>.agg (CD r cs)
 | .GI cs=>.GI (CD r cs)
 | .fn f cs=>.fn f (CD r cs)
def CD (r:Nat->Nat):List SV->List SV
 | []=>[]
 | x::t=>x.Iu r::CD r t
end
def Own.Iu (r:Nat->Nat):Own S->Own S
 | .AQ T cs=>.AQ T (CD r cs)
 | .row T z n cs=>.row T z n (CD r cs)
 | .vu cs=>.vu (CD r cs)
 | .tr τ E l=>.tr τ E l
 | .sl τ l=>.sl τ l
 | .obj p=>.obj p
 | .any=>.any
 | .dp τ E l=>.dp τ E l
 | .mp κ τ ag l=>.mp κ τ ag l
 | .mr κ τ ag E l=>.mr κ τ ag E l
def DY (r:Nat->Nat):List (Nat×Own S)->List (Nat×Own S)
 | []=>[]
 | (i,b)::t=>(r i,b.Iu r)::DY r t
def QS:Nat->List (Nat×Nat)
 | 0=>[]
 | n+1=>(n,n)::QS n
def Ap:List SV->SV
 | [x]=>x
 | l=>.GI l
def callee (s:St S):Op->Option (Nat×List SV)
 | .call ⟨.value f,⟨args⟩,_⟩=>match ev s f with
  | some (.fn g caps)=>match HD s args with
   | some l=>match Nat.ble 1000000 g with
    | true=>some (g -1000000,caps++l)
    | false=>some (g,l++caps)
   | none=>none
  | some (.v (.func (.func g) ⟨[]⟩ ⟨caps⟩))=>match HD s args with
   | some l=>some (g,l++caps.map .v)
   | none=>none
  | _=>none
 | _=>none
def RJ {α:Type 1} (f:Nat) (args:List SV) (o:List (Nat×Own S)) (k:(c:Bp S)->c.sp.D S->PS S->α) (fail:α):List (Bp S)->α
 | []=>fail
 | c::r=>match Nat.beq c.f f with
  | true=>match c.sp.parse c.flat args o [] c.bn with
   | some (x,ps)=>k c x ps
   | none=>RJ f args o k fail r
  | false=>RJ f args o k fail r
def nth {α:Type}:List α->Nat->Option α
 | [],_=>none
 | x::_,0=>some x
 | _::r,n+1=>nth r n
theorem Fl {α:Type}: ∀ (l:List α) (n:Nat),nth l n=l[n]?
 | [],_=>by simp [nth]
 | _::_,0=>by simp [nth]
 | _::r,n+1=>by simp [nth,Fl r n]
inductive Wn where
 | yes
 | no
 | split (d:Nat) (c:Bool)
 | eO
def Bj (s:St S) (all:Array Oper) (o:Oper):Wn:=
 match o.guard with
 | none=>.yes
 | some (j,want)=>match nth all.toList j with
  | some q=>match q.dst with
   | some d=>match lk s.t d with
    | some (.v (.bool true))=>match want with
     | true=>.yes
     | false=>.no
    | some (.v (.bool false))=>match want with
     | true=>.no
     | false=>.yes
    | some (.v (.tuple ⟨[]⟩))=>.no
    | some (.b c)=>.split d c
    | _=>.eO
   | none=>.eO
  | none=>.eO
def K2 (tb:List (Nat×TI)) (s:St S):List ResultVar->Option (List SV)
 | []=>some []
 | .tmp t::r=>match lk s.t t with
  | some x=>match K2 tb s r with
   | some l=>some (x::l)
   | none=>none
  | none=>none
 | .cell t T::r=>match IX tb s T (.tmp t) with
  | .val none x=>match K2 tb s r with
   | some l=>some (x::l)
   | none=>none
  | _=>none
def Fh (s:St S):List Nat->Option (List SV)
 | []=>some []
 | t::r=>match lk s.t t with
  | some x=>match Fh s r with
   | some l=>some (x::l)
   | none=>none
  | none=>none
def Ky {ι:Nat->Type} {ρ:Type} (c:Option Bool) (t:Tr ι ρ):Tr ι ρ:=match c with
 | none=>t
 | some b=>.YP b t
def NW (m:List (Nat×Nat)):Nat->Option (List Nat)
 | 0=>some []
 | i+1=>match lk m i with
  | some j=>match NW m i with
   | some l=>some (j::l)
   | none=>none
  | none=>none
def S9 (n:Nat):List Nat->Bool
 | []=>true
 | j::r=>match Nat.ble (j+1) n with
  | true=>S9 n r
  | false=>false
def ef (m:List (Nat×Nat)) (bn n:Nat):Bool:=match NW m bn with
 | some l=>S9 n l
 | none=>false
def fN {α:Type 1} (n:Nat) (k:Nat->α):α:=match n with
 | 0=>k 0
 | m+1=>k (m+1)
theorem MI {α:Type 1} (n:Nat) (k:Nat->α):fN n k=k n:=by cases n<;>rfl
def SV.fc {α:Type 1}:SV->(SV->α)->α
 | .v x,k=>k (.v x)
 | .b c,k=>k (.b c)
 | .ptr i off,k=>fN i fun i=>k (.ptr i off)
 | .row i n,k=>fN i fun i=>k (.row i n)
 | .tr i,k=>fN i fun i=>k (.tr i)
 | .ep i z e off,k=>fN i fun i=>k (.ep i z e off)
 | .view i off len cap,k=>fN i fun i=>k (.view i off len cap)
 | .Bm i,k=>fN i fun i=>k (.Bm i)
 | .h i,k=>fN i fun i=>k (.h i)
 | .vp i off,k=>fN i fun i=>k (.vp i off)
 | .ap i n e off,k=>fN i fun i=>k (.ap i n e off)
 | .pr i z e off,k=>fN i fun i=>k (.pr i z e off)
 | .pp i z e off y j q,k=>fN i fun i=>k (.pp i z e off y j q)
 | .agg cs,k=>k (.agg cs)
 | .GI cs,k=>k (.GI cs)
 | .fn f cs,k=>k (.fn f cs)
 | .mk i e,k=>fN i fun i=>k (.mk i e)
 | .hm i,k=>fN i fun i=>k (.hm i)
theorem SV.FQ {α:Type 1} (x:SV) (k:SV->α):x.fc k=k x:=by cases x<;>simp only [SV.fc,MI]
def ec {α:Type 1}:List SV->(List SV->α)->α
 | [],k=>k []
 | x::r,k=>x.fc fun x=>ec r fun r=>k (x::r)
theorem Vu {α:Type 1}: ∀ (l:List SV) (k:List SV->α),ec l k=k l
 | [],_=>rfl
 | x::r,k=>by simp only [ec,SV.FQ x,Vu r]
def Own.fc {α:Type 1}:Own S->(Own S->α)->α
 | .AQ T cs,k=>ec cs fun cs=>k (.AQ T cs)
 | .row T z n cs,k=>ec cs fun cs=>k (.row T z n cs)
 | .vu cs,k=>ec cs fun cs=>k (.vu cs)
 | .tr τ E l,k=>k (.tr τ E l)
 | .sl τ l,k=>k (.sl τ l)
 | .obj p,k=>k (.obj p)
 | .any,k=>k .any
 | .dp τ E l,k=>k (.dp τ E l)
 | .mp κ τ ag l,k=>k (.mp κ τ ag l)
 | .mr κ τ ag E l,k=>k (.mr κ τ ag E l)
theorem Own.FQ {α:Type 1} (b:Own S) (k:Own S->α):b.fc k=k b:=by cases b<;>simp only [Own.fc,Vu]
def ed {α:Type 1}:List (Nat×Own S)->(List (Nat×Own S)->α)->α
 | [],k=>k []
 | (i,b)::r,k=>fN i fun i=>b.fc fun b=>ed r fun r=>k ((i,b)::r)
theorem Om {α:Type 1}: ∀ (l:List (Nat×Own S)) (k:List (Nat×Own S)->α),ed l k=k l
 | [],_=>rfl
 | (i,b)::r,k=>by simp only [ed,MI,Own.FQ b,Om r]
def iq {α:Type 1}:List (Nat×SV)->(List (Nat×SV)->α)->α
 | [],k=>k []
 | (i,x)::r,k=>fN i fun i=>x.fc fun x=>iq r fun r=>k ((i,x)::r)
theorem Vw {α:Type 1}: ∀ (l:List (Nat×SV)) (k:List (Nat×SV)->α),iq l k=k l
 | [],_=>rfl
 | (i,x)::r,k=>by simp only [iq,MI,SV.FQ x,Vw r]
def im {α:Type 1}:List Nat->(List Nat->α)->α
 | [],k=>k []
 | i::r,k=>fN i fun i=>im r fun r=>k (i::r)
theorem Vv {α:Type 1}: ∀ (l:List Nat) (k:List Nat->α),im l k=k l
 | [],_=>rfl
 | i::r,k=>by simp only [im,MI,Vv r]
def St.fc {α:Type 1} (s:St S) (k:St S->α):α:=iq s.t fun t=>ed s.o fun o=>fN s.n fun n=>k ⟨t,o,n,s.sz⟩
theorem St.FQ {α:Type 1} (s:St S) (k:St S->α):s.fc k=k s:=by
 unfold St.fc;rw [Vw,Om,MI]
def Ny {α:Type 1} (s:St S) (c:Bp S) (ps:PS S) (dst:Option Tmp) (y:c.rs.D S) (k:St S->α) (fail:α):α:=
 match ef ps.m c.bn s.n with
 | true=>match c.rs.enc y (G0 c.bn c.rs) with
  | (rs',o',n')=>match St.put { s with o:=DY (BW c.bn ps.m s.n) o'++ps.o,n:=s.n+(n' -c.bn) } dst (Ap (CD (BW c.bn ps.m s.n) rs')) with
  | some s'=>s'.fc k
  | none=>fail
 | false=>fail
mutual
def SV.J3 (j n:Nat):SV->SV
 | .tr i=>match Nat.beq i j with
  | true=>.h n
  | false=>.tr i
 | .agg cs=>.agg (SN j n cs)
 | .GI cs=>.GI (SN j n cs)
 | .v x=>.v x
 | .b c=>.b c
 | .ptr i off=>.ptr i off
 | .row i m=>.row i m
 | .ep i z e off=>.ep i z e off
 | .view i off len cap=>.view i off len cap
 | .Bm i=>.Bm i
 | .mk i e=>.mk i e
 | .hm i=>.hm i
 | .h i=>.h i
 | .vp i off=>.vp i off
 | .ap i m e off=>.ap i m e off
 | .pr i z e off=>.pr i z e off
 | .pp i z e off y j q=>.pp i z e off y j q
 | .fn f cs=>.fn f cs
def SN (j n:Nat):List SV->List SV
 | []=>[]
 | x::r=>x.J3 j n::SN j n r
end
def WQ (j n:Nat):List (Nat×SV)->List (Nat×SV)
 | []=>[]
 | (t,x)::r=>(t,x.J3 j n)::WQ j n r
def Own.J3 (j n:Nat):Own S->Own S
 | .AQ T cs=>.AQ T (SN j n cs)
 | b=>b
def UZ (j n:Nat):List (Nat×Own S)->List (Nat×Own S)
 | []=>[]
 | (i,b)::r=>(i,b.J3 j n)::UZ j n r
def St.J3 (s:St S) (j:Nat):St S:=match lk s.o j with
 | some (.tr τ _ l)=>⟨WQ j s.n s.t,(s.n,.sl τ l)::UZ j s.n (rm s.o j),s.n+1,s.sz⟩
 | _=>s
def FK:St S->List Nat->St S
 | s,[]=>s
 | s,j::r=>FK (s.J3 j) r
def U5:List SV->List Nat
 | []=>[]
 | .tr j::r=>j::U5 r
 | _::r=>U5 r
def S3:List SV->List Nat
 | []=>[]
 | .tr j::r=>j::S3 r
 | .agg cs::r=>U5 cs++S3 r
 | _::r=>S3 r
def U6:List SV->List Nat
 | []=>[]
 | .agg cs::r=>U5 cs++U6 r
 | _::r=>U6 r
def eN:List (Nat×SV)->List Nat
 | []=>[]
 | (_,.tr j)::r=>j::eN r
 | _::r=>eN r
def Pu (tb:List (Nat×TI)):List (Nat×Own S)->List Nat
 | []=>[]
 | (_,.AQ T cs)::r=>match U5 cs with
  | []=>Pu tb r
  | l=>match lk tb T with
   | some t=>match t.τ,t.d with
    | some _,.struct _=>l++Pu tb r
    | _,_=>Pu tb r
   | none=>Pu tb r
 | _::r=>Pu tb r
def Z3 (tb:List (Nat×TI)) (s:St S) (q:IS):List Nat:=match Dr 9000000 q.Hi with
 | true=>Pu tb s.o++eN s.t
 | false=>Pu tb s.o
def NT (E:Env S) (c:Nat) (k:List BS) (s:St S) (L:List Nat) (fail:Tr E.ι E.ρ):Tr E.ι E.ρ:=
 match h:lk E.Cs c with
 | some q=>match aG k q.key with
  | true=>match Fh (FK s L) q.ts with
   | some vs'=>match q.sp.parse true vs' (FK s L).o (QS E.bn) q.bn with
    | some (x,_)=>.cut c (Ds E c q h x)
    | none=>fail
   | none=>fail
  | false=>.stuck (3000+c)
 | none=>.stuck 1
def Pr (E:Env S) (c:Nat) (k:List BS) (s:St S):Tr E.ι E.ρ:=
 match lk E.Cs c with
 | some q=>match Fh s q.ts with
  | some vs=>NT E c k s [] (NT E c k s (U6 vs) (NT E c k s (U6 vs++Pu E.tb s.o) (.stuck (1000+c))))
  | none=>.stuck (2000+c)
 | none=>.stuck 1
def RF (E:Env S) (c:Nat) (k:List BS) (s:St S):Tr E.ι E.ρ:=
 match lk E.Cs c with
 | some q=>match aG k q.key with
  | true=>Pr E c k s
  | false=>Pr E (c+100000) k s
 | none=>.stuck 1
def fk (E:Env S) (c:Nat):Bool:=match lk E.Cs c with
 | some _=>true
 | none=>false
def NU (E:Env S) (s:St S) (L:List Nat) (fail:Tr E.ι E.ρ):Tr E.ι E.ρ:=
 match K2 E.tb (FK s L) E.res with
 | some vs'=>match E.rs.parse true vs' (FK s L).o (QS E.bn) (G0 E.bn E.rs) with
  | some (y,_)=>.ret y
  | none=>fail
 | none=>fail
def RG (E:Env S) (s:St S):Tr E.ι E.ρ:=
 match K2 E.tb s E.res with
 | some vs=>NU E s [] (NU E s (U6 vs) (NU E s (U6 vs++Pu E.tb s.o) (.stuck 2)))
 | none=>.stuck 3
def X1 (tb:List (Nat×TI)):Own S->List Nat
 | .row E _ _ cs=>match lk tb E with
  | some t=>match t.τ with
   | some _=>U5 cs
   | none=>[]
  | none=>[]
 | _=>[]
def tmpsOf:List Operand->List Nat
 | []=>[]
 | .tmp t::r=>t::tmpsOf r
 | _::r=>tmpsOf r
def Sw:List (Nat×Operand)->List Operand
 | []=>[]
 | x::r=>x.2::Sw r
def Zc:Option Operand->List Operand
 | none=>[]
 | some x=>[x]
def gR:Op->List Operand
 | .move x=>[x]
 | .assign x=>[x]
 | .box _ x=>[x]
 | .load _ x=>[x]
 | .store _ x y=>[x,y]
 | .nilCheck x=>[x]
 | .unOp _ _ x=>[x]
 | .convert _ _ x=>[x]
 | .fieldAddr _ x _=>[x]
 | .field _ x _=>[x]
 | .extract x _=>[x]
 | .pick c x y=>[c,x,y]
 | .binOp _ _ x y _=>[x,y]
 | .indexAddr _ x y=>[x,y]
 | .index _ x y=>[x,y]
 | .lookup _ x y _=>[x,y]
 | .build _ ⟨ps⟩=>Sw ps
 | .buildSlice _ _ ⟨ps⟩=>Sw ps
 | .makeFunc _ _ ⟨c⟩=>c
 | .slice _ x l h _=>x::(Zc l++Zc h)
 | .call ⟨.value f,⟨args⟩,_⟩=>f::args
 | .call ⟨_,⟨args⟩,_⟩=>args
 | .makeSlice _ x y=>[x,y]
 | .makeMap _ x=>Zc x
 | .mapUpdate _ x y z=>[x,y,z]
 | .insert _ x y z=>[x,y,z]
 | _=>[]
def WS (all:Array Oper) (o:Oper):List Nat:=
 match o.guard with
 | none=>[]
 | some (j,_)=>match nth all.toList j with
  | some q=>match q.dst with
   | some d=>[d]
   | none=>[]
  | none=>[]
def Kv (all:Array Oper) (o:Oper):List Nat:=WS all o++tmpsOf (gR o.op)
structure Rec (S:Aj) where
 i:Nat
 o:Oper
 pu:Bool
 o1:List (Nat×Own S)
 n1:Nat
 n2:Nat
 x:SV
 cn:List Nat
 gb:List (Nat×Own S)
 tk:Bool
def pick {α:Type}:List Nat->List (Nat×α)->List (Nat×α)
 | [],_=>[]
 | u::r,t=>match lk t u with
  | some x=>(u,x)::pick r t
  | none=>pick r t
def Gj:List (Nat×SV)->List (Rec S)->List (Nat×SV)
 | t,[]=>t
 | t,r::rs=>match r.o.dst with
  | none=>Gj t rs
  | some d=>Gj (pt t d r.x) rs
def RW:List Nat->List (Nat×Own S)->List (Nat×Own S)
 | [],o=>o
 | j::c,o=>rm (RW c o) j
def jV:Own S->Bool
 | .tr _ _ _=>true
 | .mp _ _ _ _=>true
 | .mr _ _ _ _ _=>true
 | .dp _ _ _=>true
 | _=>false
def fp:Own S->Bool
 | .tr _ _ _=>true
 | _=>false
def Nw:Op->Bool
 | .call _=>true
 | .makeMap _ _=>true
 | _=>false
def RI (u:Nat) (o:List (Nat×Own S)):Bool:=match lk o u with
 | some b=>jV b
 | none=>false
def HY (u:Nat):List (Rec S)->Bool
 | []=>false
 | r::rs=>match Nw r.o.op with
  | true=>match RI u r.o1 with
   | true=>true
   | false=>HY u rs
  | false=>HY u rs
def IU (f:Nat->Bool):List (Nat×Own S)->List (Nat×Own S)
 | []=>[]
 | (i,b)::r=>match f i with
  | true=>IU f r
  | false=>(i,b)::IU f r
def ON (fl:Bool) (hid:List Nat) (rs:List (Rec S)) (o:List (Nat×Own S)):List (Nat×Own S):=match fl with
 | true=>RW hid (IU (fun u=>HY u rs) o)
 | false=>o
def oC (L:Nat->Bool) (o:List (Nat×Own S)):List (Rec S)->List (Nat×Own S)
 | []=>o
 | r::rs=>match L r.i with
  | true=>oC L (r.gb++(r.o1++RW r.cn o)) rs
  | false=>oC L o rs
def Ay:Nat->List (Rec S)->Nat
 | n,[]=>n
 | _,r::rs=>Ay r.n2 rs
def bU (m i:Nat):Bool:=Nat.beq (Nat.land 1 (Nat.shiftRight m i)) 1
def Bz (ms:List Nat) (j i:Nat):Bool:=match nth ms j with
 | some m=>bU m i
 | none=>false
def behind (s:St S) (rs:List (Rec S)):St S:=⟨Gj s.t rs,oC (fun _=>true) s.o rs,Ay s.n rs,s.sz⟩
def seenAt (fl:Bool) (hid:List Nat) (s:St S) (all:Array Oper) (ms:List Nat) (rs:List (Rec S)) (i:Nat) (o:Oper) (pu:Bool):St S:=
 ⟨pick (Kv all o) (Gj s.t rs),match pu with|true=>[]|false=>ON fl hid rs (oC (Bz ms i) s.o rs),Ay s.n rs,s.sz⟩
def jU:List Oper->Nat->Bool
 | [],_=>false
 | o::r,i=>match o.guard with
  | some (j,_)=>match Nat.beq j i with
   | true=>true
   | false=>jU r i
  | none=>jU r i
def D8 (d:Option Tmp) (sz:Nat):Bool:=match d with
 | none=>true
 | some d=>Nat.ble (d+1) sz
def B8 (n1 n2:Nat):List (Nat×Own S)->Bool
 | []=>Nat.ble n1 n2
 | (i,_)::r=>match Nat.ble n1 i,Nat.ble (i+1) n2 with
  | true,true=>B8 n1 n2 r
  | _,_=>false
def CP:List Ch->Bool
 | []=>true
 | .fd _::r=>CP r
 | .st _::r=>CP r
 | .fn _ []::r=>CP r
 | _::_=>false
def Spec.Qd (q:Spec):Bool:=match q.bx with
 | []=>CP q.as
 | _::_=>false
def Rec.fc {α:Type 1} (r:Rec S) (k:Rec S->α):α:=ed r.o1 fun o1=>fN r.n1 fun n1=>fN r.n2 fun n2=>r.x.fc fun x=>im r.cn fun cn=>ed r.gb fun gb=>k ⟨r.i,r.o,r.pu,o1,n1,n2,x,cn,gb,r.tk⟩
theorem Rec.FQ {α:Type 1} (r:Rec S) (k:Rec S->α):r.fc k=k r:=by
 unfold Rec.fc;rw [Om,MI,MI,SV.FQ,Vv,Om]
def VW {ι:Nat->Type} {ρ:Type} (all:Array Oper) (k:Rec S->Tr ι ρ) (r:Rec S):Tr ι ρ:=
 match r.x with
 | .b c=>match jU all.toList r.i with
  | true=>.ite c (k { r with x:=.v (.bool true) }) (k { r with x:=.v (.bool false) })
  | false=>k r
 | _=>k r
def Ea {ι:Nat->Type} {ρ:Type} (all:Array Oper) (r:Rec S) (k:Rec S->Tr ι ρ):Tr ι ρ:=r.fc (VW all k)
def recC {ι:Nat->Type} {ρ:Type} (st:St S) (i:Nat) (o:Oper) (c:Bp S) (ps:PS S) (y:c.rs.D S) (k:Rec S->Tr ι ρ):Tr ι ρ:=
 match c.rs.enc y (G0 c.bn c.rs) with
 | (rs',o',n')=>match B8 st.n (st.n+(n' -c.bn)) (DY (BW c.bn ps.m st.n) o') with
  | true=>k ⟨i,o,false,DY (BW c.bn ps.m st.n) o',st.n,st.n+(n' -c.bn),Ap (CD (BW c.bn ps.m st.n) rs'),[],[],false⟩
  | false=>.stuck 46
def Xp {ι:Nat->Type} {ρ:Type} (tb:List (Nat×TI)) (st:St S) (i:Nat) (o:Oper) (fail:Tr ι ρ) (k:Rec S->Tr ι ρ):Tr ι ρ:=match o.op with
 | .slice T x lo hi none=>match ev st x with
  | some (.h _)=>match GR tb st T x lo hi with
   | .nm c o1 n' v=>match B8 st.n n' o1 with
    | true=>Ky c (k ⟨i,o,true,o1,st.n,n',v,[],[],false⟩)
    | false=>fail
   | _=>fail
  | _=>fail
 | _=>fail
inductive Zo (S:Aj) where
 | b0 (e:Nat)
 | a0 (j:Nat) (b:Bool) (c:Option Bool) (o1:List (Nat×Own S)) (n':Nat) (v:SV)
 | no
def zeroOf (tb:List (Nat×TI)) (pu:Bool) (all:List Oper) (st:St S) (o:Oper):Zo S:=match pu with
 | true=>.no
 | false=>match WY tb all o with
  | some e=>.b0 e
  | none=>match UJ tb st o.op with
   | some (j,b,.nm c o1 n' v)=>.a0 j b c o1 n' v
   | _=>.no
theorem U9 {tb:List (Nat×TI)} {pu:Bool} {all:List Oper} {st:St S} {o:Oper} {e:Nat} (h:zeroOf tb pu all st o=.b0 e):pu=false/\WY tb all o=some e:=by
 unfold zeroOf at h
 split at h
 ·cases h
 ·split at h
  ·rename_i he;cases h;exact ⟨rfl,he⟩
  ·split at h<;>cases h
theorem U8 {tb:List (Nat×TI)} {pu:Bool} {all:List Oper} {st:St S} {o:Oper} {j:Nat} {b:Bool} {c:Option Bool} {o1:List (Nat×Own S)} {n':Nat} {v:SV} (h:zeroOf tb pu all st o=.a0 j b c o1 n' v):pu=false/\UJ tb st o.op=some (j,b,.nm c o1 n' v):=by
 unfold zeroOf at h
 split at h
 ·cases h
 ·split at h
  ·cases h
  ·split at h
   ·rename_i he;cases h;exact ⟨rfl,he⟩
   ·cases h
def Se (t:Nat):List Oper->Bool
 | []=>false
 | o::r=>match o.op,o.dst with
  | .buildSlice _ 0 _,some d=>match Nat.beq d t with
   | true=>true
   | false=>Se t r
  | _,_=>Se t r
def BC (s:St S) (all:Array Oper) (ms:List Nat) (rs:List (Rec S)) (i:Nat) (o:Oper):St S:=
 ⟨pick (Kv all o) (Gj s.t rs),oC (Bz ms i) s.o rs,Ay s.n rs,s.sz⟩
def Te (f:Nat->Bool):List (Nat×Own S)->Bool
 | []=>true
 | (i,_)::r=>match f i with
  | true=>Te f r
  | false=>false
def Mw (f:Nat->Bool):List Nat->Bool
 | []=>true
 | i::r=>match f i with
  | true=>Mw f r
  | false=>false
def Nq:List Nat->Bool
 | []=>false
 | _::_=>true
def Vd (own:Bool) (ms:List Nat) (i:Nat):List (Rec S)->Bool
 | []=>true
 | r::rs=>match Nq r.cn || (own && r.tk) with
  | false=>Vd own ms i rs
  | true=>match Bz ms i r.i with
   | true=>Vd own ms i rs
   | false=>false
def Fa (m:Nat) (hid:List Nat) (ms:List Nat) (i n:Nat) (rs:List (Rec S)) (cn:List Nat) (gb:List (Nat×Own S)):Bool:=
 Mw (fun j=>(Dr j hid || HY j rs) && Nat.ble (j+1) n) cn && Te (fun j=>Dr j cn && Nat.ble (j+1) m) gb && Vd (Nq cn) ms i rs
def US (m:Nat) (hid:List Nat) (n:Nat) (ms:List Nat) (i:Nat) (rs:List (Rec S)) (cn:List Nat) (c:Option Bool) (ow:Own S):Option (List Nat×Option Bool×Own S):=match Fa m hid ms i n rs cn [] with
 | true=>some (cn,c,ow)
 | false=>none
def TL (m:Nat) (fl:Bool) (hid:List Nat) (tb:List (Nat×TI)) (st:St S) (ms:List Nat) (i:Nat) (rs:List (Rec S)) (pu:Bool) (op:Op):Option (List Nat×Option Bool×Own S):=
 match fl,pu with
 | true,false=>match op with
  | .call ⟨.builtin .append,⟨[x,y]⟩,⟨[T,T']⟩⟩=>match Nat.beq T' T,ev st x with
   | true,some (.tr j)=>match P4 tb st T x y with
    | .x c ((_,ow)::_) _ _=>US m hid st.n ms i rs [j] c ow
    | _=>match C6 tb T,ev st y,lk st.o j with
     | some (.slice e _),some (.row k 1),some (.mr κ τ ag E ls)=>match lk tb e,lk st.o k with
      | some te,some (.row E'' 1 1 [.Bm u])=>match lk st.o u,Nat.beq j u,Nat.beq E'' e with
       | some (.mp κ' τ' ag' l),false,true=>match Nat.beq te.sz 1,Nat.beq E e,Gp ag' ag,Nat.decEq τ' τ,UU κ' κ with
        | true,true,true,.isTrue h,some ⟨h'⟩=>US m hid st.n ms i rs [j,u] (some (room te.bs (ls.length+1))) (.mr κ τ ag E (ls++[(h▸h'▸l:List (κ.T S.T×S.T τ))]))
        | _,_,_,_,_=>none
       | _,_,_=>none
      | _,_=>none
     | _,_,_=>none
   | _,_=>none
  | .buildSlice T n ⟨[(0,x)]⟩=>match Nat.beq n 1,ev st x with
   | true,some (.Bm j)=>match XQ tb st T 1 [(0,x)] with
    | .x c ((_,ow)::_) _ _=>US m hid st.n ms i rs [j] c ow
    | _=>none
   | _,_=>none
  | .slice T x none hi none=>match C6 tb T,ev st x with
   | some (.slice _ _),some (.tr j)=>match lk st.o j with
    | some (.mr κ τ ag E ls)=>match H5 st ls.length hi with
     | some h=>US m hid st.n ms i rs [j] (some (decide (0<=h/\h<=ls.length))) (.mr κ τ ag E (ls.take h.toNat))
     | none=>none
    | _=>none
   | _,_=>none
  | _=>none
 | _,_=>none
def YJ (m:Nat) (fl:Bool) (hid:List Nat) (tb:List (Nat×TI)) (st:St S) (ms:List Nat) (i:Nat) (rs:List (Rec S)) (pu:Bool) (op:Op):Option (Nat×Own S):=
 match fl,pu with
 | true,false=>match op with
  | .store T x y=>match ev st x with
   | some (.ptr j _)=>match Dr j hid,lk st.o j with
    | true,some (.AQ _ _)=>match Ho tb st T x y with
     | .RX none j' b=>match Nat.beq j' j,Fa m hid ms i st.n rs [j] [(j,b)] with
      | true,true=>some (j,b)
      | _,_=>none
     | _=>none
    | _,_=>none
   | _=>none
  | _=>none
 | _,_=>none
def HJ (o':List (Nat×Own S)):List (Nat×Own S)->List Nat
 | []=>[]
 | (i,_)::r=>match lk o' i with
  | some _=>HJ o' r
  | none=>i::HJ o' r
def Eb (n:Nat):List (Nat×Own S)->List (Nat×Own S)
 | []=>[]
 | (i,b)::r=>match Nat.ble (i+1) n with
  | true=>(i,b)::Eb n r
  | false=>Eb n r
def Fe (n:Nat):List (Nat×Own S)->List (Nat×Own S)
 | []=>[]
 | (i,b)::r=>match Nat.ble (i+1) n with
  | true=>Fe n r
  | false=>(i,b)::Fe n r
def jT (o:List (Nat×Own S)) (j:Nat):Bool:=match lk o j with
 | some _=>true
 | none=>false
def XZ (m:List (Nat×Nat)) (bn:Nat) (o:List (Nat×Own S)):Bool:=match NW m bn with
 | some l=>Mw (jT o) l
 | none=>false
def Pm:List SV->List SV->Bool
 | [],[]=>true
 | .ptr i k::r,.ptr i' k'::r'=>match Nat.beq i i',Nat.beq k k' with
  | true,true=>Pm r r'
  | _,_=>false
 | _,_=>false
def YA:Own S->Own S->Bool
 | .AQ T cs,.AQ T' cs'=>match Nat.beq T T' with
  | true=>Pm cs cs'
  | false=>false
 | _,_=>false
def QU (o g:List (Nat×Own S)) (u:Nat):Bool:=match lk g u,lk o u with
 | some b,some b'=>YA b b'
 | _,_=>false
def Jy (f:Nat->Bool):List Nat->List Nat
 | []=>[]
 | i::r=>match f i with
  | true=>Jy f r
  | false=>i::Jy f r
def MP (po o g:List (Nat×Own S)):List Nat:=Jy (QU o g) (HJ po o)
def JP (o g:List (Nat×Own S)):List (Nat×Own S):=IU (QU o g) g
def RE {ι:Nat->Type} {ρ:Type} (m:Nat) (hid:List Nat) (ms:List Nat) (rs:List (Rec S)) (st:St S) (i:Nat) (o:Oper) (c:Bp S) (ps:PS S) (y:c.rs.D S) (k:Rec S->Tr ι ρ):Tr ι ρ:=
 match c.rs.enc y (G0 c.bn c.rs) with
 | (rs',o',n')=>match XZ ps.m c.bn st.o,B8 st.n (st.n+(n' -c.bn)) (Fe st.n (DY (BW c.bn ps.m st.n) o')),Fa m hid ms i st.n rs (MP ps.o st.o (Eb st.n (DY (BW c.bn ps.m st.n) o'))) (JP st.o (Eb st.n (DY (BW c.bn ps.m st.n) o'))) with
  | true,true,true=>k ⟨i,o,false,Fe st.n (DY (BW c.bn ps.m st.n) o'),st.n,st.n+(n' -c.bn),Ap (CD (BW c.bn ps.m st.n) rs'),MP ps.o st.o (Eb st.n (DY (BW c.bn ps.m st.n) o')),JP st.o (Eb st.n (DY (BW c.bn ps.m st.n) o')),true⟩
  | _,_,_=>.stuck 55
def S0:SV->SV->Bool
 | .ptr a b,.ptr a' b'=>match Nat.beq a a',Nat.beq b b' with
  | true,true=>true
  | _,_=>false
 | .Bm a,.Bm a'=>Nat.beq a a'
 | _,_=>false
def cR (r:R S) (x:SV):Bool:=match r with
 | .val none y=>S0 x y
 | _=>false
def N7 (tb:List (Nat×TI)) (T off:Nat) (x:SV):Own S->Bool
 | .AQ _ cs=>match lk tb T with
  | some t=>cR (S:=S) (ld t cs off) x
  | none=>false
 | _=>false
def RB (tb:List (Nat×TI)) (T off:Nat) (x:SV) (j:Nat):List (Rec S)->Bool
 | []=>true
 | r::rs=>match Dr j r.cn with
  | false=>RB tb T off x j rs
  | true=>match lk r.gb j with
   | some o=>match N7 tb T off x o with
    | true=>RB tb T off x j rs
    | false=>false
   | none=>false
def S1 (s:St S) (tb:List (Nat×TI)) (st:St S) (rs:List (Rec S)):Op->Option SV
 | .load T x=>match ev st x with
  | some (.ptr j off)=>match lk s.o j with
   | some (.AQ U cs)=>match cs[off]? with
    | some v=>match N7 (S:=S) tb T off v (.AQ U cs),RB tb T off v j rs with
     | true,true=>some v
     | _,_=>none
    | _=>none
   | _=>none
  | _=>none
 | _=>none
def Vo (all:List Oper):List (Nat×Bool)->Bool
 | []=>false
 | (_,true)::r=>Vo all r
 | (i,false)::r=>match nth all i with
  | some o=>match o.op with
   | .call ⟨.builtin .append,⟨[.tmp t,_]⟩,_⟩=>match Se t all with
    | true=>Vo all r
    | false=>true
   | _=>Vo all r
  | none=>Vo all r
def CI {ι:Nat->Type} {ρ:Type} (fl:Bool) (hid:List Nat) (tb:List (Nat×TI)) (ct:List (Bp S)) (s:St S) (all:Array Oper) (ms:List Nat) (fin:List (Rec S)->Tr ι ρ):List (Nat×Bool)->List (Rec S)->Tr ι ρ
 | [],rs=>fin rs
 | (i,pu)::t,rs=>match nth all.toList i with
  | none=>.stuck 40
  | some o=>match D8 o.dst s.sz with
   | false=>.stuck 41
   | true=>match Bj (seenAt fl hid s all ms rs i o pu) all o with
    | .no=>CI fl hid tb ct s all ms fin t (rs++[⟨i,o,pu,[],Ay s.n rs,Ay s.n rs,.v (.tuple #[]),[],[],false⟩])
    | .yes=>match zeroOf tb pu all.toList (seenAt fl hid s all ms rs i o false) o with
     | .b0 e=>Ea all ⟨i,o,false,[(Ay s.n rs,.AQ e [])],Ay s.n rs,Ay s.n rs+1,.view (Ay s.n rs) 0 0 0,[],[],false⟩ fun r=>CI fl hid tb ct s all ms fin t (rs++[r])
     | .a0 j b c o1 n' v=>match B8 (Ay s.n rs) n' o1 with
      | true=>Ky c (.ite b (Ea all ⟨i,o,false,[],Ay s.n rs,Ay s.n rs,.view j 0 0 0,[],[],false⟩ fun r=>CI fl hid tb ct s all ms fin t (rs++[r])) (Ea all ⟨i,o,false,o1,Ay s.n rs,n',v,[],[],false⟩ fun r=>CI fl hid tb ct s all ms fin t (rs++[r])))
      | false=>.stuck 49
     | .no=>match TL s.n fl hid tb (BC s all ms rs i o) ms i rs pu o.op with
      | some (cn,c,ow)=>Ky c (CI fl hid tb ct s all ms fin t (rs++[⟨i,o,false,[(Ay s.n rs,ow)],Ay s.n rs,Ay s.n rs+1,.tr (Ay s.n rs),cn,[],true⟩]))
      | none=>match YJ s.n fl hid tb (BC s all ms rs i o) ms i rs pu o.op with
      | some (j,b)=>CI fl hid tb ct s all ms fin t (rs++[⟨i,o,false,[],Ay s.n rs,Ay s.n rs,.v (.tuple #[]),[j],[(j,b)],true⟩])
      | none=>match callee (seenAt fl hid s all ms rs i o pu) o.op with
      | some (f,args)=>match pu with
       | true=>.stuck 42
       | false=>RJ f args (ON fl hid rs (oC (Bz ms i) s.o rs)) (fun c x ps=>match c.sp.Qd,Nat.beq c.bn 0 with
        | true,true=>match c.out with
         | .Kw g=>recC (seenAt fl hid s all ms rs i o false) i o c ps (g x) fun r=>Ea all r fun r=>CI fl hid tb ct s all ms fin t (rs++[r])
         | .pre p g=>.YP (p x) (recC (seenAt fl hid s all ms rs i o false) i o c ps (g x) fun r=>Ea all r fun r=>CI fl hid tb ct s all ms fin t (rs++[r]))
         | .opt m=>.H5 (m x) fun y=>recC (seenAt fl hid s all ms rs i o false) i o c ps y fun r=>Ea all r fun r=>CI fl hid tb ct s all ms fin t (rs++[r])
        | _,_=>.stuck 43) (match fl with
        | false=>.stuck (10000+f)
        | true=>RJ f args (oC (Bz ms i) s.o rs) (fun c x ps=>match c.out with
         | .Kw g=>RE s.n hid ms rs (BC s all ms rs i o) i o c ps (g x) fun r=>Ea all r fun r=>CI fl hid tb ct s all ms fin t (rs++[r])
         | .pre p g=>.YP (p x) (RE s.n hid ms rs (BC s all ms rs i o) i o c ps (g x) fun r=>Ea all r fun r=>CI fl hid tb ct s all ms fin t (rs++[r]))
         | .opt m=>.H5 (m x) fun y=>RE s.n hid ms rs (BC s all ms rs i o) i o c ps y fun r=>Ea all r fun r=>CI fl hid tb ct s all ms fin t (rs++[r])) (.stuck (10000+f)) ct) ct
      | none=>match evalOp tb (seenAt fl hid s all ms rs i o pu) o.op with
       | .val c x=>Ky c (Ea all ⟨i,o,pu,[],Ay s.n rs,Ay s.n rs,x,[],[],false⟩ fun r=>CI fl hid tb ct s all ms fin t (rs++[r]))
       | .new b=>match pu with
        | true=>.stuck 44
        | false=>Ea all ⟨i,o,false,[(Ay s.n rs,b)],Ay s.n rs,Ay s.n rs+1,Gn b (Ay s.n rs),[],[],false⟩ fun r=>CI fl hid tb ct s all ms fin t (rs++[r])
       | .nm c o1 n' v=>match pu,B8 (Ay s.n rs) n' o1 with
        | false,true=>Ky c (Ea all ⟨i,o,false,o1,Ay s.n rs,n',v,[],[],false⟩ fun r=>CI fl hid tb ct s all ms fin t (rs++[r]))
        | _,_=>.stuck 45
       | .stop=>match pu with
        | true=>Xp tb (seenAt fl hid s all ms rs i o false) i o (.stuck (200000000+1000*i+o.dst.getD 0)) fun r=>Ea all r fun r=>CI fl hid tb ct s all ms fin t (rs++[r])
        | false=>match fl,Fa s.n hid ms i (Ay s.n rs) rs [] [],evalOp tb (BC s all ms rs i o) o.op with
         | true,true,.val c x=>Ky c (Ea all ⟨i,o,false,[],Ay s.n rs,Ay s.n rs,x,[],[],true⟩ fun r=>CI fl hid tb ct s all ms fin t (rs++[r]))
         | true,true,.nm c o1 n' v=>match B8 (Ay s.n rs) n' o1 with
          | true=>Ky c (Ea all ⟨i,o,false,o1,Ay s.n rs,n',v,[],[],true⟩ fun r=>CI fl hid tb ct s all ms fin t (rs++[r]))
          | false=>.stuck 56
         | _,_,_=>match fl,S1 s tb (BC s all ms rs i o) rs o.op with
          | true,some x=>Ea all ⟨i,o,false,[],Ay s.n rs,Ay s.n rs,x,[],[],true⟩ fun r=>CI fl hid tb ct s all ms fin t (rs++[r])
          | _,_=>.stuck (200000000+1000*i+o.dst.getD 0)
       | _=>.stuck (200000000+1000*i+o.dst.getD 0)
    | .split _ _=>.stuck 47
    | .eO=>.stuck 48
def FZ:List Nat->List Nat
 | []=>[]
 | i::r=>match Nat.ble 1000000 i with
  | true=>FZ r
  | false=>i::FZ r
def Y5:List Nat->List Nat
 | []=>[]
 | i::r=>match Nat.ble 1000000 i with
  | true=>(i -1000000)::Y5 r
  | false=>Y5 r
def Pt:List (Nat×Own S)->List Nat
 | []=>[]
 | (i,b)::r=>match fp b with
  | true=>i::Pt r
  | false=>Pt r
mutual
def UD:SV->List Nat
 | .v _=>[]
 | .b _=>[]
 | .ptr i _=>[i]
 | .row i _=>[i]
 | .tr i=>[i]
 | .ep i _ _ _=>[i]
 | .view i _ _ _=>[i]
 | .Bm i=>[i]
 | .mk i _=>[i]
 | .hm i=>[i]
 | .h i=>[i]
 | .vp i _=>[i]
 | .ap i _ _ _=>[i]
 | .pr i _ _ _=>[i]
 | .pp i _ _ _ _ _ _=>[i]
 | .agg cs=>F9 cs
 | .GI cs=>F9 cs
 | .fn _ cs=>F9 cs
def F9:List SV->List Nat
 | []=>[]
 | x::r=>UD x++F9 r
end
def M9 (o:List (Nat×Own S)):Nat->List Nat->List Nat
 | 0,_=>[]
 | _+1,[]=>[]
 | f+1,i::r=>match lk o i with
  | some (.AQ _ cs)=>i::(M9 o f (F9 cs)++M9 o f r)
  | some _=>i::M9 o f r
  | none=>M9 o f r
def H3 (t:List (Nat×SV)):List Nat->List Nat
 | []=>[]
 | u::r=>match lk t u with
  | some x=>UD x++H3 t r
  | none=>H3 t r
def Oy (o:List (Nat×Own S)):List Nat->List Nat
 | []=>[]
 | i::r=>match lk o i with
  | some (.AQ _ cs)=>F9 cs++Oy o r
  | _=>Oy o r
def MS (o:List (Nat×Own S)) (t:List (Nat×SV)):List Nat->List Nat
 | []=>[]
 | u::r=>match Nat.ble 1000000 u with
  | true=>Oy o (H3 t [u -1000000])++MS o t r
  | false=>H3 t [u]++MS o t r
def kx:Bool->Bool->Bool
 | true,_=>true
 | false,b=>b
def gj:List Nat->Bool
 | []=>false
 | _::_=>true
def bu (all:List Oper) (q:IS):Bool:=kx (gj (Y5 q.Hi)) (Vo all q.pre)
def aQ (s:St S) (all:List Oper) (q:IS):List Nat:=match bu all q with
 | true=>Pt s.o++M9 s.o 30 (MS s.o s.t (Y5 q.Hi))
 | false=>[]
def Kt (all:Array Oper):List Nat->List Oper
 | []=>[]
 | i::r=>match nth all.toList i with
  | some o=>o::Kt all r
  | none=>Kt all r
def BY:Nat->List SV->List (Nat×SV)
 | _,[]=>[]
 | i,x::r=>(i,x)::BY (i+1) r
def Tb:List Oper->Bool
 | []=>false
 | o::r=>match Ec o with
  | true=>true
  | false=>Tb r
def iP (s:St S):Op->List Nat
 | .mapUpdate _ _ _ v=>match ev s v with
  | some x=>S3 [x]
  | none=>[]
 | .insert _ _ _ v=>match ev s v with
  | some x=>S3 [x]
  | none=>[]
 | _=>[]
def exec {ι:Nat->Type} {ρ:Type} (E:Env S):Nat->Fr->(Nat->List BS->St S->Tr ι ρ)->(Bool->St S->Tr ι ρ)->Bool->List BS->St S->Tr ι ρ
 | 0,_,_,_,_,_,_=>.stuck 4
 | _+1,_,_,or',_,[],s=>or' false s
 | n+1,fr,oc,or',go,.ops _ []::k,s=>exec E n fr oc or' go k s
 | n+1,fr,oc,or',go,.ops all (o::r)::k,s=>match Bj s all o with
  | .eO=>.stuck 6
  | .split d c=>.ite c (exec E n fr oc or' go (.ops all (o::r)::k) { s with t:=pt s.t d (.v (.bool true)) }) (exec E n fr oc or' go (.ops all (o::r)::k) { s with t:=pt s.t d (.v (.bool false)) })
  | .no=>match s.put o.dst (.v (.tuple #[])) with
   | some s'=>exec E n fr oc or' go (.ops all r::k) s'
   | none=>.stuck 7
  | .yes=>match callee s o.op with
   | some (f,args)=>match lk E.inl f with
    | some q=>match Nat.ble args.length q.sz with
     | true=>exec E n ⟨false,q.dr⟩ (fun _ _ _=>.stuck 50) (fun _ s'=>match K2 E.tb s' q.res with
      | some vs=>match St.put { s with o:=s'.o,n:=s'.n } o.dst (Ap vs) with
       | some s''=>exec E n fr oc or' go (.ops all r::k) s''
       | none=>.stuck 51
      | none=>.stuck 52) false [.code [] q.body] ⟨BY 0 args,s.o,s.n,q.sz⟩
     | false=>.stuck 53
    | none=>RJ f args s.o (fun c x ps=>match c.out with
     | .Kw g=>Ny s c ps o.dst (g x) (fun s'=>exec E n fr oc or' go (.ops all r::k) s') (.stuck 8)
     | .pre p g=>.YP (p x) (Ny s c ps o.dst (g x) (fun s'=>exec E n fr oc or' go (.ops all r::k) s') (.stuck 8))
     | .opt m=>.H5 (m x) fun y=>Ny s c ps o.dst y (fun s'=>exec E n fr oc or' go (.ops all r::k) s') (.stuck 8)) (match S3 args with
      | []=>.stuck (10000+f)
      | l=>exec E n fr oc or' go (.ops all (o::r)::k) (FK s l)) E.ct
   | none=>match evalOp E.tb s o.op with
    | .val c x=>match s.put o.dst x with
     | some s'=>Ky c (exec E n fr oc or' go (.ops all r::k) s')
     | none=>.stuck 9
    | .new b=>match X1 E.tb b with
     | []=>match St.put { s with o:=(s.n,b)::s.o,n:=s.n+1 } o.dst (Gn b s.n) with
      | some s'=>exec E n fr oc or' go (.ops all r::k) s'
      | none=>.stuck 9
     | j::l=>exec E n fr oc or' go (.ops all (o::r)::k) (FK s (j::l))
    | .RX c i b=>match St.put { s with o:=pt s.o i b } o.dst (.v (.tuple #[])) with
     | some s'=>Ky c (exec E n fr oc or' go (.ops all r::k) s')
     | none=>.stuck 9
    | .nm c o1 n' v=>match St.put { s with o:=o1++s.o,n:=n' } o.dst v with
     | some s'=>Ky c (exec E n fr oc or' go (.ops all r::k) s')
     | none=>.stuck 9
    | .x c o' n' v=>match St.put { s with o:=o',n:=n' } o.dst v with
     | some s'=>Ky c (exec E n fr oc or' go (.ops all r::k) s')
     | none=>.stuck 9
    | .stop=>match iP s o.op with
     | []=>.stuck (100000000+1000*r.length+o.dst.getD 0)
     | j::l=>exec E n fr oc or' go (.ops all (o::r)::k) (FK s (j::l))
 | n+1,fr,oc,or',go,.AQ _::k,s=>exec E n fr oc or' go k s
 | n+1,fr,oc,or',go,.sc _ _::k,s=>exec E n fr oc or' go k s
 | n+1,fr,oc,or',go,.again a c::k,s=>exec E n fr oc or' go (.code a c::.again a c::k) s
 | n+1,fr,oc,or',go,.code a (.seq x y)::k,s=>exec E n fr oc or' go (.code (0::a) x::.code (1::a) y::k) s
 | n+1,fr,oc,or',go,.code _ .skip::k,s=>exec E n fr oc or' go k s
 | n+1,fr,oc,or',go,.code _ (.label _)::k,s=>exec E n fr oc or' go k s
 | n+1,fr,oc,or',go,.code a (.block id x)::k,s=>exec E n fr oc or' go (.code (0::a) x::.AQ id::k) s
 | n+1,fr,oc,or',go,.code a (.scope x)::k,s=>exec E n fr oc or' go (.code (0::a) x::.sc (0::a) x::k) s
 | n+1,fr,oc,or',go,.code a (.loop x)::k,s=>exec E n fr oc or' go (.again (0::a) x::k) s
 | n+1,fr,oc,or',go,.code a (.region id ops d)::k,s=>match (match go with|true=>false|false=>match fr.main with|true=>fk E id|false=>false) with
  | true=>oc id (.code a (.region id ops d)::k) s
  | false=>match Tb ops.toList with
   | true=>oc 999998 (.code a (.region id ops d)::k) s
   | false=>match d with
   | false=>exec E n fr oc or' false (.ops ops ops.toList::k) s
   | true=>match lk fr.dr id with
    | some q=>match q.fz with
     | false=>CI (bu ops.toList q) (aQ s ops.toList q) E.tb E.ct s ops q.ms (fun rs=>(behind s rs).fc fun s1=>exec E n fr oc or' false (.ops ops (Kt ops (FZ q.Hi))::k) s1) q.pre []
     | true=>CI (bu ops.toList q) (aQ (FK s (Z3 E.tb s q)) ops.toList q) E.tb E.ct (FK s (Z3 E.tb s q)) ops q.ms (fun rs=>(behind (FK s (Z3 E.tb s q)) rs).fc fun s1=>exec E n fr oc or' false (.ops ops (Kt ops (FZ q.Hi))::k) s1) q.pre []
    | none=>.stuck (30000+id)
 | n+1,fr,oc,or',go,.code _ (.exit id)::k,s=>match Fv id k with
  | some k'=>exec E n fr oc or' go k' s
  | none=>.stuck 10
 | n+1,fr,oc,or',go,.code _ (.goto l)::k,s=>match Fx l k with
  | some k'=>exec E n fr oc or' go k' s
  | none=>.stuck 11
 | n+1,fr,oc,or',go,.code a (.cond x t e)::k,s=>match ev s x with
  | some (.v (.bool true))=>exec E n fr oc or' go (.code (0::a) t::k) s
  | some (.v (.bool false))=>exec E n fr oc or' go (.code (1::a) e::k) s
  | some (.b c)=>.ite c (exec E n fr oc or' go (.code (0::a) t::k) s) (exec E n fr oc or' go (.code (1::a) e::k) s)
  | _=>.stuck 12
 | _+1,fr,oc,or',_,.code _ .ret::_,s=>or' true s
 | _+1,fr,oc,or',_,.code a (.rangeFunc g ps x y)::k,s=>oc 999999 (.code a (.rangeFunc g ps x y)::k) s
 | _+1,fr,oc,or',_,.code _ (.refuse _)::_,_=>.stuck 14
def I1 (E:Env S) (n:Nat) (q:Cut) (x:q.sp.D S):Tr E.ι E.ρ:=
 match Cv E.body q.key with
 | some k=>match q.sp.enc x q.bn with
  | (vs,o,m)=>exec E n ⟨true,E.dr⟩ (RF E) (fun _=>RG E) true k ⟨q.ts.zip vs,o,m,E.sz⟩
 | none=>.stuck 15
def I0 (E:Env S) (n:Nat) (sp:Spec) (x:sp.D S):Tr E.ι E.ρ:=
 match sp.enc x E.bn with
 | (vs,o,m)=>exec E n ⟨true,E.dr⟩ (RF E) (fun _=>RG E) false [.code [] E.body] ⟨BY 0 vs,o,m,E.sz⟩
end
end Go.En
