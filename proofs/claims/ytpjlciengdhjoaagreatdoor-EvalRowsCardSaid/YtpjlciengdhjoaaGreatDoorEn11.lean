/-
 Trees of what a piece of code comes to (Tr); contracts of functions (Ctr); the evaluation of code up to its next cuts (exec).
-/
import Derived.Test.YtpjlciengdhjoaaGreatDoorEn10
namespace Go.En
open Go.RowKit
inductive Tr (ι:Nat->Type) (ρ:Type):Type 1 where
 | ret (r:ρ)
 | cut (c:Nat) (x:ι c)
 | ite (b:Bool) (t e:Tr ι ρ)
 | Z5 (p:Bool) (t:Tr ι ρ)
 | Is {B:Type} (m:Option B) (k:B->Tr ι ρ)
 | stuck (why:Nat)
section
variable {ι:Nat->Type} {ρ:Type}
def Tr.eval (M: ∀ c,ι c->Option ρ):Tr ι ρ->Option ρ
 | .ret r=>some r
 | .cut c x=>M c x
 | .ite b t e=>if b=true then t.eval M else e.eval M
 | .Z5 p t=>if p=true then t.eval M else none
 | .Is m k=>m.bind fun x=>(k x).eval M
 | .stuck _=>none
def Ej (step: ∀ c,ι c->Tr ι ρ):Nat-> ∀ c,ι c->Option ρ
 | 0,_,_=>none
 | n+1,c,x=>(step c x).eval (Ej step n)
def Tr.Holds (Kc: ∀ c,ι c->Prop) (Kr:ρ->Prop):Tr ι ρ->Prop
 | .ret r=>Kr r
 | .cut c x=>Kc c x
 | .ite b t e=>(b=true->t.Holds Kc Kr)/\(b=false->e.Holds Kc Kr)
 | .Z5 p t=>p=true/\t.Holds Kc Kr
 | .Is m k=> ∃ x,m=some x/\(k x).Holds Kc Kr
 | .stuck _=>False
theorem Tr.BA {M: ∀ c,ι c->Option ρ} {r:ρ}: ∀ {t:Tr ι ρ},t.eval M=some r->t.Holds (fun c x=>M c x=some r) (· =r)
 | .ret r',h=>by simp only [Tr.eval,am] at h;exact h
 | .cut c x,h=>h
 | .ite b t e,h=>by
  simp only [Tr.eval] at h
  refine ⟨fun hb=>?_,fun hb=>?_⟩
  ·rw [if_pos hb] at h;exact BA h
  ·rw [if_neg (by simp [hb])] at h;exact BA h
 | .Z5 p t,h=>by
  simp only [Tr.eval] at h
  split at h
  ·rename_i hp;exact ⟨hp,BA h⟩
  ·cases h
 | .Is m k,h=>by
  simp only [Tr.eval] at h
  obtain ⟨x,h1,h2⟩:=Option.bind_eq_some_iff.1 h
  exact ⟨x,h1,BA h2⟩
 | .stuck _,h=>by simp [Tr.eval] at h
theorem Tr.Holds.mono {Kc Kc': ∀ c,ι c->Prop} {Kr Kr':ρ->Prop} (hc: ∀ c x,Kc c x->Kc' c x) (hr: ∀ r,Kr r->Kr' r): ∀ {t:Tr ι ρ},t.Holds Kc Kr->t.Holds Kc' Kr'
 | .ret r',h=>hr _ h
 | .cut c x,h=>hc c x h
 | .ite b t e,h=>⟨fun hb=>mono hc hr (h.1 hb),fun hb=>mono hc hr (h.2 hb)⟩
 | .Z5 p t,h=>⟨h.1,mono hc hr h.2⟩
 | .Is m k,h=>let ⟨x,h1,h2⟩:=h;⟨x,h1,mono hc hr h2⟩
 | .stuck _,h=>h
end
inductive Out (A B:Type) where
 | Jl (g:A->B)
 | pre (p:A->Bool) (g:A->B)
 | opt (m:A->Option B)
def Out.gives {A B:Type}:Out A B->A->B->Prop
 | .Jl g,x,y=>g x=y
 | .pre p g,x,y=>p x=true/\g x=y
 | .opt m,x,y=>m x=some y
def fa (bn:Nat):List Gx->Nat
 | []=>0
 | b::r=>match Nat.ble (b.i+1) bn with
  | true=>fa bn r
  | false=>fa bn r+1
def Hg (bn:Nat) (q:Spec):Nat:=bn+fa bn q.bx
theorem VJ (bn:Nat) (q:Spec):bn<=Hg bn q:=Nat.le_add_right _ _
structure BU (S:As) where
 f:Nat
 bn:Nat
 sp:Spec
 rs:Spec
 flat:Bool
 out:Out (sp.D S) (rs.D S)
structure Cut where
 key:List (List Nat)
 ts:List Nat
 bn:Nat
 sp:Spec
def HV:Nat->Code->Option Code
 | 0,.seq x _=>some x
 | 1,.seq _ y=>some y
 | 0,.cond _ x _=>some x
 | 1,.cond _ _ y=>some y
 | 0,.block _ x=>some x
 | 0,.loop x=>some x
 | 0,.scope x=>some x
 | 0,.rangeFunc _ _ x _=>some x
 | 1,.rangeFunc _ _ _ y=>some y
 | l+2,c=>findLabel c l
 | _,_=>none
def Hk (body:Code):List Nat->Option Code
 | []=>some body
 | i::a=>match Hk body a with
  | some c=>HV i c
  | none=>none
inductive Bp where
 | code (a:List Nat) (c:Code)
 | AX (id:Nat)
 | ops (all:Array Oper) (rest:List Oper)
 | again (a:List Nat) (c:Code)
 | sc (a:List Nat) (c:Code)
def Bp.it:Bp->It
 | .code _ c=>.code c
 | .AX id=>.AX id
 | .ops all r=>.ops all r
 | .again _ c=>.again c
 | .sc _ c=>.sc c
def Bp.ok (body:Code):Bp->Prop
 | .code a c=>Hk body a=some c
 | .again a c=>Hk body a=some c
 | .sc a c=>Hk body a=some c
 | _=>True
def Bp.key:Bp->List Nat
 | .code a _=>0::a
 | .AX id=>[1,id]
 | .again a _=>2::a
 | .sc a _=>3::a
 | .ops _ _=>[4]
def Ll (body:Code):List Nat->Option Bp
 | 0::a=>match Hk body a with
  | some c=>some (.code a c)
  | none=>none
 | [1,id]=>some (.AX id)
 | 2::a=>match Hk body a with
  | some c=>some (.again a c)
  | none=>none
 | 3::a=>match Hk body a with
  | some c=>some (.sc a c)
  | none=>none
 | _=>none
def DI (body:Code):List (List Nat)->Option (List Bp)
 | []=>some []
 | x::r=>match Ll body x with
  | some i=>match DI body r with
   | some l=>some (i::l)
   | none=>none
  | none=>none
def ee:List Nat->List Nat->Bool
 | [],[]=>true
 | x::r,y::t=>match Nat.beq x y with
  | true=>ee r t
  | false=>false
 | _,_=>false
def cb:List Bp->List (List Nat)->Bool
 | [],[]=>true
 | x::r,y::t=>match ee x.key y with
  | true=>cb r t
  | false=>false
 | _,_=>false
def GQ (id:Nat):List Bp->Option (List Bp)
 | []=>none
 | .AX id'::k=>match Nat.beq id id' with
  | true=>some k
  | false=>GQ id k
 | .code _ _::k=>GQ id k
 | .ops _ _::k=>GQ id k
 | .again _ _::k=>GQ id k
 | .sc _ _::k=>GQ id k
def GS (l:Nat):List Bp->Option (List Bp)
 | []=>none
 | .sc a c::k=>match findLabel c l with
  | some rest=>some (.code ((l+2)::a) rest::.sc a c::k)
  | none=>GS l k
 | .code _ _::k=>GS l k
 | .ops _ _::k=>GS l k
 | .again _ _::k=>GS l k
 | .AX _::k=>GS l k
structure JD where
 pre:List (Nat×Bool)
 IS:List Nat
 ms:List Nat
 fz:Bool
structure nE where
 body:Code
 sz:Nat
 res:List ResultVar
 dr:List (Nat×JD)
structure Fr where
 main:Bool
 dr:List (Nat×JD)
structure Env (S:As) where
 inl:List (Nat×nE)
 tb:List (Nat×TI)
 ct:List (BU S)
 DF:List (Nat×Cut)
 bn:Nat
 res:List ResultVar
 rs:Spec
 sz:Nat
 dr:List (Nat×JD)
 body:Code
section
variable {S:As}
def eV (DF:List (Nat×Cut)) (c:Nat):Type:=match lk DF c with
 | some q=>q.sp.D S
 | none=>Empty
def Env.ι (E:Env S) (c:Nat):Type:=eV (S:=S) E.DF c
def Env.ρ (E:Env S):Type:=E.rs.D S
def EJ (E:Env S) (c:Nat) (q:Cut) (h:lk E.DF c=some q) (x:q.sp.D S):E.ι c:=by
 unfold Env.ι eV;rw [h];exact x
def Bv (bn:Nat) (m:List (Nat×Nat)) (n0:Nat) (i:Nat):Nat:=match Nat.ble (i+1) bn with
 | true=>match lk m i with
  | some j=>j
  | none=>0
 | false=>n0+(i -bn)
mutual
def SV.Je (r:Nat->Nat):SV->SV
 | .v x=>.v x
 | .b c=>.b c
 | .ptr i off=>.ptr (r i) off
 | .row i n=>.row (r i) n
 | .tr i=>.tr (r i)
 | .ep i z e off=>.ep (r i) z e off
 | .view i off len cap=>.view (r i) off len cap
 | .CC i=>.CC (r i)
 | .mk i e=>.mk (r i) e
 | .hm i=>.hm (r i)
 | .h i=>.h (r i)
 | .vp i off=>.vp (r i) off
 | .ap i n e off=>.ap (r i) n e off
 | .pr i z e off=>.pr (r i) z e off
 | .pp i z e off y j q=>.pp (r i) z e off y j q
 | .agg cs=>.agg (Cf r cs)
 | .Gv cs=>.Gv (Cf r cs)
 | .fn f cs=>.fn f (Cf r cs)
def Cf (r:Nat->Nat):List SV->List SV
 | []=>[]
 | x::t=>x.Je r::Cf r t
end
def Own.Je (r:Nat->Nat):Own S->Own S
 | .AX T cs=>.AX T (Cf r cs)
 | .row T z n cs=>.row T z n (Cf r cs)
 | .vu cs=>.vu (Cf r cs)
 | .tr τ E l=>.tr τ E l
 | .sl τ l=>.sl τ l
 | .obj p=>.obj p
 | .any=>.any
 | .dp τ E l=>.dp τ E l
 | .mp κ τ ag l=>.mp κ τ ag l
 | .mr κ τ ag E l=>.mr κ τ ag E l
def Dr (r:Nat->Nat):List (Nat×Own S)->List (Nat×Own S)
 | []=>[]
 | (i,b)::t=>(r i,b.Je r)::Dr r t
def RQ:Nat->List (Nat×Nat)
 | 0=>[]
 | n+1=>(n,n)::RQ n
def Ay:List SV->SV
 | [x]=>x
 | l=>.Gv l
def callee (s:St S):Op->Option (Nat×List SV)
 | .call ⟨.value f,⟨args⟩,_⟩=>match ev s f with
  | some (.fn g caps)=>match Ht s args with
   | some l=>match Nat.ble 1000000 g with
    | true=>some (g -1000000,caps++l)
    | false=>some (g,l++caps)
   | none=>none
  | some (.v (.func (.func g) ⟨[]⟩ ⟨caps⟩))=>match Ht s args with
   | some l=>some (g,l++caps.map .v)
   | none=>none
  | _=>none
 | _=>none
def SS {α:Type 1} (f:Nat) (args:List SV) (o:List (Nat×Own S)) (k:(c:BU S)->c.sp.D S->PS S->α) (fail:α):List (BU S)->α
 | []=>fail
 | c::r=>match Nat.beq c.f f with
  | true=>match c.sp.parse c.flat args o [] c.bn with
   | some (x,ps)=>k c x ps
   | none=>SS f args o k fail r
  | false=>SS f args o k fail r
def nth {α:Type}:List α->Nat->Option α
 | [],_=>none
 | x::_,0=>some x
 | _::r,n+1=>nth r n
theorem GI {α:Type}: ∀ (l:List α) (n:Nat),nth l n=l[n]?
 | [],_=>by simp [nth]
 | _::_,0=>by simp [nth]
 | _::r,n+1=>by simp [nth,GI r n]
inductive Wn where
 | yes
 | no
 | split (d:Nat) (c:Bool)
 | iS
def CA (s:St S) (all:Array Oper) (o:Oper):Wn:=
 match o.guard with
 | none=>.yes
 | some (j,want)=>match nth all.toList j with
  | some q=>match q.dst with
   | some d=>match lk s.t d with
    | some (.v (.bool true))=>match want with
     | true=>.yes
     | false=>.no
    | some (.v (.bool false))=>match want with
     | true=>.no
     | false=>.yes
    | some (.v (.tuple ⟨[]⟩))=>.no
    | some (.b c)=>.split d c
    | _=>.iS
   | none=>.iS
  | none=>.iS
def Lw (tb:List (Nat×TI)) (s:St S):List ResultVar->Option (List SV)
 | []=>some []
 | .tmp t::r=>match lk s.t t with
  | some x=>match Lw tb s r with
   | some l=>some (x::l)
   | none=>none
  | none=>none
 | .cell t T::r=>match JJ tb s T (.tmp t) with
  | .val none x=>match Lw tb s r with
   | some l=>some (x::l)
   | none=>none
  | _=>none
def F9 (s:St S):List Nat->Option (List SV)
 | []=>some []
 | t::r=>match lk s.t t with
  | some x=>match F9 s r with
   | some l=>some (x::l)
   | none=>none
  | none=>none
def Lr {ι:Nat->Type} {ρ:Type} (c:Option Bool) (t:Tr ι ρ):Tr ι ρ:=match c with
 | none=>t
 | some b=>.Z5 b t
def OR (m:List (Nat×Nat)):Nat->Option (List Nat)
 | 0=>some []
 | i+1=>match lk m i with
  | some j=>match OR m i with
   | some l=>some (j::l)
   | none=>none
  | none=>none
def UP (n:Nat):List Nat->Bool
 | []=>true
 | j::r=>match Nat.ble (j+1) n with
  | true=>UP n r
  | false=>false
def iv (m:List (Nat×Nat)) (bn n:Nat):Bool:=match OR m bn with
 | some l=>UP n l
 | none=>false
def fN {α:Type 1} (n:Nat) (k:Nat->α):α:=match n with
 | 0=>k 0
 | m+1=>k (m+1)
theorem NA {α:Type 1} (n:Nat) (k:Nat->α):fN n k=k n:=by cases n<;>rfl
def SV.fc {α:Type 1}:SV->(SV->α)->α
 | .v x,k=>k (.v x)
 | .b c,k=>k (.b c)
 | .ptr i off,k=>fN i fun i=>k (.ptr i off)
 | .row i n,k=>fN i fun i=>k (.row i n)
 | .tr i,k=>fN i fun i=>k (.tr i)
 | .ep i z e off,k=>fN i fun i=>k (.ep i z e off)
 | .view i off len cap,k=>fN i fun i=>k (.view i off len cap)
 | .CC i,k=>fN i fun i=>k (.CC i)
 | .h i,k=>fN i fun i=>k (.h i)
 | .vp i off,k=>fN i fun i=>k (.vp i off)
 | .ap i n e off,k=>fN i fun i=>k (.ap i n e off)
 | .pr i z e off,k=>fN i fun i=>k (.pr i z e off)
 | .pp i z e off y j q,k=>fN i fun i=>k (.pp i z e off y j q)
 | .agg cs,k=>k (.agg cs)
 | .Gv cs,k=>k (.Gv cs)
 | .fn f cs,k=>k (.fn f cs)
 | .mk i e,k=>fN i fun i=>k (.mk i e)
 | .hm i,k=>fN i fun i=>k (.hm i)
theorem SV.Ft {α:Type 1} (x:SV) (k:SV->α):x.fc k=k x:=by cases x<;>simp only [SV.fc,NA]
def il {α:Type 1}:List SV->(List SV->α)->α
 | [],k=>k []
 | x::r,k=>x.fc fun x=>il r fun r=>k (x::r)
theorem XV {α:Type 1}: ∀ (l:List SV) (k:List SV->α),il l k=k l
 | [],_=>rfl
 | x::r,k=>by simp only [il,SV.Ft x,XV r]
def Own.fc {α:Type 1}:Own S->(Own S->α)->α
 | .AX T cs,k=>il cs fun cs=>k (.AX T cs)
 | .row T z n cs,k=>il cs fun cs=>k (.row T z n cs)
 | .vu cs,k=>il cs fun cs=>k (.vu cs)
 | .tr τ E l,k=>k (.tr τ E l)
 | .sl τ l,k=>k (.sl τ l)
 | .obj p,k=>k (.obj p)
 | .any,k=>k .any
 | .dp τ E l,k=>k (.dp τ E l)
 | .mp κ τ ag l,k=>k (.mp κ τ ag l)
 | .mr κ τ ag E l,k=>k (.mr κ τ ag E l)
theorem Own.Ft {α:Type 1} (b:Own S) (k:Own S->α):b.fc k=k b:=by cases b<;>simp only [Own.fc,XV]
def im {α:Type 1}:List (Nat×Own S)->(List (Nat×Own S)->α)->α
 | [],k=>k []
 | (i,b)::r,k=>fN i fun i=>b.fc fun b=>im r fun r=>k ((i,b)::r)
theorem Pu {α:Type 1}: ∀ (l:List (Nat×Own S)) (k:List (Nat×Own S)->α),im l k=k l
 | [],_=>rfl
 | (i,b)::r,k=>by simp only [im,NA,Own.Ft b,Pu r]
def me {α:Type 1}:List (Nat×SV)->(List (Nat×SV)->α)->α
 | [],k=>k []
 | (i,x)::r,k=>fN i fun i=>x.fc fun x=>me r fun r=>k ((i,x)::r)
theorem XX {α:Type 1}: ∀ (l:List (Nat×SV)) (k:List (Nat×SV)->α),me l k=k l
 | [],_=>rfl
 | (i,x)::r,k=>by simp only [me,NA,SV.Ft x,XX r]
def mc {α:Type 1}:List Nat->(List Nat->α)->α
 | [],k=>k []
 | i::r,k=>fN i fun i=>mc r fun r=>k (i::r)
theorem XW {α:Type 1}: ∀ (l:List Nat) (k:List Nat->α),mc l k=k l
 | [],_=>rfl
 | i::r,k=>by simp only [mc,NA,XW r]
def St.fc {α:Type 1} (s:St S) (k:St S->α):α:=me s.t fun t=>im s.o fun o=>fN s.n fun n=>k ⟨t,o,n,s.sz⟩
theorem St.Ft {α:Type 1} (s:St S) (k:St S->α):s.fc k=k s:=by
 unfold St.fc;rw [XX,Pu,NA]
def Oy {α:Type 1} (s:St S) (c:BU S) (ps:PS S) (dst:Option Tmp) (y:c.rs.D S) (k:St S->α) (fail:α):α:=
 match iv ps.m c.bn s.n with
 | true=>match c.rs.enc y (Hg c.bn c.rs) with
  | (rs',o',n')=>match St.put { s with o:=Dr (Bv c.bn ps.m s.n) o'++ps.o,n:=s.n+(n' -c.bn) } dst (Ay (Cf (Bv c.bn ps.m s.n) rs')) with
  | some s'=>s'.fc k
  | none=>fail
 | false=>fail
mutual
def SV.Kn (j n:Nat):SV->SV
 | .tr i=>match Nat.beq i j with
  | true=>.h n
  | false=>.tr i
 | .agg cs=>.agg (TX j n cs)
 | .Gv cs=>.Gv (TX j n cs)
 | .v x=>.v x
 | .b c=>.b c
 | .ptr i off=>.ptr i off
 | .row i m=>.row i m
 | .ep i z e off=>.ep i z e off
 | .view i off len cap=>.view i off len cap
 | .CC i=>.CC i
 | .mk i e=>.mk i e
 | .hm i=>.hm i
 | .h i=>.h i
 | .vp i off=>.vp i off
 | .ap i m e off=>.ap i m e off
 | .pr i z e off=>.pr i z e off
 | .pp i z e off y j q=>.pp i z e off y j q
 | .fn f cs=>.fn f cs
def TX (j n:Nat):List SV->List SV
 | []=>[]
 | x::r=>x.Kn j n::TX j n r
end
def Xy (j n:Nat):List (Nat×SV)->List (Nat×SV)
 | []=>[]
 | (t,x)::r=>(t,x.Kn j n)::Xy j n r
def Own.Kn (j n:Nat):Own S->Own S
 | .AX T cs=>.AX T (TX j n cs)
 | b=>b
def Vt (j n:Nat):List (Nat×Own S)->List (Nat×Own S)
 | []=>[]
 | (i,b)::r=>(i,b.Kn j n)::Vt j n r
def St.Kn (s:St S) (j:Nat):St S:=match lk s.o j with
 | some (.tr τ _ l)=>⟨Xy j s.n s.t,(s.n,.sl τ l)::Vt j s.n (rm s.o j),s.n+1,s.sz⟩
 | _=>s
def Fl:St S->List Nat->St S
 | s,[]=>s
 | s,j::r=>Fl (s.Kn j) r
def WV:List SV->List Nat
 | []=>[]
 | .tr j::r=>j::WV r
 | _::r=>WV r
def UI:List SV->List Nat
 | []=>[]
 | .tr j::r=>j::UI r
 | .agg cs::r=>WV cs++UI r
 | _::r=>UI r
def WW:List SV->List Nat
 | []=>[]
 | .agg cs::r=>WV cs++WW r
 | _::r=>WW r
def iR:List (Nat×SV)->List Nat
 | []=>[]
 | (_,.tr j)::r=>j::iR r
 | _::r=>iR r
def Qr (tb:List (Nat×TI)):List (Nat×Own S)->List Nat
 | []=>[]
 | (_,.AX T cs)::r=>match WV cs with
  | []=>Qr tb r
  | l=>match lk tb T with
   | some t=>match t.τ,t.d with
    | some _,.struct _=>l++Qr tb r
    | _,_=>Qr tb r
   | none=>Qr tb r
 | _::r=>Qr tb r
def cM (tb:List (Nat×TI)) (s:St S) (q:JD):List Nat:=match EI 9000000 q.IS with
 | true=>Qr tb s.o++iR s.t
 | false=>Qr tb s.o
def OO (E:Env S) (c:Nat) (k:List Bp) (s:St S) (L:List Nat) (fail:Tr E.ι E.ρ):Tr E.ι E.ρ:=
 match h:lk E.DF c with
 | some q=>match cb k q.key with
  | true=>match F9 (Fl s L) q.ts with
   | some vs'=>match q.sp.parse true vs' (Fl s L).o (RQ E.bn) q.bn with
    | some (x,_)=>.cut c (EJ E c q h x)
    | none=>fail
   | none=>fail
  | false=>.stuck (3000+c)
 | none=>.stuck 1
def Qp (E:Env S) (c:Nat) (k:List Bp) (s:St S):Tr E.ι E.ρ:=
 match lk E.DF c with
 | some q=>match F9 s q.ts with
  | some vs=>OO E c k s [] (OO E c k s (WW vs) (OO E c k s (WW vs++Qr E.tb s.o) (.stuck (1000+c))))
  | none=>.stuck (2000+c)
 | none=>.stuck 1
def SO (E:Env S) (c:Nat) (k:List Bp) (s:St S):Tr E.ι E.ρ:=
 match lk E.DF c with
 | some q=>match cb k q.key with
  | true=>Qp E c k s
  | false=>Qp E (c+100000) k s
 | none=>.stuck 1
def jm (E:Env S) (c:Nat):Bool:=match lk E.DF c with
 | some _=>true
 | none=>false
def OP (E:Env S) (s:St S) (L:List Nat) (fail:Tr E.ι E.ρ):Tr E.ι E.ρ:=
 match Lw E.tb (Fl s L) E.res with
 | some vs'=>match E.rs.parse true vs' (Fl s L).o (RQ E.bn) (Hg E.bn E.rs) with
  | some (y,_)=>.ret y
  | none=>fail
 | none=>fail
def SP (E:Env S) (s:St S):Tr E.ι E.ρ:=
 match Lw E.tb s E.res with
 | some vs=>OP E s [] (OP E s (WW vs) (OP E s (WW vs++Qr E.tb s.o) (.stuck 2)))
 | none=>.stuck 3
def Ze (tb:List (Nat×TI)):Own S->List Nat
 | .row E _ _ cs=>match lk tb E with
  | some t=>match t.τ with
   | some _=>WV cs
   | none=>[]
  | none=>[]
 | _=>[]
def tmpsOf:List Operand->List Nat
 | []=>[]
 | .tmp t::r=>t::tmpsOf r
 | _::r=>tmpsOf r
def UB:List (Nat×Operand)->List Operand
 | []=>[]
 | x::r=>x.2::UB r
def bU:Option Operand->List Operand
 | none=>[]
 | some x=>[x]
def kb:Op->List Operand
 | .move x=>[x]
 | .assign x=>[x]
 | .box _ x=>[x]
 | .load _ x=>[x]
 | .store _ x y=>[x,y]
 | .nilCheck x=>[x]
 | .unOp _ _ x=>[x]
 | .convert _ _ x=>[x]
 | .fieldAddr _ x _=>[x]
 | .field _ x _=>[x]
 | .extract x _=>[x]
 | .pick c x y=>[c,x,y]
 | .binOp _ _ x y _=>[x,y]
 | .indexAddr _ x y=>[x,y]
 | .index _ x y=>[x,y]
 | .lookup _ x y _=>[x,y]
 | .build _ ⟨ps⟩=>UB ps
 | .buildSlice _ _ ⟨ps⟩=>UB ps
 | .makeFunc _ _ ⟨c⟩=>c
 | .slice _ x l h _=>x::(bU l++bU h)
 | .call ⟨.value f,⟨args⟩,_⟩=>f::args
 | .call ⟨_,⟨args⟩,_⟩=>args
 | .makeSlice _ x y=>[x,y]
 | .makeMap _ x=>bU x
 | .mapUpdate _ x y z=>[x,y,z]
 | .insert _ x y z=>[x,y,z]
 | _=>[]
def X0 (all:Array Oper) (o:Oper):List Nat:=
 match o.guard with
 | none=>[]
 | some (j,_)=>match nth all.toList j with
  | some q=>match q.dst with
   | some d=>[d]
   | none=>[]
  | none=>[]
def Lp (all:Array Oper) (o:Oper):List Nat:=X0 all o++tmpsOf (kb o.op)
structure Rec (S:As) where
 i:Nat
 o:Oper
 pu:Bool
 o1:List (Nat×Own S)
 n1:Nat
 n2:Nat
 x:SV
 cn:List Nat
 gb:List (Nat×Own S)
 tk:Bool
def pick {α:Type}:List Nat->List (Nat×α)->List (Nat×α)
 | [],_=>[]
 | u::r,t=>match lk t u with
  | some x=>(u,x)::pick r t
  | none=>pick r t
def HO:List (Nat×SV)->List (Rec S)->List (Nat×SV)
 | t,[]=>t
 | t,r::rs=>match r.o.dst with
  | none=>HO t rs
  | some d=>HO (pt t d r.x) rs
def Se:List Nat->List (Nat×Own S)->List (Nat×Own S)
 | [],o=>o
 | j::c,o=>rm (Se c o) j
def nZ:Own S->Bool
 | .tr _ _ _=>true
 | .mp _ _ _ _=>true
 | .mr _ _ _ _ _=>true
 | .dp _ _ _=>true
 | _=>false
def jq:Own S->Bool
 | .tr _ _ _=>true
 | _=>false
def Ow:Op->Bool
 | .call _=>true
 | .makeMap _ _=>true
 | _=>false
def SR (u:Nat) (o:List (Nat×Own S)):Bool:=match lk o u with
 | some b=>nZ b
 | none=>false
def IE (u:Nat):List (Rec S)->Bool
 | []=>false
 | r::rs=>match Ow r.o.op with
  | true=>match SR u r.o1 with
   | true=>true
   | false=>IE u rs
  | false=>IE u rs
def JG (f:Nat->Bool):List (Nat×Own S)->List (Nat×Own S)
 | []=>[]
 | (i,b)::r=>match f i with
  | true=>JG f r
  | false=>(i,b)::JG f r
def PM (fl:Bool) (hid:List Nat) (rs:List (Rec S)) (o:List (Nat×Own S)):List (Nat×Own S):=match fl with
 | true=>Se hid (JG (fun u=>IE u rs) o)
 | false=>o
def oC (L:Nat->Bool) (o:List (Nat×Own S)):List (Rec S)->List (Nat×Own S)
 | []=>o
 | r::rs=>match L r.i with
  | true=>oC L (r.gb++(r.o1++Se r.cn o)) rs
  | false=>oC L o rs
def A8:Nat->List (Rec S)->Nat
 | n,[]=>n
 | _,r::rs=>A8 r.n2 rs
def eH (m i:Nat):Bool:=Nat.beq (Nat.land 1 (Nat.shiftRight m i)) 1
def CR (ms:List Nat) (j i:Nat):Bool:=match nth ms j with
 | some m=>eH m i
 | none=>false
def behind (s:St S) (rs:List (Rec S)):St S:=⟨HO s.t rs,oC (fun _=>true) s.o rs,A8 s.n rs,s.sz⟩
def seenAt (fl:Bool) (hid:List Nat) (s:St S) (all:Array Oper) (ms:List Nat) (rs:List (Rec S)) (i:Nat) (o:Oper) (pu:Bool):St S:=
 ⟨pick (Lp all o) (HO s.t rs),match pu with|true=>[]|false=>PM fl hid rs (oC (CR ms i) s.o rs),A8 s.n rs,s.sz⟩
def nY:List Oper->Nat->Bool
 | [],_=>false
 | o::r,i=>match o.guard with
  | some (j,_)=>match Nat.beq j i with
   | true=>true
   | false=>nY r i
  | none=>nY r i
def EV (d:Option Tmp) (sz:Nat):Bool:=match d with
 | none=>true
 | some d=>Nat.ble (d+1) sz
def Cb (n1 n2:Nat):List (Nat×Own S)->Bool
 | []=>Nat.ble n1 n2
 | (i,_)::r=>match Nat.ble n1 i,Nat.ble (i+1) n2 with
  | true,true=>Cb n1 n2 r
  | _,_=>false
def Cm:List C0->Bool
 | []=>true
 | .fd _::r=>Cm r
 | .st _::r=>Cm r
 | .fn _ []::r=>Cm r
 | _::_=>false
def Spec.Rc (q:Spec):Bool:=match q.bx with
 | []=>Cm q.as
 | _::_=>false
def Rec.fc {α:Type 1} (r:Rec S) (k:Rec S->α):α:=im r.o1 fun o1=>fN r.n1 fun n1=>fN r.n2 fun n2=>r.x.fc fun x=>mc r.cn fun cn=>im r.gb fun gb=>k ⟨r.i,r.o,r.pu,o1,n1,n2,x,cn,gb,r.tk⟩
theorem Rec.Ft {α:Type 1} (r:Rec S) (k:Rec S->α):r.fc k=k r:=by
 unfold Rec.fc;rw [Pu,NA,NA,SV.Ft,XW,Pu]
def Wt {ι:Nat->Type} {ρ:Type} (all:Array Oper) (k:Rec S->Tr ι ρ) (r:Rec S):Tr ι ρ:=
 match r.x with
 | .b c=>match nY all.toList r.i with
  | true=>.ite c (k { r with x:=.v (.bool true) }) (k { r with x:=.v (.bool false) })
  | false=>k r
 | _=>k r
def E0 {ι:Nat->Type} {ρ:Type} (all:Array Oper) (r:Rec S) (k:Rec S->Tr ι ρ):Tr ι ρ:=r.fc (Wt all k)
def recC {ι:Nat->Type} {ρ:Type} (st:St S) (i:Nat) (o:Oper) (c:BU S) (ps:PS S) (y:c.rs.D S) (k:Rec S->Tr ι ρ):Tr ι ρ:=
 match c.rs.enc y (Hg c.bn c.rs) with
 | (rs',o',n')=>match Cb st.n (st.n+(n' -c.bn)) (Dr (Bv c.bn ps.m st.n) o') with
  | true=>k ⟨i,o,false,Dr (Bv c.bn ps.m st.n) o',st.n,st.n+(n' -c.bn),Ay (Cf (Bv c.bn ps.m st.n) rs'),[],[],false⟩
  | false=>.stuck 46
def ZG {ι:Nat->Type} {ρ:Type} (tb:List (Nat×TI)) (st:St S) (i:Nat) (o:Oper) (fail:Tr ι ρ) (k:Rec S->Tr ι ρ):Tr ι ρ:=match o.op with
 | .slice T x lo hi none=>match ev st x with
  | some (.h _)=>match G4 tb st T x lo hi with
   | .nm c o1 n' v=>match Cb st.n n' o1 with
    | true=>Lr c (k ⟨i,o,true,o1,st.n,n',v,[],[],false⟩)
    | false=>fail
   | _=>fail
  | _=>fail
 | _=>fail
inductive Zo (S:As) where
 | b0 (e:Nat)
 | a0 (j:Nat) (b:Bool) (c:Option Bool) (o1:List (Nat×Own S)) (n':Nat) (v:SV)
 | no
def zeroOf (tb:List (Nat×TI)) (pu:Bool) (all:List Oper) (st:St S) (o:Oper):Zo S:=match pu with
 | true=>.no
 | false=>match X6 tb all o with
  | some e=>.b0 e
  | none=>match Ve tb st o.op with
   | some (j,b,.nm c o1 n' v)=>.a0 j b c o1 n' v
   | _=>.no
theorem WZ {tb:List (Nat×TI)} {pu:Bool} {all:List Oper} {st:St S} {o:Oper} {e:Nat} (h:zeroOf tb pu all st o=.b0 e):pu=false/\X6 tb all o=some e:=by
 unfold zeroOf at h
 split at h
 ·cases h
 ·split at h
  ·rename_i he;cases h;exact ⟨rfl,he⟩
  ·split at h<;>cases h
theorem WY {tb:List (Nat×TI)} {pu:Bool} {all:List Oper} {st:St S} {o:Oper} {j:Nat} {b:Bool} {c:Option Bool} {o1:List (Nat×Own S)} {n':Nat} {v:SV} (h:zeroOf tb pu all st o=.a0 j b c o1 n' v):pu=false/\Ve tb st o.op=some (j,b,.nm c o1 n' v):=by
 unfold zeroOf at h
 split at h
 ·cases h
 ·split at h
  ·cases h
  ·split at h
   ·rename_i he;cases h;exact ⟨rfl,he⟩
   ·cases h
def To (t:Nat):List Oper->Bool
 | []=>false
 | o::r=>match o.op,o.dst with
  | .buildSlice _ 0 _,some d=>match Nat.beq d t with
   | true=>true
   | false=>To t r
  | _,_=>To t r
def BK (s:St S) (all:Array Oper) (ms:List Nat) (rs:List (Rec S)) (i:Nat) (o:Oper):St S:=
 ⟨pick (Lp all o) (HO s.t rs),oC (CR ms i) s.o rs,A8 s.n rs,s.sz⟩
def Us (f:Nat->Bool):List (Nat×Own S)->Bool
 | []=>true
 | (i,_)::r=>match f i with
  | true=>Us f r
  | false=>false
def Nr (f:Nat->Bool):List Nat->Bool
 | []=>true
 | i::r=>match f i with
  | true=>Nr f r
  | false=>false
def Ol:List Nat->Bool
 | []=>false
 | _::_=>true
def XB (own:Bool) (ms:List Nat) (i:Nat):List (Rec S)->Bool
 | []=>true
 | r::rs=>match Ol r.cn || (own && r.tk) with
  | false=>XB own ms i rs
  | true=>match CR ms i r.i with
   | true=>XB own ms i rs
   | false=>false
def F3 (m:Nat) (hid:List Nat) (ms:List Nat) (i n:Nat) (rs:List (Rec S)) (cn:List Nat) (gb:List (Nat×Own S)):Bool:=
 Nr (fun j=>(EI j hid || IE j rs) && Nat.ble (j+1) n) cn && Us (fun j=>EI j cn && Nat.ble (j+1) m) gb && XB (Ol cn) ms i rs
def Vn (m:Nat) (hid:List Nat) (n:Nat) (ms:List Nat) (i:Nat) (rs:List (Rec S)) (cn:List Nat) (c:Option Bool) (ow:Own S):Option (List Nat×Option Bool×Own S):=match F3 m hid ms i n rs cn [] with
 | true=>some (cn,c,ow)
 | false=>none
def Ua (m:Nat) (fl:Bool) (hid:List Nat) (tb:List (Nat×TI)) (st:St S) (ms:List Nat) (i:Nat) (rs:List (Rec S)) (pu:Bool) (op:Op):Option (List Nat×Option Bool×Own S):=
 match fl,pu with
 | true,false=>match op with
  | .call ⟨.builtin .append,⟨[x,y]⟩,⟨[T,T']⟩⟩=>match Nat.beq T' T,ev st x with
   | true,some (.tr j)=>match Q0 tb st T x y with
    | .x c ((_,ow)::_) _ _=>Vn m hid st.n ms i rs [j] c ow
    | _=>match DS tb T,ev st y,lk st.o j with
     | some (.slice e _),some (.row k 1),some (.mr κ τ ag E ls)=>match lk tb e,lk st.o k with
      | some te,some (.row E'' 1 1 [.CC u])=>match lk st.o u,Nat.beq j u,Nat.beq E'' e with
       | some (.mp κ' τ' ag' l),false,true=>match Nat.beq te.sz 1,Nat.beq E e,HU ag' ag,Nat.decEq τ' τ,Vp κ' κ with
        | true,true,true,.isTrue h,some ⟨h'⟩=>Vn m hid st.n ms i rs [j,u] (some (room te.bs (ls.length+1))) (.mr κ τ ag E (ls++[(h▸h'▸l:List (κ.T S.T×S.T τ))]))
        | _,_,_,_,_=>none
       | _,_,_=>none
      | _,_=>none
     | _,_,_=>none
   | _,_=>none
  | .buildSlice T n ⟨[(0,x)]⟩=>match Nat.beq n 1,ev st x with
   | true,some (.CC j)=>match Yo tb st T 1 [(0,x)] with
    | .x c ((_,ow)::_) _ _=>Vn m hid st.n ms i rs [j] c ow
    | _=>none
   | _,_=>none
  | .slice T x none hi none=>match DS tb T,ev st x with
   | some (.slice _ _),some (.tr j)=>match lk st.o j with
    | some (.mr κ τ ag E ls)=>match Is st ls.length hi with
     | some h=>Vn m hid st.n ms i rs [j] (some (decide (0<=h/\h<=ls.length))) (.mr κ τ ag E (ls.take h.toNat))
     | none=>none
    | _=>none
   | _,_=>none
  | _=>none
 | _,_=>none
def Zv (m:Nat) (fl:Bool) (hid:List Nat) (tb:List (Nat×TI)) (st:St S) (ms:List Nat) (i:Nat) (rs:List (Rec S)) (pu:Bool) (op:Op):Option (Nat×Own S):=
 match fl,pu with
 | true,false=>match op with
  | .store T x y=>match ev st x with
   | some (.ptr j _)=>match EI j hid,lk st.o j with
    | true,some (.AX _ _)=>match IY tb st T x y with
     | .Sf none j' b=>match Nat.beq j' j,F3 m hid ms i st.n rs [j] [(j,b)] with
      | true,true=>some (j,b)
      | _,_=>none
     | _=>none
    | _,_=>none
   | _=>none
  | _=>none
 | _,_=>none
def Hy (o':List (Nat×Own S)):List (Nat×Own S)->List Nat
 | []=>[]
 | (i,_)::r=>match lk o' i with
  | some _=>Hy o' r
  | none=>i::Hy o' r
def E4 (n:Nat):List (Nat×Own S)->List (Nat×Own S)
 | []=>[]
 | (i,b)::r=>match Nat.ble (i+1) n with
  | true=>(i,b)::E4 n r
  | false=>E4 n r
def F6 (n:Nat):List (Nat×Own S)->List (Nat×Own S)
 | []=>[]
 | (i,b)::r=>match Nat.ble (i+1) n with
  | true=>F6 n r
  | false=>(i,b)::F6 n r
def nX (o:List (Nat×Own S)) (j:Nat):Bool:=match lk o j with
 | some _=>true
 | none=>false
def Yz (m:List (Nat×Nat)) (bn:Nat) (o:List (Nat×Own S)):Bool:=match OR m bn with
 | some l=>Nr (nX o) l
 | none=>false
def Qk:List SV->List SV->Bool
 | [],[]=>true
 | .ptr i k::r,.ptr i' k'::r'=>match Nat.beq i i',Nat.beq k k' with
  | true,true=>Qk r r'
  | _,_=>false
 | _,_=>false
def Zn:Own S->Own S->Bool
 | .AX T cs,.AX T' cs'=>match Nat.beq T T' with
  | true=>Qk cs cs'
  | false=>false
 | _,_=>false
def RS (o g:List (Nat×Own S)) (u:Nat):Bool:=match lk g u,lk o u with
 | some b,some b'=>Zn b b'
 | _,_=>false
def Ki (f:Nat->Bool):List Nat->List Nat
 | []=>[]
 | i::r=>match f i with
  | true=>Ki f r
  | false=>i::Ki f r
def NJ (po o g:List (Nat×Own S)):List Nat:=Ki (RS o g) (Hy po o)
def J4 (o g:List (Nat×Own S)):List (Nat×Own S):=JG (RS o g) g
def SN {ι:Nat->Type} {ρ:Type} (m:Nat) (hid:List Nat) (ms:List Nat) (rs:List (Rec S)) (st:St S) (i:Nat) (o:Oper) (c:BU S) (ps:PS S) (y:c.rs.D S) (k:Rec S->Tr ι ρ):Tr ι ρ:=
 match c.rs.enc y (Hg c.bn c.rs) with
 | (rs',o',n')=>match Yz ps.m c.bn st.o,Cb st.n (st.n+(n' -c.bn)) (F6 st.n (Dr (Bv c.bn ps.m st.n) o')),F3 m hid ms i st.n rs (NJ ps.o st.o (E4 st.n (Dr (Bv c.bn ps.m st.n) o'))) (J4 st.o (E4 st.n (Dr (Bv c.bn ps.m st.n) o'))) with
  | true,true,true=>k ⟨i,o,false,F6 st.n (Dr (Bv c.bn ps.m st.n) o'),st.n,st.n+(n' -c.bn),Ay (Cf (Bv c.bn ps.m st.n) rs'),NJ ps.o st.o (E4 st.n (Dr (Bv c.bn ps.m st.n) o')),J4 st.o (E4 st.n (Dr (Bv c.bn ps.m st.n) o')),true⟩
  | _,_,_=>.stuck 55
def UF:SV->SV->Bool
 | .ptr a b,.ptr a' b'=>match Nat.beq a a',Nat.beq b b' with
  | true,true=>true
  | _,_=>false
 | .CC a,.CC a'=>Nat.beq a a'
 | _,_=>false
def fM (r:R S) (x:SV):Bool:=match r with
 | .val none y=>UF x y
 | _=>false
def O7 (tb:List (Nat×TI)) (T off:Nat) (x:SV):Own S->Bool
 | .AX _ cs=>match lk tb T with
  | some t=>fM (S:=S) (ld t cs off) x
  | none=>false
 | _=>false
def SK (tb:List (Nat×TI)) (T off:Nat) (x:SV) (j:Nat):List (Rec S)->Bool
 | []=>true
 | r::rs=>match EI j r.cn with
  | false=>SK tb T off x j rs
  | true=>match lk r.gb j with
   | some o=>match O7 tb T off x o with
    | true=>SK tb T off x j rs
    | false=>false
   | none=>false
def UG (s:St S) (tb:List (Nat×TI)) (st:St S) (rs:List (Rec S)):Op->Option SV
 | .load T x=>match ev st x with
  | some (.ptr j off)=>match lk s.o j with
   | some (.AX U cs)=>match cs[off]? with
    | some v=>match O7 (S:=S) tb T off v (.AX U cs),SK tb T off v j rs with
     | true,true=>some v
     | _,_=>none
    | _=>none
   | _=>none
  | _=>none
 | _=>none
def XP (all:List Oper):List (Nat×Bool)->Bool
 | []=>false
 | (_,true)::r=>XP all r
 | (i,false)::r=>match nth all i with
  | some o=>match o.op with
   | .call ⟨.builtin .append,⟨[.tmp t,_]⟩,_⟩=>match To t all with
    | true=>XP all r
    | false=>true
   | _=>XP all r
  | none=>XP all r
def Ci {ι:Nat->Type} {ρ:Type} (fl:Bool) (hid:List Nat) (tb:List (Nat×TI)) (ct:List (BU S)) (s:St S) (all:Array Oper) (ms:List Nat) (fin:List (Rec S)->Tr ι ρ):List (Nat×Bool)->List (Rec S)->Tr ι ρ
 | [],rs=>fin rs
 | (i,pu)::t,rs=>match nth all.toList i with
  | none=>.stuck 40
  | some o=>match EV o.dst s.sz with
   | false=>.stuck 41
   | true=>match CA (seenAt fl hid s all ms rs i o pu) all o with
    | .no=>Ci fl hid tb ct s all ms fin t (rs++[⟨i,o,pu,[],A8 s.n rs,A8 s.n rs,.v (.tuple #[]),[],[],false⟩])
    | .yes=>match zeroOf tb pu all.toList (seenAt fl hid s all ms rs i o false) o with
     | .b0 e=>E0 all ⟨i,o,false,[(A8 s.n rs,.AX e [])],A8 s.n rs,A8 s.n rs+1,.view (A8 s.n rs) 0 0 0,[],[],false⟩ fun r=>Ci fl hid tb ct s all ms fin t (rs++[r])
     | .a0 j b c o1 n' v=>match Cb (A8 s.n rs) n' o1 with
      | true=>Lr c (.ite b (E0 all ⟨i,o,false,[],A8 s.n rs,A8 s.n rs,.view j 0 0 0,[],[],false⟩ fun r=>Ci fl hid tb ct s all ms fin t (rs++[r])) (E0 all ⟨i,o,false,o1,A8 s.n rs,n',v,[],[],false⟩ fun r=>Ci fl hid tb ct s all ms fin t (rs++[r])))
      | false=>.stuck 49
     | .no=>match Ua s.n fl hid tb (BK s all ms rs i o) ms i rs pu o.op with
      | some (cn,c,ow)=>Lr c (Ci fl hid tb ct s all ms fin t (rs++[⟨i,o,false,[(A8 s.n rs,ow)],A8 s.n rs,A8 s.n rs+1,.tr (A8 s.n rs),cn,[],true⟩]))
      | none=>match Zv s.n fl hid tb (BK s all ms rs i o) ms i rs pu o.op with
      | some (j,b)=>Ci fl hid tb ct s all ms fin t (rs++[⟨i,o,false,[],A8 s.n rs,A8 s.n rs,.v (.tuple #[]),[j],[(j,b)],true⟩])
      | none=>match callee (seenAt fl hid s all ms rs i o pu) o.op with
      | some (f,args)=>match pu with
       | true=>.stuck 42
       | false=>SS f args (PM fl hid rs (oC (CR ms i) s.o rs)) (fun c x ps=>match c.sp.Rc,Nat.beq c.bn 0 with
        | true,true=>match c.out with
         | .Jl g=>recC (seenAt fl hid s all ms rs i o false) i o c ps (g x) fun r=>E0 all r fun r=>Ci fl hid tb ct s all ms fin t (rs++[r])
         | .pre p g=>.Z5 (p x) (recC (seenAt fl hid s all ms rs i o false) i o c ps (g x) fun r=>E0 all r fun r=>Ci fl hid tb ct s all ms fin t (rs++[r]))
         | .opt m=>.Is (m x) fun y=>recC (seenAt fl hid s all ms rs i o false) i o c ps y fun r=>E0 all r fun r=>Ci fl hid tb ct s all ms fin t (rs++[r])
        | _,_=>.stuck 43) (match fl with
        | false=>.stuck (10000+f)
        | true=>SS f args (oC (CR ms i) s.o rs) (fun c x ps=>match c.out with
         | .Jl g=>SN s.n hid ms rs (BK s all ms rs i o) i o c ps (g x) fun r=>E0 all r fun r=>Ci fl hid tb ct s all ms fin t (rs++[r])
         | .pre p g=>.Z5 (p x) (SN s.n hid ms rs (BK s all ms rs i o) i o c ps (g x) fun r=>E0 all r fun r=>Ci fl hid tb ct s all ms fin t (rs++[r]))
         | .opt m=>.Is (m x) fun y=>SN s.n hid ms rs (BK s all ms rs i o) i o c ps y fun r=>E0 all r fun r=>Ci fl hid tb ct s all ms fin t (rs++[r])) (.stuck (10000+f)) ct) ct
      | none=>match evalOp tb (seenAt fl hid s all ms rs i o pu) o.op with
       | .val c x=>Lr c (E0 all ⟨i,o,pu,[],A8 s.n rs,A8 s.n rs,x,[],[],false⟩ fun r=>Ci fl hid tb ct s all ms fin t (rs++[r]))
       | .new b=>match pu with
        | true=>.stuck 44
        | false=>E0 all ⟨i,o,false,[(A8 s.n rs,b)],A8 s.n rs,A8 s.n rs+1,HS b (A8 s.n rs),[],[],false⟩ fun r=>Ci fl hid tb ct s all ms fin t (rs++[r])
       | .nm c o1 n' v=>match pu,Cb (A8 s.n rs) n' o1 with
        | false,true=>Lr c (E0 all ⟨i,o,false,o1,A8 s.n rs,n',v,[],[],false⟩ fun r=>Ci fl hid tb ct s all ms fin t (rs++[r]))
        | _,_=>.stuck 45
       | .stop=>match pu with
        | true=>ZG tb (seenAt fl hid s all ms rs i o false) i o (.stuck (200000000+1000*i+o.dst.getD 0)) fun r=>E0 all r fun r=>Ci fl hid tb ct s all ms fin t (rs++[r])
        | false=>match fl,F3 s.n hid ms i (A8 s.n rs) rs [] [],evalOp tb (BK s all ms rs i o) o.op with
         | true,true,.val c x=>Lr c (E0 all ⟨i,o,false,[],A8 s.n rs,A8 s.n rs,x,[],[],true⟩ fun r=>Ci fl hid tb ct s all ms fin t (rs++[r]))
         | true,true,.nm c o1 n' v=>match Cb (A8 s.n rs) n' o1 with
          | true=>Lr c (E0 all ⟨i,o,false,o1,A8 s.n rs,n',v,[],[],true⟩ fun r=>Ci fl hid tb ct s all ms fin t (rs++[r]))
          | false=>.stuck 56
         | _,_,_=>match fl,UG s tb (BK s all ms rs i o) rs o.op with
          | true,some x=>E0 all ⟨i,o,false,[],A8 s.n rs,A8 s.n rs,x,[],[],true⟩ fun r=>Ci fl hid tb ct s all ms fin t (rs++[r])
          | _,_=>.stuck (200000000+1000*i+o.dst.getD 0)
       | _=>.stuck (200000000+1000*i+o.dst.getD 0)
    | .split _ _=>.stuck 47
    | .iS=>.stuck 48
def F2:List Nat->List Nat
 | []=>[]
 | i::r=>match Nat.ble 1000000 i with
  | true=>F2 r
  | false=>i::F2 r
def ai:List Nat->List Nat
 | []=>[]
 | i::r=>match Nat.ble 1000000 i with
  | true=>(i -1000000)::ai r
  | false=>ai r
def Qq:List (Nat×Own S)->List Nat
 | []=>[]
 | (i,b)::r=>match jq b with
  | true=>i::Qq r
  | false=>Qq r
mutual
def VY:SV->List Nat
 | .v _=>[]
 | .b _=>[]
 | .ptr i _=>[i]
 | .row i _=>[i]
 | .tr i=>[i]
 | .ep i _ _ _=>[i]
 | .view i _ _ _=>[i]
 | .CC i=>[i]
 | .mk i _=>[i]
 | .hm i=>[i]
 | .h i=>[i]
 | .vp i _=>[i]
 | .ap i _ _ _=>[i]
 | .pr i _ _ _=>[i]
 | .pp i _ _ _ _ _ _=>[i]
 | .agg cs=>Gl cs
 | .Gv cs=>Gl cs
 | .fn _ cs=>Gl cs
def Gl:List SV->List Nat
 | []=>[]
 | x::r=>VY x++Gl r
end
def N3 (o:List (Nat×Own S)):Nat->List Nat->List Nat
 | 0,_=>[]
 | _+1,[]=>[]
 | f+1,i::r=>match lk o i with
  | some (.AX _ cs)=>i::(N3 o f (Gl cs)++N3 o f r)
  | some _=>i::N3 o f r
  | none=>N3 o f r
def Ir (t:List (Nat×SV)):List Nat->List Nat
 | []=>[]
 | u::r=>match lk t u with
  | some x=>VY x++Ir t r
  | none=>Ir t r
def P3 (o:List (Nat×Own S)):List Nat->List Nat
 | []=>[]
 | i::r=>match lk o i with
  | some (.AX _ cs)=>Gl cs++P3 o r
  | _=>P3 o r
def NO (o:List (Nat×Own S)) (t:List (Nat×SV)):List Nat->List Nat
 | []=>[]
 | u::r=>match Nat.ble 1000000 u with
  | true=>P3 o (Ir t [u -1000000])++NO o t r
  | false=>Ir t [u]++NO o t r
def pz:Bool->Bool->Bool
 | true,_=>true
 | false,b=>b
def lG:List Nat->Bool
 | []=>false
 | _::_=>true
def ef (all:List Oper) (q:JD):Bool:=pz (lG (ai q.IS)) (XP all q.pre)
def cy (s:St S) (all:List Oper) (q:JD):List Nat:=match ef all q with
 | true=>Qq s.o++N3 s.o 30 (NO s.o s.t (ai q.IS))
 | false=>[]
def Ln (all:Array Oper):List Nat->List Oper
 | []=>[]
 | i::r=>match nth all.toList i with
  | some o=>o::Ln all r
  | none=>Ln all r
def Bx:Nat->List SV->List (Nat×SV)
 | _,[]=>[]
 | i,x::r=>(i,x)::Bx (i+1) r
def Up:List Oper->Bool
 | []=>false
 | o::r=>match E5 o with
  | true=>true
  | false=>Up r
def mF (s:St S):Op->List Nat
 | .mapUpdate _ _ _ v=>match ev s v with
  | some x=>UI [x]
  | none=>[]
 | .insert _ _ _ v=>match ev s v with
  | some x=>UI [x]
  | none=>[]
 | _=>[]
def exec {ι:Nat->Type} {ρ:Type} (E:Env S):Nat->Fr->(Nat->List Bp->St S->Tr ι ρ)->(Bool->St S->Tr ι ρ)->Bool->List Bp->St S->Tr ι ρ
 | 0,_,_,_,_,_,_=>.stuck 4
 | _+1,_,_,or',_,[],s=>or' false s
 | n+1,fr,oc,or',go,.ops _ []::k,s=>exec E n fr oc or' go k s
 | n+1,fr,oc,or',go,.ops all (o::r)::k,s=>match CA s all o with
  | .iS=>.stuck 6
  | .split d c=>.ite c (exec E n fr oc or' go (.ops all (o::r)::k) { s with t:=pt s.t d (.v (.bool true)) }) (exec E n fr oc or' go (.ops all (o::r)::k) { s with t:=pt s.t d (.v (.bool false)) })
  | .no=>match s.put o.dst (.v (.tuple #[])) with
   | some s'=>exec E n fr oc or' go (.ops all r::k) s'
   | none=>.stuck 7
  | .yes=>match callee s o.op with
   | some (f,args)=>match lk E.inl f with
    | some q=>match Nat.ble args.length q.sz with
     | true=>exec E n ⟨false,q.dr⟩ (fun _ _ _=>.stuck 50) (fun _ s'=>match Lw E.tb s' q.res with
      | some vs=>match St.put { s with o:=s'.o,n:=s'.n } o.dst (Ay vs) with
       | some s''=>exec E n fr oc or' go (.ops all r::k) s''
       | none=>.stuck 51
      | none=>.stuck 52) false [.code [] q.body] ⟨Bx 0 args,s.o,s.n,q.sz⟩
     | false=>.stuck 53
    | none=>SS f args s.o (fun c x ps=>match c.out with
     | .Jl g=>Oy s c ps o.dst (g x) (fun s'=>exec E n fr oc or' go (.ops all r::k) s') (.stuck 8)
     | .pre p g=>.Z5 (p x) (Oy s c ps o.dst (g x) (fun s'=>exec E n fr oc or' go (.ops all r::k) s') (.stuck 8))
     | .opt m=>.Is (m x) fun y=>Oy s c ps o.dst y (fun s'=>exec E n fr oc or' go (.ops all r::k) s') (.stuck 8)) (match UI args with
      | []=>.stuck (10000+f)
      | l=>exec E n fr oc or' go (.ops all (o::r)::k) (Fl s l)) E.ct
   | none=>match evalOp E.tb s o.op with
    | .val c x=>match s.put o.dst x with
     | some s'=>Lr c (exec E n fr oc or' go (.ops all r::k) s')
     | none=>.stuck 9
    | .new b=>match Ze E.tb b with
     | []=>match St.put { s with o:=(s.n,b)::s.o,n:=s.n+1 } o.dst (HS b s.n) with
      | some s'=>exec E n fr oc or' go (.ops all r::k) s'
      | none=>.stuck 9
     | j::l=>exec E n fr oc or' go (.ops all (o::r)::k) (Fl s (j::l))
    | .Sf c i b=>match St.put { s with o:=pt s.o i b } o.dst (.v (.tuple #[])) with
     | some s'=>Lr c (exec E n fr oc or' go (.ops all r::k) s')
     | none=>.stuck 9
    | .nm c o1 n' v=>match St.put { s with o:=o1++s.o,n:=n' } o.dst v with
     | some s'=>Lr c (exec E n fr oc or' go (.ops all r::k) s')
     | none=>.stuck 9
    | .x c o' n' v=>match St.put { s with o:=o',n:=n' } o.dst v with
     | some s'=>Lr c (exec E n fr oc or' go (.ops all r::k) s')
     | none=>.stuck 9
    | .stop=>match mF s o.op with
     | []=>.stuck (100000000+1000*r.length+o.dst.getD 0)
     | j::l=>exec E n fr oc or' go (.ops all (o::r)::k) (Fl s (j::l))
 | n+1,fr,oc,or',go,.AX _::k,s=>exec E n fr oc or' go k s
 | n+1,fr,oc,or',go,.sc _ _::k,s=>exec E n fr oc or' go k s
 | n+1,fr,oc,or',go,.again a c::k,s=>exec E n fr oc or' go (.code a c::.again a c::k) s
 | n+1,fr,oc,or',go,.code a (.seq x y)::k,s=>exec E n fr oc or' go (.code (0::a) x::.code (1::a) y::k) s
 | n+1,fr,oc,or',go,.code _ .skip::k,s=>exec E n fr oc or' go k s
 | n+1,fr,oc,or',go,.code _ (.label _)::k,s=>exec E n fr oc or' go k s
 | n+1,fr,oc,or',go,.code a (.block id x)::k,s=>exec E n fr oc or' go (.code (0::a) x::.AX id::k) s
 | n+1,fr,oc,or',go,.code a (.scope x)::k,s=>exec E n fr oc or' go (.code (0::a) x::.sc (0::a) x::k) s
 | n+1,fr,oc,or',go,.code a (.loop x)::k,s=>exec E n fr oc or' go (.again (0::a) x::k) s
 | n+1,fr,oc,or',go,.code a (.region id ops d)::k,s=>match (match go with|true=>false|false=>match fr.main with|true=>jm E id|false=>false) with
  | true=>oc id (.code a (.region id ops d)::k) s
  | false=>match Up ops.toList with
   | true=>oc 999998 (.code a (.region id ops d)::k) s
   | false=>match d with
   | false=>exec E n fr oc or' false (.ops ops ops.toList::k) s
   | true=>match lk fr.dr id with
    | some q=>match q.fz with
     | false=>Ci (ef ops.toList q) (cy s ops.toList q) E.tb E.ct s ops q.ms (fun rs=>(behind s rs).fc fun s1=>exec E n fr oc or' false (.ops ops (Ln ops (F2 q.IS))::k) s1) q.pre []
     | true=>Ci (ef ops.toList q) (cy (Fl s (cM E.tb s q)) ops.toList q) E.tb E.ct (Fl s (cM E.tb s q)) ops q.ms (fun rs=>(behind (Fl s (cM E.tb s q)) rs).fc fun s1=>exec E n fr oc or' false (.ops ops (Ln ops (F2 q.IS))::k) s1) q.pre []
    | none=>.stuck (30000+id)
 | n+1,fr,oc,or',go,.code _ (.exit id)::k,s=>match GQ id k with
  | some k'=>exec E n fr oc or' go k' s
  | none=>.stuck 10
 | n+1,fr,oc,or',go,.code _ (.goto l)::k,s=>match GS l k with
  | some k'=>exec E n fr oc or' go k' s
  | none=>.stuck 11
 | n+1,fr,oc,or',go,.code a (.cond x t e)::k,s=>match ev s x with
  | some (.v (.bool true))=>exec E n fr oc or' go (.code (0::a) t::k) s
  | some (.v (.bool false))=>exec E n fr oc or' go (.code (1::a) e::k) s
  | some (.b c)=>.ite c (exec E n fr oc or' go (.code (0::a) t::k) s) (exec E n fr oc or' go (.code (1::a) e::k) s)
  | _=>.stuck 12
 | _+1,fr,oc,or',_,.code _ .ret::_,s=>or' true s
 | _+1,fr,oc,or',_,.code a (.rangeFunc g ps x y)::k,s=>oc 999999 (.code a (.rangeFunc g ps x y)::k) s
 | _+1,fr,oc,or',_,.code _ (.refuse _)::_,_=>.stuck 14
def Jk (E:Env S) (n:Nat) (q:Cut) (x:q.sp.D S):Tr E.ι E.ρ:=
 match DI E.body q.key with
 | some k=>match q.sp.enc x q.bn with
  | (vs,o,m)=>exec E n ⟨true,E.dr⟩ (SO E) (fun _=>SP E) true k ⟨q.ts.zip vs,o,m,E.sz⟩
 | none=>.stuck 15
def Jj (E:Env S) (n:Nat) (sp:Spec) (x:sp.D S):Tr E.ι E.ρ:=
 match sp.enc x E.bn with
 | (vs,o,m)=>exec E n ⟨true,E.dr⟩ (SO E) (fun _=>SP E) false [.code [] E.body] ⟨Bx 0 vs,o,m,E.sz⟩
end
end Go.En
