/-
 Trees of what a piece of code comes to (Tr); contracts of functions (Ctr); the evaluation of code up to its next cuts (exec).
-/
import Derived.Test.YtkpggdcpaeanaaaGreatDoorEn10
set_option linter.all false
namespace Go.En
open Go.RowKit
inductive Tr (ι:Nat->Type) (ρ:Type):Type 1 where
 | ret (r:ρ)
 | cut (c:Nat) (x:ι c)
 | ite (b:Bool) (t e:Tr ι ρ)
 | YS (p:Bool) (t:Tr ι ρ)
 | IF {B:Type} (m:Option B) (k:B->Tr ι ρ)
 | stuck (why:Nat)
section
variable {ι:Nat->Type} {ρ:Type}
def Tr.eval (M: ∀ c,ι c->Option ρ):Tr ι ρ->Option ρ
 | .ret r=>some r
 | .cut c x=>M c x
 | .ite b t e=>if b=true then t.eval M else e.eval M
 | .YS p t=>if p=true then t.eval M else none
 | .IF m k=>m.bind fun x=>(k x).eval M
 | .stuck _=>none
def Ee (step: ∀ c,ι c->Tr ι ρ):Nat-> ∀ c,ι c->Option ρ
 | 0,_,_=>none
 | n+1,c,x=>(step c x).eval (Ee step n)
def Tr.Holds (Kc: ∀ c,ι c->Prop) (Kr:ρ->Prop):Tr ι ρ->Prop
 | .ret r=>Kr r
 | .cut c x=>Kc c x
 | .ite b t e=>(b=true->t.Holds Kc Kr)/\(b=false->e.Holds Kc Kr)
 | .YS p t=>p=true/\t.Holds Kc Kr
 | .IF m k=> ∃ x,m=some x/\(k x).Holds Kc Kr
 | .stuck _=>False
theorem Tr.BA {M: ∀ c,ι c->Option ρ} {r:ρ}: ∀ {t:Tr ι ρ},t.eval M=some r->t.Holds (fun c x=>M c x=some r) (· =r)
 | .ret r',h=>by simp only [Tr.eval,Option.some.injEq] at h;exact h
 | .cut c x,h=>h
 | .ite b t e,h=>by
  simp only [Tr.eval] at h
  refine ⟨fun hb=>?_,fun hb=>?_⟩
  ·rw [if_pos hb] at h;exact BA h
  ·rw [if_neg (by simp [hb])] at h;exact BA h
 | .YS p t,h=>by
  simp only [Tr.eval] at h
  split at h
  ·rename_i hp;exact ⟨hp,BA h⟩
  ·cases h
 | .IF m k,h=>by
  simp only [Tr.eval] at h
  obtain ⟨x,h1,h2⟩:=Option.bind_eq_some_iff.1 h
  exact ⟨x,h1,BA h2⟩
 | .stuck _,h=>by simp [Tr.eval] at h
theorem Tr.Holds.mono {Kc Kc': ∀ c,ι c->Prop} {Kr Kr':ρ->Prop} (hc: ∀ c x,Kc c x->Kc' c x) (hr: ∀ r,Kr r->Kr' r): ∀ {t:Tr ι ρ},t.Holds Kc Kr->t.Holds Kc' Kr'
 | .ret r',h=>hr _ h
 | .cut c x,h=>hc c x h
 | .ite b t e,h=>⟨fun hb=>mono hc hr (h.1 hb),fun hb=>mono hc hr (h.2 hb)⟩
 | .YS p t,h=>⟨h.1,mono hc hr h.2⟩
 | .IF m k,h=>let ⟨x,h1,h2⟩:=h;⟨x,h1,mono hc hr h2⟩
 | .stuck _,h=>h
end
inductive Out (A B:Type) where
 | fA (g:A->B)
 | pre (p:A->Bool) (g:A->B)
 | opt (m:A->Option B)
def Out.gives {A B:Type}:Out A B->A->B->Prop
 | .fA g,x,y=>g x=y
 | .pre p g,x,y=>p x=true/\g x=y
 | .opt m,x,y=>m x=some y
def cw (bn:Nat):List Ge->Nat
 | []=>0
 | b::r=>match Nat.ble (b.i+1) bn with
  | true=>cw bn r
  | false=>cw bn r+1
def HJ (bn:Nat) (q:Spec):Nat:=bn+cw bn q.bx
theorem UF (bn:Nat) (q:Spec):bn<=HJ bn q:=Nat.le_add_right _ _
structure CC (S:Ao) where
 f:Nat
 bn:Nat
 sp:Spec
 rs:Spec
 flat:Bool
 out:Out (sp.D S) (rs.D S)
structure Cut where
 key:List (List Nat)
 ts:List Nat
 bn:Nat
 sp:Spec
def HE:Nat->Code->Option Code
 | 0,.seq x _=>some x
 | 1,.seq _ y=>some y
 | 0,.cond _ x _=>some x
 | 1,.cond _ _ y=>some y
 | 0,.block _ x=>some x
 | 0,.loop x=>some x
 | 0,.scope x=>some x
 | 0,.rangeFunc _ _ x _=>some x
 | 1,.rangeFunc _ _ _ y=>some y
 | l+2,c=>findLabel c l
 | _,_=>none
def HL (body:Code):List Nat->Option Code
 | []=>some body
 | i::a=>match HL body a with
  | some c=>HE i c
  | none=>none
inductive Bd where
 | code (a:List Nat) (c:Code)
 | AP (id:Nat)
 | ops (all:Array Oper) (rest:List Oper)
 | again (a:List Nat) (c:Code)
 | sc (a:List Nat) (c:Code)
def Bd.it:Bd->It
 | .code _ c=>.code c
 | .AP id=>.AP id
 | .ops all r=>.ops all r
 | .again _ c=>.again c
 | .sc _ c=>.sc c
def Bd.ok (body:Code):Bd->Prop
 | .code a c=>HL body a=some c
 | .again a c=>HL body a=some c
 | .sc a c=>HL body a=some c
 | _=>True
def Bd.key:Bd->List Nat
 | .code a _=>0::a
 | .AP id=>[1,id]
 | .again a _=>2::a
 | .sc a _=>3::a
 | .ops _ _=>[4]
def Kx (body:Code):List Nat->Option Bd
 | 0::a=>match HL body a with
  | some c=>some (.code a c)
  | none=>none
 | [1,id]=>some (.AP id)
 | 2::a=>match HL body a with
  | some c=>some (.again a c)
  | none=>none
 | 3::a=>match HL body a with
  | some c=>some (.sc a c)
  | none=>none
 | _=>none
def C5 (body:Code):List (List Nat)->Option (List Bd)
 | []=>some []
 | x::r=>match Kx body x with
  | some i=>match C5 body r with
   | some l=>some (i::l)
   | none=>none
  | none=>none
def cF:List Nat->List Nat->Bool
 | [],[]=>true
 | x::r,y::t=>match Nat.beq x y with
  | true=>cF r t
  | false=>false
 | _,_=>false
def Z6:List Bd->List (List Nat)->Bool
 | [],[]=>true
 | x::r,y::t=>match cF x.key y with
  | true=>Z6 r t
  | false=>false
 | _,_=>false
def GG (id:Nat):List Bd->Option (List Bd)
 | []=>none
 | .AP id'::k=>match Nat.beq id id' with
  | true=>some k
  | false=>GG id k
 | .code _ _::k=>GG id k
 | .ops _ _::k=>GG id k
 | .again _ _::k=>GG id k
 | .sc _ _::k=>GG id k
def GJ (l:Nat):List Bd->Option (List Bd)
 | []=>none
 | .sc a c::k=>match findLabel c l with
  | some rest=>some (.code ((l+2)::a) rest::.sc a c::k)
  | none=>GJ l k
 | .code _ _::k=>GJ l k
 | .ops _ _::k=>GJ l k
 | .again _ _::k=>GJ l k
 | .AP _::k=>GJ l k
structure Ia where
 pre:List (Nat×Bool)
 Hs:List Nat
 ms:List Nat
 fz:Bool
structure jN where
 body:Code
 sz:Nat
 res:List ResultVar
 dr:List (Nat×Ia)
structure Fr where
 main:Bool
 dr:List (Nat×Ia)
structure Env (S:Ao) where
 inl:List (Nat×jN)
 tb:List (Nat×TI)
 ct:List (CC S)
 C1:List (Nat×Cut)
 bn:Nat
 res:List ResultVar
 rs:Spec
 sz:Nat
 dr:List (Nat×Ia)
 body:Code
section
variable {S:Ao}
def bS (C1:List (Nat×Cut)) (c:Nat):Type:=match lk C1 c with
 | some q=>q.sp.D S
 | none=>Empty
def Env.ι (E:Env S) (c:Nat):Type:=bS (S:=S) E.C1 c
def Env.ρ (E:Env S):Type:=E.rs.D S
def EB (E:Env S) (c:Nat) (q:Cut) (h:lk E.C1 c=some q) (x:q.sp.D S):E.ι c:=by
 unfold Env.ι bS;rw [h];exact x
def Bh (bn:Nat) (m:List (Nat×Nat)) (n0:Nat) (i:Nat):Nat:=match Nat.ble (i+1) bn with
 | true=>match lk m i with
  | some j=>j
  | none=>0
 | false=>n0+(i -bn)
mutual
def SV.I3 (r:Nat->Nat):SV->SV
 | .v x=>.v x
 | .b c=>.b c
 | .ptr i off=>.ptr (r i) off
 | .row i n=>.row (r i) n
 | .tr i=>.tr (r i)
 | .ep i z e off=>.ep (r i) z e off
 | .view i off len cap=>.view (r i) off len cap
 | .Bw i=>.Bw (r i)
 | .mk i e=>.mk (r i) e
 | .hm i=>.hm (r i)
 | .h i=>.h (r i)
 | .vp i off=>.vp (r i) off
 | .ap i n e off=>.ap (r i) n e off
 | .pr i z e off=>.pr (r i) z e off
 | .pp i z e off y j q=>.pp (r i) z e off y j q
 | .agg cs=>.agg (CQ r cs)
 | .Gb cs=>.Gb (CQ r cs)
 | .fn f cs=>.fn f (CQ r cs)
def CQ (r:Nat->Nat):List SV->List SV
 | []=>[]
 | x::t=>x.I3 r::CQ r t
end
def Own.I3 (r:Nat->Nat):Own S->Own S
 | .AP T cs=>.AP T (CQ r cs)
 | .row T z n cs=>.row T z n (CQ r cs)
 | .vu cs=>.vu (CQ r cs)
 | .tr τ E l=>.tr τ E l
 | .sl τ l=>.sl τ l
 | .obj p=>.obj p
 | .any=>.any
 | .dp τ E l=>.dp τ E l
 | .mp κ τ ag l=>.mp κ τ ag l
 | .mr κ τ ag E l=>.mr κ τ ag E l
def Dj (r:Nat->Nat):List (Nat×Own S)->List (Nat×Own S)
 | []=>[]
 | (i,b)::t=>(r i,b.I3 r)::Dj r t
def Qd:Nat->List (Nat×Nat)
 | 0=>[]
 | n+1=>(n,n)::Qd n
def At:List SV->SV
 | [x]=>x
 | l=>.Gb l
def callee (s:St S):Op->Option (Nat×List SV)
 | .call ⟨.value f,⟨args⟩,_⟩=>match ev s f with
  | some (.fn g caps)=>match HT s args with
   | some l=>match Nat.ble 1000000 g with
    | true=>some (g -1000000,caps++l)
    | false=>some (g,l++caps)
   | none=>none
  | some (.v (.func (.func g) ⟨[]⟩ ⟨caps⟩))=>match HT s args with
   | some l=>some (g,l++caps.map .v)
   | none=>none
  | _=>none
 | _=>none
def RS {α:Type 1} (f:Nat) (args:List SV) (o:List (Nat×Own S)) (k:(c:CC S)->c.sp.D S->PS S->α) (fail:α):List (CC S)->α
 | []=>fail
 | c::r=>match Nat.beq c.f f with
  | true=>match c.sp.parse c.flat args o [] c.bn with
   | some (x,ps)=>k c x ps
   | none=>RS f args o k fail r
  | false=>RS f args o k fail r
def nth {α:Type}:List α->Nat->Option α
 | [],_=>none
 | x::_,0=>some x
 | _::r,n+1=>nth r n
theorem F6 {α:Type}: ∀ (l:List α) (n:Nat),nth l n=l[n]?
 | [],_=>by simp [nth]
 | _::_,0=>by simp [nth]
 | _::r,n+1=>by simp [nth,F6 r n]
inductive Wn where
 | yes
 | no
 | split (d:Nat) (c:Bool)
 | eU
def Bu (s:St S) (all:Array Oper) (o:Oper):Wn:=
 match o.guard with
 | none=>.yes
 | some (j,want)=>match nth all.toList j with
  | some q=>match q.dst with
   | some d=>match lk s.t d with
    | some (.v (.bool true))=>match want with
     | true=>.yes
     | false=>.no
    | some (.v (.bool false))=>match want with
     | true=>.no
     | false=>.yes
    | some (.v (.tuple ⟨[]⟩))=>.no
    | some (.b c)=>.split d c
    | _=>.eU
   | none=>.eU
  | none=>.eU
def LF (tb:List (Nat×TI)) (s:St S):List ResultVar->Option (List SV)
 | []=>some []
 | .tmp t::r=>match lk s.t t with
  | some x=>match LF tb s r with
   | some l=>some (x::l)
   | none=>none
  | none=>none
 | .cell t T::r=>match Ih tb s T (.tmp t) with
  | .val none x=>match LF tb s r with
   | some l=>some (x::l)
   | none=>none
  | _=>none
def F2 (s:St S):List Nat->Option (List SV)
 | []=>some []
 | t::r=>match lk s.t t with
  | some x=>match F2 s r with
   | some l=>some (x::l)
   | none=>none
  | none=>none
def K3 {ι:Nat->Type} {ρ:Type} (c:Option Bool) (t:Tr ι ρ):Tr ι ρ:=match c with
 | none=>t
 | some b=>.YS b t
def Ng (m:List (Nat×Nat)):Nat->Option (List Nat)
 | 0=>some []
 | i+1=>match lk m i with
  | some j=>match Ng m i with
   | some l=>some (j::l)
   | none=>none
  | none=>none
def TB (n:Nat):List Nat->Bool
 | []=>true
 | j::r=>match Nat.ble (j+1) n with
  | true=>TB n r
  | false=>false
def ew (m:List (Nat×Nat)) (bn n:Nat):Bool:=match Ng m bn with
 | some l=>TB n l
 | none=>false
def fN {α:Type 1} (n:Nat) (k:Nat->α):α:=match n with
 | 0=>k 0
 | m+1=>k (m+1)
theorem MS {α:Type 1} (n:Nat) (k:Nat->α):fN n k=k n:=by cases n<;>rfl
def SV.fc {α:Type 1}:SV->(SV->α)->α
 | .v x,k=>k (.v x)
 | .b c,k=>k (.b c)
 | .ptr i off,k=>fN i fun i=>k (.ptr i off)
 | .row i n,k=>fN i fun i=>k (.row i n)
 | .tr i,k=>fN i fun i=>k (.tr i)
 | .ep i z e off,k=>fN i fun i=>k (.ep i z e off)
 | .view i off len cap,k=>fN i fun i=>k (.view i off len cap)
 | .Bw i,k=>fN i fun i=>k (.Bw i)
 | .h i,k=>fN i fun i=>k (.h i)
 | .vp i off,k=>fN i fun i=>k (.vp i off)
 | .ap i n e off,k=>fN i fun i=>k (.ap i n e off)
 | .pr i z e off,k=>fN i fun i=>k (.pr i z e off)
 | .pp i z e off y j q,k=>fN i fun i=>k (.pp i z e off y j q)
 | .agg cs,k=>k (.agg cs)
 | .Gb cs,k=>k (.Gb cs)
 | .fn f cs,k=>k (.fn f cs)
 | .mk i e,k=>fN i fun i=>k (.mk i e)
 | .hm i,k=>fN i fun i=>k (.hm i)
theorem SV.Fi {α:Type 1} (x:SV) (k:SV->α):x.fc k=k x:=by cases x<;>simp only [SV.fc,MS]
def eo {α:Type 1}:List SV->(List SV->α)->α
 | [],k=>k []
 | x::r,k=>x.fc fun x=>eo r fun r=>k (x::r)
theorem Vs {α:Type 1}: ∀ (l:List SV) (k:List SV->α),eo l k=k l
 | [],_=>rfl
 | x::r,k=>by simp only [eo,SV.Fi x,Vs r]
def Own.fc {α:Type 1}:Own S->(Own S->α)->α
 | .AP T cs,k=>eo cs fun cs=>k (.AP T cs)
 | .row T z n cs,k=>eo cs fun cs=>k (.row T z n cs)
 | .vu cs,k=>eo cs fun cs=>k (.vu cs)
 | .tr τ E l,k=>k (.tr τ E l)
 | .sl τ l,k=>k (.sl τ l)
 | .obj p,k=>k (.obj p)
 | .any,k=>k .any
 | .dp τ E l,k=>k (.dp τ E l)
 | .mp κ τ ag l,k=>k (.mp κ τ ag l)
 | .mr κ τ ag E l,k=>k (.mr κ τ ag E l)
theorem Own.Fi {α:Type 1} (b:Own S) (k:Own S->α):b.fc k=k b:=by cases b<;>simp only [Own.fc,Vs]
def er {α:Type 1}:List (Nat×Own S)->(List (Nat×Own S)->α)->α
 | [],k=>k []
 | (i,b)::r,k=>fN i fun i=>b.fc fun b=>er r fun r=>k ((i,b)::r)
theorem Oy {α:Type 1}: ∀ (l:List (Nat×Own S)) (k:List (Nat×Own S)->α),er l k=k l
 | [],_=>rfl
 | (i,b)::r,k=>by simp only [er,MS,Own.Fi b,Oy r]
def jB {α:Type 1}:List (Nat×SV)->(List (Nat×SV)->α)->α
 | [],k=>k []
 | (i,x)::r,k=>fN i fun i=>x.fc fun x=>jB r fun r=>k ((i,x)::r)
theorem Vu {α:Type 1}: ∀ (l:List (Nat×SV)) (k:List (Nat×SV)->α),jB l k=k l
 | [],_=>rfl
 | (i,x)::r,k=>by simp only [jB,MS,SV.Fi x,Vu r]
def jA {α:Type 1}:List Nat->(List Nat->α)->α
 | [],k=>k []
 | i::r,k=>fN i fun i=>jA r fun r=>k (i::r)
theorem Vt {α:Type 1}: ∀ (l:List Nat) (k:List Nat->α),jA l k=k l
 | [],_=>rfl
 | i::r,k=>by simp only [jA,MS,Vt r]
def St.fc {α:Type 1} (s:St S) (k:St S->α):α:=jB s.t fun t=>er s.o fun o=>fN s.n fun n=>k ⟨t,o,n,s.sz⟩
theorem St.Fi {α:Type 1} (s:St S) (k:St S->α):s.fc k=k s:=by
 unfold St.fc;rw [Vu,Oy,MS]
def N8 {α:Type 1} (s:St S) (c:CC S) (ps:PS S) (dst:Option Tmp) (y:c.rs.D S) (k:St S->α) (fail:α):α:=
 match ew ps.m c.bn s.n with
 | true=>match c.rs.enc y (HJ c.bn c.rs) with
  | (rs',o',n')=>match St.put { s with o:=Dj (Bh c.bn ps.m s.n) o'++ps.o,n:=s.n+(n' -c.bn) } dst (At (CQ (Bh c.bn ps.m s.n) rs')) with
  | some s'=>s'.fc k
  | none=>fail
 | false=>fail
mutual
def SV.KD (j n:Nat):SV->SV
 | .tr i=>match Nat.beq i j with
  | true=>.h n
  | false=>.tr i
 | .agg cs=>.agg (SU j n cs)
 | .Gb cs=>.Gb (SU j n cs)
 | .v x=>.v x
 | .b c=>.b c
 | .ptr i off=>.ptr i off
 | .row i m=>.row i m
 | .ep i z e off=>.ep i z e off
 | .view i off len cap=>.view i off len cap
 | .Bw i=>.Bw i
 | .mk i e=>.mk i e
 | .hm i=>.hm i
 | .h i=>.h i
 | .vp i off=>.vp i off
 | .ap i m e off=>.ap i m e off
 | .pr i z e off=>.pr i z e off
 | .pp i z e off y j q=>.pp i z e off y j q
 | .fn f cs=>.fn f cs
def SU (j n:Nat):List SV->List SV
 | []=>[]
 | x::r=>x.KD j n::SU j n r
end
def WN (j n:Nat):List (Nat×SV)->List (Nat×SV)
 | []=>[]
 | (t,x)::r=>(t,x.KD j n)::WN j n r
def Own.KD (j n:Nat):Own S->Own S
 | .AP T cs=>.AP T (SU j n cs)
 | b=>b
def Ui (j n:Nat):List (Nat×Own S)->List (Nat×Own S)
 | []=>[]
 | (i,b)::r=>(i,b.KD j n)::Ui j n r
def St.KD (s:St S) (j:Nat):St S:=match lk s.o j with
 | some (.tr τ _ l)=>⟨WN j s.n s.t,(s.n,.sl τ l)::Ui j s.n (rm s.o j),s.n+1,s.sz⟩
 | _=>s
def Fe:St S->List Nat->St S
 | s,[]=>s
 | s,j::r=>Fe (s.KD j) r
def VF:List SV->List Nat
 | []=>[]
 | .tr j::r=>j::VF r
 | _::r=>VF r
def S4:List SV->List Nat
 | []=>[]
 | .tr j::r=>j::S4 r
 | .agg cs::r=>VF cs++S4 r
 | _::r=>S4 r
def VG:List SV->List Nat
 | []=>[]
 | .agg cs::r=>VF cs++VG r
 | _::r=>VG r
def eT:List (Nat×SV)->List Nat
 | []=>[]
 | (_,.tr j)::r=>j::eT r
 | _::r=>eT r
def P6 (tb:List (Nat×TI)):List (Nat×Own S)->List Nat
 | []=>[]
 | (_,.AP T cs)::r=>match VF cs with
  | []=>P6 tb r
  | l=>match lk tb T with
   | some t=>match t.τ,t.d with
    | some _,.struct _=>l++P6 tb r
    | _,_=>P6 tb r
   | none=>P6 tb r
 | _::r=>P6 tb r
def Zw (tb:List (Nat×TI)) (s:St S) (q:Ia):List Nat:=match EA 9000000 q.Hs with
 | true=>P6 tb s.o++eT s.t
 | false=>P6 tb s.o
def Nc (E:Env S) (c:Nat) (k:List Bd) (s:St S) (L:List Nat) (fail:Tr E.ι E.ρ):Tr E.ι E.ρ:=
 match h:lk E.C1 c with
 | some q=>match Z6 k q.key with
  | true=>match F2 (Fe s L) q.ts with
   | some vs'=>match q.sp.parse true vs' (Fe s L).o (Qd E.bn) q.bn with
    | some (x,_)=>.cut c (EB E c q h x)
    | none=>fail
   | none=>fail
  | false=>.stuck (3000+c)
 | none=>.stuck 1
def P4 (E:Env S) (c:Nat) (k:List Bd) (s:St S):Tr E.ι E.ρ:=
 match lk E.C1 c with
 | some q=>match F2 s q.ts with
  | some vs=>Nc E c k s [] (Nc E c k s (VG vs) (Nc E c k s (VG vs++P6 E.tb s.o) (.stuck (1000+c))))
  | none=>.stuck (2000+c)
 | none=>.stuck 1
def RO (E:Env S) (c:Nat) (k:List Bd) (s:St S):Tr E.ι E.ρ:=
 match lk E.C1 c with
 | some q=>match Z6 k q.key with
  | true=>P4 E c k s
  | false=>P4 E (c+100000) k s
 | none=>.stuck 1
def gF (E:Env S) (c:Nat):Bool:=match lk E.C1 c with
 | some _=>true
 | none=>false
def Nd (E:Env S) (s:St S) (L:List Nat) (fail:Tr E.ι E.ρ):Tr E.ι E.ρ:=
 match LF E.tb (Fe s L) E.res with
 | some vs'=>match E.rs.parse true vs' (Fe s L).o (Qd E.bn) (HJ E.bn E.rs) with
  | some (y,_)=>.ret y
  | none=>fail
 | none=>fail
def RP (E:Env S) (s:St S):Tr E.ι E.ρ:=
 match LF E.tb s E.res with
 | some vs=>Nd E s [] (Nd E s (VG vs) (Nd E s (VG vs++P6 E.tb s.o) (.stuck 2)))
 | none=>.stuck 3
def X4 (tb:List (Nat×TI)):Own S->List Nat
 | .row E _ _ cs=>match lk tb E with
  | some t=>match t.τ with
   | some _=>VF cs
   | none=>[]
  | none=>[]
 | _=>[]
def tmpsOf:List Operand->List Nat
 | []=>[]
 | .tmp t::r=>t::tmpsOf r
 | _::r=>tmpsOf r
def Sx:List (Nat×Operand)->List Operand
 | []=>[]
 | x::r=>x.2::Sx r
def ZX:Option Operand->List Operand
 | none=>[]
 | some x=>[x]
def gj:Op->List Operand
 | .move x=>[x]
 | .assign x=>[x]
 | .box _ x=>[x]
 | .load _ x=>[x]
 | .store _ x y=>[x,y]
 | .nilCheck x=>[x]
 | .unOp _ _ x=>[x]
 | .convert _ _ x=>[x]
 | .fieldAddr _ x _=>[x]
 | .field _ x _=>[x]
 | .extract x _=>[x]
 | .pick c x y=>[c,x,y]
 | .binOp _ _ x y _=>[x,y]
 | .indexAddr _ x y=>[x,y]
 | .index _ x y=>[x,y]
 | .lookup _ x y _=>[x,y]
 | .build _ ⟨ps⟩=>Sx ps
 | .buildSlice _ _ ⟨ps⟩=>Sx ps
 | .makeFunc _ _ ⟨c⟩=>c
 | .slice _ x l h _=>x::(ZX l++ZX h)
 | .call ⟨.value f,⟨args⟩,_⟩=>f::args
 | .call ⟨_,⟨args⟩,_⟩=>args
 | .makeSlice _ x y=>[x,y]
 | .makeMap _ x=>ZX x
 | .mapUpdate _ x y z=>[x,y,z]
 | .insert _ x y z=>[x,y,z]
 | _=>[]
def WQ (all:Array Oper) (o:Oper):List Nat:=
 match o.guard with
 | none=>[]
 | some (j,_)=>match nth all.toList j with
  | some q=>match q.dst with
   | some d=>[d]
   | none=>[]
  | none=>[]
def K1 (all:Array Oper) (o:Oper):List Nat:=WQ all o++tmpsOf (gj o.op)
structure Rec (S:Ao) where
 i:Nat
 o:Oper
 pu:Bool
 o1:List (Nat×Own S)
 n1:Nat
 n2:Nat
 x:SV
 cn:List Nat
 gb:List (Nat×Own S)
 tk:Bool
def pick {α:Type}:List Nat->List (Nat×α)->List (Nat×α)
 | [],_=>[]
 | u::r,t=>match lk t u with
  | some x=>(u,x)::pick r t
  | none=>pick r t
def G5:List (Nat×SV)->List (Rec S)->List (Nat×SV)
 | t,[]=>t
 | t,r::rs=>match r.o.dst with
  | none=>G5 t rs
  | some d=>G5 (pt t d r.x) rs
def Rb:List Nat->List (Nat×Own S)->List (Nat×Own S)
 | [],o=>o
 | j::c,o=>rm (Rb c o) j
def jd:Own S->Bool
 | .tr _ _ _=>true
 | .mp _ _ _ _=>true
 | .mr _ _ _ _ _=>true
 | .dp _ _ _=>true
 | _=>false
def gI:Own S->Bool
 | .tr _ _ _=>true
 | _=>false
def N6:Op->Bool
 | .call _=>true
 | .makeMap _ _=>true
 | _=>false
def RR (u:Nat) (o:List (Nat×Own S)):Bool:=match lk o u with
 | some b=>jd b
 | none=>false
def Hi (u:Nat):List (Rec S)->Bool
 | []=>false
 | r::rs=>match N6 r.o.op with
  | true=>match RR u r.o1 with
   | true=>true
   | false=>Hi u rs
  | false=>Hi u rs
def Ic (f:Nat->Bool):List (Nat×Own S)->List (Nat×Own S)
 | []=>[]
 | (i,b)::r=>match f i with
  | true=>Ic f r
  | false=>(i,b)::Ic f r
def OW (fl:Bool) (hid:List Nat) (rs:List (Rec S)) (o:List (Nat×Own S)):List (Nat×Own S):=match fl with
 | true=>Rb hid (Ic (fun u=>Hi u rs) o)
 | false=>o
def oC (L:Nat->Bool) (o:List (Nat×Own S)):List (Rec S)->List (Nat×Own S)
 | []=>o
 | r::rs=>match L r.i with
  | true=>oC L (r.gb++(r.o1++Rb r.cn o)) rs
  | false=>oC L o rs
def A5:Nat->List (Rec S)->Nat
 | n,[]=>n
 | _,r::rs=>A5 r.n2 rs
def bG (m i:Nat):Bool:=Nat.beq (Nat.land 1 (Nat.shiftRight m i)) 1
def B9 (ms:List Nat) (j i:Nat):Bool:=match nth ms j with
 | some m=>bG m i
 | none=>false
def behind (s:St S) (rs:List (Rec S)):St S:=⟨G5 s.t rs,oC (fun _=>true) s.o rs,A5 s.n rs,s.sz⟩
def seenAt (fl:Bool) (hid:List Nat) (s:St S) (all:Array Oper) (ms:List Nat) (rs:List (Rec S)) (i:Nat) (o:Oper) (pu:Bool):St S:=
 ⟨pick (K1 all o) (G5 s.t rs),match pu with|true=>[]|false=>OW fl hid rs (oC (B9 ms i) s.o rs),A5 s.n rs,s.sz⟩
def jc:List Oper->Nat->Bool
 | [],_=>false
 | o::r,i=>match o.guard with
  | some (j,_)=>match Nat.beq j i with
   | true=>true
   | false=>jc r i
  | none=>jc r i
def ES (d:Option Tmp) (sz:Nat):Bool:=match d with
 | none=>true
 | some d=>Nat.ble (d+1) sz
def CM (n1 n2:Nat):List (Nat×Own S)->Bool
 | []=>Nat.ble n1 n2
 | (i,_)::r=>match Nat.ble n1 i,Nat.ble (i+1) n2 with
  | true,true=>CM n1 n2 r
  | _,_=>false
def CX:List Cq->Bool
 | []=>true
 | .fd _::r=>CX r
 | .st _::r=>CX r
 | .fn _ []::r=>CX r
 | _::_=>false
def Spec.Qo (q:Spec):Bool:=match q.bx with
 | []=>CX q.as
 | _::_=>false
def Rec.fc {α:Type 1} (r:Rec S) (k:Rec S->α):α:=er r.o1 fun o1=>fN r.n1 fun n1=>fN r.n2 fun n2=>r.x.fc fun x=>jA r.cn fun cn=>er r.gb fun gb=>k ⟨r.i,r.o,r.pu,o1,n1,n2,x,cn,gb,r.tk⟩
theorem Rec.Fi {α:Type 1} (r:Rec S) (k:Rec S->α):r.fc k=k r:=by
 unfold Rec.fc;rw [Oy,MS,MS,SV.Fi,Vt,Oy]
def VV {ι:Nat->Type} {ρ:Type} (all:Array Oper) (k:Rec S->Tr ι ρ) (r:Rec S):Tr ι ρ:=
 match r.x with
 | .b c=>match jc all.toList r.i with
  | true=>.ite c (k { r with x:=.v (.bool true) }) (k { r with x:=.v (.bool false) })
  | false=>k r
 | _=>k r
def Et {ι:Nat->Type} {ρ:Type} (all:Array Oper) (r:Rec S) (k:Rec S->Tr ι ρ):Tr ι ρ:=r.fc (VV all k)
def recC {ι:Nat->Type} {ρ:Type} (st:St S) (i:Nat) (o:Oper) (c:CC S) (ps:PS S) (y:c.rs.D S) (k:Rec S->Tr ι ρ):Tr ι ρ:=
 match c.rs.enc y (HJ c.bn c.rs) with
 | (rs',o',n')=>match CM st.n (st.n+(n' -c.bn)) (Dj (Bh c.bn ps.m st.n) o') with
  | true=>k ⟨i,o,false,Dj (Bh c.bn ps.m st.n) o',st.n,st.n+(n' -c.bn),At (CQ (Bh c.bn ps.m st.n) rs'),[],[],false⟩
  | false=>.stuck 46
def Xp {ι:Nat->Type} {ρ:Type} (tb:List (Nat×TI)) (st:St S) (i:Nat) (o:Oper) (fail:Tr ι ρ) (k:Rec S->Tr ι ρ):Tr ι ρ:=match o.op with
 | .slice T x lo hi none=>match ev st x with
  | some (.h _)=>match Gm tb st T x lo hi with
   | .nm c o1 n' v=>match CM st.n n' o1 with
    | true=>K3 c (k ⟨i,o,true,o1,st.n,n',v,[],[],false⟩)
    | false=>fail
   | _=>fail
  | _=>fail
 | _=>fail
inductive Zo (S:Ao) where
 | b0 (e:Nat)
 | a0 (j:Nat) (b:Bool) (c:Option Bool) (o1:List (Nat×Own S)) (n':Nat) (v:SV)
 | no
def zeroOf (tb:List (Nat×TI)) (pu:Bool) (all:List Oper) (st:St S) (o:Oper):Zo S:=match pu with
 | true=>.no
 | false=>match WW tb all o with
  | some e=>.b0 e
  | none=>match US tb st o.op with
   | some (j,b,.nm c o1 n' v)=>.a0 j b c o1 n' v
   | _=>.no
theorem VJ {tb:List (Nat×TI)} {pu:Bool} {all:List Oper} {st:St S} {o:Oper} {e:Nat} (h:zeroOf tb pu all st o=.b0 e):pu=false/\WW tb all o=some e:=by
 unfold zeroOf at h
 split at h
 ·cases h
 ·split at h
  ·rename_i he;cases h;exact ⟨rfl,he⟩
  ·split at h<;>cases h
theorem VI {tb:List (Nat×TI)} {pu:Bool} {all:List Oper} {st:St S} {o:Oper} {j:Nat} {b:Bool} {c:Option Bool} {o1:List (Nat×Own S)} {n':Nat} {v:SV} (h:zeroOf tb pu all st o=.a0 j b c o1 n' v):pu=false/\US tb st o.op=some (j,b,.nm c o1 n' v):=by
 unfold zeroOf at h
 split at h
 ·cases h
 ·split at h
  ·cases h
  ·split at h
   ·rename_i he;cases h;exact ⟨rfl,he⟩
   ·cases h
def Sf (t:Nat):List Oper->Bool
 | []=>false
 | o::r=>match o.op,o.dst with
  | .buildSlice _ 0 _,some d=>match Nat.beq d t with
   | true=>true
   | false=>Sf t r
  | _,_=>Sf t r
def BH (s:St S) (all:Array Oper) (ms:List Nat) (rs:List (Rec S)) (i:Nat) (o:Oper):St S:=
 ⟨pick (K1 all o) (G5 s.t rs),oC (B9 ms i) s.o rs,A5 s.n rs,s.sz⟩
def Tf (f:Nat->Bool):List (Nat×Own S)->Bool
 | []=>true
 | (i,_)::r=>match f i with
  | true=>Tf f r
  | false=>false
def M6 (f:Nat->Bool):List Nat->Bool
 | []=>true
 | i::r=>match f i with
  | true=>M6 f r
  | false=>false
def N0:List Nat->Bool
 | []=>false
 | _::_=>true
def Vc (own:Bool) (ms:List Nat) (i:Nat):List (Rec S)->Bool
 | []=>true
 | r::rs=>match N0 r.cn || (own && r.tk) with
  | false=>Vc own ms i rs
  | true=>match B9 ms i r.i with
   | true=>Vc own ms i rs
   | false=>false
def Fv (m:Nat) (hid:List Nat) (ms:List Nat) (i n:Nat) (rs:List (Rec S)) (cn:List Nat) (gb:List (Nat×Own S)):Bool:=
 M6 (fun j=>(EA j hid || Hi j rs) && Nat.ble (j+1) n) cn && Tf (fun j=>EA j cn && Nat.ble (j+1) m) gb && Vc (N0 cn) ms i rs
def Uc (m:Nat) (hid:List Nat) (n:Nat) (ms:List Nat) (i:Nat) (rs:List (Rec S)) (cn:List Nat) (c:Option Bool) (ow:Own S):Option (List Nat×Option Bool×Own S):=match Fv m hid ms i n rs cn [] with
 | true=>some (cn,c,ow)
 | false=>none
def TN (m:Nat) (fl:Bool) (hid:List Nat) (tb:List (Nat×TI)) (st:St S) (ms:List Nat) (i:Nat) (rs:List (Rec S)) (pu:Bool) (op:Op):Option (List Nat×Option Bool×Own S):=
 match fl,pu with
 | true,false=>match op with
  | .call ⟨.builtin .append,⟨[x,y]⟩,⟨[T,T']⟩⟩=>match Nat.beq T' T,ev st x with
   | true,some (.tr j)=>match QE tb st T x y with
    | .x c ((_,ow)::_) _ _=>Uc m hid st.n ms i rs [j] c ow
    | _=>match DF tb T,ev st y,lk st.o j with
     | some (.slice e _),some (.row k 1),some (.mr κ τ ag E ls)=>match lk tb e,lk st.o k with
      | some te,some (.row E'' 1 1 [.Bw u])=>match lk st.o u,Nat.beq j u,Nat.beq E'' e with
       | some (.mp κ' τ' ag' l),false,true=>match Nat.beq te.sz 1,Nat.beq E e,HD ag' ag,Nat.decEq τ' τ,Ue κ' κ with
        | true,true,true,.isTrue h,some ⟨h'⟩=>Uc m hid st.n ms i rs [j,u] (some (room te.bs (ls.length+1))) (.mr κ τ ag E (ls++[(h▸h'▸l:List (κ.T S.T×S.T τ))]))
        | _,_,_,_,_=>none
       | _,_,_=>none
      | _,_=>none
     | _,_,_=>none
   | _,_=>none
  | .buildSlice T n ⟨[(0,x)]⟩=>match Nat.beq n 1,ev st x with
   | true,some (.Bw j)=>match XR tb st T 1 [(0,x)] with
    | .x c ((_,ow)::_) _ _=>Uc m hid st.n ms i rs [j] c ow
    | _=>none
   | _,_=>none
  | .slice T x none hi none=>match DF tb T,ev st x with
   | some (.slice _ _),some (.tr j)=>match lk st.o j with
    | some (.mr κ τ ag E ls)=>match IF st ls.length hi with
     | some h=>Uc m hid st.n ms i rs [j] (some (decide (0<=h/\h<=ls.length))) (.mr κ τ ag E (ls.take h.toNat))
     | none=>none
    | _=>none
   | _,_=>none
  | _=>none
 | _,_=>none
def YM (m:Nat) (fl:Bool) (hid:List Nat) (tb:List (Nat×TI)) (st:St S) (ms:List Nat) (i:Nat) (rs:List (Rec S)) (pu:Bool) (op:Op):Option (Nat×Own S):=
 match fl,pu with
 | true,false=>match op with
  | .store T x y=>match ev st x with
   | some (.ptr j _)=>match EA j hid,lk st.o j with
    | true,some (.AP _ _)=>match Hy tb st T x y with
     | .Rc none j' b=>match Nat.beq j' j,Fv m hid ms i st.n rs [j] [(j,b)] with
      | true,true=>some (j,b)
      | _,_=>none
     | _=>none
    | _,_=>none
   | _=>none
  | _=>none
 | _,_=>none
def HZ (o':List (Nat×Own S)):List (Nat×Own S)->List Nat
 | []=>[]
 | (i,_)::r=>match lk o' i with
  | some _=>HZ o' r
  | none=>i::HZ o' r
def Eu (n:Nat):List (Nat×Own S)->List (Nat×Own S)
 | []=>[]
 | (i,b)::r=>match Nat.ble (i+1) n with
  | true=>(i,b)::Eu n r
  | false=>Eu n r
def Fz (n:Nat):List (Nat×Own S)->List (Nat×Own S)
 | []=>[]
 | (i,b)::r=>match Nat.ble (i+1) n with
  | true=>Fz n r
  | false=>(i,b)::Fz n r
def jb (o:List (Nat×Own S)) (j:Nat):Bool:=match lk o j with
 | some _=>true
 | none=>false
def Xa (m:List (Nat×Nat)) (bn:Nat) (o:List (Nat×Own S)):Bool:=match Ng m bn with
 | some l=>M6 (jb o) l
 | none=>false
def Pz:List SV->List SV->Bool
 | [],[]=>true
 | .ptr i k::r,.ptr i' k'::r'=>match Nat.beq i i',Nat.beq k k' with
  | true,true=>Pz r r'
  | _,_=>false
 | _,_=>false
def YF:Own S->Own S->Bool
 | .AP T cs,.AP T' cs'=>match Nat.beq T T' with
  | true=>Pz cs cs'
  | false=>false
 | _,_=>false
def Qf (o g:List (Nat×Own S)) (u:Nat):Bool:=match lk g u,lk o u with
 | some b,some b'=>YF b b'
 | _,_=>false
def J7 (f:Nat->Bool):List Nat->List Nat
 | []=>[]
 | i::r=>match f i with
  | true=>J7 f r
  | false=>i::J7 f r
def Ma (po o g:List (Nat×Own S)):List Nat:=J7 (Qf o g) (HZ po o)
def JU (o g:List (Nat×Own S)):List (Nat×Own S):=Ic (Qf o g) g
def RN {ι:Nat->Type} {ρ:Type} (m:Nat) (hid:List Nat) (ms:List Nat) (rs:List (Rec S)) (st:St S) (i:Nat) (o:Oper) (c:CC S) (ps:PS S) (y:c.rs.D S) (k:Rec S->Tr ι ρ):Tr ι ρ:=
 match c.rs.enc y (HJ c.bn c.rs) with
 | (rs',o',n')=>match Xa ps.m c.bn st.o,CM st.n (st.n+(n' -c.bn)) (Fz st.n (Dj (Bh c.bn ps.m st.n) o')),Fv m hid ms i st.n rs (Ma ps.o st.o (Eu st.n (Dj (Bh c.bn ps.m st.n) o'))) (JU st.o (Eu st.n (Dj (Bh c.bn ps.m st.n) o'))) with
  | true,true,true=>k ⟨i,o,false,Fz st.n (Dj (Bh c.bn ps.m st.n) o'),st.n,st.n+(n' -c.bn),At (CQ (Bh c.bn ps.m st.n) rs'),Ma ps.o st.o (Eu st.n (Dj (Bh c.bn ps.m st.n) o')),JU st.o (Eu st.n (Dj (Bh c.bn ps.m st.n) o')),true⟩
  | _,_,_=>.stuck 55
def S1:SV->SV->Bool
 | .ptr a b,.ptr a' b'=>match Nat.beq a a',Nat.beq b b' with
  | true,true=>true
  | _,_=>false
 | .Bw a,.Bw a'=>Nat.beq a a'
 | _,_=>false
def cb (r:R S) (x:SV):Bool:=match r with
 | .val none y=>S1 x y
 | _=>false
def OH (tb:List (Nat×TI)) (T off:Nat) (x:SV):Own S->Bool
 | .AP _ cs=>match lk tb T with
  | some t=>cb (S:=S) (ld t cs off) x
  | none=>false
 | _=>false
def RL (tb:List (Nat×TI)) (T off:Nat) (x:SV) (j:Nat):List (Rec S)->Bool
 | []=>true
 | r::rs=>match EA j r.cn with
  | false=>RL tb T off x j rs
  | true=>match lk r.gb j with
   | some o=>match OH tb T off x o with
    | true=>RL tb T off x j rs
    | false=>false
   | none=>false
def S2 (s:St S) (tb:List (Nat×TI)) (st:St S) (rs:List (Rec S)):Op->Option SV
 | .load T x=>match ev st x with
  | some (.ptr j off)=>match lk s.o j with
   | some (.AP U cs)=>match cs[off]? with
    | some v=>match OH (S:=S) tb T off v (.AP U cs),RL tb T off v j rs with
     | true,true=>some v
     | _,_=>none
    | _=>none
   | _=>none
  | _=>none
 | _=>none
def Vn (all:List Oper):List (Nat×Bool)->Bool
 | []=>false
 | (_,true)::r=>Vn all r
 | (i,false)::r=>match nth all i with
  | some o=>match o.op with
   | .call ⟨.builtin .append,⟨[.tmp t,_]⟩,_⟩=>match Sf t all with
    | true=>Vn all r
    | false=>true
   | _=>Vn all r
  | none=>Vn all r
def CV {ι:Nat->Type} {ρ:Type} (fl:Bool) (hid:List Nat) (tb:List (Nat×TI)) (ct:List (CC S)) (s:St S) (all:Array Oper) (ms:List Nat) (fin:List (Rec S)->Tr ι ρ):List (Nat×Bool)->List (Rec S)->Tr ι ρ
 | [],rs=>fin rs
 | (i,pu)::t,rs=>match nth all.toList i with
  | none=>.stuck 40
  | some o=>match ES o.dst s.sz with
   | false=>.stuck 41
   | true=>match Bu (seenAt fl hid s all ms rs i o pu) all o with
    | .no=>CV fl hid tb ct s all ms fin t (rs++[⟨i,o,pu,[],A5 s.n rs,A5 s.n rs,.v (.tuple #[]),[],[],false⟩])
    | .yes=>match zeroOf tb pu all.toList (seenAt fl hid s all ms rs i o false) o with
     | .b0 e=>Et all ⟨i,o,false,[(A5 s.n rs,.AP e [])],A5 s.n rs,A5 s.n rs+1,.view (A5 s.n rs) 0 0 0,[],[],false⟩ fun r=>CV fl hid tb ct s all ms fin t (rs++[r])
     | .a0 j b c o1 n' v=>match CM (A5 s.n rs) n' o1 with
      | true=>K3 c (.ite b (Et all ⟨i,o,false,[],A5 s.n rs,A5 s.n rs,.view j 0 0 0,[],[],false⟩ fun r=>CV fl hid tb ct s all ms fin t (rs++[r])) (Et all ⟨i,o,false,o1,A5 s.n rs,n',v,[],[],false⟩ fun r=>CV fl hid tb ct s all ms fin t (rs++[r])))
      | false=>.stuck 49
     | .no=>match TN s.n fl hid tb (BH s all ms rs i o) ms i rs pu o.op with
      | some (cn,c,ow)=>K3 c (CV fl hid tb ct s all ms fin t (rs++[⟨i,o,false,[(A5 s.n rs,ow)],A5 s.n rs,A5 s.n rs+1,.tr (A5 s.n rs),cn,[],true⟩]))
      | none=>match YM s.n fl hid tb (BH s all ms rs i o) ms i rs pu o.op with
      | some (j,b)=>CV fl hid tb ct s all ms fin t (rs++[⟨i,o,false,[],A5 s.n rs,A5 s.n rs,.v (.tuple #[]),[j],[(j,b)],true⟩])
      | none=>match callee (seenAt fl hid s all ms rs i o pu) o.op with
      | some (f,args)=>match pu with
       | true=>.stuck 42
       | false=>RS f args (OW fl hid rs (oC (B9 ms i) s.o rs)) (fun c x ps=>match c.sp.Qo,Nat.beq c.bn 0 with
        | true,true=>match c.out with
         | .fA g=>recC (seenAt fl hid s all ms rs i o false) i o c ps (g x) fun r=>Et all r fun r=>CV fl hid tb ct s all ms fin t (rs++[r])
         | .pre p g=>.YS (p x) (recC (seenAt fl hid s all ms rs i o false) i o c ps (g x) fun r=>Et all r fun r=>CV fl hid tb ct s all ms fin t (rs++[r]))
         | .opt m=>.IF (m x) fun y=>recC (seenAt fl hid s all ms rs i o false) i o c ps y fun r=>Et all r fun r=>CV fl hid tb ct s all ms fin t (rs++[r])
        | _,_=>.stuck 43) (match fl with
        | false=>.stuck (10000+f)
        | true=>RS f args (oC (B9 ms i) s.o rs) (fun c x ps=>match c.out with
         | .fA g=>RN s.n hid ms rs (BH s all ms rs i o) i o c ps (g x) fun r=>Et all r fun r=>CV fl hid tb ct s all ms fin t (rs++[r])
         | .pre p g=>.YS (p x) (RN s.n hid ms rs (BH s all ms rs i o) i o c ps (g x) fun r=>Et all r fun r=>CV fl hid tb ct s all ms fin t (rs++[r]))
         | .opt m=>.IF (m x) fun y=>RN s.n hid ms rs (BH s all ms rs i o) i o c ps y fun r=>Et all r fun r=>CV fl hid tb ct s all ms fin t (rs++[r])) (.stuck (10000+f)) ct) ct
      | none=>match evalOp tb (seenAt fl hid s all ms rs i o pu) o.op with
       | .val c x=>K3 c (Et all ⟨i,o,pu,[],A5 s.n rs,A5 s.n rs,x,[],[],false⟩ fun r=>CV fl hid tb ct s all ms fin t (rs++[r]))
       | .new b=>match pu with
        | true=>.stuck 44
        | false=>Et all ⟨i,o,false,[(A5 s.n rs,b)],A5 s.n rs,A5 s.n rs+1,HA b (A5 s.n rs),[],[],false⟩ fun r=>CV fl hid tb ct s all ms fin t (rs++[r])
       | .nm c o1 n' v=>match pu,CM (A5 s.n rs) n' o1 with
        | false,true=>K3 c (Et all ⟨i,o,false,o1,A5 s.n rs,n',v,[],[],false⟩ fun r=>CV fl hid tb ct s all ms fin t (rs++[r]))
        | _,_=>.stuck 45
       | .stop=>match pu with
        | true=>Xp tb (seenAt fl hid s all ms rs i o false) i o (.stuck (200000000+1000*i+o.dst.getD 0)) fun r=>Et all r fun r=>CV fl hid tb ct s all ms fin t (rs++[r])
        | false=>match fl,Fv s.n hid ms i (A5 s.n rs) rs [] [],evalOp tb (BH s all ms rs i o) o.op with
         | true,true,.val c x=>K3 c (Et all ⟨i,o,false,[],A5 s.n rs,A5 s.n rs,x,[],[],true⟩ fun r=>CV fl hid tb ct s all ms fin t (rs++[r]))
         | true,true,.nm c o1 n' v=>match CM (A5 s.n rs) n' o1 with
          | true=>K3 c (Et all ⟨i,o,false,o1,A5 s.n rs,n',v,[],[],true⟩ fun r=>CV fl hid tb ct s all ms fin t (rs++[r]))
          | false=>.stuck 56
         | _,_,_=>match fl,S2 s tb (BH s all ms rs i o) rs o.op with
          | true,some x=>Et all ⟨i,o,false,[],A5 s.n rs,A5 s.n rs,x,[],[],true⟩ fun r=>CV fl hid tb ct s all ms fin t (rs++[r])
          | _,_=>.stuck (200000000+1000*i+o.dst.getD 0)
       | _=>.stuck (200000000+1000*i+o.dst.getD 0)
    | .split _ _=>.stuck 47
    | .eU=>.stuck 48
def Fu:List Nat->List Nat
 | []=>[]
 | i::r=>match Nat.ble 1000000 i with
  | true=>Fu r
  | false=>i::Fu r
def Y1:List Nat->List Nat
 | []=>[]
 | i::r=>match Nat.ble 1000000 i with
  | true=>(i -1000000)::Y1 r
  | false=>Y1 r
def P5:List (Nat×Own S)->List Nat
 | []=>[]
 | (i,b)::r=>match gI b with
  | true=>i::P5 r
  | false=>P5 r
mutual
def UL:SV->List Nat
 | .v _=>[]
 | .b _=>[]
 | .ptr i _=>[i]
 | .row i _=>[i]
 | .tr i=>[i]
 | .ep i _ _ _=>[i]
 | .view i _ _ _=>[i]
 | .Bw i=>[i]
 | .mk i _=>[i]
 | .hm i=>[i]
 | .h i=>[i]
 | .vp i _=>[i]
 | .ap i _ _ _=>[i]
 | .pr i _ _ _=>[i]
 | .pp i _ _ _ _ _ _=>[i]
 | .agg cs=>GW cs
 | .Gb cs=>GW cs
 | .fn _ cs=>GW cs
def GW:List SV->List Nat
 | []=>[]
 | x::r=>UL x++GW r
end
def NJ (o:List (Nat×Own S)):Nat->List Nat->List Nat
 | 0,_=>[]
 | _+1,[]=>[]
 | f+1,i::r=>match lk o i with
  | some (.AP _ cs)=>i::(NJ o f (GW cs)++NJ o f r)
  | some _=>i::NJ o f r
  | none=>NJ o f r
def IE (t:List (Nat×SV)):List Nat->List Nat
 | []=>[]
 | u::r=>match lk t u with
  | some x=>UL x++IE t r
  | none=>IE t r
def O7 (o:List (Nat×Own S)):List Nat->List Nat
 | []=>[]
 | i::r=>match lk o i with
  | some (.AP _ cs)=>GW cs++O7 o r
  | _=>O7 o r
def Md (o:List (Nat×Own S)) (t:List (Nat×SV)):List Nat->List Nat
 | []=>[]
 | u::r=>match Nat.ble 1000000 u with
  | true=>O7 o (IE t [u -1000000])++Md o t r
  | false=>IE t [u]++Md o t r
def lE:Bool->Bool->Bool
 | true,_=>true
 | false,b=>b
def hC:List Nat->Bool
 | []=>false
 | _::_=>true
def cG (all:List Oper) (q:Ia):Bool:=lE (hC (Y1 q.Hs)) (Vn all q.pre)
def aG (s:St S) (all:List Oper) (q:Ia):List Nat:=match cG all q with
 | true=>P5 s.o++NJ s.o 30 (Md s.o s.t (Y1 q.Hs))
 | false=>[]
def Kz (all:Array Oper):List Nat->List Oper
 | []=>[]
 | i::r=>match nth all.toList i with
  | some o=>o::Kz all r
  | none=>Kz all r
def Bj:Nat->List SV->List (Nat×SV)
 | _,[]=>[]
 | i,x::r=>(i,x)::Bj (i+1) r
def Td:List Oper->Bool
 | []=>false
 | o::r=>match Ev o with
  | true=>true
  | false=>Td r
def ic (s:St S):Op->List Nat
 | .mapUpdate _ _ _ v=>match ev s v with
  | some x=>S4 [x]
  | none=>[]
 | .insert _ _ _ v=>match ev s v with
  | some x=>S4 [x]
  | none=>[]
 | _=>[]
def exec {ι:Nat->Type} {ρ:Type} (E:Env S):Nat->Fr->(Nat->List Bd->St S->Tr ι ρ)->(Bool->St S->Tr ι ρ)->Bool->List Bd->St S->Tr ι ρ
 | 0,_,_,_,_,_,_=>.stuck 4
 | _+1,_,_,or',_,[],s=>or' false s
 | n+1,fr,oc,or',go,.ops _ []::k,s=>exec E n fr oc or' go k s
 | n+1,fr,oc,or',go,.ops all (o::r)::k,s=>match Bu s all o with
  | .eU=>.stuck 6
  | .split d c=>.ite c (exec E n fr oc or' go (.ops all (o::r)::k) { s with t:=pt s.t d (.v (.bool true)) }) (exec E n fr oc or' go (.ops all (o::r)::k) { s with t:=pt s.t d (.v (.bool false)) })
  | .no=>match s.put o.dst (.v (.tuple #[])) with
   | some s'=>exec E n fr oc or' go (.ops all r::k) s'
   | none=>.stuck 7
  | .yes=>match callee s o.op with
   | some (f,args)=>match lk E.inl f with
    | some q=>match Nat.ble args.length q.sz with
     | true=>exec E n ⟨false,q.dr⟩ (fun _ _ _=>.stuck 50) (fun _ s'=>match LF E.tb s' q.res with
      | some vs=>match St.put { s with o:=s'.o,n:=s'.n } o.dst (At vs) with
       | some s''=>exec E n fr oc or' go (.ops all r::k) s''
       | none=>.stuck 51
      | none=>.stuck 52) false [.code [] q.body] ⟨Bj 0 args,s.o,s.n,q.sz⟩
     | false=>.stuck 53
    | none=>RS f args s.o (fun c x ps=>match c.out with
     | .fA g=>N8 s c ps o.dst (g x) (fun s'=>exec E n fr oc or' go (.ops all r::k) s') (.stuck 8)
     | .pre p g=>.YS (p x) (N8 s c ps o.dst (g x) (fun s'=>exec E n fr oc or' go (.ops all r::k) s') (.stuck 8))
     | .opt m=>.IF (m x) fun y=>N8 s c ps o.dst y (fun s'=>exec E n fr oc or' go (.ops all r::k) s') (.stuck 8)) (match S4 args with
      | []=>.stuck (10000+f)
      | l=>exec E n fr oc or' go (.ops all (o::r)::k) (Fe s l)) E.ct
   | none=>match evalOp E.tb s o.op with
    | .val c x=>match s.put o.dst x with
     | some s'=>K3 c (exec E n fr oc or' go (.ops all r::k) s')
     | none=>.stuck 9
    | .new b=>match X4 E.tb b with
     | []=>match St.put { s with o:=(s.n,b)::s.o,n:=s.n+1 } o.dst (HA b s.n) with
      | some s'=>exec E n fr oc or' go (.ops all r::k) s'
      | none=>.stuck 9
     | j::l=>exec E n fr oc or' go (.ops all (o::r)::k) (Fe s (j::l))
    | .Rc c i b=>match St.put { s with o:=pt s.o i b } o.dst (.v (.tuple #[])) with
     | some s'=>K3 c (exec E n fr oc or' go (.ops all r::k) s')
     | none=>.stuck 9
    | .nm c o1 n' v=>match St.put { s with o:=o1++s.o,n:=n' } o.dst v with
     | some s'=>K3 c (exec E n fr oc or' go (.ops all r::k) s')
     | none=>.stuck 9
    | .x c o' n' v=>match St.put { s with o:=o',n:=n' } o.dst v with
     | some s'=>K3 c (exec E n fr oc or' go (.ops all r::k) s')
     | none=>.stuck 9
    | .stop=>match ic s o.op with
     | []=>.stuck (100000000+1000*r.length+o.dst.getD 0)
     | j::l=>exec E n fr oc or' go (.ops all (o::r)::k) (Fe s (j::l))
 | n+1,fr,oc,or',go,.AP _::k,s=>exec E n fr oc or' go k s
 | n+1,fr,oc,or',go,.sc _ _::k,s=>exec E n fr oc or' go k s
 | n+1,fr,oc,or',go,.again a c::k,s=>exec E n fr oc or' go (.code a c::.again a c::k) s
 | n+1,fr,oc,or',go,.code a (.seq x y)::k,s=>exec E n fr oc or' go (.code (0::a) x::.code (1::a) y::k) s
 | n+1,fr,oc,or',go,.code _ .skip::k,s=>exec E n fr oc or' go k s
 | n+1,fr,oc,or',go,.code _ (.label _)::k,s=>exec E n fr oc or' go k s
 | n+1,fr,oc,or',go,.code a (.block id x)::k,s=>exec E n fr oc or' go (.code (0::a) x::.AP id::k) s
 | n+1,fr,oc,or',go,.code a (.scope x)::k,s=>exec E n fr oc or' go (.code (0::a) x::.sc (0::a) x::k) s
 | n+1,fr,oc,or',go,.code a (.loop x)::k,s=>exec E n fr oc or' go (.again (0::a) x::k) s
 | n+1,fr,oc,or',go,.code a (.region id ops d)::k,s=>match (match go with|true=>false|false=>match fr.main with|true=>gF E id|false=>false) with
  | true=>oc id (.code a (.region id ops d)::k) s
  | false=>match Td ops.toList with
   | true=>oc 999998 (.code a (.region id ops d)::k) s
   | false=>match d with
   | false=>exec E n fr oc or' false (.ops ops ops.toList::k) s
   | true=>match lk fr.dr id with
    | some q=>match q.fz with
     | false=>CV (cG ops.toList q) (aG s ops.toList q) E.tb E.ct s ops q.ms (fun rs=>(behind s rs).fc fun s1=>exec E n fr oc or' false (.ops ops (Kz ops (Fu q.Hs))::k) s1) q.pre []
     | true=>CV (cG ops.toList q) (aG (Fe s (Zw E.tb s q)) ops.toList q) E.tb E.ct (Fe s (Zw E.tb s q)) ops q.ms (fun rs=>(behind (Fe s (Zw E.tb s q)) rs).fc fun s1=>exec E n fr oc or' false (.ops ops (Kz ops (Fu q.Hs))::k) s1) q.pre []
    | none=>.stuck (30000+id)
 | n+1,fr,oc,or',go,.code _ (.exit id)::k,s=>match GG id k with
  | some k'=>exec E n fr oc or' go k' s
  | none=>.stuck 10
 | n+1,fr,oc,or',go,.code _ (.goto l)::k,s=>match GJ l k with
  | some k'=>exec E n fr oc or' go k' s
  | none=>.stuck 11
 | n+1,fr,oc,or',go,.code a (.cond x t e)::k,s=>match ev s x with
  | some (.v (.bool true))=>exec E n fr oc or' go (.code (0::a) t::k) s
  | some (.v (.bool false))=>exec E n fr oc or' go (.code (1::a) e::k) s
  | some (.b c)=>.ite c (exec E n fr oc or' go (.code (0::a) t::k) s) (exec E n fr oc or' go (.code (1::a) e::k) s)
  | _=>.stuck 12
 | _+1,fr,oc,or',_,.code _ .ret::_,s=>or' true s
 | _+1,fr,oc,or',_,.code a (.rangeFunc g ps x y)::k,s=>oc 999999 (.code a (.rangeFunc g ps x y)::k) s
 | _+1,fr,oc,or',_,.code _ (.refuse _)::_,_=>.stuck 14
def I9 (E:Env S) (n:Nat) (q:Cut) (x:q.sp.D S):Tr E.ι E.ρ:=
 match C5 E.body q.key with
 | some k=>match q.sp.enc x q.bn with
  | (vs,o,m)=>exec E n ⟨true,E.dr⟩ (RO E) (fun _=>RP E) true k ⟨q.ts.zip vs,o,m,E.sz⟩
 | none=>.stuck 15
def I8 (E:Env S) (n:Nat) (sp:Spec) (x:sp.D S):Tr E.ι E.ρ:=
 match sp.enc x E.bn with
 | (vs,o,m)=>exec E n ⟨true,E.dr⟩ (RO E) (fun _=>RP E) false [.code [] E.body] ⟨Bj 0 vs,o,m,E.sz⟩
end
end Go.En
