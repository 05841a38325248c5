/-
 Trees of what a piece of code comes to (Tr); contracts of functions (Ctr); the evaluation of code up to its next cuts (exec).
-/
import Derived.Test.YtkpggdcpaeanaaaGreatDoorEn10
set_option linter.all false
namespace Go.En
open Go.RowKit
inductive Tr (ι:Nat->Type) (ρ:Type):Type 1 where
 | ret (r:ρ)
 | cut (c:Nat) (x:ι c)
 | ite (b:Bool) (t e:Tr ι ρ)
 | Y7 (p:Bool) (t:Tr ι ρ)
 | IG {B:Type} (m:Option B) (k:B->Tr ι ρ)
 | stuck (why:Nat)
section
variable {ι:Nat->Type} {ρ:Type}
def Tr.eval (M: ∀ c,ι c->Option ρ):Tr ι ρ->Option ρ
 | .ret r=>some r
 | .cut c x=>M c x
 | .ite b t e=>if b=true then t.eval M else e.eval M
 | .Y7 p t=>if p=true then t.eval M else none
 | .IG m k=>m.bind fun x=>(k x).eval M
 | .stuck _=>none
def EV (step: ∀ c,ι c->Tr ι ρ):Nat-> ∀ c,ι c->Option ρ
 | 0,_,_=>none
 | n+1,c,x=>(step c x).eval (EV step n)
def Tr.Holds (Kc: ∀ c,ι c->Prop) (Kr:ρ->Prop):Tr ι ρ->Prop
 | .ret r=>Kr r
 | .cut c x=>Kc c x
 | .ite b t e=>(b=true->t.Holds Kc Kr)/\(b=false->e.Holds Kc Kr)
 | .Y7 p t=>p=true/\t.Holds Kc Kr
 | .IG m k=> ∃ x,m=some x/\(k x).Holds Kc Kr
 | .stuck _=>False
theorem Tr.A8 {M: ∀ c,ι c->Option ρ} {r:ρ}: ∀ {t:Tr ι ρ},t.eval M=some r->t.Holds (fun c x=>M c x=some r) (· =r)
 | .ret r',h=>by simp only [Tr.eval,Option.some.injEq] at h;exact h
 | .cut c x,h=>h
 | .ite b t e,h=>by
  simp only [Tr.eval] at h
  refine ⟨fun hb=>?_,fun hb=>?_⟩
  ·rw [if_pos hb] at h;exact A8 h
  ·rw [if_neg (by simp [hb])] at h;exact A8 h
 | .Y7 p t,h=>by
  simp only [Tr.eval] at h
  split at h
  ·rename_i hp;exact ⟨hp,A8 h⟩
  ·cases h
 | .IG m k,h=>by
  simp only [Tr.eval] at h
  obtain ⟨x,h1,h2⟩:=Option.bind_eq_some_iff.1 h
  exact ⟨x,h1,A8 h2⟩
 | .stuck _,h=>by simp [Tr.eval] at h
theorem Tr.Holds.mono {Kc Kc': ∀ c,ι c->Prop} {Kr Kr':ρ->Prop} (hc: ∀ c x,Kc c x->Kc' c x) (hr: ∀ r,Kr r->Kr' r): ∀ {t:Tr ι ρ},t.Holds Kc Kr->t.Holds Kc' Kr'
 | .ret r',h=>hr _ h
 | .cut c x,h=>hc c x h
 | .ite b t e,h=>⟨fun hb=>mono hc hr (h.1 hb),fun hb=>mono hc hr (h.2 hb)⟩
 | .Y7 p t,h=>⟨h.1,mono hc hr h.2⟩
 | .IG m k,h=>let ⟨x,h1,h2⟩:=h;⟨x,h1,mono hc hr h2⟩
 | .stuck _,h=>h
end
inductive Out (A B:Type) where
 | Kb (g:A->B)
 | pre (p:A->Bool) (g:A->B)
 | opt (m:A->Option B)
def Out.gives {A B:Type}:Out A B->A->B->Prop
 | .Kb g,x,y=>g x=y
 | .pre p g,x,y=>p x=true/\g x=y
 | .opt m,x,y=>m x=some y
def dd (bn:Nat):List Ga->Nat
 | []=>0
 | b::r=>match Nat.ble (b.i+1) bn with
  | true=>dd bn r
  | false=>dd bn r+1
def HF (bn:Nat) (q:Spec):Nat:=bn+dd bn q.bx
theorem Ub (bn:Nat) (q:Spec):bn<=HF bn q:=Nat.le_add_right _ _
structure Bw (S:Am) where
 f:Nat
 bn:Nat
 sp:Spec
 rs:Spec
 flat:Bool
 out:Out (sp.D S) (rs.D S)
structure Cut where
 key:List (List Nat)
 ts:List Nat
 bn:Nat
 sp:Spec
def G6:Nat->Code->Option Code
 | 0,.seq x _=>some x
 | 1,.seq _ y=>some y
 | 0,.cond _ x _=>some x
 | 1,.cond _ _ y=>some y
 | 0,.block _ x=>some x
 | 0,.loop x=>some x
 | 0,.scope x=>some x
 | 0,.rangeFunc _ _ x _=>some x
 | 1,.rangeFunc _ _ _ y=>some y
 | l+2,c=>findLabel c l
 | _,_=>none
def HI (body:Code):List Nat->Option Code
 | []=>some body
 | i::a=>match HI body a with
  | some c=>G6 i c
  | none=>none
inductive BY where
 | code (a:List Nat) (c:Code)
 | AQ (id:Nat)
 | ops (all:Array Oper) (rest:List Oper)
 | again (a:List Nat) (c:Code)
 | sc (a:List Nat) (c:Code)
def BY.it:BY->It
 | .code _ c=>.code c
 | .AQ id=>.AQ id
 | .ops all r=>.ops all r
 | .again _ c=>.again c
 | .sc _ c=>.sc c
def BY.ok (body:Code):BY->Prop
 | .code a c=>HI body a=some c
 | .again a c=>HI body a=some c
 | .sc a c=>HI body a=some c
 | _=>True
def BY.key:BY->List Nat
 | .code a _=>0::a
 | .AQ id=>[1,id]
 | .again a _=>2::a
 | .sc a _=>3::a
 | .ops _ _=>[4]
def K2 (body:Code):List Nat->Option BY
 | 0::a=>match HI body a with
  | some c=>some (.code a c)
  | none=>none
 | [1,id]=>some (.AQ id)
 | 2::a=>match HI body a with
  | some c=>some (.again a c)
  | none=>none
 | 3::a=>match HI body a with
  | some c=>some (.sc a c)
  | none=>none
 | _=>none
def C2 (body:Code):List (List Nat)->Option (List BY)
 | []=>some []
 | x::r=>match K2 body x with
  | some i=>match C2 body r with
   | some l=>some (i::l)
   | none=>none
  | none=>none
def c7:List Nat->List Nat->Bool
 | [],[]=>true
 | x::r,y::t=>match Nat.beq x y with
  | true=>c7 r t
  | false=>false
 | _,_=>false
def bG:List BY->List (List Nat)->Bool
 | [],[]=>true
 | x::r,y::t=>match c7 x.key y with
  | true=>bG r t
  | false=>false
 | _,_=>false
def GC (id:Nat):List BY->Option (List BY)
 | []=>none
 | .AQ id'::k=>match Nat.beq id id' with
  | true=>some k
  | false=>GC id k
 | .code _ _::k=>GC id k
 | .ops _ _::k=>GC id k
 | .again _ _::k=>GC id k
 | .sc _ _::k=>GC id k
def GF (l:Nat):List BY->Option (List BY)
 | []=>none
 | .sc a c::k=>match findLabel c l with
  | some rest=>some (.code ((l+2)::a) rest::.sc a c::k)
  | none=>GF l k
 | .code _ _::k=>GF l k
 | .ops _ _::k=>GF l k
 | .again _ _::k=>GF l k
 | .AQ _::k=>GF l k
structure Ic where
 pre:List (Nat×Bool)
 Hu:List Nat
 ms:List Nat
 fz:Bool
structure ky where
 body:Code
 sz:Nat
 res:List ResultVar
 dr:List (Nat×Ic)
structure Fr where
 main:Bool
 dr:List (Nat×Ic)
structure Env (S:Am) where
 inl:List (Nat×ky)
 tb:List (Nat×TI)
 ct:List (Bw S)
 Cz:List (Nat×Cut)
 bn:Nat
 res:List ResultVar
 rs:Spec
 sz:Nat
 dr:List (Nat×Ic)
 body:Code
section
variable {S:Am}
def cq (Cz:List (Nat×Cut)) (c:Nat):Type:=match lk Cz c with
 | some q=>q.sp.D S
 | none=>Empty
def Env.ι (E:Env S) (c:Nat):Type:=cq (S:=S) E.Cz c
def Env.ρ (E:Env S):Type:=E.rs.D S
def Dz (E:Env S) (c:Nat) (q:Cut) (h:lk E.Cz c=some q) (x:q.sp.D S):E.ι c:=by
 unfold Env.ι cq;rw [h];exact x
def Bb (bn:Nat) (m:List (Nat×Nat)) (n0:Nat) (i:Nat):Nat:=match Nat.ble (i+1) bn with
 | true=>match lk m i with
  | some j=>j
  | none=>0
 | false=>n0+(i -bn)
mutual
def SV.I5 (r:Nat->Nat):SV->SV
 | .v x=>.v x
 | .b c=>.b c
 | .ptr i off=>.ptr (r i) off
 | .row i n=>.row (r i) n
 | .tr i=>.tr (r i)
 | .ep i z e off=>.ep (r i) z e off
 | .view i off len cap=>.view (r i) off len cap
 | .Bt i=>.Bt (r i)
 | .mk i e=>.mk (r i) e
 | .hm i=>.hm (r i)
 | .h i=>.h (r i)
 | .vp i off=>.vp (r i) off
 | .ap i n e off=>.ap (r i) n e off
 | .pr i z e off=>.pr (r i) z e off
 | .pp i z e off y j q=>.pp (r i) z e off y j q
 | .agg cs=>.agg (CJ r cs)
 | .GY cs=>.GY (CJ r cs)
 | .fn f cs=>.fn f (CJ r cs)
def CJ (r:Nat->Nat):List SV->List SV
 | []=>[]
 | x::t=>x.I5 r::CJ r t
end
def Own.I5 (r:Nat->Nat):Own S->Own S
 | .AQ T cs=>.AQ T (CJ r cs)
 | .row T z n cs=>.row T z n (CJ r cs)
 | .vu cs=>.vu (CJ r cs)
 | .tr τ E l=>.tr τ E l
 | .sl τ l=>.sl τ l
 | .obj p=>.obj p
 | .any=>.any
 | .dp τ E l=>.dp τ E l
 | .mp κ τ ag l=>.mp κ τ ag l
 | .mr κ τ ag E l=>.mr κ τ ag E l
def Dj (r:Nat->Nat):List (Nat×Own S)->List (Nat×Own S)
 | []=>[]
 | (i,b)::t=>(r i,b.I5 r)::Dj r t
def Qn:Nat->List (Nat×Nat)
 | 0=>[]
 | n+1=>(n,n)::Qn n
def As:List SV->SV
 | [x]=>x
 | l=>.GY l
def callee (s:St S):Op->Option (Nat×List SV)
 | .call ⟨.value f,⟨args⟩,_⟩=>match ev s f with
  | some (.fn g caps)=>match HP s args with
   | some l=>match Nat.ble 1000000 g with
    | true=>some (g -1000000,caps++l)
    | false=>some (g,l++caps)
   | none=>none
  | some (.v (.func (.func g) ⟨[]⟩ ⟨caps⟩))=>match HP s args with
   | some l=>some (g,l++caps.map .v)
   | none=>none
  | _=>none
 | _=>none
def Rj {α:Type 1} (f:Nat) (args:List SV) (o:List (Nat×Own S)) (k:(c:Bw S)->c.sp.D S->PS S->α) (fail:α):List (Bw S)->α
 | []=>fail
 | c::r=>match Nat.beq c.f f with
  | true=>match c.sp.parse c.flat args o [] c.bn with
   | some (x,ps)=>k c x ps
   | none=>Rj f args o k fail r
  | false=>Rj f args o k fail r
def nth {α:Type}:List α->Nat->Option α
 | [],_=>none
 | x::_,0=>some x
 | _::r,n+1=>nth r n
theorem F2 {α:Type}: ∀ (l:List α) (n:Nat),nth l n=l[n]?
 | [],_=>by simp [nth]
 | _::_,0=>by simp [nth]
 | _::r,n+1=>by simp [nth,F2 r n]
inductive Wn where
 | yes
 | no
 | split (d:Nat) (c:Bool)
 | fY
def Bq (s:St S) (all:Array Oper) (o:Oper):Wn:=
 match o.guard with
 | none=>.yes
 | some (j,want)=>match nth all.toList j with
  | some q=>match q.dst with
   | some d=>match lk s.t d with
    | some (.v (.bool true))=>match want with
     | true=>.yes
     | false=>.no
    | some (.v (.bool false))=>match want with
     | true=>.no
     | false=>.yes
    | some (.v (.tuple ⟨[]⟩))=>.no
    | some (.b c)=>.split d c
    | _=>.fY
   | none=>.fY
  | none=>.fY
def LD (tb:List (Nat×TI)) (s:St S):List ResultVar->Option (List SV)
 | []=>some []
 | .tmp t::r=>match lk s.t t with
  | some x=>match LD tb s r with
   | some l=>some (x::l)
   | none=>none
  | none=>none
 | .cell t T::r=>match Ij tb s T (.tmp t) with
  | .val none x=>match LD tb s r with
   | some l=>some (x::l)
   | none=>none
  | _=>none
def Fv (s:St S):List Nat->Option (List SV)
 | []=>some []
 | t::r=>match lk s.t t with
  | some x=>match Fv s r with
   | some l=>some (x::l)
   | none=>none
  | none=>none
def K8 {ι:Nat->Type} {ρ:Type} (c:Option Bool) (t:Tr ι ρ):Tr ι ρ:=match c with
 | none=>t
 | some b=>.Y7 b t
def Nj (m:List (Nat×Nat)):Nat->Option (List Nat)
 | 0=>some []
 | i+1=>match lk m i with
  | some j=>match Nj m i with
   | some l=>some (j::l)
   | none=>none
  | none=>none
def Tf (n:Nat):List Nat->Bool
 | []=>true
 | j::r=>match Nat.ble (j+1) n with
  | true=>Tf n r
  | false=>false
def fx (m:List (Nat×Nat)) (bn n:Nat):Bool:=match Nj m bn with
 | some l=>Tf n l
 | none=>false
def fN {α:Type 1} (n:Nat) (k:Nat->α):α:=match n with
 | 0=>k 0
 | m+1=>k (m+1)
theorem MV {α:Type 1} (n:Nat) (k:Nat->α):fN n k=k n:=by cases n<;>rfl
def SV.fc {α:Type 1}:SV->(SV->α)->α
 | .v x,k=>k (.v x)
 | .b c,k=>k (.b c)
 | .ptr i off,k=>fN i fun i=>k (.ptr i off)
 | .row i n,k=>fN i fun i=>k (.row i n)
 | .tr i,k=>fN i fun i=>k (.tr i)
 | .ep i z e off,k=>fN i fun i=>k (.ep i z e off)
 | .view i off len cap,k=>fN i fun i=>k (.view i off len cap)
 | .Bt i,k=>fN i fun i=>k (.Bt i)
 | .h i,k=>fN i fun i=>k (.h i)
 | .vp i off,k=>fN i fun i=>k (.vp i off)
 | .ap i n e off,k=>fN i fun i=>k (.ap i n e off)
 | .pr i z e off,k=>fN i fun i=>k (.pr i z e off)
 | .pp i z e off y j q,k=>fN i fun i=>k (.pp i z e off y j q)
 | .agg cs,k=>k (.agg cs)
 | .GY cs,k=>k (.GY cs)
 | .fn f cs,k=>k (.fn f cs)
 | .mk i e,k=>fN i fun i=>k (.mk i e)
 | .hm i,k=>fN i fun i=>k (.hm i)
theorem SV.Fc {α:Type 1} (x:SV) (k:SV->α):x.fc k=k x:=by cases x<;>simp only [SV.fc,MV]
def fp {α:Type 1}:List SV->(List SV->α)->α
 | [],k=>k []
 | x::r,k=>x.fc fun x=>fp r fun r=>k (x::r)
theorem WY {α:Type 1}: ∀ (l:List SV) (k:List SV->α),fp l k=k l
 | [],_=>rfl
 | x::r,k=>by simp only [fp,SV.Fc x,WY r]
def Own.fc {α:Type 1}:Own S->(Own S->α)->α
 | .AQ T cs,k=>fp cs fun cs=>k (.AQ T cs)
 | .row T z n cs,k=>fp cs fun cs=>k (.row T z n cs)
 | .vu cs,k=>fp cs fun cs=>k (.vu cs)
 | .tr τ E l,k=>k (.tr τ E l)
 | .sl τ l,k=>k (.sl τ l)
 | .obj p,k=>k (.obj p)
 | .any,k=>k .any
 | .dp τ E l,k=>k (.dp τ E l)
 | .mp κ τ ag l,k=>k (.mp κ τ ag l)
 | .mr κ τ ag E l,k=>k (.mr κ τ ag E l)
theorem Own.Fc {α:Type 1} (b:Own S) (k:Own S->α):b.fc k=k b:=by cases b<;>simp only [Own.fc,WY]
def fq {α:Type 1}:List (Nat×Own S)->(List (Nat×Own S)->α)->α
 | [],k=>k []
 | (i,b)::r,k=>fN i fun i=>b.fc fun b=>fq r fun r=>k ((i,b)::r)
theorem O5 {α:Type 1}: ∀ (l:List (Nat×Own S)) (k:List (Nat×Own S)->α),fq l k=k l
 | [],_=>rfl
 | (i,b)::r,k=>by simp only [fq,MV,Own.Fc b,O5 r]
def kU {α:Type 1}:List (Nat×SV)->(List (Nat×SV)->α)->α
 | [],k=>k []
 | (i,x)::r,k=>fN i fun i=>x.fc fun x=>kU r fun r=>k ((i,x)::r)
theorem Wa {α:Type 1}: ∀ (l:List (Nat×SV)) (k:List (Nat×SV)->α),kU l k=k l
 | [],_=>rfl
 | (i,x)::r,k=>by simp only [kU,MV,SV.Fc x,Wa r]
def kT {α:Type 1}:List Nat->(List Nat->α)->α
 | [],k=>k []
 | i::r,k=>fN i fun i=>kT r fun r=>k (i::r)
theorem WZ {α:Type 1}: ∀ (l:List Nat) (k:List Nat->α),kT l k=k l
 | [],_=>rfl
 | i::r,k=>by simp only [kT,MV,WZ r]
def St.fc {α:Type 1} (s:St S) (k:St S->α):α:=kU s.t fun t=>fq s.o fun o=>fN s.n fun n=>k ⟨t,o,n,s.sz⟩
theorem St.Fc {α:Type 1} (s:St S) (k:St S->α):s.fc k=k s:=by
 unfold St.fc;rw [Wa,O5,MV]
def OF {α:Type 1} (s:St S) (c:Bw S) (ps:PS S) (dst:Option Tmp) (y:c.rs.D S) (k:St S->α) (fail:α):α:=
 match fx ps.m c.bn s.n with
 | true=>match c.rs.enc y (HF c.bn c.rs) with
  | (rs',o',n')=>match St.put { s with o:=Dj (Bb c.bn ps.m s.n) o'++ps.o,n:=s.n+(n' -c.bn) } dst (As (CJ (Bb c.bn ps.m s.n) rs')) with
  | some s'=>s'.fc k
  | none=>fail
 | false=>fail
mutual
def SV.KB (j n:Nat):SV->SV
 | .tr i=>match Nat.beq i j with
  | true=>.h n
  | false=>.tr i
 | .agg cs=>.agg (Ss j n cs)
 | .GY cs=>.GY (Ss j n cs)
 | .v x=>.v x
 | .b c=>.b c
 | .ptr i off=>.ptr i off
 | .row i m=>.row i m
 | .ep i z e off=>.ep i z e off
 | .view i off len cap=>.view i off len cap
 | .Bt i=>.Bt i
 | .mk i e=>.mk i e
 | .hm i=>.hm i
 | .h i=>.h i
 | .vp i off=>.vp i off
 | .ap i m e off=>.ap i m e off
 | .pr i z e off=>.pr i z e off
 | .pp i z e off y j q=>.pp i z e off y j q
 | .fn f cs=>.fn f cs
def Ss (j n:Nat):List SV->List SV
 | []=>[]
 | x::r=>x.KB j n::Ss j n r
end
def XB (j n:Nat):List (Nat×SV)->List (Nat×SV)
 | []=>[]
 | (t,x)::r=>(t,x.KB j n)::XB j n r
def Own.KB (j n:Nat):Own S->Own S
 | .AQ T cs=>.AQ T (Ss j n cs)
 | b=>b
def U5 (j n:Nat):List (Nat×Own S)->List (Nat×Own S)
 | []=>[]
 | (i,b)::r=>(i,b.KB j n)::U5 j n r
def St.KB (s:St S) (j:Nat):St S:=match lk s.o j with
 | some (.tr τ _ l)=>⟨XB j s.n s.t,(s.n,.sl τ l)::U5 j s.n (rm s.o j),s.n+1,s.sz⟩
 | _=>s
def FX:St S->List Nat->St S
 | s,[]=>s
 | s,j::r=>FX (s.KB j) r
def Ve:List SV->List Nat
 | []=>[]
 | .tr j::r=>j::Ve r
 | _::r=>Ve r
def TZ:List SV->List Nat
 | []=>[]
 | .tr j::r=>j::TZ r
 | .agg cs::r=>Ve cs++TZ r
 | _::r=>TZ r
def Vf:List SV->List Nat
 | []=>[]
 | .agg cs::r=>Ve cs++Vf r
 | _::r=>Vf r
def fX:List (Nat×SV)->List Nat
 | []=>[]
 | (_,.tr j)::r=>j::fX r
 | _::r=>fX r
def QC (tb:List (Nat×TI)):List (Nat×Own S)->List Nat
 | []=>[]
 | (_,.AQ T cs)::r=>match Ve cs with
  | []=>QC tb r
  | l=>match lk tb T with
   | some t=>match t.τ,t.d with
    | some _,.struct _=>l++QC tb r
    | _,_=>QC tb r
   | none=>QC tb r
 | _::r=>QC tb r
def ar (tb:List (Nat×TI)) (s:St S) (q:Ic):List Nat:=match Dy 9000000 q.Hu with
 | true=>QC tb s.o++fX s.t
 | false=>QC tb s.o
def Ng (E:Env S) (c:Nat) (k:List BY) (s:St S) (L:List Nat) (fail:Tr E.ι E.ρ):Tr E.ι E.ρ:=
 match h:lk E.Cz c with
 | some q=>match bG k q.key with
  | true=>match Fv (FX s L) q.ts with
   | some vs'=>match q.sp.parse true vs' (FX s L).o (Qn E.bn) q.bn with
    | some (x,_)=>.cut c (Dz E c q h x)
    | none=>fail
   | none=>fail
  | false=>.stuck (3000+c)
 | none=>.stuck 1
def QA (E:Env S) (c:Nat) (k:List BY) (s:St S):Tr E.ι E.ρ:=
 match lk E.Cz c with
 | some q=>match Fv s q.ts with
  | some vs=>Ng E c k s [] (Ng E c k s (Vf vs) (Ng E c k s (Vf vs++QC E.tb s.o) (.stuck (1000+c))))
  | none=>.stuck (2000+c)
 | none=>.stuck 1
def Re (E:Env S) (c:Nat) (k:List BY) (s:St S):Tr E.ι E.ρ:=
 match lk E.Cz c with
 | some q=>match bG k q.key with
  | true=>QA E c k s
  | false=>QA E (c+100000) k s
 | none=>.stuck 1
def iR (E:Env S) (c:Nat):Bool:=match lk E.Cz c with
 | some _=>true
 | none=>false
def Nh (E:Env S) (s:St S) (L:List Nat) (fail:Tr E.ι E.ρ):Tr E.ι E.ρ:=
 match LD E.tb (FX s L) E.res with
 | some vs'=>match E.rs.parse true vs' (FX s L).o (Qn E.bn) (HF E.bn E.rs) with
  | some (y,_)=>.ret y
  | none=>fail
 | none=>fail
def Rf (E:Env S) (s:St S):Tr E.ι E.ρ:=
 match LD E.tb s E.res with
 | some vs=>Nh E s [] (Nh E s (Vf vs) (Nh E s (Vf vs++QC E.tb s.o) (.stuck 2)))
 | none=>.stuck 3
def Yf (tb:List (Nat×TI)):Own S->List Nat
 | .row E _ _ cs=>match lk tb E with
  | some t=>match t.τ with
   | some _=>Ve cs
   | none=>[]
  | none=>[]
 | _=>[]
def tmpsOf:List Operand->List Nat
 | []=>[]
 | .tmp t::r=>t::tmpsOf r
 | _::r=>tmpsOf r
def TS:List (Nat×Operand)->List Operand
 | []=>[]
 | x::r=>x.2::TS r
def aJ:Option Operand->List Operand
 | none=>[]
 | some x=>[x]
def jB:Op->List Operand
 | .move x=>[x]
 | .assign x=>[x]
 | .box _ x=>[x]
 | .load _ x=>[x]
 | .store _ x y=>[x,y]
 | .nilCheck x=>[x]
 | .unOp _ _ x=>[x]
 | .convert _ _ x=>[x]
 | .fieldAddr _ x _=>[x]
 | .field _ x _=>[x]
 | .extract x _=>[x]
 | .pick c x y=>[c,x,y]
 | .binOp _ _ x y _=>[x,y]
 | .indexAddr _ x y=>[x,y]
 | .index _ x y=>[x,y]
 | .lookup _ x y _=>[x,y]
 | .build _ ⟨ps⟩=>TS ps
 | .buildSlice _ _ ⟨ps⟩=>TS ps
 | .makeFunc _ _ ⟨c⟩=>c
 | .slice _ x l h _=>x::(aJ l++aJ h)
 | .call ⟨.value f,⟨args⟩,_⟩=>f::args
 | .call ⟨_,⟨args⟩,_⟩=>args
 | .makeSlice _ x y=>[x,y]
 | .makeMap _ x=>aJ x
 | .mapUpdate _ x y z=>[x,y,z]
 | .insert _ x y z=>[x,y,z]
 | _=>[]
def XD (all:Array Oper) (o:Oper):List Nat:=
 match o.guard with
 | none=>[]
 | some (j,_)=>match nth all.toList j with
  | some q=>match q.dst with
   | some d=>[d]
   | none=>[]
  | none=>[]
def K6 (all:Array Oper) (o:Oper):List Nat:=XD all o++tmpsOf (jB o.op)
structure Rec (S:Am) where
 i:Nat
 o:Oper
 pu:Bool
 o1:List (Nat×Own S)
 n1:Nat
 n2:Nat
 x:SV
 cn:List Nat
 gb:List (Nat×Own S)
 tk:Bool
def pick {α:Type}:List Nat->List (Nat×α)->List (Nat×α)
 | [],_=>[]
 | u::r,t=>match lk t u with
  | some x=>(u,x)::pick r t
  | none=>pick r t
def Gz:List (Nat×SV)->List (Rec S)->List (Nat×SV)
 | t,[]=>t
 | t,r::rs=>match r.o.dst with
  | none=>Gz t rs
  | some d=>Gz (pt t d r.x) rs
def Rw:List Nat->List (Nat×Own S)->List (Nat×Own S)
 | [],o=>o
 | j::c,o=>rm (Rw c o) j
def lL:Own S->Bool
 | .tr _ _ _=>true
 | .mp _ _ _ _=>true
 | .mr _ _ _ _ _=>true
 | .dp _ _ _=>true
 | _=>false
def iU:Own S->Bool
 | .tr _ _ _=>true
 | _=>false
def OD:Op->Bool
 | .call _=>true
 | .makeMap _ _=>true
 | _=>false
def Ri (u:Nat) (o:List (Nat×Own S)):Bool:=match lk o u with
 | some b=>lL b
 | none=>false
def Hk (u:Nat):List (Rec S)->Bool
 | []=>false
 | r::rs=>match OD r.o.op with
  | true=>match Ri u r.o1 with
   | true=>true
   | false=>Hk u rs
  | false=>Hk u rs
def Ig (f:Nat->Bool):List (Nat×Own S)->List (Nat×Own S)
 | []=>[]
 | (i,b)::r=>match f i with
  | true=>Ig f r
  | false=>(i,b)::Ig f r
def Of (fl:Bool) (hid:List Nat) (rs:List (Rec S)) (o:List (Nat×Own S)):List (Nat×Own S):=match fl with
 | true=>Rw hid (Ig (fun u=>Hk u rs) o)
 | false=>o
def oC (L:Nat->Bool) (o:List (Nat×Own S)):List (Rec S)->List (Nat×Own S)
 | []=>o
 | r::rs=>match L r.i with
  | true=>oC L (r.gb++(r.o1++Rw r.cn o)) rs
  | false=>oC L o rs
def A6:Nat->List (Rec S)->Nat
 | n,[]=>n
 | _,r::rs=>A6 r.n2 rs
def cM (m i:Nat):Bool:=Nat.beq (Nat.land 1 (Nat.shiftRight m i)) 1
def B5 (ms:List Nat) (j i:Nat):Bool:=match nth ms j with
 | some m=>cM m i
 | none=>false
def behind (s:St S) (rs:List (Rec S)):St S:=⟨Gz s.t rs,oC (fun _=>true) s.o rs,A6 s.n rs,s.sz⟩
def seenAt (fl:Bool) (hid:List Nat) (s:St S) (all:Array Oper) (ms:List Nat) (rs:List (Rec S)) (i:Nat) (o:Oper) (pu:Bool):St S:=
 ⟨pick (K6 all o) (Gz s.t rs),match pu with|true=>[]|false=>Of fl hid rs (oC (B5 ms i) s.o rs),A6 s.n rs,s.sz⟩
def lK:List Oper->Nat->Bool
 | [],_=>false
 | o::r,i=>match o.guard with
  | some (j,_)=>match Nat.beq j i with
   | true=>true
   | false=>lK r i
  | none=>lK r i
def EH (d:Option Tmp) (sz:Nat):Bool:=match d with
 | none=>true
 | some d=>Nat.ble (d+1) sz
def CD (n1 n2:Nat):List (Nat×Own S)->Bool
 | []=>Nat.ble n1 n2
 | (i,_)::r=>match Nat.ble n1 i,Nat.ble (i+1) n2 with
  | true,true=>CD n1 n2 r
  | _,_=>false
def CV:List Cl->Bool
 | []=>true
 | .fd _::r=>CV r
 | .st _::r=>CV r
 | .fn _ []::r=>CV r
 | _::_=>false
def Spec.Qz (q:Spec):Bool:=match q.bx with
 | []=>CV q.as
 | _::_=>false
def Rec.fc {α:Type 1} (r:Rec S) (k:Rec S->α):α:=fq r.o1 fun o1=>fN r.n1 fun n1=>fN r.n2 fun n2=>r.x.fc fun x=>kT r.cn fun cn=>fq r.gb fun gb=>k ⟨r.i,r.o,r.pu,o1,n1,n2,x,cn,gb,r.tk⟩
theorem Rec.Fc {α:Type 1} (r:Rec S) (k:Rec S->α):r.fc k=k r:=by
 unfold Rec.fc;rw [O5,MV,MV,SV.Fc,WZ,O5]
def Vy {ι:Nat->Type} {ρ:Type} (all:Array Oper) (k:Rec S->Tr ι ρ) (r:Rec S):Tr ι ρ:=
 match r.x with
 | .b c=>match lK all.toList r.i with
  | true=>.ite c (k { r with x:=.v (.bool true) }) (k { r with x:=.v (.bool false) })
  | false=>k r
 | _=>k r
def Ek {ι:Nat->Type} {ρ:Type} (all:Array Oper) (r:Rec S) (k:Rec S->Tr ι ρ):Tr ι ρ:=r.fc (Vy all k)
def recC {ι:Nat->Type} {ρ:Type} (st:St S) (i:Nat) (o:Oper) (c:Bw S) (ps:PS S) (y:c.rs.D S) (k:Rec S->Tr ι ρ):Tr ι ρ:=
 match c.rs.enc y (HF c.bn c.rs) with
 | (rs',o',n')=>match CD st.n (st.n+(n' -c.bn)) (Dj (Bb c.bn ps.m st.n) o') with
  | true=>k ⟨i,o,false,Dj (Bb c.bn ps.m st.n) o',st.n,st.n+(n' -c.bn),As (CJ (Bb c.bn ps.m st.n) rs'),[],[],false⟩
  | false=>.stuck 46
def YS {ι:Nat->Type} {ρ:Type} (tb:List (Nat×TI)) (st:St S) (i:Nat) (o:Oper) (fail:Tr ι ρ) (k:Rec S->Tr ι ρ):Tr ι ρ:=match o.op with
 | .slice T x lo hi none=>match ev st x with
  | some (.h _)=>match Gi tb st T x lo hi with
   | .nm c o1 n' v=>match CD st.n n' o1 with
    | true=>K8 c (k ⟨i,o,true,o1,st.n,n',v,[],[],false⟩)
    | false=>fail
   | _=>fail
  | _=>fail
 | _=>fail
inductive Zo (S:Am) where
 | b0 (e:Nat)
 | a0 (j:Nat) (b:Bool) (c:Option Bool) (o1:List (Nat×Own S)) (n':Nat) (v:SV)
 | no
def zeroOf (tb:List (Nat×TI)) (pu:Bool) (all:List Oper) (st:St S) (o:Oper):Zo S:=match pu with
 | true=>.no
 | false=>match XL tb all o with
  | some e=>.b0 e
  | none=>match Uo tb st o.op with
   | some (j,b,.nm c o1 n' v)=>.a0 j b c o1 n' v
   | _=>.no
theorem Vi {tb:List (Nat×TI)} {pu:Bool} {all:List Oper} {st:St S} {o:Oper} {e:Nat} (h:zeroOf tb pu all st o=.b0 e):pu=false/\XL tb all o=some e:=by
 unfold zeroOf at h
 split at h
 ·cases h
 ·split at h
  ·rename_i he;cases h;exact ⟨rfl,he⟩
  ·split at h<;>cases h
theorem Vh {tb:List (Nat×TI)} {pu:Bool} {all:List Oper} {st:St S} {o:Oper} {j:Nat} {b:Bool} {c:Option Bool} {o1:List (Nat×Own S)} {n':Nat} {v:SV} (h:zeroOf tb pu all st o=.a0 j b c o1 n' v):pu=false/\Uo tb st o.op=some (j,b,.nm c o1 n' v):=by
 unfold zeroOf at h
 split at h
 ·cases h
 ·split at h
  ·cases h
  ·split at h
   ·rename_i he;cases h;exact ⟨rfl,he⟩
   ·cases h
def TA (t:Nat):List Oper->Bool
 | []=>false
 | o::r=>match o.op,o.dst with
  | .buildSlice _ 0 _,some d=>match Nat.beq d t with
   | true=>true
   | false=>TA t r
  | _,_=>TA t r
def BG (s:St S) (all:Array Oper) (ms:List Nat) (rs:List (Rec S)) (i:Nat) (o:Oper):St S:=
 ⟨pick (K6 all o) (Gz s.t rs),oC (B5 ms i) s.o rs,A6 s.n rs,s.sz⟩
def T7 (f:Nat->Bool):List (Nat×Own S)->Bool
 | []=>true
 | (i,_)::r=>match f i with
  | true=>T7 f r
  | false=>false
def M9 (f:Nat->Bool):List Nat->Bool
 | []=>true
 | i::r=>match f i with
  | true=>M9 f r
  | false=>false
def N6:List Nat->Bool
 | []=>false
 | _::_=>true
def V5 (own:Bool) (ms:List Nat) (i:Nat):List (Rec S)->Bool
 | []=>true
 | r::rs=>match N6 r.cn || (own && r.tk) with
  | false=>V5 own ms i rs
  | true=>match B5 ms i r.i with
   | true=>V5 own ms i rs
   | false=>false
def Fm (m:Nat) (hid:List Nat) (ms:List Nat) (i n:Nat) (rs:List (Rec S)) (cn:List Nat) (gb:List (Nat×Own S)):Bool:=
 M9 (fun j=>(Dy j hid || Hk j rs) && Nat.ble (j+1) n) cn && T7 (fun j=>Dy j cn && Nat.ble (j+1) m) gb && V5 (N6 cn) ms i rs
def Uz (m:Nat) (hid:List Nat) (n:Nat) (ms:List Nat) (i:Nat) (rs:List (Rec S)) (cn:List Nat) (c:Option Bool) (ow:Own S):Option (List Nat×Option Bool×Own S):=match Fm m hid ms i n rs cn [] with
 | true=>some (cn,c,ow)
 | false=>none
def Tp (m:Nat) (fl:Bool) (hid:List Nat) (tb:List (Nat×TI)) (st:St S) (ms:List Nat) (i:Nat) (rs:List (Rec S)) (pu:Bool) (op:Op):Option (List Nat×Option Bool×Own S):=
 match fl,pu with
 | true,false=>match op with
  | .call ⟨.builtin .append,⟨[x,y]⟩,⟨[T,T']⟩⟩=>match Nat.beq T' T,ev st x with
   | true,some (.tr j)=>match QO tb st T x y with
    | .x c ((_,ow)::_) _ _=>Uz m hid st.n ms i rs [j] c ow
    | _=>match DD tb T,ev st y,lk st.o j with
     | some (.slice e _),some (.row k 1),some (.mr κ τ ag E ls)=>match lk tb e,lk st.o k with
      | some te,some (.row E'' 1 1 [.Bt u])=>match lk st.o u,Nat.beq j u,Nat.beq E'' e with
       | some (.mp κ' τ' ag' l),false,true=>match Nat.beq te.sz 1,Nat.beq E e,G5 ag' ag,Nat.decEq τ' τ,U1 κ' κ with
        | true,true,true,.isTrue h,some ⟨h'⟩=>Uz m hid st.n ms i rs [j,u] (some (room te.bs (ls.length+1))) (.mr κ τ ag E (ls++[(h▸h'▸l:List (κ.T S.T×S.T τ))]))
        | _,_,_,_,_=>none
       | _,_,_=>none
      | _,_=>none
     | _,_,_=>none
   | _,_=>none
  | .buildSlice T n ⟨[(0,x)]⟩=>match Nat.beq n 1,ev st x with
   | true,some (.Bt j)=>match X4 tb st T 1 [(0,x)] with
    | .x c ((_,ow)::_) _ _=>Uz m hid st.n ms i rs [j] c ow
    | _=>none
   | _,_=>none
  | .slice T x none hi none=>match DD tb T,ev st x with
   | some (.slice _ _),some (.tr j)=>match lk st.o j with
    | some (.mr κ τ ag E ls)=>match IG st ls.length hi with
     | some h=>Uz m hid st.n ms i rs [j] (some (decide (0<=h/\h<=ls.length))) (.mr κ τ ag E (ls.take h.toNat))
     | none=>none
    | _=>none
   | _,_=>none
  | _=>none
 | _,_=>none
def Yx (m:Nat) (fl:Bool) (hid:List Nat) (tb:List (Nat×TI)) (st:St S) (ms:List Nat) (i:Nat) (rs:List (Rec S)) (pu:Bool) (op:Op):Option (Nat×Own S):=
 match fl,pu with
 | true,false=>match op with
  | .store T x y=>match ev st x with
   | some (.ptr j _)=>match Dy j hid,lk st.o j with
    | true,some (.AQ _ _)=>match H0 tb st T x y with
     | .Rx none j' b=>match Nat.beq j' j,Fm m hid ms i st.n rs [j] [(j,b)] with
      | true,true=>some (j,b)
      | _,_=>none
     | _=>none
    | _,_=>none
   | _=>none
  | _=>none
 | _,_=>none
def HU (o':List (Nat×Own S)):List (Nat×Own S)->List Nat
 | []=>[]
 | (i,_)::r=>match lk o' i with
  | some _=>HU o' r
  | none=>i::HU o' r
def El (n:Nat):List (Nat×Own S)->List (Nat×Own S)
 | []=>[]
 | (i,b)::r=>match Nat.ble (i+1) n with
  | true=>(i,b)::El n r
  | false=>El n r
def Fs (n:Nat):List (Nat×Own S)->List (Nat×Own S)
 | []=>[]
 | (i,b)::r=>match Nat.ble (i+1) n with
  | true=>Fs n r
  | false=>(i,b)::Fs n r
def lJ (o:List (Nat×Own S)) (j:Nat):Bool:=match lk o j with
 | some _=>true
 | none=>false
def YD (m:List (Nat×Nat)) (bn:Nat) (o:List (Nat×Own S)):Bool:=match Nj m bn with
 | some l=>M9 (lJ o) l
 | none=>false
def P5:List SV->List SV->Bool
 | [],[]=>true
 | .ptr i k::r,.ptr i' k'::r'=>match Nat.beq i i',Nat.beq k k' with
  | true,true=>P5 r r'
  | _,_=>false
 | _,_=>false
def Yp:Own S->Own S->Bool
 | .AQ T cs,.AQ T' cs'=>match Nat.beq T T' with
  | true=>P5 cs cs'
  | false=>false
 | _,_=>false
def Qq (o g:List (Nat×Own S)) (u:Nat):Bool:=match lk g u,lk o u with
 | some b,some b'=>Yp b b'
 | _,_=>false
def J5 (f:Nat->Bool):List Nat->List Nat
 | []=>[]
 | i::r=>match f i with
  | true=>J5 f r
  | false=>i::J5 f r
def Mc (po o g:List (Nat×Own S)):List Nat:=J5 (Qq o g) (HU po o)
def JU (o g:List (Nat×Own S)):List (Nat×Own S):=Ig (Qq o g) g
def Rc {ι:Nat->Type} {ρ:Type} (m:Nat) (hid:List Nat) (ms:List Nat) (rs:List (Rec S)) (st:St S) (i:Nat) (o:Oper) (c:Bw S) (ps:PS S) (y:c.rs.D S) (k:Rec S->Tr ι ρ):Tr ι ρ:=
 match c.rs.enc y (HF c.bn c.rs) with
 | (rs',o',n')=>match YD ps.m c.bn st.o,CD st.n (st.n+(n' -c.bn)) (Fs st.n (Dj (Bb c.bn ps.m st.n) o')),Fm m hid ms i st.n rs (Mc ps.o st.o (El st.n (Dj (Bb c.bn ps.m st.n) o'))) (JU st.o (El st.n (Dj (Bb c.bn ps.m st.n) o'))) with
  | true,true,true=>k ⟨i,o,false,Fs st.n (Dj (Bb c.bn ps.m st.n) o'),st.n,st.n+(n' -c.bn),As (CJ (Bb c.bn ps.m st.n) rs'),Mc ps.o st.o (El st.n (Dj (Bb c.bn ps.m st.n) o')),JU st.o (El st.n (Dj (Bb c.bn ps.m st.n) o')),true⟩
  | _,_,_=>.stuck 55
def TW:SV->SV->Bool
 | .ptr a b,.ptr a' b'=>match Nat.beq a a',Nat.beq b b' with
  | true,true=>true
  | _,_=>false
 | .Bt a,.Bt a'=>Nat.beq a a'
 | _,_=>false
def dT (r:R S) (x:SV):Bool:=match r with
 | .val none y=>TW x y
 | _=>false
def OO (tb:List (Nat×TI)) (T off:Nat) (x:SV):Own S->Bool
 | .AQ _ cs=>match lk tb T with
  | some t=>dT (S:=S) (ld t cs off) x
  | none=>false
 | _=>false
def RZ (tb:List (Nat×TI)) (T off:Nat) (x:SV) (j:Nat):List (Rec S)->Bool
 | []=>true
 | r::rs=>match Dy j r.cn with
  | false=>RZ tb T off x j rs
  | true=>match lk r.gb j with
   | some o=>match OO tb T off x o with
    | true=>RZ tb T off x j rs
    | false=>false
   | none=>false
def TX (s:St S) (tb:List (Nat×TI)) (st:St S) (rs:List (Rec S)):Op->Option SV
 | .load T x=>match ev st x with
  | some (.ptr j off)=>match lk s.o j with
   | some (.AQ U cs)=>match cs[off]? with
    | some v=>match OO (S:=S) tb T off v (.AQ U cs),RZ tb T off v j rs with
     | true,true=>some v
     | _,_=>none
    | _=>none
   | _=>none
  | _=>none
 | _=>none
def WR (all:List Oper):List (Nat×Bool)->Bool
 | []=>false
 | (_,true)::r=>WR all r
 | (i,false)::r=>match nth all i with
  | some o=>match o.op with
   | .call ⟨.builtin .append,⟨[.tmp t,_]⟩,_⟩=>match TA t all with
    | true=>WR all r
    | false=>true
   | _=>WR all r
  | none=>WR all r
def CQ {ι:Nat->Type} {ρ:Type} (fl:Bool) (hid:List Nat) (tb:List (Nat×TI)) (ct:List (Bw S)) (s:St S) (all:Array Oper) (ms:List Nat) (fin:List (Rec S)->Tr ι ρ):List (Nat×Bool)->List (Rec S)->Tr ι ρ
 | [],rs=>fin rs
 | (i,pu)::t,rs=>match nth all.toList i with
  | none=>.stuck 40
  | some o=>match EH o.dst s.sz with
   | false=>.stuck 41
   | true=>match Bq (seenAt fl hid s all ms rs i o pu) all o with
    | .no=>CQ fl hid tb ct s all ms fin t (rs++[⟨i,o,pu,[],A6 s.n rs,A6 s.n rs,.v (.tuple #[]),[],[],false⟩])
    | .yes=>match zeroOf tb pu all.toList (seenAt fl hid s all ms rs i o false) o with
     | .b0 e=>Ek all ⟨i,o,false,[(A6 s.n rs,.AQ e [])],A6 s.n rs,A6 s.n rs+1,.view (A6 s.n rs) 0 0 0,[],[],false⟩ fun r=>CQ fl hid tb ct s all ms fin t (rs++[r])
     | .a0 j b c o1 n' v=>match CD (A6 s.n rs) n' o1 with
      | true=>K8 c (.ite b (Ek all ⟨i,o,false,[],A6 s.n rs,A6 s.n rs,.view j 0 0 0,[],[],false⟩ fun r=>CQ fl hid tb ct s all ms fin t (rs++[r])) (Ek all ⟨i,o,false,o1,A6 s.n rs,n',v,[],[],false⟩ fun r=>CQ fl hid tb ct s all ms fin t (rs++[r])))
      | false=>.stuck 49
     | .no=>match Tp s.n fl hid tb (BG s all ms rs i o) ms i rs pu o.op with
      | some (cn,c,ow)=>K8 c (CQ fl hid tb ct s all ms fin t (rs++[⟨i,o,false,[(A6 s.n rs,ow)],A6 s.n rs,A6 s.n rs+1,.tr (A6 s.n rs),cn,[],true⟩]))
      | none=>match Yx s.n fl hid tb (BG s all ms rs i o) ms i rs pu o.op with
      | some (j,b)=>CQ fl hid tb ct s all ms fin t (rs++[⟨i,o,false,[],A6 s.n rs,A6 s.n rs,.v (.tuple #[]),[j],[(j,b)],true⟩])
      | none=>match callee (seenAt fl hid s all ms rs i o pu) o.op with
      | some (f,args)=>match pu with
       | true=>.stuck 42
       | false=>Rj f args (Of fl hid rs (oC (B5 ms i) s.o rs)) (fun c x ps=>match c.sp.Qz,Nat.beq c.bn 0 with
        | true,true=>match c.out with
         | .Kb g=>recC (seenAt fl hid s all ms rs i o false) i o c ps (g x) fun r=>Ek all r fun r=>CQ fl hid tb ct s all ms fin t (rs++[r])
         | .pre p g=>.Y7 (p x) (recC (seenAt fl hid s all ms rs i o false) i o c ps (g x) fun r=>Ek all r fun r=>CQ fl hid tb ct s all ms fin t (rs++[r]))
         | .opt m=>.IG (m x) fun y=>recC (seenAt fl hid s all ms rs i o false) i o c ps y fun r=>Ek all r fun r=>CQ fl hid tb ct s all ms fin t (rs++[r])
        | _,_=>.stuck 43) (match fl with
        | false=>.stuck (10000+f)
        | true=>Rj f args (oC (B5 ms i) s.o rs) (fun c x ps=>match c.out with
         | .Kb g=>Rc s.n hid ms rs (BG s all ms rs i o) i o c ps (g x) fun r=>Ek all r fun r=>CQ fl hid tb ct s all ms fin t (rs++[r])
         | .pre p g=>.Y7 (p x) (Rc s.n hid ms rs (BG s all ms rs i o) i o c ps (g x) fun r=>Ek all r fun r=>CQ fl hid tb ct s all ms fin t (rs++[r]))
         | .opt m=>.IG (m x) fun y=>Rc s.n hid ms rs (BG s all ms rs i o) i o c ps y fun r=>Ek all r fun r=>CQ fl hid tb ct s all ms fin t (rs++[r])) (.stuck (10000+f)) ct) ct
      | none=>match evalOp tb (seenAt fl hid s all ms rs i o pu) o.op with
       | .val c x=>K8 c (Ek all ⟨i,o,pu,[],A6 s.n rs,A6 s.n rs,x,[],[],false⟩ fun r=>CQ fl hid tb ct s all ms fin t (rs++[r]))
       | .new b=>match pu with
        | true=>.stuck 44
        | false=>Ek all ⟨i,o,false,[(A6 s.n rs,b)],A6 s.n rs,A6 s.n rs+1,G4 b (A6 s.n rs),[],[],false⟩ fun r=>CQ fl hid tb ct s all ms fin t (rs++[r])
       | .nm c o1 n' v=>match pu,CD (A6 s.n rs) n' o1 with
        | false,true=>K8 c (Ek all ⟨i,o,false,o1,A6 s.n rs,n',v,[],[],false⟩ fun r=>CQ fl hid tb ct s all ms fin t (rs++[r]))
        | _,_=>.stuck 45
       | .stop=>match pu with
        | true=>YS tb (seenAt fl hid s all ms rs i o false) i o (.stuck (200000000+1000*i+o.dst.getD 0)) fun r=>Ek all r fun r=>CQ fl hid tb ct s all ms fin t (rs++[r])
        | false=>match fl,Fm s.n hid ms i (A6 s.n rs) rs [] [],evalOp tb (BG s all ms rs i o) o.op with
         | true,true,.val c x=>K8 c (Ek all ⟨i,o,false,[],A6 s.n rs,A6 s.n rs,x,[],[],true⟩ fun r=>CQ fl hid tb ct s all ms fin t (rs++[r]))
         | true,true,.nm c o1 n' v=>match CD (A6 s.n rs) n' o1 with
          | true=>K8 c (Ek all ⟨i,o,false,o1,A6 s.n rs,n',v,[],[],true⟩ fun r=>CQ fl hid tb ct s all ms fin t (rs++[r]))
          | false=>.stuck 56
         | _,_,_=>match fl,TX s tb (BG s all ms rs i o) rs o.op with
          | true,some x=>Ek all ⟨i,o,false,[],A6 s.n rs,A6 s.n rs,x,[],[],true⟩ fun r=>CQ fl hid tb ct s all ms fin t (rs++[r])
          | _,_=>.stuck (200000000+1000*i+o.dst.getD 0)
       | _=>.stuck (200000000+1000*i+o.dst.getD 0)
    | .split _ _=>.stuck 47
    | .fY=>.stuck 48
def Fl:List Nat->List Nat
 | []=>[]
 | i::r=>match Nat.ble 1000000 i with
  | true=>Fl r
  | false=>i::Fl r
def Zl:List Nat->List Nat
 | []=>[]
 | i::r=>match Nat.ble 1000000 i with
  | true=>(i -1000000)::Zl r
  | false=>Zl r
def QB:List (Nat×Own S)->List Nat
 | []=>[]
 | (i,b)::r=>match iU b with
  | true=>i::QB r
  | false=>QB r
mutual
def Ug:SV->List Nat
 | .v _=>[]
 | .b _=>[]
 | .ptr i _=>[i]
 | .row i _=>[i]
 | .tr i=>[i]
 | .ep i _ _ _=>[i]
 | .view i _ _ _=>[i]
 | .Bt i=>[i]
 | .mk i _=>[i]
 | .hm i=>[i]
 | .h i=>[i]
 | .vp i _=>[i]
 | .ap i _ _ _=>[i]
 | .pr i _ _ _=>[i]
 | .pp i _ _ _ _ _ _=>[i]
 | .agg cs=>GS cs
 | .GY cs=>GS cs
 | .fn _ cs=>GS cs
def GS:List SV->List Nat
 | []=>[]
 | x::r=>Ug x++GS r
end
def NO (o:List (Nat×Own S)):Nat->List Nat->List Nat
 | 0,_=>[]
 | _+1,[]=>[]
 | f+1,i::r=>match lk o i with
  | some (.AQ _ cs)=>i::(NO o f (GS cs)++NO o f r)
  | some _=>i::NO o f r
  | none=>NO o f r
def IE (t:List (Nat×SV)):List Nat->List Nat
 | []=>[]
 | u::r=>match lk t u with
  | some x=>Ug x++IE t r
  | none=>IE t r
def PE (o:List (Nat×Own S)):List Nat->List Nat
 | []=>[]
 | i::r=>match lk o i with
  | some (.AQ _ cs)=>GS cs++PE o r
  | _=>PE o r
def Mf (o:List (Nat×Own S)) (t:List (Nat×SV)):List Nat->List Nat
 | []=>[]
 | u::r=>match Nat.ble 1000000 u with
  | true=>PE o (IE t [u -1000000])++Mf o t r
  | false=>IE t [u]++Mf o t r
def mn:Bool->Bool->Bool
 | true,_=>true
 | false,b=>b
def jR:List Nat->Bool
 | []=>false
 | _::_=>true
def c8 (all:List Oper) (q:Ic):Bool:=mn (jR (Zl q.Hu)) (WR all q.pre)
def bQ (s:St S) (all:List Oper) (q:Ic):List Nat:=match c8 all q with
 | true=>QB s.o++NO s.o 30 (Mf s.o s.t (Zl q.Hu))
 | false=>[]
def K4 (all:Array Oper):List Nat->List Oper
 | []=>[]
 | i::r=>match nth all.toList i with
  | some o=>o::K4 all r
  | none=>K4 all r
def Be:Nat->List SV->List (Nat×SV)
 | _,[]=>[]
 | i,x::r=>(i,x)::Be (i+1) r
def T5:List Oper->Bool
 | []=>false
 | o::r=>match Em o with
  | true=>true
  | false=>T5 r
def j6 (s:St S):Op->List Nat
 | .mapUpdate _ _ _ v=>match ev s v with
  | some x=>TZ [x]
  | none=>[]
 | .insert _ _ _ v=>match ev s v with
  | some x=>TZ [x]
  | none=>[]
 | _=>[]
def exec {ι:Nat->Type} {ρ:Type} (E:Env S):Nat->Fr->(Nat->List BY->St S->Tr ι ρ)->(Bool->St S->Tr ι ρ)->Bool->List BY->St S->Tr ι ρ
 | 0,_,_,_,_,_,_=>.stuck 4
 | _+1,_,_,or',_,[],s=>or' false s
 | n+1,fr,oc,or',go,.ops _ []::k,s=>exec E n fr oc or' go k s
 | n+1,fr,oc,or',go,.ops all (o::r)::k,s=>match Bq s all o with
  | .fY=>.stuck 6
  | .split d c=>.ite c (exec E n fr oc or' go (.ops all (o::r)::k) { s with t:=pt s.t d (.v (.bool true)) }) (exec E n fr oc or' go (.ops all (o::r)::k) { s with t:=pt s.t d (.v (.bool false)) })
  | .no=>match s.put o.dst (.v (.tuple #[])) with
   | some s'=>exec E n fr oc or' go (.ops all r::k) s'
   | none=>.stuck 7
  | .yes=>match callee s o.op with
   | some (f,args)=>match lk E.inl f with
    | some q=>match Nat.ble args.length q.sz with
     | true=>exec E n ⟨false,q.dr⟩ (fun _ _ _=>.stuck 50) (fun _ s'=>match LD E.tb s' q.res with
      | some vs=>match St.put { s with o:=s'.o,n:=s'.n } o.dst (As vs) with
       | some s''=>exec E n fr oc or' go (.ops all r::k) s''
       | none=>.stuck 51
      | none=>.stuck 52) false [.code [] q.body] ⟨Be 0 args,s.o,s.n,q.sz⟩
     | false=>.stuck 53
    | none=>Rj f args s.o (fun c x ps=>match c.out with
     | .Kb g=>OF s c ps o.dst (g x) (fun s'=>exec E n fr oc or' go (.ops all r::k) s') (.stuck 8)
     | .pre p g=>.Y7 (p x) (OF s c ps o.dst (g x) (fun s'=>exec E n fr oc or' go (.ops all r::k) s') (.stuck 8))
     | .opt m=>.IG (m x) fun y=>OF s c ps o.dst y (fun s'=>exec E n fr oc or' go (.ops all r::k) s') (.stuck 8)) (match TZ args with
      | []=>.stuck (10000+f)
      | l=>exec E n fr oc or' go (.ops all (o::r)::k) (FX s l)) E.ct
   | none=>match evalOp E.tb s o.op with
    | .val c x=>match s.put o.dst x with
     | some s'=>K8 c (exec E n fr oc or' go (.ops all r::k) s')
     | none=>.stuck 9
    | .new b=>match Yf E.tb b with
     | []=>match St.put { s with o:=(s.n,b)::s.o,n:=s.n+1 } o.dst (G4 b s.n) with
      | some s'=>exec E n fr oc or' go (.ops all r::k) s'
      | none=>.stuck 9
     | j::l=>exec E n fr oc or' go (.ops all (o::r)::k) (FX s (j::l))
    | .Rx c i b=>match St.put { s with o:=pt s.o i b } o.dst (.v (.tuple #[])) with
     | some s'=>K8 c (exec E n fr oc or' go (.ops all r::k) s')
     | none=>.stuck 9
    | .nm c o1 n' v=>match St.put { s with o:=o1++s.o,n:=n' } o.dst v with
     | some s'=>K8 c (exec E n fr oc or' go (.ops all r::k) s')
     | none=>.stuck 9
    | .x c o' n' v=>match St.put { s with o:=o',n:=n' } o.dst v with
     | some s'=>K8 c (exec E n fr oc or' go (.ops all r::k) s')
     | none=>.stuck 9
    | .stop=>match j6 s o.op with
     | []=>.stuck (100000000+1000*r.length+o.dst.getD 0)
     | j::l=>exec E n fr oc or' go (.ops all (o::r)::k) (FX s (j::l))
 | n+1,fr,oc,or',go,.AQ _::k,s=>exec E n fr oc or' go k s
 | n+1,fr,oc,or',go,.sc _ _::k,s=>exec E n fr oc or' go k s
 | n+1,fr,oc,or',go,.again a c::k,s=>exec E n fr oc or' go (.code a c::.again a c::k) s
 | n+1,fr,oc,or',go,.code a (.seq x y)::k,s=>exec E n fr oc or' go (.code (0::a) x::.code (1::a) y::k) s
 | n+1,fr,oc,or',go,.code _ .skip::k,s=>exec E n fr oc or' go k s
 | n+1,fr,oc,or',go,.code _ (.label _)::k,s=>exec E n fr oc or' go k s
 | n+1,fr,oc,or',go,.code a (.block id x)::k,s=>exec E n fr oc or' go (.code (0::a) x::.AQ id::k) s
 | n+1,fr,oc,or',go,.code a (.scope x)::k,s=>exec E n fr oc or' go (.code (0::a) x::.sc (0::a) x::k) s
 | n+1,fr,oc,or',go,.code a (.loop x)::k,s=>exec E n fr oc or' go (.again (0::a) x::k) s
 | n+1,fr,oc,or',go,.code a (.region id ops d)::k,s=>match (match go with|true=>false|false=>match fr.main with|true=>iR E id|false=>false) with
  | true=>oc id (.code a (.region id ops d)::k) s
  | false=>match T5 ops.toList with
   | true=>oc 999998 (.code a (.region id ops d)::k) s
   | false=>match d with
   | false=>exec E n fr oc or' false (.ops ops ops.toList::k) s
   | true=>match lk fr.dr id with
    | some q=>match q.fz with
     | false=>CQ (c8 ops.toList q) (bQ s ops.toList q) E.tb E.ct s ops q.ms (fun rs=>(behind s rs).fc fun s1=>exec E n fr oc or' false (.ops ops (K4 ops (Fl q.Hu))::k) s1) q.pre []
     | true=>CQ (c8 ops.toList q) (bQ (FX s (ar E.tb s q)) ops.toList q) E.tb E.ct (FX s (ar E.tb s q)) ops q.ms (fun rs=>(behind (FX s (ar E.tb s q)) rs).fc fun s1=>exec E n fr oc or' false (.ops ops (K4 ops (Fl q.Hu))::k) s1) q.pre []
    | none=>.stuck (30000+id)
 | n+1,fr,oc,or',go,.code _ (.exit id)::k,s=>match GC id k with
  | some k'=>exec E n fr oc or' go k' s
  | none=>.stuck 10
 | n+1,fr,oc,or',go,.code _ (.goto l)::k,s=>match GF l k with
  | some k'=>exec E n fr oc or' go k' s
  | none=>.stuck 11
 | n+1,fr,oc,or',go,.code a (.cond x t e)::k,s=>match ev s x with
  | some (.v (.bool true))=>exec E n fr oc or' go (.code (0::a) t::k) s
  | some (.v (.bool false))=>exec E n fr oc or' go (.code (1::a) e::k) s
  | some (.b c)=>.ite c (exec E n fr oc or' go (.code (0::a) t::k) s) (exec E n fr oc or' go (.code (1::a) e::k) s)
  | _=>.stuck 12
 | _+1,fr,oc,or',_,.code _ .ret::_,s=>or' true s
 | _+1,fr,oc,or',_,.code a (.rangeFunc g ps x y)::k,s=>oc 999999 (.code a (.rangeFunc g ps x y)::k) s
 | _+1,fr,oc,or',_,.code _ (.refuse _)::_,_=>.stuck 14
def JB (E:Env S) (n:Nat) (q:Cut) (x:q.sp.D S):Tr E.ι E.ρ:=
 match C2 E.body q.key with
 | some k=>match q.sp.enc x q.bn with
  | (vs,o,m)=>exec E n ⟨true,E.dr⟩ (Re E) (fun _=>Rf E) true k ⟨q.ts.zip vs,o,m,E.sz⟩
 | none=>.stuck 15
def JA (E:Env S) (n:Nat) (sp:Spec) (x:sp.D S):Tr E.ι E.ρ:=
 match sp.enc x E.bn with
 | (vs,o,m)=>exec E n ⟨true,E.dr⟩ (Re E) (fun _=>Rf E) false [.code [] E.body] ⟨Be 0 vs,o,m,E.sz⟩
end
end Go.En
