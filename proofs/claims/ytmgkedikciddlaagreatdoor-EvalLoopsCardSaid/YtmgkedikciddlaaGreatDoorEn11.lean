/-
 Trees of what a piece of code comes to (Tr); contracts of functions (Ctr); the evaluation of code up to its next cuts (exec).
-/
import Derived.Test.YtmgkedikciddlaaGreatDoorEn10
set_option linter.all false
namespace Go.En
open Go.RowKit
inductive Tr (ι:Nat->Type) (ρ:Type):Type 1 where
 | ret (r:ρ)
 | cut (c:Nat) (x:ι c)
 | ite (b:Bool) (t e:Tr ι ρ)
 | Zp (p:Bool) (t:Tr ι ρ)
 | Ii {B:Type} (m:Option B) (k:B->Tr ι ρ)
 | stuck (why:Nat)
section
variable {ι:Nat->Type} {ρ:Type}
def Tr.eval (M: ∀ c,ι c->Option ρ):Tr ι ρ->Option ρ
 | .ret r=>some r
 | .cut c x=>M c x
 | .ite b t e=>if b=true then t.eval M else e.eval M
 | .Zp p t=>if p=true then t.eval M else none
 | .Ii m k=>m.bind fun x=>(k x).eval M
 | .stuck _=>none
def Ei (step: ∀ c,ι c->Tr ι ρ):Nat-> ∀ c,ι c->Option ρ
 | 0,_,_=>none
 | n+1,c,x=>(step c x).eval (Ei step n)
def Tr.Holds (Kc: ∀ c,ι c->Prop) (Kr:ρ->Prop):Tr ι ρ->Prop
 | .ret r=>Kr r
 | .cut c x=>Kc c x
 | .ite b t e=>(b=true->t.Holds Kc Kr)/\(b=false->e.Holds Kc Kr)
 | .Zp p t=>p=true/\t.Holds Kc Kr
 | .Ii m k=> ∃ x,m=some x/\(k x).Holds Kc Kr
 | .stuck _=>False
theorem Tr.BJ {M: ∀ c,ι c->Option ρ} {r:ρ}: ∀ {t:Tr ι ρ},t.eval M=some r->t.Holds (fun c x=>M c x=some r) (· =r)
 | .ret r',h=>by simp only [Tr.eval,Option.some.injEq] at h;exact h
 | .cut c x,h=>h
 | .ite b t e,h=>by
  simp only [Tr.eval] at h
  refine ⟨fun hb=>?_,fun hb=>?_⟩
  ·rw [if_pos hb] at h;exact BJ h
  ·rw [if_neg (by simp [hb])] at h;exact BJ h
 | .Zp p t,h=>by
  simp only [Tr.eval] at h
  split at h
  ·rename_i hp;exact ⟨hp,BJ h⟩
  ·cases h
 | .Ii m k,h=>by
  simp only [Tr.eval] at h
  obtain ⟨x,h1,h2⟩:=Option.bind_eq_some_iff.1 h
  exact ⟨x,h1,BJ h2⟩
 | .stuck _,h=>by simp [Tr.eval] at h
theorem Tr.Holds.mono {Kc Kc': ∀ c,ι c->Prop} {Kr Kr':ρ->Prop} (hc: ∀ c x,Kc c x->Kc' c x) (hr: ∀ r,Kr r->Kr' r): ∀ {t:Tr ι ρ},t.Holds Kc Kr->t.Holds Kc' Kr'
 | .ret r',h=>hr _ h
 | .cut c x,h=>hc c x h
 | .ite b t e,h=>⟨fun hb=>mono hc hr (h.1 hb),fun hb=>mono hc hr (h.2 hb)⟩
 | .Zp p t,h=>⟨h.1,mono hc hr h.2⟩
 | .Ii m k,h=>let ⟨x,h1,h2⟩:=h;⟨x,h1,mono hc hr h2⟩
 | .stuck _,h=>h
end
inductive Out (A B:Type) where
 | I1 (g:A->B)
 | pre (p:A->Bool) (g:A->B)
 | opt (m:A->Option B)
def Out.gives {A B:Type}:Out A B->A->B->Prop
 | .I1 g,x,y=>g x=y
 | .pre p g,x,y=>p x=true/\g x=y
 | .opt m,x,y=>m x=some y
def fW (bn:Nat):List Gt->Nat
 | []=>0
 | b::r=>match Nat.ble (b.i+1) bn with
  | true=>fW bn r
  | false=>fW bn r+1
def Hb (bn:Nat) (q:Spec):Nat:=bn+fW bn q.bx
theorem VJ (bn:Nat) (q:Spec):bn<=Hb bn q:=Nat.le_add_right _ _
structure B2 (S:At) where
 f:Nat
 bn:Nat
 sp:Spec
 rs:Spec
 flat:Bool
 out:Out (sp.D S) (rs.D S)
structure Cut where
 key:List (List Nat)
 ts:List Nat
 bn:Nat
 sp:Spec
def HR:Nat->Code->Option Code
 | 0,.seq x _=>some x
 | 1,.seq _ y=>some y
 | 0,.cond _ x _=>some x
 | 1,.cond _ _ y=>some y
 | 0,.block _ x=>some x
 | 0,.loop x=>some x
 | 0,.scope x=>some x
 | 0,.rangeFunc _ _ x _=>some x
 | 1,.rangeFunc _ _ _ y=>some y
 | l+2,c=>findLabel c l
 | _,_=>none
def Hd (body:Code):List Nat->Option Code
 | []=>some body
 | i::a=>match Hd body a with
  | some c=>HR i c
  | none=>none
inductive Bg where
 | code (a:List Nat) (c:Code)
 | AS (id:Nat)
 | ops (all:Array Oper) (rest:List Oper)
 | again (a:List Nat) (c:Code)
 | sc (a:List Nat) (c:Code)
def Bg.it:Bg->It
 | .code _ c=>.code c
 | .AS id=>.AS id
 | .ops all r=>.ops all r
 | .again _ c=>.again c
 | .sc _ c=>.sc c
def Bg.ok (body:Code):Bg->Prop
 | .code a c=>Hd body a=some c
 | .again a c=>Hd body a=some c
 | .sc a c=>Hd body a=some c
 | _=>True
def Bg.key:Bg->List Nat
 | .code a _=>0::a
 | .AS id=>[1,id]
 | .again a _=>2::a
 | .sc a _=>3::a
 | .ops _ _=>[4]
def LS (body:Code):List Nat->Option Bg
 | 0::a=>match Hd body a with
  | some c=>some (.code a c)
  | none=>none
 | [1,id]=>some (.AS id)
 | 2::a=>match Hd body a with
  | some c=>some (.again a c)
  | none=>none
 | 3::a=>match Hd body a with
  | some c=>some (.sc a c)
  | none=>none
 | _=>none
def DA (body:Code):List (List Nat)->Option (List Bg)
 | []=>some []
 | x::r=>match LS body x with
  | some i=>match DA body r with
   | some l=>some (i::l)
   | none=>none
  | none=>none
def ec:List Nat->List Nat->Bool
 | [],[]=>true
 | x::r,y::t=>match Nat.beq x y with
  | true=>ec r t
  | false=>false
 | _,_=>false
def cw:List Bg->List (List Nat)->Bool
 | [],[]=>true
 | x::r,y::t=>match ec x.key y with
  | true=>cw r t
  | false=>false
 | _,_=>false
def GU (id:Nat):List Bg->Option (List Bg)
 | []=>none
 | .AS id'::k=>match Nat.beq id id' with
  | true=>some k
  | false=>GU id k
 | .code _ _::k=>GU id k
 | .ops _ _::k=>GU id k
 | .again _ _::k=>GU id k
 | .sc _ _::k=>GU id k
def GW (l:Nat):List Bg->Option (List Bg)
 | []=>none
 | .sc a c::k=>match findLabel c l with
  | some rest=>some (.code ((l+2)::a) rest::.sc a c::k)
  | none=>GW l k
 | .code _ _::k=>GW l k
 | .ops _ _::k=>GW l k
 | .again _ _::k=>GW l k
 | .AS _::k=>GW l k
structure I6 where
 pre:List (Nat×Bool)
 IF:List Nat
 ms:List Nat
 fz:Bool
structure mH where
 body:Code
 sz:Nat
 res:List ResultVar
 dr:List (Nat×I6)
structure Fr where
 main:Bool
 dr:List (Nat×I6)
structure Env (S:At) where
 inl:List (Nat×mH)
 tb:List (Nat×TI)
 ct:List (B2 S)
 C6:List (Nat×Cut)
 bn:Nat
 res:List ResultVar
 rs:Spec
 sz:Nat
 dr:List (Nat×I6)
 body:Code
section
variable {S:At}
def eT (C6:List (Nat×Cut)) (c:Nat):Type:=match lk C6 c with
 | some q=>q.sp.D S
 | none=>Empty
def Env.ι (E:Env S) (c:Nat):Type:=eT (S:=S) E.C6 c
def Env.ρ (E:Env S):Type:=E.rs.D S
def EH (E:Env S) (c:Nat) (q:Cut) (h:lk E.C6 c=some q) (x:q.sp.D S):E.ι c:=by
 unfold Env.ι eT;rw [h];exact x
def Bk (bn:Nat) (m:List (Nat×Nat)) (n0:Nat) (i:Nat):Nat:=match Nat.ble (i+1) bn with
 | true=>match lk m i with
  | some j=>j
  | none=>0
 | false=>n0+(i -bn)
mutual
def SV.JU (r:Nat->Nat):SV->SV
 | .v x=>.v x
 | .b c=>.b c
 | .ptr i off=>.ptr (r i) off
 | .row i n=>.row (r i) n
 | .tr i=>.tr (r i)
 | .ep i z e off=>.ep (r i) z e off
 | .view i off len cap=>.view (r i) off len cap
 | .By i=>.By (r i)
 | .mk i e=>.mk (r i) e
 | .hm i=>.hm (r i)
 | .h i=>.h (r i)
 | .vp i off=>.vp (r i) off
 | .ap i n e off=>.ap (r i) n e off
 | .pr i z e off=>.pr (r i) z e off
 | .pp i z e off y j q=>.pp (r i) z e off y j q
 | .agg cs=>.agg (CY r cs)
 | .Gr cs=>.Gr (CY r cs)
 | .fn f cs=>.fn f (CY r cs)
def CY (r:Nat->Nat):List SV->List SV
 | []=>[]
 | x::t=>x.JU r::CY r t
end
def Own.JU (r:Nat->Nat):Own S->Own S
 | .AS T cs=>.AS T (CY r cs)
 | .row T z n cs=>.row T z n (CY r cs)
 | .vu cs=>.vu (CY r cs)
 | .tr τ E l=>.tr τ E l
 | .sl τ l=>.sl τ l
 | .obj p=>.obj p
 | .any=>.any
 | .dp τ E l=>.dp τ E l
 | .mp κ τ ag l=>.mp κ τ ag l
 | .mr κ τ ag E l=>.mr κ τ ag E l
def Dq (r:Nat->Nat):List (Nat×Own S)->List (Nat×Own S)
 | []=>[]
 | (i,b)::t=>(r i,b.JU r)::Dq r t
def RO:Nat->List (Nat×Nat)
 | 0=>[]
 | n+1=>(n,n)::RO n
def A5:List SV->SV
 | [x]=>x
 | l=>.Gr l
def callee (s:St S):Op->Option (Nat×List SV)
 | .call ⟨.value f,⟨args⟩,_⟩=>match ev s f with
  | some (.fn g caps)=>match Hk s args with
   | some l=>match Nat.ble 1000000 g with
    | true=>some (g -1000000,caps++l)
    | false=>some (g,l++caps)
   | none=>none
  | some (.v (.func (.func g) ⟨[]⟩ ⟨caps⟩))=>match Hk s args with
   | some l=>some (g,l++caps.map .v)
   | none=>none
  | _=>none
 | _=>none
def SU {α:Type 1} (f:Nat) (args:List SV) (o:List (Nat×Own S)) (k:(c:B2 S)->c.sp.D S->PS S->α) (fail:α):List (B2 S)->α
 | []=>fail
 | c::r=>match Nat.beq c.f f with
  | true=>match c.sp.parse c.flat args o [] c.bn with
   | some (x,ps)=>k c x ps
   | none=>SU f args o k fail r
  | false=>SU f args o k fail r
def nth {α:Type}:List α->Nat->Option α
 | [],_=>none
 | x::_,0=>some x
 | _::r,n+1=>nth r n
theorem GL {α:Type}: ∀ (l:List α) (n:Nat),nth l n=l[n]?
 | [],_=>by simp [nth]
 | _::_,0=>by simp [nth]
 | _::r,n+1=>by simp [nth,GL r n]
inductive Wn where
 | yes
 | no
 | split (d:Nat) (c:Bool)
 | hO
def Bw (s:St S) (all:Array Oper) (o:Oper):Wn:=
 match o.guard with
 | none=>.yes
 | some (j,want)=>match nth all.toList j with
  | some q=>match q.dst with
   | some d=>match lk s.t d with
    | some (.v (.bool true))=>match want with
     | true=>.yes
     | false=>.no
    | some (.v (.bool false))=>match want with
     | true=>.no
     | false=>.yes
    | some (.v (.tuple ⟨[]⟩))=>.no
    | some (.b c)=>.split d c
    | _=>.hO
   | none=>.hO
  | none=>.hO
def Lj (tb:List (Nat×TI)) (s:St S):List ResultVar->Option (List SV)
 | []=>some []
 | .tmp t::r=>match lk s.t t with
  | some x=>match Lj tb s r with
   | some l=>some (x::l)
   | none=>none
  | none=>none
 | .cell t T::r=>match JB tb s T (.tmp t) with
  | .val none x=>match Lj tb s r with
   | some l=>some (x::l)
   | none=>none
  | _=>none
def GF (s:St S):List Nat->Option (List SV)
 | []=>some []
 | t::r=>match lk s.t t with
  | some x=>match GF s r with
   | some l=>some (x::l)
   | none=>none
  | none=>none
def Lb {ι:Nat->Type} {ρ:Type} (c:Option Bool) (t:Tr ι ρ):Tr ι ρ:=match c with
 | none=>t
 | some b=>.Zp b t
def OD (m:List (Nat×Nat)):Nat->Option (List Nat)
 | 0=>some []
 | i+1=>match lk m i with
  | some j=>match OD m i with
   | some l=>some (j::l)
   | none=>none
  | none=>none
def UN (n:Nat):List Nat->Bool
 | []=>true
 | j::r=>match Nat.ble (j+1) n with
  | true=>UN n r
  | false=>false
def iL (m:List (Nat×Nat)) (bn n:Nat):Bool:=match OD m bn with
 | some l=>UN n l
 | none=>false
def fN {α:Type 1} (n:Nat) (k:Nat->α):α:=match n with
 | 0=>k 0
 | m+1=>k (m+1)
theorem Mv {α:Type 1} (n:Nat) (k:Nat->α):fN n k=k n:=by cases n<;>rfl
def SV.fc {α:Type 1}:SV->(SV->α)->α
 | .v x,k=>k (.v x)
 | .b c,k=>k (.b c)
 | .ptr i off,k=>fN i fun i=>k (.ptr i off)
 | .row i n,k=>fN i fun i=>k (.row i n)
 | .tr i,k=>fN i fun i=>k (.tr i)
 | .ep i z e off,k=>fN i fun i=>k (.ep i z e off)
 | .view i off len cap,k=>fN i fun i=>k (.view i off len cap)
 | .By i,k=>fN i fun i=>k (.By i)
 | .h i,k=>fN i fun i=>k (.h i)
 | .vp i off,k=>fN i fun i=>k (.vp i off)
 | .ap i n e off,k=>fN i fun i=>k (.ap i n e off)
 | .pr i z e off,k=>fN i fun i=>k (.pr i z e off)
 | .pp i z e off y j q,k=>fN i fun i=>k (.pp i z e off y j q)
 | .agg cs,k=>k (.agg cs)
 | .Gr cs,k=>k (.Gr cs)
 | .fn f cs,k=>k (.fn f cs)
 | .mk i e,k=>fN i fun i=>k (.mk i e)
 | .hm i,k=>fN i fun i=>k (.hm i)
theorem SV.Fv {α:Type 1} (x:SV) (k:SV->α):x.fc k=k x:=by cases x<;>simp only [SV.fc,Mv]
def iH {α:Type 1}:List SV->(List SV->α)->α
 | [],k=>k []
 | x::r,k=>x.fc fun x=>iH r fun r=>k (x::r)
theorem XE {α:Type 1}: ∀ (l:List SV) (k:List SV->α),iH l k=k l
 | [],_=>rfl
 | x::r,k=>by simp only [iH,SV.Fv x,XE r]
def Own.fc {α:Type 1}:Own S->(Own S->α)->α
 | .AS T cs,k=>iH cs fun cs=>k (.AS T cs)
 | .row T z n cs,k=>iH cs fun cs=>k (.row T z n cs)
 | .vu cs,k=>iH cs fun cs=>k (.vu cs)
 | .tr τ E l,k=>k (.tr τ E l)
 | .sl τ l,k=>k (.sl τ l)
 | .obj p,k=>k (.obj p)
 | .any,k=>k .any
 | .dp τ E l,k=>k (.dp τ E l)
 | .mp κ τ ag l,k=>k (.mp κ τ ag l)
 | .mr κ τ ag E l,k=>k (.mr κ τ ag E l)
theorem Own.Fv {α:Type 1} (b:Own S) (k:Own S->α):b.fc k=k b:=by cases b<;>simp only [Own.fc,XE]
def iI {α:Type 1}:List (Nat×Own S)->(List (Nat×Own S)->α)->α
 | [],k=>k []
 | (i,b)::r,k=>fN i fun i=>b.fc fun b=>iI r fun r=>k ((i,b)::r)
theorem Pb {α:Type 1}: ∀ (l:List (Nat×Own S)) (k:List (Nat×Own S)->α),iI l k=k l
 | [],_=>rfl
 | (i,b)::r,k=>by simp only [iI,Mv,Own.Fv b,Pb r]
def lz {α:Type 1}:List (Nat×SV)->(List (Nat×SV)->α)->α
 | [],k=>k []
 | (i,x)::r,k=>fN i fun i=>x.fc fun x=>lz r fun r=>k ((i,x)::r)
theorem XH {α:Type 1}: ∀ (l:List (Nat×SV)) (k:List (Nat×SV)->α),lz l k=k l
 | [],_=>rfl
 | (i,x)::r,k=>by simp only [lz,Mv,SV.Fv x,XH r]
def ly {α:Type 1}:List Nat->(List Nat->α)->α
 | [],k=>k []
 | i::r,k=>fN i fun i=>ly r fun r=>k (i::r)
theorem XF {α:Type 1}: ∀ (l:List Nat) (k:List Nat->α),ly l k=k l
 | [],_=>rfl
 | i::r,k=>by simp only [ly,Mv,XF r]
def St.fc {α:Type 1} (s:St S) (k:St S->α):α:=lz s.t fun t=>iI s.o fun o=>fN s.n fun n=>k ⟨t,o,n,s.sz⟩
theorem St.Fv {α:Type 1} (s:St S) (k:St S->α):s.fc k=k s:=by
 unfold St.fc;rw [XH,Pb,Mv]
def Og {α:Type 1} (s:St S) (c:B2 S) (ps:PS S) (dst:Option Tmp) (y:c.rs.D S) (k:St S->α) (fail:α):α:=
 match iL ps.m c.bn s.n with
 | true=>match c.rs.enc y (Hb c.bn c.rs) with
  | (rs',o',n')=>match St.put { s with o:=Dq (Bk c.bn ps.m s.n) o'++ps.o,n:=s.n+(n' -c.bn) } dst (A5 (CY (Bk c.bn ps.m s.n) rs')) with
  | some s'=>s'.fc k
  | none=>fail
 | false=>fail
mutual
def SV.Ke (j n:Nat):SV->SV
 | .tr i=>match Nat.beq i j with
  | true=>.h n
  | false=>.tr i
 | .agg cs=>.agg (TY j n cs)
 | .Gr cs=>.Gr (TY j n cs)
 | .v x=>.v x
 | .b c=>.b c
 | .ptr i off=>.ptr i off
 | .row i m=>.row i m
 | .ep i z e off=>.ep i z e off
 | .view i off len cap=>.view i off len cap
 | .By i=>.By i
 | .mk i e=>.mk i e
 | .hm i=>.hm i
 | .h i=>.h i
 | .vp i off=>.vp i off
 | .ap i m e off=>.ap i m e off
 | .pr i z e off=>.pr i z e off
 | .pp i z e off y j q=>.pp i z e off y j q
 | .fn f cs=>.fn f cs
def TY (j n:Nat):List SV->List SV
 | []=>[]
 | x::r=>x.Ke j n::TY j n r
end
def Xi (j n:Nat):List (Nat×SV)->List (Nat×SV)
 | []=>[]
 | (t,x)::r=>(t,x.Ke j n)::Xi j n r
def Own.Ke (j n:Nat):Own S->Own S
 | .AS T cs=>.AS T (TY j n cs)
 | b=>b
def Vm (j n:Nat):List (Nat×Own S)->List (Nat×Own S)
 | []=>[]
 | (i,b)::r=>(i,b.Ke j n)::Vm j n r
def St.Ke (s:St S) (j:Nat):St S:=match lk s.o j with
 | some (.tr τ _ l)=>⟨Xi j s.n s.t,(s.n,.sl τ l)::Vm j s.n (rm s.o j),s.n+1,s.sz⟩
 | _=>s
def Fo:St S->List Nat->St S
 | s,[]=>s
 | s,j::r=>Fo (s.Ke j) r
def WL:List SV->List Nat
 | []=>[]
 | .tr j::r=>j::WL r
 | _::r=>WL r
def UH:List SV->List Nat
 | []=>[]
 | .tr j::r=>j::UH r
 | .agg cs::r=>WL cs++UH r
 | _::r=>UH r
def WM:List SV->List Nat
 | []=>[]
 | .agg cs::r=>WL cs++WM r
 | _::r=>WM r
def hH:List (Nat×SV)->List Nat
 | []=>[]
 | (_,.tr j)::r=>j::hH r
 | _::r=>hH r
def Qr (tb:List (Nat×TI)):List (Nat×Own S)->List Nat
 | []=>[]
 | (_,.AS T cs)::r=>match WL cs with
  | []=>Qr tb r
  | l=>match lk tb T with
   | some t=>match t.τ,t.d with
    | some _,.struct _=>l++Qr tb r
    | _,_=>Qr tb r
   | none=>Qr tb r
 | _::r=>Qr tb r
def cX (tb:List (Nat×TI)) (s:St S) (q:I6):List Nat:=match EG 9000000 q.IF with
 | true=>Qr tb s.o++hH s.t
 | false=>Qr tb s.o
def OA (E:Env S) (c:Nat) (k:List Bg) (s:St S) (L:List Nat) (fail:Tr E.ι E.ρ):Tr E.ι E.ρ:=
 match h:lk E.C6 c with
 | some q=>match cw k q.key with
  | true=>match GF (Fo s L) q.ts with
   | some vs'=>match q.sp.parse true vs' (Fo s L).o (RO E.bn) q.bn with
    | some (x,_)=>.cut c (EH E c q h x)
    | none=>fail
   | none=>fail
  | false=>.stuck (3000+c)
 | none=>.stuck 1
def Qp (E:Env S) (c:Nat) (k:List Bg) (s:St S):Tr E.ι E.ρ:=
 match lk E.C6 c with
 | some q=>match GF s q.ts with
  | some vs=>OA E c k s [] (OA E c k s (WM vs) (OA E c k s (WM vs++Qr E.tb s.o) (.stuck (1000+c))))
  | none=>.stuck (2000+c)
 | none=>.stuck 1
def SP (E:Env S) (c:Nat) (k:List Bg) (s:St S):Tr E.ι E.ρ:=
 match lk E.C6 c with
 | some q=>match cw k q.key with
  | true=>Qp E c k s
  | false=>Qp E (c+100000) k s
 | none=>.stuck 1
def jO (E:Env S) (c:Nat):Bool:=match lk E.C6 c with
 | some _=>true
 | none=>false
def OB (E:Env S) (s:St S) (L:List Nat) (fail:Tr E.ι E.ρ):Tr E.ι E.ρ:=
 match Lj E.tb (Fo s L) E.res with
 | some vs'=>match E.rs.parse true vs' (Fo s L).o (RO E.bn) (Hb E.bn E.rs) with
  | some (y,_)=>.ret y
  | none=>fail
 | none=>fail
def SQ (E:Env S) (s:St S):Tr E.ι E.ρ:=
 match Lj E.tb s E.res with
 | some vs=>OB E s [] (OB E s (WM vs) (OB E s (WM vs++Qr E.tb s.o) (.stuck 2)))
 | none=>.stuck 3
def ZP (tb:List (Nat×TI)):Own S->List Nat
 | .row E _ _ cs=>match lk tb E with
  | some t=>match t.τ with
   | some _=>WL cs
   | none=>[]
  | none=>[]
 | _=>[]
def tmpsOf:List Operand->List Nat
 | []=>[]
 | .tmp t::r=>t::tmpsOf r
 | _::r=>tmpsOf r
def UA:List (Nat×Operand)->List Operand
 | []=>[]
 | x::r=>x.2::UA r
def bt:Option Operand->List Operand
 | none=>[]
 | some x=>[x]
def kE:Op->List Operand
 | .move x=>[x]
 | .assign x=>[x]
 | .box _ x=>[x]
 | .load _ x=>[x]
 | .store _ x y=>[x,y]
 | .nilCheck x=>[x]
 | .unOp _ _ x=>[x]
 | .convert _ _ x=>[x]
 | .fieldAddr _ x _=>[x]
 | .field _ x _=>[x]
 | .extract x _=>[x]
 | .pick c x y=>[c,x,y]
 | .binOp _ _ x y _=>[x,y]
 | .indexAddr _ x y=>[x,y]
 | .index _ x y=>[x,y]
 | .lookup _ x y _=>[x,y]
 | .build _ ⟨ps⟩=>UA ps
 | .buildSlice _ _ ⟨ps⟩=>UA ps
 | .makeFunc _ _ ⟨c⟩=>c
 | .slice _ x l h _=>x::(bt l++bt h)
 | .call ⟨.value f,⟨args⟩,_⟩=>f::args
 | .call ⟨_,⟨args⟩,_⟩=>args
 | .makeSlice _ x y=>[x,y]
 | .makeMap _ x=>bt x
 | .mapUpdate _ x y z=>[x,y,z]
 | .insert _ x y z=>[x,y,z]
 | _=>[]
def Xk (all:Array Oper) (o:Oper):List Nat:=
 match o.guard with
 | none=>[]
 | some (j,_)=>match nth all.toList j with
  | some q=>match q.dst with
   | some d=>[d]
   | none=>[]
  | none=>[]
def LY (all:Array Oper) (o:Oper):List Nat:=Xk all o++tmpsOf (kE o.op)
structure Rec (S:At) where
 i:Nat
 o:Oper
 pu:Bool
 o1:List (Nat×Own S)
 n1:Nat
 n2:Nat
 x:SV
 cn:List Nat
 gb:List (Nat×Own S)
 tk:Bool
def pick {α:Type}:List Nat->List (Nat×α)->List (Nat×α)
 | [],_=>[]
 | u::r,t=>match lk t u with
  | some x=>(u,x)::pick r t
  | none=>pick r t
def HI:List (Nat×SV)->List (Rec S)->List (Nat×SV)
 | t,[]=>t
 | t,r::rs=>match r.o.dst with
  | none=>HI t rs
  | some d=>HI (pt t d r.x) rs
def Sg:List Nat->List (Nat×Own S)->List (Nat×Own S)
 | [],o=>o
 | j::c,o=>rm (Sg c o) j
def mY:Own S->Bool
 | .tr _ _ _=>true
 | .mp _ _ _ _=>true
 | .mr _ _ _ _ _=>true
 | .dp _ _ _=>true
 | _=>false
def jR:Own S->Bool
 | .tr _ _ _=>true
 | _=>false
def Oe:Op->Bool
 | .call _=>true
 | .makeMap _ _=>true
 | _=>false
def SS (u:Nat) (o:List (Nat×Own S)):Bool:=match lk o u with
 | some b=>mY b
 | none=>false
def H5 (u:Nat):List (Rec S)->Bool
 | []=>false
 | r::rs=>match Oe r.o.op with
  | true=>match SS u r.o1 with
   | true=>true
   | false=>H5 u rs
  | false=>H5 u rs
def I8 (f:Nat->Bool):List (Nat×Own S)->List (Nat×Own S)
 | []=>[]
 | (i,b)::r=>match f i with
  | true=>I8 f r
  | false=>(i,b)::I8 f r
def PB (fl:Bool) (hid:List Nat) (rs:List (Rec S)) (o:List (Nat×Own S)):List (Nat×Own S):=match fl with
 | true=>Sg hid (I8 (fun u=>H5 u rs) o)
 | false=>o
def oC (L:Nat->Bool) (o:List (Nat×Own S)):List (Rec S)->List (Nat×Own S)
 | []=>o
 | r::rs=>match L r.i with
  | true=>oC L (r.gb++(r.o1++Sg r.cn o)) rs
  | false=>oC L o rs
def BF:Nat->List (Rec S)->Nat
 | n,[]=>n
 | _,r::rs=>BF r.n2 rs
def eG (m i:Nat):Bool:=Nat.beq (Nat.land 1 (Nat.shiftRight m i)) 1
def CD (ms:List Nat) (j i:Nat):Bool:=match nth ms j with
 | some m=>eG m i
 | none=>false
def behind (s:St S) (rs:List (Rec S)):St S:=⟨HI s.t rs,oC (fun _=>true) s.o rs,BF s.n rs,s.sz⟩
def seenAt (fl:Bool) (hid:List Nat) (s:St S) (all:Array Oper) (ms:List Nat) (rs:List (Rec S)) (i:Nat) (o:Oper) (pu:Bool):St S:=
 ⟨pick (LY all o) (HI s.t rs),match pu with|true=>[]|false=>PB fl hid rs (oC (CD ms i) s.o rs),BF s.n rs,s.sz⟩
def mX:List Oper->Nat->Bool
 | [],_=>false
 | o::r,i=>match o.guard with
  | some (j,_)=>match Nat.beq j i with
   | true=>true
   | false=>mX r i
  | none=>mX r i
def EW (d:Option Tmp) (sz:Nat):Bool:=match d with
 | none=>true
 | some d=>Nat.ble (d+1) sz
def CU (n1 n2:Nat):List (Nat×Own S)->Bool
 | []=>Nat.ble n1 n2
 | (i,_)::r=>match Nat.ble n1 i,Nat.ble (i+1) n2 with
  | true,true=>CU n1 n2 r
  | _,_=>false
def Ce:List Cw->Bool
 | []=>true
 | .fd _::r=>Ce r
 | .st _::r=>Ce r
 | .fn _ []::r=>Ce r
 | _::_=>false
def Spec.Ra (q:Spec):Bool:=match q.bx with
 | []=>Ce q.as
 | _::_=>false
def Rec.fc {α:Type 1} (r:Rec S) (k:Rec S->α):α:=iI r.o1 fun o1=>fN r.n1 fun n1=>fN r.n2 fun n2=>r.x.fc fun x=>ly r.cn fun cn=>iI r.gb fun gb=>k ⟨r.i,r.o,r.pu,o1,n1,n2,x,cn,gb,r.tk⟩
theorem Rec.Fv {α:Type 1} (r:Rec S) (k:Rec S->α):r.fc k=k r:=by
 unfold Rec.fc;rw [Pb,Mv,Mv,SV.Fv,XF,Pb]
def Wf {ι:Nat->Type} {ρ:Type} (all:Array Oper) (k:Rec S->Tr ι ρ) (r:Rec S):Tr ι ρ:=
 match r.x with
 | .b c=>match mX all.toList r.i with
  | true=>.ite c (k { r with x:=.v (.bool true) }) (k { r with x:=.v (.bool false) })
  | false=>k r
 | _=>k r
def Ex {ι:Nat->Type} {ρ:Type} (all:Array Oper) (r:Rec S) (k:Rec S->Tr ι ρ):Tr ι ρ:=r.fc (Wf all k)
def recC {ι:Nat->Type} {ρ:Type} (st:St S) (i:Nat) (o:Oper) (c:B2 S) (ps:PS S) (y:c.rs.D S) (k:Rec S->Tr ι ρ):Tr ι ρ:=
 match c.rs.enc y (Hb c.bn c.rs) with
 | (rs',o',n')=>match CU st.n (st.n+(n' -c.bn)) (Dq (Bk c.bn ps.m st.n) o') with
  | true=>k ⟨i,o,false,Dq (Bk c.bn ps.m st.n) o',st.n,st.n+(n' -c.bn),A5 (CY (Bk c.bn ps.m st.n) rs'),[],[],false⟩
  | false=>.stuck 46
def ZC {ι:Nat->Type} {ρ:Type} (tb:List (Nat×TI)) (st:St S) (i:Nat) (o:Oper) (fail:Tr ι ρ) (k:Rec S->Tr ι ρ):Tr ι ρ:=match o.op with
 | .slice T x lo hi none=>match ev st x with
  | some (.h _)=>match G1 tb st T x lo hi with
   | .nm c o1 n' v=>match CU st.n n' o1 with
    | true=>Lb c (k ⟨i,o,true,o1,st.n,n',v,[],[],false⟩)
    | false=>fail
   | _=>fail
  | _=>fail
 | _=>fail
inductive Zo (S:At) where
 | b0 (e:Nat)
 | a0 (j:Nat) (b:Bool) (c:Option Bool) (o1:List (Nat×Own S)) (n':Nat) (v:SV)
 | no
def zeroOf (tb:List (Nat×TI)) (pu:Bool) (all:List Oper) (st:St S) (o:Oper):Zo S:=match pu with
 | true=>.no
 | false=>match Xq tb all o with
  | some e=>.b0 e
  | none=>match VX tb st o.op with
   | some (j,b,.nm c o1 n' v)=>.a0 j b c o1 n' v
   | _=>.no
theorem WR {tb:List (Nat×TI)} {pu:Bool} {all:List Oper} {st:St S} {o:Oper} {e:Nat} (h:zeroOf tb pu all st o=.b0 e):pu=false/\Xq tb all o=some e:=by
 unfold zeroOf at h
 split at h
 ·cases h
 ·split at h
  ·rename_i he;cases h;exact ⟨rfl,he⟩
  ·split at h<;>cases h
theorem WQ {tb:List (Nat×TI)} {pu:Bool} {all:List Oper} {st:St S} {o:Oper} {j:Nat} {b:Bool} {c:Option Bool} {o1:List (Nat×Own S)} {n':Nat} {v:SV} (h:zeroOf tb pu all st o=.a0 j b c o1 n' v):pu=false/\VX tb st o.op=some (j,b,.nm c o1 n' v):=by
 unfold zeroOf at h
 split at h
 ·cases h
 ·split at h
  ·cases h
  ·split at h
   ·rename_i he;cases h;exact ⟨rfl,he⟩
   ·cases h
def Ts (t:Nat):List Oper->Bool
 | []=>false
 | o::r=>match o.op,o.dst with
  | .buildSlice _ 0 _,some d=>match Nat.beq d t with
   | true=>true
   | false=>Ts t r
  | _,_=>Ts t r
def BP (s:St S) (all:Array Oper) (ms:List Nat) (rs:List (Rec S)) (i:Nat) (o:Oper):St S:=
 ⟨pick (LY all o) (HI s.t rs),oC (CD ms i) s.o rs,BF s.n rs,s.sz⟩
def Ur (f:Nat->Bool):List (Nat×Own S)->Bool
 | []=>true
 | (i,_)::r=>match f i with
  | true=>Ur f r
  | false=>false
def Nc (f:Nat->Bool):List Nat->Bool
 | []=>true
 | i::r=>match f i with
  | true=>Nc f r
  | false=>false
def OY:List Nat->Bool
 | []=>false
 | _::_=>true
def Wm (own:Bool) (ms:List Nat) (i:Nat):List (Rec S)->Bool
 | []=>true
 | r::rs=>match OY r.cn || (own && r.tk) with
  | false=>Wm own ms i rs
  | true=>match CD ms i r.i with
   | true=>Wm own ms i rs
   | false=>false
def F8 (m:Nat) (hid:List Nat) (ms:List Nat) (i n:Nat) (rs:List (Rec S)) (cn:List Nat) (gb:List (Nat×Own S)):Bool:=
 Nc (fun j=>(EG j hid || H5 j rs) && Nat.ble (j+1) n) cn && Ur (fun j=>EG j cn && Nat.ble (j+1) m) gb && Wm (OY cn) ms i rs
def Vg (m:Nat) (hid:List Nat) (n:Nat) (ms:List Nat) (i:Nat) (rs:List (Rec S)) (cn:List Nat) (c:Option Bool) (ow:Own S):Option (List Nat×Option Bool×Own S):=match F8 m hid ms i n rs cn [] with
 | true=>some (cn,c,ow)
 | false=>none
def UY (m:Nat) (fl:Bool) (hid:List Nat) (tb:List (Nat×TI)) (st:St S) (ms:List Nat) (i:Nat) (rs:List (Rec S)) (pu:Bool) (op:Op):Option (List Nat×Option Bool×Own S):=
 match fl,pu with
 | true,false=>match op with
  | .call ⟨.builtin .append,⟨[x,y]⟩,⟨[T,T']⟩⟩=>match Nat.beq T' T,ev st x with
   | true,some (.tr j)=>match Qy tb st T x y with
    | .x c ((_,ow)::_) _ _=>Vg m hid st.n ms i rs [j] c ow
    | _=>match DM tb T,ev st y,lk st.o j with
     | some (.slice e _),some (.row k 1),some (.mr κ τ ag E ls)=>match lk tb e,lk st.o k with
      | some te,some (.row E'' 1 1 [.By u])=>match lk st.o u,Nat.beq j u,Nat.beq E'' e with
       | some (.mp κ' τ' ag' l),false,true=>match Nat.beq te.sz 1,Nat.beq E e,HQ ag' ag,Nat.decEq τ' τ,Vi κ' κ with
        | true,true,true,.isTrue h,some ⟨h'⟩=>Vg m hid st.n ms i rs [j,u] (some (room te.bs (ls.length+1))) (.mr κ τ ag E (ls++[(h▸h'▸l:List (κ.T S.T×S.T τ))]))
        | _,_,_,_,_=>none
       | _,_,_=>none
      | _,_=>none
     | _,_,_=>none
   | _,_=>none
  | .buildSlice T n ⟨[(0,x)]⟩=>match Nat.beq n 1,ev st x with
   | true,some (.By j)=>match Yj tb st T 1 [(0,x)] with
    | .x c ((_,ow)::_) _ _=>Vg m hid st.n ms i rs [j] c ow
    | _=>none
   | _,_=>none
  | .slice T x none hi none=>match DM tb T,ev st x with
   | some (.slice _ _),some (.tr j)=>match lk st.o j with
    | some (.mr κ τ ag E ls)=>match Ii st ls.length hi with
     | some h=>Vg m hid st.n ms i rs [j] (some (decide (0<=h/\h<=ls.length))) (.mr κ τ ag E (ls.take h.toNat))
     | none=>none
    | _=>none
   | _,_=>none
  | _=>none
 | _,_=>none
def Zf (m:Nat) (fl:Bool) (hid:List Nat) (tb:List (Nat×TI)) (st:St S) (ms:List Nat) (i:Nat) (rs:List (Rec S)) (pu:Bool) (op:Op):Option (Nat×Own S):=
 match fl,pu with
 | true,false=>match op with
  | .store T x y=>match ev st x with
   | some (.ptr j _)=>match EG j hid,lk st.o j with
    | true,some (.AS _ _)=>match IL tb st T x y with
     | .Sh none j' b=>match Nat.beq j' j,F8 m hid ms i st.n rs [j] [(j,b)] with
      | true,true=>some (j,b)
      | _,_=>none
     | _=>none
    | _,_=>none
   | _=>none
  | _=>none
 | _,_=>none
def Hp (o':List (Nat×Own S)):List (Nat×Own S)->List Nat
 | []=>[]
 | (i,_)::r=>match lk o' i with
  | some _=>Hp o' r
  | none=>i::Hp o' r
def Ey (n:Nat):List (Nat×Own S)->List (Nat×Own S)
 | []=>[]
 | (i,b)::r=>match Nat.ble (i+1) n with
  | true=>(i,b)::Ey n r
  | false=>Ey n r
def GB (n:Nat):List (Nat×Own S)->List (Nat×Own S)
 | []=>[]
 | (i,b)::r=>match Nat.ble (i+1) n with
  | true=>GB n r
  | false=>(i,b)::GB n r
def mW (o:List (Nat×Own S)) (j:Nat):Bool:=match lk o j with
 | some _=>true
 | none=>false
def Ys (m:List (Nat×Nat)) (bn:Nat) (o:List (Nat×Own S)):Bool:=match OD m bn with
 | some l=>Nc (mW o) l
 | none=>false
def Qj:List SV->List SV->Bool
 | [],[]=>true
 | .ptr i k::r,.ptr i' k'::r'=>match Nat.beq i i',Nat.beq k k' with
  | true,true=>Qj r r'
  | _,_=>false
 | _,_=>false
def ZY:Own S->Own S->Bool
 | .AS T cs,.AS T' cs'=>match Nat.beq T T' with
  | true=>Qj cs cs'
  | false=>false
 | _,_=>false
def RR (o g:List (Nat×Own S)) (u:Nat):Bool:=match lk g u,lk o u with
 | some b,some b'=>ZY b b'
 | _,_=>false
def KX (f:Nat->Bool):List Nat->List Nat
 | []=>[]
 | i::r=>match f i with
  | true=>KX f r
  | false=>i::KX f r
def M3 (po o g:List (Nat×Own S)):List Nat:=KX (RR o g) (Hp po o)
def Jv (o g:List (Nat×Own S)):List (Nat×Own S):=I8 (RR o g) g
def SO {ι:Nat->Type} {ρ:Type} (m:Nat) (hid:List Nat) (ms:List Nat) (rs:List (Rec S)) (st:St S) (i:Nat) (o:Oper) (c:B2 S) (ps:PS S) (y:c.rs.D S) (k:Rec S->Tr ι ρ):Tr ι ρ:=
 match c.rs.enc y (Hb c.bn c.rs) with
 | (rs',o',n')=>match Ys ps.m c.bn st.o,CU st.n (st.n+(n' -c.bn)) (GB st.n (Dq (Bk c.bn ps.m st.n) o')),F8 m hid ms i st.n rs (M3 ps.o st.o (Ey st.n (Dq (Bk c.bn ps.m st.n) o'))) (Jv st.o (Ey st.n (Dq (Bk c.bn ps.m st.n) o'))) with
  | true,true,true=>k ⟨i,o,false,GB st.n (Dq (Bk c.bn ps.m st.n) o'),st.n,st.n+(n' -c.bn),A5 (CY (Bk c.bn ps.m st.n) rs'),M3 ps.o st.o (Ey st.n (Dq (Bk c.bn ps.m st.n) o')),Jv st.o (Ey st.n (Dq (Bk c.bn ps.m st.n) o')),true⟩
  | _,_,_=>.stuck 55
def UE:SV->SV->Bool
 | .ptr a b,.ptr a' b'=>match Nat.beq a a',Nat.beq b b' with
  | true,true=>true
  | _,_=>false
 | .By a,.By a'=>Nat.beq a a'
 | _,_=>false
def fK (r:R S) (x:SV):Bool:=match r with
 | .val none y=>UE x y
 | _=>false
def Ot (tb:List (Nat×TI)) (T off:Nat) (x:SV):Own S->Bool
 | .AS _ cs=>match lk tb T with
  | some t=>fK (S:=S) (ld t cs off) x
  | none=>false
 | _=>false
def SM (tb:List (Nat×TI)) (T off:Nat) (x:SV) (j:Nat):List (Rec S)->Bool
 | []=>true
 | r::rs=>match EG j r.cn with
  | false=>SM tb T off x j rs
  | true=>match lk r.gb j with
   | some o=>match Ot tb T off x o with
    | true=>SM tb T off x j rs
    | false=>false
   | none=>false
def UF (s:St S) (tb:List (Nat×TI)) (st:St S) (rs:List (Rec S)):Op->Option SV
 | .load T x=>match ev st x with
  | some (.ptr j off)=>match lk s.o j with
   | some (.AS U cs)=>match cs[off]? with
    | some v=>match Ot (S:=S) tb T off v (.AS U cs),SM tb T off v j rs with
     | true,true=>some v
     | _,_=>none
    | _=>none
   | _=>none
  | _=>none
 | _=>none
def Wz (all:List Oper):List (Nat×Bool)->Bool
 | []=>false
 | (_,true)::r=>Wz all r
 | (i,false)::r=>match nth all i with
  | some o=>match o.op with
   | .call ⟨.builtin .append,⟨[.tmp t,_]⟩,_⟩=>match Ts t all with
    | true=>Wz all r
    | false=>true
   | _=>Wz all r
  | none=>Wz all r
def Cb {ι:Nat->Type} {ρ:Type} (fl:Bool) (hid:List Nat) (tb:List (Nat×TI)) (ct:List (B2 S)) (s:St S) (all:Array Oper) (ms:List Nat) (fin:List (Rec S)->Tr ι ρ):List (Nat×Bool)->List (Rec S)->Tr ι ρ
 | [],rs=>fin rs
 | (i,pu)::t,rs=>match nth all.toList i with
  | none=>.stuck 40
  | some o=>match EW o.dst s.sz with
   | false=>.stuck 41
   | true=>match Bw (seenAt fl hid s all ms rs i o pu) all o with
    | .no=>Cb fl hid tb ct s all ms fin t (rs++[⟨i,o,pu,[],BF s.n rs,BF s.n rs,.v (.tuple #[]),[],[],false⟩])
    | .yes=>match zeroOf tb pu all.toList (seenAt fl hid s all ms rs i o false) o with
     | .b0 e=>Ex all ⟨i,o,false,[(BF s.n rs,.AS e [])],BF s.n rs,BF s.n rs+1,.view (BF s.n rs) 0 0 0,[],[],false⟩ fun r=>Cb fl hid tb ct s all ms fin t (rs++[r])
     | .a0 j b c o1 n' v=>match CU (BF s.n rs) n' o1 with
      | true=>Lb c (.ite b (Ex all ⟨i,o,false,[],BF s.n rs,BF s.n rs,.view j 0 0 0,[],[],false⟩ fun r=>Cb fl hid tb ct s all ms fin t (rs++[r])) (Ex all ⟨i,o,false,o1,BF s.n rs,n',v,[],[],false⟩ fun r=>Cb fl hid tb ct s all ms fin t (rs++[r])))
      | false=>.stuck 49
     | .no=>match UY s.n fl hid tb (BP s all ms rs i o) ms i rs pu o.op with
      | some (cn,c,ow)=>Lb c (Cb fl hid tb ct s all ms fin t (rs++[⟨i,o,false,[(BF s.n rs,ow)],BF s.n rs,BF s.n rs+1,.tr (BF s.n rs),cn,[],true⟩]))
      | none=>match Zf s.n fl hid tb (BP s all ms rs i o) ms i rs pu o.op with
      | some (j,b)=>Cb fl hid tb ct s all ms fin t (rs++[⟨i,o,false,[],BF s.n rs,BF s.n rs,.v (.tuple #[]),[j],[(j,b)],true⟩])
      | none=>match callee (seenAt fl hid s all ms rs i o pu) o.op with
      | some (f,args)=>match pu with
       | true=>.stuck 42
       | false=>SU f args (PB fl hid rs (oC (CD ms i) s.o rs)) (fun c x ps=>match c.sp.Ra,Nat.beq c.bn 0 with
        | true,true=>match c.out with
         | .I1 g=>recC (seenAt fl hid s all ms rs i o false) i o c ps (g x) fun r=>Ex all r fun r=>Cb fl hid tb ct s all ms fin t (rs++[r])
         | .pre p g=>.Zp (p x) (recC (seenAt fl hid s all ms rs i o false) i o c ps (g x) fun r=>Ex all r fun r=>Cb fl hid tb ct s all ms fin t (rs++[r]))
         | .opt m=>.Ii (m x) fun y=>recC (seenAt fl hid s all ms rs i o false) i o c ps y fun r=>Ex all r fun r=>Cb fl hid tb ct s all ms fin t (rs++[r])
        | _,_=>.stuck 43) (match fl with
        | false=>.stuck (10000+f)
        | true=>SU f args (oC (CD ms i) s.o rs) (fun c x ps=>match c.out with
         | .I1 g=>SO s.n hid ms rs (BP s all ms rs i o) i o c ps (g x) fun r=>Ex all r fun r=>Cb fl hid tb ct s all ms fin t (rs++[r])
         | .pre p g=>.Zp (p x) (SO s.n hid ms rs (BP s all ms rs i o) i o c ps (g x) fun r=>Ex all r fun r=>Cb fl hid tb ct s all ms fin t (rs++[r]))
         | .opt m=>.Ii (m x) fun y=>SO s.n hid ms rs (BP s all ms rs i o) i o c ps y fun r=>Ex all r fun r=>Cb fl hid tb ct s all ms fin t (rs++[r])) (.stuck (10000+f)) ct) ct
      | none=>match evalOp tb (seenAt fl hid s all ms rs i o pu) o.op with
       | .val c x=>Lb c (Ex all ⟨i,o,pu,[],BF s.n rs,BF s.n rs,x,[],[],false⟩ fun r=>Cb fl hid tb ct s all ms fin t (rs++[r]))
       | .new b=>match pu with
        | true=>.stuck 44
        | false=>Ex all ⟨i,o,false,[(BF s.n rs,b)],BF s.n rs,BF s.n rs+1,HP b (BF s.n rs),[],[],false⟩ fun r=>Cb fl hid tb ct s all ms fin t (rs++[r])
       | .nm c o1 n' v=>match pu,CU (BF s.n rs) n' o1 with
        | false,true=>Lb c (Ex all ⟨i,o,false,o1,BF s.n rs,n',v,[],[],false⟩ fun r=>Cb fl hid tb ct s all ms fin t (rs++[r]))
        | _,_=>.stuck 45
       | .stop=>match pu with
        | true=>ZC tb (seenAt fl hid s all ms rs i o false) i o (.stuck (200000000+1000*i+o.dst.getD 0)) fun r=>Ex all r fun r=>Cb fl hid tb ct s all ms fin t (rs++[r])
        | false=>match fl,F8 s.n hid ms i (BF s.n rs) rs [] [],evalOp tb (BP s all ms rs i o) o.op with
         | true,true,.val c x=>Lb c (Ex all ⟨i,o,false,[],BF s.n rs,BF s.n rs,x,[],[],true⟩ fun r=>Cb fl hid tb ct s all ms fin t (rs++[r]))
         | true,true,.nm c o1 n' v=>match CU (BF s.n rs) n' o1 with
          | true=>Lb c (Ex all ⟨i,o,false,o1,BF s.n rs,n',v,[],[],true⟩ fun r=>Cb fl hid tb ct s all ms fin t (rs++[r]))
          | false=>.stuck 56
         | _,_,_=>match fl,UF s tb (BP s all ms rs i o) rs o.op with
          | true,some x=>Ex all ⟨i,o,false,[],BF s.n rs,BF s.n rs,x,[],[],true⟩ fun r=>Cb fl hid tb ct s all ms fin t (rs++[r])
          | _,_=>.stuck (200000000+1000*i+o.dst.getD 0)
       | _=>.stuck (200000000+1000*i+o.dst.getD 0)
    | .split _ _=>.stuck 47
    | .hO=>.stuck 48
def F7:List Nat->List Nat
 | []=>[]
 | i::r=>match Nat.ble 1000000 i with
  | true=>F7 r
  | false=>i::F7 r
def aL:List Nat->List Nat
 | []=>[]
 | i::r=>match Nat.ble 1000000 i with
  | true=>(i -1000000)::aL r
  | false=>aL r
def Qq:List (Nat×Own S)->List Nat
 | []=>[]
 | (i,b)::r=>match jR b with
  | true=>i::Qq r
  | false=>Qq r
mutual
def VP:SV->List Nat
 | .v _=>[]
 | .b _=>[]
 | .ptr i _=>[i]
 | .row i _=>[i]
 | .tr i=>[i]
 | .ep i _ _ _=>[i]
 | .view i _ _ _=>[i]
 | .By i=>[i]
 | .mk i _=>[i]
 | .hm i=>[i]
 | .h i=>[i]
 | .vp i _=>[i]
 | .ap i _ _ _=>[i]
 | .pr i _ _ _=>[i]
 | .pp i _ _ _ _ _ _=>[i]
 | .agg cs=>Gl cs
 | .Gr cs=>Gl cs
 | .fn _ cs=>Gl cs
def Gl:List SV->List Nat
 | []=>[]
 | x::r=>VP x++Gl r
end
def Nt (o:List (Nat×Own S)):Nat->List Nat->List Nat
 | 0,_=>[]
 | _+1,[]=>[]
 | f+1,i::r=>match lk o i with
  | some (.AS _ cs)=>i::(Nt o f (Gl cs)++Nt o f r)
  | some _=>i::Nt o f r
  | none=>Nt o f r
def Ih (t:List (Nat×SV)):List Nat->List Nat
 | []=>[]
 | u::r=>match lk t u with
  | some x=>VP x++Ih t r
  | none=>Ih t r
def Pm (o:List (Nat×Own S)):List Nat->List Nat
 | []=>[]
 | i::r=>match lk o i with
  | some (.AS _ cs)=>Gl cs++Pm o r
  | _=>Pm o r
def M6 (o:List (Nat×Own S)) (t:List (Nat×SV)):List Nat->List Nat
 | []=>[]
 | u::r=>match Nat.ble 1000000 u with
  | true=>Pm o (Ih t [u -1000000])++M6 o t r
  | false=>Ih t [u]++M6 o t r
def oW:Bool->Bool->Bool
 | true,_=>true
 | false,b=>b
def kU:List Nat->Bool
 | []=>false
 | _::_=>true
def ed (all:List Oper) (q:I6):Bool:=oW (kU (aL q.IF)) (Wz all q.pre)
def dD (s:St S) (all:List Oper) (q:I6):List Nat:=match ed all q with
 | true=>Qq s.o++Nt s.o 30 (M6 s.o s.t (aL q.IF))
 | false=>[]
def LV (all:Array Oper):List Nat->List Oper
 | []=>[]
 | i::r=>match nth all.toList i with
  | some o=>o::LV all r
  | none=>LV all r
def Bm:Nat->List SV->List (Nat×SV)
 | _,[]=>[]
 | i,x::r=>(i,x)::Bm (i+1) r
def Un:List Oper->Bool
 | []=>false
 | o::r=>match Ez o with
  | true=>true
  | false=>Un r
def lW (s:St S):Op->List Nat
 | .mapUpdate _ _ _ v=>match ev s v with
  | some x=>UH [x]
  | none=>[]
 | .insert _ _ _ v=>match ev s v with
  | some x=>UH [x]
  | none=>[]
 | _=>[]
def exec {ι:Nat->Type} {ρ:Type} (E:Env S):Nat->Fr->(Nat->List Bg->St S->Tr ι ρ)->(Bool->St S->Tr ι ρ)->Bool->List Bg->St S->Tr ι ρ
 | 0,_,_,_,_,_,_=>.stuck 4
 | _+1,_,_,or',_,[],s=>or' false s
 | n+1,fr,oc,or',go,.ops _ []::k,s=>exec E n fr oc or' go k s
 | n+1,fr,oc,or',go,.ops all (o::r)::k,s=>match Bw s all o with
  | .hO=>.stuck 6
  | .split d c=>.ite c (exec E n fr oc or' go (.ops all (o::r)::k) { s with t:=pt s.t d (.v (.bool true)) }) (exec E n fr oc or' go (.ops all (o::r)::k) { s with t:=pt s.t d (.v (.bool false)) })
  | .no=>match s.put o.dst (.v (.tuple #[])) with
   | some s'=>exec E n fr oc or' go (.ops all r::k) s'
   | none=>.stuck 7
  | .yes=>match callee s o.op with
   | some (f,args)=>match lk E.inl f with
    | some q=>match Nat.ble args.length q.sz with
     | true=>exec E n ⟨false,q.dr⟩ (fun _ _ _=>.stuck 50) (fun _ s'=>match Lj E.tb s' q.res with
      | some vs=>match St.put { s with o:=s'.o,n:=s'.n } o.dst (A5 vs) with
       | some s''=>exec E n fr oc or' go (.ops all r::k) s''
       | none=>.stuck 51
      | none=>.stuck 52) false [.code [] q.body] ⟨Bm 0 args,s.o,s.n,q.sz⟩
     | false=>.stuck 53
    | none=>SU f args s.o (fun c x ps=>match c.out with
     | .I1 g=>Og s c ps o.dst (g x) (fun s'=>exec E n fr oc or' go (.ops all r::k) s') (.stuck 8)
     | .pre p g=>.Zp (p x) (Og s c ps o.dst (g x) (fun s'=>exec E n fr oc or' go (.ops all r::k) s') (.stuck 8))
     | .opt m=>.Ii (m x) fun y=>Og s c ps o.dst y (fun s'=>exec E n fr oc or' go (.ops all r::k) s') (.stuck 8)) (match UH args with
      | []=>.stuck (10000+f)
      | l=>exec E n fr oc or' go (.ops all (o::r)::k) (Fo s l)) E.ct
   | none=>match evalOp E.tb s o.op with
    | .val c x=>match s.put o.dst x with
     | some s'=>Lb c (exec E n fr oc or' go (.ops all r::k) s')
     | none=>.stuck 9
    | .new b=>match ZP E.tb b with
     | []=>match St.put { s with o:=(s.n,b)::s.o,n:=s.n+1 } o.dst (HP b s.n) with
      | some s'=>exec E n fr oc or' go (.ops all r::k) s'
      | none=>.stuck 9
     | j::l=>exec E n fr oc or' go (.ops all (o::r)::k) (Fo s (j::l))
    | .Sh c i b=>match St.put { s with o:=pt s.o i b } o.dst (.v (.tuple #[])) with
     | some s'=>Lb c (exec E n fr oc or' go (.ops all r::k) s')
     | none=>.stuck 9
    | .nm c o1 n' v=>match St.put { s with o:=o1++s.o,n:=n' } o.dst v with
     | some s'=>Lb c (exec E n fr oc or' go (.ops all r::k) s')
     | none=>.stuck 9
    | .x c o' n' v=>match St.put { s with o:=o',n:=n' } o.dst v with
     | some s'=>Lb c (exec E n fr oc or' go (.ops all r::k) s')
     | none=>.stuck 9
    | .stop=>match lW s o.op with
     | []=>.stuck (100000000+1000*r.length+o.dst.getD 0)
     | j::l=>exec E n fr oc or' go (.ops all (o::r)::k) (Fo s (j::l))
 | n+1,fr,oc,or',go,.AS _::k,s=>exec E n fr oc or' go k s
 | n+1,fr,oc,or',go,.sc _ _::k,s=>exec E n fr oc or' go k s
 | n+1,fr,oc,or',go,.again a c::k,s=>exec E n fr oc or' go (.code a c::.again a c::k) s
 | n+1,fr,oc,or',go,.code a (.seq x y)::k,s=>exec E n fr oc or' go (.code (0::a) x::.code (1::a) y::k) s
 | n+1,fr,oc,or',go,.code _ .skip::k,s=>exec E n fr oc or' go k s
 | n+1,fr,oc,or',go,.code _ (.label _)::k,s=>exec E n fr oc or' go k s
 | n+1,fr,oc,or',go,.code a (.block id x)::k,s=>exec E n fr oc or' go (.code (0::a) x::.AS id::k) s
 | n+1,fr,oc,or',go,.code a (.scope x)::k,s=>exec E n fr oc or' go (.code (0::a) x::.sc (0::a) x::k) s
 | n+1,fr,oc,or',go,.code a (.loop x)::k,s=>exec E n fr oc or' go (.again (0::a) x::k) s
 | n+1,fr,oc,or',go,.code a (.region id ops d)::k,s=>match (match go with|true=>false|false=>match fr.main with|true=>jO E id|false=>false) with
  | true=>oc id (.code a (.region id ops d)::k) s
  | false=>match Un ops.toList with
   | true=>oc 999998 (.code a (.region id ops d)::k) s
   | false=>match d with
   | false=>exec E n fr oc or' false (.ops ops ops.toList::k) s
   | true=>match lk fr.dr id with
    | some q=>match q.fz with
     | false=>Cb (ed ops.toList q) (dD s ops.toList q) E.tb E.ct s ops q.ms (fun rs=>(behind s rs).fc fun s1=>exec E n fr oc or' false (.ops ops (LV ops (F7 q.IF))::k) s1) q.pre []
     | true=>Cb (ed ops.toList q) (dD (Fo s (cX E.tb s q)) ops.toList q) E.tb E.ct (Fo s (cX E.tb s q)) ops q.ms (fun rs=>(behind (Fo s (cX E.tb s q)) rs).fc fun s1=>exec E n fr oc or' false (.ops ops (LV ops (F7 q.IF))::k) s1) q.pre []
    | none=>.stuck (30000+id)
 | n+1,fr,oc,or',go,.code _ (.exit id)::k,s=>match GU id k with
  | some k'=>exec E n fr oc or' go k' s
  | none=>.stuck 10
 | n+1,fr,oc,or',go,.code _ (.goto l)::k,s=>match GW l k with
  | some k'=>exec E n fr oc or' go k' s
  | none=>.stuck 11
 | n+1,fr,oc,or',go,.code a (.cond x t e)::k,s=>match ev s x with
  | some (.v (.bool true))=>exec E n fr oc or' go (.code (0::a) t::k) s
  | some (.v (.bool false))=>exec E n fr oc or' go (.code (1::a) e::k) s
  | some (.b c)=>.ite c (exec E n fr oc or' go (.code (0::a) t::k) s) (exec E n fr oc or' go (.code (1::a) e::k) s)
  | _=>.stuck 12
 | _+1,fr,oc,or',_,.code _ .ret::_,s=>or' true s
 | _+1,fr,oc,or',_,.code a (.rangeFunc g ps x y)::k,s=>oc 999999 (.code a (.rangeFunc g ps x y)::k) s
 | _+1,fr,oc,or',_,.code _ (.refuse _)::_,_=>.stuck 14
def Jb (E:Env S) (n:Nat) (q:Cut) (x:q.sp.D S):Tr E.ι E.ρ:=
 match DA E.body q.key with
 | some k=>match q.sp.enc x q.bn with
  | (vs,o,m)=>exec E n ⟨true,E.dr⟩ (SP E) (fun _=>SQ E) true k ⟨q.ts.zip vs,o,m,E.sz⟩
 | none=>.stuck 15
def Ja (E:Env S) (n:Nat) (sp:Spec) (x:sp.D S):Tr E.ι E.ρ:=
 match sp.enc x E.bn with
 | (vs,o,m)=>exec E n ⟨true,E.dr⟩ (SP E) (fun _=>SQ E) false [.code [] E.body] ⟨Bm 0 vs,o,m,E.sz⟩
end
end Go.En
