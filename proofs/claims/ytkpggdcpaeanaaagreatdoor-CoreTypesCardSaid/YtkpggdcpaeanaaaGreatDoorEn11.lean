/-
 Trees of what a piece of code comes to (Tr); contracts of functions (Ctr); the evaluation of code up to its next cuts (exec).
-/
import Derived.Test.YtkpggdcpaeanaaaGreatDoorEn10
namespace Go.En
open Go.RowKit
inductive Tr (ι:Nat→Type) (ρ:Type):Type 1 where
 | ret (r:ρ)
 | cut (c:Nat) (x:ι c)
 | ite (b:Bool) (t e:Tr ι ρ)
 | XF (p:Bool) (t:Tr ι ρ)
 | Hg {B:Type} (m:Option B) (k:B→Tr ι ρ)
 | stuck (why:Nat)
section
variable {ι:Nat→Type} {ρ:Type}
def Tr.eval (M: ∀ c,ι c→Option ρ):Tr ι ρ→Option ρ
 | .ret r=>some r
 | .cut c x=>M c x
 | .ite b t e=>if b=true then t.eval M else e.eval M
 | .XF p t=>if p=true then t.eval M else none
 | .Hg m k=>m.bind fun x=>(k x).eval M
 | .stuck _=>none
def EJ (step: ∀ c,ι c→Tr ι ρ):Nat→ ∀ c,ι c→Option ρ
 | 0,_,_=>none
 | n+1,c,x=>(step c x).eval (EJ step n)
def Tr.Holds (Kc: ∀ c,ι c→Prop) (Kr:ρ→Prop):Tr ι ρ→Prop
 | .ret r=>Kr r
 | .cut c x=>Kc c x
 | .ite b t e=>(b=true→t.Holds Kc Kr)∧(b=false→e.Holds Kc Kr)
 | .XF p t=>p=true∧t.Holds Kc Kr
 | .Hg m k=> ∃ x,m=some x∧(k x).Holds Kc Kr
 | .stuck _=>False
theorem Tr.A5 {M: ∀ c,ι c→Option ρ} {r:ρ}: ∀ {t:Tr ι ρ},t.eval M=some r→t.Holds (fun c x=>M c x=some r) (· =r)
 | .ret r',h=>by simp only [Tr.eval,Option.some.injEq] at h;exact h
 | .cut c x,h=>h
 | .ite b t e,h=>by
  simp only [Tr.eval] at h
  refine ⟨fun hb=>?_,fun hb=>?_⟩
  ·rw [if_pos hb] at h;exact A5 h
  ·rw [if_neg (by simp [hb])] at h;exact A5 h
 | .XF p t,h=>by
  simp only [Tr.eval] at h
  split at h
  ·rename_i hp;exact ⟨hp,A5 h⟩
  ·cases h
 | .Hg m k,h=>by
  simp only [Tr.eval] at h
  obtain ⟨x,h1,h2⟩:=Option.bind_eq_some_iff.1 h
  exact ⟨x,h1,A5 h2⟩
 | .stuck _,h=>by simp [Tr.eval] at h
theorem Tr.Holds.mono {Kc Kc': ∀ c,ι c→Prop} {Kr Kr':ρ→Prop} (hc: ∀ c x,Kc c x→Kc' c x) (hr: ∀ r,Kr r→Kr' r): ∀ {t:Tr ι ρ},t.Holds Kc Kr→t.Holds Kc' Kr'
 | .ret r',h=>hr _ h
 | .cut c x,h=>hc c x h
 | .ite b t e,h=>⟨fun hb=>mono hc hr (h.1 hb),fun hb=>mono hc hr (h.2 hb)⟩
 | .XF p t,h=>⟨h.1,mono hc hr h.2⟩
 | .Hg m k,h=>let ⟨x,h1,h2⟩:=h;⟨x,h1,mono hc hr h2⟩
 | .stuck _,h=>h
end
inductive Out (A B:Type) where
 | dG (g:A→B)
 | pre (p:A→Bool) (g:A→B)
 | opt (m:A→Option B)
def Out.gives {A B:Type}:Out A B→A→B→Prop
 | .dG g,x,y=>g x=y
 | .pre p g,x,y=>p x=true∧g x=y
 | .opt m,x,y=>m x=some y
def bR (bn:Nat):List HO→Nat
 | []=>0
 | b::r=>match Nat.ble (b.i+1) bn with
  | true=>bR bn r
  | false=>bR bn r+1
def Gl (bn:Nat) (q:Spec):Nat:=bn+bR bn q.bx
theorem S4 (bn:Nat) (q:Spec):bn≤Gl bn q:=Nat.le_add_right _ _
structure Bw (S:Aj) where
 f:Nat
 bn:Nat
 sp:Spec
 rs:Spec
 flat:Bool
 out:Out (sp.D S) (rs.D S)
structure Cut where
 key:List (List Nat)
 ts:List Nat
 bn:Nat
 sp:Spec
def Gf:Nat→Code→Option Code
 | 0,.seq x _=>some x
 | 1,.seq _ y=>some y
 | 0,.cond _ x _=>some x
 | 1,.cond _ _ y=>some y
 | 0,.block _ x=>some x
 | 0,.loop x=>some x
 | 0,.scope x=>some x
 | 0,.rangeFunc _ _ x _=>some x
 | 1,.rangeFunc _ _ _ y=>some y
 | l+2,c=>findLabel c l
 | _,_=>none
def Gn (body:Code):List Nat→Option Code
 | []=>some body
 | i::a=>match Gn body a with
  | some c=>Gf i c
  | none=>none
inductive BV where
 | code (a:List Nat) (c:Code)
 | AN (id:Nat)
 | ops (all:Array Oper) (rest:List Oper)
 | again (a:List Nat) (c:Code)
 | sc (a:List Nat) (c:Code)
def BV.it:BV→It
 | .code _ c=>.code c
 | .AN id=>.AN id
 | .ops all r=>.ops all r
 | .again _ c=>.again c
 | .sc _ c=>.sc c
def BV.ok (body:Code):BV→Prop
 | .code a c=>Gn body a=some c
 | .again a c=>Gn body a=some c
 | .sc a c=>Gn body a=some c
 | _=>True
def BV.key:BV→List Nat
 | .code a _=>0::a
 | .AN id=>[1,id]
 | .again a _=>2::a
 | .sc a _=>3::a
 | .ops _ _=>[4]
def KD (body:Code):List Nat→Option BV
 | 0::a=>match Gn body a with
  | some c=>some (.code a c)
  | none=>none
 | [1,id]=>some (.AN id)
 | 2::a=>match Gn body a with
  | some c=>some (.again a c)
  | none=>none
 | 3::a=>match Gn body a with
  | some c=>some (.sc a c)
  | none=>none
 | _=>none
def Cw (body:Code):List (List Nat)→Option (List BV)
 | []=>some []
 | x::r=>match KD body x with
  | some i=>match Cw body r with
   | some l=>some (i::l)
   | none=>none
  | none=>none
def af:List Nat→List Nat→Bool
 | [],[]=>true
 | x::r,y::t=>match Nat.beq x y with
  | true=>af r t
  | false=>false
 | _,_=>false
def Yp:List BV→List (List Nat)→Bool
 | [],[]=>true
 | x::r,y::t=>match af x.key y with
  | true=>Yp r t
  | false=>false
 | _,_=>false
def Fl (id:Nat):List BV→Option (List BV)
 | []=>none
 | .AN id'::k=>match Nat.beq id id' with
  | true=>some k
  | false=>Fl id k
 | .code _ _::k=>Fl id k
 | .ops _ _::k=>Fl id k
 | .again _ _::k=>Fl id k
 | .sc _ _::k=>Fl id k
def Fo (l:Nat):List BV→Option (List BV)
 | []=>none
 | .sc a c::k=>match findLabel c l with
  | some rest=>some (.code ((l+2)::a) rest::.sc a c::k)
  | none=>Fo l k
 | .code _ _::k=>Fo l k
 | .ops _ _::k=>Fo l k
 | .again _ _::k=>Fo l k
 | .AN _::k=>Fo l k
structure Hw where
 pre:List (Nat×Bool)
 HL:List Nat
 ms:List Nat
 fz:Bool
structure fy where
 body:Code
 sz:Nat
 res:List ResultVar
 dr:List (Nat×Hw)
structure Fr where
 main:Bool
 dr:List (Nat×Hw)
structure Env (S:Aj) where
 inl:List (Nat×fy)
 tb:List (Nat×TI)
 ct:List (Bw S)
 Ct:List (Nat×Cut)
 bn:Nat
 res:List ResultVar
 rs:Spec
 sz:Nat
 dr:List (Nat×Hw)
 body:Code
section
variable {S:Aj}
def aX (Ct:List (Nat×Cut)) (c:Nat):Type:=match lk Ct c with
 | some q=>q.sp.D S
 | none=>Empty
def Env.ι (E:Env S) (c:Nat):Type:=aX (S:=S) E.Ct c
def Env.ρ (E:Env S):Type:=E.rs.D S
def Dr (E:Env S) (c:Nat) (q:Cut) (h:lk E.Ct c=some q) (x:q.sp.D S):E.ι c:=by
 unfold Env.ι aX;rw [h];exact x
def BZ (bn:Nat) (m:List (Nat×Nat)) (n0:Nat) (i:Nat):Nat:=match Nat.ble (i+1) bn with
 | true=>match lk m i with
  | some j=>j
  | none=>0
 | false=>n0+(i -bn)
mutual
def SV.IM (r:Nat→Nat):SV→SV
 | .v x=>.v x
 | .b c=>.b c
 | .ptr i off=>.ptr (r i) off
 | .row i n=>.row (r i) n
 | .tr i=>.tr (r i)
 | .ep i z e off=>.ep (r i) z e off
 | .view i off len cap=>.view (r i) off len cap
 | .Bt i=>.Bt (r i)
 | .mk i e=>.mk (r i) e
 | .hm i=>.hm (r i)
 | .h i=>.h (r i)
 | .vp i off=>.vp (r i) off
 | .ap i n e off=>.ap (r i) n e off
 | .pr i z e off=>.pr (r i) z e off
 | .pp i z e off y j q=>.pp (r i) z e off y j q
 | .agg cs=>.agg (CJ r cs)
 | .F6 cs=>.F6 (CJ r cs)
 | .fn f cs=>.fn f (CJ r cs)
def CJ (r:Nat→Nat):List SV→List SV
 | []=>[]
 | x::t=>x.IM r::CJ r t
end
def Own.IM (r:Nat→Nat):Own S→Own S
 | .AN T cs=>.AN T (CJ r cs)
 | .row T z n cs=>.row T z n (CJ r cs)
 | .vu cs=>.vu (CJ r cs)
 | .tr τ E l=>.tr τ E l
 | .sl τ l=>.sl τ l
 | .obj p=>.obj p
 | .any=>.any
 | .dp τ E l=>.dp τ E l
 | .mp κ τ ag l=>.mp κ τ ag l
 | .mr κ τ ag E l=>.mr κ τ ag E l
def DX (r:Nat→Nat):List (Nat×Own S)→List (Nat×Own S)
 | []=>[]
 | (i,b)::t=>(r i,b.IM r)::DX r t
def PX:Nat→List (Nat×Nat)
 | 0=>[]
 | n+1=>(n,n)::PX n
def Ap:List SV→SV
 | [x]=>x
 | l=>.F6 l
def callee (s:St S):Op→Option (Nat×List SV)
 | .call ⟨.value f,⟨args⟩,_⟩=>match ev s f with
  | some (.fn g caps)=>match Gx s args with
   | some l=>match Nat.ble 1000000 g with
    | true=>some (g -1000000,caps++l)
    | false=>some (g,l++caps)
   | none=>none
  | some (.v (.func (.func g) ⟨[]⟩ ⟨caps⟩))=>match Gx s args with
   | some l=>some (g,l++caps.map .v)
   | none=>none
  | _=>none
 | _=>none
def QP {α:Type 1} (f:Nat) (args:List SV) (o:List (Nat×Own S)) (k:(c:Bw S)→c.sp.D S→PS S→α) (fail:α):List (Bw S)→α
 | []=>fail
 | c::r=>match Nat.beq c.f f with
  | true=>match c.sp.parse c.flat args o [] c.bn with
   | some (x,ps)=>k c x ps
   | none=>QP f args o k fail r
  | false=>QP f args o k fail r
def nth {α:Type}:List α→Nat→Option α
 | [],_=>none
 | x::_,0=>some x
 | _::r,n+1=>nth r n
theorem Fe {α:Type}: ∀ (l:List α) (n:Nat),nth l n=l[n]?
 | [],_=>by simp [nth]
 | _::_,0=>by simp [nth]
 | _::r,n+1=>by simp [nth,Fe r n]
inductive Wn where
 | yes
 | no
 | split (d:Nat) (c:Bool)
 | cu
def Bq (s:St S) (all:Array Oper) (o:Oper):Wn:=
 match o.guard with
 | none=>.yes
 | some (j,want)=>match nth all.toList j with
  | some q=>match q.dst with
   | some d=>match lk s.t d with
    | some (.v (.bool true))=>match want with
     | true=>.yes
     | false=>.no
    | some (.v (.bool false))=>match want with
     | true=>.no
     | false=>.yes
    | some (.v (.tuple ⟨[]⟩))=>.no
    | some (.b c)=>.split d c
    | _=>.cu
   | none=>.cu
  | none=>.cu
def KU (tb:List (Nat×TI)) (s:St S):List ResultVar→Option (List SV)
 | []=>some []
 | .tmp t::r=>match lk s.t t with
  | some x=>match KU tb s r with
   | some l=>some (x::l)
   | none=>none
  | none=>none
 | .cell t T::r=>match H3 tb s T (.tmp t) with
  | .val none x=>match KU tb s r with
   | some l=>some (x::l)
   | none=>none
  | _=>none
def FZ (s:St S):List Nat→Option (List SV)
 | []=>some []
 | t::r=>match lk s.t t with
  | some x=>match FZ s r with
   | some l=>some (x::l)
   | none=>none
  | none=>none
def KL {ι:Nat→Type} {ρ:Type} (c:Option Bool) (t:Tr ι ρ):Tr ι ρ:=match c with
 | none=>t
 | some b=>.XF b t
def Ma (m:List (Nat×Nat)):Nat→Option (List Nat)
 | 0=>some []
 | i+1=>match lk m i with
  | some j=>match Ma m i with
   | some l=>some (j::l)
   | none=>none
  | none=>none
def R5 (n:Nat):List Nat→Bool
 | []=>true
 | j::r=>match Nat.ble (j+1) n with
  | true=>R5 n r
  | false=>false
def dD (m:List (Nat×Nat)) (bn n:Nat):Bool:=match Ma m bn with
 | some l=>R5 n l
 | none=>false
def fN {α:Type 1} (n:Nat) (k:Nat→α):α:=match n with
 | 0=>k 0
 | m+1=>k (m+1)
theorem LV {α:Type 1} (n:Nat) (k:Nat→α):fN n k=k n:=by cases n<;>rfl
def SV.fc {α:Type 1}:SV→(SV→α)→α
 | .v x,k=>k (.v x)
 | .b c,k=>k (.b c)
 | .ptr i off,k=>fN i fun i=>k (.ptr i off)
 | .row i n,k=>fN i fun i=>k (.row i n)
 | .tr i,k=>fN i fun i=>k (.tr i)
 | .ep i z e off,k=>fN i fun i=>k (.ep i z e off)
 | .view i off len cap,k=>fN i fun i=>k (.view i off len cap)
 | .Bt i,k=>fN i fun i=>k (.Bt i)
 | .h i,k=>fN i fun i=>k (.h i)
 | .vp i off,k=>fN i fun i=>k (.vp i off)
 | .ap i n e off,k=>fN i fun i=>k (.ap i n e off)
 | .pr i z e off,k=>fN i fun i=>k (.pr i z e off)
 | .pp i z e off y j q,k=>fN i fun i=>k (.pp i z e off y j q)
 | .agg cs,k=>k (.agg cs)
 | .F6 cs,k=>k (.F6 cs)
 | .fn f cs,k=>k (.fn f cs)
 | .mk i e,k=>fN i fun i=>k (.mk i e)
 | .hm i,k=>fN i fun i=>k (.hm i)
theorem SV.FH {α:Type 1} (x:SV) (k:SV→α):x.fc k=k x:=by cases x<;>simp only [SV.fc,LV]
def dA {α:Type 1}:List SV→(List SV→α)→α
 | [],k=>k []
 | x::r,k=>x.fc fun x=>dA r fun r=>k (x::r)
theorem Un {α:Type 1}: ∀ (l:List SV) (k:List SV→α),dA l k=k l
 | [],_=>rfl
 | x::r,k=>by simp only [dA,SV.FH x,Un r]
def Own.fc {α:Type 1}:Own S→(Own S→α)→α
 | .AN T cs,k=>dA cs fun cs=>k (.AN T cs)
 | .row T z n cs,k=>dA cs fun cs=>k (.row T z n cs)
 | .vu cs,k=>dA cs fun cs=>k (.vu cs)
 | .tr τ E l,k=>k (.tr τ E l)
 | .sl τ l,k=>k (.sl τ l)
 | .obj p,k=>k (.obj p)
 | .any,k=>k .any
 | .dp τ E l,k=>k (.dp τ E l)
 | .mp κ τ ag l,k=>k (.mp κ τ ag l)
 | .mr κ τ ag E l,k=>k (.mr κ τ ag E l)
theorem Own.FH {α:Type 1} (b:Own S) (k:Own S→α):b.fc k=k b:=by cases b<;>simp only [Own.fc,Un]
def dB {α:Type 1}:List (Nat×Own S)→(List (Nat×Own S)→α)→α
 | [],k=>k []
 | (i,b)::r,k=>fN i fun i=>b.fc fun b=>dB r fun r=>k ((i,b)::r)
theorem Nt {α:Type 1}: ∀ (l:List (Nat×Own S)) (k:List (Nat×Own S)→α),dB l k=k l
 | [],_=>rfl
 | (i,b)::r,k=>by simp only [dB,LV,Own.FH b,Nt r]
def fh {α:Type 1}:List (Nat×SV)→(List (Nat×SV)→α)→α
 | [],k=>k []
 | (i,x)::r,k=>fN i fun i=>x.fc fun x=>fh r fun r=>k ((i,x)::r)
theorem Up {α:Type 1}: ∀ (l:List (Nat×SV)) (k:List (Nat×SV)→α),fh l k=k l
 | [],_=>rfl
 | (i,x)::r,k=>by simp only [fh,LV,SV.FH x,Up r]
def fg {α:Type 1}:List Nat→(List Nat→α)→α
 | [],k=>k []
 | i::r,k=>fN i fun i=>fg r fun r=>k (i::r)
theorem Uo {α:Type 1}: ∀ (l:List Nat) (k:List Nat→α),fg l k=k l
 | [],_=>rfl
 | i::r,k=>by simp only [fg,LV,Uo r]
def St.fc {α:Type 1} (s:St S) (k:St S→α):α:=fh s.t fun t=>dB s.o fun o=>fN s.n fun n=>k ⟨t,o,n,s.sz⟩
theorem St.FH {α:Type 1} (s:St S) (k:St S→α):s.fc k=k s:=by
 unfold St.fc;rw [Up,Nt,LV]
def M5 {α:Type 1} (s:St S) (c:Bw S) (ps:PS S) (dst:Option Tmp) (y:c.rs.D S) (k:St S→α) (fail:α):α:=
 match dD ps.m c.bn s.n with
 | true=>match c.rs.enc y (Gl c.bn c.rs) with
  | (rs',o',n')=>match St.put { s with o:=DX (BZ c.bn ps.m s.n) o'++ps.o,n:=s.n+(n' -c.bn) } dst (Ap (CJ (BZ c.bn ps.m s.n) rs')) with
  | some s'=>s'.fc k
  | none=>fail
 | false=>fail
mutual
def SV.JY (j n:Nat):SV→SV
 | .tr i=>match Nat.beq i j with
  | true=>.h n
  | false=>.tr i
 | .agg cs=>.agg (RL j n cs)
 | .F6 cs=>.F6 (RL j n cs)
 | .v x=>.v x
 | .b c=>.b c
 | .ptr i off=>.ptr i off
 | .row i m=>.row i m
 | .ep i z e off=>.ep i z e off
 | .view i off len cap=>.view i off len cap
 | .Bt i=>.Bt i
 | .mk i e=>.mk i e
 | .hm i=>.hm i
 | .h i=>.h i
 | .vp i off=>.vp i off
 | .ap i m e off=>.ap i m e off
 | .pr i z e off=>.pr i z e off
 | .pp i z e off y j q=>.pp i z e off y j q
 | .fn f cs=>.fn f cs
def RL (j n:Nat):List SV→List SV
 | []=>[]
 | x::r=>x.JY j n::RL j n r
end
def VH (j n:Nat):List (Nat×SV)→List (Nat×SV)
 | []=>[]
 | (t,x)::r=>(t,x.JY j n)::VH j n r
def Own.JY (j n:Nat):Own S→Own S
 | .AN T cs=>.AN T (RL j n cs)
 | b=>b
def Ta (j n:Nat):List (Nat×Own S)→List (Nat×Own S)
 | []=>[]
 | (i,b)::r=>(i,b.JY j n)::Ta j n r
def St.JY (s:St S) (j:Nat):St S:=match lk s.o j with
 | some (.tr τ _ l)=>⟨VH j s.n s.t,(s.n,.sl τ l)::Ta j s.n (rm s.o j),s.n+1,s.sz⟩
 | _=>s
def FB:St S→List Nat→St S
 | s,[]=>s
 | s,j::r=>FB (s.JY j) r
def T7:List SV→List Nat
 | []=>[]
 | .tr j::r=>j::T7 r
 | _::r=>T7 r
def Rv:List SV→List Nat
 | []=>[]
 | .tr j::r=>j::Rv r
 | .agg cs::r=>T7 cs++Rv r
 | _::r=>Rv r
def T8:List SV→List Nat
 | []=>[]
 | .agg cs::r=>T7 cs++T8 r
 | _::r=>T8 r
def cr:List (Nat×SV)→List Nat
 | []=>[]
 | (_,.tr j)::r=>j::cr r
 | _::r=>cr r
def Ov (tb:List (Nat×TI)):List (Nat×Own S)→List Nat
 | []=>[]
 | (_,.AN T cs)::r=>match T7 cs with
  | []=>Ov tb r
  | l=>match lk tb T with
   | some t=>match t.τ,t.d with
    | some _,.struct _=>l++Ov tb r
    | _,_=>Ov tb r
   | none=>Ov tb r
 | _::r=>Ov tb r
def Yg (tb:List (Nat×TI)) (s:St S) (q:Hw):List Nat:=match Dq 9000000 q.HL with
 | true=>Ov tb s.o++cr s.t
 | false=>Ov tb s.o
def MX (E:Env S) (c:Nat) (k:List BV) (s:St S) (L:List Nat) (fail:Tr E.ι E.ρ):Tr E.ι E.ρ:=
 match h:lk E.Ct c with
 | some q=>match Yp k q.key with
  | true=>match FZ (FB s L) q.ts with
   | some vs'=>match q.sp.parse true vs' (FB s L).o (PX E.bn) q.bn with
    | some (x,_)=>.cut c (Dr E c q h x)
    | none=>fail
   | none=>fail
  | false=>.stuck (3000+c)
 | none=>.stuck 1
def Ot (E:Env S) (c:Nat) (k:List BV) (s:St S):Tr E.ι E.ρ:=
 match lk E.Ct c with
 | some q=>match FZ s q.ts with
  | some vs=>MX E c k s [] (MX E c k s (T8 vs) (MX E c k s (T8 vs++Ov E.tb s.o) (.stuck (1000+c))))
  | none=>.stuck (2000+c)
 | none=>.stuck 1
def QL (E:Env S) (c:Nat) (k:List BV) (s:St S):Tr E.ι E.ρ:=
 match lk E.Ct c with
 | some q=>match Yp k q.key with
  | true=>Ot E c k s
  | false=>Ot E (c+100000) k s
 | none=>.stuck 1
def du (E:Env S) (c:Nat):Bool:=match lk E.Ct c with
 | some _=>true
 | none=>false
def MY (E:Env S) (s:St S) (L:List Nat) (fail:Tr E.ι E.ρ):Tr E.ι E.ρ:=
 match KU E.tb (FB s L) E.res with
 | some vs'=>match E.rs.parse true vs' (FB s L).o (PX E.bn) (Gl E.bn E.rs) with
  | some (y,_)=>.ret y
  | none=>fail
 | none=>fail
def QM (E:Env S) (s:St S):Tr E.ι E.ρ:=
 match KU E.tb s E.res with
 | some vs=>MY E s [] (MY E s (T8 vs) (MY E s (T8 vs++Ov E.tb s.o) (.stuck 2)))
 | none=>.stuck 3
def Wm (tb:List (Nat×TI)):Own S→List Nat
 | .row E _ _ cs=>match lk tb E with
  | some t=>match t.τ with
   | some _=>T7 cs
   | none=>[]
  | none=>[]
 | _=>[]
def tmpsOf:List Operand→List Nat
 | []=>[]
 | .tmp t::r=>t::tmpsOf r
 | _::r=>tmpsOf r
def Ro:List (Nat×Operand)→List Operand
 | []=>[]
 | x::r=>x.2::Ro r
def YI:Option Operand→List Operand
 | none=>[]
 | some x=>[x]
def eO:Op→List Operand
 | .move x=>[x]
 | .assign x=>[x]
 | .box _ x=>[x]
 | .load _ x=>[x]
 | .store _ x y=>[x,y]
 | .nilCheck x=>[x]
 | .unOp _ _ x=>[x]
 | .convert _ _ x=>[x]
 | .fieldAddr _ x _=>[x]
 | .field _ x _=>[x]
 | .extract x _=>[x]
 | .pick c x y=>[c,x,y]
 | .binOp _ _ x y _=>[x,y]
 | .indexAddr _ x y=>[x,y]
 | .index _ x y=>[x,y]
 | .lookup _ x y _=>[x,y]
 | .build _ ⟨ps⟩=>Ro ps
 | .buildSlice _ _ ⟨ps⟩=>Ro ps
 | .makeFunc _ _ ⟨c⟩=>c
 | .slice _ x l h _=>x::(YI l++YI h)
 | .call ⟨.value f,⟨args⟩,_⟩=>f::args
 | .call ⟨_,⟨args⟩,_⟩=>args
 | .makeSlice _ x y=>[x,y]
 | .makeMap _ x=>YI x
 | .mapUpdate _ x y z=>[x,y,z]
 | .insert _ x y z=>[x,y,z]
 | _=>[]
def VJ (all:Array Oper) (o:Oper):List Nat:=
 match o.guard with
 | none=>[]
 | some (j,_)=>match nth all.toList j with
  | some q=>match q.dst with
   | some d=>[d]
   | none=>[]
  | none=>[]
def KI (all:Array Oper) (o:Oper):List Nat:=VJ all o++tmpsOf (eO o.op)
structure Rec (S:Aj) where
 i:Nat
 o:Oper
 pu:Bool
 o1:List (Nat×Own S)
 n1:Nat
 n2:Nat
 x:SV
 cn:List Nat
 gb:List (Nat×Own S)
 tk:Bool
def pick {α:Type}:List Nat→List (Nat×α)→List (Nat×α)
 | [],_=>[]
 | u::r,t=>match lk t u with
  | some x=>(u,x)::pick r t
  | none=>pick r t
def GW:List (Nat×SV)→List (Rec S)→List (Nat×SV)
 | t,[]=>t
 | t,r::rs=>match r.o.dst with
  | none=>GW t rs
  | some d=>GW (pt t d r.x) rs
def QX:List Nat→List (Nat×Own S)→List (Nat×Own S)
 | [],o=>o
 | j::c,o=>rm (QX c o) j
def gT:Own S→Bool
 | .tr _ _ _=>true
 | .mp _ _ _ _=>true
 | .mr _ _ _ _ _=>true
 | .dp _ _ _=>true
 | _=>false
def dx:Own S→Bool
 | .tr _ _ _=>true
 | _=>false
def M3:Op→Bool
 | .call _=>true
 | .makeMap _ _=>true
 | _=>false
def QO (u:Nat) (o:List (Nat×Own S)):Bool:=match lk o u with
 | some b=>gT b
 | none=>false
def HA (u:Nat):List (Rec S)→Bool
 | []=>false
 | r::rs=>match M3 r.o.op with
  | true=>match QO u r.o1 with
   | true=>true
   | false=>HA u rs
  | false=>HA u rs
def Hz (f:Nat→Bool):List (Nat×Own S)→List (Nat×Own S)
 | []=>[]
 | (i,b)::r=>match f i with
  | true=>Hz f r
  | false=>(i,b)::Hz f r
def NV (fl:Bool) (hid:List Nat) (rs:List (Rec S)) (o:List (Nat×Own S)):List (Nat×Own S):=match fl with
 | true=>QX hid (Hz (fun u=>HA u rs) o)
 | false=>o
def oC (L:Nat→Bool) (o:List (Nat×Own S)):List (Rec S)→List (Nat×Own S)
 | []=>o
 | r::rs=>match L r.i with
  | true=>oC L (r.gb++(r.o1++QX r.cn o)) rs
  | false=>oC L o rs
def Ay:Nat→List (Rec S)→Nat
 | n,[]=>n
 | _,r::rs=>Ay r.n2 rs
def ZZ (m i:Nat):Bool:=Nat.beq (Nat.land 1 (Nat.shiftRight m i)) 1
def B7 (ms:List Nat) (j i:Nat):Bool:=match nth ms j with
 | some m=>ZZ m i
 | none=>false
def behind (s:St S) (rs:List (Rec S)):St S:=⟨GW s.t rs,oC (fun _=>true) s.o rs,Ay s.n rs,s.sz⟩
def seenAt (fl:Bool) (hid:List Nat) (s:St S) (all:Array Oper) (ms:List Nat) (rs:List (Rec S)) (i:Nat) (o:Oper) (pu:Bool):St S:=
 ⟨pick (KI all o) (GW s.t rs),match pu with|true=>[]|false=>NV fl hid rs (oC (B7 ms i) s.o rs),Ay s.n rs,s.sz⟩
def gS:List Oper→Nat→Bool
 | [],_=>false
 | o::r,i=>match o.guard with
  | some (j,_)=>match Nat.beq j i with
   | true=>true
   | false=>gS r i
  | none=>gS r i
def D8 (d:Option Tmp) (sz:Nat):Bool:=match d with
 | none=>true
 | some d=>Nat.ble (d+1) sz
def CE (n1 n2:Nat):List (Nat×Own S)→Bool
 | []=>Nat.ble n1 n2
 | (i,_)::r=>match Nat.ble n1 i,Nat.ble (i+1) n2 with
  | true,true=>CE n1 n2 r
  | _,_=>false
def CP:List CW→Bool
 | []=>true
 | .fd _::r=>CP r
 | .st _::r=>CP r
 | .fn _ []::r=>CP r
 | _::_=>false
def Spec.Pj (q:Spec):Bool:=match q.bx with
 | []=>CP q.as
 | _::_=>false
def Rec.fc {α:Type 1} (r:Rec S) (k:Rec S→α):α:=dB r.o1 fun o1=>fN r.n1 fun n1=>fN r.n2 fun n2=>r.x.fc fun x=>fg r.cn fun cn=>dB r.gb fun gb=>k ⟨r.i,r.o,r.pu,o1,n1,n2,x,cn,gb,r.tk⟩
theorem Rec.FH {α:Type 1} (r:Rec S) (k:Rec S→α):r.fc k=k r:=by
 unfold Rec.fc;rw [Nt,LV,LV,SV.FH,Uo,Nt]
def UP {ι:Nat→Type} {ρ:Type} (all:Array Oper) (k:Rec S→Tr ι ρ) (r:Rec S):Tr ι ρ:=
 match r.x with
 | .b c=>match gS all.toList r.i with
  | true=>.ite c (k { r with x:=.v (.bool true) }) (k { r with x:=.v (.bool false) })
  | false=>k r
 | _=>k r
def EW {ι:Nat→Type} {ρ:Type} (all:Array Oper) (r:Rec S) (k:Rec S→Tr ι ρ):Tr ι ρ:=r.fc (UP all k)
def recC {ι:Nat→Type} {ρ:Type} (st:St S) (i:Nat) (o:Oper) (c:Bw S) (ps:PS S) (y:c.rs.D S) (k:Rec S→Tr ι ρ):Tr ι ρ:=
 match c.rs.enc y (Gl c.bn c.rs) with
 | (rs',o',n')=>match CE st.n (st.n+(n' -c.bn)) (DX (BZ c.bn ps.m st.n) o') with
  | true=>k ⟨i,o,false,DX (BZ c.bn ps.m st.n) o',st.n,st.n+(n' -c.bn),Ap (CJ (BZ c.bn ps.m st.n) rs'),[],[],false⟩
  | false=>.stuck 46
def WX {ι:Nat→Type} {ρ:Type} (tb:List (Nat×TI)) (st:St S) (i:Nat) (o:Oper) (fail:Tr ι ρ) (k:Rec S→Tr ι ρ):Tr ι ρ:=match o.op with
 | .slice T x lo hi none=>match ev st x with
  | some (.h _)=>match GF tb st T x lo hi with
   | .nm c o1 n' v=>match CE st.n n' o1 with
    | true=>KL c (k ⟨i,o,true,o1,st.n,n',v,[],[],false⟩)
    | false=>fail
   | _=>fail
  | _=>fail
 | _=>fail
inductive Zo (S:Aj) where
 | b0 (e:Nat)
 | a0 (j:Nat) (b:Bool) (c:Option Bool) (o1:List (Nat×Own S)) (n':Nat) (v:SV)
 | no
def zeroOf (tb:List (Nat×TI)) (pu:Bool) (all:List Oper) (st:St S) (o:Oper):Zo S:=match pu with
 | true=>.no
 | false=>match VP tb all o with
  | some e=>.b0 e
  | none=>match TL tb st o.op with
   | some (j,b,.nm c o1 n' v)=>.a0 j b c o1 n' v
   | _=>.no
theorem UC {tb:List (Nat×TI)} {pu:Bool} {all:List Oper} {st:St S} {o:Oper} {e:Nat} (h:zeroOf tb pu all st o=.b0 e):pu=false∧VP tb all o=some e:=by
 unfold zeroOf at h
 split at h
 ·cases h
 ·split at h
  ·rename_i he;cases h;exact ⟨rfl,he⟩
  ·split at h<;>cases h
theorem UB {tb:List (Nat×TI)} {pu:Bool} {all:List Oper} {st:St S} {o:Oper} {j:Nat} {b:Bool} {c:Option Bool} {o1:List (Nat×Own S)} {n':Nat} {v:SV} (h:zeroOf tb pu all st o=.a0 j b c o1 n' v):pu=false∧TL tb st o.op=some (j,b,.nm c o1 n' v):=by
 unfold zeroOf at h
 split at h
 ·cases h
 ·split at h
  ·cases h
  ·split at h
   ·rename_i he;cases h;exact ⟨rfl,he⟩
   ·cases h
def RW (t:Nat):List Oper→Bool
 | []=>false
 | o::r=>match o.op,o.dst with
  | .buildSlice _ 0 _,some d=>match Nat.beq d t with
   | true=>true
   | false=>RW t r
  | _,_=>RW t r
def BC (s:St S) (all:Array Oper) (ms:List Nat) (rs:List (Rec S)) (i:Nat) (o:Oper):St S:=
 ⟨pick (KI all o) (GW s.t rs),oC (B7 ms i) s.o rs,Ay s.n rs,s.sz⟩
def SW (f:Nat→Bool):List (Nat×Own S)→Bool
 | []=>true
 | (i,_)::r=>match f i with
  | true=>SW f r
  | false=>false
def L5 (f:Nat→Bool):List Nat→Bool
 | []=>true
 | i::r=>match f i with
  | true=>L5 f r
  | false=>false
def Mu:List Nat→Bool
 | []=>false
 | _::_=>true
def UX (own:Bool) (ms:List Nat) (i:Nat):List (Rec S)→Bool
 | []=>true
 | r::rs=>match Mu r.cn || (own && r.tk) with
  | false=>UX own ms i rs
  | true=>match B7 ms i r.i with
   | true=>UX own ms i rs
   | false=>false
def FP (m:Nat) (hid:List Nat) (ms:List Nat) (i n:Nat) (rs:List (Rec S)) (cn:List Nat) (gb:List (Nat×Own S)):Bool:=
 L5 (fun j=>(Dq j hid || HA j rs) && Nat.ble (j+1) n) cn && SW (fun j=>Dq j cn && Nat.ble (j+1) m) gb && UX (Mu cn) ms i rs
def TU (m:Nat) (hid:List Nat) (n:Nat) (ms:List Nat) (i:Nat) (rs:List (Rec S)) (cn:List Nat) (c:Option Bool) (ow:Own S):Option (List Nat×Option Bool×Own S):=match FP m hid ms i n rs cn [] with
 | true=>some (cn,c,ow)
 | false=>none
def SF (m:Nat) (fl:Bool) (hid:List Nat) (tb:List (Nat×TI)) (st:St S) (ms:List Nat) (i:Nat) (rs:List (Rec S)) (pu:Bool) (op:Op):Option (List Nat×Option Bool×Own S):=
 match fl,pu with
 | true,false=>match op with
  | .call ⟨.builtin .append,⟨[x,y]⟩,⟨[T,T']⟩⟩=>match Nat.beq T' T,ev st x with
   | true,some (.tr j)=>match O5 tb st T x y with
    | .x c ((_,ow)::_) _ _=>TU m hid st.n ms i rs [j] c ow
    | _=>match C7 tb T,ev st y,lk st.o j with
     | some (.slice e _),some (.row k 1),some (.mr κ τ ag E ls)=>match lk tb e,lk st.o k with
      | some te,some (.row E'' 1 1 [.Bt u])=>match lk st.o u,Nat.beq j u,Nat.beq E'' e with
       | some (.mp κ' τ' ag' l),false,true=>match Nat.beq te.sz 1,Nat.beq E e,Ge ag' ag,Nat.decEq τ' τ,TW κ' κ with
        | true,true,true,.isTrue h,some ⟨h'⟩=>TU m hid st.n ms i rs [j,u] (some (room te.bs (ls.length+1))) (.mr κ τ ag E (ls++[(h▸h'▸l:List (κ.T S.T×S.T τ))]))
        | _,_,_,_,_=>none
       | _,_,_=>none
      | _,_=>none
     | _,_,_=>none
   | _,_=>none
  | .buildSlice T n ⟨[(0,x)]⟩=>match Nat.beq n 1,ev st x with
   | true,some (.Bt j)=>match V7 tb st T 1 [(0,x)] with
    | .x c ((_,ow)::_) _ _=>TU m hid st.n ms i rs [j] c ow
    | _=>none
   | _,_=>none
  | .slice T x none hi none=>match C7 tb T,ev st x with
   | some (.slice _ _),some (.tr j)=>match lk st.o j with
    | some (.mr κ τ ag E ls)=>match Hg st ls.length hi with
     | some h=>TU m hid st.n ms i rs [j] (some (decide (0≤h∧h≤ls.length))) (.mr κ τ ag E (ls.take h.toNat))
     | none=>none
    | _=>none
   | _,_=>none
  | _=>none
 | _,_=>none
def W7 (m:Nat) (fl:Bool) (hid:List Nat) (tb:List (Nat×TI)) (st:St S) (ms:List Nat) (i:Nat) (rs:List (Rec S)) (pu:Bool) (op:Op):Option (Nat×Own S):=
 match fl,pu with
 | true,false=>match op with
  | .store T x y=>match ev st x with
   | some (.ptr j _)=>match Dq j hid,lk st.o j with
    | true,some (.AN _ _)=>match HS tb st T x y with
     | .QY none j' b=>match Nat.beq j' j,FP m hid ms i st.n rs [j] [(j,b)] with
      | true,true=>some (j,b)
      | _,_=>none
     | _=>none
    | _,_=>none
   | _=>none
  | _=>none
 | _,_=>none
def G2 (o':List (Nat×Own S)):List (Nat×Own S)→List Nat
 | []=>[]
 | (i,_)::r=>match lk o' i with
  | some _=>G2 o' r
  | none=>i::G2 o' r
def EX (n:Nat):List (Nat×Own S)→List (Nat×Own S)
 | []=>[]
 | (i,b)::r=>match Nat.ble (i+1) n with
  | true=>(i,b)::EX n r
  | false=>EX n r
def FW (n:Nat):List (Nat×Own S)→List (Nat×Own S)
 | []=>[]
 | (i,b)::r=>match Nat.ble (i+1) n with
  | true=>FW n r
  | false=>(i,b)::FW n r
def gR (o:List (Nat×Own S)) (j:Nat):Bool:=match lk o j with
 | some _=>true
 | none=>false
def WH (m:List (Nat×Nat)) (bn:Nat) (o:List (Nat×Own S)):Bool:=match Ma m bn with
 | some l=>L5 (gR o) l
 | none=>false
def Ol:List SV→List SV→Bool
 | [],[]=>true
 | .ptr i k::r,.ptr i' k'::r'=>match Nat.beq i i',Nat.beq k k' with
  | true,true=>Ol r r'
  | _,_=>false
 | _,_=>false
def Wu:Own S→Own S→Bool
 | .AN T cs,.AN T' cs'=>match Nat.beq T T' with
  | true=>Ol cs cs'
  | false=>false
 | _,_=>false
def PZ (o g:List (Nat×Own S)) (u:Nat):Bool:=match lk g u,lk o u with
 | some b,some b'=>Wu b b'
 | _,_=>false
def JT (f:Nat→Bool):List Nat→List Nat
 | []=>[]
 | i::r=>match f i with
  | true=>JT f r
  | false=>i::JT f r
def Lc (po o g:List (Nat×Own S)):List Nat:=JT (PZ o g) (G2 po o)
def Iq (o g:List (Nat×Own S)):List (Nat×Own S):=Hz (PZ o g) g
def QK {ι:Nat→Type} {ρ:Type} (m:Nat) (hid:List Nat) (ms:List Nat) (rs:List (Rec S)) (st:St S) (i:Nat) (o:Oper) (c:Bw S) (ps:PS S) (y:c.rs.D S) (k:Rec S→Tr ι ρ):Tr ι ρ:=
 match c.rs.enc y (Gl c.bn c.rs) with
 | (rs',o',n')=>match WH ps.m c.bn st.o,CE st.n (st.n+(n' -c.bn)) (FW st.n (DX (BZ c.bn ps.m st.n) o')),FP m hid ms i st.n rs (Lc ps.o st.o (EX st.n (DX (BZ c.bn ps.m st.n) o'))) (Iq st.o (EX st.n (DX (BZ c.bn ps.m st.n) o'))) with
  | true,true,true=>k ⟨i,o,false,FW st.n (DX (BZ c.bn ps.m st.n) o'),st.n,st.n+(n' -c.bn),Ap (CJ (BZ c.bn ps.m st.n) rs'),Lc ps.o st.o (EX st.n (DX (BZ c.bn ps.m st.n) o')),Iq st.o (EX st.n (DX (BZ c.bn ps.m st.n) o')),true⟩
  | _,_,_=>.stuck 55
def Rs:SV→SV→Bool
 | .ptr a b,.ptr a' b'=>match Nat.beq a a',Nat.beq b b' with
  | true,true=>true
  | _,_=>false
 | .Bt a,.Bt a'=>Nat.beq a a'
 | _,_=>false
def bH (r:R S) (x:SV):Bool:=match r with
 | .val none y=>Rs x y
 | _=>false
def NF (tb:List (Nat×TI)) (T off:Nat) (x:SV):Own S→Bool
 | .AN _ cs=>match lk tb T with
  | some t=>bH (S:=S) (ld t cs off) x
  | none=>false
 | _=>false
def QI (tb:List (Nat×TI)) (T off:Nat) (x:SV) (j:Nat):List (Rec S)→Bool
 | []=>true
 | r::rs=>match Dq j r.cn with
  | false=>QI tb T off x j rs
  | true=>match lk r.gb j with
   | some o=>match NF tb T off x o with
    | true=>QI tb T off x j rs
    | false=>false
   | none=>false
def Rt (s:St S) (tb:List (Nat×TI)) (st:St S) (rs:List (Rec S)):Op→Option SV
 | .load T x=>match ev st x with
  | some (.ptr j off)=>match lk s.o j with
   | some (.AN U cs)=>match cs[off]? with
    | some v=>match NF (S:=S) tb T off v (.AN U cs),QI tb T off v j rs with
     | true,true=>some v
     | _,_=>none
    | _=>none
   | _=>none
  | _=>none
 | _=>none
def Ui (all:List Oper):List (Nat×Bool)→Bool
 | []=>false
 | (_,true)::r=>Ui all r
 | (i,false)::r=>match nth all i with
  | some o=>match o.op with
   | .call ⟨.builtin .append,⟨[.tmp t,_]⟩,_⟩=>match RW t all with
    | true=>Ui all r
    | false=>true
   | _=>Ui all r
  | none=>Ui all r
def CN {ι:Nat→Type} {ρ:Type} (fl:Bool) (hid:List Nat) (tb:List (Nat×TI)) (ct:List (Bw S)) (s:St S) (all:Array Oper) (ms:List Nat) (fin:List (Rec S)→Tr ι ρ):List (Nat×Bool)→List (Rec S)→Tr ι ρ
 | [],rs=>fin rs
 | (i,pu)::t,rs=>match nth all.toList i with
  | none=>.stuck 40
  | some o=>match D8 o.dst s.sz with
   | false=>.stuck 41
   | true=>match Bq (seenAt fl hid s all ms rs i o pu) all o with
    | .no=>CN fl hid tb ct s all ms fin t (rs++[⟨i,o,pu,[],Ay s.n rs,Ay s.n rs,.v (.tuple #[]),[],[],false⟩])
    | .yes=>match zeroOf tb pu all.toList (seenAt fl hid s all ms rs i o false) o with
     | .b0 e=>EW all ⟨i,o,false,[(Ay s.n rs,.AN e [])],Ay s.n rs,Ay s.n rs+1,.view (Ay s.n rs) 0 0 0,[],[],false⟩ fun r=>CN fl hid tb ct s all ms fin t (rs++[r])
     | .a0 j b c o1 n' v=>match CE (Ay s.n rs) n' o1 with
      | true=>KL c (.ite b (EW all ⟨i,o,false,[],Ay s.n rs,Ay s.n rs,.view j 0 0 0,[],[],false⟩ fun r=>CN fl hid tb ct s all ms fin t (rs++[r])) (EW all ⟨i,o,false,o1,Ay s.n rs,n',v,[],[],false⟩ fun r=>CN fl hid tb ct s all ms fin t (rs++[r])))
      | false=>.stuck 49
     | .no=>match SF s.n fl hid tb (BC s all ms rs i o) ms i rs pu o.op with
      | some (cn,c,ow)=>KL c (CN fl hid tb ct s all ms fin t (rs++[⟨i,o,false,[(Ay s.n rs,ow)],Ay s.n rs,Ay s.n rs+1,.tr (Ay s.n rs),cn,[],true⟩]))
      | none=>match W7 s.n fl hid tb (BC s all ms rs i o) ms i rs pu o.op with
      | some (j,b)=>CN fl hid tb ct s all ms fin t (rs++[⟨i,o,false,[],Ay s.n rs,Ay s.n rs,.v (.tuple #[]),[j],[(j,b)],true⟩])
      | none=>match callee (seenAt fl hid s all ms rs i o pu) o.op with
      | some (f,args)=>match pu with
       | true=>.stuck 42
       | false=>QP f args (NV fl hid rs (oC (B7 ms i) s.o rs)) (fun c x ps=>match c.sp.Pj,Nat.beq c.bn 0 with
        | true,true=>match c.out with
         | .dG g=>recC (seenAt fl hid s all ms rs i o false) i o c ps (g x) fun r=>EW all r fun r=>CN fl hid tb ct s all ms fin t (rs++[r])
         | .pre p g=>.XF (p x) (recC (seenAt fl hid s all ms rs i o false) i o c ps (g x) fun r=>EW all r fun r=>CN fl hid tb ct s all ms fin t (rs++[r]))
         | .opt m=>.Hg (m x) fun y=>recC (seenAt fl hid s all ms rs i o false) i o c ps y fun r=>EW all r fun r=>CN fl hid tb ct s all ms fin t (rs++[r])
        | _,_=>.stuck 43) (match fl with
        | false=>.stuck (10000+f)
        | true=>QP f args (oC (B7 ms i) s.o rs) (fun c x ps=>match c.out with
         | .dG g=>QK s.n hid ms rs (BC s all ms rs i o) i o c ps (g x) fun r=>EW all r fun r=>CN fl hid tb ct s all ms fin t (rs++[r])
         | .pre p g=>.XF (p x) (QK s.n hid ms rs (BC s all ms rs i o) i o c ps (g x) fun r=>EW all r fun r=>CN fl hid tb ct s all ms fin t (rs++[r]))
         | .opt m=>.Hg (m x) fun y=>QK s.n hid ms rs (BC s all ms rs i o) i o c ps y fun r=>EW all r fun r=>CN fl hid tb ct s all ms fin t (rs++[r])) (.stuck (10000+f)) ct) ct
      | none=>match evalOp tb (seenAt fl hid s all ms rs i o pu) o.op with
       | .val c x=>KL c (EW all ⟨i,o,pu,[],Ay s.n rs,Ay s.n rs,x,[],[],false⟩ fun r=>CN fl hid tb ct s all ms fin t (rs++[r]))
       | .new b=>match pu with
        | true=>.stuck 44
        | false=>EW all ⟨i,o,false,[(Ay s.n rs,b)],Ay s.n rs,Ay s.n rs+1,Gb b (Ay s.n rs),[],[],false⟩ fun r=>CN fl hid tb ct s all ms fin t (rs++[r])
       | .nm c o1 n' v=>match pu,CE (Ay s.n rs) n' o1 with
        | false,true=>KL c (EW all ⟨i,o,false,o1,Ay s.n rs,n',v,[],[],false⟩ fun r=>CN fl hid tb ct s all ms fin t (rs++[r]))
        | _,_=>.stuck 45
       | .stop=>match pu with
        | true=>WX tb (seenAt fl hid s all ms rs i o false) i o (.stuck (200000000+1000*i+o.dst.getD 0)) fun r=>EW all r fun r=>CN fl hid tb ct s all ms fin t (rs++[r])
        | false=>match fl,FP s.n hid ms i (Ay s.n rs) rs [] [],evalOp tb (BC s all ms rs i o) o.op with
         | true,true,.val c x=>KL c (EW all ⟨i,o,false,[],Ay s.n rs,Ay s.n rs,x,[],[],true⟩ fun r=>CN fl hid tb ct s all ms fin t (rs++[r]))
         | true,true,.nm c o1 n' v=>match CE (Ay s.n rs) n' o1 with
          | true=>KL c (EW all ⟨i,o,false,o1,Ay s.n rs,n',v,[],[],true⟩ fun r=>CN fl hid tb ct s all ms fin t (rs++[r]))
          | false=>.stuck 56
         | _,_,_=>match fl,Rt s tb (BC s all ms rs i o) rs o.op with
          | true,some x=>EW all ⟨i,o,false,[],Ay s.n rs,Ay s.n rs,x,[],[],true⟩ fun r=>CN fl hid tb ct s all ms fin t (rs++[r])
          | _,_=>.stuck (200000000+1000*i+o.dst.getD 0)
       | _=>.stuck (200000000+1000*i+o.dst.getD 0)
    | .split _ _=>.stuck 47
    | .cu=>.stuck 48
def FO:List Nat→List Nat
 | []=>[]
 | i::r=>match Nat.ble 1000000 i with
  | true=>FO r
  | false=>i::FO r
def Xl:List Nat→List Nat
 | []=>[]
 | i::r=>match Nat.ble 1000000 i with
  | true=>(i -1000000)::Xl r
  | false=>Xl r
def Ou:List (Nat×Own S)→List Nat
 | []=>[]
 | (i,b)::r=>match dx b with
  | true=>i::Ou r
  | false=>Ou r
mutual
def S9:SV→List Nat
 | .v _=>[]
 | .b _=>[]
 | .ptr i _=>[i]
 | .row i _=>[i]
 | .tr i=>[i]
 | .ep i _ _ _=>[i]
 | .view i _ _ _=>[i]
 | .Bt i=>[i]
 | .mk i _=>[i]
 | .hm i=>[i]
 | .h i=>[i]
 | .vp i _=>[i]
 | .ap i _ _ _=>[i]
 | .pr i _ _ _=>[i]
 | .pp i _ _ _ _ _ _=>[i]
 | .agg cs=>F1 cs
 | .F6 cs=>F1 cs
 | .fn _ cs=>F1 cs
def F1:List SV→List Nat
 | []=>[]
 | x::r=>S9 x++F1 r
end
def MH (o:List (Nat×Own S)):Nat→List Nat→List Nat
 | 0,_=>[]
 | _+1,[]=>[]
 | f+1,i::r=>match lk o i with
  | some (.AN _ cs)=>i::(MH o f (F1 cs)++MH o f r)
  | some _=>i::MH o f r
  | none=>MH o f r
def He (t:List (Nat×SV)):List Nat→List Nat
 | []=>[]
 | u::r=>match lk t u with
  | some x=>S9 x++He t r
  | none=>He t r
def N2 (o:List (Nat×Own S)):List Nat→List Nat
 | []=>[]
 | i::r=>match lk o i with
  | some (.AN _ cs)=>F1 cs++N2 o r
  | _=>N2 o r
def Lg (o:List (Nat×Own S)) (t:List (Nat×SV)):List Nat→List Nat
 | []=>[]
 | u::r=>match Nat.ble 1000000 u with
  | true=>N2 o (He t [u -1000000])++Lg o t r
  | false=>He t [u]++Lg o t r
def iR:Bool→Bool→Bool
 | true,_=>true
 | false,b=>b
def eX:List Nat→Bool
 | []=>false
 | _::_=>true
def ah (all:List Oper) (q:Hw):Bool:=iR (eX (Xl q.HL)) (Ui all q.pre)
def Yz (s:St S) (all:List Oper) (q:Hw):List Nat:=match ah all q with
 | true=>Ou s.o++MH s.o 30 (Lg s.o s.t (Xl q.HL))
 | false=>[]
def KG (all:Array Oper):List Nat→List Oper
 | []=>[]
 | i::r=>match nth all.toList i with
  | some o=>o::KG all r
  | none=>KG all r
def A0:Nat→List SV→List (Nat×SV)
 | _,[]=>[]
 | i,x::r=>(i,x)::A0 (i+1) r
def SS:List Oper→Bool
 | []=>false
 | o::r=>match EY o with
  | true=>true
  | false=>SS r
def fS (s:St S):Op→List Nat
 | .mapUpdate _ _ _ v=>match ev s v with
  | some x=>Rv [x]
  | none=>[]
 | .insert _ _ _ v=>match ev s v with
  | some x=>Rv [x]
  | none=>[]
 | _=>[]
def exec {ι:Nat→Type} {ρ:Type} (E:Env S):Nat→Fr→(Nat→List BV→St S→Tr ι ρ)→(Bool→St S→Tr ι ρ)→Bool→List BV→St S→Tr ι ρ
 | 0,_,_,_,_,_,_=>.stuck 4
 | _+1,_,_,or',_,[],s=>or' false s
 | n+1,fr,oc,or',go,.ops _ []::k,s=>exec E n fr oc or' go k s
 | n+1,fr,oc,or',go,.ops all (o::r)::k,s=>match Bq s all o with
  | .cu=>.stuck 6
  | .split d c=>.ite c (exec E n fr oc or' go (.ops all (o::r)::k) { s with t:=pt s.t d (.v (.bool true)) }) (exec E n fr oc or' go (.ops all (o::r)::k) { s with t:=pt s.t d (.v (.bool false)) })
  | .no=>match s.put o.dst (.v (.tuple #[])) with
   | some s'=>exec E n fr oc or' go (.ops all r::k) s'
   | none=>.stuck 7
  | .yes=>match callee s o.op with
   | some (f,args)=>match lk E.inl f with
    | some q=>match Nat.ble args.length q.sz with
     | true=>exec E n ⟨false,q.dr⟩ (fun _ _ _=>.stuck 50) (fun _ s'=>match KU E.tb s' q.res with
      | some vs=>match St.put { s with o:=s'.o,n:=s'.n } o.dst (Ap vs) with
       | some s''=>exec E n fr oc or' go (.ops all r::k) s''
       | none=>.stuck 51
      | none=>.stuck 52) false [.code [] q.body] ⟨A0 0 args,s.o,s.n,q.sz⟩
     | false=>.stuck 53
    | none=>QP f args s.o (fun c x ps=>match c.out with
     | .dG g=>M5 s c ps o.dst (g x) (fun s'=>exec E n fr oc or' go (.ops all r::k) s') (.stuck 8)
     | .pre p g=>.XF (p x) (M5 s c ps o.dst (g x) (fun s'=>exec E n fr oc or' go (.ops all r::k) s') (.stuck 8))
     | .opt m=>.Hg (m x) fun y=>M5 s c ps o.dst y (fun s'=>exec E n fr oc or' go (.ops all r::k) s') (.stuck 8)) (match Rv args with
      | []=>.stuck (10000+f)
      | l=>exec E n fr oc or' go (.ops all (o::r)::k) (FB s l)) E.ct
   | none=>match evalOp E.tb s o.op with
    | .val c x=>match s.put o.dst x with
     | some s'=>KL c (exec E n fr oc or' go (.ops all r::k) s')
     | none=>.stuck 9
    | .new b=>match Wm E.tb b with
     | []=>match St.put { s with o:=(s.n,b)::s.o,n:=s.n+1 } o.dst (Gb b s.n) with
      | some s'=>exec E n fr oc or' go (.ops all r::k) s'
      | none=>.stuck 9
     | j::l=>exec E n fr oc or' go (.ops all (o::r)::k) (FB s (j::l))
    | .QY c i b=>match St.put { s with o:=pt s.o i b } o.dst (.v (.tuple #[])) with
     | some s'=>KL c (exec E n fr oc or' go (.ops all r::k) s')
     | none=>.stuck 9
    | .nm c o1 n' v=>match St.put { s with o:=o1++s.o,n:=n' } o.dst v with
     | some s'=>KL c (exec E n fr oc or' go (.ops all r::k) s')
     | none=>.stuck 9
    | .x c o' n' v=>match St.put { s with o:=o',n:=n' } o.dst v with
     | some s'=>KL c (exec E n fr oc or' go (.ops all r::k) s')
     | none=>.stuck 9
    | .stop=>match fS s o.op with
     | []=>.stuck (100000000+1000*r.length+o.dst.getD 0)
     | j::l=>exec E n fr oc or' go (.ops all (o::r)::k) (FB s (j::l))
 | n+1,fr,oc,or',go,.AN _::k,s=>exec E n fr oc or' go k s
 | n+1,fr,oc,or',go,.sc _ _::k,s=>exec E n fr oc or' go k s
 | n+1,fr,oc,or',go,.again a c::k,s=>exec E n fr oc or' go (.code a c::.again a c::k) s
 | n+1,fr,oc,or',go,.code a (.seq x y)::k,s=>exec E n fr oc or' go (.code (0::a) x::.code (1::a) y::k) s
 | n+1,fr,oc,or',go,.code _ .skip::k,s=>exec E n fr oc or' go k s
 | n+1,fr,oc,or',go,.code _ (.label _)::k,s=>exec E n fr oc or' go k s
 | n+1,fr,oc,or',go,.code a (.block id x)::k,s=>exec E n fr oc or' go (.code (0::a) x::.AN id::k) s
 | n+1,fr,oc,or',go,.code a (.scope x)::k,s=>exec E n fr oc or' go (.code (0::a) x::.sc (0::a) x::k) s
 | n+1,fr,oc,or',go,.code a (.loop x)::k,s=>exec E n fr oc or' go (.again (0::a) x::k) s
 | n+1,fr,oc,or',go,.code a (.region id ops d)::k,s=>match (match go with|true=>false|false=>match fr.main with|true=>du E id|false=>false) with
  | true=>oc id (.code a (.region id ops d)::k) s
  | false=>match SS ops.toList with
   | true=>oc 999998 (.code a (.region id ops d)::k) s
   | false=>match d with
   | false=>exec E n fr oc or' false (.ops ops ops.toList::k) s
   | true=>match lk fr.dr id with
    | some q=>match q.fz with
     | false=>CN (ah ops.toList q) (Yz s ops.toList q) E.tb E.ct s ops q.ms (fun rs=>(behind s rs).fc fun s1=>exec E n fr oc or' false (.ops ops (KG ops (FO q.HL))::k) s1) q.pre []
     | true=>CN (ah ops.toList q) (Yz (FB s (Yg E.tb s q)) ops.toList q) E.tb E.ct (FB s (Yg E.tb s q)) ops q.ms (fun rs=>(behind (FB s (Yg E.tb s q)) rs).fc fun s1=>exec E n fr oc or' false (.ops ops (KG ops (FO q.HL))::k) s1) q.pre []
    | none=>.stuck (30000+id)
 | n+1,fr,oc,or',go,.code _ (.exit id)::k,s=>match Fl id k with
  | some k'=>exec E n fr oc or' go k' s
  | none=>.stuck 10
 | n+1,fr,oc,or',go,.code _ (.goto l)::k,s=>match Fo l k with
  | some k'=>exec E n fr oc or' go k' s
  | none=>.stuck 11
 | n+1,fr,oc,or',go,.code a (.cond x t e)::k,s=>match ev s x with
  | some (.v (.bool true))=>exec E n fr oc or' go (.code (0::a) t::k) s
  | some (.v (.bool false))=>exec E n fr oc or' go (.code (1::a) e::k) s
  | some (.b c)=>.ite c (exec E n fr oc or' go (.code (0::a) t::k) s) (exec E n fr oc or' go (.code (1::a) e::k) s)
  | _=>.stuck 12
 | _+1,fr,oc,or',_,.code _ .ret::_,s=>or' true s
 | _+1,fr,oc,or',_,.code a (.rangeFunc g ps x y)::k,s=>oc 999999 (.code a (.rangeFunc g ps x y)::k) s
 | _+1,fr,oc,or',_,.code _ (.refuse _)::_,_=>.stuck 14
def IU (E:Env S) (n:Nat) (q:Cut) (x:q.sp.D S):Tr E.ι E.ρ:=
 match Cw E.body q.key with
 | some k=>match q.sp.enc x q.bn with
  | (vs,o,m)=>exec E n ⟨true,E.dr⟩ (QL E) (fun _=>QM E) true k ⟨q.ts.zip vs,o,m,E.sz⟩
 | none=>.stuck 15
def IT (E:Env S) (n:Nat) (sp:Spec) (x:sp.D S):Tr E.ι E.ρ:=
 match sp.enc x E.bn with
 | (vs,o,m)=>exec E n ⟨true,E.dr⟩ (QL E) (fun _=>QM E) false [.code [] E.body] ⟨A0 0 vs,o,m,E.sz⟩
end
end Go.En
