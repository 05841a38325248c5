/-
 The evaluation of one operation in a state (evalOp), and the table of types that it goes by.
-/
import Derived.Test.YtpjlciengdhjoaaGreatDoorMa
namespace Go.En
open Go.RowKit
inductive TD where
 | int (k:IntKind)
 | bool
 | str
 | slice (e esz:Nat)
 | struct (fs:List (Nat×Nat×Nat))
 | array (n e esz:Nat)
 | ptr (e:Nat)
 | map (k e:Nat)
 | other
structure TI where
 sz:Nat
 bs:Nat
 z:Value
 zc:List SV
 d:TD
 τ:Option Nat
 eq:Option (List LK):=none
 δ:Option Nat:=none
def TI.agg (t:TI):Bool:=match t.d with
 | .struct _|.array _ _ _=>true
 | _=>false
def FR:TypeDesc->Bool
 | .struct _|.array _ _=>false
 | _=>true
theorem Aa {P:Program} {T:Nat} {d:TypeDesc} (h:P.underlying T=some d) (w:World):(isAgg T).run P w=.ok (!FR d) w:=by
 unfold Go.isAgg
 rw [Sem.run_bind,run_underlying h w]
 cases d<;>simp [FR]
def Pw (P:Program):List Field->List (Nat×Nat×Nat)->Prop
 | [],[]=>True
 | f::l,(o,t,s)::r=>f.offset=o/\f.type=t/\(P.info? t).map (·.size)=some s/\s≠0/\Pw P l r
 | _,_=>False
def TD.ok (P:Program) (T:Nat):TD->Prop
 | .int k=>P.underlying T=some (.int k)
 | .bool=>P.underlying T=some .bool
 | .str=>P.underlying T=some .string
 | .slice e esz=>P.underlying T=some (.slice e)/\(P.info? e).map (·.size)=some esz
 | .struct fs=> ∃ l,P.underlying T=some (.struct l)/\Pw P l.toList fs
 | .array n e esz=>P.underlying T=some (.array n e)/\(P.info? e).map (·.size)=some esz
 | .ptr e=>P.underlying T=some (.pointer e)
 | .map k e=>P.underlying T=some (.map k e)
 | .other=> ∃ d,P.underlying T=some d/\FR d=true
def Fd.zeroV:Fd->Value
 | .int k=>.int k 0
 | .bool=>.bool false
 | .str=>.string ⟨⟨[]⟩⟩
 | .sl _=>.slice none 0 0
 | .ow _ _=>.slice none 0 0
def Fd.PV {T:Nat->Type}:Fd->FC T
 | .int k=>.int k 0
 | .bool=>.bool false
 | .str=>.str []
 | .sl σ=>.sl σ []
 | .ow σ E=>.ow σ E []
structure TI.ok (S:As) (P:Program) (T:Nat) (t:TI):Prop where
 info:(P.info? T).map (fun i=>(i.zero,i.size,i.bytes))=some (some t.z,t.sz,t.bs)
 zc: ∀ β,t.z.cells.toList=AD β t.zc
 zn: ∀ N,BZ N t.zc
 zl:t.zc.length=t.sz
 desc:t.d.ok P T
 pk: ∀ ks,t.eq=some ks->nD P T ks
 Z6: ∀ τ,t.τ=some τ->S.sz τ=t.sz/\0<t.sz/\S.enc τ (S.A4 τ)=(S.fds τ).map Fd.PV/\t.z.cells.toList=(S.fds τ).map Fd.zeroV
 oq: ∀ τ,t.δ=some τ->S.sz τ=t.sz/\0<t.sz/\S.enc τ (S.A4 τ)=(S.fds τ).map Fd.PV/\t.z.cells.toList=(S.fds τ).map Fd.zeroV
def Ae (S:As) (P:Program):List (Nat×TI)->Prop
 | []=>True
 | (T,t)::r=>t.ok S P T/\Ae S P r
theorem Ae.get {S:As} {P:Program}: ∀ {tb:List (Nat×TI)},Ae S P tb-> ∀ {T:Nat} {t:TI},lk tb T=some t->t.ok S P T
 | [],_,_,_,h=>by simp [AW] at h
 | (U,u)::r,hk,T,t,h=>by
  simp only [AK] at h
  split at h
  ·rename_i he;simp only [am] at h;subst h;subst he;exact hk.1
  ·exact Ae.get hk.2 h
def SV.cells:SV->Option (List SV)
 | .agg cs=>some cs
 | .v (.agg a)=>some (a.toList.map .v)
 | .v (.int k n)=>some [.v (.int k n)]
 | .v (.bool c)=>some [.v (.bool c)]
 | .v (.string s)=>some [.v (.string s)]
 | .v (.pointer a)=>some [.v (.pointer a)]
 | .v (.slice a n c)=>some [.v (.slice a n c)]
 | .v (.map r)=>some [.v (.map r)]
 | .v (.func f a c)=>some [.v (.func f a c)]
 | .v .nilFunc=>some [.v .nilFunc]
 | .v .nilIface=>some [.v .nilIface]
 | .v (.iface t x)=>some [.v (.iface t x)]
 | .v (.float k c)=>some [.v (.float k c)]
 | .v (.complex k a c)=>some [.v (.complex k a c)]
 | .v _=>none
 | .Gv _=>none
 | .b c=>some [.b c]
 | .ptr i off=>some [.ptr i off]
 | .row i n=>some [.row i n]
 | .mk i e=>some [.mk i e]
 | .hm i=>some [.hm i]
 | .tr i=>some [.tr i]
 | .ep i s e o=>some [.ep i s e o]
 | .view i o l c=>some [.view i o l c]
 | .CC i=>some [.CC i]
 | .h i=>some [.h i]
 | .vp i o=>some [.vp i o]
 | .ap i n e o=>some [.ap i n e o]
 | .pr i z e o=>some [.pr i z e o]
 | .pp i z e o y j q=>some [.pp i z e o y j q]
 | .fn f c=>some [.fn f c]
def SV.one:SV->Bool
 | .agg _=>false
 | .Gv _=>false
 | .v x=>x.oneCell'
 | .h _=>true
 | .vp _ _=>true
 | _=>true
def Mp:List SV->Bool
 | []=>true
 | x::r=>match x.one with
  | true=>Mp r
  | false=>false
def SV.Pf:SV->Option Bool
 | .b c=>some c
 | .v (.bool c)=>some c
 | _=>none
def IQ:IntKind->IntKind->Bool
 | .i8,.i8=>true|.i16,.i16=>true|.i32,.i32=>true|.i64,.i64=>true
 | .u8,.u8=>true|.u16,.u16=>true|.u32,.u32=>true|.u64,.u64=>true
 | _,_=>false
theorem DR (k k':IntKind):IQ k k'=true↔k=k':=by cases k<;>cases k'<;>simp [IQ]
def O9 (x:SV) (k:LK):Bool:=match k,x with
 | .int k,.v (.int k' _)=>IQ k' k
 | .bool,.v (.bool _)=>true
 | .bool,.b _=>true
 | .str,.v (.string ⟨⟨_⟩⟩)=>true
 | _,_=>false
def Ed:List SV->List LK->Bool
 | [],[]=>true
 | x::r,k::q=>match O9 x k with
  | true=>Ed r q
  | false=>false
 | _,_=>false
def nR (x y:SV):Bool:=match x,y with
 | .v (.int _ a),.v (.int _ b)=>decide (a=b)
 | .v (.string ⟨⟨a⟩⟩),.v (.string ⟨⟨b⟩⟩)=>decide (a=b)
 | x,y=>match x.Pf,y.Pf with
  | some a,some b=>a == b
  | _,_=>false
def TG:List SV->List SV->Bool
 | x::r,y::q=>nR x y && TG r q
 | _,_=>true
inductive R (S:As) where
 | val (c:Option Bool) (x:SV)
 | new (b:Own S)
 | Sf (c:Option Bool) (i:Nat) (b:Own S)
 | nm (c:Option Bool) (o1:List (Nat×Own S)) (n':Nat) (v:SV)
 | x (c:Option Bool) (o':List (Nat×Own S)) (n':Nat) (v:SV)
 | stop
def Cd:Option Bool->Prop
 | none=>True
 | some b=>b=true
section
variable {S:As}
def Ch:List (FC S.T)->Nat->List (Nat×Own S)->List SV×List (Nat×Own S)×Nat
 | [],n,o=>([],o,n)
 | .int k m::r,n,o=>match Ch r n o with
  | (a,b,c)=>(.v (.int k m)::a,b,c)
 | .bool b'::r,n,o=>match Ch r n o with
  | (a,b,c)=>(.b b'::a,b,c)
 | .str s::r,n,o=>match Ch r n o with
  | (a,b,c)=>(.v (.string ⟨⟨s⟩⟩)::a,b,c)
 | .sl σ l::r,n,o=>match Ch r (n+1) ((n,.sl σ l)::o) with
  | (a,b,c)=>(.h n::a,b,c)
 | .ow _ _ _::r,n,o=>match Ch r (n+1) ((n,.any)::o) with
  | (a,b,c)=>(.h n::a,b,c)
def EO:List (FC S.T)->Nat->List SV×List (Nat×Own S)×Nat
 | [],n=>([],[],n)
 | .int k m::r,n=>match EO r n with
  | (a,b,c)=>(.v (.int k m)::a,b,c)
 | .bool b'::r,n=>match EO r n with
  | (a,b,c)=>(.b b'::a,b,c)
 | .str s::r,n=>match EO r n with
  | (a,b,c)=>(.v (.string ⟨⟨s⟩⟩)::a,b,c)
 | .sl σ l::r,n=>match EO r (n+1) with
  | (a,b,c)=>(.h n::a,(n,.sl σ l)::b,c)
 | .ow _ _ _::r,n=>match EO r (n+1) with
  | (a,b,c)=>(.h n::a,(n,.any)::b,c)
def rd (o:List (Nat×Own S)):(f:Fd)->SV->Option (f.T S.T)
 | .int k,.v (.int k' n)=>match IQ k' k with
  | true=>some n
  | false=>none
 | .bool,.b c=>some c
 | .bool,.v (.bool c)=>some c
 | .str,.v (.string ⟨⟨s⟩⟩)=>some s
 | .sl σ,.h i=>match lk o i with
  | some (.sl σ' l)=>match Nat.decEq σ' σ with
   | .isTrue h=>some (h▸l)
   | .isFalse _=>none
  | _=>none
 | .sl _,.v (.slice none n c)=>match Nat.beq n 0,Nat.beq c 0 with
  | true,true=>some []
  | _,_=>none
 | .sl _,.view _ _ n _=>match Nat.beq n 0 with
  | true=>some []
  | false=>none
 | _,_=>none
def Qt (o:List (Nat×Own S)):(fs:List Fd)->Ps S.T fs->Nat->List SV->Option (Ps S.T fs)
 | _,p,_,[]=>some p
 | [],_,_,_::_=>none
 | f::r,p,0,v::vs=>match rd o f v with
  | some y=>match Qt o r p.2 0 vs with
   | some q=>some (y,q)
   | none=>none
  | none=>none
 | _::r,p,off+1,vs=>match Qt o r p.2 off vs with
  | some q=>some (p.1,q)
  | none=>none
def ZI (o:List (Nat×Own S)):(fs:List Fd)->List SV->Option (Ps S.T fs×List SV)
 | [],vs=>some ((),vs)
 | f::r,v::vs=>match rd o f v with
  | some y=>match ZI o r vs with
   | some (q,z)=>some ((y,q),z)
   | none=>none
  | none=>none
 | _::_,[]=>none
def I7 (o:List (Nat×Own S)) (τ:Nat):Nat->List SV->Option (List (S.T τ))
 | 0,[]=>some []
 | 0,_::_=>none
 | n+1,cs=>match ZI o (S.fds τ) cs with
  | some (p,z)=>match I7 o τ n z with
   | some l=>some (S.of τ p::l)
   | none=>none
  | none=>none
def Y4:List Fd->Nat->Option Nat
 | [],_=>none
 | f::_,0=>match f with
  | .ow σ _=>some σ
  | _=>none
 | _::r,k+1=>Y4 r k
def J2 {T:Nat->Type} (σ:Nat):(fs:List Fd)->Ps T fs->Nat->Option (List (T σ))
 | [],_,_=>none
 | .ow σ' _::_,p,0=>match Nat.decEq σ' σ with
  | .isTrue h=>some (h▸p.1)
  | .isFalse _=>none
 | _::_,_,0=>none
 | _::r,p,k+1=>J2 σ r p.2 k
def OJ {T:Nat->Type} (σ:Nat) (m:List (T σ)):(fs:List Fd)->Ps T fs->Nat->Option (Ps T fs)
 | [],_,_=>none
 | .ow σ' _::_,p,0=>match Nat.decEq σ' σ with
  | .isTrue h=>some (h▸m,p.2)
  | .isFalse _=>none
 | _::_,_,0=>none
 | _::r,p,k+1=>match OJ σ m r p.2 k with
  | some q=>some (p.1,q)
  | none=>none
def gD (o:List (Nat×Own S)) (σ E:Nat):SV->Option (List (S.T σ)×Option Nat)
 | .tr j=>match lk o j with
  | some (.tr σ' E' l)=>match Nat.beq E' E,Nat.decEq σ' σ with
   | true,.isTrue h=>some (h▸l,some j)
   | _,_=>none
  | _=>none
 | .v (.slice none n c)=>match Nat.beq n 0,Nat.beq c 0 with
  | true,true=>some ([],none)
  | _,_=>none
 | _=>none
def XQ:Option Nat->List Nat->List Nat
 | none,l=>l
 | some j,l=>j::l
def R4 (o:List (Nat×Own S)):(fs:List Fd)->List SV->Option (Ps S.T fs×List Nat×List SV)
 | [],vs=>some ((),[],vs)
 | .ow σ E::r,v::vs=>match gD o σ E v with
  | some (l,j)=>match R4 o r vs with
   | some (q,js,z)=>some ((l,q),XQ j js,z)
   | none=>none
  | none=>none
 | f::r,v::vs=>match rd o f v with
  | some y=>match R4 o r vs with
   | some (q,js,z)=>some ((y,q),js,z)
   | none=>none
  | none=>none
 | _::_,[]=>none
def LB (o:List (Nat×Own S)) (τ:Nat):Nat->List SV->Option (List (S.T τ)×List Nat)
 | 0,[]=>some ([],[])
 | 0,_::_=>none
 | n+1,cs=>match R4 o (S.fds τ) cs with
  | some (p,js,z)=>match LB o τ n z with
   | some (l,ks)=>some (S.of τ p::l,js++ks)
   | none=>none
  | none=>none
def X1 (i:Nat):List Nat->Bool
 | []=>false
 | j::r=>match Nat.beq j i with
  | true=>true
  | false=>X1 i r
def QV:List Nat->Bool
 | []=>true
 | j::r=>match X1 j r with
  | true=>false
  | false=>QV r
def dR {α:Type}:List (Nat×α)->List Nat->List (Nat×α)
 | o,[]=>o
 | o,j::r=>dR (rm o j) r
def I1 {T:Nat->Type}:(κ:Fd)->κ.T T->κ.T T->Bool
 | .int _,a,b=>decide (a=b)
 | .str,a,b=>decide (a=b)
 | _,_,_=>false
def Di {T:Nat->Type} {α:Type} (κ:Fd):List (κ.T T×α)->κ.T T->Option α
 | [],_=>none
 | x::r,k=>match I1 κ k x.1 with
  | true=>some x.2
  | false=>Di κ r k
def K7 {T:Nat->Type} {α:Type} (κ:Fd):List (κ.T T×α)->κ.T T->α->List (κ.T T×α)
 | [],k,v=>[(k,v)]
 | x::r,k,v=>match I1 κ k x.1 with
  | true=>(k,v)::r
  | false=>x::K7 κ r k v
def aC (cs:List SV) (off:Nat) (new:List SV):List SV:=
 match new with
 | [x]=>cs.set off x
 | _=>cs.take off++new++cs.drop (off+new.length)
def ld (t:TI) (cs:List SV) (off:Nat):R S:=
 match t.agg with
 | true=>match Nat.ble (off+t.sz) cs.length with
  | true=>.val none (.agg ((cs.drop off).take t.sz))
  | false=>.stop
 | false=>match cs[off]? with
  | some x=>.val none x
  | none=>.stop
def kG (t:TI) (s:St S) (τ:Nat) (l:List (S.T τ)) (e off:Nat):R S:=
 match EO (((S.enc τ (l.getD e (S.A4 τ))).drop off).take t.sz) s.n with
 | (cs,o1,n')=>match Nat.beq cs.length t.sz with
  | true=>match t.agg with
   | true=>.nm (some (decide (e<l.length))) o1 n' (.agg cs)
   | false=>match cs with
    | [.v y]=>match Nat.beq n' s.n with
     | true=>.val (some (decide (e<l.length))) (.v y)
     | false=>.nm (some (decide (e<l.length))) o1 n' (.v y)
    | [x]=>.nm (some (decide (e<l.length))) o1 n' x
    | _=>.stop
  | false=>.stop
def Sd {T:Nat->Type} (i z e:Nat):List (FC T)->List SV->Nat->List SV
 | .ow _ _ _::r,_::cs,p=>.pr i z e p::Sd i z e r cs (p+1)
 | _::r,x::cs,p=>x::Sd i z e r cs (p+1)
 | _,cs,_=>cs
def ng (t:TI) (s:St S) (τ:Nat) (l:List (S.T τ)) (i e off:Nat):R S:=
 match EO (((S.enc τ (l.getD e (S.A4 τ))).drop off).take t.sz) s.n with
 | (cs,o1,n')=>match Nat.beq cs.length t.sz with
  | true=>match t.agg with
   | true=>.nm (some (decide (e<l.length))) o1 n' (.agg (Sd i (S.sz τ) e (((S.enc τ (l.getD e (S.A4 τ))).drop off).take t.sz) cs off))
   | false=>match Sd i (S.sz τ) e (((S.enc τ (l.getD e (S.A4 τ))).drop off).take t.sz) cs off with
    | [x]=>.nm (some (decide (e<l.length))) o1 n' x
    | _=>.stop
  | false=>.stop
def dw (b:Bool):R S->R S
 | .nm (some c) o1 n' v=>.nm (some (b && c)) o1 n' v
 | .val (some c) v=>.val (some (b && c)) v
 | _=>.stop
def JN (k:IntKind):Nat->List SV->Option (List Int)
 | 0,_=>some []
 | n+1,.v (.int k' x)::r=>match IQ k' k,JN k n r with
  | true,some l=>some (x::l)
  | _,_=>none
 | _+1,_=>none
def Ql (k:IntKind) (e:Nat) (v:Int):Nat->List Int->List SV
 | _,[]=>[]
 | m,x::r=>.v (.int k (if e=m then v else x))::Ql k e v (m+1) r
def nf (t:TI) (cs:List SV) (n e off:Nat):R S:=
 match t.d with
 | .int k=>match JN k n (cs.drop off) with
  | some l=>.val (some (decide (e<l.length))) (.v (.int k (l.getD e 0)))
  | none=>.stop
 | _=>.stop
def pL (t:TI) (U i:Nat) (cs:List SV) (n e off:Nat) (new:List SV):R S:=
 match t.d,new with
 | .int k,[.v (.int k' v)]=>match IQ k' k,JN k n (cs.drop off) with
  | true,some l=>.Sf (some (decide (e<l.length))) i (.AX U (cs.take off++(Ql k e v 0 l++cs.drop (off+n))))
  | _,_=>.stop
 | _,_=>.stop
def JJ (tb:List (Nat×TI)) (s:St S) (T:Nat) (x:Operand):R S:=
 match lk tb T with
 | some t=>match ev s x with
  | some (.ptr i off)=>match lk s.o i with
   | some (.AX _ cs)=>ld t cs off
   | some (.row _ _ _ cs)=>ld t cs off
   | _=>.stop
  | some (.vp i off)=>match lk s.o i with
   | some (.vu cs)=>ld t cs off
   | _=>.stop
  | some (.ap i n e off)=>match lk s.o i with
   | some (.AX _ cs)=>nf t cs n e off
   | _=>.stop
  | some (.ep i esz e off)=>match lk s.o i with
   | some (.tr τ _ l)=>match Nat.beq esz (S.sz τ) with
    | true=>kG t s τ l e off
    | false=>.stop
   | some (.dp τ _ l)=>match Nat.beq esz (S.sz τ) with
    | true=>ng t s τ l i e off
    | false=>.stop
   | some (.mr _ _ _ _ ls)=>match Nat.beq esz 1,Nat.beq off 0,t.agg with
    | true,true,false=>.val (some (decide (e<ls.length))) (.mk i e)
    | _,_,_=>.stop
   | _=>.stop
  | some (.pp i z e off y j q)=>match lk s.o i with
   | some (.dp τ _ l)=>match Nat.beq z (S.sz τ),Y4 (S.fds τ) off with
    | true,some σ=>match Nat.beq y (S.sz σ),J2 σ (S.fds τ) (S.to τ (l.getD e (S.A4 τ))) off with
     | true,some m=>dw (decide (e<l.length)) (kG t s σ m j q)
     | _,_=>.stop
    | _,_=>.stop
   | _=>.stop
  | _=>.stop
 | none=>.stop
def IY (tb:List (Nat×TI)) (s:St S) (T:Nat) (x y:Operand):R S:=
 match lk tb T with
 | some t=>match (ev s y).bind SV.cells with
  | some new=>match Nat.beq new.length t.sz with
   | true=>match ev s x with
    | some (.ptr i off)=>match lk s.o i with
     | some (.AX U cs)=>match Nat.ble (off+new.length) cs.length,Mp new with
      | true,true=>.Sf none i (.AX U (aC cs off new))
      | _,_=>.stop
     | some (.row U sz n cs)=>match Nat.ble (off+new.length) cs.length,Mp new with
      | true,true=>.Sf none i (.row U sz n (aC cs off new))
      | _,_=>.stop
     | _=>.stop
    | some (.ep i esz e off)=>match lk s.o i with
     | some (.tr τ E l)=>match Nat.beq esz (S.sz τ) with
      | true=>match Qt s.o (S.fds τ) (S.to τ (l.getD e (S.A4 τ))) off new with
       | some q=>.Sf (some (decide (e<l.length))) i (.tr τ E (l.set e (S.of τ q)))
       | none=>.stop
      | false=>.stop
     | some (.dp τ E l)=>match Nat.beq esz (S.sz τ) with
      | true=>match Qt s.o (S.fds τ) (S.to τ (l.getD e (S.A4 τ))) off new with
       | some q=>.Sf (some (decide (e<l.length))) i (.dp τ E (l.set e (S.of τ q)))
       | none=>.stop
      | false=>.stop
     | _=>.stop
    | some (.pp i z e off y j q)=>match lk s.o i with
     | some (.dp τ E l)=>match Nat.beq z (S.sz τ),Y4 (S.fds τ) off with
      | true,some σ=>match Nat.beq y (S.sz σ),J2 σ (S.fds τ) (S.to τ (l.getD e (S.A4 τ))) off with
       | true,some m=>match Qt s.o (S.fds σ) (S.to σ (m.getD j (S.A4 σ))) q new with
        | some x=>match OJ σ (m.set j (S.of σ x)) (S.fds τ) (S.to τ (l.getD e (S.A4 τ))) off with
         | some p=>.Sf (some (decide (e<l.length/\j<m.length))) i (.dp τ E (l.set e (S.of τ p)))
         | none=>.stop
        | none=>.stop
       | _,_=>.stop
      | _,_=>.stop
     | _=>.stop
    | some (.ap i n e off)=>match lk s.o i with
     | some (.AX U cs)=>pL t U i cs n e off new
     | _=>.stop
    | _=>.stop
   | false=>.stop
  | none=>.stop
 | none=>.stop
def XU (s:St S) (x:Operand):R S:=
 match ev s x with
 | some (.ptr i off)=>.val none (.ptr i off)
 | some (.ep i z e off)=>.val none (.ep i z e off)
 | some (.pp i z e off y j q)=>.val none (.pp i z e off y j q)
 | some (.vp i off)=>match lk s.o i with
  | some (.vu _)=>.val none (.vp i off)
  | _=>.stop
 | some (.v (.pointer (some a)))=>.val none (.v (.pointer (some a)))
 | some (.fn f c)=>.val none (.fn f c)
 | _=>.stop
def Al (n:Int):Bool:=decide (-9223372036854775808<=n/\n<=9223372036854775807)
theorem AN {n:Int}:Al n=true↔ -9223372036854775808<=n/\n<=9223372036854775807:=by simp [Al]
def Cz (l:List UInt8) (j:Int):Int:=((l.getD j.toNat 0).toNat:Int)
def eD (op:BinOp) (k:IntKind) (a b:Int):R S:=
 match op with
 | .eql=>.val none (.b (decide (a=b)))
 | .neq=>.val none (.b (!decide (a=b)))
 | .lss=>.val none (.b (decide (a<b)))
 | .leq=>.val none (.b (decide (a<=b)))
 | .gtr=>.val none (.b (decide (b<a)))
 | .geq=>.val none (.b (decide (b<=a)))
 | .add=>match k with
  | .i64=>.val (some (Al (a+b))) (.v (.int .i64 (a+b)))
  | k=>.val none (.v (.int k (k.wrap (a+b))))
 | .sub=>match k with
  | .i64=>.val (some (Al (a -b))) (.v (.int .i64 (a -b)))
  | k=>.val none (.v (.int k (k.wrap (a -b))))
 | .mul=>match k with
  | .i64=>.val (some (Al (a*b))) (.v (.int .i64 (a*b)))
  | k=>.val none (.v (.int k (k.wrap (a*b))))
 | .quo=>match k with
  | .i64=>.val (some (decide (b≠0/\Al (a.tdiv b)=true))) (.v (.int .i64 (a.tdiv b)))
  | k=>.val (some (decide (b≠0))) (.v (.int k (k.wrap (a.tdiv b))))
 | .rem=>.val (some (decide (b≠0))) (.v (.int k (a.tmod b)))
 | .and=>.val none (.v (.int k (bits .and k a b)))
 | .or=>.val none (.v (.int k (bits .or k a b)))
 | .xor=>.val none (.v (.int k (bits .xor k a b)))
 | .andNot=>.val none (.v (.int k (bits .andNot k a b)))
 | _=>.stop
def bin (op:BinOp) (x y:SV):R S:=
 match x,y with
 | .v (.int k a),.v (.int k' b)=>match op with
  | .shl=>.val (some (decide (0<=b/\b<=k.bits))) (.v (.int k (k.wrap (a*2 ^ b.toNat))))
  | .shr=>.val (some (decide (0<=b/\b<=k.bits))) (.v (.int k (a / 2 ^ b.toNat)))
  | op=>match IQ k' k with
   | true=>eD op k a b
   | false=>.stop
 | .v (.string ⟨⟨a⟩⟩),.v (.string ⟨⟨b⟩⟩)=>match op with
  | .eql=>.val none (.b (decide (a=b)))
  | .neq=>.val none (.b (!decide (a=b)))
  | .add=>.val (some (decide (a.length+b.length<=9223372036854775807))) (.v (.string ⟨⟨a++b⟩⟩))
  | .lss=>.val none (.b (Op.bytesLess a b))
  | _=>.stop
 | _,_=>.stop
def eC (op:BinOp) (a b:Bool):R S:=
 match op with
 | .eql=>.val none (.b (a == b))
 | .neq=>.val none (.b (!(a == b)))
 | _=>.stop
def qD (tb:List (Nat×TI)) (T:Nat):Bool:=match lk tb T with
 | some t=>match t.δ,t.d with
  | some _,.int .i64=>true
  | _,_=>false
 | none=>false
def eG (x y:SV):R S:=match x,y with
 | .v (.int .i64 a),.v (.int .i64 b)=>.val none (.v (.int .i64 (IntKind.i64.wrap (a+b))))
 | _,_=>.stop
def SV.aG:SV->Option (List SV)
 | .agg cs=>some cs
 | .v (.agg a)=>some (a.toList.map .v)
 | _=>none
def eB (tb:List (Nat×TI)) (op:BinOp) (T:Nat) (x y:SV):R S:=
 match lk tb T with
 | some t=>match t.eq,x.aG,y.aG with
  | some ks,some l,some m=>match Ed l ks,Ed m ks with
   | true,true=>match op with
    | .eql=>.val none (.b (TG l m))
    | .neq=>.val none (.b (!TG l m))
    | _=>.stop
   | _,_=>.stop
  | _,_,_=>.stop
 | none=>.stop
def kW:SV->Option Bool
 | .ptr _ _=>some false
 | .ep _ _ _ _=>some false
 | .v (.pointer none)=>some true
 | _=>none
def eF (op:BinOp) (x y:SV):R S:=match kW x,y with
 | some b,.v (.pointer none)=>match op with
  | .eql=>.val none (.v (.bool b))
  | .neq=>.val none (.v (.bool (!b)))
  | _=>.stop
 | _,_=>.stop
def Yu {α:Type} (l:List α):Bool:=match l with
 | []=>false
 | _::_=>true
def eE (s:St S) (op:BinOp) (x y:SV):R S:=match x,y with
 | .h i,.v (.slice none 0 0)=>match lk s.o i with
  | some (.sl _ l)=>match op with
   | .eql=>.val (some (Yu l)) (.v (.bool false))
   | .neq=>.val (some (Yu l)) (.v (.bool true))
   | _=>.stop
  | _=>.stop
 | _,_=>.stop
def un (op:UnOp) (x:SV):R S:=
 match op,x with
 | .not,.v (.bool b)=>.val none (.v (.bool (!b)))
 | .not,.b b=>.val none (.b (!b))
 | .neg,.v (.int .i64 n)=>.val (some (Al (-n))) (.v (.int .i64 (-n)))
 | .xor,.v (.int .i64 n)=>.val none (.v (.int .i64 (bits .xor .i64 (-1) n)))
 | _,_=>.stop
def conv (t:TI) (x:SV):R S:=
 match t.d,x with
 | .int .i64,.v (.int _ n)=>.val (some (Al n)) (.v (.int .i64 n))
 | .int k,.v (.int _ n)=>.val none (.v (.int k (k.wrap n)))
 | .str,.v (.string s)=>.val none (.v (.string s))
 | _,_=>.stop
def Ht (s:St S):List Operand->Option (List SV)
 | []=>some []
 | x::r=>match ev s x with
  | some v=>match Ht s r with
   | some l=>some (v::l)
   | none=>none
  | none=>none
def DS (tb:List (Nat×TI)) (T:Nat):Option TD:=match lk tb T with
 | some t=>some t.d
 | none=>none
def RE (t:TI) (j:Nat):Option (Nat×Nat×Nat):=match t.d with
 | .struct fs=>fs[j]?
 | _=>none
def L1 (tb:List (Nat×TI)) (T j:Nat):Option (Nat×Nat×Nat):=match lk tb T with
 | some t=>RE t j
 | none=>none
def Hu (tb:List (Nat×TI)) (s:St S) (T:Nat) (x:Operand) (j:Nat):R S:=
 match L1 tb T j with
 | some (o,_,_)=>match ev s x with
  | some (.ptr i off)=>.val none (.ptr i (off+o))
  | some (.ep i z e off)=>.val none (.ep i z e (off+o))
  | some (.pp i z e off y j q)=>.val none (.pp i z e off y j (q+o))
  | some (.vp i off)=>match lk s.o i with
   | some (.vu _)=>.val none (.vp i (off+o))
   | _=>.stop
  | some (.v (.pointer (some ⟨b,off,none⟩)))=>.val none (.v (.pointer (some ⟨b,off+o,none⟩)))
  | _=>.stop
 | none=>.stop
def SV.GN:SV->Option (List SV)
 | .agg cs=>some cs
 | .v (.agg a)=>some (a.toList.map .v)
 | _=>none
def Po (tb:List (Nat×TI)) (s:St S) (T:Nat) (x:Operand) (j:Nat):R S:=
 match L1 tb T j with
 | some (o,ft,_)=>match (ev s x).bind SV.GN with
  | some cs=>match lk tb ft with
   | some t=>ld t cs o
   | none=>.stop
  | none=>.stop
 | none=>.stop
def fO:Operand->Bool
 | .const _=>true
 | _=>false
def Hv (tb:List (Nat×TI)) (s:St S) (T:Nat) (x i:Operand):R S:=
 match ev s i with
 | some (.v (.int _ j))=>match DS tb T with
  | some (.array n _ esz)=>match ev s x with
   | some (.ptr b off)=>match fO i,Nat.beq esz 1 with
    | false,true=>.val (some (decide (0<=j/\j<n))) (.ap b n j.toNat off)
    | _,_=>.val (some (decide (0<=j/\j<n))) (.ptr b (off+j.toNat*esz))
   | some (.vp b off)=>match fO i,lk s.o b with
    | true,some (.vu _)=>.val (some (decide (0<=j/\j<n))) (.vp b (off+j.toNat*esz))
    | _,_=>.stop
   | some (.ep b z e off)=>match fO i with
    | true=>.val (some (decide (0<=j/\j<n))) (.ep b z e (off+j.toNat*esz))
    | false=>.stop
   | _=>.stop
  | some (.slice _ esz)=>match ev s x with
   | some (.h b)=>match lk s.o b with
    | some (.sl σ l)=>match Nat.beq esz (S.sz σ) with
     | true=>match EO (S.enc σ (l.getD j.toNat (S.A4 σ))) s.n with
      | (cs,o1,n')=>.nm (some (decide (0<=j/\j<l.length))) ((n',.vu cs)::o1) (n'+1) (.vp n' 0)
     | false=>.stop
    | _=>.stop
   | some (.tr b)=>match lk s.o b with
    | some (.tr σ _ l)=>match Nat.beq esz (S.sz σ) with
     | true=>.val (some (decide (0<=j/\j<l.length))) (.ep b esz j.toNat 0)
     | false=>.stop
    | some (.dp σ _ l)=>match Nat.beq esz (S.sz σ) with
     | true=>.val (some (decide (0<=j/\j<l.length))) (.ep b esz j.toNat 0)
     | false=>.stop
    | some (.mr _ _ _ _ ls)=>match Nat.beq esz 1 with
     | true=>.val (some (decide (0<=j/\j<ls.length))) (.ep b esz j.toNat 0)
     | false=>.stop
    | _=>.stop
   | some (.pr b z e off)=>match lk s.o b with
    | some (.dp τ _ l)=>match Nat.beq z (S.sz τ),Y4 (S.fds τ) off with
     | true,some σ=>match Nat.beq esz (S.sz σ),J2 σ (S.fds τ) (S.to τ (l.getD e (S.A4 τ))) off with
      | true,some m=>.val (some (decide (e<l.length/\0<=j/\j<m.length))) (.pp b z e off esz j.toNat 0)
      | _,_=>.stop
     | _,_=>.stop
    | _=>.stop
   | some (.row b n)=>match lk s.o b with
    | some (.row _ _ m _)=>match Nat.beq m n with
     | true=>.val (some (decide (0<=j/\j<n))) (.ptr b (j.toNat*esz))
     | false=>.stop
    | _=>.stop
   | some (.view b off n _)=>.val (some (decide (0<=j/\j<n))) (.ptr b (off+j.toNat*esz))
   | _=>.stop
  | _=>.stop
 | _=>.stop
def Pp (s:St S) (x i:Operand):R S:=
 match ev s x,ev s i with
 | some (.v (.string ⟨⟨l⟩⟩)),some (.v (.int _ j))=>.val (some (decide (0<=j/\j<l.length))) (.v (.int .u8 (Cz l j)))
 | _,_=>.stop
def J6 (k:IntKind):List SV->Option (List Int)
 | []=>some []
 | .v (.int k' x)::r=>match IQ k' k,J6 k r with
  | true,some l=>some (x::l)
  | _,_=>none
 | _::_=>none
def OL:List SV->Option (List (List UInt8))
 | []=>some []
 | .v (.string ⟨⟨x⟩⟩)::r=>match OL r with
  | some l=>some (x::l)
  | none=>none
 | _::_=>none
def M7 (tb:List (Nat×TI)) (s:St S) (n e esz:Nat) (x i:Operand):R S:=
 match ev s i,(ev s x).bind SV.GN with
 | some (.v (.int _ j)),some (.v (.int k y)::cs)=>match lk tb e,Nat.beq esz 1,J6 k (.v (.int k y)::cs) with
  | some t,true,some l=>match t.agg,Nat.beq l.length n with
   | false,true=>.val (some (decide (0<=j/\j<n))) (.v (.int k (l.getD j.toNat 0)))
   | _,_=>.stop
  | _,_,_=>.stop
 | some (.v (.int _ j)),some (.v (.string s0)::cs)=>match lk tb e,Nat.beq esz 1,OL (.v (.string s0)::cs) with
  | some t,true,some l=>match t.agg,Nat.beq l.length n with
   | false,true=>.val (some (decide (0<=j/\j<n))) (.v (.string ⟨⟨l.getD j.toNat []⟩⟩))
   | _,_=>.stop
  | _,_,_=>.stop
 | _,_=>.stop
def XT (tb:List (Nat×TI)) (s:St S) (T:Nat) (x:Operand):R S:=
 match DS tb T with
 | some .str=>match ev s x with
  | some (.v (.string ⟨⟨l⟩⟩))=>.val none (.v (.int .i64 l.length))
  | _=>.stop
 | some (.slice _ _)=>match ev s x with
  | some (.v (.slice _ n _))=>.val none (.v (.int .i64 n))
  | some (.row _ n)=>.val none (.v (.int .i64 n))
  | some (.view _ _ n _)=>.val none (.v (.int .i64 n))
  | some (.tr b)=>match lk s.o b with
   | some (.tr _ _ l)=>.val none (.v (.int .i64 l.length))
   | some (.dp _ _ l)=>.val none (.v (.int .i64 l.length))
   | some (.mr _ _ _ _ ls)=>.val none (.v (.int .i64 ls.length))
   | _=>.stop
  | some (.pr b z e off)=>match lk s.o b with
   | some (.dp τ _ l)=>match Nat.beq z (S.sz τ),Y4 (S.fds τ) off with
    | true,some σ=>match J2 σ (S.fds τ) (S.to τ (l.getD e (S.A4 τ))) off with
     | some m=>.val (some (decide (e<l.length))) (.v (.int .i64 m.length))
     | none=>.stop
    | _,_=>.stop
   | _=>.stop
  | some (.h b)=>match lk s.o b with
   | some (.sl _ l)=>.val none (.v (.int .i64 l.length))
   | _=>.stop
  | _=>.stop
 | some (.array n _ _)=>.val none (.v (.int .i64 n))
 | some (.map _ _)=>match ev s x with
  | some (.CC b)=>match lk s.o b with
   | some (.mp _ _ _ l)=>.val none (.v (.int .i64 l.length))
   | _=>.stop
  | some (.mk b e)=>match lk s.o b with
   | some (.mr _ _ _ _ ls)=>.val (some (decide (e<ls.length))) (.v (.int .i64 (ls.getD e []).length))
   | _=>.stop
  | some (.v (.map none))=>.val none (.v (.int .i64 0))
  | _=>.stop
 | _=>.stop
def Jv (mx:Bool) (s:St S) (x y:Operand):R S:=
 match ev s x,ev s y with
 | some (.v (.int k a)),some (.v (.int _ b))=>match mx with
  | true=>.val none (.v (.int k (if a<b then b else a)))
  | false=>.val none (.v (.int k (if b<a then b else a)))
 | _,_=>.stop
def Kj (s:St S) (x:Operand) (j:Nat):R S:=
 match ev s x with
 | some (.v (.tuple ⟨l⟩))=>match l[j]? with
  | some v=>.val none (.v v)
  | none=>.stop
 | some (.Gv l)=>match l[j]? with
  | some v=>.val none v
  | none=>.stop
 | _=>.stop
def Is (s:St S) (d:Int):Option Operand->Option Int
 | none=>some d
 | some x=>match ev s x with
  | some (.v (.int _ n))=>some n
  | _=>none
def G4 (tb:List (Nat×TI)) (s:St S) (T:Nat) (x:Operand) (lo hi:Option Operand):R S:=
 match Is s 0 lo with
 | some a=>match DS tb T with
  | some .str=>match ev s x with
   | some (.v (.string ⟨⟨l⟩⟩))=>match Is s l.length hi with
    | some b=>.val (some (decide (0<=a/\a<=b/\b<=l.length))) (.v (.string ⟨⟨(l.take b.toNat).drop a.toNat⟩⟩))
    | none=>.stop
   | _=>.stop
  | some (.array n _ esz)=>match ev s x with
   | some (.ptr i off)=>match lo,Is s n hi with
    | none,some b=>.val (some (decide (0<=b/\b<=n))) (.view i off b.toNat n)
    | some _,some b=>match Nat.beq esz 1 with
     | true=>.val (some (decide (0<=a/\a<=b/\b<=n/\a<n))) (.view i (off+a.toNat) (b.toNat -a.toNat) (n -a.toNat))
     | false=>.stop
    | _,_=>.stop
   | _=>.stop
  | some (.slice _ esz)=>match ev s x with
   | some (.h i)=>match lk s.o i with
    | some (.sl σ l)=>match Nat.beq esz (S.sz σ),Is s l.length hi with
     | true,some h=>.nm (some (decide (0<=a/\a<=h/\h<=l.length))) [(s.n,.sl σ ((l.take h.toNat).drop a.toNat))] (s.n+1) (.h s.n)
     | _,_=>.stop
    | _=>.stop
   | some (.tr i)=>match lk s.o i with
    | some (.tr σ E l)=>match lo,Is s l.length hi with
     | none,some h=>.x (some (decide (0<=h/\h<=l.length))) ((s.n,.tr σ E (l.take h.toNat))::rm s.o i) (s.n+1) (.tr s.n)
     | _,_=>.stop
    | some (.dp σ E l)=>match lo,Is s l.length hi with
     | none,some h=>.x (some (decide (0<=h/\h<=l.length))) ((s.n,.dp σ E (l.take h.toNat))::rm s.o i) (s.n+1) (.tr s.n)
     | _,_=>.stop
    | some (.mr κ τ ag E ls)=>match lo,Is s ls.length hi with
     | none,some h=>.x (some (decide (0<=h/\h<=ls.length))) ((s.n,.mr κ τ ag E (ls.take h.toNat))::rm s.o i) (s.n+1) (.tr s.n)
     | _,_=>.stop
    | _=>.stop
   | _=>.stop
  | _=>.stop
 | none=>.stop
def NB (place:Nat->Option (Nat×Nat)) (s:St S):List SV->List (Nat×Operand)->Option (List SV)
 | cs,[]=>some cs
 | cs,(i,x)::r=>match place i with
  | some (off,size)=>match (ev s x).bind SV.cells with
   | some new=>match Nat.beq new.length size,Nat.ble (off+size) cs.length with
    | true,true=>NB place s (aC cs off new) r
    | _,_=>none
   | none=>none
  | none=>none
def T2 (fs:List (Nat×Nat×Nat)) (i:Nat):Option (Nat×Nat):=match fs[i]? with
 | some f=>some (f.1,f.2.2)
 | none=>none
def DJ {α:Type}:Nat->List α->List α
 | 0,_=>[]
 | n+1,l=>l++DJ n l
def Pk (tb:List (Nat×TI)) (s:St S) (T:Nat) (parts:List (Nat×Operand)):R S:=
 match lk tb T with
 | some t=>match t.d with
  | .struct fs=>match NB (T2 fs) s t.zc parts with
   | some cs=>.val none (.agg cs)
   | none=>.stop
  | .array _ _ esz=>match NB (fun i=>some (i*esz,esz)) s t.zc parts with
   | some cs=>.val none (.agg cs)
   | none=>.stop
  | _=>.stop
 | none=>.stop
def G2 (tb:List (Nat×TI)) (s:St S) (T n:Nat) (parts:List (Nat×Operand)):R S:=
 match DS tb T with
 | some (.slice e esz)=>match lk tb e with
  | some te=>match Nat.ble (n*esz) 16777216,Nat.beq te.sz esz,Nat.ble 1 esz with
   | true,true,true=>match NB (fun i=>some (i*esz,esz)) s (DJ n te.zc) parts with
    | some cs=>match te.τ with
     | some τ=>match I7 s.o τ n cs with
      | some l=>.new (.tr τ e l)
      | none=>.new (.row e esz n cs)
     | none=>.new (.row e esz n cs)
    | none=>.stop
   | _,_,_=>.stop
  | none=>.stop
 | _=>.stop
def room (bs n:Nat):Bool:=decide (n*(bs+1)<=140737488355328)
def Ou (s:St S) (τ e:Nat):SV->Option (Option Nat×List (S.T τ))
 | .v (.slice none n c)=>match Nat.beq n 0,Nat.beq c 0 with
  | true,true=>some (none,[])
  | _,_=>none
 | .tr i=>match lk s.o i with
  | some (.tr τ' E l)=>match Nat.beq E e,Nat.decEq τ' τ with
   | true,.isTrue h=>some (some i,h▸l)
   | _,_=>none
  | _=>none
 | .row i n=>match lk s.o i with
  | some (.row E z m cs)=>match Nat.beq E e,Nat.beq m n,Nat.beq z (S.sz τ) with
   | true,true,true=>match I7 s.o τ n cs with
    | some l=>some (some i,l)
    | none=>none
   | _,_,_=>none
  | _=>none
 | .view i 0 0 0=>match lk s.o i with
  | some (.AX E [])=>match Nat.beq E e with
   | true=>some (some i,[])
   | false=>none
  | _=>none
 | _=>none
def Zr (s:St S) (τ:Nat):SV->Option (Option Bool×List (S.T τ))
 | .v (.slice none n c)=>match Nat.beq n 0,Nat.beq c 0 with
  | true,true=>some (none,[])
  | _,_=>none
 | .tr i=>match lk s.o i with
  | some (.tr τ' _ l)=>match Nat.decEq τ' τ with
   | .isTrue h=>some (none,h▸l)
   | .isFalse _=>none
  | _=>none
 | .h i=>match lk s.o i with
  | some (.sl τ' l)=>match Nat.decEq τ' τ with
   | .isTrue h=>some (none,h▸l)
   | .isFalse _=>none
  | _=>none
 | .row i n=>match lk s.o i with
  | some (.row _ z m cs)=>match Nat.beq m n,Nat.beq z (S.sz τ) with
   | true,true=>match I7 s.o τ n cs with
    | some l=>some (none,l)
    | none=>none
   | _,_=>none
  | _=>none
 | .view i off len cap=>match lk s.o i with
  | some (.AX _ cs)=>match Nat.ble (off+cap*S.sz τ) cs.length with
   | true=>match I7 s.o τ cap ((cs.drop off).take (cap*S.sz τ)) with
    | some l=>some (some (decide (len<=cap)),l.take len)
    | none=>none
   | false=>none
  | _=>none
 | _=>none
def EU (o:List (Nat×Own S)):Option Nat->List (Nat×Own S)
 | none=>o
 | some i=>rm o i
def Dc:Option Bool->Bool->Bool
 | none,b=>b
 | some a,b=>a && b
def Q0 (tb:List (Nat×TI)) (s:St S) (T:Nat) (x y:Operand):R S:=
 match DS tb T with
 | some (.slice e esz)=>match lk tb e with
  | some te=>match te.τ with
   | some τ=>match Nat.beq esz te.sz,ev s x,ev s y with
    | true,some xv,some yv=>match Ou s τ e xv with
     | some (d,l)=>match Zr s τ yv with
      | some (c,l')=>.x (some (Dc c (room te.bs (l.length+l'.length)))) ((s.n,.tr τ e (l++l'))::EU s.o d) (s.n+1) (.tr s.n)
      | none=>.stop
     | none=>.stop
    | _,_,_=>.stop
   | none=>.stop
  | none=>.stop
 | _=>.stop
def eK (S:As) (τ:Nat) (x:S.T τ):Int:=match S.enc τ x with
 | [.int _ n]=>n
 | _=>0
def Td:List Fd->Bool
 | [.int .u8]=>true
 | _=>false
def oo {T:Nat->Type}:(fs:List Fd)->UInt8->Ps T fs->Ps T fs
 | [.int .u8],c,_=>((c.toNat:Int),())
 | _,_,d=>d
def eJ (S:As) (τ:Nat) (c:UInt8):S.T τ:=S.of τ (oo (S.fds τ) c (S.to τ (S.A4 τ)))
def dz (tb:List (Nat×TI)) (s:St S) (T:Nat) (x y:Operand):R S:=
 match DS tb T with
 | some (.slice e esz)=>match lk tb e with
  | some te=>match te.τ,te.z with
   | some τ,.int .u8 (.ofNat 0)=>match Td (S.fds τ),Nat.beq esz te.sz,Nat.beq te.bs 1,ev s x,ev s y with
    | true,true,true,some xv,some (.v (.string ⟨⟨bs⟩⟩))=>match Ou s τ e xv with
     | some (d,l)=>.x (some (room te.bs (l.length+bs.length))) ((s.n,.tr τ e (l++bs.map (eJ S τ)))::EU s.o d) (s.n+1) (.tr s.n)
     | none=>.stop
    | _,_,_,_,_=>.stop
   | _,_=>.stop
  | none=>.stop
 | _=>.stop
def Tc (d:Nat):List Oper->Bool
 | []=>false
 | o::r=>match o.op with
  | .call ⟨.builtin .append,⟨[.tmp u,_]⟩,_⟩=>match Nat.beq u d with
   | true=>true
   | false=>Tc d r
  | _=>Tc d r
def X6 (tb:List (Nat×TI)) (all:List Oper) (o:Oper):Option Nat:=match o.op,o.dst with
 | .buildSlice T 0 ⟨[]⟩,some d=>match DS tb T,Tc d all with
  | some (.slice e esz),true=>match lk tb e with
   | some te=>match te.τ,Nat.beq te.sz esz,Nat.ble 1 esz with
    | some _,true,true=>some e
    | _,_,_=>none
   | none=>none
  | _,_=>none
 | _,_=>none
def Ve (tb:List (Nat×TI)) (s:St S):Op->Option (Nat×Bool×R S)
 | .call ⟨.builtin .append,⟨[x,y]⟩,⟨[T,T']⟩⟩=>match Nat.beq T' T,DS tb T with
  | true,some (.slice e esz)=>match lk tb e with
   | some te=>match te.τ with
    | some τ=>match Nat.beq esz te.sz,ev s x,ev s y with
     | true,some (.view j 0 0 0),some yv=>match lk s.o j with
      | some (.AX E [])=>match Nat.beq E e,Zr s τ yv with
       | true,some (c,l')=>some (j,decide (l'.length=0),.nm (some (Dc c (room te.bs l'.length))) [(s.n,.tr τ e l')] (s.n+1) (.tr s.n))
       | _,_=>none
      | _=>none
     | _,_,_=>none
    | none=>none
   | none=>none
  | _,_=>none
 | _=>none
def W9 (s:St S) (τ e:Nat):SV->Option (Option Nat×List (S.T τ))
 | .v (.slice none n c)=>match Nat.beq n 0,Nat.beq c 0 with
  | true,true=>some (none,[])
  | _,_=>none
 | .tr i=>match lk s.o i with
  | some (.dp τ' E l)=>match Nat.beq E e,Nat.decEq τ' τ with
   | true,.isTrue h=>some (some i,h▸l)
   | _,_=>none
  | _=>none
 | _=>none
def dx (tb:List (Nat×TI)) (s:St S) (T:Nat) (x y:Operand):R S:=
 match DS tb T with
 | some (.slice e esz)=>match lk tb e with
  | some te=>match te.δ with
   | some τ=>match Nat.beq esz te.sz,ev s x,ev s y with
    | true,some xv,some (.row k m)=>match W9 s τ e xv,lk s.o k with
     | some (d,l),some (.row _ z m' cs)=>match Nat.beq m' m,Nat.beq z (S.sz τ),LB s.o τ m cs with
      | true,true,some (l',js)=>match Nat.ble 1 m && QV js with
       | true=>.x (some (room te.bs (l.length+l'.length))) ((s.n,.dp τ e (l++l'))::dR (EU s.o d) js) (s.n+1) (.tr s.n)
       | false=>.stop
      | _,_,_=>.stop
     | _,_=>.stop
    | _,_,_=>.stop
   | none=>.stop
  | none=>.stop
 | _=>.stop
def iw:R S->R S->R S
 | .stop,r=>r
 | r,_=>r
def Ym (tb:List (Nat×TI)) (s:St S) (T:Nat) (l c:Operand):R S:=
 match DS tb T with
 | some (.slice e esz)=>match lk tb e with
  | some te=>match te.τ with
   | some τ=>match Nat.beq esz te.sz,ev s l,ev s c with
    | true,some (.v (.int _ L)),some (.v (.int _ C))=>.nm (some (decide (0<=L/\L<=C/\C*(te.bs+1)<=140737488355328))) [(s.n,.tr τ e (List.replicate L.toNat (S.A4 τ)))] (s.n+1) (.tr s.n)
    | _,_,_=>.stop
   | none=>.stop
  | none=>.stop
 | _=>.stop
def XR (tb:List (Nat×TI)) (s:St S) (T:Nat) (x y:Operand):R S:=
 match DS tb T with
 | some (.slice e esz)=>match lk tb e with
  | some te=>match te.τ,Nat.beq esz te.sz with
   | some τ,true=>match ev s x,ev s y with
    | some (.tr i),some yv=>match lk s.o i with
     | some (.tr τ' E l)=>match Nat.decEq τ' τ with
      | .isTrue h=>match Zr s τ yv with
       | some (c,l')=>.x c (pt s.o i (.tr τ E (l'.take l.length++(h▸l:List (S.T τ)).drop l'.length))) s.n (.v (.int .i64 ((min l'.length l.length:Nat):Int)))
       | none=>.stop
      | .isFalse _=>.stop
     | _=>.stop
    | _,_=>.stop
   | _,_=>.stop
  | none=>.stop
 | _=>.stop
def Yk (tb:List (Nat×TI)) (s:St S) (T:Nat) (l c:Operand):R S:=
 match DS tb T with
 | some (.slice e esz)=>match lk tb e with
  | some te=>match te.δ with
   | some τ=>match Nat.beq esz te.sz,ev s l,ev s c with
    | true,some (.v (.int _ L)),some (.v (.int _ C))=>.nm (some (decide (0<=L/\L<=C/\C*(te.bs+1)<=140737488355328))) [(s.n,.dp τ e (List.replicate L.toNat (S.A4 τ)))] (s.n+1) (.tr s.n)
    | _,_,_=>.stop
   | none=>.stop
  | none=>.stop
 | _=>.stop
def RU:TD->Option Fd
 | .int k=>some (.int k)
 | .str=>some .str
 | _=>none
def IP:Fd->Fd->Bool
 | .int k,.int k'=>IQ k k'
 | .str,.str=>true
 | _,_=>false
def Gp (ag:Bool) (x:SV):Option (List SV):=match ag with
 | true=>x.GN
 | false=>match x.one with
  | true=>some [x]
  | false=>none
def HU:Bool->Bool->Bool
 | true,true=>true
 | false,false=>true
 | _,_=>false
def Yl (tb:List (Nat×TI)) (T:Nat):R S:=
 match DS tb T with
 | some (.map k e)=>match (DS tb k).bind RU,lk tb e with
  | some κ,some te=>match te.τ with
   | some τ=>.new (.mp κ τ te.agg [])
   | none=>.stop
  | _,_=>.stop
 | _=>.stop
def cO (tb:List (Nat×TI)) (s:St S) (T:Nat) (m k v:Operand):R S:=
 match DS tb T with
 | some (.map kt _)=>match ev s m with
  | some (.CC i)=>match lk s.o i,(DS tb kt).bind RU with
   | some (.mp κ τ ag l),some κ'=>match IP κ' κ,(ev s k).bind (rd s.o κ),((ev s v).bind (Gp ag)).bind (ZI s.o (S.fds τ)) with
    | true,some a,some (p,[])=>.Sf none i (.mp κ τ ag (K7 κ l a (S.of τ p)))
    | _,_,_=>.stop
   | _,_=>.stop
  | some (.mk i e)=>match lk s.o i,(DS tb kt).bind RU with
   | some (.mr κ τ ag E ls),some κ'=>match IP κ' κ,(ev s k).bind (rd s.o κ),((ev s v).bind (Gp ag)).bind (ZI s.o (S.fds τ)) with
    | true,some a,some (p,[])=>.Sf (some (decide (e<ls.length))) i (.mr κ τ ag E (ls.set e (K7 κ (ls.getD e []) a (S.of τ p))))
    | _,_,_=>.stop
   | _,_=>.stop
  | _=>.stop
 | _=>.stop
def okV (ok:Bool) (x:SV) (b:Bool):SV:=match ok with
 | true=>.Gv [x,.b b]
 | false=>x
def ib (t:TI):Bool:=match t.agg with
 | true=>match t.z with
  | .agg _=>true
  | _=>false
 | false=>t.z.oneCell'
def Nn (s:St S) (c:Option Bool) (τ:Nat) (ag ok:Bool) (v:Option (S.T τ)):R S:=
 match EO (S.enc τ (v.getD (S.A4 τ))) s.n with
 | (cs,o1,n')=>match ag,cs with
  | true,cs=>.nm c o1 n' (okV ok (.agg cs) v.isSome)
  | false,[x]=>.nm c o1 n' (okV ok x v.isSome)
  | _,_=>.stop
def Yd (tb:List (Nat×TI)) (s:St S) (T:Nat) (m k:Operand) (ok:Bool):R S:=
 match DS tb T with
 | some (.map kt e)=>match (DS tb kt).bind RU,lk tb e with
  | some κ',some te=>match te.τ,ib te with
   | some τ',true=>match ev s m with
    | some (.CC i)=>match lk s.o i with
     | some (.mp κ τ ag l)=>match IP κ' κ,Nat.beq τ τ',HU ag te.agg,(ev s k).bind (rd s.o κ) with
      | true,true,true,some a=>Nn s none τ ag ok (Di κ l a)
      | _,_,_,_=>.stop
     | _=>.stop
    | some (.mk i e)=>match lk s.o i with
     | some (.mr κ τ ag _ ls)=>match IP κ' κ,Nat.beq τ τ',HU ag te.agg,(ev s k).bind (rd s.o κ) with
      | true,true,true,some a=>Nn s (some (decide (e<ls.length))) τ ag ok (Di κ (ls.getD e []) a)
      | _,_,_,_=>.stop
     | _=>.stop
    | some (.v (.map none))=>match (ev s k).bind (rd s.o κ') with
     | some _=>Nn s none τ' te.agg ok none
     | none=>.stop
    | _=>.stop
   | _,_=>.stop
  | _,_=>.stop
 | _=>.stop
def QT {T:Nat->Type} {α:Type} (κ:Fd):List (κ.T T×α)->κ.T T->Nat
 | [],_=>0
 | x::r,k=>match I1 κ k x.1 with
  | true=>0
  | false=>QT κ r k+1
def Nq {T:Nat->Type} {α:Type} (κ:Fd):List (κ.T T×α)->Nat->α->List (κ.T T×α)
 | [],_,_=>[]
 | x::r,0,v=>(x.1,v)::r
 | x::r,j+1,v=>x::Nq κ r j v
def N2:List (FC S.T)->Option (IntKind×Int)
 | [.int k n]=>some (k,n)
 | _=>none
def eb (tb:List (Nat×TI)) (s:St S) (T:Nat) (m k:Operand):R S:=
 match DS tb T with
 | some (.map kt e)=>match (DS tb kt).bind RU,lk tb e with
  | some κ',some te=>match te.τ,ib te with
   | some τ',true=>match ev s m with
    | some (.CC i)=>match lk s.o i with
     | some (.mp κ τ ag l)=>match IP κ' κ,Nat.decEq τ τ',HU ag te.agg,(ev s k).bind (rd s.o κ) with
      | true,.isTrue _,true,some a=>match ag,N2 (S.enc τ ((Di κ l a).getD (S.A4 τ))) with
       | false,some (q,n)=>.x none (pt s.o i (.mp κ τ ag (K7 κ l a ((Di κ l a).getD (S.A4 τ))))) s.n (.Gv [.v (.int q n),.v (.int .i64 ((QT κ l a:Nat):Int))])
       | _,_=>.stop
      | _,_,_,_=>.stop
     | _=>.stop
    | some (.mk i d)=>match lk s.o i with
     | some (.mr κ τ ag E ls)=>match IP κ' κ,Nat.decEq τ τ',HU ag te.agg,(ev s k).bind (rd s.o κ) with
      | true,.isTrue _,true,some a=>match ag,N2 (S.enc τ ((Di κ (ls.getD d []) a).getD (S.A4 τ))) with
       | false,some (q,n)=>.x (some (decide (d<ls.length))) (pt s.o i (.mr κ τ ag E (ls.set d (K7 κ (ls.getD d []) a ((Di κ (ls.getD d []) a).getD (S.A4 τ)))))) s.n (.Gv [.v (.int q n),.v (.int .i64 ((QT κ (ls.getD d []) a:Nat):Int))])
       | _,_=>.stop
      | _,_,_,_=>.stop
     | _=>.stop
    | _=>.stop
   | _,_=>.stop
  | _,_=>.stop
 | _=>.stop
def ec (s:St S) (m st v:Operand):R S:=
 match ev s st with
 | some (.v (.int .i64 n))=>match ev s m with
  | some (.CC i)=>match lk s.o i with
   | some (.mp κ τ ag l)=>match ((ev s v).bind (Gp ag)).bind (ZI s.o (S.fds τ)) with
    | some (p,[])=>.Sf (some (decide (0<=n/\n<l.length))) i (.mp κ τ ag (Nq κ l n.toNat (S.of τ p)))
    | _=>.stop
   | _=>.stop
  | some (.mk i d)=>match lk s.o i with
   | some (.mr κ τ ag E ls)=>match ((ev s v).bind (Gp ag)).bind (ZI s.o (S.fds τ)) with
    | some (p,[])=>.Sf (some (decide (d<ls.length/\0<=n/\n<(ls.getD d []).length))) i (.mr κ τ ag E (ls.set d (Nq κ (ls.getD d []) n.toNat (S.of τ p))))
    | _=>.stop
   | _=>.stop
  | _=>.stop
 | _=>.stop
def Yo (tb:List (Nat×TI)) (s:St S) (T n:Nat) (parts:List (Nat×Operand)):R S:=
 match DS tb T with
 | some (.slice e esz)=>match lk tb e,Nat.beq esz 1,Nat.beq n 1,parts with
  | some te,true,true,[(0,x)]=>match te.agg,Nat.beq te.sz 1,ev s x with
   | false,true,some (.CC j)=>match lk s.o j with
    | some (.mp κ τ ag l)=>.x none ((s.n,.mr κ τ ag e [l])::rm s.o j) (s.n+1) (.tr s.n)
    | _=>.stop
   | _,_,_=>.stop
  | _,_,_,_=>.stop
 | _=>.stop
def Vp (f g:Fd):Option (PLift (f=g)):=match f,g with
 | .int .i8,.int .i8=>some ⟨rfl⟩|.int .i16,.int .i16=>some ⟨rfl⟩|.int .i32,.int .i32=>some ⟨rfl⟩|.int .i64,.int .i64=>some ⟨rfl⟩
 | .int .u8,.int .u8=>some ⟨rfl⟩|.int .u16,.int .u16=>some ⟨rfl⟩|.int .u32,.int .u32=>some ⟨rfl⟩|.int .u64,.int .u64=>some ⟨rfl⟩
 | .str,.str=>some ⟨rfl⟩
 | _,_=>none
def dy (tb:List (Nat×TI)) (s:St S) (T:Nat) (x y:Operand):R S:=
 match DS tb T with
 | some (.slice e esz)=>match lk tb e,Nat.beq esz 1,ev s y with
  | some te,true,some (.tr k)=>match Nat.beq te.sz 1,lk s.o k with
   | true,some (.mr κ τ ag E [l])=>match Nat.beq E e,ev s x with
    | true,some (.v (.slice none n c))=>match Nat.beq n 0,Nat.beq c 0 with
     | true,true=>.x (some (room te.bs 1)) ((s.n,.mr κ τ ag e [l])::rm s.o k) (s.n+1) (.tr s.n)
     | _,_=>.stop
    | true,some (.tr i)=>match Nat.beq i k,lk s.o i with
     | false,some (.mr κ' τ' ag' E' ls')=>match Nat.beq E' e,HU ag' ag,Nat.decEq τ' τ,Vp κ' κ with
      | true,true,.isTrue h,some ⟨h'⟩=>.x (some (room te.bs (ls'.length+1))) ((s.n,.mr κ τ ag e ((h▸h'▸ls':List (List (κ.T S.T×S.T τ)))++[l]))::rm (rm s.o i) k) (s.n+1) (.tr s.n)
      | _,_,_,_=>.stop
     | _,_=>.stop
    | _,_=>.stop
   | _,_=>.stop
  | _,_,_=>.stop
 | _=>.stop
def ZE (c:Bool):SV->SV->Option SV
 | .v (.int k a),.v (.int k' b)=>match IQ k' k with
  | true=>some (.v (.int k (if c=true then a else b)))
  | false=>none
 | .v (.string ⟨⟨a⟩⟩),.v (.string ⟨⟨b⟩⟩)=>some (.v (.string ⟨⟨if c=true then a else b⟩⟩))
 | .b a,.b b=>some (.b (if c=true then a else b))
 | .v (.bool a),.b b=>some (.b (if c=true then a else b))
 | .b a,.v (.bool b)=>some (.b (if c=true then a else b))
 | _,_=>none
def ig:List SV->Option (List Int)
 | []=>some []
 | .v (.int .u8 n)::r=>match ig r with
  | some l=>some (n::l)
  | none=>none
 | _=>none
def Pm (s:St S) (x:SV):R S:=match x with
 | .row i n=>match lk s.o i with
  | some (.row _ z m cs)=>match Nat.beq m n,Nat.beq z 1,Nat.ble 1 n,ig cs with
   | true,true,true,some xs=>.val none (.v (.string ⟨⟨xs.map fun k=>k.toNat.toUInt8⟩⟩))
   | _,_,_,_=>.stop
  | _=>.stop
 | .view i off len _=>match lk s.o i with
  | some (.AX _ cs)=>match ig cs with
   | some xs=>.val (some (decide (off+len<=xs.length))) (.v (.string ⟨⟨((xs.drop off).take len).map fun k=>k.toNat.toUInt8⟩⟩))
   | none=>.stop
  | _=>.stop
 | .tr i=>match lk s.o i with
  | some (.tr τ _ l)=>match Td (S.fds τ) with
   | true=>.val none (.v (.string ⟨⟨l.map fun x=>(eK S τ x).toNat.toUInt8⟩⟩))
   | false=>.stop
  | _=>.stop
 | _=>.stop
def TJ (tb:List (Nat×TI)) (s:St S) (ts t:TI) (a:SV):R S:=match ts.d with
 | .slice e _=>match t.d,DS tb e with
  | .str,some (.int .u8)=>Pm s a
  | _,_=>.stop
 | _=>conv t a
def evalOp (tb:List (Nat×TI)) (s:St S):Op->R S
 | .move x=>match ev s x with|some v=>.val none v|none=>.stop
 | .assign x=>match ev s x with|some v=>.val none v|none=>.stop
 | .pick c x y=>match ev s c with
  | some (.v (.bool true))=>(match ev s x with|some v=>.val none v|none=>.stop)
  | some (.v (.bool false))=>(match ev s y with|some v=>.val none v|none=>.stop)
  | some (.b c)=>(match ev s x,ev s y with
   | some u,some v=>match ZE c u v with
    | some z=>.val none z
    | none=>.stop
   | _,_=>.stop)
  | _=>.stop
 | .alloc T=>match lk tb T with|some t=>.new (.AX T t.zc)|none=>.stop
 | .box T x=>match (ev s x).bind SV.cells with|some cs=>.new (.AX T cs)|none=>.stop
 | .load T x=>JJ tb s T x
 | .store T x y=>IY tb s T x y
 | .nilCheck x=>XU s x
 | .binOp op T x y _=>match ev s x,ev s y with
  | some a,some b=>match DS tb T with
   | some .bool=>match a.Pf,b.Pf with
    | some p,some q=>eC op p q
    | _,_=>.stop
   | some (.struct _)=>eB tb op T a b
   | some (.ptr _)=>eF op a b
   | some (.slice _ _)=>eE s op a b
   | _=>match qD tb T,op with
    | true,.add=>eG a b
    | _,_=>bin op a b
  | _,_=>.stop
 | .unOp op _ x=>match ev s x with|some a=>un op a|none=>.stop
 | .convert src dst x=>match lk tb src,lk tb dst,ev s x with|some ts,some t,some a=>TJ tb s ts t a|_,_,_=>.stop
 | .makeFunc (.func f) ⟨[]⟩ ⟨cap⟩=>match Nat.ble 1000000 f,Ht s cap with|false,some l=>.val none (.fn f l)|_,_=>.stop
 | .makeFunc (.func f) ⟨fst⟩ ⟨[]⟩=>match Ht s fst with|some l=>.val none (.fn (f+1000000) l)|none=>.stop
 | .fieldAddr T x j=>Hu tb s T x j
 | .field T x j=>Po tb s T x j
 | .indexAddr T x i=>Hv tb s T x i
 | .index T x i=>match DS tb T with|some .str=>Pp s x i|some (.array n e esz)=>M7 tb s n e esz x i|_=>.stop
 | .slice T x lo hi none=>G4 tb s T x lo hi
 | .extract x j=>Kj s x j
 | .build T ⟨parts⟩=>Pk tb s T parts
 | .buildSlice T n ⟨parts⟩=>iw (Yo tb s T n parts) (G2 tb s T n parts)
 | .makeSlice T l c=>iw (Ym tb s T l c) (Yk tb s T l c)
 | .makeMap T none=>Yl tb T
 | .mapUpdate T m k v=>cO tb s T m k v
 | .insert T m k v=>cO tb s T m k v
 | .mapEntry T m k=>eb tb s T m k
 | .entryStore _ m st v=>ec s m st v
 | .lookup T m k ok=>Yd tb s T m k ok
 | .call ⟨.builtin .len,⟨[x]⟩,⟨[T]⟩⟩=>XT tb s T x
 | .call ⟨.builtin .min,⟨[x,y]⟩,_⟩=>Jv false s x y
 | .call ⟨.builtin .max,⟨[x,y]⟩,_⟩=>Jv true s x y
 | .call ⟨.builtin .append,⟨[x,y]⟩,⟨[T,T']⟩⟩=>match Nat.beq T' T with|true=>iw (Q0 tb s T x y) (iw (dx tb s T x y) (dy tb s T x y))|false=>match DS tb T' with|some .str=>dz tb s T x y|_=>.stop
 | .call ⟨.builtin .copy,⟨[x,y]⟩,⟨[T,_]⟩⟩=>XR tb s T x y
 | _=>.stop
end
end Go.En
