/-
 The evaluation of one operation in a state (evalOp), and the table of types that it goes by.
-/
import Derived.Test.YtikecakpcfpghaaGreatDoorMa
namespace Go.En
open Go.RowKit
inductive TD where
 | int (k:IntKind)
 | bool
 | str
 | slice (e esz:Nat)
 | struct (fs:List (Nat×Nat×Nat))
 | array (n e esz:Nat)
 | ptr (e:Nat)
 | map (k e:Nat)
 | other
structure TI where
 sz:Nat
 bs:Nat
 z:Value
 zc:List SV
 d:TD
 τ:Option Nat
 eq:Option (List LK):=none
 δ:Option Nat:=none
def TI.agg (t:TI):Bool:=match t.d with
 | .struct _|.array _ _ _=>true
 | _=>false
def FK:TypeDesc->Bool
 | .struct _|.array _ _=>false
 | _=>true
theorem AT {P:Program} {T:Nat} {d:TypeDesc} (h:P.underlying T=some d) (w:World):(isAgg T).run P w=.ok (!FK d) w:=by
 unfold Go.isAgg
 rw [Sem.run_bind,run_underlying h w]
 cases d<;>simp [FK]
def PQ (P:Program):List Field->List (Nat×Nat×Nat)->Prop
 | [],[]=>True
 | f::l,(o,t,s)::r=>f.offset=o/\f.type=t/\(P.info? t).map (·.size)=some s/\s≠0/\PQ P l r
 | _,_=>False
def TD.ok (P:Program) (T:Nat):TD->Prop
 | .int k=>P.underlying T=some (.int k)
 | .bool=>P.underlying T=some .bool
 | .str=>P.underlying T=some .string
 | .slice e esz=>P.underlying T=some (.slice e)/\(P.info? e).map (·.size)=some esz
 | .struct fs=> ∃ l,P.underlying T=some (.struct l)/\PQ P l.toList fs
 | .array n e esz=>P.underlying T=some (.array n e)/\(P.info? e).map (·.size)=some esz
 | .ptr e=>P.underlying T=some (.pointer e)
 | .map k e=>P.underlying T=some (.map k e)
 | .other=> ∃ d,P.underlying T=some d/\FK d=true
def Fd.zeroV:Fd->Value
 | .int k=>.int k 0
 | .bool=>.bool false
 | .str=>.string ⟨⟨[]⟩⟩
 | .sl _=>.slice none 0 0
 | .ow _ _=>.slice none 0 0
def Fd.O4 {T:Nat->Type}:Fd->FC T
 | .int k=>.int k 0
 | .bool=>.bool false
 | .str=>.str []
 | .sl σ=>.sl σ []
 | .ow σ E=>.ow σ E []
structure TI.ok (S:Aq) (P:Program) (T:Nat) (t:TI):Prop where
 info:(P.info? T).map (fun i=>(i.zero,i.size,i.bytes))=some (some t.z,t.sz,t.bs)
 zc: ∀ β,t.z.cells.toList=AA β t.zc
 zn: ∀ N,BR N t.zc
 zl:t.zc.length=t.sz
 desc:t.d.ok P T
 nY: ∀ ks,t.eq=some ks->lf P T ks
 Za: ∀ τ,t.τ=some τ->S.sz τ=t.sz/\0<t.sz/\S.enc τ (S.A5 τ)=(S.fds τ).map Fd.O4/\t.z.cells.toList=(S.fds τ).map Fd.zeroV
 my: ∀ τ,t.δ=some τ->S.sz τ=t.sz/\0<t.sz/\S.enc τ (S.A5 τ)=(S.fds τ).map Fd.O4/\t.z.cells.toList=(S.fds τ).map Fd.zeroV
def AU (S:Aq) (P:Program):List (Nat×TI)->Prop
 | []=>True
 | (T,t)::r=>t.ok S P T/\AU S P r
theorem AU.get {S:Aq} {P:Program}: ∀ {tb:List (Nat×TI)},AU S P tb-> ∀ {T:Nat} {t:TI},lk tb T=some t->t.ok S P T
 | [],_,_,_,h=>by simp [AS] at h
 | (U,u)::r,hk,T,t,h=>by
  simp only [AI] at h
  split at h
  ·rename_i he;simp only [Option.some.injEq] at h;subst h;subst he;exact hk.1
  ·exact AU.get hk.2 h
def SV.cells:SV->Option (List SV)
 | .agg cs=>some cs
 | .v (.agg a)=>some (a.toList.map .v)
 | .v (.int k n)=>some [.v (.int k n)]
 | .v (.bool c)=>some [.v (.bool c)]
 | .v (.string s)=>some [.v (.string s)]
 | .v (.pointer a)=>some [.v (.pointer a)]
 | .v (.slice a n c)=>some [.v (.slice a n c)]
 | .v (.map r)=>some [.v (.map r)]
 | .v (.func f a c)=>some [.v (.func f a c)]
 | .v .nilFunc=>some [.v .nilFunc]
 | .v .nilIface=>some [.v .nilIface]
 | .v (.iface t x)=>some [.v (.iface t x)]
 | .v (.float k c)=>some [.v (.float k c)]
 | .v (.complex k a c)=>some [.v (.complex k a c)]
 | .v _=>none
 | .Gg _=>none
 | .b c=>some [.b c]
 | .ptr i off=>some [.ptr i off]
 | .row i n=>some [.row i n]
 | .mk i e=>some [.mk i e]
 | .hm i=>some [.hm i]
 | .tr i=>some [.tr i]
 | .ep i s e o=>some [.ep i s e o]
 | .view i o l c=>some [.view i o l c]
 | .Bv i=>some [.Bv i]
 | .h i=>some [.h i]
 | .vp i o=>some [.vp i o]
 | .ap i n e o=>some [.ap i n e o]
 | .pr i z e o=>some [.pr i z e o]
 | .pp i z e o y j q=>some [.pp i z e o y j q]
 | .fn f c=>some [.fn f c]
def SV.one:SV->Bool
 | .agg _=>false
 | .Gg _=>false
 | .v x=>x.oneCell'
 | .h _=>true
 | .vp _ _=>true
 | _=>true
def MR:List SV->Bool
 | []=>true
 | x::r=>match x.one with
  | true=>MR r
  | false=>false
def SV.PB:SV->Option Bool
 | .b c=>some c
 | .v (.bool c)=>some c
 | _=>none
def H4:IntKind->IntKind->Bool
 | .i8,.i8=>true|.i16,.i16=>true|.i32,.i32=>true|.i64,.i64=>true
 | .u8,.u8=>true|.u16,.u16=>true|.u32,.u32=>true|.u64,.u64=>true
 | _,_=>false
theorem DB (k k':IntKind):H4 k k'=true↔k=k':=by cases k<;>cases k'<;>simp [H4]
def Oj (x:SV) (k:LK):Bool:=match k,x with
 | .int k,.v (.int k' _)=>H4 k' k
 | .bool,.v (.bool _)=>true
 | .bool,.b _=>true
 | .str,.v (.string ⟨⟨_⟩⟩)=>true
 | _,_=>false
def EU:List SV->List LK->Bool
 | [],[]=>true
 | x::r,k::q=>match Oj x k with
  | true=>EU r q
  | false=>false
 | _,_=>false
def lO (x y:SV):Bool:=match x,y with
 | .v (.int _ a),.v (.int _ b)=>decide (a=b)
 | .v (.string ⟨⟨a⟩⟩),.v (.string ⟨⟨b⟩⟩)=>decide (a=b)
 | x,y=>match x.PB,y.PB with
  | some a,some b=>a == b
  | _,_=>false
def OG:List SV->List SV->Bool
 | x::r,y::q=>lO x y && OG r q
 | _,_=>true
inductive R (S:Aq) where
 | val (c:Option Bool) (x:SV)
 | new (b:Own S)
 | SC (c:Option Bool) (i:Nat) (b:Own S)
 | nm (c:Option Bool) (o1:List (Nat×Own S)) (n':Nat) (v:SV)
 | x (c:Option Bool) (o':List (Nat×Own S)) (n':Nat) (v:SV)
 | stop
def CB:Option Bool->Prop
 | none=>True
 | some b=>b=true
section
variable {S:Aq}
def CS:List (FC S.T)->Nat->List (Nat×Own S)->List SV×List (Nat×Own S)×Nat
 | [],n,o=>([],o,n)
 | .int k m::r,n,o=>match CS r n o with
  | (a,b,c)=>(.v (.int k m)::a,b,c)
 | .bool b'::r,n,o=>match CS r n o with
  | (a,b,c)=>(.b b'::a,b,c)
 | .str s::r,n,o=>match CS r n o with
  | (a,b,c)=>(.v (.string ⟨⟨s⟩⟩)::a,b,c)
 | .sl σ l::r,n,o=>match CS r (n+1) ((n,.sl σ l)::o) with
  | (a,b,c)=>(.h n::a,b,c)
 | .ow _ _ _::r,n,o=>match CS r (n+1) ((n,.any)::o) with
  | (a,b,c)=>(.h n::a,b,c)
def EH:List (FC S.T)->Nat->List SV×List (Nat×Own S)×Nat
 | [],n=>([],[],n)
 | .int k m::r,n=>match EH r n with
  | (a,b,c)=>(.v (.int k m)::a,b,c)
 | .bool b'::r,n=>match EH r n with
  | (a,b,c)=>(.b b'::a,b,c)
 | .str s::r,n=>match EH r n with
  | (a,b,c)=>(.v (.string ⟨⟨s⟩⟩)::a,b,c)
 | .sl σ l::r,n=>match EH r (n+1) with
  | (a,b,c)=>(.h n::a,(n,.sl σ l)::b,c)
 | .ow _ _ _::r,n=>match EH r (n+1) with
  | (a,b,c)=>(.h n::a,(n,.any)::b,c)
def rd (o:List (Nat×Own S)):(f:Fd)->SV->Option (f.T S.T)
 | .int k,.v (.int k' n)=>match H4 k' k with
  | true=>some n
  | false=>none
 | .bool,.b c=>some c
 | .bool,.v (.bool c)=>some c
 | .str,.v (.string ⟨⟨s⟩⟩)=>some s
 | .sl σ,.h i=>match lk o i with
  | some (.sl σ' l)=>match Nat.decEq σ' σ with
   | .isTrue h=>some (h▸l)
   | .isFalse _=>none
  | _=>none
 | .sl _,.v (.slice none n c)=>match Nat.beq n 0,Nat.beq c 0 with
  | true,true=>some []
  | _,_=>none
 | .sl _,.view _ _ n _=>match Nat.beq n 0 with
  | true=>some []
  | false=>none
 | _,_=>none
def QV (o:List (Nat×Own S)):(fs:List Fd)->Ps S.T fs->Nat->List SV->Option (Ps S.T fs)
 | _,p,_,[]=>some p
 | [],_,_,_::_=>none
 | f::r,p,0,v::vs=>match rd o f v with
  | some y=>match QV o r p.2 0 vs with
   | some q=>some (y,q)
   | none=>none
  | none=>none
 | _::r,p,off+1,vs=>match QV o r p.2 off vs with
  | some q=>some (p.1,q)
  | none=>none
def Ys (o:List (Nat×Own S)):(fs:List Fd)->List SV->Option (Ps S.T fs×List SV)
 | [],vs=>some ((),vs)
 | f::r,v::vs=>match rd o f v with
  | some y=>match Ys o r vs with
   | some (q,z)=>some ((y,q),z)
   | none=>none
  | none=>none
 | _::_,[]=>none
def Ik (o:List (Nat×Own S)) (τ:Nat):Nat->List SV->Option (List (S.T τ))
 | 0,[]=>some []
 | 0,_::_=>none
 | n+1,cs=>match Ys o (S.fds τ) cs with
  | some (p,z)=>match Ik o τ n z with
   | some l=>some (S.of τ p::l)
   | none=>none
  | none=>none
def Yd:List Fd->Nat->Option Nat
 | [],_=>none
 | f::_,0=>match f with
  | .ow σ _=>some σ
  | _=>none
 | _::r,k+1=>Yd r k
def Jg {T:Nat->Type} (σ:Nat):(fs:List Fd)->Ps T fs->Nat->Option (List (T σ))
 | [],_,_=>none
 | .ow σ' _::_,p,0=>match Nat.decEq σ' σ with
  | .isTrue h=>some (h▸p.1)
  | .isFalse _=>none
 | _::_,_,0=>none
 | _::r,p,k+1=>Jg σ r p.2 k
def Nx {T:Nat->Type} (σ:Nat) (m:List (T σ)):(fs:List Fd)->Ps T fs->Nat->Option (Ps T fs)
 | [],_,_=>none
 | .ow σ' _::_,p,0=>match Nat.decEq σ' σ with
  | .isTrue h=>some (h▸m,p.2)
  | .isFalse _=>none
 | _::_,_,0=>none
 | _::r,p,k+1=>match Nx σ m r p.2 k with
  | some q=>some (p.1,q)
  | none=>none
def ew (o:List (Nat×Own S)) (σ E:Nat):SV->Option (List (S.T σ)×Option Nat)
 | .tr j=>match lk o j with
  | some (.tr σ' E' l)=>match Nat.beq E' E,Nat.decEq σ' σ with
   | true,.isTrue h=>some (h▸l,some j)
   | _,_=>none
  | _=>none
 | .v (.slice none n c)=>match Nat.beq n 0,Nat.beq c 0 with
  | true,true=>some ([],none)
  | _,_=>none
 | _=>none
def Wo:Option Nat->List Nat->List Nat
 | none,l=>l
 | some j,l=>j::l
def Ri (o:List (Nat×Own S)):(fs:List Fd)->List SV->Option (Ps S.T fs×List Nat×List SV)
 | [],vs=>some ((),[],vs)
 | .ow σ E::r,v::vs=>match ew o σ E v with
  | some (l,j)=>match Ri o r vs with
   | some (q,js,z)=>some ((l,q),Wo j js,z)
   | none=>none
  | none=>none
 | f::r,v::vs=>match rd o f v with
  | some y=>match Ri o r vs with
   | some (q,js,z)=>some ((y,q),js,z)
   | none=>none
  | none=>none
 | _::_,[]=>none
def Ks (o:List (Nat×Own S)) (τ:Nat):Nat->List SV->Option (List (S.T τ)×List Nat)
 | 0,[]=>some ([],[])
 | 0,_::_=>none
 | n+1,cs=>match Ri o (S.fds τ) cs with
  | some (p,js,z)=>match Ks o τ n z with
   | some (l,ks)=>some (S.of τ p::l,js++ks)
   | none=>none
  | none=>none
def Xa (i:Nat):List Nat->Bool
 | []=>false
 | j::r=>match Nat.beq j i with
  | true=>true
  | false=>Xa i r
def QC:List Nat->Bool
 | []=>true
 | j::r=>match Xa j r with
  | true=>false
  | false=>QC r
def cS {α:Type}:List (Nat×α)->List Nat->List (Nat×α)
 | o,[]=>o
 | o,j::r=>cS (rm o j) r
def JX {T:Nat->Type}:(κ:Fd)->κ.T T->κ.T T->Bool
 | .int _,a,b=>decide (a=b)
 | .str,a,b=>decide (a=b)
 | _,_,_=>false
def Dr {T:Nat->Type} {α:Type} (κ:Fd):List (κ.T T×α)->κ.T T->Option α
 | [],_=>none
 | x::r,k=>match JX κ k x.1 with
  | true=>some x.2
  | false=>Dr κ r k
def Kn {T:Nat->Type} {α:Type} (κ:Fd):List (κ.T T×α)->κ.T T->α->List (κ.T T×α)
 | [],k,v=>[(k,v)]
 | x::r,k,v=>match JX κ k x.1 with
  | true=>(k,v)::r
  | false=>x::Kn κ r k v
def Ze (cs:List SV) (off:Nat) (new:List SV):List SV:=
 match new with
 | [x]=>cs.set off x
 | _=>cs.take off++new++cs.drop (off+new.length)
def ld (t:TI) (cs:List SV) (off:Nat):R S:=
 match t.agg with
 | true=>match Nat.ble (off+t.sz) cs.length with
  | true=>.val none (.agg ((cs.drop off).take t.sz))
  | false=>.stop
 | false=>match cs[off]? with
  | some x=>.val none x
  | none=>.stop
def jJ (t:TI) (s:St S) (τ:Nat) (l:List (S.T τ)) (e off:Nat):R S:=
 match EH (((S.enc τ (l.getD e (S.A5 τ))).drop off).take t.sz) s.n with
 | (cs,o1,n')=>match Nat.beq cs.length t.sz with
  | true=>match t.agg with
   | true=>.nm (some (decide (e<l.length))) o1 n' (.agg cs)
   | false=>match cs with
    | [.v y]=>match Nat.beq n' s.n with
     | true=>.val (some (decide (e<l.length))) (.v y)
     | false=>.nm (some (decide (e<l.length))) o1 n' (.v y)
    | [x]=>.nm (some (decide (e<l.length))) o1 n' x
    | _=>.stop
  | false=>.stop
def SI {T:Nat->Type} (i z e:Nat):List (FC T)->List SV->Nat->List SV
 | .ow _ _ _::r,_::cs,p=>.pr i z e p::SI i z e r cs (p+1)
 | _::r,x::cs,p=>x::SI i z e r cs (p+1)
 | _,cs,_=>cs
def mC (t:TI) (s:St S) (τ:Nat) (l:List (S.T τ)) (i e off:Nat):R S:=
 match EH (((S.enc τ (l.getD e (S.A5 τ))).drop off).take t.sz) s.n with
 | (cs,o1,n')=>match Nat.beq cs.length t.sz with
  | true=>match t.agg with
   | true=>.nm (some (decide (e<l.length))) o1 n' (.agg (SI i (S.sz τ) e (((S.enc τ (l.getD e (S.A5 τ))).drop off).take t.sz) cs off))
   | false=>match SI i (S.sz τ) e (((S.enc τ (l.getD e (S.A5 τ))).drop off).take t.sz) cs off with
    | [x]=>.nm (some (decide (e<l.length))) o1 n' x
    | _=>.stop
  | false=>.stop
def cz (b:Bool):R S->R S
 | .nm (some c) o1 n' v=>.nm (some (b && c)) o1 n' v
 | .val (some c) v=>.val (some (b && c)) v
 | _=>.stop
def I2 (k:IntKind):Nat->List SV->Option (List Int)
 | 0,_=>some []
 | n+1,.v (.int k' x)::r=>match H4 k' k,I2 k n r with
  | true,some l=>some (x::l)
  | _,_=>none
 | _+1,_=>none
def J8 (k:IntKind) (e:Nat) (v:Int):Nat->List Int->List SV
 | _,[]=>[]
 | m,x::r=>.v (.int k (if e=m then v else x))::J8 k e v (m+1) r
def mB (t:TI) (cs:List SV) (n e off:Nat):R S:=
 match t.d with
 | .int k=>match I2 k n (cs.drop off) with
  | some l=>.val (some (decide (e<l.length))) (.v (.int k (l.getD e 0)))
  | none=>.stop
 | _=>.stop
def nQ (t:TI) (U i:Nat) (cs:List SV) (n e off:Nat) (new:List SV):R S:=
 match t.d,new with
 | .int k,[.v (.int k' v)]=>match H4 k' k,I2 k n (cs.drop off) with
  | true,some l=>.SC (some (decide (e<l.length))) i (.AN U (cs.take off++(J8 k e v 0 l++cs.drop (off+n))))
  | _,_=>.stop
 | _,_=>.stop
def Iy (tb:List (Nat×TI)) (s:St S) (T:Nat) (x:Operand):R S:=
 match lk tb T with
 | some t=>match ev s x with
  | some (.ptr i off)=>match lk s.o i with
   | some (.AN _ cs)=>ld t cs off
   | some (.row _ _ _ cs)=>ld t cs off
   | _=>.stop
  | some (.vp i off)=>match lk s.o i with
   | some (.vu cs)=>ld t cs off
   | _=>.stop
  | some (.ap i n e off)=>match lk s.o i with
   | some (.AN _ cs)=>mB t cs n e off
   | _=>.stop
  | some (.ep i esz e off)=>match lk s.o i with
   | some (.tr τ _ l)=>match Nat.beq esz (S.sz τ) with
    | true=>jJ t s τ l e off
    | false=>.stop
   | some (.dp τ _ l)=>match Nat.beq esz (S.sz τ) with
    | true=>mC t s τ l i e off
    | false=>.stop
   | some (.mr _ _ _ _ ls)=>match Nat.beq esz 1,Nat.beq off 0,t.agg with
    | true,true,false=>.val (some (decide (e<ls.length))) (.mk i e)
    | _,_,_=>.stop
   | _=>.stop
  | some (.pp i z e off y j q)=>match lk s.o i with
   | some (.dp τ _ l)=>match Nat.beq z (S.sz τ),Yd (S.fds τ) off with
    | true,some σ=>match Nat.beq y (S.sz σ),Jg σ (S.fds τ) (S.to τ (l.getD e (S.A5 τ))) off with
     | true,some m=>cz (decide (e<l.length)) (jJ t s σ m j q)
     | _,_=>.stop
    | _,_=>.stop
   | _=>.stop
  | _=>.stop
 | none=>.stop
def IF (tb:List (Nat×TI)) (s:St S) (T:Nat) (x y:Operand):R S:=
 match lk tb T with
 | some t=>match (ev s y).bind SV.cells with
  | some new=>match Nat.beq new.length t.sz with
   | true=>match ev s x with
    | some (.ptr i off)=>match lk s.o i with
     | some (.AN U cs)=>match Nat.ble (off+new.length) cs.length,MR new with
      | true,true=>.SC none i (.AN U (Ze cs off new))
      | _,_=>.stop
     | some (.row U sz n cs)=>match Nat.ble (off+new.length) cs.length,MR new with
      | true,true=>.SC none i (.row U sz n (Ze cs off new))
      | _,_=>.stop
     | _=>.stop
    | some (.ep i esz e off)=>match lk s.o i with
     | some (.tr τ E l)=>match Nat.beq esz (S.sz τ) with
      | true=>match QV s.o (S.fds τ) (S.to τ (l.getD e (S.A5 τ))) off new with
       | some q=>.SC (some (decide (e<l.length))) i (.tr τ E (l.set e (S.of τ q)))
       | none=>.stop
      | false=>.stop
     | some (.dp τ E l)=>match Nat.beq esz (S.sz τ) with
      | true=>match QV s.o (S.fds τ) (S.to τ (l.getD e (S.A5 τ))) off new with
       | some q=>.SC (some (decide (e<l.length))) i (.dp τ E (l.set e (S.of τ q)))
       | none=>.stop
      | false=>.stop
     | _=>.stop
    | some (.pp i z e off y j q)=>match lk s.o i with
     | some (.dp τ E l)=>match Nat.beq z (S.sz τ),Yd (S.fds τ) off with
      | true,some σ=>match Nat.beq y (S.sz σ),Jg σ (S.fds τ) (S.to τ (l.getD e (S.A5 τ))) off with
       | true,some m=>match QV s.o (S.fds σ) (S.to σ (m.getD j (S.A5 σ))) q new with
        | some x=>match Nx σ (m.set j (S.of σ x)) (S.fds τ) (S.to τ (l.getD e (S.A5 τ))) off with
         | some p=>.SC (some (decide (e<l.length/\j<m.length))) i (.dp τ E (l.set e (S.of τ p)))
         | none=>.stop
        | none=>.stop
       | _,_=>.stop
      | _,_=>.stop
     | _=>.stop
    | some (.ap i n e off)=>match lk s.o i with
     | some (.AN U cs)=>nQ t U i cs n e off new
     | _=>.stop
    | _=>.stop
   | false=>.stop
  | none=>.stop
 | none=>.stop
def Ws (s:St S) (x:Operand):R S:=
 match ev s x with
 | some (.ptr i off)=>.val none (.ptr i off)
 | some (.ep i z e off)=>.val none (.ep i z e off)
 | some (.pp i z e off y j q)=>.val none (.pp i z e off y j q)
 | some (.vp i off)=>match lk s.o i with
  | some (.vu _)=>.val none (.vp i off)
  | _=>.stop
 | some (.v (.pointer (some a)))=>.val none (.v (.pointer (some a)))
 | some (.fn f c)=>.val none (.fn f c)
 | _=>.stop
def BD (n:Int):Bool:=decide (-9223372036854775808<=n/\n<=9223372036854775807)
theorem Ch {n:Int}:BD n=true↔ -9223372036854775808<=n/\n<=9223372036854775807:=by simp [BD]
def E0 (l:List UInt8) (j:Int):Int:=((l.getD j.toNat 0).toNat:Int)
def dB (op:BinOp) (k:IntKind) (a b:Int):R S:=
 match op with
 | .eql=>.val none (.b (decide (a=b)))
 | .neq=>.val none (.b (!decide (a=b)))
 | .lss=>.val none (.b (decide (a<b)))
 | .leq=>.val none (.b (decide (a<=b)))
 | .gtr=>.val none (.b (decide (b<a)))
 | .geq=>.val none (.b (decide (b<=a)))
 | .add=>match k with
  | .i64=>.val (some (BD (a+b))) (.v (.int .i64 (a+b)))
  | k=>.val none (.v (.int k (k.wrap (a+b))))
 | .sub=>match k with
  | .i64=>.val (some (BD (a -b))) (.v (.int .i64 (a -b)))
  | k=>.val none (.v (.int k (k.wrap (a -b))))
 | .mul=>match k with
  | .i64=>.val (some (BD (a*b))) (.v (.int .i64 (a*b)))
  | k=>.val none (.v (.int k (k.wrap (a*b))))
 | .quo=>match k with
  | .i64=>.val (some (decide (b≠0/\BD (a.tdiv b)=true))) (.v (.int .i64 (a.tdiv b)))
  | k=>.val (some (decide (b≠0))) (.v (.int k (k.wrap (a.tdiv b))))
 | .rem=>.val (some (decide (b≠0))) (.v (.int k (a.tmod b)))
 | .and=>.val none (.v (.int k (bits .and k a b)))
 | .or=>.val none (.v (.int k (bits .or k a b)))
 | .xor=>.val none (.v (.int k (bits .xor k a b)))
 | .andNot=>.val none (.v (.int k (bits .andNot k a b)))
 | _=>.stop
def bin (op:BinOp) (x y:SV):R S:=
 match x,y with
 | .v (.int k a),.v (.int k' b)=>match op with
  | .shl=>.val (some (decide (0<=b/\b<=k.bits))) (.v (.int k (k.wrap (a*2 ^ b.toNat))))
  | .shr=>.val (some (decide (0<=b/\b<=k.bits))) (.v (.int k (a / 2 ^ b.toNat)))
  | op=>match H4 k' k with
   | true=>dB op k a b
   | false=>.stop
 | .v (.string ⟨⟨a⟩⟩),.v (.string ⟨⟨b⟩⟩)=>match op with
  | .eql=>.val none (.b (decide (a=b)))
  | .neq=>.val none (.b (!decide (a=b)))
  | .add=>.val (some (decide (a.length+b.length<=9223372036854775807))) (.v (.string ⟨⟨a++b⟩⟩))
  | .lss=>.val none (.b (Op.bytesLess a b))
  | _=>.stop
 | _,_=>.stop
def dA (op:BinOp) (a b:Bool):R S:=
 match op with
 | .eql=>.val none (.b (a == b))
 | .neq=>.val none (.b (!(a == b)))
 | _=>.stop
def nx (tb:List (Nat×TI)) (T:Nat):Bool:=match lk tb T with
 | some t=>match t.δ,t.d with
  | some _,.int .i64=>true
  | _,_=>false
 | none=>false
def dE (x y:SV):R S:=match x,y with
 | .v (.int .i64 a),.v (.int .i64 b)=>.val none (.v (.int .i64 (IntKind.i64.wrap (a+b))))
 | _,_=>.stop
def SV.Zh:SV->Option (List SV)
 | .agg cs=>some cs
 | .v (.agg a)=>some (a.toList.map .v)
 | _=>none
def VJ (tb:List (Nat×TI)) (op:BinOp) (T:Nat) (x y:SV):R S:=
 match lk tb T with
 | some t=>match t.eq,x.Zh,y.Zh with
  | some ks,some l,some m=>match EU l ks,EU m ks with
   | true,true=>match op with
    | .eql=>.val none (.b (OG l m))
    | .neq=>.val none (.b (!OG l m))
    | _=>.stop
   | _,_=>.stop
  | _,_,_=>.stop
 | none=>.stop
def jU:SV->Option Bool
 | .ptr _ _=>some false
 | .ep _ _ _ _=>some false
 | .v (.pointer none)=>some true
 | _=>none
def dD (op:BinOp) (x y:SV):R S:=match jU x,y with
 | some b,.v (.pointer none)=>match op with
  | .eql=>.val none (.v (.bool b))
  | .neq=>.val none (.v (.bool (!b)))
  | _=>.stop
 | _,_=>.stop
def YV {α:Type} (l:List α):Bool:=match l with
 | []=>false
 | _::_=>true
def dC (s:St S) (op:BinOp) (x y:SV):R S:=match x,y with
 | .h i,.v (.slice none 0 0)=>match lk s.o i with
  | some (.sl _ l)=>match op with
   | .eql=>.val (some (YV l)) (.v (.bool false))
   | .neq=>.val (some (YV l)) (.v (.bool true))
   | _=>.stop
  | _=>.stop
 | _,_=>.stop
def un (op:UnOp) (x:SV):R S:=
 match op,x with
 | .not,.v (.bool b)=>.val none (.v (.bool (!b)))
 | .not,.b b=>.val none (.b (!b))
 | .neg,.v (.int .i64 n)=>.val (some (BD (-n))) (.v (.int .i64 (-n)))
 | .xor,.v (.int .i64 n)=>.val none (.v (.int .i64 (bits .xor .i64 (-1) n)))
 | _,_=>.stop
def conv (t:TI) (x:SV):R S:=
 match t.d,x with
 | .int .i64,.v (.int _ n)=>.val (some (BD n)) (.v (.int .i64 n))
 | .int k,.v (.int _ n)=>.val none (.v (.int k (k.wrap n)))
 | .str,.v (.string s)=>.val none (.v (.string s))
 | _,_=>.stop
def HZ (s:St S):List Operand->Option (List SV)
 | []=>some []
 | x::r=>match ev s x with
  | some v=>match HZ s r with
   | some l=>some (v::l)
   | none=>none
  | none=>none
def DC (tb:List (Nat×TI)) (T:Nat):Option TD:=match lk tb T with
 | some t=>some t.d
 | none=>none
def Qs (t:TI) (j:Nat):Option (Nat×Nat×Nat):=match t.d with
 | .struct fs=>fs[j]?
 | _=>none
def Lg (tb:List (Nat×TI)) (T j:Nat):Option (Nat×Nat×Nat):=match lk tb T with
 | some t=>Qs t j
 | none=>none
def Ha (tb:List (Nat×TI)) (s:St S) (T:Nat) (x:Operand) (j:Nat):R S:=
 match Lg tb T j with
 | some (o,_,_)=>match ev s x with
  | some (.ptr i off)=>.val none (.ptr i (off+o))
  | some (.ep i z e off)=>.val none (.ep i z e (off+o))
  | some (.pp i z e off y j q)=>.val none (.pp i z e off y j (q+o))
  | some (.vp i off)=>match lk s.o i with
   | some (.vu _)=>.val none (.vp i (off+o))
   | _=>.stop
  | some (.v (.pointer (some ⟨b,off,none⟩)))=>.val none (.v (.pointer (some ⟨b,off+o,none⟩)))
  | _=>.stop
 | none=>.stop
def SV.GG:SV->Option (List SV)
 | .agg cs=>some cs
 | .v (.agg a)=>some (a.toList.map .v)
 | _=>none
def PJ (tb:List (Nat×TI)) (s:St S) (T:Nat) (x:Operand) (j:Nat):R S:=
 match Lg tb T j with
 | some (o,ft,_)=>match (ev s x).bind SV.GG with
  | some cs=>match lk tb ft with
   | some t=>ld t cs o
   | none=>.stop
  | none=>.stop
 | none=>.stop
def eC:Operand->Bool
 | .const _=>true
 | _=>false
def Hb (tb:List (Nat×TI)) (s:St S) (T:Nat) (x i:Operand):R S:=
 match ev s i with
 | some (.v (.int _ j))=>match DC tb T with
  | some (.array n _ esz)=>match ev s x with
   | some (.ptr b off)=>match eC i,Nat.beq esz 1 with
    | false,true=>.val (some (decide (0<=j/\j<n))) (.ap b n j.toNat off)
    | _,_=>.val (some (decide (0<=j/\j<n))) (.ptr b (off+j.toNat*esz))
   | some (.vp b off)=>match eC i,lk s.o b with
    | true,some (.vu _)=>.val (some (decide (0<=j/\j<n))) (.vp b (off+j.toNat*esz))
    | _,_=>.stop
   | some (.ep b z e off)=>match eC i with
    | true=>.val (some (decide (0<=j/\j<n))) (.ep b z e (off+j.toNat*esz))
    | false=>.stop
   | _=>.stop
  | some (.slice _ esz)=>match ev s x with
   | some (.h b)=>match lk s.o b with
    | some (.sl σ l)=>match Nat.beq esz (S.sz σ) with
     | true=>match EH (S.enc σ (l.getD j.toNat (S.A5 σ))) s.n with
      | (cs,o1,n')=>.nm (some (decide (0<=j/\j<l.length))) ((n',.vu cs)::o1) (n'+1) (.vp n' 0)
     | false=>.stop
    | _=>.stop
   | some (.tr b)=>match lk s.o b with
    | some (.tr σ _ l)=>match Nat.beq esz (S.sz σ) with
     | true=>.val (some (decide (0<=j/\j<l.length))) (.ep b esz j.toNat 0)
     | false=>.stop
    | some (.dp σ _ l)=>match Nat.beq esz (S.sz σ) with
     | true=>.val (some (decide (0<=j/\j<l.length))) (.ep b esz j.toNat 0)
     | false=>.stop
    | some (.mr _ _ _ _ ls)=>match Nat.beq esz 1 with
     | true=>.val (some (decide (0<=j/\j<ls.length))) (.ep b esz j.toNat 0)
     | false=>.stop
    | _=>.stop
   | some (.pr b z e off)=>match lk s.o b with
    | some (.dp τ _ l)=>match Nat.beq z (S.sz τ),Yd (S.fds τ) off with
     | true,some σ=>match Nat.beq esz (S.sz σ),Jg σ (S.fds τ) (S.to τ (l.getD e (S.A5 τ))) off with
      | true,some m=>.val (some (decide (e<l.length/\0<=j/\j<m.length))) (.pp b z e off esz j.toNat 0)
      | _,_=>.stop
     | _,_=>.stop
    | _=>.stop
   | some (.row b n)=>match lk s.o b with
    | some (.row _ _ m _)=>match Nat.beq m n with
     | true=>.val (some (decide (0<=j/\j<n))) (.ptr b (j.toNat*esz))
     | false=>.stop
    | _=>.stop
   | some (.view b off n _)=>.val (some (decide (0<=j/\j<n))) (.ptr b (off+j.toNat*esz))
   | _=>.stop
  | _=>.stop
 | _=>.stop
def PK (s:St S) (x i:Operand):R S:=
 match ev s x,ev s i with
 | some (.v (.string ⟨⟨l⟩⟩)),some (.v (.int _ j))=>.val (some (decide (0<=j/\j<l.length))) (.v (.int .u8 (E0 l j)))
 | _,_=>.stop
def Jl (k:IntKind):List SV->Option (List Int)
 | []=>some []
 | .v (.int k' x)::r=>match H4 k' k,Jl k r with
  | true,some l=>some (x::l)
  | _,_=>none
 | _::_=>none
def N0:List SV->Option (List (List UInt8))
 | []=>some []
 | .v (.string ⟨⟨x⟩⟩)::r=>match N0 r with
  | some l=>some (x::l)
  | none=>none
 | _::_=>none
def Mi (tb:List (Nat×TI)) (s:St S) (n e esz:Nat) (x i:Operand):R S:=
 match ev s i,(ev s x).bind SV.GG with
 | some (.v (.int _ j)),some (.v (.int k y)::cs)=>match lk tb e,Nat.beq esz 1,Jl k (.v (.int k y)::cs) with
  | some t,true,some l=>match t.agg,Nat.beq l.length n with
   | false,true=>.val (some (decide (0<=j/\j<n))) (.v (.int k (l.getD j.toNat 0)))
   | _,_=>.stop
  | _,_,_=>.stop
 | some (.v (.int _ j)),some (.v (.string s0)::cs)=>match lk tb e,Nat.beq esz 1,N0 (.v (.string s0)::cs) with
  | some t,true,some l=>match t.agg,Nat.beq l.length n with
   | false,true=>.val (some (decide (0<=j/\j<n))) (.v (.string ⟨⟨l.getD j.toNat []⟩⟩))
   | _,_=>.stop
  | _,_,_=>.stop
 | _,_=>.stop
def Wr (tb:List (Nat×TI)) (s:St S) (T:Nat) (x:Operand):R S:=
 match DC tb T with
 | some .str=>match ev s x with
  | some (.v (.string ⟨⟨l⟩⟩))=>.val none (.v (.int .i64 l.length))
  | _=>.stop
 | some (.slice _ _)=>match ev s x with
  | some (.v (.slice _ n _))=>.val none (.v (.int .i64 n))
  | some (.row _ n)=>.val none (.v (.int .i64 n))
  | some (.view _ _ n _)=>.val none (.v (.int .i64 n))
  | some (.tr b)=>match lk s.o b with
   | some (.tr _ _ l)=>.val none (.v (.int .i64 l.length))
   | some (.dp _ _ l)=>.val none (.v (.int .i64 l.length))
   | some (.mr _ _ _ _ ls)=>.val none (.v (.int .i64 ls.length))
   | _=>.stop
  | some (.pr b z e off)=>match lk s.o b with
   | some (.dp τ _ l)=>match Nat.beq z (S.sz τ),Yd (S.fds τ) off with
    | true,some σ=>match Jg σ (S.fds τ) (S.to τ (l.getD e (S.A5 τ))) off with
     | some m=>.val (some (decide (e<l.length))) (.v (.int .i64 m.length))
     | none=>.stop
    | _,_=>.stop
   | _=>.stop
  | some (.h b)=>match lk s.o b with
   | some (.sl _ l)=>.val none (.v (.int .i64 l.length))
   | _=>.stop
  | _=>.stop
 | some (.array n _ _)=>.val none (.v (.int .i64 n))
 | some (.map _ _)=>match ev s x with
  | some (.Bv b)=>match lk s.o b with
   | some (.mp _ _ _ l)=>.val none (.v (.int .i64 l.length))
   | _=>.stop
  | some (.mk b e)=>match lk s.o b with
   | some (.mr _ _ _ _ ls)=>.val (some (decide (e<ls.length))) (.v (.int .i64 (ls.getD e []).length))
   | _=>.stop
  | some (.v (.map none))=>.val none (.v (.int .i64 0))
  | _=>.stop
 | _=>.stop
def Ja (mx:Bool) (s:St S) (x y:Operand):R S:=
 match ev s x,ev s y with
 | some (.v (.int k a)),some (.v (.int _ b))=>match mx with
  | true=>.val none (.v (.int k (if a<b then b else a)))
  | false=>.val none (.v (.int k (if b<a then b else a)))
 | _,_=>.stop
def KS (s:St S) (x:Operand) (j:Nat):R S:=
 match ev s x with
 | some (.v (.tuple ⟨l⟩))=>match l[j]? with
  | some v=>.val none (.v v)
  | none=>.stop
 | some (.Gg l)=>match l[j]? with
  | some v=>.val none v
  | none=>.stop
 | _=>.stop
def IX (s:St S) (d:Int):Option Operand->Option Int
 | none=>some d
 | some x=>match ev s x with
  | some (.v (.int _ n))=>some n
  | _=>none
def Gn (tb:List (Nat×TI)) (s:St S) (T:Nat) (x:Operand) (lo hi:Option Operand):R S:=
 match IX s 0 lo with
 | some a=>match DC tb T with
  | some .str=>match ev s x with
   | some (.v (.string ⟨⟨l⟩⟩))=>match IX s l.length hi with
    | some b=>.val (some (decide (0<=a/\a<=b/\b<=l.length))) (.v (.string ⟨⟨(l.take b.toNat).drop a.toNat⟩⟩))
    | none=>.stop
   | _=>.stop
  | some (.array n _ esz)=>match ev s x with
   | some (.ptr i off)=>match lo,IX s n hi with
    | none,some b=>.val (some (decide (0<=b/\b<=n))) (.view i off b.toNat n)
    | some _,some b=>match Nat.beq esz 1 with
     | true=>.val (some (decide (0<=a/\a<=b/\b<=n/\a<n))) (.view i (off+a.toNat) (b.toNat -a.toNat) (n -a.toNat))
     | false=>.stop
    | _,_=>.stop
   | _=>.stop
  | some (.slice _ esz)=>match ev s x with
   | some (.h i)=>match lk s.o i with
    | some (.sl σ l)=>match Nat.beq esz (S.sz σ),IX s l.length hi with
     | true,some h=>.nm (some (decide (0<=a/\a<=h/\h<=l.length))) [(s.n,.sl σ ((l.take h.toNat).drop a.toNat))] (s.n+1) (.h s.n)
     | _,_=>.stop
    | _=>.stop
   | some (.tr i)=>match lk s.o i with
    | some (.tr σ E l)=>match lo,IX s l.length hi with
     | none,some h=>.x (some (decide (0<=h/\h<=l.length))) ((s.n,.tr σ E (l.take h.toNat))::rm s.o i) (s.n+1) (.tr s.n)
     | _,_=>.stop
    | some (.dp σ E l)=>match lo,IX s l.length hi with
     | none,some h=>.x (some (decide (0<=h/\h<=l.length))) ((s.n,.dp σ E (l.take h.toNat))::rm s.o i) (s.n+1) (.tr s.n)
     | _,_=>.stop
    | some (.mr κ τ ag E ls)=>match lo,IX s ls.length hi with
     | none,some h=>.x (some (decide (0<=h/\h<=ls.length))) ((s.n,.mr κ τ ag E (ls.take h.toNat))::rm s.o i) (s.n+1) (.tr s.n)
     | _,_=>.stop
    | _=>.stop
   | _=>.stop
  | _=>.stop
 | none=>.stop
def Ml (place:Nat->Option (Nat×Nat)) (s:St S):List SV->List (Nat×Operand)->Option (List SV)
 | cs,[]=>some cs
 | cs,(i,x)::r=>match place i with
  | some (off,size)=>match (ev s x).bind SV.cells with
   | some new=>match Nat.beq new.length size,Nat.ble (off+size) cs.length with
    | true,true=>Ml place s (Ze cs off new) r
    | _,_=>none
   | none=>none
  | none=>none
def TY (fs:List (Nat×Nat×Nat)) (i:Nat):Option (Nat×Nat):=match fs[i]? with
 | some f=>some (f.1,f.2.2)
 | none=>none
def C3 {α:Type}:Nat->List α->List α
 | 0,_=>[]
 | n+1,l=>l++C3 n l
def PG (tb:List (Nat×TI)) (s:St S) (T:Nat) (parts:List (Nat×Operand)):R S:=
 match lk tb T with
 | some t=>match t.d with
  | .struct fs=>match Ml (TY fs) s t.zc parts with
   | some cs=>.val none (.agg cs)
   | none=>.stop
  | .array _ _ esz=>match Ml (fun i=>some (i*esz,esz)) s t.zc parts with
   | some cs=>.val none (.agg cs)
   | none=>.stop
  | _=>.stop
 | none=>.stop
def Gl (tb:List (Nat×TI)) (s:St S) (T n:Nat) (parts:List (Nat×Operand)):R S:=
 match DC tb T with
 | some (.slice e esz)=>match lk tb e with
  | some te=>match Nat.ble (n*esz) 16777216,Nat.beq te.sz esz,Nat.ble 1 esz with
   | true,true,true=>match Ml (fun i=>some (i*esz,esz)) s (C3 n te.zc) parts with
    | some cs=>match te.τ with
     | some τ=>match Ik s.o τ n cs with
      | some l=>.new (.tr τ e l)
      | none=>.new (.row e esz n cs)
     | none=>.new (.row e esz n cs)
    | none=>.stop
   | _,_,_=>.stop
  | none=>.stop
 | _=>.stop
def room (bs n:Nat):Bool:=decide (n*(bs+1)<=140737488355328)
def OU (s:St S) (τ e:Nat):SV->Option (Option Nat×List (S.T τ))
 | .v (.slice none n c)=>match Nat.beq n 0,Nat.beq c 0 with
  | true,true=>some (none,[])
  | _,_=>none
 | .tr i=>match lk s.o i with
  | some (.tr τ' E l)=>match Nat.beq E e,Nat.decEq τ' τ with
   | true,.isTrue h=>some (some i,h▸l)
   | _,_=>none
  | _=>none
 | .row i n=>match lk s.o i with
  | some (.row E z m cs)=>match Nat.beq E e,Nat.beq m n,Nat.beq z (S.sz τ) with
   | true,true,true=>match Ik s.o τ n cs with
    | some l=>some (some i,l)
    | none=>none
   | _,_,_=>none
  | _=>none
 | .view i 0 0 0=>match lk s.o i with
  | some (.AN E [])=>match Nat.beq E e with
   | true=>some (some i,[])
   | false=>none
  | _=>none
 | _=>none
def ZR (s:St S) (τ:Nat):SV->Option (Option Bool×List (S.T τ))
 | .v (.slice none n c)=>match Nat.beq n 0,Nat.beq c 0 with
  | true,true=>some (none,[])
  | _,_=>none
 | .tr i=>match lk s.o i with
  | some (.tr τ' _ l)=>match Nat.decEq τ' τ with
   | .isTrue h=>some (none,h▸l)
   | .isFalse _=>none
  | _=>none
 | .h i=>match lk s.o i with
  | some (.sl τ' l)=>match Nat.decEq τ' τ with
   | .isTrue h=>some (none,h▸l)
   | .isFalse _=>none
  | _=>none
 | .row i n=>match lk s.o i with
  | some (.row _ z m cs)=>match Nat.beq m n,Nat.beq z (S.sz τ) with
   | true,true=>match Ik s.o τ n cs with
    | some l=>some (none,l)
    | none=>none
   | _,_=>none
  | _=>none
 | .view i off len cap=>match lk s.o i with
  | some (.AN _ cs)=>match Nat.ble (off+cap*S.sz τ) cs.length with
   | true=>match Ik s.o τ cap ((cs.drop off).take (cap*S.sz τ)) with
    | some l=>some (some (decide (len<=cap)),l.take len)
    | none=>none
   | false=>none
  | _=>none
 | _=>none
def EM (o:List (Nat×Own S)):Option Nat->List (Nat×Own S)
 | none=>o
 | some i=>rm o i
def DK:Option Bool->Bool->Bool
 | none,b=>b
 | some a,b=>a && b
def Qb (tb:List (Nat×TI)) (s:St S) (T:Nat) (x y:Operand):R S:=
 match DC tb T with
 | some (.slice e esz)=>match lk tb e with
  | some te=>match te.τ with
   | some τ=>match Nat.beq esz te.sz,ev s x,ev s y with
    | true,some xv,some yv=>match OU s τ e xv with
     | some (d,l)=>match ZR s τ yv with
      | some (c,l')=>.x (some (DK c (room te.bs (l.length+l'.length)))) ((s.n,.tr τ e (l++l'))::EM s.o d) (s.n+1) (.tr s.n)
      | none=>.stop
     | none=>.stop
    | _,_,_=>.stop
   | none=>.stop
  | none=>.stop
 | _=>.stop
def iS (S:Aq) (τ:Nat) (x:S.T τ):Int:=match S.enc τ x with
 | [.int _ n]=>n
 | _=>0
def TE:List Fd->Bool
 | [.int .u8]=>true
 | _=>false
def mw {T:Nat->Type}:(fs:List Fd)->UInt8->Ps T fs->Ps T fs
 | [.int .u8],c,_=>((c.toNat:Int),())
 | _,_,d=>d
def dG (S:Aq) (τ:Nat) (c:UInt8):S.T τ:=S.of τ (mw (S.fds τ) c (S.to τ (S.A5 τ)))
def c8 (tb:List (Nat×TI)) (s:St S) (T:Nat) (x y:Operand):R S:=
 match DC tb T with
 | some (.slice e esz)=>match lk tb e with
  | some te=>match te.τ,te.z with
   | some τ,.int .u8 (.ofNat 0)=>match TE (S.fds τ),Nat.beq esz te.sz,Nat.beq te.bs 1,ev s x,ev s y with
    | true,true,true,some xv,some (.v (.string ⟨⟨bs⟩⟩))=>match OU s τ e xv with
     | some (d,l)=>.x (some (room te.bs (l.length+bs.length))) ((s.n,.tr τ e (l++bs.map (dG S τ)))::EM s.o d) (s.n+1) (.tr s.n)
     | none=>.stop
    | _,_,_,_,_=>.stop
   | _,_=>.stop
  | none=>.stop
 | _=>.stop
def TC (d:Nat):List Oper->Bool
 | []=>false
 | o::r=>match o.op with
  | .call ⟨.builtin .append,⟨[.tmp u,_]⟩,_⟩=>match Nat.beq u d with
   | true=>true
   | false=>TC d r
  | _=>TC d r
def Xh (tb:List (Nat×TI)) (all:List Oper) (o:Oper):Option Nat:=match o.op,o.dst with
 | .buildSlice T 0 ⟨[]⟩,some d=>match DC tb T,TC d all with
  | some (.slice e esz),true=>match lk tb e with
   | some te=>match te.τ,Nat.beq te.sz esz,Nat.ble 1 esz with
    | some _,true,true=>some e
    | _,_,_=>none
   | none=>none
  | _,_=>none
 | _,_=>none
def VI (tb:List (Nat×TI)) (s:St S):Op->Option (Nat×Bool×R S)
 | .call ⟨.builtin .append,⟨[x,y]⟩,⟨[T,T']⟩⟩=>match Nat.beq T' T,DC tb T with
  | true,some (.slice e esz)=>match lk tb e with
   | some te=>match te.τ with
    | some τ=>match Nat.beq esz te.sz,ev s x,ev s y with
     | true,some (.view j 0 0 0),some yv=>match lk s.o j with
      | some (.AN E [])=>match Nat.beq E e,ZR s τ yv with
       | true,some (c,l')=>some (j,decide (l'.length=0),.nm (some (DK c (room te.bs l'.length))) [(s.n,.tr τ e l')] (s.n+1) (.tr s.n))
       | _,_=>none
      | _=>none
     | _,_,_=>none
    | none=>none
   | none=>none
  | _,_=>none
 | _=>none
def WZ (s:St S) (τ e:Nat):SV->Option (Option Nat×List (S.T τ))
 | .v (.slice none n c)=>match Nat.beq n 0,Nat.beq c 0 with
  | true,true=>some (none,[])
  | _,_=>none
 | .tr i=>match lk s.o i with
  | some (.dp τ' E l)=>match Nat.beq E e,Nat.decEq τ' τ with
   | true,.isTrue h=>some (some i,h▸l)
   | _,_=>none
  | _=>none
 | _=>none
def c6 (tb:List (Nat×TI)) (s:St S) (T:Nat) (x y:Operand):R S:=
 match DC tb T with
 | some (.slice e esz)=>match lk tb e with
  | some te=>match te.δ with
   | some τ=>match Nat.beq esz te.sz,ev s x,ev s y with
    | true,some xv,some (.row k m)=>match WZ s τ e xv,lk s.o k with
     | some (d,l),some (.row _ z m' cs)=>match Nat.beq m' m,Nat.beq z (S.sz τ),Ks s.o τ m cs with
      | true,true,some (l',js)=>match Nat.ble 1 m && QC js with
       | true=>.x (some (room te.bs (l.length+l'.length))) ((s.n,.dp τ e (l++l'))::cS (EM s.o d) js) (s.n+1) (.tr s.n)
       | false=>.stop
      | _,_,_=>.stop
     | _,_=>.stop
    | _,_,_=>.stop
   | none=>.stop
  | none=>.stop
 | _=>.stop
def hP:R S->R S->R S
 | .stop,r=>r
 | r,_=>r
def YO (tb:List (Nat×TI)) (s:St S) (T:Nat) (l c:Operand):R S:=
 match DC tb T with
 | some (.slice e esz)=>match lk tb e with
  | some te=>match te.τ with
   | some τ=>match Nat.beq esz te.sz,ev s l,ev s c with
    | true,some (.v (.int _ L)),some (.v (.int _ C))=>.nm (some (decide (0<=L/\L<=C/\C*(te.bs+1)<=140737488355328))) [(s.n,.tr τ e (List.replicate L.toNat (S.A5 τ)))] (s.n+1) (.tr s.n)
    | _,_,_=>.stop
   | none=>.stop
  | none=>.stop
 | _=>.stop
def Wp (tb:List (Nat×TI)) (s:St S) (T:Nat) (x y:Operand):R S:=
 match DC tb T with
 | some (.slice e esz)=>match lk tb e with
  | some te=>match te.τ,Nat.beq esz te.sz with
   | some τ,true=>match ev s x,ev s y with
    | some (.tr i),some yv=>match lk s.o i with
     | some (.tr τ' E l)=>match Nat.decEq τ' τ with
      | .isTrue h=>match ZR s τ yv with
       | some (c,l')=>.x c (pt s.o i (.tr τ E (l'.take l.length++(h▸l:List (S.T τ)).drop l'.length))) s.n (.v (.int .i64 ((min l'.length l.length:Nat):Int)))
       | none=>.stop
      | .isFalse _=>.stop
     | _=>.stop
    | _,_=>.stop
   | _,_=>.stop
  | none=>.stop
 | _=>.stop
def YM (tb:List (Nat×TI)) (s:St S) (T:Nat) (l c:Operand):R S:=
 match DC tb T with
 | some (.slice e esz)=>match lk tb e with
  | some te=>match te.δ with
   | some τ=>match Nat.beq esz te.sz,ev s l,ev s c with
    | true,some (.v (.int _ L)),some (.v (.int _ C))=>.nm (some (decide (0<=L/\L<=C/\C*(te.bs+1)<=140737488355328))) [(s.n,.dp τ e (List.replicate L.toNat (S.A5 τ)))] (s.n+1) (.tr s.n)
    | _,_,_=>.stop
   | none=>.stop
  | none=>.stop
 | _=>.stop
def Q8:TD->Option Fd
 | .int k=>some (.int k)
 | .str=>some .str
 | _=>none
def H3:Fd->Fd->Bool
 | .int k,.int k'=>H4 k k'
 | .str,.str=>true
 | _,_=>false
def Gb (ag:Bool) (x:SV):Option (List SV):=match ag with
 | true=>x.GG
 | false=>match x.one with
  | true=>some [x]
  | false=>none
def HF:Bool->Bool->Bool
 | true,true=>true
 | false,false=>true
 | _,_=>false
def YN (tb:List (Nat×TI)) (T:Nat):R S:=
 match DC tb T with
 | some (.map k e)=>match (DC tb k).bind Q8,lk tb e with
  | some κ,some te=>match te.τ with
   | some τ=>.new (.mp κ τ te.agg [])
   | none=>.stop
  | _,_=>.stop
 | _=>.stop
def bU (tb:List (Nat×TI)) (s:St S) (T:Nat) (m k v:Operand):R S:=
 match DC tb T with
 | some (.map kt _)=>match ev s m with
  | some (.Bv i)=>match lk s.o i,(DC tb kt).bind Q8 with
   | some (.mp κ τ ag l),some κ'=>match H3 κ' κ,(ev s k).bind (rd s.o κ),((ev s v).bind (Gb ag)).bind (Ys s.o (S.fds τ)) with
    | true,some a,some (p,[])=>.SC none i (.mp κ τ ag (Kn κ l a (S.of τ p)))
    | _,_,_=>.stop
   | _,_=>.stop
  | some (.mk i e)=>match lk s.o i,(DC tb kt).bind Q8 with
   | some (.mr κ τ ag E ls),some κ'=>match H3 κ' κ,(ev s k).bind (rd s.o κ),((ev s v).bind (Gb ag)).bind (Ys s.o (S.fds τ)) with
    | true,some a,some (p,[])=>.SC (some (decide (e<ls.length))) i (.mr κ τ ag E (ls.set e (Kn κ (ls.getD e []) a (S.of τ p))))
    | _,_,_=>.stop
   | _,_=>.stop
  | _=>.stop
 | _=>.stop
def okV (ok:Bool) (x:SV) (b:Bool):SV:=match ok with
 | true=>.Gg [x,.b b]
 | false=>x
def gr (t:TI):Bool:=match t.agg with
 | true=>match t.z with
  | .agg _=>true
  | _=>false
 | false=>t.z.oneCell'
def NT (s:St S) (c:Option Bool) (τ:Nat) (ag ok:Bool) (v:Option (S.T τ)):R S:=
 match EH (S.enc τ (v.getD (S.A5 τ))) s.n with
 | (cs,o1,n')=>match ag,cs with
  | true,cs=>.nm c o1 n' (okV ok (.agg cs) v.isSome)
  | false,[x]=>.nm c o1 n' (okV ok x v.isSome)
  | _,_=>.stop
def YC (tb:List (Nat×TI)) (s:St S) (T:Nat) (m k:Operand) (ok:Bool):R S:=
 match DC tb T with
 | some (.map kt e)=>match (DC tb kt).bind Q8,lk tb e with
  | some κ',some te=>match te.τ,gr te with
   | some τ',true=>match ev s m with
    | some (.Bv i)=>match lk s.o i with
     | some (.mp κ τ ag l)=>match H3 κ' κ,Nat.beq τ τ',HF ag te.agg,(ev s k).bind (rd s.o κ) with
      | true,true,true,some a=>NT s none τ ag ok (Dr κ l a)
      | _,_,_,_=>.stop
     | _=>.stop
    | some (.mk i e)=>match lk s.o i with
     | some (.mr κ τ ag _ ls)=>match H3 κ' κ,Nat.beq τ τ',HF ag te.agg,(ev s k).bind (rd s.o κ) with
      | true,true,true,some a=>NT s (some (decide (e<ls.length))) τ ag ok (Dr κ (ls.getD e []) a)
      | _,_,_,_=>.stop
     | _=>.stop
    | some (.v (.map none))=>match (ev s k).bind (rd s.o κ') with
     | some _=>NT s none τ' te.agg ok none
     | none=>.stop
    | _=>.stop
   | _,_=>.stop
  | _,_=>.stop
 | _=>.stop
def QA {T:Nat->Type} {α:Type} (κ:Fd):List (κ.T T×α)->κ.T T->Nat
 | [],_=>0
 | x::r,k=>match JX κ k x.1 with
  | true=>0
  | false=>QA κ r k+1
def NW {T:Nat->Type} {α:Type} (κ:Fd):List (κ.T T×α)->Nat->α->List (κ.T T×α)
 | [],_,_=>[]
 | x::r,0,v=>(x.1,v)::r
 | x::r,j+1,v=>x::NW κ r j v
def Nj:List (FC S.T)->Option (IntKind×Int)
 | [.int k n]=>some (k,n)
 | _=>none
def dT (tb:List (Nat×TI)) (s:St S) (T:Nat) (m k:Operand):R S:=
 match DC tb T with
 | some (.map kt e)=>match (DC tb kt).bind Q8,lk tb e with
  | some κ',some te=>match te.τ,gr te with
   | some τ',true=>match ev s m with
    | some (.Bv i)=>match lk s.o i with
     | some (.mp κ τ ag l)=>match H3 κ' κ,Nat.decEq τ τ',HF ag te.agg,(ev s k).bind (rd s.o κ) with
      | true,.isTrue _,true,some a=>match ag,Nj (S.enc τ ((Dr κ l a).getD (S.A5 τ))) with
       | false,some (q,n)=>.x none (pt s.o i (.mp κ τ ag (Kn κ l a ((Dr κ l a).getD (S.A5 τ))))) s.n (.Gg [.v (.int q n),.v (.int .i64 ((QA κ l a:Nat):Int))])
       | _,_=>.stop
      | _,_,_,_=>.stop
     | _=>.stop
    | some (.mk i d)=>match lk s.o i with
     | some (.mr κ τ ag E ls)=>match H3 κ' κ,Nat.decEq τ τ',HF ag te.agg,(ev s k).bind (rd s.o κ) with
      | true,.isTrue _,true,some a=>match ag,Nj (S.enc τ ((Dr κ (ls.getD d []) a).getD (S.A5 τ))) with
       | false,some (q,n)=>.x (some (decide (d<ls.length))) (pt s.o i (.mr κ τ ag E (ls.set d (Kn κ (ls.getD d []) a ((Dr κ (ls.getD d []) a).getD (S.A5 τ)))))) s.n (.Gg [.v (.int q n),.v (.int .i64 ((QA κ (ls.getD d []) a:Nat):Int))])
       | _,_=>.stop
      | _,_,_,_=>.stop
     | _=>.stop
    | _=>.stop
   | _,_=>.stop
  | _,_=>.stop
 | _=>.stop
def dU (s:St S) (m st v:Operand):R S:=
 match ev s st with
 | some (.v (.int .i64 n))=>match ev s m with
  | some (.Bv i)=>match lk s.o i with
   | some (.mp κ τ ag l)=>match ((ev s v).bind (Gb ag)).bind (Ys s.o (S.fds τ)) with
    | some (p,[])=>.SC (some (decide (0<=n/\n<l.length))) i (.mp κ τ ag (NW κ l n.toNat (S.of τ p)))
    | _=>.stop
   | _=>.stop
  | some (.mk i d)=>match lk s.o i with
   | some (.mr κ τ ag E ls)=>match ((ev s v).bind (Gb ag)).bind (Ys s.o (S.fds τ)) with
    | some (p,[])=>.SC (some (decide (d<ls.length/\0<=n/\n<(ls.getD d []).length))) i (.mr κ τ ag E (ls.set d (NW κ (ls.getD d []) n.toNat (S.of τ p))))
    | _=>.stop
   | _=>.stop
  | _=>.stop
 | _=>.stop
def YQ (tb:List (Nat×TI)) (s:St S) (T n:Nat) (parts:List (Nat×Operand)):R S:=
 match DC tb T with
 | some (.slice e esz)=>match lk tb e,Nat.beq esz 1,Nat.beq n 1,parts with
  | some te,true,true,[(0,x)]=>match te.agg,Nat.beq te.sz 1,ev s x with
   | false,true,some (.Bv j)=>match lk s.o j with
    | some (.mp κ τ ag l)=>.x none ((s.n,.mr κ τ ag e [l])::rm s.o j) (s.n+1) (.tr s.n)
    | _=>.stop
   | _,_,_=>.stop
  | _,_,_,_=>.stop
 | _=>.stop
def VX (f g:Fd):Option (PLift (f=g)):=match f,g with
 | .int .i8,.int .i8=>some ⟨rfl⟩|.int .i16,.int .i16=>some ⟨rfl⟩|.int .i32,.int .i32=>some ⟨rfl⟩|.int .i64,.int .i64=>some ⟨rfl⟩
 | .int .u8,.int .u8=>some ⟨rfl⟩|.int .u16,.int .u16=>some ⟨rfl⟩|.int .u32,.int .u32=>some ⟨rfl⟩|.int .u64,.int .u64=>some ⟨rfl⟩
 | .str,.str=>some ⟨rfl⟩
 | _,_=>none
def c7 (tb:List (Nat×TI)) (s:St S) (T:Nat) (x y:Operand):R S:=
 match DC tb T with
 | some (.slice e esz)=>match lk tb e,Nat.beq esz 1,ev s y with
  | some te,true,some (.tr k)=>match Nat.beq te.sz 1,lk s.o k with
   | true,some (.mr κ τ ag E [l])=>match Nat.beq E e,ev s x with
    | true,some (.v (.slice none n c))=>match Nat.beq n 0,Nat.beq c 0 with
     | true,true=>.x (some (room te.bs 1)) ((s.n,.mr κ τ ag e [l])::rm s.o k) (s.n+1) (.tr s.n)
     | _,_=>.stop
    | true,some (.tr i)=>match Nat.beq i k,lk s.o i with
     | false,some (.mr κ' τ' ag' E' ls')=>match Nat.beq E' e,HF ag' ag,Nat.decEq τ' τ,VX κ' κ with
      | true,true,.isTrue h,some ⟨h'⟩=>.x (some (room te.bs (ls'.length+1))) ((s.n,.mr κ τ ag e ((h▸h'▸ls':List (List (κ.T S.T×S.T τ)))++[l]))::rm (rm s.o i) k) (s.n+1) (.tr s.n)
      | _,_,_,_=>.stop
     | _,_=>.stop
    | _,_=>.stop
   | _,_=>.stop
  | _,_,_=>.stop
 | _=>.stop
def Yn (c:Bool):SV->SV->Option SV
 | .v (.int k a),.v (.int k' b)=>match H4 k' k with
  | true=>some (.v (.int k (if c=true then a else b)))
  | false=>none
 | .v (.string ⟨⟨a⟩⟩),.v (.string ⟨⟨b⟩⟩)=>some (.v (.string ⟨⟨if c=true then a else b⟩⟩))
 | .b a,.b b=>some (.b (if c=true then a else b))
 | .v (.bool a),.b b=>some (.b (if c=true then a else b))
 | .b a,.v (.bool b)=>some (.b (if c=true then a else b))
 | _,_=>none
def gw:List SV->Option (List Int)
 | []=>some []
 | .v (.int .u8 n)::r=>match gw r with
  | some l=>some (n::l)
  | none=>none
 | _=>none
def PH (s:St S) (x:SV):R S:=match x with
 | .row i n=>match lk s.o i with
  | some (.row _ z m cs)=>match Nat.beq m n,Nat.beq z 1,Nat.ble 1 n,gw cs with
   | true,true,true,some xs=>.val none (.v (.string ⟨⟨xs.map fun k=>k.toNat.toUInt8⟩⟩))
   | _,_,_,_=>.stop
  | _=>.stop
 | .view i off len _=>match lk s.o i with
  | some (.AN _ cs)=>match gw cs with
   | some xs=>.val (some (decide (off+len<=xs.length))) (.v (.string ⟨⟨((xs.drop off).take len).map fun k=>k.toNat.toUInt8⟩⟩))
   | none=>.stop
  | _=>.stop
 | .tr i=>match lk s.o i with
  | some (.tr τ _ l)=>match TE (S.fds τ) with
   | true=>.val none (.v (.string ⟨⟨l.map fun x=>(iS S τ x).toNat.toUInt8⟩⟩))
   | false=>.stop
  | _=>.stop
 | _=>.stop
def Sx (tb:List (Nat×TI)) (s:St S) (ts t:TI) (a:SV):R S:=match ts.d with
 | .slice e _=>match t.d,DC tb e with
  | .str,some (.int .u8)=>PH s a
  | _,_=>.stop
 | _=>conv t a
def evalOp (tb:List (Nat×TI)) (s:St S):Op->R S
 | .move x=>match ev s x with|some v=>.val none v|none=>.stop
 | .assign x=>match ev s x with|some v=>.val none v|none=>.stop
 | .pick c x y=>match ev s c with
  | some (.v (.bool true))=>(match ev s x with|some v=>.val none v|none=>.stop)
  | some (.v (.bool false))=>(match ev s y with|some v=>.val none v|none=>.stop)
  | some (.b c)=>(match ev s x,ev s y with
   | some u,some v=>match Yn c u v with
    | some z=>.val none z
    | none=>.stop
   | _,_=>.stop)
  | _=>.stop
 | .alloc T=>match lk tb T with|some t=>.new (.AN T t.zc)|none=>.stop
 | .box T x=>match (ev s x).bind SV.cells with|some cs=>.new (.AN T cs)|none=>.stop
 | .load T x=>Iy tb s T x
 | .store T x y=>IF tb s T x y
 | .nilCheck x=>Ws s x
 | .binOp op T x y _=>match ev s x,ev s y with
  | some a,some b=>match DC tb T with
   | some .bool=>match a.PB,b.PB with
    | some p,some q=>dA op p q
    | _,_=>.stop
   | some (.struct _)=>VJ tb op T a b
   | some (.ptr _)=>dD op a b
   | some (.slice _ _)=>dC s op a b
   | _=>match nx tb T,op with
    | true,.add=>dE a b
    | _,_=>bin op a b
  | _,_=>.stop
 | .unOp op _ x=>match ev s x with|some a=>un op a|none=>.stop
 | .convert src dst x=>match lk tb src,lk tb dst,ev s x with|some ts,some t,some a=>Sx tb s ts t a|_,_,_=>.stop
 | .makeFunc (.func f) ⟨[]⟩ ⟨cap⟩=>match Nat.ble 1000000 f,HZ s cap with|false,some l=>.val none (.fn f l)|_,_=>.stop
 | .makeFunc (.func f) ⟨fst⟩ ⟨[]⟩=>match HZ s fst with|some l=>.val none (.fn (f+1000000) l)|none=>.stop
 | .fieldAddr T x j=>Ha tb s T x j
 | .field T x j=>PJ tb s T x j
 | .indexAddr T x i=>Hb tb s T x i
 | .index T x i=>match DC tb T with|some .str=>PK s x i|some (.array n e esz)=>Mi tb s n e esz x i|_=>.stop
 | .slice T x lo hi none=>Gn tb s T x lo hi
 | .extract x j=>KS s x j
 | .build T ⟨parts⟩=>PG tb s T parts
 | .buildSlice T n ⟨parts⟩=>hP (YQ tb s T n parts) (Gl tb s T n parts)
 | .makeSlice T l c=>hP (YO tb s T l c) (YM tb s T l c)
 | .makeMap T none=>YN tb T
 | .mapUpdate T m k v=>bU tb s T m k v
 | .insert T m k v=>bU tb s T m k v
 | .mapEntry T m k=>dT tb s T m k
 | .entryStore _ m st v=>dU s m st v
 | .lookup T m k ok=>YC tb s T m k ok
 | .call ⟨.builtin .len,⟨[x]⟩,⟨[T]⟩⟩=>Wr tb s T x
 | .call ⟨.builtin .min,⟨[x,y]⟩,_⟩=>Ja false s x y
 | .call ⟨.builtin .max,⟨[x,y]⟩,_⟩=>Ja true s x y
 | .call ⟨.builtin .append,⟨[x,y]⟩,⟨[T,T']⟩⟩=>match Nat.beq T' T with|true=>hP (Qb tb s T x y) (hP (c6 tb s T x y) (c7 tb s T x y))|false=>match DC tb T' with|some .str=>c8 tb s T x y|_=>.stop
 | .call ⟨.builtin .copy,⟨[x,y]⟩,⟨[T,_]⟩⟩=>Wp tb s T x y
 | _=>.stop
end
end Go.En
