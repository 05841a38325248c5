/-
 The evaluation of one operation in a state (evalOp), and the table of types that it goes by.
-/
import Derived.Test.YtmgkedikciddlaaGreatDoorMa
namespace Go.En
open Go.RowKit
inductive TD where
 | int (k:IntKind)
 | bool
 | str
 | slice (e esz:Nat)
 | struct (fs:List (Nat×Nat×Nat))
 | array (n e esz:Nat)
 | ptr (e:Nat)
 | map (k e:Nat)
 | other
structure TI where
 sz:Nat
 bs:Nat
 z:Value
 zc:List SV
 d:TD
 τ:Option Nat
 eq:Option (List LK):=none
 δ:Option Nat:=none
def TI.agg (t:TI):Bool:=match t.d with
 | .struct _|.array _ _ _=>true
 | _=>false
def FW:TypeDesc->Bool
 | .struct _|.array _ _=>false
 | _=>true
theorem AV {P:Program} {T:Nat} {d:TypeDesc} (h:P.underlying T=some d) (w:World):(isAgg T).run P w=.ok (!FW d) w:=by
 unfold Go.isAgg
 rw [Sem.run_bind,run_underlying h w]
 cases d<;>simp [FW]
def Pd (P:Program):List Field->List (Nat×Nat×Nat)->Prop
 | [],[]=>True
 | f::l,(o,t,s)::r=>f.offset=o/\f.type=t/\(P.info? t).map (·.size)=some s/\s≠0/\Pd P l r
 | _,_=>False
def TD.ok (P:Program) (T:Nat):TD->Prop
 | .int k=>P.underlying T=some (.int k)
 | .bool=>P.underlying T=some .bool
 | .str=>P.underlying T=some .string
 | .slice e esz=>P.underlying T=some (.slice e)/\(P.info? e).map (·.size)=some esz
 | .struct fs=> ∃ l,P.underlying T=some (.struct l)/\Pd P l.toList fs
 | .array n e esz=>P.underlying T=some (.array n e)/\(P.info? e).map (·.size)=some esz
 | .ptr e=>P.underlying T=some (.pointer e)
 | .map k e=>P.underlying T=some (.map k e)
 | .other=> ∃ d,P.underlying T=some d/\FW d=true
def Fd.zeroV:Fd->Value
 | .int k=>.int k 0
 | .bool=>.bool false
 | .str=>.string ⟨⟨[]⟩⟩
 | .sl _=>.slice none 0 0
 | .ow _ _=>.slice none 0 0
def Fd.PH {T:Nat->Type}:Fd->FC T
 | .int k=>.int k 0
 | .bool=>.bool false
 | .str=>.str []
 | .sl σ=>.sl σ []
 | .ow σ E=>.ow σ E []
structure TI.ok (S:At) (P:Program) (T:Nat) (t:TI):Prop where
 info:(P.info? T).map (fun i=>(i.zero,i.size,i.bytes))=some (some t.z,t.sz,t.bs)
 zc: ∀ β,t.z.cells.toList=AB β t.zc
 zn: ∀ N,BW N t.zc
 zl:t.zc.length=t.sz
 desc:t.d.ok P T
 oR: ∀ ks,t.eq=some ks->mG P T ks
 Zq: ∀ τ,t.τ=some τ->S.sz τ=t.sz/\0<t.sz/\S.enc τ (S.A9 τ)=(S.fds τ).map Fd.PH/\t.z.cells.toList=(S.fds τ).map Fd.zeroV
 nq: ∀ τ,t.δ=some τ->S.sz τ=t.sz/\0<t.sz/\S.enc τ (S.A9 τ)=(S.fds τ).map Fd.PH/\t.z.cells.toList=(S.fds τ).map Fd.zeroV
def AY (S:At) (P:Program):List (Nat×TI)->Prop
 | []=>True
 | (T,t)::r=>t.ok S P T/\AY S P r
theorem AY.get {S:At} {P:Program}: ∀ {tb:List (Nat×TI)},AY S P tb-> ∀ {T:Nat} {t:TI},lk tb T=some t->t.ok S P T
 | [],_,_,_,h=>by simp [AQ] at h
 | (U,u)::r,hk,T,t,h=>by
  simp only [AJ] at h
  split at h
  ·rename_i he;simp only [Option.some.injEq] at h;subst h;subst he;exact hk.1
  ·exact AY.get hk.2 h
def SV.cells:SV->Option (List SV)
 | .agg cs=>some cs
 | .v (.agg a)=>some (a.toList.map .v)
 | .v (.int k n)=>some [.v (.int k n)]
 | .v (.bool c)=>some [.v (.bool c)]
 | .v (.string s)=>some [.v (.string s)]
 | .v (.pointer a)=>some [.v (.pointer a)]
 | .v (.slice a n c)=>some [.v (.slice a n c)]
 | .v (.map r)=>some [.v (.map r)]
 | .v (.func f a c)=>some [.v (.func f a c)]
 | .v .nilFunc=>some [.v .nilFunc]
 | .v .nilIface=>some [.v .nilIface]
 | .v (.iface t x)=>some [.v (.iface t x)]
 | .v (.float k c)=>some [.v (.float k c)]
 | .v (.complex k a c)=>some [.v (.complex k a c)]
 | .v _=>none
 | .Gr _=>none
 | .b c=>some [.b c]
 | .ptr i off=>some [.ptr i off]
 | .row i n=>some [.row i n]
 | .mk i e=>some [.mk i e]
 | .hm i=>some [.hm i]
 | .tr i=>some [.tr i]
 | .ep i s e o=>some [.ep i s e o]
 | .view i o l c=>some [.view i o l c]
 | .By i=>some [.By i]
 | .h i=>some [.h i]
 | .vp i o=>some [.vp i o]
 | .ap i n e o=>some [.ap i n e o]
 | .pr i z e o=>some [.pr i z e o]
 | .pp i z e o y j q=>some [.pp i z e o y j q]
 | .fn f c=>some [.fn f c]
def SV.one:SV->Bool
 | .agg _=>false
 | .Gr _=>false
 | .v x=>x.oneCell'
 | .h _=>true
 | .vp _ _=>true
 | _=>true
def Mc:List SV->Bool
 | []=>true
 | x::r=>match x.one with
  | true=>Mc r
  | false=>false
def SV.PO:SV->Option Bool
 | .b c=>some c
 | .v (.bool c)=>some c
 | _=>none
def IE:IntKind->IntKind->Bool
 | .i8,.i8=>true|.i16,.i16=>true|.i32,.i32=>true|.i64,.i64=>true
 | .u8,.u8=>true|.u16,.u16=>true|.u32,.u32=>true|.u64,.u64=>true
 | _,_=>false
theorem DL (k k':IntKind):IE k k'=true↔k=k':=by cases k<;>cases k'<;>simp [IE]
def Ov (x:SV) (k:LK):Bool:=match k,x with
 | .int k,.v (.int k' _)=>IE k' k
 | .bool,.v (.bool _)=>true
 | .bool,.b _=>true
 | .str,.v (.string ⟨⟨_⟩⟩)=>true
 | _,_=>false
def Ed:List SV->List LK->Bool
 | [],[]=>true
 | x::r,k::q=>match Ov x k with
  | true=>Ed r q
  | false=>false
 | _,_=>false
def mQ (x y:SV):Bool:=match x,y with
 | .v (.int _ a),.v (.int _ b)=>decide (a=b)
 | .v (.string ⟨⟨a⟩⟩),.v (.string ⟨⟨b⟩⟩)=>decide (a=b)
 | x,y=>match x.PO,y.PO with
  | some a,some b=>a == b
  | _,_=>false
def TL:List SV->List SV->Bool
 | x::r,y::q=>mQ x y && TL r q
 | _,_=>true
inductive R (S:At) where
 | val (c:Option Bool) (x:SV)
 | new (b:Own S)
 | Sh (c:Option Bool) (i:Nat) (b:Own S)
 | nm (c:Option Bool) (o1:List (Nat×Own S)) (n':Nat) (v:SV)
 | x (c:Option Bool) (o':List (Nat×Own S)) (n':Nat) (v:SV)
 | stop
def CW:Option Bool->Prop
 | none=>True
 | some b=>b=true
section
variable {S:At}
def Ca:List (FC S.T)->Nat->List (Nat×Own S)->List SV×List (Nat×Own S)×Nat
 | [],n,o=>([],o,n)
 | .int k m::r,n,o=>match Ca r n o with
  | (a,b,c)=>(.v (.int k m)::a,b,c)
 | .bool b'::r,n,o=>match Ca r n o with
  | (a,b,c)=>(.b b'::a,b,c)
 | .str s::r,n,o=>match Ca r n o with
  | (a,b,c)=>(.v (.string ⟨⟨s⟩⟩)::a,b,c)
 | .sl σ l::r,n,o=>match Ca r (n+1) ((n,.sl σ l)::o) with
  | (a,b,c)=>(.h n::a,b,c)
 | .ow _ _ _::r,n,o=>match Ca r (n+1) ((n,.any)::o) with
  | (a,b,c)=>(.h n::a,b,c)
def EO:List (FC S.T)->Nat->List SV×List (Nat×Own S)×Nat
 | [],n=>([],[],n)
 | .int k m::r,n=>match EO r n with
  | (a,b,c)=>(.v (.int k m)::a,b,c)
 | .bool b'::r,n=>match EO r n with
  | (a,b,c)=>(.b b'::a,b,c)
 | .str s::r,n=>match EO r n with
  | (a,b,c)=>(.v (.string ⟨⟨s⟩⟩)::a,b,c)
 | .sl σ l::r,n=>match EO r (n+1) with
  | (a,b,c)=>(.h n::a,(n,.sl σ l)::b,c)
 | .ow _ _ _::r,n=>match EO r (n+1) with
  | (a,b,c)=>(.h n::a,(n,.any)::b,c)
def rd (o:List (Nat×Own S)):(f:Fd)->SV->Option (f.T S.T)
 | .int k,.v (.int k' n)=>match IE k' k with
  | true=>some n
  | false=>none
 | .bool,.b c=>some c
 | .bool,.v (.bool c)=>some c
 | .str,.v (.string ⟨⟨s⟩⟩)=>some s
 | .sl σ,.h i=>match lk o i with
  | some (.sl σ' l)=>match Nat.decEq σ' σ with
   | .isTrue h=>some (h▸l)
   | .isFalse _=>none
  | _=>none
 | .sl _,.v (.slice none n c)=>match Nat.beq n 0,Nat.beq c 0 with
  | true,true=>some []
  | _,_=>none
 | .sl _,.view _ _ n _=>match Nat.beq n 0 with
  | true=>some []
  | false=>none
 | _,_=>none
def Qs (o:List (Nat×Own S)):(fs:List Fd)->Ps S.T fs->Nat->List SV->Option (Ps S.T fs)
 | _,p,_,[]=>some p
 | [],_,_,_::_=>none
 | f::r,p,0,v::vs=>match rd o f v with
  | some y=>match Qs o r p.2 0 vs with
   | some q=>some (y,q)
   | none=>none
  | none=>none
 | _::r,p,off+1,vs=>match Qs o r p.2 off vs with
  | some q=>some (p.1,q)
  | none=>none
def ZF (o:List (Nat×Own S)):(fs:List Fd)->List SV->Option (Ps S.T fs×List SV)
 | [],vs=>some ((),vs)
 | f::r,v::vs=>match rd o f v with
  | some y=>match ZF o r vs with
   | some (q,z)=>some ((y,q),z)
   | none=>none
  | none=>none
 | _::_,[]=>none
def Iy (o:List (Nat×Own S)) (τ:Nat):Nat->List SV->Option (List (S.T τ))
 | 0,[]=>some []
 | 0,_::_=>none
 | n+1,cs=>match ZF o (S.fds τ) cs with
  | some (p,z)=>match Iy o τ n z with
   | some l=>some (S.of τ p::l)
   | none=>none
  | none=>none
def Yy:List Fd->Nat->Option Nat
 | [],_=>none
 | f::_,0=>match f with
  | .ow σ _=>some σ
  | _=>none
 | _::r,k+1=>Yy r k
def Jt {T:Nat->Type} (σ:Nat):(fs:List Fd)->Ps T fs->Nat->Option (List (T σ))
 | [],_,_=>none
 | .ow σ' _::_,p,0=>match Nat.decEq σ' σ with
  | .isTrue h=>some (h▸p.1)
  | .isFalse _=>none
 | _::_,_,0=>none
 | _::r,p,k+1=>Jt σ r p.2 k
def N5 {T:Nat->Type} (σ:Nat) (m:List (T σ)):(fs:List Fd)->Ps T fs->Nat->Option (Ps T fs)
 | [],_,_=>none
 | .ow σ' _::_,p,0=>match Nat.decEq σ' σ with
  | .isTrue h=>some (h▸m,p.2)
  | .isFalse _=>none
 | _::_,_,0=>none
 | _::r,p,k+1=>match N5 σ m r p.2 k with
  | some q=>some (p.1,q)
  | none=>none
def fy (o:List (Nat×Own S)) (σ E:Nat):SV->Option (List (S.T σ)×Option Nat)
 | .tr j=>match lk o j with
  | some (.tr σ' E' l)=>match Nat.beq E' E,Nat.decEq σ' σ with
   | true,.isTrue h=>some (h▸l,some j)
   | _,_=>none
  | _=>none
 | .v (.slice none n c)=>match Nat.beq n 0,Nat.beq c 0 with
  | true,true=>some ([],none)
  | _,_=>none
 | _=>none
def W9:Option Nat->List Nat->List Nat
 | none,l=>l
 | some j,l=>j::l
def SA (o:List (Nat×Own S)):(fs:List Fd)->List SV->Option (Ps S.T fs×List Nat×List SV)
 | [],vs=>some ((),[],vs)
 | .ow σ E::r,v::vs=>match fy o σ E v with
  | some (l,j)=>match SA o r vs with
   | some (q,js,z)=>some ((l,q),W9 j js,z)
   | none=>none
  | none=>none
 | f::r,v::vs=>match rd o f v with
  | some y=>match SA o r vs with
   | some (q,js,z)=>some ((y,q),js,z)
   | none=>none
  | none=>none
 | _::_,[]=>none
def Ky (o:List (Nat×Own S)) (τ:Nat):Nat->List SV->Option (List (S.T τ)×List Nat)
 | 0,[]=>some ([],[])
 | 0,_::_=>none
 | n+1,cs=>match SA o (S.fds τ) cs with
  | some (p,js,z)=>match Ky o τ n z with
   | some (l,ks)=>some (S.of τ p::l,js++ks)
   | none=>none
  | none=>none
def Xl (i:Nat):List Nat->Bool
 | []=>false
 | j::r=>match Nat.beq j i with
  | true=>true
  | false=>Xl i r
def Qc:List Nat->Bool
 | []=>true
 | j::r=>match Xl j r with
  | true=>false
  | false=>Qc r
def db {α:Type}:List (Nat×α)->List Nat->List (Nat×α)
 | o,[]=>o
 | o,j::r=>db (rm o j) r
def Jk {T:Nat->Type}:(κ:Fd)->κ.T T->κ.T T->Bool
 | .int _,a,b=>decide (a=b)
 | .str,a,b=>decide (a=b)
 | _,_,_=>false
def Du {T:Nat->Type} {α:Type} (κ:Fd):List (κ.T T×α)->κ.T T->Option α
 | [],_=>none
 | x::r,k=>match Jk κ k x.1 with
  | true=>some x.2
  | false=>Du κ r k
def Ku {T:Nat->Type} {α:Type} (κ:Fd):List (κ.T T×α)->κ.T T->α->List (κ.T T×α)
 | [],k,v=>[(k,v)]
 | x::r,k,v=>match Jk κ k x.1 with
  | true=>(k,v)::r
  | false=>x::Ku κ r k v
def Zv (cs:List SV) (off:Nat) (new:List SV):List SV:=
 match new with
 | [x]=>cs.set off x
 | _=>cs.take off++new++cs.drop (off+new.length)
def ld (t:TI) (cs:List SV) (off:Nat):R S:=
 match t.agg with
 | true=>match Nat.ble (off+t.sz) cs.length with
  | true=>.val none (.agg ((cs.drop off).take t.sz))
  | false=>.stop
 | false=>match cs[off]? with
  | some x=>.val none x
  | none=>.stop
def jY (t:TI) (s:St S) (τ:Nat) (l:List (S.T τ)) (e off:Nat):R S:=
 match EO (((S.enc τ (l.getD e (S.A9 τ))).drop off).take t.sz) s.n with
 | (cs,o1,n')=>match Nat.beq cs.length t.sz with
  | true=>match t.agg with
   | true=>.nm (some (decide (e<l.length))) o1 n' (.agg cs)
   | false=>match cs with
    | [.v y]=>match Nat.beq n' s.n with
     | true=>.val (some (decide (e<l.length))) (.v y)
     | false=>.nm (some (decide (e<l.length))) o1 n' (.v y)
    | [x]=>.nm (some (decide (e<l.length))) o1 n' x
    | _=>.stop
  | false=>.stop
def Sf {T:Nat->Type} (i z e:Nat):List (FC T)->List SV->Nat->List SV
 | .ow _ _ _::r,_::cs,p=>.pr i z e p::Sf i z e r cs (p+1)
 | _::r,x::cs,p=>x::Sf i z e r cs (p+1)
 | _,cs,_=>cs
def ma (t:TI) (s:St S) (τ:Nat) (l:List (S.T τ)) (i e off:Nat):R S:=
 match EO (((S.enc τ (l.getD e (S.A9 τ))).drop off).take t.sz) s.n with
 | (cs,o1,n')=>match Nat.beq cs.length t.sz with
  | true=>match t.agg with
   | true=>.nm (some (decide (e<l.length))) o1 n' (.agg (Sf i (S.sz τ) e (((S.enc τ (l.getD e (S.A9 τ))).drop off).take t.sz) cs off))
   | false=>match Sf i (S.sz τ) e (((S.enc τ (l.getD e (S.A9 τ))).drop off).take t.sz) cs off with
    | [x]=>.nm (some (decide (e<l.length))) o1 n' x
    | _=>.stop
  | false=>.stop
def du (b:Bool):R S->R S
 | .nm (some c) o1 n' v=>.nm (some (b && c)) o1 n' v
 | .val (some c) v=>.val (some (b && c)) v
 | _=>.stop
def JF (k:IntKind):Nat->List SV->Option (List Int)
 | 0,_=>some []
 | n+1,.v (.int k' x)::r=>match IE k' k,JF k n r with
  | true,some l=>some (x::l)
  | _,_=>none
 | _+1,_=>none
def Qk (k:IntKind) (e:Nat) (v:Int):Nat->List Int->List SV
 | _,[]=>[]
 | m,x::r=>.v (.int k (if e=m then v else x))::Qk k e v (m+1) r
def mZ (t:TI) (cs:List SV) (n e off:Nat):R S:=
 match t.d with
 | .int k=>match JF k n (cs.drop off) with
  | some l=>.val (some (decide (e<l.length))) (.v (.int k (l.getD e 0)))
  | none=>.stop
 | _=>.stop
def oJ (t:TI) (U i:Nat) (cs:List SV) (n e off:Nat) (new:List SV):R S:=
 match t.d,new with
 | .int k,[.v (.int k' v)]=>match IE k' k,JF k n (cs.drop off) with
  | true,some l=>.Sh (some (decide (e<l.length))) i (.AS U (cs.take off++(Qk k e v 0 l++cs.drop (off+n))))
  | _,_=>.stop
 | _,_=>.stop
def JB (tb:List (Nat×TI)) (s:St S) (T:Nat) (x:Operand):R S:=
 match lk tb T with
 | some t=>match ev s x with
  | some (.ptr i off)=>match lk s.o i with
   | some (.AS _ cs)=>ld t cs off
   | some (.row _ _ _ cs)=>ld t cs off
   | _=>.stop
  | some (.vp i off)=>match lk s.o i with
   | some (.vu cs)=>ld t cs off
   | _=>.stop
  | some (.ap i n e off)=>match lk s.o i with
   | some (.AS _ cs)=>mZ t cs n e off
   | _=>.stop
  | some (.ep i esz e off)=>match lk s.o i with
   | some (.tr τ _ l)=>match Nat.beq esz (S.sz τ) with
    | true=>jY t s τ l e off
    | false=>.stop
   | some (.dp τ _ l)=>match Nat.beq esz (S.sz τ) with
    | true=>ma t s τ l i e off
    | false=>.stop
   | some (.mr _ _ _ _ ls)=>match Nat.beq esz 1,Nat.beq off 0,t.agg with
    | true,true,false=>.val (some (decide (e<ls.length))) (.mk i e)
    | _,_,_=>.stop
   | _=>.stop
  | some (.pp i z e off y j q)=>match lk s.o i with
   | some (.dp τ _ l)=>match Nat.beq z (S.sz τ),Yy (S.fds τ) off with
    | true,some σ=>match Nat.beq y (S.sz σ),Jt σ (S.fds τ) (S.to τ (l.getD e (S.A9 τ))) off with
     | true,some m=>du (decide (e<l.length)) (jY t s σ m j q)
     | _,_=>.stop
    | _,_=>.stop
   | _=>.stop
  | _=>.stop
 | none=>.stop
def IL (tb:List (Nat×TI)) (s:St S) (T:Nat) (x y:Operand):R S:=
 match lk tb T with
 | some t=>match (ev s y).bind SV.cells with
  | some new=>match Nat.beq new.length t.sz with
   | true=>match ev s x with
    | some (.ptr i off)=>match lk s.o i with
     | some (.AS U cs)=>match Nat.ble (off+new.length) cs.length,Mc new with
      | true,true=>.Sh none i (.AS U (Zv cs off new))
      | _,_=>.stop
     | some (.row U sz n cs)=>match Nat.ble (off+new.length) cs.length,Mc new with
      | true,true=>.Sh none i (.row U sz n (Zv cs off new))
      | _,_=>.stop
     | _=>.stop
    | some (.ep i esz e off)=>match lk s.o i with
     | some (.tr τ E l)=>match Nat.beq esz (S.sz τ) with
      | true=>match Qs s.o (S.fds τ) (S.to τ (l.getD e (S.A9 τ))) off new with
       | some q=>.Sh (some (decide (e<l.length))) i (.tr τ E (l.set e (S.of τ q)))
       | none=>.stop
      | false=>.stop
     | some (.dp τ E l)=>match Nat.beq esz (S.sz τ) with
      | true=>match Qs s.o (S.fds τ) (S.to τ (l.getD e (S.A9 τ))) off new with
       | some q=>.Sh (some (decide (e<l.length))) i (.dp τ E (l.set e (S.of τ q)))
       | none=>.stop
      | false=>.stop
     | _=>.stop
    | some (.pp i z e off y j q)=>match lk s.o i with
     | some (.dp τ E l)=>match Nat.beq z (S.sz τ),Yy (S.fds τ) off with
      | true,some σ=>match Nat.beq y (S.sz σ),Jt σ (S.fds τ) (S.to τ (l.getD e (S.A9 τ))) off with
       | true,some m=>match Qs s.o (S.fds σ) (S.to σ (m.getD j (S.A9 σ))) q new with
        | some x=>match N5 σ (m.set j (S.of σ x)) (S.fds τ) (S.to τ (l.getD e (S.A9 τ))) off with
         | some p=>.Sh (some (decide (e<l.length/\j<m.length))) i (.dp τ E (l.set e (S.of τ p)))
         | none=>.stop
        | none=>.stop
       | _,_=>.stop
      | _,_=>.stop
     | _=>.stop
    | some (.ap i n e off)=>match lk s.o i with
     | some (.AS U cs)=>oJ t U i cs n e off new
     | _=>.stop
    | _=>.stop
   | false=>.stop
  | none=>.stop
 | none=>.stop
def XD (s:St S) (x:Operand):R S:=
 match ev s x with
 | some (.ptr i off)=>.val none (.ptr i off)
 | some (.ep i z e off)=>.val none (.ep i z e off)
 | some (.pp i z e off y j q)=>.val none (.pp i z e off y j q)
 | some (.vp i off)=>match lk s.o i with
  | some (.vu _)=>.val none (.vp i off)
  | _=>.stop
 | some (.v (.pointer (some a)))=>.val none (.v (.pointer (some a)))
 | some (.fn f c)=>.val none (.fn f c)
 | _=>.stop
def BI (n:Int):Bool:=decide (-9223372036854775808<=n/\n<=9223372036854775807)
theorem BD {n:Int}:BI n=true↔ -9223372036854775808<=n/\n<=9223372036854775807:=by simp [BI]
def DC (l:List UInt8) (j:Int):Int:=((l.getD j.toNat 0).toNat:Int)
def eC (op:BinOp) (k:IntKind) (a b:Int):R S:=
 match op with
 | .eql=>.val none (.b (decide (a=b)))
 | .neq=>.val none (.b (!decide (a=b)))
 | .lss=>.val none (.b (decide (a<b)))
 | .leq=>.val none (.b (decide (a<=b)))
 | .gtr=>.val none (.b (decide (b<a)))
 | .geq=>.val none (.b (decide (b<=a)))
 | .add=>match k with
  | .i64=>.val (some (BI (a+b))) (.v (.int .i64 (a+b)))
  | k=>.val none (.v (.int k (k.wrap (a+b))))
 | .sub=>match k with
  | .i64=>.val (some (BI (a -b))) (.v (.int .i64 (a -b)))
  | k=>.val none (.v (.int k (k.wrap (a -b))))
 | .mul=>match k with
  | .i64=>.val (some (BI (a*b))) (.v (.int .i64 (a*b)))
  | k=>.val none (.v (.int k (k.wrap (a*b))))
 | .quo=>match k with
  | .i64=>.val (some (decide (b≠0/\BI (a.tdiv b)=true))) (.v (.int .i64 (a.tdiv b)))
  | k=>.val (some (decide (b≠0))) (.v (.int k (k.wrap (a.tdiv b))))
 | .rem=>.val (some (decide (b≠0))) (.v (.int k (a.tmod b)))
 | .and=>.val none (.v (.int k (bits .and k a b)))
 | .or=>.val none (.v (.int k (bits .or k a b)))
 | .xor=>.val none (.v (.int k (bits .xor k a b)))
 | .andNot=>.val none (.v (.int k (bits .andNot k a b)))
 | _=>.stop
def bin (op:BinOp) (x y:SV):R S:=
 match x,y with
 | .v (.int k a),.v (.int k' b)=>match op with
  | .shl=>.val (some (decide (0<=b/\b<=k.bits))) (.v (.int k (k.wrap (a*2 ^ b.toNat))))
  | .shr=>.val (some (decide (0<=b/\b<=k.bits))) (.v (.int k (a / 2 ^ b.toNat)))
  | op=>match IE k' k with
   | true=>eC op k a b
   | false=>.stop
 | .v (.string ⟨⟨a⟩⟩),.v (.string ⟨⟨b⟩⟩)=>match op with
  | .eql=>.val none (.b (decide (a=b)))
  | .neq=>.val none (.b (!decide (a=b)))
  | .add=>.val (some (decide (a.length+b.length<=9223372036854775807))) (.v (.string ⟨⟨a++b⟩⟩))
  | .lss=>.val none (.b (Op.bytesLess a b))
  | _=>.stop
 | _,_=>.stop
def eB (op:BinOp) (a b:Bool):R S:=
 match op with
 | .eql=>.val none (.b (a == b))
 | .neq=>.val none (.b (!(a == b)))
 | _=>.stop
def og (tb:List (Nat×TI)) (T:Nat):Bool:=match lk tb T with
 | some t=>match t.δ,t.d with
  | some _,.int .i64=>true
  | _,_=>false
 | none=>false
def eF (x y:SV):R S:=match x,y with
 | .v (.int .i64 a),.v (.int .i64 b)=>.val none (.v (.int .i64 (IntKind.i64.wrap (a+b))))
 | _,_=>.stop
def SV.Zy:SV->Option (List SV)
 | .agg cs=>some cs
 | .v (.agg a)=>some (a.toList.map .v)
 | _=>none
def eA (tb:List (Nat×TI)) (op:BinOp) (T:Nat) (x y:SV):R S:=
 match lk tb T with
 | some t=>match t.eq,x.Zy,y.Zy with
  | some ks,some l,some m=>match Ed l ks,Ed m ks with
   | true,true=>match op with
    | .eql=>.val none (.b (TL l m))
    | .neq=>.val none (.b (!TL l m))
    | _=>.stop
   | _,_=>.stop
  | _,_,_=>.stop
 | none=>.stop
def kA:SV->Option Bool
 | .ptr _ _=>some false
 | .ep _ _ _ _=>some false
 | .v (.pointer none)=>some true
 | _=>none
def eE (op:BinOp) (x y:SV):R S:=match kA x,y with
 | some b,.v (.pointer none)=>match op with
  | .eql=>.val none (.v (.bool b))
  | .neq=>.val none (.v (.bool (!b)))
  | _=>.stop
 | _,_=>.stop
def Yo {α:Type} (l:List α):Bool:=match l with
 | []=>false
 | _::_=>true
def eD (s:St S) (op:BinOp) (x y:SV):R S:=match x,y with
 | .h i,.v (.slice none 0 0)=>match lk s.o i with
  | some (.sl _ l)=>match op with
   | .eql=>.val (some (Yo l)) (.v (.bool false))
   | .neq=>.val (some (Yo l)) (.v (.bool true))
   | _=>.stop
  | _=>.stop
 | _,_=>.stop
def un (op:UnOp) (x:SV):R S:=
 match op,x with
 | .not,.v (.bool b)=>.val none (.v (.bool (!b)))
 | .not,.b b=>.val none (.b (!b))
 | .neg,.v (.int .i64 n)=>.val (some (BI (-n))) (.v (.int .i64 (-n)))
 | .xor,.v (.int .i64 n)=>.val none (.v (.int .i64 (bits .xor .i64 (-1) n)))
 | _,_=>.stop
def conv (t:TI) (x:SV):R S:=
 match t.d,x with
 | .int .i64,.v (.int _ n)=>.val (some (BI n)) (.v (.int .i64 n))
 | .int k,.v (.int _ n)=>.val none (.v (.int k (k.wrap n)))
 | .str,.v (.string s)=>.val none (.v (.string s))
 | _,_=>.stop
def Hk (s:St S):List Operand->Option (List SV)
 | []=>some []
 | x::r=>match ev s x with
  | some v=>match Hk s r with
   | some l=>some (v::l)
   | none=>none
  | none=>none
def DM (tb:List (Nat×TI)) (T:Nat):Option TD:=match lk tb T with
 | some t=>some t.d
 | none=>none
def RC (t:TI) (j:Nat):Option (Nat×Nat×Nat):=match t.d with
 | .struct fs=>fs[j]?
 | _=>none
def Lq (tb:List (Nat×TI)) (T j:Nat):Option (Nat×Nat×Nat):=match lk tb T with
 | some t=>RC t j
 | none=>none
def Hl (tb:List (Nat×TI)) (s:St S) (T:Nat) (x:Operand) (j:Nat):R S:=
 match Lq tb T j with
 | some (o,_,_)=>match ev s x with
  | some (.ptr i off)=>.val none (.ptr i (off+o))
  | some (.ep i z e off)=>.val none (.ep i z e (off+o))
  | some (.pp i z e off y j q)=>.val none (.pp i z e off y j (q+o))
  | some (.vp i off)=>match lk s.o i with
   | some (.vu _)=>.val none (.vp i (off+o))
   | _=>.stop
  | some (.v (.pointer (some ⟨b,off,none⟩)))=>.val none (.v (.pointer (some ⟨b,off+o,none⟩)))
  | _=>.stop
 | none=>.stop
def SV.GQ:SV->Option (List SV)
 | .agg cs=>some cs
 | .v (.agg a)=>some (a.toList.map .v)
 | _=>none
def PX (tb:List (Nat×TI)) (s:St S) (T:Nat) (x:Operand) (j:Nat):R S:=
 match Lq tb T j with
 | some (o,ft,_)=>match (ev s x).bind SV.GQ with
  | some cs=>match lk tb ft with
   | some t=>ld t cs o
   | none=>.stop
  | none=>.stop
 | none=>.stop
def fL:Operand->Bool
 | .const _=>true
 | _=>false
def Hm (tb:List (Nat×TI)) (s:St S) (T:Nat) (x i:Operand):R S:=
 match ev s i with
 | some (.v (.int _ j))=>match DM tb T with
  | some (.array n _ esz)=>match ev s x with
   | some (.ptr b off)=>match fL i,Nat.beq esz 1 with
    | false,true=>.val (some (decide (0<=j/\j<n))) (.ap b n j.toNat off)
    | _,_=>.val (some (decide (0<=j/\j<n))) (.ptr b (off+j.toNat*esz))
   | some (.vp b off)=>match fL i,lk s.o b with
    | true,some (.vu _)=>.val (some (decide (0<=j/\j<n))) (.vp b (off+j.toNat*esz))
    | _,_=>.stop
   | some (.ep b z e off)=>match fL i with
    | true=>.val (some (decide (0<=j/\j<n))) (.ep b z e (off+j.toNat*esz))
    | false=>.stop
   | _=>.stop
  | some (.slice _ esz)=>match ev s x with
   | some (.h b)=>match lk s.o b with
    | some (.sl σ l)=>match Nat.beq esz (S.sz σ) with
     | true=>match EO (S.enc σ (l.getD j.toNat (S.A9 σ))) s.n with
      | (cs,o1,n')=>.nm (some (decide (0<=j/\j<l.length))) ((n',.vu cs)::o1) (n'+1) (.vp n' 0)
     | false=>.stop
    | _=>.stop
   | some (.tr b)=>match lk s.o b with
    | some (.tr σ _ l)=>match Nat.beq esz (S.sz σ) with
     | true=>.val (some (decide (0<=j/\j<l.length))) (.ep b esz j.toNat 0)
     | false=>.stop
    | some (.dp σ _ l)=>match Nat.beq esz (S.sz σ) with
     | true=>.val (some (decide (0<=j/\j<l.length))) (.ep b esz j.toNat 0)
     | false=>.stop
    | some (.mr _ _ _ _ ls)=>match Nat.beq esz 1 with
     | true=>.val (some (decide (0<=j/\j<ls.length))) (.ep b esz j.toNat 0)
     | false=>.stop
    | _=>.stop
   | some (.pr b z e off)=>match lk s.o b with
    | some (.dp τ _ l)=>match Nat.beq z (S.sz τ),Yy (S.fds τ) off with
     | true,some σ=>match Nat.beq esz (S.sz σ),Jt σ (S.fds τ) (S.to τ (l.getD e (S.A9 τ))) off with
      | true,some m=>.val (some (decide (e<l.length/\0<=j/\j<m.length))) (.pp b z e off esz j.toNat 0)
      | _,_=>.stop
     | _,_=>.stop
    | _=>.stop
   | some (.row b n)=>match lk s.o b with
    | some (.row _ _ m _)=>match Nat.beq m n with
     | true=>.val (some (decide (0<=j/\j<n))) (.ptr b (j.toNat*esz))
     | false=>.stop
    | _=>.stop
   | some (.view b off n _)=>.val (some (decide (0<=j/\j<n))) (.ptr b (off+j.toNat*esz))
   | _=>.stop
  | _=>.stop
 | _=>.stop
def PY (s:St S) (x i:Operand):R S:=
 match ev s x,ev s i with
 | some (.v (.string ⟨⟨l⟩⟩)),some (.v (.int _ j))=>.val (some (decide (0<=j/\j<l.length))) (.v (.int .u8 (DC l j)))
 | _,_=>.stop
def Jy (k:IntKind):List SV->Option (List Int)
 | []=>some []
 | .v (.int k' x)::r=>match IE k' k,Jy k r with
  | true,some l=>some (x::l)
  | _,_=>none
 | _::_=>none
def N7:List SV->Option (List (List UInt8))
 | []=>some []
 | .v (.string ⟨⟨x⟩⟩)::r=>match N7 r with
  | some l=>some (x::l)
  | none=>none
 | _::_=>none
def Mt (tb:List (Nat×TI)) (s:St S) (n e esz:Nat) (x i:Operand):R S:=
 match ev s i,(ev s x).bind SV.GQ with
 | some (.v (.int _ j)),some (.v (.int k y)::cs)=>match lk tb e,Nat.beq esz 1,Jy k (.v (.int k y)::cs) with
  | some t,true,some l=>match t.agg,Nat.beq l.length n with
   | false,true=>.val (some (decide (0<=j/\j<n))) (.v (.int k (l.getD j.toNat 0)))
   | _,_=>.stop
  | _,_,_=>.stop
 | some (.v (.int _ j)),some (.v (.string s0)::cs)=>match lk tb e,Nat.beq esz 1,N7 (.v (.string s0)::cs) with
  | some t,true,some l=>match t.agg,Nat.beq l.length n with
   | false,true=>.val (some (decide (0<=j/\j<n))) (.v (.string ⟨⟨l.getD j.toNat []⟩⟩))
   | _,_=>.stop
  | _,_,_=>.stop
 | _,_=>.stop
def XC (tb:List (Nat×TI)) (s:St S) (T:Nat) (x:Operand):R S:=
 match DM tb T with
 | some .str=>match ev s x with
  | some (.v (.string ⟨⟨l⟩⟩))=>.val none (.v (.int .i64 l.length))
  | _=>.stop
 | some (.slice _ _)=>match ev s x with
  | some (.v (.slice _ n _))=>.val none (.v (.int .i64 n))
  | some (.row _ n)=>.val none (.v (.int .i64 n))
  | some (.view _ _ n _)=>.val none (.v (.int .i64 n))
  | some (.tr b)=>match lk s.o b with
   | some (.tr _ _ l)=>.val none (.v (.int .i64 l.length))
   | some (.dp _ _ l)=>.val none (.v (.int .i64 l.length))
   | some (.mr _ _ _ _ ls)=>.val none (.v (.int .i64 ls.length))
   | _=>.stop
  | some (.pr b z e off)=>match lk s.o b with
   | some (.dp τ _ l)=>match Nat.beq z (S.sz τ),Yy (S.fds τ) off with
    | true,some σ=>match Jt σ (S.fds τ) (S.to τ (l.getD e (S.A9 τ))) off with
     | some m=>.val (some (decide (e<l.length))) (.v (.int .i64 m.length))
     | none=>.stop
    | _,_=>.stop
   | _=>.stop
  | some (.h b)=>match lk s.o b with
   | some (.sl _ l)=>.val none (.v (.int .i64 l.length))
   | _=>.stop
  | _=>.stop
 | some (.array n _ _)=>.val none (.v (.int .i64 n))
 | some (.map _ _)=>match ev s x with
  | some (.By b)=>match lk s.o b with
   | some (.mp _ _ _ l)=>.val none (.v (.int .i64 l.length))
   | _=>.stop
  | some (.mk b e)=>match lk s.o b with
   | some (.mr _ _ _ _ ls)=>.val (some (decide (e<ls.length))) (.v (.int .i64 (ls.getD e []).length))
   | _=>.stop
  | some (.v (.map none))=>.val none (.v (.int .i64 0))
  | _=>.stop
 | _=>.stop
def Jn (mx:Bool) (s:St S) (x y:Operand):R S:=
 match ev s x,ev s y with
 | some (.v (.int k a)),some (.v (.int _ b))=>match mx with
  | true=>.val none (.v (.int k (if a<b then b else a)))
  | false=>.val none (.v (.int k (if b<a then b else a)))
 | _,_=>.stop
def KY (s:St S) (x:Operand) (j:Nat):R S:=
 match ev s x with
 | some (.v (.tuple ⟨l⟩))=>match l[j]? with
  | some v=>.val none (.v v)
  | none=>.stop
 | some (.Gr l)=>match l[j]? with
  | some v=>.val none v
  | none=>.stop
 | _=>.stop
def Ii (s:St S) (d:Int):Option Operand->Option Int
 | none=>some d
 | some x=>match ev s x with
  | some (.v (.int _ n))=>some n
  | _=>none
def G1 (tb:List (Nat×TI)) (s:St S) (T:Nat) (x:Operand) (lo hi:Option Operand):R S:=
 match Ii s 0 lo with
 | some a=>match DM tb T with
  | some .str=>match ev s x with
   | some (.v (.string ⟨⟨l⟩⟩))=>match Ii s l.length hi with
    | some b=>.val (some (decide (0<=a/\a<=b/\b<=l.length))) (.v (.string ⟨⟨(l.take b.toNat).drop a.toNat⟩⟩))
    | none=>.stop
   | _=>.stop
  | some (.array n _ esz)=>match ev s x with
   | some (.ptr i off)=>match lo,Ii s n hi with
    | none,some b=>.val (some (decide (0<=b/\b<=n))) (.view i off b.toNat n)
    | some _,some b=>match Nat.beq esz 1 with
     | true=>.val (some (decide (0<=a/\a<=b/\b<=n/\a<n))) (.view i (off+a.toNat) (b.toNat -a.toNat) (n -a.toNat))
     | false=>.stop
    | _,_=>.stop
   | _=>.stop
  | some (.slice _ esz)=>match ev s x with
   | some (.h i)=>match lk s.o i with
    | some (.sl σ l)=>match Nat.beq esz (S.sz σ),Ii s l.length hi with
     | true,some h=>.nm (some (decide (0<=a/\a<=h/\h<=l.length))) [(s.n,.sl σ ((l.take h.toNat).drop a.toNat))] (s.n+1) (.h s.n)
     | _,_=>.stop
    | _=>.stop
   | some (.tr i)=>match lk s.o i with
    | some (.tr σ E l)=>match lo,Ii s l.length hi with
     | none,some h=>.x (some (decide (0<=h/\h<=l.length))) ((s.n,.tr σ E (l.take h.toNat))::rm s.o i) (s.n+1) (.tr s.n)
     | _,_=>.stop
    | some (.dp σ E l)=>match lo,Ii s l.length hi with
     | none,some h=>.x (some (decide (0<=h/\h<=l.length))) ((s.n,.dp σ E (l.take h.toNat))::rm s.o i) (s.n+1) (.tr s.n)
     | _,_=>.stop
    | some (.mr κ τ ag E ls)=>match lo,Ii s ls.length hi with
     | none,some h=>.x (some (decide (0<=h/\h<=ls.length))) ((s.n,.mr κ τ ag E (ls.take h.toNat))::rm s.o i) (s.n+1) (.tr s.n)
     | _,_=>.stop
    | _=>.stop
   | _=>.stop
  | _=>.stop
 | none=>.stop
def Mw (place:Nat->Option (Nat×Nat)) (s:St S):List SV->List (Nat×Operand)->Option (List SV)
 | cs,[]=>some cs
 | cs,(i,x)::r=>match place i with
  | some (off,size)=>match (ev s x).bind SV.cells with
   | some new=>match Nat.beq new.length size,Nat.ble (off+size) cs.length with
    | true,true=>Mw place s (Zv cs off new) r
    | _,_=>none
   | none=>none
  | none=>none
def T4 (fs:List (Nat×Nat×Nat)) (i:Nat):Option (Nat×Nat):=match fs[i]? with
 | some f=>some (f.1,f.2.2)
 | none=>none
def DB {α:Type}:Nat->List α->List α
 | 0,_=>[]
 | n+1,l=>l++DB n l
def PU (tb:List (Nat×TI)) (s:St S) (T:Nat) (parts:List (Nat×Operand)):R S:=
 match lk tb T with
 | some t=>match t.d with
  | .struct fs=>match Mw (T4 fs) s t.zc parts with
   | some cs=>.val none (.agg cs)
   | none=>.stop
  | .array _ _ esz=>match Mw (fun i=>some (i*esz,esz)) s t.zc parts with
   | some cs=>.val none (.agg cs)
   | none=>.stop
  | _=>.stop
 | none=>.stop
def Gz (tb:List (Nat×TI)) (s:St S) (T n:Nat) (parts:List (Nat×Operand)):R S:=
 match DM tb T with
 | some (.slice e esz)=>match lk tb e with
  | some te=>match Nat.ble (n*esz) 16777216,Nat.beq te.sz esz,Nat.ble 1 esz with
   | true,true,true=>match Mw (fun i=>some (i*esz,esz)) s (DB n te.zc) parts with
    | some cs=>match te.τ with
     | some τ=>match Iy s.o τ n cs with
      | some l=>.new (.tr τ e l)
      | none=>.new (.row e esz n cs)
     | none=>.new (.row e esz n cs)
    | none=>.stop
   | _,_,_=>.stop
  | none=>.stop
 | _=>.stop
def room (bs n:Nat):Bool:=decide (n*(bs+1)<=140737488355328)
def Oc (s:St S) (τ e:Nat):SV->Option (Option Nat×List (S.T τ))
 | .v (.slice none n c)=>match Nat.beq n 0,Nat.beq c 0 with
  | true,true=>some (none,[])
  | _,_=>none
 | .tr i=>match lk s.o i with
  | some (.tr τ' E l)=>match Nat.beq E e,Nat.decEq τ' τ with
   | true,.isTrue h=>some (some i,h▸l)
   | _,_=>none
  | _=>none
 | .row i n=>match lk s.o i with
  | some (.row E z m cs)=>match Nat.beq E e,Nat.beq m n,Nat.beq z (S.sz τ) with
   | true,true,true=>match Iy s.o τ n cs with
    | some l=>some (some i,l)
    | none=>none
   | _,_,_=>none
  | _=>none
 | .view i 0 0 0=>match lk s.o i with
  | some (.AS E [])=>match Nat.beq E e with
   | true=>some (some i,[])
   | false=>none
  | _=>none
 | _=>none
def Zb (s:St S) (τ:Nat):SV->Option (Option Bool×List (S.T τ))
 | .v (.slice none n c)=>match Nat.beq n 0,Nat.beq c 0 with
  | true,true=>some (none,[])
  | _,_=>none
 | .tr i=>match lk s.o i with
  | some (.tr τ' _ l)=>match Nat.decEq τ' τ with
   | .isTrue h=>some (none,h▸l)
   | .isFalse _=>none
  | _=>none
 | .h i=>match lk s.o i with
  | some (.sl τ' l)=>match Nat.decEq τ' τ with
   | .isTrue h=>some (none,h▸l)
   | .isFalse _=>none
  | _=>none
 | .row i n=>match lk s.o i with
  | some (.row _ z m cs)=>match Nat.beq m n,Nat.beq z (S.sz τ) with
   | true,true=>match Iy s.o τ n cs with
    | some l=>some (none,l)
    | none=>none
   | _,_=>none
  | _=>none
 | .view i off len cap=>match lk s.o i with
  | some (.AS _ cs)=>match Nat.ble (off+cap*S.sz τ) cs.length with
   | true=>match Iy s.o τ cap ((cs.drop off).take (cap*S.sz τ)) with
    | some l=>some (some (decide (len<=cap)),l.take len)
    | none=>none
   | false=>none
  | _=>none
 | _=>none
def EV (o:List (Nat×Own S)):Option Nat->List (Nat×Own S)
 | none=>o
 | some i=>rm o i
def DG:Option Bool->Bool->Bool
 | none,b=>b
 | some a,b=>a && b
def Qy (tb:List (Nat×TI)) (s:St S) (T:Nat) (x y:Operand):R S:=
 match DM tb T with
 | some (.slice e esz)=>match lk tb e with
  | some te=>match te.τ with
   | some τ=>match Nat.beq esz te.sz,ev s x,ev s y with
    | true,some xv,some yv=>match Oc s τ e xv with
     | some (d,l)=>match Zb s τ yv with
      | some (c,l')=>.x (some (DG c (room te.bs (l.length+l'.length)))) ((s.n,.tr τ e (l++l'))::EV s.o d) (s.n+1) (.tr s.n)
      | none=>.stop
     | none=>.stop
    | _,_,_=>.stop
   | none=>.stop
  | none=>.stop
 | _=>.stop
def ic (S:At) (τ:Nat) (x:S.T τ):Int:=match S.enc τ x with
 | [.int _ n]=>n
 | _=>0
def Td:List Fd->Bool
 | [.int .u8]=>true
 | _=>false
def nk {T:Nat->Type}:(fs:List Fd)->UInt8->Ps T fs->Ps T fs
 | [.int .u8],c,_=>((c.toNat:Int),())
 | _,_,d=>d
def eH (S:At) (τ:Nat) (c:UInt8):S.T τ:=S.of τ (nk (S.fds τ) c (S.to τ (S.A9 τ)))
def dy (tb:List (Nat×TI)) (s:St S) (T:Nat) (x y:Operand):R S:=
 match DM tb T with
 | some (.slice e esz)=>match lk tb e with
  | some te=>match te.τ,te.z with
   | some τ,.int .u8 (.ofNat 0)=>match Td (S.fds τ),Nat.beq esz te.sz,Nat.beq te.bs 1,ev s x,ev s y with
    | true,true,true,some xv,some (.v (.string ⟨⟨bs⟩⟩))=>match Oc s τ e xv with
     | some (d,l)=>.x (some (room te.bs (l.length+bs.length))) ((s.n,.tr τ e (l++bs.map (eH S τ)))::EV s.o d) (s.n+1) (.tr s.n)
     | none=>.stop
    | _,_,_,_,_=>.stop
   | _,_=>.stop
  | none=>.stop
 | _=>.stop
def Tc (d:Nat):List Oper->Bool
 | []=>false
 | o::r=>match o.op with
  | .call ⟨.builtin .append,⟨[.tmp u,_]⟩,_⟩=>match Nat.beq u d with
   | true=>true
   | false=>Tc d r
  | _=>Tc d r
def Xq (tb:List (Nat×TI)) (all:List Oper) (o:Oper):Option Nat:=match o.op,o.dst with
 | .buildSlice T 0 ⟨[]⟩,some d=>match DM tb T,Tc d all with
  | some (.slice e esz),true=>match lk tb e with
   | some te=>match te.τ,Nat.beq te.sz esz,Nat.ble 1 esz with
    | some _,true,true=>some e
    | _,_,_=>none
   | none=>none
  | _,_=>none
 | _,_=>none
def VX (tb:List (Nat×TI)) (s:St S):Op->Option (Nat×Bool×R S)
 | .call ⟨.builtin .append,⟨[x,y]⟩,⟨[T,T']⟩⟩=>match Nat.beq T' T,DM tb T with
  | true,some (.slice e esz)=>match lk tb e with
   | some te=>match te.τ with
    | some τ=>match Nat.beq esz te.sz,ev s x,ev s y with
     | true,some (.view j 0 0 0),some yv=>match lk s.o j with
      | some (.AS E [])=>match Nat.beq E e,Zb s τ yv with
       | true,some (c,l')=>some (j,decide (l'.length=0),.nm (some (DG c (room te.bs l'.length))) [(s.n,.tr τ e l')] (s.n+1) (.tr s.n))
       | _,_=>none
      | _=>none
     | _,_,_=>none
    | none=>none
   | none=>none
  | _,_=>none
 | _=>none
def Wk (s:St S) (τ e:Nat):SV->Option (Option Nat×List (S.T τ))
 | .v (.slice none n c)=>match Nat.beq n 0,Nat.beq c 0 with
  | true,true=>some (none,[])
  | _,_=>none
 | .tr i=>match lk s.o i with
  | some (.dp τ' E l)=>match Nat.beq E e,Nat.decEq τ' τ with
   | true,.isTrue h=>some (some i,h▸l)
   | _,_=>none
  | _=>none
 | _=>none
def dw (tb:List (Nat×TI)) (s:St S) (T:Nat) (x y:Operand):R S:=
 match DM tb T with
 | some (.slice e esz)=>match lk tb e with
  | some te=>match te.δ with
   | some τ=>match Nat.beq esz te.sz,ev s x,ev s y with
    | true,some xv,some (.row k m)=>match Wk s τ e xv,lk s.o k with
     | some (d,l),some (.row _ z m' cs)=>match Nat.beq m' m,Nat.beq z (S.sz τ),Ky s.o τ m cs with
      | true,true,some (l',js)=>match Nat.ble 1 m && Qc js with
       | true=>.x (some (room te.bs (l.length+l'.length))) ((s.n,.dp τ e (l++l'))::db (EV s.o d) js) (s.n+1) (.tr s.n)
       | false=>.stop
      | _,_,_=>.stop
     | _,_=>.stop
    | _,_,_=>.stop
   | none=>.stop
  | none=>.stop
 | _=>.stop
def iM:R S->R S->R S
 | .stop,r=>r
 | r,_=>r
def Yh (tb:List (Nat×TI)) (s:St S) (T:Nat) (l c:Operand):R S:=
 match DM tb T with
 | some (.slice e esz)=>match lk tb e with
  | some te=>match te.τ with
   | some τ=>match Nat.beq esz te.sz,ev s l,ev s c with
    | true,some (.v (.int _ L)),some (.v (.int _ C))=>.nm (some (decide (0<=L/\L<=C/\C*(te.bs+1)<=140737488355328))) [(s.n,.tr τ e (List.replicate L.toNat (S.A9 τ)))] (s.n+1) (.tr s.n)
    | _,_,_=>.stop
   | none=>.stop
  | none=>.stop
 | _=>.stop
def XA (tb:List (Nat×TI)) (s:St S) (T:Nat) (x y:Operand):R S:=
 match DM tb T with
 | some (.slice e esz)=>match lk tb e with
  | some te=>match te.τ,Nat.beq esz te.sz with
   | some τ,true=>match ev s x,ev s y with
    | some (.tr i),some yv=>match lk s.o i with
     | some (.tr τ' E l)=>match Nat.decEq τ' τ with
      | .isTrue h=>match Zb s τ yv with
       | some (c,l')=>.x c (pt s.o i (.tr τ E (l'.take l.length++(h▸l:List (S.T τ)).drop l'.length))) s.n (.v (.int .i64 ((min l'.length l.length:Nat):Int)))
       | none=>.stop
      | .isFalse _=>.stop
     | _=>.stop
    | _,_=>.stop
   | _,_=>.stop
  | none=>.stop
 | _=>.stop
def Yf (tb:List (Nat×TI)) (s:St S) (T:Nat) (l c:Operand):R S:=
 match DM tb T with
 | some (.slice e esz)=>match lk tb e with
  | some te=>match te.δ with
   | some τ=>match Nat.beq esz te.sz,ev s l,ev s c with
    | true,some (.v (.int _ L)),some (.v (.int _ C))=>.nm (some (decide (0<=L/\L<=C/\C*(te.bs+1)<=140737488355328))) [(s.n,.dp τ e (List.replicate L.toNat (S.A9 τ)))] (s.n+1) (.tr s.n)
    | _,_,_=>.stop
   | none=>.stop
  | none=>.stop
 | _=>.stop
def RS:TD->Option Fd
 | .int k=>some (.int k)
 | .str=>some .str
 | _=>none
def ID:Fd->Fd->Bool
 | .int k,.int k'=>IE k k'
 | .str,.str=>true
 | _,_=>false
def Gn (ag:Bool) (x:SV):Option (List SV):=match ag with
 | true=>x.GQ
 | false=>match x.one with
  | true=>some [x]
  | false=>none
def HQ:Bool->Bool->Bool
 | true,true=>true
 | false,false=>true
 | _,_=>false
def Yg (tb:List (Nat×TI)) (T:Nat):R S:=
 match DM tb T with
 | some (.map k e)=>match (DM tb k).bind RS,lk tb e with
  | some κ,some te=>match te.τ with
   | some τ=>.new (.mp κ τ te.agg [])
   | none=>.stop
  | _,_=>.stop
 | _=>.stop
def cY (tb:List (Nat×TI)) (s:St S) (T:Nat) (m k v:Operand):R S:=
 match DM tb T with
 | some (.map kt _)=>match ev s m with
  | some (.By i)=>match lk s.o i,(DM tb kt).bind RS with
   | some (.mp κ τ ag l),some κ'=>match ID κ' κ,(ev s k).bind (rd s.o κ),((ev s v).bind (Gn ag)).bind (ZF s.o (S.fds τ)) with
    | true,some a,some (p,[])=>.Sh none i (.mp κ τ ag (Ku κ l a (S.of τ p)))
    | _,_,_=>.stop
   | _,_=>.stop
  | some (.mk i e)=>match lk s.o i,(DM tb kt).bind RS with
   | some (.mr κ τ ag E ls),some κ'=>match ID κ' κ,(ev s k).bind (rd s.o κ),((ev s v).bind (Gn ag)).bind (ZF s.o (S.fds τ)) with
    | true,some a,some (p,[])=>.Sh (some (decide (e<ls.length))) i (.mr κ τ ag E (ls.set e (Ku κ (ls.getD e []) a (S.of τ p))))
    | _,_,_=>.stop
   | _,_=>.stop
  | _=>.stop
 | _=>.stop
def okV (ok:Bool) (x:SV) (b:Bool):SV:=match ok with
 | true=>.Gr [x,.b b]
 | false=>x
def iB (t:TI):Bool:=match t.agg with
 | true=>match t.z with
  | .agg _=>true
  | _=>false
 | false=>t.z.oneCell'
def NY (s:St S) (c:Option Bool) (τ:Nat) (ag ok:Bool) (v:Option (S.T τ)):R S:=
 match EO (S.enc τ (v.getD (S.A9 τ))) s.n with
 | (cs,o1,n')=>match ag,cs with
  | true,cs=>.nm c o1 n' (okV ok (.agg cs) v.isSome)
  | false,[x]=>.nm c o1 n' (okV ok x v.isSome)
  | _,_=>.stop
def YP (tb:List (Nat×TI)) (s:St S) (T:Nat) (m k:Operand) (ok:Bool):R S:=
 match DM tb T with
 | some (.map kt e)=>match (DM tb kt).bind RS,lk tb e with
  | some κ',some te=>match te.τ,iB te with
   | some τ',true=>match ev s m with
    | some (.By i)=>match lk s.o i with
     | some (.mp κ τ ag l)=>match ID κ' κ,Nat.beq τ τ',HQ ag te.agg,(ev s k).bind (rd s.o κ) with
      | true,true,true,some a=>NY s none τ ag ok (Du κ l a)
      | _,_,_,_=>.stop
     | _=>.stop
    | some (.mk i e)=>match lk s.o i with
     | some (.mr κ τ ag _ ls)=>match ID κ' κ,Nat.beq τ τ',HQ ag te.agg,(ev s k).bind (rd s.o κ) with
      | true,true,true,some a=>NY s (some (decide (e<ls.length))) τ ag ok (Du κ (ls.getD e []) a)
      | _,_,_,_=>.stop
     | _=>.stop
    | some (.v (.map none))=>match (ev s k).bind (rd s.o κ') with
     | some _=>NY s none τ' te.agg ok none
     | none=>.stop
    | _=>.stop
   | _,_=>.stop
  | _,_=>.stop
 | _=>.stop
def Qa {T:Nat->Type} {α:Type} (κ:Fd):List (κ.T T×α)->κ.T T->Nat
 | [],_=>0
 | x::r,k=>match Jk κ k x.1 with
  | true=>0
  | false=>Qa κ r k+1
def Nb {T:Nat->Type} {α:Type} (κ:Fd):List (κ.T T×α)->Nat->α->List (κ.T T×α)
 | [],_,_=>[]
 | x::r,0,v=>(x.1,v)::r
 | x::r,j+1,v=>x::Nb κ r j v
def Np:List (FC S.T)->Option (IntKind×Int)
 | [.int k n]=>some (k,n)
 | _=>none
def eY (tb:List (Nat×TI)) (s:St S) (T:Nat) (m k:Operand):R S:=
 match DM tb T with
 | some (.map kt e)=>match (DM tb kt).bind RS,lk tb e with
  | some κ',some te=>match te.τ,iB te with
   | some τ',true=>match ev s m with
    | some (.By i)=>match lk s.o i with
     | some (.mp κ τ ag l)=>match ID κ' κ,Nat.decEq τ τ',HQ ag te.agg,(ev s k).bind (rd s.o κ) with
      | true,.isTrue _,true,some a=>match ag,Np (S.enc τ ((Du κ l a).getD (S.A9 τ))) with
       | false,some (q,n)=>.x none (pt s.o i (.mp κ τ ag (Ku κ l a ((Du κ l a).getD (S.A9 τ))))) s.n (.Gr [.v (.int q n),.v (.int .i64 ((Qa κ l a:Nat):Int))])
       | _,_=>.stop
      | _,_,_,_=>.stop
     | _=>.stop
    | some (.mk i d)=>match lk s.o i with
     | some (.mr κ τ ag E ls)=>match ID κ' κ,Nat.decEq τ τ',HQ ag te.agg,(ev s k).bind (rd s.o κ) with
      | true,.isTrue _,true,some a=>match ag,Np (S.enc τ ((Du κ (ls.getD d []) a).getD (S.A9 τ))) with
       | false,some (q,n)=>.x (some (decide (d<ls.length))) (pt s.o i (.mr κ τ ag E (ls.set d (Ku κ (ls.getD d []) a ((Du κ (ls.getD d []) a).getD (S.A9 τ)))))) s.n (.Gr [.v (.int q n),.v (.int .i64 ((Qa κ (ls.getD d []) a:Nat):Int))])
       | _,_=>.stop
      | _,_,_,_=>.stop
     | _=>.stop
    | _=>.stop
   | _,_=>.stop
  | _,_=>.stop
 | _=>.stop
def eZ (s:St S) (m st v:Operand):R S:=
 match ev s st with
 | some (.v (.int .i64 n))=>match ev s m with
  | some (.By i)=>match lk s.o i with
   | some (.mp κ τ ag l)=>match ((ev s v).bind (Gn ag)).bind (ZF s.o (S.fds τ)) with
    | some (p,[])=>.Sh (some (decide (0<=n/\n<l.length))) i (.mp κ τ ag (Nb κ l n.toNat (S.of τ p)))
    | _=>.stop
   | _=>.stop
  | some (.mk i d)=>match lk s.o i with
   | some (.mr κ τ ag E ls)=>match ((ev s v).bind (Gn ag)).bind (ZF s.o (S.fds τ)) with
    | some (p,[])=>.Sh (some (decide (d<ls.length/\0<=n/\n<(ls.getD d []).length))) i (.mr κ τ ag E (ls.set d (Nb κ (ls.getD d []) n.toNat (S.of τ p))))
    | _=>.stop
   | _=>.stop
  | _=>.stop
 | _=>.stop
def Yj (tb:List (Nat×TI)) (s:St S) (T n:Nat) (parts:List (Nat×Operand)):R S:=
 match DM tb T with
 | some (.slice e esz)=>match lk tb e,Nat.beq esz 1,Nat.beq n 1,parts with
  | some te,true,true,[(0,x)]=>match te.agg,Nat.beq te.sz 1,ev s x with
   | false,true,some (.By j)=>match lk s.o j with
    | some (.mp κ τ ag l)=>.x none ((s.n,.mr κ τ ag e [l])::rm s.o j) (s.n+1) (.tr s.n)
    | _=>.stop
   | _,_,_=>.stop
  | _,_,_,_=>.stop
 | _=>.stop
def Vi (f g:Fd):Option (PLift (f=g)):=match f,g with
 | .int .i8,.int .i8=>some ⟨rfl⟩|.int .i16,.int .i16=>some ⟨rfl⟩|.int .i32,.int .i32=>some ⟨rfl⟩|.int .i64,.int .i64=>some ⟨rfl⟩
 | .int .u8,.int .u8=>some ⟨rfl⟩|.int .u16,.int .u16=>some ⟨rfl⟩|.int .u32,.int .u32=>some ⟨rfl⟩|.int .u64,.int .u64=>some ⟨rfl⟩
 | .str,.str=>some ⟨rfl⟩
 | _,_=>none
def dx (tb:List (Nat×TI)) (s:St S) (T:Nat) (x y:Operand):R S:=
 match DM tb T with
 | some (.slice e esz)=>match lk tb e,Nat.beq esz 1,ev s y with
  | some te,true,some (.tr k)=>match Nat.beq te.sz 1,lk s.o k with
   | true,some (.mr κ τ ag E [l])=>match Nat.beq E e,ev s x with
    | true,some (.v (.slice none n c))=>match Nat.beq n 0,Nat.beq c 0 with
     | true,true=>.x (some (room te.bs 1)) ((s.n,.mr κ τ ag e [l])::rm s.o k) (s.n+1) (.tr s.n)
     | _,_=>.stop
    | true,some (.tr i)=>match Nat.beq i k,lk s.o i with
     | false,some (.mr κ' τ' ag' E' ls')=>match Nat.beq E' e,HQ ag' ag,Nat.decEq τ' τ,Vi κ' κ with
      | true,true,.isTrue h,some ⟨h'⟩=>.x (some (room te.bs (ls'.length+1))) ((s.n,.mr κ τ ag e ((h▸h'▸ls':List (List (κ.T S.T×S.T τ)))++[l]))::rm (rm s.o i) k) (s.n+1) (.tr s.n)
      | _,_,_,_=>.stop
     | _,_=>.stop
    | _,_=>.stop
   | _,_=>.stop
  | _,_,_=>.stop
 | _=>.stop
def ZA (c:Bool):SV->SV->Option SV
 | .v (.int k a),.v (.int k' b)=>match IE k' k with
  | true=>some (.v (.int k (if c=true then a else b)))
  | false=>none
 | .v (.string ⟨⟨a⟩⟩),.v (.string ⟨⟨b⟩⟩)=>some (.v (.string ⟨⟨if c=true then a else b⟩⟩))
 | .b a,.b b=>some (.b (if c=true then a else b))
 | .v (.bool a),.b b=>some (.b (if c=true then a else b))
 | .b a,.v (.bool b)=>some (.b (if c=true then a else b))
 | _,_=>none
def iE:List SV->Option (List Int)
 | []=>some []
 | .v (.int .u8 n)::r=>match iE r with
  | some l=>some (n::l)
  | none=>none
 | _=>none
def PV (s:St S) (x:SV):R S:=match x with
 | .row i n=>match lk s.o i with
  | some (.row _ z m cs)=>match Nat.beq m n,Nat.beq z 1,Nat.ble 1 n,iE cs with
   | true,true,true,some xs=>.val none (.v (.string ⟨⟨xs.map fun k=>k.toNat.toUInt8⟩⟩))
   | _,_,_,_=>.stop
  | _=>.stop
 | .view i off len _=>match lk s.o i with
  | some (.AS _ cs)=>match iE cs with
   | some xs=>.val (some (decide (off+len<=xs.length))) (.v (.string ⟨⟨((xs.drop off).take len).map fun k=>k.toNat.toUInt8⟩⟩))
   | none=>.stop
  | _=>.stop
 | .tr i=>match lk s.o i with
  | some (.tr τ _ l)=>match Td (S.fds τ) with
   | true=>.val none (.v (.string ⟨⟨l.map fun x=>(ic S τ x).toNat.toUInt8⟩⟩))
   | false=>.stop
  | _=>.stop
 | _=>.stop
def TN (tb:List (Nat×TI)) (s:St S) (ts t:TI) (a:SV):R S:=match ts.d with
 | .slice e _=>match t.d,DM tb e with
  | .str,some (.int .u8)=>PV s a
  | _,_=>.stop
 | _=>conv t a
def evalOp (tb:List (Nat×TI)) (s:St S):Op->R S
 | .move x=>match ev s x with|some v=>.val none v|none=>.stop
 | .assign x=>match ev s x with|some v=>.val none v|none=>.stop
 | .pick c x y=>match ev s c with
  | some (.v (.bool true))=>(match ev s x with|some v=>.val none v|none=>.stop)
  | some (.v (.bool false))=>(match ev s y with|some v=>.val none v|none=>.stop)
  | some (.b c)=>(match ev s x,ev s y with
   | some u,some v=>match ZA c u v with
    | some z=>.val none z
    | none=>.stop
   | _,_=>.stop)
  | _=>.stop
 | .alloc T=>match lk tb T with|some t=>.new (.AS T t.zc)|none=>.stop
 | .box T x=>match (ev s x).bind SV.cells with|some cs=>.new (.AS T cs)|none=>.stop
 | .load T x=>JB tb s T x
 | .store T x y=>IL tb s T x y
 | .nilCheck x=>XD s x
 | .binOp op T x y _=>match ev s x,ev s y with
  | some a,some b=>match DM tb T with
   | some .bool=>match a.PO,b.PO with
    | some p,some q=>eB op p q
    | _,_=>.stop
   | some (.struct _)=>eA tb op T a b
   | some (.ptr _)=>eE op a b
   | some (.slice _ _)=>eD s op a b
   | _=>match og tb T,op with
    | true,.add=>eF a b
    | _,_=>bin op a b
  | _,_=>.stop
 | .unOp op _ x=>match ev s x with|some a=>un op a|none=>.stop
 | .convert src dst x=>match lk tb src,lk tb dst,ev s x with|some ts,some t,some a=>TN tb s ts t a|_,_,_=>.stop
 | .makeFunc (.func f) ⟨[]⟩ ⟨cap⟩=>match Nat.ble 1000000 f,Hk s cap with|false,some l=>.val none (.fn f l)|_,_=>.stop
 | .makeFunc (.func f) ⟨fst⟩ ⟨[]⟩=>match Hk s fst with|some l=>.val none (.fn (f+1000000) l)|none=>.stop
 | .fieldAddr T x j=>Hl tb s T x j
 | .field T x j=>PX tb s T x j
 | .indexAddr T x i=>Hm tb s T x i
 | .index T x i=>match DM tb T with|some .str=>PY s x i|some (.array n e esz)=>Mt tb s n e esz x i|_=>.stop
 | .slice T x lo hi none=>G1 tb s T x lo hi
 | .extract x j=>KY s x j
 | .build T ⟨parts⟩=>PU tb s T parts
 | .buildSlice T n ⟨parts⟩=>iM (Yj tb s T n parts) (Gz tb s T n parts)
 | .makeSlice T l c=>iM (Yh tb s T l c) (Yf tb s T l c)
 | .makeMap T none=>Yg tb T
 | .mapUpdate T m k v=>cY tb s T m k v
 | .insert T m k v=>cY tb s T m k v
 | .mapEntry T m k=>eY tb s T m k
 | .entryStore _ m st v=>eZ s m st v
 | .lookup T m k ok=>YP tb s T m k ok
 | .call ⟨.builtin .len,⟨[x]⟩,⟨[T]⟩⟩=>XC tb s T x
 | .call ⟨.builtin .min,⟨[x,y]⟩,_⟩=>Jn false s x y
 | .call ⟨.builtin .max,⟨[x,y]⟩,_⟩=>Jn true s x y
 | .call ⟨.builtin .append,⟨[x,y]⟩,⟨[T,T']⟩⟩=>match Nat.beq T' T with|true=>iM (Qy tb s T x y) (iM (dw tb s T x y) (dx tb s T x y))|false=>match DM tb T' with|some .str=>dy tb s T x y|_=>.stop
 | .call ⟨.builtin .copy,⟨[x,y]⟩,⟨[T,_]⟩⟩=>XA tb s T x y
 | _=>.stop
end
end Go.En
