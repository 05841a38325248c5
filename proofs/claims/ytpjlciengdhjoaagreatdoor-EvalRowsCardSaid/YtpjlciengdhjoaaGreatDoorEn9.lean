/-
 Patterns: what a list of values and blocks is, as data (enc); a state looked at by a pattern (parse); and that a state so looked at is the pattern's own, of the data that were found.
-/
import Derived.Test.YtpjlciengdhjoaaGreatDoorMb
namespace Go.En
open Go.RowKit
inductive C0 where
 | fd (f:Fd)
 | st (τ:Nat)
 | own (τ E:Nat)
 | al (i off:Nat)
 | fn (f:Nat) (caps:List (Nat×Nat))
 | dp (τ E:Nat)
 | mp (κ:Fd) (τ:Nat) (ag:Bool)
 | mr (κ:Fd) (τ:Nat) (ag:Bool) (E:Nat)
 | rw (i:Nat)
 | rm (i:Nat)
 | ep (i z off:Nat)
 | np
 | hd
 | hm
abbrev C0.T (S:As):C0->Type
 | .fd f=>f.T S.T
 | .st τ=>S.T τ
 | .own τ _=>List (S.T τ)
 | .al _ _=>Unit
 | .fn _ _=>Unit
 | .dp τ _=>List (S.T τ)
 | .mp κ τ _=>List (κ.T S.T×S.T τ)
 | .mr κ τ _ _=>List (List (κ.T S.T×S.T τ))
 | .rw _=>Unit
 | .rm _=>Unit
 | .ep _ _ _=>Nat
 | .np=>Unit
 | .hd=>Unit
 | .hm=>Unit
abbrev PT (S:As):List C0->Type
 | []=>Unit
 | p::r=>p.T S×PT S r
structure Gx where
 i:Nat
 T:Nat
 ps:List C0
 row:Bool
abbrev BT (S:As):List Gx->Type
 | []=>Unit
 | b::r=>PT S b.ps×BT S r
structure Spec where
 as:List C0
 bx:List Gx
abbrev Spec.D (S:As) (q:Spec):Type:=PT S q.as×BT S q.bx
def EI (i:Nat):List Nat->Bool
 | []=>false
 | j::r=>match Nat.beq j i with
  | true=>true
  | false=>EI i r
theorem Cn {i:Nat}: ∀ {l:List Nat},EI i l=true↔i∈l
 | []=>by simp [EI]
 | j::r=>by
  simp only [EI,List.mem_cons]
  split
  ·rename_i h;simp [ac h]
  ·rename_i h
   have:¬ i=j:=fun e=>by subst e;simp at h
   simp [this,Cn (l:=r)]
section
variable {S:As}
def B3:(p:C0)->p.T S->Nat->List (Nat×Own S)->List SV×List (Nat×Own S)×Nat
 | .fd f,x,n,o=>Ch [f.fc x] n o
 | .st τ,x,n,o=>Ch (S.enc τ x) n o
 | .own τ E,l,n,o=>([.tr n],(n,.tr τ E l)::o,n+1)
 | .al i off,_,n,o=>([.ptr i off],o,n)
 | .fn f caps,_,n,o=>([.fn f (caps.map fun c=>.ptr c.1 c.2)],o,n)
 | .dp τ E,l,n,o=>([.tr n],(n,.dp τ E l)::o,n+1)
 | .mp κ τ ag,l,n,o=>([.CC n],(n,.mp κ τ ag l)::o,n+1)
 | .mr κ τ ag E,l,n,o=>([.tr n],(n,.mr κ τ ag E l)::o,n+1)
 | .rw i,_,n,o=>([.tr i],o,n)
 | .rm i,_,n,o=>([.CC i],o,n)
 | .ep i z off,e,n,o=>([.ep i z e off],o,n)
 | .np,_,n,o=>([.v (.pointer none)],o,n)
 | .hd,_,n,o=>([.h n],(n,.any)::o,n+1)
 | .hm,_,n,o=>([.hm n],(n,.any)::o,n+1)
def Er:(ps:List C0)->PT S ps->Nat->List (Nat×Own S)->List SV×List (Nat×Own S)×Nat
 | [],_,n,o=>([],o,n)
 | p::r,x,n,o=>match B3 p x.1 n o with
  | (cs,o1,n1)=>match Er r x.2 n1 o1 with
   | (ds,o2,n2)=>(cs++ds,o2,n2)
def C0.val:C0->List SV->SV
 | .st _,cs=>.agg cs
 | _,[x]=>x
 | _,cs=>.agg cs
def CV:(ps:List C0)->PT S ps->Nat->List (Nat×Own S)->List SV×List (Nat×Own S)×Nat
 | [],_,n,o=>([],o,n)
 | p::r,x,n,o=>match B3 p x.1 n o with
  | (cs,o1,n1)=>match CV r x.2 n1 o1 with
   | (ds,o2,n2)=>(p.val cs::ds,o2,n2)
def OD:(p:C0)->p.T S->Option (Own S)
 | .own τ E,l=>some (.tr τ E l)
 | .dp τ E,l=>some (.dp τ E l)
 | .mp κ τ ag,l=>some (.mp κ τ ag l)
 | .mr κ τ ag E,l=>some (.mr κ τ ag E l)
 | _,_=>none
def rowOf:(ps:List C0)->PT S ps->Option (Own S)
 | [p],x=>OD p x.1
 | _,_=>none
def F7 (b:Gx) (x:PT S b.ps) (n:Nat) (o:List (Nat×Own S)):List (Nat×Own S)×Nat:=match b.row with
 | false=>match Er b.ps x n o with
  | (cs,o1,n1)=>((b.i,.AX b.T cs)::o1,n1)
 | true=>match rowOf b.ps x with
  | some c=>((b.i,c)::o,n)
  | none=>(o,n)
def Ep:(bs:List Gx)->BT S bs->Nat->List (Nat×Own S)->List (Nat×Own S)×Nat
 | [],_,n,o=>(o,n)
 | b::r,x,n,o=>match F7 b x.1 n o with
  | (o1,n1)=>Ep r x.2 n1 o1
def Spec.enc (q:Spec) (x:q.D S) (n:Nat):List SV×List (Nat×Own S)×Nat:=
 match CV q.as x.1 n [] with
 | (vs,o1,n1)=>match Ep q.bx x.2 n1 o1 with
  | (o2,n2)=>(vs,o2,n2)
structure PS (S:As) where
 o:List (Nat×Own S)
 m:List (Nat×Nat)
 bl:List Nat
 bn:Nat
def Ms (bn i j:Nat) (m:List (Nat×Nat)):Option (List (Nat×Nat)):=
 match Nat.ble (i+1) bn with
 | true=>match lk m i with
  | none=>some ((i,j)::m)
  | some j'=>match Nat.beq j' j with
   | true=>some m
   | false=>none
 | false=>none
def FX (bn:Nat):List (Nat×Nat)->List SV->List (Nat×Nat)->Option (List (Nat×Nat))
 | [],[],m=>some m
 | (i,off)::r,.ptr j off'::cs,m=>match Nat.beq off' off with
  | true=>match Ms bn i j m with
   | some m'=>FX bn r cs m'
   | none=>none
  | false=>none
 | _,_,_=>none
def dL (bw:Bool) (f:Fd) (v:SV) (ps:PS S):Option (f.T S.T×PS S):=
 match f,v with
 | .sl σ,.tr j=>match bw with
  | true=>match lk ps.o j with
   | some (.tr τ _ l)=>match Nat.decEq τ σ with
    | .isTrue h=>some (h▸l,{ ps with bl:=j::ps.bl })
    | .isFalse _=>none
   | _=>none
  | false=>none
 | f,v=>match rd ps.o f v with
  | some x=>some (x,ps)
  | none=>none
def Ty (τ E:Nat) (v:SV) (ps:PS S):Option (List (S.T τ)×PS S):=
 match v with
 | .tr j=>match lk ps.o j with
  | some (.tr τ' E' l)=>match Nat.beq E' E,EI j ps.bl,Nat.decEq τ' τ with
   | true,false,.isTrue h=>some (h▸l,{ ps with o:=rm ps.o j })
   | _,_,_=>none
  | _=>none
 | .v (.slice none n c)=>match Nat.beq n 0,Nat.beq c 0 with
  | true,true=>some ([],ps)
  | _,_=>none
 | .row j n=>match lk ps.o j with
  | some (.row E' z m cs)=>match Nat.beq E' E,EI j ps.bl,Nat.beq m n,Nat.beq z (S.sz τ) with
   | true,false,true,true=>match I7 ps.o τ n cs with
    | some l=>some (l,{ ps with o:=rm ps.o j })
    | none=>none
   | _,_,_,_=>none
  | _=>none
 | _=>none
def ff (τ E:Nat) (v:SV) (ps:PS S):Option (List (S.T τ)×PS S):=
 match v with
 | .tr j=>match lk ps.o j with
  | some (.dp τ' E' l)=>match Nat.beq E' E,EI j ps.bl,Nat.decEq τ' τ with
   | true,false,.isTrue h=>some (h▸l,{ ps with o:=rm ps.o j })
   | _,_,_=>none
  | _=>none
 | .v (.slice none n c)=>match Nat.beq n 0,Nat.beq c 0 with
  | true,true=>some ([],ps)
  | _,_=>none
 | _=>none
def fk (κ:Fd) (τ:Nat) (ag:Bool) (v:SV) (ps:PS S):Option (List (κ.T S.T×S.T τ)×PS S):=
 match v with
 | .CC j=>match lk ps.o j with
  | some (.mp κ' τ' ag' l)=>match HU ag' ag,EI j ps.bl,Nat.decEq τ' τ,Vp κ' κ with
   | true,false,.isTrue h,some ⟨h'⟩=>some (h▸h'▸l,{ ps with o:=rm ps.o j })
   | _,_,_,_=>none
  | _=>none
 | _=>none
def fp (κ:Fd) (τ:Nat) (ag:Bool) (E:Nat) (v:SV) (ps:PS S):Option (List (List (κ.T S.T×S.T τ))×PS S):=
 match v with
 | .tr j=>match lk ps.o j with
  | some (.mr κ' τ' ag' E' l)=>match Nat.beq E' E,HU ag' ag,EI j ps.bl,Nat.decEq τ' τ,Vp κ' κ with
   | true,true,false,.isTrue h,some ⟨h'⟩=>some (h▸h'▸l,{ ps with o:=rm ps.o j })
   | _,_,_,_,_=>none
  | _=>none
 | .v (.slice none n c)=>match Nat.beq n 0,Nat.beq c 0 with
  | true,true=>some ([],ps)
  | _,_=>none
 | _=>none
def SV.jn:SV->Bool
 | .tr _=>true
 | .h _=>true
 | _=>false
def SV.jo:SV->Bool
 | .CC _=>true
 | .hm _=>true
 | .v (.map none)=>true
 | _=>false
def pP (bw:Bool):(p:C0)->List SV->PS S->Option (p.T S×List SV×PS S)
 | .fd f,v::r,ps=>match dL bw f v ps with
  | some (x,ps')=>some (x,r,ps')
  | none=>none
 | .st τ,cs,ps=>match ZI ps.o (S.fds τ) cs with
  | some (p,r)=>some (S.of τ p,r,ps)
  | none=>none
 | .own τ E,v::r,ps=>match Ty τ E v ps with
  | some (x,ps')=>some (x,r,ps')
  | none=>none
 | .dp τ E,v::r,ps=>match ff τ E v ps with
  | some (x,ps')=>some (x,r,ps')
  | none=>none
 | .mp κ τ ag,v::r,ps=>match fk κ τ ag v ps with
  | some (x,ps')=>some (x,r,ps')
  | none=>none
 | .mr κ τ ag E,v::r,ps=>match fp κ τ ag E v ps with
  | some (x,ps')=>some (x,r,ps')
  | none=>none
 | .rw i,.tr j::r,ps=>match Ms ps.bn i j ps.m with
  | some m'=>some ((),r,{ ps with m:=m' })
  | none=>none
 | .rm i,.CC j::r,ps=>match Ms ps.bn i j ps.m with
  | some m'=>some ((),r,{ ps with m:=m' })
  | none=>none
 | .ep i z off,.ep j z' e off'::r,ps=>match Nat.beq z' z,Nat.beq off' off,Ms ps.bn i j ps.m with
  | true,true,some m'=>some (e,r,{ ps with m:=m' })
  | _,_,_=>none
 | .al i off,.ptr j off'::r,ps=>match Nat.beq off' off,Ms ps.bn i j ps.m with
  | true,some m'=>some ((),r,{ ps with m:=m' })
  | _,_=>none
 | .fn f caps,.fn g cs::r,ps=>match Nat.beq g f,FX ps.bn caps cs ps.m with
  | true,some m'=>some ((),r,{ ps with m:=m' })
  | _,_=>none
 | .np,.v (.pointer none)::r,ps=>some ((),r,ps)
 | .hd,v::r,ps=>match v.jn with
  | true=>some ((),r,ps)
  | false=>none
 | .hm,v::r,ps=>match v.jo with
  | true=>some ((),r,ps)
  | false=>none
 | _,_,_=>none
def Qv (bw:Bool):(qs:List C0)->List SV->PS S->Option (PT S qs×PS S)
 | [],[],ps=>some ((),ps)
 | [],_::_,_=>none
 | p::r,cs,ps=>match pP bw p cs ps with
  | some (x,cs',ps')=>match Qv bw r cs' ps' with
   | some (y,ps'')=>some ((x,y),ps'')
   | none=>none
  | none=>none
def C0.cellsOf:C0->SV->Option (List SV)
 | .st _,v=>v.GN
 | _,v=>some [v]
def OU (bw:Bool):(qs:List C0)->List SV->PS S->Option (PT S qs×PS S)
 | [],[],ps=>some ((),ps)
 | p::r,v::vs,ps=>match p.cellsOf v with
  | some cs=>match pP bw p cs ps with
   | some (x,[],ps')=>match OU bw r vs ps' with
    | some (y,ps'')=>some ((x,y),ps'')
    | none=>none
   | _=>none
  | none=>none
 | _,_,_=>none
def ZC:(p:C0)->Nat->PS S->Option (p.T S×PS S)
 | .own τ E,j,ps=>match lk ps.o j with
  | some (.tr τ' E' l)=>match Nat.beq E' E,Nat.decEq τ' τ with
   | true,.isTrue h=>some (h▸l,{ ps with o:=rm ps.o j })
   | _,_=>none
  | _=>none
 | .dp τ E,j,ps=>match lk ps.o j with
  | some (.dp τ' E' l)=>match Nat.beq E' E,Nat.decEq τ' τ with
   | true,.isTrue h=>some (h▸l,{ ps with o:=rm ps.o j })
   | _,_=>none
  | _=>none
 | .mp κ τ ag,j,ps=>match lk ps.o j with
  | some (.mp κ' τ' ag' l)=>match HU ag' ag,Nat.decEq τ' τ,Vp κ' κ with
   | true,.isTrue h,some ⟨h'⟩=>some (h▸h'▸l,{ ps with o:=rm ps.o j })
   | _,_,_=>none
  | _=>none
 | .mr κ τ ag E,j,ps=>match lk ps.o j with
  | some (.mr κ' τ' ag' E' l)=>match Nat.beq E' E,HU ag' ag,Nat.decEq τ' τ,Vp κ' κ with
   | true,true,.isTrue h,some ⟨h'⟩=>some (h▸h'▸l,{ ps with o:=rm ps.o j })
   | _,_,_,_=>none
  | _=>none
 | _,_,_=>none
def ZB:(qs:List C0)->Nat->PS S->Option (PT S qs×PS S)
 | [p],j,ps=>match ZC p j ps with
  | some (x,ps')=>some ((x,()),ps')
  | none=>none
 | _,_,_=>none
def QX (b:Gx) (j:Nat) (ps:PS S):Option (PT S b.ps×PS S):=match b.row with
 | false=>match lk ps.o j with
  | some (.AX T cs)=>match Nat.beq T b.T with
   | true=>Qv false b.ps cs { ps with o:=rm ps.o j }
   | false=>none
  | _=>none
 | true=>ZB b.ps j ps
def U9:(bs:List Gx)->List Nat->PS S->Option (BT S bs×PS S)
 | [],_,ps=>some ((),ps)
 | b::r,seen,ps=>match lk ps.m b.i with
  | some j=>match EI j ps.bl,EI b.i seen with
   | false,false=>match QX b j ps with
    | some (x,ps')=>match U9 r (b.i::seen) ps' with
     | some (y,ps'')=>some ((x,y),ps'')
     | none=>none
    | none=>none
   | _,_=>none
  | none=>none
def Spec.parse (q:Spec) (bw:Bool) (vs:List SV) (o:List (Nat×Own S)) (m:List (Nat×Nat)) (bn:Nat):Option (q.D S×PS S):=
 match OU bw q.as vs ⟨o,m,[],bn⟩ with
 | some (x,ps)=>match U9 q.bx [] ps with
  | some (y,ps')=>some ((x,y),ps')
  | none=>none
 | none=>none
structure Ck (ps ps':PS S):Prop where
 sub: ∀ i c,lk ps'.o i=some c->lk ps.o i=some c
 m: ∀ i j,lk ps.m i=some j->lk ps'.m i=some j
 bl:(∀ i∈ps.bl,lk ps.o i≠none)-> ∀ i∈ps'.bl,lk ps'.o i≠none
 bn:ps'.bn=ps.bn
theorem Ck.refl (ps:PS S):Ck ps ps:=⟨fun _ _ h=>h,fun _ _ h=>h,fun h=>h,rfl⟩
theorem Ck.trans {a b c:PS S} (h:Ck a b) (k:Ck b c):Ck a c:=⟨fun i x hx=>h.sub i x (k.sub i x hx),fun i j hj=>k.m i j (h.m i j hj),fun hb=>k.bl (h.bl hb),k.bn.trans h.bn⟩
theorem EE {bn i j:Nat} {m m':List (Nat×Nat)} (h:Ms bn i j m=some m'):i<bn/\lk m' i=some j/\ ∀ a b,lk m a=some b->lk m' a=some b:=by
 unfold Ms at h
 split at h
 case h_2=>cases h
 rename_i hb
 refine ⟨dk hb,?_⟩
 split at h
 ·rename_i hn
  cases h
  refine ⟨by simp [AK],fun a b hab=>?_⟩
  rw [AK,if_neg]
  ·exact hab
  ·intro e;subst e;rw [hn] at hab;cases hab
 ·rename_i j' hj
  split at h
  ·rename_i he
   cases h
   have:=ac he;subst this
   exact ⟨hj,fun _ _ h=>h⟩
  ·cases h
theorem Ho {bn:Nat}: ∀ {caps:List (Nat×Nat)} {cs:List SV} {m m':List (Nat×Nat)},FX bn caps cs m=some m'->(∀ a b,lk m a=some b->lk m' a=some b)/\
  ∀ (β β':Nat->Nm),(∀ i,i<bn-> ∀ j,lk m' i=some j->β' i=β j)->AD β cs=AD β' (caps.map fun c=>.ptr c.1 c.2)/\BZ (· <bn) (caps.map fun c=>SV.ptr c.1 c.2)
 | [],[],m,m',h=>by simp only [FX,am] at h;subst h;exact ⟨fun _ _ h=>h,fun _ _ _=>⟨by simp [AD],trivial⟩⟩
 | [],_::_,m,m',h=>by simp [FX] at h
 | _::_,[],m,m',h=>by simp [FX] at h
 | (i,off)::r,v::cs,m,m',h=>by
  cases v<;>simp only [FX,reduceCtorEq] at h
  rename_i j off'
  split at h
  case h_2=>cases h
  rename_i ho
  have ho:=ac ho;subst ho
  split at h
  case h_2=>cases h
  rename_i m1 h1
  obtain ⟨a1,a2,a3⟩:=EE h1
  obtain ⟨b1,b2⟩:=Ho h
  refine ⟨fun a b hab=>b1 a b (a3 a b hab),fun β β' hb=>?_⟩
  obtain ⟨c1,c2⟩:=b2 β β' hb
  refine ⟨?_,a1,c2⟩
  simp only [AD,List.map_cons,SV.den,c1,hb i a1 j (b1 i j a2)]
theorem fi {bw:Bool} {f:Fd} {v:SV} {ps ps':PS S} {x:f.T S.T} (h:dL bw f v ps=some (x,ps')):Ck ps ps':=by
 unfold dL at h
 split at h
 ·split at h
  case h_2=>cases h
  split at h
  case h_2=>cases h
  rename_i τ E l hj
  split at h
  ·cases h
   refine ⟨fun _ _ h=>h,fun _ _ h=>h,fun hb i hi=>?_,rfl⟩
   simp only [List.mem_cons] at hi
   rcases hi with rfl|hi
   ·simp [hj]
   ·exact hb i hi
  ·cases h
 ·split at h
  ·cases h;exact Ck.refl _
  ·cases h
theorem N8 {ps:PS S} {j:Nat} (hj:EI j ps.bl=false):Ck ps { ps with o:=rm ps.o j }:=by
 refine ⟨fun i c h=>?_,fun _ _ h=>h,fun hb i hi=>?_,rfl⟩
 ·simp only [Cy] at h;split at h;· cases h
  ·exact h
 ·simp only [Cy]
  rw [if_neg]
  ·exact hb i hi
  ·intro e;subst e;rw [Cn.2 hi] at hj;cases hj
theorem bc {τ E:Nat} {v:SV} {ps ps':PS S} {l:List (S.T τ)} (h:Ty τ E v ps=some (l,ps')):Ck ps ps':=by
 unfold Ty at h
 split at h
 ·split at h
  case h_2=>cases h
  split at h
  ·rename_i hb _;cases h;exact N8 hb
  ·cases h
 ·split at h
  ·cases h;exact Ck.refl _
  ·cases h
 ·split at h
  case h_2=>cases h
  split at h
  case h_2=>cases h
  rename_i hb _ _
  split at h
  ·cases h;exact N8 hb
  ·cases h
 ·cases h
theorem fg {τ E:Nat} {v:SV} {ps ps':PS S} {l:List (S.T τ)} (h:ff τ E v ps=some (l,ps')):Ck ps ps':=by
 unfold ff at h
 split at h
 ·split at h
  case h_2=>cases h
  split at h
  ·rename_i hb _;cases h;exact N8 hb
  ·cases h
 ·split at h
  ·cases h;exact Ck.refl _
  ·cases h
 ·cases h
theorem fm {κ:Fd} {τ:Nat} {ag:Bool} {v:SV} {ps ps':PS S} {l:List (κ.T S.T×S.T τ)} (h:fk κ τ ag v ps=some (l,ps')):Ck ps ps':=by
 unfold fk at h
 split at h
 ·split at h
  case h_2=>cases h
  split at h
  ·rename_i _ hb _ _;cases h;exact N8 hb
  ·cases h
 ·cases h
theorem fq {κ:Fd} {τ:Nat} {ag:Bool} {E:Nat} {v:SV} {ps ps':PS S} {l:List (List (κ.T S.T×S.T τ))} (h:fp κ τ ag E v ps=some (l,ps')):Ck ps ps':=by
 unfold fp at h
 split at h
 ·split at h
  case h_2=>cases h
  split at h
  ·rename_i _ hb _ _;cases h;exact N8 hb
  ·cases h
 ·split at h
  ·cases h;exact Ck.refl _
  ·cases h
 ·cases h
theorem Yj {ps:PS S} {m':List (Nat×Nat)} (h: ∀ a b,lk ps.m a=some b->lk m' a=some b):Ck ps { ps with m:=m' }:=⟨fun _ _ h=>h,h,fun h=>h,rfl⟩
theorem dN {bw:Bool} {p:C0} {cs r:List SV} {ps ps':PS S} {x:p.T S} (h:pP bw p cs ps=some (x,r,ps')):Ck ps ps':=by
 unfold pP at h
 split at h
 ·split at h
  ·rename_i hx;cases h;exact fi hx
  ·cases h
 ·split at h
  ·cases h;exact Ck.refl _
  ·cases h
 ·split at h
  ·rename_i hx;cases h;exact bc hx
  ·cases h
 ·split at h
  ·rename_i hx;cases h;exact fg hx
  ·cases h
 ·split at h
  ·rename_i hx;cases h;exact fm hx
  ·cases h
 ·split at h
  ·rename_i hx;cases h;exact fq hx
  ·cases h
 ·split at h
  ·rename_i hx;cases h;exact Yj (EE hx).2.2
  ·cases h
 ·split at h
  ·rename_i hx;cases h;exact Yj (EE hx).2.2
  ·cases h
 ·split at h
  ·rename_i hx;cases h;exact Yj (EE hx).2.2
  ·cases h
 ·split at h
  ·rename_i hx;cases h;exact Yj (EE hx).2.2
  ·cases h
 ·split at h
  ·rename_i hx;cases h;exact Yj (Ho hx).1
  ·cases h
 ·cases h;exact Ck.refl _
 ·split at h
  ·cases h;exact Ck.refl _
  ·cases h
 ·split at h
  ·cases h;exact Ck.refl _
  ·cases h
 ·cases h
theorem QY {bw:Bool}: ∀ {qs:List C0} {cs:List SV} {ps ps':PS S} {x:PT S qs},Qv bw qs cs ps=some (x,ps')->Ck ps ps'
 | [],[],ps,ps',x,h=>by simp only [Qv,am,bi] at h;rw [<-h.2];exact Ck.refl _
 | [],_::_,ps,ps',x,h=>by simp [Qv] at h
 | p::r,cs,ps,ps',x,h=>by
  simp only [Qv] at h
  split at h
  case h_2=>cases h
  rename_i h1
  split at h
  case h_2=>cases h
  rename_i h2
  cases h
  exact (dN h1).trans (QY h2)
theorem Tv {bw:Bool}: ∀ {qs:List C0} {vs:List SV} {ps ps':PS S} {x:PT S qs},OU bw qs vs ps=some (x,ps')->Ck ps ps'
 | [],[],ps,ps',x,h=>by simp only [OU,am,bi] at h;rw [<-h.2];exact Ck.refl _
 | [],_::_,ps,ps',x,h=>by simp [OU] at h
 | _::_,[],ps,ps',x,h=>by simp [OU] at h
 | p::r,v::vs,ps,ps',x,h=>by
  simp only [OU] at h
  split at h
  case h_2=>cases h
  split at h
  case h_2=>cases h
  rename_i h1
  split at h
  case h_2=>cases h
  rename_i h2
  cases h
  exact (dN h1).trans (Tv h2)
theorem ZD {p:C0} {j:Nat} {ps ps':PS S} {x:p.T S} (h:ZC p j ps=some (x,ps')): ∃ c,OD p x=some c/\lk ps.o j=some c/\ps'={ ps with o:=rm ps.o j }:=by
 unfold ZC at h
 split at h
 ·split at h
  case h_2=>cases h
  rename_i τ' E' l hj
  split at h
  case h_2=>cases h
  rename_i he hE _
  subst he
  have hE:=ac hE;subst hE
  cases h
  exact ⟨_,rfl,hj,rfl⟩
 ·split at h
  case h_2=>cases h
  rename_i τ' E' l hj
  split at h
  case h_2=>cases h
  rename_i he hE _
  subst he
  have hE:=ac hE;subst hE
  cases h
  exact ⟨_,rfl,hj,rfl⟩
 ·split at h
  case h_2=>cases h
  rename_i κ' τ' ag' l hj
  split at h
  case h_2=>cases h
  rename_i he hk hag _ _
  subst he
  subst hk
  have hag:=C1.1 hag;subst hag
  cases h
  exact ⟨_,rfl,hj,rfl⟩
 ·split at h
  case h_2=>cases h
  rename_i κ' τ' ag' E' l hj
  split at h
  case h_2=>cases h
  rename_i he hk hE hag _ _
  subst he
  subst hk
  have hE:=ac hE;subst hE
  have hag:=C1.1 hag;subst hag
  cases h
  exact ⟨_,rfl,hj,rfl⟩
 ·cases h
theorem Mb: ∀ {qs:List C0} {j:Nat} {ps ps':PS S} {x:PT S qs},ZB qs j ps=some (x,ps')-> ∃ c,rowOf qs x=some c/\lk ps.o j=some c/\ps'={ ps with o:=rm ps.o j }
 | [],j,ps,ps',x,h=>by simp [ZB] at h
 | _::_::_,j,ps,ps',x,h=>by simp [ZB] at h
 | [p],j,ps,ps',x,h=>by
  simp only [ZB] at h
  split at h
  ·rename_i h1;cases h;exact ZD h1
  ·cases h
theorem U8 {b:Gx} {j:Nat} {ps ps':PS S} {x:PT S b.ps} (hb:EI j ps.bl=false) (h:QX b j ps=some (x,ps')):Ck ps ps':=by
 unfold QX at h
 split at h
 ·split at h
  case h_2=>cases h
  split at h
  case h_2=>cases h
  exact (N8 hb).trans (QY h)
 ·obtain ⟨c,_,_,rfl⟩:=Mb h
  exact N8 hb
theorem Tx: ∀ {bs:List Gx} {seen:List Nat} {ps ps':PS S} {x:BT S bs},U9 bs seen ps=some (x,ps')->Ck ps ps'
 | [],seen,ps,ps',x,h=>by simp only [U9,am,bi] at h;rw [<-h.2];exact Ck.refl _
 | b::r,seen,ps,ps',x,h=>by
  simp only [U9] at h
  split at h
  case h_2=>cases h
  split at h
  case h_2=>cases h
  rename_i hb _
  split at h
  case h_2=>cases h
  rename_i h1
  split at h
  case h_2=>cases h
  rename_i h2
  cases h
  exact (U8 hb h1).trans (Tx h2)
end
section
variable {S:As} {w0:World} {F D0 D:Nat->Prop} {o:List (Nat×Own S)} {N:Nat->Prop} {β:Nat->Nm} {w:World} {fin:PS S} {pd:List Nat}
def FW (D:Nat->Prop) (β:Nat->Nm) (bl:List Nat):Nat->Prop:=fun k=>D k\/ ∃ i∈bl,(β i).has k
structure Inv (w0:World) (F D0 D:Nat->Prop) (o:List (Nat×Own S)) (N:Nat->Prop) (β:Nat->Nm) (w:World) (fin:PS S) (pd:List Nat) (ps:PS S) (oc:List (Nat×Own S)) (n:Nat) (β':Nat->Nm):Prop where
 gh:GH w0 F D0 (FW D β fin.bl) oc (· <n) β' w
 Hq: ∀ i c j d k,lk ps.o i=some c->i ∉ fin.bl->lk oc j=some d->(β i).has k->¬ (β' j).has k
 sub: ∀ i c,lk ps.o i=some c->lk o i=some c
 box: ∀ i,i<fin.bn-> ∀ j,lk fin.m i=some j->β' i=β j
 bn:fin.bn<=n
 Z4: ∀ i∈fin.bl,∃ c,lk o i=some c
 Om: ∀ j∈pd,lk ps.o j=none/\(∃ c,lk o j=some c)/\ ∀ l d k,lk oc l=some d->(β j).has k->¬ (β' l).has k
theorem Inv.Nw {ps:PS S} {j:Nat} (hf:Ck { ps with o:=rm ps.o j } fin) (hfb: ∀ i∈fin.bl,lk fin.o i≠none):j ∉ fin.bl:=fun hj=>by
 cases hl:lk fin.o j with
 | none=>exact hfb j hj hl
 | some c=>
  have:=hf.sub j c hl
  simp [Cy] at this
theorem Inv.add {ps:PS S} {oc:List (Nat×Own S)} {n:Nat} {β':Nat->Nm} (hg:GH w0 F D0 D o N β w) (h:Inv w0 F D0 D o N β w fin pd ps oc n β') {j:Nat} {c:Own S} (hj:lk ps.o j=some c) (hjb:j ∉ fin.bl) {b:Own S} {nm:Nm} (hb: ∀ k,nm.has k->(β j).has k) (hon:b.on (· <n))
  (hh: ∀ β'':Nat->Nm,(∀ i,i<n->β' i=β'' i)->β'' n=nm->b.holds (FW D β fin.bl) β'' w nm):
  ∃ β'',(∀ i,i<n->β' i=β'' i)/\β'' n=nm/\Inv w0 F D0 D o N β w fin pd { ps with o:=rm ps.o j } ((n,b)::oc) (n+1) β'':=by
 have hjo:=h.sub j c hj
 obtain ⟨β'',e1,e2,hg2⟩:=h.gh.name (b:=b) (nm:=nm) (n:=n) (by simp) hon hh (fun k hk=>hg.fresh j c k hjo (hb k hk)) (fun k hk hD=>by
   have hk:=hb k hk
   rcases hD with hD|⟨i,hi,hik⟩
   ·exact hg.off j c k hjo hk hD
   ·obtain ⟨d,hd⟩:=h.Z4 i hi
    have:=hg.inj i j d c k hd hjo hik hk
    subst this;exact hjb hi)
  (fun i d k hi hk hk'=>h.Hq j c i d k hj hjb hi (hb k hk') hk) (fun k hk=>hg.lt j c k hjo (hb k hk))
 rw [DG] at hg2
 have hsub: ∀ i c,lk (rm ps.o j) i=some c->i≠j/\lk ps.o i=some c:=fun i c hi=>by
  rw [Cy] at hi
  split at hi
  ·cases hi
  ·rename_i hne;exact ⟨fun e=>hne e.symm,hi⟩
 refine ⟨β'',e1,e2,hg2,fun i c' a d k hi hib ha hk=>?_,fun i c hi=>h.sub i c (hsub i c hi).2,fun i hi a ha=>by rw [<-e1 i (dg hi h.bn)];exact h.box i hi a ha,Nat.le_succ_of_le h.bn,h.Z4,fun a ha=>?_⟩
 case refine_2=>
  obtain ⟨p1,⟨ca,p2⟩,p3⟩:=h.Om a ha
  refine ⟨by simp only [Cy,p1];split<;>rfl,⟨ca,p2⟩,fun l d k hl hk=>?_⟩
  simp only [AK] at hl
  split at hl
  ·rename_i hna;subst hna;rw [e2];intro hk'
   have:=hg.inj a j ca c k p2 hjo hk (hb k hk')
   subst this;rw [p1] at hj;cases hj
  ·rw [<-e1 l (h.gh.By l d hl).1];exact p3 l d k hl hk
 obtain ⟨hij,hi'⟩:=hsub i c' hi
 simp only [AK] at ha
 split at ha
 ·rename_i hna
  subst hna
  rw [e2]
  exact fun hk'=>hij (hg.inj i j c' c k (h.sub i c' hi') hjo hk (hb k hk'))
 ·rw [<-e1 a (h.gh.By a d ha).1]
  exact h.Hq i c' a d k hi' hib ha hk
theorem Inv.Ws {ps:PS S} {oc:List (Nat×Own S)} {n:Nat} {β':Nat->Nm} (h:Inv w0 F D0 D o N β w fin pd ps oc n β') {b:Own S} (hon:b.on (· <n)) (hcg: ∀ β'':Nat->Nm,(∀ i,i<n->β' i=β'' i)->b.holds (FW D β fin.bl) β'' w ⟨none,0,0,undef⟩):
  ∃ β'',(∀ i,i<n->β' i=β'' i)/\β'' n=⟨none,0,0,undef⟩/\Inv w0 F D0 D o N β w fin pd ps ((n,b)::oc) (n+1) β'':=by
 have hnh: ∀ k,¬ Nm.has ⟨none,0,0,undef⟩ k:=fun k=>Nm.Fe rfl (fun _=>Nm.BI) k
 obtain ⟨β'',e1,e2,hg2⟩:=h.gh.name (b:=b) (nm:=⟨none,0,0,undef⟩) (n:=n) (by simp) hon (fun β'' e _=>hcg β'' e) (fun k hk=>absurd hk (hnh k)) (fun k hk=>absurd hk (hnh k)) (fun i c k _ _ hk=>hnh k hk) (fun k hk=>absurd hk (hnh k))
 rw [DG] at hg2
 refine ⟨β'',e1,e2,hg2,fun i c' a d k hi hib ha hk=>?_,h.sub,fun i hi a ha=>by rw [<-e1 i (dg hi h.bn)];exact h.box i hi a ha,Nat.le_succ_of_le h.bn,h.Z4,fun a ha=>?_⟩
 case refine_2=>
  obtain ⟨p1,p2,p3⟩:=h.Om a ha
  refine ⟨p1,p2,fun l d k hl hk=>?_⟩
  simp only [AK] at hl
  split at hl
  ·rename_i hna;subst hna;rw [e2];exact hnh k
  ·rw [<-e1 l (h.gh.By l d hl).1];exact p3 l d k hl hk
 simp only [AK] at ha
 split at ha
 ·rename_i hna;subst hna;rw [e2];exact hnh k
 ·rw [<-e1 a (h.gh.By a d ha).1];exact h.Hq i c' a d k hi hib ha hk
theorem Inv.jJ {ps:PS S} {oc:List (Nat×Own S)} {n:Nat} {β':Nat->Nm} (h:Inv w0 F D0 D o N β w fin pd ps oc n β') (b:Option Nat):
  ∃ β'',(∀ i,i<n->β' i=β'' i)/\β'' n=⟨none,0,0,.map b⟩/\Inv w0 F D0 D o N β w fin pd ps ((n,.any)::oc) (n+1) β'':=by
 have hno: ∀ c,(Nm.mk none 0 0 (.map b)).sub c=none:=fun _=>rfl
 have hnh: ∀ k,¬ Nm.has ⟨none,0,0,.map b⟩ k:=fun k=>Nm.Fe rfl hno k
 obtain ⟨β'',e1,e2,hg2⟩:=h.gh.name (b:=.any) (nm:=⟨none,0,0,.map b⟩) (n:=n) (by simp) trivial (fun β'' e _=>⟨rfl,hno⟩) (fun k hk=>absurd hk (hnh k)) (fun k hk=>absurd hk (hnh k)) (fun i c k _ _ hk=>hnh k hk) (fun k hk=>absurd hk (hnh k))
 rw [DG] at hg2
 refine ⟨β'',e1,e2,hg2,fun i c' a d k hi hib ha hk=>?_,h.sub,fun i hi a ha=>by rw [<-e1 i (dg hi h.bn)];exact h.box i hi a ha,Nat.le_succ_of_le h.bn,h.Z4,fun a ha=>?_⟩
 case refine_2=>
  obtain ⟨p1,p2,p3⟩:=h.Om a ha
  refine ⟨p1,p2,fun l d k hl hk=>?_⟩
  simp only [AK] at hl
  split at hl
  ·rename_i hna;subst hna;rw [e2];exact hnh k
  ·rw [<-e1 l (h.gh.By l d hl).1];exact p3 l d k hl hk
 simp only [AK] at ha
 split at ha
 ·rename_i hna;subst hna;rw [e2];exact hnh k
 ·rw [<-e1 a (h.gh.By a d ha).1];exact h.Hq i c' a d k hi hib ha hk
theorem Inv.dt {ps:PS S} {oc:List (Nat×Own S)} {n:Nat} {β':Nat->Nm} (h:Inv w0 F D0 D o N β w fin pd ps oc n β') (τ E:Nat):
  ∃ β'',(∀ i,i<n->β' i=β'' i)/\β'' n=⟨none,0,0,undef⟩/\Inv w0 F D0 D o N β w fin pd ps ((n,.tr τ E [])::oc) (n+1) β'':=
 h.Ws (b:=.tr τ E []) trivial fun _ _=>⟨rfl,[],by simpa using World.ownsRow_nil w 0 E (S.sz τ),by simpa [As.flat] using AG.nil⟩
theorem Inv.Pb {ps:PS S} {oc:List (Nat×Own S)} {n:Nat} {β':Nat->Nm} (h:Inv w0 F D0 D o N β w fin pd ps oc n β') {fs:List (FC S.T)} {vs:List Value} (hc:AG S w (FW D β fin.bl) fs vs) {cs:List SV} {oc':List (Nat×Own S)} {n':Nat} (hu:Ch fs n oc=(cs,oc',n')):
  ∃ β'',(∀ i,i<n->β' i=β'' i)/\Inv w0 F D0 D o N β w fin pd ps oc' n' β''/\AD β'' cs=vs/\BZ (· <n') cs/\n<=n':=by
 obtain ⟨β'',e1,hg2,e3,e4,e5⟩:=HQ hc h.gh hu
 have hnew: ∀ {fs:List (FC S.T)} {n:Nat} {oc:List (Nat×Own S)} {cs:List SV} {oc':List (Nat×Own S)} {n':Nat},Ch fs n oc=(cs,oc',n')-> ∀ a d,lk oc' a=some d->lk oc a=some d\/(∃ σ l,d=.sl σ l)\/d=.any:=by
  intro fs
  induction fs with
  | nil=>intro n oc cs oc' n' hu a d ha;simp only [Ch,bi] at hu;rw [<-hu.2.1] at ha;exact .inl ha
  | cons f r ih=>
   intro n oc cs oc' n' hu a d ha
   cases f with
   | sl σ l=>
    simp only [Ch,bi] at hu
    rw [<-hu.2.1] at ha
    rcases ih (n:=n+1) (oc:=(n,.sl σ l)::oc) rfl a d ha with h1|h1
    ·rw [AK] at h1
     split at h1
     ·cases h1;exact .inr (.inl ⟨_,_,rfl⟩)
     ·exact .inl h1
    ·exact .inr h1
   | ow σ E l=>
    simp only [Ch,bi] at hu
    rw [<-hu.2.1] at ha
    rcases ih (n:=n+1) (oc:=(n,.any)::oc) rfl a d ha with h1|h1
    ·rw [AK] at h1
     split at h1
     ·cases h1;exact .inr (.inr rfl)
     ·exact .inl h1
    ·exact .inr h1
   | _=>simp only [Ch,bi] at hu;rw [<-hu.2.1] at ha;exact ih rfl a d ha
 refine ⟨β'',e1,⟨hg2,fun i c a d k hi hib ha hk=>?_,h.sub,fun i hi a ha=>by rw [<-e1 i (dg hi h.bn)];exact h.box i hi a ha,Nat.le_trans h.bn e5,h.Z4,fun a ha=>?_⟩,e3,e4,e5⟩
 case refine_2=>
  obtain ⟨p1,p2,p3⟩:=h.Om a ha
  refine ⟨p1,p2,fun l d k hl hk=>?_⟩
  rcases hnew hu l d hl with h1|⟨σ,l',rfl⟩|rfl
  ·rw [<-e1 l (h.gh.By l d h1).1];exact p3 l d k h1 hk
  ·intro hk'
   exact (hg2.own l _ hl).1.no k hk'
  ·intro hk'
   exact Nm.dH.no (hg2.own l _ hl) k hk'
 rcases hnew hu a d ha with h1|⟨σ,l,rfl⟩|rfl
 ·rw [<-e1 a (h.gh.By a d h1).1];exact h.Hq i c a d k hi hib h1 hk
 ·intro hk'
  exact (hg2.own a _ ha).1.no k hk'
 ·intro hk'
  exact Nm.dH.no (hg2.own a _ ha) k hk'
theorem EH {bl:List Nat}: ∀ k,D k->FW D β bl k:=fun _ h=>.inl h
theorem fj {bw:Bool} {f:Fd} {v:SV} {ps ps':PS S} {x:f.T S.T} {oc:List (Nat×Own S)} {n:Nat} {β':Nat->Nm} (hg:GH w0 F D0 D o N β w) (hi:Inv w0 F D0 D o N β w fin pd ps oc n β') (h:dL bw f v ps=some (x,ps')) (hf:Ck ps' fin) (hbl: ∀ i∈ps'.bl,i∈fin.bl):
  Inv w0 F D0 D o N β w fin pd ps' oc n β'/\Av S w (FW D β fin.bl) (f.fc x) (v.den β):=by
 have hsub:=hg.Hh hi.sub
 unfold dL at h
 split at h
 ·rename_i σ j
  split at h
  case h_2=>cases h
  split at h
  case h_2=>cases h
  rename_i τ E l hj
  split at h
  case h_2=>cases h
  rename_i he _
  subst he
  cases h
  refine ⟨⟨hi.gh,hi.Hq,hi.sub,hi.box,hi.bn,hi.Z4,hi.Om⟩,?_⟩
  obtain ⟨hlen,vs,hrow,hvs⟩:=hg.own j _ (hi.sub j _ hj)
  simp only [SV.den,hlen,Fd.fc]
  by_cases h0:l.length=0
  ·have:l=[]:=jp h0
   subst this;exact .nil _ _ _
  ·have hb:=A6 hrow (by omega)
   have hcap:l.length<=(β j).cap:=by
    rcases hrow.2 with ⟨_,h8⟩|⟨g,cap,cur,h8,_,_,h9,_⟩
    ·omega
    ·rw [hb] at h8;simp at h8;omega
   rw [hb]
   simp only [Option.map_some]
   refine Av.sl _ _ _ _ _ (fun i=>vs.getD i undef) (.inr ⟨j,hbl j (by simp),.inl hb⟩) hcap (fun i f hf=>?_) fun i f hf=>?_
   ·have hlt:i<vs.length:=by rw [<-hvs.1];exact (List.getElem?_eq_some_iff.1 hf).1
    rw [Nat.zero_add,(BE hrow (co hlt)).2]
    simp [List.getD,hlt]
   ·have hlt:i<vs.length:=by rw [<-hvs.1];exact (List.getElem?_eq_some_iff.1 hf).1
    have:=hvs.2 i f _ hf (co hlt)
    simp only [List.getD,co hlt,Option.getD_some]
    exact this.B4 (fun _ _=>rfl) EH
 ·split at h
  ·rename_i y hx
   cases h
   exact ⟨hi,(R5 hsub hx).B4 (fun _ _=>rfl) EH⟩
  ·cases h
theorem bf {τ E:Nat} {v:SV} {ps ps':PS S} {l:List (S.T τ)} {oc:List (Nat×Own S)} {n:Nat} {β':Nat->Nm} (hg:GH w0 F D0 D o N β w) (hi:Inv w0 F D0 D o N β w fin pd ps oc n β') (h:Ty τ E v ps=some (l,ps')) (hf:Ck ps' fin) (hfb: ∀ i∈fin.bl,lk fin.o i≠none):
  ∃ β'',(∀ i,i<n->β' i=β'' i)/\Inv w0 F D0 D o N β w fin pd ps' ((n,.tr τ E l)::oc) (n+1) β''/\(SV.tr n).den β''=v.den β:=by
 have hsub:=hg.Hh hi.sub
 unfold Ty at h
 split at h
 ·rename_i j
  split at h
  case h_2=>cases h
  rename_i τ' E' l' hj
  split at h
  case h_2=>cases h
  rename_i he hE hjb _
  subst he
  have hE:=ac hE;subst hE
  cases h
  obtain ⟨β'',e1,e2,h2⟩:=hi.add hg hj (Inv.Nw hf hfb) (b:=.tr τ' E' l') (nm:=β j) (fun _ h=>h) trivial (fun β'' _ _=>Own.CB (hg.own j _ (hi.sub j _ hj)) EH)
  exact ⟨β'',e1,h2,by simp [SV.den,e2]⟩
 ·rename_i n0 c0
  split at h
  ·rename_i h1 h2
   cases h
   obtain ⟨β'',e1,e2,h3⟩:=hi.dt τ E
   exact ⟨β'',e1,h3,by simp [SV.den,e2,ac h1,ac h2]⟩
  ·cases h
 ·rename_i j n0
  split at h
  case h_2=>cases h
  rename_i E' z m cs hj
  split at h
  case h_2=>cases h
  rename_i hE hjb hm hz
  have hE:=ac hE;subst hE
  have hm:=ac hm;subst hm
  have hz:=ac hz;subst hz
  split at h
  case h_2=>cases h
  rename_i l' hl
  cases h
  obtain ⟨h1,h2⟩:=Gi hsub hl
  have hrow:=hg.own j _ (hi.sub j _ hj)
  obtain ⟨β'',e1,e2,h3⟩:=hi.add hg hj (Inv.Nw hf hfb) (b:=.tr τ E' l) (nm:=⟨(β j).b,l.length,(β j).cap,undef⟩) (fun k hk=>.inl ((Nm.FG fun _=>Nm.BI).1 hk)) trivial (fun β'' _ _=>⟨rfl,AD β cs,by rw [h1];exact hrow,h2.B4 (fun _ _=>rfl) EH⟩)
  exact ⟨β'',e1,h3,by simp [SV.den,e2,h1]⟩
 ·cases h
theorem fh {τ E:Nat} {v:SV} {ps ps':PS S} {l:List (S.T τ)} {oc:List (Nat×Own S)} {n:Nat} {β':Nat->Nm} (hg:GH w0 F D0 D o N β w) (hi:Inv w0 F D0 D o N β w fin pd ps oc n β') (h:ff τ E v ps=some (l,ps')) (hf:Ck ps' fin) (hfb: ∀ i∈fin.bl,lk fin.o i≠none):
  ∃ β'',(∀ i,i<n->β' i=β'' i)/\Inv w0 F D0 D o N β w fin pd ps' ((n,.dp τ E l)::oc) (n+1) β''/\(SV.tr n).den β''=v.den β:=by
 unfold ff at h
 split at h
 ·rename_i j
  split at h
  case h_2=>cases h
  rename_i τ' E' l' hj
  split at h
  case h_2=>cases h
  rename_i he hE hjb _
  subst he
  have hE:=ac hE;subst hE
  cases h
  obtain ⟨β'',e1,e2,h2⟩:=hi.add hg hj (Inv.Nw hf hfb) (b:=.dp τ' E' l') (nm:=β j) (fun _ h=>h) trivial (fun β'' _ _=>Own.CB (hg.own j _ (hi.sub j _ hj)) EH)
  exact ⟨β'',e1,h2,by simp [SV.den,e2]⟩
 ·rename_i n0 c0
  split at h
  ·rename_i h1 h2
   cases h
   obtain ⟨β'',e1,e2,h3⟩:=hi.Ws (b:=.dp τ E []) trivial fun _ _=>⟨rfl,[],by simpa using World.ownsRow_nil w 0 E (S.sz τ),by simpa [As.flat] using AG.nil,⟨fun e x off σ E m hx=>by simp at hx,fun c d b k k' hs=>(by rw [Nm.BI] at hs;cases hs),fun c b k hs=>(by rw [Nm.BI] at hs;cases hs)⟩⟩
   exact ⟨β'',e1,h3,by simp [SV.den,e2,ac h1,ac h2]⟩
  ·cases h
 ·cases h
theorem fo {κ:Fd} {τ:Nat} {ag:Bool} {v:SV} {ps ps':PS S} {l:List (κ.T S.T×S.T τ)} {oc:List (Nat×Own S)} {n:Nat} {β':Nat->Nm} (hg:GH w0 F D0 D o N β w) (hi:Inv w0 F D0 D o N β w fin pd ps oc n β') (h:fk κ τ ag v ps=some (l,ps')) (hf:Ck ps' fin) (hfb: ∀ i∈fin.bl,lk fin.o i≠none):
  ∃ β'',(∀ i,i<n->β' i=β'' i)/\Inv w0 F D0 D o N β w fin pd ps' ((n,.mp κ τ ag l)::oc) (n+1) β''/\(SV.CC n).den β''=v.den β:=by
 unfold fk at h
 split at h
 ·rename_i j
  split at h
  case h_2=>cases h
  rename_i κ' τ' ag' l' hj
  split at h
  case h_2=>cases h
  rename_i he hk hag hjb _ _
  subst he
  subst hk
  have hag:=C1.1 hag;subst hag
  cases h
  obtain ⟨β'',e1,e2,h2⟩:=hi.add hg hj (Inv.Nw hf hfb) (b:=.mp κ' τ' ag' l') (nm:=β j) (fun _ h=>h) trivial (fun β'' _ _=>Own.CB (hg.own j _ (hi.sub j _ hj)) EH)
  exact ⟨β'',e1,h2,by simp [SV.den,e2]⟩
 ·cases h
theorem fw {κ:Fd} {τ:Nat} {ag:Bool} {E:Nat} {v:SV} {ps ps':PS S} {l:List (List (κ.T S.T×S.T τ))} {oc:List (Nat×Own S)} {n:Nat} {β':Nat->Nm} (hg:GH w0 F D0 D o N β w) (hi:Inv w0 F D0 D o N β w fin pd ps oc n β') (h:fp κ τ ag E v ps=some (l,ps')) (hf:Ck ps' fin) (hfb: ∀ i∈fin.bl,lk fin.o i≠none):
  ∃ β'',(∀ i,i<n->β' i=β'' i)/\Inv w0 F D0 D o N β w fin pd ps' ((n,.mr κ τ ag E l)::oc) (n+1) β''/\(SV.tr n).den β''=v.den β:=by
 unfold fp at h
 split at h
 ·rename_i j
  split at h
  case h_2=>cases h
  rename_i κ' τ' ag' E' l' hj
  split at h
  case h_2=>cases h
  rename_i he hk hE hag hjb _ _
  subst he
  subst hk
  have hE:=ac hE;subst hE
  have hag:=C1.1 hag;subst hag
  cases h
  obtain ⟨β'',e1,e2,h2⟩:=hi.add hg hj (Inv.Nw hf hfb) (b:=.mr κ' τ' ag' E' l') (nm:=β j) (fun _ h=>h) trivial (fun β'' _ _=>Own.CB (hg.own j _ (hi.sub j _ hj)) EH)
  exact ⟨β'',e1,h2,by simp [SV.den,e2]⟩
 ·rename_i n0 c0
  split at h
  ·rename_i h1 h2
   cases h
   obtain ⟨β'',e1,e2,h3⟩:=hi.Ws (b:=.mr κ τ ag E []) trivial fun _ _=>⟨rfl,[],by simpa using World.ownsRow_nil w 0 E 1,⟨fun e m hx=>by simp at hx,fun c d b k k' hs=>(by rw [Nm.BI] at hs;cases hs),fun c b k hs=>(by rw [Nm.BI] at hs;cases hs)⟩⟩
   exact ⟨β'',e1,h3,by simp [SV.den,e2,ac h1,ac h2]⟩
  ·cases h
 ·cases h
theorem Inv.Sa {ps:PS S} {oc:List (Nat×Own S)} {n:Nat} {β':Nat->Nm} (h:Inv w0 F D0 D o N β w fin pd ps oc n β') (m':List (Nat×Nat)):Inv w0 F D0 D o N β w fin pd { ps with m:=m' } oc n β':=⟨h.gh,h.Hq,h.sub,h.box,h.bn,h.Z4,h.Om⟩
theorem dM {bw:Bool} {p:C0} {cs r:List SV} {ps ps':PS S} {x:p.T S} (h:pP bw p cs ps=some (x,r,ps')): ∀ i∈ps.bl,i∈ps'.bl:=by
 unfold pP at h
 split at h
 ·split at h
  ·rename_i hx
   cases h
   unfold dL at hx
   split at hx
   ·split at hx
    case h_2=>cases hx
    split at hx
    case h_2=>cases hx
    split at hx
    ·cases hx;exact fun i hi=>mt _ hi
    ·cases hx
   ·split at hx
    ·cases hx;exact fun _ h=>h
    ·cases hx
  ·cases h
 ·split at h
  ·cases h;exact fun _ h=>h
  ·cases h
 ·split at h
  ·rename_i hx
   cases h
   unfold Ty at hx
   split at hx
   ·split at hx
    case h_2=>cases hx
    split at hx
    ·cases hx;exact fun _ h=>h
    ·cases hx
   ·split at hx
    ·cases hx;exact fun _ h=>h
    ·cases hx
   ·split at hx
    case h_2=>cases hx
    split at hx
    case h_2=>cases hx
    split at hx
    ·cases hx;exact fun _ h=>h
    ·cases hx
   ·cases hx
  ·cases h
 ·split at h
  ·rename_i hx
   cases h
   unfold ff at hx
   split at hx
   ·split at hx
    case h_2=>cases hx
    split at hx
    ·cases hx;exact fun _ h=>h
    ·cases hx
   ·split at hx
    ·cases hx;exact fun _ h=>h
    ·cases hx
   ·cases hx
  ·cases h
 ·split at h
  ·rename_i hx
   cases h
   unfold fk at hx
   split at hx
   ·split at hx
    case h_2=>cases hx
    split at hx
    ·cases hx;exact fun _ h=>h
    ·cases hx
   ·cases hx
  ·cases h
 ·split at h
  ·rename_i hx
   cases h
   unfold fp at hx
   split at hx
   ·split at hx
    case h_2=>cases hx
    split at hx
    ·cases hx;exact fun _ h=>h
    ·cases hx
   ·split at hx
    ·cases hx;exact fun _ h=>h
    ·cases hx
   ·cases hx
  ·cases h
 ·split at h
  ·cases h;exact fun _ h=>h
  ·cases h
 ·split at h
  ·cases h;exact fun _ h=>h
  ·cases h
 ·split at h
  ·cases h;exact fun _ h=>h
  ·cases h
 ·split at h
  ·cases h;exact fun _ h=>h
  ·cases h
 ·split at h
  ·cases h;exact fun _ h=>h
  ·cases h
 ·cases h;exact fun _ h=>h
 ·split at h
  ·cases h;exact fun _ h=>h
  ·cases h
 ·split at h
  ·cases h;exact fun _ h=>h
  ·cases h
 ·cases h
theorem X8 {v:SV} (h:v.jo=true) (β:Nat->Nm): ∃ b,v.den β=.map b:=by
 cases v with
 | CC i=>simp only [SV.den];exact ⟨_,rfl⟩
 | hm i=>
  simp only [SV.den]
  unfold Nm.mp
  split
  ·exact ⟨_,rfl⟩
  ·exact ⟨_,rfl⟩
 | v x=>
  cases x with
  | map b=>simp only [SV.den];exact ⟨_,rfl⟩
  | _=>cases h
 | _=>cases h
theorem X7 {v:SV} (h:v.jn=true) (β:Nat->Nm): ∃ a m c,v.den β=.slice a m c:=by
 cases v with
 | tr i=>simp only [SV.den];exact ⟨_,_,_,rfl⟩
 | h i=>
  simp only [SV.den]
  unfold Nm.sl
  split
  ·exact ⟨_,_,_,rfl⟩
  ·exact ⟨_,_,_,rfl⟩
 | _=>cases h
theorem dO {bw:Bool} {p:C0} {cs r:List SV} {ps ps':PS S} {x:p.T S} {oc:List (Nat×Own S)} {n:Nat} {β':Nat->Nm} (hg:GH w0 F D0 D o N β w) (hi:Inv w0 F D0 D o N β w fin pd ps oc n β') (h:pP bw p cs ps=some (x,r,ps')) (hf:Ck ps' fin) (hfb: ∀ i∈fin.bl,lk fin.o i≠none) (hbl: ∀ i∈ps'.bl,i∈fin.bl)
  {svs:List SV} {oc':List (Nat×Own S)} {n':Nat} (he:B3 p x n oc=(svs,oc',n')):
  ∃ β'',(∀ i,i<n->β' i=β'' i)/\Inv w0 F D0 D o N β w fin pd ps' oc' n' β''/\(∃ us,cs=us++r/\AD β us=AD β'' svs)/\BZ (· <n') svs/\n<=n':=by
 have hsub:=hg.Hh hi.sub
 have hbnf:=hf.bn
 unfold pP at h
 split at h
 ·rename_i f v r'
  split at h
  case h_2=>cases h
  rename_i y ps1 hx
  cases h
  obtain ⟨h1,h2⟩:=fj hg hi hx hf hbl
  obtain ⟨β'',e1,e2,e3,e4,e5⟩:=h1.Pb (AG.cons h2 AG.nil) he
  exact ⟨β'',e1,e2,⟨[v],rfl,by simp [AD,e3]⟩,e4,e5⟩
 ·rename_i τ
  split at h
  case h_2=>cases h
  rename_i q r' hx
  cases h
  obtain ⟨us,h1,h2⟩:=Jc hsub hx
  have h3:AG S w (FW D β fin.bl) (S.enc τ (S.of τ q)) (AD β us):=by unfold As.enc;rw [S.FF];exact h2.B4 (fun _ _=>rfl) EH
  obtain ⟨β'',e1,e2,e3,e4,e5⟩:=hi.Pb h3 he
  exact ⟨β'',e1,e2,⟨us,h1,e3.symm⟩,e4,e5⟩
 ·rename_i τ E v r'
  split at h
  case h_2=>cases h
  rename_i l ps1 hx
  cases h
  simp only [B3,bi] at he
  obtain ⟨rfl,rfl,rfl⟩:=he
  obtain ⟨β'',e1,e2,e3⟩:=bf hg hi hx hf hfb
  exact ⟨β'',e1,e2,⟨[v],rfl,by simp only [AD,e3]⟩,⟨by simp [SV.on],trivial⟩,Nat.le_succ n⟩
 ·rename_i τ E v r'
  split at h
  case h_2=>cases h
  rename_i l ps1 hx
  cases h
  simp only [B3,bi] at he
  obtain ⟨rfl,rfl,rfl⟩:=he
  obtain ⟨β'',e1,e2,e3⟩:=fh hg hi hx hf hfb
  exact ⟨β'',e1,e2,⟨[v],rfl,by simp only [AD,e3]⟩,⟨by simp [SV.on],trivial⟩,Nat.le_succ n⟩
 ·rename_i κ τ ag v r'
  split at h
  case h_2=>cases h
  rename_i l ps1 hx
  cases h
  simp only [B3,bi] at he
  obtain ⟨rfl,rfl,rfl⟩:=he
  obtain ⟨β'',e1,e2,e3⟩:=fo hg hi hx hf hfb
  exact ⟨β'',e1,e2,⟨[v],rfl,by simp only [AD,e3]⟩,⟨by simp [SV.on],trivial⟩,Nat.le_succ n⟩
 ·rename_i κ τ ag E v r'
  split at h
  case h_2=>cases h
  rename_i l ps1 hx
  cases h
  simp only [B3,bi] at he
  obtain ⟨rfl,rfl,rfl⟩:=he
  obtain ⟨β'',e1,e2,e3⟩:=fw hg hi hx hf hfb
  exact ⟨β'',e1,e2,⟨[v],rfl,by simp only [AD,e3]⟩,⟨by simp [SV.on],trivial⟩,Nat.le_succ n⟩
 ·rename_i i j r'
  split at h
  case h_2=>cases h
  rename_i m' hx
  cases h
  simp only [B3,bi] at he
  obtain ⟨rfl,rfl,rfl⟩:=he
  obtain ⟨a1,a2,_⟩:=EE hx
  have a1':i<fin.bn:=by rw [hbnf];exact a1
  refine ⟨β',fun _ _=>rfl,hi.Sa m',⟨[.tr j],rfl,?_⟩,⟨dg a1' hi.bn,trivial⟩,Nat.le_refl _⟩
  simp only [AD,SV.den,hi.box i a1' j (hf.m i j a2)]
 ·rename_i i j r'
  split at h
  case h_2=>cases h
  rename_i m' hx
  cases h
  simp only [B3,bi] at he
  obtain ⟨rfl,rfl,rfl⟩:=he
  obtain ⟨a1,a2,_⟩:=EE hx
  have a1':i<fin.bn:=by rw [hbnf];exact a1
  refine ⟨β',fun _ _=>rfl,hi.Sa m',⟨[.CC j],rfl,?_⟩,⟨dg a1' hi.bn,trivial⟩,Nat.le_refl _⟩
  simp only [AD,SV.den,hi.box i a1' j (hf.m i j a2)]
 ·rename_i i z off j z' e off' r'
  split at h
  case h_2=>cases h
  rename_i m' hz ho hx
  have hz:=ac hz;subst hz
  have ho:=ac ho;subst ho
  cases h
  simp only [B3,bi] at he
  obtain ⟨rfl,rfl,rfl⟩:=he
  obtain ⟨a1,a2,_⟩:=EE hx
  have a1':i<fin.bn:=by rw [hbnf];exact a1
  refine ⟨β',fun _ _=>rfl,hi.Sa m',⟨[.ep j z' e off'],rfl,?_⟩,⟨dg a1' hi.bn,trivial⟩,Nat.le_refl _⟩
  simp only [AD,SV.den,hi.box i a1' j (hf.m i j a2)]
 ·rename_i i off j off' r'
  split at h
  case h_2=>cases h
  rename_i m' ho hx
  have ho:=ac ho;subst ho
  cases h
  simp only [B3,bi] at he
  obtain ⟨rfl,rfl,rfl⟩:=he
  obtain ⟨a1,a2,_⟩:=EE hx
  have a1':i<fin.bn:=by rw [hbnf];exact a1
  refine ⟨β',fun _ _=>rfl,hi.Sa m',⟨[.ptr j off'],rfl,?_⟩,⟨dg a1' hi.bn,trivial⟩,Nat.le_refl _⟩
  simp only [AD,SV.den,hi.box i a1' j (hf.m i j a2)]
 ·rename_i f caps g cs' r'
  split at h
  case h_2=>cases h
  rename_i m' ho hx
  have ho:=ac ho;subst ho
  cases h
  simp only [B3,bi] at he
  obtain ⟨rfl,rfl,rfl⟩:=he
  obtain ⟨_,a2⟩:=Ho hx
  obtain ⟨b1,b2⟩:=a2 β β' (fun i h1 j h2=>hi.box i (by rw [hbnf];exact h1) j (hf.m i j h2))
  refine ⟨β',fun _ _=>rfl,hi.Sa m',⟨[.fn g cs'],rfl,?_⟩,⟨?_,trivial⟩,Nat.le_refl _⟩
  ·simp only [AD,SV.den,b1]
  ·exact Ce (fun k hk=>dg (by rw [hbnf];exact hk) hi.bn) b2
 ·rename_i r'
  cases h
  simp only [B3,bi] at he
  obtain ⟨rfl,rfl,rfl⟩:=he
  exact ⟨β',fun _ _=>rfl,hi,⟨[.v (.pointer none)],rfl,by simp [AD,SV.den]⟩,⟨trivial,trivial⟩,Nat.le_refl _⟩
 ·rename_i v r'
  split at h
  case h_2=>cases h
  rename_i hv
  cases h
  obtain ⟨a,m,c,hs⟩:=X7 hv β
  have h2:Av S w (FW D β fin.bl) (.ow 0 0 (List.replicate m (S.A4 0))) (v.den β):=by
   have:=Av.ow (S:=S) (w:=w) (D:=FW D β fin.bl) 0 0 (List.replicate m (S.A4 0)) a c
   rw [List.length_replicate] at this
   rw [hs];exact this
  obtain ⟨β'',e1,e2,e3,e4,e5⟩:=hi.Pb (AG.cons h2 AG.nil) (show Ch [.ow 0 0 (List.replicate m (S.A4 0))] n oc=(svs,oc',n') from he)
  exact ⟨β'',e1,e2,⟨[v],rfl,by simp [AD,e3]⟩,e4,e5⟩
 ·rename_i v r'
  split at h
  case h_2=>cases h
  rename_i hv
  cases h
  obtain ⟨b,hs⟩:=X8 hv β
  simp only [B3,bi] at he
  obtain ⟨rfl,rfl,rfl⟩:=he
  obtain ⟨β'',e1,e2,e3⟩:=hi.jJ b
  exact ⟨β'',e1,e3,⟨[v],rfl,by simp [AD,SV.den,e2,hs,Nm.mp]⟩,⟨by simp [SV.on],trivial⟩,Nat.le_succ n⟩
 ·cases h
end
end Go.En
