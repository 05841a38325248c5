/-
 Patterns: what a list of values and blocks is, as data (enc); a state looked at by a pattern (parse); and that a state so looked at is the pattern's own, of the data that were found.
-/
import Derived.Test.YtikecakpcfpghaaGreatDoorMb
namespace Go.En
open Go.RowKit
inductive Cr where
 | fd (f:Fd)
 | st (τ:Nat)
 | own (τ E:Nat)
 | al (i off:Nat)
 | fn (f:Nat) (caps:List (Nat×Nat))
 | dp (τ E:Nat)
 | mp (κ:Fd) (τ:Nat) (ag:Bool)
 | mr (κ:Fd) (τ:Nat) (ag:Bool) (E:Nat)
 | rw (i:Nat)
 | rm (i:Nat)
 | ep (i z off:Nat)
 | np
 | hd
 | hm
abbrev Cr.T (S:Aq):Cr->Type
 | .fd f=>f.T S.T
 | .st τ=>S.T τ
 | .own τ _=>List (S.T τ)
 | .al _ _=>Unit
 | .fn _ _=>Unit
 | .dp τ _=>List (S.T τ)
 | .mp κ τ _=>List (κ.T S.T×S.T τ)
 | .mr κ τ _ _=>List (List (κ.T S.T×S.T τ))
 | .rw _=>Unit
 | .rm _=>Unit
 | .ep _ _ _=>Nat
 | .np=>Unit
 | .hd=>Unit
 | .hm=>Unit
abbrev PT (S:Aq):List Cr->Type
 | []=>Unit
 | p::r=>p.T S×PT S r
structure Gh where
 i:Nat
 T:Nat
 ps:List Cr
 row:Bool
abbrev BT (S:Aq):List Gh->Type
 | []=>Unit
 | b::r=>PT S b.ps×BT S r
structure Spec where
 as:List Cr
 bx:List Gh
abbrev Spec.D (S:Aq) (q:Spec):Type:=PT S q.as×BT S q.bx
def EB (i:Nat):List Nat->Bool
 | []=>false
 | j::r=>match Nat.beq j i with
  | true=>true
  | false=>EB i r
theorem Ca {i:Nat}: ∀ {l:List Nat},EB i l=true↔i∈l
 | []=>by simp [EB]
 | j::r=>by
  simp only [EB,List.mem_cons]
  split
  ·rename_i h;simp [Nat.eq_of_beq_eq_true h]
  ·rename_i h
   have:¬ i=j:=fun e=>by subst e;simp at h
   simp [this,Ca (l:=r)]
section
variable {S:Aq}
def Bn:(p:Cr)->p.T S->Nat->List (Nat×Own S)->List SV×List (Nat×Own S)×Nat
 | .fd f,x,n,o=>CS [f.fc x] n o
 | .st τ,x,n,o=>CS (S.enc τ x) n o
 | .own τ E,l,n,o=>([.tr n],(n,.tr τ E l)::o,n+1)
 | .al i off,_,n,o=>([.ptr i off],o,n)
 | .fn f caps,_,n,o=>([.fn f (caps.map fun c=>.ptr c.1 c.2)],o,n)
 | .dp τ E,l,n,o=>([.tr n],(n,.dp τ E l)::o,n+1)
 | .mp κ τ ag,l,n,o=>([.Bv n],(n,.mp κ τ ag l)::o,n+1)
 | .mr κ τ ag E,l,n,o=>([.tr n],(n,.mr κ τ ag E l)::o,n+1)
 | .rw i,_,n,o=>([.tr i],o,n)
 | .rm i,_,n,o=>([.Bv i],o,n)
 | .ep i z off,e,n,o=>([.ep i z e off],o,n)
 | .np,_,n,o=>([.v (.pointer none)],o,n)
 | .hd,_,n,o=>([.h n],(n,.any)::o,n+1)
 | .hm,_,n,o=>([.hm n],(n,.any)::o,n+1)
def Ed:(ps:List Cr)->PT S ps->Nat->List (Nat×Own S)->List SV×List (Nat×Own S)×Nat
 | [],_,n,o=>([],o,n)
 | p::r,x,n,o=>match Bn p x.1 n o with
  | (cs,o1,n1)=>match Ed r x.2 n1 o1 with
   | (ds,o2,n2)=>(cs++ds,o2,n2)
def Cr.val:Cr->List SV->SV
 | .st _,cs=>.agg cs
 | _,[x]=>x
 | _,cs=>.agg cs
def B9:(ps:List Cr)->PT S ps->Nat->List (Nat×Own S)->List SV×List (Nat×Own S)×Nat
 | [],_,n,o=>([],o,n)
 | p::r,x,n,o=>match Bn p x.1 n o with
  | (cs,o1,n1)=>match B9 r x.2 n1 o1 with
   | (ds,o2,n2)=>(p.val cs::ds,o2,n2)
def Ns:(p:Cr)->p.T S->Option (Own S)
 | .own τ E,l=>some (.tr τ E l)
 | .dp τ E,l=>some (.dp τ E l)
 | .mp κ τ ag,l=>some (.mp κ τ ag l)
 | .mr κ τ ag E,l=>some (.mr κ τ ag E l)
 | _,_=>none
def rowOf:(ps:List Cr)->PT S ps->Option (Own S)
 | [p],x=>Ns p x.1
 | _,_=>none
def Fz (b:Gh) (x:PT S b.ps) (n:Nat) (o:List (Nat×Own S)):List (Nat×Own S)×Nat:=match b.row with
 | false=>match Ed b.ps x n o with
  | (cs,o1,n1)=>((b.i,.AN b.T cs)::o1,n1)
 | true=>match rowOf b.ps x with
  | some c=>((b.i,c)::o,n)
  | none=>(o,n)
def Ec:(bs:List Gh)->BT S bs->Nat->List (Nat×Own S)->List (Nat×Own S)×Nat
 | [],_,n,o=>(o,n)
 | b::r,x,n,o=>match Fz b x.1 n o with
  | (o1,n1)=>Ec r x.2 n1 o1
def Spec.enc (q:Spec) (x:q.D S) (n:Nat):List SV×List (Nat×Own S)×Nat:=
 match B9 q.as x.1 n [] with
 | (vs,o1,n1)=>match Ec q.bx x.2 n1 o1 with
  | (o2,n2)=>(vs,o2,n2)
structure PS (S:Aq) where
 o:List (Nat×Own S)
 m:List (Nat×Nat)
 bl:List Nat
 bn:Nat
def MW (bn i j:Nat) (m:List (Nat×Nat)):Option (List (Nat×Nat)):=
 match Nat.ble (i+1) bn with
 | true=>match lk m i with
  | none=>some ((i,j)::m)
  | some j'=>match Nat.beq j' j with
   | true=>some m
   | false=>none
 | false=>none
def FO (bn:Nat):List (Nat×Nat)->List SV->List (Nat×Nat)->Option (List (Nat×Nat))
 | [],[],m=>some m
 | (i,off)::r,.ptr j off'::cs,m=>match Nat.beq off' off with
  | true=>match MW bn i j m with
   | some m'=>FO bn r cs m'
   | none=>none
  | false=>none
 | _,_,_=>none
def cM (bw:Bool) (f:Fd) (v:SV) (ps:PS S):Option (f.T S.T×PS S):=
 match f,v with
 | .sl σ,.tr j=>match bw with
  | true=>match lk ps.o j with
   | some (.tr τ _ l)=>match Nat.decEq τ σ with
    | .isTrue h=>some (h▸l,{ ps with bl:=j::ps.bl })
    | .isFalse _=>none
   | _=>none
  | false=>none
 | f,v=>match rd ps.o f v with
  | some x=>some (x,ps)
  | none=>none
def TV (τ E:Nat) (v:SV) (ps:PS S):Option (List (S.T τ)×PS S):=
 match v with
 | .tr j=>match lk ps.o j with
  | some (.tr τ' E' l)=>match Nat.beq E' E,EB j ps.bl,Nat.decEq τ' τ with
   | true,false,.isTrue h=>some (h▸l,{ ps with o:=rm ps.o j })
   | _,_,_=>none
  | _=>none
 | .v (.slice none n c)=>match Nat.beq n 0,Nat.beq c 0 with
  | true,true=>some ([],ps)
  | _,_=>none
 | .row j n=>match lk ps.o j with
  | some (.row E' z m cs)=>match Nat.beq E' E,EB j ps.bl,Nat.beq m n,Nat.beq z (S.sz τ) with
   | true,false,true,true=>match Ik ps.o τ n cs with
    | some l=>some (l,{ ps with o:=rm ps.o j })
    | none=>none
   | _,_,_,_=>none
  | _=>none
 | _=>none
def eT (τ E:Nat) (v:SV) (ps:PS S):Option (List (S.T τ)×PS S):=
 match v with
 | .tr j=>match lk ps.o j with
  | some (.dp τ' E' l)=>match Nat.beq E' E,EB j ps.bl,Nat.decEq τ' τ with
   | true,false,.isTrue h=>some (h▸l,{ ps with o:=rm ps.o j })
   | _,_,_=>none
  | _=>none
 | .v (.slice none n c)=>match Nat.beq n 0,Nat.beq c 0 with
  | true,true=>some ([],ps)
  | _,_=>none
 | _=>none
def eY (κ:Fd) (τ:Nat) (ag:Bool) (v:SV) (ps:PS S):Option (List (κ.T S.T×S.T τ)×PS S):=
 match v with
 | .Bv j=>match lk ps.o j with
  | some (.mp κ' τ' ag' l)=>match HF ag' ag,EB j ps.bl,Nat.decEq τ' τ,VX κ' κ with
   | true,false,.isTrue h,some ⟨h'⟩=>some (h▸h'▸l,{ ps with o:=rm ps.o j })
   | _,_,_,_=>none
  | _=>none
 | _=>none
def ec (κ:Fd) (τ:Nat) (ag:Bool) (E:Nat) (v:SV) (ps:PS S):Option (List (List (κ.T S.T×S.T τ))×PS S):=
 match v with
 | .tr j=>match lk ps.o j with
  | some (.mr κ' τ' ag' E' l)=>match Nat.beq E' E,HF ag' ag,EB j ps.bl,Nat.decEq τ' τ,VX κ' κ with
   | true,true,false,.isTrue h,some ⟨h'⟩=>some (h▸h'▸l,{ ps with o:=rm ps.o j })
   | _,_,_,_,_=>none
  | _=>none
 | .v (.slice none n c)=>match Nat.beq n 0,Nat.beq c 0 with
  | true,true=>some ([],ps)
  | _,_=>none
 | _=>none
def SV.iy:SV->Bool
 | .tr _=>true
 | .h _=>true
 | _=>false
def SV.iz:SV->Bool
 | .Bv _=>true
 | .hm _=>true
 | .v (.map none)=>true
 | _=>false
def pP (bw:Bool):(p:Cr)->List SV->PS S->Option (p.T S×List SV×PS S)
 | .fd f,v::r,ps=>match cM bw f v ps with
  | some (x,ps')=>some (x,r,ps')
  | none=>none
 | .st τ,cs,ps=>match Ys ps.o (S.fds τ) cs with
  | some (p,r)=>some (S.of τ p,r,ps)
  | none=>none
 | .own τ E,v::r,ps=>match TV τ E v ps with
  | some (x,ps')=>some (x,r,ps')
  | none=>none
 | .dp τ E,v::r,ps=>match eT τ E v ps with
  | some (x,ps')=>some (x,r,ps')
  | none=>none
 | .mp κ τ ag,v::r,ps=>match eY κ τ ag v ps with
  | some (x,ps')=>some (x,r,ps')
  | none=>none
 | .mr κ τ ag E,v::r,ps=>match ec κ τ ag E v ps with
  | some (x,ps')=>some (x,r,ps')
  | none=>none
 | .rw i,.tr j::r,ps=>match MW ps.bn i j ps.m with
  | some m'=>some ((),r,{ ps with m:=m' })
  | none=>none
 | .rm i,.Bv j::r,ps=>match MW ps.bn i j ps.m with
  | some m'=>some ((),r,{ ps with m:=m' })
  | none=>none
 | .ep i z off,.ep j z' e off'::r,ps=>match Nat.beq z' z,Nat.beq off' off,MW ps.bn i j ps.m with
  | true,true,some m'=>some (e,r,{ ps with m:=m' })
  | _,_,_=>none
 | .al i off,.ptr j off'::r,ps=>match Nat.beq off' off,MW ps.bn i j ps.m with
  | true,some m'=>some ((),r,{ ps with m:=m' })
  | _,_=>none
 | .fn f caps,.fn g cs::r,ps=>match Nat.beq g f,FO ps.bn caps cs ps.m with
  | true,some m'=>some ((),r,{ ps with m:=m' })
  | _,_=>none
 | .np,.v (.pointer none)::r,ps=>some ((),r,ps)
 | .hd,v::r,ps=>match v.iy with
  | true=>some ((),r,ps)
  | false=>none
 | .hm,v::r,ps=>match v.iz with
  | true=>some ((),r,ps)
  | false=>none
 | _,_,_=>none
def QW (bw:Bool):(qs:List Cr)->List SV->PS S->Option (PT S qs×PS S)
 | [],[],ps=>some ((),ps)
 | [],_::_,_=>none
 | p::r,cs,ps=>match pP bw p cs ps with
  | some (x,cs',ps')=>match QW bw r cs' ps' with
   | some (y,ps'')=>some ((x,y),ps'')
   | none=>none
  | none=>none
def Cr.cellsOf:Cr->SV->Option (List SV)
 | .st _,v=>v.GG
 | _,v=>some [v]
def OA (bw:Bool):(qs:List Cr)->List SV->PS S->Option (PT S qs×PS S)
 | [],[],ps=>some ((),ps)
 | p::r,v::vs,ps=>match p.cellsOf v with
  | some cs=>match pP bw p cs ps with
   | some (x,[],ps')=>match OA bw r vs ps' with
    | some (y,ps'')=>some ((x,y),ps'')
    | none=>none
   | _=>none
  | none=>none
 | _,_,_=>none
def Yl:(p:Cr)->Nat->PS S->Option (p.T S×PS S)
 | .own τ E,j,ps=>match lk ps.o j with
  | some (.tr τ' E' l)=>match Nat.beq E' E,Nat.decEq τ' τ with
   | true,.isTrue h=>some (h▸l,{ ps with o:=rm ps.o j })
   | _,_=>none
  | _=>none
 | .dp τ E,j,ps=>match lk ps.o j with
  | some (.dp τ' E' l)=>match Nat.beq E' E,Nat.decEq τ' τ with
   | true,.isTrue h=>some (h▸l,{ ps with o:=rm ps.o j })
   | _,_=>none
  | _=>none
 | .mp κ τ ag,j,ps=>match lk ps.o j with
  | some (.mp κ' τ' ag' l)=>match HF ag' ag,Nat.decEq τ' τ,VX κ' κ with
   | true,.isTrue h,some ⟨h'⟩=>some (h▸h'▸l,{ ps with o:=rm ps.o j })
   | _,_,_=>none
  | _=>none
 | .mr κ τ ag E,j,ps=>match lk ps.o j with
  | some (.mr κ' τ' ag' E' l)=>match Nat.beq E' E,HF ag' ag,Nat.decEq τ' τ,VX κ' κ with
   | true,true,.isTrue h,some ⟨h'⟩=>some (h▸h'▸l,{ ps with o:=rm ps.o j })
   | _,_,_,_=>none
  | _=>none
 | _,_,_=>none
def Yk:(qs:List Cr)->Nat->PS S->Option (PT S qs×PS S)
 | [p],j,ps=>match Yl p j ps with
  | some (x,ps')=>some ((x,()),ps')
  | none=>none
 | _,_,_=>none
def QH (b:Gh) (j:Nat) (ps:PS S):Option (PT S b.ps×PS S):=match b.row with
 | false=>match lk ps.o j with
  | some (.AN T cs)=>match Nat.beq T b.T with
   | true=>QW false b.ps cs { ps with o:=rm ps.o j }
   | false=>none
  | _=>none
 | true=>Yk b.ps j ps
def Uo:(bs:List Gh)->List Nat->PS S->Option (BT S bs×PS S)
 | [],_,ps=>some ((),ps)
 | b::r,seen,ps=>match lk ps.m b.i with
  | some j=>match EB j ps.bl,EB b.i seen with
   | false,false=>match QH b j ps with
    | some (x,ps')=>match Uo r (b.i::seen) ps' with
     | some (y,ps'')=>some ((x,y),ps'')
     | none=>none
    | none=>none
   | _,_=>none
  | none=>none
def Spec.parse (q:Spec) (bw:Bool) (vs:List SV) (o:List (Nat×Own S)) (m:List (Nat×Nat)) (bn:Nat):Option (q.D S×PS S):=
 match OA bw q.as vs ⟨o,m,[],bn⟩ with
 | some (x,ps)=>match Uo q.bx [] ps with
  | some (y,ps')=>some ((x,y),ps')
  | none=>none
 | none=>none
structure CW (ps ps':PS S):Prop where
 sub: ∀ i c,lk ps'.o i=some c->lk ps.o i=some c
 m: ∀ i j,lk ps.m i=some j->lk ps'.m i=some j
 bl:(∀ i∈ps.bl,lk ps.o i≠none)-> ∀ i∈ps'.bl,lk ps'.o i≠none
 bn:ps'.bn=ps.bn
theorem CW.refl (ps:PS S):CW ps ps:=⟨fun _ _ h=>h,fun _ _ h=>h,fun h=>h,rfl⟩
theorem CW.trans {a b c:PS S} (h:CW a b) (k:CW b c):CW a c:=⟨fun i x hx=>h.sub i x (k.sub i x hx),fun i j hj=>k.m i j (h.m i j hj),fun hb=>k.bl (h.bl hb),k.bn.trans h.bn⟩
theorem Dy {bn i j:Nat} {m m':List (Nat×Nat)} (h:MW bn i j m=some m'):i<bn/\lk m' i=some j/\ ∀ a b,lk m a=some b->lk m' a=some b:=by
 unfold MW at h
 split at h
 case h_2=>cases h
 rename_i hb
 refine ⟨Nat.le_of_ble_eq_true hb,?_⟩
 split at h
 ·rename_i hn
  cases h
  refine ⟨by simp [AI],fun a b hab=>?_⟩
  rw [AI,if_neg]
  ·exact hab
  ·intro e;subst e;rw [hn] at hab;cases hab
 ·rename_i j' hj
  split at h
  ·rename_i he
   cases h
   have:=Nat.eq_of_beq_eq_true he;subst this
   exact ⟨hj,fun _ _ h=>h⟩
  ·cases h
theorem HU {bn:Nat}: ∀ {caps:List (Nat×Nat)} {cs:List SV} {m m':List (Nat×Nat)},FO bn caps cs m=some m'->(∀ a b,lk m a=some b->lk m' a=some b)/\
  ∀ (β β':Nat->Nm),(∀ i,i<bn-> ∀ j,lk m' i=some j->β' i=β j)->AA β cs=AA β' (caps.map fun c=>.ptr c.1 c.2)/\BR (· <bn) (caps.map fun c=>SV.ptr c.1 c.2)
 | [],[],m,m',h=>by simp only [FO,Option.some.injEq] at h;subst h;exact ⟨fun _ _ h=>h,fun _ _ _=>⟨by simp [AA],trivial⟩⟩
 | [],_::_,m,m',h=>by simp [FO] at h
 | _::_,[],m,m',h=>by simp [FO] at h
 | (i,off)::r,v::cs,m,m',h=>by
  cases v<;>simp only [FO,reduceCtorEq] at h
  rename_i j off'
  split at h
  case h_2=>cases h
  rename_i ho
  have ho:=Nat.eq_of_beq_eq_true ho;subst ho
  split at h
  case h_2=>cases h
  rename_i m1 h1
  obtain ⟨a1,a2,a3⟩:=Dy h1
  obtain ⟨b1,b2⟩:=HU h
  refine ⟨fun a b hab=>b1 a b (a3 a b hab),fun β β' hb=>?_⟩
  obtain ⟨c1,c2⟩:=b2 β β' hb
  refine ⟨?_,a1,c2⟩
  simp only [AA,List.map_cons,SV.den,c1,hb i a1 j (b1 i j a2)]
theorem eW {bw:Bool} {f:Fd} {v:SV} {ps ps':PS S} {x:f.T S.T} (h:cM bw f v ps=some (x,ps')):CW ps ps':=by
 unfold cM at h
 split at h
 ·split at h
  case h_2=>cases h
  split at h
  case h_2=>cases h
  rename_i τ E l hj
  split at h
  ·cases h
   refine ⟨fun _ _ h=>h,fun _ _ h=>h,fun hb i hi=>?_,rfl⟩
   simp only [List.mem_cons] at hi
   rcases hi with rfl|hi
   ·simp [hj]
   ·exact hb i hi
  ·cases h
 ·split at h
  ·cases h;exact CW.refl _
  ·cases h
theorem Nq {ps:PS S} {j:Nat} (hj:EB j ps.bl=false):CW ps { ps with o:=rm ps.o j }:=by
 refine ⟨fun i c h=>?_,fun _ _ h=>h,fun hb i hi=>?_,rfl⟩
 ·simp only [Co] at h;split at h;· cases h
  ·exact h
 ·simp only [Co]
  rw [if_neg]
  ·exact hb i hi
  ·intro e;subst e;rw [Ca.2 hi] at hj;cases hj
theorem ak {τ E:Nat} {v:SV} {ps ps':PS S} {l:List (S.T τ)} (h:TV τ E v ps=some (l,ps')):CW ps ps':=by
 unfold TV at h
 split at h
 ·split at h
  case h_2=>cases h
  split at h
  ·rename_i hb _;cases h;exact Nq hb
  ·cases h
 ·split at h
  ·cases h;exact CW.refl _
  ·cases h
 ·split at h
  case h_2=>cases h
  split at h
  case h_2=>cases h
  rename_i hb _ _
  split at h
  ·cases h;exact Nq hb
  ·cases h
 ·cases h
theorem eU {τ E:Nat} {v:SV} {ps ps':PS S} {l:List (S.T τ)} (h:eT τ E v ps=some (l,ps')):CW ps ps':=by
 unfold eT at h
 split at h
 ·split at h
  case h_2=>cases h
  split at h
  ·rename_i hb _;cases h;exact Nq hb
  ·cases h
 ·split at h
  ·cases h;exact CW.refl _
  ·cases h
 ·cases h
theorem eZ {κ:Fd} {τ:Nat} {ag:Bool} {v:SV} {ps ps':PS S} {l:List (κ.T S.T×S.T τ)} (h:eY κ τ ag v ps=some (l,ps')):CW ps ps':=by
 unfold eY at h
 split at h
 ·split at h
  case h_2=>cases h
  split at h
  ·rename_i _ hb _ _;cases h;exact Nq hb
  ·cases h
 ·cases h
theorem ed {κ:Fd} {τ:Nat} {ag:Bool} {E:Nat} {v:SV} {ps ps':PS S} {l:List (List (κ.T S.T×S.T τ))} (h:ec κ τ ag E v ps=some (l,ps')):CW ps ps':=by
 unfold ec at h
 split at h
 ·split at h
  case h_2=>cases h
  split at h
  ·rename_i _ hb _ _;cases h;exact Nq hb
  ·cases h
 ·split at h
  ·cases h;exact CW.refl _
  ·cases h
 ·cases h
theorem YL {ps:PS S} {m':List (Nat×Nat)} (h: ∀ a b,lk ps.m a=some b->lk m' a=some b):CW ps { ps with m:=m' }:=⟨fun _ _ h=>h,h,fun h=>h,rfl⟩
theorem cO {bw:Bool} {p:Cr} {cs r:List SV} {ps ps':PS S} {x:p.T S} (h:pP bw p cs ps=some (x,r,ps')):CW ps ps':=by
 unfold pP at h
 split at h
 ·split at h
  ·rename_i hx;cases h;exact eW hx
  ·cases h
 ·split at h
  ·cases h;exact CW.refl _
  ·cases h
 ·split at h
  ·rename_i hx;cases h;exact ak hx
  ·cases h
 ·split at h
  ·rename_i hx;cases h;exact eU hx
  ·cases h
 ·split at h
  ·rename_i hx;cases h;exact eZ hx
  ·cases h
 ·split at h
  ·rename_i hx;cases h;exact ed hx
  ·cases h
 ·split at h
  ·rename_i hx;cases h;exact YL (Dy hx).2.2
  ·cases h
 ·split at h
  ·rename_i hx;cases h;exact YL (Dy hx).2.2
  ·cases h
 ·split at h
  ·rename_i hx;cases h;exact YL (Dy hx).2.2
  ·cases h
 ·split at h
  ·rename_i hx;cases h;exact YL (Dy hx).2.2
  ·cases h
 ·split at h
  ·rename_i hx;cases h;exact YL (HU hx).1
  ·cases h
 ·cases h;exact CW.refl _
 ·split at h
  ·cases h;exact CW.refl _
  ·cases h
 ·split at h
  ·cases h;exact CW.refl _
  ·cases h
 ·cases h
theorem QI {bw:Bool}: ∀ {qs:List Cr} {cs:List SV} {ps ps':PS S} {x:PT S qs},QW bw qs cs ps=some (x,ps')->CW ps ps'
 | [],[],ps,ps',x,h=>by simp only [QW,Option.some.injEq,Prod.mk.injEq] at h;rw [<-h.2];exact CW.refl _
 | [],_::_,ps,ps',x,h=>by simp [QW] at h
 | p::r,cs,ps,ps',x,h=>by
  simp only [QW] at h
  split at h
  case h_2=>cases h
  rename_i h1
  split at h
  case h_2=>cases h
  rename_i h2
  cases h
  exact (cO h1).trans (QI h2)
theorem TS {bw:Bool}: ∀ {qs:List Cr} {vs:List SV} {ps ps':PS S} {x:PT S qs},OA bw qs vs ps=some (x,ps')->CW ps ps'
 | [],[],ps,ps',x,h=>by simp only [OA,Option.some.injEq,Prod.mk.injEq] at h;rw [<-h.2];exact CW.refl _
 | [],_::_,ps,ps',x,h=>by simp [OA] at h
 | _::_,[],ps,ps',x,h=>by simp [OA] at h
 | p::r,v::vs,ps,ps',x,h=>by
  simp only [OA] at h
  split at h
  case h_2=>cases h
  split at h
  case h_2=>cases h
  rename_i h1
  split at h
  case h_2=>cases h
  rename_i h2
  cases h
  exact (cO h1).trans (TS h2)
theorem Ym {p:Cr} {j:Nat} {ps ps':PS S} {x:p.T S} (h:Yl p j ps=some (x,ps')): ∃ c,Ns p x=some c/\lk ps.o j=some c/\ps'={ ps with o:=rm ps.o j }:=by
 unfold Yl at h
 split at h
 ·split at h
  case h_2=>cases h
  rename_i τ' E' l hj
  split at h
  case h_2=>cases h
  rename_i he hE _
  subst he
  have hE:=Nat.eq_of_beq_eq_true hE;subst hE
  cases h
  exact ⟨_,rfl,hj,rfl⟩
 ·split at h
  case h_2=>cases h
  rename_i τ' E' l hj
  split at h
  case h_2=>cases h
  rename_i he hE _
  subst he
  have hE:=Nat.eq_of_beq_eq_true hE;subst hE
  cases h
  exact ⟨_,rfl,hj,rfl⟩
 ·split at h
  case h_2=>cases h
  rename_i κ' τ' ag' l hj
  split at h
  case h_2=>cases h
  rename_i he hk hag _ _
  subst he
  subst hk
  have hag:=Cs.1 hag;subst hag
  cases h
  exact ⟨_,rfl,hj,rfl⟩
 ·split at h
  case h_2=>cases h
  rename_i κ' τ' ag' E' l hj
  split at h
  case h_2=>cases h
  rename_i he hk hE hag _ _
  subst he
  subst hk
  have hE:=Nat.eq_of_beq_eq_true hE;subst hE
  have hag:=Cs.1 hag;subst hag
  cases h
  exact ⟨_,rfl,hj,rfl⟩
 ·cases h
theorem MD: ∀ {qs:List Cr} {j:Nat} {ps ps':PS S} {x:PT S qs},Yk qs j ps=some (x,ps')-> ∃ c,rowOf qs x=some c/\lk ps.o j=some c/\ps'={ ps with o:=rm ps.o j }
 | [],j,ps,ps',x,h=>by simp [Yk] at h
 | _::_::_,j,ps,ps',x,h=>by simp [Yk] at h
 | [p],j,ps,ps',x,h=>by
  simp only [Yk] at h
  split at h
  ·rename_i h1;cases h;exact Ym h1
  ·cases h
theorem Un {b:Gh} {j:Nat} {ps ps':PS S} {x:PT S b.ps} (hb:EB j ps.bl=false) (h:QH b j ps=some (x,ps')):CW ps ps':=by
 unfold QH at h
 split at h
 ·split at h
  case h_2=>cases h
  split at h
  case h_2=>cases h
  exact (Nq hb).trans (QI h)
 ·obtain ⟨c,_,_,rfl⟩:=MD h
  exact Nq hb
theorem TU: ∀ {bs:List Gh} {seen:List Nat} {ps ps':PS S} {x:BT S bs},Uo bs seen ps=some (x,ps')->CW ps ps'
 | [],seen,ps,ps',x,h=>by simp only [Uo,Option.some.injEq,Prod.mk.injEq] at h;rw [<-h.2];exact CW.refl _
 | b::r,seen,ps,ps',x,h=>by
  simp only [Uo] at h
  split at h
  case h_2=>cases h
  split at h
  case h_2=>cases h
  rename_i hb _
  split at h
  case h_2=>cases h
  rename_i h1
  split at h
  case h_2=>cases h
  rename_i h2
  cases h
  exact (Un hb h1).trans (TU h2)
end
section
variable {S:Aq} {w0:World} {F D0 D:Nat->Prop} {o:List (Nat×Own S)} {N:Nat->Prop} {β:Nat->Nm} {w:World} {fin:PS S} {pd:List Nat}
def FN (D:Nat->Prop) (β:Nat->Nm) (bl:List Nat):Nat->Prop:=fun k=>D k\/ ∃ i∈bl,(β i).has k
structure Inv (w0:World) (F D0 D:Nat->Prop) (o:List (Nat×Own S)) (N:Nat->Prop) (β:Nat->Nm) (w:World) (fin:PS S) (pd:List Nat) (ps:PS S) (oc:List (Nat×Own S)) (n:Nat) (β':Nat->Nm):Prop where
 gh:GH w0 F D0 (FN D β fin.bl) oc (· <n) β' w
 HV: ∀ i c j d k,lk ps.o i=some c->i ∉ fin.bl->lk oc j=some d->(β i).has k->¬ (β' j).has k
 sub: ∀ i c,lk ps.o i=some c->lk o i=some c
 box: ∀ i,i<fin.bn-> ∀ j,lk fin.m i=some j->β' i=β j
 bn:fin.bn<=n
 ZZ: ∀ i∈fin.bl,∃ c,lk o i=some c
 OQ: ∀ j∈pd,lk ps.o j=none/\(∃ c,lk o j=some c)/\ ∀ l d k,lk oc l=some d->(β j).has k->¬ (β' l).has k
theorem Inv.Nc {ps:PS S} {j:Nat} (hf:CW { ps with o:=rm ps.o j } fin) (hfb: ∀ i∈fin.bl,lk fin.o i≠none):j ∉ fin.bl:=fun hj=>by
 cases hl:lk fin.o j with
 | none=>exact hfb j hj hl
 | some c=>
  have:=hf.sub j c hl
  simp [Co] at this
theorem Inv.add {ps:PS S} {oc:List (Nat×Own S)} {n:Nat} {β':Nat->Nm} (hg:GH w0 F D0 D o N β w) (h:Inv w0 F D0 D o N β w fin pd ps oc n β') {j:Nat} {c:Own S} (hj:lk ps.o j=some c) (hjb:j ∉ fin.bl) {b:Own S} {nm:Nm} (hb: ∀ k,nm.has k->(β j).has k) (hon:b.on (· <n))
  (hh: ∀ β'':Nat->Nm,(∀ i,i<n->β' i=β'' i)->β'' n=nm->b.holds (FN D β fin.bl) β'' w nm):
  ∃ β'',(∀ i,i<n->β' i=β'' i)/\β'' n=nm/\Inv w0 F D0 D o N β w fin pd { ps with o:=rm ps.o j } ((n,b)::oc) (n+1) β'':=by
 have hjo:=h.sub j c hj
 obtain ⟨β'',e1,e2,hg2⟩:=h.gh.name (b:=b) (nm:=nm) (n:=n) (by simp) hon hh (fun k hk=>hg.fresh j c k hjo (hb k hk)) (fun k hk hD=>by
   have hk:=hb k hk
   rcases hD with hD|⟨i,hi,hik⟩
   ·exact hg.off j c k hjo hk hD
   ·obtain ⟨d,hd⟩:=h.ZZ i hi
    have:=hg.inj i j d c k hd hjo hik hk
    subst this;exact hjb hi)
  (fun i d k hi hk hk'=>h.HV j c i d k hj hjb hi (hb k hk') hk) (fun k hk=>hg.lt j c k hjo (hb k hk))
 rw [C1] at hg2
 have hsub: ∀ i c,lk (rm ps.o j) i=some c->i≠j/\lk ps.o i=some c:=fun i c hi=>by
  rw [Co] at hi
  split at hi
  ·cases hi
  ·rename_i hne;exact ⟨fun e=>hne e.symm,hi⟩
 refine ⟨β'',e1,e2,hg2,fun i c' a d k hi hib ha hk=>?_,fun i c hi=>h.sub i c (hsub i c hi).2,fun i hi a ha=>by rw [<-e1 i (Nat.lt_of_lt_of_le hi h.bn)];exact h.box i hi a ha,Nat.le_succ_of_le h.bn,h.ZZ,fun a ha=>?_⟩
 case refine_2=>
  obtain ⟨p1,⟨ca,p2⟩,p3⟩:=h.OQ a ha
  refine ⟨by simp only [Co,p1];split<;>rfl,⟨ca,p2⟩,fun l d k hl hk=>?_⟩
  simp only [AI] at hl
  split at hl
  ·rename_i hna;subst hna;rw [e2];intro hk'
   have:=hg.inj a j ca c k p2 hjo hk (hb k hk')
   subst this;rw [p1] at hj;cases hj
  ·rw [<-e1 l (h.gh.Bk l d hl).1];exact p3 l d k hl hk
 obtain ⟨hij,hi'⟩:=hsub i c' hi
 simp only [AI] at ha
 split at ha
 ·rename_i hna
  subst hna
  rw [e2]
  exact fun hk'=>hij (hg.inj i j c' c k (h.sub i c' hi') hjo hk (hb k hk'))
 ·rw [<-e1 a (h.gh.Bk a d ha).1]
  exact h.HV i c' a d k hi' hib ha hk
theorem Inv.WU {ps:PS S} {oc:List (Nat×Own S)} {n:Nat} {β':Nat->Nm} (h:Inv w0 F D0 D o N β w fin pd ps oc n β') {b:Own S} (hon:b.on (· <n)) (hcg: ∀ β'':Nat->Nm,(∀ i,i<n->β' i=β'' i)->b.holds (FN D β fin.bl) β'' w ⟨none,0,0,undef⟩):
  ∃ β'',(∀ i,i<n->β' i=β'' i)/\β'' n=⟨none,0,0,undef⟩/\Inv w0 F D0 D o N β w fin pd ps ((n,b)::oc) (n+1) β'':=by
 have hnh: ∀ k,¬ Nm.has ⟨none,0,0,undef⟩ k:=fun k=>Nm.FV rfl (fun _=>Nm.BI) k
 obtain ⟨β'',e1,e2,hg2⟩:=h.gh.name (b:=b) (nm:=⟨none,0,0,undef⟩) (n:=n) (by simp) hon (fun β'' e _=>hcg β'' e) (fun k hk=>absurd hk (hnh k)) (fun k hk=>absurd hk (hnh k)) (fun i c k _ _ hk=>hnh k hk) (fun k hk=>absurd hk (hnh k))
 rw [C1] at hg2
 refine ⟨β'',e1,e2,hg2,fun i c' a d k hi hib ha hk=>?_,h.sub,fun i hi a ha=>by rw [<-e1 i (Nat.lt_of_lt_of_le hi h.bn)];exact h.box i hi a ha,Nat.le_succ_of_le h.bn,h.ZZ,fun a ha=>?_⟩
 case refine_2=>
  obtain ⟨p1,p2,p3⟩:=h.OQ a ha
  refine ⟨p1,p2,fun l d k hl hk=>?_⟩
  simp only [AI] at hl
  split at hl
  ·rename_i hna;subst hna;rw [e2];exact hnh k
  ·rw [<-e1 l (h.gh.Bk l d hl).1];exact p3 l d k hl hk
 simp only [AI] at ha
 split at ha
 ·rename_i hna;subst hna;rw [e2];exact hnh k
 ·rw [<-e1 a (h.gh.Bk a d ha).1];exact h.HV i c' a d k hi hib ha hk
theorem Inv.iL {ps:PS S} {oc:List (Nat×Own S)} {n:Nat} {β':Nat->Nm} (h:Inv w0 F D0 D o N β w fin pd ps oc n β') (b:Option Nat):
  ∃ β'',(∀ i,i<n->β' i=β'' i)/\β'' n=⟨none,0,0,.map b⟩/\Inv w0 F D0 D o N β w fin pd ps ((n,.any)::oc) (n+1) β'':=by
 have hno: ∀ c,(Nm.mk none 0 0 (.map b)).sub c=none:=fun _=>rfl
 have hnh: ∀ k,¬ Nm.has ⟨none,0,0,.map b⟩ k:=fun k=>Nm.FV rfl hno k
 obtain ⟨β'',e1,e2,hg2⟩:=h.gh.name (b:=.any) (nm:=⟨none,0,0,.map b⟩) (n:=n) (by simp) trivial (fun β'' e _=>⟨rfl,hno⟩) (fun k hk=>absurd hk (hnh k)) (fun k hk=>absurd hk (hnh k)) (fun i c k _ _ hk=>hnh k hk) (fun k hk=>absurd hk (hnh k))
 rw [C1] at hg2
 refine ⟨β'',e1,e2,hg2,fun i c' a d k hi hib ha hk=>?_,h.sub,fun i hi a ha=>by rw [<-e1 i (Nat.lt_of_lt_of_le hi h.bn)];exact h.box i hi a ha,Nat.le_succ_of_le h.bn,h.ZZ,fun a ha=>?_⟩
 case refine_2=>
  obtain ⟨p1,p2,p3⟩:=h.OQ a ha
  refine ⟨p1,p2,fun l d k hl hk=>?_⟩
  simp only [AI] at hl
  split at hl
  ·rename_i hna;subst hna;rw [e2];exact hnh k
  ·rw [<-e1 l (h.gh.Bk l d hl).1];exact p3 l d k hl hk
 simp only [AI] at ha
 split at ha
 ·rename_i hna;subst hna;rw [e2];exact hnh k
 ·rw [<-e1 a (h.gh.Bk a d ha).1];exact h.HV i c' a d k hi hib ha hk
theorem Inv.cw {ps:PS S} {oc:List (Nat×Own S)} {n:Nat} {β':Nat->Nm} (h:Inv w0 F D0 D o N β w fin pd ps oc n β') (τ E:Nat):
  ∃ β'',(∀ i,i<n->β' i=β'' i)/\β'' n=⟨none,0,0,undef⟩/\Inv w0 F D0 D o N β w fin pd ps ((n,.tr τ E [])::oc) (n+1) β'':=
 h.WU (b:=.tr τ E []) trivial fun _ _=>⟨rfl,[],by simpa using World.ownsRow_nil w 0 E (S.sz τ),by simpa [Aq.flat] using AE.nil⟩
theorem Inv.O7 {ps:PS S} {oc:List (Nat×Own S)} {n:Nat} {β':Nat->Nm} (h:Inv w0 F D0 D o N β w fin pd ps oc n β') {fs:List (FC S.T)} {vs:List Value} (hc:AE S w (FN D β fin.bl) fs vs) {cs:List SV} {oc':List (Nat×Own S)} {n':Nat} (hu:CS fs n oc=(cs,oc',n')):
  ∃ β'',(∀ i,i<n->β' i=β'' i)/\Inv w0 F D0 D o N β w fin pd ps oc' n' β''/\AA β'' cs=vs/\BR (· <n') cs/\n<=n':=by
 obtain ⟨β'',e1,hg2,e3,e4,e5⟩:=G9 hc h.gh hu
 have hnew: ∀ {fs:List (FC S.T)} {n:Nat} {oc:List (Nat×Own S)} {cs:List SV} {oc':List (Nat×Own S)} {n':Nat},CS fs n oc=(cs,oc',n')-> ∀ a d,lk oc' a=some d->lk oc a=some d\/(∃ σ l,d=.sl σ l)\/d=.any:=by
  intro fs
  induction fs with
  | nil=>intro n oc cs oc' n' hu a d ha;simp only [CS,Prod.mk.injEq] at hu;rw [<-hu.2.1] at ha;exact .inl ha
  | cons f r ih=>
   intro n oc cs oc' n' hu a d ha
   cases f with
   | sl σ l=>
    simp only [CS,Prod.mk.injEq] at hu
    rw [<-hu.2.1] at ha
    rcases ih (n:=n+1) (oc:=(n,.sl σ l)::oc) rfl a d ha with h1|h1
    ·rw [AI] at h1
     split at h1
     ·cases h1;exact .inr (.inl ⟨_,_,rfl⟩)
     ·exact .inl h1
    ·exact .inr h1
   | ow σ E l=>
    simp only [CS,Prod.mk.injEq] at hu
    rw [<-hu.2.1] at ha
    rcases ih (n:=n+1) (oc:=(n,.any)::oc) rfl a d ha with h1|h1
    ·rw [AI] at h1
     split at h1
     ·cases h1;exact .inr (.inr rfl)
     ·exact .inl h1
    ·exact .inr h1
   | _=>simp only [CS,Prod.mk.injEq] at hu;rw [<-hu.2.1] at ha;exact ih rfl a d ha
 refine ⟨β'',e1,⟨hg2,fun i c a d k hi hib ha hk=>?_,h.sub,fun i hi a ha=>by rw [<-e1 i (Nat.lt_of_lt_of_le hi h.bn)];exact h.box i hi a ha,Nat.le_trans h.bn e5,h.ZZ,fun a ha=>?_⟩,e3,e4,e5⟩
 case refine_2=>
  obtain ⟨p1,p2,p3⟩:=h.OQ a ha
  refine ⟨p1,p2,fun l d k hl hk=>?_⟩
  rcases hnew hu l d hl with h1|⟨σ,l',rfl⟩|rfl
  ·rw [<-e1 l (h.gh.Bk l d h1).1];exact p3 l d k h1 hk
  ·intro hk'
   exact (hg2.own l _ hl).1.no k hk'
  ·intro hk'
   exact Nm.cG.no (hg2.own l _ hl) k hk'
 rcases hnew hu a d ha with h1|⟨σ,l,rfl⟩|rfl
 ·rw [<-e1 a (h.gh.Bk a d h1).1];exact h.HV i c a d k hi hib h1 hk
 ·intro hk'
  exact (hg2.own a _ ha).1.no k hk'
 ·intro hk'
  exact Nm.cG.no (hg2.own a _ ha) k hk'
theorem D5 {bl:List Nat}: ∀ k,D k->FN D β bl k:=fun _ h=>.inl h
theorem eX {bw:Bool} {f:Fd} {v:SV} {ps ps':PS S} {x:f.T S.T} {oc:List (Nat×Own S)} {n:Nat} {β':Nat->Nm} (hg:GH w0 F D0 D o N β w) (hi:Inv w0 F D0 D o N β w fin pd ps oc n β') (h:cM bw f v ps=some (x,ps')) (hf:CW ps' fin) (hbl: ∀ i∈ps'.bl,i∈fin.bl):
  Inv w0 F D0 D o N β w fin pd ps' oc n β'/\Au S w (FN D β fin.bl) (f.fc x) (v.den β):=by
 have hsub:=hg.G8 hi.sub
 unfold cM at h
 split at h
 ·rename_i σ j
  split at h
  case h_2=>cases h
  split at h
  case h_2=>cases h
  rename_i τ E l hj
  split at h
  case h_2=>cases h
  rename_i he _
  subst he
  cases h
  refine ⟨⟨hi.gh,hi.HV,hi.sub,hi.box,hi.bn,hi.ZZ,hi.OQ⟩,?_⟩
  obtain ⟨hlen,vs,hrow,hvs⟩:=hg.own j _ (hi.sub j _ hj)
  simp only [SV.den,hlen,Fd.fc]
  by_cases h0:l.length=0
  ·have:l=[]:=List.eq_nil_of_length_eq_zero h0
   subst this;exact .nil _ _ _
  ·have hb:=A8 hrow (by omega)
   have hcap:l.length<=(β j).cap:=by
    rcases hrow.2 with ⟨_,h8⟩|⟨g,cap,cur,h8,_,_,h9,_⟩
    ·omega
    ·rw [hb] at h8;simp at h8;omega
   rw [hb]
   simp only [Option.map_some]
   refine Au.sl _ _ _ _ _ (fun i=>vs.getD i undef) (.inr ⟨j,hbl j (by simp),.inl hb⟩) hcap (fun i f hf=>?_) fun i f hf=>?_
   ·have hlt:i<vs.length:=by rw [<-hvs.1];exact (List.getElem?_eq_some_iff.1 hf).1
    rw [Nat.zero_add,(BG hrow (List.getElem?_eq_getElem hlt)).2]
    simp [List.getD,hlt]
   ·have hlt:i<vs.length:=by rw [<-hvs.1];exact (List.getElem?_eq_some_iff.1 hf).1
    have:=hvs.2 i f _ hf (List.getElem?_eq_getElem hlt)
    simp only [List.getD,List.getElem?_eq_getElem hlt,Option.getD_some]
    exact this.Bo (fun _ _=>rfl) D5
 ·split at h
  ·rename_i y hx
   cases h
   exact ⟨hi,(Rj hsub hx).Bo (fun _ _=>rfl) D5⟩
  ·cases h
theorem ao {τ E:Nat} {v:SV} {ps ps':PS S} {l:List (S.T τ)} {oc:List (Nat×Own S)} {n:Nat} {β':Nat->Nm} (hg:GH w0 F D0 D o N β w) (hi:Inv w0 F D0 D o N β w fin pd ps oc n β') (h:TV τ E v ps=some (l,ps')) (hf:CW ps' fin) (hfb: ∀ i∈fin.bl,lk fin.o i≠none):
  ∃ β'',(∀ i,i<n->β' i=β'' i)/\Inv w0 F D0 D o N β w fin pd ps' ((n,.tr τ E l)::oc) (n+1) β''/\(SV.tr n).den β''=v.den β:=by
 have hsub:=hg.G8 hi.sub
 unfold TV at h
 split at h
 ·rename_i j
  split at h
  case h_2=>cases h
  rename_i τ' E' l' hj
  split at h
  case h_2=>cases h
  rename_i he hE hjb _
  subst he
  have hE:=Nat.eq_of_beq_eq_true hE;subst hE
  cases h
  obtain ⟨β'',e1,e2,h2⟩:=hi.add hg hj (Inv.Nc hf hfb) (b:=.tr τ' E' l') (nm:=β j) (fun _ h=>h) trivial (fun β'' _ _=>Own.Bu (hg.own j _ (hi.sub j _ hj)) D5)
  exact ⟨β'',e1,h2,by simp [SV.den,e2]⟩
 ·rename_i n0 c0
  split at h
  ·rename_i h1 h2
   cases h
   obtain ⟨β'',e1,e2,h3⟩:=hi.cw τ E
   exact ⟨β'',e1,h3,by simp [SV.den,e2,Nat.eq_of_beq_eq_true h1,Nat.eq_of_beq_eq_true h2]⟩
  ·cases h
 ·rename_i j n0
  split at h
  case h_2=>cases h
  rename_i E' z m cs hj
  split at h
  case h_2=>cases h
  rename_i hE hjb hm hz
  have hE:=Nat.eq_of_beq_eq_true hE;subst hE
  have hm:=Nat.eq_of_beq_eq_true hm;subst hm
  have hz:=Nat.eq_of_beq_eq_true hz;subst hz
  split at h
  case h_2=>cases h
  rename_i l' hl
  cases h
  obtain ⟨h1,h2⟩:=GW hsub hl
  have hrow:=hg.own j _ (hi.sub j _ hj)
  obtain ⟨β'',e1,e2,h3⟩:=hi.add hg hj (Inv.Nc hf hfb) (b:=.tr τ E' l) (nm:=⟨(β j).b,l.length,(β j).cap,undef⟩) (fun k hk=>.inl ((Nm.E8 fun _=>Nm.BI).1 hk)) trivial (fun β'' _ _=>⟨rfl,AA β cs,by rw [h1];exact hrow,h2.Bo (fun _ _=>rfl) D5⟩)
  exact ⟨β'',e1,h3,by simp [SV.den,e2,h1]⟩
 ·cases h
theorem eV {τ E:Nat} {v:SV} {ps ps':PS S} {l:List (S.T τ)} {oc:List (Nat×Own S)} {n:Nat} {β':Nat->Nm} (hg:GH w0 F D0 D o N β w) (hi:Inv w0 F D0 D o N β w fin pd ps oc n β') (h:eT τ E v ps=some (l,ps')) (hf:CW ps' fin) (hfb: ∀ i∈fin.bl,lk fin.o i≠none):
  ∃ β'',(∀ i,i<n->β' i=β'' i)/\Inv w0 F D0 D o N β w fin pd ps' ((n,.dp τ E l)::oc) (n+1) β''/\(SV.tr n).den β''=v.den β:=by
 unfold eT at h
 split at h
 ·rename_i j
  split at h
  case h_2=>cases h
  rename_i τ' E' l' hj
  split at h
  case h_2=>cases h
  rename_i he hE hjb _
  subst he
  have hE:=Nat.eq_of_beq_eq_true hE;subst hE
  cases h
  obtain ⟨β'',e1,e2,h2⟩:=hi.add hg hj (Inv.Nc hf hfb) (b:=.dp τ' E' l') (nm:=β j) (fun _ h=>h) trivial (fun β'' _ _=>Own.Bu (hg.own j _ (hi.sub j _ hj)) D5)
  exact ⟨β'',e1,h2,by simp [SV.den,e2]⟩
 ·rename_i n0 c0
  split at h
  ·rename_i h1 h2
   cases h
   obtain ⟨β'',e1,e2,h3⟩:=hi.WU (b:=.dp τ E []) trivial fun _ _=>⟨rfl,[],by simpa using World.ownsRow_nil w 0 E (S.sz τ),by simpa [Aq.flat] using AE.nil,⟨fun e x off σ E m hx=>by simp at hx,fun c d b k k' hs=>(by rw [Nm.BI] at hs;cases hs),fun c b k hs=>(by rw [Nm.BI] at hs;cases hs)⟩⟩
   exact ⟨β'',e1,h3,by simp [SV.den,e2,Nat.eq_of_beq_eq_true h1,Nat.eq_of_beq_eq_true h2]⟩
  ·cases h
 ·cases h
theorem eb {κ:Fd} {τ:Nat} {ag:Bool} {v:SV} {ps ps':PS S} {l:List (κ.T S.T×S.T τ)} {oc:List (Nat×Own S)} {n:Nat} {β':Nat->Nm} (hg:GH w0 F D0 D o N β w) (hi:Inv w0 F D0 D o N β w fin pd ps oc n β') (h:eY κ τ ag v ps=some (l,ps')) (hf:CW ps' fin) (hfb: ∀ i∈fin.bl,lk fin.o i≠none):
  ∃ β'',(∀ i,i<n->β' i=β'' i)/\Inv w0 F D0 D o N β w fin pd ps' ((n,.mp κ τ ag l)::oc) (n+1) β''/\(SV.Bv n).den β''=v.den β:=by
 unfold eY at h
 split at h
 ·rename_i j
  split at h
  case h_2=>cases h
  rename_i κ' τ' ag' l' hj
  split at h
  case h_2=>cases h
  rename_i he hk hag hjb _ _
  subst he
  subst hk
  have hag:=Cs.1 hag;subst hag
  cases h
  obtain ⟨β'',e1,e2,h2⟩:=hi.add hg hj (Inv.Nc hf hfb) (b:=.mp κ' τ' ag' l') (nm:=β j) (fun _ h=>h) trivial (fun β'' _ _=>Own.Bu (hg.own j _ (hi.sub j _ hj)) D5)
  exact ⟨β'',e1,h2,by simp [SV.den,e2]⟩
 ·cases h
theorem ee {κ:Fd} {τ:Nat} {ag:Bool} {E:Nat} {v:SV} {ps ps':PS S} {l:List (List (κ.T S.T×S.T τ))} {oc:List (Nat×Own S)} {n:Nat} {β':Nat->Nm} (hg:GH w0 F D0 D o N β w) (hi:Inv w0 F D0 D o N β w fin pd ps oc n β') (h:ec κ τ ag E v ps=some (l,ps')) (hf:CW ps' fin) (hfb: ∀ i∈fin.bl,lk fin.o i≠none):
  ∃ β'',(∀ i,i<n->β' i=β'' i)/\Inv w0 F D0 D o N β w fin pd ps' ((n,.mr κ τ ag E l)::oc) (n+1) β''/\(SV.tr n).den β''=v.den β:=by
 unfold ec at h
 split at h
 ·rename_i j
  split at h
  case h_2=>cases h
  rename_i κ' τ' ag' E' l' hj
  split at h
  case h_2=>cases h
  rename_i he hk hE hag hjb _ _
  subst he
  subst hk
  have hE:=Nat.eq_of_beq_eq_true hE;subst hE
  have hag:=Cs.1 hag;subst hag
  cases h
  obtain ⟨β'',e1,e2,h2⟩:=hi.add hg hj (Inv.Nc hf hfb) (b:=.mr κ' τ' ag' E' l') (nm:=β j) (fun _ h=>h) trivial (fun β'' _ _=>Own.Bu (hg.own j _ (hi.sub j _ hj)) D5)
  exact ⟨β'',e1,h2,by simp [SV.den,e2]⟩
 ·rename_i n0 c0
  split at h
  ·rename_i h1 h2
   cases h
   obtain ⟨β'',e1,e2,h3⟩:=hi.WU (b:=.mr κ τ ag E []) trivial fun _ _=>⟨rfl,[],by simpa using World.ownsRow_nil w 0 E 1,⟨fun e m hx=>by simp at hx,fun c d b k k' hs=>(by rw [Nm.BI] at hs;cases hs),fun c b k hs=>(by rw [Nm.BI] at hs;cases hs)⟩⟩
   exact ⟨β'',e1,h3,by simp [SV.den,e2,Nat.eq_of_beq_eq_true h1,Nat.eq_of_beq_eq_true h2]⟩
  ·cases h
 ·cases h
theorem Inv.SG {ps:PS S} {oc:List (Nat×Own S)} {n:Nat} {β':Nat->Nm} (h:Inv w0 F D0 D o N β w fin pd ps oc n β') (m':List (Nat×Nat)):Inv w0 F D0 D o N β w fin pd { ps with m:=m' } oc n β':=⟨h.gh,h.HV,h.sub,h.box,h.bn,h.ZZ,h.OQ⟩
theorem cN {bw:Bool} {p:Cr} {cs r:List SV} {ps ps':PS S} {x:p.T S} (h:pP bw p cs ps=some (x,r,ps')): ∀ i∈ps.bl,i∈ps'.bl:=by
 unfold pP at h
 split at h
 ·split at h
  ·rename_i hx
   cases h
   unfold cM at hx
   split at hx
   ·split at hx
    case h_2=>cases hx
    split at hx
    case h_2=>cases hx
    split at hx
    ·cases hx;exact fun i hi=>List.mem_cons_of_mem _ hi
    ·cases hx
   ·split at hx
    ·cases hx;exact fun _ h=>h
    ·cases hx
  ·cases h
 ·split at h
  ·cases h;exact fun _ h=>h
  ·cases h
 ·split at h
  ·rename_i hx
   cases h
   unfold TV at hx
   split at hx
   ·split at hx
    case h_2=>cases hx
    split at hx
    ·cases hx;exact fun _ h=>h
    ·cases hx
   ·split at hx
    ·cases hx;exact fun _ h=>h
    ·cases hx
   ·split at hx
    case h_2=>cases hx
    split at hx
    case h_2=>cases hx
    split at hx
    ·cases hx;exact fun _ h=>h
    ·cases hx
   ·cases hx
  ·cases h
 ·split at h
  ·rename_i hx
   cases h
   unfold eT at hx
   split at hx
   ·split at hx
    case h_2=>cases hx
    split at hx
    ·cases hx;exact fun _ h=>h
    ·cases hx
   ·split at hx
    ·cases hx;exact fun _ h=>h
    ·cases hx
   ·cases hx
  ·cases h
 ·split at h
  ·rename_i hx
   cases h
   unfold eY at hx
   split at hx
   ·split at hx
    case h_2=>cases hx
    split at hx
    ·cases hx;exact fun _ h=>h
    ·cases hx
   ·cases hx
  ·cases h
 ·split at h
  ·rename_i hx
   cases h
   unfold ec at hx
   split at hx
   ·split at hx
    case h_2=>cases hx
    split at hx
    ·cases hx;exact fun _ h=>h
    ·cases hx
   ·split at hx
    ·cases hx;exact fun _ h=>h
    ·cases hx
   ·cases hx
  ·cases h
 ·split at h
  ·cases h;exact fun _ h=>h
  ·cases h
 ·split at h
  ·cases h;exact fun _ h=>h
  ·cases h
 ·split at h
  ·cases h;exact fun _ h=>h
  ·cases h
 ·split at h
  ·cases h;exact fun _ h=>h
  ·cases h
 ·split at h
  ·cases h;exact fun _ h=>h
  ·cases h
 ·cases h;exact fun _ h=>h
 ·split at h
  ·cases h;exact fun _ h=>h
  ·cases h
 ·split at h
  ·cases h;exact fun _ h=>h
  ·cases h
 ·cases h
theorem Xj {v:SV} (h:v.iz=true) (β:Nat->Nm): ∃ b,v.den β=.map b:=by
 cases v with
 | Bv i=>simp only [SV.den];exact ⟨_,rfl⟩
 | hm i=>
  simp only [SV.den]
  unfold Nm.mp
  split
  ·exact ⟨_,rfl⟩
  ·exact ⟨_,rfl⟩
 | v x=>
  cases x with
  | map b=>simp only [SV.den];exact ⟨_,rfl⟩
  | _=>cases h
 | _=>cases h
theorem Xi {v:SV} (h:v.iy=true) (β:Nat->Nm): ∃ a m c,v.den β=.slice a m c:=by
 cases v with
 | tr i=>simp only [SV.den];exact ⟨_,_,_,rfl⟩
 | h i=>
  simp only [SV.den]
  unfold Nm.sl
  split
  ·exact ⟨_,_,_,rfl⟩
  ·exact ⟨_,_,_,rfl⟩
 | _=>cases h
theorem cP {bw:Bool} {p:Cr} {cs r:List SV} {ps ps':PS S} {x:p.T S} {oc:List (Nat×Own S)} {n:Nat} {β':Nat->Nm} (hg:GH w0 F D0 D o N β w) (hi:Inv w0 F D0 D o N β w fin pd ps oc n β') (h:pP bw p cs ps=some (x,r,ps')) (hf:CW ps' fin) (hfb: ∀ i∈fin.bl,lk fin.o i≠none) (hbl: ∀ i∈ps'.bl,i∈fin.bl)
  {svs:List SV} {oc':List (Nat×Own S)} {n':Nat} (he:Bn p x n oc=(svs,oc',n')):
  ∃ β'',(∀ i,i<n->β' i=β'' i)/\Inv w0 F D0 D o N β w fin pd ps' oc' n' β''/\(∃ us,cs=us++r/\AA β us=AA β'' svs)/\BR (· <n') svs/\n<=n':=by
 have hsub:=hg.G8 hi.sub
 have hbnf:=hf.bn
 unfold pP at h
 split at h
 ·rename_i f v r'
  split at h
  case h_2=>cases h
  rename_i y ps1 hx
  cases h
  obtain ⟨h1,h2⟩:=eX hg hi hx hf hbl
  obtain ⟨β'',e1,e2,e3,e4,e5⟩:=h1.O7 (AE.cons h2 AE.nil) he
  exact ⟨β'',e1,e2,⟨[v],rfl,by simp [AA,e3]⟩,e4,e5⟩
 ·rename_i τ
  split at h
  case h_2=>cases h
  rename_i q r' hx
  cases h
  obtain ⟨us,h1,h2⟩:=JF hsub hx
  have h3:AE S w (FN D β fin.bl) (S.enc τ (S.of τ q)) (AA β us):=by unfold Aq.enc;rw [S.E4];exact h2.Bo (fun _ _=>rfl) D5
  obtain ⟨β'',e1,e2,e3,e4,e5⟩:=hi.O7 h3 he
  exact ⟨β'',e1,e2,⟨us,h1,e3.symm⟩,e4,e5⟩
 ·rename_i τ E v r'
  split at h
  case h_2=>cases h
  rename_i l ps1 hx
  cases h
  simp only [Bn,Prod.mk.injEq] at he
  obtain ⟨rfl,rfl,rfl⟩:=he
  obtain ⟨β'',e1,e2,e3⟩:=ao hg hi hx hf hfb
  exact ⟨β'',e1,e2,⟨[v],rfl,by simp only [AA,e3]⟩,⟨by simp [SV.on],trivial⟩,Nat.le_succ n⟩
 ·rename_i τ E v r'
  split at h
  case h_2=>cases h
  rename_i l ps1 hx
  cases h
  simp only [Bn,Prod.mk.injEq] at he
  obtain ⟨rfl,rfl,rfl⟩:=he
  obtain ⟨β'',e1,e2,e3⟩:=eV hg hi hx hf hfb
  exact ⟨β'',e1,e2,⟨[v],rfl,by simp only [AA,e3]⟩,⟨by simp [SV.on],trivial⟩,Nat.le_succ n⟩
 ·rename_i κ τ ag v r'
  split at h
  case h_2=>cases h
  rename_i l ps1 hx
  cases h
  simp only [Bn,Prod.mk.injEq] at he
  obtain ⟨rfl,rfl,rfl⟩:=he
  obtain ⟨β'',e1,e2,e3⟩:=eb hg hi hx hf hfb
  exact ⟨β'',e1,e2,⟨[v],rfl,by simp only [AA,e3]⟩,⟨by simp [SV.on],trivial⟩,Nat.le_succ n⟩
 ·rename_i κ τ ag E v r'
  split at h
  case h_2=>cases h
  rename_i l ps1 hx
  cases h
  simp only [Bn,Prod.mk.injEq] at he
  obtain ⟨rfl,rfl,rfl⟩:=he
  obtain ⟨β'',e1,e2,e3⟩:=ee hg hi hx hf hfb
  exact ⟨β'',e1,e2,⟨[v],rfl,by simp only [AA,e3]⟩,⟨by simp [SV.on],trivial⟩,Nat.le_succ n⟩
 ·rename_i i j r'
  split at h
  case h_2=>cases h
  rename_i m' hx
  cases h
  simp only [Bn,Prod.mk.injEq] at he
  obtain ⟨rfl,rfl,rfl⟩:=he
  obtain ⟨a1,a2,_⟩:=Dy hx
  have a1':i<fin.bn:=by rw [hbnf];exact a1
  refine ⟨β',fun _ _=>rfl,hi.SG m',⟨[.tr j],rfl,?_⟩,⟨Nat.lt_of_lt_of_le a1' hi.bn,trivial⟩,Nat.le_refl _⟩
  simp only [AA,SV.den,hi.box i a1' j (hf.m i j a2)]
 ·rename_i i j r'
  split at h
  case h_2=>cases h
  rename_i m' hx
  cases h
  simp only [Bn,Prod.mk.injEq] at he
  obtain ⟨rfl,rfl,rfl⟩:=he
  obtain ⟨a1,a2,_⟩:=Dy hx
  have a1':i<fin.bn:=by rw [hbnf];exact a1
  refine ⟨β',fun _ _=>rfl,hi.SG m',⟨[.Bv j],rfl,?_⟩,⟨Nat.lt_of_lt_of_le a1' hi.bn,trivial⟩,Nat.le_refl _⟩
  simp only [AA,SV.den,hi.box i a1' j (hf.m i j a2)]
 ·rename_i i z off j z' e off' r'
  split at h
  case h_2=>cases h
  rename_i m' hz ho hx
  have hz:=Nat.eq_of_beq_eq_true hz;subst hz
  have ho:=Nat.eq_of_beq_eq_true ho;subst ho
  cases h
  simp only [Bn,Prod.mk.injEq] at he
  obtain ⟨rfl,rfl,rfl⟩:=he
  obtain ⟨a1,a2,_⟩:=Dy hx
  have a1':i<fin.bn:=by rw [hbnf];exact a1
  refine ⟨β',fun _ _=>rfl,hi.SG m',⟨[.ep j z' e off'],rfl,?_⟩,⟨Nat.lt_of_lt_of_le a1' hi.bn,trivial⟩,Nat.le_refl _⟩
  simp only [AA,SV.den,hi.box i a1' j (hf.m i j a2)]
 ·rename_i i off j off' r'
  split at h
  case h_2=>cases h
  rename_i m' ho hx
  have ho:=Nat.eq_of_beq_eq_true ho;subst ho
  cases h
  simp only [Bn,Prod.mk.injEq] at he
  obtain ⟨rfl,rfl,rfl⟩:=he
  obtain ⟨a1,a2,_⟩:=Dy hx
  have a1':i<fin.bn:=by rw [hbnf];exact a1
  refine ⟨β',fun _ _=>rfl,hi.SG m',⟨[.ptr j off'],rfl,?_⟩,⟨Nat.lt_of_lt_of_le a1' hi.bn,trivial⟩,Nat.le_refl _⟩
  simp only [AA,SV.den,hi.box i a1' j (hf.m i j a2)]
 ·rename_i f caps g cs' r'
  split at h
  case h_2=>cases h
  rename_i m' ho hx
  have ho:=Nat.eq_of_beq_eq_true ho;subst ho
  cases h
  simp only [Bn,Prod.mk.injEq] at he
  obtain ⟨rfl,rfl,rfl⟩:=he
  obtain ⟨_,a2⟩:=HU hx
  obtain ⟨b1,b2⟩:=a2 β β' (fun i h1 j h2=>hi.box i (by rw [hbnf];exact h1) j (hf.m i j h2))
  refine ⟨β',fun _ _=>rfl,hi.SG m',⟨[.fn g cs'],rfl,?_⟩,⟨?_,trivial⟩,Nat.le_refl _⟩
  ·simp only [AA,SV.den,b1]
  ·exact CP (fun k hk=>Nat.lt_of_lt_of_le (by rw [hbnf];exact hk) hi.bn) b2
 ·rename_i r'
  cases h
  simp only [Bn,Prod.mk.injEq] at he
  obtain ⟨rfl,rfl,rfl⟩:=he
  exact ⟨β',fun _ _=>rfl,hi,⟨[.v (.pointer none)],rfl,by simp [AA,SV.den]⟩,⟨trivial,trivial⟩,Nat.le_refl _⟩
 ·rename_i v r'
  split at h
  case h_2=>cases h
  rename_i hv
  cases h
  obtain ⟨a,m,c,hs⟩:=Xi hv β
  have h2:Au S w (FN D β fin.bl) (.ow 0 0 (List.replicate m (S.A5 0))) (v.den β):=by
   have:=Au.ow (S:=S) (w:=w) (D:=FN D β fin.bl) 0 0 (List.replicate m (S.A5 0)) a c
   rw [List.length_replicate] at this
   rw [hs];exact this
  obtain ⟨β'',e1,e2,e3,e4,e5⟩:=hi.O7 (AE.cons h2 AE.nil) (show CS [.ow 0 0 (List.replicate m (S.A5 0))] n oc=(svs,oc',n') from he)
  exact ⟨β'',e1,e2,⟨[v],rfl,by simp [AA,e3]⟩,e4,e5⟩
 ·rename_i v r'
  split at h
  case h_2=>cases h
  rename_i hv
  cases h
  obtain ⟨b,hs⟩:=Xj hv β
  simp only [Bn,Prod.mk.injEq] at he
  obtain ⟨rfl,rfl,rfl⟩:=he
  obtain ⟨β'',e1,e2,e3⟩:=hi.iL b
  exact ⟨β'',e1,e3,⟨[v],rfl,by simp [AA,SV.den,e2,hs,Nm.mp]⟩,⟨by simp [SV.on],trivial⟩,Nat.le_succ n⟩
 ·cases h
end
end Go.En
