/- States by patterns, operation by operation: for a piece of a function that is gone through by hand. -/
import Derived.Test.YtikecakpcfpghaaGreatDoorMo
import Derived.Maps.RangeRun
import Derived.Test.YtikecakpcfpghaaGreatDoorMm
set_option linter.all false
namespace Go.En
open Go.RowKit
section
variable {S:Aq} {P:Program} {w0:World} {F D0 D:Nat->Prop} {N:Nat->Prop} {β:Nat->Nm} {a:Act} {w:World}
theorem ZT {tb:List (Nat×TI)} (htb:AU S P tb) {s s':St S} (hg:G w0 F D0 D s N β a w) {all:Array Oper} {o:Oper} {r:List Oper} {Q:Exit->Act->World->Prop} (hgd:o.guard=none) {c:Option Bool} {x:SV} (he:evalOp tb s o.op=.val c x) (hc:CB c) (hp:s.put o.dst x=some s')
  (hQ: ∀ a',G w0 F D0 D s' N β a' w->wpList P all Q r a' w):wpList P all Q (o::r) a w:=by
 have h:=BZ htb hg o
 rw [he] at h
 obtain ⟨h1,h2⟩:=h hc
 unfold wpList
 rw [if_pos (by simp [Region.wanted,hgd])]
 exact .inl (An h1 (hQ _ (hg.put h2 hp)))
def HE (q:Spec) (ts:List Nat) (k bn:Nat) (s:St S):Option (q.D S×List (Nat×Nat)):=match F4 s ts with
 | some us=>match q.parse true us s.o (Q3 k) bn with
  | some (y,ps)=>some (y,ps.m)
  | none=>none
 | none=>none
structure HX (S:Aq) (w0:World) (F D0:Nat->Prop) (q:Spec) (ts:List Nat) (bn:Nat) (β1:Nat->Nm) (sz:Nat) (y:q.D S) (r:Nat) (ob:Obj) (a:Act) (W:World):Prop where
 st: ∃ D β vs o n,q.enc y bn=(vs,o,n)/\(∀ i,i<bn->β i=β1 i)/\GH w0 F D0 D o (· <n) β W/\BR (· <n) vs/\bn<=n/\(∀ (j:Nat) t v,ts[j]?=some t->vs[j]?=some v->t<sz/\a.tmps.getD t undef=v.den β)/\(∀ i b,lk o i=some b->¬ (β i).has r)/\¬ D r
 sz:a.tmps.size=sz
 df:a.defers=[]
 it:W.heap[r]?=some ob
theorem HX.g {q:Spec} {ts:List Nat} {bn sz r:Nat} {β1:Nat->Nm} {y:q.D S} {ob:Obj} (h:HX S w0 F D0 q ts bn β1 sz y r ob a w):
  ∃ D β vs o n,q.enc y bn=(vs,o,n)/\(∀ i,i<bn->β i=β1 i)/\bn<=n/\G w0 F D0 D ⟨ts.zip vs,o,n,sz⟩ (· <n) β a w/\(∀ i b,lk o i=some b->¬ (β i).has r)/\¬ D r:=by
 obtain ⟨⟨D,β,vs,o,n,he,hβ,hg,hon,hbn,hts,h1,h2⟩,hsz,hd,hit⟩:=h
 refine ⟨D,β,vs,o,n,he,hβ,hbn,⟨hd,hsz,fun t v ht=>?_,fun t v ht=>?_,hg⟩,h1,h2⟩
 ·obtain ⟨j,j1,j2⟩:=Gs ht
  exact ⟨(hts j t v j1 j2).1,Ay.1 hon v (List.mem_of_getElem? j2)⟩
 ·obtain ⟨j,j1,j2⟩:=Gs ht
  exact (hts j t v j1 j2).2
theorem GH.clear {W w':World} {D D':Nat->Prop} {o o':List (Nat×Own S)} {N':Nat->Prop} {β β':Nat->Nm} (k:GH W (AK o β) D D' o' N' β' w') {r:Nat} (hr:r<W.heap.size) (h1: ∀ i b,lk o i=some b->¬ (β i).has r) (h2:¬ D r):
  (∀ i b,lk o' i=some b->¬ (β' i).has r)/\¬ D' r/\w'.heap[r]?=W.heap[r]?:=by
 have hb:¬ AK o β r:=fun ⟨i,b,hi,hk⟩=>h1 i b hi hk
 refine ⟨fun i b hi hk=>?_,fun hd=>?_,k.fr.block r hr hb⟩
 ·rcases k.fresh i b r hi hk with h|h
  ·omega
  ·exact hb h
 ·rcases k.JV r hd with h|h|h
  ·exact h2 h
  ·exact hb h
  ·omega
theorem G.hx {q:Spec} {ts:List Nat} {k bn n r:Nat} {y:q.D S} {m:List (Nat×Nat)} {s:St S} {ob:Obj} (hg:G w0 F D0 D s (· <n) β a w) (hk:k<=bn) (hl:HE q ts k bn s=some (y,m)) (hq:q.okB bn=true)
  (h1: ∀ i b,lk s.o i=some b->¬ (β i).has r) (h2:¬ D r) (hit:w.heap[r]?=some ob):
  ∃ β1:Nat->Nm,(∀ i,i<k->β1 i=β i)/\(∀ i,i<bn-> ∀ j,lk m i=some j->β1 i=β j)/\HX S w0 F D0 q ts bn β1 s.sz y r ob a w:=by
 unfold HE at hl
 split at hl
 case h_2=>cases hl
 rename_i us hus
 split at hl
 case h_2=>cases hl
 rename_i y' ps hp
 cases hl
 have hr:r<w.heap.size:=(Array.getElem?_eq_some_iff.1 hit).1
 rcases he2:q.enc y bn with ⟨vs',o',n'⟩
 obtain ⟨β'',b1,b2,b3,b4,b5,_,_,b8,_⟩:=Spec.B5 hg.gh.base hp hq he2
 obtain ⟨t1,t2,t3⟩:=FG hg hus
 have hlv:vs'.length=us.length:=by have:=congrArg List.length b3;rw [AF,AF] at this;exact this.symm
 obtain ⟨c1,c2,c3⟩:=GH.clear b2 hr h1 h2
 refine ⟨β'',fun i hi=>b1 i (Nat.lt_of_lt_of_le hi hk) i (b8 i i (Gr hi)),b1,⟨⟨_,β'',vs',o',n',he2,fun i hi=>rfl,hg.gh.comp b2,b4,b5,fun j t v hj hv=>?_,c1,c2⟩,hg.size,hg.defers,hit⟩⟩
 have hju:j<us.length:=by rw [<-hlv];exact (List.getElem?_eq_some_iff.1 hv).1
 obtain ⟨t4,t5⟩:=t3 j t _ hj (List.getElem?_eq_getElem hju)
 refine ⟨t4,?_⟩
 rw [t5]
 have h6:=congrArg (fun l:List Value=>l[j]?) b3
 simp only [B1,List.getElem?_eq_getElem hju,hv,Option.map_some,Option.some.injEq] at h6
 exact h6
theorem HX.re {q:Spec} {ts:List Nat} {bn sz r:Nat} {β1 β2:Nat->Nm} {y:q.D S} {ob:Obj} (h:HX S w0 F D0 q ts bn β1 sz y r ob a w) (he: ∀ i,i<bn->β1 i=β2 i):HX S w0 F D0 q ts bn β2 sz y r ob a w:=by
 obtain ⟨⟨D,β,vs,o,n,h1,h2,h3⟩,hsz,hd,hit⟩:=h
 exact ⟨⟨D,β,vs,o,n,h1,fun i hi=>(h2 i hi).trans (he i hi),h3⟩,hsz,hd,hit⟩
theorem G.GO {q:Spec} {ts:List Nat} {bn n r:Nat} {β1:Nat->Nm} {y:q.D S} {m:List (Nat×Nat)} {s:St S} {ob:Obj} (hg:G w0 F D0 D s (· <n) β a w) (hβ: ∀ i,i<bn->β i=β1 i) (hl:HE q ts bn bn s=some (y,m)) (hq:q.okB bn=true)
  (h1: ∀ i b,lk s.o i=some b->¬ (β i).has r) (h2:¬ D r) (hit:w.heap[r]?=some ob):HX S w0 F D0 q ts bn β1 s.sz y r ob a w:=by
 obtain ⟨β2,k1,_,k3⟩:=hg.hx (Nat.le_refl _) hl hq h1 h2 hit
 exact k3.re fun i hi=>(k1 i hi).trans (hβ i hi)
theorem HX.lZ {E:Env S} (hE:E.Ok P) {f0:Nat} {all:Array Oper} {sp qe:Spec} {ts ts':List Nat} {bn r:Nat} {β1:Nat->Nm} {ob:Obj} (hqe:qe.okB bn=true) (hlen:ts'.length=qe.as.length) {x:sp.D S} {y:qe.D S}
  (hev:(Nv E f0 all sp qe ts ts' bn x).eval (fun _ _=>none)=some y) (hkp:BS S w0 F D0) (hh:HX S w0 F D0 sp ts bn β1 E.sz x r ob a w) {Q:Exit->Act->World->Prop}
  (hQ: ∀ a' W',HX S w0 F D0 qe ts' bn β1 E.sz y r ob a' W'->Q .normal a' W'):wpList P all Q all.toList a w:=by
 obtain ⟨⟨D,β,vs,o,n,he,hβ,hg,hon,hbn,hts,h1,h2⟩,hsz,hd,hit⟩:=hh
 have hr:r<w.heap.size:=(Array.getElem?_eq_some_iff.1 hit).1
 refine Nw hE hqe hlen hev (hg.keeps hkp) ⟨⟨D,β,vs,o,n,he,hβ,hg.base,hon,hbn,hts⟩,hsz⟩ fun a' W' hd' hh'=>hQ a' W' ?_
 obtain ⟨⟨D',β',vs',o',n',he',hβ',hg',hon',hbn',hts'⟩,hsz'⟩:=hh'
 obtain ⟨c1,c2,c3⟩:=GH.clear hg' hr h1 h2
 exact ⟨⟨D',β',vs',o',n',he',hβ',hg.comp hg',hon',hbn',hts',c1,c2⟩,hsz',hd'.trans hd,c3.trans hit⟩
theorem HX.Kz {q:Spec} {ts:List Nat} {bn sz r:Nat} {β1:Nat->Nm} {y:q.D S} {ob:Obj} (h:HX S w0 F D0 q ts bn β1 sz y r ob a w) {w1:World} (hw:w1=w\/w1=w.drew) (h0:w0.heap.size<=r) (ob':Obj):HX S w0 F D0 q ts bn β1 sz y r ob' a (Go.ChangeMaps.setBlock w1 r ob'):=by
 obtain ⟨⟨D,β,vs,o,n,he,hβ,hg,hon,hbn,hts,h1,h2⟩,hsz,hd0,hit⟩:=h
 have hg1:GH w0 F D0 D o (· <n) β w1:=by
  rcases hw with rfl|rfl
  ·exact hg
  ·exact hg.step (Below.refl _ w).drew
 have hr:r<w1.heap.size:=by
  have:=(Array.getElem?_eq_some_iff.1 hit).1
  rcases hw with rfl|rfl<;>exact this
 refine ⟨⟨D,β,vs,o,n,he,hβ,hg1.putObj ob' h1 h2 h0,hon,hbn,hts,h1,h2⟩,hsz,hd0,?_⟩
 show (w1.heap.setIfInBounds r ob')[r]?=_
 simp [Array.getElem?_setIfInBounds,hr]
end
end Go.En
set_option maxRecDepth 100000
namespace Go.Proofs
open Go Go.En
def Lh (k:CK) (n:Int):Int:=if n<0 then 0 else if (I k.t.nodes.length)<=n then 0 else (k.t.nodes.getD n.toNat En.Dop.d5).at_
def XM (k:CK) (e:List UInt8×Int):Bool:=decide ((AM k.labels e.1).getD 0=0)
def I0 (k:CK) (f:Int) (e:List UInt8×Int):Int:=if (XM k e && (decide (f<0) || decide (Lh k e.2<Lh k f)))=true then e.2 else f
def Li (k:CK):Int:=k.gotos.foldl (I0 k) (-1)
def VE (k:CK) (V:Nat->Prop) (f:Int):Prop:=
 (f= -1/\ ∀ j x,V j->k.gotos[j]?=some x->XM k x=false)\/
 ∃ j x,V j/\k.gotos[j]?=some x/\XM k x=true/\f=x.2/\ ∀ j' x',V j'->k.gotos[j']?=some x'->XM k x'=true->Lh k f<=Lh k x'.2
def Qw (k:CK):Prop:= ∀ x∈k.gotos,(0:Int)<=x.2
theorem VE.congr {k:CK} {V V':Nat->Prop} {f:Int} (h:VE k V f) (hV: ∀ j,j<k.gotos.length->(V j↔V' j)):VE k V' f:=by
 have hl: ∀ {j:Nat} {x},k.gotos[j]?=some x->j<k.gotos.length:=fun h=>(List.getElem?_eq_some_iff.1 h).1
 rcases h with ⟨h1,h2⟩|⟨j,x,h1,h2,h3,h4,h5⟩
 ·exact .inl ⟨h1,fun j x hj hx=>h2 j x ((hV j (hl hx)).2 hj) hx⟩
 ·exact .inr ⟨j,x,(hV j (hl h2)).1 h1,h2,h3,h4,fun j' x' hj hx hu=>h5 j' x' ((hV j' (hl hx)).2 hj) hx hu⟩
theorem VE.step {k:CK} {V:Nat->Prop} {f:Int} (hp:Qw k) (h:VE k V f) {j:Nat} {x:List UInt8×Int} (hx:k.gotos[j]?=some x):VE k (fun i=>V i\/i=j) (I0 k f x):=by
 have hpos: ∀ {j:Nat} {x},k.gotos[j]?=some x->(0:Int)<=x.2:=fun h=>hp _ (List.mem_of_getElem? h)
 unfold I0
 by_cases hu:XM k x=true
 ·rw [hu]
  rcases h with ⟨rfl,h2⟩|⟨j0,x0,h1,h2,h3,rfl,h5⟩
  ·rw [if_pos (by simp)]
   refine .inr ⟨j,x,.inr rfl,hx,hu,rfl,fun j' x' hj GO hu'=>?_⟩
   rcases hj with hj|rfl
   ·rw [h2 j' x' hj GO] at hu';cases hu'
   ·rw [hx] at GO;cases GO;exact Int.le_refl _
  ·have h0:=hpos h2
   by_cases hlt:Lh k x.2<Lh k x0.2
   ·rw [if_pos (by simp [hlt])]
    refine .inr ⟨j,x,.inr rfl,hx,hu,rfl,fun j' x' hj GO hu'=>?_⟩
    rcases hj with hj|rfl
    ·have:=h5 j' x' hj GO hu';omega
    ·rw [hx] at GO;cases GO;exact Int.le_refl _
   ·rw [if_neg (by simp [hlt];omega)]
    refine .inr ⟨j0,x0,.inl h1,h2,h3,rfl,fun j' x' hj GO hu'=>?_⟩
    rcases hj with hj|rfl
    ·exact h5 j' x' hj GO hu'
    ·rw [hx] at GO;cases GO;omega
 ·have hu:XM k x=false:=by simpa using hu
  rw [hu,if_neg (by simp)]
  rcases h with ⟨h1,h2⟩|⟨j0,x0,h1,h2,h3,h4,h5⟩
  ·refine .inl ⟨h1,fun j' x' hj GO=>?_⟩
   rcases hj with hj|rfl
   ·exact h2 j' x' hj GO
   ·rw [hx] at GO;cases GO;exact hu
  ·refine .inr ⟨j0,x0,.inl h1,h2,h3,h4,fun j' x' hj GO hu'=>?_⟩
   rcases hj with hj|rfl
   ·exact h5 j' x' hj GO hu'
   ·rw [hx] at GO;cases GO;rw [hu] at hu';cases hu'
theorem XU {k:CK} (hp:Qw k):VE k (fun _=>True) (Li k):=by
 have key: ∀ n,n<=k.gotos.length->VE k (fun j=>j<n) ((k.gotos.take n).foldl (I0 k) (-1)):=by
  intro n
  induction n with
  | zero=>exact fun _=>.inl ⟨rfl,fun j x hj=>absurd hj (Nat.not_lt_zero _)⟩
  | succ n ih=>
   intro hn
   have hx:k.gotos[n]?=some k.gotos[n]:=List.getElem?_eq_getElem (by omega)
   rw [List.take_add_one,hx]
   simp only [Option.toList,List.foldl_append,List.foldl_cons,List.foldl_nil]
   exact ((ih (by omega)).step hp hx).congr fun j _=>by omega
 have:=key k.gotos.length (Nat.le_refl _)
 rw [List.take_length] at this
 exact this.congr fun j hj=>by simp [hj]
theorem VE.uniq {k:CK} {f f':Int} (hp:Qw k) (h:VE k (fun _=>True) f) (h':VE k (fun _=>True) f'):(f=f'/\f= -1)\/(0<=f/\0<=f'/\Lh k f=Lh k f'):=by
 have hpos: ∀ {j:Nat} {x},k.gotos[j]?=some x->(0:Int)<=x.2:=fun h=>hp _ (List.mem_of_getElem? h)
 rcases h with ⟨h1,h2⟩|⟨j,x,-,h2,h3,h4,h5⟩<;>rcases h' with ⟨k1,k2⟩|⟨j',x',-,k2,k3,k4,k5⟩
 ·exact .inl ⟨h1.trans k1.symm,h1⟩
 ·rw [h2 j' x' trivial k2] at k3;cases k3
 ·rw [k2 j x trivial h2] at h3;cases h3
 ·have a1:=h5 j' x' trivial k2 k3
  have a2:=k5 j x trivial h2 h3
  refine .inr ⟨h4▸hpos h2,k4▸hpos k2,?_⟩
  rw [<-k4] at a1;rw [<-h4] at a2;omega
def lR (mf:Int->CK->CT->Option ((En.Dop.Ae×Unit)×(CK×CT×Unit))) (x:(Unit×List Int×Int×Unit)×(CK×CT×Unit)):Option ((Unit×List Int×Int×Unit)×(CK×CT×Unit)):=
 if (x.2.1.gotos.all fun e=>decide (0<=e.2))=true then
  if (decide (0<=Li x.2.1))=true then (mf (Li x.2.1) x.2.1 x.2.2.1).bind fun y=>some (x.1,(y.2.1,(y.2.2.1,()))) else some x
 else none
end Go.Proofs
namespace Go.En
open Go.RowKit
section
variable {S:Aq} {P:Program} {w0:World} {F D0 D:Nat->Prop} {N:Nat->Prop} {β:Nat->Nm} {a:Act} {w:World}
def St.pu (s:St S) (d:Nat) (x:SV):St S:={ s with t:=pt s.t d x }
theorem Cm {tb:List (Nat×TI)} (htb:AU S P tb) {s:St S} (hg:G w0 F D0 D s N β a w) {all:Array Oper} {o:Oper} {r:List Oper} {Q:Exit->Act->World->Prop} {d:Nat} (hgd:o.guard=none) (hd:o.dst=some d) (hds:d<s.sz) {x:SV} (he:evalOp tb s o.op=.val none x)
  (hQ: ∀ a',G w0 F D0 D (s.pu d x) N β a' w->wpList P all Q r a' w):wpList P all Q (o::r) a w:=
 ZT htb hg hgd he trivial (s':=s.pu d x) (by rw [hd,St.FW,if_pos (by omega)];rfl) hQ
end
end Go.En
namespace Go.Proofs
open Go Go.En Go.RowKit
noncomputable abbrev Zu:Code:=As (AP Tryz.prog 21) [1,1,1,1,1,1,1,1,1,1,1,1]
noncomputable abbrev Qv:Code:=As Zu [0,0,1,0]
noncomputable abbrev lS:Code:=As Zu [1,1]
noncomputable def Mp:Array Oper:=Ib (As (AP Tryz.prog 21) [0,1,1,1,1,1,1,1,1,1,1,1])
noncomputable def DF:Array Oper:=Ib (As Zu [0,0])
noncomputable def Fk:Array Oper:=Ib (As Qv [0])
noncomputable def DG:Array Oper:=Ib (As Qv [0,0,1,1])
noncomputable def XF:Array Oper:=Ib (As Qv [0,1,0,1,1])
noncomputable def Ii:Array Oper:=Ib (As Qv [0,1,1,0,1,1])
noncomputable def Hd:Array Oper:=Ib (As Zu [0,0,1])
noncomputable def UB:Array Oper:=Ib (As Zu [0,1,0,1])
theorem dZ:Zu=.seq (.seq (.region 25 DF false) (.block 2 (.loop Qv))) (.seq (.seq (.region 30 Hd false) (.cond (.tmp 215) (.region 31 UB false) .skip)) lS):=by kernel_rfl
theorem Zx:Qv=.seq (.region 26 Fk false) (.seq (.cond (.tmp 187) .skip (.exit 2)) (.block 3 (.seq (.region 27 DG false) (.seq (.region 28 XF false) (.cond (.tmp 212) (.region 29 Ii false) .skip))))):=by kernel_rfl
noncomputable def A0 (l:Array Oper) (i:Nat):Oper:=l.getD i default
theorem XB:Mp.toList=[A0 Mp 0]:=by kernel_rfl
theorem XC:DF.toList=[A0 DF 0,A0 DF 1,A0 DF 2,A0 DF 3,A0 DF 4]:=by kernel_rfl
theorem XD:Fk.toList=[A0 Fk 0,A0 Fk 1]:=by kernel_rfl
theorem XE:DG.toList=[A0 DG 0,A0 DG 1,A0 DG 2,A0 DG 3,A0 DG 4]:=by kernel_rfl
theorem XH:Ii.toList=[A0 Ii 0,A0 Ii 1]:=by kernel_rfl
theorem XI:Hd.toList=[A0 Hd 0,A0 Hd 1]:=by kernel_rfl
theorem PU:(A0 Fk 0).op=.next (.tmp 185) false/\(A0 Fk 0).dst=some 186/\(A0 Fk 0).guard=none:=⟨by kernel_rfl,by kernel_rfl,by kernel_rfl⟩
theorem PR:(A0 DG 0).op=.entry (.tmp 185)/\(A0 DG 0).dst=some 188/\(A0 DG 0).guard=none:=⟨by kernel_rfl,by kernel_rfl,by kernel_rfl⟩
theorem PV:(A0 DF 4).op=.range 65 (.tmp 184)/\(A0 DF 4).dst=some 185/\(A0 DF 4).guard=none:=⟨by kernel_rfl,by kernel_rfl,by kernel_rfl⟩
abbrev ly:Gh:=⟨0,70,[.st 7,.al 1 0,.own 0 3,.own 11 67,.own 12 51,.st 0,.own 5 73,.mr .str 9 true 62,.mp .str 15 true,.rm 2,.st 11,.st 0,.rm 3,.rm 4,.st 0,.mr (.int .i64) 0 false 152,.st 0,.fd (.int .i64),.st 0],false⟩
abbrev Zv:List Gh:=[ly,CT.b1,⟨2,0,[.mp .str 0 false],true⟩,⟨3,0,[.mp .str 0 false],true⟩,⟨4,0,[.mp .str 0 false],true⟩]
abbrev dY:List Cr:=[.al 0 0,.own 0 3,.fd (.int .i64),.fd (.int .i64),.al 5 0]
abbrev Qx:En.Spec:=⟨dY,Zv⟩
abbrev PW:List Nat:=[0,6,15,16,185]
abbrev S3:En.Spec:=⟨dY++[.fd .str,.fd (.int .i64)],Zv⟩
abbrev Zy:List Nat:=PW++[17,18]
abbrev Va:En.Spec:=⟨dY++[.fd (.int .i64),.fd .bool],Zv⟩
abbrev Zz:List Nat:=PW++[18,212]
def lz (k:CK) (k1:CT):BT En.Dop.D4 Zv:=((k.t,(),k.num,k.funcs,k.globals,k.top,k.nodes,k.names,k.sigs,(),k.f,k.DI,(),(),k.loops,k.MH,k.LP,k.e,k.when,()),k1,(k.taken,()),(k.labels,()),(k.gotos,()),())
def S5 (t6:List Int) (t15 f:Int) (k:CK) (k1:CT):Qx.D En.Dop.D4:=(((),t6,t15,f,(),()),lz k k1)
def Z0 (t6:List Int) (t15 f:Int) (e:List UInt8×Int) (k:CK) (k1:CT):S3.D En.Dop.D4:=(((),t6,t15,f,(),e.1,e.2,()),lz k k1)
def Z1 (t6:List Int) (t15 f n:Int) (b:Bool) (k:CK) (k1:CT):Va.D En.Dop.D4:=(((),t6,t15,f,(),n,b,()),lz k k1)
theorem S6 {W:World} {D:Nat->Prop} {b:Nat} {l:List (List UInt8×Int)} (h:En.MapAt En.Dop.D4 W D .str 0 false b l):
  ∃ es:Array MapEntry,W.heap[b]?=some (.map es es.size)/\es.size=l.length/\ ∀ (j:Nat) (e:MapEntry),es[j]?=some e-> ∃ x,l[j]?=some x/\e=⟨.string ⟨⟨x.1⟩⟩,.int .i64 x.2,j⟩:=by
 obtain ⟨es,h1,h2,h3⟩:=h
 refine ⟨es,h1,h2,fun j e he=>?_⟩
 have hj:j<l.length:=by rw [<-h2];exact (Array.getElem?_eq_some_iff.1 he).1
 obtain ⟨h4,h5,vs,h6,h7⟩:=h3 j l[j] e (List.getElem?_eq_getElem hj) he
 refine ⟨l[j],List.getElem?_eq_getElem hj,?_⟩
 have h7:AE En.Dop.D4 W D [.int .i64 l[j].2] vs:=h7
 obtain ⟨v1,r1,rfl,h8,h9⟩:=h7.C4
 cases h8
 have:=h9.1
 cases r1 with
 | cons _ _=>simp at this
 | nil=>
  cases e
  simp only at h4 h5 h6
  subst h4
  rw [h5,h6]
  rfl
end Go.Proofs
namespace Go.Proofs
open Go Go.En Go.RowKit
noncomputable abbrev iY:Ai:=⟨[],6,S3,Va,false,[],[]⟩
noncomputable def iX:Env En.Dop.D4:=Aj Tryz.prog 21 Tryz.tb [Tryz.Cz.c] iY
theorem da:iX.Ok Tryz.prog:=(FP (p:=iY) (ct:=[Tryz.Cz.c]) Tryz.AH (Ao Tryz.Cz.holds Br) (by kernel_rfl)).1
theorem Wy:iX.sz=246:=by kernel_rfl
theorem ib {t6:List Int} {t15 f:Int} {k:CK} {k1:CT} {vs:List SV} {o:List (Nat×En.Own En.Dop.D4)} {n:Nat} (h:Qx.enc (S:=En.Dop.D4) (S5 t6 t15 f k k1) 6=(vs,o,n)):lk o 4=some (.mp .str 0 false k.gotos)/\lk (PW.zip vs) 185=some (.ptr 5 0):=by
 cases h
 exact ⟨by kernel_rfl,by kernel_rfl⟩
noncomputable abbrev UC (vs:List SV) (o:List (Nat×En.Own En.Dop.D4)) (n:Nat):St En.Dop.D4:=⟨PW.zip vs,o,n,246⟩
theorem il {t6:List Int} {t15 f:Int} {k:CK} {k1:CT} {vs:List SV} {o:List (Nat×En.Own En.Dop.D4)} {n:Nat} (h:Qx.enc (S:=En.Dop.D4) (S5 t6 t15 f k k1) 6=(vs,o,n)):evalOp Tryz.tb ((UC vs o n).pu 186 (.Gg [.b false])) (A0 Fk 1).op=.val none (.b false):=by
 cases h
 kernel_rfl
theorem im (e:List UInt8×Int) {t6:List Int} {t15 f:Int} {k:CK} {k1:CT} {vs:List SV} {o:List (Nat×En.Own En.Dop.D4)} {n:Nat} (h:Qx.enc (S:=En.Dop.D4) (S5 t6 t15 f k k1) 6=(vs,o,n)):evalOp Tryz.tb ((UC vs o n).pu 186 (.Gg [.b true,.v (.string ⟨⟨e.1⟩⟩),.v (.int .i64 e.2)])) (A0 Fk 1).op=.val none (.b true):=by
 cases h
 kernel_rfl
noncomputable abbrev S4 (vs:List SV) (o:List (Nat×En.Own En.Dop.D4)) (n:Nat) (e:List UInt8×Int):St En.Dop.D4:=(((UC vs o n).pu 186 (.Gg [.b true,.v (.string ⟨⟨e.1⟩⟩),.v (.int .i64 e.2)])).pu 187 (.b true)).pu 188 (.Gg [.v (.string ⟨⟨e.1⟩⟩),.v (.int .i64 e.2)])
noncomputable abbrev l0 (vs:List SV) (o:List (Nat×En.Own En.Dop.D4)) (n:Nat) (e:List UInt8×Int):St En.Dop.D4:=(((((S4 vs o n e).pu 189 (.v (.string ⟨⟨e.1⟩⟩))).pu 190 (.v (.int .i64 e.2))).pu 17 (.v (.string ⟨⟨e.1⟩⟩))).pu 18 (.v (.int .i64 e.2)))
theorem iq {t6:List Int} {t15 f:Int} {e:List UInt8×Int} {k:CK} {k1:CT} {vs:List SV} {o:List (Nat×En.Own En.Dop.D4)} {n:Nat} (h:Qx.enc (S:=En.Dop.D4) (S5 t6 t15 f k k1) 6=(vs,o,n)):evalOp Tryz.tb (S4 vs o n e) (A0 DG 1).op=.val none (.v (.string ⟨⟨e.1⟩⟩)):=by
 cases h
 kernel_rfl
theorem ir {t6:List Int} {t15 f:Int} {e:List UInt8×Int} {k:CK} {k1:CT} {vs:List SV} {o:List (Nat×En.Own En.Dop.D4)} {n:Nat} (h:Qx.enc (S:=En.Dop.D4) (S5 t6 t15 f k k1) 6=(vs,o,n)):evalOp Tryz.tb ((S4 vs o n e).pu 189 (.v (.string ⟨⟨e.1⟩⟩))) (A0 DG 2).op=.val none (.v (.int .i64 e.2)):=by
 cases h
 kernel_rfl
theorem iu {t6:List Int} {t15 f:Int} {e:List UInt8×Int} {k:CK} {k1:CT} {vs:List SV} {o:List (Nat×En.Own En.Dop.D4)} {n:Nat} (h:Qx.enc (S:=En.Dop.D4) (S5 t6 t15 f k k1) 6=(vs,o,n)):evalOp Tryz.tb (((S4 vs o n e).pu 189 (.v (.string ⟨⟨e.1⟩⟩))).pu 190 (.v (.int .i64 e.2))) (A0 DG 3).op=.val none (.v (.string ⟨⟨e.1⟩⟩)):=by
 cases h
 kernel_rfl
theorem iv {t6:List Int} {t15 f:Int} {e:List UInt8×Int} {k:CK} {k1:CT} {vs:List SV} {o:List (Nat×En.Own En.Dop.D4)} {n:Nat} (h:Qx.enc (S:=En.Dop.D4) (S5 t6 t15 f k k1) 6=(vs,o,n)):evalOp Tryz.tb ((((S4 vs o n e).pu 189 (.v (.string ⟨⟨e.1⟩⟩))).pu 190 (.v (.int .i64 e.2))).pu 17 (.v (.string ⟨⟨e.1⟩⟩))) (A0 DG 4).op=.val none (.v (.int .i64 e.2)):=by
 cases h
 kernel_rfl
theorem UE:(A0 Fk 1).dst=some 187/\(A0 Fk 1).guard=none:=⟨by kernel_rfl,by kernel_rfl⟩
theorem bo:(A0 DG 1).dst=some 189/\(A0 DG 1).guard=none:=⟨by kernel_rfl,by kernel_rfl⟩
theorem bp:(A0 DG 2).dst=some 190/\(A0 DG 2).guard=none:=⟨by kernel_rfl,by kernel_rfl⟩
theorem bq:(A0 DG 3).dst=some 17/\(A0 DG 3).guard=none:=⟨by kernel_rfl,by kernel_rfl⟩
theorem br:(A0 DG 4).dst=some 18/\(A0 DG 4).guard=none:=⟨by kernel_rfl,by kernel_rfl⟩
theorem bt:(A0 Ii 0).dst=some 213/\(A0 Ii 0).guard=none:=⟨by kernel_rfl,by kernel_rfl⟩
theorem bu:(A0 Ii 1).dst=some 16/\(A0 Ii 1).guard=none:=⟨by kernel_rfl,by kernel_rfl⟩
theorem ig {t6:List Int} {t15 f:Int} {e:List UInt8×Int} {k:CK} {k1:CT} {vs:List SV} {o:List (Nat×En.Own En.Dop.D4)} {n:Nat} (h:Qx.enc (S:=En.Dop.D4) (S5 t6 t15 f k k1) 6=(vs,o,n)):(HE S3 Zy 6 6 (l0 vs o n e)).map (·.1)=some (Z0 t6 t15 f e k k1):=by
 cases h
 kernel_rfl
noncomputable abbrev XL (vs:List SV) (o:List (Nat×En.Own En.Dop.D4)) (n:Nat):St En.Dop.D4:=⟨Zz.zip vs,o,n,246⟩
theorem ic {t6:List Int} {t15 f x:Int} {b:Bool} {k:CK} {k1:CT} {vs:List SV} {o:List (Nat×En.Own En.Dop.D4)} {n:Nat} (h:Va.enc (S:=En.Dop.D4) (Z1 t6 t15 f x b k k1) 6=(vs,o,n)):lk (Zz.zip vs) 212=some (.b b)/\evalOp Tryz.tb (XL vs o n) (A0 Ii 0).op=.val none (.v (.int .i64 x))/\evalOp Tryz.tb ((XL vs o n).pu 213 (.v (.int .i64 x))) (A0 Ii 1).op=.val none (.v (.int .i64 x))/\
  (HE Qx PW 6 6 (((XL vs o n).pu 213 (.v (.int .i64 x))).pu 16 (.v (.int .i64 x)))).map (·.1)=some (S5 t6 t15 x k k1)/\(HE Qx PW 6 6 (XL vs o n)).map (·.1)=some (S5 t6 t15 f k k1):=by
 cases h
 exact ⟨by kernel_rfl,by kernel_rfl,by kernel_rfl,by kernel_rfl,by kernel_rfl⟩
theorem Z2 {t6:List Int} {t15 f:Int} {k:CK} {k1:CT} {vs:List SV} {o:List (Nat×En.Own En.Dop.D4)} {n:Nat} (h:Qx.enc (S:=En.Dop.D4) (S5 t6 t15 f k k1) 6=(vs,o,n)):(HE Qx PW 6 6 (((UC vs o n).pu 186 (.Gg [.b false])).pu 187 (.b false))).map (·.1)=some (S5 t6 t15 f k k1):=by
 cases h
 kernel_rfl
theorem KX:Qx.okB 6=true/\S3.okB 6=true/\Va.okB 6=true:=⟨by kernel_rfl,by kernel_rfl,by kernel_rfl⟩
end Go.Proofs
namespace Go.Proofs
open Go Go.En Go.RowKit
theorem XN (n:Int) (k:CK) (k1:CT): ∃ x:En.Dop.AZ,Tryz.Cz n k.t k.num k.funcs k.globals k.top k.nodes k.names k.sigs k.f k.DI k.loops k.MH k.LP k.e k.when k1=some ((x,()),((k.t.nodes,k.t.types,k.t.top,(),k.num,k.funcs,k.globals,k.top,k.nodes,k.names,k.sigs,(),k.f.name,k.f.params,k.f.Al,k.f.frame,k.f.body,k.DI,(),(),k.loops,k.MH,k.LP,k.e,k.when,()),(k1,())))/\x.at_=Lh k n:=by
 rw [Tryz.aW]
 unfold Lh
 by_cases h:n<0
 ·rw [if_pos (by simpa using h),if_pos h];exact ⟨_,rfl,rfl⟩
 ·rw [if_neg (by simpa using h),if_neg h]
  by_cases h2:I k.t.nodes.length<=n
  ·rw [if_pos (by simpa using h2),if_pos h2];exact ⟨_,rfl,rfl⟩
  ·rw [if_neg (by simpa using h2),if_neg h2,if_pos (by simp;omega)];exact ⟨_,rfl,rfl⟩
theorem Z4 (t6:List Int) (t15 f:Int) (e:List UInt8×Int) (k:CK) (k1:CT):(Nv iX 3000 XF S3 Va Zy Zz 6 (Z0 t6 t15 f e k k1)).eval (fun _ _=>none)=
 if decide ((AM k.labels e.1).getD 0=0)=true then
  if decide (f<0)=true then some (Z1 t6 t15 f e.2 true k k1)
  else (Tryz.Cz e.2 k.t k.num k.funcs k.globals k.top k.nodes k.names k.sigs k.f k.DI k.loops k.MH k.LP k.e k.when k1).bind fun y=>(Tryz.Cz f (En.Dop.HA.mk y.2.1.1 y.2.1.2.1 y.2.1.2.2.1) y.2.1.2.2.2.2.1 y.2.1.2.2.2.2.2.1 y.2.1.2.2.2.2.2.2.1 y.2.1.2.2.2.2.2.2.2.1 y.2.1.2.2.2.2.2.2.2.2.1 y.2.1.2.2.2.2.2.2.2.2.2.1 y.2.1.2.2.2.2.2.2.2.2.2.2.1 (En.Dop.Dc.mk y.2.1.2.2.2.2.2.2.2.2.2.2.2.2.1 y.2.1.2.2.2.2.2.2.2.2.2.2.2.2.2.1 y.2.1.2.2.2.2.2.2.2.2.2.2.2.2.2.2.1 y.2.1.2.2.2.2.2.2.2.2.2.2.2.2.2.2.2.1 y.2.1.2.2.2.2.2.2.2.2.2.2.2.2.2.2.2.2.1) y.2.1.2.2.2.2.2.2.2.2.2.2.2.2.2.2.2.2.2.1 y.2.1.2.2.2.2.2.2.2.2.2.2.2.2.2.2.2.2.2.2.2.2.1 y.2.1.2.2.2.2.2.2.2.2.2.2.2.2.2.2.2.2.2.2.2.2.2.1 y.2.1.2.2.2.2.2.2.2.2.2.2.2.2.2.2.2.2.2.2.2.2.2.2.1 y.2.1.2.2.2.2.2.2.2.2.2.2.2.2.2.2.2.2.2.2.2.2.2.2.2.1 y.2.1.2.2.2.2.2.2.2.2.2.2.2.2.2.2.2.2.2.2.2.2.2.2.2.2.1 y.2.2.1).bind fun z=>some (((),t6,t15,f,(),e.2,decide (y.1.1.at_<z.1.1.at_),()),(((En.Dop.HA.mk z.2.1.1 z.2.1.2.1 z.2.1.2.2.1),(),z.2.1.2.2.2.2.1,z.2.1.2.2.2.2.2.1,z.2.1.2.2.2.2.2.2.1,z.2.1.2.2.2.2.2.2.2.1,z.2.1.2.2.2.2.2.2.2.2.1,z.2.1.2.2.2.2.2.2.2.2.2.1,z.2.1.2.2.2.2.2.2.2.2.2.2.1,(),(En.Dop.Dc.mk z.2.1.2.2.2.2.2.2.2.2.2.2.2.2.1 z.2.1.2.2.2.2.2.2.2.2.2.2.2.2.2.1 z.2.1.2.2.2.2.2.2.2.2.2.2.2.2.2.2.1 z.2.1.2.2.2.2.2.2.2.2.2.2.2.2.2.2.2.1 z.2.1.2.2.2.2.2.2.2.2.2.2.2.2.2.2.2.2.1),z.2.1.2.2.2.2.2.2.2.2.2.2.2.2.2.2.2.2.2.1,(),(),z.2.1.2.2.2.2.2.2.2.2.2.2.2.2.2.2.2.2.2.2.2.2.1,z.2.1.2.2.2.2.2.2.2.2.2.2.2.2.2.2.2.2.2.2.2.2.2.1,z.2.1.2.2.2.2.2.2.2.2.2.2.2.2.2.2.2.2.2.2.2.2.2.2.1,z.2.1.2.2.2.2.2.2.2.2.2.2.2.2.2.2.2.2.2.2.2.2.2.2.2.1,z.2.1.2.2.2.2.2.2.2.2.2.2.2.2.2.2.2.2.2.2.2.2.2.2.2.2.1,()),z.2.2.1,(k.taken,()),(k.labels,()),(k.gotos,()),()))
 else some (Z1 t6 t15 f e.2 false k k1):=by kernel_rfl
theorem dj (t6:List Int) (t15 f:Int) (e:List UInt8×Int) (k:CK) (k1:CT):(Nv iX 3000 XF S3 Va Zy Zz 6 (Z0 t6 t15 f e k k1)).eval (fun _ _=>none)=some (Z1 t6 t15 f e.2 (XM k e && (decide (f<0) || decide (Lh k e.2<Lh k f))) k k1):=by
 rw [Z4]
 obtain ⟨x,h1,h2⟩:=XN e.2 k k1
 obtain ⟨x',h1',h2'⟩:=XN f k k1
 unfold XM
 cases hu:decide ((AM k.labels e.1).getD 0=0) with
 | false=>simp
 | true=>
  cases hf:decide (f<0) with
  | true=>simp
  | false=>
   simp only [if_true,Bool.false_eq_true,if_false,h1,Option.bind_some]
   have:Tryz.Cz f k.t k.num k.funcs k.globals k.top k.nodes k.names k.sigs k.f k.DI k.loops k.MH k.LP k.e k.when k1=some ((x',()),((k.t.nodes,k.t.types,k.t.top,(),k.num,k.funcs,k.globals,k.top,k.nodes,k.names,k.sigs,(),k.f.name,k.f.params,k.f.Al,k.f.frame,k.f.body,k.DI,(),(),k.loops,k.MH,k.LP,k.e,k.when,()),(k1,()))):=h1'
   simp only [this,Option.bind_some,h2,h2',Bool.true_and,Bool.false_or]
   rfl
end Go.Proofs
namespace Go.Proofs
open Go Go.En Go.RowKit
section
variable {w0:World} {F D0:Nat->Prop} {β1:Nat->Nm} {t6:List Int} {t15 f:Int} {k:CK} {k1:CT} {r:Nat} {a:Act} {W:World}
abbrev cq (w0:World) (F D0:Nat->Prop) (β1:Nat->Nm) (t6:List Int) (t15 f:Int) (k:CK) (k1:CT) (r:Nat) (ob:Obj) (a:Act) (W:World):Prop:=HX En.Dop.D4 w0 F D0 Qx PW 6 β1 246 (S5 t6 t15 f k k1) r ob a W
theorem FJ {q:En.Spec} {ts:List Nat} {k bn:Nat} {s:St En.Dop.D4} {y:q.D En.Dop.D4} (h:(HE q ts k bn s).map (·.1)=some y): ∃ m,HE q ts k bn s=some (y,m):=by
 obtain ⟨⟨y',m⟩,h1,h2⟩:=Option.map_eq_some_iff.1 h
 cases h2
 exact ⟨m,h1⟩
theorem Se {es:Array MapEntry} (h: ∀ (j:Nat) (e:MapEntry),es[j]?=some e->e.born=j):(es.toList.map (·.born)).Nodup:=by
 have:es.toList.map (·.born)=List.range es.size:=List.ext_getElem (by simp) fun i h1 h2=>by
  simp only [List.getElem_map,List.getElem_range]
  exact h i _ (by simp at h1;simp [h1])
 rw [this];exact List.nodup_range
theorem XV (hkp:BS En.Dop.D4 w0 F D0) (h0:w0.heap.size<=r) (hr:(β1 5).AN=r) {seen:Array Nat} {c0:Nat} (hL:k.gotos.length<=c0) (hh:cq w0 F D0 β1 t6 t15 f k k1 r (.mapIter (some (β1 4).AN) k.gotos.length seen c0) a W) {Q:Exit->Act->World->Prop}
  (hdone:(∀ j,j<k.gotos.length->seen.contains j=true)-> ∀ a' W' ob,cq w0 F D0 β1 t6 t15 f k k1 r ob a' W'->Q (.exit 2) a' W')
  (hmore: ∀ j x,k.gotos[j]?=some x->seen.contains j=false-> ∀ a' W' c1,k.gotos.length<=c1->cq w0 F D0 β1 t6 t15 (I0 k f x) k k1 r (.mapIter (some (β1 4).AN) k.gotos.length (seen.push j) c1) a' W'->Q .normal a' W'):Qv.wp Tryz.prog Q a W:=by
 rw [Zx]
 obtain ⟨D,β,vs,o,n,he,hβ,hbn,hg,hc1,hc2⟩:=hh.g
 obtain ⟨ho4,ht185⟩:=ib he
 obtain ⟨bm,hb4,hM⟩:=hg.gh.own 4 _ ho4
 have hbm:(β1 4).AN=bm:=by rw [<-hβ 4 (by omega)];simp [Nm.AN,hb4]
 obtain ⟨es,hes,hsz,hel⟩:=S6 hM
 have hit:=hh.it
 rw [hbm] at hit
 have h185:a.tmps.getD 185 undef=.pointer (some ⟨r,0,none⟩):=by
  rw [hg.tmps 185 _ ht185];simp only [SV.den,hβ 5 (by omega),hr]
 have hlt: ∀ x∈es.toList,x.born<k.gotos.length:=fun x hx=>by
  obtain ⟨j,hj⟩:=List.mem_iff_getElem?.1 hx
  rw [Array.getElem?_toList] at hj
  obtain ⟨y,hy,rfl⟩:=hel j x hj
  exact (List.getElem?_eq_some_iff.1 hy).1
 have hexec: ∀ v w',(Instr.next (.pointer (some ⟨r,0,none⟩)) false (A0 Fk 0).type).run Tryz.prog W=.ok v w'->(execOp a.eval (A0 Fk 0)).run Tryz.prog W=.ok (.value v) w':=fun v w' h=>by
  have:a.eval (.tmp 185)=.pointer (some ⟨r,0,none⟩):=h185
  simp only [execOp,PU.1,this,Sem.run_bind,h,Result.andThen_ok,Sem.run_pure]
 refine wp_seq (wp_region_list ?_)
 rw [XD]
 unfold wpList
 rw [if_pos (by simp [Region.wanted,PU.2.2])]
 rcases run_next_at (P:=Tryz.prog) W (A0 Fk 0).type r bm k.gotos.length c0 seen es es.size hit hes hlt hL with ⟨hz,hrun⟩|⟨e,hem,w1,hw1,hrun⟩
 ·-- nothing is left
  refine .inl (An (hexec _ _ hrun) ?_)
  rw [PU.2.1]
  have hg1:G w0 F D0 D ((UC vs o n).pu 186 (.Gg [.b false])) (· <n) β (a.put (some 186) (.tuple #[.bool false])) W:=by
   have:=hg.put (d:=some 186) (x:=.Gg [.b false]) (by simp [SV.on,BR]) (s':=(UC vs o n).pu 186 (.Gg [.b false])) (by rw [St.FW,if_pos (by show 186<246;omega)];rfl)
   simpa [SV.den,AA] using this
  refine Cm Tryz.AH hg1 UE.2 UE.1 (by show 187<246;omega) (il he) fun a1 hg2=>?_
  unfold wpList
  have h187:a1.eval (.tmp 187)=.bool false:=by
   have:=hg2.tmps 187 (.b false) (by simp [St.pu,Ew])
   exact this
  refine wp_seq (wp_cond_false h187 (wp_exit ?_))
  obtain ⟨m,hm⟩:=FJ (Z2 he)
  refine hdone (fun j hj=>?_) a1 W _ (hg2.GO hβ hm KX.1 hc1 hc2 hh.it)
  have hj':es[j]?=some es[j]:=Array.getElem?_eq_getElem (by omega)
  obtain ⟨x,hx,hex⟩:=hel j _ hj'
  have:=all_seen es seen hz es[j] (by simp)
  rw [hex] at this
  exact this
 ·-- an entry
  obtain ⟨hmem,hns⟩:=mem_left hem
  obtain ⟨j,hj⟩:=List.mem_iff_getElem?.1 hmem
  rw [Array.getElem?_toList] at hj
  obtain ⟨x,hx,rfl⟩:=hel j e hj
  refine .inl (An (hexec _ _ hrun) ?_)
  rw [PU.2.1]
  have hh1:=hh.Kz hw1 h0 (.mapIter (some bm) k.gotos.length (seen.push j) es.size)
  obtain ⟨D2,β2,vs2,o2,n2,he2,hβ2,hbn2,hg2,hd1,hd2⟩:=hh1.g
  rw [he] at he2
  simp only [Prod.mk.injEq] at he2
  obtain ⟨rfl,rfl,rfl⟩:=he2
  obtain ⟨bm2,hb42,hM2⟩:=hg2.gh.own 4 _ ho4
  have hbm2:bm2=bm:=by rw [<-hbm,<- hβ2 4 (by omega)];simp [Nm.AN,hb42]
  subst hbm2
  obtain ⟨es2,hes2,hsz2,hel2⟩:=S6 hM2
  have hee:es2=es:=by
   refine Array.ext (hsz2.trans hsz.symm) fun i h1 h2=>?_
   obtain ⟨y1,hy1,e1⟩:=hel2 i _ (Array.getElem?_eq_getElem h1)
   obtain ⟨y2,hy2,e2⟩:=hel i _ (Array.getElem?_eq_getElem h2)
   rw [hy1] at hy2;cases hy2
   rw [e1,e2]
  subst hee
  have hg3:G w0 F D0 D2 ((UC vs o n).pu 186 (.Gg [.b true,.v (.string ⟨⟨x.1⟩⟩),.v (.int .i64 x.2)])) (· <n) β2 (a.put (some 186) (.tuple #[.bool true,.string ⟨⟨x.1⟩⟩,.int .i64 x.2])) (Go.ChangeMaps.setBlock w1 r (.mapIter (some bm2) k.gotos.length (seen.push j) es2.size)):=by
   have:=hg2.put (d:=some 186) (x:=.Gg [.b true,.v (.string ⟨⟨x.1⟩⟩),.v (.int .i64 x.2)]) (by simp [SV.on,BR]) (s':=(UC vs o n).pu 186 (.Gg [.b true,.v (.string ⟨⟨x.1⟩⟩),.v (.int .i64 x.2)])) (by rw [St.FW,if_pos (by show 186<246;omega)];rfl)
   simpa [SV.den,AA] using this
  refine Cm Tryz.AH hg3 UE.2 UE.1 (by show 187<246;omega) (im x he) fun a1 hg4=>?_
  unfold wpList
  have h187:a1.eval (.tmp 187)=.bool true:=hg4.tmps 187 (.b true) (by simp [St.pu,Ew])
  refine wp_seq (wp_cond_true h187 (wp_skip (wp_block (wp_seq (wp_region_list ?_)))))
  rw [XE]
  unfold wpList
  rw [if_pos (by simp [Region.wanted,PR.2.2])]
  have h185':a1.eval (.tmp 185)=.pointer (some ⟨r,0,none⟩):=by
   have:=hg4.tmps 185 (.ptr 5 0) (by simp [St.pu,Ew];exact ht185)
   show a1.tmps.getD 185 undef=_
   rw [this];simp only [SV.den,hβ2 5 (by omega),hr]
  have hrunE:=run_entry_at (P:=Tryz.prog) (Go.ChangeMaps.setBlock w1 r (.mapIter (some bm2) k.gotos.length (seen.push j) es2.size)) r bm2 k.gotos.length seen es2 es2.size ⟨.string ⟨⟨x.1⟩⟩,.int .i64 x.2,j⟩ hh1.it hes2 (List.mem_of_getElem? (by rw [Array.getElem?_toList];exact hj)) (Se fun i e hi=>by obtain ⟨y,_,rfl⟩:=hel2 i e hi;rfl)
  refine .inl (An (v:=.tuple #[.string ⟨⟨x.1⟩⟩,.int .i64 x.2]) (by simp only [execOp,PR.1,h185',Sem.run_bind,hrunE,Result.andThen_ok,Sem.run_pure];rfl) ?_)
  rw [PR.2.1]
  have hg5:G w0 F D0 D2 (S4 vs o n x) (· <n) β2 (a1.put (some 188) (.tuple #[.string ⟨⟨x.1⟩⟩,.int .i64 x.2])) (Go.ChangeMaps.setBlock w1 r (.mapIter (some bm2) k.gotos.length (seen.push j) es2.size)):=by
   have:=hg4.put (d:=some 188) (x:=.Gg [.v (.string ⟨⟨x.1⟩⟩),.v (.int .i64 x.2)]) (by simp [SV.on,BR]) (s':=S4 vs o n x) (by rw [St.FW,if_pos (by show 188<246;omega)];rfl)
   simpa [SV.den,AA] using this
  refine Cm Tryz.AH hg5 bo.2 bo.1 (by show 189<246;omega) (iq he) fun a2 hg6=>?_
  refine Cm Tryz.AH hg6 bp.2 bp.1 (by show 190<246;omega) (ir he) fun a3 hg7=>?_
  refine Cm Tryz.AH hg7 bq.2 bq.1 (by show 17<246;omega) (iu he) fun a4 hg8=>?_
  refine Cm Tryz.AH hg8 br.2 br.1 (by show 18<246;omega) (iv he) fun a5 hg9=>?_
  unfold wpList
  obtain ⟨m,hm⟩:=FJ (ig (e:=x) he)
  have hx1:HX En.Dop.D4 w0 F D0 S3 Zy 6 β1 iX.sz (Z0 t6 t15 f x k k1) r (.mapIter (some bm2) k.gotos.length (seen.push j) es2.size) a5 (Go.ChangeMaps.setBlock w1 r (.mapIter (some bm2) k.gotos.length (seen.push j) es2.size)):=by
   rw [Wy];exact hg9.GO hβ2 hm KX.2.1 hd1 hd2 hh1.it
  refine wp_seq (wp_region_list (hx1.lZ da (f0:=3000) KX.2.2 (by kernel_rfl) (dj t6 t15 f x k k1) hkp fun a6 W6 hx2=>?_))
  rw [Wy] at hx2
  obtain ⟨D3,β3,vs3,o3,n3,he3,hβ3,hbn3,hg10,he1,he2'⟩:=hx2.g
  obtain ⟨l1,l2,l3,l4,l5⟩:=ic he3
  have h212:a6.eval (.tmp 212)=.bool (XM k x && (decide (f<0) || decide (Lh k x.2<Lh k f))):=hg10.tmps 212 _ l1
  have hst:I0 k f x=if (XM k x && (decide (f<0) || decide (Lh k x.2<Lh k f)))=true then x.2 else f:=rfl
  have hfin: ∀ a' W',cq w0 F D0 β1 t6 t15 (I0 k f x) k k1 r (.mapIter (some bm2) k.gotos.length (seen.push j) es2.size) a' W'->Exit.inBlock 3 Q .normal a' W':=fun a' W' h=>by
   rw [<-hbm] at h
   exact hmore j x hx hns a' W' es2.size (by omega) h
  cases hb:(XM k x && (decide (f<0) || decide (Lh k x.2<Lh k f))) with
  | true=>
   rw [hb] at h212 hst
   rw [if_pos rfl] at hst
   refine wp_cond_true h212 (wp_region_list ?_)
   rw [XH]
   refine Cm Tryz.AH (s:=XL vs3 o3 n3) hg10 bt.2 bt.1 (by show 213<246;omega) l2 fun a7 hg11=>?_
   refine Cm Tryz.AH hg11 bu.2 bu.1 (by show 16<246;omega) l3 fun a8 hg12=>?_
   unfold wpList
   obtain ⟨m2,hm2⟩:=FJ l4
   refine hfin a8 W6 ?_
   rw [hst]
   exact hg12.GO hβ3 hm2 KX.1 he1 he2' hx2.it
  | false=>
   rw [hb] at h212 hst
   rw [if_neg (by simp)] at hst
   refine wp_cond_false h212 (wp_skip ?_)
   obtain ⟨m2,hm2⟩:=FJ l5
   refine hfin a6 W6 ?_
   rw [hst]
   exact hg10.GO hβ3 hm2 KX.1 he1 he2' hx2.it
end
end Go.Proofs
namespace Go.Proofs
open Go Go.En Go.RowKit
section
variable {w0:World} {F D0:Nat->Prop} {β1:Nat->Nm} {t6:List Int} {t15:Int} {k:CK} {k1:CT} {r:Nat}
def S2 (L:Nat) (seen:Array Nat):Nat:=((List.range L).filter fun j=>!seen.contains j).length
theorem Oe (hkp:BS En.Dop.D4 w0 F D0) (h0:w0.heap.size<=r) (hr:(β1 5).AN=r) (hp:Qw k) {Q:Exit->Act->World->Prop}
  (hdone: ∀ f,VE k (fun _=>True) f-> ∀ a' W' ob,cq w0 F D0 β1 t6 t15 f k k1 r ob a' W'->Q (.exit 2) a' W'):
  ∀ (m:Nat) (seen:Array Nat) (c0:Nat) (f:Int) (a:Act) (W:World),S2 k.gotos.length seen<m->k.gotos.length<=c0->VE k (fun j=>seen.contains j=true) f->cq w0 F D0 β1 t6 t15 f k k1 r (.mapIter (some (β1 4).AN) k.gotos.length seen c0) a W->Code.rounds Tryz.prog Qv Q m a W
 | 0,seen,c0,f,a,W,hm,hL,hI,hh=>absurd hm (Nat.not_lt_zero _)
 | m+1,seen,c0,f,a,W,hm,hL,hI,hh=>by
  rw [rounds_succ]
  refine XV hkp h0 hr hL hh (fun hall a' W' ob h=>?_) (fun j x hx hs a' W' c1 hc h=>?_)
  ·exact hdone f (hI.congr fun j hj=>iff_of_true (hall j hj) trivial) a' W' ob h
  ·refine Oe hkp h0 hr hp hdone m (seen.push j) c1 _ a' W' ?_ hc ((hI.step hp hx).congr fun i hi=>?_) h
   ·have hj:j<k.gotos.length:=(List.getElem?_eq_some_iff.1 hx).1
    have:=filter_lt (fun i=>!seen.contains i) (fun i=>!(seen.push j).contains i) (fun i hi=>by
     simp only [contains_push] at hi
     cases h:seen.contains i with
     | false=>rfl
     | true=>rw [h] at hi;cases hi) j (by simp only [hs];rfl) (by simp only [contains_push,beq_self_eq_true,Bool.or_true];rfl) (List.range k.gotos.length) (by simpa using hj)
    unfold S2 at hm ⊢
    omega
   ·rw [contains_push,Bool.or_eq_true,beq_iff_eq]
end
noncomputable abbrev db (vs:List SV) (o:List (Nat×En.Own En.Dop.D4)) (n:Nat):St En.Dop.D4:=⟨[0,6,15].zip vs,o,n,246⟩
noncomputable abbrev dc (vs:List SV) (o:List (Nat×En.Own En.Dop.D4)) (n:Nat):St En.Dop.D4:=(db vs o n).pu 16 (.v (.int .i64 (-1)))
noncomputable abbrev dd (vs:List SV) (o:List (Nat×En.Own En.Dop.D4)) (n:Nat):St En.Dop.D4:=((dc vs o n).pu 181 (.ptr 0 0)).pu 182 (.ptr 0 0)
noncomputable abbrev XK (vs:List SV) (o:List (Nat×En.Own En.Dop.D4)) (n:Nat) (q:Nat):St En.Dop.D4:=((dd vs o n).pu 183 (.ptr 0 q)).pu 184 (.Bv 13)
noncomputable abbrev ia (vs:List SV) (o:List (Nat×En.Own En.Dop.D4)) (n:Nat) (q:Nat):St En.Dop.D4:=⟨(185,.ptr n 0)::(XK vs o n q).t,o,n+1,246⟩
end Go.Proofs
namespace Go.Proofs
open Go Go.En Go.RowKit
theorem bj:(A0 Mp 0).dst=some 16/\(A0 Mp 0).guard=none:=⟨by kernel_rfl,by kernel_rfl⟩
theorem XO:(A0 DF 0).dst=some 181/\(A0 DF 0).guard=none:=⟨by kernel_rfl,by kernel_rfl⟩
theorem XP:(A0 DF 1).dst=some 182/\(A0 DF 1).guard=none:=⟨by kernel_rfl,by kernel_rfl⟩
theorem XQ:(A0 DF 2).dst=some 183/\(A0 DF 2).guard=none:=⟨by kernel_rfl,by kernel_rfl⟩
theorem XR:(A0 DF 3).dst=some 184/\(A0 DF 3).guard=none:=⟨by kernel_rfl,by kernel_rfl⟩
theorem XS:(A0 Hd 0).dst=some 214/\(A0 Hd 0).guard=none:=⟨by kernel_rfl,by kernel_rfl⟩
theorem XT:(A0 Hd 1).dst=some 215/\(A0 Hd 1).guard=none:=⟨by kernel_rfl,by kernel_rfl⟩
theorem ij {t6:List Int} {t15:Int} {k:CK} {k1:CT} {vs:List SV} {o:List (Nat×En.Own En.Dop.D4)} {n:Nat} (h:En.Spec.enc (S:=En.Dop.D4) Tryz.EA.Yq.sp (((),t6,t15,()),(k,k1,())) 2=(vs,o,n)):
  evalOp Tryz.tb (db vs o n) (A0 Mp 0).op=.val none (.v (.int .i64 (-1)))/\evalOp Tryz.tb (dc vs o n) (A0 DF 0).op=.val none (.ptr 0 0)/\evalOp Tryz.tb ((dc vs o n).pu 181 (.ptr 0 0)) (A0 DF 1).op=.val none (.ptr 0 0)/\
  evalOp Tryz.tb (dd vs o n) (A0 DF 2).op=.val none (.ptr 0 19)/\evalOp Tryz.tb ((dd vs o n).pu 183 (.ptr 0 19)) (A0 DF 3).op=.val none (.Bv 13)/\n=17/\lk o 13=some (.mp .str 0 false k.gotos)/\lk (XK vs o n 19).t 184=some (.Bv 13)/\
  (HE Qx PW 2 6 (ia vs o n 19)).map (fun z=>(z.1,lk z.2 4,lk z.2 5))=some (S5 t6 t15 (-1) k k1,some 13,some 17):=by
 cases h
 exact ⟨by kernel_rfl,by kernel_rfl,by kernel_rfl,by kernel_rfl,by kernel_rfl,by kernel_rfl,by kernel_rfl,by kernel_rfl,by kernel_rfl⟩
abbrev XJ:En.Spec:=⟨[.al 0 0,.own 0 3,.fd (.int .i64),.fd (.int .i64)],[CK.b0,CT.b1]⟩
theorem ik {t6:List Int} {t15 f:Int} {k:CK} {k1:CT} {vs:List SV} {o:List (Nat×En.Own En.Dop.D4)} {n:Nat} (h:Qx.enc (S:=En.Dop.D4) (S5 t6 t15 f k k1) 6=(vs,o,n)):
  evalOp Tryz.tb (UC vs o n) (A0 Hd 0).op=.val none (.v (.int .i64 f))/\evalOp Tryz.tb ((UC vs o n).pu 214 (.v (.int .i64 f))) (A0 Hd 1).op=.val none (.b (decide (0<=f)))/\
  lk (((UC vs o n).pu 214 (.v (.int .i64 f))).pu 215 (.b (decide (0<=f)))).t 215=some (.b (decide (0<=f)))/\
  (HE XJ [0,6,15,16] 2 2 (((UC vs o n).pu 214 (.v (.int .i64 f))).pu 215 (.b (decide (0<=f))))).map (·.1)=some (((),t6,t15,f,()),(k,k1,()))/\
  (HE Tryz.EA.WL.sp [0,6,15] 2 2 (((UC vs o n).pu 214 (.v (.int .i64 f))).pu 215 (.b (decide (0<=f))))).map (·.1)=some (((),t6,t15,()),(k,k1,())):=by
 cases h
 exact ⟨by kernel_rfl,by kernel_rfl,by kernel_rfl,by kernel_rfl,by kernel_rfl⟩
noncomputable abbrev Oc (ct:List (By En.Dop.D4)):Env En.Dop.D4:=Aj Tryz.prog 21 Tryz.tb ct Tryz.EA.p
theorem Od (ct:List (By En.Dop.D4)):(Oc ct).sz=246:=by kernel_rfl
theorem S7:Tryz.EA.WL.sp.okB 2=true/\XJ.okB 2=true:=⟨by kernel_rfl,by kernel_rfl⟩
theorem dh:Cb (AP Tryz.prog 21) Tryz.EA.Yq.key=some [.code [0,1,1,1,1,1,1,1,1,1,1,1] (.region 24 Mp false),.code [1,1,1,1,1,1,1,1,1,1,1,1] Zu]:=by kernel_rfl
theorem di:Cb (AP Tryz.prog 21) Tryz.EA.WL.key=some [.code [1,1,1,1,1,1,1,1,1,1,1,1,1,1] lS]:=by kernel_rfl
theorem Z3 {ct:List (By En.Dop.D4)} (hE:(Oc ct).Ok Tryz.prog) {mf:Int->CK->CT->Option ((En.Dop.Ae×Unit)×(CK×CT×Unit))} (hmf: ∀ f f' k k1,Lh k f=Lh k f'->mf f k k1=mf f' k k1)
  (hseg: ∀ t6 t15 f k k1,(Nv (Oc ct) 3000 UB XJ Tryz.EA.WL.sp [0,6,15,16] [0,6,15] 2 (((),t6,t15,f,()),(k,k1,()))).eval (fun _ _=>none)=(mf f k k1).bind fun y=>some (((),t6,t15,()),(y.2.1,(y.2.2.1,()))))
  {Q:Exit->Act->World->Prop} {w0:World} {F D0:Nat->Prop} {β0:Nat->Nm} {M:Nat} (t6:List Int) (t15:Int) (k:CK) (k1:CT) (y:Tryz.EA.WL.sp.D En.Dop.D4) (hkp:BS En.Dop.D4 w0 F D0) (hg:lR mf (((),t6,t15,()),(k,k1,()))=some y)
  (hv:Ic Tryz.prog Q w0 F D0 β0 M (Oc ct) Tryz.EA.WL y):Ic Tryz.prog Q w0 F D0 β0 M (Oc ct) Tryz.EA.Yq (((),t6,t15,()),(k,k1,())):=by
 unfold lR at hg
 split at hg
 case isFalse=>cases hg
 rename_i hpos
 have hp:Qw k:=fun e he=>by simpa using List.all_eq_true.1 hpos e he
 intro ks vs o n hk he
 have hk:Cb (AP Tryz.prog 21) Tryz.EA.Yq.key=some ks:=hk
 rw [dh] at hk
 cases hk
 have he:En.Spec.enc (S:=En.Dop.D4) Tryz.EA.Yq.sp (((),t6,t15,()),(k,k1,())) 2=(vs,o,n):=he
 obtain ⟨s0,s1,s2,s3,s4,hn,ho13,h184,hlook⟩:=ij he
 intro D β a W hβ0 hG
 have hG:G w0 F D0 D (db vs o n) (· <n) β a W:=hG
 have hβ0: ∀ i,i<2->β i=β0 i:=hβ0
 show (Code.region 24 Mp false).wpIn Fence.wide 0 Tryz.prog (after Fence.wide Tryz.prog M [.code Zu] Q) a W
 refine wpIn_wide.2 (wp_region_list ?_)
 rw [XB]
 refine Cm Tryz.AH hG bj.2 bj.1 (by show 16<246;omega) s0 fun a1 g1=>?_
 unfold wpList
 show Zu.wpIn Fence.wide 0 Tryz.prog Q a1 W
 refine wpIn_wide.2 ?_
 rw [dZ]
 refine wp_seq (wp_seq (wp_region_list ?_))
 rw [XC]
 refine Cm Tryz.AH g1 XO.2 XO.1 (by show 181<246;omega) s1 fun a2 g2=>?_
 refine Cm Tryz.AH g2 XP.2 XP.1 (by show 182<246;omega) s2 fun a3 g3=>?_
 refine Cm Tryz.AH g3 XQ.2 XQ.1 (by show 183<246;omega) s3 fun a4 g4=>?_
 refine Cm Tryz.AH g4 XR.2 XR.1 (by show 184<246;omega) s4 fun a5 g5=>?_
 have g5:G w0 F D0 D (XK vs o n 19) (· <n) β a5 W:=g5
 obtain ⟨bm,hb13,hM⟩:=g5.gh.own 13 _ ho13
 obtain ⟨es,hes,hsz,hel⟩:=S6 hM
 have e184:a5.eval (.tmp 184)=.map (some bm):=by
  have:=g5.tmps 184 _ h184
  show a5.tmps.getD 184 undef=_
  rw [this];simp [SV.den,Nm.AN,hb13]
 have hT:=AY (d:=.map 9 3) Tryz.AH (T:=65) (by kernel_rfl)
 simp only [TD.ok] at hT
 have hrun:=run_range_map (P:=Tryz.prog) W 65 _ _ bm es es.size hT hes
 unfold wpList
 rw [if_pos (by simp [Region.wanted,PV.2.2])]
 refine .inl (An (v:=.pointer (some ⟨W.heap.size,0,none⟩)) (w':=W.alloc (.mapIter (some bm) es.size #[] es.size)) (by simp only [execOp,PV.1,e184,Sem.run_bind,hrun,Result.andThen_ok,Sem.run_pure]) ?_)
 rw [PV.2.1]
 unfold wpList
 -- the iterator's block has a name
 let β':Nat->Nm:=fun i=>if i=17 then ⟨some W.heap.size,0,0,undef⟩ else β i
 have hβ': ∀ i,i<n->β i=β' i:=fun i hi=>by simp only [β'];rw [if_neg (by omega)]
 have hgh:GH w0 F D0 D o (· <n) β W:=g5.gh
 have g6:G w0 F D0 D (ia vs o n 19) (· <n+1) β' (a5.put (some 185) (.pointer (some ⟨W.heap.size,0,none⟩))) (W.alloc (.mapIter (some bm) es.size #[] es.size)):=by
  refine ⟨g5.defers,by rw [Hx];exact g5.size,fun t v ht=>?_,fun t v ht=>?_,((hgh.step ((Below.refl _ W).alloc (Nat.le_refl _) _)).congr hβ').mono fun i hi=>Nat.lt_succ_of_lt hi⟩
  ·have ht:lk ((185,SV.ptr n 0)::(XK vs o n 19).t) t=some v:=ht
   rw [AI] at ht
   split at ht
   ·rename_i e;subst e;cases ht;exact ⟨by show 185<246;omega,by show n<n+1;omega⟩
   ·obtain ⟨q1,q2⟩:=g5.Gc t v ht
    exact ⟨q1,Am (fun i hi=>Nat.lt_succ_of_lt hi) q2⟩
  ·have ht:lk ((185,SV.ptr n 0)::(XK vs o n 19).t) t=some v:=ht
   rw [AI] at ht
   split at ht
   ·rename_i e;subst e;cases ht
    rw [J5 (by rw [g5.size];show 185<246;omega)]
    simp only [SV.den,β',hn,if_true,Nm.AN,Option.getD_some]
   ·rename_i hne
    obtain ⟨q1,q2⟩:=g5.Gc t v ht
    rw [GV hne,g5.tmps t v ht]
    exact CF hβ' v q2
 obtain ⟨⟨y0,m⟩,hl1,hl2⟩:=Option.map_eq_some_iff.1 hlook
 simp only [Prod.mk.injEq] at hl2
 obtain ⟨rfl,hm4,hm5⟩:=hl2
 have hclear: ∀ i b,lk o i=some b->¬ (β' i).has W.heap.size:=fun i b hi hk=>by
  have hin:i<n:=(hgh.Bk i b hi).1
  rw [<-hβ' i hin] at hk
  exact Nat.lt_irrefl _ (hgh.lt i b _ hi hk)
 have hDn:¬ D W.heap.size:=fun hd=>Nat.lt_irrefl _ (hgh.C0 _ hd)
 obtain ⟨β1,b1,b2,hx⟩:=g6.hx (by omega) hl1 KX.1 hclear hDn (heap_alloc_new W _)
 have hb4:(β1 4).AN=bm:=by
  rw [b2 4 (by omega) 13 hm4]
  show (β' 13).AN=bm
  rw [<-hβ' 13 (by omega)]
  simp [Nm.AN,hb13]
 have hb5:(β1 5).AN=W.heap.size:=by
  rw [b2 5 (by omega) 17 hm5]
  simp [β',Nm.AN]
 have hb01: ∀ i,i<2->β1 i=β0 i:=fun i hi=>by rw [b1 i hi,<- hβ' i (by omega),hβ0 i hi]
 have h0:w0.heap.size<=W.heap.size:=hgh.fr.size
 have hx:cq w0 F D0 β1 t6 t15 (-1) k k1 W.heap.size (.mapIter (some (β1 4).AN) k.gotos.length #[] k.gotos.length) (a5.put (some 185) (.pointer (some ⟨W.heap.size,0,none⟩))) (W.alloc (.mapIter (some bm) es.size #[] es.size)):=by
  rw [hb4,<- hsz];exact hx
 refine wp_block (wp_loop_rounds (S2 k.gotos.length #[]+1) (Oe hkp h0 hb5 hp (fun f hI a' W' ob hh=>?_) _ _ _ _ _ _ (Nat.lt_succ_self _) (Nat.le_refl _) (.inl ⟨rfl,fun j x hj=>absurd hj (by simp)⟩) hx))
 -- all have come
 show (Code.seq (.seq (.region 30 Hd false) (.cond (.tmp 215) (.region 31 UB false) .skip)) lS).wp Tryz.prog Q a' W'
 have huq:=(XU hp).uniq hp hI
 obtain ⟨D2,β2,vs2,o2,n2,he2,hβ2,hbn2,hg2,hd1,hd2⟩:=hh.g
 obtain ⟨z0,z1,z2,z3,z4⟩:=ik he2
 have hend: ∀ (y':Tryz.EA.WL.sp.D En.Dop.D4) a'' W'' ob',y'=y->HX En.Dop.D4 w0 F D0 Tryz.EA.WL.sp [0,6,15] 2 β0 246 y' W.heap.size ob' a'' W''->lS.wp Tryz.prog Q a'' W'':=fun y' a'' W'' ob' hy h=>by
  subst hy
  obtain ⟨D3,β3,vs3,o3,n3,he3,hβ3,hbn3,hg3,_,_⟩:=h.g
  have:=hv _ vs3 o3 n3 di he3 D3 β3 a'' W'' hβ3 hg3
  exact wpIn_wide.1 this
 refine wp_seq (wp_seq (wp_region_list ?_))
 rw [XI]
 refine Cm Tryz.AH (s:=UC vs2 o2 n2) hg2 XS.2 XS.1 (by show 214<246;omega) z0 fun a6 g7=>?_
 refine Cm Tryz.AH g7 XT.2 XT.1 (by show 215<246;omega) z1 fun a7 g8=>?_
 unfold wpList
 have e215:a7.eval (.tmp 215)=.bool (decide (0<=f)):=g8.tmps 215 _ z2
 have hb2: ∀ i,i<2->β2 i=β0 i:=fun i hi=>by rw [hβ2 i (by omega),hb01 i hi]
 cases hf:decide (0<=f) with
 | true=>
  rw [hf] at e215
  refine wp_cond_true e215 (wp_region_list ?_)
  obtain ⟨m3,hm3⟩:=FJ z3
  have hx3:=g8.GO hb2 hm3 S7.2 hd1 hd2 hh.it
  rcases huq with ⟨e1,e2⟩|⟨e1,e2,e3⟩
  ·rw [e1] at e2;subst e2;simp at hf
  rw [if_pos (by simpa using e1)] at hg
  obtain ⟨v,hv1,hv2⟩:=Option.bind_eq_some_iff.1 hg
  rw [hmf _ _ _ k1 e3] at hv1
  have hs:=hseg t6 t15 f k k1
  rw [hv1] at hs
  have hx3:HX En.Dop.D4 w0 F D0 XJ [0,6,15,16] 2 β0 (Oc ct).sz (((),t6,t15,f,()),(k,k1,())) W.heap.size ob a7 W':=by rw [Od];exact hx3
  refine hx3.lZ hE (f0:=3000) S7.1 (by kernel_rfl) hs hkp fun a8 W8 h8=>?_
  rw [Od] at h8
  exact hend _ a8 W8 _ (Option.some.inj hv2) h8
 | false=>
  rw [hf] at e215
  refine wp_cond_false e215 (wp_skip ?_)
  obtain ⟨m3,hm3⟩:=FJ z4
  have hx3:=g8.GO hb2 hm3 S7.1 hd1 hd2 hh.it
  have hfirst:¬ (0:Int)<=Li k:=by
   rcases huq with ⟨e1,e2⟩|⟨e1,e2,e3⟩
   ·omega
   ·simp [e2] at hf
  rw [if_neg (by simpa using hfirst)] at hg
  exact hend _ a7 W' _ (Option.some.inj hg) hx3
end Go.Proofs
set_option maxHeartbeats 4000000
namespace Go.Proofs.Tryz
open Go Go.En
end Go.Proofs.Tryz
namespace Go.Proofs.Tryz
open Go Go.En
abbrev KL.q3:Cut:=⟨[[0,0,0,0,0,1,0,1,1],[0,1,0,0,0,1,0,1,1],[0,1,0,0,1,0,1,1],[2,0,0,1,0,1,1],[1,0],[0,1,1,1]],[1,2],1,⟨[.al 0 0,.fd (.int .i64)],[CT.b0]⟩⟩
def KL.p:Ai:=⟨[(3,KL.q3)],0,⟨[],[]⟩,⟨[.al 0 0],[CT.b0]⟩,false,[],[]⟩
theorem KL.ok:AG Dop.D4 prog 15 KL.p=true:=by kernel_rfl
abbrev HS.q5:Cut:=⟨[[0,0,0,0,1,0,1,1,1,1],[0,1,0,0,1,0,1,1,1,1],[2,0,0,1,0,1,1,1,1],[1,0],[0,1,1,1,1,1]],[2,5,6,30,31,32],4,⟨[.al 1 0,.al 2 0,.rw 0,.rw 0,.fd (.int .i64),.fd (.int .i64)],[⟨0,0,[.own 0 3],true⟩,⟨1,35,[.own 11 67,.own 12 51,.fd (.int .i64),.own 5 73],false⟩,CH.b2,⟨3,101,[.own 6 95,.mp (.str) 17 false],false⟩]⟩⟩
abbrev HS.nD:Cut:=⟨[[0,0,0,0,1,0,1,1,1,1,1],[0,1,0,0,1,0,1,1,1,1,1],[2,0,0,1,0,1,1,1,1,1],[1,3],[0,1,1,1,1,1,1]],[2,5,60,61,62],3,⟨[.al 0 0,.al 1 0,.own 0 3,.fd (.int .i64),.fd (.int .i64)],[⟨0,35,[.own 11 67,.own 12 51,.fd (.int .i64),.own 5 73],false⟩,CH.b1,CT.b2]⟩⟩
abbrev HS.nF:Cut:=⟨[[0,0,0,1,1,1,1,1,1,1,1],[0,1,0,1,1,1,1,1,1,1,1],[0,1,1,1,1,1,1,1,1,1]],[2,5],3,⟨[.al 0 0,.al 1 0],[⟨0,35,[.own 11 67,.own 12 51,.fd (.int .i64),.own 5 73],false⟩,CH.b1,CT.b2]⟩⟩
def HS.p:Ai:=⟨[(5,HS.q5),(17,HS.nD),(26,HS.nF)],0,⟨[.st 7],[]⟩,⟨[.st 13,.fd (.int .i64),.fd (.int .i64)],[]⟩,false,[(1,⟨[(0,false),(1,false),(2,false),(3,false),(4,false),(5,true),(6,false),(7,true)],[1000002],[0,0,0,4,0,31,63,127],false⟩),(27,⟨[(0,true),(1,true),(2,true),(3,true),(4,false),(5,true),(6,true),(7,true),(8,false),(9,false),(10,true),(11,true)],[1000002],[0,0,2,6,14,0,32,96,224,1,543,2047],false⟩)],[]⟩
theorem HS.ok:AG Dop.D4 prog 9 HS.p=true:=by kernel_rfl
def m18.p:Ai:=⟨[],0,⟨[.fd .str],[]⟩,⟨[.st 13,.fd (.int .i64),.fd (.int .i64)],[]⟩,false,[],[]⟩
theorem m18.ok:AG Dop.D4 prog 6 m18.p=true:=by kernel_rfl
end Go.Proofs.Tryz
namespace Go.Proofs
open Go Go.En
abbrev ER:Type:=En.Dop.JM×List (Int)×Int×List (Int)×List (Int)×Int×Int×Int×Int×Unit×Unit
abbrev ER.p (k:ER):En.Dop.JM:=k.1
abbrev ER.mem (k:ER):List (Int):=k.2.1
abbrev ER.ZA (k:ER) (v:List (Int)):ER:=(k.1,v,k.2.2)
abbrev ER.sp (k:ER):Int:=k.2.2.1
abbrev ER.ZB (k:ER) (v:Int):ER:=(k.1,k.2.1,v,k.2.2.2)
abbrev ER.input (k:ER):List (Int):=k.2.2.2.1
abbrev ER.Uz (k:ER) (v:List (Int)):ER:=(k.1,k.2.1,k.2.2.1,v,k.2.2.2.2)
abbrev ER.out (k:ER):List (Int):=k.2.2.2.2.1
abbrev ER.jh (k:ER) (v:List (Int)):ER:=(k.1,k.2.1,k.2.2.1,k.2.2.2.1,v,k.2.2.2.2.2)
abbrev ER.fuel (k:ER):Int:=k.2.2.2.2.2.1
abbrev ER.fK (k:ER) (v:Int):ER:=(k.1,k.2.1,k.2.2.1,k.2.2.2.1,k.2.2.2.2.1,v,k.2.2.2.2.2.2)
abbrev ER.end_ (k:ER):Int:=k.2.2.2.2.2.2.1
abbrev ER.fJ (k:ER) (v:Int):ER:=(k.1,k.2.1,k.2.2.1,k.2.2.2.1,k.2.2.2.2.1,k.2.2.2.2.2.1,v,k.2.2.2.2.2.2.2)
abbrev ER.code (k:ER):Int:=k.2.2.2.2.2.2.2.1
abbrev ER.fI (k:ER) (v:Int):ER:=(k.1,k.2.1,k.2.2.1,k.2.2.2.1,k.2.2.2.2.1,k.2.2.2.2.2.1,k.2.2.2.2.2.2.1,v,k.2.2.2.2.2.2.2.2)
abbrev ER.b0:En.Gh:=⟨0,49,[.st 13,.own 0 3,.st 0,.fd (.sl 3),.own 3 5,.st 0,.st 0,.st 0,.st 0,.hm],false⟩
abbrev ER.b1:En.Gh:=⟨1,49,[.st 13,.own 0 3,.st 0,.fd (.sl 3),.own 3 5,.st 0,.st 0,.st 0,.st 0,.hm],false⟩
abbrev ER.b2:En.Gh:=⟨2,49,[.st 13,.own 0 3,.st 0,.fd (.sl 3),.own 3 5,.st 0,.st 0,.st 0,.st 0,.hm],false⟩
abbrev EF:Type:=En.Dop.Dc×List (Int)×Int×Int×List UInt8×Int×Int×Unit
abbrev EF.Al (k:EF):List (Int):=k.2.1
abbrev EF.Te (k:EF) (v:List (Int)):EF:=(k.1,v,k.2.2)
abbrev EF.base (k:EF):Int:=k.2.2.1
abbrev EF.told (k:EF):Int:=k.2.2.2.1
abbrev EF.Tf (k:EF) (v:Int):EF:=(k.1,k.2.1,k.2.2.1,v,k.2.2.2.2)
abbrev EF.nS (k:EF):List UInt8:=k.2.2.2.2.1
abbrev EF.ji (k:EF) (v:List UInt8):EF:=(k.1,k.2.1,k.2.2.1,k.2.2.2.1,v,k.2.2.2.2.2)
abbrev EF.key (k:EF):Int:=k.2.2.2.2.2.1
abbrev EF.FY (k:EF):Int:=k.2.2.2.2.2.2.1
abbrev EF.QN (k:EF) (v:Int):EF:=(k.1,k.2.1,k.2.2.1,k.2.2.2.1,k.2.2.2.2.1,k.2.2.2.2.2.1,v,k.2.2.2.2.2.2.2)
abbrev EF.b1:En.Gh:=⟨1,81,[.st 11,.own 0 3,.st 0,.st 0,.st 1,.st 0,.st 0],false⟩
abbrev EF.b2:En.Gh:=⟨2,81,[.st 11,.own 0 3,.st 0,.st 0,.st 1,.st 0,.st 0],false⟩
end Go.Proofs
namespace Go.Proofs.Tryz
open Go Go.En
def YH.p:Ai:=⟨[],1,⟨[.st 11,.al 0 0],[⟨0,9,[.st 1],false⟩]⟩,⟨[.fd .bool],[⟨0,9,[.fd .str],false⟩]⟩,true,[],[]⟩
theorem YH.ok:AG Dop.D4 prog 25 YH.p=true:=by kernel_rfl
abbrev BQ.q2:Cut:=⟨[[0,0,0,0,1,0,1],[0,1,0,0,1,0,1],[2,0,0,1,0,1],[1,0],[0,1,1]],[0,1,7,8],1,⟨[.fd (.sl 11),.fn 25 [(0,0)],.fd (.int .i64),.fd (.int .i64)],[⟨0,9,[.fd .str],false⟩]⟩⟩
def BQ.p:Ai:=⟨[(2,BQ.q2)],1,⟨[.fd (.sl 11),.fn 25 [(0,0)]],[⟨0,9,[.st 1],false⟩]⟩,⟨[.fd (.int .i64)],[⟨0,9,[.fd .str],false⟩]⟩,true,[],[]⟩
theorem BQ.ok:AG Dop.D4 prog 24 BQ.p=true:=by kernel_rfl
def US.p:Ai:=⟨[],0,⟨[.st 13,.fd .str],[]⟩,⟨[.fd (.int .i64)],[]⟩,true,[],[]⟩
theorem US.ok:AG Dop.D4 prog 11 US.p=true:=by kernel_rfl
def NP.p:Ai:=⟨[],1,⟨[.al 0 0,.fd (.int .i64),.fd (.int .i64)],[ER.b0]⟩,⟨[.fd (.int .i64)],[ER.b0]⟩,false,[],[]⟩
theorem NP.ok:AG Dop.D4 prog 12 NP.p=true:=by kernel_rfl
def NC.p:Ai:=⟨[],0,⟨[.st 13,.fd (.int .i64)],[]⟩,⟨[.st 5],[]⟩,true,[],[]⟩
theorem NC.ok:AG Dop.D4 prog 110 NC.p=true:=by kernel_rfl
abbrev C6.q3:Cut:=⟨[[0,0,0,0,1,0,1,1],[0,1,0,0,1,0,1,1],[2,0,0,1,0,1,1],[1,0],[0,1,1,1]],[1,2,5,9,10],1,⟨[.fd (.int .i64),.al 0 0,.own 0 3,.fd (.int .i64),.fd (.int .i64)],[⟨0,35,[.st 13],false⟩]⟩⟩
def C6.p:Ai:=⟨[(3,C6.q3)],0,⟨[.st 13,.fd (.int .i64)],[]⟩,⟨[.own 0 3],[]⟩,true,[],[]⟩
theorem C6.ok:AG Dop.D4 prog 89 C6.p=true:=by kernel_rfl
abbrev Bp.q9:Cut:=⟨[[0,0,0,1,1,1,0,1,0,1,1,1],[0,1,0,1,1,1,0,1,0,1,1,1],[1,0],[0,1,1,1,1]],[3,5,7],5,⟨[.al 2 0,.al 3 0,.al 4 0],[ER.b0,EF.b1,⟨2,45,[.al 0 0],false⟩,⟨3,79,[.al 1 0],false⟩,⟨4,73,[.st 5],false⟩]⟩⟩
abbrev Bp.Us:Cut:=⟨[[0,0,1,1,1,1,0,1,0,1,1,1],[0,1,1,1,1,1,0,1,0,1,1,1],[1,0],[0,1,1,1,1]],[3,5,7,19],5,⟨[.al 2 0,.al 3 0,.al 4 0,.fd (.int .i64)],[ER.b0,EF.b1,⟨2,45,[.al 0 0],false⟩,⟨3,79,[.al 1 0],false⟩,⟨4,73,[.st 5],false⟩]⟩⟩
def Bp.p:Ai:=⟨[(9,Bp.q9),(10,Bp.Us)],2,⟨[.al 0 0,.fd (.int .i64),.al 1 0],[ER.b0,EF.b1]⟩,⟨[.fd .bool],[ER.b0,EF.b1]⟩,false,[(6,⟨[(0,false),(1,true),(2,true),(3,false),(4,true),(5,true),(6,true),(7,false),(8,false),(9,true),(10,true),(11,false),(12,true),(13,true),(14,true),(15,false),(16,true),(17,false),(18,false),(19,false),(20,true),(21,true)],[2000003,2000005],[0,1,3,7,15,31,63,127,63,319,831,1855,4095,8191,16383,32767,32767,98303,32767,524287,1048575,2097151],false⟩),(9,⟨[(0,false),(1,true),(2,true),(3,false),(4,true),(5,true),(6,true),(7,false),(8,true),(9,true),(10,true),(11,true),(12,false),(13,false),(14,true),(15,true),(16,false),(17,true),(18,true),(19,true),(20,false),(21,true),(22,true),(23,false),(24,true),(25,true),(26,true),(27,false),(28,true),(29,true),(30,true),(31,true),(32,false),(33,true),(34,false),(35,false),(36,false),(37,true),(38,true)],[2000003,2000005],[0,1,3,7,15,31,63,127,255,511,1023,2047,4095,2047,10239,26623,59391,131071,262143,524287,1048575,2097151,4194303,8388607,16777215,33554431,67108863,134217727,268435455,536870911,1073741823,2147483647,4294967295,4294967295,12884901887,4294967295,68719476735,137438953471,274877906943],false⟩),(20,⟨[(0,false),(1,true),(2,true),(3,false),(4,true),(5,false),(6,false),(7,true),(8,false),(9,true)],[2000003,2000005],[0,1,3,7,0,16,63,0,255,511],true⟩)],[]⟩
theorem Bp.ok:AG Dop.D4 prog 48 Bp.p=true:=by kernel_rfl
def Cp.p:Ai:=⟨[],4,⟨[.own 0 3,.fn 90 [(0,0),(2,0)]],[⟨0,45,[.al 1 0],false⟩,ER.b1,⟨2,79,[.al 3 0],false⟩,⟨3,81,[.st 11,.own 0 3,.st 0,.st 0,.st 1,.st 0,.st 0],false⟩]⟩,⟨[.fd .bool],[⟨0,45,[.al 1 0],false⟩,ER.b1,⟨2,79,[.al 3 0],false⟩,⟨3,81,[.st 11,.own 0 3,.st 0,.st 0,.st 1,.st 0,.st 0],false⟩]⟩,false,[],[]⟩
theorem Cp.ok:AG Dop.D4 prog 88 Cp.p=true:=by kernel_rfl
abbrev Ah.q2:Cut:=⟨[[0,0,0,0,1,0,1],[0,1,0,0,1,0,1],[2,0,0,1,0,1],[1,0],[0,1,1]],[0,1,7,8],4,⟨[.own 0 3,.fn 90 [(0,0),(2,0)],.fd (.int .i64),.fd (.int .i64)],[⟨0,45,[.al 1 0],false⟩,ER.b1,⟨2,79,[.al 3 0],false⟩,⟨3,81,[.st 11,.own 0 3,.st 0,.st 0,.st 1,.st 0,.st 0],false⟩]⟩⟩
def Ah.p:Ai:=⟨[(2,Ah.q2)],4,⟨[.own 0 3,.fn 90 [(0,0),(2,0)]],[⟨0,45,[.al 1 0],false⟩,ER.b1,⟨2,79,[.al 3 0],false⟩,⟨3,81,[.st 11,.own 0 3,.st 0,.st 0,.st 1,.st 0,.st 0],false⟩]⟩,⟨[.fd (.int .i64)],[⟨0,45,[.al 1 0],false⟩,ER.b1,⟨2,79,[.al 3 0],false⟩,⟨3,81,[.st 11,.own 0 3,.st 0,.st 0,.st 1,.st 0,.st 0],false⟩]⟩,false,[],[]⟩
theorem Ah.ok:AG Dop.D4 prog 109 Ah.p=true:=by kernel_rfl
def LW.p:Ai:=⟨[],4,⟨[.fd (.int .i64),.al 0 0,.al 2 0],[⟨0,45,[.al 1 0],false⟩,ER.b1,⟨2,79,[.al 3 0],false⟩,⟨3,81,[.st 11,.own 0 3,.st 0,.st 0,.st 1,.st 0,.st 0],false⟩]⟩,⟨[.fd .bool],[⟨0,45,[.al 1 0],false⟩,ER.b1,⟨2,79,[.al 3 0],false⟩,⟨3,81,[.st 11,.own 0 3,.st 0,.st 0,.st 1,.st 0,.st 0],false⟩]⟩,false,[],[]⟩
theorem LW.ok:AG Dop.D4 prog 90 LW.p=true:=by kernel_rfl
abbrev Ct.T:Type:=(((Unit×Int×Unit×Unit)×(ER×EF×Unit))->Option ((Bool×Unit)×(ER×EF×Unit)))×(((List Int×Unit×Unit)×((Unit×Unit)×ER×(Unit×Unit)×EF×Unit))->Option ((Bool×Unit)×((Unit×Unit)×ER×(Unit×Unit)×EF×Unit)))×(((List Int×Unit×Unit)×((Unit×Unit)×ER×(Unit×Unit)×EF×Unit))->Option ((Int×Unit)×((Unit×Unit)×ER×(Unit×Unit)×EF×Unit)))×(((Int×Unit×Unit×Unit)×((Unit×Unit)×ER×(Unit×Unit)×EF×Unit))->Option ((Bool×Unit)×((Unit×Unit)×ER×(Unit×Unit)×EF×Unit)))×Unit
def FR.p:Ai:=⟨[],1,⟨[.al 0 0],[ER.b0]⟩,⟨[.fd .bool],[ER.b0]⟩,false,[],[]⟩
theorem FR.ok:AG Dop.D4 prog 23 FR.p=true:=by kernel_rfl
def Ff.p:Ai:=⟨[],0,⟨[.fd (.int .i64)],[]⟩,⟨[.fd (.int .i64)],[]⟩,true,[],[]⟩
theorem Ff.ok:AG Dop.D4 prog 174 Ff.p=true:=by kernel_rfl
def Di.p:Ai:=⟨[],0,⟨[.fd (.int .i64)],[]⟩,⟨[.fd (.int .i64),.fd .bool],[]⟩,true,[],[]⟩
theorem Di.ok:AG Dop.D4 prog 175 Di.p=true:=by kernel_rfl
abbrev D8.q3:Cut:=⟨[[0,0,1,2,0,1],[0,1,1,2,0,1],[3,0,1]],[],0,⟨[],[]⟩⟩
def D8.p:Ai:=⟨[(3,D8.q3)],0,⟨[.fd (.int .i64),.fd (.int .i64)],[]⟩,⟨[.fd (.int .i64),.fd (.int .i64),.fd .bool],[]⟩,true,[(2,⟨[(0,true),(1,true),(2,true),(3,true),(4,true),(5,true),(6,true),(7,true),(8,true)],[],[0,0,3,0,0,24,7,127,255],false⟩)],[]⟩
theorem D8.ok:AG Dop.D4 prog 176 D8.p=true:=by kernel_rfl
def G1.p:Ai:=⟨[],0,⟨[.fd .bool],[]⟩,⟨[.fd (.int .i64)],[]⟩,true,[],[]⟩
theorem G1.ok:AG Dop.D4 prog 177 G1.p=true:=by kernel_rfl
abbrev BC.nC:Cut:=⟨[[0,0,0,1,1,1,1,1,1,1,0,1,0,1,1,1],[0,1,0,1,1,1,1,1,1,1,0,1,0,1,1,1],[1,0],[0,1,1,1,1]],[0,1,2],0,⟨[.fd (.int .i64),.fd (.int .i64),.fd (.int .i64)],[]⟩⟩
abbrev BC.eu:Cut:=⟨[[0,0,0,1,1,1,1,1,1,1,1,0,1,0,1,1,1],[0,1,0,1,1,1,1,1,1,1,1,0,1,0,1,1,1],[0,1,1,1,1,1,1,1,1,1,0,1,0,1,1,1],[1,0],[0,1,1,1,1]],[0,1,2,8,19],0,⟨[.fd (.int .i64),.fd (.int .i64),.fd (.int .i64),.fn 175 [],.fd (.int .i64)],[]⟩⟩
abbrev BC.er:Cut:=⟨[[0,0,1,1,0,1,1,1,1,1,1,1,0,1,0,1,1,1],[0,1,1,1,0,1,1,1,1,1,1,1,0,1,0,1,1,1],[1,0],[0,1,1,1,1]],[9,11],0,⟨[.fd (.int .i64),.fd .bool],[]⟩⟩
abbrev BC.jZ:Cut:=⟨[[0,0,0,1,1,1,1,1,1,1,1,1,0,1,0,1,1,1],[0,1,0,1,1,1,1,1,1,1,1,1,0,1,0,1,1,1],[1,0],[0,1,1,1,1]],[0,1,2],0,⟨[.fd (.int .i64),.fd (.int .i64),.fd (.int .i64)],[]⟩⟩
abbrev BC.ja:Cut:=⟨[[0,0,1,1,1,1,1,1,1,1,1,1,0,1,0,1,1,1],[0,1,1,1,1,1,1,1,1,1,1,1,0,1,0,1,1,1],[1,0],[0,1,1,1,1]],[1,2,8,19],0,⟨[.fd (.int .i64),.fd (.int .i64),.fn 175 [],.fd (.int .i64)],[]⟩⟩
abbrev BC.lV:Cut:=⟨[[0,0,1,1,0,1,1,1,1,1,1,1,1,1,0,1,0,1,1,1],[0,1,1,1,0,1,1,1,1,1,1,1,1,1,0,1,0,1,1,1],[1,0],[0,1,1,1,1]],[12,14],0,⟨[.fd (.int .i64),.fd .bool],[]⟩⟩
def BC.p:Ai:=⟨[(12,BC.nC),(16,BC.eu),(15,BC.er),(18,BC.jZ),(22,BC.ja),(21,BC.lV)],0,⟨[.fd (.int .i64),.fd (.int .i64),.fd (.int .i64)],[]⟩,⟨[.fd (.int .i64),.fd .bool],[]⟩,true,[],[]⟩
theorem BC.ok:AG Dop.D4 prog 145 BC.p=true:=by kernel_rfl
def Jt.p:Ai:=⟨[],0,⟨[.fd .bool],[]⟩,⟨[.fd (.int .i64)],[]⟩,true,[],[]⟩
theorem Jt.ok:AG Dop.D4 prog 114 Jt.p=true:=by kernel_rfl
end Go.Proofs.Tryz
namespace Go.Proofs.Tryz
open Go Go.En
abbrev m64.q9:Cut:=⟨[[0,0,0,1,1,1,1,1,1,1,0,1],[0,1,0,1,1,1,1,1,1,1,0,1],[0,1,1,1,1,1,1,1,1,0,1],[3,0,1]],[0,7,8],3,⟨[.al 0 0,.al 1 0,.al 2 0],[ER.b0,⟨1,67,[.st 11],false⟩,EF.b2]⟩⟩
abbrev m64.Ut:Cut:=⟨[[0,0,0,1,2,0,1],[0,1,0,1,2,0,1],[0,1,1,2,0,1],[3,0,1]],[0,7,8],3,⟨[.al 0 0,.al 1 0,.al 2 0],[ER.b0,⟨1,67,[.st 11],false⟩,EF.b2]⟩⟩
def m64.p:Ai:=⟨[(9,m64.q9),(100009,m64.Ut)],1,⟨[.al 0 0,.fd (.int .i64),.fd (.sl 0)],[ER.b0]⟩,⟨[.fd (.int .i64)],[ER.b0]⟩,false,[(4,⟨[(0,true),(1,true),(2,true),(3,false),(4,true),(5,false),(6,true),(7,true),(8,true),(9,true),(10,false),(11,false),(12,true)],[],[0,1,3,7,0,16,63,0,128,384,896,1920,4095],false⟩),(6,⟨[(0,false),(1,true),(2,false),(3,false),(4,true),(5,true),(6,true),(7,false),(8,true),(9,false),(10,true)],[],[0,0,2,6,0,16,48,112,255,511,1023],false⟩),(8,⟨[(0,true),(1,true),(2,true),(3,false),(4,true),(5,false),(6,true),(7,true),(8,true)],[9],[0,1,3,7,0,16,63,127,255,511],false⟩),(11,⟨[(0,true),(1,true),(2,true),(3,false),(4,true),(5,false),(6,true),(7,true),(8,true)],[9],[0,1,3,7,0,16,63,127,255,511],false⟩)],[]⟩
theorem m64.ok:AG Dop.D4 prog 10 m64.p=true:=by kernel_rfl
def Cy.p:Ai:=⟨[],2,⟨[.al 0 0,.fd (.int .i64),.al 1 0],[ER.b0,EF.b1]⟩,⟨[.fd (.int .i64)],[ER.b0,EF.b1]⟩,false,[],[]⟩
theorem Cy.ok:AG Dop.D4 prog 22 Cy.p=true:=by kernel_rfl
abbrev BF.jZ:Cut:=⟨[[0,0,1,1,1,1,1,1,0,1,0,1],[0,1,1,1,1,1,1,1,0,1,0,1],[1,0],[0,1,1]],[0,2,4,11],3,⟨[.al 0 0,.al 1 0,.al 2 0,.fd (.int .i64)],[ER.b0,EF.b1,⟨2,73,[.st 5],false⟩]⟩⟩
abbrev BF.nK:Cut:=⟨[[0,0,0,0,1,1,1,1,1,1,1,1,1,1,1,1,1,1,1,1,1,0,1,0,1],[0,1,0,0,1,1,1,1,1,1,1,1,1,1,1,1,1,1,1,1,1,0,1,0,1],[0,1,0,1,1,1,1,1,1,1,1,1,1,1,1,1,1,1,1,1,0,1,0,1],[1,0],[0,1,1]],[0,2,4],3,⟨[.al 0 0,.al 1 0,.al 2 0],[ER.b0,EF.b1,⟨2,73,[.st 5],false⟩]⟩⟩
abbrev BF.nL:Cut:=⟨[[0,0,1,1,1,1,1,1,1,1,1,1,1,1,1,1,1,1,1,1,0,1,0,1],[0,1,1,1,1,1,1,1,1,1,1,1,1,1,1,1,1,1,1,1,0,1,0,1],[1,0],[0,1,1]],[0,2,4,11],3,⟨[.al 0 0,.al 1 0,.al 2 0,.fd (.int .i64)],[ER.b0,EF.b1,⟨2,73,[.st 5],false⟩]⟩⟩
abbrev BF.nO:Cut:=⟨[[0,0,0,0,1,0,1,1,1,1,1,1,1,1,1,1,1,1,1,1,1,1,1,1,1,1,1,0,1,0,1],[0,1,0,0,1,0,1,1,1,1,1,1,1,1,1,1,1,1,1,1,1,1,1,1,1,1,1,0,1,0,1],[2,0,0,1,0,1,1,1,1,1,1,1,1,1,1,1,1,1,1,1,1,1,1,1,1,1,0,1,0,1],[1,1],[1,0],[0,1,1]],[0,2,182,183,184],2,⟨[.al 0 0,.al 1 0,.own 0 3,.fd (.int .i64),.fd (.int .i64)],[ER.b0,EF.b1]⟩⟩
def BF.p:Ai:=⟨[(18,BF.jZ),(35,BF.nK),(38,BF.nL),(42,BF.nO)],2,⟨[.al 0 0,.st 5,.al 1 0],[ER.b0,EF.b1]⟩,⟨[.fd (.int .i64)],[ER.b0,EF.b1]⟩,false,[(30,⟨[(0,true),(1,true),(2,true),(3,false),(4,true),(5,true),(6,true),(7,true),(8,true),(9,false),(10,true),(11,false),(12,true),(13,true)],[],[0,1,3,7,15,31,63,127,255,511,63,1087,4095,8191],false⟩),(35,⟨[(0,true),(1,true),(2,true),(3,false),(4,true),(5,true),(6,true),(7,false),(8,true),(9,true),(10,true),(11,true),(12,false),(13,true),(14,true),(15,true),(16,false),(17,true),(18,true),(19,true),(20,true),(21,true),(22,true),(23,false),(24,true),(25,true),(26,true),(27,false),(28,true),(29,true),(30,true)],[],[0,1,3,7,15,31,63,127,255,511,1023,2047,4095,2047,10239,26623,59391,131071,262143,524287,1048575,2097151,4194303,8388607,16777215,33554431,67108863,134217727,268435455,536870911,1073741823],false⟩),(41,⟨[(0,true),(1,true),(2,true),(3,false),(4,true),(5,false),(6,false),(7,false),(8,true)],[],[0,1,3,7,0,16,63,127,0],true⟩)],[]⟩
theorem BF.ok:AG Dop.D4 prog 49 BF.p=true:=by kernel_rfl
abbrev BA.er:Cut:=⟨[[0,0,1,1,1,1,1,1,1,1,0,1,0,1,1,1,1],[0,1,1,1,1,1,1,1,1,1,0,1,0,1,1,1,1],[1,0],[0,1,1,1,1,1]],[3,5,7,8,28],5,⟨[.al 2 0,.al 3 0,.al 4 0,.fn 111 [(2,0),(3,0)],.fd (.int .i64)],[ER.b0,EF.b1,⟨2,45,[.al 0 0],false⟩,⟨3,79,[.al 1 0],false⟩,⟨4,73,[.st 5],false⟩]⟩⟩
abbrev BA.jb:Cut:=⟨[[0,0,1,1,1,1,1,1,1,1,1,1,1,1,0,1,0,1,1,1,1],[0,1,1,1,1,1,1,1,1,1,1,1,1,1,0,1,0,1,1,1,1],[1,0],[0,1,1,1,1,1]],[3,7,8,28],5,⟨[.al 2 0,.al 3 0,.fn 111 [(2,0),(4,0)],.fd (.int .i64)],[ER.b0,EF.b1,⟨2,45,[.al 0 0],false⟩,⟨3,73,[.st 5],false⟩,⟨4,79,[.al 1 0],false⟩]⟩⟩
abbrev BA.nJ:Cut:=⟨[[0,0,0,0,1,0,1,0,1,1,1,1,1,1,1,1,1,1,1,1,1,1,1,1,1,1,1,0,1,0,1,1,1,1],[0,1,0,0,1,0,1,0,1,1,1,1,1,1,1,1,1,1,1,1,1,1,1,1,1,1,1,0,1,0,1,1,1,1],[2,0,0,1,0,1,0,1,1,1,1,1,1,1,1,1,1,1,1,1,1,1,1,1,1,1,0,1,0,1,1,1,1],[1,1],[0,1,1,0,1,1,1,1,1,1,1,1,1,1,1,1,1,1,1,1,1,1,1,0,1,0,1,1,1,1],[1,0],[0,1,1,1,1,1]],[3,7,8,10,140,141,142],5,⟨[.al 2 0,.al 3 0,.fn 111 [(2,0),(4,0)],.own 0 3,.own 0 3,.fd (.int .i64),.fd (.int .i64)],[ER.b0,EF.b1,⟨2,45,[.al 0 0],false⟩,⟨3,73,[.st 5],false⟩,⟨4,79,[.al 1 0],false⟩]⟩⟩
def BA.p:Ai:=⟨[(15,BA.er),(23,BA.jb),(34,BA.nJ)],2,⟨[.al 0 0,.fd (.int .i64),.al 1 0],[ER.b0,EF.b1]⟩,⟨[.fd (.int .i64)],[ER.b0,EF.b1]⟩,false,[(9,⟨[(0,false),(1,true),(2,true),(3,false),(4,true),(5,false),(6,false),(7,false),(8,true)],[],[0,1,3,7,0,16,63,127,255],false⟩),(11,⟨[(0,false),(1,true),(2,true),(3,false),(4,true),(5,false),(6,true),(7,false),(8,true)],[],[0,1,3,7,0,16,63,127,255],false⟩),(18,⟨[(0,false),(1,true),(2,true),(3,false),(4,true),(5,false),(6,true),(7,false)],[8],[0,1,3,7,0,16,0,127,255],false⟩),(33,⟨[(0,false),(1,true),(2,true),(3,false),(4,true),(5,false),(6,false),(7,false),(8,true)],[],[0,1,3,7,0,16,63,127,0],true⟩),(38,⟨[(0,false),(1,false),(2,true),(3,true),(4,false),(5,true),(6,false),(7,false),(8,true),(9,false),(10,true)],[2000003,9000000],[0,0,2,6,14,0,32,126,0,511,1023],true⟩),(43,⟨[(0,false),(1,false),(2,true),(3,true),(4,false),(5,true),(6,true),(7,true)],[8],[0,0,2,6,14,30,63,127,255],false⟩),(48,⟨[(0,false),(1,false),(2,true),(3,true),(4,false),(5,true),(6,true),(7,false),(8,false),(9,true),(10,true)],[11],[0,0,2,6,14,0,32,96,254,511,1023,2047],false⟩)],[]⟩
theorem BA.ok:AG Dop.D4 prog 91 BA.p=true:=by kernel_rfl
def GS.p:Ai:=⟨[],2,⟨[.al 0 0,.st 5,.al 1 0],[ER.b0,EF.b1]⟩,⟨[.fd (.int .i64)],[ER.b0,EF.b1]⟩,false,[],[(144,[])]⟩
theorem GS.ok:AG Dop.D4 prog 112 GS.p=true:=by kernel_rfl
def EV.p:Ai:=⟨[],4,⟨[.fd (.int .i64),.al 0 0,.al 2 0],[⟨0,45,[.al 1 0],false⟩,ER.b1,⟨2,79,[.al 3 0],false⟩,⟨3,81,[.st 11,.own 0 3,.st 0,.st 0,.st 1,.st 0,.st 0],false⟩]⟩,⟨[.fd (.int .i64)],[⟨0,45,[.al 1 0],false⟩,ER.b1,⟨2,79,[.al 3 0],false⟩,⟨3,81,[.st 11,.own 0 3,.st 0,.st 0,.st 1,.st 0,.st 0],false⟩]⟩,false,[],[]⟩
theorem EV.ok:AG Dop.D4 prog 111 EV.p=true:=by kernel_rfl
def Gx.p:Ai:=⟨[],2,⟨[.al 0 0,.st 5,.al 1 0],[ER.b0,EF.b1]⟩,⟨[.fd (.int .i64)],[ER.b0,EF.b1]⟩,false,[],[]⟩
theorem Gx.ok:AG Dop.D4 prog 113 Gx.p=true:=by kernel_rfl
abbrev A7.q6:Cut:=⟨[[0,0,1,1,1],[0,1,1,1,1]],[0,2,4,7],3,⟨[.al 0 0,.al 1 0,.al 2 0,.fd (.int .i64)],[ER.b0,EF.b1,⟨2,73,[.st 5],false⟩]⟩⟩
abbrev A7.q7:Cut:=⟨[[0,0,0,0,0,1,1,1,1],[0,1,0,0,0,1,1,1,1],[1,1],[2,0,0,1,1,1,1],[1,0]],[0,2,4,7,8],3,⟨[.al 0 0,.al 1 0,.al 2 0,.fd (.int .i64),.fd .bool],[ER.b0,EF.b1,⟨2,73,[.st 5],false⟩]⟩⟩
abbrev A7.Us:Cut:=⟨[[0,0,0,1,1,0,0,0,1,1,1,1],[0,1,0,1,1,0,0,0,1,1,1,1],[0,1,1,1,0,0,0,1,1,1,1],[1,1],[2,0,0,1,1,1,1],[1,0]],[0,2,4,7,8,9],3,⟨[.al 0 0,.al 1 0,.al 2 0,.fd (.int .i64),.fd .bool,.fd (.int .i64)],[ER.b0,EF.b1,⟨2,73,[.st 5],false⟩]⟩⟩
abbrev A7.ja:Cut:=⟨[[0,0,0,1,1,1,0,1,1,0,1,1,1,1,1,0,0,0,1,1,1,1],[0,1,0,1,1,1,0,1,1,0,1,1,1,1,1,0,0,0,1,1,1,1],[1,2],[0,1,1,1,1,1,1,0,0,0,1,1,1,1],[1,1],[2,0,0,1,1,1,1],[1,0]],[10],2,⟨[.fd (.int .i64)],[ER.b0,EF.b1]⟩⟩
abbrev A7.jb:Cut:=⟨[[0,0,0,1,1,1,1,1,1,0,0,0,1,1,1,1],[0,1,0,1,1,1,1,1,1,0,0,0,1,1,1,1],[0,1,1,1,1,1,1,1,0,0,0,1,1,1,1],[1,1],[2,0,0,1,1,1,1],[1,0]],[0,2,4,7,8],3,⟨[.al 0 0,.al 1 0,.al 2 0,.fd (.int .i64),.fd .bool],[ER.b0,EF.b1,⟨2,73,[.st 5],false⟩]⟩⟩
abbrev A7.nE:Cut:=⟨[[0,0,1,1,1,1,1,1,1,0,0,0,1,1,1,1],[0,1,1,1,1,1,1,1,1,0,0,0,1,1,1,1],[1,1],[2,0,0,1,1,1,1],[1,0]],[0,2,4,7,8],3,⟨[.al 0 0,.al 1 0,.al 2 0,.fd (.int .i64),.fd .bool],[ER.b0,EF.b1,⟨2,73,[.st 5],false⟩]⟩⟩
def A7.p:Ai:=⟨[(6,A7.q6),(7,A7.q7),(10,A7.Us),(22,A7.ja),(23,A7.jb),(25,A7.nE)],2,⟨[.al 0 0,.st 5,.al 1 0],[ER.b0,EF.b1]⟩,⟨[.fd (.int .i64)],[ER.b0,EF.b1]⟩,false,[],[]⟩
theorem A7.ok:AG Dop.D4 prog 92 A7.p=true:=by kernel_rfl
def HN.p:Ai:=⟨[],2,⟨[.al 0 0,.st 5,.al 1 0],[ER.b0,EF.b1]⟩,⟨[.fd (.int .i64)],[ER.b0,EF.b1]⟩,false,[],[]⟩
theorem HN.ok:AG Dop.D4 prog 93 HN.p=true:=by kernel_rfl
abbrev BJ.T:Type:=(((Unit×Int×List Int×Unit)×(ER×Unit))->Option ((Int×Unit)×(ER×Unit)))×(((Unit×Int×Unit×Unit)×(ER×EF×Unit))->Option ((Int×Unit)×(ER×EF×Unit)))×(((Unit×Dop.AZ×Unit×Unit)×(ER×EF×Unit))->Option ((Int×Unit)×(ER×EF×Unit)))×(((Unit×Int×Unit×Unit)×(ER×EF×Unit))->Option ((Int×Unit)×(ER×EF×Unit)))×(((Unit×Dop.AZ×Unit×Unit)×(ER×EF×Unit))->Option ((Int×Unit)×(ER×EF×Unit)))×(((Int×Unit×Unit×Unit)×((Unit×Unit)×ER×(Unit×Unit)×EF×Unit))->Option ((Int×Unit)×((Unit×Unit)×ER×(Unit×Unit)×EF×Unit)))×(((Unit×Dop.AZ×Unit×Unit)×(ER×EF×Unit))->Option ((Int×Unit)×(ER×EF×Unit)))×(((Unit×Dop.AZ×Unit×Unit)×(ER×EF×Unit))->Option ((Int×Unit)×(ER×EF×Unit)))×(((Unit×Dop.AZ×Unit×Unit)×(ER×EF×Unit))->Option ((Int×Unit)×(ER×EF×Unit)))×Unit
noncomputable def BJ.ct (r:BJ.T):List (By Dop.D4):=[⟨10,m64.p.bn,m64.p.sp,m64.p.rs,m64.p.flat,.opt (r.1)⟩,⟨22,Cy.p.bn,Cy.p.sp,Cy.p.rs,Cy.p.flat,.opt (r.2.1)⟩,⟨49,BF.p.bn,BF.p.sp,BF.p.rs,BF.p.flat,.opt (r.2.2.1)⟩,⟨91,BA.p.bn,BA.p.sp,BA.p.rs,BA.p.flat,.opt (r.2.2.2.1)⟩,⟨112,GS.p.bn,GS.p.sp,GS.p.rs,GS.p.flat,.opt (r.2.2.2.2.1)⟩,⟨111,EV.p.bn,EV.p.sp,EV.p.rs,EV.p.flat,.opt (r.2.2.2.2.2.1)⟩,⟨113,Gx.p.bn,Gx.p.sp,Gx.p.rs,Gx.p.flat,.opt (r.2.2.2.2.2.2.1)⟩,⟨92,A7.p.bn,A7.p.sp,A7.p.rs,A7.p.flat,.opt (r.2.2.2.2.2.2.2.1)⟩,⟨93,HN.p.bn,HN.p.sp,HN.p.rs,HN.p.flat,.opt (r.2.2.2.2.2.2.2.2.1)⟩]
abbrev Ho.q3:Cut:=⟨[[0,0,0,0,1,0,1,1],[0,1,0,0,1,0,1,1],[2,0,0,1,0,1,1],[1,0],[0,1,1,1]],[3,6,7,22,23,24],3,⟨[.al 0 0,.al 1 0,.al 2 0,.fd (.sl 12),.fd (.int .i64),.fd (.int .i64)],[⟨0,35,[.st 13],false⟩,⟨1,25,[.fd (.int .i64),.fd (.int .i64),.own 3 5],false⟩,ER.b2]⟩⟩
def Ho.p:Ai:=⟨[(3,Ho.q3)],0,⟨[.st 13,.fd (.sl 3),.fd (.int .i64)],[]⟩,⟨[.st 19],[]⟩,false,[(1,⟨[(0,false),(1,false),(2,true),(3,false),(4,true),(5,true),(6,true),(7,true),(8,true),(9,false),(10,true)],[],[0,0,0,4,0,0,32,96,255,511,1023],false⟩),(5,⟨[(0,true),(1,true),(2,true),(3,false),(4,true),(5,false),(6,true),(7,false),(8,false)],[9],[0,1,3,7,0,16,0,64,255,511],false⟩),(10,⟨[(0,true),(1,true),(2,true),(3,false),(4,true),(5,true),(6,true),(7,false),(8,true),(9,true),(10,true),(11,false),(12,true)],[13],[0,1,3,7,0,16,48,112,0,256,768,1792,4095,8191],false⟩)],[]⟩
theorem Ho.ok:AG Dop.D4 prog 7 Ho.p=true:=by kernel_rfl
end Go.Proofs.Tryz
namespace Go.Proofs.Tryz
open Go Go.En
def RQ.p:Ai:=⟨[],0,⟨[.fd .str,.fd (.sl 3),.fd (.int .i64)],[]⟩,⟨[.st 19,.fd (.int .i64)],[]⟩,false,[],[]⟩
theorem RQ.ok:AG Dop.D4 prog 5 RQ.p=true:=by kernel_rfl
def YE.p:Ai:=⟨[],0,⟨[],[]⟩,⟨[.fd .bool],[]⟩,true,[],[]⟩
theorem YE.ok:AG Dop.D4 prog 4 YE.p=true:=by kernel_rfl
end Go.Proofs.Tryz
