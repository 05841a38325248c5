/- States by patterns, operation by operation: for a piece of a function that is gone through by hand. -/
import Derived.Test.YtpjlciengdhjoaaGreatDoorMo
import Derived.Maps.RangeRun
import Derived.Test.YtpjlciengdhjoaaGreatDoorMm
namespace Go.En
open Go.RowKit
section
variable {S:As} {P:Program} {w0:World} {F D0 D:Nat->Prop} {N:Nat->Prop} {β:Nat->Nm} {a:Act} {w:World}
theorem Zu {tb:List (Nat×TI)} (htb:Ae S P tb) {s s':St S} (hg:G w0 F D0 D s N β a w) {all:Array Oper} {o:Oper} {r:List Oper} {Q:Exit->Act->World->Prop} (hgd:o.guard=none) {c:Option Bool} {x:SV} (he:evalOp tb s o.op=.val c x) (hc:Cd c) (hp:s.put o.dst x=some s')
  (hQ: ∀ a',G w0 F D0 D s' N β a' w->wpList P all Q r a' w):wpList P all Q (o::r) a w:=by
 have h:=Bh htb hg o
 rw [he] at h
 obtain ⟨h1,h2⟩:=h hc
 unfold wpList
 rw [if_pos (by simp [Region.wanted,hgd])]
 exact .inl (Aq h1 (hQ _ (hg.put h2 hp)))
def HR (q:Spec) (ts:List Nat) (k bn:Nat) (s:St S):Option (q.D S×List (Nat×Nat)):=match F9 s ts with
 | some us=>match q.parse true us s.o (RQ k) bn with
  | some (y,ps)=>some (y,ps.m)
  | none=>none
 | none=>none
structure HX (S:As) (w0:World) (F D0:Nat->Prop) (q:Spec) (ts:List Nat) (bn:Nat) (β1:Nat->Nm) (sz:Nat) (y:q.D S) (r:Nat) (ob:Obj) (a:Act) (W:World):Prop where
 st: ∃ D β vs o n,q.enc y bn=(vs,o,n)/\(∀ i,i<bn->β i=β1 i)/\GH w0 F D0 D o (· <n) β W/\BZ (· <n) vs/\bn<=n/\(∀ (j:Nat) t v,ts[j]?=some t->vs[j]?=some v->t<sz/\a.tmps.getD t undef=v.den β)/\(∀ i b,lk o i=some b->¬ (β i).has r)/\¬ D r
 sz:a.tmps.size=sz
 df:a.defers=[]
 it:W.heap[r]?=some ob
theorem HX.g {q:Spec} {ts:List Nat} {bn sz r:Nat} {β1:Nat->Nm} {y:q.D S} {ob:Obj} (h:HX S w0 F D0 q ts bn β1 sz y r ob a w):
  ∃ D β vs o n,q.enc y bn=(vs,o,n)/\(∀ i,i<bn->β i=β1 i)/\bn<=n/\G w0 F D0 D ⟨ts.zip vs,o,n,sz⟩ (· <n) β a w/\(∀ i b,lk o i=some b->¬ (β i).has r)/\¬ D r:=by
 obtain ⟨⟨D,β,vs,o,n,he,hβ,hg,hon,hbn,hts,h1,h2⟩,hsz,hd,hit⟩:=h
 refine ⟨D,β,vs,o,n,he,hβ,hbn,⟨hd,hsz,fun t v ht=>?_,fun t v ht=>?_,hg⟩,h1,h2⟩
 ·obtain ⟨j,j1,j2⟩:=G8 ht
  exact ⟨(hts j t v j1 j2).1,A0.1 hon v (gc j2)⟩
 ·obtain ⟨j,j1,j2⟩:=G8 ht
  exact (hts j t v j1 j2).2
theorem GH.clear {W w':World} {D D':Nat->Prop} {o o':List (Nat×Own S)} {N':Nat->Prop} {β β':Nat->Nm} (k:GH W (AL o β) D D' o' N' β' w') {r:Nat} (hr:r<W.heap.size) (h1: ∀ i b,lk o i=some b->¬ (β i).has r) (h2:¬ D r):
  (∀ i b,lk o' i=some b->¬ (β' i).has r)/\¬ D' r/\w'.heap[r]?=W.heap[r]?:=by
 have hb:¬ AL o β r:=fun ⟨i,b,hi,hk⟩=>h1 i b hi hk
 refine ⟨fun i b hi hk=>?_,fun hd=>?_,k.fr.block r hr hb⟩
 ·rcases k.fresh i b r hi hk with h|h
  ·omega
  ·exact hb h
 ·rcases k.KZ r hd with h|h|h
  ·exact h2 h
  ·exact hb h
  ·omega
theorem G.hx {q:Spec} {ts:List Nat} {k bn n r:Nat} {y:q.D S} {m:List (Nat×Nat)} {s:St S} {ob:Obj} (hg:G w0 F D0 D s (· <n) β a w) (hk:k<=bn) (hl:HR q ts k bn s=some (y,m)) (hq:q.okB bn=true)
  (h1: ∀ i b,lk s.o i=some b->¬ (β i).has r) (h2:¬ D r) (hit:w.heap[r]?=some ob):
  ∃ β1:Nat->Nm,(∀ i,i<k->β1 i=β i)/\(∀ i,i<bn-> ∀ j,lk m i=some j->β1 i=β j)/\HX S w0 F D0 q ts bn β1 s.sz y r ob a w:=by
 unfold HR at hl
 split at hl
 case h_2=>cases hl
 rename_i us hus
 split at hl
 case h_2=>cases hl
 rename_i y' ps hp
 cases hl
 have hr:r<w.heap.size:=(Array.getElem?_eq_some_iff.1 hit).1
 rcases he2:q.enc y bn with ⟨vs',o',n'⟩
 obtain ⟨β'',b1,b2,b3,b4,b5,_,_,b8,_⟩:=Spec.CO hg.gh.base hp hq he2
 obtain ⟨t1,t2,t3⟩:=FN hg hus
 have hlv:vs'.length=us.length:=by have:=congrArg List.length b3;rw [AI,AI] at this;exact this.symm
 obtain ⟨c1,c2,c3⟩:=GH.clear b2 hr h1 h2
 refine ⟨β'',fun i hi=>b1 i (dg hi hk) i (b8 i i (G7 hi)),b1,⟨⟨_,β'',vs',o',n',he2,fun i hi=>rfl,hg.gh.comp b2,b4,b5,fun j t v hj hv=>?_,c1,c2⟩,hg.size,hg.defers,hit⟩⟩
 have hju:j<us.length:=by rw [<-hlv];exact (List.getElem?_eq_some_iff.1 hv).1
 obtain ⟨t4,t5⟩:=t3 j t _ hj (co hju)
 refine ⟨t4,?_⟩
 rw [t5]
 have h6:=congrArg (fun l:List Value=>l[j]?) b3
 simp only [CM,co hju,hv,Option.map_some,am] at h6
 exact h6
theorem HX.re {q:Spec} {ts:List Nat} {bn sz r:Nat} {β1 β2:Nat->Nm} {y:q.D S} {ob:Obj} (h:HX S w0 F D0 q ts bn β1 sz y r ob a w) (he: ∀ i,i<bn->β1 i=β2 i):HX S w0 F D0 q ts bn β2 sz y r ob a w:=by
 obtain ⟨⟨D,β,vs,o,n,h1,h2,h3⟩,hsz,hd,hit⟩:=h
 exact ⟨⟨D,β,vs,o,n,h1,fun i hi=>(h2 i hi).trans (he i hi),h3⟩,hsz,hd,hit⟩
theorem G.GV {q:Spec} {ts:List Nat} {bn n r:Nat} {β1:Nat->Nm} {y:q.D S} {m:List (Nat×Nat)} {s:St S} {ob:Obj} (hg:G w0 F D0 D s (· <n) β a w) (hβ: ∀ i,i<bn->β i=β1 i) (hl:HR q ts bn bn s=some (y,m)) (hq:q.okB bn=true)
  (h1: ∀ i b,lk s.o i=some b->¬ (β i).has r) (h2:¬ D r) (hit:w.heap[r]?=some ob):HX S w0 F D0 q ts bn β1 s.sz y r ob a w:=by
 obtain ⟨β2,k1,_,k3⟩:=hg.hx (Nat.le_refl _) hl hq h1 h2 hit
 exact k3.re fun i hi=>(k1 i hi).trans (hβ i hi)
theorem HX.mw {E:Env S} (hE:E.Ok P) {f0:Nat} {all:Array Oper} {sp qe:Spec} {ts ts':List Nat} {bn r:Nat} {β1:Nat->Nm} {ob:Obj} (hqe:qe.okB bn=true) (hlen:ts'.length=qe.as.length) {x:sp.D S} {y:qe.D S}
  (hev:(OH E f0 all sp qe ts ts' bn x).eval (fun _ _=>none)=some y) (hkp:CF S w0 F D0) (hh:HX S w0 F D0 sp ts bn β1 E.sz x r ob a w) {Q:Exit->Act->World->Prop}
  (hQ: ∀ a' W',HX S w0 F D0 qe ts' bn β1 E.sz y r ob a' W'->Q .normal a' W'):wpList P all Q all.toList a w:=by
 obtain ⟨⟨D,β,vs,o,n,he,hβ,hg,hon,hbn,hts,h1,h2⟩,hsz,hd,hit⟩:=hh
 have hr:r<w.heap.size:=(Array.getElem?_eq_some_iff.1 hit).1
 refine OI hE hqe hlen hev (hg.keeps hkp) ⟨⟨D,β,vs,o,n,he,hβ,hg.base,hon,hbn,hts⟩,hsz⟩ fun a' W' hd' hh'=>hQ a' W' ?_
 obtain ⟨⟨D',β',vs',o',n',he',hβ',hg',hon',hbn',hts'⟩,hsz'⟩:=hh'
 obtain ⟨c1,c2,c3⟩:=GH.clear hg' hr h1 h2
 exact ⟨⟨D',β',vs',o',n',he',hβ',hg.comp hg',hon',hbn',hts',c1,c2⟩,hsz',hd'.trans hd,c3.trans hit⟩
theorem HX.LL {q:Spec} {ts:List Nat} {bn sz r:Nat} {β1:Nat->Nm} {y:q.D S} {ob:Obj} (h:HX S w0 F D0 q ts bn β1 sz y r ob a w) {w1:World} (hw:w1=w\/w1=w.drew) (h0:w0.heap.size<=r) (ob':Obj):HX S w0 F D0 q ts bn β1 sz y r ob' a (Go.ChangeMaps.setBlock w1 r ob'):=by
 obtain ⟨⟨D,β,vs,o,n,he,hβ,hg,hon,hbn,hts,h1,h2⟩,hsz,hd0,hit⟩:=h
 have hg1:GH w0 F D0 D o (· <n) β w1:=by
  rcases hw with rfl|rfl
  ·exact hg
  ·exact hg.step (Below.refl _ w).drew
 have hr:r<w1.heap.size:=by
  have:=(Array.getElem?_eq_some_iff.1 hit).1
  rcases hw with rfl|rfl<;>exact this
 refine ⟨⟨D,β,vs,o,n,he,hβ,hg1.putObj ob' h1 h2 h0,hon,hbn,hts,h1,h2⟩,hsz,hd0,?_⟩
 show (w1.heap.setIfInBounds r ob')[r]?=_
 simp [ge,hr]
end
end Go.En
set_option maxRecDepth 100000
namespace Go.Proofs
open Go Go.En
def L2 (k:CK) (n:Int):Int:=if n<0 then 0 else if (I k.t.nodes.length)<=n then 0 else (k.t.nodes.getD n.toNat En.Dop.d5).at_
def Xo (k:CK) (e:List UInt8×Int):Bool:=decide ((AT k.labels e.1).getD 0=0)
def JL (k:CK) (f:Int) (e:List UInt8×Int):Int:=if (Xo k e && (decide (f<0) || decide (L2 k e.2<L2 k f)))=true then e.2 else f
def L3 (k:CK):Int:=k.gotos.foldl (JL k) (-1)
def Vb (k:CK) (V:Nat->Prop) (f:Int):Prop:=
 (f= -1/\ ∀ j x,V j->k.gotos[j]?=some x->Xo k x=false)\/
 ∃ j x,V j/\k.gotos[j]?=some x/\Xo k x=true/\f=x.2/\ ∀ j' x',V j'->k.gotos[j']?=some x'->Xo k x'=true->L2 k f<=L2 k x'.2
def RI (k:CK):Prop:= ∀ x∈k.gotos,(0:Int)<=x.2
theorem Vb.congr {k:CK} {V V':Nat->Prop} {f:Int} (h:Vb k V f) (hV: ∀ j,j<k.gotos.length->(V j↔V' j)):Vb k V' f:=by
 have hl: ∀ {j:Nat} {x},k.gotos[j]?=some x->j<k.gotos.length:=fun h=>(List.getElem?_eq_some_iff.1 h).1
 rcases h with ⟨h1,h2⟩|⟨j,x,h1,h2,h3,h4,h5⟩
 ·exact .inl ⟨h1,fun j x hj hx=>h2 j x ((hV j (hl hx)).2 hj) hx⟩
 ·exact .inr ⟨j,x,(hV j (hl h2)).1 h1,h2,h3,h4,fun j' x' hj hx hu=>h5 j' x' ((hV j' (hl hx)).2 hj) hx hu⟩
theorem Vb.step {k:CK} {V:Nat->Prop} {f:Int} (hp:RI k) (h:Vb k V f) {j:Nat} {x:List UInt8×Int} (hx:k.gotos[j]?=some x):Vb k (fun i=>V i\/i=j) (JL k f x):=by
 have hpos: ∀ {j:Nat} {x},k.gotos[j]?=some x->(0:Int)<=x.2:=fun h=>hp _ (gc h)
 unfold JL
 by_cases hu:Xo k x=true
 ·rw [hu]
  rcases h with ⟨rfl,h2⟩|⟨j0,x0,h1,h2,h3,rfl,h5⟩
  ·rw [if_pos (by simp)]
   refine .inr ⟨j,x,.inr rfl,hx,hu,rfl,fun j' x' hj GV hu'=>?_⟩
   rcases hj with hj|rfl
   ·rw [h2 j' x' hj GV] at hu';cases hu'
   ·rw [hx] at GV;cases GV;exact Int.le_refl _
  ·have h0:=hpos h2
   by_cases hlt:L2 k x.2<L2 k x0.2
   ·rw [if_pos (by simp [hlt])]
    refine .inr ⟨j,x,.inr rfl,hx,hu,rfl,fun j' x' hj GV hu'=>?_⟩
    rcases hj with hj|rfl
    ·have:=h5 j' x' hj GV hu';omega
    ·rw [hx] at GV;cases GV;exact Int.le_refl _
   ·rw [if_neg (by simp [hlt];omega)]
    refine .inr ⟨j0,x0,.inl h1,h2,h3,rfl,fun j' x' hj GV hu'=>?_⟩
    rcases hj with hj|rfl
    ·exact h5 j' x' hj GV hu'
    ·rw [hx] at GV;cases GV;omega
 ·have hu:Xo k x=false:=by simpa using hu
  rw [hu,if_neg (by simp)]
  rcases h with ⟨h1,h2⟩|⟨j0,x0,h1,h2,h3,h4,h5⟩
  ·refine .inl ⟨h1,fun j' x' hj GV=>?_⟩
   rcases hj with hj|rfl
   ·exact h2 j' x' hj GV
   ·rw [hx] at GV;cases GV;exact hu
  ·refine .inr ⟨j0,x0,.inl h1,h2,h3,h4,fun j' x' hj GV hu'=>?_⟩
   rcases hj with hj|rfl
   ·exact h5 j' x' hj GV hu'
   ·rw [hx] at GV;cases GV;rw [hu] at hu';cases hu'
theorem Xw {k:CK} (hp:RI k):Vb k (fun _=>True) (L3 k):=by
 have key: ∀ n,n<=k.gotos.length->Vb k (fun j=>j<n) ((k.gotos.take n).foldl (JL k) (-1)):=by
  intro n
  induction n with
  | zero=>exact fun _=>.inl ⟨rfl,fun j x hj=>absurd hj (Nat.not_lt_zero _)⟩
  | succ n ih=>
   intro hn
   have hx:k.gotos[n]?=some k.gotos[n]:=co (by omega)
   rw [List.take_add_one,hx]
   simp only [Option.toList,List.foldl_append,List.foldl_cons,List.foldl_nil]
   exact ((ih (by omega)).step hp hx).congr fun j _=>by omega
 have:=key k.gotos.length (Nat.le_refl _)
 rw [List.take_length] at this
 exact this.congr fun j hj=>by simp [hj]
theorem Vb.uniq {k:CK} {f f':Int} (hp:RI k) (h:Vb k (fun _=>True) f) (h':Vb k (fun _=>True) f'):(f=f'/\f= -1)\/(0<=f/\0<=f'/\L2 k f=L2 k f'):=by
 have hpos: ∀ {j:Nat} {x},k.gotos[j]?=some x->(0:Int)<=x.2:=fun h=>hp _ (gc h)
 rcases h with ⟨h1,h2⟩|⟨j,x,-,h2,h3,h4,h5⟩<;>rcases h' with ⟨k1,k2⟩|⟨j',x',-,k2,k3,k4,k5⟩
 ·exact .inl ⟨h1.trans k1.symm,h1⟩
 ·rw [h2 j' x' trivial k2] at k3;cases k3
 ·rw [k2 j x trivial h2] at h3;cases h3
 ·have a1:=h5 j' x' trivial k2 k3
  have a2:=k5 j x trivial h2 h3
  refine .inr ⟨h4▸hpos h2,k4▸hpos k2,?_⟩
  rw [<-k4] at a1;rw [<-h4] at a2;omega
def mg (mf:Int->CK->CT->Option ((En.Dop.BM×Unit)×(CK×CT×Unit))) (x:(Unit×List Int×Int×Unit)×(CK×CT×Unit)):Option ((Unit×List Int×Int×Unit)×(CK×CT×Unit)):=
 if (x.2.1.gotos.all fun e=>decide (0<=e.2))=true then
  if (decide (0<=L3 x.2.1))=true then (mf (L3 x.2.1) x.2.1 x.2.2.1).bind fun y=>some (x.1,(y.2.1,(y.2.2.1,()))) else some x
 else none
end Go.Proofs
namespace Go.En
open Go.RowKit
section
variable {S:As} {P:Program} {w0:World} {F D0 D:Nat->Prop} {N:Nat->Prop} {β:Nat->Nm} {a:Act} {w:World}
def St.pu (s:St S) (d:Nat) (x:SV):St S:={ s with t:=pt s.t d x }
theorem Cx {tb:List (Nat×TI)} (htb:Ae S P tb) {s:St S} (hg:G w0 F D0 D s N β a w) {all:Array Oper} {o:Oper} {r:List Oper} {Q:Exit->Act->World->Prop} {d:Nat} (hgd:o.guard=none) (hd:o.dst=some d) (hds:d<s.sz) {x:SV} (he:evalOp tb s o.op=.val none x)
  (hQ: ∀ a',G w0 F D0 D (s.pu d x) N β a' w->wpList P all Q r a' w):wpList P all Q (o::r) a w:=
 Zu htb hg hgd he trivial (s':=s.pu d x) (by rw [hd,St.Fg,if_pos (by omega)];rfl) hQ
end
end Go.En
namespace Go.Proofs
open Go Go.En Go.RowKit
noncomputable abbrev aS:Code:=BJ (AY Tryz.prog 36) [1,1,1,1,1,1,1,1,1,1,1,1]
noncomputable abbrev RH:Code:=BJ aS [0,0,1,0]
noncomputable abbrev mh:Code:=BJ aS [1,1]
noncomputable def NF:Array Oper:=Jd (BJ (AY Tryz.prog 36) [0,1,1,1,1,1,1,1,1,1,1,1])
noncomputable def DV:Array Oper:=Jd (BJ aS [0,0])
noncomputable def Fu:Array Oper:=Jd (BJ RH [0])
noncomputable def DW:Array Oper:=Jd (BJ RH [0,0,1,1])
noncomputable def Xi:Array Oper:=Jd (BJ RH [0,1,0,1,1])
noncomputable def I3:Array Oper:=Jd (BJ RH [0,1,1,0,1,1])
noncomputable def Hx:Array Oper:=Jd (BJ aS [0,0,1])
noncomputable def Ui:Array Oper:=Jd (BJ aS [0,1,0,1])
theorem en:aS=.seq (.seq (.region 25 DV false) (.block 2 (.loop RH))) (.seq (.seq (.region 30 Hx false) (.cond (.tmp 215) (.region 31 Ui false) .skip)) mh):=by kernel_rfl
theorem aV:RH=.seq (.region 26 Fu false) (.seq (.cond (.tmp 187) .skip (.exit 2)) (.block 3 (.seq (.region 27 DW false) (.seq (.region 28 Xi false) (.cond (.tmp 212) (.region 29 I3 false) .skip))))):=by kernel_rfl
noncomputable def Az (l:Array Oper) (i:Nat):Oper:=l.getD i default
theorem Xe:NF.toList=[Az NF 0]:=by kernel_rfl
theorem Xf:DV.toList=[Az DV 0,Az DV 1,Az DV 2,Az DV 3,Az DV 4]:=by kernel_rfl
theorem Xg:Fu.toList=[Az Fu 0,Az Fu 1]:=by kernel_rfl
theorem Xh:DW.toList=[Az DW 0,Az DW 1,Az DW 2,Az DW 3,Az DW 4]:=by kernel_rfl
theorem Xj:I3.toList=[Az I3 0,Az I3 1]:=by kernel_rfl
theorem Xk:Hx.toList=[Az Hx 0,Az Hx 1]:=by kernel_rfl
theorem Py:(Az Fu 0).op=.next (.tmp 185) false/\(Az Fu 0).dst=some 186/\(Az Fu 0).guard=none:=⟨by kernel_rfl,by kernel_rfl,by kernel_rfl⟩
theorem Px:(Az DW 0).op=.entry (.tmp 185)/\(Az DW 0).dst=some 188/\(Az DW 0).guard=none:=⟨by kernel_rfl,by kernel_rfl,by kernel_rfl⟩
theorem Pz:(Az DV 4).op=.range 81 (.tmp 184)/\(Az DV 4).dst=some 185/\(Az DV 4).guard=none:=⟨by kernel_rfl,by kernel_rfl,by kernel_rfl⟩
abbrev nT:Gx:=⟨0,86,[.st 7,.al 1 0,.own 0 3,.own 11 83,.own 12 63,.st 0,.own 5 89,.mr .str 9 true 78,.mp .str 15 true,.rm 2,.st 11,.st 0,.rm 3,.rm 4,.st 0,.mr (.int .i64) 0 false 166,.st 0,.fd (.int .i64),.st 0],false⟩
abbrev aT:List Gx:=[nT,CT.b1,⟨2,0,[.mp .str 0 false],true⟩,⟨3,0,[.mp .str 0 false],true⟩,⟨4,0,[.mp .str 0 false],true⟩]
abbrev eh:List C0:=[.al 0 0,.own 0 3,.fd (.int .i64),.fd (.int .i64),.al 5 0]
abbrev RJ:En.Spec:=⟨eh,aT⟩
abbrev P0:List Nat:=[0,6,15,16,185]
abbrev TR:En.Spec:=⟨eh++[.fd .str,.fd (.int .i64)],aT⟩
abbrev aW:List Nat:=P0++[17,18]
abbrev Vs:En.Spec:=⟨eh++[.fd (.int .i64),.fd .bool],aT⟩
abbrev aX:List Nat:=P0++[18,212]
def nU (k:CK) (k1:CT):BT En.Dop.D4 aT:=((k.t,(),k.num,k.funcs,k.globals,k.top,k.nodes,k.names,k.sigs,(),k.f,k.Gm,(),(),k.loops,k.SM,k.Qu,k.e,k.when,()),k1,(k.taken,()),(k.labels,()),(k.gotos,()),())
def TU (t6:List Int) (t15 f:Int) (k:CK) (k1:CT):RJ.D En.Dop.D4:=(((),t6,t15,f,(),()),nU k k1)
def aY (t6:List Int) (t15 f:Int) (e:List UInt8×Int) (k:CK) (k1:CT):TR.D En.Dop.D4:=(((),t6,t15,f,(),e.1,e.2,()),nU k k1)
def aZ (t6:List Int) (t15 f n:Int) (b:Bool) (k:CK) (k1:CT):Vs.D En.Dop.D4:=(((),t6,t15,f,(),n,b,()),nU k k1)
theorem TV {W:World} {D:Nat->Prop} {b:Nat} {l:List (List UInt8×Int)} (h:En.MapAt En.Dop.D4 W D .str 0 false b l):
  ∃ es:Array MapEntry,W.heap[b]?=some (.map es es.size)/\es.size=l.length/\ ∀ (j:Nat) (e:MapEntry),es[j]?=some e-> ∃ x,l[j]?=some x/\e=⟨.string ⟨⟨x.1⟩⟩,.int .i64 x.2,j⟩:=by
 obtain ⟨es,h1,h2,h3⟩:=h
 refine ⟨es,h1,h2,fun j e he=>?_⟩
 have hj:j<l.length:=by rw [<-h2];exact (Array.getElem?_eq_some_iff.1 he).1
 obtain ⟨h4,h5,vs,h6,h7⟩:=h3 j l[j] e (co hj) he
 refine ⟨l[j],co hj,?_⟩
 have h7:AG En.Dop.D4 W D [.int .i64 l[j].2] vs:=h7
 obtain ⟨v1,r1,rfl,h8,h9⟩:=h7.DK
 cases h8
 have:=h9.1
 cases r1 with
 | cons _ _=>simp at this
 | nil=>
  cases e
  simp only at h4 h5 h6
  subst h4
  rw [h5,h6]
  rfl
end Go.Proofs
namespace Go.Proofs
open Go Go.En Go.RowKit
noncomputable abbrev jW:Aj:=⟨[],6,TR,Vs,false,[],[]⟩
noncomputable def jV:Env En.Dop.D4:=AU Tryz.prog 36 Tryz.tb [Tryz.C3.c] jW
theorem eo:jV.Ok Tryz.prog:=(G1 (p:=jW) (ct:=[Tryz.C3.c]) Tryz.AJ (AS Tryz.C3.holds Am) (by kernel_rfl)).1
theorem Xa:jV.sz=246:=by kernel_rfl
theorem jZ {t6:List Int} {t15 f:Int} {k:CK} {k1:CT} {vs:List SV} {o:List (Nat×En.Own En.Dop.D4)} {n:Nat} (h:RJ.enc (S:=En.Dop.D4) (TU t6 t15 f k k1) 6=(vs,o,n)):lk o 4=some (.mp .str 0 false k.gotos)/\lk (P0.zip vs) 185=some (.ptr 5 0):=by
 cases h
 exact ⟨by kernel_rfl,by kernel_rfl⟩
noncomputable abbrev Uj (vs:List SV) (o:List (Nat×En.Own En.Dop.D4)) (n:Nat):St En.Dop.D4:=⟨P0.zip vs,o,n,246⟩
theorem je {t6:List Int} {t15 f:Int} {k:CK} {k1:CT} {vs:List SV} {o:List (Nat×En.Own En.Dop.D4)} {n:Nat} (h:RJ.enc (S:=En.Dop.D4) (TU t6 t15 f k k1) 6=(vs,o,n)):evalOp Tryz.tb ((Uj vs o n).pu 186 (.Gv [.b false])) (Az Fu 1).op=.val none (.b false):=by
 cases h
 kernel_rfl
theorem jf (e:List UInt8×Int) {t6:List Int} {t15 f:Int} {k:CK} {k1:CT} {vs:List SV} {o:List (Nat×En.Own En.Dop.D4)} {n:Nat} (h:RJ.enc (S:=En.Dop.D4) (TU t6 t15 f k k1) 6=(vs,o,n)):evalOp Tryz.tb ((Uj vs o n).pu 186 (.Gv [.b true,.v (.string ⟨⟨e.1⟩⟩),.v (.int .i64 e.2)])) (Az Fu 1).op=.val none (.b true):=by
 cases h
 kernel_rfl
noncomputable abbrev TS (vs:List SV) (o:List (Nat×En.Own En.Dop.D4)) (n:Nat) (e:List UInt8×Int):St En.Dop.D4:=(((Uj vs o n).pu 186 (.Gv [.b true,.v (.string ⟨⟨e.1⟩⟩),.v (.int .i64 e.2)])).pu 187 (.b true)).pu 188 (.Gv [.v (.string ⟨⟨e.1⟩⟩),.v (.int .i64 e.2)])
noncomputable abbrev nV (vs:List SV) (o:List (Nat×En.Own En.Dop.D4)) (n:Nat) (e:List UInt8×Int):St En.Dop.D4:=(((((TS vs o n e).pu 189 (.v (.string ⟨⟨e.1⟩⟩))).pu 190 (.v (.int .i64 e.2))).pu 17 (.v (.string ⟨⟨e.1⟩⟩))).pu 18 (.v (.int .i64 e.2)))
theorem jg {t6:List Int} {t15 f:Int} {e:List UInt8×Int} {k:CK} {k1:CT} {vs:List SV} {o:List (Nat×En.Own En.Dop.D4)} {n:Nat} (h:RJ.enc (S:=En.Dop.D4) (TU t6 t15 f k k1) 6=(vs,o,n)):evalOp Tryz.tb (TS vs o n e) (Az DW 1).op=.val none (.v (.string ⟨⟨e.1⟩⟩)):=by
 cases h
 kernel_rfl
theorem jh {t6:List Int} {t15 f:Int} {e:List UInt8×Int} {k:CK} {k1:CT} {vs:List SV} {o:List (Nat×En.Own En.Dop.D4)} {n:Nat} (h:RJ.enc (S:=En.Dop.D4) (TU t6 t15 f k k1) 6=(vs,o,n)):evalOp Tryz.tb ((TS vs o n e).pu 189 (.v (.string ⟨⟨e.1⟩⟩))) (Az DW 2).op=.val none (.v (.int .i64 e.2)):=by
 cases h
 kernel_rfl
theorem ji {t6:List Int} {t15 f:Int} {e:List UInt8×Int} {k:CK} {k1:CT} {vs:List SV} {o:List (Nat×En.Own En.Dop.D4)} {n:Nat} (h:RJ.enc (S:=En.Dop.D4) (TU t6 t15 f k k1) 6=(vs,o,n)):evalOp Tryz.tb (((TS vs o n e).pu 189 (.v (.string ⟨⟨e.1⟩⟩))).pu 190 (.v (.int .i64 e.2))) (Az DW 3).op=.val none (.v (.string ⟨⟨e.1⟩⟩)):=by
 cases h
 kernel_rfl
theorem jj {t6:List Int} {t15 f:Int} {e:List UInt8×Int} {k:CK} {k1:CT} {vs:List SV} {o:List (Nat×En.Own En.Dop.D4)} {n:Nat} (h:RJ.enc (S:=En.Dop.D4) (TU t6 t15 f k k1) 6=(vs,o,n)):evalOp Tryz.tb ((((TS vs o n e).pu 189 (.v (.string ⟨⟨e.1⟩⟩))).pu 190 (.v (.int .i64 e.2))).pu 17 (.v (.string ⟨⟨e.1⟩⟩))) (Az DW 4).op=.val none (.v (.int .i64 e.2)):=by
 cases h
 kernel_rfl
theorem Ul:(Az Fu 1).dst=some 187/\(Az Fu 1).guard=none:=⟨by kernel_rfl,by kernel_rfl⟩
theorem cj:(Az DW 1).dst=some 189/\(Az DW 1).guard=none:=⟨by kernel_rfl,by kernel_rfl⟩
theorem cm:(Az DW 2).dst=some 190/\(Az DW 2).guard=none:=⟨by kernel_rfl,by kernel_rfl⟩
theorem cp:(Az DW 3).dst=some 17/\(Az DW 3).guard=none:=⟨by kernel_rfl,by kernel_rfl⟩
theorem cq:(Az DW 4).dst=some 18/\(Az DW 4).guard=none:=⟨by kernel_rfl,by kernel_rfl⟩
theorem cr:(Az I3 0).dst=some 213/\(Az I3 0).guard=none:=⟨by kernel_rfl,by kernel_rfl⟩
theorem cu:(Az I3 1).dst=some 16/\(Az I3 1).guard=none:=⟨by kernel_rfl,by kernel_rfl⟩
theorem jb {t6:List Int} {t15 f:Int} {e:List UInt8×Int} {k:CK} {k1:CT} {vs:List SV} {o:List (Nat×En.Own En.Dop.D4)} {n:Nat} (h:RJ.enc (S:=En.Dop.D4) (TU t6 t15 f k k1) 6=(vs,o,n)):(HR TR aW 6 6 (nV vs o n e)).map (·.1)=some (aY t6 t15 f e k k1):=by
 cases h
 kernel_rfl
noncomputable abbrev Xn (vs:List SV) (o:List (Nat×En.Own En.Dop.D4)) (n:Nat):St En.Dop.D4:=⟨aX.zip vs,o,n,246⟩
theorem ja {t6:List Int} {t15 f x:Int} {b:Bool} {k:CK} {k1:CT} {vs:List SV} {o:List (Nat×En.Own En.Dop.D4)} {n:Nat} (h:Vs.enc (S:=En.Dop.D4) (aZ t6 t15 f x b k k1) 6=(vs,o,n)):lk (aX.zip vs) 212=some (.b b)/\evalOp Tryz.tb (Xn vs o n) (Az I3 0).op=.val none (.v (.int .i64 x))/\evalOp Tryz.tb ((Xn vs o n).pu 213 (.v (.int .i64 x))) (Az I3 1).op=.val none (.v (.int .i64 x))/\
  (HR RJ P0 6 6 (((Xn vs o n).pu 213 (.v (.int .i64 x))).pu 16 (.v (.int .i64 x)))).map (·.1)=some (TU t6 t15 x k k1)/\(HR RJ P0 6 6 (Xn vs o n)).map (·.1)=some (TU t6 t15 f k k1):=by
 cases h
 exact ⟨by kernel_rfl,by kernel_rfl,by kernel_rfl,by kernel_rfl,by kernel_rfl⟩
theorem ab {t6:List Int} {t15 f:Int} {k:CK} {k1:CT} {vs:List SV} {o:List (Nat×En.Own En.Dop.D4)} {n:Nat} (h:RJ.enc (S:=En.Dop.D4) (TU t6 t15 f k k1) 6=(vs,o,n)):(HR RJ P0 6 6 (((Uj vs o n).pu 186 (.Gv [.b false])).pu 187 (.b false))).map (·.1)=some (TU t6 t15 f k k1):=by
 cases h
 kernel_rfl
theorem Km:RJ.okB 6=true/\TR.okB 6=true/\Vs.okB 6=true:=⟨by kernel_rfl,by kernel_rfl,by kernel_rfl⟩
end Go.Proofs
namespace Go.Proofs
open Go Go.En Go.RowKit
theorem Xp (n:Int) (k:CK) (k1:CT): ∃ x:En.Dop.AV,Tryz.C3 n k.t k.num k.funcs k.globals k.top k.nodes k.names k.sigs k.f k.Gm k.loops k.SM k.Qu k.e k.when k1=some ((x,()),((k.t.nodes,k.t.types,k.t.top,(),k.num,k.funcs,k.globals,k.top,k.nodes,k.names,k.sigs,(),k.f.name,k.f.params,k.f.A7,k.f.frame,k.f.body,k.Gm,(),(),k.loops,k.SM,k.Qu,k.e,k.when,()),(k1,())))/\x.at_=L2 k n:=by
 rw [Tryz.bO]
 unfold L2
 by_cases h:n<0
 ·rw [if_pos (by simpa using h),if_pos h];exact ⟨_,rfl,rfl⟩
 ·rw [if_neg (by simpa using h),if_neg h]
  by_cases h2:I k.t.nodes.length<=n
  ·rw [if_pos (by simpa using h2),if_pos h2];exact ⟨_,rfl,rfl⟩
  ·rw [if_neg (by simpa using h2),if_neg h2,if_pos (by simp;omega)];exact ⟨_,rfl,rfl⟩
theorem af (t6:List Int) (t15 f:Int) (e:List UInt8×Int) (k:CK) (k1:CT):(OH jV 3000 Xi TR Vs aW aX 6 (aY t6 t15 f e k k1)).eval (fun _ _=>none)=
 if decide ((AT k.labels e.1).getD 0=0)=true then
  if decide (f<0)=true then some (aZ t6 t15 f e.2 true k k1)
  else (Tryz.C3 e.2 k.t k.num k.funcs k.globals k.top k.nodes k.names k.sigs k.f k.Gm k.loops k.SM k.Qu k.e k.when k1).bind fun y=>(Tryz.C3 f (En.Dop.HW.mk y.2.1.1 y.2.1.2.1 y.2.1.2.2.1) y.2.1.2.2.2.2.1 y.2.1.2.2.2.2.2.1 y.2.1.2.2.2.2.2.2.1 y.2.1.2.2.2.2.2.2.2.1 y.2.1.2.2.2.2.2.2.2.2.1 y.2.1.2.2.2.2.2.2.2.2.2.1 y.2.1.2.2.2.2.2.2.2.2.2.2.1 (En.Dop.Ey.mk y.2.1.2.2.2.2.2.2.2.2.2.2.2.2.1 y.2.1.2.2.2.2.2.2.2.2.2.2.2.2.2.1 y.2.1.2.2.2.2.2.2.2.2.2.2.2.2.2.2.1 y.2.1.2.2.2.2.2.2.2.2.2.2.2.2.2.2.2.1 y.2.1.2.2.2.2.2.2.2.2.2.2.2.2.2.2.2.2.1) y.2.1.2.2.2.2.2.2.2.2.2.2.2.2.2.2.2.2.2.1 y.2.1.2.2.2.2.2.2.2.2.2.2.2.2.2.2.2.2.2.2.2.2.1 y.2.1.2.2.2.2.2.2.2.2.2.2.2.2.2.2.2.2.2.2.2.2.2.1 y.2.1.2.2.2.2.2.2.2.2.2.2.2.2.2.2.2.2.2.2.2.2.2.2.1 y.2.1.2.2.2.2.2.2.2.2.2.2.2.2.2.2.2.2.2.2.2.2.2.2.2.1 y.2.1.2.2.2.2.2.2.2.2.2.2.2.2.2.2.2.2.2.2.2.2.2.2.2.2.1 y.2.2.1).bind fun z=>some (((),t6,t15,f,(),e.2,decide (y.1.1.at_<z.1.1.at_),()),(((En.Dop.HW.mk z.2.1.1 z.2.1.2.1 z.2.1.2.2.1),(),z.2.1.2.2.2.2.1,z.2.1.2.2.2.2.2.1,z.2.1.2.2.2.2.2.2.1,z.2.1.2.2.2.2.2.2.2.1,z.2.1.2.2.2.2.2.2.2.2.1,z.2.1.2.2.2.2.2.2.2.2.2.1,z.2.1.2.2.2.2.2.2.2.2.2.2.1,(),(En.Dop.Ey.mk z.2.1.2.2.2.2.2.2.2.2.2.2.2.2.1 z.2.1.2.2.2.2.2.2.2.2.2.2.2.2.2.1 z.2.1.2.2.2.2.2.2.2.2.2.2.2.2.2.2.1 z.2.1.2.2.2.2.2.2.2.2.2.2.2.2.2.2.2.1 z.2.1.2.2.2.2.2.2.2.2.2.2.2.2.2.2.2.2.1),z.2.1.2.2.2.2.2.2.2.2.2.2.2.2.2.2.2.2.2.1,(),(),z.2.1.2.2.2.2.2.2.2.2.2.2.2.2.2.2.2.2.2.2.2.2.1,z.2.1.2.2.2.2.2.2.2.2.2.2.2.2.2.2.2.2.2.2.2.2.2.1,z.2.1.2.2.2.2.2.2.2.2.2.2.2.2.2.2.2.2.2.2.2.2.2.2.1,z.2.1.2.2.2.2.2.2.2.2.2.2.2.2.2.2.2.2.2.2.2.2.2.2.2.1,z.2.1.2.2.2.2.2.2.2.2.2.2.2.2.2.2.2.2.2.2.2.2.2.2.2.2.1,()),z.2.2.1,(k.taken,()),(k.labels,()),(k.gotos,()),()))
 else some (aZ t6 t15 f e.2 false k k1):=by kernel_rfl
theorem fC (t6:List Int) (t15 f:Int) (e:List UInt8×Int) (k:CK) (k1:CT):(OH jV 3000 Xi TR Vs aW aX 6 (aY t6 t15 f e k k1)).eval (fun _ _=>none)=some (aZ t6 t15 f e.2 (Xo k e && (decide (f<0) || decide (L2 k e.2<L2 k f))) k k1):=by
 rw [af]
 obtain ⟨x,h1,h2⟩:=Xp e.2 k k1
 obtain ⟨x',h1',h2'⟩:=Xp f k k1
 unfold Xo
 cases hu:decide ((AT k.labels e.1).getD 0=0) with
 | false=>simp
 | true=>
  cases hf:decide (f<0) with
  | true=>simp
  | false=>
   simp only [if_true,Bool.false_eq_true,if_false,h1,Option.bind_some]
   have:Tryz.C3 f k.t k.num k.funcs k.globals k.top k.nodes k.names k.sigs k.f k.Gm k.loops k.SM k.Qu k.e k.when k1=some ((x',()),((k.t.nodes,k.t.types,k.t.top,(),k.num,k.funcs,k.globals,k.top,k.nodes,k.names,k.sigs,(),k.f.name,k.f.params,k.f.A7,k.f.frame,k.f.body,k.Gm,(),(),k.loops,k.SM,k.Qu,k.e,k.when,()),(k1,()))):=h1'
   simp only [this,Option.bind_some,h2,h2',Bool.true_and,Bool.false_or]
   rfl
end Go.Proofs
namespace Go.Proofs
open Go Go.En Go.RowKit
section
variable {w0:World} {F D0:Nat->Prop} {β1:Nat->Nm} {t6:List Int} {t15 f:Int} {k:CK} {k1:CT} {r:Nat} {a:Act} {W:World}
abbrev dm (w0:World) (F D0:Nat->Prop) (β1:Nat->Nm) (t6:List Int) (t15 f:Int) (k:CK) (k1:CT) (r:Nat) (ob:Obj) (a:Act) (W:World):Prop:=HX En.Dop.D4 w0 F D0 RJ P0 6 β1 246 (TU t6 t15 f k k1) r ob a W
theorem FQ {q:En.Spec} {ts:List Nat} {k bn:Nat} {s:St En.Dop.D4} {y:q.D En.Dop.D4} (h:(HR q ts k bn s).map (·.1)=some y): ∃ m,HR q ts k bn s=some (y,m):=by
 obtain ⟨⟨y',m⟩,h1,h2⟩:=Option.map_eq_some_iff.1 h
 cases h2
 exact ⟨m,h1⟩
theorem Sz {es:Array MapEntry} (h: ∀ (j:Nat) (e:MapEntry),es[j]?=some e->e.born=j):(es.toList.map (·.born)).Nodup:=by
 have:es.toList.map (·.born)=List.range es.size:=List.ext_getElem (by simp) fun i h1 h2=>by
  simp only [List.getElem_map,List.getElem_range]
  exact h i _ (by simp at h1;simp [h1])
 rw [this];exact List.nodup_range
theorem Xx (hkp:CF En.Dop.D4 w0 F D0) (h0:w0.heap.size<=r) (hr:(β1 5).AX=r) {seen:Array Nat} {c0:Nat} (hL:k.gotos.length<=c0) (hh:dm w0 F D0 β1 t6 t15 f k k1 r (.mapIter (some (β1 4).AX) k.gotos.length seen c0) a W) {Q:Exit->Act->World->Prop}
  (hdone:(∀ j,j<k.gotos.length->seen.contains j=true)-> ∀ a' W' ob,dm w0 F D0 β1 t6 t15 f k k1 r ob a' W'->Q (.exit 2) a' W')
  (hmore: ∀ j x,k.gotos[j]?=some x->seen.contains j=false-> ∀ a' W' c1,k.gotos.length<=c1->dm w0 F D0 β1 t6 t15 (JL k f x) k k1 r (.mapIter (some (β1 4).AX) k.gotos.length (seen.push j) c1) a' W'->Q .normal a' W'):RH.wp Tryz.prog Q a W:=by
 rw [aV]
 obtain ⟨D,β,vs,o,n,he,hβ,hbn,hg,hc1,hc2⟩:=hh.g
 obtain ⟨ho4,ht185⟩:=jZ he
 obtain ⟨bm,hb4,hM⟩:=hg.gh.own 4 _ ho4
 have hbm:(β1 4).AX=bm:=by rw [<-hβ 4 (by omega)];simp [Nm.AX,hb4]
 obtain ⟨es,hes,hsz,hel⟩:=TV hM
 have hit:=hh.it
 rw [hbm] at hit
 have h185:a.tmps.getD 185 undef=.pointer (some ⟨r,0,none⟩):=by
  rw [hg.tmps 185 _ ht185];simp only [SV.den,hβ 5 (by omega),hr]
 have hlt: ∀ x∈es.toList,x.born<k.gotos.length:=fun x hx=>by
  obtain ⟨j,hj⟩:=List.mem_iff_getElem?.1 hx
  rw [Array.getElem?_toList] at hj
  obtain ⟨y,hy,rfl⟩:=hel j x hj
  exact (List.getElem?_eq_some_iff.1 hy).1
 have hexec: ∀ v w',(Instr.next (.pointer (some ⟨r,0,none⟩)) false (Az Fu 0).type).run Tryz.prog W=.ok v w'->(execOp a.eval (Az Fu 0)).run Tryz.prog W=.ok (.value v) w':=fun v w' h=>by
  have:a.eval (.tmp 185)=.pointer (some ⟨r,0,none⟩):=h185
  simp only [execOp,Py.1,this,Sem.run_bind,h,Result.andThen_ok,Sem.run_pure]
 refine wp_seq (wp_region_list ?_)
 rw [Xg]
 unfold wpList
 rw [if_pos (by simp [Region.wanted,Py.2.2])]
 rcases run_next_at (P:=Tryz.prog) W (Az Fu 0).type r bm k.gotos.length c0 seen es es.size hit hes hlt hL with ⟨hz,hrun⟩|⟨e,hem,w1,hw1,hrun⟩
 ·-- nothing is left
  refine .inl (Aq (hexec _ _ hrun) ?_)
  rw [Py.2.1]
  have hg1:G w0 F D0 D ((Uj vs o n).pu 186 (.Gv [.b false])) (· <n) β (a.put (some 186) (.tuple #[.bool false])) W:=by
   have:=hg.put (d:=some 186) (x:=.Gv [.b false]) (by simp [SV.on,BZ]) (s':=(Uj vs o n).pu 186 (.Gv [.b false])) (by rw [St.Fg,if_pos (by show 186<246;omega)];rfl)
   simpa [SV.den,AD] using this
  refine Cx Tryz.AJ hg1 Ul.2 Ul.1 (by show 187<246;omega) (je he) fun a1 hg2=>?_
  unfold wpList
  have h187:a1.eval (.tmp 187)=.bool false:=by
   have:=hg2.tmps 187 (.b false) (by simp [St.pu,FB])
   exact this
  refine wp_seq (wp_cond_false h187 (wp_exit ?_))
  obtain ⟨m,hm⟩:=FQ (ab he)
  refine hdone (fun j hj=>?_) a1 W _ (hg2.GV hβ hm Km.1 hc1 hc2 hh.it)
  have hj':es[j]?=some es[j]:=Array.getElem?_eq_getElem (by omega)
  obtain ⟨x,hx,hex⟩:=hel j _ hj'
  have:=all_seen es seen hz es[j] (by simp)
  rw [hex] at this
  exact this
 ·-- an entry
  obtain ⟨hmem,hns⟩:=mem_left hem
  obtain ⟨j,hj⟩:=List.mem_iff_getElem?.1 hmem
  rw [Array.getElem?_toList] at hj
  obtain ⟨x,hx,rfl⟩:=hel j e hj
  refine .inl (Aq (hexec _ _ hrun) ?_)
  rw [Py.2.1]
  have hh1:=hh.LL hw1 h0 (.mapIter (some bm) k.gotos.length (seen.push j) es.size)
  obtain ⟨D2,β2,vs2,o2,n2,he2,hβ2,hbn2,hg2,hd1,hd2⟩:=hh1.g
  rw [he] at he2
  simp only [bi] at he2
  obtain ⟨rfl,rfl,rfl⟩:=he2
  obtain ⟨bm2,hb42,hM2⟩:=hg2.gh.own 4 _ ho4
  have hbm2:bm2=bm:=by rw [<-hbm,<- hβ2 4 (by omega)];simp [Nm.AX,hb42]
  subst hbm2
  obtain ⟨es2,hes2,hsz2,hel2⟩:=TV hM2
  have hee:es2=es:=by
   refine Array.ext (hsz2.trans hsz.symm) fun i h1 h2=>?_
   obtain ⟨y1,hy1,e1⟩:=hel2 i _ (Array.getElem?_eq_getElem h1)
   obtain ⟨y2,hy2,e2⟩:=hel i _ (Array.getElem?_eq_getElem h2)
   rw [hy1] at hy2;cases hy2
   rw [e1,e2]
  subst hee
  have hg3:G w0 F D0 D2 ((Uj vs o n).pu 186 (.Gv [.b true,.v (.string ⟨⟨x.1⟩⟩),.v (.int .i64 x.2)])) (· <n) β2 (a.put (some 186) (.tuple #[.bool true,.string ⟨⟨x.1⟩⟩,.int .i64 x.2])) (Go.ChangeMaps.setBlock w1 r (.mapIter (some bm2) k.gotos.length (seen.push j) es2.size)):=by
   have:=hg2.put (d:=some 186) (x:=.Gv [.b true,.v (.string ⟨⟨x.1⟩⟩),.v (.int .i64 x.2)]) (by simp [SV.on,BZ]) (s':=(Uj vs o n).pu 186 (.Gv [.b true,.v (.string ⟨⟨x.1⟩⟩),.v (.int .i64 x.2)])) (by rw [St.Fg,if_pos (by show 186<246;omega)];rfl)
   simpa [SV.den,AD] using this
  refine Cx Tryz.AJ hg3 Ul.2 Ul.1 (by show 187<246;omega) (jf x he) fun a1 hg4=>?_
  unfold wpList
  have h187:a1.eval (.tmp 187)=.bool true:=hg4.tmps 187 (.b true) (by simp [St.pu,FB])
  refine wp_seq (wp_cond_true h187 (wp_skip (wp_block (wp_seq (wp_region_list ?_)))))
  rw [Xh]
  unfold wpList
  rw [if_pos (by simp [Region.wanted,Px.2.2])]
  have h185':a1.eval (.tmp 185)=.pointer (some ⟨r,0,none⟩):=by
   have:=hg4.tmps 185 (.ptr 5 0) (by simp [St.pu,FB];exact ht185)
   show a1.tmps.getD 185 undef=_
   rw [this];simp only [SV.den,hβ2 5 (by omega),hr]
  have hrunE:=run_entry_at (P:=Tryz.prog) (Go.ChangeMaps.setBlock w1 r (.mapIter (some bm2) k.gotos.length (seen.push j) es2.size)) r bm2 k.gotos.length seen es2 es2.size ⟨.string ⟨⟨x.1⟩⟩,.int .i64 x.2,j⟩ hh1.it hes2 (gc (by rw [Array.getElem?_toList];exact hj)) (Sz fun i e hi=>by obtain ⟨y,_,rfl⟩:=hel2 i e hi;rfl)
  refine .inl (Aq (v:=.tuple #[.string ⟨⟨x.1⟩⟩,.int .i64 x.2]) (by simp only [execOp,Px.1,h185',Sem.run_bind,hrunE,Result.andThen_ok,Sem.run_pure];rfl) ?_)
  rw [Px.2.1]
  have hg5:G w0 F D0 D2 (TS vs o n x) (· <n) β2 (a1.put (some 188) (.tuple #[.string ⟨⟨x.1⟩⟩,.int .i64 x.2])) (Go.ChangeMaps.setBlock w1 r (.mapIter (some bm2) k.gotos.length (seen.push j) es2.size)):=by
   have:=hg4.put (d:=some 188) (x:=.Gv [.v (.string ⟨⟨x.1⟩⟩),.v (.int .i64 x.2)]) (by simp [SV.on,BZ]) (s':=TS vs o n x) (by rw [St.Fg,if_pos (by show 188<246;omega)];rfl)
   simpa [SV.den,AD] using this
  refine Cx Tryz.AJ hg5 cj.2 cj.1 (by show 189<246;omega) (jg he) fun a2 hg6=>?_
  refine Cx Tryz.AJ hg6 cm.2 cm.1 (by show 190<246;omega) (jh he) fun a3 hg7=>?_
  refine Cx Tryz.AJ hg7 cp.2 cp.1 (by show 17<246;omega) (ji he) fun a4 hg8=>?_
  refine Cx Tryz.AJ hg8 cq.2 cq.1 (by show 18<246;omega) (jj he) fun a5 hg9=>?_
  unfold wpList
  obtain ⟨m,hm⟩:=FQ (jb (e:=x) he)
  have hx1:HX En.Dop.D4 w0 F D0 TR aW 6 β1 jV.sz (aY t6 t15 f x k k1) r (.mapIter (some bm2) k.gotos.length (seen.push j) es2.size) a5 (Go.ChangeMaps.setBlock w1 r (.mapIter (some bm2) k.gotos.length (seen.push j) es2.size)):=by
   rw [Xa];exact hg9.GV hβ2 hm Km.2.1 hd1 hd2 hh1.it
  refine wp_seq (wp_region_list (hx1.mw eo (f0:=3000) Km.2.2 (by kernel_rfl) (fC t6 t15 f x k k1) hkp fun a6 W6 hx2=>?_))
  rw [Xa] at hx2
  obtain ⟨D3,β3,vs3,o3,n3,he3,hβ3,hbn3,hg10,he1,he2'⟩:=hx2.g
  obtain ⟨l1,l2,l3,l4,l5⟩:=ja he3
  have h212:a6.eval (.tmp 212)=.bool (Xo k x && (decide (f<0) || decide (L2 k x.2<L2 k f))):=hg10.tmps 212 _ l1
  have hst:JL k f x=if (Xo k x && (decide (f<0) || decide (L2 k x.2<L2 k f)))=true then x.2 else f:=rfl
  have hfin: ∀ a' W',dm w0 F D0 β1 t6 t15 (JL k f x) k k1 r (.mapIter (some bm2) k.gotos.length (seen.push j) es2.size) a' W'->Exit.inBlock 3 Q .normal a' W':=fun a' W' h=>by
   rw [<-hbm] at h
   exact hmore j x hx hns a' W' es2.size (by omega) h
  cases hb:(Xo k x && (decide (f<0) || decide (L2 k x.2<L2 k f))) with
  | true=>
   rw [hb] at h212 hst
   rw [if_pos rfl] at hst
   refine wp_cond_true h212 (wp_region_list ?_)
   rw [Xj]
   refine Cx Tryz.AJ (s:=Xn vs3 o3 n3) hg10 cr.2 cr.1 (by show 213<246;omega) l2 fun a7 hg11=>?_
   refine Cx Tryz.AJ hg11 cu.2 cu.1 (by show 16<246;omega) l3 fun a8 hg12=>?_
   unfold wpList
   obtain ⟨m2,hm2⟩:=FQ l4
   refine hfin a8 W6 ?_
   rw [hst]
   exact hg12.GV hβ3 hm2 Km.1 he1 he2' hx2.it
  | false=>
   rw [hb] at h212 hst
   rw [if_neg (by simp)] at hst
   refine wp_cond_false h212 (wp_skip ?_)
   obtain ⟨m2,hm2⟩:=FQ l5
   refine hfin a6 W6 ?_
   rw [hst]
   exact hg10.GV hβ3 hm2 Km.1 he1 he2' hx2.it
end
end Go.Proofs
namespace Go.Proofs
open Go Go.En Go.RowKit
section
variable {w0:World} {F D0:Nat->Prop} {β1:Nat->Nm} {t6:List Int} {t15:Int} {k:CK} {k1:CT} {r:Nat}
def TQ (L:Nat) (seen:Array Nat):Nat:=((List.range L).filter fun j=>!seen.contains j).length
theorem O5 (hkp:CF En.Dop.D4 w0 F D0) (h0:w0.heap.size<=r) (hr:(β1 5).AX=r) (hp:RI k) {Q:Exit->Act->World->Prop}
  (hdone: ∀ f,Vb k (fun _=>True) f-> ∀ a' W' ob,dm w0 F D0 β1 t6 t15 f k k1 r ob a' W'->Q (.exit 2) a' W'):
  ∀ (m:Nat) (seen:Array Nat) (c0:Nat) (f:Int) (a:Act) (W:World),TQ k.gotos.length seen<m->k.gotos.length<=c0->Vb k (fun j=>seen.contains j=true) f->dm w0 F D0 β1 t6 t15 f k k1 r (.mapIter (some (β1 4).AX) k.gotos.length seen c0) a W->Code.rounds Tryz.prog RH Q m a W
 | 0,seen,c0,f,a,W,hm,hL,hI,hh=>absurd hm (Nat.not_lt_zero _)
 | m+1,seen,c0,f,a,W,hm,hL,hI,hh=>by
  rw [rounds_succ]
  refine Xx hkp h0 hr hL hh (fun hall a' W' ob h=>?_) (fun j x hx hs a' W' c1 hc h=>?_)
  ·exact hdone f (hI.congr fun j hj=>iff_of_true (hall j hj) trivial) a' W' ob h
  ·refine O5 hkp h0 hr hp hdone m (seen.push j) c1 _ a' W' ?_ hc ((hI.step hp hx).congr fun i hi=>?_) h
   ·have hj:j<k.gotos.length:=(List.getElem?_eq_some_iff.1 hx).1
    have:=filter_lt (fun i=>!seen.contains i) (fun i=>!(seen.push j).contains i) (fun i hi=>by
     simp only [contains_push] at hi
     cases h:seen.contains i with
     | false=>rfl
     | true=>rw [h] at hi;cases hi) j (by simp only [hs];rfl) (by simp only [contains_push,beq_self_eq_true,Bool.or_true];rfl) (List.range k.gotos.length) (by simpa using hj)
    unfold TQ at hm ⊢
    omega
   ·rw [contains_push,io,beq_iff_eq]
end
noncomputable abbrev er (vs:List SV) (o:List (Nat×En.Own En.Dop.D4)) (n:Nat):St En.Dop.D4:=⟨[0,6,15].zip vs,o,n,246⟩
noncomputable abbrev eu (vs:List SV) (o:List (Nat×En.Own En.Dop.D4)) (n:Nat):St En.Dop.D4:=(er vs o n).pu 16 (.v (.int .i64 (-1)))
noncomputable abbrev ew (vs:List SV) (o:List (Nat×En.Own En.Dop.D4)) (n:Nat):St En.Dop.D4:=((eu vs o n).pu 181 (.ptr 0 0)).pu 182 (.ptr 0 0)
noncomputable abbrev Xm (vs:List SV) (o:List (Nat×En.Own En.Dop.D4)) (n:Nat) (q:Nat):St En.Dop.D4:=((ew vs o n).pu 183 (.ptr 0 q)).pu 184 (.CC 13)
noncomputable abbrev jY (vs:List SV) (o:List (Nat×En.Own En.Dop.D4)) (n:Nat) (q:Nat):St En.Dop.D4:=⟨(185,.ptr n 0)::(Xm vs o n q).t,o,n+1,246⟩
end Go.Proofs
namespace Go.Proofs
open Go Go.En Go.RowKit
theorem cg:(Az NF 0).dst=some 16/\(Az NF 0).guard=none:=⟨by kernel_rfl,by kernel_rfl⟩
theorem Xq:(Az DV 0).dst=some 181/\(Az DV 0).guard=none:=⟨by kernel_rfl,by kernel_rfl⟩
theorem Xr:(Az DV 1).dst=some 182/\(Az DV 1).guard=none:=⟨by kernel_rfl,by kernel_rfl⟩
theorem Xs:(Az DV 2).dst=some 183/\(Az DV 2).guard=none:=⟨by kernel_rfl,by kernel_rfl⟩
theorem Xt:(Az DV 3).dst=some 184/\(Az DV 3).guard=none:=⟨by kernel_rfl,by kernel_rfl⟩
theorem Xu:(Az Hx 0).dst=some 214/\(Az Hx 0).guard=none:=⟨by kernel_rfl,by kernel_rfl⟩
theorem Xv:(Az Hx 1).dst=some 215/\(Az Hx 1).guard=none:=⟨by kernel_rfl,by kernel_rfl⟩
theorem jc {t6:List Int} {t15:Int} {k:CK} {k1:CT} {vs:List SV} {o:List (Nat×En.Own En.Dop.D4)} {n:Nat} (h:En.Spec.enc (S:=En.Dop.D4) Tryz.Dw.ZH.sp (((),t6,t15,()),(k,k1,())) 2=(vs,o,n)):
  evalOp Tryz.tb (er vs o n) (Az NF 0).op=.val none (.v (.int .i64 (-1)))/\evalOp Tryz.tb (eu vs o n) (Az DV 0).op=.val none (.ptr 0 0)/\evalOp Tryz.tb ((eu vs o n).pu 181 (.ptr 0 0)) (Az DV 1).op=.val none (.ptr 0 0)/\
  evalOp Tryz.tb (ew vs o n) (Az DV 2).op=.val none (.ptr 0 19)/\evalOp Tryz.tb ((ew vs o n).pu 183 (.ptr 0 19)) (Az DV 3).op=.val none (.CC 13)/\n=17/\lk o 13=some (.mp .str 0 false k.gotos)/\lk (Xm vs o n 19).t 184=some (.CC 13)/\
  (HR RJ P0 2 6 (jY vs o n 19)).map (fun z=>(z.1,lk z.2 4,lk z.2 5))=some (TU t6 t15 (-1) k k1,some 13,some 17):=by
 cases h
 exact ⟨by kernel_rfl,by kernel_rfl,by kernel_rfl,by kernel_rfl,by kernel_rfl,by kernel_rfl,by kernel_rfl,by kernel_rfl,by kernel_rfl⟩
abbrev Xl:En.Spec:=⟨[.al 0 0,.own 0 3,.fd (.int .i64),.fd (.int .i64)],[CK.b0,CT.b1]⟩
theorem jd {t6:List Int} {t15 f:Int} {k:CK} {k1:CT} {vs:List SV} {o:List (Nat×En.Own En.Dop.D4)} {n:Nat} (h:RJ.enc (S:=En.Dop.D4) (TU t6 t15 f k k1) 6=(vs,o,n)):
  evalOp Tryz.tb (Uj vs o n) (Az Hx 0).op=.val none (.v (.int .i64 f))/\evalOp Tryz.tb ((Uj vs o n).pu 214 (.v (.int .i64 f))) (Az Hx 1).op=.val none (.b (decide (0<=f)))/\
  lk (((Uj vs o n).pu 214 (.v (.int .i64 f))).pu 215 (.b (decide (0<=f)))).t 215=some (.b (decide (0<=f)))/\
  (HR Xl [0,6,15,16] 2 2 (((Uj vs o n).pu 214 (.v (.int .i64 f))).pu 215 (.b (decide (0<=f))))).map (·.1)=some (((),t6,t15,f,()),(k,k1,()))/\
  (HR Tryz.Dw.Wf.sp [0,6,15] 2 2 (((Uj vs o n).pu 214 (.v (.int .i64 f))).pu 215 (.b (decide (0<=f))))).map (·.1)=some (((),t6,t15,()),(k,k1,())):=by
 cases h
 exact ⟨by kernel_rfl,by kernel_rfl,by kernel_rfl,by kernel_rfl,by kernel_rfl⟩
noncomputable abbrev O3 (ct:List (BU En.Dop.D4)):Env En.Dop.D4:=AU Tryz.prog 36 Tryz.tb ct Tryz.Dw.p
theorem O4 (ct:List (BU En.Dop.D4)):(O3 ct).sz=246:=by kernel_rfl
theorem TW:Tryz.Dw.Wf.sp.okB 2=true/\Xl.okB 2=true:=⟨by kernel_rfl,by kernel_rfl⟩
theorem fA:DI (AY Tryz.prog 36) Tryz.Dw.ZH.key=some [.code [0,1,1,1,1,1,1,1,1,1,1,1] (.region 24 NF false),.code [1,1,1,1,1,1,1,1,1,1,1,1] aS]:=by kernel_rfl
theorem fB:DI (AY Tryz.prog 36) Tryz.Dw.Wf.key=some [.code [1,1,1,1,1,1,1,1,1,1,1,1,1,1] mh]:=by kernel_rfl
theorem ae {ct:List (BU En.Dop.D4)} (hE:(O3 ct).Ok Tryz.prog) {mf:Int->CK->CT->Option ((En.Dop.BM×Unit)×(CK×CT×Unit))} (hmf: ∀ f f' k k1,L2 k f=L2 k f'->mf f k k1=mf f' k k1)
  (hseg: ∀ t6 t15 f k k1,(OH (O3 ct) 3000 Ui Xl Tryz.Dw.Wf.sp [0,6,15,16] [0,6,15] 2 (((),t6,t15,f,()),(k,k1,()))).eval (fun _ _=>none)=(mf f k k1).bind fun y=>some (((),t6,t15,()),(y.2.1,(y.2.2.1,()))))
  {Q:Exit->Act->World->Prop} {w0:World} {F D0:Nat->Prop} {β0:Nat->Nm} {M:Nat} (t6:List Int) (t15:Int) (k:CK) (k1:CT) (y:Tryz.Dw.Wf.sp.D En.Dop.D4) (hkp:CF En.Dop.D4 w0 F D0) (hg:mg mf (((),t6,t15,()),(k,k1,()))=some y)
  (hv:Iz Tryz.prog Q w0 F D0 β0 M (O3 ct) Tryz.Dw.Wf y):Iz Tryz.prog Q w0 F D0 β0 M (O3 ct) Tryz.Dw.ZH (((),t6,t15,()),(k,k1,())):=by
 unfold mg at hg
 split at hg
 case isFalse=>cases hg
 rename_i hpos
 have hp:RI k:=fun e he=>by simpa using List.all_eq_true.1 hpos e he
 intro ks vs o n hk he
 have hk:DI (AY Tryz.prog 36) Tryz.Dw.ZH.key=some ks:=hk
 rw [fA] at hk
 cases hk
 have he:En.Spec.enc (S:=En.Dop.D4) Tryz.Dw.ZH.sp (((),t6,t15,()),(k,k1,())) 2=(vs,o,n):=he
 obtain ⟨s0,s1,s2,s3,s4,hn,ho13,h184,hlook⟩:=jc he
 intro D β a W hβ0 hG
 have hG:G w0 F D0 D (er vs o n) (· <n) β a W:=hG
 have hβ0: ∀ i,i<2->β i=β0 i:=hβ0
 show (Code.region 24 NF false).wpIn Fence.wide 0 Tryz.prog (after Fence.wide Tryz.prog M [.code aS] Q) a W
 refine wpIn_wide.2 (wp_region_list ?_)
 rw [Xe]
 refine Cx Tryz.AJ hG cg.2 cg.1 (by show 16<246;omega) s0 fun a1 g1=>?_
 unfold wpList
 show aS.wpIn Fence.wide 0 Tryz.prog Q a1 W
 refine wpIn_wide.2 ?_
 rw [en]
 refine wp_seq (wp_seq (wp_region_list ?_))
 rw [Xf]
 refine Cx Tryz.AJ g1 Xq.2 Xq.1 (by show 181<246;omega) s1 fun a2 g2=>?_
 refine Cx Tryz.AJ g2 Xr.2 Xr.1 (by show 182<246;omega) s2 fun a3 g3=>?_
 refine Cx Tryz.AJ g3 Xs.2 Xs.1 (by show 183<246;omega) s3 fun a4 g4=>?_
 refine Cx Tryz.AJ g4 Xt.2 Xt.1 (by show 184<246;omega) s4 fun a5 g5=>?_
 have g5:G w0 F D0 D (Xm vs o n 19) (· <n) β a5 W:=g5
 obtain ⟨bm,hb13,hM⟩:=g5.gh.own 13 _ ho13
 obtain ⟨es,hes,hsz,hel⟩:=TV hM
 have e184:a5.eval (.tmp 184)=.map (some bm):=by
  have:=g5.tmps 184 _ h184
  show a5.tmps.getD 184 undef=_
  rw [this];simp [SV.den,Nm.AX,hb13]
 have hT:=Ag (d:=.map 9 3) Tryz.AJ (T:=81) (by kernel_rfl)
 simp only [TD.ok] at hT
 have hrun:=run_range_map (P:=Tryz.prog) W 81 _ _ bm es es.size hT hes
 unfold wpList
 rw [if_pos (by simp [Region.wanted,Pz.2.2])]
 refine .inl (Aq (v:=.pointer (some ⟨W.heap.size,0,none⟩)) (w':=W.alloc (.mapIter (some bm) es.size #[] es.size)) (by simp only [execOp,Pz.1,e184,Sem.run_bind,hrun,Result.andThen_ok,Sem.run_pure]) ?_)
 rw [Pz.2.1]
 unfold wpList
 -- the iterator's block has a name
 let β':Nat->Nm:=fun i=>if i=17 then ⟨some W.heap.size,0,0,undef⟩ else β i
 have hβ': ∀ i,i<n->β i=β' i:=fun i hi=>by simp only [β'];rw [if_neg (by omega)]
 have hgh:GH w0 F D0 D o (· <n) β W:=g5.gh
 have g6:G w0 F D0 D (jY vs o n 19) (· <n+1) β' (a5.put (some 185) (.pointer (some ⟨W.heap.size,0,none⟩))) (W.alloc (.mapIter (some bm) es.size #[] es.size)):=by
  refine ⟨g5.defers,by rw [IH];exact g5.size,fun t v ht=>?_,fun t v ht=>?_,((hgh.step ((Below.refl _ W).alloc (Nat.le_refl _) _)).congr hβ').mono fun i hi=>Nat.lt_succ_of_lt hi⟩
  ·have ht:lk ((185,SV.ptr n 0)::(Xm vs o n 19).t) t=some v:=ht
   rw [AK] at ht
   split at ht
   ·rename_i e;subst e;cases ht;exact ⟨by show 185<246;omega,by show n<n+1;omega⟩
   ·obtain ⟨q1,q2⟩:=g5.Gw t v ht
    exact ⟨q1,Ao (fun i hi=>Nat.lt_succ_of_lt hi) q2⟩
  ·have ht:lk ((185,SV.ptr n 0)::(Xm vs o n 19).t) t=some v:=ht
   rw [AK] at ht
   split at ht
   ·rename_i e;subst e;cases ht
    rw [KS (by rw [g5.size];show 185<246;omega)]
    simp only [SV.den,β',hn,if_true,Nm.AX,Option.getD_some]
   ·rename_i hne
    obtain ⟨q1,q2⟩:=g5.Gw t v ht
    rw [Gh hne,g5.tmps t v ht]
    exact CX hβ' v q2
 obtain ⟨⟨y0,m⟩,hl1,hl2⟩:=Option.map_eq_some_iff.1 hlook
 simp only [bi] at hl2
 obtain ⟨rfl,hm4,hm5⟩:=hl2
 have hclear: ∀ i b,lk o i=some b->¬ (β' i).has W.heap.size:=fun i b hi hk=>by
  have hin:i<n:=(hgh.By i b hi).1
  rw [<-hβ' i hin] at hk
  exact Nat.lt_irrefl _ (hgh.lt i b _ hi hk)
 have hDn:¬ D W.heap.size:=fun hd=>Nat.lt_irrefl _ (hgh.DL _ hd)
 obtain ⟨β1,b1,b2,hx⟩:=g6.hx (by omega) hl1 Km.1 hclear hDn (heap_alloc_new W _)
 have hb4:(β1 4).AX=bm:=by
  rw [b2 4 (by omega) 13 hm4]
  show (β' 13).AX=bm
  rw [<-hβ' 13 (by omega)]
  simp [Nm.AX,hb13]
 have hb5:(β1 5).AX=W.heap.size:=by
  rw [b2 5 (by omega) 17 hm5]
  simp [β',Nm.AX]
 have hb01: ∀ i,i<2->β1 i=β0 i:=fun i hi=>by rw [b1 i hi,<- hβ' i (by omega),hβ0 i hi]
 have h0:w0.heap.size<=W.heap.size:=hgh.fr.size
 have hx:dm w0 F D0 β1 t6 t15 (-1) k k1 W.heap.size (.mapIter (some (β1 4).AX) k.gotos.length #[] k.gotos.length) (a5.put (some 185) (.pointer (some ⟨W.heap.size,0,none⟩))) (W.alloc (.mapIter (some bm) es.size #[] es.size)):=by
  rw [hb4,<- hsz];exact hx
 refine wp_block (wp_loop_rounds (TQ k.gotos.length #[]+1) (O5 hkp h0 hb5 hp (fun f hI a' W' ob hh=>?_) _ _ _ _ _ _ (lw _) (Nat.le_refl _) (.inl ⟨rfl,fun j x hj=>absurd hj (by simp)⟩) hx))
 -- all have come
 show (Code.seq (.seq (.region 30 Hx false) (.cond (.tmp 215) (.region 31 Ui false) .skip)) mh).wp Tryz.prog Q a' W'
 have huq:=(Xw hp).uniq hp hI
 obtain ⟨D2,β2,vs2,o2,n2,he2,hβ2,hbn2,hg2,hd1,hd2⟩:=hh.g
 obtain ⟨z0,z1,z2,z3,z4⟩:=jd he2
 have hend: ∀ (y':Tryz.Dw.Wf.sp.D En.Dop.D4) a'' W'' ob',y'=y->HX En.Dop.D4 w0 F D0 Tryz.Dw.Wf.sp [0,6,15] 2 β0 246 y' W.heap.size ob' a'' W''->mh.wp Tryz.prog Q a'' W'':=fun y' a'' W'' ob' hy h=>by
  subst hy
  obtain ⟨D3,β3,vs3,o3,n3,he3,hβ3,hbn3,hg3,_,_⟩:=h.g
  have:=hv _ vs3 o3 n3 fB he3 D3 β3 a'' W'' hβ3 hg3
  exact wpIn_wide.1 this
 refine wp_seq (wp_seq (wp_region_list ?_))
 rw [Xk]
 refine Cx Tryz.AJ (s:=Uj vs2 o2 n2) hg2 Xu.2 Xu.1 (by show 214<246;omega) z0 fun a6 g7=>?_
 refine Cx Tryz.AJ g7 Xv.2 Xv.1 (by show 215<246;omega) z1 fun a7 g8=>?_
 unfold wpList
 have e215:a7.eval (.tmp 215)=.bool (decide (0<=f)):=g8.tmps 215 _ z2
 have hb2: ∀ i,i<2->β2 i=β0 i:=fun i hi=>by rw [hβ2 i (by omega),hb01 i hi]
 cases hf:decide (0<=f) with
 | true=>
  rw [hf] at e215
  refine wp_cond_true e215 (wp_region_list ?_)
  obtain ⟨m3,hm3⟩:=FQ z3
  have hx3:=g8.GV hb2 hm3 TW.2 hd1 hd2 hh.it
  rcases huq with ⟨e1,e2⟩|⟨e1,e2,e3⟩
  ·rw [e1] at e2;subst e2;simp at hf
  rw [if_pos (by simpa using e1)] at hg
  obtain ⟨v,hv1,hv2⟩:=Option.bind_eq_some_iff.1 hg
  rw [hmf _ _ _ k1 e3] at hv1
  have hs:=hseg t6 t15 f k k1
  rw [hv1] at hs
  have hx3:HX En.Dop.D4 w0 F D0 Xl [0,6,15,16] 2 β0 (O3 ct).sz (((),t6,t15,f,()),(k,k1,())) W.heap.size ob a7 W':=by rw [O4];exact hx3
  refine hx3.mw hE (f0:=3000) TW.1 (by kernel_rfl) hs hkp fun a8 W8 h8=>?_
  rw [O4] at h8
  exact hend _ a8 W8 _ (Option.some.inj hv2) h8
 | false=>
  rw [hf] at e215
  refine wp_cond_false e215 (wp_skip ?_)
  obtain ⟨m3,hm3⟩:=FQ z4
  have hx3:=g8.GV hb2 hm3 TW.1 hd1 hd2 hh.it
  have hfirst:¬ (0:Int)<=L3 k:=by
   rcases huq with ⟨e1,e2⟩|⟨e1,e2,e3⟩
   ·omega
   ·simp [e2] at hf
  rw [if_neg (by simpa using hfirst)] at hg
  exact hend _ a7 W' _ (Option.some.inj hg) hx3
end Go.Proofs
set_option maxHeartbeats 4000000
namespace Go.Proofs.Tryz
open Go Go.En
end Go.Proofs.Tryz
namespace Go.Proofs.Tryz
open Go Go.En
abbrev Ka.q3:Cut:=⟨[[0,0,0,0,0,1,0,1,1],[0,1,0,0,0,1,0,1,1],[0,1,0,0,1,0,1,1],[2,0,0,1,0,1,1],[1,0],[0,1,1,1]],[1,2],1,⟨[.al 0 0,.fd (.int .i64)],[CT.b0]⟩⟩
def Ka.p:Aj:=⟨[(3,Ka.q3)],0,⟨[],[]⟩,⟨[.al 0 0],[CT.b0]⟩,false,[],[]⟩
theorem Ka.ok:AH Dop.D4 prog 30 Ka.p=true:=by kernel_rfl
abbrev Gs.q5:Cut:=⟨[[0,0,0,0,1,0,1,1,1,1],[0,1,0,0,1,0,1,1,1,1],[2,0,0,1,0,1,1,1,1],[1,0],[0,1,1,1,1,1]],[2,5,6,30,31,32],4,⟨[.al 1 0,.al 2 0,.rw 0,.rw 0,.fd (.int .i64),.fd (.int .i64)],[⟨0,0,[.own 0 3],true⟩,⟨1,44,[.own 11 83,.own 12 63,.fd (.int .i64),.own 5 89],false⟩,CH.b2,⟨3,117,[.own 6 111,.mp (.str) 17 false],false⟩]⟩⟩
abbrev Gs.oz:Cut:=⟨[[0,0,0,0,1,0,1,1,1,1,1],[0,1,0,0,1,0,1,1,1,1,1],[2,0,0,1,0,1,1,1,1,1],[1,3],[0,1,1,1,1,1,1]],[2,5,60,61,62],3,⟨[.al 0 0,.al 1 0,.own 0 3,.fd (.int .i64),.fd (.int .i64)],[⟨0,44,[.own 11 83,.own 12 63,.fd (.int .i64),.own 5 89],false⟩,CH.b1,CT.b2]⟩⟩
abbrev Gs.o7:Cut:=⟨[[0,0,0,1,1,1,1,1,1,1,1],[0,1,0,1,1,1,1,1,1,1,1],[0,1,1,1,1,1,1,1,1,1]],[2,5],3,⟨[.al 0 0,.al 1 0],[⟨0,44,[.own 11 83,.own 12 63,.fd (.int .i64),.own 5 89],false⟩,CH.b1,CT.b2]⟩⟩
def Gs.p:Aj:=⟨[(5,Gs.q5),(17,Gs.oz),(26,Gs.o7)],0,⟨[.st 7],[]⟩,⟨[.st 13,.fd (.int .i64),.fd (.int .i64)],[]⟩,false,[(1,⟨[(0,false),(1,false),(2,false),(3,false),(4,false),(5,true),(6,false),(7,true)],[1000002],[0,0,0,4,0,31,63,127],false⟩),(27,⟨[(0,true),(1,true),(2,true),(3,true),(4,false),(5,true),(6,true),(7,true),(8,false),(9,false),(10,true),(11,true)],[1000002],[0,0,2,6,14,0,32,96,224,1,543,2047],false⟩)],[]⟩
theorem Gs.ok:AH Dop.D4 prog 17 Gs.p=true:=by kernel_rfl
def m18.p:Aj:=⟨[],0,⟨[.fd .str],[]⟩,⟨[.st 13,.fd (.int .i64),.fd (.int .i64)],[]⟩,false,[],[]⟩
theorem m18.ok:AH Dop.D4 prog 10 m18.p=true:=by kernel_rfl
end Go.Proofs.Tryz
namespace Go.Proofs
open Go Go.En
abbrev ER:Type:=En.Dop.Hm×List (Int)×Int×List (Int)×List (Int)×Int×Int×Int×Int×Unit×Unit
abbrev ER.p (k:ER):En.Dop.Hm:=k.1
abbrev ER.mem (k:ER):List (Int):=k.2.1
abbrev ER.Zk (k:ER) (v:List (Int)):ER:=(k.1,v,k.2.2)
abbrev ER.sp (k:ER):Int:=k.2.2.1
abbrev ER.Zl (k:ER) (v:Int):ER:=(k.1,k.2.1,v,k.2.2.2)
abbrev ER.input (k:ER):List (Int):=k.2.2.2.1
abbrev ER.cF (k:ER) (v:List (Int)):ER:=(k.1,k.2.1,k.2.2.1,v,k.2.2.2.2)
abbrev ER.out (k:ER):List (Int):=k.2.2.2.2.1
abbrev ER.lE (k:ER) (v:List (Int)):ER:=(k.1,k.2.1,k.2.2.1,k.2.2.2.1,v,k.2.2.2.2.2)
abbrev ER.fuel (k:ER):Int:=k.2.2.2.2.2.1
abbrev ER.gi (k:ER) (v:Int):ER:=(k.1,k.2.1,k.2.2.1,k.2.2.2.1,k.2.2.2.2.1,v,k.2.2.2.2.2.2)
abbrev ER.end_ (k:ER):Int:=k.2.2.2.2.2.2.1
abbrev ER.gd (k:ER) (v:Int):ER:=(k.1,k.2.1,k.2.2.1,k.2.2.2.1,k.2.2.2.2.1,k.2.2.2.2.2.1,v,k.2.2.2.2.2.2.2)
abbrev ER.code (k:ER):Int:=k.2.2.2.2.2.2.2.1
abbrev ER.ga (k:ER) (v:Int):ER:=(k.1,k.2.1,k.2.2.1,k.2.2.2.1,k.2.2.2.2.1,k.2.2.2.2.2.1,k.2.2.2.2.2.2.1,v,k.2.2.2.2.2.2.2.2)
abbrev ER.b0:En.Gx:=⟨0,61,[.st 13,.own 0 3,.st 0,.fd (.sl 3),.own 3 5,.st 0,.st 0,.st 0,.st 0,.hm],false⟩
abbrev ER.b1:En.Gx:=⟨1,61,[.st 13,.own 0 3,.st 0,.fd (.sl 3),.own 3 5,.st 0,.st 0,.st 0,.st 0,.hm],false⟩
abbrev ER.b2:En.Gx:=⟨2,61,[.st 13,.own 0 3,.st 0,.fd (.sl 3),.own 3 5,.st 0,.st 0,.st 0,.st 0,.hm],false⟩
abbrev EF:Type:=En.Dop.Ey×List (Int)×Int×Int×List UInt8×Int×Int×Unit
abbrev EF.A7 (k:EF):List (Int):=k.2.1
abbrev EF.gj (k:EF) (v:List (Int)):EF:=(k.1,v,k.2.2)
abbrev EF.base (k:EF):Int:=k.2.2.1
abbrev EF.told (k:EF):Int:=k.2.2.2.1
abbrev EF.Zm (k:EF) (v:Int):EF:=(k.1,k.2.1,k.2.2.1,v,k.2.2.2.2)
abbrev EF.qC (k:EF):List UInt8:=k.2.2.2.2.1
abbrev EF.lF (k:EF) (v:List UInt8):EF:=(k.1,k.2.1,k.2.2.1,k.2.2.2.1,v,k.2.2.2.2.2)
abbrev EF.key (k:EF):Int:=k.2.2.2.2.2.1
abbrev EF.OG (k:EF):Int:=k.2.2.2.2.2.2.1
abbrev EF.Qj (k:EF) (v:Int):EF:=(k.1,k.2.1,k.2.2.1,k.2.2.2.1,k.2.2.2.2.1,k.2.2.2.2.2.1,v,k.2.2.2.2.2.2.2)
abbrev EF.b1:En.Gx:=⟨1,97,[.st 11,.own 0 3,.st 0,.st 0,.st 1,.st 0,.st 0],false⟩
abbrev EF.b2:En.Gx:=⟨2,97,[.st 11,.own 0 3,.st 0,.st 0,.st 1,.st 0,.st 0],false⟩
end Go.Proofs
namespace Go.Proofs.Tryz
open Go Go.En
def Yg.p:Aj:=⟨[],1,⟨[.st 11,.al 0 0],[⟨0,9,[.st 1],false⟩]⟩,⟨[.fd .bool],[⟨0,9,[.fd .str],false⟩]⟩,true,[],[]⟩
theorem Yg.ok:AH Dop.D4 prog 40 Yg.p=true:=by kernel_rfl
abbrev BY.q2:Cut:=⟨[[0,0,0,0,1,0,1],[0,1,0,0,1,0,1],[2,0,0,1,0,1],[1,0],[0,1,1]],[0,1,7,8],1,⟨[.fd (.sl 11),.fn 40 [(0,0)],.fd (.int .i64),.fd (.int .i64)],[⟨0,9,[.fd .str],false⟩]⟩⟩
def BY.p:Aj:=⟨[(2,BY.q2)],1,⟨[.fd (.sl 11),.fn 40 [(0,0)]],[⟨0,9,[.st 1],false⟩]⟩,⟨[.fd (.int .i64)],[⟨0,9,[.fd .str],false⟩]⟩,true,[],[]⟩
theorem BY.ok:AH Dop.D4 prog 39 BY.p=true:=by kernel_rfl
def Sc.p:Aj:=⟨[],0,⟨[.st 13,.fd .str],[]⟩,⟨[.fd (.int .i64)],[]⟩,true,[],[]⟩
theorem Sc.ok:AH Dop.D4 prog 19 Sc.p=true:=by kernel_rfl
def MX.p:Aj:=⟨[],1,⟨[.al 0 0,.fd (.int .i64),.fd (.int .i64)],[ER.b0]⟩,⟨[.fd (.int .i64)],[ER.b0]⟩,false,[],[]⟩
theorem MX.ok:AH Dop.D4 prog 20 MX.p=true:=by kernel_rfl
def NZ.p:Aj:=⟨[],0,⟨[.st 13,.fd (.int .i64)],[]⟩,⟨[.st 5],[]⟩,true,[],[]⟩
theorem NZ.ok:AH Dop.D4 prog 126 NZ.p=true:=by kernel_rfl
abbrev DH.q3:Cut:=⟨[[0,0,0,0,1,0,1,1],[0,1,0,0,1,0,1,1],[2,0,0,1,0,1,1],[1,0],[0,1,1,1]],[1,2,5,9,10],1,⟨[.fd (.int .i64),.al 0 0,.own 0 3,.fd (.int .i64),.fd (.int .i64)],[⟨0,44,[.st 13],false⟩]⟩⟩
def DH.p:Aj:=⟨[(3,DH.q3)],0,⟨[.st 13,.fd (.int .i64)],[]⟩,⟨[.own 0 3],[]⟩,true,[],[]⟩
theorem DH.ok:AH Dop.D4 prog 105 DH.p=true:=by kernel_rfl
abbrev Da.q9:Cut:=⟨[[0,0,0,1,1,1,0,1,0,1,1,1],[0,1,0,1,1,1,0,1,0,1,1,1],[1,0],[0,1,1,1,1]],[3,5,7],5,⟨[.al 2 0,.al 3 0,.al 4 0],[ER.b0,EF.b1,⟨2,58,[.al 0 0],false⟩,⟨3,95,[.al 1 0],false⟩,⟨4,89,[.st 5],false⟩]⟩⟩
abbrev Da.WK:Cut:=⟨[[0,0,1,1,1,1,0,1,0,1,1,1],[0,1,1,1,1,1,0,1,0,1,1,1],[1,0],[0,1,1,1,1]],[3,5,7,19],5,⟨[.al 2 0,.al 3 0,.al 4 0,.fd (.int .i64)],[ER.b0,EF.b1,⟨2,58,[.al 0 0],false⟩,⟨3,95,[.al 1 0],false⟩,⟨4,89,[.st 5],false⟩]⟩⟩
def Da.p:Aj:=⟨[(9,Da.q9),(10,Da.WK)],2,⟨[.al 0 0,.fd (.int .i64),.al 1 0],[ER.b0,EF.b1]⟩,⟨[.fd .bool],[ER.b0,EF.b1]⟩,false,[(6,⟨[(0,false),(1,true),(2,true),(3,false),(4,true),(5,true),(6,true),(7,false),(8,false),(9,true),(10,true),(11,false),(12,true),(13,true),(14,true),(15,false),(16,true),(17,false),(18,false),(19,false),(20,true),(21,true)],[2000003,2000005],[0,1,3,7,15,31,63,127,63,319,831,1855,4095,8191,16383,32767,32767,98303,32767,524287,1048575,2097151],false⟩),(9,⟨[(0,false),(1,true),(2,true),(3,false),(4,true),(5,true),(6,true),(7,false),(8,true),(9,true),(10,true),(11,true),(12,false),(13,false),(14,true),(15,true),(16,false),(17,true),(18,true),(19,true),(20,false),(21,true),(22,true),(23,false),(24,true),(25,true),(26,true),(27,false),(28,true),(29,true),(30,true),(31,true),(32,false),(33,true),(34,false),(35,false),(36,false),(37,true),(38,true)],[2000003,2000005],[0,1,3,7,15,31,63,127,255,511,1023,2047,4095,2047,10239,26623,59391,131071,262143,524287,1048575,2097151,4194303,8388607,16777215,33554431,67108863,134217727,268435455,536870911,1073741823,2147483647,4294967295,4294967295,12884901887,4294967295,68719476735,137438953471,274877906943],false⟩),(20,⟨[(0,false),(1,true),(2,true),(3,false),(4,true),(5,false),(6,false),(7,true),(8,false),(9,true)],[2000003,2000005],[0,1,3,7,0,16,63,0,255,511],true⟩)],[]⟩
theorem Da.ok:AH Dop.D4 prog 64 Da.p=true:=by kernel_rfl
def B5.p:Aj:=⟨[],4,⟨[.own 0 3,.fn 106 [(0,0),(2,0)]],[⟨0,58,[.al 1 0],false⟩,ER.b1,⟨2,95,[.al 3 0],false⟩,⟨3,97,[.st 11,.own 0 3,.st 0,.st 0,.st 1,.st 0,.st 0],false⟩]⟩,⟨[.fd .bool],[⟨0,58,[.al 1 0],false⟩,ER.b1,⟨2,95,[.al 3 0],false⟩,⟨3,97,[.st 11,.own 0 3,.st 0,.st 0,.st 1,.st 0,.st 0],false⟩]⟩,false,[],[]⟩
theorem B5.ok:AH Dop.D4 prog 104 B5.p=true:=by kernel_rfl
abbrev Bb.q2:Cut:=⟨[[0,0,0,0,1,0,1],[0,1,0,0,1,0,1],[2,0,0,1,0,1],[1,0],[0,1,1]],[0,1,7,8],4,⟨[.own 0 3,.fn 106 [(0,0),(2,0)],.fd (.int .i64),.fd (.int .i64)],[⟨0,58,[.al 1 0],false⟩,ER.b1,⟨2,95,[.al 3 0],false⟩,⟨3,97,[.st 11,.own 0 3,.st 0,.st 0,.st 1,.st 0,.st 0],false⟩]⟩⟩
def Bb.p:Aj:=⟨[(2,Bb.q2)],4,⟨[.own 0 3,.fn 106 [(0,0),(2,0)]],[⟨0,58,[.al 1 0],false⟩,ER.b1,⟨2,95,[.al 3 0],false⟩,⟨3,97,[.st 11,.own 0 3,.st 0,.st 0,.st 1,.st 0,.st 0],false⟩]⟩,⟨[.fd (.int .i64)],[⟨0,58,[.al 1 0],false⟩,ER.b1,⟨2,95,[.al 3 0],false⟩,⟨3,97,[.st 11,.own 0 3,.st 0,.st 0,.st 1,.st 0,.st 0],false⟩]⟩,false,[],[]⟩
theorem Bb.ok:AH Dop.D4 prog 125 Bb.p=true:=by kernel_rfl
def Iu.p:Aj:=⟨[],4,⟨[.fd (.int .i64),.al 0 0,.al 2 0],[⟨0,58,[.al 1 0],false⟩,ER.b1,⟨2,95,[.al 3 0],false⟩,⟨3,97,[.st 11,.own 0 3,.st 0,.st 0,.st 1,.st 0,.st 0],false⟩]⟩,⟨[.fd .bool],[⟨0,58,[.al 1 0],false⟩,ER.b1,⟨2,95,[.al 3 0],false⟩,⟨3,97,[.st 11,.own 0 3,.st 0,.st 0,.st 1,.st 0,.st 0],false⟩]⟩,false,[],[]⟩
theorem Iu.ok:AH Dop.D4 prog 106 Iu.p=true:=by kernel_rfl
abbrev Ec.T:Type:=(((Unit×Int×Unit×Unit)×(ER×EF×Unit))->Option ((Bool×Unit)×(ER×EF×Unit)))×(((List Int×Unit×Unit)×((Unit×Unit)×ER×(Unit×Unit)×EF×Unit))->Option ((Bool×Unit)×((Unit×Unit)×ER×(Unit×Unit)×EF×Unit)))×(((List Int×Unit×Unit)×((Unit×Unit)×ER×(Unit×Unit)×EF×Unit))->Option ((Int×Unit)×((Unit×Unit)×ER×(Unit×Unit)×EF×Unit)))×(((Int×Unit×Unit×Unit)×((Unit×Unit)×ER×(Unit×Unit)×EF×Unit))->Option ((Bool×Unit)×((Unit×Unit)×ER×(Unit×Unit)×EF×Unit)))×Unit
noncomputable def Ec.ct (r:Ec.T):List (BU Dop.D4):=[⟨64,Da.p.bn,Da.p.sp,Da.p.rs,Da.p.flat,.opt (r.1)⟩,⟨104,B5.p.bn,B5.p.sp,B5.p.rs,B5.p.flat,.opt (r.2.1)⟩,⟨125,Bb.p.bn,Bb.p.sp,Bb.p.rs,Bb.p.flat,.opt (r.2.2.1)⟩,⟨106,Iu.p.bn,Iu.p.sp,Iu.p.rs,Iu.p.flat,.opt (r.2.2.2.1)⟩]
def FH.p:Aj:=⟨[],1,⟨[.al 0 0],[ER.b0]⟩,⟨[.fd .bool],[ER.b0]⟩,false,[],[]⟩
theorem FH.ok:AH Dop.D4 prog 38 FH.p=true:=by kernel_rfl
def Ge.p:Aj:=⟨[],0,⟨[.fd (.int .i64)],[]⟩,⟨[.fd (.int .i64)],[]⟩,true,[],[]⟩
theorem Ge.ok:AH Dop.D4 prog 190 Ge.p=true:=by kernel_rfl
def DC.p:Aj:=⟨[],0,⟨[.fd (.int .i64)],[]⟩,⟨[.fd (.int .i64),.fd .bool],[]⟩,true,[],[]⟩
theorem DC.ok:AH Dop.D4 prog 191 DC.p=true:=by kernel_rfl
abbrev DP.q3:Cut:=⟨[[0,0,1,2,0,1],[0,1,1,2,0,1],[3,0,1]],[],0,⟨[],[]⟩⟩
def DP.p:Aj:=⟨[(3,DP.q3)],0,⟨[.fd (.int .i64),.fd (.int .i64)],[]⟩,⟨[.fd (.int .i64),.fd (.int .i64),.fd .bool],[]⟩,true,[(2,⟨[(0,true),(1,true),(2,true),(3,true),(4,true),(5,true),(6,true),(7,true),(8,true)],[],[0,0,3,0,0,24,7,127,255],false⟩)],[]⟩
theorem DP.ok:AH Dop.D4 prog 192 DP.p=true:=by kernel_rfl
def GD.p:Aj:=⟨[],0,⟨[.fd .bool],[]⟩,⟨[.fd (.int .i64)],[]⟩,true,[],[]⟩
theorem GD.ok:AH Dop.D4 prog 193 GD.p=true:=by kernel_rfl
abbrev An.oy:Cut:=⟨[[0,0,0,1,1,1,1,1,1,1,0,1,0,1,1,1],[0,1,0,1,1,1,1,1,1,1,0,1,0,1,1,1],[1,0],[0,1,1,1,1]],[0,1,2],0,⟨[.fd (.int .i64),.fd (.int .i64),.fd (.int .i64)],[]⟩⟩
abbrev An.gC:Cut:=⟨[[0,0,0,1,1,1,1,1,1,1,1,0,1,0,1,1,1],[0,1,0,1,1,1,1,1,1,1,1,0,1,0,1,1,1],[0,1,1,1,1,1,1,1,1,1,0,1,0,1,1,1],[1,0],[0,1,1,1,1]],[0,1,2,8,19],0,⟨[.fd (.int .i64),.fd (.int .i64),.fd (.int .i64),.fn 191 [],.fd (.int .i64)],[]⟩⟩
abbrev An.gB:Cut:=⟨[[0,0,1,1,0,1,1,1,1,1,1,1,0,1,0,1,1,1],[0,1,1,1,0,1,1,1,1,1,1,1,0,1,0,1,1,1],[1,0],[0,1,1,1,1]],[9,11],0,⟨[.fd (.int .i64),.fd .bool],[]⟩⟩
abbrev An.dP:Cut:=⟨[[0,0,0,1,1,1,1,1,1,1,1,1,0,1,0,1,1,1],[0,1,0,1,1,1,1,1,1,1,1,1,0,1,0,1,1,1],[1,0],[0,1,1,1,1]],[0,1,2],0,⟨[.fd (.int .i64),.fd (.int .i64),.fd (.int .i64)],[]⟩⟩
abbrev An.ki:Cut:=⟨[[0,0,1,1,1,1,1,1,1,1,1,1,0,1,0,1,1,1],[0,1,1,1,1,1,1,1,1,1,1,1,0,1,0,1,1,1],[1,0],[0,1,1,1,1]],[1,2,8,19],0,⟨[.fd (.int .i64),.fd (.int .i64),.fn 191 [],.fd (.int .i64)],[]⟩⟩
abbrev An.mm:Cut:=⟨[[0,0,1,1,0,1,1,1,1,1,1,1,1,1,0,1,0,1,1,1],[0,1,1,1,0,1,1,1,1,1,1,1,1,1,0,1,0,1,1,1],[1,0],[0,1,1,1,1]],[12,14],0,⟨[.fd (.int .i64),.fd .bool],[]⟩⟩
def An.p:Aj:=⟨[(12,An.oy),(16,An.gC),(15,An.gB),(18,An.dP),(22,An.ki),(21,An.mm)],0,⟨[.fd (.int .i64),.fd (.int .i64),.fd (.int .i64)],[]⟩,⟨[.fd (.int .i64),.fd .bool],[]⟩,true,[],[]⟩
theorem An.ok:AH Dop.D4 prog 161 An.p=true:=by kernel_rfl
def KH.p:Aj:=⟨[],0,⟨[.fd .bool],[]⟩,⟨[.fd (.int .i64)],[]⟩,true,[],[]⟩
theorem KH.ok:AH Dop.D4 prog 130 KH.p=true:=by kernel_rfl
abbrev I5.q4:Cut:=⟨[[0,0,0,0,1,0,1,1],[0,1,0,0,1,0,1,1],[2,0,0,1,0,1,1],[1,0],[0,1,1,1]],[0,1,12,13],0,⟨[.fd (.sl 3),.fd (.sl 3),.fd (.int .i64),.fd (.int .i64)],[]⟩⟩
def I5.p:Aj:=⟨[(4,I5.q4)],0,⟨[.fd (.sl 3),.fd (.sl 3)],[]⟩,⟨[.fd .bool],[]⟩,true,[(6,⟨[(0,true),(1,true),(2,false),(3,false),(4,true),(5,true),(6,false),(7,false),(8,true)],[],[0,0,3,7,0,0,48,112,255],false⟩)],[]⟩
theorem I5.ok:AH Dop.D4 prog 15 I5.p=true:=by kernel_rfl
def Ti.p:Aj:=⟨[],0,⟨[.st 19,.st 19],[]⟩,⟨[.fd .bool],[]⟩,true,[],[]⟩
theorem Ti.ok:AH Dop.D4 prog 9 Ti.p=true:=by kernel_rfl
end Go.Proofs.Tryz
namespace Go.Proofs.Tryz
open Go Go.En
abbrev m64.q9:Cut:=⟨[[0,0,0,1,1,1,1,1,1,1,0,1],[0,1,0,1,1,1,1,1,1,1,0,1],[0,1,1,1,1,1,1,1,1,0,1],[3,0,1]],[0,7,8],3,⟨[.al 0 0,.al 1 0,.al 2 0],[ER.b0,⟨1,83,[.st 11],false⟩,EF.b2]⟩⟩
abbrev m64.VE:Cut:=⟨[[0,0,0,1,2,0,1],[0,1,0,1,2,0,1],[0,1,1,2,0,1],[3,0,1]],[0,7,8],3,⟨[.al 0 0,.al 1 0,.al 2 0],[ER.b0,⟨1,83,[.st 11],false⟩,EF.b2]⟩⟩
def m64.p:Aj:=⟨[(9,m64.q9),(100009,m64.VE)],1,⟨[.al 0 0,.fd (.int .i64),.fd (.sl 0)],[ER.b0]⟩,⟨[.fd (.int .i64)],[ER.b0]⟩,false,[(4,⟨[(0,true),(1,true),(2,true),(3,false),(4,true),(5,false),(6,true),(7,true),(8,true),(9,true),(10,false),(11,false),(12,true)],[],[0,1,3,7,0,16,63,0,128,384,896,1920,4095],false⟩),(6,⟨[(0,false),(1,true),(2,false),(3,false),(4,true),(5,true),(6,true),(7,false),(8,true),(9,false),(10,true)],[],[0,0,2,6,0,16,48,112,255,511,1023],false⟩),(8,⟨[(0,true),(1,true),(2,true),(3,false),(4,true),(5,false),(6,true),(7,true),(8,true)],[9],[0,1,3,7,0,16,63,127,255,511],false⟩),(11,⟨[(0,true),(1,true),(2,true),(3,false),(4,true),(5,false),(6,true),(7,true),(8,true)],[9],[0,1,3,7,0,16,63,127,255,511],false⟩)],[]⟩
theorem m64.ok:AH Dop.D4 prog 18 m64.p=true:=by kernel_rfl
def DA.p:Aj:=⟨[],2,⟨[.al 0 0,.fd (.int .i64),.al 1 0],[ER.b0,EF.b1]⟩,⟨[.fd (.int .i64)],[ER.b0,EF.b1]⟩,false,[],[]⟩
theorem DA.ok:AH Dop.D4 prog 37 DA.p=true:=by kernel_rfl
abbrev BW.dP:Cut:=⟨[[0,0,1,1,1,1,1,1,0,1,0,1],[0,1,1,1,1,1,1,1,0,1,0,1],[1,0],[0,1,1]],[0,2,4,11],3,⟨[.al 0 0,.al 1 0,.al 2 0,.fd (.int .i64)],[ER.b0,EF.b1,⟨2,89,[.st 5],false⟩]⟩⟩
abbrev BW.pC:Cut:=⟨[[0,0,0,0,1,1,1,1,1,1,1,1,1,1,1,1,1,1,1,1,1,0,1,0,1],[0,1,0,0,1,1,1,1,1,1,1,1,1,1,1,1,1,1,1,1,1,0,1,0,1],[0,1,0,1,1,1,1,1,1,1,1,1,1,1,1,1,1,1,1,1,0,1,0,1],[1,0],[0,1,1]],[0,2,4],3,⟨[.al 0 0,.al 1 0,.al 2 0],[ER.b0,EF.b1,⟨2,89,[.st 5],false⟩]⟩⟩
abbrev BW.pD:Cut:=⟨[[0,0,1,1,1,1,1,1,1,1,1,1,1,1,1,1,1,1,1,1,0,1,0,1],[0,1,1,1,1,1,1,1,1,1,1,1,1,1,1,1,1,1,1,1,0,1,0,1],[1,0],[0,1,1]],[0,2,4,11],3,⟨[.al 0 0,.al 1 0,.al 2 0,.fd (.int .i64)],[ER.b0,EF.b1,⟨2,89,[.st 5],false⟩]⟩⟩
abbrev BW.pG:Cut:=⟨[[0,0,0,0,1,0,1,1,1,1,1,1,1,1,1,1,1,1,1,1,1,1,1,1,1,1,1,0,1,0,1],[0,1,0,0,1,0,1,1,1,1,1,1,1,1,1,1,1,1,1,1,1,1,1,1,1,1,1,0,1,0,1],[2,0,0,1,0,1,1,1,1,1,1,1,1,1,1,1,1,1,1,1,1,1,1,1,1,1,0,1,0,1],[1,1],[1,0],[0,1,1]],[0,2,182,183,184],2,⟨[.al 0 0,.al 1 0,.own 0 3,.fd (.int .i64),.fd (.int .i64)],[ER.b0,EF.b1]⟩⟩
def BW.p:Aj:=⟨[(18,BW.dP),(35,BW.pC),(38,BW.pD),(42,BW.pG)],2,⟨[.al 0 0,.st 5,.al 1 0],[ER.b0,EF.b1]⟩,⟨[.fd (.int .i64)],[ER.b0,EF.b1]⟩,false,[(30,⟨[(0,true),(1,true),(2,true),(3,false),(4,true),(5,true),(6,true),(7,true),(8,true),(9,false),(10,true),(11,false),(12,true),(13,true)],[],[0,1,3,7,15,31,63,127,255,511,63,1087,4095,8191],false⟩),(35,⟨[(0,true),(1,true),(2,true),(3,false),(4,true),(5,true),(6,true),(7,false),(8,true),(9,true),(10,true),(11,true),(12,false),(13,true),(14,true),(15,true),(16,false),(17,true),(18,true),(19,true),(20,true),(21,true),(22,true),(23,false),(24,true),(25,true),(26,true),(27,false),(28,true),(29,true),(30,true)],[],[0,1,3,7,15,31,63,127,255,511,1023,2047,4095,2047,10239,26623,59391,131071,262143,524287,1048575,2097151,4194303,8388607,16777215,33554431,67108863,134217727,268435455,536870911,1073741823],false⟩),(41,⟨[(0,true),(1,true),(2,true),(3,false),(4,true),(5,false),(6,false),(7,false),(8,true)],[],[0,1,3,7,0,16,63,127,0],true⟩)],[]⟩
theorem BW.ok:AH Dop.D4 prog 65 BW.p=true:=by kernel_rfl
abbrev BH.gB:Cut:=⟨[[0,0,1,1,1,1,1,1,1,1,0,1,0,1,1,1,1],[0,1,1,1,1,1,1,1,1,1,0,1,0,1,1,1,1],[1,0],[0,1,1,1,1,1]],[3,5,7,8,28],5,⟨[.al 2 0,.al 3 0,.al 4 0,.fn 127 [(2,0),(3,0)],.fd (.int .i64)],[ER.b0,EF.b1,⟨2,58,[.al 0 0],false⟩,⟨3,95,[.al 1 0],false⟩,⟨4,89,[.st 5],false⟩]⟩⟩
abbrev BH.kj:Cut:=⟨[[0,0,1,1,1,1,1,1,1,1,1,1,1,1,0,1,0,1,1,1,1],[0,1,1,1,1,1,1,1,1,1,1,1,1,1,0,1,0,1,1,1,1],[1,0],[0,1,1,1,1,1]],[3,7,8,28],5,⟨[.al 2 0,.al 3 0,.fn 127 [(2,0),(4,0)],.fd (.int .i64)],[ER.b0,EF.b1,⟨2,58,[.al 0 0],false⟩,⟨3,89,[.st 5],false⟩,⟨4,95,[.al 1 0],false⟩]⟩⟩
abbrev BH.pB:Cut:=⟨[[0,0,0,0,1,0,1,0,1,1,1,1,1,1,1,1,1,1,1,1,1,1,1,1,1,1,1,0,1,0,1,1,1,1],[0,1,0,0,1,0,1,0,1,1,1,1,1,1,1,1,1,1,1,1,1,1,1,1,1,1,1,0,1,0,1,1,1,1],[2,0,0,1,0,1,0,1,1,1,1,1,1,1,1,1,1,1,1,1,1,1,1,1,1,1,0,1,0,1,1,1,1],[1,1],[0,1,1,0,1,1,1,1,1,1,1,1,1,1,1,1,1,1,1,1,1,1,1,0,1,0,1,1,1,1],[1,0],[0,1,1,1,1,1]],[3,7,8,10,140,141,142],5,⟨[.al 2 0,.al 3 0,.fn 127 [(2,0),(4,0)],.own 0 3,.own 0 3,.fd (.int .i64),.fd (.int .i64)],[ER.b0,EF.b1,⟨2,58,[.al 0 0],false⟩,⟨3,89,[.st 5],false⟩,⟨4,95,[.al 1 0],false⟩]⟩⟩
def BH.p:Aj:=⟨[(15,BH.gB),(23,BH.kj),(34,BH.pB)],2,⟨[.al 0 0,.fd (.int .i64),.al 1 0],[ER.b0,EF.b1]⟩,⟨[.fd (.int .i64)],[ER.b0,EF.b1]⟩,false,[(9,⟨[(0,false),(1,true),(2,true),(3,false),(4,true),(5,false),(6,false),(7,false),(8,true)],[],[0,1,3,7,0,16,63,127,255],false⟩),(11,⟨[(0,false),(1,true),(2,true),(3,false),(4,true),(5,false),(6,true),(7,false),(8,true)],[],[0,1,3,7,0,16,63,127,255],false⟩),(18,⟨[(0,false),(1,true),(2,true),(3,false),(4,true),(5,false),(6,true),(7,false)],[8],[0,1,3,7,0,16,0,127,255],false⟩),(33,⟨[(0,false),(1,true),(2,true),(3,false),(4,true),(5,false),(6,false),(7,false),(8,true)],[],[0,1,3,7,0,16,63,127,0],true⟩),(38,⟨[(0,false),(1,false),(2,true),(3,true),(4,false),(5,true),(6,false),(7,false),(8,true),(9,false),(10,true)],[2000003,9000000],[0,0,2,6,14,0,32,126,0,511,1023],true⟩),(43,⟨[(0,false),(1,false),(2,true),(3,true),(4,false),(5,true),(6,true),(7,true)],[8],[0,0,2,6,14,30,63,127,255],false⟩),(48,⟨[(0,false),(1,false),(2,true),(3,true),(4,false),(5,true),(6,true),(7,false),(8,false),(9,true),(10,true)],[11],[0,0,2,6,14,0,32,96,254,511,1023,2047],false⟩)],[]⟩
theorem BH.ok:AH Dop.D4 prog 107 BH.p=true:=by kernel_rfl
def Iv.p:Aj:=⟨[],2,⟨[.al 0 0,.st 5,.al 1 0],[ER.b0,EF.b1]⟩,⟨[.fd (.int .i64)],[ER.b0,EF.b1]⟩,false,[],[(160,[])]⟩
theorem Iv.ok:AH Dop.D4 prog 128 Iv.p=true:=by kernel_rfl
def Fb.p:Aj:=⟨[],4,⟨[.fd (.int .i64),.al 0 0,.al 2 0],[⟨0,58,[.al 1 0],false⟩,ER.b1,⟨2,95,[.al 3 0],false⟩,⟨3,97,[.st 11,.own 0 3,.st 0,.st 0,.st 1,.st 0,.st 0],false⟩]⟩,⟨[.fd (.int .i64)],[⟨0,58,[.al 1 0],false⟩,ER.b1,⟨2,95,[.al 3 0],false⟩,⟨3,97,[.st 11,.own 0 3,.st 0,.st 0,.st 1,.st 0,.st 0],false⟩]⟩,false,[],[]⟩
theorem Fb.ok:AH Dop.D4 prog 127 Fb.p=true:=by kernel_rfl
def HH.p:Aj:=⟨[],2,⟨[.al 0 0,.st 5,.al 1 0],[ER.b0,EF.b1]⟩,⟨[.fd (.int .i64)],[ER.b0,EF.b1]⟩,false,[],[]⟩
theorem HH.ok:AH Dop.D4 prog 129 HH.p=true:=by kernel_rfl
abbrev Bn.q6:Cut:=⟨[[0,0,1,1,1],[0,1,1,1,1]],[0,2,4,7],3,⟨[.al 0 0,.al 1 0,.al 2 0,.fd (.int .i64)],[ER.b0,EF.b1,⟨2,89,[.st 5],false⟩]⟩⟩
abbrev Bn.q7:Cut:=⟨[[0,0,0,0,0,1,1,1,1],[0,1,0,0,0,1,1,1,1],[1,1],[2,0,0,1,1,1,1],[1,0]],[0,2,4,7,8],3,⟨[.al 0 0,.al 1 0,.al 2 0,.fd (.int .i64),.fd .bool],[ER.b0,EF.b1,⟨2,89,[.st 5],false⟩]⟩⟩
abbrev Bn.WK:Cut:=⟨[[0,0,0,1,1,0,0,0,1,1,1,1],[0,1,0,1,1,0,0,0,1,1,1,1],[0,1,1,1,0,0,0,1,1,1,1],[1,1],[2,0,0,1,1,1,1],[1,0]],[0,2,4,7,8,9],3,⟨[.al 0 0,.al 1 0,.al 2 0,.fd (.int .i64),.fd .bool,.fd (.int .i64)],[ER.b0,EF.b1,⟨2,89,[.st 5],false⟩]⟩⟩
abbrev Bn.ki:Cut:=⟨[[0,0,0,1,1,1,0,1,1,0,1,1,1,1,1,0,0,0,1,1,1,1],[0,1,0,1,1,1,0,1,1,0,1,1,1,1,1,0,0,0,1,1,1,1],[1,2],[0,1,1,1,1,1,1,0,0,0,1,1,1,1],[1,1],[2,0,0,1,1,1,1],[1,0]],[10],2,⟨[.fd (.int .i64)],[ER.b0,EF.b1]⟩⟩
abbrev Bn.kj:Cut:=⟨[[0,0,0,1,1,1,1,1,1,0,0,0,1,1,1,1],[0,1,0,1,1,1,1,1,1,0,0,0,1,1,1,1],[0,1,1,1,1,1,1,1,0,0,0,1,1,1,1],[1,1],[2,0,0,1,1,1,1],[1,0]],[0,2,4,7,8],3,⟨[.al 0 0,.al 1 0,.al 2 0,.fd (.int .i64),.fd .bool],[ER.b0,EF.b1,⟨2,89,[.st 5],false⟩]⟩⟩
abbrev Bn.o6:Cut:=⟨[[0,0,1,1,1,1,1,1,1,0,0,0,1,1,1,1],[0,1,1,1,1,1,1,1,1,0,0,0,1,1,1,1],[1,1],[2,0,0,1,1,1,1],[1,0]],[0,2,4,7,8],3,⟨[.al 0 0,.al 1 0,.al 2 0,.fd (.int .i64),.fd .bool],[ER.b0,EF.b1,⟨2,89,[.st 5],false⟩]⟩⟩
def Bn.p:Aj:=⟨[(6,Bn.q6),(7,Bn.q7),(10,Bn.WK),(22,Bn.ki),(23,Bn.kj),(25,Bn.o6)],2,⟨[.al 0 0,.st 5,.al 1 0],[ER.b0,EF.b1]⟩,⟨[.fd (.int .i64)],[ER.b0,EF.b1]⟩,false,[],[]⟩
theorem Bn.ok:AH Dop.D4 prog 108 Bn.p=true:=by kernel_rfl
def Ha.p:Aj:=⟨[],2,⟨[.al 0 0,.st 5,.al 1 0],[ER.b0,EF.b1]⟩,⟨[.fd (.int .i64)],[ER.b0,EF.b1]⟩,false,[],[]⟩
theorem Ha.ok:AH Dop.D4 prog 109 Ha.p=true:=by kernel_rfl
abbrev B8.T:Type:=(((Unit×Int×List Int×Unit)×(ER×Unit))->Option ((Int×Unit)×(ER×Unit)))×(((Unit×Int×Unit×Unit)×(ER×EF×Unit))->Option ((Int×Unit)×(ER×EF×Unit)))×(((Unit×Dop.AV×Unit×Unit)×(ER×EF×Unit))->Option ((Int×Unit)×(ER×EF×Unit)))×(((Unit×Int×Unit×Unit)×(ER×EF×Unit))->Option ((Int×Unit)×(ER×EF×Unit)))×(((Unit×Dop.AV×Unit×Unit)×(ER×EF×Unit))->Option ((Int×Unit)×(ER×EF×Unit)))×(((Int×Unit×Unit×Unit)×((Unit×Unit)×ER×(Unit×Unit)×EF×Unit))->Option ((Int×Unit)×((Unit×Unit)×ER×(Unit×Unit)×EF×Unit)))×(((Unit×Dop.AV×Unit×Unit)×(ER×EF×Unit))->Option ((Int×Unit)×(ER×EF×Unit)))×(((Unit×Dop.AV×Unit×Unit)×(ER×EF×Unit))->Option ((Int×Unit)×(ER×EF×Unit)))×(((Unit×Dop.AV×Unit×Unit)×(ER×EF×Unit))->Option ((Int×Unit)×(ER×EF×Unit)))×Unit
noncomputable def B8.ct (r:B8.T):List (BU Dop.D4):=[⟨18,m64.p.bn,m64.p.sp,m64.p.rs,m64.p.flat,.opt (r.1)⟩,⟨37,DA.p.bn,DA.p.sp,DA.p.rs,DA.p.flat,.opt (r.2.1)⟩,⟨65,BW.p.bn,BW.p.sp,BW.p.rs,BW.p.flat,.opt (r.2.2.1)⟩,⟨107,BH.p.bn,BH.p.sp,BH.p.rs,BH.p.flat,.opt (r.2.2.2.1)⟩,⟨128,Iv.p.bn,Iv.p.sp,Iv.p.rs,Iv.p.flat,.opt (r.2.2.2.2.1)⟩,⟨127,Fb.p.bn,Fb.p.sp,Fb.p.rs,Fb.p.flat,.opt (r.2.2.2.2.2.1)⟩,⟨129,HH.p.bn,HH.p.sp,HH.p.rs,HH.p.flat,.opt (r.2.2.2.2.2.2.1)⟩,⟨108,Bn.p.bn,Bn.p.sp,Bn.p.rs,Bn.p.flat,.opt (r.2.2.2.2.2.2.2.1)⟩,⟨109,Ha.p.bn,Ha.p.sp,Ha.p.rs,Ha.p.flat,.opt (r.2.2.2.2.2.2.2.2.1)⟩]
abbrev He.q3:Cut:=⟨[[0,0,0,0,1,0,1,1],[0,1,0,0,1,0,1,1],[2,0,0,1,0,1,1],[1,0],[0,1,1,1]],[3,6,7,22,23,24],3,⟨[.al 0 0,.al 1 0,.al 2 0,.fd (.sl 12),.fd (.int .i64),.fd (.int .i64)],[⟨0,44,[.st 13],false⟩,⟨1,31,[.fd (.int .i64),.fd (.int .i64),.own 3 5],false⟩,ER.b2]⟩⟩
def He.p:Aj:=⟨[(3,He.q3)],0,⟨[.st 13,.fd (.sl 3),.fd (.int .i64)],[]⟩,⟨[.st 19],[]⟩,false,[(1,⟨[(0,false),(1,false),(2,true),(3,false),(4,true),(5,true),(6,true),(7,true),(8,true),(9,false),(10,true)],[],[0,0,0,4,0,0,32,96,255,511,1023],false⟩),(5,⟨[(0,true),(1,true),(2,true),(3,false),(4,true),(5,false),(6,true),(7,false),(8,false)],[9],[0,1,3,7,0,16,0,64,255,511],false⟩),(10,⟨[(0,true),(1,true),(2,true),(3,false),(4,true),(5,true),(6,true),(7,false),(8,true),(9,true),(10,true),(11,false),(12,true)],[13],[0,1,3,7,0,16,48,112,0,256,768,1792,4095,8191],false⟩)],[]⟩
theorem He.ok:AH Dop.D4 prog 11 He.p=true:=by kernel_rfl
end Go.Proofs.Tryz
namespace Go.Proofs.Tryz
open Go Go.En
def Rm.p:Aj:=⟨[],0,⟨[.fd .str,.fd (.sl 3),.fd (.int .i64)],[]⟩,⟨[.st 19,.fd (.int .i64)],[]⟩,false,[],[]⟩
theorem Rm.ok:AH Dop.D4 prog 6 Rm.p=true:=by kernel_rfl
def Yf.p:Aj:=⟨[],0,⟨[],[]⟩,⟨[.fd .bool],[]⟩,true,[],[]⟩
theorem Yf.ok:AH Dop.D4 prog 4 Yf.p=true:=by kernel_rfl
end Go.Proofs.Tryz
