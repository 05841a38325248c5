/- States by patterns, operation by operation: for a piece of a function that is gone through by hand. -/
import Derived.Test.YtkpggdcpaeanaaaGreatDoorMo
import Derived.Maps.RangeRun
import Derived.Test.YtkpggdcpaeanaaaGreatDoorMm
set_option linter.all false
namespace Go.En
open Go.RowKit
section
variable {S:Ao} {P:Program} {w0:World} {F D0 D:Nat->Prop} {N:Nat->Prop} {β:Nat->Nm} {a:Act} {w:World}
theorem YL {tb:List (Nat×TI)} (htb:AW S P tb) {s s':St S} (hg:G w0 F D0 D s N β a w) {all:Array Oper} {o:Oper} {r:List Oper} {Q:Exit->Act->World->Prop} (hgd:o.guard=none) {c:Option Bool} {x:SV} (he:evalOp tb s o.op=.val c x) (hc:CO c) (hp:s.put o.dst x=some s')
  (hQ: ∀ a',G w0 F D0 D s' N β a' w->wpList P all Q r a' w):wpList P all Q (o::r) a w:=by
 have h:=BY htb hg o
 rw [he] at h
 obtain ⟨h1,h2⟩:=h hc
 unfold wpList
 rw [if_pos (by simp [Region.wanted,hgd])]
 exact .inl (An h1 (hQ _ (hg.put h2 hp)))
def G9 (q:Spec) (ts:List Nat) (k bn:Nat) (s:St S):Option (q.D S×List (Nat×Nat)):=match F2 s ts with
 | some us=>match q.parse true us s.o (Qd k) bn with
  | some (y,ps)=>some (y,ps.m)
  | none=>none
 | none=>none
structure HX (S:Ao) (w0:World) (F D0:Nat->Prop) (q:Spec) (ts:List Nat) (bn:Nat) (β1:Nat->Nm) (sz:Nat) (y:q.D S) (r:Nat) (ob:Obj) (a:Act) (W:World):Prop where
 st: ∃ D β vs o n,q.enc y bn=(vs,o,n)/\(∀ i,i<bn->β i=β1 i)/\GH w0 F D0 D o (· <n) β W/\BR (· <n) vs/\bn<=n/\(∀ (j:Nat) t v,ts[j]?=some t->vs[j]?=some v->t<sz/\a.tmps.getD t undef=v.den β)/\(∀ i b,lk o i=some b->¬ (β i).has r)/\¬ D r
 sz:a.tmps.size=sz
 df:a.defers=[]
 it:W.heap[r]?=some ob
theorem HX.g {q:Spec} {ts:List Nat} {bn sz r:Nat} {β1:Nat->Nm} {y:q.D S} {ob:Obj} (h:HX S w0 F D0 q ts bn β1 sz y r ob a w):
  ∃ D β vs o n,q.enc y bn=(vs,o,n)/\(∀ i,i<bn->β i=β1 i)/\bn<=n/\G w0 F D0 D ⟨ts.zip vs,o,n,sz⟩ (· <n) β a w/\(∀ i b,lk o i=some b->¬ (β i).has r)/\¬ D r:=by
 obtain ⟨⟨D,β,vs,o,n,he,hβ,hg,hon,hbn,hts,h1,h2⟩,hsz,hd,hit⟩:=h
 refine ⟨D,β,vs,o,n,he,hβ,hbn,⟨hd,hsz,fun t v ht=>?_,fun t v ht=>?_,hg⟩,h1,h2⟩
 ·obtain ⟨j,j1,j2⟩:=Gr ht
  exact ⟨(hts j t v j1 j2).1,Av.1 hon v (List.mem_of_getElem? j2)⟩
 ·obtain ⟨j,j1,j2⟩:=Gr ht
  exact (hts j t v j1 j2).2
theorem GH.clear {W w':World} {D D':Nat->Prop} {o o':List (Nat×Own S)} {N':Nat->Prop} {β β':Nat->Nm} (k:GH W (AJ o β) D D' o' N' β' w') {r:Nat} (hr:r<W.heap.size) (h1: ∀ i b,lk o i=some b->¬ (β i).has r) (h2:¬ D r):
  (∀ i b,lk o' i=some b->¬ (β' i).has r)/\¬ D' r/\w'.heap[r]?=W.heap[r]?:=by
 have hb:¬ AJ o β r:=fun ⟨i,b,hi,hk⟩=>h1 i b hi hk
 refine ⟨fun i b hi hk=>?_,fun hd=>?_,k.fr.block r hr hb⟩
 ·rcases k.fresh i b r hi hk with h|h
  ·omega
  ·exact hb h
 ·rcases k.Jz r hd with h|h|h
  ·exact h2 h
  ·exact hb h
  ·omega
theorem G.hx {q:Spec} {ts:List Nat} {k bn n r:Nat} {y:q.D S} {m:List (Nat×Nat)} {s:St S} {ob:Obj} (hg:G w0 F D0 D s (· <n) β a w) (hk:k<=bn) (hl:G9 q ts k bn s=some (y,m)) (hq:q.okB bn=true)
  (h1: ∀ i b,lk s.o i=some b->¬ (β i).has r) (h2:¬ D r) (hit:w.heap[r]?=some ob):
  ∃ β1:Nat->Nm,(∀ i,i<k->β1 i=β i)/\(∀ i,i<bn-> ∀ j,lk m i=some j->β1 i=β j)/\HX S w0 F D0 q ts bn β1 s.sz y r ob a w:=by
 unfold G9 at hl
 split at hl
 case h_2=>cases hl
 rename_i us hus
 split at hl
 case h_2=>cases hl
 rename_i y' ps hp
 cases hl
 have hr:r<w.heap.size:=(Array.getElem?_eq_some_iff.1 hit).1
 rcases he2:q.enc y bn with ⟨vs',o',n'⟩
 obtain ⟨β'',b1,b2,b3,b4,b5,_,_,b8,_⟩:=Spec.B4 hg.gh.base hp hq he2
 obtain ⟨t1,t2,t3⟩:=FF hg hus
 have hlv:vs'.length=us.length:=by have:=congrArg List.length b3;rw [AF,AF] at this;exact this.symm
 obtain ⟨c1,c2,c3⟩:=GH.clear b2 hr h1 h2
 refine ⟨β'',fun i hi=>b1 i (Nat.lt_of_lt_of_le hi hk) i (b8 i i (Gq hi)),b1,⟨⟨_,β'',vs',o',n',he2,fun i hi=>rfl,hg.gh.comp b2,b4,b5,fun j t v hj hv=>?_,c1,c2⟩,hg.size,hg.defers,hit⟩⟩
 have hju:j<us.length:=by rw [<-hlv];exact (List.getElem?_eq_some_iff.1 hv).1
 obtain ⟨t4,t5⟩:=t3 j t _ hj (List.getElem?_eq_getElem hju)
 refine ⟨t4,?_⟩
 rw [t5]
 have h6:=congrArg (fun l:List Value=>l[j]?) b3
 simp only [B2,List.getElem?_eq_getElem hju,hv,Option.map_some,Option.some.injEq] at h6
 exact h6
theorem HX.re {q:Spec} {ts:List Nat} {bn sz r:Nat} {β1 β2:Nat->Nm} {y:q.D S} {ob:Obj} (h:HX S w0 F D0 q ts bn β1 sz y r ob a w) (he: ∀ i,i<bn->β1 i=β2 i):HX S w0 F D0 q ts bn β2 sz y r ob a w:=by
 obtain ⟨⟨D,β,vs,o,n,h1,h2,h3⟩,hsz,hd,hit⟩:=h
 exact ⟨⟨D,β,vs,o,n,h1,fun i hi=>(h2 i hi).trans (he i hi),h3⟩,hsz,hd,hit⟩
theorem G.GL {q:Spec} {ts:List Nat} {bn n r:Nat} {β1:Nat->Nm} {y:q.D S} {m:List (Nat×Nat)} {s:St S} {ob:Obj} (hg:G w0 F D0 D s (· <n) β a w) (hβ: ∀ i,i<bn->β i=β1 i) (hl:G9 q ts bn bn s=some (y,m)) (hq:q.okB bn=true)
  (h1: ∀ i b,lk s.o i=some b->¬ (β i).has r) (h2:¬ D r) (hit:w.heap[r]?=some ob):HX S w0 F D0 q ts bn β1 s.sz y r ob a w:=by
 obtain ⟨β2,k1,_,k3⟩:=hg.hx (Nat.le_refl _) hl hq h1 h2 hit
 exact k3.re fun i hi=>(k1 i hi).trans (hβ i hi)
theorem HX.jK {E:Env S} (hE:E.Ok P) {f0:Nat} {all:Array Oper} {sp qe:Spec} {ts ts':List Nat} {bn r:Nat} {β1:Nat->Nm} {ob:Obj} (hqe:qe.okB bn=true) (hlen:ts'.length=qe.as.length) {x:sp.D S} {y:qe.D S}
  (hev:(NV E f0 all sp qe ts ts' bn x).eval (fun _ _=>none)=some y) (hkp:Bz S w0 F D0) (hh:HX S w0 F D0 sp ts bn β1 E.sz x r ob a w) {Q:Exit->Act->World->Prop}
  (hQ: ∀ a' W',HX S w0 F D0 qe ts' bn β1 E.sz y r ob a' W'->Q .normal a' W'):wpList P all Q all.toList a w:=by
 obtain ⟨⟨D,β,vs,o,n,he,hβ,hg,hon,hbn,hts,h1,h2⟩,hsz,hd,hit⟩:=hh
 have hr:r<w.heap.size:=(Array.getElem?_eq_some_iff.1 hit).1
 refine NW hE hqe hlen hev (hg.keeps hkp) ⟨⟨D,β,vs,o,n,he,hβ,hg.base,hon,hbn,hts⟩,hsz⟩ fun a' W' hd' hh'=>hQ a' W' ?_
 obtain ⟨⟨D',β',vs',o',n',he',hβ',hg',hon',hbn',hts'⟩,hsz'⟩:=hh'
 obtain ⟨c1,c2,c3⟩:=GH.clear hg' hr h1 h2
 exact ⟨⟨D',β',vs',o',n',he',hβ',hg.comp hg',hon',hbn',hts',c1,c2⟩,hsz',hd'.trans hd,c3.trans hit⟩
theorem HX.Ke {q:Spec} {ts:List Nat} {bn sz r:Nat} {β1:Nat->Nm} {y:q.D S} {ob:Obj} (h:HX S w0 F D0 q ts bn β1 sz y r ob a w) {w1:World} (hw:w1=w\/w1=w.drew) (h0:w0.heap.size<=r) (ob':Obj):HX S w0 F D0 q ts bn β1 sz y r ob' a (Go.ChangeMaps.setBlock w1 r ob'):=by
 obtain ⟨⟨D,β,vs,o,n,he,hβ,hg,hon,hbn,hts,h1,h2⟩,hsz,hd0,hit⟩:=h
 have hg1:GH w0 F D0 D o (· <n) β w1:=by
  rcases hw with rfl|rfl
  ·exact hg
  ·exact hg.step (Below.refl _ w).drew
 have hr:r<w1.heap.size:=by
  have:=(Array.getElem?_eq_some_iff.1 hit).1
  rcases hw with rfl|rfl<;>exact this
 refine ⟨⟨D,β,vs,o,n,he,hβ,hg1.putObj ob' h1 h2 h0,hon,hbn,hts,h1,h2⟩,hsz,hd0,?_⟩
 show (w1.heap.setIfInBounds r ob')[r]?=_
 simp [Array.getElem?_setIfInBounds,hr]
end
end Go.En
/- core.function's range over its gotos: which of them stands first, in whatever order they come (plain). -/
set_option maxRecDepth 100000
namespace Go.Proofs
open Go Go.En
def LO (k:CK) (n:Int):Int:=if n<0 then 0 else if (I k.t.nodes.length)<=n then 0 else (k.t.nodes.getD n.toNat En.Dop.d5).at_
def WB (k:CK) (e:List UInt8×Int):Bool:=decide ((AL k.labels e.1).getD 0=0)
def Ij (k:CK) (f:Int) (e:List UInt8×Int):Int:=if (WB k e && (decide (f<0) || decide (LO k e.2<LO k f)))=true then e.2 else f
def LP (k:CK):Int:=k.gotos.foldl (Ij k) (-1)
def UO (k:CK) (V:Nat->Prop) (f:Int):Prop:=
 (f= -1/\ ∀ j x,V j->k.gotos[j]?=some x->WB k x=false)\/
 ∃ j x,V j/\k.gotos[j]?=some x/\WB k x=true/\f=x.2/\ ∀ j' x',V j'->k.gotos[j']?=some x'->WB k x'=true->LO k f<=LO k x'.2
def QW (k:CK):Prop:= ∀ x∈k.gotos,(0:Int)<=x.2
theorem UO.congr {k:CK} {V V':Nat->Prop} {f:Int} (h:UO k V f) (hV: ∀ j,j<k.gotos.length->(V j↔V' j)):UO k V' f:=by
 have hl: ∀ {j:Nat} {x},k.gotos[j]?=some x->j<k.gotos.length:=fun h=>(List.getElem?_eq_some_iff.1 h).1
 rcases h with ⟨h1,h2⟩|⟨j,x,h1,h2,h3,h4,h5⟩
 ·exact .inl ⟨h1,fun j x hj hx=>h2 j x ((hV j (hl hx)).2 hj) hx⟩
 ·exact .inr ⟨j,x,(hV j (hl h2)).1 h1,h2,h3,h4,fun j' x' hj hx hu=>h5 j' x' ((hV j' (hl hx)).2 hj) hx hu⟩
theorem UO.step {k:CK} {V:Nat->Prop} {f:Int} (hp:QW k) (h:UO k V f) {j:Nat} {x:List UInt8×Int} (hx:k.gotos[j]?=some x):UO k (fun i=>V i\/i=j) (Ij k f x):=by
 have hpos: ∀ {j:Nat} {x},k.gotos[j]?=some x->(0:Int)<=x.2:=fun h=>hp _ (List.mem_of_getElem? h)
 unfold Ij
 by_cases hu:WB k x=true
 ·rw [hu]
  rcases h with ⟨rfl,h2⟩|⟨j0,x0,h1,h2,h3,rfl,h5⟩
  ·rw [if_pos (by simp)]
   refine .inr ⟨j,x,.inr rfl,hx,hu,rfl,fun j' x' hj GL hu'=>?_⟩
   rcases hj with hj|rfl
   ·rw [h2 j' x' hj GL] at hu';cases hu'
   ·rw [hx] at GL;cases GL;exact Int.le_refl _
  ·have h0:=hpos h2
   by_cases hlt:LO k x.2<LO k x0.2
   ·rw [if_pos (by simp [hlt])]
    refine .inr ⟨j,x,.inr rfl,hx,hu,rfl,fun j' x' hj GL hu'=>?_⟩
    rcases hj with hj|rfl
    ·have:=h5 j' x' hj GL hu';omega
    ·rw [hx] at GL;cases GL;exact Int.le_refl _
   ·rw [if_neg (by simp [hlt];omega)]
    refine .inr ⟨j0,x0,.inl h1,h2,h3,rfl,fun j' x' hj GL hu'=>?_⟩
    rcases hj with hj|rfl
    ·exact h5 j' x' hj GL hu'
    ·rw [hx] at GL;cases GL;omega
 ·have hu:WB k x=false:=by simpa using hu
  rw [hu,if_neg (by simp)]
  rcases h with ⟨h1,h2⟩|⟨j0,x0,h1,h2,h3,h4,h5⟩
  ·refine .inl ⟨h1,fun j' x' hj GL=>?_⟩
   rcases hj with hj|rfl
   ·exact h2 j' x' hj GL
   ·rw [hx] at GL;cases GL;exact hu
  ·refine .inr ⟨j0,x0,.inl h1,h2,h3,h4,fun j' x' hj GL hu'=>?_⟩
   rcases hj with hj|rfl
   ·exact h5 j' x' hj GL hu'
   ·rw [hx] at GL;cases GL;rw [hu] at hu';cases hu'
theorem WL {k:CK} (hp:QW k):UO k (fun _=>True) (LP k):=by
 have key: ∀ n,n<=k.gotos.length->UO k (fun j=>j<n) ((k.gotos.take n).foldl (Ij k) (-1)):=by
  intro n
  induction n with
  | zero=>exact fun _=>.inl ⟨rfl,fun j x hj=>absurd hj (Nat.not_lt_zero _)⟩
  | succ n ih=>
   intro hn
   have hx:k.gotos[n]?=some k.gotos[n]:=List.getElem?_eq_getElem (by omega)
   rw [List.take_add_one,hx]
   simp only [Option.toList,List.foldl_append,List.foldl_cons,List.foldl_nil]
   exact ((ih (by omega)).step hp hx).congr fun j _=>by omega
 have:=key k.gotos.length (Nat.le_refl _)
 rw [List.take_length] at this
 exact this.congr fun j hj=>by simp [hj]
theorem UO.uniq {k:CK} {f f':Int} (hp:QW k) (h:UO k (fun _=>True) f) (h':UO k (fun _=>True) f'):(f=f'/\f= -1)\/(0<=f/\0<=f'/\LO k f=LO k f'):=by
 have hpos: ∀ {j:Nat} {x},k.gotos[j]?=some x->(0:Int)<=x.2:=fun h=>hp _ (List.mem_of_getElem? h)
 rcases h with ⟨h1,h2⟩|⟨j,x,-,h2,h3,h4,h5⟩<;>rcases h' with ⟨k1,k2⟩|⟨j',x',-,k2,k3,k4,k5⟩
 ·exact .inl ⟨h1.trans k1.symm,h1⟩
 ·rw [h2 j' x' trivial k2] at k3;cases k3
 ·rw [k2 j x trivial h2] at h3;cases h3
 ·have a1:=h5 j' x' trivial k2 k3
  have a2:=k5 j x trivial h2 h3
  refine .inr ⟨h4▸hpos h2,k4▸hpos k2,?_⟩
  rw [<-k4] at a1;rw [<-h4] at a2;omega
def jC (mf:Int->CK->CT->Option ((En.Dop.Ae×Unit)×(CK×CT×Unit))) (x:(Unit×List Int×Int×Unit)×(CK×CT×Unit)):Option ((Unit×List Int×Int×Unit)×(CK×CT×Unit)):=
 if (x.2.1.gotos.all fun e=>decide (0<=e.2))=true then
  if (decide (0<=LP x.2.1))=true then (mf (LP x.2.1) x.2.1 x.2.2.1).bind fun y=>some (x.1,(y.2.1,(y.2.2.1,()))) else some x
 else none
end Go.Proofs
/- core.function's range over its gotos: the code, and one round. -/
set_option maxRecDepth 100000
namespace Go.En
open Go.RowKit
section
variable {S:Ao} {P:Program} {w0:World} {F D0 D:Nat->Prop} {N:Nat->Prop} {β:Nat->Nm} {a:Act} {w:World}
def St.pu (s:St S) (d:Nat) (x:SV):St S:={ s with t:=pt s.t d x }
theorem Cm {tb:List (Nat×TI)} (htb:AW S P tb) {s:St S} (hg:G w0 F D0 D s N β a w) {all:Array Oper} {o:Oper} {r:List Oper} {Q:Exit->Act->World->Prop} {d:Nat} (hgd:o.guard=none) (hd:o.dst=some d) (hds:d<s.sz) {x:SV} (he:evalOp tb s o.op=.val none x)
  (hQ: ∀ a',G w0 F D0 D (s.pu d x) N β a' w->wpList P all Q r a' w):wpList P all Q (o::r) a w:=
 YL htb hg hgd he trivial (s':=s.pu d x) (by rw [hd,St.FX,if_pos (by omega)];rfl) hQ
end
end Go.En
namespace Go.Proofs
open Go Go.En Go.RowKit
noncomputable abbrev Yp:Code:=BG (AQ Tryz.prog 78) [1,1,1,1,1,1,1,1,1,1,1,1]
noncomputable abbrev QV:Code:=BG Yp [0,0,1,0]
noncomputable abbrev jD:Code:=BG Yp [1,1]
noncomputable def MX:Array Oper:=I2 (BG (AQ Tryz.prog 78) [0,1,1,1,1,1,1,1,1,1,1,1])
noncomputable def DH:Array Oper:=I2 (BG Yp [0,0])
noncomputable def Fj:Array Oper:=I2 (BG QV [0])
noncomputable def DI:Array Oper:=I2 (BG QV [0,0,1,1])
noncomputable def V5:Array Oper:=I2 (BG QV [0,1,0,1,1])
noncomputable def IP:Array Oper:=I2 (BG QV [0,1,1,0,1,1])
noncomputable def HY:Array Oper:=I2 (BG Yp [0,0,1])
noncomputable def TX:Array Oper:=I2 (BG Yp [0,1,0,1])
theorem cI:Yp=.seq (.seq (.region 25 DH false) (.block 2 (.loop QV))) (.seq (.seq (.region 30 HY false) (.cond (.tmp 215) (.region 31 TX false) .skip)) jD):=by kernel_rfl
theorem Ys:QV=.seq (.region 26 Fj false) (.seq (.cond (.tmp 187) .skip (.exit 2)) (.block 3 (.seq (.region 27 DI false) (.seq (.region 28 V5 false) (.cond (.tmp 212) (.region 29 IP false) .skip))))):=by kernel_rfl
noncomputable def Au (l:Array Oper) (i:Nat):Oper:=l.getD i default
theorem V1:MX.toList=[Au MX 0]:=by kernel_rfl
theorem V2:DH.toList=[Au DH 0,Au DH 1,Au DH 2,Au DH 3,Au DH 4]:=by kernel_rfl
theorem V3:Fj.toList=[Au Fj 0,Au Fj 1]:=by kernel_rfl
theorem V4:DI.toList=[Au DI 0,Au DI 1,Au DI 2,Au DI 3,Au DI 4]:=by kernel_rfl
theorem V6:IP.toList=[Au IP 0,Au IP 1]:=by kernel_rfl
theorem V7:HY.toList=[Au HY 0,Au HY 1]:=by kernel_rfl
theorem O2:(Au Fj 0).op=.next (.tmp 185) false/\(Au Fj 0).dst=some 186/\(Au Fj 0).guard=none:=⟨by kernel_rfl,by kernel_rfl,by kernel_rfl⟩
theorem O1:(Au DI 0).op=.entry (.tmp 185)/\(Au DI 0).dst=some 188/\(Au DI 0).guard=none:=⟨by kernel_rfl,by kernel_rfl,by kernel_rfl⟩
theorem O3:(Au DH 4).op=.range 132 (.tmp 184)/\(Au DH 4).dst=some 185/\(Au DH 4).guard=none:=⟨by kernel_rfl,by kernel_rfl,by kernel_rfl⟩
abbrev jX:Ge:=⟨0,135,[.st 7,.al 1 0,.own 0 3,.own 11 52,.own 12 32,.st 0,.own 5 56,.mr .str 9 true 129,.mp .str 15 true,.rm 2,.st 11,.st 0,.rm 3,.rm 4,.st 0,.mr (.int .i64) 0 false 217,.st 0,.fd (.int .i64),.st 0],false⟩
abbrev Yq:List Ge:=[jX,CT.b1,⟨2,0,[.mp .str 0 false],true⟩,⟨3,0,[.mp .str 0 false],true⟩,⟨4,0,[.mp .str 0 false],true⟩]
abbrev cH:List Cq:=[.al 0 0,.own 0 3,.fd (.int .i64),.fd (.int .i64),.al 5 0]
abbrev QX:En.Spec:=⟨cH,Yq⟩
abbrev O4:List Nat:=[0,6,15,16,185]
abbrev SO:En.Spec:=⟨cH++[.fd .str,.fd (.int .i64)],Yq⟩
abbrev Yt:List Nat:=O4++[17,18]
abbrev Uh:En.Spec:=⟨cH++[.fd (.int .i64),.fd .bool],Yq⟩
abbrev Yu:List Nat:=O4++[18,212]
def jY (k:CK) (k1:CT):BT En.Dop.D4 Yq:=((k.t,(),k.num,k.funcs,k.globals,k.top,k.nodes,k.names,k.sigs,(),k.f,k.BX,(),(),k.loops,k.BE,k.Gh,k.e,k.when,()),k1,(k.taken,()),(k.labels,()),(k.gotos,()),())
def SQ (t6:List Int) (t15 f:Int) (k:CK) (k1:CT):QX.D En.Dop.D4:=(((),t6,t15,f,(),()),jY k k1)
def Yv (t6:List Int) (t15 f:Int) (e:List UInt8×Int) (k:CK) (k1:CT):SO.D En.Dop.D4:=(((),t6,t15,f,(),e.1,e.2,()),jY k k1)
def Yw (t6:List Int) (t15 f n:Int) (b:Bool) (k:CK) (k1:CT):Uh.D En.Dop.D4:=(((),t6,t15,f,(),n,b,()),jY k k1)
theorem SR {W:World} {D:Nat->Prop} {b:Nat} {l:List (List UInt8×Int)} (h:En.MapAt En.Dop.D4 W D .str 0 false b l):
  ∃ es:Array MapEntry,W.heap[b]?=some (.map es es.size)/\es.size=l.length/\ ∀ (j:Nat) (e:MapEntry),es[j]?=some e-> ∃ x,l[j]?=some x/\e=⟨.string ⟨⟨x.1⟩⟩,.int .i64 x.2,j⟩:=by
 obtain ⟨es,h1,h2,h3⟩:=h
 refine ⟨es,h1,h2,fun j e he=>?_⟩
 have hj:j<l.length:=by rw [<-h2];exact (Array.getElem?_eq_some_iff.1 he).1
 obtain ⟨h4,h5,vs,h6,h7⟩:=h3 j l[j] e (List.getElem?_eq_getElem hj) he
 refine ⟨l[j],List.getElem?_eq_getElem hj,?_⟩
 have h7:AE En.Dop.D4 W D [.int .i64 l[j].2] vs:=h7
 obtain ⟨v1,r1,rfl,h8,h9⟩:=h7.C7
 cases h8
 have:=h9.1
 cases r1 with
 | cons _ _=>simp at this
 | nil=>
  cases e
  simp only at h4 h5 h6
  subst h4
  rw [h5,h6]
  rfl
end Go.Proofs
/- core.function's range over its gotos: one round. -/
set_option maxRecDepth 100000
namespace Go.Proofs
open Go Go.En Go.RowKit
noncomputable abbrev fj:Ai:=⟨[],6,SO,Uh,false,[],[]⟩
noncomputable def fi:Env En.Dop.D4:=BC Tryz.prog 78 Tryz.tb [Tryz.C0.c] fj
theorem cJ:fi.Ok Tryz.prog:=(Gj (p:=fj) (ct:=[Tryz.C0.c]) Tryz.AH (A6 Tryz.C0.holds CJ) (by kernel_rfl)).1
theorem Vx:fi.sz=246:=by kernel_rfl
theorem fo {t6:List Int} {t15 f:Int} {k:CK} {k1:CT} {vs:List SV} {o:List (Nat×En.Own En.Dop.D4)} {n:Nat} (h:QX.enc (S:=En.Dop.D4) (SQ t6 t15 f k k1) 6=(vs,o,n)):lk o 4=some (.mp .str 0 false k.gotos)/\lk (O4.zip vs) 185=some (.ptr 5 0):=by
 cases h
 exact ⟨by kernel_rfl,by kernel_rfl⟩
noncomputable abbrev TY (vs:List SV) (o:List (Nat×En.Own En.Dop.D4)) (n:Nat):St En.Dop.D4:=⟨O4.zip vs,o,n,246⟩
theorem fx {t6:List Int} {t15 f:Int} {k:CK} {k1:CT} {vs:List SV} {o:List (Nat×En.Own En.Dop.D4)} {n:Nat} (h:QX.enc (S:=En.Dop.D4) (SQ t6 t15 f k k1) 6=(vs,o,n)):evalOp Tryz.tb ((TY vs o n).pu 186 (.Gb [.b false])) (Au Fj 1).op=.val none (.b false):=by
 cases h
 kernel_rfl
theorem fy (e:List UInt8×Int) {t6:List Int} {t15 f:Int} {k:CK} {k1:CT} {vs:List SV} {o:List (Nat×En.Own En.Dop.D4)} {n:Nat} (h:QX.enc (S:=En.Dop.D4) (SQ t6 t15 f k k1) 6=(vs,o,n)):evalOp Tryz.tb ((TY vs o n).pu 186 (.Gb [.b true,.v (.string ⟨⟨e.1⟩⟩),.v (.int .i64 e.2)])) (Au Fj 1).op=.val none (.b true):=by
 cases h
 kernel_rfl
noncomputable abbrev SP (vs:List SV) (o:List (Nat×En.Own En.Dop.D4)) (n:Nat) (e:List UInt8×Int):St En.Dop.D4:=(((TY vs o n).pu 186 (.Gb [.b true,.v (.string ⟨⟨e.1⟩⟩),.v (.int .i64 e.2)])).pu 187 (.b true)).pu 188 (.Gb [.v (.string ⟨⟨e.1⟩⟩),.v (.int .i64 e.2)])
noncomputable abbrev jZ (vs:List SV) (o:List (Nat×En.Own En.Dop.D4)) (n:Nat) (e:List UInt8×Int):St En.Dop.D4:=(((((SP vs o n e).pu 189 (.v (.string ⟨⟨e.1⟩⟩))).pu 190 (.v (.int .i64 e.2))).pu 17 (.v (.string ⟨⟨e.1⟩⟩))).pu 18 (.v (.int .i64 e.2)))
theorem gA {t6:List Int} {t15 f:Int} {e:List UInt8×Int} {k:CK} {k1:CT} {vs:List SV} {o:List (Nat×En.Own En.Dop.D4)} {n:Nat} (h:QX.enc (S:=En.Dop.D4) (SQ t6 t15 f k k1) 6=(vs,o,n)):evalOp Tryz.tb (SP vs o n e) (Au DI 1).op=.val none (.v (.string ⟨⟨e.1⟩⟩)):=by
 cases h
 kernel_rfl
theorem gB {t6:List Int} {t15 f:Int} {e:List UInt8×Int} {k:CK} {k1:CT} {vs:List SV} {o:List (Nat×En.Own En.Dop.D4)} {n:Nat} (h:QX.enc (S:=En.Dop.D4) (SQ t6 t15 f k k1) 6=(vs,o,n)):evalOp Tryz.tb ((SP vs o n e).pu 189 (.v (.string ⟨⟨e.1⟩⟩))) (Au DI 2).op=.val none (.v (.int .i64 e.2)):=by
 cases h
 kernel_rfl
theorem gC {t6:List Int} {t15 f:Int} {e:List UInt8×Int} {k:CK} {k1:CT} {vs:List SV} {o:List (Nat×En.Own En.Dop.D4)} {n:Nat} (h:QX.enc (S:=En.Dop.D4) (SQ t6 t15 f k k1) 6=(vs,o,n)):evalOp Tryz.tb (((SP vs o n e).pu 189 (.v (.string ⟨⟨e.1⟩⟩))).pu 190 (.v (.int .i64 e.2))) (Au DI 3).op=.val none (.v (.string ⟨⟨e.1⟩⟩)):=by
 cases h
 kernel_rfl
theorem gD {t6:List Int} {t15 f:Int} {e:List UInt8×Int} {k:CK} {k1:CT} {vs:List SV} {o:List (Nat×En.Own En.Dop.D4)} {n:Nat} (h:QX.enc (S:=En.Dop.D4) (SQ t6 t15 f k k1) 6=(vs,o,n)):evalOp Tryz.tb ((((SP vs o n e).pu 189 (.v (.string ⟨⟨e.1⟩⟩))).pu 190 (.v (.int .i64 e.2))).pu 17 (.v (.string ⟨⟨e.1⟩⟩))) (Au DI 4).op=.val none (.v (.int .i64 e.2)):=by
 cases h
 kernel_rfl
theorem Ta:(Au Fj 1).dst=some 187/\(Au Fj 1).guard=none:=⟨by kernel_rfl,by kernel_rfl⟩
theorem Z9:(Au DI 1).dst=some 189/\(Au DI 1).guard=none:=⟨by kernel_rfl,by kernel_rfl⟩
theorem aA:(Au DI 2).dst=some 190/\(Au DI 2).guard=none:=⟨by kernel_rfl,by kernel_rfl⟩
theorem aB:(Au DI 3).dst=some 17/\(Au DI 3).guard=none:=⟨by kernel_rfl,by kernel_rfl⟩
theorem aC:(Au DI 4).dst=some 18/\(Au DI 4).guard=none:=⟨by kernel_rfl,by kernel_rfl⟩
theorem aD:(Au IP 0).dst=some 213/\(Au IP 0).guard=none:=⟨by kernel_rfl,by kernel_rfl⟩
theorem aE:(Au IP 1).dst=some 16/\(Au IP 1).guard=none:=⟨by kernel_rfl,by kernel_rfl⟩
theorem fq {t6:List Int} {t15 f:Int} {e:List UInt8×Int} {k:CK} {k1:CT} {vs:List SV} {o:List (Nat×En.Own En.Dop.D4)} {n:Nat} (h:QX.enc (S:=En.Dop.D4) (SQ t6 t15 f k k1) 6=(vs,o,n)):(G9 SO Yt 6 6 (jZ vs o n e)).map (·.1)=some (Yv t6 t15 f e k k1):=by
 cases h
 kernel_rfl
noncomputable abbrev WA (vs:List SV) (o:List (Nat×En.Own En.Dop.D4)) (n:Nat):St En.Dop.D4:=⟨Yu.zip vs,o,n,246⟩
theorem fp {t6:List Int} {t15 f x:Int} {b:Bool} {k:CK} {k1:CT} {vs:List SV} {o:List (Nat×En.Own En.Dop.D4)} {n:Nat} (h:Uh.enc (S:=En.Dop.D4) (Yw t6 t15 f x b k k1) 6=(vs,o,n)):lk (Yu.zip vs) 212=some (.b b)/\evalOp Tryz.tb (WA vs o n) (Au IP 0).op=.val none (.v (.int .i64 x))/\evalOp Tryz.tb ((WA vs o n).pu 213 (.v (.int .i64 x))) (Au IP 1).op=.val none (.v (.int .i64 x))/\
  (G9 QX O4 6 6 (((WA vs o n).pu 213 (.v (.int .i64 x))).pu 16 (.v (.int .i64 x)))).map (·.1)=some (SQ t6 t15 x k k1)/\(G9 QX O4 6 6 (WA vs o n)).map (·.1)=some (SQ t6 t15 f k k1):=by
 cases h
 exact ⟨by kernel_rfl,by kernel_rfl,by kernel_rfl,by kernel_rfl,by kernel_rfl⟩
theorem Yx {t6:List Int} {t15 f:Int} {k:CK} {k1:CT} {vs:List SV} {o:List (Nat×En.Own En.Dop.D4)} {n:Nat} (h:QX.enc (S:=En.Dop.D4) (SQ t6 t15 f k k1) 6=(vs,o,n)):(G9 QX O4 6 6 (((TY vs o n).pu 186 (.Gb [.b false])).pu 187 (.b false))).map (·.1)=some (SQ t6 t15 f k k1):=by
 cases h
 kernel_rfl
theorem KC:QX.okB 6=true/\SO.okB 6=true/\Uh.okB 6=true:=⟨by kernel_rfl,by kernel_rfl,by kernel_rfl⟩
end Go.Proofs
/- core.function's range over its gotos: one round (the walk). -/
set_option maxRecDepth 100000
namespace Go.Proofs
open Go Go.En Go.RowKit
theorem WC (n:Int) (k:CK) (k1:CT): ∃ x:En.Dop.AR,Tryz.C0 n k.t k.num k.funcs k.globals k.top k.nodes k.names k.sigs k.f k.BX k.loops k.BE k.Gh k.e k.when k1=some ((x,()),((k.t.nodes,k.t.types,k.t.top,(),k.num,k.funcs,k.globals,k.top,k.nodes,k.names,k.sigs,(),k.f.name,k.f.params,k.f.Al,k.f.frame,k.f.body,k.BX,(),(),k.loops,k.BE,k.Gh,k.e,k.when,()),(k1,())))/\x.at_=LO k n:=by
 rw [Tryz.ZS]
 unfold LO
 by_cases h:n<0
 ·rw [if_pos (by simpa using h),if_pos h];exact ⟨_,rfl,rfl⟩
 ·rw [if_neg (by simpa using h),if_neg h]
  by_cases h2:I k.t.nodes.length<=n
  ·rw [if_pos (by simpa using h2),if_pos h2];exact ⟨_,rfl,rfl⟩
  ·rw [if_neg (by simpa using h2),if_neg h2,if_pos (by simp;omega)];exact ⟨_,rfl,rfl⟩
theorem Yz (t6:List Int) (t15 f:Int) (e:List UInt8×Int) (k:CK) (k1:CT):(NV fi 3000 V5 SO Uh Yt Yu 6 (Yv t6 t15 f e k k1)).eval (fun _ _=>none)=
 if decide ((AL k.labels e.1).getD 0=0)=true then
  if decide (f<0)=true then some (Yw t6 t15 f e.2 true k k1)
  else (Tryz.C0 e.2 k.t k.num k.funcs k.globals k.top k.nodes k.names k.sigs k.f k.BX k.loops k.BE k.Gh k.e k.when k1).bind fun y=>(Tryz.C0 f (En.Dop.Fy.mk y.2.1.1 y.2.1.2.1 y.2.1.2.2.1) y.2.1.2.2.2.2.1 y.2.1.2.2.2.2.2.1 y.2.1.2.2.2.2.2.2.1 y.2.1.2.2.2.2.2.2.2.1 y.2.1.2.2.2.2.2.2.2.2.1 y.2.1.2.2.2.2.2.2.2.2.2.1 y.2.1.2.2.2.2.2.2.2.2.2.2.1 (En.Dop.DR.mk y.2.1.2.2.2.2.2.2.2.2.2.2.2.2.1 y.2.1.2.2.2.2.2.2.2.2.2.2.2.2.2.1 y.2.1.2.2.2.2.2.2.2.2.2.2.2.2.2.2.1 y.2.1.2.2.2.2.2.2.2.2.2.2.2.2.2.2.2.1 y.2.1.2.2.2.2.2.2.2.2.2.2.2.2.2.2.2.2.1) y.2.1.2.2.2.2.2.2.2.2.2.2.2.2.2.2.2.2.2.1 y.2.1.2.2.2.2.2.2.2.2.2.2.2.2.2.2.2.2.2.2.2.2.1 y.2.1.2.2.2.2.2.2.2.2.2.2.2.2.2.2.2.2.2.2.2.2.2.1 y.2.1.2.2.2.2.2.2.2.2.2.2.2.2.2.2.2.2.2.2.2.2.2.2.1 y.2.1.2.2.2.2.2.2.2.2.2.2.2.2.2.2.2.2.2.2.2.2.2.2.2.1 y.2.1.2.2.2.2.2.2.2.2.2.2.2.2.2.2.2.2.2.2.2.2.2.2.2.2.1 y.2.2.1).bind fun z=>some (((),t6,t15,f,(),e.2,decide (y.1.1.at_<z.1.1.at_),()),(((En.Dop.Fy.mk z.2.1.1 z.2.1.2.1 z.2.1.2.2.1),(),z.2.1.2.2.2.2.1,z.2.1.2.2.2.2.2.1,z.2.1.2.2.2.2.2.2.1,z.2.1.2.2.2.2.2.2.2.1,z.2.1.2.2.2.2.2.2.2.2.1,z.2.1.2.2.2.2.2.2.2.2.2.1,z.2.1.2.2.2.2.2.2.2.2.2.2.1,(),(En.Dop.DR.mk z.2.1.2.2.2.2.2.2.2.2.2.2.2.2.1 z.2.1.2.2.2.2.2.2.2.2.2.2.2.2.2.1 z.2.1.2.2.2.2.2.2.2.2.2.2.2.2.2.2.1 z.2.1.2.2.2.2.2.2.2.2.2.2.2.2.2.2.2.1 z.2.1.2.2.2.2.2.2.2.2.2.2.2.2.2.2.2.2.1),z.2.1.2.2.2.2.2.2.2.2.2.2.2.2.2.2.2.2.2.1,(),(),z.2.1.2.2.2.2.2.2.2.2.2.2.2.2.2.2.2.2.2.2.2.2.1,z.2.1.2.2.2.2.2.2.2.2.2.2.2.2.2.2.2.2.2.2.2.2.2.1,z.2.1.2.2.2.2.2.2.2.2.2.2.2.2.2.2.2.2.2.2.2.2.2.2.1,z.2.1.2.2.2.2.2.2.2.2.2.2.2.2.2.2.2.2.2.2.2.2.2.2.2.1,z.2.1.2.2.2.2.2.2.2.2.2.2.2.2.2.2.2.2.2.2.2.2.2.2.2.2.1,()),z.2.2.1,(k.taken,()),(k.labels,()),(k.gotos,()),()))
 else some (Yw t6 t15 f e.2 false k k1):=by kernel_rfl
theorem cQ (t6:List Int) (t15 f:Int) (e:List UInt8×Int) (k:CK) (k1:CT):(NV fi 3000 V5 SO Uh Yt Yu 6 (Yv t6 t15 f e k k1)).eval (fun _ _=>none)=some (Yw t6 t15 f e.2 (WB k e && (decide (f<0) || decide (LO k e.2<LO k f))) k k1):=by
 rw [Yz]
 obtain ⟨x,h1,h2⟩:=WC e.2 k k1
 obtain ⟨x',h1',h2'⟩:=WC f k k1
 unfold WB
 cases hu:decide ((AL k.labels e.1).getD 0=0) with
 | false=>simp
 | true=>
  cases hf:decide (f<0) with
  | true=>simp
  | false=>
   simp only [if_true,Bool.false_eq_true,if_false,h1,Option.bind_some]
   have:Tryz.C0 f k.t k.num k.funcs k.globals k.top k.nodes k.names k.sigs k.f k.BX k.loops k.BE k.Gh k.e k.when k1=some ((x',()),((k.t.nodes,k.t.types,k.t.top,(),k.num,k.funcs,k.globals,k.top,k.nodes,k.names,k.sigs,(),k.f.name,k.f.params,k.f.Al,k.f.frame,k.f.body,k.BX,(),(),k.loops,k.BE,k.Gh,k.e,k.when,()),(k1,()))):=h1'
   simp only [this,Option.bind_some,h2,h2',Bool.true_and,Bool.false_or]
   rfl
end Go.Proofs
/- core.function's range over its gotos: one round, the rounds. -/
set_option maxRecDepth 100000
namespace Go.Proofs
open Go Go.En Go.RowKit
section
variable {w0:World} {F D0:Nat->Prop} {β1:Nat->Nm} {t6:List Int} {t15 f:Int} {k:CK} {k1:CT} {r:Nat} {a:Act} {W:World}
abbrev ak (w0:World) (F D0:Nat->Prop) (β1:Nat->Nm) (t6:List Int) (t15 f:Int) (k:CK) (k1:CT) (r:Nat) (ob:Obj) (a:Act) (W:World):Prop:=HX En.Dop.D4 w0 F D0 QX O4 6 β1 246 (SQ t6 t15 f k k1) r ob a W
theorem FI {q:En.Spec} {ts:List Nat} {k bn:Nat} {s:St En.Dop.D4} {y:q.D En.Dop.D4} (h:(G9 q ts k bn s).map (·.1)=some y): ∃ m,G9 q ts k bn s=some (y,m):=by
 obtain ⟨⟨y',m⟩,h1,h2⟩:=Option.map_eq_some_iff.1 h
 cases h2
 exact ⟨m,h1⟩
theorem Rw {es:Array MapEntry} (h: ∀ (j:Nat) (e:MapEntry),es[j]?=some e->e.born=j):(es.toList.map (·.born)).Nodup:=by
 have:es.toList.map (·.born)=List.range es.size:=List.ext_getElem (by simp) fun i h1 h2=>by
  simp only [List.getElem_map,List.getElem_range]
  exact h i _ (by simp at h1;simp [h1])
 rw [this];exact List.nodup_range
theorem WM (hkp:Bz En.Dop.D4 w0 F D0) (h0:w0.heap.size<=r) (hr:(β1 5).AP=r) {seen:Array Nat} {c0:Nat} (hL:k.gotos.length<=c0) (hh:ak w0 F D0 β1 t6 t15 f k k1 r (.mapIter (some (β1 4).AP) k.gotos.length seen c0) a W) {Q:Exit->Act->World->Prop}
  (hdone:(∀ j,j<k.gotos.length->seen.contains j=true)-> ∀ a' W' ob,ak w0 F D0 β1 t6 t15 f k k1 r ob a' W'->Q (.exit 2) a' W')
  (hmore: ∀ j x,k.gotos[j]?=some x->seen.contains j=false-> ∀ a' W' c1,k.gotos.length<=c1->ak w0 F D0 β1 t6 t15 (Ij k f x) k k1 r (.mapIter (some (β1 4).AP) k.gotos.length (seen.push j) c1) a' W'->Q .normal a' W'):QV.wp Tryz.prog Q a W:=by
 rw [Ys]
 obtain ⟨D,β,vs,o,n,he,hβ,hbn,hg,hc1,hc2⟩:=hh.g
 obtain ⟨ho4,ht185⟩:=fo he
 obtain ⟨bm,hb4,hM⟩:=hg.gh.own 4 _ ho4
 have hbm:(β1 4).AP=bm:=by rw [<-hβ 4 (by omega)];simp [Nm.AP,hb4]
 obtain ⟨es,hes,hsz,hel⟩:=SR hM
 have hit:=hh.it
 rw [hbm] at hit
 have h185:a.tmps.getD 185 undef=.pointer (some ⟨r,0,none⟩):=by
  rw [hg.tmps 185 _ ht185];simp only [SV.den,hβ 5 (by omega),hr]
 have hlt: ∀ x∈es.toList,x.born<k.gotos.length:=fun x hx=>by
  obtain ⟨j,hj⟩:=List.mem_iff_getElem?.1 hx
  rw [Array.getElem?_toList] at hj
  obtain ⟨y,hy,rfl⟩:=hel j x hj
  exact (List.getElem?_eq_some_iff.1 hy).1
 have hexec: ∀ v w',(Instr.next (.pointer (some ⟨r,0,none⟩)) false (Au Fj 0).type).run Tryz.prog W=.ok v w'->(execOp a.eval (Au Fj 0)).run Tryz.prog W=.ok (.value v) w':=fun v w' h=>by
  have:a.eval (.tmp 185)=.pointer (some ⟨r,0,none⟩):=h185
  simp only [execOp,O2.1,this,Sem.run_bind,h,Result.andThen_ok,Sem.run_pure]
 refine wp_seq (wp_region_list ?_)
 rw [V3]
 unfold wpList
 rw [if_pos (by simp [Region.wanted,O2.2.2])]
 rcases run_next_at (P:=Tryz.prog) W (Au Fj 0).type r bm k.gotos.length c0 seen es es.size hit hes hlt hL with ⟨hz,hrun⟩|⟨e,hem,w1,hw1,hrun⟩
 ·-- nothing is left
  refine .inl (An (hexec _ _ hrun) ?_)
  rw [O2.2.1]
  have hg1:G w0 F D0 D ((TY vs o n).pu 186 (.Gb [.b false])) (· <n) β (a.put (some 186) (.tuple #[.bool false])) W:=by
   have:=hg.put (d:=some 186) (x:=.Gb [.b false]) (by simp [SV.on,BR]) (s':=(TY vs o n).pu 186 (.Gb [.b false])) (by rw [St.FX,if_pos (by show 186<246;omega)];rfl)
   simpa [SV.den,AA] using this
  refine Cm Tryz.AH hg1 Ta.2 Ta.1 (by show 187<246;omega) (fx he) fun a1 hg2=>?_
  unfold wpList
  have h187:a1.eval (.tmp 187)=.bool false:=by
   have:=hg2.tmps 187 (.b false) (by simp [St.pu,Ey])
   exact this
  refine wp_seq (wp_cond_false h187 (wp_exit ?_))
  obtain ⟨m,hm⟩:=FI (Yx he)
  refine hdone (fun j hj=>?_) a1 W _ (hg2.GL hβ hm KC.1 hc1 hc2 hh.it)
  have hj':es[j]?=some es[j]:=Array.getElem?_eq_getElem (by omega)
  obtain ⟨x,hx,hex⟩:=hel j _ hj'
  have:=all_seen es seen hz es[j] (by simp)
  rw [hex] at this
  exact this
 ·-- an entry
  obtain ⟨hmem,hns⟩:=mem_left hem
  obtain ⟨j,hj⟩:=List.mem_iff_getElem?.1 hmem
  rw [Array.getElem?_toList] at hj
  obtain ⟨x,hx,rfl⟩:=hel j e hj
  refine .inl (An (hexec _ _ hrun) ?_)
  rw [O2.2.1]
  have hh1:=hh.Ke hw1 h0 (.mapIter (some bm) k.gotos.length (seen.push j) es.size)
  obtain ⟨D2,β2,vs2,o2,n2,he2,hβ2,hbn2,hg2,hd1,hd2⟩:=hh1.g
  rw [he] at he2
  simp only [Prod.mk.injEq] at he2
  obtain ⟨rfl,rfl,rfl⟩:=he2
  obtain ⟨bm2,hb42,hM2⟩:=hg2.gh.own 4 _ ho4
  have hbm2:bm2=bm:=by rw [<-hbm,<- hβ2 4 (by omega)];simp [Nm.AP,hb42]
  subst hbm2
  obtain ⟨es2,hes2,hsz2,hel2⟩:=SR hM2
  have hee:es2=es:=by
   refine Array.ext (hsz2.trans hsz.symm) fun i h1 h2=>?_
   obtain ⟨y1,hy1,e1⟩:=hel2 i _ (Array.getElem?_eq_getElem h1)
   obtain ⟨y2,hy2,e2⟩:=hel i _ (Array.getElem?_eq_getElem h2)
   rw [hy1] at hy2;cases hy2
   rw [e1,e2]
  subst hee
  have hg3:G w0 F D0 D2 ((TY vs o n).pu 186 (.Gb [.b true,.v (.string ⟨⟨x.1⟩⟩),.v (.int .i64 x.2)])) (· <n) β2 (a.put (some 186) (.tuple #[.bool true,.string ⟨⟨x.1⟩⟩,.int .i64 x.2])) (Go.ChangeMaps.setBlock w1 r (.mapIter (some bm2) k.gotos.length (seen.push j) es2.size)):=by
   have:=hg2.put (d:=some 186) (x:=.Gb [.b true,.v (.string ⟨⟨x.1⟩⟩),.v (.int .i64 x.2)]) (by simp [SV.on,BR]) (s':=(TY vs o n).pu 186 (.Gb [.b true,.v (.string ⟨⟨x.1⟩⟩),.v (.int .i64 x.2)])) (by rw [St.FX,if_pos (by show 186<246;omega)];rfl)
   simpa [SV.den,AA] using this
  refine Cm Tryz.AH hg3 Ta.2 Ta.1 (by show 187<246;omega) (fy x he) fun a1 hg4=>?_
  unfold wpList
  have h187:a1.eval (.tmp 187)=.bool true:=hg4.tmps 187 (.b true) (by simp [St.pu,Ey])
  refine wp_seq (wp_cond_true h187 (wp_skip (wp_block (wp_seq (wp_region_list ?_)))))
  rw [V4]
  unfold wpList
  rw [if_pos (by simp [Region.wanted,O1.2.2])]
  have h185':a1.eval (.tmp 185)=.pointer (some ⟨r,0,none⟩):=by
   have:=hg4.tmps 185 (.ptr 5 0) (by simp [St.pu,Ey];exact ht185)
   show a1.tmps.getD 185 undef=_
   rw [this];simp only [SV.den,hβ2 5 (by omega),hr]
  have hrunE:=run_entry_at (P:=Tryz.prog) (Go.ChangeMaps.setBlock w1 r (.mapIter (some bm2) k.gotos.length (seen.push j) es2.size)) r bm2 k.gotos.length seen es2 es2.size ⟨.string ⟨⟨x.1⟩⟩,.int .i64 x.2,j⟩ hh1.it hes2 (List.mem_of_getElem? (by rw [Array.getElem?_toList];exact hj)) (Rw fun i e hi=>by obtain ⟨y,_,rfl⟩:=hel2 i e hi;rfl)
  refine .inl (An (v:=.tuple #[.string ⟨⟨x.1⟩⟩,.int .i64 x.2]) (by simp only [execOp,O1.1,h185',Sem.run_bind,hrunE,Result.andThen_ok,Sem.run_pure];rfl) ?_)
  rw [O1.2.1]
  have hg5:G w0 F D0 D2 (SP vs o n x) (· <n) β2 (a1.put (some 188) (.tuple #[.string ⟨⟨x.1⟩⟩,.int .i64 x.2])) (Go.ChangeMaps.setBlock w1 r (.mapIter (some bm2) k.gotos.length (seen.push j) es2.size)):=by
   have:=hg4.put (d:=some 188) (x:=.Gb [.v (.string ⟨⟨x.1⟩⟩),.v (.int .i64 x.2)]) (by simp [SV.on,BR]) (s':=SP vs o n x) (by rw [St.FX,if_pos (by show 188<246;omega)];rfl)
   simpa [SV.den,AA] using this
  refine Cm Tryz.AH hg5 Z9.2 Z9.1 (by show 189<246;omega) (gA he) fun a2 hg6=>?_
  refine Cm Tryz.AH hg6 aA.2 aA.1 (by show 190<246;omega) (gB he) fun a3 hg7=>?_
  refine Cm Tryz.AH hg7 aB.2 aB.1 (by show 17<246;omega) (gC he) fun a4 hg8=>?_
  refine Cm Tryz.AH hg8 aC.2 aC.1 (by show 18<246;omega) (gD he) fun a5 hg9=>?_
  unfold wpList
  obtain ⟨m,hm⟩:=FI (fq (e:=x) he)
  have hx1:HX En.Dop.D4 w0 F D0 SO Yt 6 β1 fi.sz (Yv t6 t15 f x k k1) r (.mapIter (some bm2) k.gotos.length (seen.push j) es2.size) a5 (Go.ChangeMaps.setBlock w1 r (.mapIter (some bm2) k.gotos.length (seen.push j) es2.size)):=by
   rw [Vx];exact hg9.GL hβ2 hm KC.2.1 hd1 hd2 hh1.it
  refine wp_seq (wp_region_list (hx1.jK cJ (f0:=3000) KC.2.2 (by kernel_rfl) (cQ t6 t15 f x k k1) hkp fun a6 W6 hx2=>?_))
  rw [Vx] at hx2
  obtain ⟨D3,β3,vs3,o3,n3,he3,hβ3,hbn3,hg10,he1,he2'⟩:=hx2.g
  obtain ⟨l1,l2,l3,l4,l5⟩:=fp he3
  have h212:a6.eval (.tmp 212)=.bool (WB k x && (decide (f<0) || decide (LO k x.2<LO k f))):=hg10.tmps 212 _ l1
  have hst:Ij k f x=if (WB k x && (decide (f<0) || decide (LO k x.2<LO k f)))=true then x.2 else f:=rfl
  have hfin: ∀ a' W',ak w0 F D0 β1 t6 t15 (Ij k f x) k k1 r (.mapIter (some bm2) k.gotos.length (seen.push j) es2.size) a' W'->Exit.inBlock 3 Q .normal a' W':=fun a' W' h=>by
   rw [<-hbm] at h
   exact hmore j x hx hns a' W' es2.size (by omega) h
  cases hb:(WB k x && (decide (f<0) || decide (LO k x.2<LO k f))) with
  | true=>
   rw [hb] at h212 hst
   rw [if_pos rfl] at hst
   refine wp_cond_true h212 (wp_region_list ?_)
   rw [V6]
   refine Cm Tryz.AH (s:=WA vs3 o3 n3) hg10 aD.2 aD.1 (by show 213<246;omega) l2 fun a7 hg11=>?_
   refine Cm Tryz.AH hg11 aE.2 aE.1 (by show 16<246;omega) l3 fun a8 hg12=>?_
   unfold wpList
   obtain ⟨m2,hm2⟩:=FI l4
   refine hfin a8 W6 ?_
   rw [hst]
   exact hg12.GL hβ3 hm2 KC.1 he1 he2' hx2.it
  | false=>
   rw [hb] at h212 hst
   rw [if_neg (by simp)] at hst
   refine wp_cond_false h212 (wp_skip ?_)
   obtain ⟨m2,hm2⟩:=FI l5
   refine hfin a6 W6 ?_
   rw [hst]
   exact hg10.GL hβ3 hm2 KC.1 he1 he2' hx2.it
end
end Go.Proofs
/- core.function's range over its gotos: the rounds; from cut 24 to cut 32. -/
set_option maxRecDepth 100000
namespace Go.Proofs
open Go Go.En Go.RowKit
section
variable {w0:World} {F D0:Nat->Prop} {β1:Nat->Nm} {t6:List Int} {t15:Int} {k:CK} {k1:CT} {r:Nat}
def SN (L:Nat) (seen:Array Nat):Nat:=((List.range L).filter fun j=>!seen.contains j).length
theorem OF (hkp:Bz En.Dop.D4 w0 F D0) (h0:w0.heap.size<=r) (hr:(β1 5).AP=r) (hp:QW k) {Q:Exit->Act->World->Prop}
  (hdone: ∀ f,UO k (fun _=>True) f-> ∀ a' W' ob,ak w0 F D0 β1 t6 t15 f k k1 r ob a' W'->Q (.exit 2) a' W'):
  ∀ (m:Nat) (seen:Array Nat) (c0:Nat) (f:Int) (a:Act) (W:World),SN k.gotos.length seen<m->k.gotos.length<=c0->UO k (fun j=>seen.contains j=true) f->ak w0 F D0 β1 t6 t15 f k k1 r (.mapIter (some (β1 4).AP) k.gotos.length seen c0) a W->Code.rounds Tryz.prog QV Q m a W
 | 0,seen,c0,f,a,W,hm,hL,hI,hh=>absurd hm (Nat.not_lt_zero _)
 | m+1,seen,c0,f,a,W,hm,hL,hI,hh=>by
  rw [rounds_succ]
  refine WM hkp h0 hr hL hh (fun hall a' W' ob h=>?_) (fun j x hx hs a' W' c1 hc h=>?_)
  ·exact hdone f (hI.congr fun j hj=>iff_of_true (hall j hj) trivial) a' W' ob h
  ·refine OF hkp h0 hr hp hdone m (seen.push j) c1 _ a' W' ?_ hc ((hI.step hp hx).congr fun i hi=>?_) h
   ·have hj:j<k.gotos.length:=(List.getElem?_eq_some_iff.1 hx).1
    have:=filter_lt (fun i=>!seen.contains i) (fun i=>!(seen.push j).contains i) (fun i hi=>by
     simp only [contains_push] at hi
     cases h:seen.contains i with
     | false=>rfl
     | true=>rw [h] at hi;cases hi) j (by simp only [hs];rfl) (by simp only [contains_push,beq_self_eq_true,Bool.or_true];rfl) (List.range k.gotos.length) (by simpa using hj)
    unfold SN at hm ⊢
    omega
   ·rw [contains_push,Bool.or_eq_true,beq_iff_eq]
end
noncomputable abbrev cK (vs:List SV) (o:List (Nat×En.Own En.Dop.D4)) (n:Nat):St En.Dop.D4:=⟨[0,6,15].zip vs,o,n,246⟩
noncomputable abbrev cL (vs:List SV) (o:List (Nat×En.Own En.Dop.D4)) (n:Nat):St En.Dop.D4:=(cK vs o n).pu 16 (.v (.int .i64 (-1)))
noncomputable abbrev cM (vs:List SV) (o:List (Nat×En.Own En.Dop.D4)) (n:Nat):St En.Dop.D4:=((cL vs o n).pu 181 (.ptr 0 0)).pu 182 (.ptr 0 0)
noncomputable abbrev V9 (vs:List SV) (o:List (Nat×En.Own En.Dop.D4)) (n:Nat) (q:Nat):St En.Dop.D4:=((cM vs o n).pu 183 (.ptr 0 q)).pu 184 (.Bw 13)
noncomputable abbrev fm (vs:List SV) (o:List (Nat×En.Own En.Dop.D4)) (n:Nat) (q:Nat):St En.Dop.D4:=⟨(185,.ptr n 0)::(V9 vs o n q).t,o,n+1,246⟩
end Go.Proofs
/- core.function's range over its gotos: from cut 24 to cut 32. -/
set_option maxRecDepth 100000
namespace Go.Proofs
open Go Go.En Go.RowKit
theorem Z8:(Au MX 0).dst=some 16/\(Au MX 0).guard=none:=⟨by kernel_rfl,by kernel_rfl⟩
theorem WD:(Au DH 0).dst=some 181/\(Au DH 0).guard=none:=⟨by kernel_rfl,by kernel_rfl⟩
theorem WE:(Au DH 1).dst=some 182/\(Au DH 1).guard=none:=⟨by kernel_rfl,by kernel_rfl⟩
theorem WG:(Au DH 2).dst=some 183/\(Au DH 2).guard=none:=⟨by kernel_rfl,by kernel_rfl⟩
theorem WI:(Au DH 3).dst=some 184/\(Au DH 3).guard=none:=⟨by kernel_rfl,by kernel_rfl⟩
theorem WJ:(Au HY 0).dst=some 214/\(Au HY 0).guard=none:=⟨by kernel_rfl,by kernel_rfl⟩
theorem WK:(Au HY 1).dst=some 215/\(Au HY 1).guard=none:=⟨by kernel_rfl,by kernel_rfl⟩
theorem fv {t6:List Int} {t15:Int} {k:CK} {k1:CT} {vs:List SV} {o:List (Nat×En.Own En.Dop.D4)} {n:Nat} (h:En.Spec.enc (S:=En.Dop.D4) Tryz.D9.Xr.sp (((),t6,t15,()),(k,k1,())) 2=(vs,o,n)):
  evalOp Tryz.tb (cK vs o n) (Au MX 0).op=.val none (.v (.int .i64 (-1)))/\evalOp Tryz.tb (cL vs o n) (Au DH 0).op=.val none (.ptr 0 0)/\evalOp Tryz.tb ((cL vs o n).pu 181 (.ptr 0 0)) (Au DH 1).op=.val none (.ptr 0 0)/\
  evalOp Tryz.tb (cM vs o n) (Au DH 2).op=.val none (.ptr 0 19)/\evalOp Tryz.tb ((cM vs o n).pu 183 (.ptr 0 19)) (Au DH 3).op=.val none (.Bw 13)/\n=17/\lk o 13=some (.mp .str 0 false k.gotos)/\lk (V9 vs o n 19).t 184=some (.Bw 13)/\
  (G9 QX O4 2 6 (fm vs o n 19)).map (fun z=>(z.1,lk z.2 4,lk z.2 5))=some (SQ t6 t15 (-1) k k1,some 13,some 17):=by
 cases h
 exact ⟨by kernel_rfl,by kernel_rfl,by kernel_rfl,by kernel_rfl,by kernel_rfl,by kernel_rfl,by kernel_rfl,by kernel_rfl,by kernel_rfl⟩
abbrev V8:En.Spec:=⟨[.al 0 0,.own 0 3,.fd (.int .i64),.fd (.int .i64)],[CK.b0,CT.b1]⟩
theorem fw {t6:List Int} {t15 f:Int} {k:CK} {k1:CT} {vs:List SV} {o:List (Nat×En.Own En.Dop.D4)} {n:Nat} (h:QX.enc (S:=En.Dop.D4) (SQ t6 t15 f k k1) 6=(vs,o,n)):
  evalOp Tryz.tb (TY vs o n) (Au HY 0).op=.val none (.v (.int .i64 f))/\evalOp Tryz.tb ((TY vs o n).pu 214 (.v (.int .i64 f))) (Au HY 1).op=.val none (.b (decide (0<=f)))/\
  lk (((TY vs o n).pu 214 (.v (.int .i64 f))).pu 215 (.b (decide (0<=f)))).t 215=some (.b (decide (0<=f)))/\
  (G9 V8 [0,6,15,16] 2 2 (((TY vs o n).pu 214 (.v (.int .i64 f))).pu 215 (.b (decide (0<=f))))).map (·.1)=some (((),t6,t15,f,()),(k,k1,()))/\
  (G9 Tryz.D9.VO.sp [0,6,15] 2 2 (((TY vs o n).pu 214 (.v (.int .i64 f))).pu 215 (.b (decide (0<=f))))).map (·.1)=some (((),t6,t15,()),(k,k1,())):=by
 cases h
 exact ⟨by kernel_rfl,by kernel_rfl,by kernel_rfl,by kernel_rfl,by kernel_rfl⟩
noncomputable abbrev OD (ct:List (CC En.Dop.D4)):Env En.Dop.D4:=BC Tryz.prog 78 Tryz.tb ct Tryz.D9.p
theorem OE (ct:List (CC En.Dop.D4)):(OD ct).sz=246:=by kernel_rfl
theorem SS:Tryz.D9.VO.sp.okB 2=true/\V8.okB 2=true:=⟨by kernel_rfl,by kernel_rfl⟩
theorem cO:C5 (AQ Tryz.prog 78) Tryz.D9.Xr.key=some [.code [0,1,1,1,1,1,1,1,1,1,1,1] (.region 24 MX false),.code [1,1,1,1,1,1,1,1,1,1,1,1] Yp]:=by kernel_rfl
theorem cP:C5 (AQ Tryz.prog 78) Tryz.D9.VO.key=some [.code [1,1,1,1,1,1,1,1,1,1,1,1,1,1] jD]:=by kernel_rfl
theorem Yy {ct:List (CC En.Dop.D4)} (hE:(OD ct).Ok Tryz.prog) {mf:Int->CK->CT->Option ((En.Dop.Ae×Unit)×(CK×CT×Unit))} (hmf: ∀ f f' k k1,LO k f=LO k f'->mf f k k1=mf f' k k1)
  (hseg: ∀ t6 t15 f k k1,(NV (OD ct) 3000 TX V8 Tryz.D9.VO.sp [0,6,15,16] [0,6,15] 2 (((),t6,t15,f,()),(k,k1,()))).eval (fun _ _=>none)=(mf f k k1).bind fun y=>some (((),t6,t15,()),(y.2.1,(y.2.2.1,()))))
  {Q:Exit->Act->World->Prop} {w0:World} {F D0:Nat->Prop} {β0:Nat->Nm} {M:Nat} (t6:List Int) (t15:Int) (k:CK) (k1:CT) (y:Tryz.D9.VO.sp.D En.Dop.D4) (hkp:Bz En.Dop.D4 w0 F D0) (hg:jC mf (((),t6,t15,()),(k,k1,()))=some y)
  (hv:IK Tryz.prog Q w0 F D0 β0 M (OD ct) Tryz.D9.VO y):IK Tryz.prog Q w0 F D0 β0 M (OD ct) Tryz.D9.Xr (((),t6,t15,()),(k,k1,())):=by
 unfold jC at hg
 split at hg
 case isFalse=>cases hg
 rename_i hpos
 have hp:QW k:=fun e he=>by simpa using List.all_eq_true.1 hpos e he
 intro ks vs o n hk he
 have hk:C5 (AQ Tryz.prog 78) Tryz.D9.Xr.key=some ks:=hk
 rw [cO] at hk
 cases hk
 have he:En.Spec.enc (S:=En.Dop.D4) Tryz.D9.Xr.sp (((),t6,t15,()),(k,k1,())) 2=(vs,o,n):=he
 obtain ⟨s0,s1,s2,s3,s4,hn,ho13,h184,hlook⟩:=fv he
 intro D β a W hβ0 hG
 have hG:G w0 F D0 D (cK vs o n) (· <n) β a W:=hG
 have hβ0: ∀ i,i<2->β i=β0 i:=hβ0
 show (Code.region 24 MX false).wpIn Fence.wide 0 Tryz.prog (after Fence.wide Tryz.prog M [.code Yp] Q) a W
 refine wpIn_wide.2 (wp_region_list ?_)
 rw [V1]
 refine Cm Tryz.AH hG Z8.2 Z8.1 (by show 16<246;omega) s0 fun a1 g1=>?_
 unfold wpList
 show Yp.wpIn Fence.wide 0 Tryz.prog Q a1 W
 refine wpIn_wide.2 ?_
 rw [cI]
 refine wp_seq (wp_seq (wp_region_list ?_))
 rw [V2]
 refine Cm Tryz.AH g1 WD.2 WD.1 (by show 181<246;omega) s1 fun a2 g2=>?_
 refine Cm Tryz.AH g2 WE.2 WE.1 (by show 182<246;omega) s2 fun a3 g3=>?_
 refine Cm Tryz.AH g3 WG.2 WG.1 (by show 183<246;omega) s3 fun a4 g4=>?_
 refine Cm Tryz.AH g4 WI.2 WI.1 (by show 184<246;omega) s4 fun a5 g5=>?_
 have g5:G w0 F D0 D (V9 vs o n 19) (· <n) β a5 W:=g5
 obtain ⟨bm,hb13,hM⟩:=g5.gh.own 13 _ ho13
 obtain ⟨es,hes,hsz,hel⟩:=SR hM
 have e184:a5.eval (.tmp 184)=.map (some bm):=by
  have:=g5.tmps 184 _ h184
  show a5.tmps.getD 184 undef=_
  rw [this];simp [SV.den,Nm.AP,hb13]
 have hT:=AY (d:=.map 9 3) Tryz.AH (T:=132) (by kernel_rfl)
 simp only [TD.ok] at hT
 have hrun:=run_range_map (P:=Tryz.prog) W 132 _ _ bm es es.size hT hes
 unfold wpList
 rw [if_pos (by simp [Region.wanted,O3.2.2])]
 refine .inl (An (v:=.pointer (some ⟨W.heap.size,0,none⟩)) (w':=W.alloc (.mapIter (some bm) es.size #[] es.size)) (by simp only [execOp,O3.1,e184,Sem.run_bind,hrun,Result.andThen_ok,Sem.run_pure]) ?_)
 rw [O3.2.1]
 unfold wpList
 -- the iterator's block has a name
 let β':Nat->Nm:=fun i=>if i=17 then ⟨some W.heap.size,0,0,undef⟩ else β i
 have hβ': ∀ i,i<n->β i=β' i:=fun i hi=>by simp only [β'];rw [if_neg (by omega)]
 have hgh:GH w0 F D0 D o (· <n) β W:=g5.gh
 have g6:G w0 F D0 D (fm vs o n 19) (· <n+1) β' (a5.put (some 185) (.pointer (some ⟨W.heap.size,0,none⟩))) (W.alloc (.mapIter (some bm) es.size #[] es.size)):=by
  refine ⟨g5.defers,by rw [Hl];exact g5.size,fun t v ht=>?_,fun t v ht=>?_,((hgh.step ((Below.refl _ W).alloc (Nat.le_refl _) _)).congr hβ').mono fun i hi=>Nat.lt_succ_of_lt hi⟩
  ·have ht:lk ((185,SV.ptr n 0)::(V9 vs o n 19).t) t=some v:=ht
   rw [AI] at ht
   split at ht
   ·rename_i e;subst e;cases ht;exact ⟨by show 185<246;omega,by show n<n+1;omega⟩
   ·obtain ⟨q1,q2⟩:=g5.Gc t v ht
    exact ⟨q1,Ak (fun i hi=>Nat.lt_succ_of_lt hi) q2⟩
  ·have ht:lk ((185,SV.ptr n 0)::(V9 vs o n 19).t) t=some v:=ht
   rw [AI] at ht
   split at ht
   ·rename_i e;subst e;cases ht
    rw [Jr (by rw [g5.size];show 185<246;omega)]
    simp only [SV.den,β',hn,if_true,Nm.AP,Option.getD_some]
   ·rename_i hne
    obtain ⟨q1,q2⟩:=g5.Gc t v ht
    rw [GR hne,g5.tmps t v ht]
    exact CE hβ' v q2
 obtain ⟨⟨y0,m⟩,hl1,hl2⟩:=Option.map_eq_some_iff.1 hlook
 simp only [Prod.mk.injEq] at hl2
 obtain ⟨rfl,hm4,hm5⟩:=hl2
 have hclear: ∀ i b,lk o i=some b->¬ (β' i).has W.heap.size:=fun i b hi hk=>by
  have hin:i<n:=(hgh.Bk i b hi).1
  rw [<-hβ' i hin] at hk
  exact Nat.lt_irrefl _ (hgh.lt i b _ hi hk)
 have hDn:¬ D W.heap.size:=fun hd=>Nat.lt_irrefl _ (hgh.C8 _ hd)
 obtain ⟨β1,b1,b2,hx⟩:=g6.hx (by omega) hl1 KC.1 hclear hDn (heap_alloc_new W _)
 have hb4:(β1 4).AP=bm:=by
  rw [b2 4 (by omega) 13 hm4]
  show (β' 13).AP=bm
  rw [<-hβ' 13 (by omega)]
  simp [Nm.AP,hb13]
 have hb5:(β1 5).AP=W.heap.size:=by
  rw [b2 5 (by omega) 17 hm5]
  simp [β',Nm.AP]
 have hb01: ∀ i,i<2->β1 i=β0 i:=fun i hi=>by rw [b1 i hi,<- hβ' i (by omega),hβ0 i hi]
 have h0:w0.heap.size<=W.heap.size:=hgh.fr.size
 have hx:ak w0 F D0 β1 t6 t15 (-1) k k1 W.heap.size (.mapIter (some (β1 4).AP) k.gotos.length #[] k.gotos.length) (a5.put (some 185) (.pointer (some ⟨W.heap.size,0,none⟩))) (W.alloc (.mapIter (some bm) es.size #[] es.size)):=by
  rw [hb4,<- hsz];exact hx
 refine wp_block (wp_loop_rounds (SN k.gotos.length #[]+1) (OF hkp h0 hb5 hp (fun f hI a' W' ob hh=>?_) _ _ _ _ _ _ (Nat.lt_succ_self _) (Nat.le_refl _) (.inl ⟨rfl,fun j x hj=>absurd hj (by simp)⟩) hx))
 -- all have come
 show (Code.seq (.seq (.region 30 HY false) (.cond (.tmp 215) (.region 31 TX false) .skip)) jD).wp Tryz.prog Q a' W'
 have huq:=(WL hp).uniq hp hI
 obtain ⟨D2,β2,vs2,o2,n2,he2,hβ2,hbn2,hg2,hd1,hd2⟩:=hh.g
 obtain ⟨z0,z1,z2,z3,z4⟩:=fw he2
 have hend: ∀ (y':Tryz.D9.VO.sp.D En.Dop.D4) a'' W'' ob',y'=y->HX En.Dop.D4 w0 F D0 Tryz.D9.VO.sp [0,6,15] 2 β0 246 y' W.heap.size ob' a'' W''->jD.wp Tryz.prog Q a'' W'':=fun y' a'' W'' ob' hy h=>by
  subst hy
  obtain ⟨D3,β3,vs3,o3,n3,he3,hβ3,hbn3,hg3,_,_⟩:=h.g
  have:=hv _ vs3 o3 n3 cP he3 D3 β3 a'' W'' hβ3 hg3
  exact wpIn_wide.1 this
 refine wp_seq (wp_seq (wp_region_list ?_))
 rw [V7]
 refine Cm Tryz.AH (s:=TY vs2 o2 n2) hg2 WJ.2 WJ.1 (by show 214<246;omega) z0 fun a6 g7=>?_
 refine Cm Tryz.AH g7 WK.2 WK.1 (by show 215<246;omega) z1 fun a7 g8=>?_
 unfold wpList
 have e215:a7.eval (.tmp 215)=.bool (decide (0<=f)):=g8.tmps 215 _ z2
 have hb2: ∀ i,i<2->β2 i=β0 i:=fun i hi=>by rw [hβ2 i (by omega),hb01 i hi]
 cases hf:decide (0<=f) with
 | true=>
  rw [hf] at e215
  refine wp_cond_true e215 (wp_region_list ?_)
  obtain ⟨m3,hm3⟩:=FI z3
  have hx3:=g8.GL hb2 hm3 SS.2 hd1 hd2 hh.it
  rcases huq with ⟨e1,e2⟩|⟨e1,e2,e3⟩
  ·rw [e1] at e2;subst e2;simp at hf
  rw [if_pos (by simpa using e1)] at hg
  obtain ⟨v,hv1,hv2⟩:=Option.bind_eq_some_iff.1 hg
  rw [hmf _ _ _ k1 e3] at hv1
  have hs:=hseg t6 t15 f k k1
  rw [hv1] at hs
  have hx3:HX En.Dop.D4 w0 F D0 V8 [0,6,15,16] 2 β0 (OD ct).sz (((),t6,t15,f,()),(k,k1,())) W.heap.size ob a7 W':=by rw [OE];exact hx3
  refine hx3.jK hE (f0:=3000) SS.1 (by kernel_rfl) hs hkp fun a8 W8 h8=>?_
  rw [OE] at h8
  exact hend _ a8 W8 _ (Option.some.inj hv2) h8
 | false=>
  rw [hf] at e215
  refine wp_cond_false e215 (wp_skip ?_)
  obtain ⟨m3,hm3⟩:=FI z4
  have hx3:=g8.GL hb2 hm3 SS.1 hd1 hd2 hh.it
  have hfirst:¬ (0:Int)<=LP k:=by
   rcases huq with ⟨e1,e2⟩|⟨e1,e2,e3⟩
   ·omega
   ·simp [e2] at hf
  rw [if_neg (by simpa using hfirst)] at hg
  exact hend _ a7 W' _ (Option.some.inj hg) hx3
end Go.Proofs
/- Functions of the seat, lifted: plan, model, contract, equations. Written by a program (Lift) that ran the layer's evaluation; Lean checks each line. -/
set_option maxRecDepth 100000
set_option maxHeartbeats 4000000
namespace Go.Proofs.Tryz
open Go Go.En
end Go.Proofs.Tryz
/- Functions of the seat, lifted: plan, model, contract, equations. Written by a program (Lift) that ran the layer's evaluation; Lean checks each line. -/
set_option maxRecDepth 100000
set_option maxHeartbeats 4000000
namespace Go.Proofs.Tryz
open Go Go.En
abbrev J1.q3:Cut:=⟨[[0,0,0,0,0,1,0,1,1],[0,1,0,0,0,1,0,1,1],[0,1,0,0,1,0,1,1],[2,0,0,1,0,1,1],[1,0],[0,1,1,1]],[1,2],1,⟨[.al 0 0,.fd (.int .i64)],[CT.b0]⟩⟩
def J1.p:Ai:=⟨[(3,J1.q3)],0,⟨[],[]⟩,⟨[.al 0 0],[CT.b0]⟩,false,[],[]⟩
theorem J1.ok:AG Dop.D4 prog 72 J1.p=true:=by kernel_rfl
abbrev HM.q5:Cut:=⟨[[0,0,0,0,1,0,1,1,1,1],[0,1,0,0,1,0,1,1,1,1],[2,0,0,1,0,1,1,1,1],[1,0],[0,1,1,1,1,1]],[2,5,6,30,31,32],4,⟨[.al 1 0,.al 2 0,.rw 0,.rw 0,.fd (.int .i64),.fd (.int .i64)],[⟨0,0,[.own 0 3],true⟩,⟨1,27,[.own 11 52,.own 12 32,.fd (.int .i64),.own 5 56],false⟩,CH.b2,⟨3,168,[.own 6 93,.mp (.str) 17 false],false⟩]⟩⟩
abbrev HM.kP:Cut:=⟨[[0,0,0,0,1,0,1,1,1,1,1],[0,1,0,0,1,0,1,1,1,1,1],[2,0,0,1,0,1,1,1,1,1],[1,3],[0,1,1,1,1,1,1]],[2,5,60,61,62],3,⟨[.al 0 0,.al 1 0,.own 0 3,.fd (.int .i64),.fd (.int .i64)],[⟨0,27,[.own 11 52,.own 12 32,.fd (.int .i64),.own 5 56],false⟩,CH.b1,CT.b2]⟩⟩
abbrev HM.kT:Cut:=⟨[[0,0,0,1,1,1,1,1,1,1,1],[0,1,0,1,1,1,1,1,1,1,1],[0,1,1,1,1,1,1,1,1,1]],[2,5],3,⟨[.al 0 0,.al 1 0],[⟨0,27,[.own 11 52,.own 12 32,.fd (.int .i64),.own 5 56],false⟩,CH.b1,CT.b2]⟩⟩
def HM.p:Ai:=⟨[(5,HM.q5),(17,HM.kP),(26,HM.kT)],0,⟨[.st 7],[]⟩,⟨[.st 13,.fd (.int .i64),.fd (.int .i64)],[]⟩,false,[(1,⟨[(0,false),(1,false),(2,false),(3,false),(4,false),(5,true),(6,false),(7,true)],[1000002],[0,0,0,4,0,31,63,127],false⟩),(27,⟨[(0,true),(1,true),(2,true),(3,true),(4,false),(5,true),(6,true),(7,true),(8,false),(9,false),(10,true),(11,true)],[1000002],[0,0,2,6,14,0,32,96,224,1,543,2047],false⟩)],[]⟩
theorem HM.ok:AG Dop.D4 prog 42 HM.p=true:=by kernel_rfl
def m18.p:Ai:=⟨[],0,⟨[.fd .str],[]⟩,⟨[.st 13,.fd (.int .i64),.fd (.int .i64)],[]⟩,false,[],[]⟩
theorem m18.ok:AG Dop.D4 prog 18 m18.p=true:=by kernel_rfl
end Go.Proofs.Tryz
/- What a run and a frame hold. Written by a program. -/
namespace Go.Proofs
open Go Go.En
abbrev ER:Type:=En.Dop.Jy×List (Int)×Int×List (Int)×List (Int)×Int×Int×Int×Int×Unit×Unit
abbrev ER.p (k:ER):En.Dop.Jy:=k.1
abbrev ER.mem (k:ER):List (Int):=k.2.1
abbrev ER.YB (k:ER) (v:List (Int)):ER:=(k.1,v,k.2.2)
abbrev ER.sp (k:ER):Int:=k.2.2.1
abbrev ER.YD (k:ER) (v:Int):ER:=(k.1,k.2.1,v,k.2.2.2)
abbrev ER.input (k:ER):List (Int):=k.2.2.2.1
abbrev ER.UH (k:ER) (v:List (Int)):ER:=(k.1,k.2.1,k.2.2.1,v,k.2.2.2.2)
abbrev ER.out (k:ER):List (Int):=k.2.2.2.2.1
abbrev ER.gx (k:ER) (v:List (Int)):ER:=(k.1,k.2.1,k.2.2.1,k.2.2.2.1,v,k.2.2.2.2.2)
abbrev ER.fuel (k:ER):Int:=k.2.2.2.2.2.1
abbrev ER.dW (k:ER) (v:Int):ER:=(k.1,k.2.1,k.2.2.1,k.2.2.2.1,k.2.2.2.2.1,v,k.2.2.2.2.2.2)
abbrev ER.end_ (k:ER):Int:=k.2.2.2.2.2.2.1
abbrev ER.dV (k:ER) (v:Int):ER:=(k.1,k.2.1,k.2.2.1,k.2.2.2.1,k.2.2.2.2.1,k.2.2.2.2.2.1,v,k.2.2.2.2.2.2.2)
abbrev ER.code (k:ER):Int:=k.2.2.2.2.2.2.2.1
abbrev ER.dU (k:ER) (v:Int):ER:=(k.1,k.2.1,k.2.2.1,k.2.2.2.1,k.2.2.2.2.1,k.2.2.2.2.2.1,k.2.2.2.2.2.2.1,v,k.2.2.2.2.2.2.2.2)
abbrev ER.b0:En.Ge:=⟨0,121,[.st 13,.own 0 3,.st 0,.fd (.sl 3),.own 3 5,.st 0,.st 0,.st 0,.st 0,.hm],false⟩
abbrev ER.b1:En.Ge:=⟨1,121,[.st 13,.own 0 3,.st 0,.fd (.sl 3),.own 3 5,.st 0,.st 0,.st 0,.st 0,.hm],false⟩
abbrev ER.b2:En.Ge:=⟨2,121,[.st 13,.own 0 3,.st 0,.fd (.sl 3),.own 3 5,.st 0,.st 0,.st 0,.st 0,.hm],false⟩
abbrev EF:Type:=En.Dop.DR×List (Int)×Int×Int×List UInt8×Int×Int×Unit
abbrev EF.Al (k:EF):List (Int):=k.2.1
abbrev EF.YC (k:EF) (v:List (Int)):EF:=(k.1,v,k.2.2)
abbrev EF.base (k:EF):Int:=k.2.2.1
abbrev EF.told (k:EF):Int:=k.2.2.2.1
abbrev EF.YE (k:EF) (v:Int):EF:=(k.1,k.2.1,k.2.2.1,v,k.2.2.2.2)
abbrev EF.ko (k:EF):List UInt8:=k.2.2.2.2.1
abbrev EF.gy (k:EF) (v:List UInt8):EF:=(k.1,k.2.1,k.2.2.1,k.2.2.2.1,v,k.2.2.2.2.2)
abbrev EF.key (k:EF):Int:=k.2.2.2.2.2.1
abbrev EF.aZ (k:EF) (v:Int):EF:=(k.1,k.2.1,k.2.2.1,k.2.2.2.1,k.2.2.2.2.1,v,k.2.2.2.2.2.2)
abbrev EF.GV (k:EF):Int:=k.2.2.2.2.2.2.1
abbrev EF.G6 (k:EF) (v:Int):EF:=(k.1,k.2.1,k.2.2.1,k.2.2.2.1,k.2.2.2.2.1,k.2.2.2.2.2.1,v,k.2.2.2.2.2.2.2)
abbrev EF.b1:En.Ge:=⟨1,163,[.st 11,.own 0 3,.st 0,.st 0,.st 1,.st 0,.st 0],false⟩
abbrev EF.b2:En.Ge:=⟨2,163,[.st 11,.own 0 3,.st 0,.st 0,.st 1,.st 0,.st 0],false⟩
end Go.Proofs
/- Functions of the seat, lifted: plan, model, contract, equations. Written by a program (Lift) that ran the layer's evaluation; Lean checks each line. -/
set_option maxRecDepth 100000
set_option maxHeartbeats 4000000
namespace Go.Proofs.Tryz
open Go Go.En
def XJ.p:Ai:=⟨[],1,⟨[.st 11,.al 0 0],[⟨0,9,[.st 1],false⟩]⟩,⟨[.fd .bool],[⟨0,9,[.fd .str],false⟩]⟩,true,[],[]⟩
theorem XJ.ok:AG Dop.D4 prog 55 XJ.p=true:=by kernel_rfl
abbrev BP.q2:Cut:=⟨[[0,0,0,0,1,0,1],[0,1,0,0,1,0,1],[2,0,0,1,0,1],[1,0],[0,1,1]],[0,1,7,8],1,⟨[.fd (.sl 11),.fn 55 [(0,0)],.fd (.int .i64),.fd (.int .i64)],[⟨0,9,[.fd .str],false⟩]⟩⟩
def BP.p:Ai:=⟨[(2,BP.q2)],1,⟨[.fd (.sl 11),.fn 55 [(0,0)]],[⟨0,9,[.st 1],false⟩]⟩,⟨[.fd (.int .i64)],[⟨0,9,[.fd .str],false⟩]⟩,true,[],[]⟩
theorem BP.ok:AG Dop.D4 prog 54 BP.p=true:=by kernel_rfl
def Tl.p:Ai:=⟨[],0,⟨[.st 13,.fd .str],[]⟩,⟨[.fd (.int .i64)],[]⟩,true,[],[]⟩
theorem Tl.ok:AG Dop.D4 prog 25 Tl.p=true:=by kernel_rfl
def Mx.p:Ai:=⟨[],1,⟨[.al 0 0,.fd (.int .i64),.fd (.int .i64)],[ER.b0]⟩,⟨[.fd (.int .i64)],[ER.b0]⟩,false,[],[]⟩
theorem Mx.ok:AG Dop.D4 prog 65 Mx.p=true:=by kernel_rfl
def Mp.p:Ai:=⟨[],0,⟨[.st 13,.fd (.int .i64)],[]⟩,⟨[.st 5],[]⟩,true,[],[]⟩
theorem Mp.ok:AG Dop.D4 prog 152 Mp.p=true:=by kernel_rfl
abbrev DL.q3:Cut:=⟨[[0,0,0,0,1,0,1,1],[0,1,0,0,1,0,1,1],[2,0,0,1,0,1,1],[1,0],[0,1,1,1]],[1,2,5,9,10],1,⟨[.fd (.int .i64),.al 0 0,.own 0 3,.fd (.int .i64),.fd (.int .i64)],[⟨0,27,[.st 13],false⟩]⟩⟩
def DL.p:Ai:=⟨[(3,DL.q3)],0,⟨[.st 13,.fd (.int .i64)],[]⟩,⟨[.own 0 3],[]⟩,true,[],[]⟩
theorem DL.ok:AG Dop.D4 prog 114 DL.p=true:=by kernel_rfl
abbrev Bg.q9:Cut:=⟨[[0,0,0,1,1,1,0,1,0,1,1,1],[0,1,0,1,1,1,0,1,0,1,1,1],[1,0],[0,1,1,1,1]],[3,5,7],5,⟨[.al 2 0,.al 3 0,.al 4 0],[ER.b0,EF.b1,⟨2,118,[.al 0 0],false⟩,⟨3,161,[.al 1 0],false⟩,⟨4,56,[.st 5],false⟩]⟩⟩
abbrev Bg.UA:Cut:=⟨[[0,0,1,1,1,1,0,1,0,1,1,1],[0,1,1,1,1,1,0,1,0,1,1,1],[1,0],[0,1,1,1,1]],[3,5,7,19],5,⟨[.al 2 0,.al 3 0,.al 4 0,.fd (.int .i64)],[ER.b0,EF.b1,⟨2,118,[.al 0 0],false⟩,⟨3,161,[.al 1 0],false⟩,⟨4,56,[.st 5],false⟩]⟩⟩
def Bg.p:Ai:=⟨[(9,Bg.q9),(10,Bg.UA)],2,⟨[.al 0 0,.fd (.int .i64),.al 1 0],[ER.b0,EF.b1]⟩,⟨[.fd .bool],[ER.b0,EF.b1]⟩,false,[(6,⟨[(0,false),(1,true),(2,true),(3,false),(4,true),(5,true),(6,true),(7,false),(8,false),(9,true),(10,true),(11,false),(12,true),(13,true),(14,true),(15,false),(16,true),(17,false),(18,false),(19,false),(20,true),(21,true)],[2000003,2000005],[0,1,3,7,15,31,63,127,63,319,831,1855,4095,8191,16383,32767,32767,98303,32767,524287,1048575,2097151],false⟩),(9,⟨[(0,false),(1,true),(2,true),(3,false),(4,true),(5,true),(6,true),(7,false),(8,true),(9,true),(10,true),(11,true),(12,false),(13,false),(14,true),(15,true),(16,false),(17,true),(18,true),(19,true),(20,false),(21,true),(22,true),(23,false),(24,true),(25,true),(26,true),(27,false),(28,true),(29,true),(30,true),(31,true),(32,false),(33,true),(34,false),(35,false),(36,false),(37,true),(38,true)],[2000003,2000005],[0,1,3,7,15,31,63,127,255,511,1023,2047,4095,2047,10239,26623,59391,131071,262143,524287,1048575,2097151,4194303,8388607,16777215,33554431,67108863,134217727,268435455,536870911,1073741823,2147483647,4294967295,4294967295,12884901887,4294967295,68719476735,137438953471,274877906943],false⟩),(20,⟨[(0,false),(1,true),(2,true),(3,false),(4,true),(5,false),(6,false),(7,true),(8,false),(9,true)],[2000003,2000005],[0,1,3,7,0,16,63,0,255,511],true⟩)],[]⟩
theorem Bg.ok:AG Dop.D4 prog 153 Bg.p=true:=by kernel_rfl
def Cp.p:Ai:=⟨[],4,⟨[.own 0 3,.fn 184 [(0,0),(2,0)]],[⟨0,118,[.al 1 0],false⟩,ER.b1,⟨2,161,[.al 3 0],false⟩,⟨3,163,[.st 11,.own 0 3,.st 0,.st 0,.st 1,.st 0,.st 0],false⟩]⟩,⟨[.fd .bool],[⟨0,118,[.al 1 0],false⟩,ER.b1,⟨2,161,[.al 3 0],false⟩,⟨3,163,[.st 11,.own 0 3,.st 0,.st 0,.st 1,.st 0,.st 0],false⟩]⟩,false,[],[]⟩
theorem Cp.ok:AG Dop.D4 prog 183 Cp.p=true:=by kernel_rfl
abbrev Ah.q2:Cut:=⟨[[0,0,0,0,1,0,1],[0,1,0,0,1,0,1],[2,0,0,1,0,1],[1,0],[0,1,1]],[0,1,7,8],4,⟨[.own 0 3,.fn 184 [(0,0),(2,0)],.fd (.int .i64),.fd (.int .i64)],[⟨0,118,[.al 1 0],false⟩,ER.b1,⟨2,161,[.al 3 0],false⟩,⟨3,163,[.st 11,.own 0 3,.st 0,.st 0,.st 1,.st 0,.st 0],false⟩]⟩⟩
def Ah.p:Ai:=⟨[(2,Ah.q2)],4,⟨[.own 0 3,.fn 184 [(0,0),(2,0)]],[⟨0,118,[.al 1 0],false⟩,ER.b1,⟨2,161,[.al 3 0],false⟩,⟨3,163,[.st 11,.own 0 3,.st 0,.st 0,.st 1,.st 0,.st 0],false⟩]⟩,⟨[.fd (.int .i64)],[⟨0,118,[.al 1 0],false⟩,ER.b1,⟨2,161,[.al 3 0],false⟩,⟨3,163,[.st 11,.own 0 3,.st 0,.st 0,.st 1,.st 0,.st 0],false⟩]⟩,false,[],[]⟩
theorem Ah.ok:AG Dop.D4 prog 209 Ah.p=true:=by kernel_rfl
def K6.p:Ai:=⟨[],4,⟨[.fd (.int .i64),.al 0 0,.al 2 0],[⟨0,118,[.al 1 0],false⟩,ER.b1,⟨2,161,[.al 3 0],false⟩,⟨3,163,[.st 11,.own 0 3,.st 0,.st 0,.st 1,.st 0,.st 0],false⟩]⟩,⟨[.fd .bool],[⟨0,118,[.al 1 0],false⟩,ER.b1,⟨2,161,[.al 3 0],false⟩,⟨3,163,[.st 11,.own 0 3,.st 0,.st 0,.st 1,.st 0,.st 0],false⟩]⟩,false,[],[]⟩
theorem K6.ok:AG Dop.D4 prog 184 K6.p=true:=by kernel_rfl
abbrev Ct.T:Type:=(((Unit×Int×Unit×Unit)×(ER×EF×Unit))->Option ((Bool×Unit)×(ER×EF×Unit)))×(((List Int×Unit×Unit)×((Unit×Unit)×ER×(Unit×Unit)×EF×Unit))->Option ((Bool×Unit)×((Unit×Unit)×ER×(Unit×Unit)×EF×Unit)))×(((List Int×Unit×Unit)×((Unit×Unit)×ER×(Unit×Unit)×EF×Unit))->Option ((Int×Unit)×((Unit×Unit)×ER×(Unit×Unit)×EF×Unit)))×(((Int×Unit×Unit×Unit)×((Unit×Unit)×ER×(Unit×Unit)×EF×Unit))->Option ((Bool×Unit)×((Unit×Unit)×ER×(Unit×Unit)×EF×Unit)))×Unit
def FQ.p:Ai:=⟨[],1,⟨[.al 0 0],[ER.b0]⟩,⟨[.fd .bool],[ER.b0]⟩,false,[],[]⟩
theorem FQ.ok:AG Dop.D4 prog 117 FQ.p=true:=by kernel_rfl
def GQ.p:Ai:=⟨[],0,⟨[.fd (.int .i64)],[]⟩,⟨[.fd (.int .i64)],[]⟩,true,[],[]⟩
theorem GQ.ok:AG Dop.D4 prog 255 GQ.p=true:=by kernel_rfl
def D6.p:Ai:=⟨[],0,⟨[.fd (.int .i64)],[]⟩,⟨[.fd (.int .i64),.fd .bool],[]⟩,true,[],[]⟩
theorem D6.ok:AG Dop.D4 prog 256 D6.p=true:=by kernel_rfl
abbrev D7.q3:Cut:=⟨[[0,0,1,2,0,1],[0,1,1,2,0,1],[3,0,1]],[],0,⟨[],[]⟩⟩
def D7.p:Ai:=⟨[(3,D7.q3)],0,⟨[.fd (.int .i64),.fd (.int .i64)],[]⟩,⟨[.fd (.int .i64),.fd (.int .i64),.fd .bool],[]⟩,true,[(2,⟨[(0,true),(1,true),(2,true),(3,true),(4,true),(5,true),(6,true),(7,true),(8,true)],[],[0,0,3,0,0,24,7,127,255],false⟩)],[]⟩
theorem D7.ok:AG Dop.D4 prog 257 D7.p=true:=by kernel_rfl
def HI.p:Ai:=⟨[],0,⟨[.fd .bool],[]⟩,⟨[.fd (.int .i64)],[]⟩,true,[],[]⟩
theorem HI.ok:AG Dop.D4 prog 258 HI.p=true:=by kernel_rfl
abbrev Ba.kO:Cut:=⟨[[0,0,0,1,1,1,1,1,1,1,0,1,0,1,1,1],[0,1,0,1,1,1,1,1,1,1,0,1,0,1,1,1],[1,0],[0,1,1,1,1]],[0,1,2],0,⟨[.fd (.int .i64),.fd (.int .i64),.fd (.int .i64)],[]⟩⟩
abbrev Ba.aX:Cut:=⟨[[0,0,0,1,1,1,1,1,1,1,1,0,1,0,1,1,1],[0,1,0,1,1,1,1,1,1,1,1,0,1,0,1,1,1],[0,1,1,1,1,1,1,1,1,1,0,1,0,1,1,1],[1,0],[0,1,1,1,1]],[0,1,2,8,19],0,⟨[.fd (.int .i64),.fd (.int .i64),.fd (.int .i64),.fn 256 [],.fd (.int .i64)],[]⟩⟩
abbrev Ba.aW:Cut:=⟨[[0,0,1,1,0,1,1,1,1,1,1,1,0,1,0,1,1,1],[0,1,1,1,0,1,1,1,1,1,1,1,0,1,0,1,1,1],[1,0],[0,1,1,1,1]],[9,11],0,⟨[.fd (.int .i64),.fd .bool],[]⟩⟩
abbrev Ba.gm:Cut:=⟨[[0,0,0,1,1,1,1,1,1,1,1,1,0,1,0,1,1,1],[0,1,0,1,1,1,1,1,1,1,1,1,0,1,0,1,1,1],[1,0],[0,1,1,1,1]],[0,1,2],0,⟨[.fd (.int .i64),.fd (.int .i64),.fd (.int .i64)],[]⟩⟩
abbrev Ba.gp:Cut:=⟨[[0,0,1,1,1,1,1,1,1,1,1,1,0,1,0,1,1,1],[0,1,1,1,1,1,1,1,1,1,1,1,0,1,0,1,1,1],[1,0],[0,1,1,1,1]],[1,2,8,19],0,⟨[.fd (.int .i64),.fd (.int .i64),.fn 256 [],.fd (.int .i64)],[]⟩⟩
abbrev Ba.gn:Cut:=⟨[[0,0,1,1,0,1,1,1,1,1,1,1,1,1,0,1,0,1,1,1],[0,1,1,1,0,1,1,1,1,1,1,1,1,1,0,1,0,1,1,1],[1,0],[0,1,1,1,1]],[12,14],0,⟨[.fd (.int .i64),.fd .bool],[]⟩⟩
def Ba.p:Ai:=⟨[(12,Ba.kO),(16,Ba.aX),(15,Ba.aW),(18,Ba.gm),(22,Ba.gp),(21,Ba.gn)],0,⟨[.fd (.int .i64),.fd (.int .i64),.fd (.int .i64)],[]⟩,⟨[.fd (.int .i64),.fd .bool],[]⟩,true,[],[]⟩
theorem Ba.ok:AG Dop.D4 prog 236 Ba.p=true:=by kernel_rfl
def Jf.p:Ai:=⟨[],0,⟨[.fd .bool],[]⟩,⟨[.fd (.int .i64)],[]⟩,true,[],[]⟩
theorem Jf.ok:AG Dop.D4 prog 213 Jf.p=true:=by kernel_rfl
abbrev IS.q4:Cut:=⟨[[0,0,0,0,1,0,1,1],[0,1,0,0,1,0,1,1],[2,0,0,1,0,1,1],[1,0],[0,1,1,1]],[0,1,12,13],0,⟨[.fd (.sl 3),.fd (.sl 3),.fd (.int .i64),.fd (.int .i64)],[]⟩⟩
def IS.p:Ai:=⟨[(4,IS.q4)],0,⟨[.fd (.sl 3),.fd (.sl 3)],[]⟩,⟨[.fd .bool],[]⟩,true,[(6,⟨[(0,true),(1,true),(2,false),(3,false),(4,true),(5,true),(6,false),(7,false),(8,true)],[],[0,0,3,7,0,0,48,112,255],false⟩)],[]⟩
theorem IS.ok:AG Dop.D4 prog 63 IS.p=true:=by kernel_rfl
def Tm.p:Ai:=⟨[],0,⟨[.st 19,.st 19],[]⟩,⟨[.fd .bool],[]⟩,true,[],[]⟩
theorem Tm.ok:AG Dop.D4 prog 34 Tm.p=true:=by kernel_rfl
end Go.Proofs.Tryz
/- Functions of the seat, lifted: plan, model, contract, equations. Written by a program (Lift) that ran the layer's evaluation; Lean checks each line. -/
set_option maxRecDepth 100000
set_option maxHeartbeats 4000000
namespace Go.Proofs.Tryz
open Go Go.En
abbrev m64.q9:Cut:=⟨[[0,0,0,1,1,1,1,1,1,1,0,1],[0,1,0,1,1,1,1,1,1,1,0,1],[0,1,1,1,1,1,1,1,1,0,1],[3,0,1]],[0,7,8],3,⟨[.al 0 0,.al 1 0,.al 2 0],[ER.b0,⟨1,52,[.st 11],false⟩,EF.b2]⟩⟩
abbrev m64.UB:Cut:=⟨[[0,0,0,1,2,0,1],[0,1,0,1,2,0,1],[0,1,1,2,0,1],[3,0,1]],[0,7,8],3,⟨[.al 0 0,.al 1 0,.al 2 0],[ER.b0,⟨1,52,[.st 11],false⟩,EF.b2]⟩⟩
def m64.p:Ai:=⟨[(9,m64.q9),(100009,m64.UB)],1,⟨[.al 0 0,.fd (.int .i64),.fd (.sl 0)],[ER.b0]⟩,⟨[.fd (.int .i64)],[ER.b0]⟩,false,[(4,⟨[(0,true),(1,true),(2,true),(3,false),(4,true),(5,false),(6,true),(7,true),(8,true),(9,true),(10,false),(11,false),(12,true)],[],[0,1,3,7,0,16,63,0,128,384,896,1920,4095],false⟩),(6,⟨[(0,false),(1,true),(2,false),(3,false),(4,true),(5,true),(6,true),(7,false),(8,true),(9,false),(10,true)],[],[0,0,2,6,0,16,48,112,255,511,1023],false⟩),(8,⟨[(0,true),(1,true),(2,true),(3,false),(4,true),(5,false),(6,true),(7,true),(8,true)],[9],[0,1,3,7,0,16,63,127,255,511],false⟩),(11,⟨[(0,true),(1,true),(2,true),(3,false),(4,true),(5,false),(6,true),(7,true),(8,true)],[9],[0,1,3,7,0,16,63,127,255,511],false⟩)],[]⟩
theorem m64.ok:AG Dop.D4 prog 64 m64.p=true:=by kernel_rfl
def C3.p:Ai:=⟨[],2,⟨[.al 0 0,.fd (.int .i64),.al 1 0],[ER.b0,EF.b1]⟩,⟨[.fd (.int .i64)],[ER.b0,EF.b1]⟩,false,[],[]⟩
theorem C3.ok:AG Dop.D4 prog 116 C3.p=true:=by kernel_rfl
abbrev BM.gm:Cut:=⟨[[0,0,1,1,1,1,1,1,0,1,0,1],[0,1,1,1,1,1,1,1,0,1,0,1],[1,0],[0,1,1]],[0,2,4,11],3,⟨[.al 0 0,.al 1 0,.al 2 0,.fd (.int .i64)],[ER.b0,EF.b1,⟨2,56,[.st 5],false⟩]⟩⟩
abbrev BM.kZ:Cut:=⟨[[0,0,0,0,1,1,1,1,1,1,1,1,1,1,1,1,1,1,1,1,1,0,1,0,1],[0,1,0,0,1,1,1,1,1,1,1,1,1,1,1,1,1,1,1,1,1,0,1,0,1],[0,1,0,1,1,1,1,1,1,1,1,1,1,1,1,1,1,1,1,1,0,1,0,1],[1,0],[0,1,1]],[0,2,4],3,⟨[.al 0 0,.al 1 0,.al 2 0],[ER.b0,EF.b1,⟨2,56,[.st 5],false⟩]⟩⟩
abbrev BM.ka:Cut:=⟨[[0,0,1,1,1,1,1,1,1,1,1,1,1,1,1,1,1,1,1,1,0,1,0,1],[0,1,1,1,1,1,1,1,1,1,1,1,1,1,1,1,1,1,1,1,0,1,0,1],[1,0],[0,1,1]],[0,2,4,11],3,⟨[.al 0 0,.al 1 0,.al 2 0,.fd (.int .i64)],[ER.b0,EF.b1,⟨2,56,[.st 5],false⟩]⟩⟩
abbrev BM.kg:Cut:=⟨[[0,0,0,0,1,0,1,1,1,1,1,1,1,1,1,1,1,1,1,1,1,1,1,1,1,1,1,0,1,0,1],[0,1,0,0,1,0,1,1,1,1,1,1,1,1,1,1,1,1,1,1,1,1,1,1,1,1,1,0,1,0,1],[2,0,0,1,0,1,1,1,1,1,1,1,1,1,1,1,1,1,1,1,1,1,1,1,1,1,0,1,0,1],[1,1],[1,0],[0,1,1]],[0,2,182,183,184],2,⟨[.al 0 0,.al 1 0,.own 0 3,.fd (.int .i64),.fd (.int .i64)],[ER.b0,EF.b1]⟩⟩
def BM.p:Ai:=⟨[(18,BM.gm),(35,BM.kZ),(38,BM.ka),(42,BM.kg)],2,⟨[.al 0 0,.st 5,.al 1 0],[ER.b0,EF.b1]⟩,⟨[.fd (.int .i64)],[ER.b0,EF.b1]⟩,false,[(30,⟨[(0,true),(1,true),(2,true),(3,false),(4,true),(5,true),(6,true),(7,true),(8,true),(9,false),(10,true),(11,false),(12,true),(13,true)],[],[0,1,3,7,15,31,63,127,255,511,63,1087,4095,8191],false⟩),(35,⟨[(0,true),(1,true),(2,true),(3,false),(4,true),(5,true),(6,true),(7,false),(8,true),(9,true),(10,true),(11,true),(12,false),(13,true),(14,true),(15,true),(16,false),(17,true),(18,true),(19,true),(20,true),(21,true),(22,true),(23,false),(24,true),(25,true),(26,true),(27,false),(28,true),(29,true),(30,true)],[],[0,1,3,7,15,31,63,127,255,511,1023,2047,4095,2047,10239,26623,59391,131071,262143,524287,1048575,2097151,4194303,8388607,16777215,33554431,67108863,134217727,268435455,536870911,1073741823],false⟩),(41,⟨[(0,true),(1,true),(2,true),(3,false),(4,true),(5,false),(6,false),(7,false),(8,true)],[],[0,1,3,7,0,16,63,127,0],true⟩)],[]⟩
theorem BM.ok:AG Dop.D4 prog 154 BM.p=true:=by kernel_rfl
abbrev BI.aW:Cut:=⟨[[0,0,1,1,1,1,1,1,1,1,0,1,0,1,1,1,1],[0,1,1,1,1,1,1,1,1,1,0,1,0,1,1,1,1],[1,0],[0,1,1,1,1,1]],[3,5,7,8,28],5,⟨[.al 2 0,.al 3 0,.al 4 0,.fn 210 [(2,0),(3,0)],.fd (.int .i64)],[ER.b0,EF.b1,⟨2,118,[.al 0 0],false⟩,⟨3,161,[.al 1 0],false⟩,⟨4,56,[.st 5],false⟩]⟩⟩
abbrev BI.gq:Cut:=⟨[[0,0,1,1,1,1,1,1,1,1,1,1,1,1,0,1,0,1,1,1,1],[0,1,1,1,1,1,1,1,1,1,1,1,1,1,0,1,0,1,1,1,1],[1,0],[0,1,1,1,1,1]],[3,7,8,28],5,⟨[.al 2 0,.al 3 0,.fn 210 [(2,0),(4,0)],.fd (.int .i64)],[ER.b0,EF.b1,⟨2,118,[.al 0 0],false⟩,⟨3,56,[.st 5],false⟩,⟨4,161,[.al 1 0],false⟩]⟩⟩
abbrev BI.kY:Cut:=⟨[[0,0,0,0,1,0,1,0,1,1,1,1,1,1,1,1,1,1,1,1,1,1,1,1,1,1,1,0,1,0,1,1,1,1],[0,1,0,0,1,0,1,0,1,1,1,1,1,1,1,1,1,1,1,1,1,1,1,1,1,1,1,0,1,0,1,1,1,1],[2,0,0,1,0,1,0,1,1,1,1,1,1,1,1,1,1,1,1,1,1,1,1,1,1,1,0,1,0,1,1,1,1],[1,1],[0,1,1,0,1,1,1,1,1,1,1,1,1,1,1,1,1,1,1,1,1,1,1,0,1,0,1,1,1,1],[1,0],[0,1,1,1,1,1]],[3,7,8,10,140,141,142],5,⟨[.al 2 0,.al 3 0,.fn 210 [(2,0),(4,0)],.own 0 3,.own 0 3,.fd (.int .i64),.fd (.int .i64)],[ER.b0,EF.b1,⟨2,118,[.al 0 0],false⟩,⟨3,56,[.st 5],false⟩,⟨4,161,[.al 1 0],false⟩]⟩⟩
def BI.p:Ai:=⟨[(15,BI.aW),(23,BI.gq),(34,BI.kY)],2,⟨[.al 0 0,.fd (.int .i64),.al 1 0],[ER.b0,EF.b1]⟩,⟨[.fd (.int .i64)],[ER.b0,EF.b1]⟩,false,[(9,⟨[(0,false),(1,true),(2,true),(3,false),(4,true),(5,false),(6,false),(7,false),(8,true)],[],[0,1,3,7,0,16,63,127,255],false⟩),(11,⟨[(0,false),(1,true),(2,true),(3,false),(4,true),(5,false),(6,true),(7,false),(8,true)],[],[0,1,3,7,0,16,63,127,255],false⟩),(18,⟨[(0,false),(1,true),(2,true),(3,false),(4,true),(5,false),(6,true),(7,false)],[8],[0,1,3,7,0,16,0,127,255],false⟩),(33,⟨[(0,false),(1,true),(2,true),(3,false),(4,true),(5,false),(6,false),(7,false),(8,true)],[],[0,1,3,7,0,16,63,127,0],true⟩),(38,⟨[(0,false),(1,false),(2,true),(3,true),(4,false),(5,true),(6,false),(7,false),(8,true),(9,false),(10,true)],[2000003,9000000],[0,0,2,6,14,0,32,126,0,511,1023],true⟩),(43,⟨[(0,false),(1,false),(2,true),(3,true),(4,false),(5,true),(6,true),(7,true)],[8],[0,0,2,6,14,30,63,127,255],false⟩),(48,⟨[(0,false),(1,false),(2,true),(3,true),(4,false),(5,true),(6,true),(7,false),(8,false),(9,true),(10,true)],[11],[0,0,2,6,14,0,32,96,254,511,1023,2047],false⟩)],[]⟩
theorem BI.ok:AG Dop.D4 prog 185 BI.p=true:=by kernel_rfl
def K8.p:Ai:=⟨[],2,⟨[.al 0 0,.st 5,.al 1 0],[ER.b0,EF.b1]⟩,⟨[.fd (.int .i64)],[ER.b0,EF.b1]⟩,false,[],[(235,[])]⟩
theorem K8.ok:AG Dop.D4 prog 211 K8.p=true:=by kernel_rfl
def FR.p:Ai:=⟨[],4,⟨[.fd (.int .i64),.al 0 0,.al 2 0],[⟨0,118,[.al 1 0],false⟩,ER.b1,⟨2,161,[.al 3 0],false⟩,⟨3,163,[.st 11,.own 0 3,.st 0,.st 0,.st 1,.st 0,.st 0],false⟩]⟩,⟨[.fd (.int .i64)],[⟨0,118,[.al 1 0],false⟩,ER.b1,⟨2,161,[.al 3 0],false⟩,⟨3,163,[.st 11,.own 0 3,.st 0,.st 0,.st 1,.st 0,.st 0],false⟩]⟩,false,[],[]⟩
theorem FR.ok:AG Dop.D4 prog 210 FR.p=true:=by kernel_rfl
def IH.p:Ai:=⟨[],2,⟨[.al 0 0,.st 5,.al 1 0],[ER.b0,EF.b1]⟩,⟨[.fd (.int .i64)],[ER.b0,EF.b1]⟩,false,[],[]⟩
theorem IH.ok:AG Dop.D4 prog 212 IH.p=true:=by kernel_rfl
abbrev BJ.q6:Cut:=⟨[[0,0,1,1,1],[0,1,1,1,1]],[0,2,4,7],3,⟨[.al 0 0,.al 1 0,.al 2 0,.fd (.int .i64)],[ER.b0,EF.b1,⟨2,56,[.st 5],false⟩]⟩⟩
abbrev BJ.q7:Cut:=⟨[[0,0,0,0,0,1,1,1,1],[0,1,0,0,0,1,1,1,1],[1,1],[2,0,0,1,1,1,1],[1,0]],[0,2,4,7,8],3,⟨[.al 0 0,.al 1 0,.al 2 0,.fd (.int .i64),.fd .bool],[ER.b0,EF.b1,⟨2,56,[.st 5],false⟩]⟩⟩
abbrev BJ.UA:Cut:=⟨[[0,0,0,1,1,0,0,0,1,1,1,1],[0,1,0,1,1,0,0,0,1,1,1,1],[0,1,1,1,0,0,0,1,1,1,1],[1,1],[2,0,0,1,1,1,1],[1,0]],[0,2,4,7,8,9],3,⟨[.al 0 0,.al 1 0,.al 2 0,.fd (.int .i64),.fd .bool,.fd (.int .i64)],[ER.b0,EF.b1,⟨2,56,[.st 5],false⟩]⟩⟩
abbrev BJ.gp:Cut:=⟨[[0,0,0,1,1,1,0,1,1,0,1,1,1,1,1,0,0,0,1,1,1,1],[0,1,0,1,1,1,0,1,1,0,1,1,1,1,1,0,0,0,1,1,1,1],[1,2],[0,1,1,1,1,1,1,0,0,0,1,1,1,1],[1,1],[2,0,0,1,1,1,1],[1,0]],[10],2,⟨[.fd (.int .i64)],[ER.b0,EF.b1]⟩⟩
abbrev BJ.gq:Cut:=⟨[[0,0,0,1,1,1,1,1,1,0,0,0,1,1,1,1],[0,1,0,1,1,1,1,1,1,0,0,0,1,1,1,1],[0,1,1,1,1,1,1,1,0,0,0,1,1,1,1],[1,1],[2,0,0,1,1,1,1],[1,0]],[0,2,4,7,8],3,⟨[.al 0 0,.al 1 0,.al 2 0,.fd (.int .i64),.fd .bool],[ER.b0,EF.b1,⟨2,56,[.st 5],false⟩]⟩⟩
abbrev BJ.kQ:Cut:=⟨[[0,0,1,1,1,1,1,1,1,0,0,0,1,1,1,1],[0,1,1,1,1,1,1,1,1,0,0,0,1,1,1,1],[1,1],[2,0,0,1,1,1,1],[1,0]],[0,2,4,7,8],3,⟨[.al 0 0,.al 1 0,.al 2 0,.fd (.int .i64),.fd .bool],[ER.b0,EF.b1,⟨2,56,[.st 5],false⟩]⟩⟩
def BJ.p:Ai:=⟨[(6,BJ.q6),(7,BJ.q7),(10,BJ.UA),(22,BJ.gp),(23,BJ.gq),(25,BJ.kQ)],2,⟨[.al 0 0,.st 5,.al 1 0],[ER.b0,EF.b1]⟩,⟨[.fd (.int .i64)],[ER.b0,EF.b1]⟩,false,[],[]⟩
theorem BJ.ok:AG Dop.D4 prog 186 BJ.p=true:=by kernel_rfl
def K7.p:Ai:=⟨[],2,⟨[.al 0 0,.st 5,.al 1 0],[ER.b0,EF.b1]⟩,⟨[.fd (.int .i64)],[ER.b0,EF.b1]⟩,false,[],[]⟩
theorem K7.ok:AG Dop.D4 prog 187 K7.p=true:=by kernel_rfl
abbrev BQ.T:Type:=(((Unit×Int×List Int×Unit)×(ER×Unit))->Option ((Int×Unit)×(ER×Unit)))×(((Unit×Int×Unit×Unit)×(ER×EF×Unit))->Option ((Int×Unit)×(ER×EF×Unit)))×(((Unit×Dop.AR×Unit×Unit)×(ER×EF×Unit))->Option ((Int×Unit)×(ER×EF×Unit)))×(((Unit×Int×Unit×Unit)×(ER×EF×Unit))->Option ((Int×Unit)×(ER×EF×Unit)))×(((Unit×Dop.AR×Unit×Unit)×(ER×EF×Unit))->Option ((Int×Unit)×(ER×EF×Unit)))×(((Int×Unit×Unit×Unit)×((Unit×Unit)×ER×(Unit×Unit)×EF×Unit))->Option ((Int×Unit)×((Unit×Unit)×ER×(Unit×Unit)×EF×Unit)))×(((Unit×Dop.AR×Unit×Unit)×(ER×EF×Unit))->Option ((Int×Unit)×(ER×EF×Unit)))×(((Unit×Dop.AR×Unit×Unit)×(ER×EF×Unit))->Option ((Int×Unit)×(ER×EF×Unit)))×(((Unit×Dop.AR×Unit×Unit)×(ER×EF×Unit))->Option ((Int×Unit)×(ER×EF×Unit)))×Unit
abbrev IB.q3:Cut:=⟨[[0,0,0,0,1,0,1,1],[0,1,0,0,1,0,1,1],[2,0,0,1,0,1,1],[1,0],[0,1,1,1]],[3,6,7,22,23,24],3,⟨[.al 0 0,.al 1 0,.al 2 0,.fd (.sl 12),.fd (.int .i64),.fd (.int .i64)],[⟨0,27,[.st 13],false⟩,⟨1,61,[.fd (.int .i64),.fd (.int .i64),.own 3 5],false⟩,ER.b2]⟩⟩
def IB.p:Ai:=⟨[(3,IB.q3)],0,⟨[.st 13,.fd (.sl 3),.fd (.int .i64)],[]⟩,⟨[.st 19],[]⟩,false,[(1,⟨[(0,false),(1,false),(2,true),(3,false),(4,true),(5,true),(6,true),(7,true),(8,true),(9,false),(10,true)],[],[0,0,0,4,0,0,32,96,255,511,1023],false⟩),(5,⟨[(0,true),(1,true),(2,true),(3,false),(4,true),(5,false),(6,true),(7,false),(8,false)],[9],[0,1,3,7,0,16,0,64,255,511],false⟩),(10,⟨[(0,true),(1,true),(2,true),(3,false),(4,true),(5,true),(6,true),(7,false),(8,true),(9,true),(10,true),(11,false),(12,true)],[13],[0,1,3,7,0,16,48,112,0,256,768,1792,4095,8191],false⟩)],[]⟩
theorem IB.ok:AG Dop.D4 prog 36 IB.p=true:=by kernel_rfl
end Go.Proofs.Tryz
/- Functions of the seat, lifted: plan, model, contract, equations. Written by a program (Lift) that ran the layer's evaluation; Lean checks each line. -/
set_option maxRecDepth 100000
set_option maxHeartbeats 4000000
namespace Go.Proofs.Tryz
open Go Go.En
def RZ.p:Ai:=⟨[],0,⟨[.fd .str,.fd (.sl 3),.fd (.int .i64)],[]⟩,⟨[.st 19,.fd (.int .i64)],[]⟩,false,[],[]⟩
theorem RZ.ok:AG Dop.D4 prog 30 RZ.p=true:=by kernel_rfl
def XF.p:Ai:=⟨[],0,⟨[],[]⟩,⟨[.fd .bool],[]⟩,true,[],[]⟩
theorem XF.ok:AG Dop.D4 prog 29 XF.p=true:=by kernel_rfl
end Go.Proofs.Tryz
