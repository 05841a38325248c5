/- States by patterns, operation by operation: for a piece of a function that is gone through by hand. -/
import Derived.Test.YtkpggdcpaeanaaaGreatDoorMo
import Derived.Maps.RangeRun
import Derived.Test.YtkpggdcpaeanaaaGreatDoorMm
set_option linter.all false
namespace Go.En
open Go.RowKit
section
variable {S:Am} {P:Program} {w0:World} {F D0 D:Nat->Prop} {N:Nat->Prop} {β:Nat->Nm} {a:Act} {w:World}
theorem Yw {tb:List (Nat×TI)} (htb:AW S P tb) {s s':St S} (hg:G w0 F D0 D s N β a w) {all:Array Oper} {o:Oper} {r:List Oper} {Q:Exit->Act->World->Prop} (hgd:o.guard=none) {c:Option Bool} {x:SV} (he:evalOp tb s o.op=.val c x) (hc:CG c) (hp:s.put o.dst x=some s')
  (hQ: ∀ a',G w0 F D0 D s' N β a' w->wpList P all Q r a' w):wpList P all Q (o::r) a w:=by
 have h:=BS htb hg o
 rw [he] at h
 obtain ⟨h1,h2⟩:=h hc
 unfold wpList
 rw [if_pos (by simp [Region.wanted,hgd])]
 exact .inl (Al h1 (hQ _ (hg.put h2 hp)))
def G3 (q:Spec) (ts:List Nat) (k bn:Nat) (s:St S):Option (q.D S×List (Nat×Nat)):=match Fv s ts with
 | some us=>match q.parse true us s.o (Qn k) bn with
  | some (y,ps)=>some (y,ps.m)
  | none=>none
 | none=>none
structure HX (S:Am) (w0:World) (F D0:Nat->Prop) (q:Spec) (ts:List Nat) (bn:Nat) (β1:Nat->Nm) (sz:Nat) (y:q.D S) (r:Nat) (ob:Obj) (a:Act) (W:World):Prop where
 st: ∃ D β vs o n,q.enc y bn=(vs,o,n)/\(∀ i,i<bn->β i=β1 i)/\GH w0 F D0 D o (· <n) β W/\BM (· <n) vs/\bn<=n/\(∀ (j:Nat) t v,ts[j]?=some t->vs[j]?=some v->t<sz/\a.tmps.getD t undef=v.den β)/\(∀ i b,lk o i=some b->¬ (β i).has r)/\¬ D r
 sz:a.tmps.size=sz
 df:a.defers=[]
 it:W.heap[r]?=some ob
theorem HX.g {q:Spec} {ts:List Nat} {bn sz r:Nat} {β1:Nat->Nm} {y:q.D S} {ob:Obj} (h:HX S w0 F D0 q ts bn β1 sz y r ob a w):
  ∃ D β vs o n,q.enc y bn=(vs,o,n)/\(∀ i,i<bn->β i=β1 i)/\bn<=n/\G w0 F D0 D ⟨ts.zip vs,o,n,sz⟩ (· <n) β a w/\(∀ i b,lk o i=some b->¬ (β i).has r)/\¬ D r:=by
 obtain ⟨⟨D,β,vs,o,n,he,hβ,hg,hon,hbn,hts,h1,h2⟩,hsz,hd,hit⟩:=h
 refine ⟨D,β,vs,o,n,he,hβ,hbn,⟨hd,hsz,fun t v ht=>?_,fun t v ht=>?_,hg⟩,h1,h2⟩
 ·obtain ⟨j,j1,j2⟩:=Gm ht
  exact ⟨(hts j t v j1 j2).1,Aw.1 hon v (List.mem_of_getElem? j2)⟩
 ·obtain ⟨j,j1,j2⟩:=Gm ht
  exact (hts j t v j1 j2).2
theorem GH.clear {W w':World} {D D':Nat->Prop} {o o':List (Nat×Own S)} {N':Nat->Prop} {β β':Nat->Nm} (k:GH W (AJ o β) D D' o' N' β' w') {r:Nat} (hr:r<W.heap.size) (h1: ∀ i b,lk o i=some b->¬ (β i).has r) (h2:¬ D r):
  (∀ i b,lk o' i=some b->¬ (β' i).has r)/\¬ D' r/\w'.heap[r]?=W.heap[r]?:=by
 have hb:¬ AJ o β r:=fun ⟨i,b,hi,hk⟩=>h1 i b hi hk
 refine ⟨fun i b hi hk=>?_,fun hd=>?_,k.fr.block r hr hb⟩
 ·rcases k.fresh i b r hi hk with h|h
  ·omega
  ·exact hb h
 ·rcases k.Jz r hd with h|h|h
  ·exact h2 h
  ·exact hb h
  ·omega
theorem G.hx {q:Spec} {ts:List Nat} {k bn n r:Nat} {y:q.D S} {m:List (Nat×Nat)} {s:St S} {ob:Obj} (hg:G w0 F D0 D s (· <n) β a w) (hk:k<=bn) (hl:G3 q ts k bn s=some (y,m)) (hq:q.okB bn=true)
  (h1: ∀ i b,lk s.o i=some b->¬ (β i).has r) (h2:¬ D r) (hit:w.heap[r]?=some ob):
  ∃ β1:Nat->Nm,(∀ i,i<k->β1 i=β i)/\(∀ i,i<bn-> ∀ j,lk m i=some j->β1 i=β j)/\HX S w0 F D0 q ts bn β1 s.sz y r ob a w:=by
 unfold G3 at hl
 split at hl
 case h_2=>cases hl
 rename_i us hus
 split at hl
 case h_2=>cases hl
 rename_i y' ps hp
 cases hl
 have hr:r<w.heap.size:=(Array.getElem?_eq_some_iff.1 hit).1
 rcases he2:q.enc y bn with ⟨vs',o',n'⟩
 obtain ⟨β'',b1,b2,b3,b4,b5,_,_,b8,_⟩:=Spec.B2 hg.gh.base hp hq he2
 obtain ⟨t1,t2,t3⟩:=E8 hg hus
 have hlv:vs'.length=us.length:=by have:=congrArg List.length b3;rw [AG,AG] at this;exact this.symm
 obtain ⟨c1,c2,c3⟩:=GH.clear b2 hr h1 h2
 refine ⟨β'',fun i hi=>b1 i (Nat.lt_of_lt_of_le hi hk) i (b8 i i (Gl hi)),b1,⟨⟨_,β'',vs',o',n',he2,fun i hi=>rfl,hg.gh.comp b2,b4,b5,fun j t v hj hv=>?_,c1,c2⟩,hg.size,hg.defers,hit⟩⟩
 have hju:j<us.length:=by rw [<-hlv];exact (List.getElem?_eq_some_iff.1 hv).1
 obtain ⟨t4,t5⟩:=t3 j t _ hj (List.getElem?_eq_getElem hju)
 refine ⟨t4,?_⟩
 rw [t5]
 have h6:=congrArg (fun l:List Value=>l[j]?) b3
 simp only [B0,List.getElem?_eq_getElem hju,hv,Option.map_some,Option.some.injEq] at h6
 exact h6
theorem HX.re {q:Spec} {ts:List Nat} {bn sz r:Nat} {β1 β2:Nat->Nm} {y:q.D S} {ob:Obj} (h:HX S w0 F D0 q ts bn β1 sz y r ob a w) (he: ∀ i,i<bn->β1 i=β2 i):HX S w0 F D0 q ts bn β2 sz y r ob a w:=by
 obtain ⟨⟨D,β,vs,o,n,h1,h2,h3⟩,hsz,hd,hit⟩:=h
 exact ⟨⟨D,β,vs,o,n,h1,fun i hi=>(h2 i hi).trans (he i hi),h3⟩,hsz,hd,hit⟩
theorem G.GI {q:Spec} {ts:List Nat} {bn n r:Nat} {β1:Nat->Nm} {y:q.D S} {m:List (Nat×Nat)} {s:St S} {ob:Obj} (hg:G w0 F D0 D s (· <n) β a w) (hβ: ∀ i,i<bn->β i=β1 i) (hl:G3 q ts bn bn s=some (y,m)) (hq:q.okB bn=true)
  (h1: ∀ i b,lk s.o i=some b->¬ (β i).has r) (h2:¬ D r) (hit:w.heap[r]?=some ob):HX S w0 F D0 q ts bn β1 s.sz y r ob a w:=by
 obtain ⟨β2,k1,_,k3⟩:=hg.hx (Nat.le_refl _) hl hq h1 h2 hit
 exact k3.re fun i hi=>(k1 i hi).trans (hβ i hi)
theorem HX.kk {E:Env S} (hE:E.Ok P) {f0:Nat} {all:Array Oper} {sp qe:Spec} {ts ts':List Nat} {bn r:Nat} {β1:Nat->Nm} {ob:Obj} (hqe:qe.okB bn=true) (hlen:ts'.length=qe.as.length) {x:sp.D S} {y:qe.D S}
  (hev:(NY E f0 all sp qe ts ts' bn x).eval (fun _ _=>none)=some y) (hkp:Bx S w0 F D0) (hh:HX S w0 F D0 sp ts bn β1 E.sz x r ob a w) {Q:Exit->Act->World->Prop}
  (hQ: ∀ a' W',HX S w0 F D0 qe ts' bn β1 E.sz y r ob a' W'->Q .normal a' W'):wpList P all Q all.toList a w:=by
 obtain ⟨⟨D,β,vs,o,n,he,hβ,hg,hon,hbn,hts,h1,h2⟩,hsz,hd,hit⟩:=hh
 have hr:r<w.heap.size:=(Array.getElem?_eq_some_iff.1 hit).1
 refine NZ hE hqe hlen hev (hg.keeps hkp) ⟨⟨D,β,vs,o,n,he,hβ,hg.base,hon,hbn,hts⟩,hsz⟩ fun a' W' hd' hh'=>hQ a' W' ?_
 obtain ⟨⟨D',β',vs',o',n',he',hβ',hg',hon',hbn',hts'⟩,hsz'⟩:=hh'
 obtain ⟨c1,c2,c3⟩:=GH.clear hg' hr h1 h2
 exact ⟨⟨D',β',vs',o',n',he',hβ',hg.comp hg',hon',hbn',hts',c1,c2⟩,hsz',hd'.trans hd,c3.trans hit⟩
theorem HX.Ke {q:Spec} {ts:List Nat} {bn sz r:Nat} {β1:Nat->Nm} {y:q.D S} {ob:Obj} (h:HX S w0 F D0 q ts bn β1 sz y r ob a w) {w1:World} (hw:w1=w\/w1=w.drew) (h0:w0.heap.size<=r) (ob':Obj):HX S w0 F D0 q ts bn β1 sz y r ob' a (Go.ChangeMaps.setBlock w1 r ob'):=by
 obtain ⟨⟨D,β,vs,o,n,he,hβ,hg,hon,hbn,hts,h1,h2⟩,hsz,hd0,hit⟩:=h
 have hg1:GH w0 F D0 D o (· <n) β w1:=by
  rcases hw with rfl|rfl
  ·exact hg
  ·exact hg.step (Below.refl _ w).drew
 have hr:r<w1.heap.size:=by
  have:=(Array.getElem?_eq_some_iff.1 hit).1
  rcases hw with rfl|rfl<;>exact this
 refine ⟨⟨D,β,vs,o,n,he,hβ,hg1.putObj ob' h1 h2 h0,hon,hbn,hts,h1,h2⟩,hsz,hd0,?_⟩
 show (w1.heap.setIfInBounds r ob')[r]?=_
 simp [Array.getElem?_setIfInBounds,hr]
end
end Go.En
set_option maxRecDepth 100000
namespace Go.Proofs
open Go Go.En
def LN (k:CK) (n:Int):Int:=if n<0 then 0 else if (I k.t.nodes.length)<=n then 0 else (k.t.nodes.getD n.toNat En.Dop.d5).at_
def Ws (k:CK) (e:List UInt8×Int):Bool:=decide ((AN k.labels e.1).getD 0=0)
def Il (k:CK) (f:Int) (e:List UInt8×Int):Int:=if (Ws k e && (decide (f<0) || decide (LN k e.2<LN k f)))=true then e.2 else f
def LO (k:CK):Int:=k.gotos.foldl (Il k) (-1)
def Ul (k:CK) (V:Nat->Prop) (f:Int):Prop:=
 (f= -1/\ ∀ j x,V j->k.gotos[j]?=some x->Ws k x=false)\/
 ∃ j x,V j/\k.gotos[j]?=some x/\Ws k x=true/\f=x.2/\ ∀ j' x',V j'->k.gotos[j']?=some x'->Ws k x'=true->LN k f<=LN k x'.2
def Qg (k:CK):Prop:= ∀ x∈k.gotos,(0:Int)<=x.2
theorem Ul.congr {k:CK} {V V':Nat->Prop} {f:Int} (h:Ul k V f) (hV: ∀ j,j<k.gotos.length->(V j↔V' j)):Ul k V' f:=by
 have hl: ∀ {j:Nat} {x},k.gotos[j]?=some x->j<k.gotos.length:=fun h=>(List.getElem?_eq_some_iff.1 h).1
 rcases h with ⟨h1,h2⟩|⟨j,x,h1,h2,h3,h4,h5⟩
 ·exact .inl ⟨h1,fun j x hj hx=>h2 j x ((hV j (hl hx)).2 hj) hx⟩
 ·exact .inr ⟨j,x,(hV j (hl h2)).1 h1,h2,h3,h4,fun j' x' hj hx hu=>h5 j' x' ((hV j' (hl hx)).2 hj) hx hu⟩
theorem Ul.step {k:CK} {V:Nat->Prop} {f:Int} (hp:Qg k) (h:Ul k V f) {j:Nat} {x:List UInt8×Int} (hx:k.gotos[j]?=some x):Ul k (fun i=>V i\/i=j) (Il k f x):=by
 have hpos: ∀ {j:Nat} {x},k.gotos[j]?=some x->(0:Int)<=x.2:=fun h=>hp _ (List.mem_of_getElem? h)
 unfold Il
 by_cases hu:Ws k x=true
 ·rw [hu]
  rcases h with ⟨rfl,h2⟩|⟨j0,x0,h1,h2,h3,rfl,h5⟩
  ·rw [if_pos (by simp)]
   refine .inr ⟨j,x,.inr rfl,hx,hu,rfl,fun j' x' hj GI hu'=>?_⟩
   rcases hj with hj|rfl
   ·rw [h2 j' x' hj GI] at hu';cases hu'
   ·rw [hx] at GI;cases GI;exact Int.le_refl _
  ·have h0:=hpos h2
   by_cases hlt:LN k x.2<LN k x0.2
   ·rw [if_pos (by simp [hlt])]
    refine .inr ⟨j,x,.inr rfl,hx,hu,rfl,fun j' x' hj GI hu'=>?_⟩
    rcases hj with hj|rfl
    ·have:=h5 j' x' hj GI hu';omega
    ·rw [hx] at GI;cases GI;exact Int.le_refl _
   ·rw [if_neg (by simp [hlt];omega)]
    refine .inr ⟨j0,x0,.inl h1,h2,h3,rfl,fun j' x' hj GI hu'=>?_⟩
    rcases hj with hj|rfl
    ·exact h5 j' x' hj GI hu'
    ·rw [hx] at GI;cases GI;omega
 ·have hu:Ws k x=false:=by simpa using hu
  rw [hu,if_neg (by simp)]
  rcases h with ⟨h1,h2⟩|⟨j0,x0,h1,h2,h3,h4,h5⟩
  ·refine .inl ⟨h1,fun j' x' hj GI=>?_⟩
   rcases hj with hj|rfl
   ·exact h2 j' x' hj GI
   ·rw [hx] at GI;cases GI;exact hu
  ·refine .inr ⟨j0,x0,.inl h1,h2,h3,h4,fun j' x' hj GI hu'=>?_⟩
   rcases hj with hj|rfl
   ·exact h5 j' x' hj GI hu'
   ·rw [hx] at GI;cases GI;rw [hu] at hu';cases hu'
theorem W9 {k:CK} (hp:Qg k):Ul k (fun _=>True) (LO k):=by
 have key: ∀ n,n<=k.gotos.length->Ul k (fun j=>j<n) ((k.gotos.take n).foldl (Il k) (-1)):=by
  intro n
  induction n with
  | zero=>exact fun _=>.inl ⟨rfl,fun j x hj=>absurd hj (Nat.not_lt_zero _)⟩
  | succ n ih=>
   intro hn
   have hx:k.gotos[n]?=some k.gotos[n]:=List.getElem?_eq_getElem (by omega)
   rw [List.take_add_one,hx]
   simp only [Option.toList,List.foldl_append,List.foldl_cons,List.foldl_nil]
   exact ((ih (by omega)).step hp hx).congr fun j _=>by omega
 have:=key k.gotos.length (Nat.le_refl _)
 rw [List.take_length] at this
 exact this.congr fun j hj=>by simp [hj]
theorem Ul.uniq {k:CK} {f f':Int} (hp:Qg k) (h:Ul k (fun _=>True) f) (h':Ul k (fun _=>True) f'):(f=f'/\f= -1)\/(0<=f/\0<=f'/\LN k f=LN k f'):=by
 have hpos: ∀ {j:Nat} {x},k.gotos[j]?=some x->(0:Int)<=x.2:=fun h=>hp _ (List.mem_of_getElem? h)
 rcases h with ⟨h1,h2⟩|⟨j,x,-,h2,h3,h4,h5⟩<;>rcases h' with ⟨k1,k2⟩|⟨j',x',-,k2,k3,k4,k5⟩
 ·exact .inl ⟨h1.trans k1.symm,h1⟩
 ·rw [h2 j' x' trivial k2] at k3;cases k3
 ·rw [k2 j x trivial h2] at h3;cases h3
 ·have a1:=h5 j' x' trivial k2 k3
  have a2:=k5 j x trivial h2 h3
  refine .inr ⟨h4▸hpos h2,k4▸hpos k2,?_⟩
  rw [<-k4] at a1;rw [<-h4] at a2;omega
def kW (mf:Int->CK->CT->Option ((En.Dop.Ao×Unit)×(CK×CT×Unit))) (x:(Unit×List Int×Int×Unit)×(CK×CT×Unit)):Option ((Unit×List Int×Int×Unit)×(CK×CT×Unit)):=
 if (x.2.1.gotos.all fun e=>decide (0<=e.2))=true then
  if (decide (0<=LO x.2.1))=true then (mf (LO x.2.1) x.2.1 x.2.2.1).bind fun y=>some (x.1,(y.2.1,(y.2.2.1,()))) else some x
 else none
end Go.Proofs
set_option maxRecDepth 100000
namespace Go.En
open Go.RowKit
section
variable {S:Am} {P:Program} {w0:World} {F D0 D:Nat->Prop} {N:Nat->Prop} {β:Nat->Nm} {a:Act} {w:World}
def St.pu (s:St S) (d:Nat) (x:SV):St S:={ s with t:=pt s.t d x }
theorem Ch {tb:List (Nat×TI)} (htb:AW S P tb) {s:St S} (hg:G w0 F D0 D s N β a w) {all:Array Oper} {o:Oper} {r:List Oper} {Q:Exit->Act->World->Prop} {d:Nat} (hgd:o.guard=none) (hd:o.dst=some d) (hds:d<s.sz) {x:SV} (he:evalOp tb s o.op=.val none x)
  (hQ: ∀ a',G w0 F D0 D (s.pu d x) N β a' w->wpList P all Q r a' w):wpList P all Q (o::r) a w:=
 Yw htb hg hgd he trivial (s':=s.pu d x) (by rw [hd,St.FQ,if_pos (by omega)];rfl) hQ
end
end Go.En
namespace Go.Proofs
open Go Go.En Go.RowKit
noncomputable abbrev ZZ:Code:=BF (AR Tryz.prog 78) [1,1,1,1,1,1,1,1,1,1,1,1]
noncomputable abbrev Qf:Code:=BF ZZ [0,0,1,0]
noncomputable abbrev kX:Code:=BF ZZ [1,1]
noncomputable def MZ:Array Oper:=I4 (BF (AR Tryz.prog 78) [0,1,1,1,1,1,1,1,1,1,1,1])
noncomputable def DF:Array Oper:=I4 (BF ZZ [0,0])
noncomputable def Fe:Array Oper:=I4 (BF Qf [0])
noncomputable def DG:Array Oper:=I4 (BF Qf [0,0,1,1])
noncomputable def Wl:Array Oper:=I4 (BF Qf [0,1,0,1,1])
noncomputable def IS:Array Oper:=I4 (BF Qf [0,1,1,0,1,1])
noncomputable def HT:Array Oper:=I4 (BF ZZ [0,0,1])
noncomputable def Ty:Array Oper:=I4 (BF ZZ [0,1,0,1])
theorem dA:ZZ=.seq (.seq (.region 25 DF false) (.block 2 (.loop Qf))) (.seq (.seq (.region 30 HT false) (.cond (.tmp 215) (.region 31 Ty false) .skip)) kX):=by kernel_rfl
theorem Zc:Qf=.seq (.region 26 Fe false) (.seq (.cond (.tmp 187) .skip (.exit 2)) (.block 3 (.seq (.region 27 DG false) (.seq (.region 28 Wl false) (.cond (.tmp 212) (.region 29 IS false) .skip))))):=by kernel_rfl
noncomputable def At (l:Array Oper) (i:Nat):Oper:=l.getD i default
theorem Wh:MZ.toList=[At MZ 0]:=by kernel_rfl
theorem Wi:DF.toList=[At DF 0,At DF 1,At DF 2,At DF 3,At DF 4]:=by kernel_rfl
theorem Wj:Fe.toList=[At Fe 0,At Fe 1]:=by kernel_rfl
theorem Wk:DG.toList=[At DG 0,At DG 1,At DG 2,At DG 3,At DG 4]:=by kernel_rfl
theorem Wm:IS.toList=[At IS 0,At IS 1]:=by kernel_rfl
theorem Wo:HT.toList=[At HT 0,At HT 1]:=by kernel_rfl
theorem O9:(At Fe 0).op=.next (.tmp 185) false/\(At Fe 0).dst=some 186/\(At Fe 0).guard=none:=⟨by kernel_rfl,by kernel_rfl,by kernel_rfl⟩
theorem O8:(At DG 0).op=.entry (.tmp 185)/\(At DG 0).dst=some 188/\(At DG 0).guard=none:=⟨by kernel_rfl,by kernel_rfl,by kernel_rfl⟩
theorem PA:(At DF 4).op=.range 132 (.tmp 184)/\(At DF 4).dst=some 185/\(At DF 4).guard=none:=⟨by kernel_rfl,by kernel_rfl,by kernel_rfl⟩
abbrev lG:Ga:=⟨0,135,[.st 7,.al 1 0,.own 0 3,.own 11 52,.own 12 32,.st 0,.own 5 56,.mr .str 9 true 129,.mp .str 15 true,.rm 2,.st 11,.st 0,.rm 3,.rm 4,.st 0,.mr (.int .i64) 0 false 217,.st 0,.fd (.int .i64),.st 0],false⟩
abbrev Za:List Ga:=[lG,CT.b1,⟨2,0,[.mp .str 0 false],true⟩,⟨3,0,[.mp .str 0 false],true⟩,⟨4,0,[.mp .str 0 false],true⟩]
abbrev c9:List Cl:=[.al 0 0,.own 0 3,.fd (.int .i64),.fd (.int .i64),.al 5 0]
abbrev Qh:En.Spec:=⟨c9,Za⟩
abbrev PB:List Nat:=[0,6,15,16,185]
abbrev Sm:En.Spec:=⟨c9++[.fd .str,.fd (.int .i64)],Za⟩
abbrev Zd:List Nat:=PB++[17,18]
abbrev U4:En.Spec:=⟨c9++[.fd (.int .i64),.fd .bool],Za⟩
abbrev Ze:List Nat:=PB++[18,212]
def lH (k:CK) (k1:CT):BT En.Dop.D4 Za:=((k.t,(),k.num,k.funcs,k.globals,k.top,k.nodes,k.names,k.sigs,(),k.f,k.Fo,(),(),k.loops,k.Rb,k.QG,k.e,k.when,()),k1,(k.taken,()),(k.labels,()),(k.gotos,()),())
def Sp (t6:List Int) (t15 f:Int) (k:CK) (k1:CT):Qh.D En.Dop.D4:=(((),t6,t15,f,(),()),lH k k1)
def Zf (t6:List Int) (t15 f:Int) (e:List UInt8×Int) (k:CK) (k1:CT):Sm.D En.Dop.D4:=(((),t6,t15,f,(),e.1,e.2,()),lH k k1)
def Zg (t6:List Int) (t15 f n:Int) (b:Bool) (k:CK) (k1:CT):U4.D En.Dop.D4:=(((),t6,t15,f,(),n,b,()),lH k k1)
theorem Sq {W:World} {D:Nat->Prop} {b:Nat} {l:List (List UInt8×Int)} (h:En.MapAt En.Dop.D4 W D .str 0 false b l):
  ∃ es:Array MapEntry,W.heap[b]?=some (.map es es.size)/\es.size=l.length/\ ∀ (j:Nat) (e:MapEntry),es[j]?=some e-> ∃ x,l[j]?=some x/\e=⟨.string ⟨⟨x.1⟩⟩,.int .i64 x.2,j⟩:=by
 obtain ⟨es,h1,h2,h3⟩:=h
 refine ⟨es,h1,h2,fun j e he=>?_⟩
 have hj:j<l.length:=by rw [<-h2];exact (Array.getElem?_eq_some_iff.1 he).1
 obtain ⟨h4,h5,vs,h6,h7⟩:=h3 j l[j] e (List.getElem?_eq_getElem hj) he
 refine ⟨l[j],List.getElem?_eq_getElem hj,?_⟩
 have h7:AE En.Dop.D4 W D [.int .i64 l[j].2] vs:=h7
 obtain ⟨v1,r1,rfl,h8,h9⟩:=h7.C4
 cases h8
 have:=h9.1
 cases r1 with
 | cons _ _=>simp at this
 | nil=>
  cases e
  simp only at h4 h5 h6
  subst h4
  rw [h5,h6]
  rfl
end Go.Proofs
set_option maxRecDepth 100000
namespace Go.Proofs
open Go Go.En Go.RowKit
noncomputable abbrev iC:Ag:=⟨[],6,Sm,U4,false,[],[]⟩
noncomputable def iB:Env En.Dop.D4:=Ac Tryz.prog 78 Tryz.tb [Tryz.Cv.c] iC
theorem dB:iB.Ok Tryz.prog:=(Gf (p:=iC) (ct:=[Tryz.Cv.c]) Tryz.AH (A7 Tryz.Cv.holds CC) (by kernel_rfl)).1
theorem Wd:iB.sz=246:=by kernel_rfl
theorem iF {t6:List Int} {t15 f:Int} {k:CK} {k1:CT} {vs:List SV} {o:List (Nat×En.Own En.Dop.D4)} {n:Nat} (h:Qh.enc (S:=En.Dop.D4) (Sp t6 t15 f k k1) 6=(vs,o,n)):lk o 4=some (.mp .str 0 false k.gotos)/\lk (PB.zip vs) 185=some (.ptr 5 0):=by
 cases h
 exact ⟨by kernel_rfl,by kernel_rfl⟩
noncomputable abbrev Tz (vs:List SV) (o:List (Nat×En.Own En.Dop.D4)) (n:Nat):St En.Dop.D4:=⟨PB.zip vs,o,n,246⟩
theorem iK {t6:List Int} {t15 f:Int} {k:CK} {k1:CT} {vs:List SV} {o:List (Nat×En.Own En.Dop.D4)} {n:Nat} (h:Qh.enc (S:=En.Dop.D4) (Sp t6 t15 f k k1) 6=(vs,o,n)):evalOp Tryz.tb ((Tz vs o n).pu 186 (.GY [.b false])) (At Fe 1).op=.val none (.b false):=by
 cases h
 kernel_rfl
theorem iL (e:List UInt8×Int) {t6:List Int} {t15 f:Int} {k:CK} {k1:CT} {vs:List SV} {o:List (Nat×En.Own En.Dop.D4)} {n:Nat} (h:Qh.enc (S:=En.Dop.D4) (Sp t6 t15 f k k1) 6=(vs,o,n)):evalOp Tryz.tb ((Tz vs o n).pu 186 (.GY [.b true,.v (.string ⟨⟨e.1⟩⟩),.v (.int .i64 e.2)])) (At Fe 1).op=.val none (.b true):=by
 cases h
 kernel_rfl
noncomputable abbrev Sn (vs:List SV) (o:List (Nat×En.Own En.Dop.D4)) (n:Nat) (e:List UInt8×Int):St En.Dop.D4:=(((Tz vs o n).pu 186 (.GY [.b true,.v (.string ⟨⟨e.1⟩⟩),.v (.int .i64 e.2)])).pu 187 (.b true)).pu 188 (.GY [.v (.string ⟨⟨e.1⟩⟩),.v (.int .i64 e.2)])
noncomputable abbrev lI (vs:List SV) (o:List (Nat×En.Own En.Dop.D4)) (n:Nat) (e:List UInt8×Int):St En.Dop.D4:=(((((Sn vs o n e).pu 189 (.v (.string ⟨⟨e.1⟩⟩))).pu 190 (.v (.int .i64 e.2))).pu 17 (.v (.string ⟨⟨e.1⟩⟩))).pu 18 (.v (.int .i64 e.2)))
theorem iM {t6:List Int} {t15 f:Int} {e:List UInt8×Int} {k:CK} {k1:CT} {vs:List SV} {o:List (Nat×En.Own En.Dop.D4)} {n:Nat} (h:Qh.enc (S:=En.Dop.D4) (Sp t6 t15 f k k1) 6=(vs,o,n)):evalOp Tryz.tb (Sn vs o n e) (At DG 1).op=.val none (.v (.string ⟨⟨e.1⟩⟩)):=by
 cases h
 kernel_rfl
theorem iN {t6:List Int} {t15 f:Int} {e:List UInt8×Int} {k:CK} {k1:CT} {vs:List SV} {o:List (Nat×En.Own En.Dop.D4)} {n:Nat} (h:Qh.enc (S:=En.Dop.D4) (Sp t6 t15 f k k1) 6=(vs,o,n)):evalOp Tryz.tb ((Sn vs o n e).pu 189 (.v (.string ⟨⟨e.1⟩⟩))) (At DG 2).op=.val none (.v (.int .i64 e.2)):=by
 cases h
 kernel_rfl
theorem iO {t6:List Int} {t15 f:Int} {e:List UInt8×Int} {k:CK} {k1:CT} {vs:List SV} {o:List (Nat×En.Own En.Dop.D4)} {n:Nat} (h:Qh.enc (S:=En.Dop.D4) (Sp t6 t15 f k k1) 6=(vs,o,n)):evalOp Tryz.tb (((Sn vs o n e).pu 189 (.v (.string ⟨⟨e.1⟩⟩))).pu 190 (.v (.int .i64 e.2))) (At DG 3).op=.val none (.v (.string ⟨⟨e.1⟩⟩)):=by
 cases h
 kernel_rfl
theorem iP {t6:List Int} {t15 f:Int} {e:List UInt8×Int} {k:CK} {k1:CT} {vs:List SV} {o:List (Nat×En.Own En.Dop.D4)} {n:Nat} (h:Qh.enc (S:=En.Dop.D4) (Sp t6 t15 f k k1) 6=(vs,o,n)):evalOp Tryz.tb ((((Sn vs o n e).pu 189 (.v (.string ⟨⟨e.1⟩⟩))).pu 190 (.v (.int .i64 e.2))).pu 17 (.v (.string ⟨⟨e.1⟩⟩))) (At DG 4).op=.val none (.v (.int .i64 e.2)):=by
 cases h
 kernel_rfl
theorem T1:(At Fe 1).dst=some 187/\(At Fe 1).guard=none:=⟨by kernel_rfl,by kernel_rfl⟩
theorem bJ:(At DG 1).dst=some 189/\(At DG 1).guard=none:=⟨by kernel_rfl,by kernel_rfl⟩
theorem bK:(At DG 2).dst=some 190/\(At DG 2).guard=none:=⟨by kernel_rfl,by kernel_rfl⟩
theorem bL:(At DG 3).dst=some 17/\(At DG 3).guard=none:=⟨by kernel_rfl,by kernel_rfl⟩
theorem bM:(At DG 4).dst=some 18/\(At DG 4).guard=none:=⟨by kernel_rfl,by kernel_rfl⟩
theorem bN:(At IS 0).dst=some 213/\(At IS 0).guard=none:=⟨by kernel_rfl,by kernel_rfl⟩
theorem bO:(At IS 1).dst=some 16/\(At IS 1).guard=none:=⟨by kernel_rfl,by kernel_rfl⟩
theorem iH {t6:List Int} {t15 f:Int} {e:List UInt8×Int} {k:CK} {k1:CT} {vs:List SV} {o:List (Nat×En.Own En.Dop.D4)} {n:Nat} (h:Qh.enc (S:=En.Dop.D4) (Sp t6 t15 f k k1) 6=(vs,o,n)):(G3 Sm Zd 6 6 (lI vs o n e)).map (·.1)=some (Zf t6 t15 f e k k1):=by
 cases h
 kernel_rfl
noncomputable abbrev Wr (vs:List SV) (o:List (Nat×En.Own En.Dop.D4)) (n:Nat):St En.Dop.D4:=⟨Ze.zip vs,o,n,246⟩
theorem iG {t6:List Int} {t15 f x:Int} {b:Bool} {k:CK} {k1:CT} {vs:List SV} {o:List (Nat×En.Own En.Dop.D4)} {n:Nat} (h:U4.enc (S:=En.Dop.D4) (Zg t6 t15 f x b k k1) 6=(vs,o,n)):lk (Ze.zip vs) 212=some (.b b)/\evalOp Tryz.tb (Wr vs o n) (At IS 0).op=.val none (.v (.int .i64 x))/\evalOp Tryz.tb ((Wr vs o n).pu 213 (.v (.int .i64 x))) (At IS 1).op=.val none (.v (.int .i64 x))/\
  (G3 Qh PB 6 6 (((Wr vs o n).pu 213 (.v (.int .i64 x))).pu 16 (.v (.int .i64 x)))).map (·.1)=some (Sp t6 t15 x k k1)/\(G3 Qh PB 6 6 (Wr vs o n)).map (·.1)=some (Sp t6 t15 f k k1):=by
 cases h
 exact ⟨by kernel_rfl,by kernel_rfl,by kernel_rfl,by kernel_rfl,by kernel_rfl⟩
theorem Zh {t6:List Int} {t15 f:Int} {k:CK} {k1:CT} {vs:List SV} {o:List (Nat×En.Own En.Dop.D4)} {n:Nat} (h:Qh.enc (S:=En.Dop.D4) (Sp t6 t15 f k k1) 6=(vs,o,n)):(G3 Qh PB 6 6 (((Tz vs o n).pu 186 (.GY [.b false])).pu 187 (.b false))).map (·.1)=some (Sp t6 t15 f k k1):=by
 cases h
 kernel_rfl
theorem KA:Qh.okB 6=true/\Sm.okB 6=true/\U4.okB 6=true:=⟨by kernel_rfl,by kernel_rfl,by kernel_rfl⟩
end Go.Proofs
set_option maxRecDepth 100000
namespace Go.Proofs
open Go Go.En Go.RowKit
theorem Wt (n:Int) (k:CK) (k1:CT): ∃ x:En.Dop.AU,Tryz.Cv n k.t k.num k.funcs k.globals k.top k.nodes k.names k.sigs k.f k.Fo k.loops k.Rb k.QG k.e k.when k1=some ((x,()),((k.t.nodes,k.t.types,k.t.top,(),k.num,k.funcs,k.globals,k.top,k.nodes,k.names,k.sigs,(),k.f.name,k.f.params,k.f.An,k.f.frame,k.f.body,k.Fo,(),(),k.loops,k.Rb,k.QG,k.e,k.when,()),(k1,())))/\x.at_=LN k n:=by
 rw [Tryz.aD]
 unfold LN
 by_cases h:n<0
 ·rw [if_pos (by simpa using h),if_pos h];exact ⟨_,rfl,rfl⟩
 ·rw [if_neg (by simpa using h),if_neg h]
  by_cases h2:I k.t.nodes.length<=n
  ·rw [if_pos (by simpa using h2),if_pos h2];exact ⟨_,rfl,rfl⟩
  ·rw [if_neg (by simpa using h2),if_neg h2,if_pos (by simp;omega)];exact ⟨_,rfl,rfl⟩
theorem Zj (t6:List Int) (t15 f:Int) (e:List UInt8×Int) (k:CK) (k1:CT):(NY iB 3000 Wl Sm U4 Zd Ze 6 (Zf t6 t15 f e k k1)).eval (fun _ _=>none)=
 if decide ((AN k.labels e.1).getD 0=0)=true then
  if decide (f<0)=true then some (Zg t6 t15 f e.2 true k k1)
  else (Tryz.Cv e.2 k.t k.num k.funcs k.globals k.top k.nodes k.names k.sigs k.f k.Fo k.loops k.Rb k.QG k.e k.when k1).bind fun y=>(Tryz.Cv f (En.Dop.G2.mk y.2.1.1 y.2.1.2.1 y.2.1.2.2.1) y.2.1.2.2.2.2.1 y.2.1.2.2.2.2.2.1 y.2.1.2.2.2.2.2.2.1 y.2.1.2.2.2.2.2.2.2.1 y.2.1.2.2.2.2.2.2.2.2.1 y.2.1.2.2.2.2.2.2.2.2.2.1 y.2.1.2.2.2.2.2.2.2.2.2.2.1 (En.Dop.Eh.mk y.2.1.2.2.2.2.2.2.2.2.2.2.2.2.1 y.2.1.2.2.2.2.2.2.2.2.2.2.2.2.2.1 y.2.1.2.2.2.2.2.2.2.2.2.2.2.2.2.2.1 y.2.1.2.2.2.2.2.2.2.2.2.2.2.2.2.2.2.1 y.2.1.2.2.2.2.2.2.2.2.2.2.2.2.2.2.2.2.1) y.2.1.2.2.2.2.2.2.2.2.2.2.2.2.2.2.2.2.2.1 y.2.1.2.2.2.2.2.2.2.2.2.2.2.2.2.2.2.2.2.2.2.2.1 y.2.1.2.2.2.2.2.2.2.2.2.2.2.2.2.2.2.2.2.2.2.2.2.1 y.2.1.2.2.2.2.2.2.2.2.2.2.2.2.2.2.2.2.2.2.2.2.2.2.1 y.2.1.2.2.2.2.2.2.2.2.2.2.2.2.2.2.2.2.2.2.2.2.2.2.2.1 y.2.1.2.2.2.2.2.2.2.2.2.2.2.2.2.2.2.2.2.2.2.2.2.2.2.2.1 y.2.2.1).bind fun z=>some (((),t6,t15,f,(),e.2,decide (y.1.1.at_<z.1.1.at_),()),(((En.Dop.G2.mk z.2.1.1 z.2.1.2.1 z.2.1.2.2.1),(),z.2.1.2.2.2.2.1,z.2.1.2.2.2.2.2.1,z.2.1.2.2.2.2.2.2.1,z.2.1.2.2.2.2.2.2.2.1,z.2.1.2.2.2.2.2.2.2.2.1,z.2.1.2.2.2.2.2.2.2.2.2.1,z.2.1.2.2.2.2.2.2.2.2.2.2.1,(),(En.Dop.Eh.mk z.2.1.2.2.2.2.2.2.2.2.2.2.2.2.1 z.2.1.2.2.2.2.2.2.2.2.2.2.2.2.2.1 z.2.1.2.2.2.2.2.2.2.2.2.2.2.2.2.2.1 z.2.1.2.2.2.2.2.2.2.2.2.2.2.2.2.2.2.1 z.2.1.2.2.2.2.2.2.2.2.2.2.2.2.2.2.2.2.1),z.2.1.2.2.2.2.2.2.2.2.2.2.2.2.2.2.2.2.2.1,(),(),z.2.1.2.2.2.2.2.2.2.2.2.2.2.2.2.2.2.2.2.2.2.2.1,z.2.1.2.2.2.2.2.2.2.2.2.2.2.2.2.2.2.2.2.2.2.2.2.1,z.2.1.2.2.2.2.2.2.2.2.2.2.2.2.2.2.2.2.2.2.2.2.2.2.1,z.2.1.2.2.2.2.2.2.2.2.2.2.2.2.2.2.2.2.2.2.2.2.2.2.2.1,z.2.1.2.2.2.2.2.2.2.2.2.2.2.2.2.2.2.2.2.2.2.2.2.2.2.2.1,()),z.2.2.1,(k.taken,()),(k.labels,()),(k.gotos,()),()))
 else some (Zg t6 t15 f e.2 false k k1):=by kernel_rfl
theorem dI (t6:List Int) (t15 f:Int) (e:List UInt8×Int) (k:CK) (k1:CT):(NY iB 3000 Wl Sm U4 Zd Ze 6 (Zf t6 t15 f e k k1)).eval (fun _ _=>none)=some (Zg t6 t15 f e.2 (Ws k e && (decide (f<0) || decide (LN k e.2<LN k f))) k k1):=by
 rw [Zj]
 obtain ⟨x,h1,h2⟩:=Wt e.2 k k1
 obtain ⟨x',h1',h2'⟩:=Wt f k k1
 unfold Ws
 cases hu:decide ((AN k.labels e.1).getD 0=0) with
 | false=>simp
 | true=>
  cases hf:decide (f<0) with
  | true=>simp
  | false=>
   simp only [if_true,Bool.false_eq_true,if_false,h1,Option.bind_some]
   have:Tryz.Cv f k.t k.num k.funcs k.globals k.top k.nodes k.names k.sigs k.f k.Fo k.loops k.Rb k.QG k.e k.when k1=some ((x',()),((k.t.nodes,k.t.types,k.t.top,(),k.num,k.funcs,k.globals,k.top,k.nodes,k.names,k.sigs,(),k.f.name,k.f.params,k.f.An,k.f.frame,k.f.body,k.Fo,(),(),k.loops,k.Rb,k.QG,k.e,k.when,()),(k1,()))):=h1'
   simp only [this,Option.bind_some,h2,h2',Bool.true_and,Bool.false_or]
   rfl
end Go.Proofs
set_option maxRecDepth 100000
namespace Go.Proofs
open Go Go.En Go.RowKit
section
variable {w0:World} {F D0:Nat->Prop} {β1:Nat->Nm} {t6:List Int} {t15 f:Int} {k:CK} {k1:CT} {r:Nat} {a:Act} {W:World}
abbrev bu (w0:World) (F D0:Nat->Prop) (β1:Nat->Nm) (t6:List Int) (t15 f:Int) (k:CK) (k1:CT) (r:Nat) (ob:Obj) (a:Act) (W:World):Prop:=HX En.Dop.D4 w0 F D0 Qh PB 6 β1 246 (Sp t6 t15 f k k1) r ob a W
theorem FB {q:En.Spec} {ts:List Nat} {k bn:Nat} {s:St En.Dop.D4} {y:q.D En.Dop.D4} (h:(G3 q ts k bn s).map (·.1)=some y): ∃ m,G3 q ts k bn s=some (y,m):=by
 obtain ⟨⟨y',m⟩,h1,h2⟩:=Option.map_eq_some_iff.1 h
 cases h2
 exact ⟨m,h1⟩
theorem SH {es:Array MapEntry} (h: ∀ (j:Nat) (e:MapEntry),es[j]?=some e->e.born=j):(es.toList.map (·.born)).Nodup:=by
 have:es.toList.map (·.born)=List.range es.size:=List.ext_getElem (by simp) fun i h1 h2=>by
  simp only [List.getElem_map,List.getElem_range]
  exact h i _ (by simp at h1;simp [h1])
 rw [this];exact List.nodup_range
theorem XA (hkp:Bx En.Dop.D4 w0 F D0) (h0:w0.heap.size<=r) (hr:(β1 5).AQ=r) {seen:Array Nat} {c0:Nat} (hL:k.gotos.length<=c0) (hh:bu w0 F D0 β1 t6 t15 f k k1 r (.mapIter (some (β1 4).AQ) k.gotos.length seen c0) a W) {Q:Exit->Act->World->Prop}
  (hdone:(∀ j,j<k.gotos.length->seen.contains j=true)-> ∀ a' W' ob,bu w0 F D0 β1 t6 t15 f k k1 r ob a' W'->Q (.exit 2) a' W')
  (hmore: ∀ j x,k.gotos[j]?=some x->seen.contains j=false-> ∀ a' W' c1,k.gotos.length<=c1->bu w0 F D0 β1 t6 t15 (Il k f x) k k1 r (.mapIter (some (β1 4).AQ) k.gotos.length (seen.push j) c1) a' W'->Q .normal a' W'):Qf.wp Tryz.prog Q a W:=by
 rw [Zc]
 obtain ⟨D,β,vs,o,n,he,hβ,hbn,hg,hc1,hc2⟩:=hh.g
 obtain ⟨ho4,ht185⟩:=iF he
 obtain ⟨bm,hb4,hM⟩:=hg.gh.own 4 _ ho4
 have hbm:(β1 4).AQ=bm:=by rw [<-hβ 4 (by omega)];simp [Nm.AQ,hb4]
 obtain ⟨es,hes,hsz,hel⟩:=Sq hM
 have hit:=hh.it
 rw [hbm] at hit
 have h185:a.tmps.getD 185 undef=.pointer (some ⟨r,0,none⟩):=by
  rw [hg.tmps 185 _ ht185];simp only [SV.den,hβ 5 (by omega),hr]
 have hlt: ∀ x∈es.toList,x.born<k.gotos.length:=fun x hx=>by
  obtain ⟨j,hj⟩:=List.mem_iff_getElem?.1 hx
  rw [Array.getElem?_toList] at hj
  obtain ⟨y,hy,rfl⟩:=hel j x hj
  exact (List.getElem?_eq_some_iff.1 hy).1
 have hexec: ∀ v w',(Instr.next (.pointer (some ⟨r,0,none⟩)) false (At Fe 0).type).run Tryz.prog W=.ok v w'->(execOp a.eval (At Fe 0)).run Tryz.prog W=.ok (.value v) w':=fun v w' h=>by
  have:a.eval (.tmp 185)=.pointer (some ⟨r,0,none⟩):=h185
  simp only [execOp,O9.1,this,Sem.run_bind,h,Result.andThen_ok,Sem.run_pure]
 refine wp_seq (wp_region_list ?_)
 rw [Wj]
 unfold wpList
 rw [if_pos (by simp [Region.wanted,O9.2.2])]
 rcases run_next_at (P:=Tryz.prog) W (At Fe 0).type r bm k.gotos.length c0 seen es es.size hit hes hlt hL with ⟨hz,hrun⟩|⟨e,hem,w1,hw1,hrun⟩
 ·-- nothing is left
  refine .inl (Al (hexec _ _ hrun) ?_)
  rw [O9.2.1]
  have hg1:G w0 F D0 D ((Tz vs o n).pu 186 (.GY [.b false])) (· <n) β (a.put (some 186) (.tuple #[.bool false])) W:=by
   have:=hg.put (d:=some 186) (x:=.GY [.b false]) (by simp [SV.on,BM]) (s':=(Tz vs o n).pu 186 (.GY [.b false])) (by rw [St.FQ,if_pos (by show 186<246;omega)];rfl)
   simpa [SV.den,AA] using this
  refine Ch Tryz.AH hg1 T1.2 T1.1 (by show 187<246;omega) (iK he) fun a1 hg2=>?_
  unfold wpList
  have h187:a1.eval (.tmp 187)=.bool false:=by
   have:=hg2.tmps 187 (.b false) (by simp [St.pu,Er])
   exact this
  refine wp_seq (wp_cond_false h187 (wp_exit ?_))
  obtain ⟨m,hm⟩:=FB (Zh he)
  refine hdone (fun j hj=>?_) a1 W _ (hg2.GI hβ hm KA.1 hc1 hc2 hh.it)
  have hj':es[j]?=some es[j]:=Array.getElem?_eq_getElem (by omega)
  obtain ⟨x,hx,hex⟩:=hel j _ hj'
  have:=all_seen es seen hz es[j] (by simp)
  rw [hex] at this
  exact this
 ·-- an entry
  obtain ⟨hmem,hns⟩:=mem_left hem
  obtain ⟨j,hj⟩:=List.mem_iff_getElem?.1 hmem
  rw [Array.getElem?_toList] at hj
  obtain ⟨x,hx,rfl⟩:=hel j e hj
  refine .inl (Al (hexec _ _ hrun) ?_)
  rw [O9.2.1]
  have hh1:=hh.Ke hw1 h0 (.mapIter (some bm) k.gotos.length (seen.push j) es.size)
  obtain ⟨D2,β2,vs2,o2,n2,he2,hβ2,hbn2,hg2,hd1,hd2⟩:=hh1.g
  rw [he] at he2
  simp only [Prod.mk.injEq] at he2
  obtain ⟨rfl,rfl,rfl⟩:=he2
  obtain ⟨bm2,hb42,hM2⟩:=hg2.gh.own 4 _ ho4
  have hbm2:bm2=bm:=by rw [<-hbm,<- hβ2 4 (by omega)];simp [Nm.AQ,hb42]
  subst hbm2
  obtain ⟨es2,hes2,hsz2,hel2⟩:=Sq hM2
  have hee:es2=es:=by
   refine Array.ext (hsz2.trans hsz.symm) fun i h1 h2=>?_
   obtain ⟨y1,hy1,e1⟩:=hel2 i _ (Array.getElem?_eq_getElem h1)
   obtain ⟨y2,hy2,e2⟩:=hel i _ (Array.getElem?_eq_getElem h2)
   rw [hy1] at hy2;cases hy2
   rw [e1,e2]
  subst hee
  have hg3:G w0 F D0 D2 ((Tz vs o n).pu 186 (.GY [.b true,.v (.string ⟨⟨x.1⟩⟩),.v (.int .i64 x.2)])) (· <n) β2 (a.put (some 186) (.tuple #[.bool true,.string ⟨⟨x.1⟩⟩,.int .i64 x.2])) (Go.ChangeMaps.setBlock w1 r (.mapIter (some bm2) k.gotos.length (seen.push j) es2.size)):=by
   have:=hg2.put (d:=some 186) (x:=.GY [.b true,.v (.string ⟨⟨x.1⟩⟩),.v (.int .i64 x.2)]) (by simp [SV.on,BM]) (s':=(Tz vs o n).pu 186 (.GY [.b true,.v (.string ⟨⟨x.1⟩⟩),.v (.int .i64 x.2)])) (by rw [St.FQ,if_pos (by show 186<246;omega)];rfl)
   simpa [SV.den,AA] using this
  refine Ch Tryz.AH hg3 T1.2 T1.1 (by show 187<246;omega) (iL x he) fun a1 hg4=>?_
  unfold wpList
  have h187:a1.eval (.tmp 187)=.bool true:=hg4.tmps 187 (.b true) (by simp [St.pu,Er])
  refine wp_seq (wp_cond_true h187 (wp_skip (wp_block (wp_seq (wp_region_list ?_)))))
  rw [Wk]
  unfold wpList
  rw [if_pos (by simp [Region.wanted,O8.2.2])]
  have h185':a1.eval (.tmp 185)=.pointer (some ⟨r,0,none⟩):=by
   have:=hg4.tmps 185 (.ptr 5 0) (by simp [St.pu,Er];exact ht185)
   show a1.tmps.getD 185 undef=_
   rw [this];simp only [SV.den,hβ2 5 (by omega),hr]
  have hrunE:=run_entry_at (P:=Tryz.prog) (Go.ChangeMaps.setBlock w1 r (.mapIter (some bm2) k.gotos.length (seen.push j) es2.size)) r bm2 k.gotos.length seen es2 es2.size ⟨.string ⟨⟨x.1⟩⟩,.int .i64 x.2,j⟩ hh1.it hes2 (List.mem_of_getElem? (by rw [Array.getElem?_toList];exact hj)) (SH fun i e hi=>by obtain ⟨y,_,rfl⟩:=hel2 i e hi;rfl)
  refine .inl (Al (v:=.tuple #[.string ⟨⟨x.1⟩⟩,.int .i64 x.2]) (by simp only [execOp,O8.1,h185',Sem.run_bind,hrunE,Result.andThen_ok,Sem.run_pure];rfl) ?_)
  rw [O8.2.1]
  have hg5:G w0 F D0 D2 (Sn vs o n x) (· <n) β2 (a1.put (some 188) (.tuple #[.string ⟨⟨x.1⟩⟩,.int .i64 x.2])) (Go.ChangeMaps.setBlock w1 r (.mapIter (some bm2) k.gotos.length (seen.push j) es2.size)):=by
   have:=hg4.put (d:=some 188) (x:=.GY [.v (.string ⟨⟨x.1⟩⟩),.v (.int .i64 x.2)]) (by simp [SV.on,BM]) (s':=Sn vs o n x) (by rw [St.FQ,if_pos (by show 188<246;omega)];rfl)
   simpa [SV.den,AA] using this
  refine Ch Tryz.AH hg5 bJ.2 bJ.1 (by show 189<246;omega) (iM he) fun a2 hg6=>?_
  refine Ch Tryz.AH hg6 bK.2 bK.1 (by show 190<246;omega) (iN he) fun a3 hg7=>?_
  refine Ch Tryz.AH hg7 bL.2 bL.1 (by show 17<246;omega) (iO he) fun a4 hg8=>?_
  refine Ch Tryz.AH hg8 bM.2 bM.1 (by show 18<246;omega) (iP he) fun a5 hg9=>?_
  unfold wpList
  obtain ⟨m,hm⟩:=FB (iH (e:=x) he)
  have hx1:HX En.Dop.D4 w0 F D0 Sm Zd 6 β1 iB.sz (Zf t6 t15 f x k k1) r (.mapIter (some bm2) k.gotos.length (seen.push j) es2.size) a5 (Go.ChangeMaps.setBlock w1 r (.mapIter (some bm2) k.gotos.length (seen.push j) es2.size)):=by
   rw [Wd];exact hg9.GI hβ2 hm KA.2.1 hd1 hd2 hh1.it
  refine wp_seq (wp_region_list (hx1.kk dB (f0:=3000) KA.2.2 (by kernel_rfl) (dI t6 t15 f x k k1) hkp fun a6 W6 hx2=>?_))
  rw [Wd] at hx2
  obtain ⟨D3,β3,vs3,o3,n3,he3,hβ3,hbn3,hg10,he1,he2'⟩:=hx2.g
  obtain ⟨l1,l2,l3,l4,l5⟩:=iG he3
  have h212:a6.eval (.tmp 212)=.bool (Ws k x && (decide (f<0) || decide (LN k x.2<LN k f))):=hg10.tmps 212 _ l1
  have hst:Il k f x=if (Ws k x && (decide (f<0) || decide (LN k x.2<LN k f)))=true then x.2 else f:=rfl
  have hfin: ∀ a' W',bu w0 F D0 β1 t6 t15 (Il k f x) k k1 r (.mapIter (some bm2) k.gotos.length (seen.push j) es2.size) a' W'->Exit.inBlock 3 Q .normal a' W':=fun a' W' h=>by
   rw [<-hbm] at h
   exact hmore j x hx hns a' W' es2.size (by omega) h
  cases hb:(Ws k x && (decide (f<0) || decide (LN k x.2<LN k f))) with
  | true=>
   rw [hb] at h212 hst
   rw [if_pos rfl] at hst
   refine wp_cond_true h212 (wp_region_list ?_)
   rw [Wm]
   refine Ch Tryz.AH (s:=Wr vs3 o3 n3) hg10 bN.2 bN.1 (by show 213<246;omega) l2 fun a7 hg11=>?_
   refine Ch Tryz.AH hg11 bO.2 bO.1 (by show 16<246;omega) l3 fun a8 hg12=>?_
   unfold wpList
   obtain ⟨m2,hm2⟩:=FB l4
   refine hfin a8 W6 ?_
   rw [hst]
   exact hg12.GI hβ3 hm2 KA.1 he1 he2' hx2.it
  | false=>
   rw [hb] at h212 hst
   rw [if_neg (by simp)] at hst
   refine wp_cond_false h212 (wp_skip ?_)
   obtain ⟨m2,hm2⟩:=FB l5
   refine hfin a6 W6 ?_
   rw [hst]
   exact hg10.GI hβ3 hm2 KA.1 he1 he2' hx2.it
end
end Go.Proofs
set_option maxRecDepth 100000
namespace Go.Proofs
open Go Go.En Go.RowKit
section
variable {w0:World} {F D0:Nat->Prop} {β1:Nat->Nm} {t6:List Int} {t15:Int} {k:CK} {k1:CT} {r:Nat}
def Sl (L:Nat) (seen:Array Nat):Nat:=((List.range L).filter fun j=>!seen.contains j).length
theorem OM (hkp:Bx En.Dop.D4 w0 F D0) (h0:w0.heap.size<=r) (hr:(β1 5).AQ=r) (hp:Qg k) {Q:Exit->Act->World->Prop}
  (hdone: ∀ f,Ul k (fun _=>True) f-> ∀ a' W' ob,bu w0 F D0 β1 t6 t15 f k k1 r ob a' W'->Q (.exit 2) a' W'):
  ∀ (m:Nat) (seen:Array Nat) (c0:Nat) (f:Int) (a:Act) (W:World),Sl k.gotos.length seen<m->k.gotos.length<=c0->Ul k (fun j=>seen.contains j=true) f->bu w0 F D0 β1 t6 t15 f k k1 r (.mapIter (some (β1 4).AQ) k.gotos.length seen c0) a W->Code.rounds Tryz.prog Qf Q m a W
 | 0,seen,c0,f,a,W,hm,hL,hI,hh=>absurd hm (Nat.not_lt_zero _)
 | m+1,seen,c0,f,a,W,hm,hL,hI,hh=>by
  rw [rounds_succ]
  refine XA hkp h0 hr hL hh (fun hall a' W' ob h=>?_) (fun j x hx hs a' W' c1 hc h=>?_)
  ·exact hdone f (hI.congr fun j hj=>iff_of_true (hall j hj) trivial) a' W' ob h
  ·refine OM hkp h0 hr hp hdone m (seen.push j) c1 _ a' W' ?_ hc ((hI.step hp hx).congr fun i hi=>?_) h
   ·have hj:j<k.gotos.length:=(List.getElem?_eq_some_iff.1 hx).1
    have:=filter_lt (fun i=>!seen.contains i) (fun i=>!(seen.push j).contains i) (fun i hi=>by
     simp only [contains_push] at hi
     cases h:seen.contains i with
     | false=>rfl
     | true=>rw [h] at hi;cases hi) j (by simp only [hs];rfl) (by simp only [contains_push,beq_self_eq_true,Bool.or_true];rfl) (List.range k.gotos.length) (by simpa using hj)
    unfold Sl at hm ⊢
    omega
   ·rw [contains_push,Bool.or_eq_true,beq_iff_eq]
end
noncomputable abbrev dC (vs:List SV) (o:List (Nat×En.Own En.Dop.D4)) (n:Nat):St En.Dop.D4:=⟨[0,6,15].zip vs,o,n,246⟩
noncomputable abbrev dD (vs:List SV) (o:List (Nat×En.Own En.Dop.D4)) (n:Nat):St En.Dop.D4:=(dC vs o n).pu 16 (.v (.int .i64 (-1)))
noncomputable abbrev dE (vs:List SV) (o:List (Nat×En.Own En.Dop.D4)) (n:Nat):St En.Dop.D4:=((dD vs o n).pu 181 (.ptr 0 0)).pu 182 (.ptr 0 0)
noncomputable abbrev Wq (vs:List SV) (o:List (Nat×En.Own En.Dop.D4)) (n:Nat) (q:Nat):St En.Dop.D4:=((dE vs o n).pu 183 (.ptr 0 q)).pu 184 (.Bt 13)
noncomputable abbrev iE (vs:List SV) (o:List (Nat×En.Own En.Dop.D4)) (n:Nat) (q:Nat):St En.Dop.D4:=⟨(185,.ptr n 0)::(Wq vs o n q).t,o,n+1,246⟩
end Go.Proofs
set_option maxRecDepth 100000
namespace Go.Proofs
open Go Go.En Go.RowKit
theorem bI:(At MZ 0).dst=some 16/\(At MZ 0).guard=none:=⟨by kernel_rfl,by kernel_rfl⟩
theorem Wu:(At DF 0).dst=some 181/\(At DF 0).guard=none:=⟨by kernel_rfl,by kernel_rfl⟩
theorem Wv:(At DF 1).dst=some 182/\(At DF 1).guard=none:=⟨by kernel_rfl,by kernel_rfl⟩
theorem Ww:(At DF 2).dst=some 183/\(At DF 2).guard=none:=⟨by kernel_rfl,by kernel_rfl⟩
theorem Wx:(At DF 3).dst=some 184/\(At DF 3).guard=none:=⟨by kernel_rfl,by kernel_rfl⟩
theorem Wy:(At HT 0).dst=some 214/\(At HT 0).guard=none:=⟨by kernel_rfl,by kernel_rfl⟩
theorem Wz:(At HT 1).dst=some 215/\(At HT 1).guard=none:=⟨by kernel_rfl,by kernel_rfl⟩
theorem iI {t6:List Int} {t15:Int} {k:CK} {k1:CT} {vs:List SV} {o:List (Nat×En.Own En.Dop.D4)} {n:Nat} (h:En.Spec.enc (S:=En.Dop.D4) Tryz.Dr.YU.sp (((),t6,t15,()),(k,k1,())) 2=(vs,o,n)):
  evalOp Tryz.tb (dC vs o n) (At MZ 0).op=.val none (.v (.int .i64 (-1)))/\evalOp Tryz.tb (dD vs o n) (At DF 0).op=.val none (.ptr 0 0)/\evalOp Tryz.tb ((dD vs o n).pu 181 (.ptr 0 0)) (At DF 1).op=.val none (.ptr 0 0)/\
  evalOp Tryz.tb (dE vs o n) (At DF 2).op=.val none (.ptr 0 19)/\evalOp Tryz.tb ((dE vs o n).pu 183 (.ptr 0 19)) (At DF 3).op=.val none (.Bt 13)/\n=17/\lk o 13=some (.mp .str 0 false k.gotos)/\lk (Wq vs o n 19).t 184=some (.Bt 13)/\
  (G3 Qh PB 2 6 (iE vs o n 19)).map (fun z=>(z.1,lk z.2 4,lk z.2 5))=some (Sp t6 t15 (-1) k k1,some 13,some 17):=by
 cases h
 exact ⟨by kernel_rfl,by kernel_rfl,by kernel_rfl,by kernel_rfl,by kernel_rfl,by kernel_rfl,by kernel_rfl,by kernel_rfl,by kernel_rfl⟩
abbrev Wp:En.Spec:=⟨[.al 0 0,.own 0 3,.fd (.int .i64),.fd (.int .i64)],[CK.b0,CT.b1]⟩
theorem iJ {t6:List Int} {t15 f:Int} {k:CK} {k1:CT} {vs:List SV} {o:List (Nat×En.Own En.Dop.D4)} {n:Nat} (h:Qh.enc (S:=En.Dop.D4) (Sp t6 t15 f k k1) 6=(vs,o,n)):
  evalOp Tryz.tb (Tz vs o n) (At HT 0).op=.val none (.v (.int .i64 f))/\evalOp Tryz.tb ((Tz vs o n).pu 214 (.v (.int .i64 f))) (At HT 1).op=.val none (.b (decide (0<=f)))/\
  lk (((Tz vs o n).pu 214 (.v (.int .i64 f))).pu 215 (.b (decide (0<=f)))).t 215=some (.b (decide (0<=f)))/\
  (G3 Wp [0,6,15,16] 2 2 (((Tz vs o n).pu 214 (.v (.int .i64 f))).pu 215 (.b (decide (0<=f))))).map (·.1)=some (((),t6,t15,f,()),(k,k1,()))/\
  (G3 Tryz.Dr.Vo.sp [0,6,15] 2 2 (((Tz vs o n).pu 214 (.v (.int .i64 f))).pu 215 (.b (decide (0<=f))))).map (·.1)=some (((),t6,t15,()),(k,k1,())):=by
 cases h
 exact ⟨by kernel_rfl,by kernel_rfl,by kernel_rfl,by kernel_rfl,by kernel_rfl⟩
noncomputable abbrev OK (ct:List (Bw En.Dop.D4)):Env En.Dop.D4:=Ac Tryz.prog 78 Tryz.tb ct Tryz.Dr.p
theorem OL (ct:List (Bw En.Dop.D4)):(OK ct).sz=246:=by kernel_rfl
theorem Sr:Tryz.Dr.Vo.sp.okB 2=true/\Wp.okB 2=true:=⟨by kernel_rfl,by kernel_rfl⟩
theorem dG:C2 (AR Tryz.prog 78) Tryz.Dr.YU.key=some [.code [0,1,1,1,1,1,1,1,1,1,1,1] (.region 24 MZ false),.code [1,1,1,1,1,1,1,1,1,1,1,1] ZZ]:=by kernel_rfl
theorem dH:C2 (AR Tryz.prog 78) Tryz.Dr.Vo.key=some [.code [1,1,1,1,1,1,1,1,1,1,1,1,1,1] kX]:=by kernel_rfl
theorem Zi {ct:List (Bw En.Dop.D4)} (hE:(OK ct).Ok Tryz.prog) {mf:Int->CK->CT->Option ((En.Dop.Ao×Unit)×(CK×CT×Unit))} (hmf: ∀ f f' k k1,LN k f=LN k f'->mf f k k1=mf f' k k1)
  (hseg: ∀ t6 t15 f k k1,(NY (OK ct) 3000 Ty Wp Tryz.Dr.Vo.sp [0,6,15,16] [0,6,15] 2 (((),t6,t15,f,()),(k,k1,()))).eval (fun _ _=>none)=(mf f k k1).bind fun y=>some (((),t6,t15,()),(y.2.1,(y.2.2.1,()))))
  {Q:Exit->Act->World->Prop} {w0:World} {F D0:Nat->Prop} {β0:Nat->Nm} {M:Nat} (t6:List Int) (t15:Int) (k:CK) (k1:CT) (y:Tryz.Dr.Vo.sp.D En.Dop.D4) (hkp:Bx En.Dop.D4 w0 F D0) (hg:kW mf (((),t6,t15,()),(k,k1,()))=some y)
  (hv:IM Tryz.prog Q w0 F D0 β0 M (OK ct) Tryz.Dr.Vo y):IM Tryz.prog Q w0 F D0 β0 M (OK ct) Tryz.Dr.YU (((),t6,t15,()),(k,k1,())):=by
 unfold kW at hg
 split at hg
 case isFalse=>cases hg
 rename_i hpos
 have hp:Qg k:=fun e he=>by simpa using List.all_eq_true.1 hpos e he
 intro ks vs o n hk he
 have hk:C2 (AR Tryz.prog 78) Tryz.Dr.YU.key=some ks:=hk
 rw [dG] at hk
 cases hk
 have he:En.Spec.enc (S:=En.Dop.D4) Tryz.Dr.YU.sp (((),t6,t15,()),(k,k1,())) 2=(vs,o,n):=he
 obtain ⟨s0,s1,s2,s3,s4,hn,ho13,h184,hlook⟩:=iI he
 intro D β a W hβ0 hG
 have hG:G w0 F D0 D (dC vs o n) (· <n) β a W:=hG
 have hβ0: ∀ i,i<2->β i=β0 i:=hβ0
 show (Code.region 24 MZ false).wpIn Fence.wide 0 Tryz.prog (after Fence.wide Tryz.prog M [.code ZZ] Q) a W
 refine wpIn_wide.2 (wp_region_list ?_)
 rw [Wh]
 refine Ch Tryz.AH hG bI.2 bI.1 (by show 16<246;omega) s0 fun a1 g1=>?_
 unfold wpList
 show ZZ.wpIn Fence.wide 0 Tryz.prog Q a1 W
 refine wpIn_wide.2 ?_
 rw [dA]
 refine wp_seq (wp_seq (wp_region_list ?_))
 rw [Wi]
 refine Ch Tryz.AH g1 Wu.2 Wu.1 (by show 181<246;omega) s1 fun a2 g2=>?_
 refine Ch Tryz.AH g2 Wv.2 Wv.1 (by show 182<246;omega) s2 fun a3 g3=>?_
 refine Ch Tryz.AH g3 Ww.2 Ww.1 (by show 183<246;omega) s3 fun a4 g4=>?_
 refine Ch Tryz.AH g4 Wx.2 Wx.1 (by show 184<246;omega) s4 fun a5 g5=>?_
 have g5:G w0 F D0 D (Wq vs o n 19) (· <n) β a5 W:=g5
 obtain ⟨bm,hb13,hM⟩:=g5.gh.own 13 _ ho13
 obtain ⟨es,hes,hsz,hel⟩:=Sq hM
 have e184:a5.eval (.tmp 184)=.map (some bm):=by
  have:=g5.tmps 184 _ h184
  show a5.tmps.getD 184 undef=_
  rw [this];simp [SV.den,Nm.AQ,hb13]
 have hT:=AY (d:=.map 9 3) Tryz.AH (T:=132) (by kernel_rfl)
 simp only [TD.ok] at hT
 have hrun:=run_range_map (P:=Tryz.prog) W 132 _ _ bm es es.size hT hes
 unfold wpList
 rw [if_pos (by simp [Region.wanted,PA.2.2])]
 refine .inl (Al (v:=.pointer (some ⟨W.heap.size,0,none⟩)) (w':=W.alloc (.mapIter (some bm) es.size #[] es.size)) (by simp only [execOp,PA.1,e184,Sem.run_bind,hrun,Result.andThen_ok,Sem.run_pure]) ?_)
 rw [PA.2.1]
 unfold wpList
 -- the iterator's block has a name
 let β':Nat->Nm:=fun i=>if i=17 then ⟨some W.heap.size,0,0,undef⟩ else β i
 have hβ': ∀ i,i<n->β i=β' i:=fun i hi=>by simp only [β'];rw [if_neg (by omega)]
 have hgh:GH w0 F D0 D o (· <n) β W:=g5.gh
 have g6:G w0 F D0 D (iE vs o n 19) (· <n+1) β' (a5.put (some 185) (.pointer (some ⟨W.heap.size,0,none⟩))) (W.alloc (.mapIter (some bm) es.size #[] es.size)):=by
  refine ⟨g5.defers,by rw [Hn];exact g5.size,fun t v ht=>?_,fun t v ht=>?_,((hgh.step ((Below.refl _ W).alloc (Nat.le_refl _) _)).congr hβ').mono fun i hi=>Nat.lt_succ_of_lt hi⟩
  ·have ht:lk ((185,SV.ptr n 0)::(Wq vs o n 19).t) t=some v:=ht
   rw [AI] at ht
   split at ht
   ·rename_i e;subst e;cases ht;exact ⟨by show 185<246;omega,by show n<n+1;omega⟩
   ·obtain ⟨q1,q2⟩:=g5.GZ t v ht
    exact ⟨q1,Aj (fun i hi=>Nat.lt_succ_of_lt hi) q2⟩
  ·have ht:lk ((185,SV.ptr n 0)::(Wq vs o n 19).t) t=some v:=ht
   rw [AI] at ht
   split at ht
   ·rename_i e;subst e;cases ht
    rw [Jr (by rw [g5.size];show 185<246;omega)]
    simp only [SV.den,β',hn,if_true,Nm.AQ,Option.getD_some]
   ·rename_i hne
    obtain ⟨q1,q2⟩:=g5.GZ t v ht
    rw [GO hne,g5.tmps t v ht]
    exact B8 hβ' v q2
 obtain ⟨⟨y0,m⟩,hl1,hl2⟩:=Option.map_eq_some_iff.1 hlook
 simp only [Prod.mk.injEq] at hl2
 obtain ⟨rfl,hm4,hm5⟩:=hl2
 have hclear: ∀ i b,lk o i=some b->¬ (β' i).has W.heap.size:=fun i b hi hk=>by
  have hin:i<n:=(hgh.Bf i b hi).1
  rw [<-hβ' i hin] at hk
  exact Nat.lt_irrefl _ (hgh.lt i b _ hi hk)
 have hDn:¬ D W.heap.size:=fun hd=>Nat.lt_irrefl _ (hgh.C5 _ hd)
 obtain ⟨β1,b1,b2,hx⟩:=g6.hx (by omega) hl1 KA.1 hclear hDn (heap_alloc_new W _)
 have hb4:(β1 4).AQ=bm:=by
  rw [b2 4 (by omega) 13 hm4]
  show (β' 13).AQ=bm
  rw [<-hβ' 13 (by omega)]
  simp [Nm.AQ,hb13]
 have hb5:(β1 5).AQ=W.heap.size:=by
  rw [b2 5 (by omega) 17 hm5]
  simp [β',Nm.AQ]
 have hb01: ∀ i,i<2->β1 i=β0 i:=fun i hi=>by rw [b1 i hi,<- hβ' i (by omega),hβ0 i hi]
 have h0:w0.heap.size<=W.heap.size:=hgh.fr.size
 have hx:bu w0 F D0 β1 t6 t15 (-1) k k1 W.heap.size (.mapIter (some (β1 4).AQ) k.gotos.length #[] k.gotos.length) (a5.put (some 185) (.pointer (some ⟨W.heap.size,0,none⟩))) (W.alloc (.mapIter (some bm) es.size #[] es.size)):=by
  rw [hb4,<- hsz];exact hx
 refine wp_block (wp_loop_rounds (Sl k.gotos.length #[]+1) (OM hkp h0 hb5 hp (fun f hI a' W' ob hh=>?_) _ _ _ _ _ _ (Nat.lt_succ_self _) (Nat.le_refl _) (.inl ⟨rfl,fun j x hj=>absurd hj (by simp)⟩) hx))
 -- all have come
 show (Code.seq (.seq (.region 30 HT false) (.cond (.tmp 215) (.region 31 Ty false) .skip)) kX).wp Tryz.prog Q a' W'
 have huq:=(W9 hp).uniq hp hI
 obtain ⟨D2,β2,vs2,o2,n2,he2,hβ2,hbn2,hg2,hd1,hd2⟩:=hh.g
 obtain ⟨z0,z1,z2,z3,z4⟩:=iJ he2
 have hend: ∀ (y':Tryz.Dr.Vo.sp.D En.Dop.D4) a'' W'' ob',y'=y->HX En.Dop.D4 w0 F D0 Tryz.Dr.Vo.sp [0,6,15] 2 β0 246 y' W.heap.size ob' a'' W''->kX.wp Tryz.prog Q a'' W'':=fun y' a'' W'' ob' hy h=>by
  subst hy
  obtain ⟨D3,β3,vs3,o3,n3,he3,hβ3,hbn3,hg3,_,_⟩:=h.g
  have:=hv _ vs3 o3 n3 dH he3 D3 β3 a'' W'' hβ3 hg3
  exact wpIn_wide.1 this
 refine wp_seq (wp_seq (wp_region_list ?_))
 rw [Wo]
 refine Ch Tryz.AH (s:=Tz vs2 o2 n2) hg2 Wy.2 Wy.1 (by show 214<246;omega) z0 fun a6 g7=>?_
 refine Ch Tryz.AH g7 Wz.2 Wz.1 (by show 215<246;omega) z1 fun a7 g8=>?_
 unfold wpList
 have e215:a7.eval (.tmp 215)=.bool (decide (0<=f)):=g8.tmps 215 _ z2
 have hb2: ∀ i,i<2->β2 i=β0 i:=fun i hi=>by rw [hβ2 i (by omega),hb01 i hi]
 cases hf:decide (0<=f) with
 | true=>
  rw [hf] at e215
  refine wp_cond_true e215 (wp_region_list ?_)
  obtain ⟨m3,hm3⟩:=FB z3
  have hx3:=g8.GI hb2 hm3 Sr.2 hd1 hd2 hh.it
  rcases huq with ⟨e1,e2⟩|⟨e1,e2,e3⟩
  ·rw [e1] at e2;subst e2;simp at hf
  rw [if_pos (by simpa using e1)] at hg
  obtain ⟨v,hv1,hv2⟩:=Option.bind_eq_some_iff.1 hg
  rw [hmf _ _ _ k1 e3] at hv1
  have hs:=hseg t6 t15 f k k1
  rw [hv1] at hs
  have hx3:HX En.Dop.D4 w0 F D0 Wp [0,6,15,16] 2 β0 (OK ct).sz (((),t6,t15,f,()),(k,k1,())) W.heap.size ob a7 W':=by rw [OL];exact hx3
  refine hx3.kk hE (f0:=3000) Sr.1 (by kernel_rfl) hs hkp fun a8 W8 h8=>?_
  rw [OL] at h8
  exact hend _ a8 W8 _ (Option.some.inj hv2) h8
 | false=>
  rw [hf] at e215
  refine wp_cond_false e215 (wp_skip ?_)
  obtain ⟨m3,hm3⟩:=FB z4
  have hx3:=g8.GI hb2 hm3 Sr.1 hd1 hd2 hh.it
  have hfirst:¬ (0:Int)<=LO k:=by
   rcases huq with ⟨e1,e2⟩|⟨e1,e2,e3⟩
   ·omega
   ·simp [e2] at hf
  rw [if_neg (by simpa using hfirst)] at hg
  exact hend _ a7 W' _ (Option.some.inj hg) hx3
end Go.Proofs
set_option maxRecDepth 100000
set_option maxHeartbeats 4000000
namespace Go.Proofs.Tryz
open Go Go.En
end Go.Proofs.Tryz
set_option maxRecDepth 100000
set_option maxHeartbeats 4000000
namespace Go.Proofs.Tryz
open Go Go.En
abbrev J0.q3:Cut:=⟨[[0,0,0,0,0,1,0,1,1],[0,1,0,0,0,1,0,1,1],[0,1,0,0,1,0,1,1],[2,0,0,1,0,1,1],[1,0],[0,1,1,1]],[1,2],1,⟨[.al 0 0,.fd (.int .i64)],[CT.b0]⟩⟩
def J0.p:Ag:=⟨[(3,J0.q3)],0,⟨[],[]⟩,⟨[.al 0 0],[CT.b0]⟩,false,[],[]⟩
theorem J0.ok:AF Dop.D4 prog 72 J0.p=true:=by kernel_rfl
abbrev F5.q5:Cut:=⟨[[0,0,0,0,1,0,1,1,1,1],[0,1,0,0,1,0,1,1,1,1],[2,0,0,1,0,1,1,1,1],[1,0],[0,1,1,1,1,1]],[2,5,6,30,31,32],4,⟨[.al 1 0,.al 2 0,.rw 0,.rw 0,.fd (.int .i64),.fd (.int .i64)],[⟨0,0,[.own 0 3],true⟩,⟨1,27,[.own 11 52,.own 12 32,.fd (.int .i64),.own 5 56],false⟩,CH.b2,⟨3,168,[.own 6 93,.mp (.str) 17 false],false⟩]⟩⟩
abbrev F5.mH:Cut:=⟨[[0,0,0,0,1,0,1,1,1,1,1],[0,1,0,0,1,0,1,1,1,1,1],[2,0,0,1,0,1,1,1,1,1],[1,3],[0,1,1,1,1,1,1]],[2,5,60,61,62],3,⟨[.al 0 0,.al 1 0,.own 0 3,.fd (.int .i64),.fd (.int .i64)],[⟨0,27,[.own 11 52,.own 12 32,.fd (.int .i64),.own 5 56],false⟩,CH.b1,CT.b2]⟩⟩
abbrev F5.mJ:Cut:=⟨[[0,0,0,1,1,1,1,1,1,1,1],[0,1,0,1,1,1,1,1,1,1,1],[0,1,1,1,1,1,1,1,1,1]],[2,5],3,⟨[.al 0 0,.al 1 0],[⟨0,27,[.own 11 52,.own 12 32,.fd (.int .i64),.own 5 56],false⟩,CH.b1,CT.b2]⟩⟩
def F5.p:Ag:=⟨[(5,F5.q5),(17,F5.mH),(26,F5.mJ)],0,⟨[.st 7],[]⟩,⟨[.st 13,.fd (.int .i64),.fd (.int .i64)],[]⟩,false,[(1,⟨[(0,false),(1,false),(2,false),(3,false),(4,false),(5,true),(6,false),(7,true)],[1000002],[0,0,0,4,0,31,63,127],false⟩),(27,⟨[(0,true),(1,true),(2,true),(3,true),(4,false),(5,true),(6,true),(7,true),(8,false),(9,false),(10,true),(11,true)],[1000002],[0,0,2,6,14,0,32,96,224,1,543,2047],false⟩)],[]⟩
theorem F5.ok:AF Dop.D4 prog 42 F5.p=true:=by kernel_rfl
def m18.p:Ag:=⟨[],0,⟨[.fd .str],[]⟩,⟨[.st 13,.fd (.int .i64),.fd (.int .i64)],[]⟩,false,[],[]⟩
theorem m18.ok:AF Dop.D4 prog 18 m18.p=true:=by kernel_rfl
end Go.Proofs.Tryz
namespace Go.Proofs
open Go Go.En
abbrev ER:Type:=En.Dop.IF×List (Int)×Int×List (Int)×List (Int)×Int×Int×Int×Int×Unit×Unit
abbrev ER.p (k:ER):En.Dop.IF:=k.1
abbrev ER.mem (k:ER):List (Int):=k.2.1
abbrev ER.Yl (k:ER) (v:List (Int)):ER:=(k.1,v,k.2.2)
abbrev ER.sp (k:ER):Int:=k.2.2.1
abbrev ER.Yn (k:ER) (v:Int):ER:=(k.1,k.2.1,v,k.2.2.2)
abbrev ER.input (k:ER):List (Int):=k.2.2.2.1
abbrev ER.af (k:ER) (v:List (Int)):ER:=(k.1,k.2.1,k.2.2.1,v,k.2.2.2.2)
abbrev ER.out (k:ER):List (Int):=k.2.2.2.2.1
abbrev ER.jP (k:ER) (v:List (Int)):ER:=(k.1,k.2.1,k.2.2.1,k.2.2.2.1,v,k.2.2.2.2.2)
abbrev ER.fuel (k:ER):Int:=k.2.2.2.2.2.1
abbrev ER.eU (k:ER) (v:Int):ER:=(k.1,k.2.1,k.2.2.1,k.2.2.2.1,k.2.2.2.2.1,v,k.2.2.2.2.2.2)
abbrev ER.end_ (k:ER):Int:=k.2.2.2.2.2.2.1
abbrev ER.eS (k:ER) (v:Int):ER:=(k.1,k.2.1,k.2.2.1,k.2.2.2.1,k.2.2.2.2.1,k.2.2.2.2.2.1,v,k.2.2.2.2.2.2.2)
abbrev ER.code (k:ER):Int:=k.2.2.2.2.2.2.2.1
abbrev ER.eQ (k:ER) (v:Int):ER:=(k.1,k.2.1,k.2.2.1,k.2.2.2.1,k.2.2.2.2.1,k.2.2.2.2.2.1,k.2.2.2.2.2.2.1,v,k.2.2.2.2.2.2.2.2)
abbrev ER.b0:En.Ga:=⟨0,121,[.st 13,.own 0 3,.st 0,.fd (.sl 3),.own 3 5,.st 0,.st 0,.st 0,.st 0,.hm],false⟩
abbrev ER.b1:En.Ga:=⟨1,121,[.st 13,.own 0 3,.st 0,.fd (.sl 3),.own 3 5,.st 0,.st 0,.st 0,.st 0,.hm],false⟩
abbrev ER.b2:En.Ga:=⟨2,121,[.st 13,.own 0 3,.st 0,.fd (.sl 3),.own 3 5,.st 0,.st 0,.st 0,.st 0,.hm],false⟩
abbrev EF:Type:=En.Dop.Eh×List (Int)×Int×Int×List UInt8×Int×Int×Unit
abbrev EF.An (k:EF):List (Int):=k.2.1
abbrev EF.Ym (k:EF) (v:List (Int)):EF:=(k.1,v,k.2.2)
abbrev EF.base (k:EF):Int:=k.2.2.1
abbrev EF.told (k:EF):Int:=k.2.2.2.1
abbrev EF.Yo (k:EF) (v:Int):EF:=(k.1,k.2.1,k.2.2.1,v,k.2.2.2.2)
abbrev EF.mw (k:EF):List UInt8:=k.2.2.2.2.1
abbrev EF.jQ (k:EF) (v:List UInt8):EF:=(k.1,k.2.1,k.2.2.1,k.2.2.2.1,v,k.2.2.2.2.2)
abbrev EF.key (k:EF):Int:=k.2.2.2.2.2.1
abbrev EF.KX (k:EF):Int:=k.2.2.2.2.2.2.1
abbrev EF.P4 (k:EF) (v:Int):EF:=(k.1,k.2.1,k.2.2.1,k.2.2.2.1,k.2.2.2.2.1,k.2.2.2.2.2.1,v,k.2.2.2.2.2.2.2)
abbrev EF.b1:En.Ga:=⟨1,163,[.st 11,.own 0 3,.st 0,.st 0,.st 1,.st 0,.st 0],false⟩
abbrev EF.b2:En.Ga:=⟨2,163,[.st 11,.own 0 3,.st 0,.st 0,.st 1,.st 0,.st 0],false⟩
end Go.Proofs
set_option maxRecDepth 100000
set_option maxHeartbeats 4000000
namespace Go.Proofs.Tryz
open Go Go.En
def Xx.p:Ag:=⟨[],1,⟨[.st 11,.al 0 0],[⟨0,9,[.st 1],false⟩]⟩,⟨[.fd .bool],[⟨0,9,[.fd .str],false⟩]⟩,true,[],[]⟩
theorem Xx.ok:AF Dop.D4 prog 55 Xx.p=true:=by kernel_rfl
abbrev BK.q2:Cut:=⟨[[0,0,0,0,1,0,1],[0,1,0,0,1,0,1],[2,0,0,1,0,1],[1,0],[0,1,1]],[0,1,7,8],1,⟨[.fd (.sl 11),.fn 55 [(0,0)],.fd (.int .i64),.fd (.int .i64)],[⟨0,9,[.fd .str],false⟩]⟩⟩
def BK.p:Ag:=⟨[(2,BK.q2)],1,⟨[.fd (.sl 11),.fn 55 [(0,0)]],[⟨0,9,[.st 1],false⟩]⟩,⟨[.fd (.int .i64)],[⟨0,9,[.fd .str],false⟩]⟩,true,[],[]⟩
theorem BK.ok:AF Dop.D4 prog 54 BK.p=true:=by kernel_rfl
def S3.p:Ag:=⟨[],0,⟨[.st 13,.fd .str],[]⟩,⟨[.fd (.int .i64)],[]⟩,true,[],[]⟩
theorem S3.ok:AF Dop.D4 prog 25 S3.p=true:=by kernel_rfl
def Mz.p:Ag:=⟨[],1,⟨[.al 0 0,.fd (.int .i64),.fd (.int .i64)],[ER.b0]⟩,⟨[.fd (.int .i64)],[ER.b0]⟩,false,[],[]⟩
theorem Mz.ok:AF Dop.D4 prog 65 Mz.p=true:=by kernel_rfl
def Mr.p:Ag:=⟨[],0,⟨[.st 13,.fd (.int .i64)],[]⟩,⟨[.st 5],[]⟩,true,[],[]⟩
theorem Mr.ok:AF Dop.D4 prog 152 Mr.p=true:=by kernel_rfl
abbrev DK.q3:Cut:=⟨[[0,0,0,0,1,0,1,1],[0,1,0,0,1,0,1,1],[2,0,0,1,0,1,1],[1,0],[0,1,1,1]],[1,2,5,9,10],1,⟨[.fd (.int .i64),.al 0 0,.own 0 3,.fd (.int .i64),.fd (.int .i64)],[⟨0,27,[.st 13],false⟩]⟩⟩
def DK.p:Ag:=⟨[(3,DK.q3)],0,⟨[.st 13,.fd (.int .i64)],[]⟩,⟨[.own 0 3],[]⟩,true,[],[]⟩
theorem DK.ok:AF Dop.D4 prog 114 DK.p=true:=by kernel_rfl
abbrev DM.q9:Cut:=⟨[[0,0,0,1,1,1,0,1,0,1,1,1],[0,1,0,1,1,1,0,1,0,1,1,1],[1,0],[0,1,1,1,1]],[3,5,7],5,⟨[.al 2 0,.al 3 0,.al 4 0],[ER.b0,EF.b1,⟨2,118,[.al 0 0],false⟩,⟨3,161,[.al 1 0],false⟩,⟨4,56,[.st 5],false⟩]⟩⟩
abbrev DM.VW:Cut:=⟨[[0,0,1,1,1,1,0,1,0,1,1,1],[0,1,1,1,1,1,0,1,0,1,1,1],[1,0],[0,1,1,1,1]],[3,5,7,19],5,⟨[.al 2 0,.al 3 0,.al 4 0,.fd (.int .i64)],[ER.b0,EF.b1,⟨2,118,[.al 0 0],false⟩,⟨3,161,[.al 1 0],false⟩,⟨4,56,[.st 5],false⟩]⟩⟩
def DM.p:Ag:=⟨[(9,DM.q9),(10,DM.VW)],2,⟨[.al 0 0,.fd (.int .i64),.al 1 0],[ER.b0,EF.b1]⟩,⟨[.fd .bool],[ER.b0,EF.b1]⟩,false,[(6,⟨[(0,false),(1,true),(2,true),(3,false),(4,true),(5,true),(6,true),(7,false),(8,false),(9,true),(10,true),(11,false),(12,true),(13,true),(14,true),(15,false),(16,true),(17,false),(18,false),(19,false),(20,true),(21,true)],[2000003,2000005],[0,1,3,7,15,31,63,127,63,319,831,1855,4095,8191,16383,32767,32767,98303,32767,524287,1048575,2097151],false⟩),(9,⟨[(0,false),(1,true),(2,true),(3,false),(4,true),(5,true),(6,true),(7,false),(8,true),(9,true),(10,true),(11,true),(12,false),(13,false),(14,true),(15,true),(16,false),(17,true),(18,true),(19,true),(20,false),(21,true),(22,true),(23,false),(24,true),(25,true),(26,true),(27,false),(28,true),(29,true),(30,true),(31,true),(32,false),(33,true),(34,false),(35,false),(36,false),(37,true),(38,true)],[2000003,2000005],[0,1,3,7,15,31,63,127,255,511,1023,2047,4095,2047,10239,26623,59391,131071,262143,524287,1048575,2097151,4194303,8388607,16777215,33554431,67108863,134217727,268435455,536870911,1073741823,2147483647,4294967295,4294967295,12884901887,4294967295,68719476735,137438953471,274877906943],false⟩),(20,⟨[(0,false),(1,true),(2,true),(3,false),(4,true),(5,false),(6,false),(7,true),(8,false),(9,true)],[2000003,2000005],[0,1,3,7,0,16,63,0,255,511],true⟩)],[]⟩
theorem DM.ok:AF Dop.D4 prog 153 DM.p=true:=by kernel_rfl
def Bk.p:Ag:=⟨[],4,⟨[.own 0 3,.fn 184 [(0,0),(2,0)]],[⟨0,118,[.al 1 0],false⟩,ER.b1,⟨2,161,[.al 3 0],false⟩,⟨3,163,[.st 11,.own 0 3,.st 0,.st 0,.st 1,.st 0,.st 0],false⟩]⟩,⟨[.fd .bool],[⟨0,118,[.al 1 0],false⟩,ER.b1,⟨2,161,[.al 3 0],false⟩,⟨3,163,[.st 11,.own 0 3,.st 0,.st 0,.st 1,.st 0,.st 0],false⟩]⟩,false,[],[]⟩
theorem Bk.ok:AF Dop.D4 prog 183 Bk.p=true:=by kernel_rfl
abbrev BO.q2:Cut:=⟨[[0,0,0,0,1,0,1],[0,1,0,0,1,0,1],[2,0,0,1,0,1],[1,0],[0,1,1]],[0,1,7,8],4,⟨[.own 0 3,.fn 184 [(0,0),(2,0)],.fd (.int .i64),.fd (.int .i64)],[⟨0,118,[.al 1 0],false⟩,ER.b1,⟨2,161,[.al 3 0],false⟩,⟨3,163,[.st 11,.own 0 3,.st 0,.st 0,.st 1,.st 0,.st 0],false⟩]⟩⟩
def BO.p:Ag:=⟨[(2,BO.q2)],4,⟨[.own 0 3,.fn 184 [(0,0),(2,0)]],[⟨0,118,[.al 1 0],false⟩,ER.b1,⟨2,161,[.al 3 0],false⟩,⟨3,163,[.st 11,.own 0 3,.st 0,.st 0,.st 1,.st 0,.st 0],false⟩]⟩,⟨[.fd (.int .i64)],[⟨0,118,[.al 1 0],false⟩,ER.b1,⟨2,161,[.al 3 0],false⟩,⟨3,163,[.st 11,.own 0 3,.st 0,.st 0,.st 1,.st 0,.st 0],false⟩]⟩,false,[],[]⟩
theorem BO.ok:AF Dop.D4 prog 209 BO.p=true:=by kernel_rfl
def IH.p:Ag:=⟨[],4,⟨[.fd (.int .i64),.al 0 0,.al 2 0],[⟨0,118,[.al 1 0],false⟩,ER.b1,⟨2,161,[.al 3 0],false⟩,⟨3,163,[.st 11,.own 0 3,.st 0,.st 0,.st 1,.st 0,.st 0],false⟩]⟩,⟨[.fd .bool],[⟨0,118,[.al 1 0],false⟩,ER.b1,⟨2,161,[.al 3 0],false⟩,⟨3,163,[.st 11,.own 0 3,.st 0,.st 0,.st 1,.st 0,.st 0],false⟩]⟩,false,[],[]⟩
theorem IH.ok:AF Dop.D4 prog 184 IH.p=true:=by kernel_rfl
abbrev EN.T:Type:=(((Unit×Int×Unit×Unit)×(ER×EF×Unit))->Option ((Bool×Unit)×(ER×EF×Unit)))×(((List Int×Unit×Unit)×((Unit×Unit)×ER×(Unit×Unit)×EF×Unit))->Option ((Bool×Unit)×((Unit×Unit)×ER×(Unit×Unit)×EF×Unit)))×(((List Int×Unit×Unit)×((Unit×Unit)×ER×(Unit×Unit)×EF×Unit))->Option ((Int×Unit)×((Unit×Unit)×ER×(Unit×Unit)×EF×Unit)))×(((Int×Unit×Unit×Unit)×((Unit×Unit)×ER×(Unit×Unit)×EF×Unit))->Option ((Bool×Unit)×((Unit×Unit)×ER×(Unit×Unit)×EF×Unit)))×Unit
noncomputable def EN.ct (r:EN.T):List (Bw Dop.D4):=[⟨153,DM.p.bn,DM.p.sp,DM.p.rs,DM.p.flat,.opt (r.1)⟩,⟨183,Bk.p.bn,Bk.p.sp,Bk.p.rs,Bk.p.flat,.opt (r.2.1)⟩,⟨209,BO.p.bn,BO.p.sp,BO.p.rs,BO.p.flat,.opt (r.2.2.1)⟩,⟨184,IH.p.bn,IH.p.sp,IH.p.rs,IH.p.flat,.opt (r.2.2.2.1)⟩]
def FK.p:Ag:=⟨[],1,⟨[.al 0 0],[ER.b0]⟩,⟨[.fd .bool],[ER.b0]⟩,false,[],[]⟩
theorem FK.ok:AF Dop.D4 prog 117 FK.p=true:=by kernel_rfl
def Ey.p:Ag:=⟨[],0,⟨[.fd (.int .i64)],[]⟩,⟨[.fd (.int .i64)],[]⟩,true,[],[]⟩
theorem Ey.ok:AF Dop.D4 prog 255 Ey.p=true:=by kernel_rfl
def Dg.p:Ag:=⟨[],0,⟨[.fd (.int .i64)],[]⟩,⟨[.fd (.int .i64),.fd .bool],[]⟩,true,[],[]⟩
theorem Dg.ok:AF Dop.D4 prog 256 Dg.p=true:=by kernel_rfl
abbrev DY.q3:Cut:=⟨[[0,0,1,2,0,1],[0,1,1,2,0,1],[3,0,1]],[],0,⟨[],[]⟩⟩
def DY.p:Ag:=⟨[(3,DY.q3)],0,⟨[.fd (.int .i64),.fd (.int .i64)],[]⟩,⟨[.fd (.int .i64),.fd (.int .i64),.fd .bool],[]⟩,true,[(2,⟨[(0,true),(1,true),(2,true),(3,true),(4,true),(5,true),(6,true),(7,true),(8,true)],[],[0,0,3,0,0,24,7,127,255],false⟩)],[]⟩
theorem DY.ok:AF Dop.D4 prog 257 DY.p=true:=by kernel_rfl
def Hg.p:Ag:=⟨[],0,⟨[.fd .bool],[]⟩,⟨[.fd (.int .i64)],[]⟩,true,[],[]⟩
theorem Hg.ok:AF Dop.D4 prog 258 Hg.p=true:=by kernel_rfl
abbrev BJ.mG:Cut:=⟨[[0,0,0,1,1,1,1,1,1,1,0,1,0,1,1,1],[0,1,0,1,1,1,1,1,1,1,0,1,0,1,1,1],[1,0],[0,1,1,1,1]],[0,1,2],0,⟨[.fd (.int .i64),.fd (.int .i64),.fd (.int .i64)],[]⟩⟩
abbrev BJ.bg:Cut:=⟨[[0,0,0,1,1,1,1,1,1,1,1,0,1,0,1,1,1],[0,1,0,1,1,1,1,1,1,1,1,0,1,0,1,1,1],[0,1,1,1,1,1,1,1,1,1,0,1,0,1,1,1],[1,0],[0,1,1,1,1]],[0,1,2,8,19],0,⟨[.fd (.int .i64),.fd (.int .i64),.fd (.int .i64),.fn 256 [],.fd (.int .i64)],[]⟩⟩
abbrev BJ.bf:Cut:=⟨[[0,0,1,1,0,1,1,1,1,1,1,1,0,1,0,1,1,1],[0,1,1,1,0,1,1,1,1,1,1,1,0,1,0,1,1,1],[1,0],[0,1,1,1,1]],[9,11],0,⟨[.fd (.int .i64),.fd .bool],[]⟩⟩
abbrev BJ.jE:Cut:=⟨[[0,0,0,1,1,1,1,1,1,1,1,1,0,1,0,1,1,1],[0,1,0,1,1,1,1,1,1,1,1,1,0,1,0,1,1,1],[1,0],[0,1,1,1,1]],[0,1,2],0,⟨[.fd (.int .i64),.fd (.int .i64),.fd (.int .i64)],[]⟩⟩
abbrev BJ.jG:Cut:=⟨[[0,0,1,1,1,1,1,1,1,1,1,1,0,1,0,1,1,1],[0,1,1,1,1,1,1,1,1,1,1,1,0,1,0,1,1,1],[1,0],[0,1,1,1,1]],[1,2,8,19],0,⟨[.fd (.int .i64),.fd (.int .i64),.fn 256 [],.fd (.int .i64)],[]⟩⟩
abbrev BJ.jF:Cut:=⟨[[0,0,1,1,0,1,1,1,1,1,1,1,1,1,0,1,0,1,1,1],[0,1,1,1,0,1,1,1,1,1,1,1,1,1,0,1,0,1,1,1],[1,0],[0,1,1,1,1]],[12,14],0,⟨[.fd (.int .i64),.fd .bool],[]⟩⟩
def BJ.p:Ag:=⟨[(12,BJ.mG),(16,BJ.bg),(15,BJ.bf),(18,BJ.jE),(22,BJ.jG),(21,BJ.jF)],0,⟨[.fd (.int .i64),.fd (.int .i64),.fd (.int .i64)],[]⟩,⟨[.fd (.int .i64),.fd .bool],[]⟩,true,[],[]⟩
theorem BJ.ok:AF Dop.D4 prog 236 BJ.p=true:=by kernel_rfl
def Jg.p:Ag:=⟨[],0,⟨[.fd .bool],[]⟩,⟨[.fd (.int .i64)],[]⟩,true,[],[]⟩
theorem Jg.ok:AF Dop.D4 prog 213 Jg.p=true:=by kernel_rfl
abbrev IU.q4:Cut:=⟨[[0,0,0,0,1,0,1,1],[0,1,0,0,1,0,1,1],[2,0,0,1,0,1,1],[1,0],[0,1,1,1]],[0,1,12,13],0,⟨[.fd (.sl 3),.fd (.sl 3),.fd (.int .i64),.fd (.int .i64)],[]⟩⟩
def IU.p:Ag:=⟨[(4,IU.q4)],0,⟨[.fd (.sl 3),.fd (.sl 3)],[]⟩,⟨[.fd .bool],[]⟩,true,[(6,⟨[(0,true),(1,true),(2,false),(3,false),(4,true),(5,true),(6,false),(7,false),(8,true)],[],[0,0,3,7,0,0,48,112,255],false⟩)],[]⟩
theorem IU.ok:AF Dop.D4 prog 63 IU.p=true:=by kernel_rfl
def Ru.p:Ag:=⟨[],0,⟨[.st 19,.st 19],[]⟩,⟨[.fd .bool],[]⟩,true,[],[]⟩
theorem Ru.ok:AF Dop.D4 prog 34 Ru.p=true:=by kernel_rfl
end Go.Proofs.Tryz
set_option maxRecDepth 100000
set_option maxHeartbeats 4000000
namespace Go.Proofs.Tryz
open Go Go.En
abbrev m64.q9:Cut:=⟨[[0,0,0,1,1,1,1,1,1,1,0,1],[0,1,0,1,1,1,1,1,1,1,0,1],[0,1,1,1,1,1,1,1,1,0,1],[3,0,1]],[0,7,8],3,⟨[.al 0 0,.al 1 0,.al 2 0],[ER.b0,⟨1,52,[.st 11],false⟩,EF.b2]⟩⟩
abbrev m64.UX:Cut:=⟨[[0,0,0,1,2,0,1],[0,1,0,1,2,0,1],[0,1,1,2,0,1],[3,0,1]],[0,7,8],3,⟨[.al 0 0,.al 1 0,.al 2 0],[ER.b0,⟨1,52,[.st 11],false⟩,EF.b2]⟩⟩
def m64.p:Ag:=⟨[(9,m64.q9),(100009,m64.UX)],1,⟨[.al 0 0,.fd (.int .i64),.fd (.sl 0)],[ER.b0]⟩,⟨[.fd (.int .i64)],[ER.b0]⟩,false,[(4,⟨[(0,true),(1,true),(2,true),(3,false),(4,true),(5,false),(6,true),(7,true),(8,true),(9,true),(10,false),(11,false),(12,true)],[],[0,1,3,7,0,16,63,0,128,384,896,1920,4095],false⟩),(6,⟨[(0,false),(1,true),(2,false),(3,false),(4,true),(5,true),(6,true),(7,false),(8,true),(9,false),(10,true)],[],[0,0,2,6,0,16,48,112,255,511,1023],false⟩),(8,⟨[(0,true),(1,true),(2,true),(3,false),(4,true),(5,false),(6,true),(7,true),(8,true)],[9],[0,1,3,7,0,16,63,127,255,511],false⟩),(11,⟨[(0,true),(1,true),(2,true),(3,false),(4,true),(5,false),(6,true),(7,true),(8,true)],[9],[0,1,3,7,0,16,63,127,255,511],false⟩)],[]⟩
theorem m64.ok:AF Dop.D4 prog 64 m64.p=true:=by kernel_rfl
def Cn.p:Ag:=⟨[],2,⟨[.al 0 0,.fd (.int .i64),.al 1 0],[ER.b0,EF.b1]⟩,⟨[.fd (.int .i64)],[ER.b0,EF.b1]⟩,false,[],[]⟩
theorem Cn.ok:AF Dop.D4 prog 116 Cn.p=true:=by kernel_rfl
abbrev BH.jE:Cut:=⟨[[0,0,1,1,1,1,1,1,0,1,0,1],[0,1,1,1,1,1,1,1,0,1,0,1],[1,0],[0,1,1]],[0,2,4,11],3,⟨[.al 0 0,.al 1 0,.al 2 0,.fd (.int .i64)],[ER.b0,EF.b1,⟨2,56,[.st 5],false⟩]⟩⟩
abbrev BH.mO:Cut:=⟨[[0,0,0,0,1,1,1,1,1,1,1,1,1,1,1,1,1,1,1,1,1,0,1,0,1],[0,1,0,0,1,1,1,1,1,1,1,1,1,1,1,1,1,1,1,1,1,0,1,0,1],[0,1,0,1,1,1,1,1,1,1,1,1,1,1,1,1,1,1,1,1,0,1,0,1],[1,0],[0,1,1]],[0,2,4],3,⟨[.al 0 0,.al 1 0,.al 2 0],[ER.b0,EF.b1,⟨2,56,[.st 5],false⟩]⟩⟩
abbrev BH.mP:Cut:=⟨[[0,0,1,1,1,1,1,1,1,1,1,1,1,1,1,1,1,1,1,1,0,1,0,1],[0,1,1,1,1,1,1,1,1,1,1,1,1,1,1,1,1,1,1,1,0,1,0,1],[1,0],[0,1,1]],[0,2,4,11],3,⟨[.al 0 0,.al 1 0,.al 2 0,.fd (.int .i64)],[ER.b0,EF.b1,⟨2,56,[.st 5],false⟩]⟩⟩
abbrev BH.mS:Cut:=⟨[[0,0,0,0,1,0,1,1,1,1,1,1,1,1,1,1,1,1,1,1,1,1,1,1,1,1,1,0,1,0,1],[0,1,0,0,1,0,1,1,1,1,1,1,1,1,1,1,1,1,1,1,1,1,1,1,1,1,1,0,1,0,1],[2,0,0,1,0,1,1,1,1,1,1,1,1,1,1,1,1,1,1,1,1,1,1,1,1,1,0,1,0,1],[1,1],[1,0],[0,1,1]],[0,2,182,183,184],2,⟨[.al 0 0,.al 1 0,.own 0 3,.fd (.int .i64),.fd (.int .i64)],[ER.b0,EF.b1]⟩⟩
def BH.p:Ag:=⟨[(18,BH.jE),(35,BH.mO),(38,BH.mP),(42,BH.mS)],2,⟨[.al 0 0,.st 5,.al 1 0],[ER.b0,EF.b1]⟩,⟨[.fd (.int .i64)],[ER.b0,EF.b1]⟩,false,[(30,⟨[(0,true),(1,true),(2,true),(3,false),(4,true),(5,true),(6,true),(7,true),(8,true),(9,false),(10,true),(11,false),(12,true),(13,true)],[],[0,1,3,7,15,31,63,127,255,511,63,1087,4095,8191],false⟩),(35,⟨[(0,true),(1,true),(2,true),(3,false),(4,true),(5,true),(6,true),(7,false),(8,true),(9,true),(10,true),(11,true),(12,false),(13,true),(14,true),(15,true),(16,false),(17,true),(18,true),(19,true),(20,true),(21,true),(22,true),(23,false),(24,true),(25,true),(26,true),(27,false),(28,true),(29,true),(30,true)],[],[0,1,3,7,15,31,63,127,255,511,1023,2047,4095,2047,10239,26623,59391,131071,262143,524287,1048575,2097151,4194303,8388607,16777215,33554431,67108863,134217727,268435455,536870911,1073741823],false⟩),(41,⟨[(0,true),(1,true),(2,true),(3,false),(4,true),(5,false),(6,false),(7,false),(8,true)],[],[0,1,3,7,0,16,63,127,0],true⟩)],[]⟩
theorem BH.ok:AF Dop.D4 prog 154 BH.p=true:=by kernel_rfl
abbrev BD.bf:Cut:=⟨[[0,0,1,1,1,1,1,1,1,1,0,1,0,1,1,1,1],[0,1,1,1,1,1,1,1,1,1,0,1,0,1,1,1,1],[1,0],[0,1,1,1,1,1]],[3,5,7,8,28],5,⟨[.al 2 0,.al 3 0,.al 4 0,.fn 210 [(2,0),(3,0)],.fd (.int .i64)],[ER.b0,EF.b1,⟨2,118,[.al 0 0],false⟩,⟨3,161,[.al 1 0],false⟩,⟨4,56,[.st 5],false⟩]⟩⟩
abbrev BD.jH:Cut:=⟨[[0,0,1,1,1,1,1,1,1,1,1,1,1,1,0,1,0,1,1,1,1],[0,1,1,1,1,1,1,1,1,1,1,1,1,1,0,1,0,1,1,1,1],[1,0],[0,1,1,1,1,1]],[3,7,8,28],5,⟨[.al 2 0,.al 3 0,.fn 210 [(2,0),(4,0)],.fd (.int .i64)],[ER.b0,EF.b1,⟨2,118,[.al 0 0],false⟩,⟨3,56,[.st 5],false⟩,⟨4,161,[.al 1 0],false⟩]⟩⟩
abbrev BD.mN:Cut:=⟨[[0,0,0,0,1,0,1,0,1,1,1,1,1,1,1,1,1,1,1,1,1,1,1,1,1,1,1,0,1,0,1,1,1,1],[0,1,0,0,1,0,1,0,1,1,1,1,1,1,1,1,1,1,1,1,1,1,1,1,1,1,1,0,1,0,1,1,1,1],[2,0,0,1,0,1,0,1,1,1,1,1,1,1,1,1,1,1,1,1,1,1,1,1,1,1,0,1,0,1,1,1,1],[1,1],[0,1,1,0,1,1,1,1,1,1,1,1,1,1,1,1,1,1,1,1,1,1,1,0,1,0,1,1,1,1],[1,0],[0,1,1,1,1,1]],[3,7,8,10,140,141,142],5,⟨[.al 2 0,.al 3 0,.fn 210 [(2,0),(4,0)],.own 0 3,.own 0 3,.fd (.int .i64),.fd (.int .i64)],[ER.b0,EF.b1,⟨2,118,[.al 0 0],false⟩,⟨3,56,[.st 5],false⟩,⟨4,161,[.al 1 0],false⟩]⟩⟩
def BD.p:Ag:=⟨[(15,BD.bf),(23,BD.jH),(34,BD.mN)],2,⟨[.al 0 0,.fd (.int .i64),.al 1 0],[ER.b0,EF.b1]⟩,⟨[.fd (.int .i64)],[ER.b0,EF.b1]⟩,false,[(9,⟨[(0,false),(1,true),(2,true),(3,false),(4,true),(5,false),(6,false),(7,false),(8,true)],[],[0,1,3,7,0,16,63,127,255],false⟩),(11,⟨[(0,false),(1,true),(2,true),(3,false),(4,true),(5,false),(6,true),(7,false),(8,true)],[],[0,1,3,7,0,16,63,127,255],false⟩),(18,⟨[(0,false),(1,true),(2,true),(3,false),(4,true),(5,false),(6,true),(7,false)],[8],[0,1,3,7,0,16,0,127,255],false⟩),(33,⟨[(0,false),(1,true),(2,true),(3,false),(4,true),(5,false),(6,false),(7,false),(8,true)],[],[0,1,3,7,0,16,63,127,0],true⟩),(38,⟨[(0,false),(1,false),(2,true),(3,true),(4,false),(5,true),(6,false),(7,false),(8,true),(9,false),(10,true)],[2000003,9000000],[0,0,2,6,14,0,32,126,0,511,1023],true⟩),(43,⟨[(0,false),(1,false),(2,true),(3,true),(4,false),(5,true),(6,true),(7,true)],[8],[0,0,2,6,14,30,63,127,255],false⟩),(48,⟨[(0,false),(1,false),(2,true),(3,true),(4,false),(5,true),(6,true),(7,false),(8,false),(9,true),(10,true)],[11],[0,0,2,6,14,0,32,96,254,511,1023,2047],false⟩)],[]⟩
theorem BD.ok:AF Dop.D4 prog 185 BD.p=true:=by kernel_rfl
def II.p:Ag:=⟨[],2,⟨[.al 0 0,.st 5,.al 1 0],[ER.b0,EF.b1]⟩,⟨[.fd (.int .i64)],[ER.b0,EF.b1]⟩,false,[],[(235,[])]⟩
theorem II.ok:AF Dop.D4 prog 211 II.p=true:=by kernel_rfl
def ES.p:Ag:=⟨[],4,⟨[.fd (.int .i64),.al 0 0,.al 2 0],[⟨0,118,[.al 1 0],false⟩,ER.b1,⟨2,161,[.al 3 0],false⟩,⟨3,163,[.st 11,.own 0 3,.st 0,.st 0,.st 1,.st 0,.st 0],false⟩]⟩,⟨[.fd (.int .i64)],[⟨0,118,[.al 1 0],false⟩,ER.b1,⟨2,161,[.al 3 0],false⟩,⟨3,163,[.st 11,.own 0 3,.st 0,.st 0,.st 1,.st 0,.st 0],false⟩]⟩,false,[],[]⟩
theorem ES.ok:AF Dop.D4 prog 210 ES.p=true:=by kernel_rfl
def Fz.p:Ag:=⟨[],2,⟨[.al 0 0,.st 5,.al 1 0],[ER.b0,EF.b1]⟩,⟨[.fd (.int .i64)],[ER.b0,EF.b1]⟩,false,[],[]⟩
theorem Fz.ok:AF Dop.D4 prog 212 Fz.p=true:=by kernel_rfl
abbrev BW.q6:Cut:=⟨[[0,0,1,1,1],[0,1,1,1,1]],[0,2,4,7],3,⟨[.al 0 0,.al 1 0,.al 2 0,.fd (.int .i64)],[ER.b0,EF.b1,⟨2,56,[.st 5],false⟩]⟩⟩
abbrev BW.q7:Cut:=⟨[[0,0,0,0,0,1,1,1,1],[0,1,0,0,0,1,1,1,1],[1,1],[2,0,0,1,1,1,1],[1,0]],[0,2,4,7,8],3,⟨[.al 0 0,.al 1 0,.al 2 0,.fd (.int .i64),.fd .bool],[ER.b0,EF.b1,⟨2,56,[.st 5],false⟩]⟩⟩
abbrev BW.VW:Cut:=⟨[[0,0,0,1,1,0,0,0,1,1,1,1],[0,1,0,1,1,0,0,0,1,1,1,1],[0,1,1,1,0,0,0,1,1,1,1],[1,1],[2,0,0,1,1,1,1],[1,0]],[0,2,4,7,8,9],3,⟨[.al 0 0,.al 1 0,.al 2 0,.fd (.int .i64),.fd .bool,.fd (.int .i64)],[ER.b0,EF.b1,⟨2,56,[.st 5],false⟩]⟩⟩
abbrev BW.jG:Cut:=⟨[[0,0,0,1,1,1,0,1,1,0,1,1,1,1,1,0,0,0,1,1,1,1],[0,1,0,1,1,1,0,1,1,0,1,1,1,1,1,0,0,0,1,1,1,1],[1,2],[0,1,1,1,1,1,1,0,0,0,1,1,1,1],[1,1],[2,0,0,1,1,1,1],[1,0]],[10],2,⟨[.fd (.int .i64)],[ER.b0,EF.b1]⟩⟩
abbrev BW.jH:Cut:=⟨[[0,0,0,1,1,1,1,1,1,0,0,0,1,1,1,1],[0,1,0,1,1,1,1,1,1,0,0,0,1,1,1,1],[0,1,1,1,1,1,1,1,0,0,0,1,1,1,1],[1,1],[2,0,0,1,1,1,1],[1,0]],[0,2,4,7,8],3,⟨[.al 0 0,.al 1 0,.al 2 0,.fd (.int .i64),.fd .bool],[ER.b0,EF.b1,⟨2,56,[.st 5],false⟩]⟩⟩
abbrev BW.mI:Cut:=⟨[[0,0,1,1,1,1,1,1,1,0,0,0,1,1,1,1],[0,1,1,1,1,1,1,1,1,0,0,0,1,1,1,1],[1,1],[2,0,0,1,1,1,1],[1,0]],[0,2,4,7,8],3,⟨[.al 0 0,.al 1 0,.al 2 0,.fd (.int .i64),.fd .bool],[ER.b0,EF.b1,⟨2,56,[.st 5],false⟩]⟩⟩
def BW.p:Ag:=⟨[(6,BW.q6),(7,BW.q7),(10,BW.VW),(22,BW.jG),(23,BW.jH),(25,BW.mI)],2,⟨[.al 0 0,.st 5,.al 1 0],[ER.b0,EF.b1]⟩,⟨[.fd (.int .i64)],[ER.b0,EF.b1]⟩,false,[],[]⟩
theorem BW.ok:AF Dop.D4 prog 186 BW.p=true:=by kernel_rfl
def HC.p:Ag:=⟨[],2,⟨[.al 0 0,.st 5,.al 1 0],[ER.b0,EF.b1]⟩,⟨[.fd (.int .i64)],[ER.b0,EF.b1]⟩,false,[],[]⟩
theorem HC.ok:AF Dop.D4 prog 187 HC.p=true:=by kernel_rfl
abbrev Bd.T:Type:=(((Unit×Int×List Int×Unit)×(ER×Unit))->Option ((Int×Unit)×(ER×Unit)))×(((Unit×Int×Unit×Unit)×(ER×EF×Unit))->Option ((Int×Unit)×(ER×EF×Unit)))×(((Unit×Dop.AU×Unit×Unit)×(ER×EF×Unit))->Option ((Int×Unit)×(ER×EF×Unit)))×(((Unit×Int×Unit×Unit)×(ER×EF×Unit))->Option ((Int×Unit)×(ER×EF×Unit)))×(((Unit×Dop.AU×Unit×Unit)×(ER×EF×Unit))->Option ((Int×Unit)×(ER×EF×Unit)))×(((Int×Unit×Unit×Unit)×((Unit×Unit)×ER×(Unit×Unit)×EF×Unit))->Option ((Int×Unit)×((Unit×Unit)×ER×(Unit×Unit)×EF×Unit)))×(((Unit×Dop.AU×Unit×Unit)×(ER×EF×Unit))->Option ((Int×Unit)×(ER×EF×Unit)))×(((Unit×Dop.AU×Unit×Unit)×(ER×EF×Unit))->Option ((Int×Unit)×(ER×EF×Unit)))×(((Unit×Dop.AU×Unit×Unit)×(ER×EF×Unit))->Option ((Int×Unit)×(ER×EF×Unit)))×Unit
noncomputable def Bd.ct (r:Bd.T):List (Bw Dop.D4):=[⟨64,m64.p.bn,m64.p.sp,m64.p.rs,m64.p.flat,.opt (r.1)⟩,⟨116,Cn.p.bn,Cn.p.sp,Cn.p.rs,Cn.p.flat,.opt (r.2.1)⟩,⟨154,BH.p.bn,BH.p.sp,BH.p.rs,BH.p.flat,.opt (r.2.2.1)⟩,⟨185,BD.p.bn,BD.p.sp,BD.p.rs,BD.p.flat,.opt (r.2.2.2.1)⟩,⟨211,II.p.bn,II.p.sp,II.p.rs,II.p.flat,.opt (r.2.2.2.2.1)⟩,⟨210,ES.p.bn,ES.p.sp,ES.p.rs,ES.p.flat,.opt (r.2.2.2.2.2.1)⟩,⟨212,Fz.p.bn,Fz.p.sp,Fz.p.rs,Fz.p.flat,.opt (r.2.2.2.2.2.2.1)⟩,⟨186,BW.p.bn,BW.p.sp,BW.p.rs,BW.p.flat,.opt (r.2.2.2.2.2.2.2.1)⟩,⟨187,HC.p.bn,HC.p.sp,HC.p.rs,HC.p.flat,.opt (r.2.2.2.2.2.2.2.2.1)⟩]
abbrev Gr.q3:Cut:=⟨[[0,0,0,0,1,0,1,1],[0,1,0,0,1,0,1,1],[2,0,0,1,0,1,1],[1,0],[0,1,1,1]],[3,6,7,22,23,24],3,⟨[.al 0 0,.al 1 0,.al 2 0,.fd (.sl 12),.fd (.int .i64),.fd (.int .i64)],[⟨0,27,[.st 13],false⟩,⟨1,61,[.fd (.int .i64),.fd (.int .i64),.own 3 5],false⟩,ER.b2]⟩⟩
def Gr.p:Ag:=⟨[(3,Gr.q3)],0,⟨[.st 13,.fd (.sl 3),.fd (.int .i64)],[]⟩,⟨[.st 19],[]⟩,false,[(1,⟨[(0,false),(1,false),(2,true),(3,false),(4,true),(5,true),(6,true),(7,true),(8,true),(9,false),(10,true)],[],[0,0,0,4,0,0,32,96,255,511,1023],false⟩),(5,⟨[(0,true),(1,true),(2,true),(3,false),(4,true),(5,false),(6,true),(7,false),(8,false)],[9],[0,1,3,7,0,16,0,64,255,511],false⟩),(10,⟨[(0,true),(1,true),(2,true),(3,false),(4,true),(5,true),(6,true),(7,false),(8,true),(9,true),(10,true),(11,false),(12,true)],[13],[0,1,3,7,0,16,48,112,0,256,768,1792,4095,8191],false⟩)],[]⟩
theorem Gr.ok:AF Dop.D4 prog 36 Gr.p=true:=by kernel_rfl
end Go.Proofs.Tryz
set_option maxRecDepth 100000
set_option maxHeartbeats 4000000
namespace Go.Proofs.Tryz
open Go Go.En
def Rt.p:Ag:=⟨[],0,⟨[.fd .str,.fd (.sl 3),.fd (.int .i64)],[]⟩,⟨[.st 19,.fd (.int .i64)],[]⟩,false,[],[]⟩
theorem Rt.ok:AF Dop.D4 prog 30 Rt.p=true:=by kernel_rfl
def Xw.p:Ag:=⟨[],0,⟨[],[]⟩,⟨[.fd .bool],[]⟩,true,[],[]⟩
theorem Xw.ok:AF Dop.D4 prog 29 Xw.p=true:=by kernel_rfl
end Go.Proofs.Tryz
