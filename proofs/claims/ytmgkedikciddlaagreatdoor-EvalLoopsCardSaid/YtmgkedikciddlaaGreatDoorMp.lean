/- States by patterns, operation by operation: for a piece of a function that is gone through by hand. -/
import Derived.Test.YtmgkedikciddlaaGreatDoorMo
import Derived.Maps.RangeRun
import Derived.Test.YtmgkedikciddlaaGreatDoorMm
set_option linter.all false
namespace Go.En
open Go.RowKit
section
variable {S:At} {P:Program} {w0:World} {F D0 D:Nat->Prop} {N:Nat->Prop} {β:Nat->Nm} {a:Act} {w:World}
theorem Ze {tb:List (Nat×TI)} (htb:AY S P tb) {s s':St S} (hg:G w0 F D0 D s N β a w) {all:Array Oper} {o:Oper} {r:List Oper} {Q:Exit->Act->World->Prop} (hgd:o.guard=none) {c:Option Bool} {x:SV} (he:evalOp tb s o.op=.val c x) (hc:CW c) (hp:s.put o.dst x=some s')
  (hQ: ∀ a',G w0 F D0 D s' N β a' w->wpList P all Q r a' w):wpList P all Q (o::r) a w:=by
 have h:=Bc htb hg o
 rw [he] at h
 obtain ⟨h1,h2⟩:=h hc
 unfold wpList
 rw [if_pos (by simp [Region.wanted,hgd])]
 exact .inl (As h1 (hQ _ (hg.put h2 hp)))
def HN (q:Spec) (ts:List Nat) (k bn:Nat) (s:St S):Option (q.D S×List (Nat×Nat)):=match GF s ts with
 | some us=>match q.parse true us s.o (RO k) bn with
  | some (y,ps)=>some (y,ps.m)
  | none=>none
 | none=>none
structure HX (S:At) (w0:World) (F D0:Nat->Prop) (q:Spec) (ts:List Nat) (bn:Nat) (β1:Nat->Nm) (sz:Nat) (y:q.D S) (r:Nat) (ob:Obj) (a:Act) (W:World):Prop where
 st: ∃ D β vs o n,q.enc y bn=(vs,o,n)/\(∀ i,i<bn->β i=β1 i)/\GH w0 F D0 D o (· <n) β W/\BW (· <n) vs/\bn<=n/\(∀ (j:Nat) t v,ts[j]?=some t->vs[j]?=some v->t<sz/\a.tmps.getD t undef=v.den β)/\(∀ i b,lk o i=some b->¬ (β i).has r)/\¬ D r
 sz:a.tmps.size=sz
 df:a.defers=[]
 it:W.heap[r]?=some ob
theorem HX.g {q:Spec} {ts:List Nat} {bn sz r:Nat} {β1:Nat->Nm} {y:q.D S} {ob:Obj} (h:HX S w0 F D0 q ts bn β1 sz y r ob a w):
  ∃ D β vs o n,q.enc y bn=(vs,o,n)/\(∀ i,i<bn->β i=β1 i)/\bn<=n/\G w0 F D0 D ⟨ts.zip vs,o,n,sz⟩ (· <n) β a w/\(∀ i b,lk o i=some b->¬ (β i).has r)/\¬ D r:=by
 obtain ⟨⟨D,β,vs,o,n,he,hβ,hg,hon,hbn,hts,h1,h2⟩,hsz,hd,hit⟩:=h
 refine ⟨D,β,vs,o,n,he,hβ,hbn,⟨hd,hsz,fun t v ht=>?_,fun t v ht=>?_,hg⟩,h1,h2⟩
 ·obtain ⟨j,j1,j2⟩:=G5 ht
  exact ⟨(hts j t v j1 j2).1,A8.1 hon v (List.mem_of_getElem? j2)⟩
 ·obtain ⟨j,j1,j2⟩:=G5 ht
  exact (hts j t v j1 j2).2
theorem GH.clear {W w':World} {D D':Nat->Prop} {o o':List (Nat×Own S)} {N':Nat->Prop} {β β':Nat->Nm} (k:GH W (AK o β) D D' o' N' β' w') {r:Nat} (hr:r<W.heap.size) (h1: ∀ i b,lk o i=some b->¬ (β i).has r) (h2:¬ D r):
  (∀ i b,lk o' i=some b->¬ (β' i).has r)/\¬ D' r/\w'.heap[r]?=W.heap[r]?:=by
 have hb:¬ AK o β r:=fun ⟨i,b,hi,hk⟩=>h1 i b hi hk
 refine ⟨fun i b hi hk=>?_,fun hd=>?_,k.fr.block r hr hb⟩
 ·rcases k.fresh i b r hi hk with h|h
  ·omega
  ·exact hb h
 ·rcases k.KQ r hd with h|h|h
  ·exact h2 h
  ·exact hb h
  ·omega
theorem G.hx {q:Spec} {ts:List Nat} {k bn n r:Nat} {y:q.D S} {m:List (Nat×Nat)} {s:St S} {ob:Obj} (hg:G w0 F D0 D s (· <n) β a w) (hk:k<=bn) (hl:HN q ts k bn s=some (y,m)) (hq:q.okB bn=true)
  (h1: ∀ i b,lk s.o i=some b->¬ (β i).has r) (h2:¬ D r) (hit:w.heap[r]?=some ob):
  ∃ β1:Nat->Nm,(∀ i,i<k->β1 i=β i)/\(∀ i,i<bn-> ∀ j,lk m i=some j->β1 i=β j)/\HX S w0 F D0 q ts bn β1 s.sz y r ob a w:=by
 unfold HN at hl
 split at hl
 case h_2=>cases hl
 rename_i us hus
 split at hl
 case h_2=>cases hl
 rename_i y' ps hp
 cases hl
 have hr:r<w.heap.size:=(Array.getElem?_eq_some_iff.1 hit).1
 rcases he2:q.enc y bn with ⟨vs',o',n'⟩
 obtain ⟨β'',b1,b2,b3,b4,b5,_,_,b8,_⟩:=Spec.CA hg.gh.base hp hq he2
 obtain ⟨t1,t2,t3⟩:=FQ hg hus
 have hlv:vs'.length=us.length:=by have:=congrArg List.length b3;rw [AG,AG] at this;exact this.symm
 obtain ⟨c1,c2,c3⟩:=GH.clear b2 hr h1 h2
 refine ⟨β'',fun i hi=>b1 i (Nat.lt_of_lt_of_le hi hk) i (b8 i i (G4 hi)),b1,⟨⟨_,β'',vs',o',n',he2,fun i hi=>rfl,hg.gh.comp b2,b4,b5,fun j t v hj hv=>?_,c1,c2⟩,hg.size,hg.defers,hit⟩⟩
 have hju:j<us.length:=by rw [<-hlv];exact (List.getElem?_eq_some_iff.1 hv).1
 obtain ⟨t4,t5⟩:=t3 j t _ hj (List.getElem?_eq_getElem hju)
 refine ⟨t4,?_⟩
 rw [t5]
 have h6:=congrArg (fun l:List Value=>l[j]?) b3
 simp only [B6,List.getElem?_eq_getElem hju,hv,Option.map_some,Option.some.injEq] at h6
 exact h6
theorem HX.re {q:Spec} {ts:List Nat} {bn sz r:Nat} {β1 β2:Nat->Nm} {y:q.D S} {ob:Obj} (h:HX S w0 F D0 q ts bn β1 sz y r ob a w) (he: ∀ i,i<bn->β1 i=β2 i):HX S w0 F D0 q ts bn β2 sz y r ob a w:=by
 obtain ⟨⟨D,β,vs,o,n,h1,h2,h3⟩,hsz,hd,hit⟩:=h
 exact ⟨⟨D,β,vs,o,n,h1,fun i hi=>(h2 i hi).trans (he i hi),h3⟩,hsz,hd,hit⟩
theorem G.GY {q:Spec} {ts:List Nat} {bn n r:Nat} {β1:Nat->Nm} {y:q.D S} {m:List (Nat×Nat)} {s:St S} {ob:Obj} (hg:G w0 F D0 D s (· <n) β a w) (hβ: ∀ i,i<bn->β i=β1 i) (hl:HN q ts bn bn s=some (y,m)) (hq:q.okB bn=true)
  (h1: ∀ i b,lk s.o i=some b->¬ (β i).has r) (h2:¬ D r) (hit:w.heap[r]?=some ob):HX S w0 F D0 q ts bn β1 s.sz y r ob a w:=by
 obtain ⟨β2,k1,_,k3⟩:=hg.hx (Nat.le_refl _) hl hq h1 h2 hit
 exact k3.re fun i hi=>(k1 i hi).trans (hβ i hi)
theorem HX.mE {E:Env S} (hE:E.Ok P) {f0:Nat} {all:Array Oper} {sp qe:Spec} {ts ts':List Nat} {bn r:Nat} {β1:Nat->Nm} {ob:Obj} (hqe:qe.okB bn=true) (hlen:ts'.length=qe.as.length) {x:sp.D S} {y:qe.D S}
  (hev:(N3 E f0 all sp qe ts ts' bn x).eval (fun _ _=>none)=some y) (hkp:B3 S w0 F D0) (hh:HX S w0 F D0 sp ts bn β1 E.sz x r ob a w) {Q:Exit->Act->World->Prop}
  (hQ: ∀ a' W',HX S w0 F D0 qe ts' bn β1 E.sz y r ob a' W'->Q .normal a' W'):wpList P all Q all.toList a w:=by
 obtain ⟨⟨D,β,vs,o,n,he,hβ,hg,hon,hbn,hts,h1,h2⟩,hsz,hd,hit⟩:=hh
 have hr:r<w.heap.size:=(Array.getElem?_eq_some_iff.1 hit).1
 refine N4 hE hqe hlen hev (hg.keeps hkp) ⟨⟨D,β,vs,o,n,he,hβ,hg.base,hon,hbn,hts⟩,hsz⟩ fun a' W' hd' hh'=>hQ a' W' ?_
 obtain ⟨⟨D',β',vs',o',n',he',hβ',hg',hon',hbn',hts'⟩,hsz'⟩:=hh'
 obtain ⟨c1,c2,c3⟩:=GH.clear hg' hr h1 h2
 exact ⟨⟨D',β',vs',o',n',he',hβ',hg.comp hg',hon',hbn',hts',c1,c2⟩,hsz',hd'.trans hd,c3.trans hit⟩
theorem HX.K4 {q:Spec} {ts:List Nat} {bn sz r:Nat} {β1:Nat->Nm} {y:q.D S} {ob:Obj} (h:HX S w0 F D0 q ts bn β1 sz y r ob a w) {w1:World} (hw:w1=w\/w1=w.drew) (h0:w0.heap.size<=r) (ob':Obj):HX S w0 F D0 q ts bn β1 sz y r ob' a (Go.ChangeMaps.setBlock w1 r ob'):=by
 obtain ⟨⟨D,β,vs,o,n,he,hβ,hg,hon,hbn,hts,h1,h2⟩,hsz,hd0,hit⟩:=h
 have hg1:GH w0 F D0 D o (· <n) β w1:=by
  rcases hw with rfl|rfl
  ·exact hg
  ·exact hg.step (Below.refl _ w).drew
 have hr:r<w1.heap.size:=by
  have:=(Array.getElem?_eq_some_iff.1 hit).1
  rcases hw with rfl|rfl<;>exact this
 refine ⟨⟨D,β,vs,o,n,he,hβ,hg1.putObj ob' h1 h2 h0,hon,hbn,hts,h1,h2⟩,hsz,hd0,?_⟩
 show (w1.heap.setIfInBounds r ob')[r]?=_
 simp [Array.getElem?_setIfInBounds,hr]
end
end Go.En
set_option maxRecDepth 100000
namespace Go.Proofs
open Go Go.En
def Lr (k:CK) (n:Int):Int:=if n<0 then 0 else if (I k.t.nodes.length)<=n then 0 else (k.t.nodes.getD n.toNat En.Dop.d5).at_
def XY (k:CK) (e:List UInt8×Int):Bool:=decide ((AO k.labels e.1).getD 0=0)
def JD (k:CK) (f:Int) (e:List UInt8×Int):Int:=if (XY k e && (decide (f<0) || decide (Lr k e.2<Lr k f)))=true then e.2 else f
def Ls (k:CK):Int:=k.gotos.foldl (JD k) (-1)
def VT (k:CK) (V:Nat->Prop) (f:Int):Prop:=
 (f= -1/\ ∀ j x,V j->k.gotos[j]?=some x->XY k x=false)\/
 ∃ j x,V j/\k.gotos[j]?=some x/\XY k x=true/\f=x.2/\ ∀ j' x',V j'->k.gotos[j']?=some x'->XY k x'=true->Lr k f<=Lr k x'.2
def RG (k:CK):Prop:= ∀ x∈k.gotos,(0:Int)<=x.2
theorem VT.congr {k:CK} {V V':Nat->Prop} {f:Int} (h:VT k V f) (hV: ∀ j,j<k.gotos.length->(V j↔V' j)):VT k V' f:=by
 have hl: ∀ {j:Nat} {x},k.gotos[j]?=some x->j<k.gotos.length:=fun h=>(List.getElem?_eq_some_iff.1 h).1
 rcases h with ⟨h1,h2⟩|⟨j,x,h1,h2,h3,h4,h5⟩
 ·exact .inl ⟨h1,fun j x hj hx=>h2 j x ((hV j (hl hx)).2 hj) hx⟩
 ·exact .inr ⟨j,x,(hV j (hl h2)).1 h1,h2,h3,h4,fun j' x' hj hx hu=>h5 j' x' ((hV j' (hl hx)).2 hj) hx hu⟩
theorem VT.step {k:CK} {V:Nat->Prop} {f:Int} (hp:RG k) (h:VT k V f) {j:Nat} {x:List UInt8×Int} (hx:k.gotos[j]?=some x):VT k (fun i=>V i\/i=j) (JD k f x):=by
 have hpos: ∀ {j:Nat} {x},k.gotos[j]?=some x->(0:Int)<=x.2:=fun h=>hp _ (List.mem_of_getElem? h)
 unfold JD
 by_cases hu:XY k x=true
 ·rw [hu]
  rcases h with ⟨rfl,h2⟩|⟨j0,x0,h1,h2,h3,rfl,h5⟩
  ·rw [if_pos (by simp)]
   refine .inr ⟨j,x,.inr rfl,hx,hu,rfl,fun j' x' hj GY hu'=>?_⟩
   rcases hj with hj|rfl
   ·rw [h2 j' x' hj GY] at hu';cases hu'
   ·rw [hx] at GY;cases GY;exact Int.le_refl _
  ·have h0:=hpos h2
   by_cases hlt:Lr k x.2<Lr k x0.2
   ·rw [if_pos (by simp [hlt])]
    refine .inr ⟨j,x,.inr rfl,hx,hu,rfl,fun j' x' hj GY hu'=>?_⟩
    rcases hj with hj|rfl
    ·have:=h5 j' x' hj GY hu';omega
    ·rw [hx] at GY;cases GY;exact Int.le_refl _
   ·rw [if_neg (by simp [hlt];omega)]
    refine .inr ⟨j0,x0,.inl h1,h2,h3,rfl,fun j' x' hj GY hu'=>?_⟩
    rcases hj with hj|rfl
    ·exact h5 j' x' hj GY hu'
    ·rw [hx] at GY;cases GY;omega
 ·have hu:XY k x=false:=by simpa using hu
  rw [hu,if_neg (by simp)]
  rcases h with ⟨h1,h2⟩|⟨j0,x0,h1,h2,h3,h4,h5⟩
  ·refine .inl ⟨h1,fun j' x' hj GY=>?_⟩
   rcases hj with hj|rfl
   ·exact h2 j' x' hj GY
   ·rw [hx] at GY;cases GY;exact hu
  ·refine .inr ⟨j0,x0,.inl h1,h2,h3,h4,fun j' x' hj GY hu'=>?_⟩
   rcases hj with hj|rfl
   ·exact h5 j' x' hj GY hu'
   ·rw [hx] at GY;cases GY;rw [hu] at hu';cases hu'
theorem Xg {k:CK} (hp:RG k):VT k (fun _=>True) (Ls k):=by
 have key: ∀ n,n<=k.gotos.length->VT k (fun j=>j<n) ((k.gotos.take n).foldl (JD k) (-1)):=by
  intro n
  induction n with
  | zero=>exact fun _=>.inl ⟨rfl,fun j x hj=>absurd hj (Nat.not_lt_zero _)⟩
  | succ n ih=>
   intro hn
   have hx:k.gotos[n]?=some k.gotos[n]:=List.getElem?_eq_getElem (by omega)
   rw [List.take_add_one,hx]
   simp only [Option.toList,List.foldl_append,List.foldl_cons,List.foldl_nil]
   exact ((ih (by omega)).step hp hx).congr fun j _=>by omega
 have:=key k.gotos.length (Nat.le_refl _)
 rw [List.take_length] at this
 exact this.congr fun j hj=>by simp [hj]
theorem VT.uniq {k:CK} {f f':Int} (hp:RG k) (h:VT k (fun _=>True) f) (h':VT k (fun _=>True) f'):(f=f'/\f= -1)\/(0<=f/\0<=f'/\Lr k f=Lr k f'):=by
 have hpos: ∀ {j:Nat} {x},k.gotos[j]?=some x->(0:Int)<=x.2:=fun h=>hp _ (List.mem_of_getElem? h)
 rcases h with ⟨h1,h2⟩|⟨j,x,-,h2,h3,h4,h5⟩<;>rcases h' with ⟨k1,k2⟩|⟨j',x',-,k2,k3,k4,k5⟩
 ·exact .inl ⟨h1.trans k1.symm,h1⟩
 ·rw [h2 j' x' trivial k2] at k3;cases k3
 ·rw [k2 j x trivial h2] at h3;cases h3
 ·have a1:=h5 j' x' trivial k2 k3
  have a2:=k5 j x trivial h2 h3
  refine .inr ⟨h4▸hpos h2,k4▸hpos k2,?_⟩
  rw [<-k4] at a1;rw [<-h4] at a2;omega
def l0 (mf:Int->CK->CT->Option ((En.Dop.Ag×Unit)×(CK×CT×Unit))) (x:(Unit×List Int×Int×Unit)×(CK×CT×Unit)):Option ((Unit×List Int×Int×Unit)×(CK×CT×Unit)):=
 if (x.2.1.gotos.all fun e=>decide (0<=e.2))=true then
  if (decide (0<=Ls x.2.1))=true then (mf (Ls x.2.1) x.2.1 x.2.2.1).bind fun y=>some (x.1,(y.2.1,(y.2.2.1,()))) else some x
 else none
end Go.Proofs
namespace Go.En
open Go.RowKit
section
variable {S:At} {P:Program} {w0:World} {F D0 D:Nat->Prop} {N:Nat->Prop} {β:Nat->Nm} {a:Act} {w:World}
def St.pu (s:St S) (d:Nat) (x:SV):St S:={ s with t:=pt s.t d x }
theorem Cr {tb:List (Nat×TI)} (htb:AY S P tb) {s:St S} (hg:G w0 F D0 D s N β a w) {all:Array Oper} {o:Oper} {r:List Oper} {Q:Exit->Act->World->Prop} {d:Nat} (hgd:o.guard=none) (hd:o.dst=some d) (hds:d<s.sz) {x:SV} (he:evalOp tb s o.op=.val none x)
  (hQ: ∀ a',G w0 F D0 D (s.pu d x) N β a' w->wpList P all Q r a' w):wpList P all Q (o::r) a w:=
 Ze htb hg hgd he trivial (s':=s.pu d x) (by rw [hd,St.Fi,if_pos (by omega)];rfl) hQ
end
end Go.En
namespace Go.Proofs
open Go Go.En Go.RowKit
noncomputable abbrev Z9:Code:=BO (AT Tryz.prog 30) [1,1,1,1,1,1,1,1,1,1,1,1]
noncomputable abbrev RF:Code:=BO Z9 [0,0,1,0]
noncomputable abbrev l6:Code:=BO Z9 [1,1]
noncomputable def Mz:Array Oper:=JT (BO (AT Tryz.prog 30) [0,1,1,1,1,1,1,1,1,1,1,1])
noncomputable def DP:Array Oper:=JT (BO Z9 [0,0])
noncomputable def Fw:Array Oper:=JT (BO RF [0])
noncomputable def DQ:Array Oper:=JT (BO RF [0,0,1,1])
noncomputable def XS:Array Oper:=JT (BO RF [0,1,0,1,1])
noncomputable def Is:Array Oper:=JT (BO RF [0,1,1,0,1,1])
noncomputable def Ho:Array Oper:=JT (BO Z9 [0,0,1])
noncomputable def Ug:Array Oper:=JT (BO Z9 [0,1,0,1])
theorem eh:Z9=.seq (.seq (.region 25 DP false) (.block 2 (.loop RF))) (.seq (.seq (.region 30 Ho false) (.cond (.tmp 215) (.region 31 Ug false) .skip)) l6):=by kernel_rfl
theorem aC:RF=.seq (.region 26 Fw false) (.seq (.cond (.tmp 187) .skip (.exit 2)) (.block 3 (.seq (.region 27 DQ false) (.seq (.region 28 XS false) (.cond (.tmp 212) (.region 29 Is false) .skip))))):=by kernel_rfl
noncomputable def A7 (l:Array Oper) (i:Nat):Oper:=l.getD i default
theorem XO:Mz.toList=[A7 Mz 0]:=by kernel_rfl
theorem XP:DP.toList=[A7 DP 0,A7 DP 1,A7 DP 2,A7 DP 3,A7 DP 4]:=by kernel_rfl
theorem XQ:Fw.toList=[A7 Fw 0,A7 Fw 1]:=by kernel_rfl
theorem XR:DQ.toList=[A7 DQ 0,A7 DQ 1,A7 DQ 2,A7 DQ 3,A7 DQ 4]:=by kernel_rfl
theorem XT:Is.toList=[A7 Is 0,A7 Is 1]:=by kernel_rfl
theorem XU:Ho.toList=[A7 Ho 0,A7 Ho 1]:=by kernel_rfl
theorem Pf:(A7 Fw 0).op=.next (.tmp 185) false/\(A7 Fw 0).dst=some 186/\(A7 Fw 0).guard=none:=⟨by kernel_rfl,by kernel_rfl,by kernel_rfl⟩
theorem Pe:(A7 DQ 0).op=.entry (.tmp 185)/\(A7 DQ 0).dst=some 188/\(A7 DQ 0).guard=none:=⟨by kernel_rfl,by kernel_rfl,by kernel_rfl⟩
theorem Pg:(A7 DP 4).op=.range 75 (.tmp 184)/\(A7 DP 4).dst=some 185/\(A7 DP 4).guard=none:=⟨by kernel_rfl,by kernel_rfl,by kernel_rfl⟩
abbrev mR:Gt:=⟨0,80,[.st 7,.al 1 0,.own 0 3,.own 11 77,.own 12 55,.st 0,.own 5 83,.mr .str 9 true 72,.mp .str 15 true,.rm 2,.st 11,.st 0,.rm 3,.rm 4,.st 0,.mr (.int .i64) 0 false 167,.st 0,.fd (.int .i64),.st 0],false⟩
abbrev aA:List Gt:=[mR,CT.b1,⟨2,0,[.mp .str 0 false],true⟩,⟨3,0,[.mp .str 0 false],true⟩,⟨4,0,[.mp .str 0 false],true⟩]
abbrev ee:List Cw:=[.al 0 0,.own 0 3,.fd (.int .i64),.fd (.int .i64),.al 5 0]
abbrev RH:En.Spec:=⟨ee,aA⟩
abbrev Ph:List Nat:=[0,6,15,16,185]
abbrev TT:En.Spec:=⟨ee++[.fd .str,.fd (.int .i64)],aA⟩
abbrev aD:List Nat:=Ph++[17,18]
abbrev Vl:En.Spec:=⟨ee++[.fd (.int .i64),.fd .bool],aA⟩
abbrev aE:List Nat:=Ph++[18,212]
def mS (k:CK) (k1:CT):BT En.Dop.D4 aA:=((k.t,(),k.num,k.funcs,k.globals,k.top,k.nodes,k.names,k.sigs,(),k.f,k.DR,(),(),k.loops,k.MR,k.Jd,k.e,k.when,()),k1,(k.taken,()),(k.labels,()),(k.gotos,()),())
def TV (t6:List Int) (t15 f:Int) (k:CK) (k1:CT):RH.D En.Dop.D4:=(((),t6,t15,f,(),()),mS k k1)
def aF (t6:List Int) (t15 f:Int) (e:List UInt8×Int) (k:CK) (k1:CT):TT.D En.Dop.D4:=(((),t6,t15,f,(),e.1,e.2,()),mS k k1)
def aG (t6:List Int) (t15 f n:Int) (b:Bool) (k:CK) (k1:CT):Vl.D En.Dop.D4:=(((),t6,t15,f,(),n,b,()),mS k k1)
theorem TW {W:World} {D:Nat->Prop} {b:Nat} {l:List (List UInt8×Int)} (h:En.MapAt En.Dop.D4 W D .str 0 false b l):
  ∃ es:Array MapEntry,W.heap[b]?=some (.map es es.size)/\es.size=l.length/\ ∀ (j:Nat) (e:MapEntry),es[j]?=some e-> ∃ x,l[j]?=some x/\e=⟨.string ⟨⟨x.1⟩⟩,.int .i64 x.2,j⟩:=by
 obtain ⟨es,h1,h2,h3⟩:=h
 refine ⟨es,h1,h2,fun j e he=>?_⟩
 have hj:j<l.length:=by rw [<-h2];exact (Array.getElem?_eq_some_iff.1 he).1
 obtain ⟨h4,h5,vs,h6,h7⟩:=h3 j l[j] e (List.getElem?_eq_getElem hj) he
 refine ⟨l[j],List.getElem?_eq_getElem hj,?_⟩
 have h7:AF En.Dop.D4 W D [.int .i64 l[j].2] vs:=h7
 obtain ⟨v1,r1,rfl,h8,h9⟩:=h7.DD
 cases h8
 have:=h9.1
 cases r1 with
 | cons _ _=>simp at this
 | nil=>
  cases e
  simp only at h4 h5 h6
  subst h4
  rw [h5,h6]
  rfl
end Go.Proofs
namespace Go.Proofs
open Go Go.En Go.RowKit
noncomputable abbrev iw:Ak:=⟨[],6,TT,Vl,false,[],[]⟩
noncomputable def iv:Env En.Dop.D4:=Au Tryz.prog 30 Tryz.tb [Tryz.C4.c] iw
theorem en:iv.Ok Tryz.prog:=(Gy (p:=iw) (ct:=[Tryz.C4.c]) Tryz.AI (BG Tryz.C4.holds CS) (by kernel_rfl)).1
theorem XK:iv.sz=246:=by kernel_rfl
theorem iz {t6:List Int} {t15 f:Int} {k:CK} {k1:CT} {vs:List SV} {o:List (Nat×En.Own En.Dop.D4)} {n:Nat} (h:RH.enc (S:=En.Dop.D4) (TV t6 t15 f k k1) 6=(vs,o,n)):lk o 4=some (.mp .str 0 false k.gotos)/\lk (Ph.zip vs) 185=some (.ptr 5 0):=by
 cases h
 exact ⟨by kernel_rfl,by kernel_rfl⟩
noncomputable abbrev Uh (vs:List SV) (o:List (Nat×En.Own En.Dop.D4)) (n:Nat):St En.Dop.D4:=⟨Ph.zip vs,o,n,246⟩
theorem jE {t6:List Int} {t15 f:Int} {k:CK} {k1:CT} {vs:List SV} {o:List (Nat×En.Own En.Dop.D4)} {n:Nat} (h:RH.enc (S:=En.Dop.D4) (TV t6 t15 f k k1) 6=(vs,o,n)):evalOp Tryz.tb ((Uh vs o n).pu 186 (.Gr [.b false])) (A7 Fw 1).op=.val none (.b false):=by
 cases h
 kernel_rfl
theorem jF (e:List UInt8×Int) {t6:List Int} {t15 f:Int} {k:CK} {k1:CT} {vs:List SV} {o:List (Nat×En.Own En.Dop.D4)} {n:Nat} (h:RH.enc (S:=En.Dop.D4) (TV t6 t15 f k k1) 6=(vs,o,n)):evalOp Tryz.tb ((Uh vs o n).pu 186 (.Gr [.b true,.v (.string ⟨⟨e.1⟩⟩),.v (.int .i64 e.2)])) (A7 Fw 1).op=.val none (.b true):=by
 cases h
 kernel_rfl
noncomputable abbrev TU (vs:List SV) (o:List (Nat×En.Own En.Dop.D4)) (n:Nat) (e:List UInt8×Int):St En.Dop.D4:=(((Uh vs o n).pu 186 (.Gr [.b true,.v (.string ⟨⟨e.1⟩⟩),.v (.int .i64 e.2)])).pu 187 (.b true)).pu 188 (.Gr [.v (.string ⟨⟨e.1⟩⟩),.v (.int .i64 e.2)])
noncomputable abbrev mT (vs:List SV) (o:List (Nat×En.Own En.Dop.D4)) (n:Nat) (e:List UInt8×Int):St En.Dop.D4:=(((((TU vs o n e).pu 189 (.v (.string ⟨⟨e.1⟩⟩))).pu 190 (.v (.int .i64 e.2))).pu 17 (.v (.string ⟨⟨e.1⟩⟩))).pu 18 (.v (.int .i64 e.2)))
theorem jG {t6:List Int} {t15 f:Int} {e:List UInt8×Int} {k:CK} {k1:CT} {vs:List SV} {o:List (Nat×En.Own En.Dop.D4)} {n:Nat} (h:RH.enc (S:=En.Dop.D4) (TV t6 t15 f k k1) 6=(vs,o,n)):evalOp Tryz.tb (TU vs o n e) (A7 DQ 1).op=.val none (.v (.string ⟨⟨e.1⟩⟩)):=by
 cases h
 kernel_rfl
theorem jH {t6:List Int} {t15 f:Int} {e:List UInt8×Int} {k:CK} {k1:CT} {vs:List SV} {o:List (Nat×En.Own En.Dop.D4)} {n:Nat} (h:RH.enc (S:=En.Dop.D4) (TV t6 t15 f k k1) 6=(vs,o,n)):evalOp Tryz.tb ((TU vs o n e).pu 189 (.v (.string ⟨⟨e.1⟩⟩))) (A7 DQ 2).op=.val none (.v (.int .i64 e.2)):=by
 cases h
 kernel_rfl
theorem jI {t6:List Int} {t15 f:Int} {e:List UInt8×Int} {k:CK} {k1:CT} {vs:List SV} {o:List (Nat×En.Own En.Dop.D4)} {n:Nat} (h:RH.enc (S:=En.Dop.D4) (TV t6 t15 f k k1) 6=(vs,o,n)):evalOp Tryz.tb (((TU vs o n e).pu 189 (.v (.string ⟨⟨e.1⟩⟩))).pu 190 (.v (.int .i64 e.2))) (A7 DQ 3).op=.val none (.v (.string ⟨⟨e.1⟩⟩)):=by
 cases h
 kernel_rfl
theorem jJ {t6:List Int} {t15 f:Int} {e:List UInt8×Int} {k:CK} {k1:CT} {vs:List SV} {o:List (Nat×En.Own En.Dop.D4)} {n:Nat} (h:RH.enc (S:=En.Dop.D4) (TV t6 t15 f k k1) 6=(vs,o,n)):evalOp Tryz.tb ((((TU vs o n e).pu 189 (.v (.string ⟨⟨e.1⟩⟩))).pu 190 (.v (.int .i64 e.2))).pu 17 (.v (.string ⟨⟨e.1⟩⟩))) (A7 DQ 4).op=.val none (.v (.int .i64 e.2)):=by
 cases h
 kernel_rfl
theorem Uj:(A7 Fw 1).dst=some 187/\(A7 Fw 1).guard=none:=⟨by kernel_rfl,by kernel_rfl⟩
theorem c6:(A7 DQ 1).dst=some 189/\(A7 DQ 1).guard=none:=⟨by kernel_rfl,by kernel_rfl⟩
theorem c7:(A7 DQ 2).dst=some 190/\(A7 DQ 2).guard=none:=⟨by kernel_rfl,by kernel_rfl⟩
theorem c8:(A7 DQ 3).dst=some 17/\(A7 DQ 3).guard=none:=⟨by kernel_rfl,by kernel_rfl⟩
theorem c9:(A7 DQ 4).dst=some 18/\(A7 DQ 4).guard=none:=⟨by kernel_rfl,by kernel_rfl⟩
theorem dA:(A7 Is 0).dst=some 213/\(A7 Is 0).guard=none:=⟨by kernel_rfl,by kernel_rfl⟩
theorem dB:(A7 Is 1).dst=some 16/\(A7 Is 1).guard=none:=⟨by kernel_rfl,by kernel_rfl⟩
theorem jB {t6:List Int} {t15 f:Int} {e:List UInt8×Int} {k:CK} {k1:CT} {vs:List SV} {o:List (Nat×En.Own En.Dop.D4)} {n:Nat} (h:RH.enc (S:=En.Dop.D4) (TV t6 t15 f k k1) 6=(vs,o,n)):(HN TT aD 6 6 (mT vs o n e)).map (·.1)=some (aF t6 t15 f e k k1):=by
 cases h
 kernel_rfl
noncomputable abbrev XX (vs:List SV) (o:List (Nat×En.Own En.Dop.D4)) (n:Nat):St En.Dop.D4:=⟨aE.zip vs,o,n,246⟩
theorem jA {t6:List Int} {t15 f x:Int} {b:Bool} {k:CK} {k1:CT} {vs:List SV} {o:List (Nat×En.Own En.Dop.D4)} {n:Nat} (h:Vl.enc (S:=En.Dop.D4) (aG t6 t15 f x b k k1) 6=(vs,o,n)):lk (aE.zip vs) 212=some (.b b)/\evalOp Tryz.tb (XX vs o n) (A7 Is 0).op=.val none (.v (.int .i64 x))/\evalOp Tryz.tb ((XX vs o n).pu 213 (.v (.int .i64 x))) (A7 Is 1).op=.val none (.v (.int .i64 x))/\
  (HN RH Ph 6 6 (((XX vs o n).pu 213 (.v (.int .i64 x))).pu 16 (.v (.int .i64 x)))).map (·.1)=some (TV t6 t15 x k k1)/\(HN RH Ph 6 6 (XX vs o n)).map (·.1)=some (TV t6 t15 f k k1):=by
 cases h
 exact ⟨by kernel_rfl,by kernel_rfl,by kernel_rfl,by kernel_rfl,by kernel_rfl⟩
theorem aH {t6:List Int} {t15 f:Int} {k:CK} {k1:CT} {vs:List SV} {o:List (Nat×En.Own En.Dop.D4)} {n:Nat} (h:RH.enc (S:=En.Dop.D4) (TV t6 t15 f k k1) 6=(vs,o,n)):(HN RH Ph 6 6 (((Uh vs o n).pu 186 (.Gr [.b false])).pu 187 (.b false))).map (·.1)=some (TV t6 t15 f k k1):=by
 cases h
 kernel_rfl
theorem Kd:RH.okB 6=true/\TT.okB 6=true/\Vl.okB 6=true:=⟨by kernel_rfl,by kernel_rfl,by kernel_rfl⟩
end Go.Proofs
namespace Go.Proofs
open Go Go.En Go.RowKit
theorem XZ (n:Int) (k:CK) (k1:CT): ∃ x:En.Dop.Ab,Tryz.C4 n k.t k.num k.funcs k.globals k.top k.nodes k.names k.sigs k.f k.DR k.loops k.MR k.Jd k.e k.when k1=some ((x,()),((k.t.nodes,k.t.types,k.t.top,(),k.num,k.funcs,k.globals,k.top,k.nodes,k.names,k.sigs,(),k.f.name,k.f.params,k.f.Ai,k.f.frame,k.f.body,k.DR,(),(),k.loops,k.MR,k.Jd,k.e,k.when,()),(k1,())))/\x.at_=Lr k n:=by
 rw [Tryz.bh]
 unfold Lr
 by_cases h:n<0
 ·rw [if_pos (by simpa using h),if_pos h];exact ⟨_,rfl,rfl⟩
 ·rw [if_neg (by simpa using h),if_neg h]
  by_cases h2:I k.t.nodes.length<=n
  ·rw [if_pos (by simpa using h2),if_pos h2];exact ⟨_,rfl,rfl⟩
  ·rw [if_neg (by simpa using h2),if_neg h2,if_pos (by simp;omega)];exact ⟨_,rfl,rfl⟩
theorem aJ (t6:List Int) (t15 f:Int) (e:List UInt8×Int) (k:CK) (k1:CT):(N3 iv 3000 XS TT Vl aD aE 6 (aF t6 t15 f e k k1)).eval (fun _ _=>none)=
 if decide ((AO k.labels e.1).getD 0=0)=true then
  if decide (f<0)=true then some (aG t6 t15 f e.2 true k k1)
  else (Tryz.C4 e.2 k.t k.num k.funcs k.globals k.top k.nodes k.names k.sigs k.f k.DR k.loops k.MR k.Jd k.e k.when k1).bind fun y=>(Tryz.C4 f (En.Dop.FM.mk y.2.1.1 y.2.1.2.1 y.2.1.2.2.1) y.2.1.2.2.2.2.1 y.2.1.2.2.2.2.2.1 y.2.1.2.2.2.2.2.2.1 y.2.1.2.2.2.2.2.2.2.1 y.2.1.2.2.2.2.2.2.2.2.1 y.2.1.2.2.2.2.2.2.2.2.2.1 y.2.1.2.2.2.2.2.2.2.2.2.2.1 (En.Dop.DE.mk y.2.1.2.2.2.2.2.2.2.2.2.2.2.2.1 y.2.1.2.2.2.2.2.2.2.2.2.2.2.2.2.1 y.2.1.2.2.2.2.2.2.2.2.2.2.2.2.2.2.1 y.2.1.2.2.2.2.2.2.2.2.2.2.2.2.2.2.2.1 y.2.1.2.2.2.2.2.2.2.2.2.2.2.2.2.2.2.2.1) y.2.1.2.2.2.2.2.2.2.2.2.2.2.2.2.2.2.2.2.1 y.2.1.2.2.2.2.2.2.2.2.2.2.2.2.2.2.2.2.2.2.2.2.1 y.2.1.2.2.2.2.2.2.2.2.2.2.2.2.2.2.2.2.2.2.2.2.2.1 y.2.1.2.2.2.2.2.2.2.2.2.2.2.2.2.2.2.2.2.2.2.2.2.2.1 y.2.1.2.2.2.2.2.2.2.2.2.2.2.2.2.2.2.2.2.2.2.2.2.2.2.1 y.2.1.2.2.2.2.2.2.2.2.2.2.2.2.2.2.2.2.2.2.2.2.2.2.2.2.1 y.2.2.1).bind fun z=>some (((),t6,t15,f,(),e.2,decide (y.1.1.at_<z.1.1.at_),()),(((En.Dop.FM.mk z.2.1.1 z.2.1.2.1 z.2.1.2.2.1),(),z.2.1.2.2.2.2.1,z.2.1.2.2.2.2.2.1,z.2.1.2.2.2.2.2.2.1,z.2.1.2.2.2.2.2.2.2.1,z.2.1.2.2.2.2.2.2.2.2.1,z.2.1.2.2.2.2.2.2.2.2.2.1,z.2.1.2.2.2.2.2.2.2.2.2.2.1,(),(En.Dop.DE.mk z.2.1.2.2.2.2.2.2.2.2.2.2.2.2.1 z.2.1.2.2.2.2.2.2.2.2.2.2.2.2.2.1 z.2.1.2.2.2.2.2.2.2.2.2.2.2.2.2.2.1 z.2.1.2.2.2.2.2.2.2.2.2.2.2.2.2.2.2.1 z.2.1.2.2.2.2.2.2.2.2.2.2.2.2.2.2.2.2.1),z.2.1.2.2.2.2.2.2.2.2.2.2.2.2.2.2.2.2.2.1,(),(),z.2.1.2.2.2.2.2.2.2.2.2.2.2.2.2.2.2.2.2.2.2.2.1,z.2.1.2.2.2.2.2.2.2.2.2.2.2.2.2.2.2.2.2.2.2.2.2.1,z.2.1.2.2.2.2.2.2.2.2.2.2.2.2.2.2.2.2.2.2.2.2.2.2.1,z.2.1.2.2.2.2.2.2.2.2.2.2.2.2.2.2.2.2.2.2.2.2.2.2.2.1,z.2.1.2.2.2.2.2.2.2.2.2.2.2.2.2.2.2.2.2.2.2.2.2.2.2.2.1,()),z.2.2.1,(k.taken,()),(k.labels,()),(k.gotos,()),()))
 else some (aG t6 t15 f e.2 false k k1):=by kernel_rfl
theorem fA (t6:List Int) (t15 f:Int) (e:List UInt8×Int) (k:CK) (k1:CT):(N3 iv 3000 XS TT Vl aD aE 6 (aF t6 t15 f e k k1)).eval (fun _ _=>none)=some (aG t6 t15 f e.2 (XY k e && (decide (f<0) || decide (Lr k e.2<Lr k f))) k k1):=by
 rw [aJ]
 obtain ⟨x,h1,h2⟩:=XZ e.2 k k1
 obtain ⟨x',h1',h2'⟩:=XZ f k k1
 unfold XY
 cases hu:decide ((AO k.labels e.1).getD 0=0) with
 | false=>simp
 | true=>
  cases hf:decide (f<0) with
  | true=>simp
  | false=>
   simp only [if_true,Bool.false_eq_true,if_false,h1,Option.bind_some]
   have:Tryz.C4 f k.t k.num k.funcs k.globals k.top k.nodes k.names k.sigs k.f k.DR k.loops k.MR k.Jd k.e k.when k1=some ((x',()),((k.t.nodes,k.t.types,k.t.top,(),k.num,k.funcs,k.globals,k.top,k.nodes,k.names,k.sigs,(),k.f.name,k.f.params,k.f.Ai,k.f.frame,k.f.body,k.DR,(),(),k.loops,k.MR,k.Jd,k.e,k.when,()),(k1,()))):=h1'
   simp only [this,Option.bind_some,h2,h2',Bool.true_and,Bool.false_or]
   rfl
end Go.Proofs
namespace Go.Proofs
open Go Go.En Go.RowKit
section
variable {w0:World} {F D0:Nat->Prop} {β1:Nat->Nm} {t6:List Int} {t15 f:Int} {k:CK} {k1:CT} {r:Nat} {a:Act} {W:World}
abbrev dm (w0:World) (F D0:Nat->Prop) (β1:Nat->Nm) (t6:List Int) (t15 f:Int) (k:CK) (k1:CT) (r:Nat) (ob:Obj) (a:Act) (W:World):Prop:=HX En.Dop.D4 w0 F D0 RH Ph 6 β1 246 (TV t6 t15 f k k1) r ob a W
theorem FV {q:En.Spec} {ts:List Nat} {k bn:Nat} {s:St En.Dop.D4} {y:q.D En.Dop.D4} (h:(HN q ts k bn s).map (·.1)=some y): ∃ m,HN q ts k bn s=some (y,m):=by
 obtain ⟨⟨y',m⟩,h1,h2⟩:=Option.map_eq_some_iff.1 h
 cases h2
 exact ⟨m,h1⟩
theorem S1 {es:Array MapEntry} (h: ∀ (j:Nat) (e:MapEntry),es[j]?=some e->e.born=j):(es.toList.map (·.born)).Nodup:=by
 have:es.toList.map (·.born)=List.range es.size:=List.ext_getElem (by simp) fun i h1 h2=>by
  simp only [List.getElem_map,List.getElem_range]
  exact h i _ (by simp at h1;simp [h1])
 rw [this];exact List.nodup_range
theorem Xh (hkp:B3 En.Dop.D4 w0 F D0) (h0:w0.heap.size<=r) (hr:(β1 5).AS=r) {seen:Array Nat} {c0:Nat} (hL:k.gotos.length<=c0) (hh:dm w0 F D0 β1 t6 t15 f k k1 r (.mapIter (some (β1 4).AS) k.gotos.length seen c0) a W) {Q:Exit->Act->World->Prop}
  (hdone:(∀ j,j<k.gotos.length->seen.contains j=true)-> ∀ a' W' ob,dm w0 F D0 β1 t6 t15 f k k1 r ob a' W'->Q (.exit 2) a' W')
  (hmore: ∀ j x,k.gotos[j]?=some x->seen.contains j=false-> ∀ a' W' c1,k.gotos.length<=c1->dm w0 F D0 β1 t6 t15 (JD k f x) k k1 r (.mapIter (some (β1 4).AS) k.gotos.length (seen.push j) c1) a' W'->Q .normal a' W'):RF.wp Tryz.prog Q a W:=by
 rw [aC]
 obtain ⟨D,β,vs,o,n,he,hβ,hbn,hg,hc1,hc2⟩:=hh.g
 obtain ⟨ho4,ht185⟩:=iz he
 obtain ⟨bm,hb4,hM⟩:=hg.gh.own 4 _ ho4
 have hbm:(β1 4).AS=bm:=by rw [<-hβ 4 (by omega)];simp [Nm.AS,hb4]
 obtain ⟨es,hes,hsz,hel⟩:=TW hM
 have hit:=hh.it
 rw [hbm] at hit
 have h185:a.tmps.getD 185 undef=.pointer (some ⟨r,0,none⟩):=by
  rw [hg.tmps 185 _ ht185];simp only [SV.den,hβ 5 (by omega),hr]
 have hlt: ∀ x∈es.toList,x.born<k.gotos.length:=fun x hx=>by
  obtain ⟨j,hj⟩:=List.mem_iff_getElem?.1 hx
  rw [Array.getElem?_toList] at hj
  obtain ⟨y,hy,rfl⟩:=hel j x hj
  exact (List.getElem?_eq_some_iff.1 hy).1
 have hexec: ∀ v w',(Instr.next (.pointer (some ⟨r,0,none⟩)) false (A7 Fw 0).type).run Tryz.prog W=.ok v w'->(execOp a.eval (A7 Fw 0)).run Tryz.prog W=.ok (.value v) w':=fun v w' h=>by
  have:a.eval (.tmp 185)=.pointer (some ⟨r,0,none⟩):=h185
  simp only [execOp,Pf.1,this,Sem.run_bind,h,Result.andThen_ok,Sem.run_pure]
 refine wp_seq (wp_region_list ?_)
 rw [XQ]
 unfold wpList
 rw [if_pos (by simp [Region.wanted,Pf.2.2])]
 rcases run_next_at (P:=Tryz.prog) W (A7 Fw 0).type r bm k.gotos.length c0 seen es es.size hit hes hlt hL with ⟨hz,hrun⟩|⟨e,hem,w1,hw1,hrun⟩
 ·-- nothing is left
  refine .inl (As (hexec _ _ hrun) ?_)
  rw [Pf.2.1]
  have hg1:G w0 F D0 D ((Uh vs o n).pu 186 (.Gr [.b false])) (· <n) β (a.put (some 186) (.tuple #[.bool false])) W:=by
   have:=hg.put (d:=some 186) (x:=.Gr [.b false]) (by simp [SV.on,BW]) (s':=(Uh vs o n).pu 186 (.Gr [.b false])) (by rw [St.Fi,if_pos (by show 186<246;omega)];rfl)
   simpa [SV.den,AB] using this
  refine Cr Tryz.AI hg1 Uj.2 Uj.1 (by show 187<246;omega) (jE he) fun a1 hg2=>?_
  unfold wpList
  have h187:a1.eval (.tmp 187)=.bool false:=by
   have:=hg2.tmps 187 (.b false) (by simp [St.pu,E8])
   exact this
  refine wp_seq (wp_cond_false h187 (wp_exit ?_))
  obtain ⟨m,hm⟩:=FV (aH he)
  refine hdone (fun j hj=>?_) a1 W _ (hg2.GY hβ hm Kd.1 hc1 hc2 hh.it)
  have hj':es[j]?=some es[j]:=Array.getElem?_eq_getElem (by omega)
  obtain ⟨x,hx,hex⟩:=hel j _ hj'
  have:=all_seen es seen hz es[j] (by simp)
  rw [hex] at this
  exact this
 ·-- an entry
  obtain ⟨hmem,hns⟩:=mem_left hem
  obtain ⟨j,hj⟩:=List.mem_iff_getElem?.1 hmem
  rw [Array.getElem?_toList] at hj
  obtain ⟨x,hx,rfl⟩:=hel j e hj
  refine .inl (As (hexec _ _ hrun) ?_)
  rw [Pf.2.1]
  have hh1:=hh.K4 hw1 h0 (.mapIter (some bm) k.gotos.length (seen.push j) es.size)
  obtain ⟨D2,β2,vs2,o2,n2,he2,hβ2,hbn2,hg2,hd1,hd2⟩:=hh1.g
  rw [he] at he2
  simp only [Prod.mk.injEq] at he2
  obtain ⟨rfl,rfl,rfl⟩:=he2
  obtain ⟨bm2,hb42,hM2⟩:=hg2.gh.own 4 _ ho4
  have hbm2:bm2=bm:=by rw [<-hbm,<- hβ2 4 (by omega)];simp [Nm.AS,hb42]
  subst hbm2
  obtain ⟨es2,hes2,hsz2,hel2⟩:=TW hM2
  have hee:es2=es:=by
   refine Array.ext (hsz2.trans hsz.symm) fun i h1 h2=>?_
   obtain ⟨y1,hy1,e1⟩:=hel2 i _ (Array.getElem?_eq_getElem h1)
   obtain ⟨y2,hy2,e2⟩:=hel i _ (Array.getElem?_eq_getElem h2)
   rw [hy1] at hy2;cases hy2
   rw [e1,e2]
  subst hee
  have hg3:G w0 F D0 D2 ((Uh vs o n).pu 186 (.Gr [.b true,.v (.string ⟨⟨x.1⟩⟩),.v (.int .i64 x.2)])) (· <n) β2 (a.put (some 186) (.tuple #[.bool true,.string ⟨⟨x.1⟩⟩,.int .i64 x.2])) (Go.ChangeMaps.setBlock w1 r (.mapIter (some bm2) k.gotos.length (seen.push j) es2.size)):=by
   have:=hg2.put (d:=some 186) (x:=.Gr [.b true,.v (.string ⟨⟨x.1⟩⟩),.v (.int .i64 x.2)]) (by simp [SV.on,BW]) (s':=(Uh vs o n).pu 186 (.Gr [.b true,.v (.string ⟨⟨x.1⟩⟩),.v (.int .i64 x.2)])) (by rw [St.Fi,if_pos (by show 186<246;omega)];rfl)
   simpa [SV.den,AB] using this
  refine Cr Tryz.AI hg3 Uj.2 Uj.1 (by show 187<246;omega) (jF x he) fun a1 hg4=>?_
  unfold wpList
  have h187:a1.eval (.tmp 187)=.bool true:=hg4.tmps 187 (.b true) (by simp [St.pu,E8])
  refine wp_seq (wp_cond_true h187 (wp_skip (wp_block (wp_seq (wp_region_list ?_)))))
  rw [XR]
  unfold wpList
  rw [if_pos (by simp [Region.wanted,Pe.2.2])]
  have h185':a1.eval (.tmp 185)=.pointer (some ⟨r,0,none⟩):=by
   have:=hg4.tmps 185 (.ptr 5 0) (by simp [St.pu,E8];exact ht185)
   show a1.tmps.getD 185 undef=_
   rw [this];simp only [SV.den,hβ2 5 (by omega),hr]
  have hrunE:=run_entry_at (P:=Tryz.prog) (Go.ChangeMaps.setBlock w1 r (.mapIter (some bm2) k.gotos.length (seen.push j) es2.size)) r bm2 k.gotos.length seen es2 es2.size ⟨.string ⟨⟨x.1⟩⟩,.int .i64 x.2,j⟩ hh1.it hes2 (List.mem_of_getElem? (by rw [Array.getElem?_toList];exact hj)) (S1 fun i e hi=>by obtain ⟨y,_,rfl⟩:=hel2 i e hi;rfl)
  refine .inl (As (v:=.tuple #[.string ⟨⟨x.1⟩⟩,.int .i64 x.2]) (by simp only [execOp,Pe.1,h185',Sem.run_bind,hrunE,Result.andThen_ok,Sem.run_pure];rfl) ?_)
  rw [Pe.2.1]
  have hg5:G w0 F D0 D2 (TU vs o n x) (· <n) β2 (a1.put (some 188) (.tuple #[.string ⟨⟨x.1⟩⟩,.int .i64 x.2])) (Go.ChangeMaps.setBlock w1 r (.mapIter (some bm2) k.gotos.length (seen.push j) es2.size)):=by
   have:=hg4.put (d:=some 188) (x:=.Gr [.v (.string ⟨⟨x.1⟩⟩),.v (.int .i64 x.2)]) (by simp [SV.on,BW]) (s':=TU vs o n x) (by rw [St.Fi,if_pos (by show 188<246;omega)];rfl)
   simpa [SV.den,AB] using this
  refine Cr Tryz.AI hg5 c6.2 c6.1 (by show 189<246;omega) (jG he) fun a2 hg6=>?_
  refine Cr Tryz.AI hg6 c7.2 c7.1 (by show 190<246;omega) (jH he) fun a3 hg7=>?_
  refine Cr Tryz.AI hg7 c8.2 c8.1 (by show 17<246;omega) (jI he) fun a4 hg8=>?_
  refine Cr Tryz.AI hg8 c9.2 c9.1 (by show 18<246;omega) (jJ he) fun a5 hg9=>?_
  unfold wpList
  obtain ⟨m,hm⟩:=FV (jB (e:=x) he)
  have hx1:HX En.Dop.D4 w0 F D0 TT aD 6 β1 iv.sz (aF t6 t15 f x k k1) r (.mapIter (some bm2) k.gotos.length (seen.push j) es2.size) a5 (Go.ChangeMaps.setBlock w1 r (.mapIter (some bm2) k.gotos.length (seen.push j) es2.size)):=by
   rw [XK];exact hg9.GY hβ2 hm Kd.2.1 hd1 hd2 hh1.it
  refine wp_seq (wp_region_list (hx1.mE en (f0:=3000) Kd.2.2 (by kernel_rfl) (fA t6 t15 f x k k1) hkp fun a6 W6 hx2=>?_))
  rw [XK] at hx2
  obtain ⟨D3,β3,vs3,o3,n3,he3,hβ3,hbn3,hg10,he1,he2'⟩:=hx2.g
  obtain ⟨l1,l2,l3,l4,l5⟩:=jA he3
  have h212:a6.eval (.tmp 212)=.bool (XY k x && (decide (f<0) || decide (Lr k x.2<Lr k f))):=hg10.tmps 212 _ l1
  have hst:JD k f x=if (XY k x && (decide (f<0) || decide (Lr k x.2<Lr k f)))=true then x.2 else f:=rfl
  have hfin: ∀ a' W',dm w0 F D0 β1 t6 t15 (JD k f x) k k1 r (.mapIter (some bm2) k.gotos.length (seen.push j) es2.size) a' W'->Exit.inBlock 3 Q .normal a' W':=fun a' W' h=>by
   rw [<-hbm] at h
   exact hmore j x hx hns a' W' es2.size (by omega) h
  cases hb:(XY k x && (decide (f<0) || decide (Lr k x.2<Lr k f))) with
  | true=>
   rw [hb] at h212 hst
   rw [if_pos rfl] at hst
   refine wp_cond_true h212 (wp_region_list ?_)
   rw [XT]
   refine Cr Tryz.AI (s:=XX vs3 o3 n3) hg10 dA.2 dA.1 (by show 213<246;omega) l2 fun a7 hg11=>?_
   refine Cr Tryz.AI hg11 dB.2 dB.1 (by show 16<246;omega) l3 fun a8 hg12=>?_
   unfold wpList
   obtain ⟨m2,hm2⟩:=FV l4
   refine hfin a8 W6 ?_
   rw [hst]
   exact hg12.GY hβ3 hm2 Kd.1 he1 he2' hx2.it
  | false=>
   rw [hb] at h212 hst
   rw [if_neg (by simp)] at hst
   refine wp_cond_false h212 (wp_skip ?_)
   obtain ⟨m2,hm2⟩:=FV l5
   refine hfin a6 W6 ?_
   rw [hst]
   exact hg10.GY hβ3 hm2 Kd.1 he1 he2' hx2.it
end
end Go.Proofs
namespace Go.Proofs
open Go Go.En Go.RowKit
section
variable {w0:World} {F D0:Nat->Prop} {β1:Nat->Nm} {t6:List Int} {t15:Int} {k:CK} {k1:CT} {r:Nat}
def TS (L:Nat) (seen:Array Nat):Nat:=((List.range L).filter fun j=>!seen.contains j).length
theorem Oo (hkp:B3 En.Dop.D4 w0 F D0) (h0:w0.heap.size<=r) (hr:(β1 5).AS=r) (hp:RG k) {Q:Exit->Act->World->Prop}
  (hdone: ∀ f,VT k (fun _=>True) f-> ∀ a' W' ob,dm w0 F D0 β1 t6 t15 f k k1 r ob a' W'->Q (.exit 2) a' W'):
  ∀ (m:Nat) (seen:Array Nat) (c0:Nat) (f:Int) (a:Act) (W:World),TS k.gotos.length seen<m->k.gotos.length<=c0->VT k (fun j=>seen.contains j=true) f->dm w0 F D0 β1 t6 t15 f k k1 r (.mapIter (some (β1 4).AS) k.gotos.length seen c0) a W->Code.rounds Tryz.prog RF Q m a W
 | 0,seen,c0,f,a,W,hm,hL,hI,hh=>absurd hm (Nat.not_lt_zero _)
 | m+1,seen,c0,f,a,W,hm,hL,hI,hh=>by
  rw [rounds_succ]
  refine Xh hkp h0 hr hL hh (fun hall a' W' ob h=>?_) (fun j x hx hs a' W' c1 hc h=>?_)
  ·exact hdone f (hI.congr fun j hj=>iff_of_true (hall j hj) trivial) a' W' ob h
  ·refine Oo hkp h0 hr hp hdone m (seen.push j) c1 _ a' W' ?_ hc ((hI.step hp hx).congr fun i hi=>?_) h
   ·have hj:j<k.gotos.length:=(List.getElem?_eq_some_iff.1 hx).1
    have:=filter_lt (fun i=>!seen.contains i) (fun i=>!(seen.push j).contains i) (fun i hi=>by
     simp only [contains_push] at hi
     cases h:seen.contains i with
     | false=>rfl
     | true=>rw [h] at hi;cases hi) j (by simp only [hs];rfl) (by simp only [contains_push,beq_self_eq_true,Bool.or_true];rfl) (List.range k.gotos.length) (by simpa using hj)
    unfold TS at hm ⊢
    omega
   ·rw [contains_push,Bool.or_eq_true,beq_iff_eq]
end
noncomputable abbrev eo (vs:List SV) (o:List (Nat×En.Own En.Dop.D4)) (n:Nat):St En.Dop.D4:=⟨[0,6,15].zip vs,o,n,246⟩
noncomputable abbrev er (vs:List SV) (o:List (Nat×En.Own En.Dop.D4)) (n:Nat):St En.Dop.D4:=(eo vs o n).pu 16 (.v (.int .i64 (-1)))
noncomputable abbrev eu (vs:List SV) (o:List (Nat×En.Own En.Dop.D4)) (n:Nat):St En.Dop.D4:=((er vs o n).pu 181 (.ptr 0 0)).pu 182 (.ptr 0 0)
noncomputable abbrev XW (vs:List SV) (o:List (Nat×En.Own En.Dop.D4)) (n:Nat) (q:Nat):St En.Dop.D4:=((eu vs o n).pu 183 (.ptr 0 q)).pu 184 (.By 13)
noncomputable abbrev iy (vs:List SV) (o:List (Nat×En.Own En.Dop.D4)) (n:Nat) (q:Nat):St En.Dop.D4:=⟨(185,.ptr n 0)::(XW vs o n q).t,o,n+1,246⟩
end Go.Proofs
namespace Go.Proofs
open Go Go.En Go.RowKit
theorem cz:(A7 Mz 0).dst=some 16/\(A7 Mz 0).guard=none:=⟨by kernel_rfl,by kernel_rfl⟩
theorem Xa:(A7 DP 0).dst=some 181/\(A7 DP 0).guard=none:=⟨by kernel_rfl,by kernel_rfl⟩
theorem Xb:(A7 DP 1).dst=some 182/\(A7 DP 1).guard=none:=⟨by kernel_rfl,by kernel_rfl⟩
theorem Xc:(A7 DP 2).dst=some 183/\(A7 DP 2).guard=none:=⟨by kernel_rfl,by kernel_rfl⟩
theorem Xd:(A7 DP 3).dst=some 184/\(A7 DP 3).guard=none:=⟨by kernel_rfl,by kernel_rfl⟩
theorem Xe:(A7 Ho 0).dst=some 214/\(A7 Ho 0).guard=none:=⟨by kernel_rfl,by kernel_rfl⟩
theorem Xf:(A7 Ho 1).dst=some 215/\(A7 Ho 1).guard=none:=⟨by kernel_rfl,by kernel_rfl⟩
theorem jC {t6:List Int} {t15:Int} {k:CK} {k1:CT} {vs:List SV} {o:List (Nat×En.Own En.Dop.D4)} {n:Nat} (h:En.Spec.enc (S:=En.Dop.D4) Tryz.EE.ZD.sp (((),t6,t15,()),(k,k1,())) 2=(vs,o,n)):
  evalOp Tryz.tb (eo vs o n) (A7 Mz 0).op=.val none (.v (.int .i64 (-1)))/\evalOp Tryz.tb (er vs o n) (A7 DP 0).op=.val none (.ptr 0 0)/\evalOp Tryz.tb ((er vs o n).pu 181 (.ptr 0 0)) (A7 DP 1).op=.val none (.ptr 0 0)/\
  evalOp Tryz.tb (eu vs o n) (A7 DP 2).op=.val none (.ptr 0 19)/\evalOp Tryz.tb ((eu vs o n).pu 183 (.ptr 0 19)) (A7 DP 3).op=.val none (.By 13)/\n=17/\lk o 13=some (.mp .str 0 false k.gotos)/\lk (XW vs o n 19).t 184=some (.By 13)/\
  (HN RH Ph 2 6 (iy vs o n 19)).map (fun z=>(z.1,lk z.2 4,lk z.2 5))=some (TV t6 t15 (-1) k k1,some 13,some 17):=by
 cases h
 exact ⟨by kernel_rfl,by kernel_rfl,by kernel_rfl,by kernel_rfl,by kernel_rfl,by kernel_rfl,by kernel_rfl,by kernel_rfl,by kernel_rfl⟩
abbrev XV:En.Spec:=⟨[.al 0 0,.own 0 3,.fd (.int .i64),.fd (.int .i64)],[CK.b0,CT.b1]⟩
theorem jD {t6:List Int} {t15 f:Int} {k:CK} {k1:CT} {vs:List SV} {o:List (Nat×En.Own En.Dop.D4)} {n:Nat} (h:RH.enc (S:=En.Dop.D4) (TV t6 t15 f k k1) 6=(vs,o,n)):
  evalOp Tryz.tb (Uh vs o n) (A7 Ho 0).op=.val none (.v (.int .i64 f))/\evalOp Tryz.tb ((Uh vs o n).pu 214 (.v (.int .i64 f))) (A7 Ho 1).op=.val none (.b (decide (0<=f)))/\
  lk (((Uh vs o n).pu 214 (.v (.int .i64 f))).pu 215 (.b (decide (0<=f)))).t 215=some (.b (decide (0<=f)))/\
  (HN XV [0,6,15,16] 2 2 (((Uh vs o n).pu 214 (.v (.int .i64 f))).pu 215 (.b (decide (0<=f))))).map (·.1)=some (((),t6,t15,f,()),(k,k1,()))/\
  (HN Tryz.EE.WV.sp [0,6,15] 2 2 (((Uh vs o n).pu 214 (.v (.int .i64 f))).pu 215 (.b (decide (0<=f))))).map (·.1)=some (((),t6,t15,()),(k,k1,())):=by
 cases h
 exact ⟨by kernel_rfl,by kernel_rfl,by kernel_rfl,by kernel_rfl,by kernel_rfl⟩
noncomputable abbrev Om (ct:List (B2 En.Dop.D4)):Env En.Dop.D4:=Au Tryz.prog 30 Tryz.tb ct Tryz.EE.p
theorem On (ct:List (B2 En.Dop.D4)):(Om ct).sz=246:=by kernel_rfl
theorem TX:Tryz.EE.WV.sp.okB 2=true/\XV.okB 2=true:=⟨by kernel_rfl,by kernel_rfl⟩
theorem ey:DA (AT Tryz.prog 30) Tryz.EE.ZD.key=some [.code [0,1,1,1,1,1,1,1,1,1,1,1] (.region 24 Mz false),.code [1,1,1,1,1,1,1,1,1,1,1,1] Z9]:=by kernel_rfl
theorem ez:DA (AT Tryz.prog 30) Tryz.EE.WV.key=some [.code [1,1,1,1,1,1,1,1,1,1,1,1,1,1] l6]:=by kernel_rfl
theorem aI {ct:List (B2 En.Dop.D4)} (hE:(Om ct).Ok Tryz.prog) {mf:Int->CK->CT->Option ((En.Dop.Ag×Unit)×(CK×CT×Unit))} (hmf: ∀ f f' k k1,Lr k f=Lr k f'->mf f k k1=mf f' k k1)
  (hseg: ∀ t6 t15 f k k1,(N3 (Om ct) 3000 Ug XV Tryz.EE.WV.sp [0,6,15,16] [0,6,15] 2 (((),t6,t15,f,()),(k,k1,()))).eval (fun _ _=>none)=(mf f k k1).bind fun y=>some (((),t6,t15,()),(y.2.1,(y.2.2.1,()))))
  {Q:Exit->Act->World->Prop} {w0:World} {F D0:Nat->Prop} {β0:Nat->Nm} {M:Nat} (t6:List Int) (t15:Int) (k:CK) (k1:CT) (y:Tryz.EE.WV.sp.D En.Dop.D4) (hkp:B3 En.Dop.D4 w0 F D0) (hg:l0 mf (((),t6,t15,()),(k,k1,()))=some y)
  (hv:Io Tryz.prog Q w0 F D0 β0 M (Om ct) Tryz.EE.WV y):Io Tryz.prog Q w0 F D0 β0 M (Om ct) Tryz.EE.ZD (((),t6,t15,()),(k,k1,())):=by
 unfold l0 at hg
 split at hg
 case isFalse=>cases hg
 rename_i hpos
 have hp:RG k:=fun e he=>by simpa using List.all_eq_true.1 hpos e he
 intro ks vs o n hk he
 have hk:DA (AT Tryz.prog 30) Tryz.EE.ZD.key=some ks:=hk
 rw [ey] at hk
 cases hk
 have he:En.Spec.enc (S:=En.Dop.D4) Tryz.EE.ZD.sp (((),t6,t15,()),(k,k1,())) 2=(vs,o,n):=he
 obtain ⟨s0,s1,s2,s3,s4,hn,ho13,h184,hlook⟩:=jC he
 intro D β a W hβ0 hG
 have hG:G w0 F D0 D (eo vs o n) (· <n) β a W:=hG
 have hβ0: ∀ i,i<2->β i=β0 i:=hβ0
 show (Code.region 24 Mz false).wpIn Fence.wide 0 Tryz.prog (after Fence.wide Tryz.prog M [.code Z9] Q) a W
 refine wpIn_wide.2 (wp_region_list ?_)
 rw [XO]
 refine Cr Tryz.AI hG cz.2 cz.1 (by show 16<246;omega) s0 fun a1 g1=>?_
 unfold wpList
 show Z9.wpIn Fence.wide 0 Tryz.prog Q a1 W
 refine wpIn_wide.2 ?_
 rw [eh]
 refine wp_seq (wp_seq (wp_region_list ?_))
 rw [XP]
 refine Cr Tryz.AI g1 Xa.2 Xa.1 (by show 181<246;omega) s1 fun a2 g2=>?_
 refine Cr Tryz.AI g2 Xb.2 Xb.1 (by show 182<246;omega) s2 fun a3 g3=>?_
 refine Cr Tryz.AI g3 Xc.2 Xc.1 (by show 183<246;omega) s3 fun a4 g4=>?_
 refine Cr Tryz.AI g4 Xd.2 Xd.1 (by show 184<246;omega) s4 fun a5 g5=>?_
 have g5:G w0 F D0 D (XW vs o n 19) (· <n) β a5 W:=g5
 obtain ⟨bm,hb13,hM⟩:=g5.gh.own 13 _ ho13
 obtain ⟨es,hes,hsz,hel⟩:=TW hM
 have e184:a5.eval (.tmp 184)=.map (some bm):=by
  have:=g5.tmps 184 _ h184
  show a5.tmps.getD 184 undef=_
  rw [this];simp [SV.den,Nm.AS,hb13]
 have hT:=Ac (d:=.map 9 3) Tryz.AI (T:=75) (by kernel_rfl)
 simp only [TD.ok] at hT
 have hrun:=run_range_map (P:=Tryz.prog) W 75 _ _ bm es es.size hT hes
 unfold wpList
 rw [if_pos (by simp [Region.wanted,Pg.2.2])]
 refine .inl (As (v:=.pointer (some ⟨W.heap.size,0,none⟩)) (w':=W.alloc (.mapIter (some bm) es.size #[] es.size)) (by simp only [execOp,Pg.1,e184,Sem.run_bind,hrun,Result.andThen_ok,Sem.run_pure]) ?_)
 rw [Pg.2.1]
 unfold wpList
 -- the iterator's block has a name
 let β':Nat->Nm:=fun i=>if i=17 then ⟨some W.heap.size,0,0,undef⟩ else β i
 have hβ': ∀ i,i<n->β i=β' i:=fun i hi=>by simp only [β'];rw [if_neg (by omega)]
 have hgh:GH w0 F D0 D o (· <n) β W:=g5.gh
 have g6:G w0 F D0 D (iy vs o n 19) (· <n+1) β' (a5.put (some 185) (.pointer (some ⟨W.heap.size,0,none⟩))) (W.alloc (.mapIter (some bm) es.size #[] es.size)):=by
  refine ⟨g5.defers,by rw [H8];exact g5.size,fun t v ht=>?_,fun t v ht=>?_,((hgh.step ((Below.refl _ W).alloc (Nat.le_refl _) _)).congr hβ').mono fun i hi=>Nat.lt_succ_of_lt hi⟩
  ·have ht:lk ((185,SV.ptr n 0)::(XW vs o n 19).t) t=some v:=ht
   rw [AJ] at ht
   split at ht
   ·rename_i e;subst e;cases ht;exact ⟨by show 185<246;omega,by show n<n+1;omega⟩
   ·obtain ⟨q1,q2⟩:=g5.Gs t v ht
    exact ⟨q1,Am (fun i hi=>Nat.lt_succ_of_lt hi) q2⟩
  ·have ht:lk ((185,SV.ptr n 0)::(XW vs o n 19).t) t=some v:=ht
   rw [AJ] at ht
   split at ht
   ·rename_i e;subst e;cases ht
    rw [KI (by rw [g5.size];show 185<246;omega)]
    simp only [SV.den,β',hn,if_true,Nm.AS,Option.getD_some]
   ·rename_i hne
    obtain ⟨q1,q2⟩:=g5.Gs t v ht
    rw [Gi hne,g5.tmps t v ht]
    exact CO hβ' v q2
 obtain ⟨⟨y0,m⟩,hl1,hl2⟩:=Option.map_eq_some_iff.1 hlook
 simp only [Prod.mk.injEq] at hl2
 obtain ⟨rfl,hm4,hm5⟩:=hl2
 have hclear: ∀ i b,lk o i=some b->¬ (β' i).has W.heap.size:=fun i b hi hk=>by
  have hin:i<n:=(hgh.Bn i b hi).1
  rw [<-hβ' i hin] at hk
  exact Nat.lt_irrefl _ (hgh.lt i b _ hi hk)
 have hDn:¬ D W.heap.size:=fun hd=>Nat.lt_irrefl _ (hgh.DF _ hd)
 obtain ⟨β1,b1,b2,hx⟩:=g6.hx (by omega) hl1 Kd.1 hclear hDn (heap_alloc_new W _)
 have hb4:(β1 4).AS=bm:=by
  rw [b2 4 (by omega) 13 hm4]
  show (β' 13).AS=bm
  rw [<-hβ' 13 (by omega)]
  simp [Nm.AS,hb13]
 have hb5:(β1 5).AS=W.heap.size:=by
  rw [b2 5 (by omega) 17 hm5]
  simp [β',Nm.AS]
 have hb01: ∀ i,i<2->β1 i=β0 i:=fun i hi=>by rw [b1 i hi,<- hβ' i (by omega),hβ0 i hi]
 have h0:w0.heap.size<=W.heap.size:=hgh.fr.size
 have hx:dm w0 F D0 β1 t6 t15 (-1) k k1 W.heap.size (.mapIter (some (β1 4).AS) k.gotos.length #[] k.gotos.length) (a5.put (some 185) (.pointer (some ⟨W.heap.size,0,none⟩))) (W.alloc (.mapIter (some bm) es.size #[] es.size)):=by
  rw [hb4,<- hsz];exact hx
 refine wp_block (wp_loop_rounds (TS k.gotos.length #[]+1) (Oo hkp h0 hb5 hp (fun f hI a' W' ob hh=>?_) _ _ _ _ _ _ (Nat.lt_succ_self _) (Nat.le_refl _) (.inl ⟨rfl,fun j x hj=>absurd hj (by simp)⟩) hx))
 -- all have come
 show (Code.seq (.seq (.region 30 Ho false) (.cond (.tmp 215) (.region 31 Ug false) .skip)) l6).wp Tryz.prog Q a' W'
 have huq:=(Xg hp).uniq hp hI
 obtain ⟨D2,β2,vs2,o2,n2,he2,hβ2,hbn2,hg2,hd1,hd2⟩:=hh.g
 obtain ⟨z0,z1,z2,z3,z4⟩:=jD he2
 have hend: ∀ (y':Tryz.EE.WV.sp.D En.Dop.D4) a'' W'' ob',y'=y->HX En.Dop.D4 w0 F D0 Tryz.EE.WV.sp [0,6,15] 2 β0 246 y' W.heap.size ob' a'' W''->l6.wp Tryz.prog Q a'' W'':=fun y' a'' W'' ob' hy h=>by
  subst hy
  obtain ⟨D3,β3,vs3,o3,n3,he3,hβ3,hbn3,hg3,_,_⟩:=h.g
  have:=hv _ vs3 o3 n3 ez he3 D3 β3 a'' W'' hβ3 hg3
  exact wpIn_wide.1 this
 refine wp_seq (wp_seq (wp_region_list ?_))
 rw [XU]
 refine Cr Tryz.AI (s:=Uh vs2 o2 n2) hg2 Xe.2 Xe.1 (by show 214<246;omega) z0 fun a6 g7=>?_
 refine Cr Tryz.AI g7 Xf.2 Xf.1 (by show 215<246;omega) z1 fun a7 g8=>?_
 unfold wpList
 have e215:a7.eval (.tmp 215)=.bool (decide (0<=f)):=g8.tmps 215 _ z2
 have hb2: ∀ i,i<2->β2 i=β0 i:=fun i hi=>by rw [hβ2 i (by omega),hb01 i hi]
 cases hf:decide (0<=f) with
 | true=>
  rw [hf] at e215
  refine wp_cond_true e215 (wp_region_list ?_)
  obtain ⟨m3,hm3⟩:=FV z3
  have hx3:=g8.GY hb2 hm3 TX.2 hd1 hd2 hh.it
  rcases huq with ⟨e1,e2⟩|⟨e1,e2,e3⟩
  ·rw [e1] at e2;subst e2;simp at hf
  rw [if_pos (by simpa using e1)] at hg
  obtain ⟨v,hv1,hv2⟩:=Option.bind_eq_some_iff.1 hg
  rw [hmf _ _ _ k1 e3] at hv1
  have hs:=hseg t6 t15 f k k1
  rw [hv1] at hs
  have hx3:HX En.Dop.D4 w0 F D0 XV [0,6,15,16] 2 β0 (Om ct).sz (((),t6,t15,f,()),(k,k1,())) W.heap.size ob a7 W':=by rw [On];exact hx3
  refine hx3.mE hE (f0:=3000) TX.1 (by kernel_rfl) hs hkp fun a8 W8 h8=>?_
  rw [On] at h8
  exact hend _ a8 W8 _ (Option.some.inj hv2) h8
 | false=>
  rw [hf] at e215
  refine wp_cond_false e215 (wp_skip ?_)
  obtain ⟨m3,hm3⟩:=FV z4
  have hx3:=g8.GY hb2 hm3 TX.1 hd1 hd2 hh.it
  have hfirst:¬ (0:Int)<=Ls k:=by
   rcases huq with ⟨e1,e2⟩|⟨e1,e2,e3⟩
   ·omega
   ·simp [e2] at hf
  rw [if_neg (by simpa using hfirst)] at hg
  exact hend _ a7 W' _ (Option.some.inj hg) hx3
end Go.Proofs
set_option maxHeartbeats 4000000
namespace Go.Proofs.Tryz
open Go Go.En
end Go.Proofs.Tryz
namespace Go.Proofs.Tryz
open Go Go.En
abbrev KR.q3:Cut:=⟨[[0,0,0,0,0,1,0,1,1],[0,1,0,0,0,1,0,1,1],[0,1,0,0,1,0,1,1],[2,0,0,1,0,1,1],[1,0],[0,1,1,1]],[1,2],1,⟨[.al 0 0,.fd (.int .i64)],[CT.b0]⟩⟩
def KR.p:Ak:=⟨[(3,KR.q3)],0,⟨[],[]⟩,⟨[.al 0 0],[CT.b0]⟩,false,[],[]⟩
theorem KR.ok:AH Dop.D4 prog 24 KR.p=true:=by kernel_rfl
abbrev HE.q5:Cut:=⟨[[0,0,0,0,1,0,1,1,1,1],[0,1,0,0,1,0,1,1,1,1],[2,0,0,1,0,1,1,1,1],[1,0],[0,1,1,1,1,1]],[2,5,6,30,31,32],4,⟨[.al 1 0,.al 2 0,.rw 0,.rw 0,.fd (.int .i64),.fd (.int .i64)],[⟨0,0,[.own 0 3],true⟩,⟨1,37,[.own 11 77,.own 12 55,.fd (.int .i64),.own 5 83],false⟩,CH.b2,⟨3,119,[.own 6 113,.mp (.str) 17 false],false⟩]⟩⟩
abbrev HE.nx:Cut:=⟨[[0,0,0,0,1,0,1,1,1,1,1],[0,1,0,0,1,0,1,1,1,1,1],[2,0,0,1,0,1,1,1,1,1],[1,3],[0,1,1,1,1,1,1]],[2,5,60,61,62],3,⟨[.al 0 0,.al 1 0,.own 0 3,.fd (.int .i64),.fd (.int .i64)],[⟨0,37,[.own 11 77,.own 12 55,.fd (.int .i64),.own 5 83],false⟩,CH.b1,CT.b2]⟩⟩
abbrev HE.nz:Cut:=⟨[[0,0,0,1,1,1,1,1,1,1,1],[0,1,0,1,1,1,1,1,1,1,1],[0,1,1,1,1,1,1,1,1,1]],[2,5],3,⟨[.al 0 0,.al 1 0],[⟨0,37,[.own 11 77,.own 12 55,.fd (.int .i64),.own 5 83],false⟩,CH.b1,CT.b2]⟩⟩
def HE.p:Ak:=⟨[(5,HE.q5),(17,HE.nx),(26,HE.nz)],0,⟨[.st 7],[]⟩,⟨[.st 13,.fd (.int .i64),.fd (.int .i64)],[]⟩,false,[(1,⟨[(0,false),(1,false),(2,false),(3,false),(4,false),(5,true),(6,false),(7,true)],[1000002],[0,0,0,4,0,31,63,127],false⟩),(27,⟨[(0,true),(1,true),(2,true),(3,true),(4,false),(5,true),(6,true),(7,true),(8,false),(9,false),(10,true),(11,true)],[1000002],[0,0,2,6,14,0,32,96,224,1,543,2047],false⟩)],[]⟩
theorem HE.ok:AH Dop.D4 prog 14 HE.p=true:=by kernel_rfl
def m18.p:Ak:=⟨[],0,⟨[.fd .str],[]⟩,⟨[.st 13,.fd (.int .i64),.fd (.int .i64)],[]⟩,false,[],[]⟩
theorem m18.ok:AH Dop.D4 prog 9 m18.p=true:=by kernel_rfl
end Go.Proofs.Tryz
namespace Go.Proofs
open Go Go.En
abbrev ER:Type:=En.Dop.Gu×List (Int)×Int×List (Int)×List (Int)×Int×Int×Int×Int×Unit×Unit
abbrev ER.p (k:ER):En.Dop.Gu:=k.1
abbrev ER.mem (k:ER):List (Int):=k.2.1
abbrev ER.ZW (k:ER) (v:List (Int)):ER:=(k.1,v,k.2.2)
abbrev ER.sp (k:ER):Int:=k.2.2.1
abbrev ER.ZX (k:ER) (v:Int):ER:=(k.1,k.2.1,v,k.2.2.2)
abbrev ER.input (k:ER):List (Int):=k.2.2.2.1
abbrev ER.cQ (k:ER) (v:List (Int)):ER:=(k.1,k.2.1,k.2.2.1,v,k.2.2.2.2)
abbrev ER.out (k:ER):List (Int):=k.2.2.2.2.1
abbrev ER.kQ (k:ER) (v:List (Int)):ER:=(k.1,k.2.1,k.2.2.1,k.2.2.2.1,v,k.2.2.2.2.2)
abbrev ER.fuel (k:ER):Int:=k.2.2.2.2.2.1
abbrev ER.gM (k:ER) (v:Int):ER:=(k.1,k.2.1,k.2.2.1,k.2.2.2.1,k.2.2.2.2.1,v,k.2.2.2.2.2.2)
abbrev ER.end_ (k:ER):Int:=k.2.2.2.2.2.2.1
abbrev ER.gL (k:ER) (v:Int):ER:=(k.1,k.2.1,k.2.2.1,k.2.2.2.1,k.2.2.2.2.1,k.2.2.2.2.2.1,v,k.2.2.2.2.2.2.2)
abbrev ER.code (k:ER):Int:=k.2.2.2.2.2.2.2.1
abbrev ER.gK (k:ER) (v:Int):ER:=(k.1,k.2.1,k.2.2.1,k.2.2.2.1,k.2.2.2.2.1,k.2.2.2.2.2.1,k.2.2.2.2.2.2.1,v,k.2.2.2.2.2.2.2.2)
abbrev ER.b0:En.Gt:=⟨0,53,[.st 13,.own 0 3,.st 0,.fd (.sl 3),.own 3 5,.st 0,.st 0,.st 0,.st 0,.hm],false⟩
abbrev ER.b1:En.Gt:=⟨1,53,[.st 13,.own 0 3,.st 0,.fd (.sl 3),.own 3 5,.st 0,.st 0,.st 0,.st 0,.hm],false⟩
abbrev ER.b2:En.Gt:=⟨2,53,[.st 13,.own 0 3,.st 0,.fd (.sl 3),.own 3 5,.st 0,.st 0,.st 0,.st 0,.hm],false⟩
abbrev EF:Type:=En.Dop.DE×List (Int)×Int×Int×List UInt8×Int×Int×Unit
abbrev EF.Ai (k:EF):List (Int):=k.2.1
abbrev EF.T8 (k:EF) (v:List (Int)):EF:=(k.1,v,k.2.2)
abbrev EF.base (k:EF):Int:=k.2.2.1
abbrev EF.told (k:EF):Int:=k.2.2.2.1
abbrev EF.T9 (k:EF) (v:Int):EF:=(k.1,k.2.1,k.2.2.1,v,k.2.2.2.2)
abbrev EF.nV (k:EF):List UInt8:=k.2.2.2.2.1
abbrev EF.dc (k:EF) (v:List UInt8):EF:=(k.1,k.2.1,k.2.2.1,k.2.2.2.1,v,k.2.2.2.2.2)
abbrev EF.key (k:EF):Int:=k.2.2.2.2.2.1
abbrev EF.CN (k:EF):Int:=k.2.2.2.2.2.2.1
abbrev EF.JX (k:EF) (v:Int):EF:=(k.1,k.2.1,k.2.2.1,k.2.2.2.1,k.2.2.2.2.1,k.2.2.2.2.2.1,v,k.2.2.2.2.2.2.2)
abbrev EF.b1:En.Gt:=⟨1,91,[.st 11,.own 0 3,.st 0,.st 0,.st 1,.st 0,.st 0],false⟩
abbrev EF.b2:En.Gt:=⟨2,91,[.st 11,.own 0 3,.st 0,.st 0,.st 1,.st 0,.st 0],false⟩
end Go.Proofs
namespace Go.Proofs.Tryz
open Go Go.En
def Yb.p:Ak:=⟨[],1,⟨[.st 11,.al 0 0],[⟨0,9,[.st 1],false⟩]⟩,⟨[.fd .bool],[⟨0,9,[.fd .str],false⟩]⟩,true,[],[]⟩
theorem Yb.ok:AH Dop.D4 prog 34 Yb.p=true:=by kernel_rfl
abbrev BV.q2:Cut:=⟨[[0,0,0,0,1,0,1],[0,1,0,0,1,0,1],[2,0,0,1,0,1],[1,0],[0,1,1]],[0,1,7,8],1,⟨[.fd (.sl 11),.fn 34 [(0,0)],.fd (.int .i64),.fd (.int .i64)],[⟨0,9,[.fd .str],false⟩]⟩⟩
def BV.p:Ak:=⟨[(2,BV.q2)],1,⟨[.fd (.sl 11),.fn 34 [(0,0)]],[⟨0,9,[.st 1],false⟩]⟩,⟨[.fd (.int .i64)],[⟨0,9,[.fd .str],false⟩]⟩,true,[],[]⟩
theorem BV.ok:AH Dop.D4 prog 33 BV.p=true:=by kernel_rfl
def Se.p:Ak:=⟨[],0,⟨[.st 13,.fd .str],[]⟩,⟨[.fd (.int .i64)],[]⟩,true,[],[]⟩
theorem Se.ok:AH Dop.D4 prog 16 Se.p=true:=by kernel_rfl
def NU.p:Ak:=⟨[],1,⟨[.al 0 0,.fd (.int .i64),.fd (.int .i64)],[ER.b0]⟩,⟨[.fd (.int .i64)],[ER.b0]⟩,false,[],[]⟩
theorem NU.ok:AH Dop.D4 prog 17 NU.p=true:=by kernel_rfl
def NI.p:Ak:=⟨[],0,⟨[.st 13,.fd (.int .i64)],[]⟩,⟨[.st 5],[]⟩,true,[],[]⟩
theorem NI.ok:AH Dop.D4 prog 126 NI.p=true:=by kernel_rfl
abbrev C3.q3:Cut:=⟨[[0,0,0,0,1,0,1,1],[0,1,0,0,1,0,1,1],[2,0,0,1,0,1,1],[1,0],[0,1,1,1]],[1,2,5,9,10],1,⟨[.fd (.int .i64),.al 0 0,.own 0 3,.fd (.int .i64),.fd (.int .i64)],[⟨0,37,[.st 13],false⟩]⟩⟩
def C3.p:Ak:=⟨[(3,C3.q3)],0,⟨[.st 13,.fd (.int .i64)],[]⟩,⟨[.own 0 3],[]⟩,true,[],[]⟩
theorem C3.ok:AH Dop.D4 prog 105 C3.p=true:=by kernel_rfl
abbrev Bj.q9:Cut:=⟨[[0,0,0,1,1,1,0,1,0,1,1,1],[0,1,0,1,1,1,0,1,0,1,1,1],[1,0],[0,1,1,1,1]],[3,5,7],5,⟨[.al 2 0,.al 3 0,.al 4 0],[ER.b0,EF.b1,⟨2,49,[.al 0 0],false⟩,⟨3,89,[.al 1 0],false⟩,⟨4,83,[.st 5],false⟩]⟩⟩
abbrev Bj.VE:Cut:=⟨[[0,0,1,1,1,1,0,1,0,1,1,1],[0,1,1,1,1,1,0,1,0,1,1,1],[1,0],[0,1,1,1,1]],[3,5,7,19],5,⟨[.al 2 0,.al 3 0,.al 4 0,.fd (.int .i64)],[ER.b0,EF.b1,⟨2,49,[.al 0 0],false⟩,⟨3,89,[.al 1 0],false⟩,⟨4,83,[.st 5],false⟩]⟩⟩
def Bj.p:Ak:=⟨[(9,Bj.q9),(10,Bj.VE)],2,⟨[.al 0 0,.fd (.int .i64),.al 1 0],[ER.b0,EF.b1]⟩,⟨[.fd .bool],[ER.b0,EF.b1]⟩,false,[(6,⟨[(0,false),(1,true),(2,true),(3,false),(4,true),(5,true),(6,true),(7,false),(8,false),(9,true),(10,true),(11,false),(12,true),(13,true),(14,true),(15,false),(16,true),(17,false),(18,false),(19,false),(20,true),(21,true)],[2000003,2000005],[0,1,3,7,15,31,63,127,63,319,831,1855,4095,8191,16383,32767,32767,98303,32767,524287,1048575,2097151],false⟩),(9,⟨[(0,false),(1,true),(2,true),(3,false),(4,true),(5,true),(6,true),(7,false),(8,true),(9,true),(10,true),(11,true),(12,false),(13,false),(14,true),(15,true),(16,false),(17,true),(18,true),(19,true),(20,false),(21,true),(22,true),(23,false),(24,true),(25,true),(26,true),(27,false),(28,true),(29,true),(30,true),(31,true),(32,false),(33,true),(34,false),(35,false),(36,false),(37,true),(38,true)],[2000003,2000005],[0,1,3,7,15,31,63,127,255,511,1023,2047,4095,2047,10239,26623,59391,131071,262143,524287,1048575,2097151,4194303,8388607,16777215,33554431,67108863,134217727,268435455,536870911,1073741823,2147483647,4294967295,4294967295,12884901887,4294967295,68719476735,137438953471,274877906943],false⟩),(20,⟨[(0,false),(1,true),(2,true),(3,false),(4,true),(5,false),(6,false),(7,true),(8,false),(9,true)],[2000003,2000005],[0,1,3,7,0,16,63,0,255,511],true⟩)],[]⟩
theorem Bj.ok:AH Dop.D4 prog 62 Bj.p=true:=by kernel_rfl
def Cu.p:Ak:=⟨[],4,⟨[.own 0 3,.fn 106 [(0,0),(2,0)]],[⟨0,49,[.al 1 0],false⟩,ER.b1,⟨2,89,[.al 3 0],false⟩,⟨3,91,[.st 11,.own 0 3,.st 0,.st 0,.st 1,.st 0,.st 0],false⟩]⟩,⟨[.fd .bool],[⟨0,49,[.al 1 0],false⟩,ER.b1,⟨2,89,[.al 3 0],false⟩,⟨3,91,[.st 11,.own 0 3,.st 0,.st 0,.st 1,.st 0,.st 0],false⟩]⟩,false,[],[]⟩
theorem Cu.ok:AH Dop.D4 prog 104 Cu.p=true:=by kernel_rfl
abbrev Aj.q2:Cut:=⟨[[0,0,0,0,1,0,1],[0,1,0,0,1,0,1],[2,0,0,1,0,1],[1,0],[0,1,1]],[0,1,7,8],4,⟨[.own 0 3,.fn 106 [(0,0),(2,0)],.fd (.int .i64),.fd (.int .i64)],[⟨0,49,[.al 1 0],false⟩,ER.b1,⟨2,89,[.al 3 0],false⟩,⟨3,91,[.st 11,.own 0 3,.st 0,.st 0,.st 1,.st 0,.st 0],false⟩]⟩⟩
def Aj.p:Ak:=⟨[(2,Aj.q2)],4,⟨[.own 0 3,.fn 106 [(0,0),(2,0)]],[⟨0,49,[.al 1 0],false⟩,ER.b1,⟨2,89,[.al 3 0],false⟩,⟨3,91,[.st 11,.own 0 3,.st 0,.st 0,.st 1,.st 0,.st 0],false⟩]⟩,⟨[.fd (.int .i64)],[⟨0,49,[.al 1 0],false⟩,ER.b1,⟨2,89,[.al 3 0],false⟩,⟨3,91,[.st 11,.own 0 3,.st 0,.st 0,.st 1,.st 0,.st 0],false⟩]⟩,false,[],[]⟩
theorem Aj.ok:AH Dop.D4 prog 125 Aj.p=true:=by kernel_rfl
def Lf.p:Ak:=⟨[],4,⟨[.fd (.int .i64),.al 0 0,.al 2 0],[⟨0,49,[.al 1 0],false⟩,ER.b1,⟨2,89,[.al 3 0],false⟩,⟨3,91,[.st 11,.own 0 3,.st 0,.st 0,.st 1,.st 0,.st 0],false⟩]⟩,⟨[.fd .bool],[⟨0,49,[.al 1 0],false⟩,ER.b1,⟨2,89,[.al 3 0],false⟩,⟨3,91,[.st 11,.own 0 3,.st 0,.st 0,.st 1,.st 0,.st 0],false⟩]⟩,false,[],[]⟩
theorem Lf.ok:AH Dop.D4 prog 106 Lf.p=true:=by kernel_rfl
abbrev Cy.T:Type:=(((Unit×Int×Unit×Unit)×(ER×EF×Unit))->Option ((Bool×Unit)×(ER×EF×Unit)))×(((List Int×Unit×Unit)×((Unit×Unit)×ER×(Unit×Unit)×EF×Unit))->Option ((Bool×Unit)×((Unit×Unit)×ER×(Unit×Unit)×EF×Unit)))×(((List Int×Unit×Unit)×((Unit×Unit)×ER×(Unit×Unit)×EF×Unit))->Option ((Int×Unit)×((Unit×Unit)×ER×(Unit×Unit)×EF×Unit)))×(((Int×Unit×Unit×Unit)×((Unit×Unit)×ER×(Unit×Unit)×EF×Unit))->Option ((Bool×Unit)×((Unit×Unit)×ER×(Unit×Unit)×EF×Unit)))×Unit
def Fe.p:Ak:=⟨[],1,⟨[.al 0 0],[ER.b0]⟩,⟨[.fd .bool],[ER.b0]⟩,false,[],[]⟩
theorem Fe.ok:AH Dop.D4 prog 32 Fe.p=true:=by kernel_rfl
def Fq.p:Ak:=⟨[],0,⟨[.fd (.int .i64)],[]⟩,⟨[.fd (.int .i64)],[]⟩,true,[],[]⟩
theorem Fq.ok:AH Dop.D4 prog 190 Fq.p=true:=by kernel_rfl
def Dm.p:Ak:=⟨[],0,⟨[.fd (.int .i64)],[]⟩,⟨[.fd (.int .i64),.fd .bool],[]⟩,true,[],[]⟩
theorem Dm.ok:AH Dop.D4 prog 191 Dm.p=true:=by kernel_rfl
abbrev EC.q3:Cut:=⟨[[0,0,1,2,0,1],[0,1,1,2,0,1],[3,0,1]],[],0,⟨[],[]⟩⟩
def EC.p:Ak:=⟨[(3,EC.q3)],0,⟨[.fd (.int .i64),.fd (.int .i64)],[]⟩,⟨[.fd (.int .i64),.fd (.int .i64),.fd .bool],[]⟩,true,[(2,⟨[(0,true),(1,true),(2,true),(3,true),(4,true),(5,true),(6,true),(7,true),(8,true)],[],[0,0,3,0,0,24,7,127,255],false⟩)],[]⟩
theorem EC.ok:AH Dop.D4 prog 192 EC.p=true:=by kernel_rfl
def Gh.p:Ak:=⟨[],0,⟨[.fd .bool],[]⟩,⟨[.fd (.int .i64)],[]⟩,true,[],[]⟩
theorem Gh.ok:AH Dop.D4 prog 193 Gh.p=true:=by kernel_rfl
abbrev A0.nw:Cut:=⟨[[0,0,0,1,1,1,1,1,1,1,0,1,0,1,1,1],[0,1,0,1,1,1,1,1,1,1,0,1,0,1,1,1],[1,0],[0,1,1,1,1]],[0,1,2],0,⟨[.fd (.int .i64),.fd (.int .i64),.fd (.int .i64)],[]⟩⟩
abbrev A0.fx:Cut:=⟨[[0,0,0,1,1,1,1,1,1,1,1,0,1,0,1,1,1],[0,1,0,1,1,1,1,1,1,1,1,0,1,0,1,1,1],[0,1,1,1,1,1,1,1,1,1,0,1,0,1,1,1],[1,0],[0,1,1,1,1]],[0,1,2,8,19],0,⟨[.fd (.int .i64),.fd (.int .i64),.fd (.int .i64),.fn 191 [],.fd (.int .i64)],[]⟩⟩
abbrev A0.fw:Cut:=⟨[[0,0,1,1,0,1,1,1,1,1,1,1,0,1,0,1,1,1],[0,1,1,1,0,1,1,1,1,1,1,1,0,1,0,1,1,1],[1,0],[0,1,1,1,1]],[9,11],0,⟨[.fd (.int .i64),.fd .bool],[]⟩⟩
abbrev A0.kH:Cut:=⟨[[0,0,0,1,1,1,1,1,1,1,1,1,0,1,0,1,1,1],[0,1,0,1,1,1,1,1,1,1,1,1,0,1,0,1,1,1],[1,0],[0,1,1,1,1]],[0,1,2],0,⟨[.fd (.int .i64),.fd (.int .i64),.fd (.int .i64)],[]⟩⟩
abbrev A0.kI:Cut:=⟨[[0,0,1,1,1,1,1,1,1,1,1,1,0,1,0,1,1,1],[0,1,1,1,1,1,1,1,1,1,1,1,0,1,0,1,1,1],[1,0],[0,1,1,1,1]],[1,2,8,19],0,⟨[.fd (.int .i64),.fd (.int .i64),.fn 191 [],.fd (.int .i64)],[]⟩⟩
abbrev A0.mA:Cut:=⟨[[0,0,1,1,0,1,1,1,1,1,1,1,1,1,0,1,0,1,1,1],[0,1,1,1,0,1,1,1,1,1,1,1,1,1,0,1,0,1,1,1],[1,0],[0,1,1,1,1]],[12,14],0,⟨[.fd (.int .i64),.fd .bool],[]⟩⟩
def A0.p:Ak:=⟨[(12,A0.nw),(16,A0.fx),(15,A0.fw),(18,A0.kH),(22,A0.kI),(21,A0.mA)],0,⟨[.fd (.int .i64),.fd (.int .i64),.fd (.int .i64)],[]⟩,⟨[.fd (.int .i64),.fd .bool],[]⟩,true,[],[]⟩
theorem A0.ok:AH Dop.D4 prog 161 A0.p=true:=by kernel_rfl
def J7.p:Ak:=⟨[],0,⟨[.fd .bool],[]⟩,⟨[.fd (.int .i64)],[]⟩,true,[],[]⟩
theorem J7.ok:AH Dop.D4 prog 130 J7.p=true:=by kernel_rfl
abbrev Iv.q4:Cut:=⟨[[0,0,0,0,1,0,1,1],[0,1,0,0,1,0,1,1],[2,0,0,1,0,1,1],[1,0],[0,1,1,1]],[0,1,12,13],0,⟨[.fd (.sl 3),.fd (.sl 3),.fd (.int .i64),.fd (.int .i64)],[]⟩⟩
def Iv.p:Ak:=⟨[(4,Iv.q4)],0,⟨[.fd (.sl 3),.fd (.sl 3)],[]⟩,⟨[.fd .bool],[]⟩,true,[(6,⟨[(0,true),(1,true),(2,false),(3,false),(4,true),(5,true),(6,false),(7,false),(8,true)],[],[0,0,3,7,0,0,48,112,255],false⟩)],[]⟩
theorem Iv.ok:AH Dop.D4 prog 11 Iv.p=true:=by kernel_rfl
def V1.p:Ak:=⟨[],0,⟨[.st 19,.st 19],[]⟩,⟨[.fd .bool],[]⟩,true,[],[]⟩
theorem V1.ok:AH Dop.D4 prog 6 V1.p=true:=by kernel_rfl
end Go.Proofs.Tryz
namespace Go.Proofs.Tryz
open Go Go.En
abbrev m64.q9:Cut:=⟨[[0,0,0,1,1,1,1,1,1,1,0,1],[0,1,0,1,1,1,1,1,1,1,0,1],[0,1,1,1,1,1,1,1,1,0,1],[3,0,1]],[0,7,8],3,⟨[.al 0 0,.al 1 0,.al 2 0],[ER.b0,⟨1,77,[.st 11],false⟩,EF.b2]⟩⟩
abbrev m64.VF:Cut:=⟨[[0,0,0,1,2,0,1],[0,1,0,1,2,0,1],[0,1,1,2,0,1],[3,0,1]],[0,7,8],3,⟨[.al 0 0,.al 1 0,.al 2 0],[ER.b0,⟨1,77,[.st 11],false⟩,EF.b2]⟩⟩
def m64.p:Ak:=⟨[(9,m64.q9),(100009,m64.VF)],1,⟨[.al 0 0,.fd (.int .i64),.fd (.sl 0)],[ER.b0]⟩,⟨[.fd (.int .i64)],[ER.b0]⟩,false,[(4,⟨[(0,true),(1,true),(2,true),(3,false),(4,true),(5,false),(6,true),(7,true),(8,true),(9,true),(10,false),(11,false),(12,true)],[],[0,1,3,7,0,16,63,0,128,384,896,1920,4095],false⟩),(6,⟨[(0,false),(1,true),(2,false),(3,false),(4,true),(5,true),(6,true),(7,false),(8,true),(9,false),(10,true)],[],[0,0,2,6,0,16,48,112,255,511,1023],false⟩),(8,⟨[(0,true),(1,true),(2,true),(3,false),(4,true),(5,false),(6,true),(7,true),(8,true)],[9],[0,1,3,7,0,16,63,127,255,511],false⟩),(11,⟨[(0,true),(1,true),(2,true),(3,false),(4,true),(5,false),(6,true),(7,true),(8,true)],[9],[0,1,3,7,0,16,63,127,255,511],false⟩)],[]⟩
theorem m64.ok:AH Dop.D4 prog 15 m64.p=true:=by kernel_rfl
def Ct.p:Ak:=⟨[],2,⟨[.al 0 0,.fd (.int .i64),.al 1 0],[ER.b0,EF.b1]⟩,⟨[.fd (.int .i64)],[ER.b0,EF.b1]⟩,false,[],[]⟩
theorem Ct.ok:AH Dop.D4 prog 31 Ct.p=true:=by kernel_rfl
abbrev BA.kH:Cut:=⟨[[0,0,1,1,1,1,1,1,0,1,0,1],[0,1,1,1,1,1,1,1,0,1,0,1],[1,0],[0,1,1]],[0,2,4,11],3,⟨[.al 0 0,.al 1 0,.al 2 0,.fd (.int .i64)],[ER.b0,EF.b1,⟨2,83,[.st 5],false⟩]⟩⟩
abbrev BA.oB:Cut:=⟨[[0,0,0,0,1,1,1,1,1,1,1,1,1,1,1,1,1,1,1,1,1,0,1,0,1],[0,1,0,0,1,1,1,1,1,1,1,1,1,1,1,1,1,1,1,1,1,0,1,0,1],[0,1,0,1,1,1,1,1,1,1,1,1,1,1,1,1,1,1,1,1,0,1,0,1],[1,0],[0,1,1]],[0,2,4],3,⟨[.al 0 0,.al 1 0,.al 2 0],[ER.b0,EF.b1,⟨2,83,[.st 5],false⟩]⟩⟩
abbrev BA.oD:Cut:=⟨[[0,0,1,1,1,1,1,1,1,1,1,1,1,1,1,1,1,1,1,1,0,1,0,1],[0,1,1,1,1,1,1,1,1,1,1,1,1,1,1,1,1,1,1,1,0,1,0,1],[1,0],[0,1,1]],[0,2,4,11],3,⟨[.al 0 0,.al 1 0,.al 2 0,.fd (.int .i64)],[ER.b0,EF.b1,⟨2,83,[.st 5],false⟩]⟩⟩
abbrev BA.oG:Cut:=⟨[[0,0,0,0,1,0,1,1,1,1,1,1,1,1,1,1,1,1,1,1,1,1,1,1,1,1,1,0,1,0,1],[0,1,0,0,1,0,1,1,1,1,1,1,1,1,1,1,1,1,1,1,1,1,1,1,1,1,1,0,1,0,1],[2,0,0,1,0,1,1,1,1,1,1,1,1,1,1,1,1,1,1,1,1,1,1,1,1,1,0,1,0,1],[1,1],[1,0],[0,1,1]],[0,2,182,183,184],2,⟨[.al 0 0,.al 1 0,.own 0 3,.fd (.int .i64),.fd (.int .i64)],[ER.b0,EF.b1]⟩⟩
def BA.p:Ak:=⟨[(18,BA.kH),(35,BA.oB),(38,BA.oD),(42,BA.oG)],2,⟨[.al 0 0,.st 5,.al 1 0],[ER.b0,EF.b1]⟩,⟨[.fd (.int .i64)],[ER.b0,EF.b1]⟩,false,[(30,⟨[(0,true),(1,true),(2,true),(3,false),(4,true),(5,true),(6,true),(7,true),(8,true),(9,false),(10,true),(11,false),(12,true),(13,true)],[],[0,1,3,7,15,31,63,127,255,511,63,1087,4095,8191],false⟩),(35,⟨[(0,true),(1,true),(2,true),(3,false),(4,true),(5,true),(6,true),(7,false),(8,true),(9,true),(10,true),(11,true),(12,false),(13,true),(14,true),(15,true),(16,false),(17,true),(18,true),(19,true),(20,true),(21,true),(22,true),(23,false),(24,true),(25,true),(26,true),(27,false),(28,true),(29,true),(30,true)],[],[0,1,3,7,15,31,63,127,255,511,1023,2047,4095,2047,10239,26623,59391,131071,262143,524287,1048575,2097151,4194303,8388607,16777215,33554431,67108863,134217727,268435455,536870911,1073741823],false⟩),(41,⟨[(0,true),(1,true),(2,true),(3,false),(4,true),(5,false),(6,false),(7,false),(8,true)],[],[0,1,3,7,0,16,63,127,0],true⟩)],[]⟩
theorem BA.ok:AH Dop.D4 prog 63 BA.p=true:=by kernel_rfl
abbrev BB.fw:Cut:=⟨[[0,0,1,1,1,1,1,1,1,1,0,1,0,1,1,1,1],[0,1,1,1,1,1,1,1,1,1,0,1,0,1,1,1,1],[1,0],[0,1,1,1,1,1]],[3,5,7,8,28],5,⟨[.al 2 0,.al 3 0,.al 4 0,.fn 127 [(2,0),(3,0)],.fd (.int .i64)],[ER.b0,EF.b1,⟨2,49,[.al 0 0],false⟩,⟨3,89,[.al 1 0],false⟩,⟨4,83,[.st 5],false⟩]⟩⟩
abbrev BB.kJ:Cut:=⟨[[0,0,1,1,1,1,1,1,1,1,1,1,1,1,0,1,0,1,1,1,1],[0,1,1,1,1,1,1,1,1,1,1,1,1,1,0,1,0,1,1,1,1],[1,0],[0,1,1,1,1,1]],[3,7,8,28],5,⟨[.al 2 0,.al 3 0,.fn 127 [(2,0),(4,0)],.fd (.int .i64)],[ER.b0,EF.b1,⟨2,49,[.al 0 0],false⟩,⟨3,83,[.st 5],false⟩,⟨4,89,[.al 1 0],false⟩]⟩⟩
abbrev BB.oA:Cut:=⟨[[0,0,0,0,1,0,1,0,1,1,1,1,1,1,1,1,1,1,1,1,1,1,1,1,1,1,1,0,1,0,1,1,1,1],[0,1,0,0,1,0,1,0,1,1,1,1,1,1,1,1,1,1,1,1,1,1,1,1,1,1,1,0,1,0,1,1,1,1],[2,0,0,1,0,1,0,1,1,1,1,1,1,1,1,1,1,1,1,1,1,1,1,1,1,1,0,1,0,1,1,1,1],[1,1],[0,1,1,0,1,1,1,1,1,1,1,1,1,1,1,1,1,1,1,1,1,1,1,0,1,0,1,1,1,1],[1,0],[0,1,1,1,1,1]],[3,7,8,10,140,141,142],5,⟨[.al 2 0,.al 3 0,.fn 127 [(2,0),(4,0)],.own 0 3,.own 0 3,.fd (.int .i64),.fd (.int .i64)],[ER.b0,EF.b1,⟨2,49,[.al 0 0],false⟩,⟨3,83,[.st 5],false⟩,⟨4,89,[.al 1 0],false⟩]⟩⟩
def BB.p:Ak:=⟨[(15,BB.fw),(23,BB.kJ),(34,BB.oA)],2,⟨[.al 0 0,.fd (.int .i64),.al 1 0],[ER.b0,EF.b1]⟩,⟨[.fd (.int .i64)],[ER.b0,EF.b1]⟩,false,[(9,⟨[(0,false),(1,true),(2,true),(3,false),(4,true),(5,false),(6,false),(7,false),(8,true)],[],[0,1,3,7,0,16,63,127,255],false⟩),(11,⟨[(0,false),(1,true),(2,true),(3,false),(4,true),(5,false),(6,true),(7,false),(8,true)],[],[0,1,3,7,0,16,63,127,255],false⟩),(18,⟨[(0,false),(1,true),(2,true),(3,false),(4,true),(5,false),(6,true),(7,false)],[8],[0,1,3,7,0,16,0,127,255],false⟩),(33,⟨[(0,false),(1,true),(2,true),(3,false),(4,true),(5,false),(6,false),(7,false),(8,true)],[],[0,1,3,7,0,16,63,127,0],true⟩),(38,⟨[(0,false),(1,false),(2,true),(3,true),(4,false),(5,true),(6,false),(7,false),(8,true),(9,false),(10,true)],[2000003,9000000],[0,0,2,6,14,0,32,126,0,511,1023],true⟩),(43,⟨[(0,false),(1,false),(2,true),(3,true),(4,false),(5,true),(6,true),(7,true)],[8],[0,0,2,6,14,30,63,127,255],false⟩),(48,⟨[(0,false),(1,false),(2,true),(3,true),(4,false),(5,true),(6,true),(7,false),(8,false),(9,true),(10,true)],[11],[0,0,2,6,14,0,32,96,254,511,1023,2047],false⟩)],[]⟩
theorem BB.ok:AH Dop.D4 prog 107 BB.p=true:=by kernel_rfl
def Ge.p:Ak:=⟨[],2,⟨[.al 0 0,.st 5,.al 1 0],[ER.b0,EF.b1]⟩,⟨[.fd (.int .i64)],[ER.b0,EF.b1]⟩,false,[],[(160,[])]⟩
theorem Ge.ok:AH Dop.D4 prog 128 Ge.p=true:=by kernel_rfl
def Ee.p:Ak:=⟨[],4,⟨[.fd (.int .i64),.al 0 0,.al 2 0],[⟨0,49,[.al 1 0],false⟩,ER.b1,⟨2,89,[.al 3 0],false⟩,⟨3,91,[.st 11,.own 0 3,.st 0,.st 0,.st 1,.st 0,.st 0],false⟩]⟩,⟨[.fd (.int .i64)],[⟨0,49,[.al 1 0],false⟩,ER.b1,⟨2,89,[.al 3 0],false⟩,⟨3,91,[.st 11,.own 0 3,.st 0,.st 0,.st 1,.st 0,.st 0],false⟩]⟩,false,[],[]⟩
theorem Ee.ok:AH Dop.D4 prog 127 Ee.p=true:=by kernel_rfl
def Gf.p:Ak:=⟨[],2,⟨[.al 0 0,.st 5,.al 1 0],[ER.b0,EF.b1]⟩,⟨[.fd (.int .i64)],[ER.b0,EF.b1]⟩,false,[],[]⟩
theorem Gf.ok:AH Dop.D4 prog 129 Gf.p=true:=by kernel_rfl
abbrev Aq.q6:Cut:=⟨[[0,0,1,1,1],[0,1,1,1,1]],[0,2,4,7],3,⟨[.al 0 0,.al 1 0,.al 2 0,.fd (.int .i64)],[ER.b0,EF.b1,⟨2,83,[.st 5],false⟩]⟩⟩
abbrev Aq.q7:Cut:=⟨[[0,0,0,0,0,1,1,1,1],[0,1,0,0,0,1,1,1,1],[1,1],[2,0,0,1,1,1,1],[1,0]],[0,2,4,7,8],3,⟨[.al 0 0,.al 1 0,.al 2 0,.fd (.int .i64),.fd .bool],[ER.b0,EF.b1,⟨2,83,[.st 5],false⟩]⟩⟩
abbrev Aq.VE:Cut:=⟨[[0,0,0,1,1,0,0,0,1,1,1,1],[0,1,0,1,1,0,0,0,1,1,1,1],[0,1,1,1,0,0,0,1,1,1,1],[1,1],[2,0,0,1,1,1,1],[1,0]],[0,2,4,7,8,9],3,⟨[.al 0 0,.al 1 0,.al 2 0,.fd (.int .i64),.fd .bool,.fd (.int .i64)],[ER.b0,EF.b1,⟨2,83,[.st 5],false⟩]⟩⟩
abbrev Aq.kI:Cut:=⟨[[0,0,0,1,1,1,0,1,1,0,1,1,1,1,1,0,0,0,1,1,1,1],[0,1,0,1,1,1,0,1,1,0,1,1,1,1,1,0,0,0,1,1,1,1],[1,2],[0,1,1,1,1,1,1,0,0,0,1,1,1,1],[1,1],[2,0,0,1,1,1,1],[1,0]],[10],2,⟨[.fd (.int .i64)],[ER.b0,EF.b1]⟩⟩
abbrev Aq.kJ:Cut:=⟨[[0,0,0,1,1,1,1,1,1,0,0,0,1,1,1,1],[0,1,0,1,1,1,1,1,1,0,0,0,1,1,1,1],[0,1,1,1,1,1,1,1,0,0,0,1,1,1,1],[1,1],[2,0,0,1,1,1,1],[1,0]],[0,2,4,7,8],3,⟨[.al 0 0,.al 1 0,.al 2 0,.fd (.int .i64),.fd .bool],[ER.b0,EF.b1,⟨2,83,[.st 5],false⟩]⟩⟩
abbrev Aq.ny:Cut:=⟨[[0,0,1,1,1,1,1,1,1,0,0,0,1,1,1,1],[0,1,1,1,1,1,1,1,1,0,0,0,1,1,1,1],[1,1],[2,0,0,1,1,1,1],[1,0]],[0,2,4,7,8],3,⟨[.al 0 0,.al 1 0,.al 2 0,.fd (.int .i64),.fd .bool],[ER.b0,EF.b1,⟨2,83,[.st 5],false⟩]⟩⟩
def Aq.p:Ak:=⟨[(6,Aq.q6),(7,Aq.q7),(10,Aq.VE),(22,Aq.kI),(23,Aq.kJ),(25,Aq.ny)],2,⟨[.al 0 0,.st 5,.al 1 0],[ER.b0,EF.b1]⟩,⟨[.fd (.int .i64)],[ER.b0,EF.b1]⟩,false,[],[]⟩
theorem Aq.ok:AH Dop.D4 prog 108 Aq.p=true:=by kernel_rfl
def HW.p:Ak:=⟨[],2,⟨[.al 0 0,.st 5,.al 1 0],[ER.b0,EF.b1]⟩,⟨[.fd (.int .i64)],[ER.b0,EF.b1]⟩,false,[],[]⟩
theorem HW.ok:AH Dop.D4 prog 109 HW.p=true:=by kernel_rfl
abbrev A6.T:Type:=(((Unit×Int×List Int×Unit)×(ER×Unit))->Option ((Int×Unit)×(ER×Unit)))×(((Unit×Int×Unit×Unit)×(ER×EF×Unit))->Option ((Int×Unit)×(ER×EF×Unit)))×(((Unit×Dop.Ab×Unit×Unit)×(ER×EF×Unit))->Option ((Int×Unit)×(ER×EF×Unit)))×(((Unit×Int×Unit×Unit)×(ER×EF×Unit))->Option ((Int×Unit)×(ER×EF×Unit)))×(((Unit×Dop.Ab×Unit×Unit)×(ER×EF×Unit))->Option ((Int×Unit)×(ER×EF×Unit)))×(((Int×Unit×Unit×Unit)×((Unit×Unit)×ER×(Unit×Unit)×EF×Unit))->Option ((Int×Unit)×((Unit×Unit)×ER×(Unit×Unit)×EF×Unit)))×(((Unit×Dop.Ab×Unit×Unit)×(ER×EF×Unit))->Option ((Int×Unit)×(ER×EF×Unit)))×(((Unit×Dop.Ab×Unit×Unit)×(ER×EF×Unit))->Option ((Int×Unit)×(ER×EF×Unit)))×(((Unit×Dop.Ab×Unit×Unit)×(ER×EF×Unit))->Option ((Int×Unit)×(ER×EF×Unit)))×Unit
noncomputable def A6.ct (r:A6.T):List (B2 Dop.D4):=[⟨15,m64.p.bn,m64.p.sp,m64.p.rs,m64.p.flat,.opt (r.1)⟩,⟨31,Ct.p.bn,Ct.p.sp,Ct.p.rs,Ct.p.flat,.opt (r.2.1)⟩,⟨63,BA.p.bn,BA.p.sp,BA.p.rs,BA.p.flat,.opt (r.2.2.1)⟩,⟨107,BB.p.bn,BB.p.sp,BB.p.rs,BB.p.flat,.opt (r.2.2.2.1)⟩,⟨128,Ge.p.bn,Ge.p.sp,Ge.p.rs,Ge.p.flat,.opt (r.2.2.2.2.1)⟩,⟨127,Ee.p.bn,Ee.p.sp,Ee.p.rs,Ee.p.flat,.opt (r.2.2.2.2.2.1)⟩,⟨129,Gf.p.bn,Gf.p.sp,Gf.p.rs,Gf.p.flat,.opt (r.2.2.2.2.2.2.1)⟩,⟨108,Aq.p.bn,Aq.p.sp,Aq.p.rs,Aq.p.flat,.opt (r.2.2.2.2.2.2.2.1)⟩,⟨109,HW.p.bn,HW.p.sp,HW.p.rs,HW.p.flat,.opt (r.2.2.2.2.2.2.2.2.1)⟩]
abbrev F0.q3:Cut:=⟨[[0,0,0,0,1,0,1,1],[0,1,0,0,1,0,1,1],[2,0,0,1,0,1,1],[1,0],[0,1,1,1]],[3,6,7,22,23,24],3,⟨[.al 0 0,.al 1 0,.al 2 0,.fd (.sl 12),.fd (.int .i64),.fd (.int .i64)],[⟨0,37,[.st 13],false⟩,⟨1,26,[.fd (.int .i64),.fd (.int .i64),.own 3 5],false⟩,ER.b2]⟩⟩
def F0.p:Ak:=⟨[(3,F0.q3)],0,⟨[.st 13,.fd (.sl 3),.fd (.int .i64)],[]⟩,⟨[.st 19],[]⟩,false,[(1,⟨[(0,false),(1,false),(2,true),(3,false),(4,true),(5,true),(6,true),(7,true),(8,true),(9,false),(10,true)],[],[0,0,0,4,0,0,32,96,255,511,1023],false⟩),(5,⟨[(0,true),(1,true),(2,true),(3,false),(4,true),(5,false),(6,true),(7,false),(8,false)],[9],[0,1,3,7,0,16,0,64,255,511],false⟩),(10,⟨[(0,true),(1,true),(2,true),(3,false),(4,true),(5,true),(6,true),(7,false),(8,true),(9,true),(10,true),(11,false),(12,true)],[13],[0,1,3,7,0,16,48,112,0,256,768,1792,4095,8191],false⟩)],[]⟩
theorem F0.ok:AH Dop.D4 prog 10 F0.p=true:=by kernel_rfl
end Go.Proofs.Tryz
namespace Go.Proofs.Tryz
open Go Go.En
def OI.p:Ak:=⟨[],0,⟨[.fd .str,.fd (.sl 3),.fd (.int .i64)],[]⟩,⟨[.st 19,.fd (.int .i64)],[]⟩,false,[],[]⟩
theorem OI.ok:AH Dop.D4 prog 5 OI.p=true:=by kernel_rfl
def Ya.p:Ak:=⟨[],0,⟨[],[]⟩,⟨[.fd .bool],[]⟩,true,[],[]⟩
theorem Ya.ok:AH Dop.D4 prog 7 Ya.p=true:=by kernel_rfl
end Go.Proofs.Tryz
