/- States by patterns, operation by operation: for a piece of a function that is gone through by hand. -/
import Derived.Test.YtkpggdcpaeanaaaGreatDoorMo
import Derived.Maps.RangeRun
import Derived.Test.YtkpggdcpaeanaaaGreatDoorMm
namespace Go.En
open Go.RowKit
section
variable {S:Aj} {P:Program} {w0:World} {F D0 D:Nat→Prop} {N:Nat→Prop} {β:Nat→Nm} {a:Act} {w:World}
theorem W5 {tb:List (Nat×TI)} (htb:AT S P tb) {s s':St S} (hg:G w0 F D0 D s N β a w) {all:Array Oper} {o:Oper} {r:List Oper} {Q:Exit→Act→World→Prop} (hgd:o.guard=none) {c:Option Bool} {x:SV} (he:evalOp tb s o.op=.val c x) (hc:CG c) (hp:s.put o.dst x=some s')
  (hQ: ∀ a',G w0 F D0 D s' N β a' w→wpList P all Q r a' w):wpList P all Q (o::r) a w:=by
 have h:=BP htb hg o
 rw [he] at h
 obtain ⟨h1,h2⟩:=h hc
 unfold wpList
 rw [if_pos (by simp [Region.wanted,hgd])]
 exact .inl (Ad h1 (hQ _ (hg.put h2 hp)))
def GZ (q:Spec) (ts:List Nat) (k bn:Nat) (s:St S):Option (q.D S×List (Nat×Nat)):=match FZ s ts with
 | some us=>match q.parse true us s.o (PX k) bn with
  | some (y,ps)=>some (y,ps.m)
  | none=>none
 | none=>none
structure HX (S:Aj) (w0:World) (F D0:Nat→Prop) (q:Spec) (ts:List Nat) (bn:Nat) (β1:Nat→Nm) (sz:Nat) (y:q.D S) (r:Nat) (ob:Obj) (a:Act) (W:World):Prop where
 st: ∃ D β vs o n,q.enc y bn=(vs,o,n)∧(∀ i,i<bn→β i=β1 i)∧GH w0 F D0 D o (· <n) β W∧BI (· <n) vs∧bn≤n∧(∀ (j:Nat) t v,ts[j]?=some t→vs[j]?=some v→t<sz∧a.tmps.getD t undef=v.den β)∧(∀ i b,lk o i=some b→¬ (β i).has r)∧¬ D r
 sz:a.tmps.size=sz
 df:a.defers=[]
 it:W.heap[r]?=some ob
theorem HX.g {q:Spec} {ts:List Nat} {bn sz r:Nat} {β1:Nat→Nm} {y:q.D S} {ob:Obj} (h:HX S w0 F D0 q ts bn β1 sz y r ob a w):
  ∃ D β vs o n,q.enc y bn=(vs,o,n)∧(∀ i,i<bn→β i=β1 i)∧bn≤n∧G w0 F D0 D ⟨ts.zip vs,o,n,sz⟩ (· <n) β a w∧(∀ i b,lk o i=some b→¬ (β i).has r)∧¬ D r:=by
 obtain ⟨⟨D,β,vs,o,n,he,hβ,hg,hon,hbn,hts,h1,h2⟩,hsz,hd,hit⟩:=h
 refine ⟨D,β,vs,o,n,he,hβ,hbn,⟨hd,hsz,fun t v ht=>?_,fun t v ht=>?_,hg⟩,h1,h2⟩
 ·obtain ⟨j,j1,j2⟩:=GL ht
  exact ⟨(hts j t v j1 j2).1,Ar.1 hon v (List.mem_of_getElem? j2)⟩
 ·obtain ⟨j,j1,j2⟩:=GL ht
  exact (hts j t v j1 j2).2
theorem GH.clear {W w':World} {D D':Nat→Prop} {o o':List (Nat×Own S)} {N':Nat→Prop} {β β':Nat→Nm} (k:GH W (AG o β) D D' o' N' β' w') {r:Nat} (hr:r<W.heap.size) (h1: ∀ i b,lk o i=some b→¬ (β i).has r) (h2:¬ D r):
  (∀ i b,lk o' i=some b→¬ (β' i).has r)∧¬ D' r∧w'.heap[r]?=W.heap[r]?:=by
 have hb:¬ AG o β r:=fun ⟨i,b,hi,hk⟩=>h1 i b hi hk
 refine ⟨fun i b hi hk=>?_,fun hd=>?_,k.fr.block r hr hb⟩
 ·rcases k.fresh i b r hi hk with h|h
  ·omega
  ·exact hb h
 ·rcases k.JK r hd with h|h|h
  ·exact h2 h
  ·exact hb h
  ·omega
theorem G.hx {q:Spec} {ts:List Nat} {k bn n r:Nat} {y:q.D S} {m:List (Nat×Nat)} {s:St S} {ob:Obj} (hg:G w0 F D0 D s (· <n) β a w) (hk:k≤bn) (hl:GZ q ts k bn s=some (y,m)) (hq:q.okB bn=true)
  (h1: ∀ i b,lk s.o i=some b→¬ (β i).has r) (h2:¬ D r) (hit:w.heap[r]?=some ob):
  ∃ β1:Nat→Nm,(∀ i,i<k→β1 i=β i)∧(∀ i,i<bn→ ∀ j,lk m i=some j→β1 i=β j)∧HX S w0 F D0 q ts bn β1 s.sz y r ob a w:=by
 unfold GZ at hl
 split at hl
 case h_2=>cases hl
 rename_i us hus
 split at hl
 case h_2=>cases hl
 rename_i y' ps hp
 cases hl
 have hr:r<w.heap.size:=(Array.getElem?_eq_some_iff.1 hit).1
 rcases he2:q.enc y bn with ⟨vs',o',n'⟩
 obtain ⟨β'',b1,b2,b3,b4,b5,_,_,b8,_⟩:=Spec.B1 hg.gh.base hp hq he2
 obtain ⟨t1,t2,t3⟩:=Eo hg hus
 have hlv:vs'.length=us.length:=by have:=congrArg List.length b3;rw [AF,AF] at this;exact this.symm
 obtain ⟨c1,c2,c3⟩:=GH.clear b2 hr h1 h2
 refine ⟨β'',fun i hi=>b1 i (Nat.lt_of_lt_of_le hi hk) i (b8 i i (GK hi)),b1,⟨⟨_,β'',vs',o',n',he2,fun i hi=>rfl,hg.gh.comp b2,b4,b5,fun j t v hj hv=>?_,c1,c2⟩,hg.size,hg.defers,hit⟩⟩
 have hju:j<us.length:=by rw [←hlv];exact (List.getElem?_eq_some_iff.1 hv).1
 obtain ⟨t4,t5⟩:=t3 j t _ hj (List.getElem?_eq_getElem hju)
 refine ⟨t4,?_⟩
 rw [t5]
 have h6:=congrArg (fun l:List Value=>l[j]?) b3
 simp only [Bz,List.getElem?_eq_getElem hju,hv,Option.map_some,Option.some.injEq] at h6
 exact h6
theorem HX.re {q:Spec} {ts:List Nat} {bn sz r:Nat} {β1 β2:Nat→Nm} {y:q.D S} {ob:Obj} (h:HX S w0 F D0 q ts bn β1 sz y r ob a w) (he: ∀ i,i<bn→β1 i=β2 i):HX S w0 F D0 q ts bn β2 sz y r ob a w:=by
 obtain ⟨⟨D,β,vs,o,n,h1,h2,h3⟩,hsz,hd,hit⟩:=h
 exact ⟨⟨D,β,vs,o,n,h1,fun i hi=>(h2 i hi).trans (he i hi),h3⟩,hsz,hd,hit⟩
theorem G.Fq {q:Spec} {ts:List Nat} {bn n r:Nat} {β1:Nat→Nm} {y:q.D S} {m:List (Nat×Nat)} {s:St S} {ob:Obj} (hg:G w0 F D0 D s (· <n) β a w) (hβ: ∀ i,i<bn→β i=β1 i) (hl:GZ q ts bn bn s=some (y,m)) (hq:q.okB bn=true)
  (h1: ∀ i b,lk s.o i=some b→¬ (β i).has r) (h2:¬ D r) (hit:w.heap[r]?=some ob):HX S w0 F D0 q ts bn β1 s.sz y r ob a w:=by
 obtain ⟨β2,k1,_,k3⟩:=hg.hx (Nat.le_refl _) hl hq h1 h2 hit
 exact k3.re fun i hi=>(k1 i hi).trans (hβ i hi)
theorem HX.fv {E:Env S} (hE:E.Ok P) {f0:Nat} {all:Array Oper} {sp qe:Spec} {ts ts':List Nat} {bn r:Nat} {β1:Nat→Nm} {ob:Obj} (hqe:qe.okB bn=true) (hlen:ts'.length=qe.as.length) {x:sp.D S} {y:qe.D S}
  (hev:(F0 E f0 all sp qe ts ts' bn x).eval (fun _ _=>none)=some y) (hkp:BJ S w0 F D0) (hh:HX S w0 F D0 sp ts bn β1 E.sz x r ob a w) {Q:Exit→Act→World→Prop}
  (hQ: ∀ a' W',HX S w0 F D0 qe ts' bn β1 E.sz y r ob a' W'→Q .normal a' W'):wpList P all Q all.toList a w:=by
 obtain ⟨⟨D,β,vs,o,n,he,hβ,hg,hon,hbn,hts,h1,h2⟩,hsz,hd,hit⟩:=hh
 have hr:r<w.heap.size:=(Array.getElem?_eq_some_iff.1 hit).1
 refine Dv hE hqe hlen hev (hg.keeps hkp) ⟨⟨D,β,vs,o,n,he,hβ,hg.base,hon,hbn,hts⟩,hsz⟩ fun a' W' hd' hh'=>hQ a' W' ?_
 obtain ⟨⟨D',β',vs',o',n',he',hβ',hg',hon',hbn',hts'⟩,hsz'⟩:=hh'
 obtain ⟨c1,c2,c3⟩:=GH.clear hg' hr h1 h2
 exact ⟨⟨D',β',vs',o',n',he',hβ',hg.comp hg',hon',hbn',hts',c1,c2⟩,hsz',hd'.trans hd,c3.trans hit⟩
theorem HX.Jv {q:Spec} {ts:List Nat} {bn sz r:Nat} {β1:Nat→Nm} {y:q.D S} {ob:Obj} (h:HX S w0 F D0 q ts bn β1 sz y r ob a w) {w1:World} (hw:w1=w∨w1=w.drew) (h0:w0.heap.size≤r) (ob':Obj):HX S w0 F D0 q ts bn β1 sz y r ob' a (Go.ChangeMaps.setBlock w1 r ob'):=by
 obtain ⟨⟨D,β,vs,o,n,he,hβ,hg,hon,hbn,hts,h1,h2⟩,hsz,hd0,hit⟩:=h
 have hg1:GH w0 F D0 D o (· <n) β w1:=by
  rcases hw with rfl|rfl
  ·exact hg
  ·exact hg.step (Below.refl _ w).drew
 have hr:r<w1.heap.size:=by
  have:=(Array.getElem?_eq_some_iff.1 hit).1
  rcases hw with rfl|rfl<;>exact this
 refine ⟨⟨D,β,vs,o,n,he,hβ,hg1.putObj ob' h1 h2 h0,hon,hbn,hts,h1,h2⟩,hsz,hd0,?_⟩
 show (w1.heap.setIfInBounds r ob')[r]?=_
 simp [Array.getElem?_setIfInBounds,hr]
end
end Go.En
/- core.function's range over its gotos: which of them stands first, in whatever order they come (plain). -/
set_option maxRecDepth 100000
namespace Go.Proofs
open Go Go.En
def Kb (k:CK) (n:Int):Int:=if n<0 then 0 else if (I k.t.nodes.length)≤n then 0 else (k.t.nodes.getD n.toNat En.Dop.d5).at_
def U6 (k:CK) (e:List UInt8×Int):Bool:=decide ((AL k.labels e.1).getD 0=0)
def H5 (k:CK) (f:Int) (e:List UInt8×Int):Int:=if (U6 k e && (decide (f<0) || decide (Kb k e.2<Kb k f)))=true then e.2 else f
def Kd (k:CK):Int:=k.gotos.foldl (H5 k) (-1)
def TG (k:CK) (V:Nat→Prop) (f:Int):Prop:=
 (f= -1∧ ∀ j x,V j→k.gotos[j]?=some x→U6 k x=false)∨
 ∃ j x,V j∧k.gotos[j]?=some x∧U6 k x=true∧f=x.2∧ ∀ j' x',V j'→k.gotos[j']?=some x'→U6 k x'=true→Kb k f≤Kb k x'.2
def PN (k:CK):Prop:= ∀ x∈k.gotos,(0:Int)≤x.2
theorem TG.congr {k:CK} {V V':Nat→Prop} {f:Int} (h:TG k V f) (hV: ∀ j,j<k.gotos.length→(V j↔V' j)):TG k V' f:=by
 have hl: ∀ {j:Nat} {x},k.gotos[j]?=some x→j<k.gotos.length:=fun h=>(List.getElem?_eq_some_iff.1 h).1
 rcases h with ⟨h1,h2⟩|⟨j,x,h1,h2,h3,h4,h5⟩
 ·exact .inl ⟨h1,fun j x hj hx=>h2 j x ((hV j (hl hx)).2 hj) hx⟩
 ·exact .inr ⟨j,x,(hV j (hl h2)).1 h1,h2,h3,h4,fun j' x' hj hx hu=>h5 j' x' ((hV j' (hl hx)).2 hj) hx hu⟩
theorem TG.step {k:CK} {V:Nat→Prop} {f:Int} (hp:PN k) (h:TG k V f) {j:Nat} {x:List UInt8×Int} (hx:k.gotos[j]?=some x):TG k (fun i=>V i∨i=j) (H5 k f x):=by
 have hpos: ∀ {j:Nat} {x},k.gotos[j]?=some x→(0:Int)≤x.2:=fun h=>hp _ (List.mem_of_getElem? h)
 unfold H5
 by_cases hu:U6 k x=true
 ·rw [hu]
  rcases h with ⟨rfl,h2⟩|⟨j0,x0,h1,h2,h3,rfl,h5⟩
  ·rw [if_pos (by simp)]
   refine .inr ⟨j,x,.inr rfl,hx,hu,rfl,fun j' x' hj Fq hu'=>?_⟩
   rcases hj with hj|rfl
   ·rw [h2 j' x' hj Fq] at hu';cases hu'
   ·rw [hx] at Fq;cases Fq;exact Int.le_refl _
  ·have h0:=hpos h2
   by_cases hlt:Kb k x.2<Kb k x0.2
   ·rw [if_pos (by simp [hlt])]
    refine .inr ⟨j,x,.inr rfl,hx,hu,rfl,fun j' x' hj Fq hu'=>?_⟩
    rcases hj with hj|rfl
    ·have:=h5 j' x' hj Fq hu';omega
    ·rw [hx] at Fq;cases Fq;exact Int.le_refl _
   ·rw [if_neg (by simp [hlt];omega)]
    refine .inr ⟨j0,x0,.inl h1,h2,h3,rfl,fun j' x' hj Fq hu'=>?_⟩
    rcases hj with hj|rfl
    ·exact h5 j' x' hj Fq hu'
    ·rw [hx] at Fq;cases Fq;omega
 ·have hu:U6 k x=false:=by simpa using hu
  rw [hu,if_neg (by simp)]
  rcases h with ⟨h1,h2⟩|⟨j0,x0,h1,h2,h3,h4,h5⟩
  ·refine .inl ⟨h1,fun j' x' hj Fq=>?_⟩
   rcases hj with hj|rfl
   ·exact h2 j' x' hj Fq
   ·rw [hx] at Fq;cases Fq;exact hu
  ·refine .inr ⟨j0,x0,.inl h1,h2,h3,h4,fun j' x' hj Fq hu'=>?_⟩
   rcases hj with hj|rfl
   ·exact h5 j' x' hj Fq hu'
   ·rw [hx] at Fq;cases Fq;rw [hu] at hu';cases hu'
theorem VF {k:CK} (hp:PN k):TG k (fun _=>True) (Kd k):=by
 have key: ∀ n,n≤k.gotos.length→TG k (fun j=>j<n) ((k.gotos.take n).foldl (H5 k) (-1)):=by
  intro n
  induction n with
  | zero=>exact fun _=>.inl ⟨rfl,fun j x hj=>absurd hj (Nat.not_lt_zero _)⟩
  | succ n ih=>
   intro hn
   have hx:k.gotos[n]?=some k.gotos[n]:=List.getElem?_eq_getElem (by omega)
   rw [List.take_add_one,hx]
   simp only [Option.toList,List.foldl_append,List.foldl_cons,List.foldl_nil]
   exact ((ih (by omega)).step hp hx).congr fun j _=>by omega
 have:=key k.gotos.length (Nat.le_refl _)
 rw [List.take_length] at this
 exact this.congr fun j hj=>by simp [hj]
theorem TG.uniq {k:CK} {f f':Int} (hp:PN k) (h:TG k (fun _=>True) f) (h':TG k (fun _=>True) f'):(f=f'∧f= -1)∨(0≤f∧0≤f'∧Kb k f=Kb k f'):=by
 have hpos: ∀ {j:Nat} {x},k.gotos[j]?=some x→(0:Int)≤x.2:=fun h=>hp _ (List.mem_of_getElem? h)
 rcases h with ⟨h1,h2⟩|⟨j,x,-,h2,h3,h4,h5⟩<;>rcases h' with ⟨k1,k2⟩|⟨j',x',-,k2,k3,k4,k5⟩
 ·exact .inl ⟨h1.trans k1.symm,h1⟩
 ·rw [h2 j' x' trivial k2] at k3;cases k3
 ·rw [k2 j x trivial h2] at h3;cases h3
 ·have a1:=h5 j' x' trivial k2 k3
  have a2:=k5 j x trivial h2 h3
  refine .inr ⟨h4▸hpos h2,k4▸hpos k2,?_⟩
  rw [←k4] at a1;rw [←h4] at a2;omega
def fi (mf:Int→CK→CT→Option ((En.Dop.AZ×Unit)×(CK×CT×Unit))) (x:(Unit×List Int×Int×Unit)×(CK×CT×Unit)):Option ((Unit×List Int×Int×Unit)×(CK×CT×Unit)):=
 if (x.2.1.gotos.all fun e=>decide (0≤e.2))=true then
  if (decide (0≤Kd x.2.1))=true then (mf (Kd x.2.1) x.2.1 x.2.2.1).bind fun y=>some (x.1,(y.2.1,(y.2.2.1,()))) else some x
 else none
end Go.Proofs
/- core.function's range over its gotos: the code, and one round. -/
set_option maxRecDepth 100000
namespace Go.En
open Go.RowKit
section
variable {S:Aj} {P:Program} {w0:World} {F D0 D:Nat→Prop} {N:Nat→Prop} {β:Nat→Nm} {a:Act} {w:World}
def St.pu (s:St S) (d:Nat) (x:SV):St S:={ s with t:=pt s.t d x }
theorem Cf {tb:List (Nat×TI)} (htb:AT S P tb) {s:St S} (hg:G w0 F D0 D s N β a w) {all:Array Oper} {o:Oper} {r:List Oper} {Q:Exit→Act→World→Prop} {d:Nat} (hgd:o.guard=none) (hd:o.dst=some d) (hds:d<s.sz) {x:SV} (he:evalOp tb s o.op=.val none x)
  (hQ: ∀ a',G w0 F D0 D (s.pu d x) N β a' w→wpList P all Q r a' w):wpList P all Q (o::r) a w:=
 W5 htb hg hgd he trivial (s':=s.pu d x) (by rw [hd,St.E6,if_pos (by omega)];rfl) hQ
end
end Go.En
namespace Go.Proofs
open Go Go.En Go.RowKit
@[reducible] noncomputable def XZ:Code:=BB (AM Tryz.prog 78) [1,1,1,1,1,1,1,1,1,1,1,1]
@[reducible] noncomputable def PM:Code:=BB XZ [0,0,1,0]
@[reducible] noncomputable def fj:Code:=BB XZ [1,1]
noncomputable def LZ:Array Oper:=IL (BB (AM Tryz.prog 78) [0,1,1,1,1,1,1,1,1,1,1,1])
noncomputable def C9:Array Oper:=IL (BB XZ [0,0])
noncomputable def FI:Array Oper:=IL (BB PM [0])
noncomputable def DA:Array Oper:=IL (BB PM [0,0,1,1])
noncomputable def U0:Array Oper:=IL (BB PM [0,1,0,1,1])
noncomputable def Ho:Array Oper:=IL (BB PM [0,1,1,0,1,1])
noncomputable def G1:Array Oper:=IL (BB XZ [0,0,1])
noncomputable def SM:Array Oper:=IL (BB XZ [0,1,0,1])
theorem aj:XZ=.seq (.seq (.region 25 C9 false) (.block 2 (.loop PM))) (.seq (.seq (.region 30 G1 false) (.cond (.tmp 215) (.region 31 SM false) .skip)) fj):=by kernel_rfl
theorem Xc:PM=.seq (.region 26 FI false) (.seq (.cond (.tmp 187) .skip (.exit 2)) (.block 3 (.seq (.region 27 DA false) (.seq (.region 28 U0 false) (.cond (.tmp 212) (.region 29 Ho false) .skip))))):=by kernel_rfl
noncomputable def Aq (l:Array Oper) (i:Nat):Oper:=l.getD i default
theorem Uw:LZ.toList=[Aq LZ 0]:=by kernel_rfl
theorem Ux:C9.toList=[Aq C9 0,Aq C9 1,Aq C9 2,Aq C9 3,Aq C9 4]:=by kernel_rfl
theorem Uy:FI.toList=[Aq FI 0,Aq FI 1]:=by kernel_rfl
theorem Uz:DA.toList=[Aq DA 0,Aq DA 1,Aq DA 2,Aq DA 3,Aq DA 4]:=by kernel_rfl
theorem U1:Ho.toList=[Aq Ho 0,Aq Ho 1]:=by kernel_rfl
theorem U2:G1.toList=[Aq G1 0,Aq G1 1]:=by kernel_rfl
theorem Nx:(Aq FI 0).op=.next (.tmp 185) false∧(Aq FI 0).dst=some 186∧(Aq FI 0).guard=none:=⟨by kernel_rfl,by kernel_rfl,by kernel_rfl⟩
theorem Nw:(Aq DA 0).op=.entry (.tmp 185)∧(Aq DA 0).dst=some 188∧(Aq DA 0).guard=none:=⟨by kernel_rfl,by kernel_rfl,by kernel_rfl⟩
theorem Ny:(Aq C9 4).op=.range 132 (.tmp 184)∧(Aq C9 4).dst=some 185∧(Aq C9 4).guard=none:=⟨by kernel_rfl,by kernel_rfl,by kernel_rfl⟩
@[reducible] def gO:HO:=⟨0,135,[.st 7,.al 1 0,.own 0 3,.own 11 52,.own 12 32,.st 0,.own 5 56,.mr .str 9 true 129,.mp .str 15 true,.rm 2,.st 11,.st 0,.rm 3,.rm 4,.st 0,.mr (.int .i64) 0 false 217,.st 0,.fd (.int .i64),.st 0],false⟩
@[reducible] def Xa:List HO:=[gO,CT.b1,⟨2,0,[.mp .str 0 false],true⟩,⟨3,0,[.mp .str 0 false],true⟩,⟨4,0,[.mp .str 0 false],true⟩]
@[reducible] def ai:List CW:=[.al 0 0,.own 0 3,.fd (.int .i64),.fd (.int .i64),.al 5 0]
@[reducible] def PO:En.Spec:=⟨ai,Xa⟩
@[reducible] def Nz:List Nat:=[0,6,15,16,185]
@[reducible] def RF:En.Spec:=⟨ai++[.fd .str,.fd (.int .i64)],Xa⟩
@[reducible] def Xd:List Nat:=Nz++[17,18]
@[reducible] def TZ:En.Spec:=⟨ai++[.fd (.int .i64),.fd .bool],Xa⟩
@[reducible] def Xe:List Nat:=Nz++[18,212]
def gP (k:CK) (k1:CT):BT En.Dop.D4 Xa:=((k.t,(),k.num,k.funcs,k.globals,k.top,k.nodes,k.names,k.sigs,(),k.f,k.BO,(),(),k.loops,k.A8,k.GA,k.e,k.when,()),k1,(k.taken,()),(k.labels,()),(k.gotos,()),())
def RH (t6:List Int) (t15 f:Int) (k:CK) (k1:CT):PO.D En.Dop.D4:=(((),t6,t15,f,(),()),gP k k1)
def Xf (t6:List Int) (t15 f:Int) (e:List UInt8×Int) (k:CK) (k1:CT):RF.D En.Dop.D4:=(((),t6,t15,f,(),e.1,e.2,()),gP k k1)
def Xg (t6:List Int) (t15 f n:Int) (b:Bool) (k:CK) (k1:CT):TZ.D En.Dop.D4:=(((),t6,t15,f,(),n,b,()),gP k k1)
theorem RI {W:World} {D:Nat→Prop} {b:Nat} {l:List (List UInt8×Int)} (h:En.MapAt En.Dop.D4 W D .str 0 false b l):
  ∃ es:Array MapEntry,W.heap[b]?=some (.map es es.size)∧es.size=l.length∧ ∀ (j:Nat) (e:MapEntry),es[j]?=some e→ ∃ x,l[j]?=some x∧e=⟨.string ⟨⟨x.1⟩⟩,.int .i64 x.2,j⟩:=by
 obtain ⟨es,h1,h2,h3⟩:=h
 refine ⟨es,h1,h2,fun j e he=>?_⟩
 have hj:j<l.length:=by rw [←h2];exact (Array.getElem?_eq_some_iff.1 he).1
 obtain ⟨h4,h5,vs,h6,h7⟩:=h3 j l[j] e (List.getElem?_eq_getElem hj) he
 refine ⟨l[j],List.getElem?_eq_getElem hj,?_⟩
 have h7:AE En.Dop.D4 W D [.int .i64 l[j].2] vs:=h7
 obtain ⟨v1,r1,rfl,h8,h9⟩:=h7.Cz
 cases h8
 have:=h9.1
 cases r1 with
 | cons _ _=>simp at this
 | nil=>
  cases e
  simp only at h4 h5 h6
  subst h4
  rw [h5,h6]
  rfl
end Go.Proofs
/- core.function's range over its gotos: one round. -/
set_option maxRecDepth 100000
namespace Go.Proofs
open Go Go.En Go.RowKit
@[reducible] noncomputable def dX:Ak:=⟨[],6,RF,TZ,false,[],[]⟩
noncomputable def dW:Env En.Dop.D4:=Az Tryz.prog 78 Tryz.tb [Tryz.Cr.c] dX
theorem ak:dW.Ok Tryz.prog:=(EZ (p:=dX) (ct:=[Tryz.Cr.c]) Tryz.AJ (Af Tryz.Cr.holds Bb) (by kernel_rfl)).1
theorem Us:dW.sz=246:=by kernel_rfl
theorem da {t6:List Int} {t15 f:Int} {k:CK} {k1:CT} {vs:List SV} {o:List (Nat×En.Own En.Dop.D4)} {n:Nat} (h:PO.enc (S:=En.Dop.D4) (RH t6 t15 f k k1) 6=(vs,o,n)):lk o 4=some (.mp .str 0 false k.gotos)∧lk (Nz.zip vs) 185=some (.ptr 5 0):=by
 cases h
 exact ⟨by kernel_rfl,by kernel_rfl⟩
@[reducible] noncomputable def SN (vs:List SV) (o:List (Nat×En.Own En.Dop.D4)) (n:Nat):St En.Dop.D4:=⟨Nz.zip vs,o,n,246⟩
theorem dh {t6:List Int} {t15 f:Int} {k:CK} {k1:CT} {vs:List SV} {o:List (Nat×En.Own En.Dop.D4)} {n:Nat} (h:PO.enc (S:=En.Dop.D4) (RH t6 t15 f k k1) 6=(vs,o,n)):evalOp Tryz.tb ((SN vs o n).pu 186 (.F6 [.b false])) (Aq FI 1).op=.val none (.b false):=by
 cases h
 kernel_rfl
theorem di (e:List UInt8×Int) {t6:List Int} {t15 f:Int} {k:CK} {k1:CT} {vs:List SV} {o:List (Nat×En.Own En.Dop.D4)} {n:Nat} (h:PO.enc (S:=En.Dop.D4) (RH t6 t15 f k k1) 6=(vs,o,n)):evalOp Tryz.tb ((SN vs o n).pu 186 (.F6 [.b true,.v (.string ⟨⟨e.1⟩⟩),.v (.int .i64 e.2)])) (Aq FI 1).op=.val none (.b true):=by
 cases h
 kernel_rfl
@[reducible] noncomputable def RG (vs:List SV) (o:List (Nat×En.Own En.Dop.D4)) (n:Nat) (e:List UInt8×Int):St En.Dop.D4:=(((SN vs o n).pu 186 (.F6 [.b true,.v (.string ⟨⟨e.1⟩⟩),.v (.int .i64 e.2)])).pu 187 (.b true)).pu 188 (.F6 [.v (.string ⟨⟨e.1⟩⟩),.v (.int .i64 e.2)])
@[reducible] noncomputable def gQ (vs:List SV) (o:List (Nat×En.Own En.Dop.D4)) (n:Nat) (e:List UInt8×Int):St En.Dop.D4:=(((((RG vs o n e).pu 189 (.v (.string ⟨⟨e.1⟩⟩))).pu 190 (.v (.int .i64 e.2))).pu 17 (.v (.string ⟨⟨e.1⟩⟩))).pu 18 (.v (.int .i64 e.2)))
theorem dj {t6:List Int} {t15 f:Int} {e:List UInt8×Int} {k:CK} {k1:CT} {vs:List SV} {o:List (Nat×En.Own En.Dop.D4)} {n:Nat} (h:PO.enc (S:=En.Dop.D4) (RH t6 t15 f k k1) 6=(vs,o,n)):evalOp Tryz.tb (RG vs o n e) (Aq DA 1).op=.val none (.v (.string ⟨⟨e.1⟩⟩)):=by
 cases h
 kernel_rfl
theorem dk {t6:List Int} {t15 f:Int} {e:List UInt8×Int} {k:CK} {k1:CT} {vs:List SV} {o:List (Nat×En.Own En.Dop.D4)} {n:Nat} (h:PO.enc (S:=En.Dop.D4) (RH t6 t15 f k k1) 6=(vs,o,n)):evalOp Tryz.tb ((RG vs o n e).pu 189 (.v (.string ⟨⟨e.1⟩⟩))) (Aq DA 2).op=.val none (.v (.int .i64 e.2)):=by
 cases h
 kernel_rfl
theorem dm {t6:List Int} {t15 f:Int} {e:List UInt8×Int} {k:CK} {k1:CT} {vs:List SV} {o:List (Nat×En.Own En.Dop.D4)} {n:Nat} (h:PO.enc (S:=En.Dop.D4) (RH t6 t15 f k k1) 6=(vs,o,n)):evalOp Tryz.tb (((RG vs o n e).pu 189 (.v (.string ⟨⟨e.1⟩⟩))).pu 190 (.v (.int .i64 e.2))) (Aq DA 3).op=.val none (.v (.string ⟨⟨e.1⟩⟩)):=by
 cases h
 kernel_rfl
theorem dn {t6:List Int} {t15 f:Int} {e:List UInt8×Int} {k:CK} {k1:CT} {vs:List SV} {o:List (Nat×En.Own En.Dop.D4)} {n:Nat} (h:PO.enc (S:=En.Dop.D4) (RH t6 t15 f k k1) 6=(vs,o,n)):evalOp Tryz.tb ((((RG vs o n e).pu 189 (.v (.string ⟨⟨e.1⟩⟩))).pu 190 (.v (.int .i64 e.2))).pu 17 (.v (.string ⟨⟨e.1⟩⟩))) (Aq DA 4).op=.val none (.v (.int .i64 e.2)):=by
 cases h
 kernel_rfl
theorem SP:(Aq FI 1).dst=some 187∧(Aq FI 1).guard=none:=⟨by kernel_rfl,by kernel_rfl⟩
theorem Ys:(Aq DA 1).dst=some 189∧(Aq DA 1).guard=none:=⟨by kernel_rfl,by kernel_rfl⟩
theorem Yt:(Aq DA 2).dst=some 190∧(Aq DA 2).guard=none:=⟨by kernel_rfl,by kernel_rfl⟩
theorem Yu:(Aq DA 3).dst=some 17∧(Aq DA 3).guard=none:=⟨by kernel_rfl,by kernel_rfl⟩
theorem Yv:(Aq DA 4).dst=some 18∧(Aq DA 4).guard=none:=⟨by kernel_rfl,by kernel_rfl⟩
theorem Yw:(Aq Ho 0).dst=some 213∧(Aq Ho 0).guard=none:=⟨by kernel_rfl,by kernel_rfl⟩
theorem Yx:(Aq Ho 1).dst=some 16∧(Aq Ho 1).guard=none:=⟨by kernel_rfl,by kernel_rfl⟩
theorem dc {t6:List Int} {t15 f:Int} {e:List UInt8×Int} {k:CK} {k1:CT} {vs:List SV} {o:List (Nat×En.Own En.Dop.D4)} {n:Nat} (h:PO.enc (S:=En.Dop.D4) (RH t6 t15 f k k1) 6=(vs,o,n)):(GZ RF Xd 6 6 (gQ vs o n e)).map (·.1)=some (Xf t6 t15 f e k k1):=by
 cases h
 kernel_rfl
@[reducible] noncomputable def U5 (vs:List SV) (o:List (Nat×En.Own En.Dop.D4)) (n:Nat):St En.Dop.D4:=⟨Xe.zip vs,o,n,246⟩
theorem db {t6:List Int} {t15 f x:Int} {b:Bool} {k:CK} {k1:CT} {vs:List SV} {o:List (Nat×En.Own En.Dop.D4)} {n:Nat} (h:TZ.enc (S:=En.Dop.D4) (Xg t6 t15 f x b k k1) 6=(vs,o,n)):lk (Xe.zip vs) 212=some (.b b)∧evalOp Tryz.tb (U5 vs o n) (Aq Ho 0).op=.val none (.v (.int .i64 x))∧evalOp Tryz.tb ((U5 vs o n).pu 213 (.v (.int .i64 x))) (Aq Ho 1).op=.val none (.v (.int .i64 x))∧
  (GZ PO Nz 6 6 (((U5 vs o n).pu 213 (.v (.int .i64 x))).pu 16 (.v (.int .i64 x)))).map (·.1)=some (RH t6 t15 x k k1)∧(GZ PO Nz 6 6 (U5 vs o n)).map (·.1)=some (RH t6 t15 f k k1):=by
 cases h
 exact ⟨by kernel_rfl,by kernel_rfl,by kernel_rfl,by kernel_rfl,by kernel_rfl⟩
theorem Xh {t6:List Int} {t15 f:Int} {k:CK} {k1:CT} {vs:List SV} {o:List (Nat×En.Own En.Dop.D4)} {n:Nat} (h:PO.enc (S:=En.Dop.D4) (RH t6 t15 f k k1) 6=(vs,o,n)):(GZ PO Nz 6 6 (((SN vs o n).pu 186 (.F6 [.b false])).pu 187 (.b false))).map (·.1)=some (RH t6 t15 f k k1):=by
 cases h
 kernel_rfl
theorem JX:PO.okB 6=true∧RF.okB 6=true∧TZ.okB 6=true:=⟨by kernel_rfl,by kernel_rfl,by kernel_rfl⟩
end Go.Proofs
/- core.function's range over its gotos: one round (the walk). -/
set_option maxRecDepth 100000
namespace Go.Proofs
open Go Go.En Go.RowKit
theorem U7 (n:Int) (k:CK) (k1:CT): ∃ x:En.Dop.Aa,Tryz.Cr n k.t k.num k.funcs k.globals k.top k.nodes k.names k.sigs k.f k.BO k.loops k.A8 k.GA k.e k.when k1=some ((x,()),((k.t.nodes,k.t.types,k.t.top,(),k.num,k.funcs,k.globals,k.top,k.nodes,k.names,k.sigs,(),k.f.name,k.f.params,k.f.BH,k.f.frame,k.f.body,k.BO,(),(),k.loops,k.A8,k.GA,k.e,k.when,()),(k1,())))∧x.at_=Kb k n:=by
 rw [Tryz.YC]
 unfold Kb
 by_cases h:n<0
 ·rw [if_pos (by simpa using h),if_pos h];exact ⟨_,rfl,rfl⟩
 ·rw [if_neg (by simpa using h),if_neg h]
  by_cases h2:I k.t.nodes.length≤n
  ·rw [if_pos (by simpa using h2),if_pos h2];exact ⟨_,rfl,rfl⟩
  ·rw [if_neg (by simpa using h2),if_neg h2,if_pos (by simp;omega)];exact ⟨_,rfl,rfl⟩
theorem Xj (t6:List Int) (t15 f:Int) (e:List UInt8×Int) (k:CK) (k1:CT):(F0 dW 3000 U0 RF TZ Xd Xe 6 (Xf t6 t15 f e k k1)).eval (fun _ _=>none)=
 if decide ((AL k.labels e.1).getD 0=0)=true then
  if decide (f<0)=true then some (Xg t6 t15 f e.2 true k k1)
  else (Tryz.Cr e.2 k.t k.num k.funcs k.globals k.top k.nodes k.names k.sigs k.f k.BO k.loops k.A8 k.GA k.e k.when k1).bind fun y=>(Tryz.Cr f (En.Dop.FV.mk y.2.1.1 y.2.1.2.1 y.2.1.2.2.1) y.2.1.2.2.2.2.1 y.2.1.2.2.2.2.2.1 y.2.1.2.2.2.2.2.2.1 y.2.1.2.2.2.2.2.2.2.1 y.2.1.2.2.2.2.2.2.2.2.1 y.2.1.2.2.2.2.2.2.2.2.2.1 y.2.1.2.2.2.2.2.2.2.2.2.2.1 (En.Dop.Db.mk y.2.1.2.2.2.2.2.2.2.2.2.2.2.2.1 y.2.1.2.2.2.2.2.2.2.2.2.2.2.2.2.1 y.2.1.2.2.2.2.2.2.2.2.2.2.2.2.2.2.1 y.2.1.2.2.2.2.2.2.2.2.2.2.2.2.2.2.2.1 y.2.1.2.2.2.2.2.2.2.2.2.2.2.2.2.2.2.2.1) y.2.1.2.2.2.2.2.2.2.2.2.2.2.2.2.2.2.2.2.1 y.2.1.2.2.2.2.2.2.2.2.2.2.2.2.2.2.2.2.2.2.2.2.1 y.2.1.2.2.2.2.2.2.2.2.2.2.2.2.2.2.2.2.2.2.2.2.2.1 y.2.1.2.2.2.2.2.2.2.2.2.2.2.2.2.2.2.2.2.2.2.2.2.2.1 y.2.1.2.2.2.2.2.2.2.2.2.2.2.2.2.2.2.2.2.2.2.2.2.2.2.1 y.2.1.2.2.2.2.2.2.2.2.2.2.2.2.2.2.2.2.2.2.2.2.2.2.2.2.1 y.2.2.1).bind fun z=>some (((),t6,t15,f,(),e.2,decide (y.1.1.at_<z.1.1.at_),()),(((En.Dop.FV.mk z.2.1.1 z.2.1.2.1 z.2.1.2.2.1),(),z.2.1.2.2.2.2.1,z.2.1.2.2.2.2.2.1,z.2.1.2.2.2.2.2.2.1,z.2.1.2.2.2.2.2.2.2.1,z.2.1.2.2.2.2.2.2.2.2.1,z.2.1.2.2.2.2.2.2.2.2.2.1,z.2.1.2.2.2.2.2.2.2.2.2.2.1,(),(En.Dop.Db.mk z.2.1.2.2.2.2.2.2.2.2.2.2.2.2.1 z.2.1.2.2.2.2.2.2.2.2.2.2.2.2.2.1 z.2.1.2.2.2.2.2.2.2.2.2.2.2.2.2.2.1 z.2.1.2.2.2.2.2.2.2.2.2.2.2.2.2.2.2.1 z.2.1.2.2.2.2.2.2.2.2.2.2.2.2.2.2.2.2.1),z.2.1.2.2.2.2.2.2.2.2.2.2.2.2.2.2.2.2.2.1,(),(),z.2.1.2.2.2.2.2.2.2.2.2.2.2.2.2.2.2.2.2.2.2.2.1,z.2.1.2.2.2.2.2.2.2.2.2.2.2.2.2.2.2.2.2.2.2.2.2.1,z.2.1.2.2.2.2.2.2.2.2.2.2.2.2.2.2.2.2.2.2.2.2.2.2.1,z.2.1.2.2.2.2.2.2.2.2.2.2.2.2.2.2.2.2.2.2.2.2.2.2.2.1,z.2.1.2.2.2.2.2.2.2.2.2.2.2.2.2.2.2.2.2.2.2.2.2.2.2.2.1,()),z.2.2.1,(k.taken,()),(k.labels,()),(k.gotos,()),()))
 else some (Xg t6 t15 f e.2 false k k1):=by kernel_rfl
theorem ax (t6:List Int) (t15 f:Int) (e:List UInt8×Int) (k:CK) (k1:CT):(F0 dW 3000 U0 RF TZ Xd Xe 6 (Xf t6 t15 f e k k1)).eval (fun _ _=>none)=some (Xg t6 t15 f e.2 (U6 k e && (decide (f<0) || decide (Kb k e.2<Kb k f))) k k1):=by
 rw [Xj]
 obtain ⟨x,h1,h2⟩:=U7 e.2 k k1
 obtain ⟨x',h1',h2'⟩:=U7 f k k1
 unfold U6
 cases hu:decide ((AL k.labels e.1).getD 0=0) with
 | false=>simp
 | true=>
  cases hf:decide (f<0) with
  | true=>simp
  | false=>
   simp only [if_true,Bool.false_eq_true,if_false,h1,Option.bind_some]
   have:Tryz.Cr f k.t k.num k.funcs k.globals k.top k.nodes k.names k.sigs k.f k.BO k.loops k.A8 k.GA k.e k.when k1=some ((x',()),((k.t.nodes,k.t.types,k.t.top,(),k.num,k.funcs,k.globals,k.top,k.nodes,k.names,k.sigs,(),k.f.name,k.f.params,k.f.BH,k.f.frame,k.f.body,k.BO,(),(),k.loops,k.A8,k.GA,k.e,k.when,()),(k1,()))):=h1'
   simp only [this,Option.bind_some,h2,h2',Bool.true_and,Bool.false_or]
   rfl
end Go.Proofs
/- core.function's range over its gotos: one round, the rounds. -/
set_option maxRecDepth 100000
namespace Go.Proofs
open Go Go.En Go.RowKit
section
variable {w0:World} {F D0:Nat→Prop} {β1:Nat→Nm} {t6:List Int} {t15 f:Int} {k:CK} {k1:CT} {r:Nat} {a:Act} {W:World}
abbrev ZK (w0:World) (F D0:Nat→Prop) (β1:Nat→Nm) (t6:List Int) (t15 f:Int) (k:CK) (k1:CT) (r:Nat) (ob:Obj) (a:Act) (W:World):Prop:=HX En.Dop.D4 w0 F D0 PO Nz 6 β1 246 (RH t6 t15 f k k1) r ob a W
theorem Es {q:En.Spec} {ts:List Nat} {k bn:Nat} {s:St En.Dop.D4} {y:q.D En.Dop.D4} (h:(GZ q ts k bn s).map (·.1)=some y): ∃ m,GZ q ts k bn s=some (y,m):=by
 obtain ⟨⟨y',m⟩,h1,h2⟩:=Option.map_eq_some_iff.1 h
 cases h2
 exact ⟨m,h1⟩
theorem Qp {es:Array MapEntry} (h: ∀ (j:Nat) (e:MapEntry),es[j]?=some e→e.born=j):(es.toList.map (·.born)).Nodup:=by
 have:es.toList.map (·.born)=List.range es.size:=List.ext_getElem (by simp) fun i h1 h2=>by
  simp only [List.getElem_map,List.getElem_range]
  exact h i _ (by simp at h1;simp [h1])
 rw [this];exact List.nodup_range
theorem VG (hkp:BJ En.Dop.D4 w0 F D0) (h0:w0.heap.size≤r) (hr:(β1 5).AN=r) {seen:Array Nat} {c0:Nat} (hL:k.gotos.length≤c0) (hh:ZK w0 F D0 β1 t6 t15 f k k1 r (.mapIter (some (β1 4).AN) k.gotos.length seen c0) a W) {Q:Exit→Act→World→Prop}
  (hdone:(∀ j,j<k.gotos.length→seen.contains j=true)→ ∀ a' W' ob,ZK w0 F D0 β1 t6 t15 f k k1 r ob a' W'→Q (.exit 2) a' W')
  (hmore: ∀ j x,k.gotos[j]?=some x→seen.contains j=false→ ∀ a' W' c1,k.gotos.length≤c1→ZK w0 F D0 β1 t6 t15 (H5 k f x) k k1 r (.mapIter (some (β1 4).AN) k.gotos.length (seen.push j) c1) a' W'→Q .normal a' W'):PM.wp Tryz.prog Q a W:=by
 rw [Xc]
 obtain ⟨D,β,vs,o,n,he,hβ,hbn,hg,hc1,hc2⟩:=hh.g
 obtain ⟨ho4,ht185⟩:=da he
 obtain ⟨bm,hb4,hM⟩:=hg.gh.own 4 _ ho4
 have hbm:(β1 4).AN=bm:=by rw [←hβ 4 (by omega)];simp [Nm.AN,hb4]
 obtain ⟨es,hes,hsz,hel⟩:=RI hM
 have hit:=hh.it
 rw [hbm] at hit
 have h185:a.tmps.getD 185 undef=.pointer (some ⟨r,0,none⟩):=by
  rw [hg.tmps 185 _ ht185];simp only [SV.den,hβ 5 (by omega),hr]
 have hlt: ∀ x∈es.toList,x.born<k.gotos.length:=fun x hx=>by
  obtain ⟨j,hj⟩:=List.mem_iff_getElem?.1 hx
  rw [Array.getElem?_toList] at hj
  obtain ⟨y,hy,rfl⟩:=hel j x hj
  exact (List.getElem?_eq_some_iff.1 hy).1
 have hexec: ∀ v w',(Instr.next (.pointer (some ⟨r,0,none⟩)) false (Aq FI 0).type).run Tryz.prog W=.ok v w'→(execOp a.eval (Aq FI 0)).run Tryz.prog W=.ok (.value v) w':=fun v w' h=>by
  have:a.eval (.tmp 185)=.pointer (some ⟨r,0,none⟩):=h185
  simp only [execOp,Nx.1,this,Sem.run_bind,h,Result.andThen_ok,Sem.run_pure]
 refine wp_seq (wp_region_list ?_)
 rw [Uy]
 unfold wpList
 rw [if_pos (by simp [Region.wanted,Nx.2.2])]
 rcases run_next_at (P:=Tryz.prog) W (Aq FI 0).type r bm k.gotos.length c0 seen es es.size hit hes hlt hL with ⟨hz,hrun⟩|⟨e,hem,w1,hw1,hrun⟩
 ·-- nothing is left
  refine .inl (Ad (hexec _ _ hrun) ?_)
  rw [Nx.2.1]
  have hg1:G w0 F D0 D ((SN vs o n).pu 186 (.F6 [.b false])) (· <n) β (a.put (some 186) (.tuple #[.bool false])) W:=by
   have:=hg.put (d:=some 186) (x:=.F6 [.b false]) (by simp [SV.on,BI]) (s':=(SN vs o n).pu 186 (.F6 [.b false])) (by rw [St.E6,if_pos (by show 186<246;omega)];rfl)
   simpa [SV.den,AA] using this
  refine Cf Tryz.AJ hg1 SP.2 SP.1 (by show 187<246;omega) (dh he) fun a1 hg2=>?_
  unfold wpList
  have h187:a1.eval (.tmp 187)=.bool false:=by
   have:=hg2.tmps 187 (.b false) (by simp [St.pu,Ed])
   exact this
  refine wp_seq (wp_cond_false h187 (wp_exit ?_))
  obtain ⟨m,hm⟩:=Es (Xh he)
  refine hdone (fun j hj=>?_) a1 W _ (hg2.Fq hβ hm JX.1 hc1 hc2 hh.it)
  have hj':es[j]?=some es[j]:=Array.getElem?_eq_getElem (by omega)
  obtain ⟨x,hx,hex⟩:=hel j _ hj'
  have:=all_seen es seen hz es[j] (by simp)
  rw [hex] at this
  exact this
 ·-- an entry
  obtain ⟨hmem,hns⟩:=mem_left hem
  obtain ⟨j,hj⟩:=List.mem_iff_getElem?.1 hmem
  rw [Array.getElem?_toList] at hj
  obtain ⟨x,hx,rfl⟩:=hel j e hj
  refine .inl (Ad (hexec _ _ hrun) ?_)
  rw [Nx.2.1]
  have hh1:=hh.Jv hw1 h0 (.mapIter (some bm) k.gotos.length (seen.push j) es.size)
  obtain ⟨D2,β2,vs2,o2,n2,he2,hβ2,hbn2,hg2,hd1,hd2⟩:=hh1.g
  rw [he] at he2
  simp only [Prod.mk.injEq] at he2
  obtain ⟨rfl,rfl,rfl⟩:=he2
  obtain ⟨bm2,hb42,hM2⟩:=hg2.gh.own 4 _ ho4
  have hbm2:bm2=bm:=by rw [←hbm,← hβ2 4 (by omega)];simp [Nm.AN,hb42]
  subst hbm2
  obtain ⟨es2,hes2,hsz2,hel2⟩:=RI hM2
  have hee:es2=es:=by
   refine Array.ext (hsz2.trans hsz.symm) fun i h1 h2=>?_
   obtain ⟨y1,hy1,e1⟩:=hel2 i _ (Array.getElem?_eq_getElem h1)
   obtain ⟨y2,hy2,e2⟩:=hel i _ (Array.getElem?_eq_getElem h2)
   rw [hy1] at hy2;cases hy2
   rw [e1,e2]
  subst hee
  have hg3:G w0 F D0 D2 ((SN vs o n).pu 186 (.F6 [.b true,.v (.string ⟨⟨x.1⟩⟩),.v (.int .i64 x.2)])) (· <n) β2 (a.put (some 186) (.tuple #[.bool true,.string ⟨⟨x.1⟩⟩,.int .i64 x.2])) (Go.ChangeMaps.setBlock w1 r (.mapIter (some bm2) k.gotos.length (seen.push j) es2.size)):=by
   have:=hg2.put (d:=some 186) (x:=.F6 [.b true,.v (.string ⟨⟨x.1⟩⟩),.v (.int .i64 x.2)]) (by simp [SV.on,BI]) (s':=(SN vs o n).pu 186 (.F6 [.b true,.v (.string ⟨⟨x.1⟩⟩),.v (.int .i64 x.2)])) (by rw [St.E6,if_pos (by show 186<246;omega)];rfl)
   simpa [SV.den,AA] using this
  refine Cf Tryz.AJ hg3 SP.2 SP.1 (by show 187<246;omega) (di x he) fun a1 hg4=>?_
  unfold wpList
  have h187:a1.eval (.tmp 187)=.bool true:=hg4.tmps 187 (.b true) (by simp [St.pu,Ed])
  refine wp_seq (wp_cond_true h187 (wp_skip (wp_block (wp_seq (wp_region_list ?_)))))
  rw [Uz]
  unfold wpList
  rw [if_pos (by simp [Region.wanted,Nw.2.2])]
  have h185':a1.eval (.tmp 185)=.pointer (some ⟨r,0,none⟩):=by
   have:=hg4.tmps 185 (.ptr 5 0) (by simp [St.pu,Ed];exact ht185)
   show a1.tmps.getD 185 undef=_
   rw [this];simp only [SV.den,hβ2 5 (by omega),hr]
  have hrunE:=run_entry_at (P:=Tryz.prog) (Go.ChangeMaps.setBlock w1 r (.mapIter (some bm2) k.gotos.length (seen.push j) es2.size)) r bm2 k.gotos.length seen es2 es2.size ⟨.string ⟨⟨x.1⟩⟩,.int .i64 x.2,j⟩ hh1.it hes2 (List.mem_of_getElem? (by rw [Array.getElem?_toList];exact hj)) (Qp fun i e hi=>by obtain ⟨y,_,rfl⟩:=hel2 i e hi;rfl)
  refine .inl (Ad (v:=.tuple #[.string ⟨⟨x.1⟩⟩,.int .i64 x.2]) (by simp only [execOp,Nw.1,h185',Sem.run_bind,hrunE,Result.andThen_ok,Sem.run_pure];rfl) ?_)
  rw [Nw.2.1]
  have hg5:G w0 F D0 D2 (RG vs o n x) (· <n) β2 (a1.put (some 188) (.tuple #[.string ⟨⟨x.1⟩⟩,.int .i64 x.2])) (Go.ChangeMaps.setBlock w1 r (.mapIter (some bm2) k.gotos.length (seen.push j) es2.size)):=by
   have:=hg4.put (d:=some 188) (x:=.F6 [.v (.string ⟨⟨x.1⟩⟩),.v (.int .i64 x.2)]) (by simp [SV.on,BI]) (s':=RG vs o n x) (by rw [St.E6,if_pos (by show 188<246;omega)];rfl)
   simpa [SV.den,AA] using this
  refine Cf Tryz.AJ hg5 Ys.2 Ys.1 (by show 189<246;omega) (dj he) fun a2 hg6=>?_
  refine Cf Tryz.AJ hg6 Yt.2 Yt.1 (by show 190<246;omega) (dk he) fun a3 hg7=>?_
  refine Cf Tryz.AJ hg7 Yu.2 Yu.1 (by show 17<246;omega) (dm he) fun a4 hg8=>?_
  refine Cf Tryz.AJ hg8 Yv.2 Yv.1 (by show 18<246;omega) (dn he) fun a5 hg9=>?_
  unfold wpList
  obtain ⟨m,hm⟩:=Es (dc (e:=x) he)
  have hx1:HX En.Dop.D4 w0 F D0 RF Xd 6 β1 dW.sz (Xf t6 t15 f x k k1) r (.mapIter (some bm2) k.gotos.length (seen.push j) es2.size) a5 (Go.ChangeMaps.setBlock w1 r (.mapIter (some bm2) k.gotos.length (seen.push j) es2.size)):=by
   rw [Us];exact hg9.Fq hβ2 hm JX.2.1 hd1 hd2 hh1.it
  refine wp_seq (wp_region_list (hx1.fv ak (f0:=3000) JX.2.2 (by kernel_rfl) (ax t6 t15 f x k k1) hkp fun a6 W6 hx2=>?_))
  rw [Us] at hx2
  obtain ⟨D3,β3,vs3,o3,n3,he3,hβ3,hbn3,hg10,he1,he2'⟩:=hx2.g
  obtain ⟨l1,l2,l3,l4,l5⟩:=db he3
  have h212:a6.eval (.tmp 212)=.bool (U6 k x && (decide (f<0) || decide (Kb k x.2<Kb k f))):=hg10.tmps 212 _ l1
  have hst:H5 k f x=if (U6 k x && (decide (f<0) || decide (Kb k x.2<Kb k f)))=true then x.2 else f:=rfl
  have hfin: ∀ a' W',ZK w0 F D0 β1 t6 t15 (H5 k f x) k k1 r (.mapIter (some bm2) k.gotos.length (seen.push j) es2.size) a' W'→Exit.inBlock 3 Q .normal a' W':=fun a' W' h=>by
   rw [←hbm] at h
   exact hmore j x hx hns a' W' es2.size (by omega) h
  cases hb:(U6 k x && (decide (f<0) || decide (Kb k x.2<Kb k f))) with
  | true=>
   rw [hb] at h212 hst
   rw [if_pos rfl] at hst
   refine wp_cond_true h212 (wp_region_list ?_)
   rw [U1]
   refine Cf Tryz.AJ (s:=U5 vs3 o3 n3) hg10 Yw.2 Yw.1 (by show 213<246;omega) l2 fun a7 hg11=>?_
   refine Cf Tryz.AJ hg11 Yx.2 Yx.1 (by show 16<246;omega) l3 fun a8 hg12=>?_
   unfold wpList
   obtain ⟨m2,hm2⟩:=Es l4
   refine hfin a8 W6 ?_
   rw [hst]
   exact hg12.Fq hβ3 hm2 JX.1 he1 he2' hx2.it
  | false=>
   rw [hb] at h212 hst
   rw [if_neg (by simp)] at hst
   refine wp_cond_false h212 (wp_skip ?_)
   obtain ⟨m2,hm2⟩:=Es l5
   refine hfin a6 W6 ?_
   rw [hst]
   exact hg10.Fq hβ3 hm2 JX.1 he1 he2' hx2.it
end
end Go.Proofs
/- core.function's range over its gotos: the rounds; from cut 24 to cut 32. -/
set_option maxRecDepth 100000
namespace Go.Proofs
open Go Go.En Go.RowKit
section
variable {w0:World} {F D0:Nat→Prop} {β1:Nat→Nm} {t6:List Int} {t15:Int} {k:CK} {k1:CT} {r:Nat}
def RE (L:Nat) (seen:Array Nat):Nat:=((List.range L).filter fun j=>!seen.contains j).length
theorem NC (hkp:BJ En.Dop.D4 w0 F D0) (h0:w0.heap.size≤r) (hr:(β1 5).AN=r) (hp:PN k) {Q:Exit→Act→World→Prop}
  (hdone: ∀ f,TG k (fun _=>True) f→ ∀ a' W' ob,ZK w0 F D0 β1 t6 t15 f k k1 r ob a' W'→Q (.exit 2) a' W'):
  ∀ (m:Nat) (seen:Array Nat) (c0:Nat) (f:Int) (a:Act) (W:World),RE k.gotos.length seen<m→k.gotos.length≤c0→TG k (fun j=>seen.contains j=true) f→ZK w0 F D0 β1 t6 t15 f k k1 r (.mapIter (some (β1 4).AN) k.gotos.length seen c0) a W→Code.rounds Tryz.prog PM Q m a W
 | 0,seen,c0,f,a,W,hm,hL,hI,hh=>absurd hm (Nat.not_lt_zero _)
 | m+1,seen,c0,f,a,W,hm,hL,hI,hh=>by
  rw [rounds_succ]
  refine VG hkp h0 hr hL hh (fun hall a' W' ob h=>?_) (fun j x hx hs a' W' c1 hc h=>?_)
  ·exact hdone f (hI.congr fun j hj=>iff_of_true (hall j hj) trivial) a' W' ob h
  ·refine NC hkp h0 hr hp hdone m (seen.push j) c1 _ a' W' ?_ hc ((hI.step hp hx).congr fun i hi=>?_) h
   ·have hj:j<k.gotos.length:=(List.getElem?_eq_some_iff.1 hx).1
    have:=filter_lt (fun i=>!seen.contains i) (fun i=>!(seen.push j).contains i) (fun i hi=>by
     simp only [contains_push] at hi
     cases h:seen.contains i with
     | false=>rfl
     | true=>rw [h] at hi;cases hi) j (by simp only [hs];rfl) (by simp only [contains_push,beq_self_eq_true,Bool.or_true];rfl) (List.range k.gotos.length) (by simpa using hj)
    unfold RE at hm ⊢
    omega
   ·rw [contains_push,Bool.or_eq_true,beq_iff_eq]
end
@[reducible] noncomputable def ao (vs:List SV) (o:List (Nat×En.Own En.Dop.D4)) (n:Nat):St En.Dop.D4:=⟨[0,6,15].zip vs,o,n,246⟩
@[reducible] noncomputable def aq (vs:List SV) (o:List (Nat×En.Own En.Dop.D4)) (n:Nat):St En.Dop.D4:=(ao vs o n).pu 16 (.v (.int .i64 (-1)))
@[reducible] noncomputable def ar (vs:List SV) (o:List (Nat×En.Own En.Dop.D4)) (n:Nat):St En.Dop.D4:=((aq vs o n).pu 181 (.ptr 0 0)).pu 182 (.ptr 0 0)
@[reducible] noncomputable def U4 (vs:List SV) (o:List (Nat×En.Own En.Dop.D4)) (n:Nat) (q:Nat):St En.Dop.D4:=((ar vs o n).pu 183 (.ptr 0 q)).pu 184 (.Bt 13)
@[reducible] noncomputable def dZ (vs:List SV) (o:List (Nat×En.Own En.Dop.D4)) (n:Nat) (q:Nat):St En.Dop.D4:=⟨(185,.ptr n 0)::(U4 vs o n q).t,o,n+1,246⟩
end Go.Proofs
/- core.function's range over its gotos: from cut 24 to cut 32. -/
set_option maxRecDepth 100000
namespace Go.Proofs
open Go Go.En Go.RowKit
theorem Yr:(Aq LZ 0).dst=some 16∧(Aq LZ 0).guard=none:=⟨by kernel_rfl,by kernel_rfl⟩
theorem U8:(Aq C9 0).dst=some 181∧(Aq C9 0).guard=none:=⟨by kernel_rfl,by kernel_rfl⟩
theorem U9:(Aq C9 1).dst=some 182∧(Aq C9 1).guard=none:=⟨by kernel_rfl,by kernel_rfl⟩
theorem VA:(Aq C9 2).dst=some 183∧(Aq C9 2).guard=none:=⟨by kernel_rfl,by kernel_rfl⟩
theorem VB:(Aq C9 3).dst=some 184∧(Aq C9 3).guard=none:=⟨by kernel_rfl,by kernel_rfl⟩
theorem VD:(Aq G1 0).dst=some 214∧(Aq G1 0).guard=none:=⟨by kernel_rfl,by kernel_rfl⟩
theorem VE:(Aq G1 1).dst=some 215∧(Aq G1 1).guard=none:=⟨by kernel_rfl,by kernel_rfl⟩
theorem dd {t6:List Int} {t15:Int} {k:CK} {k1:CT} {vs:List SV} {o:List (Nat×En.Own En.Dop.D4)} {n:Nat} (h:En.Spec.enc (S:=En.Dop.D4) Tryz.Dp.WZ.sp (((),t6,t15,()),(k,k1,())) 2=(vs,o,n)):
  evalOp Tryz.tb (ao vs o n) (Aq LZ 0).op=.val none (.v (.int .i64 (-1)))∧evalOp Tryz.tb (aq vs o n) (Aq C9 0).op=.val none (.ptr 0 0)∧evalOp Tryz.tb ((aq vs o n).pu 181 (.ptr 0 0)) (Aq C9 1).op=.val none (.ptr 0 0)∧
  evalOp Tryz.tb (ar vs o n) (Aq C9 2).op=.val none (.ptr 0 19)∧evalOp Tryz.tb ((ar vs o n).pu 183 (.ptr 0 19)) (Aq C9 3).op=.val none (.Bt 13)∧n=17∧lk o 13=some (.mp .str 0 false k.gotos)∧lk (U4 vs o n 19).t 184=some (.Bt 13)∧
  (GZ PO Nz 2 6 (dZ vs o n 19)).map (fun z=>(z.1,lk z.2 4,lk z.2 5))=some (RH t6 t15 (-1) k k1,some 13,some 17):=by
 cases h
 exact ⟨by kernel_rfl,by kernel_rfl,by kernel_rfl,by kernel_rfl,by kernel_rfl,by kernel_rfl,by kernel_rfl,by kernel_rfl,by kernel_rfl⟩
@[reducible] def U3:En.Spec:=⟨[.al 0 0,.own 0 3,.fd (.int .i64),.fd (.int .i64)],[CK.b0,CT.b1]⟩
theorem de {t6:List Int} {t15 f:Int} {k:CK} {k1:CT} {vs:List SV} {o:List (Nat×En.Own En.Dop.D4)} {n:Nat} (h:PO.enc (S:=En.Dop.D4) (RH t6 t15 f k k1) 6=(vs,o,n)):
  evalOp Tryz.tb (SN vs o n) (Aq G1 0).op=.val none (.v (.int .i64 f))∧evalOp Tryz.tb ((SN vs o n).pu 214 (.v (.int .i64 f))) (Aq G1 1).op=.val none (.b (decide (0≤f)))∧
  lk (((SN vs o n).pu 214 (.v (.int .i64 f))).pu 215 (.b (decide (0≤f)))).t 215=some (.b (decide (0≤f)))∧
  (GZ U3 [0,6,15,16] 2 2 (((SN vs o n).pu 214 (.v (.int .i64 f))).pu 215 (.b (decide (0≤f))))).map (·.1)=some (((),t6,t15,f,()),(k,k1,()))∧
  (GZ Tryz.Dp.UG.sp [0,6,15] 2 2 (((SN vs o n).pu 214 (.v (.int .i64 f))).pu 215 (.b (decide (0≤f))))).map (·.1)=some (((),t6,t15,()),(k,k1,())):=by
 cases h
 exact ⟨by kernel_rfl,by kernel_rfl,by kernel_rfl,by kernel_rfl,by kernel_rfl⟩
noncomputable abbrev NA (ct:List (Bw En.Dop.D4)):Env En.Dop.D4:=Az Tryz.prog 78 Tryz.tb ct Tryz.Dp.p
theorem NB (ct:List (Bw En.Dop.D4)):(NA ct).sz=246:=by kernel_rfl
theorem RJ:Tryz.Dp.UG.sp.okB 2=true∧U3.okB 2=true:=⟨by kernel_rfl,by kernel_rfl⟩
theorem av:Cw (AM Tryz.prog 78) Tryz.Dp.WZ.key=some [.code [0,1,1,1,1,1,1,1,1,1,1,1] (.region 24 LZ false),.code [1,1,1,1,1,1,1,1,1,1,1,1] XZ]:=by kernel_rfl
theorem aw:Cw (AM Tryz.prog 78) Tryz.Dp.UG.key=some [.code [1,1,1,1,1,1,1,1,1,1,1,1,1,1] fj]:=by kernel_rfl
theorem Xi {ct:List (Bw En.Dop.D4)} (hE:(NA ct).Ok Tryz.prog) {mf:Int→CK→CT→Option ((En.Dop.AZ×Unit)×(CK×CT×Unit))} (hmf: ∀ f f' k k1,Kb k f=Kb k f'→mf f k k1=mf f' k k1)
  (hseg: ∀ t6 t15 f k k1,(F0 (NA ct) 3000 SM U3 Tryz.Dp.UG.sp [0,6,15,16] [0,6,15] 2 (((),t6,t15,f,()),(k,k1,()))).eval (fun _ _=>none)=(mf f k k1).bind fun y=>some (((),t6,t15,()),(y.2.1,(y.2.2.1,()))))
  {Q:Exit→Act→World→Prop} {w0:World} {F D0:Nat→Prop} {β0:Nat→Nm} {M:Nat} (t6:List Int) (t15:Int) (k:CK) (k1:CT) (y:Tryz.Dp.UG.sp.D En.Dop.D4) (hkp:BJ En.Dop.D4 w0 F D0) (hg:fi mf (((),t6,t15,()),(k,k1,()))=some y)
  (hv:Hl Tryz.prog Q w0 F D0 β0 M (NA ct) Tryz.Dp.UG y):Hl Tryz.prog Q w0 F D0 β0 M (NA ct) Tryz.Dp.WZ (((),t6,t15,()),(k,k1,())):=by
 unfold fi at hg
 split at hg
 case isFalse=>cases hg
 rename_i hpos
 have hp:PN k:=fun e he=>by simpa using List.all_eq_true.1 hpos e he
 intro ks vs o n hk he
 have hk:Cw (AM Tryz.prog 78) Tryz.Dp.WZ.key=some ks:=hk
 rw [av] at hk
 cases hk
 have he:En.Spec.enc (S:=En.Dop.D4) Tryz.Dp.WZ.sp (((),t6,t15,()),(k,k1,())) 2=(vs,o,n):=he
 obtain ⟨s0,s1,s2,s3,s4,hn,ho13,h184,hlook⟩:=dd he
 intro D β a W hβ0 hG
 have hG:G w0 F D0 D (ao vs o n) (· <n) β a W:=hG
 have hβ0: ∀ i,i<2→β i=β0 i:=hβ0
 show (Code.region 24 LZ false).wpIn Fence.wide 0 Tryz.prog (after Fence.wide Tryz.prog M [.code XZ] Q) a W
 refine wpIn_wide.2 (wp_region_list ?_)
 rw [Uw]
 refine Cf Tryz.AJ hG Yr.2 Yr.1 (by show 16<246;omega) s0 fun a1 g1=>?_
 unfold wpList
 show XZ.wpIn Fence.wide 0 Tryz.prog Q a1 W
 refine wpIn_wide.2 ?_
 rw [aj]
 refine wp_seq (wp_seq (wp_region_list ?_))
 rw [Ux]
 refine Cf Tryz.AJ g1 U8.2 U8.1 (by show 181<246;omega) s1 fun a2 g2=>?_
 refine Cf Tryz.AJ g2 U9.2 U9.1 (by show 182<246;omega) s2 fun a3 g3=>?_
 refine Cf Tryz.AJ g3 VA.2 VA.1 (by show 183<246;omega) s3 fun a4 g4=>?_
 refine Cf Tryz.AJ g4 VB.2 VB.1 (by show 184<246;omega) s4 fun a5 g5=>?_
 have g5:G w0 F D0 D (U4 vs o n 19) (· <n) β a5 W:=g5
 obtain ⟨bm,hb13,hM⟩:=g5.gh.own 13 _ ho13
 obtain ⟨es,hes,hsz,hel⟩:=RI hM
 have e184:a5.eval (.tmp 184)=.map (some bm):=by
  have:=g5.tmps 184 _ h184
  show a5.tmps.getD 184 undef=_
  rw [this];simp [SV.den,Nm.AN,hb13]
 have hT:=AV (d:=.map 9 3) Tryz.AJ (T:=132) (by kernel_rfl)
 simp only [TD.ok] at hT
 have hrun:=run_range_map (P:=Tryz.prog) W 132 _ _ bm es es.size hT hes
 unfold wpList
 rw [if_pos (by simp [Region.wanted,Ny.2.2])]
 refine .inl (Ad (v:=.pointer (some ⟨W.heap.size,0,none⟩)) (w':=W.alloc (.mapIter (some bm) es.size #[] es.size)) (by simp only [execOp,Ny.1,e184,Sem.run_bind,hrun,Result.andThen_ok,Sem.run_pure]) ?_)
 rw [Ny.2.1]
 unfold wpList
 -- the iterator's block has a name
 let β':Nat→Nm:=fun i=>if i=17 then ⟨some W.heap.size,0,0,undef⟩ else β i
 have hβ': ∀ i,i<n→β i=β' i:=fun i hi=>by simp only [β'];rw [if_neg (by omega)]
 have hgh:GH w0 F D0 D o (· <n) β W:=g5.gh
 have g6:G w0 F D0 D (dZ vs o n 19) (· <n+1) β' (a5.put (some 185) (.pointer (some ⟨W.heap.size,0,none⟩))) (W.alloc (.mapIter (some bm) es.size #[] es.size)):=by
  refine ⟨g5.defers,by rw [HE];exact g5.size,fun t v ht=>?_,fun t v ht=>?_,((hgh.step ((Below.refl _ W).alloc (Nat.le_refl _) _)).congr hβ').mono fun i hi=>Nat.lt_succ_of_lt hi⟩
  ·have ht:lk ((185,SV.ptr n 0)::(U4 vs o n 19).t) t=some v:=ht
   rw [AI] at ht
   split at ht
   ·rename_i e;subst e;cases ht;exact ⟨by show 185<246;omega,by show n<n+1;omega⟩
   ·obtain ⟨q1,q2⟩:=g5.F7 t v ht
    exact ⟨q1,Ah (fun i hi=>Nat.lt_succ_of_lt hi) q2⟩
  ·have ht:lk ((185,SV.ptr n 0)::(U4 vs o n 19).t) t=some v:=ht
   rw [AI] at ht
   split at ht
   ·rename_i e;subst e;cases ht
    rw [JE (by rw [g5.size];show 185<246;omega)]
    simp only [SV.den,β',hn,if_true,Nm.AN,Option.getD_some]
   ·rename_i hne
    obtain ⟨q1,q2⟩:=g5.F7 t v ht
    rw [Fw hne,g5.tmps t v ht]
    exact CA hβ' v q2
 obtain ⟨⟨y0,m⟩,hl1,hl2⟩:=Option.map_eq_some_iff.1 hlook
 simp only [Prod.mk.injEq] at hl2
 obtain ⟨rfl,hm4,hm5⟩:=hl2
 have hclear: ∀ i b,lk o i=some b→¬ (β' i).has W.heap.size:=fun i b hi hk=>by
  have hin:i<n:=(hgh.Bc i b hi).1
  rw [←hβ' i hin] at hk
  exact Nat.lt_irrefl _ (hgh.lt i b _ hi hk)
 have hDn:¬ D W.heap.size:=fun hd=>Nat.lt_irrefl _ (hgh.Cq _ hd)
 obtain ⟨β1,b1,b2,hx⟩:=g6.hx (by omega) hl1 JX.1 hclear hDn (heap_alloc_new W _)
 have hb4:(β1 4).AN=bm:=by
  rw [b2 4 (by omega) 13 hm4]
  show (β' 13).AN=bm
  rw [←hβ' 13 (by omega)]
  simp [Nm.AN,hb13]
 have hb5:(β1 5).AN=W.heap.size:=by
  rw [b2 5 (by omega) 17 hm5]
  simp [β',Nm.AN]
 have hb01: ∀ i,i<2→β1 i=β0 i:=fun i hi=>by rw [b1 i hi,← hβ' i (by omega),hβ0 i hi]
 have h0:w0.heap.size≤W.heap.size:=hgh.fr.size
 have hx:ZK w0 F D0 β1 t6 t15 (-1) k k1 W.heap.size (.mapIter (some (β1 4).AN) k.gotos.length #[] k.gotos.length) (a5.put (some 185) (.pointer (some ⟨W.heap.size,0,none⟩))) (W.alloc (.mapIter (some bm) es.size #[] es.size)):=by
  rw [hb4,← hsz];exact hx
 refine wp_block (wp_loop_rounds (RE k.gotos.length #[]+1) (NC hkp h0 hb5 hp (fun f hI a' W' ob hh=>?_) _ _ _ _ _ _ (Nat.lt_succ_self _) (Nat.le_refl _) (.inl ⟨rfl,fun j x hj=>absurd hj (by simp)⟩) hx))
 -- all have come
 show (Code.seq (.seq (.region 30 G1 false) (.cond (.tmp 215) (.region 31 SM false) .skip)) fj).wp Tryz.prog Q a' W'
 have huq:=(VF hp).uniq hp hI
 obtain ⟨D2,β2,vs2,o2,n2,he2,hβ2,hbn2,hg2,hd1,hd2⟩:=hh.g
 obtain ⟨z0,z1,z2,z3,z4⟩:=de he2
 have hend: ∀ (y':Tryz.Dp.UG.sp.D En.Dop.D4) a'' W'' ob',y'=y→HX En.Dop.D4 w0 F D0 Tryz.Dp.UG.sp [0,6,15] 2 β0 246 y' W.heap.size ob' a'' W''→fj.wp Tryz.prog Q a'' W'':=fun y' a'' W'' ob' hy h=>by
  subst hy
  obtain ⟨D3,β3,vs3,o3,n3,he3,hβ3,hbn3,hg3,_,_⟩:=h.g
  have:=hv _ vs3 o3 n3 aw he3 D3 β3 a'' W'' hβ3 hg3
  exact wpIn_wide.1 this
 refine wp_seq (wp_seq (wp_region_list ?_))
 rw [U2]
 refine Cf Tryz.AJ (s:=SN vs2 o2 n2) hg2 VD.2 VD.1 (by show 214<246;omega) z0 fun a6 g7=>?_
 refine Cf Tryz.AJ g7 VE.2 VE.1 (by show 215<246;omega) z1 fun a7 g8=>?_
 unfold wpList
 have e215:a7.eval (.tmp 215)=.bool (decide (0≤f)):=g8.tmps 215 _ z2
 have hb2: ∀ i,i<2→β2 i=β0 i:=fun i hi=>by rw [hβ2 i (by omega),hb01 i hi]
 cases hf:decide (0≤f) with
 | true=>
  rw [hf] at e215
  refine wp_cond_true e215 (wp_region_list ?_)
  obtain ⟨m3,hm3⟩:=Es z3
  have hx3:=g8.Fq hb2 hm3 RJ.2 hd1 hd2 hh.it
  rcases huq with ⟨e1,e2⟩|⟨e1,e2,e3⟩
  ·rw [e1] at e2;subst e2;simp at hf
  rw [if_pos (by simpa using e1)] at hg
  obtain ⟨v,hv1,hv2⟩:=Option.bind_eq_some_iff.1 hg
  rw [hmf _ _ _ k1 e3] at hv1
  have hs:=hseg t6 t15 f k k1
  rw [hv1] at hs
  have hx3:HX En.Dop.D4 w0 F D0 U3 [0,6,15,16] 2 β0 (NA ct).sz (((),t6,t15,f,()),(k,k1,())) W.heap.size ob a7 W':=by rw [NB];exact hx3
  refine hx3.fv hE (f0:=3000) RJ.1 (by kernel_rfl) hs hkp fun a8 W8 h8=>?_
  rw [NB] at h8
  exact hend _ a8 W8 _ (Option.some.inj hv2) h8
 | false=>
  rw [hf] at e215
  refine wp_cond_false e215 (wp_skip ?_)
  obtain ⟨m3,hm3⟩:=Es z4
  have hx3:=g8.Fq hb2 hm3 RJ.1 hd1 hd2 hh.it
  have hfirst:¬ (0:Int)≤Kd k:=by
   rcases huq with ⟨e1,e2⟩|⟨e1,e2,e3⟩
   ·omega
   ·simp [e2] at hf
  rw [if_neg (by simpa using hfirst)] at hg
  exact hend _ a7 W' _ (Option.some.inj hg) hx3
end Go.Proofs
/- Functions of the seat, lifted: plan, model, contract, equations. Written by a program (Lift) that ran the layer's evaluation; Lean checks each line. -/
set_option maxRecDepth 100000
set_option maxHeartbeats 4000000
namespace Go.Proofs.Tryz
open Go Go.En
end Go.Proofs.Tryz
/- Functions of the seat, lifted: plan, model, contract, equations. Written by a program (Lift) that ran the layer's evaluation; Lean checks each line. -/
set_option maxRecDepth 100000
set_option maxHeartbeats 4000000
namespace Go.Proofs.Tryz
open Go Go.En
@[reducible] def JM.q3:Cut:=⟨[[0,0,0,0,0,1,0,1,1],[0,1,0,0,0,1,0,1,1],[0,1,0,0,1,0,1,1],[2,0,0,1,0,1,1],[1,0],[0,1,1,1]],[1,2],1,⟨[.al 0 0,.fd (.int .i64)],[CT.b0]⟩⟩
def JM.p:Ak:=⟨[(3,JM.q3)],0,⟨[],[]⟩,⟨[.al 0 0],[CT.b0]⟩,false,[],[]⟩
theorem JM.ok:AH Dop.D4 prog 72 JM.p=true:=by kernel_rfl
@[reducible] def Gp.q5:Cut:=⟨[[0,0,0,0,1,0,1,1,1,1],[0,1,0,0,1,0,1,1,1,1],[2,0,0,1,0,1,1,1,1],[1,0],[0,1,1,1,1,1]],[2,5,6,30,31,32],4,⟨[.al 1 0,.al 2 0,.rw 0,.rw 0,.fd (.int .i64),.fd (.int .i64)],[⟨0,0,[.own 0 3],true⟩,⟨1,27,[.own 11 52,.own 12 32,.fd (.int .i64),.own 5 56],false⟩,CH.b2,⟨3,168,[.own 6 93,.mp (.str) 17 false],false⟩]⟩⟩
@[reducible] def Gp.hS:Cut:=⟨[[0,0,0,0,1,0,1,1,1,1,1],[0,1,0,0,1,0,1,1,1,1,1],[2,0,0,1,0,1,1,1,1,1],[1,3],[0,1,1,1,1,1,1]],[2,5,60,61,62],3,⟨[.al 0 0,.al 1 0,.own 0 3,.fd (.int .i64),.fd (.int .i64)],[⟨0,27,[.own 11 52,.own 12 32,.fd (.int .i64),.own 5 56],false⟩,CH.b1,CT.b2]⟩⟩
@[reducible] def Gp.iA:Cut:=⟨[[0,0,0,1,1,1,1,1,1,1,1],[0,1,0,1,1,1,1,1,1,1,1],[0,1,1,1,1,1,1,1,1,1]],[2,5],3,⟨[.al 0 0,.al 1 0],[⟨0,27,[.own 11 52,.own 12 32,.fd (.int .i64),.own 5 56],false⟩,CH.b1,CT.b2]⟩⟩
def Gp.p:Ak:=⟨[(5,Gp.q5),(17,Gp.hS),(26,Gp.iA)],0,⟨[.st 7],[]⟩,⟨[.st 13,.fd (.int .i64),.fd (.int .i64)],[]⟩,false,[(1,⟨[(0,false),(1,false),(2,false),(3,false),(4,false),(5,true),(6,false),(7,true)],[1000002],[0,0,0,4,0,31,63,127],false⟩),(27,⟨[(0,true),(1,true),(2,true),(3,true),(4,false),(5,true),(6,true),(7,true),(8,false),(9,false),(10,true),(11,true)],[1000002],[0,0,2,6,14,0,32,96,224,1,543,2047],false⟩)],[]⟩
theorem Gp.ok:AH Dop.D4 prog 42 Gp.p=true:=by kernel_rfl
def m18.p:Ak:=⟨[],0,⟨[.fd .str],[]⟩,⟨[.st 13,.fd (.int .i64),.fd (.int .i64)],[]⟩,false,[],[]⟩
theorem m18.ok:AH Dop.D4 prog 18 m18.p=true:=by kernel_rfl
end Go.Proofs.Tryz
/- What a run and a frame hold. Written by a program. -/
namespace Go.Proofs
open Go Go.En
end Go.Proofs
/- Functions of the seat, lifted: plan, model, contract, equations. Written by a program (Lift) that ran the layer's evaluation; Lean checks each line. -/
set_option maxRecDepth 100000
set_option maxHeartbeats 4000000
namespace Go.Proofs.Tryz
open Go Go.En
def Vz.p:Ak:=⟨[],1,⟨[.st 11,.al 0 0],[⟨0,9,[.st 1],false⟩]⟩,⟨[.fd .bool],[⟨0,9,[.fd .str],false⟩]⟩,true,[],[]⟩
theorem Vz.ok:AH Dop.D4 prog 55 Vz.p=true:=by kernel_rfl
@[reducible] def BG.q2:Cut:=⟨[[0,0,0,0,1,0,1],[0,1,0,0,1,0,1],[2,0,0,1,0,1],[1,0],[0,1,1]],[0,1,7,8],1,⟨[.fd (.sl 11),.fn 55 [(0,0)],.fd (.int .i64),.fd (.int .i64)],[⟨0,9,[.fd .str],false⟩]⟩⟩
def BG.p:Ak:=⟨[(2,BG.q2)],1,⟨[.fd (.sl 11),.fn 55 [(0,0)]],[⟨0,9,[.st 1],false⟩]⟩,⟨[.fd (.int .i64)],[⟨0,9,[.fd .str],false⟩]⟩,true,[],[]⟩
theorem BG.ok:AH Dop.D4 prog 54 BG.p=true:=by kernel_rfl
def Vw.p:Ak:=⟨[],0,⟨[.st 13,.fd .str],[]⟩,⟨[.fd (.int .i64)],[]⟩,true,[],[]⟩
theorem Vw.ok:AH Dop.D4 prog 25 Vw.p=true:=by kernel_rfl
end Go.Proofs.Tryz
/- Functions of the seat, lifted: plan, model, contract, equations. Written by a program (Lift) that ran the layer's evaluation; Lean checks each line. -/
set_option maxRecDepth 100000
set_option maxHeartbeats 4000000
namespace Go.Proofs.Tryz
open Go Go.En
end Go.Proofs.Tryz
/- Functions of the seat, lifted: plan, model, contract, equations. Written by a program (Lift) that ran the layer's evaluation; Lean checks each line. -/
set_option maxRecDepth 100000
set_option maxHeartbeats 4000000
namespace Go.Proofs.Tryz
open Go Go.En
def m17.p:Ak:=⟨[],0,⟨[],[]⟩,⟨[.fd .bool],[]⟩,true,[],[]⟩
theorem m17.ok:AH Dop.D4 prog 17 m17.p=true:=by kernel_rfl
end Go.Proofs.Tryz
