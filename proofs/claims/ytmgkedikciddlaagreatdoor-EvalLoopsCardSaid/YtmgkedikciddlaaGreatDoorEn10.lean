/-
 A state that was looked at by a pattern is the pattern's own, of the data that were found (parse_ok); names turned (ren).
-/
import Derived.Test.YtmgkedikciddlaaGreatDoorEn9
namespace Go.En
open Go.RowKit
section
variable {S:At} {w0:World} {F D0 D:Nat->Prop} {o:List (Nat×Own S)} {N:Nat->Prop} {β:Nat->Nm} {w:World} {fin:PS S} {pd:List Nat}
theorem T2 {bw:Bool}: ∀ {qs:List Cw} {cs:List SV} {ps ps':PS S} {x:PT S qs},Qt bw qs cs ps=some (x,ps')-> ∀ i∈ps.bl,i∈ps'.bl
 | [],[],ps,ps',x,h=>by simp only [Qt,Option.some.injEq,Prod.mk.injEq] at h;rw [<-h.2];exact fun _ h=>h
 | [],_::_,ps,ps',x,h=>by simp [Qt] at h
 | p::r,cs,ps,ps',x,h=>by
  simp only [Qt] at h
  split at h
  case h_2=>cases h
  rename_i h1
  split at h
  case h_2=>cases h
  rename_i h2
  cases h
  exact fun i hi=>T2 h2 i (dW h1 i hi)
theorem Y6 {bw:Bool}: ∀ {qs:List Cw} {cs:List SV} {ps ps':PS S} {x:PT S qs} {oc:List (Nat×Own S)} {n:Nat} {β':Nat->Nm},GH w0 F D0 D o N β w->Inv w0 F D0 D o N β w fin pd ps oc n β'->Qt bw qs cs ps=some (x,ps')->Cd ps' fin->(∀ i∈fin.bl,lk fin.o i≠none)->(∀ i∈ps'.bl,i∈fin.bl)->
  ∀ {svs:List SV} {oc':List (Nat×Own S)} {n':Nat},Em qs x n oc=(svs,oc',n')->
  ∃ β'',(∀ i,i<n->β' i=β'' i)/\Inv w0 F D0 D o N β w fin pd ps' oc' n' β''/\AB β cs=AB β'' svs/\BW (· <n') svs/\n<=n'
 | [],[],ps,ps',x,oc,n,β',hg,hi,h,hf,hfb,hbl,svs,oc',n',he=>by
  simp only [Qt,Option.some.injEq,Prod.mk.injEq] at h
  simp only [Em,Prod.mk.injEq] at he
  obtain ⟨rfl,rfl,rfl⟩:=he
  rw [<-h.2]
  exact ⟨β',fun _ _=>rfl,hi,by simp [AB],trivial,Nat.le_refl _⟩
 | [],_::_,ps,ps',x,oc,n,β',hg,hi,h,hf,hfb,hbl,svs,oc',n',he=>by simp [Qt] at h
 | p::r,cs,ps,ps',x,oc,n,β',hg,hi,h,hf,hfb,hbl,svs,oc',n',he=>by
  simp only [Qt] at h
  split at h
  case h_2=>cases h
  rename_i y cs' ps1 h1
  split at h
  case h_2=>cases h
  rename_i z ps2 h2
  cases h
  have hle:=Qf h2
  simp only [Em] at he
  rcases hE:Br p y n oc with ⟨a,o1,n1⟩
  rw [hE] at he
  simp only at he
  rcases hE2:Em r z n1 o1 with ⟨b,o2,n2⟩
  rw [hE2] at he
  simp only [Prod.mk.injEq] at he
  obtain ⟨rfl,rfl,rfl⟩:=he
  obtain ⟨β1,e1,i1,⟨us,hu1,hu2⟩,on1,n1le⟩:=dY hg hi h1 (hle.trans hf) hfb (fun i hi=>hbl i (T2 h2 i hi)) hE
  obtain ⟨β2,e2,i2,hd2,on2,n2le⟩:=Y6 hg i1 h2 hf hfb hbl hE2
  refine ⟨β2,fun i hi=>(e1 i hi).trans (e2 i (by omega)),i2,?_,Eh (CX (fun i hi=>Nat.lt_of_lt_of_le hi n2le) on1) on2,by omega⟩
  rw [hu1,CQ,CQ,hu2,hd2,Bb e2 a on1]
theorem Y0 {bw:Bool}: ∀ {qs:List Cw} {vs:List SV} {ps ps':PS S} {x:PT S qs},OK bw qs vs ps=some (x,ps')-> ∀ i∈ps.bl,i∈ps'.bl
 | [],[],ps,ps',x,h=>by simp only [OK,Option.some.injEq,Prod.mk.injEq] at h;rw [<-h.2];exact fun _ h=>h
 | [],_::_,ps,ps',x,h=>by simp [OK] at h
 | _::_,[],ps,ps',x,h=>by simp [OK] at h
 | p::r,v::vs,ps,ps',x,h=>by
  simp only [OK] at h
  split at h
  case h_2=>cases h
  split at h
  case h_2=>cases h
  rename_i h1
  split at h
  case h_2=>cases h
  rename_i h2
  cases h
  exact fun i hi=>Y0 h2 i (dW h1 i hi)
theorem Cw.cZ {p:Cw} {v:SV} {cs svs:List SV} {β':Nat->Nm} (hc:p.cellsOf v=some cs) (h:AB β cs=AB β' svs):v.den β=(p.val svs).den β':=by
 have one: ∀ v:SV,cs=[v]-> ∃ y,svs=[y]/\v.den β=y.den β':=fun v hv=>by
  subst hv
  have hl:=congrArg List.length h
  rw [AG,AG] at hl
  match svs,hl with
  | [y],_=>exact ⟨y,rfl,by simpa [AB] using h⟩
 cases p with
 | st τ=>
  obtain ⟨h1,_⟩:=D6 hc β
  simp only [Cw.val,h1,SV.den,h]
 | _=>
  simp only [Cw.cellsOf,Option.some.injEq] at hc
  obtain ⟨y,rfl,hy⟩:=one v hc.symm
  simpa [Cw.val] using hy
theorem Cw.Zj {p:Cw} {svs:List SV} {N:Nat->Prop} (h:BW N svs):(p.val svs).on N:=by
 unfold Cw.val
 split
 ·simpa [SV.on] using h
 ·exact h.1
 ·simpa [SV.on] using h
theorem Y3 {bw:Bool}: ∀ {qs:List Cw} {vs:List SV} {ps ps':PS S} {x:PT S qs} {oc:List (Nat×Own S)} {n:Nat} {β':Nat->Nm},GH w0 F D0 D o N β w->Inv w0 F D0 D o N β w fin pd ps oc n β'->OK bw qs vs ps=some (x,ps')->Cd ps' fin->(∀ i∈fin.bl,lk fin.o i≠none)->(∀ i∈ps'.bl,i∈fin.bl)->
  ∀ {svs:List SV} {oc':List (Nat×Own S)} {n':Nat},CE qs x n oc=(svs,oc',n')->
  ∃ β'',(∀ i,i<n->β' i=β'' i)/\Inv w0 F D0 D o N β w fin pd ps' oc' n' β''/\AB β vs=AB β'' svs/\BW (· <n') svs/\n<=n'
 | [],[],ps,ps',x,oc,n,β',hg,hi,h,hf,hfb,hbl,svs,oc',n',he=>by
  simp only [OK,Option.some.injEq,Prod.mk.injEq] at h
  simp only [CE,Prod.mk.injEq] at he
  obtain ⟨rfl,rfl,rfl⟩:=he
  rw [<-h.2]
  exact ⟨β',fun _ _=>rfl,hi,by simp [AB],trivial,Nat.le_refl _⟩
 | [],_::_,ps,ps',x,oc,n,β',hg,hi,h,hf,hfb,hbl,svs,oc',n',he=>by simp [OK] at h
 | _::_,[],ps,ps',x,oc,n,β',hg,hi,h,hf,hfb,hbl,svs,oc',n',he=>by simp [OK] at h
 | p::r,v::vs,ps,ps',x,oc,n,β',hg,hi,h,hf,hfb,hbl,svs,oc',n',he=>by
  simp only [OK] at h
  split at h
  case h_2=>cases h
  rename_i cs hcs
  split at h
  case h_2=>cases h
  rename_i y ps1 h1
  split at h
  case h_2=>cases h
  rename_i z ps2 h2
  cases h
  have hle:=Ty h2
  simp only [CE] at he
  rcases hE:Br p y n oc with ⟨a,o1,n1⟩
  rw [hE] at he
  simp only at he
  rcases hE2:CE r z n1 o1 with ⟨b,o2,n2⟩
  rw [hE2] at he
  simp only [Prod.mk.injEq] at he
  obtain ⟨rfl,rfl,rfl⟩:=he
  obtain ⟨β1,e1,i1,⟨us,hu1,hu2⟩,on1,n1le⟩:=dY hg hi h1 (hle.trans hf) hfb (fun i hi=>hbl i (Y0 h2 i hi)) hE
  obtain ⟨β2,e2,i2,hd2,on2,n2le⟩:=Y3 hg i1 h2 hf hfb hbl hE2
  rw [List.append_nil] at hu1
  subst hu1
  have hv:=Cw.cZ hcs hu2
  refine ⟨β2,fun i hi=>(e1 i hi).trans (e2 i (by omega)),i2,?_,⟨Am (fun i hi=>Nat.lt_of_lt_of_le hi n2le) (Cw.Zj on1),on2⟩,by omega⟩
  simp only [AB,hv,hd2]
  rw [CO e2 _ (Cw.Zj on1)]
theorem GH.iV {oc:List (Nat×Own S)} {N':Nat->Prop} {β':Nat->Nm} (h:GH w0 F D0 D oc N' β' w) {i:Nat} {b:Own S} (hN:N' i) (hn:lk oc i=none) (hon:b.on N') (hh:b.holds D β' w (β' i)) (hfr: ∀ k,(β' i).has k->w0.heap.size<=k\/F k) (hoff: ∀ k,(β' i).has k->¬ D k)
  (hne: ∀ j c k,lk oc j=some c->(β' j).has k->¬ (β' i).has k) (hlt: ∀ k,(β' i).has k->k<w.heap.size):GH w0 F D0 D ((i,b)::oc) N' β' w:=by
 have key: ∀ j c,lk ((i,b)::oc) j=some c->(j=i/\c=b)\/(j≠i/\lk oc j=some c):=fun j c hj=>by
  rw [AJ] at hj
  split at hj
  ·rename_i he;cases hj;exact .inl ⟨he.symm,rfl⟩
  ·rename_i he;exact .inr ⟨fun e=>he e.symm,hj⟩
 refine ⟨fun j c hj=>?_,fun j c hj=>?_,fun j l c d k hj hl h1 h2=>?_,fun j c k hj h1=>?_,fun j c k hj h1=>?_,fun j c k hj h1=>?_,h.DF,h.KQ,h.fr,h.sub⟩
 ·rcases key j c hj with ⟨rfl,rfl⟩|⟨_,hj⟩
  ·exact ⟨hN,hon⟩
  ·exact h.Bn j c hj
 ·rcases key j c hj with ⟨rfl,rfl⟩|⟨_,hj⟩
  ·exact hh
  ·exact h.own j c hj
 ·rcases key j c hj with ⟨e1,_⟩|⟨_,hj'⟩<;>rcases key l d hl with ⟨e2,_⟩|⟨_,hl'⟩
  ·rw [e1,e2]
  ·subst e1;exact absurd h1 (hne l d k hl' h2)
  ·subst e2;exact absurd h2 (hne j c k hj' h1)
  ·exact h.inj j l c d k hj' hl' h1 h2
 ·rcases key j c hj with ⟨rfl,rfl⟩|⟨_,hj⟩
  ·exact hfr k h1
  ·exact h.fresh j c k hj h1
 ·rcases key j c hj with ⟨rfl,rfl⟩|⟨_,hj⟩
  ·exact hoff k h1
  ·exact h.off j c k hj h1
 ·rcases key j c hj with ⟨rfl,rfl⟩|⟨_,hj⟩
  ·exact hlt k h1
  ·exact h.lt j c k hj h1
theorem KN: ∀ {fs:List (FC S.T)} {n:Nat} {oc:List (Nat×Own S)} {cs:List SV} {oc':List (Nat×Own S)} {n':Nat},Ca fs n oc=(cs,oc',n')-> ∀ i,i<n->lk oc' i=lk oc i
 | [],n,oc,cs,oc',n',h,i,hi=>by simp only [Ca,Prod.mk.injEq] at h;rw [<-h.2.1]
 | f::r,n,oc,cs,oc',n',h,i,hi=>by
  cases f with
  | sl σ l=>
   simp only [Ca,Prod.mk.injEq] at h
   rw [<-h.2.1,KN (n:=n+1) (oc:=(n,.sl σ l)::oc) rfl i (by omega),AJ,if_neg (by omega)]
  | ow σ E l=>
   simp only [Ca,Prod.mk.injEq] at h
   rw [<-h.2.1,KN (n:=n+1) (oc:=(n,.any)::oc) rfl i (by omega),AJ,if_neg (by omega)]
  | _=>simp only [Ca,Prod.mk.injEq] at h;rw [<-h.2.1];exact KN rfl i hi
theorem KM: ∀ {fs:List (FC S.T)} {n:Nat} {oc:List (Nat×Own S)} {cs:List SV} {oc':List (Nat×Own S)} {n':Nat},Ca fs n oc=(cs,oc',n')->n<=n'
 | [],n,oc,cs,oc',n',h=>by simp only [Ca,Prod.mk.injEq] at h;rw [h.2.2];exact Nat.le_refl _
 | f::r,n,oc,cs,oc',n',h=>by
  cases f with
  | sl σ l=>
   simp only [Ca,Prod.mk.injEq] at h
   have:=KM (fs:=r) (n:=n+1) (oc:=(n,.sl σ l)::oc) rfl
   omega
  | ow σ E l=>
   simp only [Ca,Prod.mk.injEq] at h
   have:=KM (fs:=r) (n:=n+1) (oc:=(n,.any)::oc) rfl
   omega
  | _=>simp only [Ca,Prod.mk.injEq] at h;rw [<-h.2.2];exact KM rfl
theorem Ub {p:Cw} {x:p.T S} {n:Nat} {oc:List (Nat×Own S)} {cs:List SV} {oc':List (Nat×Own S)} {n':Nat} (h:Br p x n oc=(cs,oc',n')):(∀ i,i<n->lk oc' i=lk oc i)/\n<=n':=by
 cases p with
 | fd f=>exact ⟨KN h,KM h⟩
 | st τ=>exact ⟨KN h,KM h⟩
 | own τ E=>simp only [Br,Prod.mk.injEq] at h;obtain ⟨_,rfl,rfl⟩:=h;exact ⟨fun i hi=>by rw [AJ,if_neg (by omega)],Nat.le_succ _⟩
 | dp τ E=>simp only [Br,Prod.mk.injEq] at h;obtain ⟨_,rfl,rfl⟩:=h;exact ⟨fun i hi=>by rw [AJ,if_neg (by omega)],Nat.le_succ _⟩
 | mp κ τ ag=>simp only [Br,Prod.mk.injEq] at h;obtain ⟨_,rfl,rfl⟩:=h;exact ⟨fun i hi=>by rw [AJ,if_neg (by omega)],Nat.le_succ _⟩
 | mr κ τ ag E=>simp only [Br,Prod.mk.injEq] at h;obtain ⟨_,rfl,rfl⟩:=h;exact ⟨fun i hi=>by rw [AJ,if_neg (by omega)],Nat.le_succ _⟩
 | al i off=>simp only [Br,Prod.mk.injEq] at h;obtain ⟨_,rfl,rfl⟩:=h;exact ⟨fun _ _=>rfl,Nat.le_refl _⟩
 | np=>simp only [Br,Prod.mk.injEq] at h;obtain ⟨_,rfl,rfl⟩:=h;exact ⟨fun _ _=>rfl,Nat.le_refl _⟩
 | hd=>simp only [Br,Prod.mk.injEq] at h;obtain ⟨_,rfl,rfl⟩:=h;exact ⟨fun i hi=>by rw [AJ,if_neg (by omega)],Nat.le_succ _⟩
 | hm=>simp only [Br,Prod.mk.injEq] at h;obtain ⟨_,rfl,rfl⟩:=h;exact ⟨fun i hi=>by rw [AJ,if_neg (by omega)],Nat.le_succ _⟩
 | rw i=>simp only [Br,Prod.mk.injEq] at h;obtain ⟨_,rfl,rfl⟩:=h;exact ⟨fun _ _=>rfl,Nat.le_refl _⟩
 | rm i=>simp only [Br,Prod.mk.injEq] at h;obtain ⟨_,rfl,rfl⟩:=h;exact ⟨fun _ _=>rfl,Nat.le_refl _⟩
 | ep i z off=>simp only [Br,Prod.mk.injEq] at h;obtain ⟨_,rfl,rfl⟩:=h;exact ⟨fun _ _=>rfl,Nat.le_refl _⟩
 | fn f caps=>simp only [Br,Prod.mk.injEq] at h;obtain ⟨_,rfl,rfl⟩:=h;exact ⟨fun _ _=>rfl,Nat.le_refl _⟩
theorem Mp: ∀ {qs:List Cw} {x:PT S qs} {n:Nat} {oc:List (Nat×Own S)} {cs:List SV} {oc':List (Nat×Own S)} {n':Nat},Em qs x n oc=(cs,oc',n')->(∀ i,i<n->lk oc' i=lk oc i)/\n<=n'
 | [],x,n,oc,cs,oc',n',h=>by simp only [Em,Prod.mk.injEq] at h;obtain ⟨_,rfl,rfl⟩:=h;exact ⟨fun _ _=>rfl,Nat.le_refl _⟩
 | p::r,x,n,oc,cs,oc',n',h=>by
  simp only [Em] at h
  rcases hE:Br p x.1 n oc with ⟨a,o1,n1⟩
  rw [hE] at h
  simp only at h
  rcases hE2:Em r x.2 n1 o1 with ⟨b,o2,n2⟩
  rw [hE2] at h
  simp only [Prod.mk.injEq] at h
  obtain ⟨_,rfl,rfl⟩:=h
  obtain ⟨h1,h2⟩:=Ub hE
  obtain ⟨h3,h4⟩:=Mp hE2
  exact ⟨fun i hi=>(h3 i (by omega)).trans (h1 i hi),by omega⟩
theorem Ml: ∀ {qs:List Cw} {x:PT S qs} {n:Nat} {oc:List (Nat×Own S)} {cs:List SV} {oc':List (Nat×Own S)} {n':Nat},CE qs x n oc=(cs,oc',n')->(∀ i,i<n->lk oc' i=lk oc i)/\n<=n'
 | [],x,n,oc,cs,oc',n',h=>by simp only [CE,Prod.mk.injEq] at h;obtain ⟨_,rfl,rfl⟩:=h;exact ⟨fun _ _=>rfl,Nat.le_refl _⟩
 | p::r,x,n,oc,cs,oc',n',h=>by
  simp only [CE] at h
  rcases hE:Br p x.1 n oc with ⟨a,o1,n1⟩
  rw [hE] at h
  simp only at h
  rcases hE2:CE r x.2 n1 o1 with ⟨b,o2,n2⟩
  rw [hE2] at h
  simp only [Prod.mk.injEq] at h
  obtain ⟨_,rfl,rfl⟩:=h
  obtain ⟨h1,h2⟩:=Ub hE
  obtain ⟨h3,h4⟩:=Ml hE2
  exact ⟨fun i hi=>(h3 i (by omega)).trans (h1 i hi),by omega⟩
theorem cD {b:Gt} {j:Nat} {ps ps':PS S} {x:PT S b.ps} (h:Qe b j ps=some (x,ps')): ∀ i∈ps.bl,i∈ps'.bl:=by
 unfold Qe at h
 split at h
 ·split at h
  case h_2=>cases h
  split at h
  case h_2=>cases h
  exact fun i hi=>T2 h i hi
 ·obtain ⟨c,_,_,rfl⟩:=MN h
  exact fun _ h=>h
theorem Tz: ∀ {bs:List Gt} {seen:List Nat} {ps ps':PS S} {x:BT S bs},U9 bs seen ps=some (x,ps')-> ∀ i∈ps.bl,i∈ps'.bl
 | [],seen,ps,ps',x,h=>by simp only [U9,Option.some.injEq,Prod.mk.injEq] at h;rw [<-h.2];exact fun _ h=>h
 | b::r,seen,ps,ps',x,h=>by
  simp only [U9] at h
  split at h
  case h_2=>cases h
  split at h
  case h_2=>cases h
  split at h
  case h_2=>cases h
  rename_i h1
  split at h
  case h_2=>cases h
  rename_i h2
  cases h
  exact fun i hi=>Tz h2 i (cD h1 i hi)
theorem Oi {b:Gt} {x:PT S b.ps} {n:Nat} {oc:List (Nat×Own S)} {oc':List (Nat×Own S)} {n':Nat} (h:GC b x n oc=(oc',n')):(∀ i,i<n->i≠b.i->lk oc' i=lk oc i)/\n<=n':=by
 unfold GC at h
 split at h
 ·rcases hE:Em b.ps x n oc with ⟨a,o1,n1⟩
  rw [hE] at h
  simp only [Prod.mk.injEq] at h
  obtain ⟨rfl,rfl⟩:=h
  obtain ⟨h1,h2⟩:=Mp hE
  exact ⟨fun i hi hne=>by rw [AJ,if_neg (Ne.symm hne)];exact h1 i hi,h2⟩
 ·split at h
  ·simp only [Prod.mk.injEq] at h
   obtain ⟨rfl,rfl⟩:=h
   exact ⟨fun i hi hne=>by rw [AJ,if_neg (Ne.symm hne)],Nat.le_refl _⟩
  ·simp only [Prod.mk.injEq] at h
   obtain ⟨rfl,rfl⟩:=h
   exact ⟨fun _ _ _=>rfl,Nat.le_refl _⟩
theorem SE {p:Cw} {x:p.T S} {c:Own S} (h:N0 p x=some c) (M:Nat->Prop):c.on M:=by
 unfold N0 at h
 split at h<;>cases h<;>trivial
theorem Nz: ∀ {qs:List Cw} {x:PT S qs} {c:Own S},rowOf qs x=some c-> ∀ (M:Nat->Prop),c.on M
 | [],x,c,h=>by simp [rowOf] at h
 | _::_::_,x,c,h=>by simp [rowOf] at h
 | [p],x,c,h=>SE h
theorem cE {b:Gt} {j:Nat} {ps ps1:PS S} {y:PT S b.ps} {oc:List (Nat×Own S)} {n:Nat} {β':Nat->Nm} (hg:GH w0 F D0 D o N β w) (hi:Inv w0 F D0 D o N β w fin pd ps oc n β') (hm:lk ps.m b.i=some j) (hjb:EG j ps.bl=false) (h1:Qe b j ps=some (y,ps1)) (hf:Cd ps1 fin) (hfb: ∀ i∈fin.bl,lk fin.o i≠none) (hbl: ∀ i∈ps1.bl,i∈fin.bl)
  (hbi:b.i<fin.bn) (hoc:lk oc b.i=none) {o1:List (Nat×Own S)} {n1:Nat} (he:GC b y n oc=(o1,n1)):
  ∃ β1,(∀ i,i<n->β' i=β1 i)/\Inv w0 F D0 D o N β w fin pd ps1 o1 n1 β1/\n<=n1:=by
 have hle1:=U8 hjb h1
 have hrm: ∀ i c,lk (rm ps.o j) i=some c->i≠j/\lk ps.o i=some c:=fun i c hi'=>by
  rw [Cs] at hi'
  split at hi'
  ·cases hi'
  ·rename_i hne;exact ⟨fun e=>hne e.symm,hi'⟩
 have hfin: ∀ {c:Own S} {ps2:PS S} {o2:List (Nat×Own S)} {n2:Nat} {β2:Nat->Nm} {d:Own S},lk o j=some c->j ∉ fin.bl->Inv w0 F D0 D o N β w fin (j::pd) ps2 o2 n2 β2->lk ps.o j=some c->β2 b.i=β j->lk o2 b.i=none->d.on (· <n2)->d.holds (FZ D β fin.bl) β2 w (β j)->Inv w0 F D0 D o N β w fin pd ps2 ((b.i,d)::o2) n2 β2:=fun {c ps2 o2 n2 β2 d} hjo hjf i1 hj hβj hnone hon hh=>by
  obtain ⟨q1,q2,q3⟩:=i1.OZ j (by simp)
  have hg1:=i1.gh.iV (i:=b.i) (b:=d) (Nat.lt_of_lt_of_le hbi i1.bn) hnone hon (by rw [hβj];exact hh) (fun k hk=>by rw [hβj] at hk;exact hg.fresh j _ k hjo hk) (fun k hk hD=>by
    rw [hβj] at hk
    rcases hD with hD|⟨i,hib,hik⟩
    ·exact hg.off j _ k hjo hk hD
    ·obtain ⟨d,hd⟩:=hi.Zn i hib
     have:=hg.inj i j d _ k hd hjo hik hk
     subst this;exact hjf hib) (fun l c k hl hk hk'=>q3 l c k hl (by rw [hβj] at hk';exact hk') hk) (fun k hk=>by rw [hβj] at hk;exact hg.lt j _ k hjo hk)
  exact ⟨hg1,fun i c l d k hi' hib hl hk=>by
    rw [AJ] at hl
    split at hl
    ·rename_i hbl';subst hbl'
     rw [hβj]
     intro hk'
     have:=hg.inj i j c _ k (i1.sub i c hi') hjo hk hk'
     subst this;rw [q1] at hi';cases hi'
    ·exact i1.Hh i c l d k hi' hib hl hk,i1.sub,i1.box,i1.bn,i1.Zn,fun x hx=>by
   obtain ⟨p1,p2,p3⟩:=i1.OZ x (by simp [hx])
   refine ⟨p1,p2,fun l d k hl hk=>?_⟩
   rw [AJ] at hl
   split at hl
   ·rename_i hbl';subst hbl'
    rw [hβj]
    intro hk'
    obtain ⟨cx,hcx⟩:=p2
    have:=hg.inj x j cx _ k hcx hjo hk hk'
    subst this
    obtain ⟨r1,_⟩:=hi.OZ x hx
    rw [r1] at hj;cases hj
   ·exact p3 l d k hl hk⟩
 have hi0: ∀ {c:Own S},lk ps.o j=some c->j ∉ fin.bl->Inv w0 F D0 D o N β w fin (j::pd) { ps with o:=rm ps.o j } oc n β':=fun {c} hj hjf=>⟨hi.gh,fun i c a d k hi'=>hi.Hh i c a d k (hrm i c hi').2,fun i c hi'=>hi.sub i c (hrm i c hi').2,hi.box,hi.bn,hi.Zn,fun a ha=>by
   rcases List.mem_cons.1 ha with rfl|ha
   ·exact ⟨by simp [Cs],⟨_,hi.sub _ _ hj⟩,fun l d k hl hk=>hi.Hh a _ l d k hj hjf hl hk⟩
   ·obtain ⟨p1,p2,p3⟩:=hi.OZ a ha
    exact ⟨by simp only [Cs,p1];split<;>rfl,p2,p3⟩⟩
 unfold Qe at h1
 unfold GC at he
 cases hrow:b.row with
 | false=>
  simp only [hrow] at h1 he
  split at h1
  case h_2=>cases h1
  rename_i T cs hj
  split at h1
  case h_2=>cases h1
  rename_i hT
  have hT:=Nat.eq_of_beq_eq_true hT
  have hlep:=Qf h1
  have hjf:j ∉ fin.bl:=Inv.Ni (hlep.trans hf) hfb
  have hjo:=hi.sub j _ hj
  rcases hE:Em b.ps y n oc with ⟨a,o2,n2⟩
  rw [hE] at he
  simp only [Prod.mk.injEq] at he
  obtain ⟨rfl,rfl⟩:=he
  obtain ⟨β1,e1,i1,hd1,on1,n1le⟩:=Y6 hg (hi0 hj hjf) h1 hf hfb hbl hE
  have hβj:β1 b.i=β j:=i1.box b.i hbi j (hf.m _ _ (hlep.m _ _ hm))
  obtain ⟨g,hb1,hb2⟩:=hg.own j _ hjo
  have hnone:lk o2 b.i=none:=by rw [(Mp hE).1 b.i (Nat.lt_of_lt_of_le hbi hi.bn)];exact hoc
  exact ⟨β1,e1,hfin hjo hjf i1 hj hβj hnone on1 ⟨g,hb1,by rw [<-hd1,<- hT];exact hb2⟩,n1le⟩
 | true=>
  simp only [hrow] at h1 he
  obtain ⟨c,hc,hj,rfl⟩:=MN h1
  rw [hc] at he
  simp only [Prod.mk.injEq] at he
  obtain ⟨rfl,rfl⟩:=he
  have hjf:j ∉ fin.bl:=Inv.Ni hf hfb
  have hjo:=hi.sub j _ hj
  have i1:=hi0 hj hjf
  have hβj:β' b.i=β j:=hi.box b.i hbi j (hf.m _ _ hm)
  refine ⟨β',fun _ _=>rfl,hfin hjo hjf i1 hj hβj hoc (Nz hc _) ?_,Nat.le_refl _⟩
  have h5:=Own.Bx (D':=FZ D β fin.bl) (hg.own j _ hjo) EA
  refine Own.Dt (N:=fun _=>False) (fun i hi=>hi.elim) (Nz hc _) h5
theorem Y4: ∀ {bs:List Gt} {seen:List Nat} {ps ps':PS S} {x:BT S bs} {oc:List (Nat×Own S)} {n:Nat} {β':Nat->Nm},GH w0 F D0 D o N β w->Inv w0 F D0 D o N β w fin pd ps oc n β'->U9 bs seen ps=some (x,ps')->Cd ps' fin->(∀ i∈fin.bl,lk fin.o i≠none)->(∀ i∈ps'.bl,i∈fin.bl)->
  (∀ b∈bs,b.i<fin.bn)->(∀ i,i<fin.bn->i ∉ seen->lk oc i=none)-> ∀ {oc':List (Nat×Own S)} {n':Nat},El bs x n oc=(oc',n')->
  ∃ β'',(∀ i,i<n->β' i=β'' i)/\Inv w0 F D0 D o N β w fin pd ps' oc' n' β''/\n<=n'
 | [],seen,ps,ps',x,oc,n,β',hg,hi,h,hf,hfb,hbl,hbs,hoc,oc',n',he=>by
  simp only [U9,Option.some.injEq,Prod.mk.injEq] at h
  simp only [El,Prod.mk.injEq] at he
  obtain ⟨rfl,rfl⟩:=he
  rw [<-h.2]
  exact ⟨β',fun _ _=>rfl,hi,Nat.le_refl _⟩
 | b::r,seen,ps,ps',x,oc,n,β',hg,hi,h,hf,hfb,hbl,hbs,hoc,oc',n',he=>by
  simp only [U9] at h
  split at h
  case h_2=>cases h
  rename_i j hm
  split at h
  case h_2=>cases h
  rename_i hjb hseen
  split at h
  case h_2=>cases h
  rename_i y ps1 h1
  split at h
  case h_2=>cases h
  rename_i z ps2 h2
  cases h
  have hle2:=T0 h2
  have hbi:=hbs b (by simp)
  have hnotin:b.i ∉ seen:=fun hm=>by rw [Cg.2 hm] at hseen;cases hseen
  simp only [El] at he
  rcases hE:GC b y n oc with ⟨o1,n1⟩
  rw [hE] at he
  simp only at he
  obtain ⟨β1,e1,i2,n1le⟩:=cE hg hi hm hjb h1 (hle2.trans hf) hfb (fun i hi=>hbl i (Tz h2 i hi)) hbi (hoc b.i hbi hnotin) hE
  have hocb: ∀ i,i<fin.bn->i ∉ b.i::seen->lk o1 i=none:=fun i hi' hns=>by
   simp only [List.mem_cons,not_or] at hns
   rw [(Oi hE).1 i (Nat.lt_of_lt_of_le hi' hi.bn) hns.1]
   exact hoc i hi' hns.2
  obtain ⟨β2,e2,i3,n2le⟩:=Y4 hg i2 h2 hf hfb hbl (fun b' hb'=>hbs b' (List.mem_cons_of_mem _ hb')) hocb he
  exact ⟨β2,fun i hi=>(e1 i hi).trans (e2 i (by omega)),i3,by omega⟩
def Spec.okB (q:Spec) (bn:Nat):Bool:=q.bx.all fun b=>Nat.ble (b.i+1) bn
theorem Spec.CA {q:Spec} {bw:Bool} {vs:List SV} {m:List (Nat×Nat)} {bn:Nat} {x:q.D S} {ps:PS S} (hg:GH w0 F D0 D o N β w) (h:q.parse bw vs o m bn=some (x,ps)) (hq:q.okB bn=true)
  {svs:List SV} {o':List (Nat×Own S)} {n':Nat} (he:q.enc x bn=(svs,o',n')):
  ∃ β',(∀ i,i<bn-> ∀ j,lk ps.m i=some j->β' i=β j)/\GH w0 F D0 (FZ D β ps.bl) o' (· <n') β' w/\AB β vs=AB β' svs/\BW (· <n') svs/\bn<=n'/\
   (∀ i c j d k,lk ps.o i=some c->i ∉ ps.bl->lk o' j=some d->(β i).has k->¬ (β' j).has k)/\(∀ i c,lk ps.o i=some c->lk o i=some c)/\(∀ i j,lk m i=some j->lk ps.m i=some j)/\(∀ i∈ps.bl,∃ c,lk ps.o i=some c):=by
 unfold Spec.parse at h
 split at h
 case h_2=>cases h
 rename_i y ps1 h1
 split at h
 case h_2=>cases h
 rename_i z ps2 h2
 cases h
 have hle1:=Ty h1
 have hle2:=T0 h2
 have hle:=hle1.trans hle2
 have hfb: ∀ i∈ps.bl,lk ps.o i≠none:=hle.bl (fun i hi=>by simp at hi)
 have hbn:ps.bn=bn:=hle.bn
 have hblo: ∀ i∈ps.bl,∃ c,lk o i=some c:=fun i hi=>by
  cases hl:lk ps.o i with
  | none=>exact absurd hl (hfb i hi)
  | some c=>exact ⟨c,hle.sub i c hl⟩
 -- at first: no blocks,and the boxes' names
 let β':Nat->Nm:=fun i=>match lk ps.m i with
  | some j=>β j
  | none=>⟨none,0,0,undef⟩
 have i0:Inv w0 F D0 D o N β w ps [] ⟨o,m,[],bn⟩ [] bn β':=by
  refine ⟨⟨fun i b h=>by simp [AQ] at h,fun i b h=>by simp [AQ] at h,fun i j b c k h=>by simp [AQ] at h,fun i b k h=>by simp [AQ] at h,fun i b k h=>by simp [AQ] at h,fun i b k h=>by simp [AQ] at h,fun k hk=>?_,fun k hk=>?_,hg.fr,fun k hk=>.inl (hg.sub k hk)⟩,fun i c j d k _ _ h=>by simp [AQ] at h,fun _ _ h=>h,fun i _ j hj=>?_,Nat.le_of_eq hbn,hblo,fun j hj=>by simp at hj⟩
  ·rcases hk with hk|⟨i,hi,hik⟩
   ·exact hg.DF k hk
   ·obtain ⟨c,hc⟩:=hblo i hi;exact hg.lt i c k hc hik
  ·rcases hk with hk|⟨i,hi,hik⟩
   ·exact hg.KQ k hk
   ·obtain ⟨c,hc⟩:=hblo i hi
    rcases hg.fresh i c k hc hik with h1|h1
    ·exact .inr (.inr h1)
    ·exact .inr (.inl h1)
  ·simp only [β',hj]
 unfold Spec.enc at he
 rcases hE:CE q.as y bn [] with ⟨a,o1,n1⟩
 rw [hE] at he
 simp only at he
 rcases hE2:El q.bx z n1 o1 with ⟨o2,n2⟩
 rw [hE2] at he
 simp only [Prod.mk.injEq] at he
 obtain ⟨rfl,rfl,rfl⟩:=he
 obtain ⟨β1,e1,i1,hd1,on1,le1⟩:=Y3 hg i0 h1 hle2 hfb (fun i hi=>Tz h2 i hi) hE
 have hoc: ∀ i,i<ps.bn->i ∉ ([]:List Nat)->lk o1 i=none:=fun i hi _=>by
  rw [(Ml hE).1 i (by omega)];rfl
 have hbs: ∀ b∈q.bx,b.i<ps.bn:=fun b hb=>by
  have:=(List.all_eq_true.1 hq) b hb
  have:=Nat.le_of_ble_eq_true this
  omega
 obtain ⟨β2,e2,i2,le2⟩:=Y4 hg i1 h2 (Cd.refl _) hfb (fun _ h=>h) hbs hoc hE2
 refine ⟨β2,fun i hi j hj=>i2.box i (by omega) j hj,i2.gh,?_,CX (fun i hi=>Nat.lt_of_lt_of_le hi le2) on1,by omega,i2.Hh,i2.sub,hle.m,fun i hi=>?_⟩
 ·rw [hd1,Bb e2 a on1]
 ·cases hl:lk ps.o i with
  | none=>exact absurd hl (hfb i hi)
  | some c=>exact ⟨c,rfl⟩
end
end Go.En
