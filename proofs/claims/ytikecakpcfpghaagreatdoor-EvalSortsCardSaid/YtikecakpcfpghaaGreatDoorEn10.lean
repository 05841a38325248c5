/-
 A state that was looked at by a pattern is the pattern's own, of the data that were found (parse_ok); names turned (ren).
-/
import Derived.Test.YtikecakpcfpghaaGreatDoorEn9
namespace Go.En
open Go.RowKit
section
variable {S:Aq} {w0:World} {F D0 D:Nat->Prop} {o:List (Nat×Own S)} {N:Nat->Prop} {β:Nat->Nm} {w:World} {fin:PS S} {pd:List Nat}
theorem TW {bw:Bool}: ∀ {qs:List Cr} {cs:List SV} {ps ps':PS S} {x:PT S qs},QW bw qs cs ps=some (x,ps')-> ∀ i∈ps.bl,i∈ps'.bl
 | [],[],ps,ps',x,h=>by simp only [QW,Option.some.injEq,Prod.mk.injEq] at h;rw [<-h.2];exact fun _ h=>h
 | [],_::_,ps,ps',x,h=>by simp [QW] at h
 | p::r,cs,ps,ps',x,h=>by
  simp only [QW] at h
  split at h
  case h_2=>cases h
  rename_i h1
  split at h
  case h_2=>cases h
  rename_i h2
  cases h
  exact fun i hi=>TW h2 i (cN h1 i hi)
theorem Yj {bw:Bool}: ∀ {qs:List Cr} {cs:List SV} {ps ps':PS S} {x:PT S qs} {oc:List (Nat×Own S)} {n:Nat} {β':Nat->Nm},GH w0 F D0 D o N β w->Inv w0 F D0 D o N β w fin pd ps oc n β'->QW bw qs cs ps=some (x,ps')->CW ps' fin->(∀ i∈fin.bl,lk fin.o i≠none)->(∀ i∈ps'.bl,i∈fin.bl)->
  ∀ {svs:List SV} {oc':List (Nat×Own S)} {n':Nat},Ed qs x n oc=(svs,oc',n')->
  ∃ β'',(∀ i,i<n->β' i=β'' i)/\Inv w0 F D0 D o N β w fin pd ps' oc' n' β''/\AA β cs=AA β'' svs/\BR (· <n') svs/\n<=n'
 | [],[],ps,ps',x,oc,n,β',hg,hi,h,hf,hfb,hbl,svs,oc',n',he=>by
  simp only [QW,Option.some.injEq,Prod.mk.injEq] at h
  simp only [Ed,Prod.mk.injEq] at he
  obtain ⟨rfl,rfl,rfl⟩:=he
  rw [<-h.2]
  exact ⟨β',fun _ _=>rfl,hi,by simp [AA],trivial,Nat.le_refl _⟩
 | [],_::_,ps,ps',x,oc,n,β',hg,hi,h,hf,hfb,hbl,svs,oc',n',he=>by simp [QW] at h
 | p::r,cs,ps,ps',x,oc,n,β',hg,hi,h,hf,hfb,hbl,svs,oc',n',he=>by
  simp only [QW] at h
  split at h
  case h_2=>cases h
  rename_i y cs' ps1 h1
  split at h
  case h_2=>cases h
  rename_i z ps2 h2
  cases h
  have hle:=QI h2
  simp only [Ed] at he
  rcases hE:Bn p y n oc with ⟨a,o1,n1⟩
  rw [hE] at he
  simp only at he
  rcases hE2:Ed r z n1 o1 with ⟨b,o2,n2⟩
  rw [hE2] at he
  simp only [Prod.mk.injEq] at he
  obtain ⟨rfl,rfl,rfl⟩:=he
  obtain ⟨β1,e1,i1,⟨us,hu1,hu2⟩,on1,n1le⟩:=cP hg hi h1 (hle.trans hf) hfb (fun i hi=>hbl i (TW h2 i hi)) hE
  obtain ⟨β2,e2,i2,hd2,on2,n2le⟩:=Yj hg i1 h2 hf hfb hbl hE2
  refine ⟨β2,fun i hi=>(e1 i hi).trans (e2 i (by omega)),i2,?_,EZ (CP (fun i hi=>Nat.lt_of_lt_of_le hi n2le) on1) on2,by omega⟩
  rw [hu1,CJ,CJ,hu2,hd2,BX e2 a on1]
theorem Yf {bw:Bool}: ∀ {qs:List Cr} {vs:List SV} {ps ps':PS S} {x:PT S qs},OA bw qs vs ps=some (x,ps')-> ∀ i∈ps.bl,i∈ps'.bl
 | [],[],ps,ps',x,h=>by simp only [OA,Option.some.injEq,Prod.mk.injEq] at h;rw [<-h.2];exact fun _ h=>h
 | [],_::_,ps,ps',x,h=>by simp [OA] at h
 | _::_,[],ps,ps',x,h=>by simp [OA] at h
 | p::r,v::vs,ps,ps',x,h=>by
  simp only [OA] at h
  split at h
  case h_2=>cases h
  split at h
  case h_2=>cases h
  rename_i h1
  split at h
  case h_2=>cases h
  rename_i h2
  cases h
  exact fun i hi=>Yf h2 i (cN h1 i hi)
theorem Cr.bV {p:Cr} {v:SV} {cs svs:List SV} {β':Nat->Nm} (hc:p.cellsOf v=some cs) (h:AA β cs=AA β' svs):v.den β=(p.val svs).den β':=by
 have one: ∀ v:SV,cs=[v]-> ∃ y,svs=[y]/\v.den β=y.den β':=fun v hv=>by
  subst hv
  have hl:=congrArg List.length h
  rw [AF,AF] at hl
  match svs,hl with
  | [y],_=>exact ⟨y,rfl,by simpa [AA] using h⟩
 cases p with
 | st τ=>
  obtain ⟨h1,_⟩:=Dx hc β
  simp only [Cr.val,h1,SV.den,h]
 | _=>
  simp only [Cr.cellsOf,Option.some.injEq] at hc
  obtain ⟨y,rfl,hy⟩:=one v hc.symm
  simpa [Cr.val] using hy
theorem Cr.ZY {p:Cr} {svs:List SV} {N:Nat->Prop} (h:BR N svs):(p.val svs).on N:=by
 unfold Cr.val
 split
 ·simpa [SV.on] using h
 ·exact h.1
 ·simpa [SV.on] using h
theorem Yg {bw:Bool}: ∀ {qs:List Cr} {vs:List SV} {ps ps':PS S} {x:PT S qs} {oc:List (Nat×Own S)} {n:Nat} {β':Nat->Nm},GH w0 F D0 D o N β w->Inv w0 F D0 D o N β w fin pd ps oc n β'->OA bw qs vs ps=some (x,ps')->CW ps' fin->(∀ i∈fin.bl,lk fin.o i≠none)->(∀ i∈ps'.bl,i∈fin.bl)->
  ∀ {svs:List SV} {oc':List (Nat×Own S)} {n':Nat},B9 qs x n oc=(svs,oc',n')->
  ∃ β'',(∀ i,i<n->β' i=β'' i)/\Inv w0 F D0 D o N β w fin pd ps' oc' n' β''/\AA β vs=AA β'' svs/\BR (· <n') svs/\n<=n'
 | [],[],ps,ps',x,oc,n,β',hg,hi,h,hf,hfb,hbl,svs,oc',n',he=>by
  simp only [OA,Option.some.injEq,Prod.mk.injEq] at h
  simp only [B9,Prod.mk.injEq] at he
  obtain ⟨rfl,rfl,rfl⟩:=he
  rw [<-h.2]
  exact ⟨β',fun _ _=>rfl,hi,by simp [AA],trivial,Nat.le_refl _⟩
 | [],_::_,ps,ps',x,oc,n,β',hg,hi,h,hf,hfb,hbl,svs,oc',n',he=>by simp [OA] at h
 | _::_,[],ps,ps',x,oc,n,β',hg,hi,h,hf,hfb,hbl,svs,oc',n',he=>by simp [OA] at h
 | p::r,v::vs,ps,ps',x,oc,n,β',hg,hi,h,hf,hfb,hbl,svs,oc',n',he=>by
  simp only [OA] at h
  split at h
  case h_2=>cases h
  rename_i cs hcs
  split at h
  case h_2=>cases h
  rename_i y ps1 h1
  split at h
  case h_2=>cases h
  rename_i z ps2 h2
  cases h
  have hle:=TS h2
  simp only [B9] at he
  rcases hE:Bn p y n oc with ⟨a,o1,n1⟩
  rw [hE] at he
  simp only at he
  rcases hE2:B9 r z n1 o1 with ⟨b,o2,n2⟩
  rw [hE2] at he
  simp only [Prod.mk.injEq] at he
  obtain ⟨rfl,rfl,rfl⟩:=he
  obtain ⟨β1,e1,i1,⟨us,hu1,hu2⟩,on1,n1le⟩:=cP hg hi h1 (hle.trans hf) hfb (fun i hi=>hbl i (Yf h2 i hi)) hE
  obtain ⟨β2,e2,i2,hd2,on2,n2le⟩:=Yg hg i1 h2 hf hfb hbl hE2
  rw [List.append_nil] at hu1
  subst hu1
  have hv:=Cr.bV hcs hu2
  refine ⟨β2,fun i hi=>(e1 i hi).trans (e2 i (by omega)),i2,?_,⟨Am (fun i hi=>Nat.lt_of_lt_of_le hi n2le) (Cr.ZY on1),on2⟩,by omega⟩
  simp only [AA,hv,hd2]
  rw [CF e2 _ (Cr.ZY on1)]
theorem GH.iJ {oc:List (Nat×Own S)} {N':Nat->Prop} {β':Nat->Nm} (h:GH w0 F D0 D oc N' β' w) {i:Nat} {b:Own S} (hN:N' i) (hn:lk oc i=none) (hon:b.on N') (hh:b.holds D β' w (β' i)) (hfr: ∀ k,(β' i).has k->w0.heap.size<=k\/F k) (hoff: ∀ k,(β' i).has k->¬ D k)
  (hne: ∀ j c k,lk oc j=some c->(β' j).has k->¬ (β' i).has k) (hlt: ∀ k,(β' i).has k->k<w.heap.size):GH w0 F D0 D ((i,b)::oc) N' β' w:=by
 have key: ∀ j c,lk ((i,b)::oc) j=some c->(j=i/\c=b)\/(j≠i/\lk oc j=some c):=fun j c hj=>by
  rw [AI] at hj
  split at hj
  ·rename_i he;cases hj;exact .inl ⟨he.symm,rfl⟩
  ·rename_i he;exact .inr ⟨fun e=>he e.symm,hj⟩
 refine ⟨fun j c hj=>?_,fun j c hj=>?_,fun j l c d k hj hl h1 h2=>?_,fun j c k hj h1=>?_,fun j c k hj h1=>?_,fun j c k hj h1=>?_,h.C0,h.JV,h.fr,h.sub⟩
 ·rcases key j c hj with ⟨rfl,rfl⟩|⟨_,hj⟩
  ·exact ⟨hN,hon⟩
  ·exact h.Bk j c hj
 ·rcases key j c hj with ⟨rfl,rfl⟩|⟨_,hj⟩
  ·exact hh
  ·exact h.own j c hj
 ·rcases key j c hj with ⟨e1,_⟩|⟨_,hj'⟩<;>rcases key l d hl with ⟨e2,_⟩|⟨_,hl'⟩
  ·rw [e1,e2]
  ·subst e1;exact absurd h1 (hne l d k hl' h2)
  ·subst e2;exact absurd h2 (hne j c k hj' h1)
  ·exact h.inj j l c d k hj' hl' h1 h2
 ·rcases key j c hj with ⟨rfl,rfl⟩|⟨_,hj⟩
  ·exact hfr k h1
  ·exact h.fresh j c k hj h1
 ·rcases key j c hj with ⟨rfl,rfl⟩|⟨_,hj⟩
  ·exact hoff k h1
  ·exact h.off j c k hj h1
 ·rcases key j c hj with ⟨rfl,rfl⟩|⟨_,hj⟩
  ·exact hlt k h1
  ·exact h.lt j c k hj h1
theorem KG: ∀ {fs:List (FC S.T)} {n:Nat} {oc:List (Nat×Own S)} {cs:List SV} {oc':List (Nat×Own S)} {n':Nat},CS fs n oc=(cs,oc',n')-> ∀ i,i<n->lk oc' i=lk oc i
 | [],n,oc,cs,oc',n',h,i,hi=>by simp only [CS,Prod.mk.injEq] at h;rw [<-h.2.1]
 | f::r,n,oc,cs,oc',n',h,i,hi=>by
  cases f with
  | sl σ l=>
   simp only [CS,Prod.mk.injEq] at h
   rw [<-h.2.1,KG (n:=n+1) (oc:=(n,.sl σ l)::oc) rfl i (by omega),AI,if_neg (by omega)]
  | ow σ E l=>
   simp only [CS,Prod.mk.injEq] at h
   rw [<-h.2.1,KG (n:=n+1) (oc:=(n,.any)::oc) rfl i (by omega),AI,if_neg (by omega)]
  | _=>simp only [CS,Prod.mk.injEq] at h;rw [<-h.2.1];exact KG rfl i hi
theorem KF: ∀ {fs:List (FC S.T)} {n:Nat} {oc:List (Nat×Own S)} {cs:List SV} {oc':List (Nat×Own S)} {n':Nat},CS fs n oc=(cs,oc',n')->n<=n'
 | [],n,oc,cs,oc',n',h=>by simp only [CS,Prod.mk.injEq] at h;rw [h.2.2];exact Nat.le_refl _
 | f::r,n,oc,cs,oc',n',h=>by
  cases f with
  | sl σ l=>
   simp only [CS,Prod.mk.injEq] at h
   have:=KF (fs:=r) (n:=n+1) (oc:=(n,.sl σ l)::oc) rfl
   omega
  | ow σ E l=>
   simp only [CS,Prod.mk.injEq] at h
   have:=KF (fs:=r) (n:=n+1) (oc:=(n,.any)::oc) rfl
   omega
  | _=>simp only [CS,Prod.mk.injEq] at h;rw [<-h.2.2];exact KF rfl
theorem T7 {p:Cr} {x:p.T S} {n:Nat} {oc:List (Nat×Own S)} {cs:List SV} {oc':List (Nat×Own S)} {n':Nat} (h:Bn p x n oc=(cs,oc',n')):(∀ i,i<n->lk oc' i=lk oc i)/\n<=n':=by
 cases p with
 | fd f=>exact ⟨KG h,KF h⟩
 | st τ=>exact ⟨KG h,KF h⟩
 | own τ E=>simp only [Bn,Prod.mk.injEq] at h;obtain ⟨_,rfl,rfl⟩:=h;exact ⟨fun i hi=>by rw [AI,if_neg (by omega)],Nat.le_succ _⟩
 | dp τ E=>simp only [Bn,Prod.mk.injEq] at h;obtain ⟨_,rfl,rfl⟩:=h;exact ⟨fun i hi=>by rw [AI,if_neg (by omega)],Nat.le_succ _⟩
 | mp κ τ ag=>simp only [Bn,Prod.mk.injEq] at h;obtain ⟨_,rfl,rfl⟩:=h;exact ⟨fun i hi=>by rw [AI,if_neg (by omega)],Nat.le_succ _⟩
 | mr κ τ ag E=>simp only [Bn,Prod.mk.injEq] at h;obtain ⟨_,rfl,rfl⟩:=h;exact ⟨fun i hi=>by rw [AI,if_neg (by omega)],Nat.le_succ _⟩
 | al i off=>simp only [Bn,Prod.mk.injEq] at h;obtain ⟨_,rfl,rfl⟩:=h;exact ⟨fun _ _=>rfl,Nat.le_refl _⟩
 | np=>simp only [Bn,Prod.mk.injEq] at h;obtain ⟨_,rfl,rfl⟩:=h;exact ⟨fun _ _=>rfl,Nat.le_refl _⟩
 | hd=>simp only [Bn,Prod.mk.injEq] at h;obtain ⟨_,rfl,rfl⟩:=h;exact ⟨fun i hi=>by rw [AI,if_neg (by omega)],Nat.le_succ _⟩
 | hm=>simp only [Bn,Prod.mk.injEq] at h;obtain ⟨_,rfl,rfl⟩:=h;exact ⟨fun i hi=>by rw [AI,if_neg (by omega)],Nat.le_succ _⟩
 | rw i=>simp only [Bn,Prod.mk.injEq] at h;obtain ⟨_,rfl,rfl⟩:=h;exact ⟨fun _ _=>rfl,Nat.le_refl _⟩
 | rm i=>simp only [Bn,Prod.mk.injEq] at h;obtain ⟨_,rfl,rfl⟩:=h;exact ⟨fun _ _=>rfl,Nat.le_refl _⟩
 | ep i z off=>simp only [Bn,Prod.mk.injEq] at h;obtain ⟨_,rfl,rfl⟩:=h;exact ⟨fun _ _=>rfl,Nat.le_refl _⟩
 | fn f caps=>simp only [Bn,Prod.mk.injEq] at h;obtain ⟨_,rfl,rfl⟩:=h;exact ⟨fun _ _=>rfl,Nat.le_refl _⟩
theorem Me: ∀ {qs:List Cr} {x:PT S qs} {n:Nat} {oc:List (Nat×Own S)} {cs:List SV} {oc':List (Nat×Own S)} {n':Nat},Ed qs x n oc=(cs,oc',n')->(∀ i,i<n->lk oc' i=lk oc i)/\n<=n'
 | [],x,n,oc,cs,oc',n',h=>by simp only [Ed,Prod.mk.injEq] at h;obtain ⟨_,rfl,rfl⟩:=h;exact ⟨fun _ _=>rfl,Nat.le_refl _⟩
 | p::r,x,n,oc,cs,oc',n',h=>by
  simp only [Ed] at h
  rcases hE:Bn p x.1 n oc with ⟨a,o1,n1⟩
  rw [hE] at h
  simp only at h
  rcases hE2:Ed r x.2 n1 o1 with ⟨b,o2,n2⟩
  rw [hE2] at h
  simp only [Prod.mk.injEq] at h
  obtain ⟨_,rfl,rfl⟩:=h
  obtain ⟨h1,h2⟩:=T7 hE
  obtain ⟨h3,h4⟩:=Me hE2
  exact ⟨fun i hi=>(h3 i (by omega)).trans (h1 i hi),by omega⟩
theorem Mb: ∀ {qs:List Cr} {x:PT S qs} {n:Nat} {oc:List (Nat×Own S)} {cs:List SV} {oc':List (Nat×Own S)} {n':Nat},B9 qs x n oc=(cs,oc',n')->(∀ i,i<n->lk oc' i=lk oc i)/\n<=n'
 | [],x,n,oc,cs,oc',n',h=>by simp only [B9,Prod.mk.injEq] at h;obtain ⟨_,rfl,rfl⟩:=h;exact ⟨fun _ _=>rfl,Nat.le_refl _⟩
 | p::r,x,n,oc,cs,oc',n',h=>by
  simp only [B9] at h
  rcases hE:Bn p x.1 n oc with ⟨a,o1,n1⟩
  rw [hE] at h
  simp only at h
  rcases hE2:B9 r x.2 n1 o1 with ⟨b,o2,n2⟩
  rw [hE2] at h
  simp only [Prod.mk.injEq] at h
  obtain ⟨_,rfl,rfl⟩:=h
  obtain ⟨h1,h2⟩:=T7 hE
  obtain ⟨h3,h4⟩:=Mb hE2
  exact ⟨fun i hi=>(h3 i (by omega)).trans (h1 i hi),by omega⟩
theorem ai {b:Gh} {j:Nat} {ps ps':PS S} {x:PT S b.ps} (h:QH b j ps=some (x,ps')): ∀ i∈ps.bl,i∈ps'.bl:=by
 unfold QH at h
 split at h
 ·split at h
  case h_2=>cases h
  split at h
  case h_2=>cases h
  exact fun i hi=>TW h i hi
 ·obtain ⟨c,_,_,rfl⟩:=MD h
  exact fun _ h=>h
theorem TT: ∀ {bs:List Gh} {seen:List Nat} {ps ps':PS S} {x:BT S bs},Uo bs seen ps=some (x,ps')-> ∀ i∈ps.bl,i∈ps'.bl
 | [],seen,ps,ps',x,h=>by simp only [Uo,Option.some.injEq,Prod.mk.injEq] at h;rw [<-h.2];exact fun _ h=>h
 | b::r,seen,ps,ps',x,h=>by
  simp only [Uo] at h
  split at h
  case h_2=>cases h
  split at h
  case h_2=>cases h
  split at h
  case h_2=>cases h
  rename_i h1
  split at h
  case h_2=>cases h
  rename_i h2
  cases h
  exact fun i hi=>TT h2 i (ai h1 i hi)
theorem OZ {b:Gh} {x:PT S b.ps} {n:Nat} {oc:List (Nat×Own S)} {oc':List (Nat×Own S)} {n':Nat} (h:Fz b x n oc=(oc',n')):(∀ i,i<n->i≠b.i->lk oc' i=lk oc i)/\n<=n':=by
 unfold Fz at h
 split at h
 ·rcases hE:Ed b.ps x n oc with ⟨a,o1,n1⟩
  rw [hE] at h
  simp only [Prod.mk.injEq] at h
  obtain ⟨rfl,rfl⟩:=h
  obtain ⟨h1,h2⟩:=Me hE
  exact ⟨fun i hi hne=>by rw [AI,if_neg (Ne.symm hne)];exact h1 i hi,h2⟩
 ·split at h
  ·simp only [Prod.mk.injEq] at h
   obtain ⟨rfl,rfl⟩:=h
   exact ⟨fun i hi hne=>by rw [AI,if_neg (Ne.symm hne)],Nat.le_refl _⟩
  ·simp only [Prod.mk.injEq] at h
   obtain ⟨rfl,rfl⟩:=h
   exact ⟨fun _ _ _=>rfl,Nat.le_refl _⟩
theorem Rm {p:Cr} {x:p.T S} {c:Own S} (h:Ns p x=some c) (M:Nat->Prop):c.on M:=by
 unfold Ns at h
 split at h<;>cases h<;>trivial
theorem Nr: ∀ {qs:List Cr} {x:PT S qs} {c:Own S},rowOf qs x=some c-> ∀ (M:Nat->Prop),c.on M
 | [],x,c,h=>by simp [rowOf] at h
 | _::_::_,x,c,h=>by simp [rowOf] at h
 | [p],x,c,h=>Rm h
theorem aj {b:Gh} {j:Nat} {ps ps1:PS S} {y:PT S b.ps} {oc:List (Nat×Own S)} {n:Nat} {β':Nat->Nm} (hg:GH w0 F D0 D o N β w) (hi:Inv w0 F D0 D o N β w fin pd ps oc n β') (hm:lk ps.m b.i=some j) (hjb:EB j ps.bl=false) (h1:QH b j ps=some (y,ps1)) (hf:CW ps1 fin) (hfb: ∀ i∈fin.bl,lk fin.o i≠none) (hbl: ∀ i∈ps1.bl,i∈fin.bl)
  (hbi:b.i<fin.bn) (hoc:lk oc b.i=none) {o1:List (Nat×Own S)} {n1:Nat} (he:Fz b y n oc=(o1,n1)):
  ∃ β1,(∀ i,i<n->β' i=β1 i)/\Inv w0 F D0 D o N β w fin pd ps1 o1 n1 β1/\n<=n1:=by
 have hle1:=Un hjb h1
 have hrm: ∀ i c,lk (rm ps.o j) i=some c->i≠j/\lk ps.o i=some c:=fun i c hi'=>by
  rw [Co] at hi'
  split at hi'
  ·cases hi'
  ·rename_i hne;exact ⟨fun e=>hne e.symm,hi'⟩
 have hfin: ∀ {c:Own S} {ps2:PS S} {o2:List (Nat×Own S)} {n2:Nat} {β2:Nat->Nm} {d:Own S},lk o j=some c->j ∉ fin.bl->Inv w0 F D0 D o N β w fin (j::pd) ps2 o2 n2 β2->lk ps.o j=some c->β2 b.i=β j->lk o2 b.i=none->d.on (· <n2)->d.holds (FN D β fin.bl) β2 w (β j)->Inv w0 F D0 D o N β w fin pd ps2 ((b.i,d)::o2) n2 β2:=fun {c ps2 o2 n2 β2 d} hjo hjf i1 hj hβj hnone hon hh=>by
  obtain ⟨q1,q2,q3⟩:=i1.OQ j (by simp)
  have hg1:=i1.gh.iJ (i:=b.i) (b:=d) (Nat.lt_of_lt_of_le hbi i1.bn) hnone hon (by rw [hβj];exact hh) (fun k hk=>by rw [hβj] at hk;exact hg.fresh j _ k hjo hk) (fun k hk hD=>by
    rw [hβj] at hk
    rcases hD with hD|⟨i,hib,hik⟩
    ·exact hg.off j _ k hjo hk hD
    ·obtain ⟨d,hd⟩:=hi.ZZ i hib
     have:=hg.inj i j d _ k hd hjo hik hk
     subst this;exact hjf hib) (fun l c k hl hk hk'=>q3 l c k hl (by rw [hβj] at hk';exact hk') hk) (fun k hk=>by rw [hβj] at hk;exact hg.lt j _ k hjo hk)
  exact ⟨hg1,fun i c l d k hi' hib hl hk=>by
    rw [AI] at hl
    split at hl
    ·rename_i hbl';subst hbl'
     rw [hβj]
     intro hk'
     have:=hg.inj i j c _ k (i1.sub i c hi') hjo hk hk'
     subst this;rw [q1] at hi';cases hi'
    ·exact i1.HV i c l d k hi' hib hl hk,i1.sub,i1.box,i1.bn,i1.ZZ,fun x hx=>by
   obtain ⟨p1,p2,p3⟩:=i1.OQ x (by simp [hx])
   refine ⟨p1,p2,fun l d k hl hk=>?_⟩
   rw [AI] at hl
   split at hl
   ·rename_i hbl';subst hbl'
    rw [hβj]
    intro hk'
    obtain ⟨cx,hcx⟩:=p2
    have:=hg.inj x j cx _ k hcx hjo hk hk'
    subst this
    obtain ⟨r1,_⟩:=hi.OQ x hx
    rw [r1] at hj;cases hj
   ·exact p3 l d k hl hk⟩
 have hi0: ∀ {c:Own S},lk ps.o j=some c->j ∉ fin.bl->Inv w0 F D0 D o N β w fin (j::pd) { ps with o:=rm ps.o j } oc n β':=fun {c} hj hjf=>⟨hi.gh,fun i c a d k hi'=>hi.HV i c a d k (hrm i c hi').2,fun i c hi'=>hi.sub i c (hrm i c hi').2,hi.box,hi.bn,hi.ZZ,fun a ha=>by
   rcases List.mem_cons.1 ha with rfl|ha
   ·exact ⟨by simp [Co],⟨_,hi.sub _ _ hj⟩,fun l d k hl hk=>hi.HV a _ l d k hj hjf hl hk⟩
   ·obtain ⟨p1,p2,p3⟩:=hi.OQ a ha
    exact ⟨by simp only [Co,p1];split<;>rfl,p2,p3⟩⟩
 unfold QH at h1
 unfold Fz at he
 cases hrow:b.row with
 | false=>
  simp only [hrow] at h1 he
  split at h1
  case h_2=>cases h1
  rename_i T cs hj
  split at h1
  case h_2=>cases h1
  rename_i hT
  have hT:=Nat.eq_of_beq_eq_true hT
  have hlep:=QI h1
  have hjf:j ∉ fin.bl:=Inv.Nc (hlep.trans hf) hfb
  have hjo:=hi.sub j _ hj
  rcases hE:Ed b.ps y n oc with ⟨a,o2,n2⟩
  rw [hE] at he
  simp only [Prod.mk.injEq] at he
  obtain ⟨rfl,rfl⟩:=he
  obtain ⟨β1,e1,i1,hd1,on1,n1le⟩:=Yj hg (hi0 hj hjf) h1 hf hfb hbl hE
  have hβj:β1 b.i=β j:=i1.box b.i hbi j (hf.m _ _ (hlep.m _ _ hm))
  obtain ⟨g,hb1,hb2⟩:=hg.own j _ hjo
  have hnone:lk o2 b.i=none:=by rw [(Me hE).1 b.i (Nat.lt_of_lt_of_le hbi hi.bn)];exact hoc
  exact ⟨β1,e1,hfin hjo hjf i1 hj hβj hnone on1 ⟨g,hb1,by rw [<-hd1,<- hT];exact hb2⟩,n1le⟩
 | true=>
  simp only [hrow] at h1 he
  obtain ⟨c,hc,hj,rfl⟩:=MD h1
  rw [hc] at he
  simp only [Prod.mk.injEq] at he
  obtain ⟨rfl,rfl⟩:=he
  have hjf:j ∉ fin.bl:=Inv.Nc hf hfb
  have hjo:=hi.sub j _ hj
  have i1:=hi0 hj hjf
  have hβj:β' b.i=β j:=hi.box b.i hbi j (hf.m _ _ hm)
  refine ⟨β',fun _ _=>rfl,hfin hjo hjf i1 hj hβj hoc (Nr hc _) ?_,Nat.le_refl _⟩
  have h5:=Own.Bu (D':=FN D β fin.bl) (hg.own j _ hjo) D5
  refine Own.Dq (N:=fun _=>False) (fun i hi=>hi.elim) (Nr hc _) h5
theorem Yh: ∀ {bs:List Gh} {seen:List Nat} {ps ps':PS S} {x:BT S bs} {oc:List (Nat×Own S)} {n:Nat} {β':Nat->Nm},GH w0 F D0 D o N β w->Inv w0 F D0 D o N β w fin pd ps oc n β'->Uo bs seen ps=some (x,ps')->CW ps' fin->(∀ i∈fin.bl,lk fin.o i≠none)->(∀ i∈ps'.bl,i∈fin.bl)->
  (∀ b∈bs,b.i<fin.bn)->(∀ i,i<fin.bn->i ∉ seen->lk oc i=none)-> ∀ {oc':List (Nat×Own S)} {n':Nat},Ec bs x n oc=(oc',n')->
  ∃ β'',(∀ i,i<n->β' i=β'' i)/\Inv w0 F D0 D o N β w fin pd ps' oc' n' β''/\n<=n'
 | [],seen,ps,ps',x,oc,n,β',hg,hi,h,hf,hfb,hbl,hbs,hoc,oc',n',he=>by
  simp only [Uo,Option.some.injEq,Prod.mk.injEq] at h
  simp only [Ec,Prod.mk.injEq] at he
  obtain ⟨rfl,rfl⟩:=he
  rw [<-h.2]
  exact ⟨β',fun _ _=>rfl,hi,Nat.le_refl _⟩
 | b::r,seen,ps,ps',x,oc,n,β',hg,hi,h,hf,hfb,hbl,hbs,hoc,oc',n',he=>by
  simp only [Uo] at h
  split at h
  case h_2=>cases h
  rename_i j hm
  split at h
  case h_2=>cases h
  rename_i hjb hseen
  split at h
  case h_2=>cases h
  rename_i y ps1 h1
  split at h
  case h_2=>cases h
  rename_i z ps2 h2
  cases h
  have hle2:=TU h2
  have hbi:=hbs b (by simp)
  have hnotin:b.i ∉ seen:=fun hm=>by rw [Ca.2 hm] at hseen;cases hseen
  simp only [Ec] at he
  rcases hE:Fz b y n oc with ⟨o1,n1⟩
  rw [hE] at he
  simp only at he
  obtain ⟨β1,e1,i2,n1le⟩:=aj hg hi hm hjb h1 (hle2.trans hf) hfb (fun i hi=>hbl i (TT h2 i hi)) hbi (hoc b.i hbi hnotin) hE
  have hocb: ∀ i,i<fin.bn->i ∉ b.i::seen->lk o1 i=none:=fun i hi' hns=>by
   simp only [List.mem_cons,not_or] at hns
   rw [(OZ hE).1 i (Nat.lt_of_lt_of_le hi' hi.bn) hns.1]
   exact hoc i hi' hns.2
  obtain ⟨β2,e2,i3,n2le⟩:=Yh hg i2 h2 hf hfb hbl (fun b' hb'=>hbs b' (List.mem_cons_of_mem _ hb')) hocb he
  exact ⟨β2,fun i hi=>(e1 i hi).trans (e2 i (by omega)),i3,by omega⟩
def Spec.okB (q:Spec) (bn:Nat):Bool:=q.bx.all fun b=>Nat.ble (b.i+1) bn
theorem Spec.B5 {q:Spec} {bw:Bool} {vs:List SV} {m:List (Nat×Nat)} {bn:Nat} {x:q.D S} {ps:PS S} (hg:GH w0 F D0 D o N β w) (h:q.parse bw vs o m bn=some (x,ps)) (hq:q.okB bn=true)
  {svs:List SV} {o':List (Nat×Own S)} {n':Nat} (he:q.enc x bn=(svs,o',n')):
  ∃ β',(∀ i,i<bn-> ∀ j,lk ps.m i=some j->β' i=β j)/\GH w0 F D0 (FN D β ps.bl) o' (· <n') β' w/\AA β vs=AA β' svs/\BR (· <n') svs/\bn<=n'/\
   (∀ i c j d k,lk ps.o i=some c->i ∉ ps.bl->lk o' j=some d->(β i).has k->¬ (β' j).has k)/\(∀ i c,lk ps.o i=some c->lk o i=some c)/\(∀ i j,lk m i=some j->lk ps.m i=some j)/\(∀ i∈ps.bl,∃ c,lk ps.o i=some c):=by
 unfold Spec.parse at h
 split at h
 case h_2=>cases h
 rename_i y ps1 h1
 split at h
 case h_2=>cases h
 rename_i z ps2 h2
 cases h
 have hle1:=TS h1
 have hle2:=TU h2
 have hle:=hle1.trans hle2
 have hfb: ∀ i∈ps.bl,lk ps.o i≠none:=hle.bl (fun i hi=>by simp at hi)
 have hbn:ps.bn=bn:=hle.bn
 have hblo: ∀ i∈ps.bl,∃ c,lk o i=some c:=fun i hi=>by
  cases hl:lk ps.o i with
  | none=>exact absurd hl (hfb i hi)
  | some c=>exact ⟨c,hle.sub i c hl⟩
 -- at first: no blocks,and the boxes' names
 let β':Nat->Nm:=fun i=>match lk ps.m i with
  | some j=>β j
  | none=>⟨none,0,0,undef⟩
 have i0:Inv w0 F D0 D o N β w ps [] ⟨o,m,[],bn⟩ [] bn β':=by
  refine ⟨⟨fun i b h=>by simp [AS] at h,fun i b h=>by simp [AS] at h,fun i j b c k h=>by simp [AS] at h,fun i b k h=>by simp [AS] at h,fun i b k h=>by simp [AS] at h,fun i b k h=>by simp [AS] at h,fun k hk=>?_,fun k hk=>?_,hg.fr,fun k hk=>.inl (hg.sub k hk)⟩,fun i c j d k _ _ h=>by simp [AS] at h,fun _ _ h=>h,fun i _ j hj=>?_,Nat.le_of_eq hbn,hblo,fun j hj=>by simp at hj⟩
  ·rcases hk with hk|⟨i,hi,hik⟩
   ·exact hg.C0 k hk
   ·obtain ⟨c,hc⟩:=hblo i hi;exact hg.lt i c k hc hik
  ·rcases hk with hk|⟨i,hi,hik⟩
   ·exact hg.JV k hk
   ·obtain ⟨c,hc⟩:=hblo i hi
    rcases hg.fresh i c k hc hik with h1|h1
    ·exact .inr (.inr h1)
    ·exact .inr (.inl h1)
  ·simp only [β',hj]
 unfold Spec.enc at he
 rcases hE:B9 q.as y bn [] with ⟨a,o1,n1⟩
 rw [hE] at he
 simp only at he
 rcases hE2:Ec q.bx z n1 o1 with ⟨o2,n2⟩
 rw [hE2] at he
 simp only [Prod.mk.injEq] at he
 obtain ⟨rfl,rfl,rfl⟩:=he
 obtain ⟨β1,e1,i1,hd1,on1,le1⟩:=Yg hg i0 h1 hle2 hfb (fun i hi=>TT h2 i hi) hE
 have hoc: ∀ i,i<ps.bn->i ∉ ([]:List Nat)->lk o1 i=none:=fun i hi _=>by
  rw [(Mb hE).1 i (by omega)];rfl
 have hbs: ∀ b∈q.bx,b.i<ps.bn:=fun b hb=>by
  have:=(List.all_eq_true.1 hq) b hb
  have:=Nat.le_of_ble_eq_true this
  omega
 obtain ⟨β2,e2,i2,le2⟩:=Yh hg i1 h2 (CW.refl _) hfb (fun _ h=>h) hbs hoc hE2
 refine ⟨β2,fun i hi j hj=>i2.box i (by omega) j hj,i2.gh,?_,CP (fun i hi=>Nat.lt_of_lt_of_le hi le2) on1,by omega,i2.HV,i2.sub,hle.m,fun i hi=>?_⟩
 ·rw [hd1,BX e2 a on1]
 ·cases hl:lk ps.o i with
  | none=>exact absurd hl (hfb i hi)
  | some c=>exact ⟨c,rfl⟩
end
end Go.En
