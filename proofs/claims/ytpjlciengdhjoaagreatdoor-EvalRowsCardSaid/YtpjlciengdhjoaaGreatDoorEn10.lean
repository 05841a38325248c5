/-
 A state that was looked at by a pattern is the pattern's own, of the data that were found (parse_ok); names turned (ren).
-/
import Derived.Test.YtpjlciengdhjoaaGreatDoorEn9
namespace Go.En
open Go.RowKit
section
variable {S:As} {w0:World} {F D0 D:Nat->Prop} {o:List (Nat×Own S)} {N:Nat->Prop} {β:Nat->Nm} {w:World} {fin:PS S} {pd:List Nat}
theorem Tz {bw:Bool}: ∀ {qs:List C0} {cs:List SV} {ps ps':PS S} {x:PT S qs},Qv bw qs cs ps=some (x,ps')-> ∀ i∈ps.bl,i∈ps'.bl
 | [],[],ps,ps',x,h=>by simp only [Qv,am,bi] at h;rw [<-h.2];exact fun _ h=>h
 | [],_::_,ps,ps',x,h=>by simp [Qv] at h
 | p::r,cs,ps,ps',x,h=>by
  simp only [Qv] at h
  split at h
  case h_2=>cases h
  rename_i h1
  split at h
  case h_2=>cases h
  rename_i h2
  cases h
  exact fun i hi=>Tz h2 i (dM h1 i hi)
theorem ZA {bw:Bool}: ∀ {qs:List C0} {cs:List SV} {ps ps':PS S} {x:PT S qs} {oc:List (Nat×Own S)} {n:Nat} {β':Nat->Nm},GH w0 F D0 D o N β w->Inv w0 F D0 D o N β w fin pd ps oc n β'->Qv bw qs cs ps=some (x,ps')->Ck ps' fin->(∀ i∈fin.bl,lk fin.o i≠none)->(∀ i∈ps'.bl,i∈fin.bl)->
  ∀ {svs:List SV} {oc':List (Nat×Own S)} {n':Nat},Er qs x n oc=(svs,oc',n')->
  ∃ β'',(∀ i,i<n->β' i=β'' i)/\Inv w0 F D0 D o N β w fin pd ps' oc' n' β''/\AD β cs=AD β'' svs/\BZ (· <n') svs/\n<=n'
 | [],[],ps,ps',x,oc,n,β',hg,hi,h,hf,hfb,hbl,svs,oc',n',he=>by
  simp only [Qv,am,bi] at h
  simp only [Er,bi] at he
  obtain ⟨rfl,rfl,rfl⟩:=he
  rw [<-h.2]
  exact ⟨β',fun _ _=>rfl,hi,by simp [AD],trivial,Nat.le_refl _⟩
 | [],_::_,ps,ps',x,oc,n,β',hg,hi,h,hf,hfb,hbl,svs,oc',n',he=>by simp [Qv] at h
 | p::r,cs,ps,ps',x,oc,n,β',hg,hi,h,hf,hfb,hbl,svs,oc',n',he=>by
  simp only [Qv] at h
  split at h
  case h_2=>cases h
  rename_i y cs' ps1 h1
  split at h
  case h_2=>cases h
  rename_i z ps2 h2
  cases h
  have hle:=QY h2
  simp only [Er] at he
  rcases hE:B3 p y n oc with ⟨a,o1,n1⟩
  rw [hE] at he
  simp only at he
  rcases hE2:Er r z n1 o1 with ⟨b,o2,n2⟩
  rw [hE2] at he
  simp only [bi] at he
  obtain ⟨rfl,rfl,rfl⟩:=he
  obtain ⟨β1,e1,i1,⟨us,hu1,hu2⟩,on1,n1le⟩:=dO hg hi h1 (hle.trans hf) hfb (fun i hi=>hbl i (Tz h2 i hi)) hE
  obtain ⟨β2,e2,i2,hd2,on2,n2le⟩:=ZA hg i1 h2 hf hfb hbl hE2
  refine ⟨β2,fun i hi=>(e1 i hi).trans (e2 i (by omega)),i2,?_,Eh (Ce (fun i hi=>dg hi n2le) on1) on2,by omega⟩
  rw [hu1,CZ,CZ,hu2,hd2,Bf e2 a on1]
theorem Y6 {bw:Bool}: ∀ {qs:List C0} {vs:List SV} {ps ps':PS S} {x:PT S qs},OU bw qs vs ps=some (x,ps')-> ∀ i∈ps.bl,i∈ps'.bl
 | [],[],ps,ps',x,h=>by simp only [OU,am,bi] at h;rw [<-h.2];exact fun _ h=>h
 | [],_::_,ps,ps',x,h=>by simp [OU] at h
 | _::_,[],ps,ps',x,h=>by simp [OU] at h
 | p::r,v::vs,ps,ps',x,h=>by
  simp only [OU] at h
  split at h
  case h_2=>cases h
  split at h
  case h_2=>cases h
  rename_i h1
  split at h
  case h_2=>cases h
  rename_i h2
  cases h
  exact fun i hi=>Y6 h2 i (dM h1 i hi)
theorem C0.cP {p:C0} {v:SV} {cs svs:List SV} {β':Nat->Nm} (hc:p.cellsOf v=some cs) (h:AD β cs=AD β' svs):v.den β=(p.val svs).den β':=by
 have one: ∀ v:SV,cs=[v]-> ∃ y,svs=[y]/\v.den β=y.den β':=fun v hv=>by
  subst hv
  have hl:=congrArg List.length h
  rw [AI,AI] at hl
  match svs,hl with
  | [y],_=>exact ⟨y,rfl,by simpa [AD] using h⟩
 cases p with
 | st τ=>
  obtain ⟨h1,_⟩:=ED hc β
  simp only [C0.val,h1,SV.den,h]
 | _=>
  simp only [C0.cellsOf,am] at hc
  obtain ⟨y,rfl,hy⟩:=one v hc.symm
  simpa [C0.val] using hy
theorem C0.Z0 {p:C0} {svs:List SV} {N:Nat->Prop} (h:BZ N svs):(p.val svs).on N:=by
 unfold C0.val
 split
 ·simpa [SV.on] using h
 ·exact h.1
 ·simpa [SV.on] using h
theorem Y7 {bw:Bool}: ∀ {qs:List C0} {vs:List SV} {ps ps':PS S} {x:PT S qs} {oc:List (Nat×Own S)} {n:Nat} {β':Nat->Nm},GH w0 F D0 D o N β w->Inv w0 F D0 D o N β w fin pd ps oc n β'->OU bw qs vs ps=some (x,ps')->Ck ps' fin->(∀ i∈fin.bl,lk fin.o i≠none)->(∀ i∈ps'.bl,i∈fin.bl)->
  ∀ {svs:List SV} {oc':List (Nat×Own S)} {n':Nat},CV qs x n oc=(svs,oc',n')->
  ∃ β'',(∀ i,i<n->β' i=β'' i)/\Inv w0 F D0 D o N β w fin pd ps' oc' n' β''/\AD β vs=AD β'' svs/\BZ (· <n') svs/\n<=n'
 | [],[],ps,ps',x,oc,n,β',hg,hi,h,hf,hfb,hbl,svs,oc',n',he=>by
  simp only [OU,am,bi] at h
  simp only [CV,bi] at he
  obtain ⟨rfl,rfl,rfl⟩:=he
  rw [<-h.2]
  exact ⟨β',fun _ _=>rfl,hi,by simp [AD],trivial,Nat.le_refl _⟩
 | [],_::_,ps,ps',x,oc,n,β',hg,hi,h,hf,hfb,hbl,svs,oc',n',he=>by simp [OU] at h
 | _::_,[],ps,ps',x,oc,n,β',hg,hi,h,hf,hfb,hbl,svs,oc',n',he=>by simp [OU] at h
 | p::r,v::vs,ps,ps',x,oc,n,β',hg,hi,h,hf,hfb,hbl,svs,oc',n',he=>by
  simp only [OU] at h
  split at h
  case h_2=>cases h
  rename_i cs hcs
  split at h
  case h_2=>cases h
  rename_i y ps1 h1
  split at h
  case h_2=>cases h
  rename_i z ps2 h2
  cases h
  have hle:=Tv h2
  simp only [CV] at he
  rcases hE:B3 p y n oc with ⟨a,o1,n1⟩
  rw [hE] at he
  simp only at he
  rcases hE2:CV r z n1 o1 with ⟨b,o2,n2⟩
  rw [hE2] at he
  simp only [bi] at he
  obtain ⟨rfl,rfl,rfl⟩:=he
  obtain ⟨β1,e1,i1,⟨us,hu1,hu2⟩,on1,n1le⟩:=dO hg hi h1 (hle.trans hf) hfb (fun i hi=>hbl i (Y6 h2 i hi)) hE
  obtain ⟨β2,e2,i2,hd2,on2,n2le⟩:=Y7 hg i1 h2 hf hfb hbl hE2
  rw [List.append_nil] at hu1
  subst hu1
  have hv:=C0.cP hcs hu2
  refine ⟨β2,fun i hi=>(e1 i hi).trans (e2 i (by omega)),i2,?_,⟨Ao (fun i hi=>dg hi n2le) (C0.Z0 on1),on2⟩,by omega⟩
  simp only [AD,hv,hd2]
  rw [CX e2 _ (C0.Z0 on1)]
theorem GH.jH {oc:List (Nat×Own S)} {N':Nat->Prop} {β':Nat->Nm} (h:GH w0 F D0 D oc N' β' w) {i:Nat} {b:Own S} (hN:N' i) (hn:lk oc i=none) (hon:b.on N') (hh:b.holds D β' w (β' i)) (hfr: ∀ k,(β' i).has k->w0.heap.size<=k\/F k) (hoff: ∀ k,(β' i).has k->¬ D k)
  (hne: ∀ j c k,lk oc j=some c->(β' j).has k->¬ (β' i).has k) (hlt: ∀ k,(β' i).has k->k<w.heap.size):GH w0 F D0 D ((i,b)::oc) N' β' w:=by
 have key: ∀ j c,lk ((i,b)::oc) j=some c->(j=i/\c=b)\/(j≠i/\lk oc j=some c):=fun j c hj=>by
  rw [AK] at hj
  split at hj
  ·rename_i he;cases hj;exact .inl ⟨he.symm,rfl⟩
  ·rename_i he;exact .inr ⟨fun e=>he e.symm,hj⟩
 refine ⟨fun j c hj=>?_,fun j c hj=>?_,fun j l c d k hj hl h1 h2=>?_,fun j c k hj h1=>?_,fun j c k hj h1=>?_,fun j c k hj h1=>?_,h.DL,h.KZ,h.fr,h.sub⟩
 ·rcases key j c hj with ⟨rfl,rfl⟩|⟨_,hj⟩
  ·exact ⟨hN,hon⟩
  ·exact h.By j c hj
 ·rcases key j c hj with ⟨rfl,rfl⟩|⟨_,hj⟩
  ·exact hh
  ·exact h.own j c hj
 ·rcases key j c hj with ⟨e1,_⟩|⟨_,hj'⟩<;>rcases key l d hl with ⟨e2,_⟩|⟨_,hl'⟩
  ·rw [e1,e2]
  ·subst e1;exact absurd h1 (hne l d k hl' h2)
  ·subst e2;exact absurd h2 (hne j c k hj' h1)
  ·exact h.inj j l c d k hj' hl' h1 h2
 ·rcases key j c hj with ⟨rfl,rfl⟩|⟨_,hj⟩
  ·exact hfr k h1
  ·exact h.fresh j c k hj h1
 ·rcases key j c hj with ⟨rfl,rfl⟩|⟨_,hj⟩
  ·exact hoff k h1
  ·exact h.off j c k hj h1
 ·rcases key j c hj with ⟨rfl,rfl⟩|⟨_,hj⟩
  ·exact hlt k h1
  ·exact h.lt j c k hj h1
theorem KX: ∀ {fs:List (FC S.T)} {n:Nat} {oc:List (Nat×Own S)} {cs:List SV} {oc':List (Nat×Own S)} {n':Nat},Ch fs n oc=(cs,oc',n')-> ∀ i,i<n->lk oc' i=lk oc i
 | [],n,oc,cs,oc',n',h,i,hi=>by simp only [Ch,bi] at h;rw [<-h.2.1]
 | f::r,n,oc,cs,oc',n',h,i,hi=>by
  cases f with
  | sl σ l=>
   simp only [Ch,bi] at h
   rw [<-h.2.1,KX (n:=n+1) (oc:=(n,.sl σ l)::oc) rfl i (by omega),AK,if_neg (by omega)]
  | ow σ E l=>
   simp only [Ch,bi] at h
   rw [<-h.2.1,KX (n:=n+1) (oc:=(n,.any)::oc) rfl i (by omega),AK,if_neg (by omega)]
  | _=>simp only [Ch,bi] at h;rw [<-h.2.1];exact KX rfl i hi
theorem KW: ∀ {fs:List (FC S.T)} {n:Nat} {oc:List (Nat×Own S)} {cs:List SV} {oc':List (Nat×Own S)} {n':Nat},Ch fs n oc=(cs,oc',n')->n<=n'
 | [],n,oc,cs,oc',n',h=>by simp only [Ch,bi] at h;rw [h.2.2];exact Nat.le_refl _
 | f::r,n,oc,cs,oc',n',h=>by
  cases f with
  | sl σ l=>
   simp only [Ch,bi] at h
   have:=KW (fs:=r) (n:=n+1) (oc:=(n,.sl σ l)::oc) rfl
   omega
  | ow σ E l=>
   simp only [Ch,bi] at h
   have:=KW (fs:=r) (n:=n+1) (oc:=(n,.any)::oc) rfl
   omega
  | _=>simp only [Ch,bi] at h;rw [<-h.2.2];exact KW rfl
theorem Ud {p:C0} {x:p.T S} {n:Nat} {oc:List (Nat×Own S)} {cs:List SV} {oc':List (Nat×Own S)} {n':Nat} (h:B3 p x n oc=(cs,oc',n')):(∀ i,i<n->lk oc' i=lk oc i)/\n<=n':=by
 cases p with
 | fd f=>exact ⟨KX h,KW h⟩
 | st τ=>exact ⟨KX h,KW h⟩
 | own τ E=>simp only [B3,bi] at h;obtain ⟨_,rfl,rfl⟩:=h;exact ⟨fun i hi=>by rw [AK,if_neg (by omega)],Nat.le_succ _⟩
 | dp τ E=>simp only [B3,bi] at h;obtain ⟨_,rfl,rfl⟩:=h;exact ⟨fun i hi=>by rw [AK,if_neg (by omega)],Nat.le_succ _⟩
 | mp κ τ ag=>simp only [B3,bi] at h;obtain ⟨_,rfl,rfl⟩:=h;exact ⟨fun i hi=>by rw [AK,if_neg (by omega)],Nat.le_succ _⟩
 | mr κ τ ag E=>simp only [B3,bi] at h;obtain ⟨_,rfl,rfl⟩:=h;exact ⟨fun i hi=>by rw [AK,if_neg (by omega)],Nat.le_succ _⟩
 | al i off=>simp only [B3,bi] at h;obtain ⟨_,rfl,rfl⟩:=h;exact ⟨fun _ _=>rfl,Nat.le_refl _⟩
 | np=>simp only [B3,bi] at h;obtain ⟨_,rfl,rfl⟩:=h;exact ⟨fun _ _=>rfl,Nat.le_refl _⟩
 | hd=>simp only [B3,bi] at h;obtain ⟨_,rfl,rfl⟩:=h;exact ⟨fun i hi=>by rw [AK,if_neg (by omega)],Nat.le_succ _⟩
 | hm=>simp only [B3,bi] at h;obtain ⟨_,rfl,rfl⟩:=h;exact ⟨fun i hi=>by rw [AK,if_neg (by omega)],Nat.le_succ _⟩
 | rw i=>simp only [B3,bi] at h;obtain ⟨_,rfl,rfl⟩:=h;exact ⟨fun _ _=>rfl,Nat.le_refl _⟩
 | rm i=>simp only [B3,bi] at h;obtain ⟨_,rfl,rfl⟩:=h;exact ⟨fun _ _=>rfl,Nat.le_refl _⟩
 | ep i z off=>simp only [B3,bi] at h;obtain ⟨_,rfl,rfl⟩:=h;exact ⟨fun _ _=>rfl,Nat.le_refl _⟩
 | fn f caps=>simp only [B3,bi] at h;obtain ⟨_,rfl,rfl⟩:=h;exact ⟨fun _ _=>rfl,Nat.le_refl _⟩
theorem M3: ∀ {qs:List C0} {x:PT S qs} {n:Nat} {oc:List (Nat×Own S)} {cs:List SV} {oc':List (Nat×Own S)} {n':Nat},Er qs x n oc=(cs,oc',n')->(∀ i,i<n->lk oc' i=lk oc i)/\n<=n'
 | [],x,n,oc,cs,oc',n',h=>by simp only [Er,bi] at h;obtain ⟨_,rfl,rfl⟩:=h;exact ⟨fun _ _=>rfl,Nat.le_refl _⟩
 | p::r,x,n,oc,cs,oc',n',h=>by
  simp only [Er] at h
  rcases hE:B3 p x.1 n oc with ⟨a,o1,n1⟩
  rw [hE] at h
  simp only at h
  rcases hE2:Er r x.2 n1 o1 with ⟨b,o2,n2⟩
  rw [hE2] at h
  simp only [bi] at h
  obtain ⟨_,rfl,rfl⟩:=h
  obtain ⟨h1,h2⟩:=Ud hE
  obtain ⟨h3,h4⟩:=M3 hE2
  exact ⟨fun i hi=>(h3 i (by omega)).trans (h1 i hi),by omega⟩
theorem Mz: ∀ {qs:List C0} {x:PT S qs} {n:Nat} {oc:List (Nat×Own S)} {cs:List SV} {oc':List (Nat×Own S)} {n':Nat},CV qs x n oc=(cs,oc',n')->(∀ i,i<n->lk oc' i=lk oc i)/\n<=n'
 | [],x,n,oc,cs,oc',n',h=>by simp only [CV,bi] at h;obtain ⟨_,rfl,rfl⟩:=h;exact ⟨fun _ _=>rfl,Nat.le_refl _⟩
 | p::r,x,n,oc,cs,oc',n',h=>by
  simp only [CV] at h
  rcases hE:B3 p x.1 n oc with ⟨a,o1,n1⟩
  rw [hE] at h
  simp only at h
  rcases hE2:CV r x.2 n1 o1 with ⟨b,o2,n2⟩
  rw [hE2] at h
  simp only [bi] at h
  obtain ⟨_,rfl,rfl⟩:=h
  obtain ⟨h1,h2⟩:=Ud hE
  obtain ⟨h3,h4⟩:=Mz hE2
  exact ⟨fun i hi=>(h3 i (by omega)).trans (h1 i hi),by omega⟩
theorem ba {b:Gx} {j:Nat} {ps ps':PS S} {x:PT S b.ps} (h:QX b j ps=some (x,ps')): ∀ i∈ps.bl,i∈ps'.bl:=by
 unfold QX at h
 split at h
 ·split at h
  case h_2=>cases h
  split at h
  case h_2=>cases h
  exact fun i hi=>Tz h i hi
 ·obtain ⟨c,_,_,rfl⟩:=Mb h
  exact fun _ h=>h
theorem Tw: ∀ {bs:List Gx} {seen:List Nat} {ps ps':PS S} {x:BT S bs},U9 bs seen ps=some (x,ps')-> ∀ i∈ps.bl,i∈ps'.bl
 | [],seen,ps,ps',x,h=>by simp only [U9,am,bi] at h;rw [<-h.2];exact fun _ h=>h
 | b::r,seen,ps,ps',x,h=>by
  simp only [U9] at h
  split at h
  case h_2=>cases h
  split at h
  case h_2=>cases h
  split at h
  case h_2=>cases h
  rename_i h1
  split at h
  case h_2=>cases h
  rename_i h2
  cases h
  exact fun i hi=>Tw h2 i (ba h1 i hi)
theorem O0 {b:Gx} {x:PT S b.ps} {n:Nat} {oc:List (Nat×Own S)} {oc':List (Nat×Own S)} {n':Nat} (h:F7 b x n oc=(oc',n')):(∀ i,i<n->i≠b.i->lk oc' i=lk oc i)/\n<=n':=by
 unfold F7 at h
 split at h
 ·rcases hE:Er b.ps x n oc with ⟨a,o1,n1⟩
  rw [hE] at h
  simp only [bi] at h
  obtain ⟨rfl,rfl⟩:=h
  obtain ⟨h1,h2⟩:=M3 hE
  exact ⟨fun i hi hne=>by rw [AK,if_neg (Ne.symm hne)];exact h1 i hi,h2⟩
 ·split at h
  ·simp only [bi] at h
   obtain ⟨rfl,rfl⟩:=h
   exact ⟨fun i hi hne=>by rw [AK,if_neg (Ne.symm hne)],Nat.le_refl _⟩
  ·simp only [bi] at h
   obtain ⟨rfl,rfl⟩:=h
   exact ⟨fun _ _ _=>rfl,Nat.le_refl _⟩
theorem SB {p:C0} {x:p.T S} {c:Own S} (h:OD p x=some c) (M:Nat->Prop):c.on M:=by
 unfold OD at h
 split at h<;>cases h<;>trivial
theorem OC: ∀ {qs:List C0} {x:PT S qs} {c:Own S},rowOf qs x=some c-> ∀ (M:Nat->Prop),c.on M
 | [],x,c,h=>by simp [rowOf] at h
 | _::_::_,x,c,h=>by simp [rowOf] at h
 | [p],x,c,h=>SB h
theorem bb {b:Gx} {j:Nat} {ps ps1:PS S} {y:PT S b.ps} {oc:List (Nat×Own S)} {n:Nat} {β':Nat->Nm} (hg:GH w0 F D0 D o N β w) (hi:Inv w0 F D0 D o N β w fin pd ps oc n β') (hm:lk ps.m b.i=some j) (hjb:EI j ps.bl=false) (h1:QX b j ps=some (y,ps1)) (hf:Ck ps1 fin) (hfb: ∀ i∈fin.bl,lk fin.o i≠none) (hbl: ∀ i∈ps1.bl,i∈fin.bl)
  (hbi:b.i<fin.bn) (hoc:lk oc b.i=none) {o1:List (Nat×Own S)} {n1:Nat} (he:F7 b y n oc=(o1,n1)):
  ∃ β1,(∀ i,i<n->β' i=β1 i)/\Inv w0 F D0 D o N β w fin pd ps1 o1 n1 β1/\n<=n1:=by
 have hle1:=U8 hjb h1
 have hrm: ∀ i c,lk (rm ps.o j) i=some c->i≠j/\lk ps.o i=some c:=fun i c hi'=>by
  rw [Cy] at hi'
  split at hi'
  ·cases hi'
  ·rename_i hne;exact ⟨fun e=>hne e.symm,hi'⟩
 have hfin: ∀ {c:Own S} {ps2:PS S} {o2:List (Nat×Own S)} {n2:Nat} {β2:Nat->Nm} {d:Own S},lk o j=some c->j ∉ fin.bl->Inv w0 F D0 D o N β w fin (j::pd) ps2 o2 n2 β2->lk ps.o j=some c->β2 b.i=β j->lk o2 b.i=none->d.on (· <n2)->d.holds (FW D β fin.bl) β2 w (β j)->Inv w0 F D0 D o N β w fin pd ps2 ((b.i,d)::o2) n2 β2:=fun {c ps2 o2 n2 β2 d} hjo hjf i1 hj hβj hnone hon hh=>by
  obtain ⟨q1,q2,q3⟩:=i1.Om j (by simp)
  have hg1:=i1.gh.jH (i:=b.i) (b:=d) (dg hbi i1.bn) hnone hon (by rw [hβj];exact hh) (fun k hk=>by rw [hβj] at hk;exact hg.fresh j _ k hjo hk) (fun k hk hD=>by
    rw [hβj] at hk
    rcases hD with hD|⟨i,hib,hik⟩
    ·exact hg.off j _ k hjo hk hD
    ·obtain ⟨d,hd⟩:=hi.Z4 i hib
     have:=hg.inj i j d _ k hd hjo hik hk
     subst this;exact hjf hib) (fun l c k hl hk hk'=>q3 l c k hl (by rw [hβj] at hk';exact hk') hk) (fun k hk=>by rw [hβj] at hk;exact hg.lt j _ k hjo hk)
  exact ⟨hg1,fun i c l d k hi' hib hl hk=>by
    rw [AK] at hl
    split at hl
    ·rename_i hbl';subst hbl'
     rw [hβj]
     intro hk'
     have:=hg.inj i j c _ k (i1.sub i c hi') hjo hk hk'
     subst this;rw [q1] at hi';cases hi'
    ·exact i1.Hq i c l d k hi' hib hl hk,i1.sub,i1.box,i1.bn,i1.Z4,fun x hx=>by
   obtain ⟨p1,p2,p3⟩:=i1.Om x (by simp [hx])
   refine ⟨p1,p2,fun l d k hl hk=>?_⟩
   rw [AK] at hl
   split at hl
   ·rename_i hbl';subst hbl'
    rw [hβj]
    intro hk'
    obtain ⟨cx,hcx⟩:=p2
    have:=hg.inj x j cx _ k hcx hjo hk hk'
    subst this
    obtain ⟨r1,_⟩:=hi.Om x hx
    rw [r1] at hj;cases hj
   ·exact p3 l d k hl hk⟩
 have hi0: ∀ {c:Own S},lk ps.o j=some c->j ∉ fin.bl->Inv w0 F D0 D o N β w fin (j::pd) { ps with o:=rm ps.o j } oc n β':=fun {c} hj hjf=>⟨hi.gh,fun i c a d k hi'=>hi.Hq i c a d k (hrm i c hi').2,fun i c hi'=>hi.sub i c (hrm i c hi').2,hi.box,hi.bn,hi.Z4,fun a ha=>by
   rcases List.mem_cons.1 ha with rfl|ha
   ·exact ⟨by simp [Cy],⟨_,hi.sub _ _ hj⟩,fun l d k hl hk=>hi.Hq a _ l d k hj hjf hl hk⟩
   ·obtain ⟨p1,p2,p3⟩:=hi.Om a ha
    exact ⟨by simp only [Cy,p1];split<;>rfl,p2,p3⟩⟩
 unfold QX at h1
 unfold F7 at he
 cases hrow:b.row with
 | false=>
  simp only [hrow] at h1 he
  split at h1
  case h_2=>cases h1
  rename_i T cs hj
  split at h1
  case h_2=>cases h1
  rename_i hT
  have hT:=ac hT
  have hlep:=QY h1
  have hjf:j ∉ fin.bl:=Inv.Nw (hlep.trans hf) hfb
  have hjo:=hi.sub j _ hj
  rcases hE:Er b.ps y n oc with ⟨a,o2,n2⟩
  rw [hE] at he
  simp only [bi] at he
  obtain ⟨rfl,rfl⟩:=he
  obtain ⟨β1,e1,i1,hd1,on1,n1le⟩:=ZA hg (hi0 hj hjf) h1 hf hfb hbl hE
  have hβj:β1 b.i=β j:=i1.box b.i hbi j (hf.m _ _ (hlep.m _ _ hm))
  obtain ⟨g,hb1,hb2⟩:=hg.own j _ hjo
  have hnone:lk o2 b.i=none:=by rw [(M3 hE).1 b.i (dg hbi hi.bn)];exact hoc
  exact ⟨β1,e1,hfin hjo hjf i1 hj hβj hnone on1 ⟨g,hb1,by rw [<-hd1,<- hT];exact hb2⟩,n1le⟩
 | true=>
  simp only [hrow] at h1 he
  obtain ⟨c,hc,hj,rfl⟩:=Mb h1
  rw [hc] at he
  simp only [bi] at he
  obtain ⟨rfl,rfl⟩:=he
  have hjf:j ∉ fin.bl:=Inv.Nw hf hfb
  have hjo:=hi.sub j _ hj
  have i1:=hi0 hj hjf
  have hβj:β' b.i=β j:=hi.box b.i hbi j (hf.m _ _ hm)
  refine ⟨β',fun _ _=>rfl,hfin hjo hjf i1 hj hβj hoc (OC hc _) ?_,Nat.le_refl _⟩
  have h5:=Own.CB (D':=FW D β fin.bl) (hg.own j _ hjo) EH
  refine Own.Du (N:=fun _=>False) (fun i hi=>hi.elim) (OC hc _) h5
theorem Y8: ∀ {bs:List Gx} {seen:List Nat} {ps ps':PS S} {x:BT S bs} {oc:List (Nat×Own S)} {n:Nat} {β':Nat->Nm},GH w0 F D0 D o N β w->Inv w0 F D0 D o N β w fin pd ps oc n β'->U9 bs seen ps=some (x,ps')->Ck ps' fin->(∀ i∈fin.bl,lk fin.o i≠none)->(∀ i∈ps'.bl,i∈fin.bl)->
  (∀ b∈bs,b.i<fin.bn)->(∀ i,i<fin.bn->i ∉ seen->lk oc i=none)-> ∀ {oc':List (Nat×Own S)} {n':Nat},Ep bs x n oc=(oc',n')->
  ∃ β'',(∀ i,i<n->β' i=β'' i)/\Inv w0 F D0 D o N β w fin pd ps' oc' n' β''/\n<=n'
 | [],seen,ps,ps',x,oc,n,β',hg,hi,h,hf,hfb,hbl,hbs,hoc,oc',n',he=>by
  simp only [U9,am,bi] at h
  simp only [Ep,bi] at he
  obtain ⟨rfl,rfl⟩:=he
  rw [<-h.2]
  exact ⟨β',fun _ _=>rfl,hi,Nat.le_refl _⟩
 | b::r,seen,ps,ps',x,oc,n,β',hg,hi,h,hf,hfb,hbl,hbs,hoc,oc',n',he=>by
  simp only [U9] at h
  split at h
  case h_2=>cases h
  rename_i j hm
  split at h
  case h_2=>cases h
  rename_i hjb hseen
  split at h
  case h_2=>cases h
  rename_i y ps1 h1
  split at h
  case h_2=>cases h
  rename_i z ps2 h2
  cases h
  have hle2:=Tx h2
  have hbi:=hbs b (by simp)
  have hnotin:b.i ∉ seen:=fun hm=>by rw [Cn.2 hm] at hseen;cases hseen
  simp only [Ep] at he
  rcases hE:F7 b y n oc with ⟨o1,n1⟩
  rw [hE] at he
  simp only at he
  obtain ⟨β1,e1,i2,n1le⟩:=bb hg hi hm hjb h1 (hle2.trans hf) hfb (fun i hi=>hbl i (Tw h2 i hi)) hbi (hoc b.i hbi hnotin) hE
  have hocb: ∀ i,i<fin.bn->i ∉ b.i::seen->lk o1 i=none:=fun i hi' hns=>by
   simp only [List.mem_cons,not_or] at hns
   rw [(O0 hE).1 i (dg hi' hi.bn) hns.1]
   exact hoc i hi' hns.2
  obtain ⟨β2,e2,i3,n2le⟩:=Y8 hg i2 h2 hf hfb hbl (fun b' hb'=>hbs b' (mt _ hb')) hocb he
  exact ⟨β2,fun i hi=>(e1 i hi).trans (e2 i (by omega)),i3,by omega⟩
def Spec.okB (q:Spec) (bn:Nat):Bool:=q.bx.all fun b=>Nat.ble (b.i+1) bn
theorem Spec.CO {q:Spec} {bw:Bool} {vs:List SV} {m:List (Nat×Nat)} {bn:Nat} {x:q.D S} {ps:PS S} (hg:GH w0 F D0 D o N β w) (h:q.parse bw vs o m bn=some (x,ps)) (hq:q.okB bn=true)
  {svs:List SV} {o':List (Nat×Own S)} {n':Nat} (he:q.enc x bn=(svs,o',n')):
  ∃ β',(∀ i,i<bn-> ∀ j,lk ps.m i=some j->β' i=β j)/\GH w0 F D0 (FW D β ps.bl) o' (· <n') β' w/\AD β vs=AD β' svs/\BZ (· <n') svs/\bn<=n'/\
   (∀ i c j d k,lk ps.o i=some c->i ∉ ps.bl->lk o' j=some d->(β i).has k->¬ (β' j).has k)/\(∀ i c,lk ps.o i=some c->lk o i=some c)/\(∀ i j,lk m i=some j->lk ps.m i=some j)/\(∀ i∈ps.bl,∃ c,lk ps.o i=some c):=by
 unfold Spec.parse at h
 split at h
 case h_2=>cases h
 rename_i y ps1 h1
 split at h
 case h_2=>cases h
 rename_i z ps2 h2
 cases h
 have hle1:=Tv h1
 have hle2:=Tx h2
 have hle:=hle1.trans hle2
 have hfb: ∀ i∈ps.bl,lk ps.o i≠none:=hle.bl (fun i hi=>by simp at hi)
 have hbn:ps.bn=bn:=hle.bn
 have hblo: ∀ i∈ps.bl,∃ c,lk o i=some c:=fun i hi=>by
  cases hl:lk ps.o i with
  | none=>exact absurd hl (hfb i hi)
  | some c=>exact ⟨c,hle.sub i c hl⟩
 -- at first: no blocks,and the boxes' names
 let β':Nat->Nm:=fun i=>match lk ps.m i with
  | some j=>β j
  | none=>⟨none,0,0,undef⟩
 have i0:Inv w0 F D0 D o N β w ps [] ⟨o,m,[],bn⟩ [] bn β':=by
  refine ⟨⟨fun i b h=>by simp [AW] at h,fun i b h=>by simp [AW] at h,fun i j b c k h=>by simp [AW] at h,fun i b k h=>by simp [AW] at h,fun i b k h=>by simp [AW] at h,fun i b k h=>by simp [AW] at h,fun k hk=>?_,fun k hk=>?_,hg.fr,fun k hk=>.inl (hg.sub k hk)⟩,fun i c j d k _ _ h=>by simp [AW] at h,fun _ _ h=>h,fun i _ j hj=>?_,Nat.le_of_eq hbn,hblo,fun j hj=>by simp at hj⟩
  ·rcases hk with hk|⟨i,hi,hik⟩
   ·exact hg.DL k hk
   ·obtain ⟨c,hc⟩:=hblo i hi;exact hg.lt i c k hc hik
  ·rcases hk with hk|⟨i,hi,hik⟩
   ·exact hg.KZ k hk
   ·obtain ⟨c,hc⟩:=hblo i hi
    rcases hg.fresh i c k hc hik with h1|h1
    ·exact .inr (.inr h1)
    ·exact .inr (.inl h1)
  ·simp only [β',hj]
 unfold Spec.enc at he
 rcases hE:CV q.as y bn [] with ⟨a,o1,n1⟩
 rw [hE] at he
 simp only at he
 rcases hE2:Ep q.bx z n1 o1 with ⟨o2,n2⟩
 rw [hE2] at he
 simp only [bi] at he
 obtain ⟨rfl,rfl,rfl⟩:=he
 obtain ⟨β1,e1,i1,hd1,on1,le1⟩:=Y7 hg i0 h1 hle2 hfb (fun i hi=>Tw h2 i hi) hE
 have hoc: ∀ i,i<ps.bn->i ∉ ([]:List Nat)->lk o1 i=none:=fun i hi _=>by
  rw [(Mz hE).1 i (by omega)];rfl
 have hbs: ∀ b∈q.bx,b.i<ps.bn:=fun b hb=>by
  have:=(List.all_eq_true.1 hq) b hb
  have:=dk this
  omega
 obtain ⟨β2,e2,i2,le2⟩:=Y8 hg i1 h2 (Ck.refl _) hfb (fun _ h=>h) hbs hoc hE2
 refine ⟨β2,fun i hi j hj=>i2.box i (by omega) j hj,i2.gh,?_,Ce (fun i hi=>dg hi le2) on1,by omega,i2.Hq,i2.sub,hle.m,fun i hi=>?_⟩
 ·rw [hd1,Bf e2 a on1]
 ·cases hl:lk ps.o i with
  | none=>exact absurd hl (hfb i hi)
  | some c=>exact ⟨c,rfl⟩
end
end Go.En
