/- A row of one's own becomes data that stay (VC.frz). -/
import Derived.Test.YtpjlciengdhjoaaGreatDoorEn12c
namespace Go.En
open Go.RowKit
section
variable {S:As}
mutual
theorem Um {β:Nat->Nm} {j n:Nat} (h:(SV.h n).den β=(SV.tr j).den β): ∀ x:SV,(x.Kn j n).den β=x.den β
 | .tr i=>by
  simp only [SV.Kn]
  split
  ·rename_i he;rw [ac he];exact h
  ·rfl
 | .agg cs=>by simp only [SV.Kn,SV.den];rw [J1 h cs]
 | .Gv cs=>by simp only [SV.Kn,SV.den];rw [J1 h cs]
 | .v _=>rfl
 | .b _=>rfl
 | .ptr _ _=>rfl
 | .row _ _=>rfl
 | .ep _ _ _ _=>rfl
 | .view _ _ _ _=>rfl
 | .CC _=>rfl
 | .mk _ _=>rfl
 | .hm _=>rfl
 | .h _=>rfl
 | .vp _ _=>rfl
 | .ap _ _ _ _=>rfl
 | .pr _ _ _ _=>rfl
 | .pp _ _ _ _ _ _ _=>rfl
 | .fn _ _=>rfl
theorem J1 {β:Nat->Nm} {j n:Nat} (h:(SV.h n).den β=(SV.tr j).den β): ∀ l:List SV,AD β (TX j n l)=AD β l
 | []=>rfl
 | x::r=>by simp only [TX,AD];rw [Um h x,J1 h r]
end
mutual
theorem P1 {N N':Nat->Prop} {j n:Nat} (h: ∀ i,N i->N' i) (hn:N' n): ∀ {x:SV},x.on N->(x.Kn j n).on N'
 | .tr i,hx=>by
  simp only [SV.Kn]
  split
  ·exact hn
  ·exact h i hx
 | .agg cs,hx=>L4 h hn (l:=cs) hx
 | .Gv cs,hx=>L4 h hn (l:=cs) hx
 | .v _,_=>trivial
 | .b _,_=>trivial
 | .ptr i _,hx=>h i hx
 | .row i _,hx=>h i hx
 | .ep i _ _ _,hx=>h i hx
 | .view i _ _ _,hx=>h i hx
 | .CC i,hx=>h i hx
 | .mk i _,hx=>h i hx
 | .hm i,hx=>h i hx
 | .h i,hx=>h i hx
 | .vp i _,hx=>h i hx
 | .ap i _ _ _,hx=>h i hx
 | .pr i _ _ _,hx=>h i hx
 | .pp i _ _ _ _ _ _,hx=>h i hx
 | .fn _ cs,hx=>Ce h hx
theorem L4 {N N':Nat->Prop} {j n:Nat} (h: ∀ i,N i->N' i) (hn:N' n): ∀ {l:List SV},BZ N l->BZ N' (TX j n l)
 | [],_=>trivial
 | _::_,hx=>⟨P1 h hn hx.1,L4 h hn hx.2⟩
end
theorem QB {j n:Nat} {t:Nat}: ∀ {l:List (Nat×SV)} {y:SV},lk (Xy j n l) t=some y-> ∃ x,lk l t=some x/\y=x.Kn j n
 | [],y,h=>by simp [Xy,AW] at h
 | (d,x)::r,y,h=>by
  simp only [Xy,AK] at h ⊢
  split at h
  ·rename_i he;cases h;exact ⟨x,by simp [he],rfl⟩
  ·rename_i he;obtain ⟨z,h1,h2⟩:=QB h;exact ⟨z,by simp [he,h1],h2⟩
theorem Ut {j n:Nat} {i:Nat}: ∀ {l:List (Nat×Own S)} {c:Own S},lk (Vt j n l) i=some c-> ∃ b,lk l i=some b/\c=b.Kn j n
 | [],c,h=>by simp [Vt,AW] at h
 | (d,x)::r,c,h=>by
  simp only [Vt,AK] at h ⊢
  split at h
  ·rename_i he;cases h;exact ⟨x,by simp [he],rfl⟩
  ·rename_i he;obtain ⟨z,h1,h2⟩:=Ut h;exact ⟨z,by simp [he,h1],h2⟩
theorem Own.Vu {D:Nat->Prop} {β:Nat->Nm} {w:World} {nm:Nm} {j n:Nat} (h:(SV.h n).den β=(SV.tr j).den β) {b:Own S} (hb:b.holds D β w nm):(b.Kn j n).holds D β w nm:=by
 cases b with
 | AX T cs=>obtain ⟨k,h1,h2⟩:=hb;exact ⟨k,h1,by rw [J1 h];exact h2⟩
 | _=>exact hb
theorem Own.P1 {N N':Nat->Prop} {j n:Nat} (h: ∀ i,N i->N' i) (hn:N' n) {b:Own S} (hb:b.on N):(b.Kn j n).on N':=by
 cases b with
 | AX T cs=>exact L4 h hn hb
 | _=>exact Own.Ao h hb
theorem Zf {w:World} {D D':Nat->Prop} {β:Nat->Nm} {nm:Nm} {τ:Nat} {E:TypeId} {l:List (S.T τ)} (h:(Own.tr τ E l).holds D β w nm) (hD: ∀ k,D k->D' k) (hb: ∀ k,nm.b=some k->D' k):
  Av S w D' (.sl τ l) (.slice (nm.b.map fun b=>⟨b,0,none⟩) nm.len nm.cap):=by
 obtain ⟨hlen,vs,hrow,hvs⟩:=h
 rw [hlen]
 by_cases h0:l.length=0
 ·have:l=[]:=jp h0
  subst this;exact .nil _ _ _
 ·have hbs:=A6 hrow (by omega)
  have hcap:l.length<=nm.cap:=by
   rcases hrow.2 with ⟨_,h8⟩|⟨g,cap,cur,h8,_,_,h9,_⟩
   ·omega
   ·rw [hbs] at h8;simp at h8;omega
  rw [hbs]
  simp only [Option.map_some]
  refine Av.sl _ _ _ _ _ (fun i=>vs.getD i undef) (hb _ hbs) hcap (fun i f hf=>?_) fun i f hf=>?_
  ·have hlt:i<vs.length:=by rw [<-hvs.1];exact (List.getElem?_eq_some_iff.1 hf).1
   rw [Nat.zero_add,(BE hrow (co hlt)).2]
   simp [List.getD,hlt]
  ·have hlt:i<vs.length:=by rw [<-hvs.1];exact (List.getElem?_eq_some_iff.1 hf).1
   have:=hvs.2 i f _ hf (co hlt)
   simp only [List.getD,co hlt,Option.getD_some]
   exact this.B4 (fun _ _=>rfl) hD
section
variable {Φ:Fence} {P:Program} {Q:Exit->Act->World->Prop} {w0:World} {F D0 D:Nat->Prop} {bn:Nat} {β0:Nat->Nm} {M:Nat} {k:List It} {s:St S} {β:Nat->Nm} {a:Act} {w:World}
theorem cv (s:St S) (j:Nat):s.n<=(s.Kn j).n:=by
 unfold St.Kn;split
 ·exact Nat.le_succ _
 ·exact Nat.le_refl _
theorem fE (s:St S) (j:Nat):(s.Kn j).sz=s.sz:=by
 unfold St.Kn;split<;>rfl
theorem fD (hg:G w0 F D0 D s (· <s.n) β a w) (j:Nat): ∃ D' β',(∀ i,i<s.n->β i=β' i)/\G w0 F D0 D' (s.Kn j) (· <(s.Kn j).n) β' a w:=by
 unfold St.Kn
 split
 case h_2=>exact ⟨D,β,fun _ _=>rfl,hg⟩
 rename_i τ E l hl
 let nm:Nm:=⟨none,0,0,.slice ((β j).b.map fun b=>⟨b,0,none⟩) (β j).len (β j).cap⟩
 let β':Nat->Nm:=fun i=>if i=s.n then nm else β i
 let D':Nat->Prop:=fun k=>D k\/(β j).has k
 have hβ: ∀ i,i<s.n->β i=β' i:=fun i hi=>by simp only [β'];rw [if_neg (by omega)]
 have hβn:β' s.n=nm:=by simp [β']
 have hjn:j<s.n:=(hg.gh.By j _ hl).1
 have hden:(SV.h s.n).den β'=(SV.tr j).den β':=by
  simp only [SV.den,hβn,<- hβ j hjn];rfl
 have hrow:=hg.gh.own j _ hl
 have hDD: ∀ k,D k->D' k:=fun k hk=>.inl hk
 have hcase: ∀ i c,lk ((s.n,Own.sl τ l)::Vt j s.n (rm s.o j)) i=some c->(i=s.n/\c=.sl τ l)\/(i≠j/\ ∃ b,lk s.o i=some b/\c=b.Kn j s.n):=fun i c hi=>by
  rw [AK] at hi
  split at hi
  ·rename_i he;cases hi;exact .inl ⟨he.symm,rfl⟩
  ·obtain ⟨b,h1,h2⟩:=Ut hi
   rw [Cy] at h1
   split at h1
   ·cases h1
   ·rename_i hne;exact .inr ⟨fun e=>hne e.symm,b,h1,h2⟩
 have hnh: ∀ k,¬ nm.has k:=fun k=>Nm.PC.no k
 refine ⟨D',β',hβ,hg.defers,hg.size,fun t x hx=>?_,fun t x hx=>?_,⟨fun i c hi=>?_,fun i c hi=>?_,fun i i2 c c2 k hi hi2 h1 h2=>?_,fun i c k hi h1=>?_,fun i c k hi h1 hD=>?_,fun i c k hi h1=>?_,fun k hk=>?_,fun k hk=>?_,hg.gh.fr,fun k hk=>.inl (hg.gh.sub k hk)⟩⟩
 ·obtain ⟨y,h1,rfl⟩:=QB hx
  obtain ⟨h2,h3⟩:=hg.Gw t y h1
  exact ⟨h2,P1 (N:=(· <s.n)) (N':=(· <s.n+1)) (fun i hi=>Nat.lt_succ_of_lt hi) (lw s.n) h3⟩
 ·obtain ⟨y,h1,rfl⟩:=QB hx
  rw [Um hden,hg.tmps t y h1]
  exact CX hβ y (hg.Gw t y h1).2
 ·rcases hcase i c hi with ⟨rfl,rfl⟩|⟨_,b,h1,rfl⟩
  ·exact ⟨lw _,trivial⟩
  ·obtain ⟨h2,h3⟩:=hg.gh.By i b h1
   exact ⟨Nat.lt_succ_of_lt h2,Own.P1 (N:=(· <s.n)) (N':=(· <s.n+1)) (fun i hi=>Nat.lt_succ_of_lt hi) (lw s.n) h3⟩
 ·rcases hcase i c hi with ⟨rfl,rfl⟩|⟨_,b,h1,rfl⟩
  ·rw [hβn]
   exact ⟨Nm.PC,Zf hrow hDD fun k hk=>.inr (.inl hk)⟩
  ·obtain ⟨h2,h3⟩:=hg.gh.By i b h1
   rw [<-hβ i h2]
   exact Own.Vu hden (Own.CB (Own.Du hβ h3 (hg.gh.own i b h1)) hDD)
 ·rcases hcase i c hi with ⟨rfl,rfl⟩|⟨_,b,h3,rfl⟩
  ·rw [hβn] at h1;exact absurd h1 (hnh k)
  ·rcases hcase i2 c2 hi2 with ⟨rfl,rfl⟩|⟨_,b2,h4,rfl⟩
   ·rw [hβn] at h2;exact absurd h2 (hnh k)
   ·rw [<-hβ i (hg.gh.By i b h3).1] at h1;rw [<-hβ i2 (hg.gh.By i2 b2 h4).1] at h2
    exact hg.gh.inj i i2 b b2 k h3 h4 h1 h2
 ·rcases hcase i c hi with ⟨rfl,rfl⟩|⟨_,b,h3,rfl⟩
  ·rw [hβn] at h1;exact absurd h1 (hnh k)
  ·rw [<-hβ i (hg.gh.By i b h3).1] at h1
   exact hg.gh.fresh i b k h3 h1
 ·rcases hcase i c hi with ⟨rfl,rfl⟩|⟨hne,b,h3,rfl⟩
  ·rw [hβn] at h1;exact absurd h1 (hnh k)
  ·rw [<-hβ i (hg.gh.By i b h3).1] at h1
   rcases hD with hD|hD
   ·exact hg.gh.off i b k h3 h1 hD
   ·exact hne (hg.gh.inj i j b _ k h3 hl h1 hD)
 ·rcases hcase i c hi with ⟨rfl,rfl⟩|⟨_,b,h3,rfl⟩
  ·rw [hβn] at h1;exact absurd h1 (hnh k)
  ·rw [<-hβ i (hg.gh.By i b h3).1] at h1
   exact hg.gh.lt i b k h3 h1
 ·rcases hk with hk|hk
  ·exact hg.gh.DL k hk
  ·exact hg.gh.lt j _ k hl hk
 ·rcases hk with hk|hk
  ·exact hg.gh.KZ k hk
  ·exact (hg.gh.fresh j _ k hl hk).elim (fun h=>.inr (.inr h)) (fun h=>.inr (.inl h))
theorem VC.Kn (hbn:bn<=s.n) (j:Nat) (h:VC Φ P Q w0 F D0 bn β0 M k (s.Kn j)):VC Φ P Q w0 F D0 bn β0 M k s:=fun D β a w hβ0 hg=>by
 obtain ⟨D',β',h1,h2⟩:=fD hg j
 exact h D' β' a w (fun i hi=>by rw [<-h1 i (dg hi hbn)];exact hβ0 i hi) h2
theorem VC.Fl: ∀ (l:List Nat) {s:St S},bn<=s.n->VC Φ P Q w0 F D0 bn β0 M k (Go.En.Fl s l)->VC Φ P Q w0 F D0 bn β0 M k s
 | [],s,_,h=>h
 | j::r,s,hbn,h=>VC.Kn hbn j (VC.Fl r (Nat.le_trans hbn (cv s j)) h)
theorem NH: ∀ (l:List Nat) (s:St S),s.n<=(Fl s l).n
 | [],s=>Nat.le_refl _
 | j::r,s=>Nat.le_trans (cv s j) (NH r _)
theorem Ia: ∀ (l:List Nat) (s:St S),(Fl s l).sz=s.sz
 | [],s=>rfl
 | j::r,s=>(Ia r _).trans (fE s j)
end
end
end Go.En
namespace Go.En
open Go.RowKit
theorem Yw {body:Code} {x:Bp} (hx:x.ok body) {y:Bp} (h:Ll body x.key=some y):x=y:=by
 cases x with
 | code a c=>simp only [Bp.ok] at hx;simp only [Bp.key,Ll,hx] at h;exact Option.some.inj h
 | AX id=>simp only [Bp.key,Ll] at h;exact Option.some.inj h
 | ops all r=>simp [Bp.key,Ll] at h
 | again a c=>simp only [Bp.ok] at hx;simp only [Bp.key,Ll,hx] at h;exact Option.some.inj h
 | sc a c=>simp only [Bp.ok] at hx;simp only [Bp.key,Ll,hx] at h;exact Option.some.inj h
theorem TE {body:Code}: ∀ {k:List Bp} {ks:List (List Nat)} {k':List Bp},(∀ x∈k,x.ok body)->cb k ks=true->DI body ks=some k'->k=k'
 | [],[],k',_,_,h=>by simp only [DI,am] at h;exact h
 | [],_::_,k',_,h,_=>by simp [cb] at h
 | _::_,[],k',_,h,_=>by simp [cb] at h
 | x::r,y::t,k',hok,h,hk=>by
  simp only [cb] at h
  split at h
  case h_2=>cases h
  rename_i hx
  have hx:=TF hx
  simp only [DI] at hk
  split at hk
  case h_2=>cases hk
  rename_i i hi
  split at hk
  case h_2=>cases hk
  rename_i l hl
  cases hk
  rw [<-hx] at hi
  rw [Yw (hok x (by simp)) hi,TE (fun z hz=>hok z (by simp [hz])) h hl]
theorem K8 {body:Code}: ∀ {ks:List (List Nat)} {k:List Bp},DI body ks=some k-> ∀ x∈k,x.ok body
 | [],k,h,x,hx=>by simp only [DI,am] at h;subst h;simp at hx
 | y::t,k,h,x,hx=>by
  simp only [DI] at h
  split at h
  case h_2=>cases h
  rename_i i hi
  split at h
  case h_2=>cases h
  rename_i l hl
  cases h
  rcases List.mem_cons.1 hx with rfl|hx
  ·unfold Ll at hi
   split at hi
   ·split at hi
    ·rename_i hc;cases hi;exact hc
    ·cases hi
   ·cases hi;trivial
   ·split at hi
    ·rename_i hc;cases hi;exact hc
    ·cases hi
   ·split at hi
    ·rename_i hc;cases hi;exact hc
    ·cases hi
   ·cases hi
  ·exact K8 hl x hx
theorem GR {body:Code} {id:Nat}: ∀ {k k':List Bp},(∀ x∈k,x.ok body)->GQ id k=some k'->Cg id (k.map Bp.it)=some (k'.map Bp.it)/\ ∀ x∈k',x.ok body
 | [],k',_,h=>by simp [GQ] at h
 | .AX id'::k,k',hok,h=>by
  simp only [GQ] at h
  simp only [List.map_cons,Bp.it,Cg]
  split at h
  ·rename_i he;cases h;rw [he];exact ⟨rfl,fun x hx=>hok x (by simp [hx])⟩
  ·rename_i he;rw [he];exact GR (fun x hx=>hok x (by simp [hx])) h
 | .code _ _::k,k',hok,h=>by simp only [GQ] at h;simp only [List.map_cons,Bp.it,Cg];exact GR (fun x hx=>hok x (by simp [hx])) h
 | .ops _ _::k,k',hok,h=>by simp only [GQ] at h;simp only [List.map_cons,Bp.it,Cg];exact GR (fun x hx=>hok x (by simp [hx])) h
 | .again _ _::k,k',hok,h=>by simp only [GQ] at h;simp only [List.map_cons,Bp.it,Cg];exact GR (fun x hx=>hok x (by simp [hx])) h
 | .sc _ _::k,k',hok,h=>by simp only [GQ] at h;simp only [List.map_cons,Bp.it,Cg];exact GR (fun x hx=>hok x (by simp [hx])) h
theorem GU {body:Code} {l:Nat}: ∀ {k k':List Bp},(∀ x∈k,x.ok body)->GS l k=some k'->Cp l (k.map Bp.it)=some (k'.map Bp.it)/\ ∀ x∈k',x.ok body
 | [],k',_,h=>by simp [GS] at h
 | .sc a c::k,k',hok,h=>by
  simp only [GS] at h
  simp only [List.map_cons,Bp.it,Cp]
  split at h
  ·rename_i rest hf
   cases h
   rw [hf]
   refine ⟨rfl,fun x hx=>?_⟩
   rcases List.mem_cons.1 hx with rfl|hx
   ·have h1:Hk body a=some c:=hok (.sc a c) (by simp)
    simp only [Bp.ok,Hk,h1]
    cases c<;>simp_all [HV]
   ·exact hok x hx
  ·rename_i hf;rw [hf];exact GU (fun x hx=>hok x (by simp [hx])) h
 | .code _ _::k,k',hok,h=>by simp only [GS] at h;simp only [List.map_cons,Bp.it,Cp];exact GU (fun x hx=>hok x (by simp [hx])) h
 | .ops _ _::k,k',hok,h=>by simp only [GS] at h;simp only [List.map_cons,Bp.it,Cp];exact GU (fun x hx=>hok x (by simp [hx])) h
 | .again _ _::k,k',hok,h=>by simp only [GS] at h;simp only [List.map_cons,Bp.it,Cp];exact GU (fun x hx=>hok x (by simp [hx])) h
 | .AX _::k,k',hok,h=>by simp only [GS] at h;simp only [List.map_cons,Bp.it,Cp];exact GU (fun x hx=>hok x (by simp [hx])) h
section
variable {S:As} {Φ:Fence} {P:Program} {Q:Exit->Act->World->Prop} {w0:World} {F D0:Nat->Prop} {bn:Nat} {β0:Nat->Nm} {M:Nat} {k:List It} {s:St S} {D:Nat->Prop} {N:Nat->Prop} {β:Nat->Nm} {a:Act} {w:World}
theorem VC.bX {all:Array Oper} {o:Oper} {r:List Oper} {s':St S} (hw:CA s all o=.no) (hp:s.put o.dst (.v (.tuple #[]))=some s') (h:VC Φ P Q w0 F D0 bn β0 M (.ops all r::k) s'):VC Φ P Q w0 F D0 bn β0 M (.ops all (o::r)::k) s:=fun D β a w hβ0 hg=>by
 have hwt:=Ak hg hw
 have:=h D β _ w hβ0 (by rw [Ff hp];exact G.put (x:=.v (.tuple #[])) hg trivial hp)
 simp only [after] at this ⊢
 exact wpList_skip hwt (by simpa [SV.den,undef] using this)
theorem VC.Tu {all:Array Oper} {o:Oper} {r:List Oper} (hw:CA s all o=.yes) (h: ∀ D β a w,(∀ i,i<bn->β i=β0 i)->G w0 F D0 D s (· <s.n) β a w->o.wp P a w (fun a w=>after Φ P M (.ops all r::k) Q .normal a w) (after Φ P M k Q)):VC Φ P Q w0 F D0 bn β0 M (.ops all (o::r)::k) s:=fun D β a w hβ0 hg=>by
 have hwt:=Ak hg hw
 have:=h D β a w hβ0 hg
 simp only [after] at this ⊢
 refine wpList_step fun K hK=>?_
 rw [if_pos hwt]
 exact PR hK (fun _ _ _ h=>h) this
theorem VC.cK {d:Nat} {b:Bool} (hl:lk s.t d=some (.b b)) (ht:b=true->VC Φ P Q w0 F D0 bn β0 M k { s with t:=pt s.t d (.v (.bool true)) }) (hf:b=false->VC Φ P Q w0 F D0 bn β0 M k { s with t:=pt s.t d (.v (.bool false)) }):VC Φ P Q w0 F D0 bn β0 M k s:=by
 have key: ∀ c,b=c->VC Φ P Q w0 F D0 bn β0 M k { s with t:=pt s.t d (.v (.bool c)) }->VC Φ P Q w0 F D0 bn β0 M k s:=fun c hc h D β a w hβ0 hg=>by
  subst hc
  refine h D β a w hβ0 ⟨hg.defers,hg.size,fun t x hx=>?_,fun t x hx=>?_,hg.gh⟩
  ·simp only [FB] at hx
   split at hx
   ·rename_i he;subst he;simp only [am] at hx;subst hx;exact ⟨(hg.Gw _ _ hl).1,trivial⟩
   ·exact hg.Gw t x hx
  ·simp only [FB] at hx
   split at hx
   ·rename_i he;subst he;simp only [am] at hx;subst hx;have:=hg.tmps _ _ hl;simpa [SV.den] using this
   ·exact hg.tmps t x hx
 cases b
 ·exact key false rfl (hf rfl)
 ·exact key true rfl (ht rfl)
theorem VC.bW {tb:List (Nat×TI)} (htb:Ae S P tb) {all:Array Oper} {o:Oper} {r:List Oper} (hw:CA s all o=.yes) (hbn:bn<=s.n)
  (h:match evalOp tb s o.op with
   | .val c x=>Cd c/\ ∃ s',s.put o.dst x=some s'/\VC Φ P Q w0 F D0 bn β0 M (.ops all r::k) s'
   | .new b=> ∃ s',St.put { s with o:=(s.n,b)::s.o,n:=s.n+1 } o.dst (HS b s.n)=some s'/\VC Φ P Q w0 F D0 bn β0 M (.ops all r::k) s'
   | .Sf c i b=>Cd c/\ ∃ s',St.put { s with o:=pt s.o i b } o.dst (.v (.tuple #[]))=some s'/\VC Φ P Q w0 F D0 bn β0 M (.ops all r::k) s'
   | .nm c o1 n' v=>Cd c/\ ∃ s',St.put { s with o:=o1++s.o,n:=n' } o.dst v=some s'/\VC Φ P Q w0 F D0 bn β0 M (.ops all r::k) s'
   | .x c o' n' v=>Cd c/\ ∃ s',St.put { s with o:=o',n:=n' } o.dst v=some s'/\VC Φ P Q w0 F D0 bn β0 M (.ops all r::k) s'
   | .stop=>False):VC Φ P Q w0 F D0 bn β0 M (.ops all (o::r)::k) s:=by
 refine VC.Tu hw fun D β a w hβ0 hg=>?_
 have hsound:=Bh htb hg o
 cases he:evalOp tb s o.op with
 | val c x=>
  rw [he] at h hsound
  obtain ⟨hc,s',h1,h2⟩:=h
  obtain ⟨hr,hn⟩:=hsound hc
  refine Aq hr (h2 D β _ w hβ0 ?_)
  rw [Ff h1]
  exact hg.put hn h1
 | new b=>
  rw [he] at h hsound
  obtain ⟨s',h1,h2⟩:=h
  obtain ⟨hbn',ob,len,cap,hall⟩:=hsound
  obtain ⟨β',hβ,hβn,hgh⟩:=hg.gh.alloc (n:=s.n) (by simp) hbn' fun β' hβ hn=>by have:=(hall s.n β' hβ hn).2;exact this
  obtain ⟨hr,_⟩:=hall s.n β' hβ hβn
  rw [DG] at hgh
  refine Aq hr (h2 D β' _ _ (fun i hi=>by rw [<-hβ i (dg hi hbn)];exact hβ0 i hi) ?_)
  have hn':s'.n=s.n+1:=Ff h1
  rw [hn']
  refine G.put (s:={ s with o:=(s.n,b)::s.o,n:=s.n+1 }) ⟨hg.defers,hg.size,fun t x hx=>?_,fun t x hx=>?_,hgh⟩ ?_ h1
  ·obtain ⟨h3,h4⟩:=hg.Gw t x hx
   exact ⟨h3,Ao (fun i hi=>Nat.lt_succ_of_lt hi) h4⟩
  ·rw [hg.tmps t x hx,CX hβ x (hg.Gw t x hx).2]
  ·cases b<;>simp [HS,SV.on]
 | Sf c i b=>
  rw [he] at h hsound
  obtain ⟨hc,s',h1,h2⟩:=h
  obtain ⟨w',hr,hgh⟩:=hsound hc
  refine OS hr ?_
  have:=h2 D β (a.put o.dst undef) w' hβ0 (by
   have:=G.put (s:={ s with o:=pt s.o i b }) (x:=.v (.tuple #[])) ⟨hg.defers,hg.size,hg.Gw,hg.tmps,hgh⟩ trivial h1
   rw [Ff h1]
   simpa [SV.den,undef] using this)
  exact this
 | nm c o1 n' v=>
  rw [he] at h hsound
  obtain ⟨hc,s',h1,h2⟩:=h
  obtain ⟨β',w',hr,hnew,hon⟩:=hsound hc (fun j hj _ hj'=>by omega)
  have hlt: ∀ i,Go.En.more (· <s.n) s.n n' i->i<n':=fun i hi=>by
   have:=hnew.le
   rcases hi with hi|hi
   ·exact dg hi this
   ·exact hi.2
  have hgh:=GH.mono (hg.gh.extend hnew) hlt
  refine Aq hr (h2 D β' _ w' (fun i hi=>by rw [<-hnew.agree i (dg hi hbn)];exact hβ0 i hi) ?_)
  rw [Ff h1]
  refine G.put (s:={ s with o:=o1++s.o,n:=n' }) ⟨hg.defers,hg.size,fun t x hx=>?_,fun t x hx=>?_,hgh⟩ (Ao hlt hon) h1
  ·obtain ⟨h3,h4⟩:=hg.Gw t x hx
   exact ⟨h3,Ao (fun i hi=>dg hi hnew.le) h4⟩
  ·rw [hg.tmps t x hx,CX hnew.agree x (hg.Gw t x hx).2]
 | x c o' n' v=>
  rw [he] at h hsound
  obtain ⟨hc,s',h1,h2⟩:=h
  obtain ⟨β',w',hr,hβ,hgh,hxn,hn⟩:=hsound hc rfl
  refine Aq hr (h2 D β' _ w' (fun i hi=>by rw [<-hβ i (dg hi hbn)];exact hβ0 i hi) ?_)
  rw [Ff h1]
  refine G.put (s:={ s with o:=o',n:=n' }) ⟨hg.defers,hg.size,fun t x hx=>?_,fun t x hx=>?_,hgh⟩ hxn h1
  ·obtain ⟨h3,h4⟩:=hg.Gw t x hx
   exact ⟨h3,Ao (fun i hi=>dg hi hn) h4⟩
  ·rw [hg.tmps t x hx,CX hβ x (hg.Gw t x hx).2]
 | stop=>rw [he] at h;exact h.elim
theorem VC.call (hkp:CF S w0 F D0) {all:Array Oper} {o:Oper} {r:List Oper} {f:Nat} {args:List SV} {c:BU S} {x:c.sp.D S} {ps:PS S} {y:c.rs.D S} (hw:CA s all o=.yes) (hbn:bn<=s.n) (hcl:callee s o.op=some (f,args)) (hf:c.f=f) (hc:c.Holds P) (hp:c.sp.parse c.flat args s.o [] c.bn=some (x,ps)) (hy:c.out.gives x y)
  {rs':List SV} {o':List (Nat×Own S)} {n':Nat} (hm:iv ps.m c.bn s.n=true) (he:c.rs.enc y (Hg c.bn c.rs)=(rs',o',n')) {s':St S} (hput:St.put { s with o:=Dr (Bv c.bn ps.m s.n) o'++ps.o,n:=s.n+(n' -c.bn) } o.dst (Ay (Cf (Bv c.bn ps.m s.n) rs'))=some s')
  (h:VC Φ P Q w0 F D0 bn β0 M (.ops all r::k) s'):VC Φ P Q w0 F D0 bn β0 M (.ops all (o::r)::k) s:=by
 subst hf
 refine VC.Tu hw fun D β a w hβ0 hg=>?_
 unfold Oper.wp
 rw [G0 hg hcl hc.B9,Oper.upon_enter]
 refine (Vh hg.gh hp hc.bound hc.flat hm (hc.calls x y hy) (hg.gh.inv hkp) he).mono fun e w' ⟨D',β',he',hβ,hgh,hon⟩=>?_
 subst he'
 refine h D' β' _ w' (fun i hi=>by rw [<-hβ i (dg hi hbn)];exact hβ0 i hi) ?_
 rw [Ff hput]
 refine G.put (s:={ s with o:=Dr (Bv c.bn ps.m s.n) o'++ps.o,n:=s.n+(n' -c.bn) }) ⟨hg.defers,hg.size,fun t x hx=>?_,fun t x hx=>?_,hgh⟩ hon hput
 ·obtain ⟨h3,h4⟩:=hg.Gw t x hx
  exact ⟨h3,Ao (fun i hi=>dg hi (Nat.le_add_right _ _)) h4⟩
 ·rw [hg.tmps t x hx,CX hβ x (hg.Gw t x hx).2]
theorem N6 {tb:List (Nat×TI)} (htb:Ae S P tb) (hg:G w0 F D0 D s N β a w): ∀ {rs:List ResultVar} {l:List SV},Lw tb s rs=some l->
  (rs.mapM fun|.tmp t=>pure (a.tmps.getD t undef)|.cell p t=>do loadVar t (<-asAddr (a.tmps.getD p undef)):Sem (List Value)).run P w=.ok (AD β l) w/\BZ N l
 | [],l,h=>by simp only [Lw,am] at h;subst h;simp [AD,BZ]
 | .tmp t::r,l,h=>by
  simp only [Lw] at h
  split at h
  case h_2=>cases h
  rename_i x h1
  split at h
  case h_2=>cases h
  rename_i l' h2
  cases h
  obtain ⟨ih,ih2⟩:=N6 htb hg h2
  exact ⟨by simp only [List.mapM_cons,Sem.run_bind,Sem.run_pure,Result.andThen_ok,ih,hg.tmps t x h1,AD],(hg.Gw t x h1).2,ih2⟩
 | .cell p T::r,l,h=>by
  simp only [Lw] at h
  split at h
  case h_2=>cases h
  rename_i x h1
  split at h
  case h_2=>cases h
  rename_i l' h2
  cases h
  obtain ⟨ih,ih2⟩:=N6 htb hg h2
  have hs:=G3 (o:=⟨none,.load T (.tmp p),0,"",#[],none⟩) htb hg rfl
  rw [h1] at hs
  obtain ⟨h3,h4⟩:=hs trivial
  have hptr: ∃ ad,a.tmps.getD p undef=.pointer (some ad):=by
   unfold JJ at h1
   split at h1
   case h_2=>cases h1
   split at h1
   ·rename_i i off hx;exact ⟨_,by have:=hg.tmps p _ hx;simpa [SV.den] using this⟩
   ·rename_i i off hx
    split at h1
    case h_2=>cases h1
    rename_i cs hi
    obtain ⟨_,b,o0,hv,_⟩:=hg.gh.own i _ hi
    exact ⟨⟨b,o0+off,none⟩,by have:=hg.tmps p _ hx;simp only [SV.den,Nm.at,hv] at this;exact this⟩
   ·rename_i i n e off hx;exact ⟨_,by have:=hg.tmps p _ hx;simpa [SV.den] using this⟩
   ·rename_i i esz e off hx;exact ⟨_,by have:=hg.tmps p _ hx;simpa [SV.den] using this⟩
   ·rename_i i z e off y j q hx;exact ⟨_,by have:=hg.tmps p _ hx;simpa [SV.den] using this⟩
   ·cases h1
  obtain ⟨ad,hptr⟩:=hptr
  have h5:a.eval (.tmp p)=.pointer (some ad):=hptr
  simp only [execOp,Instr.loadAt,h5,Instr.sureAddr,Sem.run_bind,Sem.run_pure,Result.andThen_ok] at h3
  have h6:(loadVar T ad).run P w=.ok (x.den β) w:=by
   cases hr:(loadVar T ad).run P w with
   | ok y w'=>rw [hr] at h3;simp only [Result.andThen_ok,Result.ok.injEq,Next.value.injEq] at h3;rw [h3.1,h3.2]
   | halt y w'=>rw [hr] at h3;simp [Result.andThen] at h3
  refine ⟨?_,h4,ih2⟩
  have h7:(asAddr (a.tmps.getD p undef)).run P w=.ok ad w:=by rw [hptr];rfl
  simp only [List.mapM_cons,Sem.run_bind,Sem.run_pure,h7,Result.andThen_ok,h6,ih,AD]
theorem IK {tb:List (Nat×TI)} (htb:Ae S P tb) (hg:G w0 F D0 D s N β a w) {fn:Func} {l:List SV} (h:Lw tb s fn.results.toList=some l):(results fn a.tmps).run P w=.ok ((Ay l).den β) w/\BZ N l:=by
 obtain ⟨h1,hon⟩:=N6 htb hg h
 refine ⟨?_,hon⟩
 have h2:((fn.results.mapM fun|.tmp t=>pure (a.tmps.getD t undef)|.cell p t=>do loadVar t (<-asAddr (a.tmps.getD p undef))):Sem (Array Value)).run P w=.ok (AD β l).toArray w:=by
  rw [Array.mapM_eq_mapM_toList,Sem.run_map]
  erw [h1]
  rfl
 unfold results
 rw [Sem.run_bind]
 erw [h2]
 simp only [Result.andThen_ok,Sem.run_pure]
 congr 1
 cases l with
 | nil=>simp [Ay,AD,SV.den]
 | cons x l=>cases l with
  | nil=>simp [Ay,AD]
  | cons y l=>simp [Ay,AD,SV.den]
theorem FN (hg:G w0 F D0 D s N β a w): ∀ {ts:List Nat} {vs:List SV},F9 s ts=some vs->vs.length=ts.length/\BZ N vs/\ ∀ (j:Nat) t v,ts[j]?=some t->vs[j]?=some v->t<s.sz/\a.tmps.getD t undef=v.den β
 | [],vs,h=>by simp only [F9,am] at h;subst h;exact ⟨rfl,trivial,fun j t v h=>by simp at h⟩
 | u::r,vs,h=>by
  simp only [F9] at h
  split at h
  case h_2=>cases h
  rename_i x h1
  split at h
  case h_2=>cases h
  rename_i l h2
  cases h
  obtain ⟨h3,h4,h5⟩:=FN hg h2
  obtain ⟨h6,h7⟩:=hg.Gw u x h1
  refine ⟨by simp [h3],⟨h7,h4⟩,fun j t v hj hv=>?_⟩
  cases j with
  | zero=>simp only [List.getElem?_cons_zero,am] at hj hv;subst hj;subst hv;exact ⟨h6,hg.tmps _ x h1⟩
  | succ j=>simp only [List.getElem?_cons_succ] at hj hv;exact h5 j t v hj hv
theorem G8: ∀ {ts:List Nat} {vs:List SV} {t:Nat} {v:SV},lk (ts.zip vs) t=some v-> ∃ j:Nat,ts[j]?=some t/\vs[j]?=some v
 | [],vs,t,v,h=>by simp [AW] at h
 | _::_,[],t,v,h=>by simp [AW] at h
 | u::r,x::l,t,v,h=>by
  simp only [List.zip_cons_cons,AK] at h
  split at h
  ·rename_i he;cases h;subst he;exact ⟨0,rfl,rfl⟩
  ·obtain ⟨j,h1,h2⟩:=G8 h;exact ⟨j+1,by simpa using h1,by simpa using h2⟩
theorem G7 {n i:Nat} (h:i<n):lk (RQ n) i=some i:=by
 induction n with
 | zero=>omega
 | succ n ih=>
  simp only [RQ,AK]
  split
  ·rename_i he;rw [he]
  ·exact ih (by omega)
end
section
variable {S:As} {P:Program} {w0:World} {F D0:Nat->Prop} {β0:Nat->Nm} {M:Nat}
def Iz (P:Program) (Q:Exit->Act->World->Prop) (w0:World) (F D0:Nat->Prop) (β0:Nat->Nm) (M:Nat) (E:Env S) (q:Cut) (x:q.sp.D S):Prop:=
 ∀ k vs o n,DI E.body q.key=some k->q.sp.enc x q.bn=(vs,o,n)->VC Fence.wide P Q w0 F D0 E.bn β0 M (k.map Bp.it) ⟨q.ts.zip vs,o,n,E.sz⟩
def Qx (w0:World) (F D0:Nat->Prop) (E:Env S) (β0:Nat->Nm) (R:Ending->World->Prop) (y:E.rs.D S):Prop:=
 ∀ D β w vs o n,E.rs.enc y (Hg E.bn E.rs)=(vs,o,n)->(∀ i,i<E.bn->β i=β0 i)->GH w0 F D0 D o (· <n) β w->BZ (· <n) vs->E.bn<=n->R (.returned ((Ay vs).den β)) w
structure Env.Ok (P:Program) (E:Env S):Prop where
 tb:Ae S P E.tb
 ct: ∀ c∈E.ct,c.Holds P
 rs:E.rs.okB (Hg E.bn E.rs)=true
 Oz:IX E.body E.dr=true
 mixed:P.follows .mixedOrders=true
 inl: ∀ f q,lk E.inl f=some q->B9 P f=true/\IX q.body q.dr=true/\ ∃ fn,P.funcs[f]?=some fn/\fn.body=some q.body/\fn.ntmps=q.sz/\fn.results.toList=q.res
 DF: ∀ c q,lk E.DF c=some q->q.sp.okB q.bn=true/\E.bn<=q.bn/\q.ts.length=q.sp.as.length/\ ∃ k,DI E.body q.key=some k
theorem WQ {l m:List SV} {β β':Nat->Nm} (h:AD β l=AD β' m):(Ay l).den β=(Ay m).den β':=by
 have hl:=congrArg List.length h
 rw [AI,AI] at hl
 match l,m,hl with
 | [],[],_=>simp [Ay,SV.den,AD]
 | [x],[y],_=>simpa [Ay,AD] using h
 | x::x'::t,y::y'::u,_=>simp only [Ay,SV.den,h]
theorem ZP {l:List SV} {N:Nat->Prop} (h:BZ N l):(Ay l).on N:=by
 match l,h with
 | [],_=>simp [Ay,SV.on,BZ]
 | [x],h=>exact h.1
 | x::y::t,h=>exact h
def UN (c:List It):Prop:=c=[]\/ ∃ k,c=.code .ret::k
theorem VC.VG {Φ:Fence} {P:Program} {Q:Exit->Act->World->Prop} {bn M:Nat} {β0:Nat->Nm} {s:St S} {c:List It} (hc:UN c) (hn: ∀ a w,Q .ret a w->Q .normal a w) (h: ∀ D β a w,(∀ i,i<bn->β i=β0 i)->G w0 F D0 D s (· <s.n) β a w->Q .ret a w):VC Φ P Q w0 F D0 bn β0 M c s:=by
 rcases hc with rfl|⟨k,rfl⟩
 ·exact fun D β a w h1 h2=>hn a w (h D β a w h1 h2)
 ·exact VC.VH h
theorem LI {E:Env S} (hE:E.Ok P) {fn:Func} {R:Ending->World->Prop} (hres:fn.results.toList=E.res) {c:List It} (hce:UN c) {s:St S} {Kc: ∀ c,E.ι c->Prop} {Kr:E.ρ->Prop} (hr: ∀ y,Kr y->Qx w0 F D0 E β0 R y) (hbn:E.bn<=s.n) {L:List Nat} {fail:Tr E.ι E.ρ} (hf:fail.Holds Kc Kr->VC Fence.wide P (bodyPost P fn R) w0 F D0 E.bn β0 M c s) (h:(OP E s L fail).Holds Kc Kr):
  VC Fence.wide P (bodyPost P fn R) w0 F D0 E.bn β0 M c s:=by
 unfold OP at h
 split at h
 case h_2=>exact hf h
 rename_i vs hvs
 split at h
 case h_2=>exact hf h
 rename_i y ps hp
 have hy:=hr y h
 refine VC.Fl L hbn ?_
 refine VC.VG hce (fun _ _ h=>h) fun D β a w hβ0 hg=>?_
 rw [<-hres] at hvs
 obtain ⟨h1,hon⟩:=IK hE.tb hg hvs
 rcases he:E.rs.enc y (Hg E.bn E.rs) with ⟨ws,o',n'⟩
 obtain ⟨β',hbox,hgh,hden,hon',hn',_,_,hmm,_⟩:=Spec.CO hg.gh hp hE.rs he
 have:=hy _ β' w ws o' n' he (fun i hi=>by rw [hbox i (dg hi (VJ _ _)) i (hmm i i (G7 hi))];exact hβ0 i hi) hgh hon' (Nat.le_trans (VJ _ _) hn')
 exact ⟨hg.defers,_,h1,by rw [WQ hden];exact this⟩
theorem SQ {E:Env S} (hE:E.Ok P) {fn:Func} {R:Ending->World->Prop} (hres:fn.results.toList=E.res) {c:List It} (hce:UN c) {s:St S} {Kc: ∀ c,E.ι c->Prop} {Kr:E.ρ->Prop} (hr: ∀ y,Kr y->Qx w0 F D0 E β0 R y) (hbn:E.bn<=s.n) (h:(SP E s).Holds Kc Kr):
  VC Fence.wide P (bodyPost P fn R) w0 F D0 E.bn β0 M c s:=by
 unfold SP at h
 split at h
 case h_2=>exact h.elim
 exact LI hE hres hce hr hbn (LI hE hres hce hr hbn (LI hE hres hce hr hbn (by intro h;exact False.elim h))) h
theorem LH {E:Env S} (hE:E.Ok P) {Q:Exit->Act->World->Prop} {c:Nat} {k:List Bp} {s:St S} {Kc: ∀ c,E.ι c->Prop} {Kr:E.ρ->Prop} (hc: ∀ c q (h:lk E.DF c=some q) (x:q.sp.D S),Kc c (EJ E c q h x)->Iz P Q w0 F D0 β0 M E q x) (hbn:E.bn<=s.n) (hsz:s.sz=E.sz) (hk: ∀ x∈k,x.ok E.body) {L:List Nat} {fail:Tr E.ι E.ρ} (hf:fail.Holds Kc Kr->VC Fence.wide P Q w0 F D0 E.bn β0 M (k.map Bp.it) s) (h:(OO E c k s L fail).Holds Kc Kr):
  VC Fence.wide P Q w0 F D0 E.bn β0 M (k.map Bp.it) s:=by
 unfold OO at h
 split at h
 case h_2=>exact h.elim
 rename_i q hq
 split at h
 case h_2=>exact h.elim
 rename_i hkey
 split at h
 case h_2=>exact hf h
 rename_i vs hvs
 split at h
 case h_2=>exact hf h
 rename_i x ps hp
 have hx:=hc c q hq x h
 obtain ⟨h1,h2,h3,k',h4⟩:=hE.DF c q hq
 have hkk:=TE hk hkey h4
 subst hkk
 rcases he:q.sp.enc x q.bn with ⟨ws,o',n'⟩
 have hv:=hx k ws o' n' h4 he
 refine VC.Fl L hbn ?_
 have hsz:=(Ia L s).trans hsz
 intro D β a w hβ0 hg
 obtain ⟨β',hbox,hgh,hden,hon',hn',_,_,hmm,_⟩:=Spec.CO hg.gh hp h1 he
 obtain ⟨t1,t2,t3⟩:=FN hg hvs
 have hlw:ws.length=vs.length:=by have:=congrArg List.length hden;rw [AI,AI] at this;exact this.symm
 refine hv _ β' a w (fun i hi=>by rw [hbox i (dg hi h2) i (hmm i i (G7 hi))];exact hβ0 i hi) ⟨hg.defers,by rw [hg.size,hsz],fun t v ht=>?_,fun t v ht=>?_,hgh⟩
 ·obtain ⟨j,j1,j2⟩:=G8 ht
  have hj:j<vs.length:=by rw [<-hlw];exact (List.getElem?_eq_some_iff.1 j2).1
  have:=t3 j t _ j1 (co hj)
  exact ⟨by rw [<-hsz];exact this.1,A0.1 hon' v (gc j2)⟩
 ·obtain ⟨j,j1,j2⟩:=G8 ht
  have hj:j<vs.length:=by rw [<-hlw];exact (List.getElem?_eq_some_iff.1 j2).1
  have h5:=(t3 j t _ j1 (co hj)).2
  rw [h5]
  have h6:=congrArg (fun l:List Value=>l[j]?) hden
  simp only [CM,co hj,j2,Option.map_some,am] at h6
  exact h6
theorem PQ {E:Env S} (hE:E.Ok P) {Q:Exit->Act->World->Prop} {c:Nat} {k:List Bp} {s:St S} {Kc: ∀ c,E.ι c->Prop} {Kr:E.ρ->Prop} (hc: ∀ c q (h:lk E.DF c=some q) (x:q.sp.D S),Kc c (EJ E c q h x)->Iz P Q w0 F D0 β0 M E q x) (hbn:E.bn<=s.n) (hsz:s.sz=E.sz) (hk: ∀ x∈k,x.ok E.body) (h:(Qp E c k s).Holds Kc Kr):
  VC Fence.wide P Q w0 F D0 E.bn β0 M (k.map Bp.it) s:=by
 unfold Qp at h
 split at h
 case h_2=>exact h.elim
 split at h
 case h_2=>exact h.elim
 exact LH hE hc hbn hsz hk (LH hE hc hbn hsz hk (LH hE hc hbn hsz hk (by intro h;exact False.elim h))) h
theorem Zw {E:Env S} (hE:E.Ok P) {Q:Exit->Act->World->Prop} {c:Nat} {k:List Bp} {s:St S} {Kc: ∀ c,E.ι c->Prop} {Kr:E.ρ->Prop} (hc: ∀ c q (h:lk E.DF c=some q) (x:q.sp.D S),Kc c (EJ E c q h x)->Iz P Q w0 F D0 β0 M E q x) (hbn:E.bn<=s.n) (hsz:s.sz=E.sz) (hk: ∀ x∈k,x.ok E.body) (h:(SO E c k s).Holds Kc Kr):
  VC Fence.wide P Q w0 F D0 E.bn β0 M (k.map Bp.it) s:=by
 unfold SO at h
 split at h
 case h_2=>exact h.elim
 split at h
 ·exact PQ hE hc hbn hsz hk h
 ·exact PQ hE hc hbn hsz hk h
theorem Q7 {ι:Nat->Type} {ρ:Type} {s:St S} {c:BU S} {ps:PS S} {dst:Option Tmp} {y:c.rs.D S} {k:St S->Tr ι ρ} {w:Nat} {Kc: ∀ c,ι c->Prop} {Kr:ρ->Prop} (h:(Oy s c ps dst y k (.stuck w)).Holds Kc Kr):
  iv ps.m c.bn s.n=true/\ ∃ rs' o' n' s',c.rs.enc y (Hg c.bn c.rs)=(rs',o',n')/\St.put { s with o:=Dr (Bv c.bn ps.m s.n) o'++ps.o,n:=s.n+(n' -c.bn) } dst (Ay (Cf (Bv c.bn ps.m s.n) rs'))=some s'/\(k s').Holds Kc Kr:=by
 unfold Oy at h
 split at h
 case h_2=>exact h.elim
 rename_i hm
 refine ⟨hm,?_⟩
 split at h
 rename_i rs' o' n' he
 split at h
 case h_2=>exact h.elim
 rename_i s' hs
 rw [St.Ft] at h
 exact ⟨rs',o',n',s',he,hs,h⟩
theorem II {s s':St S} {d:Option Tmp} {x:SV} (h:s.put d x=some s'):s'.sz=s.sz:=by
 cases d with
 | none=>cases h;rfl
 | some d=>rw [St.Fg] at h;split at h<;>cases h;rfl
theorem QZ {fn:Func} {R:Ending->World->Prop}: ∀ c a d v w,bodyPost P fn R (.panic c) (a.put d v) w->bodyPost P fn R (.panic c) a w:=fun c a d v w h=>by
 cases d<;>exact h
theorem Dp {x:SV}: ∀ {l:List SV} {i t:Nat},lk (Bx i l) t=some x->i<=t/\l[t -i]?=some x
 | [],_,_,h=>by simp [Bx,AW] at h
 | y::r,i,t,h=>by
  simp only [Bx,AK] at h
  split at h
  ·rename_i he;subst he;cases h;simp
  ·obtain ⟨h1,h2⟩:=Dp h
   have h3:t -i=(t -(i+1))+1:=by omega
   exact ⟨by omega,by rw [h3];simpa using h2⟩
theorem VC.enter {f:FuncId} {fn:Func} {c:Code} {args:List SV} {w:World} {R:Ending->World->Prop} {o:List (Nat×Own S)} {n m bn:Nat} {D:Nat->Prop} {β:Nat->Nm} (hf:P.funcs[f]?=some fn) (hb:fn.body=some c) (hn:fn.ntmps=m) (hN:args.length<=m) (hargs:BZ (· <n) args)
  {w0:World} (hgh:GH w0 F D0 D o (· <n) β w) (h:VC Fence.wide P (bodyPost P fn R) w0 F D0 bn β M [.code c] ⟨Bx 0 args,o,n,m⟩):Calls P f (AD β args).toArray w R:=by
 refine calls_of_wp hf hb ((wpIn_wide (n:=0)).1 ?_)
 have:=h D β { tmps:=(AD β args).toArray++Array.replicate (fn.ntmps -(AD β args).toArray.size) undef,defers:=[] } w (fun _ _=>rfl) ⟨rfl,?_,fun t x hx=>?_,fun t x hx=>?_,hgh⟩
 ·simpa only [after] using this
 ·simp [AI,hn];omega
 ·obtain ⟨_,h2⟩:=Dp hx
  have hlt:t -0<args.length:=(List.getElem?_eq_some_iff.1 h2).1
  exact ⟨by simp only;omega,A0.1 hargs x (gc h2)⟩
 ·obtain ⟨_,h2⟩:=Dp hx
  have hlt:t -0<args.length:=(List.getElem?_eq_some_iff.1 h2).1
  simp only [Nat.sub_zero] at h2 hlt
  have h3:(AD β args)[t]?=some (x.den β):=by rw [CM,h2];rfl
  rw [lm,Array.getElem?_append_left (by simpa [AI] using hlt)]
  simp [h3]
theorem Vj {s:St S} {D:Nat->Prop} {N:Nat->Prop} {β:Nat->Nm} {a:Act} {w:World} (hg:G w0 F D0 D s N β a w) {op:Op} {f:Nat} {args:List SV} (h:callee s op=some (f,args)):BZ N args:=by
 have on_map: ∀ l:List Value,BZ N (l.map SV.v):=fun l=>A0.2 fun x hx=>by obtain ⟨v,_,rfl⟩:=List.mem_map.1 hx;trivial
 unfold callee at h
 split at h
 case h_2=>cases h
 split at h
 ·rename_i f' caps h1
  split at h
  case h_2=>cases h
  rename_i l h2
  split at h
  ·simp only [am,bi] at h
   obtain ⟨rfl,rfl⟩:=h
   exact Eh (CW hg h1) (Dt hg h2).2
  ·simp only [am,bi] at h
   obtain ⟨rfl,rfl⟩:=h
   exact Eh (Dt hg h2).2 (CW hg h1)
 ·rename_i f' caps h1
  split at h
  case h_2=>cases h
  rename_i l h2
  simp only [am,bi] at h
  obtain ⟨rfl,rfl⟩:=h
  exact Eh (Dt hg h2).2 (on_map _)
 ·cases h
structure jA (Φ:Fence) (P:Program) (Q:Exit->Act->World->Prop) (w0:World) (F D0:Nat->Prop) (bn:Nat) (β0:Nat->Nm) (M:Nat) (body:Code) (sz:Nat) {ι:Nat->Type} {ρ:Type} (Kc: ∀ c,ι c->Prop) (Kr:ρ->Prop) (fr:Fr) (oc:Nat->List Bp->St S->Tr ι ρ) (or':Bool->St S->Tr ι ρ):Prop where
 kp:CF S w0 F D0
 p5: ∀ c a d v w,Q (.panic c) (a.put d v) w->Q (.panic c) a w
 dr:IX body fr.dr=true
 calm: ∀ a id ops d,Hk body a=some (.region id ops d)->Calm Φ Q ops
 cut: ∀ c k (s:St S),bn<=s.n->s.sz=sz->(∀ x∈k,x.ok body)->(oc c k s).Holds Kc Kr->VC Φ P Q w0 F D0 bn β0 M (k.map Bp.it) s
 fin: ∀ M (s:St S),bn<=s.n->s.sz=sz->(or' false s).Holds Kc Kr->VC Φ P Q w0 F D0 bn β0 M [] s
 ret: ∀ M k (s:St S),bn<=s.n->s.sz=sz->(or' true s).Holds Kc Kr->VC Φ P Q w0 F D0 bn β0 M (.code .ret::k) s
theorem AZ {E:Env S} (hE:E.Ok P) {ι:Nat->Type} {ρ:Type} {Kc: ∀ c,ι c->Prop} {Kr:ρ->Prop}: ∀ (n:Nat) {fr:Fr} {oc:Nat->List Bp->St S->Tr ι ρ} {or':Bool->St S->Tr ι ρ} {Q:Exit->Act->World->Prop} {w0:World} {F D0:Nat->Prop} {bn:Nat} {β0:Nat->Nm} {M:Nat} {body:Code} {sz:Nat} {Φ:Fence} (_:jA Φ P Q w0 F D0 bn β0 M body sz Kc Kr fr oc or')
  (go:Bool) (k:List Bp) (s:St S),bn<=s.n->s.sz=sz->(∀ x∈k,x.ok body)->(exec E n fr oc or' go k s).Holds Kc Kr->VC Φ P Q w0 F D0 bn β0 (M+n) (k.map Bp.it) s
 | 0,fr,oc,or',Q,w0,F,D0,bn,β0,M,body,sz,Φ,hf0,_,_,_,_,_,_,h=>h.elim
 | n+1,fr,oc,or',Q,w0,F,D0,bn,β0,M,body,sz,Φ,hf0,_,[],s,hbn,hsz,_,h=>by
  simp only [exec] at h
  exact hf0.fin _ s hbn hsz h
 | n+1,fr,oc,or',Q,w0,F,D0,bn,β0,M,body,sz,Φ,hf0,go,.ops all []::k,s,hbn,hsz,hk,h=>by
  simp only [exec] at h
  exact VC.more (Nat.le_succ _) (VC.bZ (AZ hE n hf0 go k s hbn hsz (fun x hx=>hk x (by simp [hx])) h))
 | n+1,fr,oc,or',Q,w0,F,D0,bn,β0,M,body,sz,Φ,hf0,go,.ops all (o::r)::k,s,hbn,hsz,hk,h=>by
  have ih: ∀ (r:List Oper) (s':St S),bn<=s'.n->s'.sz=sz->(exec E n fr oc or' go (.ops all r::k) s').Holds Kc Kr->VC Φ P (Q) w0 F D0 bn β0 (M+n) (.ops all r::k.map Bp.it) s':=fun r s' h1 h2 h3=>
   AZ hE n hf0 go (.ops all r::k) s' h1 h2 (fun x hx=>by
    rcases List.mem_cons.1 hx with rfl|hx
    ·trivial
    ·exact hk x (by simp [hx])) h3
  refine VC.more (Nat.le_succ _) ?_
  simp only [exec] at h
  simp only [List.map_cons,Bp.it]
  cases hw:CA s all o with
  | iS=>rw [hw] at h;exact h.elim
  | split d c=>
   rw [hw] at h
   intro D β a w hβ0 hg
   exact VC.cK (Ak hg hw) (fun hb=>ih _ _ hbn hsz (h.1 hb)) (fun hb=>ih _ _ hbn hsz (h.2 hb)) D β a w hβ0 hg
  | no=>
   rw [hw] at h
   simp only at h
   split at h
   case h_2=>exact h.elim
   rename_i s' hs
   exact VC.bX hw hs (ih _ _ (by rw [Ff hs];exact hbn) (by rw [II hs];exact hsz) h)
  | yes=>
   rw [hw] at h
   simp only at h
   split at h
   ·rename_i f args hcl
    split at h
    ·rename_i q hq
     split at h
     case h_2=>exact h.elim
     rename_i hlen
     obtain ⟨hbod,hdr,fn,hf,hb,hn,hres⟩:=hE.inl f q hq
     refine VC.Tu hw fun D β a w hβ0 hg=>?_
     unfold Oper.wp
     rw [G0 hg hcl hbod,Oper.upon_enter]
     refine VC.enter (M:=0+n) (bn:=s.n) hf hb hn (dk hlen) (Vj hg hcl) hg.gh ?_
     have hend: ∀ (M':Nat) (c':List It) (_:UN c') (s':St S),s.n<=s'.n->(match Lw E.tb s' q.res with
      | some vs=>match St.put { s with o:=s'.o,n:=s'.n } o.dst (Ay vs) with
       | some s''=>exec E n fr oc or' go (.ops all r::k) s''
       | none=>.stuck 51
      | none=>.stuck 52:Tr ι ρ).Holds Kc Kr->VC Fence.wide P (bodyPost P fn fun e w''=>match e with
       | .returned v=>after Φ P (M+n) (.ops all r::k.map Bp.it) Q .normal (a.put o.dst v) w''
       | .panicked chain=>after Φ P (M+n) (k.map Bp.it) Q (.panic chain) a w''
       | .outgrown=>LetsOut (after Φ P (M+n) (k.map Bp.it) Q)) w0 F D0 s.n β M' c' s':=fun M' c' hce s' hn' h=>by
      split at h
      case h_2=>exact h.elim
      rename_i vs hvs
      split at h
      case h_2=>exact h.elim
      rename_i s2 hs2
      have e1:=Ff hs2
      have e2:=II hs2
      simp only at e1 e2
      refine VC.VG hce (fun _ _ h=>h) fun D' β' a' w' hβ' hg'=>?_
      rw [<-hres] at hvs
      obtain ⟨h1,hon⟩:=IK hE.tb hg' hvs
      refine ⟨hg'.defers,_,h1,?_⟩
      have hv:=ih r s2 (by omega) (by rw [e2];exact hsz) h
      refine hv D' β' _ w' (fun i hi=>by rw [hβ' i (dg hi hbn)];exact hβ0 i hi) ?_
      rw [e1]
      refine G.put (s:={ s with o:=s'.o,n:=s'.n }) ⟨hg.defers,hg.size,fun t x hx=>?_,fun t x hx=>?_,hg'.gh⟩ (ZP hon) hs2
      ·obtain ⟨h3,h4⟩:=hg.Gw t x hx
       exact ⟨h3,Ao (fun i hi=>dg hi hn') h4⟩
      ·rw [hg.tmps t x hx,CX (fun i hi=>(hβ' i hi).symm) x (hg.Gw t x hx).2]
     refine AZ hE n (Kc:=Kc) (Kr:=Kr) (fr:=⟨false,q.dr⟩) (oc:=fun _ _ _=>.stuck 50) ⟨hf0.kp,QZ,hdr,fun _ _ _ _ _=>.inl rfl,fun _ _ _ _ _ _ h=>False.elim h,fun M' s' hn' hz' h=>hend M' [] (.inl rfl) s' hn' h,fun M' k' s' hn' hz' h=>hend M' _ (.inr ⟨_,rfl⟩) s' hn' h⟩ false [.code [] q.body] ⟨Bx 0 args,s.o,s.n,q.sz⟩ (Nat.le_refl _) rfl (fun z hz=>by
      simp only [List.mem_cons,List.not_mem_nil,or_false] at hz
      subst hz
      rfl) h
    rcases Ew h with ⟨c,hcm,x,ps,hf,hp,h⟩|h
    case inr=>
     split at h
     ·exact h.elim
     ·rename_i l _
      exact VC.Fl (UI args) hbn (ih (o::r) _ (Nat.le_trans hbn (NH _ s)) (by rw [Ia];exact hsz) h)
    have hch:=hE.ct c hcm
    have fin: ∀ y,c.out.gives x y->(Oy s c ps o.dst y (fun s'=>exec E n fr oc or' go (.ops all r::k) s') (.stuck 8)).Holds Kc Kr->VC Φ P (Q) w0 F D0 bn β0 (M+n) (.ops all (o::r)::k.map Bp.it) s:=fun y hy h=>by
     obtain ⟨hm,rs',o',n',s',he,hput,h⟩:=Q7 h
     have h1:=Ff hput
     have h2:=II hput
     simp only at h1 h2
     exact VC.call hf0.kp hw hbn hcl hf hch hp hy hm he hput (ih _ _ (by omega) (by rw [h2];exact hsz) h)
    split at h
    ·rename_i g hout;exact fin _ (by rw [hout];rfl) h
    ·rename_i p g hout;exact fin _ (by rw [hout];exact ⟨h.1,rfl⟩) h.2
    ·rename_i m hout
     obtain ⟨y,h1,h2⟩:=h
     exact fin y (by rw [hout];exact h1) h2
   ·by_cases hrt: ∃ b j l,evalOp E.tb s o.op=.new b/\Ze E.tb b=j::l
    ·obtain ⟨b,j,l,he,hl⟩:=hrt
     rw [he] at h
     simp only [hl] at h
     exact VC.Fl (j::l) hbn (ih (o::r) _ (Nat.le_trans hbn (NH _ s)) (by rw [Ia];exact hsz) h)
    by_cases hst: ∃ j l,evalOp E.tb s o.op=.stop/\mF s o.op=j::l
    ·obtain ⟨j,l,he,hl⟩:=hst
     rw [he] at h
     simp only [hl] at h
     exact VC.Fl (j::l) hbn (ih (o::r) _ (Nat.le_trans hbn (NH _ s)) (by rw [Ia];exact hsz) h)
    intro D β a w hβ0 hg
    have hsnd:=Bh hE.tb hg o
    refine VC.bW hE.tb hw hbn ?_ D β a w hβ0 hg
    split at h
    ·rename_i c x he
     rw [he]
     split at h
     case h_2=>exact h.elim
     rename_i s' hs
     obtain ⟨h1,h2⟩:=CJ h
     exact ⟨h1,s',hs,ih _ _ (by rw [Ff hs];exact hbn) (by rw [II hs];exact hsz) h2⟩
    ·rename_i b he
     rw [he]
     split at h
     case h_2=>rename_i j l hl;exact absurd ⟨b,j,l,he,hl⟩ hrt
     split at h
     case h_2=>exact h.elim
     rename_i s' hs
     have h1:=Ff hs
     have h2:=II hs
     simp only at h1 h2
     exact ⟨s',hs,ih _ _ (by omega) (by rw [h2];exact hsz) h⟩
    ·rename_i c i b he
     rw [he]
     split at h
     case h_2=>exact h.elim
     rename_i s' hs
     obtain ⟨h1,h2⟩:=CJ h
     have h3:=Ff hs
     have h4:=II hs
     simp only at h3 h4
     exact ⟨h1,s',hs,ih _ _ (by omega) (by rw [h4];exact hsz) h2⟩
    ·rename_i c o1 n' v he
     rw [he]
     split at h
     case h_2=>exact h.elim
     rename_i s' hs
     obtain ⟨h1,h2⟩:=CJ h
     have h3:=Ff hs
     have h4:=II hs
     simp only at h3 h4
     rw [he] at hsnd
     obtain ⟨_,_,_,h5,_⟩:=hsnd h1 (fun j hj _ hj'=>by omega)
     have:=h5.le
     exact ⟨h1,s',hs,ih _ _ (by omega) (by rw [h4];exact hsz) h2⟩
    ·rename_i c o' n' v he
     rw [he]
     split at h
     case h_2=>exact h.elim
     rename_i s' hs
     obtain ⟨h1,h2⟩:=CJ h
     have h3:=Ff hs
     have h4:=II hs
     simp only at h3 h4
     rw [he] at hsnd
     obtain ⟨_,_,_,_,_,_,h5⟩:=hsnd h1 rfl
     exact ⟨h1,s',hs,ih _ _ (by omega) (by rw [h4];exact hsz) h2⟩
    ·rename_i he
     split at h
     ·exact h.elim
     ·rename_i j l hl;exact absurd ⟨j,l,he,hl⟩ hst
 | n+1,fr,oc,or',Q,w0,F,D0,bn,β0,M,body,sz,Φ,hf0,go,.AX id::k,s,hbn,hsz,hk,h=>by
  simp only [exec] at h
  exact VC.more (Nat.le_succ _) (VC.AX (AZ hE n hf0 go k s hbn hsz (fun x hx=>hk x (by simp [hx])) h))
 | n+1,fr,oc,or',Q,w0,F,D0,bn,β0,M,body,sz,Φ,hf0,go,.sc a c::k,s,hbn,hsz,hk,h=>by
  simp only [exec] at h
  exact VC.more (Nat.le_succ _) (VC.sc (AZ hE n hf0 go k s hbn hsz (fun x hx=>hk x (by simp [hx])) h))
 | n+1,fr,oc,or',Q,w0,F,D0,bn,β0,M,body,sz,Φ,hf0,go,.again a c::k,s,hbn,hsz,hk,h=>by
  simp only [exec] at h
  exact VC.again (AZ hE n hf0 go (.code a c::.again a c::k) s hbn hsz (fun x hx=>by
   rcases List.mem_cons.1 hx with rfl|hx
   ·exact hk (.again a c) (by simp)
   ·exact hk x hx) h)
 | n+1,fr,oc,or',Q,w0,F,D0,bn,β0,M,body,sz,Φ,hf0,go,.code a (.seq x y)::k,s,hbn,hsz,hk,h=>by
  simp only [exec] at h
  have ha:Hk body a=some (.seq x y):=hk (.code a (.seq x y)) (by simp)
  exact VC.more (Nat.le_succ _) (VC.seq (AZ hE n hf0 go (.code (0::a) x::.code (1::a) y::k) s hbn hsz (fun z hz=>by
   simp only [List.mem_cons] at hz
   rcases hz with rfl|rfl|hz
   ·simp [Bp.ok,Hk,ha,HV]
   ·simp [Bp.ok,Hk,ha,HV]
   ·exact hk z (by simp [hz])) h))
 | n+1,fr,oc,or',Q,w0,F,D0,bn,β0,M,body,sz,Φ,hf0,go,.code a .skip::k,s,hbn,hsz,hk,h=>by
  simp only [exec] at h
  exact VC.more (Nat.le_succ _) (VC.skip (AZ hE n hf0 go k s hbn hsz (fun x hx=>hk x (by simp [hx])) h))
 | n+1,fr,oc,or',Q,w0,F,D0,bn,β0,M,body,sz,Φ,hf0,go,.code a (.label l)::k,s,hbn,hsz,hk,h=>by
  simp only [exec] at h
  exact VC.more (Nat.le_succ _) (VC.label (AZ hE n hf0 go k s hbn hsz (fun x hx=>hk x (by simp [hx])) h))
 | n+1,fr,oc,or',Q,w0,F,D0,bn,β0,M,body,sz,Φ,hf0,go,.code a (.block id x)::k,s,hbn,hsz,hk,h=>by
  simp only [exec] at h
  have ha:Hk body a=some (.block id x):=hk (.code a (.block id x)) (by simp)
  exact VC.more (Nat.le_succ _) (VC.block (AZ hE n hf0 go (.code (0::a) x::.AX id::k) s hbn hsz (fun z hz=>by
   simp only [List.mem_cons] at hz
   rcases hz with rfl|rfl|hz
   ·simp [Bp.ok,Hk,ha,HV]
   ·trivial
   ·exact hk z (by simp [hz])) h))
 | n+1,fr,oc,or',Q,w0,F,D0,bn,β0,M,body,sz,Φ,hf0,go,.code a (.scope x)::k,s,hbn,hsz,hk,h=>by
  simp only [exec] at h
  have ha:Hk body a=some (.scope x):=hk (.code a (.scope x)) (by simp)
  exact VC.more (Nat.le_succ _) (VC.scope (AZ hE n hf0 go (.code (0::a) x::.sc (0::a) x::k) s hbn hsz (fun z hz=>by
   simp only [List.mem_cons] at hz
   rcases hz with rfl|rfl|hz
   ·simp [Bp.ok,Hk,ha,HV]
   ·simp [Bp.ok,Hk,ha,HV]
   ·exact hk z (by simp [hz])) h))
 | n+1,fr,oc,or',Q,w0,F,D0,bn,β0,M,body,sz,Φ,hf0,go,.code a (.loop x)::k,s,hbn,hsz,hk,h=>by
  simp only [exec] at h
  have ha:Hk body a=some (.loop x):=hk (.code a (.loop x)) (by simp)
  exact VC.more (Nat.le_succ _) (VC.loop (AZ hE n hf0 go (.again (0::a) x::k) s hbn hsz (fun z hz=>by
   simp only [List.mem_cons] at hz
   rcases hz with rfl|hz
   ·simp [Bp.ok,Hk,ha,HV]
   ·exact hk z (by simp [hz])) h))
 | n+1,fr,oc,or',Q,w0,F,D0,bn,β0,M,body,sz,Φ,hf0,go,.code a (.region id ops d)::k,s,hbn,hsz,hk,h=>by
  simp only [exec] at h
  split at h
  ·exact VC.more (Nat.le_add_right _ _) (hf0.cut _ _ _ hbn hsz hk h)
  ·split at h
   ·exact VC.more (Nat.le_add_right _ _) (hf0.cut _ _ _ hbn hsz hk h)
   split at h
   ·exact VC.more (Nat.le_succ _) (VC.region (hf0.calm a id ops false (hk (.code a (.region id ops false)) (by simp))) (AZ hE n hf0 false (.ops ops ops.toList::k) s hbn hsz (fun z hz=>by
     simp only [List.mem_cons] at hz
     rcases hz with rfl|hz
     ·trivial
     ·exact hk z (by simp [hz])) h))
   ·split at h
    case h_2=>exact h.elim
    rename_i q hq
    have ha:Hk body a=some (.region id ops true):=hk (.code a (.region id ops true)) (by simp)
    have hck:=S9 hf0.dr ha hq
    refine VC.more (Nat.le_succ _) ?_
    have main: ∀ (fl:Bool) (hid:List Nat) (s:St S),bn<=s.n->s.sz=sz->(Ci fl hid E.tb E.ct s ops q.ms (fun rs=>(behind s rs).fc fun s1=>exec E n fr oc or' false (.ops ops (Ln ops (F2 q.IS))::k) s1) q.pre []).Holds Kc Kr->VC Φ P Q w0 F D0 bn β0 (M+n) (.code (.region id ops true)::k.map Bp.it) s:=fun fl hid s hbn hsz h=>by
     refine LV (w0:=w0) (F:=F) (D0:=D0) (pre:=q.pre) hf0.kp hE.tb hE.ct (fun rs hkey hgood h=>?_) q.pre [] (by simp) ⟨fun _ h=>by simp at h,trivial,fun p r q h=>by simp at h⟩ h
     have hch:=Vk hck hkey hgood.ops
     rw [St.Ft] at h
     refine VC.draw hE.mixed (hf0.calm a id ops true ha) hbn hch hgood.chain hgood.ko hf0.p5 ?_
     rw [Rx]
     exact AZ hE n hf0 false (.ops ops (Ln ops (F2 q.IS))::k) (behind s rs) (Nat.le_trans hbn hgood.chain.le) hsz (fun z hz=>by
      simp only [List.mem_cons] at hz
      rcases hz with rfl|hz
      ·trivial
      ·exact hk z (by simp [hz])) h
    split at h
    ·exact main _ _ s hbn hsz h
    ·exact VC.Fl (cM E.tb s q) hbn (main _ _ _ (Nat.le_trans hbn (NH _ s)) (by rw [Ia];exact hsz) h)
 | n+1,fr,oc,or',Q,w0,F,D0,bn,β0,M,body,sz,Φ,hf0,go,.code a (.exit id)::k,s,hbn,hsz,hk,h=>by
  simp only [exec] at h
  split at h
  case h_2=>exact h.elim
  rename_i k' he
  obtain ⟨h1,h2⟩:=GR (fun x hx=>hk x (by simp [hx])) he
  exact VC.more (Nat.le_succ _) (VC.exit h1 (AZ hE n hf0 go k' s hbn hsz h2 h))
 | n+1,fr,oc,or',Q,w0,F,D0,bn,β0,M,body,sz,Φ,hf0,go,.code a (.goto l)::k,s,hbn,hsz,hk,h=>by
  simp only [exec] at h
  split at h
  case h_2=>exact h.elim
  rename_i k' he
  obtain ⟨h1,h2⟩:=GU (fun x hx=>hk x (by simp [hx])) he
  exact VC.goto h1 (AZ hE n hf0 go k' s hbn hsz h2 h)
 | n+1,fr,oc,or',Q,w0,F,D0,bn,β0,M,body,sz,Φ,hf0,go,.code a (.cond x t e)::k,s,hbn,hsz,hk,h=>by
  simp only [exec] at h
  have ha:Hk body a=some (.cond x t e):=hk (.code a (.cond x t e)) (by simp)
  have ht: ∀ {c},(exec E n fr oc or' go (.code (0::a) t::k) s).Holds Kc Kr->c->VC Φ P (Q) w0 F D0 bn β0 (M+n) (.code t::k.map Bp.it) s:=fun h _=>AZ hE n hf0 go (.code (0::a) t::k) s hbn hsz (fun z hz=>by
   simp only [List.mem_cons] at hz
   rcases hz with rfl|hz
   ·simp [Bp.ok,Hk,ha,HV]
   ·exact hk z (by simp [hz])) h
  have hf: ∀ {c},(exec E n fr oc or' go (.code (1::a) e::k) s).Holds Kc Kr->c->VC Φ P (Q) w0 F D0 bn β0 (M+n) (.code e::k.map Bp.it) s:=fun h _=>AZ hE n hf0 go (.code (1::a) e::k) s hbn hsz (fun z hz=>by
   simp only [List.mem_cons] at hz
   rcases hz with rfl|hz
   ·simp [Bp.ok,Hk,ha,HV]
   ·exact hk z (by simp [hz])) h
  refine VC.more (Nat.le_succ _) ?_
  split at h
  ·rename_i hv;exact VC.cond (b:=true) hv (fun _=>rfl) (ht h) (fun hb=>by cases hb)
  ·rename_i hv;exact VC.cond (b:=false) hv (fun _=>rfl) (fun hb=>by cases hb) (hf h)
  ·rename_i c hv;exact VC.cond (b:=c) hv (fun _=>rfl) (fun hb=>ht (h.1 hb) hb) (fun hb=>hf (h.2 hb) hb)
  ·exact h.elim
 | n+1,fr,oc,or',Q,w0,F,D0,bn,β0,M,body,sz,Φ,hf0,go,.code a .ret::k,s,hbn,hsz,hk,h=>by
  simp only [exec] at h
  exact hf0.ret _ _ _ hbn hsz h
 | n+1,fr,oc,or',Q,w0,F,D0,bn,β0,M,body,sz,Φ,hf0,go,.code a (.rangeFunc _ _ _ _)::k,s,hbn,hsz,hk,h=>by
  simp only [exec] at h
  exact VC.more (Nat.le_add_right _ _) (hf0.cut _ _ _ hbn hsz hk h)
 | n+1,fr,oc,or',Q,w0,F,D0,bn,β0,M,body,sz,Φ,hf0,go,.code a (.refuse _)::k,s,hbn,hsz,hk,h=>by simp only [exec] at h;exact h.elim
theorem ah {E:Env S} (hkp:CF S w0 F D0) (hE:E.Ok P) {fn:Func} {R:Ending->World->Prop} (hres:fn.results.toList=E.res) {Kc: ∀ c,E.ι c->Prop} {Kr:E.ρ->Prop} (hr: ∀ y,Kr y->Qx w0 F D0 E β0 R y) (hc: ∀ c q (h:lk E.DF c=some q) (x:q.sp.D S),Kc c (EJ E c q h x)->Iz P (bodyPost P fn R) w0 F D0 β0 M E q x):
  jA Fence.wide P (bodyPost P fn R) w0 F D0 E.bn β0 M E.body E.sz Kc Kr ⟨true,E.dr⟩ (SO E) (fun _=>SP E):=
 ⟨hkp,QZ,hE.Oz,fun _ _ _ _ _=>.inl rfl,fun _ _ _ hbn hsz hk h=>Zw hE hc hbn hsz hk h,fun _ _ hbn _ h=>SQ hE hres (.inl rfl) hr hbn h,fun _ _ _ hbn _ h=>SQ hE hres (.inr ⟨_,rfl⟩) hr hbn h⟩
theorem RB: ∀ {bs:List Gx} {x:BT S bs} {n:Nat} {oc:List (Nat×Own S)} {oc':List (Nat×Own S)} {n':Nat},Ep bs x n oc=(oc',n')->n<=n'
 | [],x,n,oc,oc',n',h=>by simp only [Ep,bi] at h;rw [h.2];exact Nat.le_refl _
 | b::r,x,n,oc,oc',n',h=>by
  simp only [Ep] at h
  rcases hE:F7 b x.1 n oc with ⟨o1,n1⟩
  rw [hE] at h
  exact Nat.le_trans (O0 hE).2 (RB h)
theorem Spec.Pj {q:Spec} {x:q.D S} {n:Nat} {vs:List SV} {o':List (Nat×Own S)} {n':Nat} (h:q.enc x n=(vs,o',n')):n<=n':=by
 unfold Spec.enc at h
 rcases hE:CV q.as x.1 n [] with ⟨a,o1,n1⟩
 rw [hE] at h
 simp only at h
 rcases hE2:Ep q.bx x.2 n1 o1 with ⟨o2,n2⟩
 rw [hE2] at h
 simp only [bi] at h
 obtain ⟨_,_,rfl⟩:=h
 exact Nat.le_trans (Mz hE).2 (RB hE2)
theorem Js: ∀ {qs:List C0} {x:PT S qs} {n:Nat} {oc:List (Nat×Own S)} {cs:List SV} {oc':List (Nat×Own S)} {n':Nat},CV qs x n oc=(cs,oc',n')->cs.length=qs.length
 | [],x,n,oc,cs,oc',n',h=>by simp only [CV,bi] at h;obtain ⟨rfl,_⟩:=h;rfl
 | p::r,x,n,oc,cs,oc',n',h=>by
  simp only [CV] at h
  rcases hE:B3 p x.1 n oc with ⟨a,o1,n1⟩
  rw [hE] at h
  simp only at h
  rcases hE2:CV r x.2 n1 o1 with ⟨b,o2,n2⟩
  rw [hE2] at h
  simp only [bi] at h
  obtain ⟨rfl,_⟩:=h
  simp [Js hE2]
theorem Spec.Ah {q:Spec} {x:q.D S} {n:Nat} {vs:List SV} {o':List (Nat×Own S)} {n':Nat} (h:q.enc x n=(vs,o',n')):vs.length=q.as.length:=by
 unfold Spec.enc at h
 rcases hE:CV q.as x.1 n [] with ⟨a,o1,n1⟩
 rw [hE] at h
 simp only at h
 rcases hE2:Ep q.bx x.2 n1 o1 with ⟨o2,n2⟩
 rw [hE2] at h
 simp only [bi] at h
 obtain ⟨rfl,_⟩:=h
 exact Js hE
theorem O6 {E:Env S} (hE:E.Ok P) {f:FuncId} {fn:Func} {sp:Spec} (hf:P.funcs[f]?=some fn) (hb:fn.body=some E.body) (hn:fn.ntmps=E.sz) (hres:fn.results.toList=E.res) (hsz:sp.as.length<=E.sz) {f0:Nat}
  (Mo:Nat-> ∀ k,E.ι k->Option E.ρ) (hM0: ∀ k x,Mo 0 k x=none) (hM: ∀ n k q (h:lk E.DF k=some q) x y,Mo (n+1) k (EJ E k q h x)=some y->(Jk E f0 q x).eval (Mo n)=some y)
  {n:Nat} {x:sp.D S} {y:E.rs.D S} (h:(Jj E f0 sp x).eval (Mo n)=some y) {flat:Bool} {w:World} {D:Nat->Prop} {β:Nat->Nm} {vs:List SV} {o:List (Nat×Own S)} {m:Nat} {out:Out (sp.D S) (E.rs.D S)} (he:sp.enc x E.bn=(vs,o,m)) (hg:GH w (AL o β) D D o (· <m) β w) (hon:BZ (· <m) vs) (hiv:S.inv D w):
  Calls P f (AD β vs).toArray w (Ds ⟨f,E.bn,sp,E.rs,flat,out⟩ y w D β o):=by
 have hkp:CF S w (AL o β) D:=⟨hiv,fun k hk=>⟨hg.DL k hk,fun ⟨i,b,hi,hik⟩=>hg.off i b k hi hik hk⟩⟩
 have hr: ∀ y',y'=y->Qx w (AL o β) D E β (Ds ⟨f,E.bn,sp,E.rs,flat,out⟩ y w D β o) y':=by
  rintro y' rfl D' β' w' ws o' n' he' hβ hgh hon' hn'
  exact ⟨D',β',ws,o',n',he',rfl,hβ,hgh,hon',hn'⟩
 have key: ∀ n k q (h:lk E.DF k=some q) (x:q.sp.D S),Mo n k (EJ E k q h x)=some y->Iz P (bodyPost P fn (Ds ⟨f,E.bn,sp,E.rs,flat,out⟩ y w D β o)) w (AL o β) D β (n*f0) E q x:=by
  intro n
  induction n with
  | zero=>intro k q h x hx;rw [hM0] at hx;cases hx
  | succ n ih=>
   intro k q h x hx ks ws o' n' hk hq
   have h1:=hM n k q h x y hx
   obtain ⟨_,h3,_,_⟩:=hE.DF k q h
   have h2:=Tr.BA h1
   unfold Jk at h2
   rw [hk] at h2
   simp only [hq] at h2
   have:=AZ hE (Kc:=fun c x=>Mo n c x=some y) (Kr:=(· =y)) f0 (fr:=⟨true,E.dr⟩) (ah hkp hE hres hr (fun c q' h' x' GV=>ih c q' h' x' GV)) true ks ⟨q.ts.zip ws,o',n',E.sz⟩ (Nat.le_trans h3 (Spec.Pj hq)) rfl (K8 hk) h2
   rw [Nat.succ_mul]
   exact this
 have h2:=Tr.BA h
 unfold Jj at h2
 rw [he] at h2
 have hvc:=AZ hE (Kc:=fun c x=>Mo n c x=some y) (Kr:=(· =y)) f0 (fr:=⟨true,E.dr⟩) (ah hkp hE hres hr (fun c q' h' x' GV=>key n c q' h' x' GV)) false [.code [] E.body] ⟨Bx 0 vs,o,m,E.sz⟩ (Spec.Pj he) rfl (fun z hz=>by
  simp only [List.mem_cons,List.not_mem_nil,or_false] at hz
  subst hz
  rfl) h2
 exact VC.enter hf hb hn (by rw [Spec.Ah he];exact hsz) hon hg hvc
end
end Go.En
