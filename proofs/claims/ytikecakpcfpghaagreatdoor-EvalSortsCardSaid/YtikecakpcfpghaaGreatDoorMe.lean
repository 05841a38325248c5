/- A row of one's own becomes data that stay (VC.frz). -/
import Derived.Test.YtikecakpcfpghaaGreatDoorEn12c
set_option linter.all false
namespace Go.En
open Go.RowKit
section
variable {S:Aq}
mutual
theorem UG {β:Nat->Nm} {j n:Nat} (h:(SV.h n).den β=(SV.tr j).den β): ∀ x:SV,(x.KY j n).den β=x.den β
 | .tr i=>by
  simp only [SV.KY]
  split
  ·rename_i he;rw [Nat.eq_of_beq_eq_true he];exact h
  ·rfl
 | .agg cs=>by simp only [SV.KY,SV.den];rw [Jf h cs]
 | .Gg cs=>by simp only [SV.KY,SV.den];rw [Jf h cs]
 | .v _=>rfl
 | .b _=>rfl
 | .ptr _ _=>rfl
 | .row _ _=>rfl
 | .ep _ _ _ _=>rfl
 | .view _ _ _ _=>rfl
 | .Bv _=>rfl
 | .mk _ _=>rfl
 | .hm _=>rfl
 | .h _=>rfl
 | .vp _ _=>rfl
 | .ap _ _ _ _=>rfl
 | .pr _ _ _ _=>rfl
 | .pp _ _ _ _ _ _ _=>rfl
 | .fn _ _=>rfl
theorem Jf {β:Nat->Nm} {j n:Nat} (h:(SV.h n).den β=(SV.tr j).den β): ∀ l:List SV,AA β (S9 j n l)=AA β l
 | []=>rfl
 | x::r=>by simp only [S9,AA];rw [UG h x,Jf h r]
end
mutual
theorem PX {N N':Nat->Prop} {j n:Nat} (h: ∀ i,N i->N' i) (hn:N' n): ∀ {x:SV},x.on N->(x.KY j n).on N'
 | .tr i,hx=>by
  simp only [SV.KY]
  split
  ·exact hn
  ·exact h i hx
 | .agg cs,hx=>Lj h hn (l:=cs) hx
 | .Gg cs,hx=>Lj h hn (l:=cs) hx
 | .v _,_=>trivial
 | .b _,_=>trivial
 | .ptr i _,hx=>h i hx
 | .row i _,hx=>h i hx
 | .ep i _ _ _,hx=>h i hx
 | .view i _ _ _,hx=>h i hx
 | .Bv i,hx=>h i hx
 | .mk i _,hx=>h i hx
 | .hm i,hx=>h i hx
 | .h i,hx=>h i hx
 | .vp i _,hx=>h i hx
 | .ap i _ _ _,hx=>h i hx
 | .pr i _ _ _,hx=>h i hx
 | .pp i _ _ _ _ _ _,hx=>h i hx
 | .fn _ cs,hx=>CP h hx
theorem Lj {N N':Nat->Prop} {j n:Nat} (h: ∀ i,N i->N' i) (hn:N' n): ∀ {l:List SV},BR N l->BR N' (S9 j n l)
 | [],_=>trivial
 | _::_,hx=>⟨PX h hn hx.1,Lj h hn hx.2⟩
end
theorem Pg {j n:Nat} {t:Nat}: ∀ {l:List (Nat×SV)} {y:SV},lk (XW j n l) t=some y-> ∃ x,lk l t=some x/\y=x.KY j n
 | [],y,h=>by simp [XW,AS] at h
 | (d,x)::r,y,h=>by
  simp only [XW,AI] at h ⊢
  split at h
  ·rename_i he;cases h;exact ⟨x,by simp [he],rfl⟩
  ·rename_i he;obtain ⟨z,h1,h2⟩:=Pg h;exact ⟨z,by simp [he,h1],h2⟩
theorem UO {j n:Nat} {i:Nat}: ∀ {l:List (Nat×Own S)} {c:Own S},lk (Vb j n l) i=some c-> ∃ b,lk l i=some b/\c=b.KY j n
 | [],c,h=>by simp [Vb,AS] at h
 | (d,x)::r,c,h=>by
  simp only [Vb,AI] at h ⊢
  split at h
  ·rename_i he;cases h;exact ⟨x,by simp [he],rfl⟩
  ·rename_i he;obtain ⟨z,h1,h2⟩:=UO h;exact ⟨z,by simp [he,h1],h2⟩
theorem Own.Vc {D:Nat->Prop} {β:Nat->Nm} {w:World} {nm:Nm} {j n:Nat} (h:(SV.h n).den β=(SV.tr j).den β) {b:Own S} (hb:b.holds D β w nm):(b.KY j n).holds D β w nm:=by
 cases b with
 | AN T cs=>obtain ⟨k,h1,h2⟩:=hb;exact ⟨k,h1,by rw [Jf h];exact h2⟩
 | _=>exact hb
theorem Own.PX {N N':Nat->Prop} {j n:Nat} (h: ∀ i,N i->N' i) (hn:N' n) {b:Own S} (hb:b.on N):(b.KY j n).on N':=by
 cases b with
 | AN T cs=>exact Lj h hn hb
 | _=>exact Own.Am h hb
theorem Y5 {w:World} {D D':Nat->Prop} {β:Nat->Nm} {nm:Nm} {τ:Nat} {E:TypeId} {l:List (S.T τ)} (h:(Own.tr τ E l).holds D β w nm) (hD: ∀ k,D k->D' k) (hb: ∀ k,nm.b=some k->D' k):
  Au S w D' (.sl τ l) (.slice (nm.b.map fun b=>⟨b,0,none⟩) nm.len nm.cap):=by
 obtain ⟨hlen,vs,hrow,hvs⟩:=h
 rw [hlen]
 by_cases h0:l.length=0
 ·have:l=[]:=List.eq_nil_of_length_eq_zero h0
  subst this;exact .nil _ _ _
 ·have hbs:=A8 hrow (by omega)
  have hcap:l.length<=nm.cap:=by
   rcases hrow.2 with ⟨_,h8⟩|⟨g,cap,cur,h8,_,_,h9,_⟩
   ·omega
   ·rw [hbs] at h8;simp at h8;omega
  rw [hbs]
  simp only [Option.map_some]
  refine Au.sl _ _ _ _ _ (fun i=>vs.getD i undef) (hb _ hbs) hcap (fun i f hf=>?_) fun i f hf=>?_
  ·have hlt:i<vs.length:=by rw [<-hvs.1];exact (List.getElem?_eq_some_iff.1 hf).1
   rw [Nat.zero_add,(BG hrow (List.getElem?_eq_getElem hlt)).2]
   simp [List.getD,hlt]
  ·have hlt:i<vs.length:=by rw [<-hvs.1];exact (List.getElem?_eq_some_iff.1 hf).1
   have:=hvs.2 i f _ hf (List.getElem?_eq_getElem hlt)
   simp only [List.getD,List.getElem?_eq_getElem hlt,Option.getD_some]
   exact this.Bo (fun _ _=>rfl) hD
section
variable {Φ:Fence} {P:Program} {Q:Exit->Act->World->Prop} {w0:World} {F D0 D:Nat->Prop} {bn:Nat} {β0:Nat->Nm} {M:Nat} {k:List It} {s:St S} {β:Nat->Nm} {a:Act} {w:World}
theorem bz (s:St S) (j:Nat):s.n<=(s.KY j).n:=by
 unfold St.KY;split
 ·exact Nat.le_succ _
 ·exact Nat.le_refl _
theorem dn (s:St S) (j:Nat):(s.KY j).sz=s.sz:=by
 unfold St.KY;split<;>rfl
theorem dm (hg:G w0 F D0 D s (· <s.n) β a w) (j:Nat): ∃ D' β',(∀ i,i<s.n->β i=β' i)/\G w0 F D0 D' (s.KY j) (· <(s.KY j).n) β' a w:=by
 unfold St.KY
 split
 case h_2=>exact ⟨D,β,fun _ _=>rfl,hg⟩
 rename_i τ E l hl
 let nm:Nm:=⟨none,0,0,.slice ((β j).b.map fun b=>⟨b,0,none⟩) (β j).len (β j).cap⟩
 let β':Nat->Nm:=fun i=>if i=s.n then nm else β i
 let D':Nat->Prop:=fun k=>D k\/(β j).has k
 have hβ: ∀ i,i<s.n->β i=β' i:=fun i hi=>by simp only [β'];rw [if_neg (by omega)]
 have hβn:β' s.n=nm:=by simp [β']
 have hjn:j<s.n:=(hg.gh.Bk j _ hl).1
 have hden:(SV.h s.n).den β'=(SV.tr j).den β':=by
  simp only [SV.den,hβn,<- hβ j hjn];rfl
 have hrow:=hg.gh.own j _ hl
 have hDD: ∀ k,D k->D' k:=fun k hk=>.inl hk
 have hcase: ∀ i c,lk ((s.n,Own.sl τ l)::Vb j s.n (rm s.o j)) i=some c->(i=s.n/\c=.sl τ l)\/(i≠j/\ ∃ b,lk s.o i=some b/\c=b.KY j s.n):=fun i c hi=>by
  rw [AI] at hi
  split at hi
  ·rename_i he;cases hi;exact .inl ⟨he.symm,rfl⟩
  ·obtain ⟨b,h1,h2⟩:=UO hi
   rw [Co] at h1
   split at h1
   ·cases h1
   ·rename_i hne;exact .inr ⟨fun e=>hne e.symm,b,h1,h2⟩
 have hnh: ∀ k,¬ nm.has k:=fun k=>Nm.Oo.no k
 refine ⟨D',β',hβ,hg.defers,hg.size,fun t x hx=>?_,fun t x hx=>?_,⟨fun i c hi=>?_,fun i c hi=>?_,fun i i2 c c2 k hi hi2 h1 h2=>?_,fun i c k hi h1=>?_,fun i c k hi h1 hD=>?_,fun i c k hi h1=>?_,fun k hk=>?_,fun k hk=>?_,hg.gh.fr,fun k hk=>.inl (hg.gh.sub k hk)⟩⟩
 ·obtain ⟨y,h1,rfl⟩:=Pg hx
  obtain ⟨h2,h3⟩:=hg.Gc t y h1
  exact ⟨h2,PX (N:=(· <s.n)) (N':=(· <s.n+1)) (fun i hi=>Nat.lt_succ_of_lt hi) (Nat.lt_succ_self s.n) h3⟩
 ·obtain ⟨y,h1,rfl⟩:=Pg hx
  rw [UG hden,hg.tmps t y h1]
  exact CF hβ y (hg.Gc t y h1).2
 ·rcases hcase i c hi with ⟨rfl,rfl⟩|⟨_,b,h1,rfl⟩
  ·exact ⟨Nat.lt_succ_self _,trivial⟩
  ·obtain ⟨h2,h3⟩:=hg.gh.Bk i b h1
   exact ⟨Nat.lt_succ_of_lt h2,Own.PX (N:=(· <s.n)) (N':=(· <s.n+1)) (fun i hi=>Nat.lt_succ_of_lt hi) (Nat.lt_succ_self s.n) h3⟩
 ·rcases hcase i c hi with ⟨rfl,rfl⟩|⟨_,b,h1,rfl⟩
  ·rw [hβn]
   exact ⟨Nm.Oo,Y5 hrow hDD fun k hk=>.inr (.inl hk)⟩
  ·obtain ⟨h2,h3⟩:=hg.gh.Bk i b h1
   rw [<-hβ i h2]
   exact Own.Vc hden (Own.Bu (Own.Dq hβ h3 (hg.gh.own i b h1)) hDD)
 ·rcases hcase i c hi with ⟨rfl,rfl⟩|⟨_,b,h3,rfl⟩
  ·rw [hβn] at h1;exact absurd h1 (hnh k)
  ·rcases hcase i2 c2 hi2 with ⟨rfl,rfl⟩|⟨_,b2,h4,rfl⟩
   ·rw [hβn] at h2;exact absurd h2 (hnh k)
   ·rw [<-hβ i (hg.gh.Bk i b h3).1] at h1;rw [<-hβ i2 (hg.gh.Bk i2 b2 h4).1] at h2
    exact hg.gh.inj i i2 b b2 k h3 h4 h1 h2
 ·rcases hcase i c hi with ⟨rfl,rfl⟩|⟨_,b,h3,rfl⟩
  ·rw [hβn] at h1;exact absurd h1 (hnh k)
  ·rw [<-hβ i (hg.gh.Bk i b h3).1] at h1
   exact hg.gh.fresh i b k h3 h1
 ·rcases hcase i c hi with ⟨rfl,rfl⟩|⟨hne,b,h3,rfl⟩
  ·rw [hβn] at h1;exact absurd h1 (hnh k)
  ·rw [<-hβ i (hg.gh.Bk i b h3).1] at h1
   rcases hD with hD|hD
   ·exact hg.gh.off i b k h3 h1 hD
   ·exact hne (hg.gh.inj i j b _ k h3 hl h1 hD)
 ·rcases hcase i c hi with ⟨rfl,rfl⟩|⟨_,b,h3,rfl⟩
  ·rw [hβn] at h1;exact absurd h1 (hnh k)
  ·rw [<-hβ i (hg.gh.Bk i b h3).1] at h1
   exact hg.gh.lt i b k h3 h1
 ·rcases hk with hk|hk
  ·exact hg.gh.C0 k hk
  ·exact hg.gh.lt j _ k hl hk
 ·rcases hk with hk|hk
  ·exact hg.gh.JV k hk
  ·exact (hg.gh.fresh j _ k hl hk).elim (fun h=>.inr (.inr h)) (fun h=>.inr (.inl h))
theorem VC.KY (hbn:bn<=s.n) (j:Nat) (h:VC Φ P Q w0 F D0 bn β0 M k (s.KY j)):VC Φ P Q w0 F D0 bn β0 M k s:=fun D β a w hβ0 hg=>by
 obtain ⟨D',β',h1,h2⟩:=dm hg j
 exact h D' β' a w (fun i hi=>by rw [<-h1 i (Nat.lt_of_lt_of_le hi hbn)];exact hβ0 i hi) h2
theorem VC.Fc: ∀ (l:List Nat) {s:St S},bn<=s.n->VC Φ P Q w0 F D0 bn β0 M k (Go.En.Fc s l)->VC Φ P Q w0 F D0 bn β0 M k s
 | [],s,_,h=>h
 | j::r,s,hbn,h=>VC.KY hbn j (VC.Fc r (Nat.le_trans hbn (bz s j)) h)
theorem Mt: ∀ (l:List Nat) (s:St S),s.n<=(Fc s l).n
 | [],s=>Nat.le_refl _
 | j::r,s=>Nat.le_trans (bz s j) (Mt r _)
theorem IH: ∀ (l:List Nat) (s:St S),(Fc s l).sz=s.sz
 | [],s=>rfl
 | j::r,s=>(IH r _).trans (dn s j)
end
end
end Go.En
namespace Go.En
open Go.RowKit
theorem YX {body:Code} {x:Be} (hx:x.ok body) {y:Be} (h:LH body x.key=some y):x=y:=by
 cases x with
 | code a c=>simp only [Be.ok] at hx;simp only [Be.key,LH,hx] at h;exact Option.some.inj h
 | AN id=>simp only [Be.key,LH] at h;exact Option.some.inj h
 | ops all r=>simp [Be.key,LH] at h
 | again a c=>simp only [Be.ok] at hx;simp only [Be.key,LH,hx] at h;exact Option.some.inj h
 | sc a c=>simp only [Be.ok] at hx;simp only [Be.key,LH,hx] at h;exact Option.some.inj h
theorem Su {body:Code}: ∀ {k:List Be} {ks:List (List Nat)} {k':List Be},(∀ x∈k,x.ok body)->bh k ks=true->Cb body ks=some k'->k=k'
 | [],[],k',_,_,h=>by simp only [Cb,Option.some.injEq] at h;exact h
 | [],_::_,k',_,h,_=>by simp [bh] at h
 | _::_,[],k',_,h,_=>by simp [bh] at h
 | x::r,y::t,k',hok,h,hk=>by
  simp only [bh] at h
  split at h
  case h_2=>cases h
  rename_i hx
  have hx:=Sv hx
  simp only [Cb] at hk
  split at hk
  case h_2=>cases hk
  rename_i i hi
  split at hk
  case h_2=>cases hk
  rename_i l hl
  cases hk
  rw [<-hx] at hi
  rw [YX (hok x (by simp)) hi,Su (fun z hz=>hok z (by simp [hz])) h hl]
theorem Ko {body:Code}: ∀ {ks:List (List Nat)} {k:List Be},Cb body ks=some k-> ∀ x∈k,x.ok body
 | [],k,h,x,hx=>by simp only [Cb,Option.some.injEq] at h;subst h;simp at hx
 | y::t,k,h,x,hx=>by
  simp only [Cb] at h
  split at h
  case h_2=>cases h
  rename_i i hi
  split at h
  case h_2=>cases h
  rename_i l hl
  cases h
  rcases List.mem_cons.1 hx with rfl|hx
  ·unfold LH at hi
   split at hi
   ·split at hi
    ·rename_i hc;cases hi;exact hc
    ·cases hi
   ·cases hi;trivial
   ·split at hi
    ·rename_i hc;cases hi;exact hc
    ·cases hi
   ·split at hi
    ·rename_i hc;cases hi;exact hc
    ·cases hi
   ·cases hi
  ·exact Ko hl x hx
theorem GL {body:Code} {id:Nat}: ∀ {k k':List Be},(∀ x∈k,x.ok body)->GK id k=some k'->CR id (k.map Be.it)=some (k'.map Be.it)/\ ∀ x∈k',x.ok body
 | [],k',_,h=>by simp [GK] at h
 | .AN id'::k,k',hok,h=>by
  simp only [GK] at h
  simp only [List.map_cons,Be.it,CR]
  split at h
  ·rename_i he;cases h;rw [he];exact ⟨rfl,fun x hx=>hok x (by simp [hx])⟩
  ·rename_i he;rw [he];exact GL (fun x hx=>hok x (by simp [hx])) h
 | .code _ _::k,k',hok,h=>by simp only [GK] at h;simp only [List.map_cons,Be.it,CR];exact GL (fun x hx=>hok x (by simp [hx])) h
 | .ops _ _::k,k',hok,h=>by simp only [GK] at h;simp only [List.map_cons,Be.it,CR];exact GL (fun x hx=>hok x (by simp [hx])) h
 | .again _ _::k,k',hok,h=>by simp only [GK] at h;simp only [List.map_cons,Be.it,CR];exact GL (fun x hx=>hok x (by simp [hx])) h
 | .sc _ _::k,k',hok,h=>by simp only [GK] at h;simp only [List.map_cons,Be.it,CR];exact GL (fun x hx=>hok x (by simp [hx])) h
theorem GN {body:Code} {l:Nat}: ∀ {k k':List Be},(∀ x∈k,x.ok body)->GM l k=some k'->Cg l (k.map Be.it)=some (k'.map Be.it)/\ ∀ x∈k',x.ok body
 | [],k',_,h=>by simp [GM] at h
 | .sc a c::k,k',hok,h=>by
  simp only [GM] at h
  simp only [List.map_cons,Be.it,Cg]
  split at h
  ·rename_i rest hf
   cases h
   rw [hf]
   refine ⟨rfl,fun x hx=>?_⟩
   rcases List.mem_cons.1 hx with rfl|hx
   ·have h1:HJ body a=some c:=hok (.sc a c) (by simp)
    simp only [Be.ok,HJ,h1]
    cases c<;>simp_all [HG]
   ·exact hok x hx
  ·rename_i hf;rw [hf];exact GN (fun x hx=>hok x (by simp [hx])) h
 | .code _ _::k,k',hok,h=>by simp only [GM] at h;simp only [List.map_cons,Be.it,Cg];exact GN (fun x hx=>hok x (by simp [hx])) h
 | .ops _ _::k,k',hok,h=>by simp only [GM] at h;simp only [List.map_cons,Be.it,Cg];exact GN (fun x hx=>hok x (by simp [hx])) h
 | .again _ _::k,k',hok,h=>by simp only [GM] at h;simp only [List.map_cons,Be.it,Cg];exact GN (fun x hx=>hok x (by simp [hx])) h
 | .AN _::k,k',hok,h=>by simp only [GM] at h;simp only [List.map_cons,Be.it,Cg];exact GN (fun x hx=>hok x (by simp [hx])) h
section
variable {S:Aq} {Φ:Fence} {P:Program} {Q:Exit->Act->World->Prop} {w0:World} {F D0:Nat->Prop} {bn:Nat} {β0:Nat->Nm} {M:Nat} {k:List It} {s:St S} {D:Nat->Prop} {N:Nat->Prop} {β:Nat->Nm} {a:Act} {w:World}
theorem VC.af {all:Array Oper} {o:Oper} {r:List Oper} {s':St S} (hw:Bd s all o=.no) (hp:s.put o.dst (.v (.tuple #[]))=some s') (h:VC Φ P Q w0 F D0 bn β0 M (.ops all r::k) s'):VC Φ P Q w0 F D0 bn β0 M (.ops all (o::r)::k) s:=fun D β a w hβ0 hg=>by
 have hwt:=Af hg hw
 have:=h D β _ w hβ0 (by rw [Ey hp];exact G.put (x:=.v (.tuple #[])) hg trivial hp)
 simp only [after] at this ⊢
 exact wpList_skip hwt (by simpa [SV.den,undef] using this)
theorem VC.QF {all:Array Oper} {o:Oper} {r:List Oper} (hw:Bd s all o=.yes) (h: ∀ D β a w,(∀ i,i<bn->β i=β0 i)->G w0 F D0 D s (· <s.n) β a w->o.wp P a w (fun a w=>after Φ P M (.ops all r::k) Q .normal a w) (after Φ P M k Q)):VC Φ P Q w0 F D0 bn β0 M (.ops all (o::r)::k) s:=fun D β a w hβ0 hg=>by
 have hwt:=Af hg hw
 have:=h D β a w hβ0 hg
 simp only [after] at this ⊢
 refine wpList_step fun K hK=>?_
 rw [if_pos hwt]
 exact O3 hK (fun _ _ _ h=>h) this
theorem VC.VB {d:Nat} {b:Bool} (hl:lk s.t d=some (.b b)) (ht:b=true->VC Φ P Q w0 F D0 bn β0 M k { s with t:=pt s.t d (.v (.bool true)) }) (hf:b=false->VC Φ P Q w0 F D0 bn β0 M k { s with t:=pt s.t d (.v (.bool false)) }):VC Φ P Q w0 F D0 bn β0 M k s:=by
 have key: ∀ c,b=c->VC Φ P Q w0 F D0 bn β0 M k { s with t:=pt s.t d (.v (.bool c)) }->VC Φ P Q w0 F D0 bn β0 M k s:=fun c hc h D β a w hβ0 hg=>by
  subst hc
  refine h D β a w hβ0 ⟨hg.defers,hg.size,fun t x hx=>?_,fun t x hx=>?_,hg.gh⟩
  ·simp only [Ew] at hx
   split at hx
   ·rename_i he;subst he;simp only [Option.some.injEq] at hx;subst hx;exact ⟨(hg.Gc _ _ hl).1,trivial⟩
   ·exact hg.Gc t x hx
  ·simp only [Ew] at hx
   split at hx
   ·rename_i he;subst he;simp only [Option.some.injEq] at hx;subst hx;have:=hg.tmps _ _ hl;simpa [SV.den] using this
   ·exact hg.tmps t x hx
 cases b
 ·exact key false rfl (hf rfl)
 ·exact key true rfl (ht rfl)
theorem VC.Ui {tb:List (Nat×TI)} (htb:AU S P tb) {all:Array Oper} {o:Oper} {r:List Oper} (hw:Bd s all o=.yes) (hbn:bn<=s.n)
  (h:match evalOp tb s o.op with
   | .val c x=>CB c/\ ∃ s',s.put o.dst x=some s'/\VC Φ P Q w0 F D0 bn β0 M (.ops all r::k) s'
   | .new b=> ∃ s',St.put { s with o:=(s.n,b)::s.o,n:=s.n+1 } o.dst (GX b s.n)=some s'/\VC Φ P Q w0 F D0 bn β0 M (.ops all r::k) s'
   | .SC c i b=>CB c/\ ∃ s',St.put { s with o:=pt s.o i b } o.dst (.v (.tuple #[]))=some s'/\VC Φ P Q w0 F D0 bn β0 M (.ops all r::k) s'
   | .nm c o1 n' v=>CB c/\ ∃ s',St.put { s with o:=o1++s.o,n:=n' } o.dst v=some s'/\VC Φ P Q w0 F D0 bn β0 M (.ops all r::k) s'
   | .x c o' n' v=>CB c/\ ∃ s',St.put { s with o:=o',n:=n' } o.dst v=some s'/\VC Φ P Q w0 F D0 bn β0 M (.ops all r::k) s'
   | .stop=>False):VC Φ P Q w0 F D0 bn β0 M (.ops all (o::r)::k) s:=by
 refine VC.QF hw fun D β a w hβ0 hg=>?_
 have hsound:=BZ htb hg o
 cases he:evalOp tb s o.op with
 | val c x=>
  rw [he] at h hsound
  obtain ⟨hc,s',h1,h2⟩:=h
  obtain ⟨hr,hn⟩:=hsound hc
  refine An hr (h2 D β _ w hβ0 ?_)
  rw [Ey h1]
  exact hg.put hn h1
 | new b=>
  rw [he] at h hsound
  obtain ⟨s',h1,h2⟩:=h
  obtain ⟨hbn',ob,len,cap,hall⟩:=hsound
  obtain ⟨β',hβ,hβn,hgh⟩:=hg.gh.alloc (n:=s.n) (by simp) hbn' fun β' hβ hn=>by have:=(hall s.n β' hβ hn).2;exact this
  obtain ⟨hr,_⟩:=hall s.n β' hβ hβn
  rw [C1] at hgh
  refine An hr (h2 D β' _ _ (fun i hi=>by rw [<-hβ i (Nat.lt_of_lt_of_le hi hbn)];exact hβ0 i hi) ?_)
  have hn':s'.n=s.n+1:=Ey h1
  rw [hn']
  refine G.put (s:={ s with o:=(s.n,b)::s.o,n:=s.n+1 }) ⟨hg.defers,hg.size,fun t x hx=>?_,fun t x hx=>?_,hgh⟩ ?_ h1
  ·obtain ⟨h3,h4⟩:=hg.Gc t x hx
   exact ⟨h3,Am (fun i hi=>Nat.lt_succ_of_lt hi) h4⟩
  ·rw [hg.tmps t x hx,CF hβ x (hg.Gc t x hx).2]
  ·cases b<;>simp [GX,SV.on]
 | SC c i b=>
  rw [he] at h hsound
  obtain ⟨hc,s',h1,h2⟩:=h
  obtain ⟨w',hr,hgh⟩:=hsound hc
  refine N7 hr ?_
  have:=h2 D β (a.put o.dst undef) w' hβ0 (by
   have:=G.put (s:={ s with o:=pt s.o i b }) (x:=.v (.tuple #[])) ⟨hg.defers,hg.size,hg.Gc,hg.tmps,hgh⟩ trivial h1
   rw [Ey h1]
   simpa [SV.den,undef] using this)
  exact this
 | nm c o1 n' v=>
  rw [he] at h hsound
  obtain ⟨hc,s',h1,h2⟩:=h
  obtain ⟨β',w',hr,hnew,hon⟩:=hsound hc (fun j hj _ hj'=>by omega)
  have hlt: ∀ i,Go.En.more (· <s.n) s.n n' i->i<n':=fun i hi=>by
   have:=hnew.le
   rcases hi with hi|hi
   ·exact Nat.lt_of_lt_of_le hi this
   ·exact hi.2
  have hgh:=GH.mono (hg.gh.extend hnew) hlt
  refine An hr (h2 D β' _ w' (fun i hi=>by rw [<-hnew.agree i (Nat.lt_of_lt_of_le hi hbn)];exact hβ0 i hi) ?_)
  rw [Ey h1]
  refine G.put (s:={ s with o:=o1++s.o,n:=n' }) ⟨hg.defers,hg.size,fun t x hx=>?_,fun t x hx=>?_,hgh⟩ (Am hlt hon) h1
  ·obtain ⟨h3,h4⟩:=hg.Gc t x hx
   exact ⟨h3,Am (fun i hi=>Nat.lt_of_lt_of_le hi hnew.le) h4⟩
  ·rw [hg.tmps t x hx,CF hnew.agree x (hg.Gc t x hx).2]
 | x c o' n' v=>
  rw [he] at h hsound
  obtain ⟨hc,s',h1,h2⟩:=h
  obtain ⟨β',w',hr,hβ,hgh,hxn,hn⟩:=hsound hc rfl
  refine An hr (h2 D β' _ w' (fun i hi=>by rw [<-hβ i (Nat.lt_of_lt_of_le hi hbn)];exact hβ0 i hi) ?_)
  rw [Ey h1]
  refine G.put (s:={ s with o:=o',n:=n' }) ⟨hg.defers,hg.size,fun t x hx=>?_,fun t x hx=>?_,hgh⟩ hxn h1
  ·obtain ⟨h3,h4⟩:=hg.Gc t x hx
   exact ⟨h3,Am (fun i hi=>Nat.lt_of_lt_of_le hi hn) h4⟩
  ·rw [hg.tmps t x hx,CF hβ x (hg.Gc t x hx).2]
 | stop=>rw [he] at h;exact h.elim
theorem VC.call (hkp:BS S w0 F D0) {all:Array Oper} {o:Oper} {r:List Oper} {f:Nat} {args:List SV} {c:By S} {x:c.sp.D S} {ps:PS S} {y:c.rs.D S} (hw:Bd s all o=.yes) (hbn:bn<=s.n) (hcl:callee s o.op=some (f,args)) (hf:c.f=f) (hc:c.Holds P) (hp:c.sp.parse c.flat args s.o [] c.bn=some (x,ps)) (hy:c.out.gives x y)
  {rs':List SV} {o':List (Nat×Own S)} {n':Nat} (hm:hO ps.m c.bn s.n=true) (he:c.rs.enc y (HR c.bn c.rs)=(rs',o',n')) {s':St S} (hput:St.put { s with o:=Dl (Bh c.bn ps.m s.n) o'++ps.o,n:=s.n+(n' -c.bn) } o.dst (Az (CQ (Bh c.bn ps.m s.n) rs'))=some s')
  (h:VC Φ P Q w0 F D0 bn β0 M (.ops all r::k) s'):VC Φ P Q w0 F D0 bn β0 M (.ops all (o::r)::k) s:=by
 subst hf
 refine VC.QF hw fun D β a w hβ0 hg=>?_
 unfold Oper.wp
 rw [Gk hg hcl hc.Bq,Oper.upon_enter]
 refine (VN hg.gh hp hc.bound hc.flat hm (hc.calls x y hy) (hg.gh.inv hkp) he).mono fun e w' ⟨D',β',he',hβ,hgh,hon⟩=>?_
 subst he'
 refine h D' β' _ w' (fun i hi=>by rw [<-hβ i (Nat.lt_of_lt_of_le hi hbn)];exact hβ0 i hi) ?_
 rw [Ey hput]
 refine G.put (s:={ s with o:=Dl (Bh c.bn ps.m s.n) o'++ps.o,n:=s.n+(n' -c.bn) }) ⟨hg.defers,hg.size,fun t x hx=>?_,fun t x hx=>?_,hgh⟩ hon hput
 ·obtain ⟨h3,h4⟩:=hg.Gc t x hx
  exact ⟨h3,Am (fun i hi=>Nat.lt_of_lt_of_le hi (Nat.le_add_right _ _)) h4⟩
 ·rw [hg.tmps t x hx,CF hβ x (hg.Gc t x hx).2]
theorem No {tb:List (Nat×TI)} (htb:AU S P tb) (hg:G w0 F D0 D s N β a w): ∀ {rs:List ResultVar} {l:List SV},La tb s rs=some l->
  (rs.mapM fun|.tmp t=>pure (a.tmps.getD t undef)|.cell p t=>do loadVar t (<-asAddr (a.tmps.getD p undef)):Sem (List Value)).run P w=.ok (AA β l) w/\BR N l
 | [],l,h=>by simp only [La,Option.some.injEq] at h;subst h;simp [AA,BR]
 | .tmp t::r,l,h=>by
  simp only [La] at h
  split at h
  case h_2=>cases h
  rename_i x h1
  split at h
  case h_2=>cases h
  rename_i l' h2
  cases h
  obtain ⟨ih,ih2⟩:=No htb hg h2
  exact ⟨by simp only [List.mapM_cons,Sem.run_bind,Sem.run_pure,Result.andThen_ok,ih,hg.tmps t x h1,AA],(hg.Gc t x h1).2,ih2⟩
 | .cell p T::r,l,h=>by
  simp only [La] at h
  split at h
  case h_2=>cases h
  rename_i x h1
  split at h
  case h_2=>cases h
  rename_i l' h2
  cases h
  obtain ⟨ih,ih2⟩:=No htb hg h2
  have hs:=Gm (o:=⟨none,.load T (.tmp p),0,"",#[],none⟩) htb hg rfl
  rw [h1] at hs
  obtain ⟨h3,h4⟩:=hs trivial
  have hptr: ∃ ad,a.tmps.getD p undef=.pointer (some ad):=by
   unfold Iy at h1
   split at h1
   case h_2=>cases h1
   split at h1
   ·rename_i i off hx;exact ⟨_,by have:=hg.tmps p _ hx;simpa [SV.den] using this⟩
   ·rename_i i off hx
    split at h1
    case h_2=>cases h1
    rename_i cs hi
    obtain ⟨_,b,o0,hv,_⟩:=hg.gh.own i _ hi
    exact ⟨⟨b,o0+off,none⟩,by have:=hg.tmps p _ hx;simp only [SV.den,Nm.at,hv] at this;exact this⟩
   ·rename_i i n e off hx;exact ⟨_,by have:=hg.tmps p _ hx;simpa [SV.den] using this⟩
   ·rename_i i esz e off hx;exact ⟨_,by have:=hg.tmps p _ hx;simpa [SV.den] using this⟩
   ·rename_i i z e off y j q hx;exact ⟨_,by have:=hg.tmps p _ hx;simpa [SV.den] using this⟩
   ·cases h1
  obtain ⟨ad,hptr⟩:=hptr
  have h5:a.eval (.tmp p)=.pointer (some ad):=hptr
  simp only [execOp,Instr.loadAt,h5,Instr.sureAddr,Sem.run_bind,Sem.run_pure,Result.andThen_ok] at h3
  have h6:(loadVar T ad).run P w=.ok (x.den β) w:=by
   cases hr:(loadVar T ad).run P w with
   | ok y w'=>rw [hr] at h3;simp only [Result.andThen_ok,Result.ok.injEq,Next.value.injEq] at h3;rw [h3.1,h3.2]
   | halt y w'=>rw [hr] at h3;simp [Result.andThen] at h3
  refine ⟨?_,h4,ih2⟩
  have h7:(asAddr (a.tmps.getD p undef)).run P w=.ok ad w:=by rw [hptr];rfl
  simp only [List.mapM_cons,Sem.run_bind,Sem.run_pure,h7,Result.andThen_ok,h6,ih,AA]
theorem H0 {tb:List (Nat×TI)} (htb:AU S P tb) (hg:G w0 F D0 D s N β a w) {fn:Func} {l:List SV} (h:La tb s fn.results.toList=some l):(results fn a.tmps).run P w=.ok ((Az l).den β) w/\BR N l:=by
 obtain ⟨h1,hon⟩:=No htb hg h
 refine ⟨?_,hon⟩
 have h2:((fn.results.mapM fun|.tmp t=>pure (a.tmps.getD t undef)|.cell p t=>do loadVar t (<-asAddr (a.tmps.getD p undef))):Sem (Array Value)).run P w=.ok (AA β l).toArray w:=by
  rw [Array.mapM_eq_mapM_toList,Sem.run_map]
  erw [h1]
  rfl
 unfold results
 rw [Sem.run_bind]
 erw [h2]
 simp only [Result.andThen_ok,Sem.run_pure]
 congr 1
 cases l with
 | nil=>simp [Az,AA,SV.den]
 | cons x l=>cases l with
  | nil=>simp [Az,AA]
  | cons y l=>simp [Az,AA,SV.den]
theorem FG (hg:G w0 F D0 D s N β a w): ∀ {ts:List Nat} {vs:List SV},F4 s ts=some vs->vs.length=ts.length/\BR N vs/\ ∀ (j:Nat) t v,ts[j]?=some t->vs[j]?=some v->t<s.sz/\a.tmps.getD t undef=v.den β
 | [],vs,h=>by simp only [F4,Option.some.injEq] at h;subst h;exact ⟨rfl,trivial,fun j t v h=>by simp at h⟩
 | u::r,vs,h=>by
  simp only [F4] at h
  split at h
  case h_2=>cases h
  rename_i x h1
  split at h
  case h_2=>cases h
  rename_i l h2
  cases h
  obtain ⟨h3,h4,h5⟩:=FG hg h2
  obtain ⟨h6,h7⟩:=hg.Gc u x h1
  refine ⟨by simp [h3],⟨h7,h4⟩,fun j t v hj hv=>?_⟩
  cases j with
  | zero=>simp only [List.getElem?_cons_zero,Option.some.injEq] at hj hv;subst hj;subst hv;exact ⟨h6,hg.tmps _ x h1⟩
  | succ j=>simp only [List.getElem?_cons_succ] at hj hv;exact h5 j t v hj hv
theorem Gs: ∀ {ts:List Nat} {vs:List SV} {t:Nat} {v:SV},lk (ts.zip vs) t=some v-> ∃ j:Nat,ts[j]?=some t/\vs[j]?=some v
 | [],vs,t,v,h=>by simp [AS] at h
 | _::_,[],t,v,h=>by simp [AS] at h
 | u::r,x::l,t,v,h=>by
  simp only [List.zip_cons_cons,AI] at h
  split at h
  ·rename_i he;cases h;subst he;exact ⟨0,rfl,rfl⟩
  ·obtain ⟨j,h1,h2⟩:=Gs h;exact ⟨j+1,by simpa using h1,by simpa using h2⟩
theorem Gr {n i:Nat} (h:i<n):lk (Q3 n) i=some i:=by
 induction n with
 | zero=>omega
 | succ n ih=>
  simp only [Q3,AI]
  split
  ·rename_i he;rw [he]
  ·exact ih (by omega)
end
section
variable {S:Aq} {P:Program} {w0:World} {F D0:Nat->Prop} {β0:Nat->Nm} {M:Nat}
def Ic (P:Program) (Q:Exit->Act->World->Prop) (w0:World) (F D0:Nat->Prop) (β0:Nat->Nm) (M:Nat) (E:Env S) (q:Cut) (x:q.sp.D S):Prop:=
 ∀ k vs o n,Cb E.body q.key=some k->q.sp.enc x q.bn=(vs,o,n)->VC Fence.wide P Q w0 F D0 E.bn β0 M (k.map Be.it) ⟨q.ts.zip vs,o,n,E.sz⟩
def QY (w0:World) (F D0:Nat->Prop) (E:Env S) (β0:Nat->Nm) (R:Ending->World->Prop) (y:E.rs.D S):Prop:=
 ∀ D β w vs o n,E.rs.enc y (HR E.bn E.rs)=(vs,o,n)->(∀ i,i<E.bn->β i=β0 i)->GH w0 F D0 D o (· <n) β w->BR (· <n) vs->E.bn<=n->R (.returned ((Az vs).den β)) w
structure Env.Ok (P:Program) (E:Env S):Prop where
 tb:AU S P E.tb
 ct: ∀ c∈E.ct,c.Holds P
 rs:E.rs.okB (HR E.bn E.rs)=true
 K7:IE E.body E.dr=true
 mixed:P.follows .mixedOrders=true
 inl: ∀ f q,lk E.inl f=some q->Bq P f=true/\IE q.body q.dr=true/\ ∃ fn,P.funcs[f]?=some fn/\fn.body=some q.body/\fn.ntmps=q.sz/\fn.results.toList=q.res
 Cx: ∀ c q,lk E.Cx c=some q->q.sp.okB q.bn=true/\E.bn<=q.bn/\q.ts.length=q.sp.as.length/\ ∃ k,Cb E.body q.key=some k
theorem V4 {l m:List SV} {β β':Nat->Nm} (h:AA β l=AA β' m):(Az l).den β=(Az m).den β':=by
 have hl:=congrArg List.length h
 rw [AF,AF] at hl
 match l,m,hl with
 | [],[],_=>simp [Az,SV.den,AA]
 | [x],[y],_=>simpa [Az,AA] using h
 | x::x'::t,y::y'::u,_=>simp only [Az,SV.den,h]
theorem Yz {l:List SV} {N:Nat->Prop} (h:BR N l):(Az l).on N:=by
 match l,h with
 | [],_=>simp [Az,SV.on,BR]
 | [x],h=>exact h.1
 | x::y::t,h=>exact h
def Tt (c:List It):Prop:=c=[]\/ ∃ k,c=.code .ret::k
theorem VC.Uu {Φ:Fence} {P:Program} {Q:Exit->Act->World->Prop} {bn M:Nat} {β0:Nat->Nm} {s:St S} {c:List It} (hc:Tt c) (hn: ∀ a w,Q .ret a w->Q .normal a w) (h: ∀ D β a w,(∀ i,i<bn->β i=β0 i)->G w0 F D0 D s (· <s.n) β a w->Q .ret a w):VC Φ P Q w0 F D0 bn β0 M c s:=by
 rcases hc with rfl|⟨k,rfl⟩
 ·exact fun D β a w h1 h2=>hn a w (h D β a w h1 h2)
 ·exact VC.Uv h
theorem Ky {E:Env S} (hE:E.Ok P) {fn:Func} {R:Ending->World->Prop} (hres:fn.results.toList=E.res) {c:List It} (hce:Tt c) {s:St S} {Kc: ∀ c,E.ι c->Prop} {Kr:E.ρ->Prop} (hr: ∀ y,Kr y->QY w0 F D0 E β0 R y) (hbn:E.bn<=s.n) {L:List Nat} {fail:Tr E.ι E.ρ} (hf:fail.Holds Kc Kr->VC Fence.wide P (bodyPost P fn R) w0 F D0 E.bn β0 M c s) (h:(N4 E s L fail).Holds Kc Kr):
  VC Fence.wide P (bodyPost P fn R) w0 F D0 E.bn β0 M c s:=by
 unfold N4 at h
 split at h
 case h_2=>exact hf h
 rename_i vs hvs
 split at h
 case h_2=>exact hf h
 rename_i y ps hp
 have hy:=hr y h
 refine VC.Fc L hbn ?_
 refine VC.Uu hce (fun _ _ h=>h) fun D β a w hβ0 hg=>?_
 rw [<-hres] at hvs
 obtain ⟨h1,hon⟩:=H0 hE.tb hg hvs
 rcases he:E.rs.enc y (HR E.bn E.rs) with ⟨ws,o',n'⟩
 obtain ⟨β',hbox,hgh,hden,hon',hn',_,_,hmm,_⟩:=Spec.B5 hg.gh hp hE.rs he
 have:=hy _ β' w ws o' n' he (fun i hi=>by rw [hbox i (Nat.lt_of_lt_of_le hi (Ux _ _)) i (hmm i i (Gr hi))];exact hβ0 i hi) hgh hon' (Nat.le_trans (Ux _ _) hn')
 exact ⟨hg.defers,_,h1,by rw [V4 hden];exact this⟩
theorem R7 {E:Env S} (hE:E.Ok P) {fn:Func} {R:Ending->World->Prop} (hres:fn.results.toList=E.res) {c:List It} (hce:Tt c) {s:St S} {Kc: ∀ c,E.ι c->Prop} {Kr:E.ρ->Prop} (hr: ∀ y,Kr y->QY w0 F D0 E β0 R y) (hbn:E.bn<=s.n) (h:(R6 E s).Holds Kc Kr):
  VC Fence.wide P (bodyPost P fn R) w0 F D0 E.bn β0 M c s:=by
 unfold R6 at h
 split at h
 case h_2=>exact h.elim
 exact Ky hE hres hce hr hbn (Ky hE hres hce hr hbn (Ky hE hres hce hr hbn (by intro h;exact False.elim h))) h
theorem Kx {E:Env S} (hE:E.Ok P) {Q:Exit->Act->World->Prop} {c:Nat} {k:List Be} {s:St S} {Kc: ∀ c,E.ι c->Prop} {Kr:E.ρ->Prop} (hc: ∀ c q (h:lk E.Cx c=some q) (x:q.sp.D S),Kc c (DH E c q h x)->Ic P Q w0 F D0 β0 M E q x) (hbn:E.bn<=s.n) (hsz:s.sz=E.sz) (hk: ∀ x∈k,x.ok E.body) {L:List Nat} {fail:Tr E.ι E.ρ} (hf:fail.Holds Kc Kr->VC Fence.wide P Q w0 F D0 E.bn β0 M (k.map Be.it) s) (h:(N3 E c k s L fail).Holds Kc Kr):
  VC Fence.wide P Q w0 F D0 E.bn β0 M (k.map Be.it) s:=by
 unfold N3 at h
 split at h
 case h_2=>exact h.elim
 rename_i q hq
 split at h
 case h_2=>exact h.elim
 rename_i hkey
 split at h
 case h_2=>exact hf h
 rename_i vs hvs
 split at h
 case h_2=>exact hf h
 rename_i x ps hp
 have hx:=hc c q hq x h
 obtain ⟨h1,h2,h3,k',h4⟩:=hE.Cx c q hq
 have hkk:=Su hk hkey h4
 subst hkk
 rcases he:q.sp.enc x q.bn with ⟨ws,o',n'⟩
 have hv:=hx k ws o' n' h4 he
 refine VC.Fc L hbn ?_
 have hsz:=(IH L s).trans hsz
 intro D β a w hβ0 hg
 obtain ⟨β',hbox,hgh,hden,hon',hn',_,_,hmm,_⟩:=Spec.B5 hg.gh hp h1 he
 obtain ⟨t1,t2,t3⟩:=FG hg hvs
 have hlw:ws.length=vs.length:=by have:=congrArg List.length hden;rw [AF,AF] at this;exact this.symm
 refine hv _ β' a w (fun i hi=>by rw [hbox i (Nat.lt_of_lt_of_le hi h2) i (hmm i i (Gr hi))];exact hβ0 i hi) ⟨hg.defers,by rw [hg.size,hsz],fun t v ht=>?_,fun t v ht=>?_,hgh⟩
 ·obtain ⟨j,j1,j2⟩:=Gs ht
  have hj:j<vs.length:=by rw [<-hlw];exact (List.getElem?_eq_some_iff.1 j2).1
  have:=t3 j t _ j1 (List.getElem?_eq_getElem hj)
  exact ⟨by rw [<-hsz];exact this.1,Ay.1 hon' v (List.mem_of_getElem? j2)⟩
 ·obtain ⟨j,j1,j2⟩:=Gs ht
  have hj:j<vs.length:=by rw [<-hlw];exact (List.getElem?_eq_some_iff.1 j2).1
  have h5:=(t3 j t _ j1 (List.getElem?_eq_getElem hj)).2
  rw [h5]
  have h6:=congrArg (fun l:List Value=>l[j]?) hden
  simp only [B1,List.getElem?_eq_getElem hj,j2,Option.map_some,Option.some.injEq] at h6
  exact h6
theorem O2 {E:Env S} (hE:E.Ok P) {Q:Exit->Act->World->Prop} {c:Nat} {k:List Be} {s:St S} {Kc: ∀ c,E.ι c->Prop} {Kr:E.ρ->Prop} (hc: ∀ c q (h:lk E.Cx c=some q) (x:q.sp.D S),Kc c (DH E c q h x)->Ic P Q w0 F D0 β0 M E q x) (hbn:E.bn<=s.n) (hsz:s.sz=E.sz) (hk: ∀ x∈k,x.ok E.body) (h:(QS E c k s).Holds Kc Kr):
  VC Fence.wide P Q w0 F D0 E.bn β0 M (k.map Be.it) s:=by
 unfold QS at h
 split at h
 case h_2=>exact h.elim
 split at h
 case h_2=>exact h.elim
 exact Kx hE hc hbn hsz hk (Kx hE hc hbn hsz hk (Kx hE hc hbn hsz hk (by intro h;exact False.elim h))) h
theorem ZV {E:Env S} (hE:E.Ok P) {Q:Exit->Act->World->Prop} {c:Nat} {k:List Be} {s:St S} {Kc: ∀ c,E.ι c->Prop} {Kr:E.ρ->Prop} (hc: ∀ c q (h:lk E.Cx c=some q) (x:q.sp.D S),Kc c (DH E c q h x)->Ic P Q w0 F D0 β0 M E q x) (hbn:E.bn<=s.n) (hsz:s.sz=E.sz) (hk: ∀ x∈k,x.ok E.body) (h:(R5 E c k s).Holds Kc Kr):
  VC Fence.wide P Q w0 F D0 E.bn β0 M (k.map Be.it) s:=by
 unfold R5 at h
 split at h
 case h_2=>exact h.elim
 split at h
 ·exact O2 hE hc hbn hsz hk h
 ·exact O2 hE hc hbn hsz hk h
theorem Qk {ι:Nat->Type} {ρ:Type} {s:St S} {c:By S} {ps:PS S} {dst:Option Tmp} {y:c.rs.D S} {k:St S->Tr ι ρ} {w:Nat} {Kc: ∀ c,ι c->Prop} {Kr:ρ->Prop} (h:(OY s c ps dst y k (.stuck w)).Holds Kc Kr):
  hO ps.m c.bn s.n=true/\ ∃ rs' o' n' s',c.rs.enc y (HR c.bn c.rs)=(rs',o',n')/\St.put { s with o:=Dl (Bh c.bn ps.m s.n) o'++ps.o,n:=s.n+(n' -c.bn) } dst (Az (CQ (Bh c.bn ps.m s.n) rs'))=some s'/\(k s').Holds Kc Kr:=by
 unfold OY at h
 split at h
 case h_2=>exact h.elim
 rename_i hm
 refine ⟨hm,?_⟩
 split at h
 rename_i rs' o' n' he
 split at h
 case h_2=>exact h.elim
 rename_i s' hs
 rw [St.Fj] at h
 exact ⟨rs',o',n',s',he,hs,h⟩
theorem Hy {s s':St S} {d:Option Tmp} {x:SV} (h:s.put d x=some s'):s'.sz=s.sz:=by
 cases d with
 | none=>cases h;rfl
 | some d=>rw [St.FW] at h;split at h<;>cases h;rfl
theorem QJ {fn:Func} {R:Ending->World->Prop}: ∀ c a d v w,bodyPost P fn R (.panic c) (a.put d v) w->bodyPost P fn R (.panic c) a w:=fun c a d v w h=>by
 cases d<;>exact h
theorem Dg {x:SV}: ∀ {l:List SV} {i t:Nat},lk (Bj i l) t=some x->i<=t/\l[t -i]?=some x
 | [],_,_,h=>by simp [Bj,AS] at h
 | y::r,i,t,h=>by
  simp only [Bj,AI] at h
  split at h
  ·rename_i he;subst he;cases h;simp
  ·obtain ⟨h1,h2⟩:=Dg h
   have h3:t -i=(t -(i+1))+1:=by omega
   exact ⟨by omega,by rw [h3];simpa using h2⟩
theorem VC.enter {f:FuncId} {fn:Func} {c:Code} {args:List SV} {w:World} {R:Ending->World->Prop} {o:List (Nat×Own S)} {n m bn:Nat} {D:Nat->Prop} {β:Nat->Nm} (hf:P.funcs[f]?=some fn) (hb:fn.body=some c) (hn:fn.ntmps=m) (hN:args.length<=m) (hargs:BR (· <n) args)
  {w0:World} (hgh:GH w0 F D0 D o (· <n) β w) (h:VC Fence.wide P (bodyPost P fn R) w0 F D0 bn β M [.code c] ⟨Bj 0 args,o,n,m⟩):Calls P f (AA β args).toArray w R:=by
 refine calls_of_wp hf hb ((wpIn_wide (n:=0)).1 ?_)
 have:=h D β { tmps:=(AA β args).toArray++Array.replicate (fn.ntmps -(AA β args).toArray.size) undef,defers:=[] } w (fun _ _=>rfl) ⟨rfl,?_,fun t x hx=>?_,fun t x hx=>?_,hgh⟩
 ·simpa only [after] using this
 ·simp [AF,hn];omega
 ·obtain ⟨_,h2⟩:=Dg hx
  have hlt:t -0<args.length:=(List.getElem?_eq_some_iff.1 h2).1
  exact ⟨by simp only;omega,Ay.1 hargs x (List.mem_of_getElem? h2)⟩
 ·obtain ⟨_,h2⟩:=Dg hx
  have hlt:t -0<args.length:=(List.getElem?_eq_some_iff.1 h2).1
  simp only [Nat.sub_zero] at h2 hlt
  have h3:(AA β args)[t]?=some (x.den β):=by rw [B1,h2];rfl
  rw [Array.getD_eq_getD_getElem?,Array.getElem?_append_left (by simpa [AF] using hlt)]
  simp [h3]
theorem VP {s:St S} {D:Nat->Prop} {N:Nat->Prop} {β:Nat->Nm} {a:Act} {w:World} (hg:G w0 F D0 D s N β a w) {op:Op} {f:Nat} {args:List SV} (h:callee s op=some (f,args)):BR N args:=by
 have on_map: ∀ l:List Value,BR N (l.map SV.v):=fun l=>Ay.2 fun x hx=>by obtain ⟨v,_,rfl⟩:=List.mem_map.1 hx;trivial
 unfold callee at h
 split at h
 case h_2=>cases h
 split at h
 ·rename_i f' caps h1
  split at h
  case h_2=>cases h
  rename_i l h2
  split at h
  ·simp only [Option.some.injEq,Prod.mk.injEq] at h
   obtain ⟨rfl,rfl⟩:=h
   exact EZ (CA hg h1) (Dp hg h2).2
  ·simp only [Option.some.injEq,Prod.mk.injEq] at h
   obtain ⟨rfl,rfl⟩:=h
   exact EZ (Dp hg h2).2 (CA hg h1)
 ·rename_i f' caps h1
  split at h
  case h_2=>cases h
  rename_i l h2
  simp only [Option.some.injEq,Prod.mk.injEq] at h
  obtain ⟨rfl,rfl⟩:=h
  exact EZ (Dp hg h2).2 (on_map _)
 ·cases h
structure iG (Φ:Fence) (P:Program) (Q:Exit->Act->World->Prop) (w0:World) (F D0:Nat->Prop) (bn:Nat) (β0:Nat->Nm) (M:Nat) (body:Code) (sz:Nat) {ι:Nat->Type} {ρ:Type} (Kc: ∀ c,ι c->Prop) (Kr:ρ->Prop) (fr:Fr) (oc:Nat->List Be->St S->Tr ι ρ) (or':Bool->St S->Tr ι ρ):Prop where
 kp:BS S w0 F D0
 nr: ∀ c a d v w,Q (.panic c) (a.put d v) w->Q (.panic c) a w
 dr:IE body fr.dr=true
 calm: ∀ a id ops d,HJ body a=some (.region id ops d)->Calm Φ Q ops
 cut: ∀ c k (s:St S),bn<=s.n->s.sz=sz->(∀ x∈k,x.ok body)->(oc c k s).Holds Kc Kr->VC Φ P Q w0 F D0 bn β0 M (k.map Be.it) s
 fin: ∀ M (s:St S),bn<=s.n->s.sz=sz->(or' false s).Holds Kc Kr->VC Φ P Q w0 F D0 bn β0 M [] s
 ret: ∀ M k (s:St S),bn<=s.n->s.sz=sz->(or' true s).Holds Kc Kr->VC Φ P Q w0 F D0 bn β0 M (.code .ret::k) s
theorem AQ {E:Env S} (hE:E.Ok P) {ι:Nat->Type} {ρ:Type} {Kc: ∀ c,ι c->Prop} {Kr:ρ->Prop}: ∀ (n:Nat) {fr:Fr} {oc:Nat->List Be->St S->Tr ι ρ} {or':Bool->St S->Tr ι ρ} {Q:Exit->Act->World->Prop} {w0:World} {F D0:Nat->Prop} {bn:Nat} {β0:Nat->Nm} {M:Nat} {body:Code} {sz:Nat} {Φ:Fence} (_:iG Φ P Q w0 F D0 bn β0 M body sz Kc Kr fr oc or')
  (go:Bool) (k:List Be) (s:St S),bn<=s.n->s.sz=sz->(∀ x∈k,x.ok body)->(exec E n fr oc or' go k s).Holds Kc Kr->VC Φ P Q w0 F D0 bn β0 (M+n) (k.map Be.it) s
 | 0,fr,oc,or',Q,w0,F,D0,bn,β0,M,body,sz,Φ,hf0,_,_,_,_,_,_,h=>h.elim
 | n+1,fr,oc,or',Q,w0,F,D0,bn,β0,M,body,sz,Φ,hf0,_,[],s,hbn,hsz,_,h=>by
  simp only [exec] at h
  exact hf0.fin _ s hbn hsz h
 | n+1,fr,oc,or',Q,w0,F,D0,bn,β0,M,body,sz,Φ,hf0,go,.ops all []::k,s,hbn,hsz,hk,h=>by
  simp only [exec] at h
  exact VC.more (Nat.le_succ _) (VC.Ul (AQ hE n hf0 go k s hbn hsz (fun x hx=>hk x (by simp [hx])) h))
 | n+1,fr,oc,or',Q,w0,F,D0,bn,β0,M,body,sz,Φ,hf0,go,.ops all (o::r)::k,s,hbn,hsz,hk,h=>by
  have ih: ∀ (r:List Oper) (s':St S),bn<=s'.n->s'.sz=sz->(exec E n fr oc or' go (.ops all r::k) s').Holds Kc Kr->VC Φ P (Q) w0 F D0 bn β0 (M+n) (.ops all r::k.map Be.it) s':=fun r s' h1 h2 h3=>
   AQ hE n hf0 go (.ops all r::k) s' h1 h2 (fun x hx=>by
    rcases List.mem_cons.1 hx with rfl|hx
    ·trivial
    ·exact hk x (by simp [hx])) h3
  refine VC.more (Nat.le_succ _) ?_
  simp only [exec] at h
  simp only [List.map_cons,Be.it]
  cases hw:Bd s all o with
  | gk=>rw [hw] at h;exact h.elim
  | split d c=>
   rw [hw] at h
   intro D β a w hβ0 hg
   exact VC.VB (Af hg hw) (fun hb=>ih _ _ hbn hsz (h.1 hb)) (fun hb=>ih _ _ hbn hsz (h.2 hb)) D β a w hβ0 hg
  | no=>
   rw [hw] at h
   simp only at h
   split at h
   case h_2=>exact h.elim
   rename_i s' hs
   exact VC.af hw hs (ih _ _ (by rw [Ey hs];exact hbn) (by rw [Hy hs];exact hsz) h)
  | yes=>
   rw [hw] at h
   simp only at h
   split at h
   ·rename_i f args hcl
    split at h
    ·rename_i q hq
     split at h
     case h_2=>exact h.elim
     rename_i hlen
     obtain ⟨hbod,hdr,fn,hf,hb,hn,hres⟩:=hE.inl f q hq
     refine VC.QF hw fun D β a w hβ0 hg=>?_
     unfold Oper.wp
     rw [Gk hg hcl hbod,Oper.upon_enter]
     refine VC.enter (M:=0+n) (bn:=s.n) hf hb hn (Nat.le_of_ble_eq_true hlen) (VP hg hcl) hg.gh ?_
     have hend: ∀ (M':Nat) (c':List It) (_:Tt c') (s':St S),s.n<=s'.n->(match La E.tb s' q.res with
      | some vs=>match St.put { s with o:=s'.o,n:=s'.n } o.dst (Az vs) with
       | some s''=>exec E n fr oc or' go (.ops all r::k) s''
       | none=>.stuck 51
      | none=>.stuck 52:Tr ι ρ).Holds Kc Kr->VC Fence.wide P (bodyPost P fn fun e w''=>match e with
       | .returned v=>after Φ P (M+n) (.ops all r::k.map Be.it) Q .normal (a.put o.dst v) w''
       | .panicked chain=>after Φ P (M+n) (k.map Be.it) Q (.panic chain) a w''
       | .outgrown=>LetsOut (after Φ P (M+n) (k.map Be.it) Q)) w0 F D0 s.n β M' c' s':=fun M' c' hce s' hn' h=>by
      split at h
      case h_2=>exact h.elim
      rename_i vs hvs
      split at h
      case h_2=>exact h.elim
      rename_i s2 hs2
      have e1:=Ey hs2
      have e2:=Hy hs2
      simp only at e1 e2
      refine VC.Uu hce (fun _ _ h=>h) fun D' β' a' w' hβ' hg'=>?_
      rw [<-hres] at hvs
      obtain ⟨h1,hon⟩:=H0 hE.tb hg' hvs
      refine ⟨hg'.defers,_,h1,?_⟩
      have hv:=ih r s2 (by omega) (by rw [e2];exact hsz) h
      refine hv D' β' _ w' (fun i hi=>by rw [hβ' i (Nat.lt_of_lt_of_le hi hbn)];exact hβ0 i hi) ?_
      rw [e1]
      refine G.put (s:={ s with o:=s'.o,n:=s'.n }) ⟨hg.defers,hg.size,fun t x hx=>?_,fun t x hx=>?_,hg'.gh⟩ (Yz hon) hs2
      ·obtain ⟨h3,h4⟩:=hg.Gc t x hx
       exact ⟨h3,Am (fun i hi=>Nat.lt_of_lt_of_le hi hn') h4⟩
      ·rw [hg.tmps t x hx,CF (fun i hi=>(hβ' i hi).symm) x (hg.Gc t x hx).2]
     refine AQ hE n (Kc:=Kc) (Kr:=Kr) (fr:=⟨false,q.dr⟩) (oc:=fun _ _ _=>.stuck 50) ⟨hf0.kp,QJ,hdr,fun _ _ _ _ _=>.inl rfl,fun _ _ _ _ _ _ h=>False.elim h,fun M' s' hn' hz' h=>hend M' [] (.inl rfl) s' hn' h,fun M' k' s' hn' hz' h=>hend M' _ (.inr ⟨_,rfl⟩) s' hn' h⟩ false [.code [] q.body] ⟨Bj 0 args,s.o,s.n,q.sz⟩ (Nat.le_refl _) rfl (fun z hz=>by
      simp only [List.mem_cons,List.not_mem_nil,or_false] at hz
      subst hz
      rfl) h
    rcases Ek h with ⟨c,hcm,x,ps,hf,hp,h⟩|h
    case inr=>
     split at h
     ·exact h.elim
     ·rename_i l _
      exact VC.Fc (Tn args) hbn (ih (o::r) _ (Nat.le_trans hbn (Mt _ s)) (by rw [IH];exact hsz) h)
    have hch:=hE.ct c hcm
    have fin: ∀ y,c.out.gives x y->(OY s c ps o.dst y (fun s'=>exec E n fr oc or' go (.ops all r::k) s') (.stuck 8)).Holds Kc Kr->VC Φ P (Q) w0 F D0 bn β0 (M+n) (.ops all (o::r)::k.map Be.it) s:=fun y hy h=>by
     obtain ⟨hm,rs',o',n',s',he,hput,h⟩:=Qk h
     have h1:=Ey hput
     have h2:=Hy hput
     simp only at h1 h2
     exact VC.call hf0.kp hw hbn hcl hf hch hp hy hm he hput (ih _ _ (by omega) (by rw [h2];exact hsz) h)
    split at h
    ·rename_i g hout;exact fin _ (by rw [hout];rfl) h
    ·rename_i p g hout;exact fin _ (by rw [hout];exact ⟨h.1,rfl⟩) h.2
    ·rename_i m hout
     obtain ⟨y,h1,h2⟩:=h
     exact fin y (by rw [hout];exact h1) h2
   ·by_cases hrt: ∃ b j l,evalOp E.tb s o.op=.new b/\Y4 E.tb b=j::l
    ·obtain ⟨b,j,l,he,hl⟩:=hrt
     rw [he] at h
     simp only [hl] at h
     exact VC.Fc (j::l) hbn (ih (o::r) _ (Nat.le_trans hbn (Mt _ s)) (by rw [IH];exact hsz) h)
    by_cases hst: ∃ j l,evalOp E.tb s o.op=.stop/\lC s o.op=j::l
    ·obtain ⟨j,l,he,hl⟩:=hst
     rw [he] at h
     simp only [hl] at h
     exact VC.Fc (j::l) hbn (ih (o::r) _ (Nat.le_trans hbn (Mt _ s)) (by rw [IH];exact hsz) h)
    intro D β a w hβ0 hg
    have hsnd:=BZ hE.tb hg o
    refine VC.Ui hE.tb hw hbn ?_ D β a w hβ0 hg
    split at h
    ·rename_i c x he
     rw [he]
     split at h
     case h_2=>exact h.elim
     rename_i s' hs
     obtain ⟨h1,h2⟩:=B0 h
     exact ⟨h1,s',hs,ih _ _ (by rw [Ey hs];exact hbn) (by rw [Hy hs];exact hsz) h2⟩
    ·rename_i b he
     rw [he]
     split at h
     case h_2=>rename_i j l hl;exact absurd ⟨b,j,l,he,hl⟩ hrt
     split at h
     case h_2=>exact h.elim
     rename_i s' hs
     have h1:=Ey hs
     have h2:=Hy hs
     simp only at h1 h2
     exact ⟨s',hs,ih _ _ (by omega) (by rw [h2];exact hsz) h⟩
    ·rename_i c i b he
     rw [he]
     split at h
     case h_2=>exact h.elim
     rename_i s' hs
     obtain ⟨h1,h2⟩:=B0 h
     have h3:=Ey hs
     have h4:=Hy hs
     simp only at h3 h4
     exact ⟨h1,s',hs,ih _ _ (by omega) (by rw [h4];exact hsz) h2⟩
    ·rename_i c o1 n' v he
     rw [he]
     split at h
     case h_2=>exact h.elim
     rename_i s' hs
     obtain ⟨h1,h2⟩:=B0 h
     have h3:=Ey hs
     have h4:=Hy hs
     simp only at h3 h4
     rw [he] at hsnd
     obtain ⟨_,_,_,h5,_⟩:=hsnd h1 (fun j hj _ hj'=>by omega)
     have:=h5.le
     exact ⟨h1,s',hs,ih _ _ (by omega) (by rw [h4];exact hsz) h2⟩
    ·rename_i c o' n' v he
     rw [he]
     split at h
     case h_2=>exact h.elim
     rename_i s' hs
     obtain ⟨h1,h2⟩:=B0 h
     have h3:=Ey hs
     have h4:=Hy hs
     simp only at h3 h4
     rw [he] at hsnd
     obtain ⟨_,_,_,_,_,_,h5⟩:=hsnd h1 rfl
     exact ⟨h1,s',hs,ih _ _ (by omega) (by rw [h4];exact hsz) h2⟩
    ·rename_i he
     split at h
     ·exact h.elim
     ·rename_i j l hl;exact absurd ⟨j,l,he,hl⟩ hst
 | n+1,fr,oc,or',Q,w0,F,D0,bn,β0,M,body,sz,Φ,hf0,go,.AN id::k,s,hbn,hsz,hk,h=>by
  simp only [exec] at h
  exact VC.more (Nat.le_succ _) (VC.AN (AQ hE n hf0 go k s hbn hsz (fun x hx=>hk x (by simp [hx])) h))
 | n+1,fr,oc,or',Q,w0,F,D0,bn,β0,M,body,sz,Φ,hf0,go,.sc a c::k,s,hbn,hsz,hk,h=>by
  simp only [exec] at h
  exact VC.more (Nat.le_succ _) (VC.sc (AQ hE n hf0 go k s hbn hsz (fun x hx=>hk x (by simp [hx])) h))
 | n+1,fr,oc,or',Q,w0,F,D0,bn,β0,M,body,sz,Φ,hf0,go,.again a c::k,s,hbn,hsz,hk,h=>by
  simp only [exec] at h
  exact VC.again (AQ hE n hf0 go (.code a c::.again a c::k) s hbn hsz (fun x hx=>by
   rcases List.mem_cons.1 hx with rfl|hx
   ·exact hk (.again a c) (by simp)
   ·exact hk x hx) h)
 | n+1,fr,oc,or',Q,w0,F,D0,bn,β0,M,body,sz,Φ,hf0,go,.code a (.seq x y)::k,s,hbn,hsz,hk,h=>by
  simp only [exec] at h
  have ha:HJ body a=some (.seq x y):=hk (.code a (.seq x y)) (by simp)
  exact VC.more (Nat.le_succ _) (VC.seq (AQ hE n hf0 go (.code (0::a) x::.code (1::a) y::k) s hbn hsz (fun z hz=>by
   simp only [List.mem_cons] at hz
   rcases hz with rfl|rfl|hz
   ·simp [Be.ok,HJ,ha,HG]
   ·simp [Be.ok,HJ,ha,HG]
   ·exact hk z (by simp [hz])) h))
 | n+1,fr,oc,or',Q,w0,F,D0,bn,β0,M,body,sz,Φ,hf0,go,.code a .skip::k,s,hbn,hsz,hk,h=>by
  simp only [exec] at h
  exact VC.more (Nat.le_succ _) (VC.skip (AQ hE n hf0 go k s hbn hsz (fun x hx=>hk x (by simp [hx])) h))
 | n+1,fr,oc,or',Q,w0,F,D0,bn,β0,M,body,sz,Φ,hf0,go,.code a (.label l)::k,s,hbn,hsz,hk,h=>by
  simp only [exec] at h
  exact VC.more (Nat.le_succ _) (VC.label (AQ hE n hf0 go k s hbn hsz (fun x hx=>hk x (by simp [hx])) h))
 | n+1,fr,oc,or',Q,w0,F,D0,bn,β0,M,body,sz,Φ,hf0,go,.code a (.block id x)::k,s,hbn,hsz,hk,h=>by
  simp only [exec] at h
  have ha:HJ body a=some (.block id x):=hk (.code a (.block id x)) (by simp)
  exact VC.more (Nat.le_succ _) (VC.block (AQ hE n hf0 go (.code (0::a) x::.AN id::k) s hbn hsz (fun z hz=>by
   simp only [List.mem_cons] at hz
   rcases hz with rfl|rfl|hz
   ·simp [Be.ok,HJ,ha,HG]
   ·trivial
   ·exact hk z (by simp [hz])) h))
 | n+1,fr,oc,or',Q,w0,F,D0,bn,β0,M,body,sz,Φ,hf0,go,.code a (.scope x)::k,s,hbn,hsz,hk,h=>by
  simp only [exec] at h
  have ha:HJ body a=some (.scope x):=hk (.code a (.scope x)) (by simp)
  exact VC.more (Nat.le_succ _) (VC.scope (AQ hE n hf0 go (.code (0::a) x::.sc (0::a) x::k) s hbn hsz (fun z hz=>by
   simp only [List.mem_cons] at hz
   rcases hz with rfl|rfl|hz
   ·simp [Be.ok,HJ,ha,HG]
   ·simp [Be.ok,HJ,ha,HG]
   ·exact hk z (by simp [hz])) h))
 | n+1,fr,oc,or',Q,w0,F,D0,bn,β0,M,body,sz,Φ,hf0,go,.code a (.loop x)::k,s,hbn,hsz,hk,h=>by
  simp only [exec] at h
  have ha:HJ body a=some (.loop x):=hk (.code a (.loop x)) (by simp)
  exact VC.more (Nat.le_succ _) (VC.loop (AQ hE n hf0 go (.again (0::a) x::k) s hbn hsz (fun z hz=>by
   simp only [List.mem_cons] at hz
   rcases hz with rfl|hz
   ·simp [Be.ok,HJ,ha,HG]
   ·exact hk z (by simp [hz])) h))
 | n+1,fr,oc,or',Q,w0,F,D0,bn,β0,M,body,sz,Φ,hf0,go,.code a (.region id ops d)::k,s,hbn,hsz,hk,h=>by
  simp only [exec] at h
  split at h
  ·exact VC.more (Nat.le_add_right _ _) (hf0.cut _ _ _ hbn hsz hk h)
  ·split at h
   ·exact VC.more (Nat.le_add_right _ _) (hf0.cut _ _ _ hbn hsz hk h)
   split at h
   ·exact VC.more (Nat.le_succ _) (VC.region (hf0.calm a id ops false (hk (.code a (.region id ops false)) (by simp))) (AQ hE n hf0 false (.ops ops ops.toList::k) s hbn hsz (fun z hz=>by
     simp only [List.mem_cons] at hz
     rcases hz with rfl|hz
     ·trivial
     ·exact hk z (by simp [hz])) h))
   ·split at h
    case h_2=>exact h.elim
    rename_i q hq
    have ha:HJ body a=some (.region id ops true):=hk (.code a (.region id ops true)) (by simp)
    have hck:=Sp hf0.dr ha hq
    refine VC.more (Nat.le_succ _) ?_
    have main: ∀ (fl:Bool) (hid:List Nat) (s:St S),bn<=s.n->s.sz=sz->(CU fl hid E.tb E.ct s ops q.ms (fun rs=>(behind s rs).fc fun s1=>exec E n fr oc or' false (.ops ops (LJ ops (Ft q.H9))::k) s1) q.pre []).Holds Kc Kr->VC Φ P Q w0 F D0 bn β0 (M+n) (.code (.region id ops true)::k.map Be.it) s:=fun fl hid s hbn hsz h=>by
     refine K6 (w0:=w0) (F:=F) (D0:=D0) (pre:=q.pre) hf0.kp hE.tb hE.ct (fun rs hkey hgood h=>?_) q.pre [] (by simp) ⟨fun _ h=>by simp at h,trivial,fun p r q h=>by simp at h⟩ h
     have hch:=VQ hck hkey hgood.ops
     rw [St.Fj] at h
     refine VC.draw hE.mixed (hf0.calm a id ops true ha) hbn hch hgood.chain hgood.jf hf0.nr ?_
     rw [Ra]
     exact AQ hE n hf0 false (.ops ops (LJ ops (Ft q.H9))::k) (behind s rs) (Nat.le_trans hbn hgood.chain.le) hsz (fun z hz=>by
      simp only [List.mem_cons] at hz
      rcases hz with rfl|hz
      ·trivial
      ·exact hk z (by simp [hz])) h
    split at h
    ·exact main _ _ s hbn hsz h
    ·exact VC.Fc (bT E.tb s q) hbn (main _ _ _ (Nat.le_trans hbn (Mt _ s)) (by rw [IH];exact hsz) h)
 | n+1,fr,oc,or',Q,w0,F,D0,bn,β0,M,body,sz,Φ,hf0,go,.code a (.exit id)::k,s,hbn,hsz,hk,h=>by
  simp only [exec] at h
  split at h
  case h_2=>exact h.elim
  rename_i k' he
  obtain ⟨h1,h2⟩:=GL (fun x hx=>hk x (by simp [hx])) he
  exact VC.more (Nat.le_succ _) (VC.exit h1 (AQ hE n hf0 go k' s hbn hsz h2 h))
 | n+1,fr,oc,or',Q,w0,F,D0,bn,β0,M,body,sz,Φ,hf0,go,.code a (.goto l)::k,s,hbn,hsz,hk,h=>by
  simp only [exec] at h
  split at h
  case h_2=>exact h.elim
  rename_i k' he
  obtain ⟨h1,h2⟩:=GN (fun x hx=>hk x (by simp [hx])) he
  exact VC.goto h1 (AQ hE n hf0 go k' s hbn hsz h2 h)
 | n+1,fr,oc,or',Q,w0,F,D0,bn,β0,M,body,sz,Φ,hf0,go,.code a (.cond x t e)::k,s,hbn,hsz,hk,h=>by
  simp only [exec] at h
  have ha:HJ body a=some (.cond x t e):=hk (.code a (.cond x t e)) (by simp)
  have ht: ∀ {c},(exec E n fr oc or' go (.code (0::a) t::k) s).Holds Kc Kr->c->VC Φ P (Q) w0 F D0 bn β0 (M+n) (.code t::k.map Be.it) s:=fun h _=>AQ hE n hf0 go (.code (0::a) t::k) s hbn hsz (fun z hz=>by
   simp only [List.mem_cons] at hz
   rcases hz with rfl|hz
   ·simp [Be.ok,HJ,ha,HG]
   ·exact hk z (by simp [hz])) h
  have hf: ∀ {c},(exec E n fr oc or' go (.code (1::a) e::k) s).Holds Kc Kr->c->VC Φ P (Q) w0 F D0 bn β0 (M+n) (.code e::k.map Be.it) s:=fun h _=>AQ hE n hf0 go (.code (1::a) e::k) s hbn hsz (fun z hz=>by
   simp only [List.mem_cons] at hz
   rcases hz with rfl|hz
   ·simp [Be.ok,HJ,ha,HG]
   ·exact hk z (by simp [hz])) h
  refine VC.more (Nat.le_succ _) ?_
  split at h
  ·rename_i hv;exact VC.cond (b:=true) hv (fun _=>rfl) (ht h) (fun hb=>by cases hb)
  ·rename_i hv;exact VC.cond (b:=false) hv (fun _=>rfl) (fun hb=>by cases hb) (hf h)
  ·rename_i c hv;exact VC.cond (b:=c) hv (fun _=>rfl) (fun hb=>ht (h.1 hb) hb) (fun hb=>hf (h.2 hb) hb)
  ·exact h.elim
 | n+1,fr,oc,or',Q,w0,F,D0,bn,β0,M,body,sz,Φ,hf0,go,.code a .ret::k,s,hbn,hsz,hk,h=>by
  simp only [exec] at h
  exact hf0.ret _ _ _ hbn hsz h
 | n+1,fr,oc,or',Q,w0,F,D0,bn,β0,M,body,sz,Φ,hf0,go,.code a (.rangeFunc _ _ _ _)::k,s,hbn,hsz,hk,h=>by
  simp only [exec] at h
  exact VC.more (Nat.le_add_right _ _) (hf0.cut _ _ _ hbn hsz hk h)
 | n+1,fr,oc,or',Q,w0,F,D0,bn,β0,M,body,sz,Φ,hf0,go,.code a (.refuse _)::k,s,hbn,hsz,hk,h=>by simp only [exec] at h;exact h.elim
theorem Z5 {E:Env S} (hkp:BS S w0 F D0) (hE:E.Ok P) {fn:Func} {R:Ending->World->Prop} (hres:fn.results.toList=E.res) {Kc: ∀ c,E.ι c->Prop} {Kr:E.ρ->Prop} (hr: ∀ y,Kr y->QY w0 F D0 E β0 R y) (hc: ∀ c q (h:lk E.Cx c=some q) (x:q.sp.D S),Kc c (DH E c q h x)->Ic P (bodyPost P fn R) w0 F D0 β0 M E q x):
  iG Fence.wide P (bodyPost P fn R) w0 F D0 E.bn β0 M E.body E.sz Kc Kr ⟨true,E.dr⟩ (R5 E) (fun _=>R6 E):=
 ⟨hkp,QJ,hE.K7,fun _ _ _ _ _=>.inl rfl,fun _ _ _ hbn hsz hk h=>ZV hE hc hbn hsz hk h,fun _ _ hbn _ h=>R7 hE hres (.inl rfl) hr hbn h,fun _ _ _ hbn _ h=>R7 hE hres (.inr ⟨_,rfl⟩) hr hbn h⟩
theorem Qo: ∀ {bs:List Gh} {x:BT S bs} {n:Nat} {oc:List (Nat×Own S)} {oc':List (Nat×Own S)} {n':Nat},Ec bs x n oc=(oc',n')->n<=n'
 | [],x,n,oc,oc',n',h=>by simp only [Ec,Prod.mk.injEq] at h;rw [h.2];exact Nat.le_refl _
 | b::r,x,n,oc,oc',n',h=>by
  simp only [Ec] at h
  rcases hE:Fz b x.1 n oc with ⟨o1,n1⟩
  rw [hE] at h
  exact Nat.le_trans (OZ hE).2 (Qo h)
theorem Spec.PF {q:Spec} {x:q.D S} {n:Nat} {vs:List SV} {o':List (Nat×Own S)} {n':Nat} (h:q.enc x n=(vs,o',n')):n<=n':=by
 unfold Spec.enc at h
 rcases hE:B9 q.as x.1 n [] with ⟨a,o1,n1⟩
 rw [hE] at h
 simp only at h
 rcases hE2:Ec q.bx x.2 n1 o1 with ⟨o2,n2⟩
 rw [hE2] at h
 simp only [Prod.mk.injEq] at h
 obtain ⟨_,_,rfl⟩:=h
 exact Nat.le_trans (Mb hE).2 (Qo hE2)
theorem JW: ∀ {qs:List Cr} {x:PT S qs} {n:Nat} {oc:List (Nat×Own S)} {cs:List SV} {oc':List (Nat×Own S)} {n':Nat},B9 qs x n oc=(cs,oc',n')->cs.length=qs.length
 | [],x,n,oc,cs,oc',n',h=>by simp only [B9,Prod.mk.injEq] at h;obtain ⟨rfl,_⟩:=h;rfl
 | p::r,x,n,oc,cs,oc',n',h=>by
  simp only [B9] at h
  rcases hE:Bn p x.1 n oc with ⟨a,o1,n1⟩
  rw [hE] at h
  simp only at h
  rcases hE2:B9 r x.2 n1 o1 with ⟨b,o2,n2⟩
  rw [hE2] at h
  simp only [Prod.mk.injEq] at h
  obtain ⟨rfl,_⟩:=h
  simp [JW hE2]
theorem Spec.Aa {q:Spec} {x:q.D S} {n:Nat} {vs:List SV} {o':List (Nat×Own S)} {n':Nat} (h:q.enc x n=(vs,o',n')):vs.length=q.as.length:=by
 unfold Spec.enc at h
 rcases hE:B9 q.as x.1 n [] with ⟨a,o1,n1⟩
 rw [hE] at h
 simp only at h
 rcases hE2:Ec q.bx x.2 n1 o1 with ⟨o2,n2⟩
 rw [hE2] at h
 simp only [Prod.mk.injEq] at h
 obtain ⟨rfl,_⟩:=h
 exact JW hE
theorem Of {E:Env S} (hE:E.Ok P) {f:FuncId} {fn:Func} {sp:Spec} (hf:P.funcs[f]?=some fn) (hb:fn.body=some E.body) (hn:fn.ntmps=E.sz) (hres:fn.results.toList=E.res) (hsz:sp.as.length<=E.sz) {f0:Nat}
  (Mo:Nat-> ∀ k,E.ι k->Option E.ρ) (hM0: ∀ k x,Mo 0 k x=none) (hM: ∀ n k q (h:lk E.Cx k=some q) x y,Mo (n+1) k (DH E k q h x)=some y->(H7 E f0 q x).eval (Mo n)=some y)
  {n:Nat} {x:sp.D S} {y:E.rs.D S} (h:(H6 E f0 sp x).eval (Mo n)=some y) {flat:Bool} {w:World} {D:Nat->Prop} {β:Nat->Nm} {vs:List SV} {o:List (Nat×Own S)} {m:Nat} {out:Out (sp.D S) (E.rs.D S)} (he:sp.enc x E.bn=(vs,o,m)) (hg:GH w (AK o β) D D o (· <m) β w) (hon:BR (· <m) vs) (hiv:S.inv D w):
  Calls P f (AA β vs).toArray w (Dm ⟨f,E.bn,sp,E.rs,flat,out⟩ y w D β o):=by
 have hkp:BS S w (AK o β) D:=⟨hiv,fun k hk=>⟨hg.C0 k hk,fun ⟨i,b,hi,hik⟩=>hg.off i b k hi hik hk⟩⟩
 have hr: ∀ y',y'=y->QY w (AK o β) D E β (Dm ⟨f,E.bn,sp,E.rs,flat,out⟩ y w D β o) y':=by
  rintro y' rfl D' β' w' ws o' n' he' hβ hgh hon' hn'
  exact ⟨D',β',ws,o',n',he',rfl,hβ,hgh,hon',hn'⟩
 have key: ∀ n k q (h:lk E.Cx k=some q) (x:q.sp.D S),Mo n k (DH E k q h x)=some y->Ic P (bodyPost P fn (Dm ⟨f,E.bn,sp,E.rs,flat,out⟩ y w D β o)) w (AK o β) D β (n*f0) E q x:=by
  intro n
  induction n with
  | zero=>intro k q h x hx;rw [hM0] at hx;cases hx
  | succ n ih=>
   intro k q h x hx ks ws o' n' hk hq
   have h1:=hM n k q h x y hx
   obtain ⟨_,h3,_,_⟩:=hE.Cx k q h
   have h2:=Tr.BE h1
   unfold H7 at h2
   rw [hk] at h2
   simp only [hq] at h2
   have:=AQ hE (Kc:=fun c x=>Mo n c x=some y) (Kr:=(· =y)) f0 (fr:=⟨true,E.dr⟩) (Z5 hkp hE hres hr (fun c q' h' x' GO=>ih c q' h' x' GO)) true ks ⟨q.ts.zip ws,o',n',E.sz⟩ (Nat.le_trans h3 (Spec.PF hq)) rfl (Ko hk) h2
   rw [Nat.succ_mul]
   exact this
 have h2:=Tr.BE h
 unfold H6 at h2
 rw [he] at h2
 have hvc:=AQ hE (Kc:=fun c x=>Mo n c x=some y) (Kr:=(· =y)) f0 (fr:=⟨true,E.dr⟩) (Z5 hkp hE hres hr (fun c q' h' x' GO=>key n c q' h' x' GO)) false [.code [] E.body] ⟨Bj 0 vs,o,m,E.sz⟩ (Spec.PF he) rfl (fun z hz=>by
  simp only [List.mem_cons,List.not_mem_nil,or_false] at hz
  subst hz
  rfl) h2
 exact VC.enter hf hb hn (by rw [Spec.Aa he];exact hsz) hon hg hvc
end
end Go.En
