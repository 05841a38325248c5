/-
 What a contract says (Ctr.Holds), and that a call goes on as the evaluation has it.
-/
import Derived.Test.YtpjlciengdhjoaaGreatDoorEn11
namespace Go.En
open Go.RowKit
section
variable {S:As}
def AL (o:List (Nat×Own S)) (β:Nat->Nm):Nat->Prop:=fun k=> ∃ i b,lk o i=some b/\(β i).has k
def Fd.plain:Fd->Bool
 | .sl _=>false
 | .ow _ _=>false
 | _=>true
def As.plain (S:As) (τ:Nat):Bool:=(S.fds τ).all Fd.plain
def C0.plain (S:As):C0->Bool
 | .fd f=>f.plain
 | .st τ=>S.plain τ
 | .own τ _=>S.plain τ
 | .dp _ _=>false
 | .mp _ τ _=>S.plain τ
 | .mr _ τ _ _=>S.plain τ
 | _=>true
def Spec.plain (S:As) (q:Spec):Bool:=q.as.all (C0.plain S) && q.bx.all fun b=>b.ps.all (C0.plain S)
def Own.free (S:As):Own S->Prop
 | .tr τ _ _=>S.plain τ=true
 | .sl _ _=>False
 | .vu _=>False
 | .dp _ _ _=>False
 | .mp _ τ _ _=>S.plain τ=true
 | .mr _ τ _ _ _=>S.plain τ=true
 | _=>True
theorem S4 {w:World} {D D':Nat->Prop} {f:Fd} {x:f.T S.T} {v:Value} (hf:f.plain=true) (h:Av S w D (f.fc x) v):Av S w D' (f.fc x) v:=by
 cases f<;>simp only [Fd.plain,Bool.false_eq_true] at hf<;>simp only [Fd.fc] at h ⊢ <;>cases h<;>constructor
theorem Kk {w:World} {D D':Nat->Prop}: ∀ {fs:List Fd} {p:Ps S.T fs} {vs:List Value},fs.all Fd.plain=true->AG S w D (EG fs p) vs->AG S w D' (EG fs p) vs
 | [],p,vs,_,h=>by
  have:vs=[]:=by have:=h.1;simp only [EG,List.length_nil] at this;exact jp this.symm
  subst this;exact AG.nil
 | f::r,p,vs,hp,h=>by
  simp only [List.all_cons,dl] at hp
  obtain ⟨v,u,rfl,h1,h2⟩:=AG.DK h
  exact AG.cons (S4 hp.1 h1) (Kk hp.2 h2)
theorem NC {w:World} {D D':Nat->Prop} {τ:Nat} (hp:S.plain τ=true): ∀ {l:List (S.T τ)} {vs:List Value},AG S w D (S.flat τ l) vs->AG S w D' (S.flat τ l) vs
 | [],vs,h=>by
  have:vs=[]:=by have:=h.1;simp only [As.flat,List.flatMap_nil,List.length_nil] at this;exact jp this.symm
  subst this;simpa [As.flat] using AG.nil
 | x::l,vs,h=>by
  rw [S.Bw] at h ⊢
  have hl:(S.enc τ x).length<=vs.length:=by rw [<-h.1];simp
  have h1:=h.take (S.enc τ x).length
  have h2:=h.drop (S.enc τ x).length
  rw [List.take_left'] at h1
  ·rw [List.drop_left'] at h2
   ·rw [<-List.take_append_drop (S.enc τ x).length vs]
    exact (Kk hp h1).append (NC hp h2)
   ·rfl
  ·rfl
theorem MapAt.plain {w:World} {D D':Nat->Prop} {κ:Fd} {τ:Nat} {ag:Bool} {b:Nat} {l:List (κ.T S.T×S.T τ)} (hp:S.plain τ=true) (h:MapAt S w D κ τ ag b l):MapAt S w D' κ τ ag b l:=by
 obtain ⟨es,h1,h2,h3⟩:=h
 exact ⟨es,h1,h2,fun j x e hx he=>let ⟨k0,k1,vs,k2,k3⟩:=h3 j x e hx he;⟨k0,k1,vs,k2,Kk hp k3⟩⟩
theorem Own.NG {w:World} {D D':Nat->Prop} {β:Nat->Nm} {nm:Nm} {b:Own S} (hb:b.free S) (h:b.holds D β w nm):b.holds D' β w nm:=by
 cases b with
 | AX T cs=>exact h
 | row T sz n cs=>exact h
 | tr τ E l=>obtain ⟨h0,vs,h1,h2⟩:=h;exact ⟨h0,vs,h1,NC hb h2⟩
 | sl τ l=>exact hb.elim
 | vu cs=>exact hb.elim
 | obj p=>exact h
 | any=>exact h
 | dp=>exact hb.elim
 | mp κ τ ag l=>obtain ⟨g,h1,h2⟩:=h;exact ⟨g,h1,MapAt.plain hb h2⟩
 | mr κ τ ag E ls=>obtain ⟨h0,vs,h1,h2⟩:=h;exact ⟨h0,vs,h1,fun e m he=>let ⟨b,c,k1,k2,k3⟩:=h2.cell e m he;⟨b,c,k1,k2,k3.plain hb⟩,h2.inj,h2.ne⟩
theorem LM: ∀ {fs:List Fd} {p:Ps S.T fs} {n:Nat} {o:List (Nat×Own S)} {cs:List SV} {o':List (Nat×Own S)} {n':Nat},fs.all Fd.plain=true->Ch (EG fs p) n o=(cs,o',n')->o'=o
 | [],p,n,o,cs,o',n',_,h=>by simp only [EG,Ch,bi] at h;exact h.2.1.symm
 | f::r,p,n,o,cs,o',n',hp,h=>by
  simp only [List.all_cons,dl] at hp
  cases f<;>simp only [Fd.plain,Bool.false_eq_true,false_and] at hp<;>simp only [EG,Fd.fc,Ch,bi] at h<;>rw [<-h.2.1]<;>exact LM (p:=p.2) hp.2 rfl
def C5 (o:List (Nat×Own S)):Prop:= ∀ i b,lk o i=some b->b.free S
theorem O1 {p:C0} {x:p.T S} {n:Nat} {o:List (Nat×Own S)} {cs:List SV} {o':List (Nat×Own S)} {n':Nat} (hp:p.plain S=true) (h:B3 p x n o=(cs,o',n')) (ho:C5 o):C5 o':=by
 cases p with
 | fd f=>
  have:o'=o:=LM (fs:=[f]) (p:=(x,())) (by simpa [C0.plain] using hp) h
  rw [this];exact ho
 | st τ=>have:o'=o:=LM (fs:=S.fds τ) (p:=S.to τ x) hp h;rw [this];exact ho
 | own τ E=>
  simp only [B3,bi] at h;obtain ⟨_,rfl,_⟩:=h
  intro i b hi
  rw [AK] at hi
  split at hi
  ·cases hi;exact hp
  ·exact ho i b hi
 | dp τ E=>cases hp
 | mp κ τ ag=>
  simp only [B3,bi] at h;obtain ⟨_,rfl,_⟩:=h
  intro i b hi
  rw [AK] at hi
  split at hi
  ·cases hi;exact hp
  ·exact ho i b hi
 | mr κ τ ag E=>
  simp only [B3,bi] at h;obtain ⟨_,rfl,_⟩:=h
  intro i b hi
  rw [AK] at hi
  split at hi
  ·cases hi;exact hp
  ·exact ho i b hi
 | al i off=>simp only [B3,bi] at h;obtain ⟨_,rfl,_⟩:=h;exact ho
 | np=>simp only [B3,bi] at h;obtain ⟨_,rfl,_⟩:=h;exact ho
 | hd=>
  simp only [B3,bi] at h;obtain ⟨_,rfl,_⟩:=h
  intro i b hi
  rw [AK] at hi
  split at hi
  ·cases hi;trivial
  ·exact ho i b hi
 | hm=>
  simp only [B3,bi] at h;obtain ⟨_,rfl,_⟩:=h
  intro i b hi
  rw [AK] at hi
  split at hi
  ·cases hi;trivial
  ·exact ho i b hi
 | rw i=>simp only [B3,bi] at h;obtain ⟨_,rfl,_⟩:=h;exact ho
 | rm i=>simp only [B3,bi] at h;obtain ⟨_,rfl,_⟩:=h;exact ho
 | ep i z off=>simp only [B3,bi] at h;obtain ⟨_,rfl,_⟩:=h;exact ho
 | fn f caps=>simp only [B3,bi] at h;obtain ⟨_,rfl,_⟩:=h;exact ho
theorem M1: ∀ {qs:List C0} {x:PT S qs} {n:Nat} {oc:List (Nat×Own S)} {cs:List SV} {oc':List (Nat×Own S)} {n':Nat},qs.all (C0.plain S)=true->Er qs x n oc=(cs,oc',n')->C5 oc->C5 oc'
 | [],x,n,oc,cs,oc',n',_,h,ho=>by simp only [Er,bi] at h;obtain ⟨_,rfl,_⟩:=h;exact ho
 | p::r,x,n,oc,cs,oc',n',hp,h,ho=>by
  simp only [List.all_cons,dl] at hp
  simp only [Er] at h
  rcases hE:B3 p x.1 n oc with ⟨a,o1,n1⟩
  rw [hE] at h
  simp only at h
  rcases hE2:Er r x.2 n1 o1 with ⟨b,o2,n2⟩
  rw [hE2] at h
  simp only [bi] at h
  obtain ⟨_,rfl,_⟩:=h
  exact M1 hp.2 hE2 (O1 hp.1 hE ho)
theorem My: ∀ {qs:List C0} {x:PT S qs} {n:Nat} {oc:List (Nat×Own S)} {cs:List SV} {oc':List (Nat×Own S)} {n':Nat},qs.all (C0.plain S)=true->CV qs x n oc=(cs,oc',n')->C5 oc->C5 oc'
 | [],x,n,oc,cs,oc',n',_,h,ho=>by simp only [CV,bi] at h;obtain ⟨_,rfl,_⟩:=h;exact ho
 | p::r,x,n,oc,cs,oc',n',hp,h,ho=>by
  simp only [List.all_cons,dl] at hp
  simp only [CV] at h
  rcases hE:B3 p x.1 n oc with ⟨a,o1,n1⟩
  rw [hE] at h
  simp only at h
  rcases hE2:CV r x.2 n1 o1 with ⟨b,o2,n2⟩
  rw [hE2] at h
  simp only [bi] at h
  obtain ⟨_,rfl,_⟩:=h
  exact My hp.2 hE2 (O1 hp.1 hE ho)
theorem SA: ∀ {qs:List C0} {x:PT S qs} {c:Own S},qs.all (C0.plain S)=true->rowOf qs x=some c->c.free S
 | [],x,c,_,h=>by simp [rowOf] at h
 | _::_::_,x,c,_,h=>by simp [rowOf] at h
 | [p],x,c,hp,h=>by
  simp only [List.all_cons,List.all_nil,Bool.and_true] at hp
  cases p<;>simp only [rowOf,OD,am,reduceCtorEq] at h
  ·subst h;exact hp
  ·cases hp
  ·subst h;exact hp
  ·subst h;exact hp
theorem RA {b:Gx} {x:PT S b.ps} {n:Nat} {oc:List (Nat×Own S)} {oc':List (Nat×Own S)} {n':Nat} (hp:b.ps.all (C0.plain S)=true) (h:F7 b x n oc=(oc',n')) (ho:C5 oc):C5 oc':=by
 unfold F7 at h
 split at h
 ·rcases hE:Er b.ps x n oc with ⟨a,o1,n1⟩
  rw [hE] at h
  simp only [bi] at h
  obtain ⟨rfl,rfl⟩:=h
  intro i c hi
  rw [AK] at hi
  split at hi
  ·cases hi;exact trivial
  ·exact M1 hp hE ho i c hi
 ·split at h
  ·rename_i c hc
   simp only [bi] at h
   obtain ⟨rfl,rfl⟩:=h
   intro i d hi
   rw [AK] at hi
   split at hi
   ·cases hi;exact SA hp hc
   ·exact ho i d hi
  ·simp only [bi] at h
   obtain ⟨rfl,rfl⟩:=h
   exact ho
theorem M0: ∀ {bs:List Gx} {x:BT S bs} {n:Nat} {oc:List (Nat×Own S)} {oc':List (Nat×Own S)} {n':Nat},(bs.all fun b=>b.ps.all (C0.plain S))=true->Ep bs x n oc=(oc',n')->C5 oc->C5 oc'
 | [],x,n,oc,oc',n',_,h,ho=>by simp only [Ep,bi] at h;obtain ⟨rfl,_⟩:=h;exact ho
 | b::r,x,n,oc,oc',n',hp,h,ho=>by
  simp only [List.all_cons,dl] at hp
  simp only [Ep] at h
  rcases hE:F7 b x.1 n oc with ⟨o1,n1⟩
  rw [hE] at h
  exact M0 hp.2 h (RA hp.1 hE ho)
theorem Spec.M4 {q:Spec} {x:q.D S} {n:Nat} {vs:List SV} {o':List (Nat×Own S)} {n':Nat} (hp:q.plain S=true) (h:q.enc x n=(vs,o',n')):C5 o':=by
 unfold Spec.plain at hp
 simp only [dl] at hp
 unfold Spec.enc at h
 rcases hE:CV q.as x.1 n [] with ⟨a,o1,n1⟩
 rw [hE] at h
 simp only at h
 rcases hE2:Ep q.bx x.2 n1 o1 with ⟨o2,n2⟩
 rw [hE2] at h
 simp only [bi] at h
 obtain ⟨_,rfl,_⟩:=h
 exact M0 hp.2 hE2 (My hp.1 hE fun i b h=>by simp [AW] at h)
def Ds (c:BU S) (y:c.rs.D S) (w:World) (D:Nat->Prop) (β:Nat->Nm) (o:List (Nat×Own S)):Ending->World->Prop:=fun e w'=>
 ∃ D' β' rs' o' n',c.rs.enc y (Hg c.bn c.rs)=(rs',o',n')/\e=.returned ((Ay rs').den β')/\(∀ i,i<c.bn->β' i=β i)/\GH w (AL o β) D D' o' (· <n') β' w'/\BZ (· <n') rs'/\c.bn<=n'
def B9 (P:Program) (f:Nat):Bool:=match P.funcs[f]? with
 | some fn=>fn.body.isSome && !(fn.name == "runtime.NumGoroutine")
 | none=>false
structure BU.Holds (P:Program) (c:BU S):Prop where
 B9:B9 P c.f=true
 bound:c.sp.okB c.bn=true
 flat:c.flat=true->c.rs.plain S=true
 calls: ∀ x y,c.out.gives x y-> ∀ w D β vs o n,c.sp.enc x c.bn=(vs,o,n)->GH w (AL o β) D D o (· <n) β w->BZ (· <n) vs->c.bn<=n->S.inv D w->Calls P c.f (AD β vs).toArray w (Ds c y w D β o)
theorem Cv {P:Program} {w:World} {f:Nat} {args:Array Value} (h:B9 P f=true):(callFunc f args).run P w=.ok (.enter f args) w:=by
 unfold B9 at h
 split at h
 case h_2=>cases h
 rename_i fn hf
 simp only [dl,Bool.not_eq_true'] at h
 obtain ⟨h1,h2⟩:=h
 have h3:¬ fn.body=none:=by cases hb:fn.body<;>simp_all
 have h4:¬ fn.name= "runtime.NumGoroutine" :=by simpa using h2
 simp [callFunc,hf,h4,h3]
mutual
theorem aQ {β β':Nat->Nm} {r:Nat->Nat} {N:Nat->Prop} (h: ∀ i,N i->β (r i)=β' i): ∀ x:SV,x.on N->(x.Je r).den β=x.den β'
 | .v _,_=>by simp [SV.Je,SV.den]
 | .b _,_=>by simp [SV.Je,SV.den]
 | .ptr i _,hx=>by simp only [SV.on] at hx;simp [SV.Je,SV.den,h i hx]
 | .row i _,hx=>by simp only [SV.on] at hx;simp [SV.Je,SV.den,h i hx]
 | .tr i,hx=>by simp only [SV.on] at hx;simp [SV.Je,SV.den,h i hx]
 | .ep i _ _ _,hx=>by simp only [SV.on] at hx;simp [SV.Je,SV.den,h i hx]
 | .view i _ _ _,hx=>by simp only [SV.on] at hx;simp [SV.Je,SV.den,h i hx]
 | .CC i,hx=>by simp only [SV.on] at hx;simp [SV.Je,SV.den,h i hx]
 | .mk i _,hx=>by simp only [SV.on] at hx;simp [SV.Je,SV.den,h i hx]
 | .hm i,hx=>by simp only [SV.on] at hx;simp [SV.Je,SV.den,h i hx]
 | .h i,hx=>by simp only [SV.on] at hx;simp [SV.Je,SV.den,h i hx]
 | .vp i _,hx=>by simp only [SV.on] at hx;simp [SV.Je,SV.den,h i hx]
 | .ap i _ _ _,hx=>by simp only [SV.on] at hx;simp [SV.Je,SV.den,h i hx]
 | .pr i _ _ _,hx=>by simp only [SV.on] at hx;simp [SV.Je,SV.den,h i hx]
 | .pp i _ _ _ _ _ _,hx=>by simp only [SV.on] at hx;simp [SV.Je,SV.den,h i hx]
 | .agg cs,hx=>by simp only [SV.on] at hx;simp only [SV.Je,SV.den];rw [De h cs hx]
 | .Gv cs,hx=>by simp only [SV.on] at hx;simp only [SV.Je,SV.den];rw [De h cs hx]
 | .fn _ cs,hx=>by simp only [SV.on] at hx;simp only [SV.Je,SV.den];rw [De h cs hx]
theorem De {β β':Nat->Nm} {r:Nat->Nat} {N:Nat->Prop} (h: ∀ i,N i->β (r i)=β' i): ∀ l:List SV,BZ N l->AD β (Cf r l)=AD β' l
 | [],_=>by simp [Cf,AD]
 | x::t,hx=>by
  simp only [BZ] at hx
  simp only [Cf,AD]
  rw [aQ h x hx.1,De h t hx.2]
end
mutual
theorem N1 {r:Nat->Nat} {N N':Nat->Prop} (h: ∀ i,N i->N' (r i)): ∀ {x:SV},x.on N->(x.Je r).on N'
 | .v _,_=>trivial
 | .b _,_=>trivial
 | .ptr i _,hx=>h i hx
 | .row i _,hx=>h i hx
 | .tr i,hx=>h i hx
 | .ep i _ _ _,hx=>h i hx
 | .view i _ _ _,hx=>h i hx
 | .CC i,hx=>h i hx
 | .mk i _,hx=>h i hx
 | .hm i,hx=>h i hx
 | .h i,hx=>h i hx
 | .vp i _,hx=>h i hx
 | .ap i _ _ _,hx=>h i hx
 | .pr i _ _ _,hx=>h i hx
 | .pp i _ _ _ _ _ _,hx=>h i hx
 | .agg _,hx=>Fy h hx
 | .Gv _,hx=>Fy h hx
 | .fn _ _,hx=>Fy h hx
theorem Fy {r:Nat->Nat} {N N':Nat->Prop} (h: ∀ i,N i->N' (r i)): ∀ {l:List SV},BZ N l->BZ N' (Cf r l)
 | [],_=>trivial
 | _::_,hx=>⟨N1 h hx.1,Fy h hx.2⟩
end
theorem Own.N1 {r:Nat->Nat} {N N':Nat->Prop} (h: ∀ i,N i->N' (r i)) {b:Own S} (hb:b.on N):(b.Je r).on N':=by
 cases b<;>first|exact Fy h hb|trivial
theorem Own.Kp {D:Nat->Prop} {β β':Nat->Nm} {r:Nat->Nat} {N:Nat->Prop} {w:World} {nm:Nm} {b:Own S} (h: ∀ i,N i->β (r i)=β' i) (hn:b.on N) (hh:b.holds D β' w nm):(b.Je r).holds D β w nm:=by
 cases b with
 | AX T cs=>simp only [Own.on] at hn;simpa only [Own.Je,Own.holds,De h cs hn] using hh
 | row T sz k cs=>simp only [Own.on] at hn;simpa only [Own.Je,Own.holds,De h cs hn] using hh
 | vu cs=>simp only [Own.on] at hn;simpa only [Own.Je,Own.holds,De h cs hn] using hh
 | tr=>exact hh
 | sl=>exact hh
 | obj p=>exact hh
 | any=>exact hh
 | dp=>exact hh
 | mp=>exact hh
 | mr=>exact hh
theorem Ek {r:Nat->Nat}: ∀ {o:List (Nat×Own S)} (i:Nat) (b:Own S),lk (Dr r o) i=some b-> ∃ j c,lk o j=some c/\r j=i/\b=c.Je r
 | [],i,b,h=>by simp [Dr,AW] at h
 | (d,x)::t,i,b,h=>by
  simp only [Dr,AK] at h
  split at h
  ·rename_i he;cases h;exact ⟨d,x,by simp [AK],he,rfl⟩
  ·rename_i hne
   obtain ⟨j,c,h1,h2,h3⟩:=Ek i b h
   exact ⟨j,c,by rw [AK,if_neg (fun e=>by subst e;exact hne h2)];exact h1,h2,h3⟩
theorem SZ {m:List (Nat×Nat)}: ∀ {bn:Nat} {l:List Nat},OR m bn=some l-> ∀ i,i<bn-> ∃ j,lk m i=some j/\j∈l
 | 0,l,h,i,hi=>by omega
 | bn+1,l,h,i,hi=>by
  simp only [OR] at h
  split at h
  case h_2=>cases h
  rename_i j hj
  split at h
  case h_2=>cases h
  rename_i l' hl
  cases h
  by_cases e:i=bn
  ·subst e;exact ⟨j,hj,by simp⟩
  ·obtain ⟨k,h1,h2⟩:=SZ hl i (by omega)
   exact ⟨k,h1,mt _ h2⟩
theorem Qy {n:Nat}: ∀ {l:List Nat},UP n l=true-> ∀ j∈l,j<n
 | [],_,j,hj=>by simp at hj
 | x::r,h,j,hj=>by
  simp only [UP] at h
  split at h
  case h_2=>cases h
  rename_i hx
  rcases List.mem_cons.1 hj with rfl|hj
  ·exact dk hx
  ·exact Qy h j hj
theorem fe {m:List (Nat×Nat)} {bn n:Nat} (h:iv m bn n=true): ∀ i,i<bn-> ∃ j,lk m i=some j/\j<n:=by
 unfold iv at h
 split at h
 case h_2=>cases h
 rename_i l hl
 intro i hi
 obtain ⟨j,h1,h2⟩:=SZ hl i hi
 exact ⟨j,h1,Qy h j h2⟩
theorem Y9 {f:Fd} {v:SV} {ps ps':PS S} {x:f.T S.T} (h:dL false f v ps=some (x,ps')):ps'.bl=ps.bl:=by
 unfold dL at h
 split at h
 ·cases h
 ·split at h
  ·cases h;rfl
  ·cases h
theorem VA {p:C0} {cs r:List SV} {ps ps':PS S} {x:p.T S} (h:pP false p cs ps=some (x,r,ps')):ps'.bl=ps.bl:=by
 unfold pP at h
 split at h
 ·split at h
  ·rename_i hx;cases h;exact Y9 hx
  ·cases h
 ·split at h
  ·cases h;rfl
  ·cases h
 ·split at h
  ·rename_i hx
   cases h
   unfold Ty at hx
   split at hx
   ·split at hx
    case h_2=>cases hx
    split at hx
    ·cases hx;rfl
    ·cases hx
   ·split at hx
    ·cases hx;rfl
    ·cases hx
   ·split at hx
    case h_2=>cases hx
    split at hx
    case h_2=>cases hx
    split at hx
    ·cases hx;rfl
    ·cases hx
   ·cases hx
  ·cases h
 ·split at h
  ·rename_i hx
   cases h
   unfold ff at hx
   split at hx
   ·split at hx
    case h_2=>cases hx
    split at hx
    ·cases hx;rfl
    ·cases hx
   ·split at hx
    ·cases hx;rfl
    ·cases hx
   ·cases hx
  ·cases h
 ·split at h
  ·rename_i hx
   cases h
   unfold fk at hx
   split at hx
   ·split at hx
    case h_2=>cases hx
    split at hx
    ·cases hx;rfl
    ·cases hx
   ·cases hx
  ·cases h
 ·split at h
  ·rename_i hx
   cases h
   unfold fp at hx
   split at hx
   ·split at hx
    case h_2=>cases hx
    split at hx
    ·cases hx;rfl
    ·cases hx
   ·split at hx
    ·cases hx;rfl
    ·cases hx
   ·cases hx
  ·cases h
 ·split at h
  ·cases h;rfl
  ·cases h
 ·split at h
  ·cases h;rfl
  ·cases h
 ·split at h
  ·cases h;rfl
  ·cases h
 ·split at h
  ·cases h;rfl
  ·cases h
 ·split at h
  ·cases h;rfl
  ·cases h
 ·cases h;rfl
 ·split at h
  ·cases h;rfl
  ·cases h
 ·split at h
  ·cases h;rfl
  ·cases h
 ·cases h
theorem R0: ∀ {qs:List C0} {cs:List SV} {ps ps':PS S} {x:PT S qs},Qv false qs cs ps=some (x,ps')->ps'.bl=ps.bl
 | [],[],ps,ps',x,h=>by simp only [Qv,am,bi] at h;rw [<-h.2]
 | [],_::_,ps,ps',x,h=>by simp [Qv] at h
 | p::r,cs,ps,ps',x,h=>by
  simp only [Qv] at h
  split at h
  case h_2=>cases h
  rename_i h1
  split at h
  case h_2=>cases h
  rename_i h2
  cases h
  rw [R0 h2,VA h1]
theorem Ry: ∀ {qs:List C0} {vs:List SV} {ps ps':PS S} {x:PT S qs},OU false qs vs ps=some (x,ps')->ps'.bl=ps.bl
 | [],[],ps,ps',x,h=>by simp only [OU,am,bi] at h;rw [<-h.2]
 | [],_::_,ps,ps',x,h=>by simp [OU] at h
 | _::_,[],ps,ps',x,h=>by simp [OU] at h
 | p::r,v::vs,ps,ps',x,h=>by
  simp only [OU] at h
  split at h
  case h_2=>cases h
  split at h
  case h_2=>cases h
  rename_i h1
  split at h
  case h_2=>cases h
  rename_i h2
  cases h
  rw [Ry h2,VA h1]
theorem WD {b:Gx} {j:Nat} {ps ps':PS S} {x:PT S b.ps} (h:QX b j ps=some (x,ps')):ps'.bl=ps.bl:=by
 unfold QX at h
 split at h
 ·split at h
  case h_2=>cases h
  split at h
  case h_2=>cases h
  rw [R0 h]
 ·obtain ⟨c,_,_,rfl⟩:=Mb h;rfl
theorem Rz: ∀ {bs:List Gx} {seen:List Nat} {ps ps':PS S} {x:BT S bs},U9 bs seen ps=some (x,ps')->ps'.bl=ps.bl
 | [],seen,ps,ps',x,h=>by simp only [U9,am,bi] at h;rw [<-h.2]
 | b::r,seen,ps,ps',x,h=>by
  simp only [U9] at h
  split at h
  case h_2=>cases h
  split at h
  case h_2=>cases h
  split at h
  case h_2=>cases h
  rename_i h1
  split at h
  case h_2=>cases h
  rename_i h2
  cases h
  rw [Rz h2,WD h1]
theorem Spec.Jb {q:Spec} {vs:List SV} {o:List (Nat×Own S)} {m:List (Nat×Nat)} {bn:Nat} {x:q.D S} {ps:PS S} (h:q.parse false vs o m bn=some (x,ps)):ps.bl=[]:=by
 unfold Spec.parse at h
 split at h
 case h_2=>cases h
 rename_i h1
 split at h
 case h_2=>cases h
 rename_i h2
 cases h
 rw [Rz h2,Ry h1]
theorem Vh {w0:World} {F D0 D:Nat->Prop} {o:List (Nat×Own S)} {N:Nat} {β:Nat->Nm} {w:World} {c:BU S} {x:c.sp.D S} {ps:PS S} {args:List SV} (hg:GH w0 F D0 D o (· <N) β w) (h:c.sp.parse c.flat args o [] c.bn=some (x,ps)) (hc:c.sp.okB c.bn=true) (hflat:c.flat=true->c.rs.plain S=true)
  (hm:iv ps.m c.bn N=true) {y:c.rs.D S} {P:Program} {f:Nat} (hcall: ∀ w D β vs o n,c.sp.enc x c.bn=(vs,o,n)->GH w (AL o β) D D o (· <n) β w->BZ (· <n) vs->c.bn<=n->S.inv D w->Calls P f (AD β vs).toArray w (Ds c y w D β o)) (hiv:S.inv D w)
  {rs':List SV} {o':List (Nat×Own S)} {n':Nat} (he:c.rs.enc y (Hg c.bn c.rs)=(rs',o',n')):
  Calls P f (AD β args).toArray w fun e w'=> ∃ D' β',e=.returned ((Ay (Cf (Bv c.bn ps.m N) rs')).den β')/\(∀ i,i<N->β i=β' i)/\GH w0 F D0 D' (Dr (Bv c.bn ps.m N) o'++ps.o) (· <N+(n' -c.bn)) β' w'/\(Ay (Cf (Bv c.bn ps.m N) rs')).on (· <N+(n' -c.bn)):=by
 rcases hE:c.sp.enc x c.bn with ⟨vs,o1,n1⟩
 obtain ⟨β1,hbox,hgh1,hden,hon1,hbn1,hcross,hsub,_,hbl⟩:=Spec.CO hg h hc hE
 have hmok:=fe hm
 rw [hden]
 refine (hcall w (FW D β ps.bl) β1 vs o1 n1 hE ⟨hgh1.By,hgh1.own,hgh1.inj,fun i b k hi hk=>.inr ⟨i,b,hi,hk⟩,hgh1.off,hgh1.lt,hgh1.DL,fun k hk=>.inl hk,OX.refl _ _,fun _ h=>h⟩ hon1 hbn1 (S.FZ hiv (fun _ _=>rfl) fun k hk=>.inl hk)).mono fun e w' ⟨D',β',rs2,o2,n2,he2,hret,hb',hgh2,honr,hn2⟩=>?_
 rw [he] at he2
 simp only [bi] at he2
 obtain ⟨rfl,rfl,rfl⟩:=he2
 -- blocks of what is lent and of what stays are as they were
 have hkeepD: ∀ k,FW D β ps.bl k->w'.heap[k]?=w.heap[k]?:=fun k hk=>hgh2.fr.block k (hgh1.DL k hk) fun ⟨i,b,hi,hik⟩=>hgh1.off i b k hi hik hk
 have hoff: ∀ i c' k,lk ps.o i=some c'->(β i).has k->¬ AL o1 β1 k:=fun i c' k hi hk ⟨j,d,hj,hjk⟩=>by
  by_cases hib:i∈ps.bl
  ·exact hgh1.off j d k hj hjk (.inr ⟨i,hib,hk⟩)
  ·exact hcross i c' j d k hi hib hj hk hjk
 have hkeepR: ∀ i c' k,lk ps.o i=some c'->(β i).has k->w'.heap[k]?=w.heap[k]?:=fun i c' k hi hk=>
  hgh2.fr.block k (hg.lt i c' k (hsub i c' hi) hk) (hoff i c' k hi hk)
 let D2:Nat->Prop:=fun k=>(D' k\/D k)/\¬ ∃ i∈ps.bl,(β i).has k
 have hDlent: ∀ k,D k->FW D β ps.bl k:=fun k hk=>.inl hk
 have hDD2: ∀ k,D k->D2 k:=fun k hk=>⟨.inr hk,fun ⟨i,hi,hik⟩=>by
  obtain ⟨c',hc'⟩:=hbl i hi
  exact hg.off i c' k (hsub i c' hc') hik hk⟩
 let r:=Bv c.bn ps.m N
 let βn:Nat->Nm:=fun i=>if i<N then β i else β' (i -N+c.bn)
 have hβn: ∀ i,i<N->β i=βn i:=fun i hi=>by simp only [βn];rw [if_pos hi]
 have hr: ∀ i,i<n'->βn (r i)=β' i:=fun i hi=>by
  by_cases hib:i<c.bn
  ·obtain ⟨j,hj,hjN⟩:=hmok i hib
   have e1:r i=j:=by simp only [r,Bv];rw [show Nat.ble (i+1) c.bn=true from Nat.ble_eq_true_of_le hib];simp only [hj]
   rw [e1,<- hβn j hjN,hb' i hib,hbox i hib j hj]
  ·have e1:r i=N+(i -c.bn):=by
    simp only [r,Bv]
    have:Nat.ble (i+1) c.bn=false:=by
     cases hb:Nat.ble (i+1) c.bn
     ·rfl
     ·exact absurd (dk hb) hib
    rw [this]
   simp only [e1,βn]
   rw [if_neg (by omega)]
   congr 1;omega
 have hrN: ∀ i,i<n'->r i<N+(n' -c.bn):=fun i hi=>by
  by_cases hib:i<c.bn
  ·obtain ⟨j,hj,hjN⟩:=hmok i hib
   have e1:r i=j:=by simp only [r,Bv];rw [show Nat.ble (i+1) c.bn=true from Nat.ble_eq_true_of_le hib];simp only [hj]
   omega
  ·have e1:r i=N+(i -c.bn):=by
    simp only [r,Bv]
    have:Nat.ble (i+1) c.bn=false:=by
     cases hb:Nat.ble (i+1) c.bn
     ·rfl
     ·exact absurd (dk hb) hib
    rw [this]
   omega
 have hcase: ∀ i b,lk (Dr r o'++ps.o) i=some b->(∃ j c',lk o' j=some c'/\r j=i/\b=c'.Je r)\/lk ps.o i=some b:=fun i b h=>by
  rw [NU] at h
  cases h1:lk (Dr r o') i with
  | none=>rw [h1] at h;exact .inr (by simpa using h)
  | some c'=>rw [h1] at h;simp at h;subst h;exact .inl (Ek i _ h1)
 have hRN: ∀ i b,lk ps.o i=some b->i<N:=fun i b hi=>(hg.By i b (hsub i b hi)).1
 have hfree:ps.bl=[]\/C5 o':=by
  cases hfl:c.flat with
  | true=>exact .inr (Spec.M4 (hflat hfl) he)
  | false=>rw [hfl] at h;exact .inl (Spec.Jb h)
 have hold: ∀ j c' k,lk o' j=some c'->(β' j).has k->AL o1 β1 k\/w.heap.size<=k:=fun j c' k hj hk=>(hgh2.fresh j c' k hj hk).symm
 have hsep: ∀ i b j c' k,lk ps.o i=some b->lk o' j=some c'->(β i).has k->(β' j).has k->False:=fun i b j c' k hi hj hk hjk=>by
  rcases hold j c' k hj hjk with h1|h1
  ·exact hoff i b k hi hk h1
  ·have:=hg.lt i b k (hsub i b hi) hk;omega
 have hfr1: ∀ k,AL o1 β1 k->w0.heap.size<=k\/F k:=fun k ⟨i,b,hi,hik⟩=>hgh1.fresh i b k hi hik
 refine ⟨D2,βn,?_,hβn,⟨fun i b hi=>?_,fun i b hi=>?_,fun i j b b' k hi hj hk hl=>?_,fun i b k hi hk=>?_,fun i b k hi hk hD=>?_,fun i b k hi hk=>?_,fun k hk=>?_,fun k hk=>?_,?_,fun k hk=>hDD2 k (hg.sub k hk)⟩,?_⟩
 ·rw [hret]
  congr 1
  have hd:=De (β:=βn) (β':=β') (r:=r) (N:=(· <n')) hr rs' honr
  cases hrs:rs' with
  | nil=>simp [Ay,Cf,SV.den,AD]
  | cons a t=>
   cases t with
   | nil=>rw [hrs] at hd;simp only [Cf,AD,List.cons.injEq,and_true] at hd;simp only [Ay,Cf];exact hd.symm
   | cons b t=>rw [hrs] at hd;simp only [Ay,Cf,SV.den];simp only [Cf] at hd;rw [hd]
 ·rcases hcase i b hi with ⟨j,c',hj,hji,rfl⟩|hi
  ·obtain ⟨h1,h2⟩:=hgh2.By j c' hj
   exact ⟨by rw [<-hji];exact hrN j h1,Own.N1 hrN h2⟩
  ·exact ⟨dg (hRN i b hi) (Nat.le_add_right _ _),Own.Ao (fun _ h=>dg h (Nat.le_add_right _ _)) (hg.By i b (hsub i b hi)).2⟩
 ·rcases hcase i b hi with ⟨j,c',hj,hji,rfl⟩|hi
  ·obtain ⟨h1,h2⟩:=hgh2.By j c' hj
   rw [<-hji,hr j h1]
   refine Own.Kp (N:=(· <n')) hr h2 ?_
   have h3:=hgh2.own j c' hj
   rcases hfree with hf|hf
   ·exact Own.CB h3 fun k hk=>⟨.inl hk,fun ⟨i,hi,_⟩=>by rw [hf] at hi;simp at hi⟩
   ·exact Own.NG (hf j c' hj) h3
  ·rw [<-hβn i (hRN i b hi)]
   have h3:=hg.own i b (hsub i b hi)
   exact Own.CB (Own.Dm (Own.Du hβn (hg.By i b (hsub i b hi)).2 h3) (fun k hk=>hkeepR i b k hi hk) fun k hk=>hkeepD k (.inl hk)) hDD2
 ·rcases hcase i b hi with ⟨i',c1,hi1,e1,_⟩|hi<;>rcases hcase j b' hj with ⟨j',c2,hj1,e2,_⟩|hj
  ·rw [<-e1,hr i' (hgh2.By i' c1 hi1).1] at hk
   rw [<-e2,hr j' (hgh2.By j' c2 hj1).1] at hl
   rw [<-e1,<- e2,hgh2.inj i' j' c1 c2 k hi1 hj1 hk hl]
  ·rw [<-e1,hr i' (hgh2.By i' c1 hi1).1] at hk
   rw [<-hβn j (hRN j b' hj)] at hl
   exact (hsep j b' i' c1 k hj hi1 hl hk).elim
  ·rw [<-hβn i (hRN i b hi)] at hk
   rw [<-e2,hr j' (hgh2.By j' c2 hj1).1] at hl
   exact (hsep i b j' c2 k hi hj1 hk hl).elim
  ·rw [<-hβn i (hRN i b hi)] at hk;rw [<-hβn j (hRN j b' hj)] at hl
   exact hg.inj i j b b' k (hsub i b hi) (hsub j b' hj) hk hl
 ·rcases hcase i b hi with ⟨j,c',hj,hji,_⟩|hi
  ·rw [<-hji,hr j (hgh2.By j c' hj).1] at hk
   rcases hold j c' k hj hk with h1|h1
   ·exact hfr1 k h1
   ·exact .inl (Nat.le_trans hg.fr.size h1)
  ·rw [<-hβn i (hRN i b hi)] at hk
   exact hg.fresh i b k (hsub i b hi) hk
 ·rcases hcase i b hi with ⟨j,c',hj,hji,_⟩|hi
  ·rw [<-hji,hr j (hgh2.By j c' hj).1] at hk
   rcases hD.1 with h1|h1
   ·exact hgh2.off j c' k hj hk h1
   ·rcases hold j c' k hj hk with ⟨l,d,hl,hlk⟩|h2
    ·exact hgh1.off l d k hl hlk (.inl h1)
    ·have:=hg.DL k h1;omega
  ·rw [<-hβn i (hRN i b hi)] at hk
   have hio:=hsub i b hi
   rcases hD.1 with hD1|hD1
   case inr=>exact hg.off i b k hio hk hD1
   rcases hgh2.KZ k hD1 with h1|h1|h1
   ·rcases h1 with h1|h1
    ·exact hg.off i b k hio hk h1
    ·exact hD.2 h1
   ·exact hoff i b k hi hk h1
   ·have:=hg.lt i b k hio hk;omega
 ·rcases hcase i b hi with ⟨j,c',hj,hji,_⟩|hi
  ·rw [<-hji,hr j (hgh2.By j c' hj).1] at hk
   exact hgh2.lt j c' k hj hk
  ·rw [<-hβn i (hRN i b hi)] at hk
   exact dg (hg.lt i b k (hsub i b hi) hk) hgh2.fr.size
 ·rcases hk.1 with h1|h1
  ·exact hgh2.DL k h1
  ·exact dg (hg.DL k h1) hgh2.fr.size
 ·rcases hk.1 with hk1|hk1
  case inr=>exact hg.KZ k hk1
  rcases hgh2.KZ k hk1 with h1|h1|h1
  ·rcases h1 with h1|h1
   ·exact hg.KZ k h1
   ·exact absurd h1 hk.2
  ·rcases hfr1 k h1 with h2|h2
   ·exact .inr (.inr h2)
   ·exact .inr (.inl h2)
  ·exact .inr (.inr (Nat.le_trans hg.fr.size h1))
 ·refine ⟨hgh2.fr.os.trans hg.fr.os,hgh2.fr.tape.trans hg.fr.tape,hgh2.fr.output.trans hg.fr.output,Nat.le_trans hg.fr.size hgh2.fr.size,fun k hk hF=>?_⟩
  refine (hgh2.fr.block k (dg hk hg.fr.size) fun hb=>?_).trans (hg.fr.block k hk hF)
  rcases hfr1 k hb with h1|h1
  ·omega
  ·exact hF h1
 ·have ho:=Fy (N:=(· <n')) (N':=(· <N+(n' -c.bn))) hrN honr
  cases hrs:rs' with
  | nil=>simp [Ay,Cf,SV.on,BZ]
  | cons a t=>
   cases t with
   | nil=>rw [hrs] at ho;exact ho.1
   | cons b t=>rw [hrs] at ho;exact ho
end
end Go.En
