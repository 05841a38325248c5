/-
 What a contract says (Ctr.Holds), and that a call goes on as the evaluation has it.
-/
import Derived.Test.YtkpggdcpaeanaaaGreatDoorEn11
namespace Go.En
open Go.RowKit
section
variable {S:Am}
def AJ (o:List (Nat×Own S)) (β:Nat->Nm):Nat->Prop:=fun k=> ∃ i b,lk o i=some b/\(β i).has k
def Fd.plain:Fd->Bool
 | .sl _=>false
 | .ow _ _=>false
 | _=>true
def Am.plain (S:Am) (τ:Nat):Bool:=(S.fds τ).all Fd.plain
def Cl.plain (S:Am):Cl->Bool
 | .fd f=>f.plain
 | .st τ=>S.plain τ
 | .own τ _=>S.plain τ
 | .dp _ _=>false
 | .mp _ τ _=>S.plain τ
 | .mr _ τ _ _=>S.plain τ
 | _=>true
def Spec.plain (S:Am) (q:Spec):Bool:=q.as.all (Cl.plain S) && q.bx.all fun b=>b.ps.all (Cl.plain S)
def Own.free (S:Am):Own S->Prop
 | .tr τ _ _=>S.plain τ=true
 | .sl _ _=>False
 | .vu _=>False
 | .dp _ _ _=>False
 | .mp _ τ _ _=>S.plain τ=true
 | .mr _ τ _ _ _=>S.plain τ=true
 | _=>True
theorem SM {w:World} {D D':Nat->Prop} {f:Fd} {x:f.T S.T} {v:Value} (hf:f.plain=true) (h:Aq S w D (f.fc x) v):Aq S w D' (f.fc x) v:=by
 cases f<;>simp only [Fd.plain,Bool.false_eq_true] at hf<;>simp only [Fd.fc] at h ⊢ <;>cases h<;>constructor
theorem J8 {w:World} {D D':Nat->Prop}: ∀ {fs:List Fd} {p:Ps S.T fs} {vs:List Value},fs.all Fd.plain=true->AE S w D (Du fs p) vs->AE S w D' (Du fs p) vs
 | [],p,vs,_,h=>by
  have:vs=[]:=by have:=h.1;simp only [Du,List.length_nil] at this;exact List.eq_nil_of_length_eq_zero this.symm
  subst this;exact AE.nil
 | f::r,p,vs,hp,h=>by
  simp only [List.all_cons,Bool.and_eq_true] at hp
  obtain ⟨v,u,rfl,h1,h2⟩:=AE.C4 h
  exact AE.cons (SM hp.1 h1) (J8 hp.2 h2)
theorem MX {w:World} {D D':Nat->Prop} {τ:Nat} (hp:S.plain τ=true): ∀ {l:List (S.T τ)} {vs:List Value},AE S w D (S.flat τ l) vs->AE S w D' (S.flat τ l) vs
 | [],vs,h=>by
  have:vs=[]:=by have:=h.1;simp only [Am.flat,List.flatMap_nil,List.length_nil] at this;exact List.eq_nil_of_length_eq_zero this.symm
  subst this;simpa [Am.flat] using AE.nil
 | x::l,vs,h=>by
  rw [S.Bc] at h ⊢
  have hl:(S.enc τ x).length<=vs.length:=by rw [<-h.1];simp
  have h1:=h.take (S.enc τ x).length
  have h2:=h.drop (S.enc τ x).length
  rw [List.take_left'] at h1
  ·rw [List.drop_left'] at h2
   ·rw [<-List.take_append_drop (S.enc τ x).length vs]
    exact (J8 hp h1).append (MX hp h2)
   ·rfl
  ·rfl
theorem MapAt.plain {w:World} {D D':Nat->Prop} {κ:Fd} {τ:Nat} {ag:Bool} {b:Nat} {l:List (κ.T S.T×S.T τ)} (hp:S.plain τ=true) (h:MapAt S w D κ τ ag b l):MapAt S w D' κ τ ag b l:=by
 obtain ⟨es,h1,h2,h3⟩:=h
 exact ⟨es,h1,h2,fun j x e hx he=>let ⟨k0,k1,vs,k2,k3⟩:=h3 j x e hx he;⟨k0,k1,vs,k2,J8 hp k3⟩⟩
theorem Own.Ma {w:World} {D D':Nat->Prop} {β:Nat->Nm} {nm:Nm} {b:Own S} (hb:b.free S) (h:b.holds D β w nm):b.holds D' β w nm:=by
 cases b with
 | AQ T cs=>exact h
 | row T sz n cs=>exact h
 | tr τ E l=>obtain ⟨h0,vs,h1,h2⟩:=h;exact ⟨h0,vs,h1,MX hb h2⟩
 | sl τ l=>exact hb.elim
 | vu cs=>exact hb.elim
 | obj p=>exact h
 | any=>exact h
 | dp=>exact hb.elim
 | mp κ τ ag l=>obtain ⟨g,h1,h2⟩:=h;exact ⟨g,h1,MapAt.plain hb h2⟩
 | mr κ τ ag E ls=>obtain ⟨h0,vs,h1,h2⟩:=h;exact ⟨h0,vs,h1,fun e m he=>let ⟨b,c,k1,k2,k3⟩:=h2.cell e m he;⟨b,c,k1,k2,k3.plain hb⟩,h2.inj,h2.ne⟩
theorem Kf: ∀ {fs:List Fd} {p:Ps S.T fs} {n:Nat} {o:List (Nat×Own S)} {cs:List SV} {o':List (Nat×Own S)} {n':Nat},fs.all Fd.plain=true->CP (Du fs p) n o=(cs,o',n')->o'=o
 | [],p,n,o,cs,o',n',_,h=>by simp only [Du,CP,Prod.mk.injEq] at h;exact h.2.1.symm
 | f::r,p,n,o,cs,o',n',hp,h=>by
  simp only [List.all_cons,Bool.and_eq_true] at hp
  cases f<;>simp only [Fd.plain,Bool.false_eq_true,false_and] at hp<;>simp only [Du,Fd.fc,CP,Prod.mk.injEq] at h<;>rw [<-h.2.1]<;>exact Kf (p:=p.2) hp.2 rfl
def Cp (o:List (Nat×Own S)):Prop:= ∀ i b,lk o i=some b->b.free S
theorem OI {p:Cl} {x:p.T S} {n:Nat} {o:List (Nat×Own S)} {cs:List SV} {o':List (Nat×Own S)} {n':Nat} (hp:p.plain S=true) (h:Bh p x n o=(cs,o',n')) (ho:Cp o):Cp o':=by
 cases p with
 | fd f=>
  have:o'=o:=Kf (fs:=[f]) (p:=(x,())) (by simpa [Cl.plain] using hp) h
  rw [this];exact ho
 | st τ=>have:o'=o:=Kf (fs:=S.fds τ) (p:=S.to τ x) hp h;rw [this];exact ho
 | own τ E=>
  simp only [Bh,Prod.mk.injEq] at h;obtain ⟨_,rfl,_⟩:=h
  intro i b hi
  rw [AI] at hi
  split at hi
  ·cases hi;exact hp
  ·exact ho i b hi
 | dp τ E=>cases hp
 | mp κ τ ag=>
  simp only [Bh,Prod.mk.injEq] at h;obtain ⟨_,rfl,_⟩:=h
  intro i b hi
  rw [AI] at hi
  split at hi
  ·cases hi;exact hp
  ·exact ho i b hi
 | mr κ τ ag E=>
  simp only [Bh,Prod.mk.injEq] at h;obtain ⟨_,rfl,_⟩:=h
  intro i b hi
  rw [AI] at hi
  split at hi
  ·cases hi;exact hp
  ·exact ho i b hi
 | al i off=>simp only [Bh,Prod.mk.injEq] at h;obtain ⟨_,rfl,_⟩:=h;exact ho
 | np=>simp only [Bh,Prod.mk.injEq] at h;obtain ⟨_,rfl,_⟩:=h;exact ho
 | hd=>
  simp only [Bh,Prod.mk.injEq] at h;obtain ⟨_,rfl,_⟩:=h
  intro i b hi
  rw [AI] at hi
  split at hi
  ·cases hi;trivial
  ·exact ho i b hi
 | hm=>
  simp only [Bh,Prod.mk.injEq] at h;obtain ⟨_,rfl,_⟩:=h
  intro i b hi
  rw [AI] at hi
  split at hi
  ·cases hi;trivial
  ·exact ho i b hi
 | rw i=>simp only [Bh,Prod.mk.injEq] at h;obtain ⟨_,rfl,_⟩:=h;exact ho
 | rm i=>simp only [Bh,Prod.mk.injEq] at h;obtain ⟨_,rfl,_⟩:=h;exact ho
 | ep i z off=>simp only [Bh,Prod.mk.injEq] at h;obtain ⟨_,rfl,_⟩:=h;exact ho
 | fn f caps=>simp only [Bh,Prod.mk.injEq] at h;obtain ⟨_,rfl,_⟩:=h;exact ho
theorem MN: ∀ {qs:List Cl} {x:PT S qs} {n:Nat} {oc:List (Nat×Own S)} {cs:List SV} {oc':List (Nat×Own S)} {n':Nat},qs.all (Cl.plain S)=true->Ea qs x n oc=(cs,oc',n')->Cp oc->Cp oc'
 | [],x,n,oc,cs,oc',n',_,h,ho=>by simp only [Ea,Prod.mk.injEq] at h;obtain ⟨_,rfl,_⟩:=h;exact ho
 | p::r,x,n,oc,cs,oc',n',hp,h,ho=>by
  simp only [List.all_cons,Bool.and_eq_true] at hp
  simp only [Ea] at h
  rcases hE:Bh p x.1 n oc with ⟨a,o1,n1⟩
  rw [hE] at h
  simp only at h
  rcases hE2:Ea r x.2 n1 o1 with ⟨b,o2,n2⟩
  rw [hE2] at h
  simp only [Prod.mk.injEq] at h
  obtain ⟨_,rfl,_⟩:=h
  exact MN hp.2 hE2 (OI hp.1 hE ho)
theorem MK: ∀ {qs:List Cl} {x:PT S qs} {n:Nat} {oc:List (Nat×Own S)} {cs:List SV} {oc':List (Nat×Own S)} {n':Nat},qs.all (Cl.plain S)=true->B6 qs x n oc=(cs,oc',n')->Cp oc->Cp oc'
 | [],x,n,oc,cs,oc',n',_,h,ho=>by simp only [B6,Prod.mk.injEq] at h;obtain ⟨_,rfl,_⟩:=h;exact ho
 | p::r,x,n,oc,cs,oc',n',hp,h,ho=>by
  simp only [List.all_cons,Bool.and_eq_true] at hp
  simp only [B6] at h
  rcases hE:Bh p x.1 n oc with ⟨a,o1,n1⟩
  rw [hE] at h
  simp only at h
  rcases hE2:B6 r x.2 n1 o1 with ⟨b,o2,n2⟩
  rw [hE2] at h
  simp only [Prod.mk.injEq] at h
  obtain ⟨_,rfl,_⟩:=h
  exact MK hp.2 hE2 (OI hp.1 hE ho)
theorem RQ: ∀ {qs:List Cl} {x:PT S qs} {c:Own S},qs.all (Cl.plain S)=true->rowOf qs x=some c->c.free S
 | [],x,c,_,h=>by simp [rowOf] at h
 | _::_::_,x,c,_,h=>by simp [rowOf] at h
 | [p],x,c,hp,h=>by
  simp only [List.all_cons,List.all_nil,Bool.and_true] at hp
  cases p<;>simp only [rowOf,NV,Option.some.injEq,reduceCtorEq] at h
  ·subst h;exact hp
  ·cases hp
  ·subst h;exact hp
  ·subst h;exact hp
theorem QY {b:Ga} {x:PT S b.ps} {n:Nat} {oc:List (Nat×Own S)} {oc':List (Nat×Own S)} {n':Nat} (hp:b.ps.all (Cl.plain S)=true) (h:Ft b x n oc=(oc',n')) (ho:Cp oc):Cp oc':=by
 unfold Ft at h
 split at h
 ·rcases hE:Ea b.ps x n oc with ⟨a,o1,n1⟩
  rw [hE] at h
  simp only [Prod.mk.injEq] at h
  obtain ⟨rfl,rfl⟩:=h
  intro i c hi
  rw [AI] at hi
  split at hi
  ·cases hi;exact trivial
  ·exact MN hp hE ho i c hi
 ·split at h
  ·rename_i c hc
   simp only [Prod.mk.injEq] at h
   obtain ⟨rfl,rfl⟩:=h
   intro i d hi
   rw [AI] at hi
   split at hi
   ·cases hi;exact RQ hp hc
   ·exact ho i d hi
  ·simp only [Prod.mk.injEq] at h
   obtain ⟨rfl,rfl⟩:=h
   exact ho
theorem MM: ∀ {bs:List Ga} {x:BT S bs} {n:Nat} {oc:List (Nat×Own S)} {oc':List (Nat×Own S)} {n':Nat},(bs.all fun b=>b.ps.all (Cl.plain S))=true->EZ bs x n oc=(oc',n')->Cp oc->Cp oc'
 | [],x,n,oc,oc',n',_,h,ho=>by simp only [EZ,Prod.mk.injEq] at h;obtain ⟨rfl,_⟩:=h;exact ho
 | b::r,x,n,oc,oc',n',hp,h,ho=>by
  simp only [List.all_cons,Bool.and_eq_true] at hp
  simp only [EZ] at h
  rcases hE:Ft b x.1 n oc with ⟨o1,n1⟩
  rw [hE] at h
  exact MM hp.2 h (QY hp.1 hE ho)
theorem Spec.MP {q:Spec} {x:q.D S} {n:Nat} {vs:List SV} {o':List (Nat×Own S)} {n':Nat} (hp:q.plain S=true) (h:q.enc x n=(vs,o',n')):Cp o':=by
 unfold Spec.plain at hp
 simp only [Bool.and_eq_true] at hp
 unfold Spec.enc at h
 rcases hE:B6 q.as x.1 n [] with ⟨a,o1,n1⟩
 rw [hE] at h
 simp only at h
 rcases hE2:EZ q.bx x.2 n1 o1 with ⟨o2,n2⟩
 rw [hE2] at h
 simp only [Prod.mk.injEq] at h
 obtain ⟨_,rfl,_⟩:=h
 exact MM hp.2 hE2 (MK hp.1 hE fun i b h=>by simp [AP] at h)
def Dk (c:Bw S) (y:c.rs.D S) (w:World) (D:Nat->Prop) (β:Nat->Nm) (o:List (Nat×Own S)):Ending->World->Prop:=fun e w'=>
 ∃ D' β' rs' o' n',c.rs.enc y (HF c.bn c.rs)=(rs',o',n')/\e=.returned ((As rs').den β')/\(∀ i,i<c.bn->β' i=β i)/\GH w (AJ o β) D D' o' (· <n') β' w'/\BM (· <n') rs'/\c.bn<=n'
def Bm (P:Program) (f:Nat):Bool:=match P.funcs[f]? with
 | some fn=>fn.body.isSome && !(fn.name == "runtime.NumGoroutine")
 | none=>false
structure Bw.Holds (P:Program) (c:Bw S):Prop where
 Bm:Bm P c.f=true
 bound:c.sp.okB c.bn=true
 flat:c.flat=true->c.rs.plain S=true
 calls: ∀ x y,c.out.gives x y-> ∀ w D β vs o n,c.sp.enc x c.bn=(vs,o,n)->GH w (AJ o β) D D o (· <n) β w->BM (· <n) vs->c.bn<=n->S.inv D w->Calls P c.f (AA β vs).toArray w (Dk c y w D β o)
theorem Cf {P:Program} {w:World} {f:Nat} {args:Array Value} (h:Bm P f=true):(callFunc f args).run P w=.ok (.enter f args) w:=by
 unfold Bm at h
 split at h
 case h_2=>cases h
 rename_i fn hf
 simp only [Bool.and_eq_true,Bool.not_eq_true'] at h
 obtain ⟨h1,h2⟩:=h
 have h3:¬ fn.body=none:=by cases hb:fn.body<;>simp_all
 have h4:¬ fn.name= "runtime.NumGoroutine" :=by simpa using h2
 simp [callFunc,hf,h4,h3]
mutual
theorem ZX {β β':Nat->Nm} {r:Nat->Nat} {N:Nat->Prop} (h: ∀ i,N i->β (r i)=β' i): ∀ x:SV,x.on N->(x.I5 r).den β=x.den β'
 | .v _,_=>by simp [SV.I5,SV.den]
 | .b _,_=>by simp [SV.I5,SV.den]
 | .ptr i _,hx=>by simp only [SV.on] at hx;simp [SV.I5,SV.den,h i hx]
 | .row i _,hx=>by simp only [SV.on] at hx;simp [SV.I5,SV.den,h i hx]
 | .tr i,hx=>by simp only [SV.on] at hx;simp [SV.I5,SV.den,h i hx]
 | .ep i _ _ _,hx=>by simp only [SV.on] at hx;simp [SV.I5,SV.den,h i hx]
 | .view i _ _ _,hx=>by simp only [SV.on] at hx;simp [SV.I5,SV.den,h i hx]
 | .Bt i,hx=>by simp only [SV.on] at hx;simp [SV.I5,SV.den,h i hx]
 | .mk i _,hx=>by simp only [SV.on] at hx;simp [SV.I5,SV.den,h i hx]
 | .hm i,hx=>by simp only [SV.on] at hx;simp [SV.I5,SV.den,h i hx]
 | .h i,hx=>by simp only [SV.on] at hx;simp [SV.I5,SV.den,h i hx]
 | .vp i _,hx=>by simp only [SV.on] at hx;simp [SV.I5,SV.den,h i hx]
 | .ap i _ _ _,hx=>by simp only [SV.on] at hx;simp [SV.I5,SV.den,h i hx]
 | .pr i _ _ _,hx=>by simp only [SV.on] at hx;simp [SV.I5,SV.den,h i hx]
 | .pp i _ _ _ _ _ _,hx=>by simp only [SV.on] at hx;simp [SV.I5,SV.den,h i hx]
 | .agg cs,hx=>by simp only [SV.on] at hx;simp only [SV.I5,SV.den];rw [DS h cs hx]
 | .GY cs,hx=>by simp only [SV.on] at hx;simp only [SV.I5,SV.den];rw [DS h cs hx]
 | .fn _ cs,hx=>by simp only [SV.on] at hx;simp only [SV.I5,SV.den];rw [DS h cs hx]
theorem DS {β β':Nat->Nm} {r:Nat->Nat} {N:Nat->Prop} (h: ∀ i,N i->β (r i)=β' i): ∀ l:List SV,BM N l->AA β (CJ r l)=AA β' l
 | [],_=>by simp [CJ,AA]
 | x::t,hx=>by
  simp only [BM] at hx
  simp only [CJ,AA]
  rw [ZX h x hx.1,DS h t hx.2]
end
mutual
theorem NK {r:Nat->Nat} {N N':Nat->Prop} (h: ∀ i,N i->N' (r i)): ∀ {x:SV},x.on N->(x.I5 r).on N'
 | .v _,_=>trivial
 | .b _,_=>trivial
 | .ptr i _,hx=>h i hx
 | .row i _,hx=>h i hx
 | .tr i,hx=>h i hx
 | .ep i _ _ _,hx=>h i hx
 | .view i _ _ _,hx=>h i hx
 | .Bt i,hx=>h i hx
 | .mk i _,hx=>h i hx
 | .hm i,hx=>h i hx
 | .h i,hx=>h i hx
 | .vp i _,hx=>h i hx
 | .ap i _ _ _,hx=>h i hx
 | .pr i _ _ _,hx=>h i hx
 | .pp i _ _ _ _ _ _,hx=>h i hx
 | .agg _,hx=>Fj h hx
 | .GY _,hx=>Fj h hx
 | .fn _ _,hx=>Fj h hx
theorem Fj {r:Nat->Nat} {N N':Nat->Prop} (h: ∀ i,N i->N' (r i)): ∀ {l:List SV},BM N l->BM N' (CJ r l)
 | [],_=>trivial
 | _::_,hx=>⟨NK h hx.1,Fj h hx.2⟩
end
theorem Own.NK {r:Nat->Nat} {N N':Nat->Prop} (h: ∀ i,N i->N' (r i)) {b:Own S} (hb:b.on N):(b.I5 r).on N':=by
 cases b<;>first|exact Fj h hb|trivial
theorem Own.KD {D:Nat->Prop} {β β':Nat->Nm} {r:Nat->Nat} {N:Nat->Prop} {w:World} {nm:Nm} {b:Own S} (h: ∀ i,N i->β (r i)=β' i) (hn:b.on N) (hh:b.holds D β' w nm):(b.I5 r).holds D β w nm:=by
 cases b with
 | AQ T cs=>simp only [Own.on] at hn;simpa only [Own.I5,Own.holds,DS h cs hn] using hh
 | row T sz k cs=>simp only [Own.on] at hn;simpa only [Own.I5,Own.holds,DS h cs hn] using hh
 | vu cs=>simp only [Own.on] at hn;simpa only [Own.I5,Own.holds,DS h cs hn] using hh
 | tr=>exact hh
 | sl=>exact hh
 | obj p=>exact hh
 | any=>exact hh
 | dp=>exact hh
 | mp=>exact hh
 | mr=>exact hh
theorem EW {r:Nat->Nat}: ∀ {o:List (Nat×Own S)} (i:Nat) (b:Own S),lk (Dj r o) i=some b-> ∃ j c,lk o j=some c/\r j=i/\b=c.I5 r
 | [],i,b,h=>by simp [Dj,AP] at h
 | (d,x)::t,i,b,h=>by
  simp only [Dj,AI] at h
  split at h
  ·rename_i he;cases h;exact ⟨d,x,by simp [AI],he,rfl⟩
  ·rename_i hne
   obtain ⟨j,c,h1,h2,h3⟩:=EW i b h
   exact ⟨j,c,by rw [AI,if_neg (fun e=>by subst e;exact hne h2)];exact h1,h2,h3⟩
theorem Ro {m:List (Nat×Nat)}: ∀ {bn:Nat} {l:List Nat},Nj m bn=some l-> ∀ i,i<bn-> ∃ j,lk m i=some j/\j∈l
 | 0,l,h,i,hi=>by omega
 | bn+1,l,h,i,hi=>by
  simp only [Nj] at h
  split at h
  case h_2=>cases h
  rename_i j hj
  split at h
  case h_2=>cases h
  rename_i l' hl
  cases h
  by_cases e:i=bn
  ·subst e;exact ⟨j,hj,by simp⟩
  ·obtain ⟨k,h1,h2⟩:=Ro hl i (by omega)
   exact ⟨k,h1,List.mem_cons_of_mem _ h2⟩
theorem QM {n:Nat}: ∀ {l:List Nat},Tf n l=true-> ∀ j∈l,j<n
 | [],_,j,hj=>by simp at hj
 | x::r,h,j,hj=>by
  simp only [Tf] at h
  split at h
  case h_2=>cases h
  rename_i hx
  rcases List.mem_cons.1 hj with rfl|hj
  ·exact Nat.le_of_ble_eq_true hx
  ·exact QM h j hj
theorem de {m:List (Nat×Nat)} {bn n:Nat} (h:fx m bn n=true): ∀ i,i<bn-> ∃ j,lk m i=some j/\j<n:=by
 unfold fx at h
 split at h
 case h_2=>cases h
 rename_i l hl
 intro i hi
 obtain ⟨j,h1,h2⟩:=Ro hl i hi
 exact ⟨j,h1,QM h j h2⟩
theorem YL {f:Fd} {v:SV} {ps ps':PS S} {x:f.T S.T} (h:ba false f v ps=some (x,ps')):ps'.bl=ps.bl:=by
 unfold ba at h
 split at h
 ·cases h
 ·split at h
  ·cases h;rfl
  ·cases h
theorem UT {p:Cl} {cs r:List SV} {ps ps':PS S} {x:p.T S} (h:pP false p cs ps=some (x,r,ps')):ps'.bl=ps.bl:=by
 unfold pP at h
 split at h
 ·split at h
  ·rename_i hx;cases h;exact YL hx
  ·cases h
 ·split at h
  ·cases h;rfl
  ·cases h
 ·split at h
  ·rename_i hx
   cases h
   unfold TL at hx
   split at hx
   ·split at hx
    case h_2=>cases hx
    split at hx
    ·cases hx;rfl
    ·cases hx
   ·split at hx
    ·cases hx;rfl
    ·cases hx
   ·split at hx
    case h_2=>cases hx
    split at hx
    case h_2=>cases hx
    split at hx
    ·cases hx;rfl
    ·cases hx
   ·cases hx
  ·cases h
 ·split at h
  ·rename_i hx
   cases h
   unfold dj at hx
   split at hx
   ·split at hx
    case h_2=>cases hx
    split at hx
    ·cases hx;rfl
    ·cases hx
   ·split at hx
    ·cases hx;rfl
    ·cases hx
   ·cases hx
  ·cases h
 ·split at h
  ·rename_i hx
   cases h
   unfold du at hx
   split at hx
   ·split at hx
    case h_2=>cases hx
    split at hx
    ·cases hx;rfl
    ·cases hx
   ·cases hx
  ·cases h
 ·split at h
  ·rename_i hx
   cases h
   unfold dy at hx
   split at hx
   ·split at hx
    case h_2=>cases hx
    split at hx
    ·cases hx;rfl
    ·cases hx
   ·split at hx
    ·cases hx;rfl
    ·cases hx
   ·cases hx
  ·cases h
 ·split at h
  ·cases h;rfl
  ·cases h
 ·split at h
  ·cases h;rfl
  ·cases h
 ·split at h
  ·cases h;rfl
  ·cases h
 ·split at h
  ·cases h;rfl
  ·cases h
 ·split at h
  ·cases h;rfl
  ·cases h
 ·cases h;rfl
 ·split at h
  ·cases h;rfl
  ·cases h
 ·split at h
  ·cases h;rfl
  ·cases h
 ·cases h
theorem RM: ∀ {qs:List Cl} {cs:List SV} {ps ps':PS S} {x:PT S qs},QI false qs cs ps=some (x,ps')->ps'.bl=ps.bl
 | [],[],ps,ps',x,h=>by simp only [QI,Option.some.injEq,Prod.mk.injEq] at h;rw [<-h.2]
 | [],_::_,ps,ps',x,h=>by simp [QI] at h
 | p::r,cs,ps,ps',x,h=>by
  simp only [QI] at h
  split at h
  case h_2=>cases h
  rename_i h1
  split at h
  case h_2=>cases h
  rename_i h2
  cases h
  rw [RM h2,UT h1]
theorem RJ: ∀ {qs:List Cl} {vs:List SV} {ps ps':PS S} {x:PT S qs},Nq false qs vs ps=some (x,ps')->ps'.bl=ps.bl
 | [],[],ps,ps',x,h=>by simp only [Nq,Option.some.injEq,Prod.mk.injEq] at h;rw [<-h.2]
 | [],_::_,ps,ps',x,h=>by simp [Nq] at h
 | _::_,[],ps,ps',x,h=>by simp [Nq] at h
 | p::r,v::vs,ps,ps',x,h=>by
  simp only [Nq] at h
  split at h
  case h_2=>cases h
  split at h
  case h_2=>cases h
  rename_i h1
  split at h
  case h_2=>cases h
  rename_i h2
  cases h
  rw [RJ h2,UT h1]
theorem VR {b:Ga} {j:Nat} {ps ps':PS S} {x:PT S b.ps} (h:Pz b j ps=some (x,ps')):ps'.bl=ps.bl:=by
 unfold Pz at h
 split at h
 ·split at h
  case h_2=>cases h
  split at h
  case h_2=>cases h
  rw [RM h]
 ·obtain ⟨c,_,_,rfl⟩:=L1 h;rfl
theorem RL: ∀ {bs:List Ga} {seen:List Nat} {ps ps':PS S} {x:BT S bs},US bs seen ps=some (x,ps')->ps'.bl=ps.bl
 | [],seen,ps,ps',x,h=>by simp only [US,Option.some.injEq,Prod.mk.injEq] at h;rw [<-h.2]
 | b::r,seen,ps,ps',x,h=>by
  simp only [US] at h
  split at h
  case h_2=>cases h
  split at h
  case h_2=>cases h
  split at h
  case h_2=>cases h
  rename_i h1
  split at h
  case h_2=>cases h
  rename_i h2
  cases h
  rw [RL h2,VR h1]
theorem Spec.I2 {q:Spec} {vs:List SV} {o:List (Nat×Own S)} {m:List (Nat×Nat)} {bn:Nat} {x:q.D S} {ps:PS S} (h:q.parse false vs o m bn=some (x,ps)):ps.bl=[]:=by
 unfold Spec.parse at h
 split at h
 case h_2=>cases h
 rename_i h1
 split at h
 case h_2=>cases h
 rename_i h2
 cases h
 rw [RL h2,RJ h1]
theorem Ur {w0:World} {F D0 D:Nat->Prop} {o:List (Nat×Own S)} {N:Nat} {β:Nat->Nm} {w:World} {c:Bw S} {x:c.sp.D S} {ps:PS S} {args:List SV} (hg:GH w0 F D0 D o (· <N) β w) (h:c.sp.parse c.flat args o [] c.bn=some (x,ps)) (hc:c.sp.okB c.bn=true) (hflat:c.flat=true->c.rs.plain S=true)
  (hm:fx ps.m c.bn N=true) {y:c.rs.D S} {P:Program} {f:Nat} (hcall: ∀ w D β vs o n,c.sp.enc x c.bn=(vs,o,n)->GH w (AJ o β) D D o (· <n) β w->BM (· <n) vs->c.bn<=n->S.inv D w->Calls P f (AA β vs).toArray w (Dk c y w D β o)) (hiv:S.inv D w)
  {rs':List SV} {o':List (Nat×Own S)} {n':Nat} (he:c.rs.enc y (HF c.bn c.rs)=(rs',o',n')):
  Calls P f (AA β args).toArray w fun e w'=> ∃ D' β',e=.returned ((As (CJ (Bb c.bn ps.m N) rs')).den β')/\(∀ i,i<N->β i=β' i)/\GH w0 F D0 D' (Dj (Bb c.bn ps.m N) o'++ps.o) (· <N+(n' -c.bn)) β' w'/\(As (CJ (Bb c.bn ps.m N) rs')).on (· <N+(n' -c.bn)):=by
 rcases hE:c.sp.enc x c.bn with ⟨vs,o1,n1⟩
 obtain ⟨β1,hbox,hgh1,hden,hon1,hbn1,hcross,hsub,_,hbl⟩:=Spec.B2 hg h hc hE
 have hmok:=de hm
 rw [hden]
 refine (hcall w (FH D β ps.bl) β1 vs o1 n1 hE ⟨hgh1.Bf,hgh1.own,hgh1.inj,fun i b k hi hk=>.inr ⟨i,b,hi,hk⟩,hgh1.off,hgh1.lt,hgh1.C5,fun k hk=>.inl hk,Ns.refl _ _,fun _ h=>h⟩ hon1 hbn1 (S.FJ hiv (fun _ _=>rfl) fun k hk=>.inl hk)).mono fun e w' ⟨D',β',rs2,o2,n2,he2,hret,hb',hgh2,honr,hn2⟩=>?_
 rw [he] at he2
 simp only [Prod.mk.injEq] at he2
 obtain ⟨rfl,rfl,rfl⟩:=he2
 -- blocks of what is lent and of what stays are as they were
 have hkeepD: ∀ k,FH D β ps.bl k->w'.heap[k]?=w.heap[k]?:=fun k hk=>hgh2.fr.block k (hgh1.C5 k hk) fun ⟨i,b,hi,hik⟩=>hgh1.off i b k hi hik hk
 have hoff: ∀ i c' k,lk ps.o i=some c'->(β i).has k->¬ AJ o1 β1 k:=fun i c' k hi hk ⟨j,d,hj,hjk⟩=>by
  by_cases hib:i∈ps.bl
  ·exact hgh1.off j d k hj hjk (.inr ⟨i,hib,hk⟩)
  ·exact hcross i c' j d k hi hib hj hk hjk
 have hkeepR: ∀ i c' k,lk ps.o i=some c'->(β i).has k->w'.heap[k]?=w.heap[k]?:=fun i c' k hi hk=>
  hgh2.fr.block k (hg.lt i c' k (hsub i c' hi) hk) (hoff i c' k hi hk)
 let D2:Nat->Prop:=fun k=>(D' k\/D k)/\¬ ∃ i∈ps.bl,(β i).has k
 have hDlent: ∀ k,D k->FH D β ps.bl k:=fun k hk=>.inl hk
 have hDD2: ∀ k,D k->D2 k:=fun k hk=>⟨.inr hk,fun ⟨i,hi,hik⟩=>by
  obtain ⟨c',hc'⟩:=hbl i hi
  exact hg.off i c' k (hsub i c' hc') hik hk⟩
 let r:=Bb c.bn ps.m N
 let βn:Nat->Nm:=fun i=>if i<N then β i else β' (i -N+c.bn)
 have hβn: ∀ i,i<N->β i=βn i:=fun i hi=>by simp only [βn];rw [if_pos hi]
 have hr: ∀ i,i<n'->βn (r i)=β' i:=fun i hi=>by
  by_cases hib:i<c.bn
  ·obtain ⟨j,hj,hjN⟩:=hmok i hib
   have e1:r i=j:=by simp only [r,Bb];rw [show Nat.ble (i+1) c.bn=true from Nat.ble_eq_true_of_le hib];simp only [hj]
   rw [e1,<- hβn j hjN,hb' i hib,hbox i hib j hj]
  ·have e1:r i=N+(i -c.bn):=by
    simp only [r,Bb]
    have:Nat.ble (i+1) c.bn=false:=by
     cases hb:Nat.ble (i+1) c.bn
     ·rfl
     ·exact absurd (Nat.le_of_ble_eq_true hb) hib
    rw [this]
   simp only [e1,βn]
   rw [if_neg (by omega)]
   congr 1;omega
 have hrN: ∀ i,i<n'->r i<N+(n' -c.bn):=fun i hi=>by
  by_cases hib:i<c.bn
  ·obtain ⟨j,hj,hjN⟩:=hmok i hib
   have e1:r i=j:=by simp only [r,Bb];rw [show Nat.ble (i+1) c.bn=true from Nat.ble_eq_true_of_le hib];simp only [hj]
   omega
  ·have e1:r i=N+(i -c.bn):=by
    simp only [r,Bb]
    have:Nat.ble (i+1) c.bn=false:=by
     cases hb:Nat.ble (i+1) c.bn
     ·rfl
     ·exact absurd (Nat.le_of_ble_eq_true hb) hib
    rw [this]
   omega
 have hcase: ∀ i b,lk (Dj r o'++ps.o) i=some b->(∃ j c',lk o' j=some c'/\r j=i/\b=c'.I5 r)\/lk ps.o i=some b:=fun i b h=>by
  rw [Ml] at h
  cases h1:lk (Dj r o') i with
  | none=>rw [h1] at h;exact .inr (by simpa using h)
  | some c'=>rw [h1] at h;simp at h;subst h;exact .inl (EW i _ h1)
 have hRN: ∀ i b,lk ps.o i=some b->i<N:=fun i b hi=>(hg.Bf i b (hsub i b hi)).1
 have hfree:ps.bl=[]\/Cp o':=by
  cases hfl:c.flat with
  | true=>exact .inr (Spec.MP (hflat hfl) he)
  | false=>rw [hfl] at h;exact .inl (Spec.I2 h)
 have hold: ∀ j c' k,lk o' j=some c'->(β' j).has k->AJ o1 β1 k\/w.heap.size<=k:=fun j c' k hj hk=>(hgh2.fresh j c' k hj hk).symm
 have hsep: ∀ i b j c' k,lk ps.o i=some b->lk o' j=some c'->(β i).has k->(β' j).has k->False:=fun i b j c' k hi hj hk hjk=>by
  rcases hold j c' k hj hjk with h1|h1
  ·exact hoff i b k hi hk h1
  ·have:=hg.lt i b k (hsub i b hi) hk;omega
 have hfr1: ∀ k,AJ o1 β1 k->w0.heap.size<=k\/F k:=fun k ⟨i,b,hi,hik⟩=>hgh1.fresh i b k hi hik
 refine ⟨D2,βn,?_,hβn,⟨fun i b hi=>?_,fun i b hi=>?_,fun i j b b' k hi hj hk hl=>?_,fun i b k hi hk=>?_,fun i b k hi hk hD=>?_,fun i b k hi hk=>?_,fun k hk=>?_,fun k hk=>?_,?_,fun k hk=>hDD2 k (hg.sub k hk)⟩,?_⟩
 ·rw [hret]
  congr 1
  have hd:=DS (β:=βn) (β':=β') (r:=r) (N:=(· <n')) hr rs' honr
  cases hrs:rs' with
  | nil=>simp [As,CJ,SV.den,AA]
  | cons a t=>
   cases t with
   | nil=>rw [hrs] at hd;simp only [CJ,AA,List.cons.injEq,and_true] at hd;simp only [As,CJ];exact hd.symm
   | cons b t=>rw [hrs] at hd;simp only [As,CJ,SV.den];simp only [CJ] at hd;rw [hd]
 ·rcases hcase i b hi with ⟨j,c',hj,hji,rfl⟩|hi
  ·obtain ⟨h1,h2⟩:=hgh2.Bf j c' hj
   exact ⟨by rw [<-hji];exact hrN j h1,Own.NK hrN h2⟩
  ·exact ⟨Nat.lt_of_lt_of_le (hRN i b hi) (Nat.le_add_right _ _),Own.Aj (fun _ h=>Nat.lt_of_lt_of_le h (Nat.le_add_right _ _)) (hg.Bf i b (hsub i b hi)).2⟩
 ·rcases hcase i b hi with ⟨j,c',hj,hji,rfl⟩|hi
  ·obtain ⟨h1,h2⟩:=hgh2.Bf j c' hj
   rw [<-hji,hr j h1]
   refine Own.KD (N:=(· <n')) hr h2 ?_
   have h3:=hgh2.own j c' hj
   rcases hfree with hf|hf
   ·exact Own.Br h3 fun k hk=>⟨.inl hk,fun ⟨i,hi,_⟩=>by rw [hf] at hi;simp at hi⟩
   ·exact Own.Ma (hf j c' hj) h3
  ·rw [<-hβn i (hRN i b hi)]
   have h3:=hg.own i b (hsub i b hi)
   exact Own.Br (Own.Dc (Own.Dm hβn (hg.Bf i b (hsub i b hi)).2 h3) (fun k hk=>hkeepR i b k hi hk) fun k hk=>hkeepD k (.inl hk)) hDD2
 ·rcases hcase i b hi with ⟨i',c1,hi1,e1,_⟩|hi<;>rcases hcase j b' hj with ⟨j',c2,hj1,e2,_⟩|hj
  ·rw [<-e1,hr i' (hgh2.Bf i' c1 hi1).1] at hk
   rw [<-e2,hr j' (hgh2.Bf j' c2 hj1).1] at hl
   rw [<-e1,<- e2,hgh2.inj i' j' c1 c2 k hi1 hj1 hk hl]
  ·rw [<-e1,hr i' (hgh2.Bf i' c1 hi1).1] at hk
   rw [<-hβn j (hRN j b' hj)] at hl
   exact (hsep j b' i' c1 k hj hi1 hl hk).elim
  ·rw [<-hβn i (hRN i b hi)] at hk
   rw [<-e2,hr j' (hgh2.Bf j' c2 hj1).1] at hl
   exact (hsep i b j' c2 k hi hj1 hk hl).elim
  ·rw [<-hβn i (hRN i b hi)] at hk;rw [<-hβn j (hRN j b' hj)] at hl
   exact hg.inj i j b b' k (hsub i b hi) (hsub j b' hj) hk hl
 ·rcases hcase i b hi with ⟨j,c',hj,hji,_⟩|hi
  ·rw [<-hji,hr j (hgh2.Bf j c' hj).1] at hk
   rcases hold j c' k hj hk with h1|h1
   ·exact hfr1 k h1
   ·exact .inl (Nat.le_trans hg.fr.size h1)
  ·rw [<-hβn i (hRN i b hi)] at hk
   exact hg.fresh i b k (hsub i b hi) hk
 ·rcases hcase i b hi with ⟨j,c',hj,hji,_⟩|hi
  ·rw [<-hji,hr j (hgh2.Bf j c' hj).1] at hk
   rcases hD.1 with h1|h1
   ·exact hgh2.off j c' k hj hk h1
   ·rcases hold j c' k hj hk with ⟨l,d,hl,hlk⟩|h2
    ·exact hgh1.off l d k hl hlk (.inl h1)
    ·have:=hg.C5 k h1;omega
  ·rw [<-hβn i (hRN i b hi)] at hk
   have hio:=hsub i b hi
   rcases hD.1 with hD1|hD1
   case inr=>exact hg.off i b k hio hk hD1
   rcases hgh2.Jz k hD1 with h1|h1|h1
   ·rcases h1 with h1|h1
    ·exact hg.off i b k hio hk h1
    ·exact hD.2 h1
   ·exact hoff i b k hi hk h1
   ·have:=hg.lt i b k hio hk;omega
 ·rcases hcase i b hi with ⟨j,c',hj,hji,_⟩|hi
  ·rw [<-hji,hr j (hgh2.Bf j c' hj).1] at hk
   exact hgh2.lt j c' k hj hk
  ·rw [<-hβn i (hRN i b hi)] at hk
   exact Nat.lt_of_lt_of_le (hg.lt i b k (hsub i b hi) hk) hgh2.fr.size
 ·rcases hk.1 with h1|h1
  ·exact hgh2.C5 k h1
  ·exact Nat.lt_of_lt_of_le (hg.C5 k h1) hgh2.fr.size
 ·rcases hk.1 with hk1|hk1
  case inr=>exact hg.Jz k hk1
  rcases hgh2.Jz k hk1 with h1|h1|h1
  ·rcases h1 with h1|h1
   ·exact hg.Jz k h1
   ·exact absurd h1 hk.2
  ·rcases hfr1 k h1 with h2|h2
   ·exact .inr (.inr h2)
   ·exact .inr (.inl h2)
  ·exact .inr (.inr (Nat.le_trans hg.fr.size h1))
 ·refine ⟨hgh2.fr.os.trans hg.fr.os,hgh2.fr.tape.trans hg.fr.tape,hgh2.fr.output.trans hg.fr.output,Nat.le_trans hg.fr.size hgh2.fr.size,fun k hk hF=>?_⟩
  refine (hgh2.fr.block k (Nat.lt_of_lt_of_le hk hg.fr.size) fun hb=>?_).trans (hg.fr.block k hk hF)
  rcases hfr1 k hb with h1|h1
  ·omega
  ·exact hF h1
 ·have ho:=Fj (N:=(· <n')) (N':=(· <N+(n' -c.bn))) hrN honr
  cases hrs:rs' with
  | nil=>simp [As,CJ,SV.on,BM]
  | cons a t=>
   cases t with
   | nil=>rw [hrs] at ho;exact ho.1
   | cons b t=>rw [hrs] at ho;exact ho
end
end Go.En
