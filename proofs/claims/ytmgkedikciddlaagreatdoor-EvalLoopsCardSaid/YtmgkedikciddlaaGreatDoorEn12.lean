/-
 What a contract says (Ctr.Holds), and that a call goes on as the evaluation has it.
-/
import Derived.Test.YtmgkedikciddlaaGreatDoorEn11
namespace Go.En
open Go.RowKit
section
variable {S:At}
def AK (o:List (Nat×Own S)) (β:Nat->Nm):Nat->Prop:=fun k=> ∃ i b,lk o i=some b/\(β i).has k
def Fd.plain:Fd->Bool
 | .sl _=>false
 | .ow _ _=>false
 | _=>true
def At.plain (S:At) (τ:Nat):Bool:=(S.fds τ).all Fd.plain
def Cw.plain (S:At):Cw->Bool
 | .fd f=>f.plain
 | .st τ=>S.plain τ
 | .own τ _=>S.plain τ
 | .dp _ _=>false
 | .mp _ τ _=>S.plain τ
 | .mr _ τ _ _=>S.plain τ
 | _=>true
def Spec.plain (S:At) (q:Spec):Bool:=q.as.all (Cw.plain S) && q.bx.all fun b=>b.ps.all (Cw.plain S)
def Own.free (S:At):Own S->Prop
 | .tr τ _ _=>S.plain τ=true
 | .sl _ _=>False
 | .vu _=>False
 | .dp _ _ _=>False
 | .mp _ τ _ _=>S.plain τ=true
 | .mr _ τ _ _ _=>S.plain τ=true
 | _=>True
theorem S6 {w:World} {D D':Nat->Prop} {f:Fd} {x:f.T S.T} {v:Value} (hf:f.plain=true) (h:Aw S w D (f.fc x) v):Aw S w D' (f.fc x) v:=by
 cases f<;>simp only [Fd.plain,Bool.false_eq_true] at hf<;>simp only [Fd.fc] at h ⊢ <;>cases h<;>constructor
theorem Ka {w:World} {D D':Nat->Prop}: ∀ {fs:List Fd} {p:Ps S.T fs} {vs:List Value},fs.all Fd.plain=true->AF S w D (D9 fs p) vs->AF S w D' (D9 fs p) vs
 | [],p,vs,_,h=>by
  have:vs=[]:=by have:=h.1;simp only [D9,List.length_nil] at this;exact List.eq_nil_of_length_eq_zero this.symm
  subst this;exact AF.nil
 | f::r,p,vs,hp,h=>by
  simp only [List.all_cons,Bool.and_eq_true] at hp
  obtain ⟨v,u,rfl,h1,h2⟩:=AF.DD h
  exact AF.cons (S6 hp.1 h1) (Ka hp.2 h2)
theorem Mx {w:World} {D D':Nat->Prop} {τ:Nat} (hp:S.plain τ=true): ∀ {l:List (S.T τ)} {vs:List Value},AF S w D (S.flat τ l) vs->AF S w D' (S.flat τ l) vs
 | [],vs,h=>by
  have:vs=[]:=by have:=h.1;simp only [At.flat,List.flatMap_nil,List.length_nil] at this;exact List.eq_nil_of_length_eq_zero this.symm
  subst this;simpa [At.flat] using AF.nil
 | x::l,vs,h=>by
  rw [S.Bl] at h ⊢
  have hl:(S.enc τ x).length<=vs.length:=by rw [<-h.1];simp
  have h1:=h.take (S.enc τ x).length
  have h2:=h.drop (S.enc τ x).length
  rw [List.take_left'] at h1
  ·rw [List.drop_left'] at h2
   ·rw [<-List.take_append_drop (S.enc τ x).length vs]
    exact (Ka hp h1).append (Mx hp h2)
   ·rfl
  ·rfl
theorem MapAt.plain {w:World} {D D':Nat->Prop} {κ:Fd} {τ:Nat} {ag:Bool} {b:Nat} {l:List (κ.T S.T×S.T τ)} (hp:S.plain τ=true) (h:MapAt S w D κ τ ag b l):MapAt S w D' κ τ ag b l:=by
 obtain ⟨es,h1,h2,h3⟩:=h
 exact ⟨es,h1,h2,fun j x e hx he=>let ⟨k0,k1,vs,k2,k3⟩:=h3 j x e hx he;⟨k0,k1,vs,k2,Ka hp k3⟩⟩
theorem Own.M0 {w:World} {D D':Nat->Prop} {β:Nat->Nm} {nm:Nm} {b:Own S} (hb:b.free S) (h:b.holds D β w nm):b.holds D' β w nm:=by
 cases b with
 | AS T cs=>exact h
 | row T sz n cs=>exact h
 | tr τ E l=>obtain ⟨h0,vs,h1,h2⟩:=h;exact ⟨h0,vs,h1,Mx hb h2⟩
 | sl τ l=>exact hb.elim
 | vu cs=>exact hb.elim
 | obj p=>exact h
 | any=>exact h
 | dp=>exact hb.elim
 | mp κ τ ag l=>obtain ⟨g,h1,h2⟩:=h;exact ⟨g,h1,MapAt.plain hb h2⟩
 | mr κ τ ag E ls=>obtain ⟨h0,vs,h1,h2⟩:=h;exact ⟨h0,vs,h1,fun e m he=>let ⟨b,c,k1,k2,k3⟩:=h2.cell e m he;⟨b,c,k1,k2,k3.plain hb⟩,h2.inj,h2.ne⟩
theorem K5: ∀ {fs:List Fd} {p:Ps S.T fs} {n:Nat} {o:List (Nat×Own S)} {cs:List SV} {o':List (Nat×Own S)} {n':Nat},fs.all Fd.plain=true->Ca (D9 fs p) n o=(cs,o',n')->o'=o
 | [],p,n,o,cs,o',n',_,h=>by simp only [D9,Ca,Prod.mk.injEq] at h;exact h.2.1.symm
 | f::r,p,n,o,cs,o',n',hp,h=>by
  simp only [List.all_cons,Bool.and_eq_true] at hp
  cases f<;>simp only [Fd.plain,Bool.false_eq_true,false_and] at hp<;>simp only [D9,Fd.fc,Ca,Prod.mk.injEq] at h<;>rw [<-h.2.1]<;>exact K5 (p:=p.2) hp.2 rfl
def C0 (o:List (Nat×Own S)):Prop:= ∀ i b,lk o i=some b->b.free S
theorem Oj {p:Cw} {x:p.T S} {n:Nat} {o:List (Nat×Own S)} {cs:List SV} {o':List (Nat×Own S)} {n':Nat} (hp:p.plain S=true) (h:Br p x n o=(cs,o',n')) (ho:C0 o):C0 o':=by
 cases p with
 | fd f=>
  have:o'=o:=K5 (fs:=[f]) (p:=(x,())) (by simpa [Cw.plain] using hp) h
  rw [this];exact ho
 | st τ=>have:o'=o:=K5 (fs:=S.fds τ) (p:=S.to τ x) hp h;rw [this];exact ho
 | own τ E=>
  simp only [Br,Prod.mk.injEq] at h;obtain ⟨_,rfl,_⟩:=h
  intro i b hi
  rw [AJ] at hi
  split at hi
  ·cases hi;exact hp
  ·exact ho i b hi
 | dp τ E=>cases hp
 | mp κ τ ag=>
  simp only [Br,Prod.mk.injEq] at h;obtain ⟨_,rfl,_⟩:=h
  intro i b hi
  rw [AJ] at hi
  split at hi
  ·cases hi;exact hp
  ·exact ho i b hi
 | mr κ τ ag E=>
  simp only [Br,Prod.mk.injEq] at h;obtain ⟨_,rfl,_⟩:=h
  intro i b hi
  rw [AJ] at hi
  split at hi
  ·cases hi;exact hp
  ·exact ho i b hi
 | al i off=>simp only [Br,Prod.mk.injEq] at h;obtain ⟨_,rfl,_⟩:=h;exact ho
 | np=>simp only [Br,Prod.mk.injEq] at h;obtain ⟨_,rfl,_⟩:=h;exact ho
 | hd=>
  simp only [Br,Prod.mk.injEq] at h;obtain ⟨_,rfl,_⟩:=h
  intro i b hi
  rw [AJ] at hi
  split at hi
  ·cases hi;trivial
  ·exact ho i b hi
 | hm=>
  simp only [Br,Prod.mk.injEq] at h;obtain ⟨_,rfl,_⟩:=h
  intro i b hi
  rw [AJ] at hi
  split at hi
  ·cases hi;trivial
  ·exact ho i b hi
 | rw i=>simp only [Br,Prod.mk.injEq] at h;obtain ⟨_,rfl,_⟩:=h;exact ho
 | rm i=>simp only [Br,Prod.mk.injEq] at h;obtain ⟨_,rfl,_⟩:=h;exact ho
 | ep i z off=>simp only [Br,Prod.mk.injEq] at h;obtain ⟨_,rfl,_⟩:=h;exact ho
 | fn f caps=>simp only [Br,Prod.mk.injEq] at h;obtain ⟨_,rfl,_⟩:=h;exact ho
theorem Mn: ∀ {qs:List Cw} {x:PT S qs} {n:Nat} {oc:List (Nat×Own S)} {cs:List SV} {oc':List (Nat×Own S)} {n':Nat},qs.all (Cw.plain S)=true->Em qs x n oc=(cs,oc',n')->C0 oc->C0 oc'
 | [],x,n,oc,cs,oc',n',_,h,ho=>by simp only [Em,Prod.mk.injEq] at h;obtain ⟨_,rfl,_⟩:=h;exact ho
 | p::r,x,n,oc,cs,oc',n',hp,h,ho=>by
  simp only [List.all_cons,Bool.and_eq_true] at hp
  simp only [Em] at h
  rcases hE:Br p x.1 n oc with ⟨a,o1,n1⟩
  rw [hE] at h
  simp only at h
  rcases hE2:Em r x.2 n1 o1 with ⟨b,o2,n2⟩
  rw [hE2] at h
  simp only [Prod.mk.injEq] at h
  obtain ⟨_,rfl,_⟩:=h
  exact Mn hp.2 hE2 (Oj hp.1 hE ho)
theorem Mk: ∀ {qs:List Cw} {x:PT S qs} {n:Nat} {oc:List (Nat×Own S)} {cs:List SV} {oc':List (Nat×Own S)} {n':Nat},qs.all (Cw.plain S)=true->CE qs x n oc=(cs,oc',n')->C0 oc->C0 oc'
 | [],x,n,oc,cs,oc',n',_,h,ho=>by simp only [CE,Prod.mk.injEq] at h;obtain ⟨_,rfl,_⟩:=h;exact ho
 | p::r,x,n,oc,cs,oc',n',hp,h,ho=>by
  simp only [List.all_cons,Bool.and_eq_true] at hp
  simp only [CE] at h
  rcases hE:Br p x.1 n oc with ⟨a,o1,n1⟩
  rw [hE] at h
  simp only at h
  rcases hE2:CE r x.2 n1 o1 with ⟨b,o2,n2⟩
  rw [hE2] at h
  simp only [Prod.mk.injEq] at h
  obtain ⟨_,rfl,_⟩:=h
  exact Mk hp.2 hE2 (Oj hp.1 hE ho)
theorem SD: ∀ {qs:List Cw} {x:PT S qs} {c:Own S},qs.all (Cw.plain S)=true->rowOf qs x=some c->c.free S
 | [],x,c,_,h=>by simp [rowOf] at h
 | _::_::_,x,c,_,h=>by simp [rowOf] at h
 | [p],x,c,hp,h=>by
  simp only [List.all_cons,List.all_nil,Bool.and_true] at hp
  cases p<;>simp only [rowOf,N0,Option.some.injEq,reduceCtorEq] at h
  ·subst h;exact hp
  ·cases hp
  ·subst h;exact hp
  ·subst h;exact hp
theorem Q8 {b:Gt} {x:PT S b.ps} {n:Nat} {oc:List (Nat×Own S)} {oc':List (Nat×Own S)} {n':Nat} (hp:b.ps.all (Cw.plain S)=true) (h:GC b x n oc=(oc',n')) (ho:C0 oc):C0 oc':=by
 unfold GC at h
 split at h
 ·rcases hE:Em b.ps x n oc with ⟨a,o1,n1⟩
  rw [hE] at h
  simp only [Prod.mk.injEq] at h
  obtain ⟨rfl,rfl⟩:=h
  intro i c hi
  rw [AJ] at hi
  split at hi
  ·cases hi;exact trivial
  ·exact Mn hp hE ho i c hi
 ·split at h
  ·rename_i c hc
   simp only [Prod.mk.injEq] at h
   obtain ⟨rfl,rfl⟩:=h
   intro i d hi
   rw [AJ] at hi
   split at hi
   ·cases hi;exact SD hp hc
   ·exact ho i d hi
  ·simp only [Prod.mk.injEq] at h
   obtain ⟨rfl,rfl⟩:=h
   exact ho
theorem Mm: ∀ {bs:List Gt} {x:BT S bs} {n:Nat} {oc:List (Nat×Own S)} {oc':List (Nat×Own S)} {n':Nat},(bs.all fun b=>b.ps.all (Cw.plain S))=true->El bs x n oc=(oc',n')->C0 oc->C0 oc'
 | [],x,n,oc,oc',n',_,h,ho=>by simp only [El,Prod.mk.injEq] at h;obtain ⟨rfl,_⟩:=h;exact ho
 | b::r,x,n,oc,oc',n',hp,h,ho=>by
  simp only [List.all_cons,Bool.and_eq_true] at hp
  simp only [El] at h
  rcases hE:GC b x.1 n oc with ⟨o1,n1⟩
  rw [hE] at h
  exact Mm hp.2 h (Q8 hp.1 hE ho)
theorem Spec.Mq {q:Spec} {x:q.D S} {n:Nat} {vs:List SV} {o':List (Nat×Own S)} {n':Nat} (hp:q.plain S=true) (h:q.enc x n=(vs,o',n')):C0 o':=by
 unfold Spec.plain at hp
 simp only [Bool.and_eq_true] at hp
 unfold Spec.enc at h
 rcases hE:CE q.as x.1 n [] with ⟨a,o1,n1⟩
 rw [hE] at h
 simp only at h
 rcases hE2:El q.bx x.2 n1 o1 with ⟨o2,n2⟩
 rw [hE2] at h
 simp only [Prod.mk.injEq] at h
 obtain ⟨_,rfl,_⟩:=h
 exact Mm hp.2 hE2 (Mk hp.1 hE fun i b h=>by simp [AQ] at h)
def Dr (c:B2 S) (y:c.rs.D S) (w:World) (D:Nat->Prop) (β:Nat->Nm) (o:List (Nat×Own S)):Ending->World->Prop:=fun e w'=>
 ∃ D' β' rs' o' n',c.rs.enc y (Hb c.bn c.rs)=(rs',o',n')/\e=.returned ((A5 rs').den β')/\(∀ i,i<c.bn->β' i=β i)/\GH w (AK o β) D D' o' (· <n') β' w'/\BW (· <n') rs'/\c.bn<=n'
def Bu (P:Program) (f:Nat):Bool:=match P.funcs[f]? with
 | some fn=>fn.body.isSome && !(fn.name == "runtime.NumGoroutine")
 | none=>false
structure B2.Holds (P:Program) (c:B2 S):Prop where
 Bu:Bu P c.f=true
 bound:c.sp.okB c.bn=true
 flat:c.flat=true->c.rs.plain S=true
 calls: ∀ x y,c.out.gives x y-> ∀ w D β vs o n,c.sp.enc x c.bn=(vs,o,n)->GH w (AK o β) D D o (· <n) β w->BW (· <n) vs->c.bn<=n->S.inv D w->Calls P c.f (AB β vs).toArray w (Dr c y w D β o)
theorem Cp {P:Program} {w:World} {f:Nat} {args:Array Value} (h:Bu P f=true):(callFunc f args).run P w=.ok (.enter f args) w:=by
 unfold Bu at h
 split at h
 case h_2=>cases h
 rename_i fn hf
 simp only [Bool.and_eq_true,Bool.not_eq_true'] at h
 obtain ⟨h1,h2⟩:=h
 have h3:¬ fn.body=none:=by cases hb:fn.body<;>simp_all
 have h4:¬ fn.name= "runtime.NumGoroutine" :=by simpa using h2
 simp [callFunc,hf,h4,h3]
mutual
theorem Z7 {β β':Nat->Nm} {r:Nat->Nat} {N:Nat->Prop} (h: ∀ i,N i->β (r i)=β' i): ∀ x:SV,x.on N->(x.JU r).den β=x.den β'
 | .v _,_=>by simp [SV.JU,SV.den]
 | .b _,_=>by simp [SV.JU,SV.den]
 | .ptr i _,hx=>by simp only [SV.on] at hx;simp [SV.JU,SV.den,h i hx]
 | .row i _,hx=>by simp only [SV.on] at hx;simp [SV.JU,SV.den,h i hx]
 | .tr i,hx=>by simp only [SV.on] at hx;simp [SV.JU,SV.den,h i hx]
 | .ep i _ _ _,hx=>by simp only [SV.on] at hx;simp [SV.JU,SV.den,h i hx]
 | .view i _ _ _,hx=>by simp only [SV.on] at hx;simp [SV.JU,SV.den,h i hx]
 | .By i,hx=>by simp only [SV.on] at hx;simp [SV.JU,SV.den,h i hx]
 | .mk i _,hx=>by simp only [SV.on] at hx;simp [SV.JU,SV.den,h i hx]
 | .hm i,hx=>by simp only [SV.on] at hx;simp [SV.JU,SV.den,h i hx]
 | .h i,hx=>by simp only [SV.on] at hx;simp [SV.JU,SV.den,h i hx]
 | .vp i _,hx=>by simp only [SV.on] at hx;simp [SV.JU,SV.den,h i hx]
 | .ap i _ _ _,hx=>by simp only [SV.on] at hx;simp [SV.JU,SV.den,h i hx]
 | .pr i _ _ _,hx=>by simp only [SV.on] at hx;simp [SV.JU,SV.den,h i hx]
 | .pp i _ _ _ _ _ _,hx=>by simp only [SV.on] at hx;simp [SV.JU,SV.den,h i hx]
 | .agg cs,hx=>by simp only [SV.on] at hx;simp only [SV.JU,SV.den];rw [Db h cs hx]
 | .Gr cs,hx=>by simp only [SV.on] at hx;simp only [SV.JU,SV.den];rw [Db h cs hx]
 | .fn _ cs,hx=>by simp only [SV.on] at hx;simp only [SV.JU,SV.den];rw [Db h cs hx]
theorem Db {β β':Nat->Nm} {r:Nat->Nat} {N:Nat->Prop} (h: ∀ i,N i->β (r i)=β' i): ∀ l:List SV,BW N l->AB β (CY r l)=AB β' l
 | [],_=>by simp [CY,AB]
 | x::t,hx=>by
  simp only [BW] at hx
  simp only [CY,AB]
  rw [Z7 h x hx.1,Db h t hx.2]
end
mutual
theorem No {r:Nat->Nat} {N N':Nat->Prop} (h: ∀ i,N i->N' (r i)): ∀ {x:SV},x.on N->(x.JU r).on N'
 | .v _,_=>trivial
 | .b _,_=>trivial
 | .ptr i _,hx=>h i hx
 | .row i _,hx=>h i hx
 | .tr i,hx=>h i hx
 | .ep i _ _ _,hx=>h i hx
 | .view i _ _ _,hx=>h i hx
 | .By i,hx=>h i hx
 | .mk i _,hx=>h i hx
 | .hm i,hx=>h i hx
 | .h i,hx=>h i hx
 | .vp i _,hx=>h i hx
 | .ap i _ _ _,hx=>h i hx
 | .pr i _ _ _,hx=>h i hx
 | .pp i _ _ _ _ _ _,hx=>h i hx
 | .agg _,hx=>F5 h hx
 | .Gr _,hx=>F5 h hx
 | .fn _ _,hx=>F5 h hx
theorem F5 {r:Nat->Nat} {N N':Nat->Prop} (h: ∀ i,N i->N' (r i)): ∀ {l:List SV},BW N l->BW N' (CY r l)
 | [],_=>trivial
 | _::_,hx=>⟨No h hx.1,F5 h hx.2⟩
end
theorem Own.No {r:Nat->Nat} {N N':Nat->Prop} (h: ∀ i,N i->N' (r i)) {b:Own S} (hb:b.on N):(b.JU r).on N':=by
 cases b<;>first|exact F5 h hb|trivial
theorem Own.Kg {D:Nat->Prop} {β β':Nat->Nm} {r:Nat->Nat} {N:Nat->Prop} {w:World} {nm:Nm} {b:Own S} (h: ∀ i,N i->β (r i)=β' i) (hn:b.on N) (hh:b.holds D β' w nm):(b.JU r).holds D β w nm:=by
 cases b with
 | AS T cs=>simp only [Own.on] at hn;simpa only [Own.JU,Own.holds,Db h cs hn] using hh
 | row T sz k cs=>simp only [Own.on] at hn;simpa only [Own.JU,Own.holds,Db h cs hn] using hh
 | vu cs=>simp only [Own.on] at hn;simpa only [Own.JU,Own.holds,Db h cs hn] using hh
 | tr=>exact hh
 | sl=>exact hh
 | obj p=>exact hh
 | any=>exact hh
 | dp=>exact hh
 | mp=>exact hh
 | mr=>exact hh
theorem Ej {r:Nat->Nat}: ∀ {o:List (Nat×Own S)} (i:Nat) (b:Own S),lk (Dq r o) i=some b-> ∃ j c,lk o j=some c/\r j=i/\b=c.JU r
 | [],i,b,h=>by simp [Dq,AQ] at h
 | (d,x)::t,i,b,h=>by
  simp only [Dq,AJ] at h
  split at h
  ·rename_i he;cases h;exact ⟨d,x,by simp [AJ],he,rfl⟩
  ·rename_i hne
   obtain ⟨j,c,h1,h2,h3⟩:=Ej i b h
   exact ⟨j,c,by rw [AJ,if_neg (fun e=>by subst e;exact hne h2)];exact h1,h2,h3⟩
theorem Sa {m:List (Nat×Nat)}: ∀ {bn:Nat} {l:List Nat},OD m bn=some l-> ∀ i,i<bn-> ∃ j,lk m i=some j/\j∈l
 | 0,l,h,i,hi=>by omega
 | bn+1,l,h,i,hi=>by
  simp only [OD] at h
  split at h
  case h_2=>cases h
  rename_i j hj
  split at h
  case h_2=>cases h
  rename_i l' hl
  cases h
  by_cases e:i=bn
  ·subst e;exact ⟨j,hj,by simp⟩
  ·obtain ⟨k,h1,h2⟩:=Sa hl i (by omega)
   exact ⟨k,h1,List.mem_cons_of_mem _ h2⟩
theorem Qw {n:Nat}: ∀ {l:List Nat},UN n l=true-> ∀ j∈l,j<n
 | [],_,j,hj=>by simp at hj
 | x::r,h,j,hj=>by
  simp only [UN] at h
  split at h
  case h_2=>cases h
  rename_i hx
  rcases List.mem_cons.1 hj with rfl|hj
  ·exact Nat.le_of_ble_eq_true hx
  ·exact Qw h j hj
theorem fX {m:List (Nat×Nat)} {bn n:Nat} (h:iL m bn n=true): ∀ i,i<bn-> ∃ j,lk m i=some j/\j<n:=by
 unfold iL at h
 split at h
 case h_2=>cases h
 rename_i l hl
 intro i hi
 obtain ⟨j,h1,h2⟩:=Sa hl i hi
 exact ⟨j,h1,Qw h j h2⟩
theorem Y5 {f:Fd} {v:SV} {ps ps':PS S} {x:f.T S.T} (h:dV false f v ps=some (x,ps')):ps'.bl=ps.bl:=by
 unfold dV at h
 split at h
 ·cases h
 ·split at h
  ·cases h;rfl
  ·cases h
theorem VA {p:Cw} {cs r:List SV} {ps ps':PS S} {x:p.T S} (h:pP false p cs ps=some (x,r,ps')):ps'.bl=ps.bl:=by
 unfold pP at h
 split at h
 ·split at h
  ·rename_i hx;cases h;exact Y5 hx
  ·cases h
 ·split at h
  ·cases h;rfl
  ·cases h
 ·split at h
  ·rename_i hx
   cases h
   unfold T1 at hx
   split at hx
   ·split at hx
    case h_2=>cases hx
    split at hx
    ·cases hx;rfl
    ·cases hx
   ·split at hx
    ·cases hx;rfl
    ·cases hx
   ·split at hx
    case h_2=>cases hx
    split at hx
    case h_2=>cases hx
    split at hx
    ·cases hx;rfl
    ·cases hx
   ·cases hx
  ·cases h
 ·split at h
  ·rename_i hx
   cases h
   unfold fY at hx
   split at hx
   ·split at hx
    case h_2=>cases hx
    split at hx
    ·cases hx;rfl
    ·cases hx
   ·split at hx
    ·cases hx;rfl
    ·cases hx
   ·cases hx
  ·cases h
 ·split at h
  ·rename_i hx
   cases h
   unfold fh at hx
   split at hx
   ·split at hx
    case h_2=>cases hx
    split at hx
    ·cases hx;rfl
    ·cases hx
   ·cases hx
  ·cases h
 ·split at h
  ·rename_i hx
   cases h
   unfold fk at hx
   split at hx
   ·split at hx
    case h_2=>cases hx
    split at hx
    ·cases hx;rfl
    ·cases hx
   ·split at hx
    ·cases hx;rfl
    ·cases hx
   ·cases hx
  ·cases h
 ·split at h
  ·cases h;rfl
  ·cases h
 ·split at h
  ·cases h;rfl
  ·cases h
 ·split at h
  ·cases h;rfl
  ·cases h
 ·split at h
  ·cases h;rfl
  ·cases h
 ·split at h
  ·cases h;rfl
  ·cases h
 ·cases h;rfl
 ·split at h
  ·cases h;rfl
  ·cases h
 ·split at h
  ·cases h;rfl
  ·cases h
 ·cases h
theorem R8: ∀ {qs:List Cw} {cs:List SV} {ps ps':PS S} {x:PT S qs},Qt false qs cs ps=some (x,ps')->ps'.bl=ps.bl
 | [],[],ps,ps',x,h=>by simp only [Qt,Option.some.injEq,Prod.mk.injEq] at h;rw [<-h.2]
 | [],_::_,ps,ps',x,h=>by simp [Qt] at h
 | p::r,cs,ps,ps',x,h=>by
  simp only [Qt] at h
  split at h
  case h_2=>cases h
  rename_i h1
  split at h
  case h_2=>cases h
  rename_i h2
  cases h
  rw [R8 h2,VA h1]
theorem R6: ∀ {qs:List Cw} {vs:List SV} {ps ps':PS S} {x:PT S qs},OK false qs vs ps=some (x,ps')->ps'.bl=ps.bl
 | [],[],ps,ps',x,h=>by simp only [OK,Option.some.injEq,Prod.mk.injEq] at h;rw [<-h.2]
 | [],_::_,ps,ps',x,h=>by simp [OK] at h
 | _::_,[],ps,ps',x,h=>by simp [OK] at h
 | p::r,v::vs,ps,ps',x,h=>by
  simp only [OK] at h
  split at h
  case h_2=>cases h
  split at h
  case h_2=>cases h
  rename_i h1
  split at h
  case h_2=>cases h
  rename_i h2
  cases h
  rw [R6 h2,VA h1]
theorem V8 {b:Gt} {j:Nat} {ps ps':PS S} {x:PT S b.ps} (h:Qe b j ps=some (x,ps')):ps'.bl=ps.bl:=by
 unfold Qe at h
 split at h
 ·split at h
  case h_2=>cases h
  split at h
  case h_2=>cases h
  rw [R8 h]
 ·obtain ⟨c,_,_,rfl⟩:=MN h;rfl
theorem R7: ∀ {bs:List Gt} {seen:List Nat} {ps ps':PS S} {x:BT S bs},U9 bs seen ps=some (x,ps')->ps'.bl=ps.bl
 | [],seen,ps,ps',x,h=>by simp only [U9,Option.some.injEq,Prod.mk.injEq] at h;rw [<-h.2]
 | b::r,seen,ps,ps',x,h=>by
  simp only [U9] at h
  split at h
  case h_2=>cases h
  split at h
  case h_2=>cases h
  split at h
  case h_2=>cases h
  rename_i h1
  split at h
  case h_2=>cases h
  rename_i h2
  cases h
  rw [R7 h2,V8 h1]
theorem Spec.JR {q:Spec} {vs:List SV} {o:List (Nat×Own S)} {m:List (Nat×Nat)} {bn:Nat} {x:q.D S} {ps:PS S} (h:q.parse false vs o m bn=some (x,ps)):ps.bl=[]:=by
 unfold Spec.parse at h
 split at h
 case h_2=>cases h
 rename_i h1
 split at h
 case h_2=>cases h
 rename_i h2
 cases h
 rw [R7 h2,R6 h1]
theorem Va {w0:World} {F D0 D:Nat->Prop} {o:List (Nat×Own S)} {N:Nat} {β:Nat->Nm} {w:World} {c:B2 S} {x:c.sp.D S} {ps:PS S} {args:List SV} (hg:GH w0 F D0 D o (· <N) β w) (h:c.sp.parse c.flat args o [] c.bn=some (x,ps)) (hc:c.sp.okB c.bn=true) (hflat:c.flat=true->c.rs.plain S=true)
  (hm:iL ps.m c.bn N=true) {y:c.rs.D S} {P:Program} {f:Nat} (hcall: ∀ w D β vs o n,c.sp.enc x c.bn=(vs,o,n)->GH w (AK o β) D D o (· <n) β w->BW (· <n) vs->c.bn<=n->S.inv D w->Calls P f (AB β vs).toArray w (Dr c y w D β o)) (hiv:S.inv D w)
  {rs':List SV} {o':List (Nat×Own S)} {n':Nat} (he:c.rs.enc y (Hb c.bn c.rs)=(rs',o',n')):
  Calls P f (AB β args).toArray w fun e w'=> ∃ D' β',e=.returned ((A5 (CY (Bk c.bn ps.m N) rs')).den β')/\(∀ i,i<N->β i=β' i)/\GH w0 F D0 D' (Dq (Bk c.bn ps.m N) o'++ps.o) (· <N+(n' -c.bn)) β' w'/\(A5 (CY (Bk c.bn ps.m N) rs')).on (· <N+(n' -c.bn)):=by
 rcases hE:c.sp.enc x c.bn with ⟨vs,o1,n1⟩
 obtain ⟨β1,hbox,hgh1,hden,hon1,hbn1,hcross,hsub,_,hbl⟩:=Spec.CA hg h hc hE
 have hmok:=fX hm
 rw [hden]
 refine (hcall w (FZ D β ps.bl) β1 vs o1 n1 hE ⟨hgh1.Bn,hgh1.own,hgh1.inj,fun i b k hi hk=>.inr ⟨i,b,hi,hk⟩,hgh1.off,hgh1.lt,hgh1.DF,fun k hk=>.inl hk,OM.refl _ _,fun _ h=>h⟩ hon1 hbn1 (S.Fc hiv (fun _ _=>rfl) fun k hk=>.inl hk)).mono fun e w' ⟨D',β',rs2,o2,n2,he2,hret,hb',hgh2,honr,hn2⟩=>?_
 rw [he] at he2
 simp only [Prod.mk.injEq] at he2
 obtain ⟨rfl,rfl,rfl⟩:=he2
 -- blocks of what is lent and of what stays are as they were
 have hkeepD: ∀ k,FZ D β ps.bl k->w'.heap[k]?=w.heap[k]?:=fun k hk=>hgh2.fr.block k (hgh1.DF k hk) fun ⟨i,b,hi,hik⟩=>hgh1.off i b k hi hik hk
 have hoff: ∀ i c' k,lk ps.o i=some c'->(β i).has k->¬ AK o1 β1 k:=fun i c' k hi hk ⟨j,d,hj,hjk⟩=>by
  by_cases hib:i∈ps.bl
  ·exact hgh1.off j d k hj hjk (.inr ⟨i,hib,hk⟩)
  ·exact hcross i c' j d k hi hib hj hk hjk
 have hkeepR: ∀ i c' k,lk ps.o i=some c'->(β i).has k->w'.heap[k]?=w.heap[k]?:=fun i c' k hi hk=>
  hgh2.fr.block k (hg.lt i c' k (hsub i c' hi) hk) (hoff i c' k hi hk)
 let D2:Nat->Prop:=fun k=>(D' k\/D k)/\¬ ∃ i∈ps.bl,(β i).has k
 have hDlent: ∀ k,D k->FZ D β ps.bl k:=fun k hk=>.inl hk
 have hDD2: ∀ k,D k->D2 k:=fun k hk=>⟨.inr hk,fun ⟨i,hi,hik⟩=>by
  obtain ⟨c',hc'⟩:=hbl i hi
  exact hg.off i c' k (hsub i c' hc') hik hk⟩
 let r:=Bk c.bn ps.m N
 let βn:Nat->Nm:=fun i=>if i<N then β i else β' (i -N+c.bn)
 have hβn: ∀ i,i<N->β i=βn i:=fun i hi=>by simp only [βn];rw [if_pos hi]
 have hr: ∀ i,i<n'->βn (r i)=β' i:=fun i hi=>by
  by_cases hib:i<c.bn
  ·obtain ⟨j,hj,hjN⟩:=hmok i hib
   have e1:r i=j:=by simp only [r,Bk];rw [show Nat.ble (i+1) c.bn=true from Nat.ble_eq_true_of_le hib];simp only [hj]
   rw [e1,<- hβn j hjN,hb' i hib,hbox i hib j hj]
  ·have e1:r i=N+(i -c.bn):=by
    simp only [r,Bk]
    have:Nat.ble (i+1) c.bn=false:=by
     cases hb:Nat.ble (i+1) c.bn
     ·rfl
     ·exact absurd (Nat.le_of_ble_eq_true hb) hib
    rw [this]
   simp only [e1,βn]
   rw [if_neg (by omega)]
   congr 1;omega
 have hrN: ∀ i,i<n'->r i<N+(n' -c.bn):=fun i hi=>by
  by_cases hib:i<c.bn
  ·obtain ⟨j,hj,hjN⟩:=hmok i hib
   have e1:r i=j:=by simp only [r,Bk];rw [show Nat.ble (i+1) c.bn=true from Nat.ble_eq_true_of_le hib];simp only [hj]
   omega
  ·have e1:r i=N+(i -c.bn):=by
    simp only [r,Bk]
    have:Nat.ble (i+1) c.bn=false:=by
     cases hb:Nat.ble (i+1) c.bn
     ·rfl
     ·exact absurd (Nat.le_of_ble_eq_true hb) hib
    rw [this]
   omega
 have hcase: ∀ i b,lk (Dq r o'++ps.o) i=some b->(∃ j c',lk o' j=some c'/\r j=i/\b=c'.JU r)\/lk ps.o i=some b:=fun i b h=>by
  rw [NC] at h
  cases h1:lk (Dq r o') i with
  | none=>rw [h1] at h;exact .inr (by simpa using h)
  | some c'=>rw [h1] at h;simp at h;subst h;exact .inl (Ej i _ h1)
 have hRN: ∀ i b,lk ps.o i=some b->i<N:=fun i b hi=>(hg.Bn i b (hsub i b hi)).1
 have hfree:ps.bl=[]\/C0 o':=by
  cases hfl:c.flat with
  | true=>exact .inr (Spec.Mq (hflat hfl) he)
  | false=>rw [hfl] at h;exact .inl (Spec.JR h)
 have hold: ∀ j c' k,lk o' j=some c'->(β' j).has k->AK o1 β1 k\/w.heap.size<=k:=fun j c' k hj hk=>(hgh2.fresh j c' k hj hk).symm
 have hsep: ∀ i b j c' k,lk ps.o i=some b->lk o' j=some c'->(β i).has k->(β' j).has k->False:=fun i b j c' k hi hj hk hjk=>by
  rcases hold j c' k hj hjk with h1|h1
  ·exact hoff i b k hi hk h1
  ·have:=hg.lt i b k (hsub i b hi) hk;omega
 have hfr1: ∀ k,AK o1 β1 k->w0.heap.size<=k\/F k:=fun k ⟨i,b,hi,hik⟩=>hgh1.fresh i b k hi hik
 refine ⟨D2,βn,?_,hβn,⟨fun i b hi=>?_,fun i b hi=>?_,fun i j b b' k hi hj hk hl=>?_,fun i b k hi hk=>?_,fun i b k hi hk hD=>?_,fun i b k hi hk=>?_,fun k hk=>?_,fun k hk=>?_,?_,fun k hk=>hDD2 k (hg.sub k hk)⟩,?_⟩
 ·rw [hret]
  congr 1
  have hd:=Db (β:=βn) (β':=β') (r:=r) (N:=(· <n')) hr rs' honr
  cases hrs:rs' with
  | nil=>simp [A5,CY,SV.den,AB]
  | cons a t=>
   cases t with
   | nil=>rw [hrs] at hd;simp only [CY,AB,List.cons.injEq,and_true] at hd;simp only [A5,CY];exact hd.symm
   | cons b t=>rw [hrs] at hd;simp only [A5,CY,SV.den];simp only [CY] at hd;rw [hd]
 ·rcases hcase i b hi with ⟨j,c',hj,hji,rfl⟩|hi
  ·obtain ⟨h1,h2⟩:=hgh2.Bn j c' hj
   exact ⟨by rw [<-hji];exact hrN j h1,Own.No hrN h2⟩
  ·exact ⟨Nat.lt_of_lt_of_le (hRN i b hi) (Nat.le_add_right _ _),Own.Am (fun _ h=>Nat.lt_of_lt_of_le h (Nat.le_add_right _ _)) (hg.Bn i b (hsub i b hi)).2⟩
 ·rcases hcase i b hi with ⟨j,c',hj,hji,rfl⟩|hi
  ·obtain ⟨h1,h2⟩:=hgh2.Bn j c' hj
   rw [<-hji,hr j h1]
   refine Own.Kg (N:=(· <n')) hr h2 ?_
   have h3:=hgh2.own j c' hj
   rcases hfree with hf|hf
   ·exact Own.Bx h3 fun k hk=>⟨.inl hk,fun ⟨i,hi,_⟩=>by rw [hf] at hi;simp at hi⟩
   ·exact Own.M0 (hf j c' hj) h3
  ·rw [<-hβn i (hRN i b hi)]
   have h3:=hg.own i b (hsub i b hi)
   exact Own.Bx (Own.Di (Own.Dt hβn (hg.Bn i b (hsub i b hi)).2 h3) (fun k hk=>hkeepR i b k hi hk) fun k hk=>hkeepD k (.inl hk)) hDD2
 ·rcases hcase i b hi with ⟨i',c1,hi1,e1,_⟩|hi<;>rcases hcase j b' hj with ⟨j',c2,hj1,e2,_⟩|hj
  ·rw [<-e1,hr i' (hgh2.Bn i' c1 hi1).1] at hk
   rw [<-e2,hr j' (hgh2.Bn j' c2 hj1).1] at hl
   rw [<-e1,<- e2,hgh2.inj i' j' c1 c2 k hi1 hj1 hk hl]
  ·rw [<-e1,hr i' (hgh2.Bn i' c1 hi1).1] at hk
   rw [<-hβn j (hRN j b' hj)] at hl
   exact (hsep j b' i' c1 k hj hi1 hl hk).elim
  ·rw [<-hβn i (hRN i b hi)] at hk
   rw [<-e2,hr j' (hgh2.Bn j' c2 hj1).1] at hl
   exact (hsep i b j' c2 k hi hj1 hk hl).elim
  ·rw [<-hβn i (hRN i b hi)] at hk;rw [<-hβn j (hRN j b' hj)] at hl
   exact hg.inj i j b b' k (hsub i b hi) (hsub j b' hj) hk hl
 ·rcases hcase i b hi with ⟨j,c',hj,hji,_⟩|hi
  ·rw [<-hji,hr j (hgh2.Bn j c' hj).1] at hk
   rcases hold j c' k hj hk with h1|h1
   ·exact hfr1 k h1
   ·exact .inl (Nat.le_trans hg.fr.size h1)
  ·rw [<-hβn i (hRN i b hi)] at hk
   exact hg.fresh i b k (hsub i b hi) hk
 ·rcases hcase i b hi with ⟨j,c',hj,hji,_⟩|hi
  ·rw [<-hji,hr j (hgh2.Bn j c' hj).1] at hk
   rcases hD.1 with h1|h1
   ·exact hgh2.off j c' k hj hk h1
   ·rcases hold j c' k hj hk with ⟨l,d,hl,hlk⟩|h2
    ·exact hgh1.off l d k hl hlk (.inl h1)
    ·have:=hg.DF k h1;omega
  ·rw [<-hβn i (hRN i b hi)] at hk
   have hio:=hsub i b hi
   rcases hD.1 with hD1|hD1
   case inr=>exact hg.off i b k hio hk hD1
   rcases hgh2.KQ k hD1 with h1|h1|h1
   ·rcases h1 with h1|h1
    ·exact hg.off i b k hio hk h1
    ·exact hD.2 h1
   ·exact hoff i b k hi hk h1
   ·have:=hg.lt i b k hio hk;omega
 ·rcases hcase i b hi with ⟨j,c',hj,hji,_⟩|hi
  ·rw [<-hji,hr j (hgh2.Bn j c' hj).1] at hk
   exact hgh2.lt j c' k hj hk
  ·rw [<-hβn i (hRN i b hi)] at hk
   exact Nat.lt_of_lt_of_le (hg.lt i b k (hsub i b hi) hk) hgh2.fr.size
 ·rcases hk.1 with h1|h1
  ·exact hgh2.DF k h1
  ·exact Nat.lt_of_lt_of_le (hg.DF k h1) hgh2.fr.size
 ·rcases hk.1 with hk1|hk1
  case inr=>exact hg.KQ k hk1
  rcases hgh2.KQ k hk1 with h1|h1|h1
  ·rcases h1 with h1|h1
   ·exact hg.KQ k h1
   ·exact absurd h1 hk.2
  ·rcases hfr1 k h1 with h2|h2
   ·exact .inr (.inr h2)
   ·exact .inr (.inl h2)
  ·exact .inr (.inr (Nat.le_trans hg.fr.size h1))
 ·refine ⟨hgh2.fr.os.trans hg.fr.os,hgh2.fr.tape.trans hg.fr.tape,hgh2.fr.output.trans hg.fr.output,Nat.le_trans hg.fr.size hgh2.fr.size,fun k hk hF=>?_⟩
  refine (hgh2.fr.block k (Nat.lt_of_lt_of_le hk hg.fr.size) fun hb=>?_).trans (hg.fr.block k hk hF)
  rcases hfr1 k hb with h1|h1
  ·omega
  ·exact hF h1
 ·have ho:=F5 (N:=(· <n')) (N':=(· <N+(n' -c.bn))) hrN honr
  cases hrs:rs' with
  | nil=>simp [A5,CY,SV.on,BW]
  | cons a t=>
   cases t with
   | nil=>rw [hrs] at ho;exact ho.1
   | cons b t=>rw [hrs] at ho;exact ho
end
end Go.En
