/-
 What a contract says (Ctr.Holds), and that a call goes on as the evaluation has it.
-/
import Derived.Test.YtikecakpcfpghaaGreatDoorEn11
namespace Go.En
open Go.RowKit
section
variable {S:Aq}
def AK (o:List (Nat×Own S)) (β:Nat->Nm):Nat->Prop:=fun k=> ∃ i b,lk o i=some b/\(β i).has k
def Fd.plain:Fd->Bool
 | .sl _=>false
 | .ow _ _=>false
 | _=>true
def Aq.plain (S:Aq) (τ:Nat):Bool:=(S.fds τ).all Fd.plain
def Cr.plain (S:Aq):Cr->Bool
 | .fd f=>f.plain
 | .st τ=>S.plain τ
 | .own τ _=>S.plain τ
 | .dp _ _=>false
 | .mp _ τ _=>S.plain τ
 | .mr _ τ _ _=>S.plain τ
 | _=>true
def Spec.plain (S:Aq) (q:Spec):Bool:=q.as.all (Cr.plain S) && q.bx.all fun b=>b.ps.all (Cr.plain S)
def Own.free (S:Aq):Own S->Prop
 | .tr τ _ _=>S.plain τ=true
 | .sl _ _=>False
 | .vu _=>False
 | .dp _ _ _=>False
 | .mp _ τ _ _=>S.plain τ=true
 | .mr _ τ _ _ _=>S.plain τ=true
 | _=>True
theorem Sj {w:World} {D D':Nat->Prop} {f:Fd} {x:f.T S.T} {v:Value} (hf:f.plain=true) (h:Au S w D (f.fc x) v):Au S w D' (f.fc x) v:=by
 cases f<;>simp only [Fd.plain,Bool.false_eq_true] at hf<;>simp only [Fd.fc] at h ⊢ <;>cases h<;>constructor
theorem KV {w:World} {D D':Nat->Prop}: ∀ {fs:List Fd} {p:Ps S.T fs} {vs:List Value},fs.all Fd.plain=true->AE S w D (Dz fs p) vs->AE S w D' (Dz fs p) vs
 | [],p,vs,_,h=>by
  have:vs=[]:=by have:=h.1;simp only [Dz,List.length_nil] at this;exact List.eq_nil_of_length_eq_zero this.symm
  subst this;exact AE.nil
 | f::r,p,vs,hp,h=>by
  simp only [List.all_cons,Bool.and_eq_true] at hp
  obtain ⟨v,u,rfl,h1,h2⟩:=AE.C4 h
  exact AE.cons (Sj hp.1 h1) (KV hp.2 h2)
theorem Mm {w:World} {D D':Nat->Prop} {τ:Nat} (hp:S.plain τ=true): ∀ {l:List (S.T τ)} {vs:List Value},AE S w D (S.flat τ l) vs->AE S w D' (S.flat τ l) vs
 | [],vs,h=>by
  have:vs=[]:=by have:=h.1;simp only [Aq.flat,List.flatMap_nil,List.length_nil] at this;exact List.eq_nil_of_length_eq_zero this.symm
  subst this;simpa [Aq.flat] using AE.nil
 | x::l,vs,h=>by
  rw [S.Bi] at h ⊢
  have hl:(S.enc τ x).length<=vs.length:=by rw [<-h.1];simp
  have h1:=h.take (S.enc τ x).length
  have h2:=h.drop (S.enc τ x).length
  rw [List.take_left'] at h1
  ·rw [List.drop_left'] at h2
   ·rw [<-List.take_append_drop (S.enc τ x).length vs]
    exact (KV hp h1).append (Mm hp h2)
   ·rfl
  ·rfl
theorem MapAt.plain {w:World} {D D':Nat->Prop} {κ:Fd} {τ:Nat} {ag:Bool} {b:Nat} {l:List (κ.T S.T×S.T τ)} (hp:S.plain τ=true) (h:MapAt S w D κ τ ag b l):MapAt S w D' κ τ ag b l:=by
 obtain ⟨es,h1,h2,h3⟩:=h
 exact ⟨es,h1,h2,fun j x e hx he=>let ⟨k0,k1,vs,k2,k3⟩:=h3 j x e hx he;⟨k0,k1,vs,k2,KV hp k3⟩⟩
theorem Own.Ms {w:World} {D D':Nat->Prop} {β:Nat->Nm} {nm:Nm} {b:Own S} (hb:b.free S) (h:b.holds D β w nm):b.holds D' β w nm:=by
 cases b with
 | AN T cs=>exact h
 | row T sz n cs=>exact h
 | tr τ E l=>obtain ⟨h0,vs,h1,h2⟩:=h;exact ⟨h0,vs,h1,Mm hb h2⟩
 | sl τ l=>exact hb.elim
 | vu cs=>exact hb.elim
 | obj p=>exact h
 | any=>exact h
 | dp=>exact hb.elim
 | mp κ τ ag l=>obtain ⟨g,h1,h2⟩:=h;exact ⟨g,h1,MapAt.plain hb h2⟩
 | mr κ τ ag E ls=>obtain ⟨h0,vs,h1,h2⟩:=h;exact ⟨h0,vs,h1,fun e m he=>let ⟨b,c,k1,k2,k3⟩:=h2.cell e m he;⟨b,c,k1,k2,k3.plain hb⟩,h2.inj,h2.ne⟩
theorem K0: ∀ {fs:List Fd} {p:Ps S.T fs} {n:Nat} {o:List (Nat×Own S)} {cs:List SV} {o':List (Nat×Own S)} {n':Nat},fs.all Fd.plain=true->CS (Dz fs p) n o=(cs,o',n')->o'=o
 | [],p,n,o,cs,o',n',_,h=>by simp only [Dz,CS,Prod.mk.injEq] at h;exact h.2.1.symm
 | f::r,p,n,o,cs,o',n',hp,h=>by
  simp only [List.all_cons,Bool.and_eq_true] at hp
  cases f<;>simp only [Fd.plain,Bool.false_eq_true,false_and] at hp<;>simp only [Dz,Fd.fc,CS,Prod.mk.injEq] at h<;>rw [<-h.2.1]<;>exact K0 (p:=p.2) hp.2 rfl
def Cv (o:List (Nat×Own S)):Prop:= ∀ i b,lk o i=some b->b.free S
theorem Oa {p:Cr} {x:p.T S} {n:Nat} {o:List (Nat×Own S)} {cs:List SV} {o':List (Nat×Own S)} {n':Nat} (hp:p.plain S=true) (h:Bn p x n o=(cs,o',n')) (ho:Cv o):Cv o':=by
 cases p with
 | fd f=>
  have:o'=o:=K0 (fs:=[f]) (p:=(x,())) (by simpa [Cr.plain] using hp) h
  rw [this];exact ho
 | st τ=>have:o'=o:=K0 (fs:=S.fds τ) (p:=S.to τ x) hp h;rw [this];exact ho
 | own τ E=>
  simp only [Bn,Prod.mk.injEq] at h;obtain ⟨_,rfl,_⟩:=h
  intro i b hi
  rw [AI] at hi
  split at hi
  ·cases hi;exact hp
  ·exact ho i b hi
 | dp τ E=>cases hp
 | mp κ τ ag=>
  simp only [Bn,Prod.mk.injEq] at h;obtain ⟨_,rfl,_⟩:=h
  intro i b hi
  rw [AI] at hi
  split at hi
  ·cases hi;exact hp
  ·exact ho i b hi
 | mr κ τ ag E=>
  simp only [Bn,Prod.mk.injEq] at h;obtain ⟨_,rfl,_⟩:=h
  intro i b hi
  rw [AI] at hi
  split at hi
  ·cases hi;exact hp
  ·exact ho i b hi
 | al i off=>simp only [Bn,Prod.mk.injEq] at h;obtain ⟨_,rfl,_⟩:=h;exact ho
 | np=>simp only [Bn,Prod.mk.injEq] at h;obtain ⟨_,rfl,_⟩:=h;exact ho
 | hd=>
  simp only [Bn,Prod.mk.injEq] at h;obtain ⟨_,rfl,_⟩:=h
  intro i b hi
  rw [AI] at hi
  split at hi
  ·cases hi;trivial
  ·exact ho i b hi
 | hm=>
  simp only [Bn,Prod.mk.injEq] at h;obtain ⟨_,rfl,_⟩:=h
  intro i b hi
  rw [AI] at hi
  split at hi
  ·cases hi;trivial
  ·exact ho i b hi
 | rw i=>simp only [Bn,Prod.mk.injEq] at h;obtain ⟨_,rfl,_⟩:=h;exact ho
 | rm i=>simp only [Bn,Prod.mk.injEq] at h;obtain ⟨_,rfl,_⟩:=h;exact ho
 | ep i z off=>simp only [Bn,Prod.mk.injEq] at h;obtain ⟨_,rfl,_⟩:=h;exact ho
 | fn f caps=>simp only [Bn,Prod.mk.injEq] at h;obtain ⟨_,rfl,_⟩:=h;exact ho
theorem Md: ∀ {qs:List Cr} {x:PT S qs} {n:Nat} {oc:List (Nat×Own S)} {cs:List SV} {oc':List (Nat×Own S)} {n':Nat},qs.all (Cr.plain S)=true->Ed qs x n oc=(cs,oc',n')->Cv oc->Cv oc'
 | [],x,n,oc,cs,oc',n',_,h,ho=>by simp only [Ed,Prod.mk.injEq] at h;obtain ⟨_,rfl,_⟩:=h;exact ho
 | p::r,x,n,oc,cs,oc',n',hp,h,ho=>by
  simp only [List.all_cons,Bool.and_eq_true] at hp
  simp only [Ed] at h
  rcases hE:Bn p x.1 n oc with ⟨a,o1,n1⟩
  rw [hE] at h
  simp only at h
  rcases hE2:Ed r x.2 n1 o1 with ⟨b,o2,n2⟩
  rw [hE2] at h
  simp only [Prod.mk.injEq] at h
  obtain ⟨_,rfl,_⟩:=h
  exact Md hp.2 hE2 (Oa hp.1 hE ho)
theorem Ma: ∀ {qs:List Cr} {x:PT S qs} {n:Nat} {oc:List (Nat×Own S)} {cs:List SV} {oc':List (Nat×Own S)} {n':Nat},qs.all (Cr.plain S)=true->B9 qs x n oc=(cs,oc',n')->Cv oc->Cv oc'
 | [],x,n,oc,cs,oc',n',_,h,ho=>by simp only [B9,Prod.mk.injEq] at h;obtain ⟨_,rfl,_⟩:=h;exact ho
 | p::r,x,n,oc,cs,oc',n',hp,h,ho=>by
  simp only [List.all_cons,Bool.and_eq_true] at hp
  simp only [B9] at h
  rcases hE:Bn p x.1 n oc with ⟨a,o1,n1⟩
  rw [hE] at h
  simp only at h
  rcases hE2:B9 r x.2 n1 o1 with ⟨b,o2,n2⟩
  rw [hE2] at h
  simp only [Prod.mk.injEq] at h
  obtain ⟨_,rfl,_⟩:=h
  exact Ma hp.2 hE2 (Oa hp.1 hE ho)
theorem Rl: ∀ {qs:List Cr} {x:PT S qs} {c:Own S},qs.all (Cr.plain S)=true->rowOf qs x=some c->c.free S
 | [],x,c,_,h=>by simp [rowOf] at h
 | _::_::_,x,c,_,h=>by simp [rowOf] at h
 | [p],x,c,hp,h=>by
  simp only [List.all_cons,List.all_nil,Bool.and_true] at hp
  cases p<;>simp only [rowOf,Ns,Option.some.injEq,reduceCtorEq] at h
  ·subst h;exact hp
  ·cases hp
  ·subst h;exact hp
  ·subst h;exact hp
theorem Qn {b:Gh} {x:PT S b.ps} {n:Nat} {oc:List (Nat×Own S)} {oc':List (Nat×Own S)} {n':Nat} (hp:b.ps.all (Cr.plain S)=true) (h:Fz b x n oc=(oc',n')) (ho:Cv oc):Cv oc':=by
 unfold Fz at h
 split at h
 ·rcases hE:Ed b.ps x n oc with ⟨a,o1,n1⟩
  rw [hE] at h
  simp only [Prod.mk.injEq] at h
  obtain ⟨rfl,rfl⟩:=h
  intro i c hi
  rw [AI] at hi
  split at hi
  ·cases hi;exact trivial
  ·exact Md hp hE ho i c hi
 ·split at h
  ·rename_i c hc
   simp only [Prod.mk.injEq] at h
   obtain ⟨rfl,rfl⟩:=h
   intro i d hi
   rw [AI] at hi
   split at hi
   ·cases hi;exact Rl hp hc
   ·exact ho i d hi
  ·simp only [Prod.mk.injEq] at h
   obtain ⟨rfl,rfl⟩:=h
   exact ho
theorem Mc: ∀ {bs:List Gh} {x:BT S bs} {n:Nat} {oc:List (Nat×Own S)} {oc':List (Nat×Own S)} {n':Nat},(bs.all fun b=>b.ps.all (Cr.plain S))=true->Ec bs x n oc=(oc',n')->Cv oc->Cv oc'
 | [],x,n,oc,oc',n',_,h,ho=>by simp only [Ec,Prod.mk.injEq] at h;obtain ⟨rfl,_⟩:=h;exact ho
 | b::r,x,n,oc,oc',n',hp,h,ho=>by
  simp only [List.all_cons,Bool.and_eq_true] at hp
  simp only [Ec] at h
  rcases hE:Fz b x.1 n oc with ⟨o1,n1⟩
  rw [hE] at h
  exact Mc hp.2 h (Qn hp.1 hE ho)
theorem Spec.Mf {q:Spec} {x:q.D S} {n:Nat} {vs:List SV} {o':List (Nat×Own S)} {n':Nat} (hp:q.plain S=true) (h:q.enc x n=(vs,o',n')):Cv o':=by
 unfold Spec.plain at hp
 simp only [Bool.and_eq_true] at hp
 unfold Spec.enc at h
 rcases hE:B9 q.as x.1 n [] with ⟨a,o1,n1⟩
 rw [hE] at h
 simp only at h
 rcases hE2:Ec q.bx x.2 n1 o1 with ⟨o2,n2⟩
 rw [hE2] at h
 simp only [Prod.mk.injEq] at h
 obtain ⟨_,rfl,_⟩:=h
 exact Mc hp.2 hE2 (Ma hp.1 hE fun i b h=>by simp [AS] at h)
def Dm (c:By S) (y:c.rs.D S) (w:World) (D:Nat->Prop) (β:Nat->Nm) (o:List (Nat×Own S)):Ending->World->Prop:=fun e w'=>
 ∃ D' β' rs' o' n',c.rs.enc y (HR c.bn c.rs)=(rs',o',n')/\e=.returned ((Az rs').den β')/\(∀ i,i<c.bn->β' i=β i)/\GH w (AK o β) D D' o' (· <n') β' w'/\BR (· <n') rs'/\c.bn<=n'
def Bq (P:Program) (f:Nat):Bool:=match P.funcs[f]? with
 | some fn=>fn.body.isSome && !(fn.name == "runtime.NumGoroutine")
 | none=>false
structure By.Holds (P:Program) (c:By S):Prop where
 Bq:Bq P c.f=true
 bound:c.sp.okB c.bn=true
 flat:c.flat=true->c.rs.plain S=true
 calls: ∀ x y,c.out.gives x y-> ∀ w D β vs o n,c.sp.enc x c.bn=(vs,o,n)->GH w (AK o β) D D o (· <n) β w->BR (· <n) vs->c.bn<=n->S.inv D w->Calls P c.f (AA β vs).toArray w (Dm c y w D β o)
theorem Ck {P:Program} {w:World} {f:Nat} {args:Array Value} (h:Bq P f=true):(callFunc f args).run P w=.ok (.enter f args) w:=by
 unfold Bq at h
 split at h
 case h_2=>cases h
 rename_i fn hf
 simp only [Bool.and_eq_true,Bool.not_eq_true'] at h
 obtain ⟨h1,h2⟩:=h
 have h3:¬ fn.body=none:=by cases hb:fn.body<;>simp_all
 have h4:¬ fn.name= "runtime.NumGoroutine" :=by simpa using h2
 simp [callFunc,hf,h4,h3]
mutual
theorem Zs {β β':Nat->Nm} {r:Nat->Nat} {N:Nat->Prop} (h: ∀ i,N i->β (r i)=β' i): ∀ x:SV,x.on N->(x.JG r).den β=x.den β'
 | .v _,_=>by simp [SV.JG,SV.den]
 | .b _,_=>by simp [SV.JG,SV.den]
 | .ptr i _,hx=>by simp only [SV.on] at hx;simp [SV.JG,SV.den,h i hx]
 | .row i _,hx=>by simp only [SV.on] at hx;simp [SV.JG,SV.den,h i hx]
 | .tr i,hx=>by simp only [SV.on] at hx;simp [SV.JG,SV.den,h i hx]
 | .ep i _ _ _,hx=>by simp only [SV.on] at hx;simp [SV.JG,SV.den,h i hx]
 | .view i _ _ _,hx=>by simp only [SV.on] at hx;simp [SV.JG,SV.den,h i hx]
 | .Bv i,hx=>by simp only [SV.on] at hx;simp [SV.JG,SV.den,h i hx]
 | .mk i _,hx=>by simp only [SV.on] at hx;simp [SV.JG,SV.den,h i hx]
 | .hm i,hx=>by simp only [SV.on] at hx;simp [SV.JG,SV.den,h i hx]
 | .h i,hx=>by simp only [SV.on] at hx;simp [SV.JG,SV.den,h i hx]
 | .vp i _,hx=>by simp only [SV.on] at hx;simp [SV.JG,SV.den,h i hx]
 | .ap i _ _ _,hx=>by simp only [SV.on] at hx;simp [SV.JG,SV.den,h i hx]
 | .pr i _ _ _,hx=>by simp only [SV.on] at hx;simp [SV.JG,SV.den,h i hx]
 | .pp i _ _ _ _ _ _,hx=>by simp only [SV.on] at hx;simp [SV.JG,SV.den,h i hx]
 | .agg cs,hx=>by simp only [SV.on] at hx;simp only [SV.JG,SV.den];rw [DW h cs hx]
 | .Gg cs,hx=>by simp only [SV.on] at hx;simp only [SV.JG,SV.den];rw [DW h cs hx]
 | .fn _ cs,hx=>by simp only [SV.on] at hx;simp only [SV.JG,SV.den];rw [DW h cs hx]
theorem DW {β β':Nat->Nm} {r:Nat->Nat} {N:Nat->Prop} (h: ∀ i,N i->β (r i)=β' i): ∀ l:List SV,BR N l->AA β (CQ r l)=AA β' l
 | [],_=>by simp [CQ,AA]
 | x::t,hx=>by
  simp only [BR] at hx
  simp only [CQ,AA]
  rw [Zs h x hx.1,DW h t hx.2]
end
mutual
theorem Ni {r:Nat->Nat} {N N':Nat->Prop} (h: ∀ i,N i->N' (r i)): ∀ {x:SV},x.on N->(x.JG r).on N'
 | .v _,_=>trivial
 | .b _,_=>trivial
 | .ptr i _,hx=>h i hx
 | .row i _,hx=>h i hx
 | .tr i,hx=>h i hx
 | .ep i _ _ _,hx=>h i hx
 | .view i _ _ _,hx=>h i hx
 | .Bv i,hx=>h i hx
 | .mk i _,hx=>h i hx
 | .hm i,hx=>h i hx
 | .h i,hx=>h i hx
 | .vp i _,hx=>h i hx
 | .ap i _ _ _,hx=>h i hx
 | .pr i _ _ _,hx=>h i hx
 | .pp i _ _ _ _ _ _,hx=>h i hx
 | .agg _,hx=>Fq h hx
 | .Gg _,hx=>Fq h hx
 | .fn _ _,hx=>Fq h hx
theorem Fq {r:Nat->Nat} {N N':Nat->Prop} (h: ∀ i,N i->N' (r i)): ∀ {l:List SV},BR N l->BR N' (CQ r l)
 | [],_=>trivial
 | _::_,hx=>⟨Ni h hx.1,Fq h hx.2⟩
end
theorem Own.Ni {r:Nat->Nat} {N N':Nat->Prop} (h: ∀ i,N i->N' (r i)) {b:Own S} (hb:b.on N):(b.JG r).on N':=by
 cases b<;>first|exact Fq h hb|trivial
theorem Own.Ka {D:Nat->Prop} {β β':Nat->Nm} {r:Nat->Nat} {N:Nat->Prop} {w:World} {nm:Nm} {b:Own S} (h: ∀ i,N i->β (r i)=β' i) (hn:b.on N) (hh:b.holds D β' w nm):(b.JG r).holds D β w nm:=by
 cases b with
 | AN T cs=>simp only [Own.on] at hn;simpa only [Own.JG,Own.holds,DW h cs hn] using hh
 | row T sz k cs=>simp only [Own.on] at hn;simpa only [Own.JG,Own.holds,DW h cs hn] using hh
 | vu cs=>simp only [Own.on] at hn;simpa only [Own.JG,Own.holds,DW h cs hn] using hh
 | tr=>exact hh
 | sl=>exact hh
 | obj p=>exact hh
 | any=>exact hh
 | dp=>exact hh
 | mp=>exact hh
 | mr=>exact hh
theorem Ea {r:Nat->Nat}: ∀ {o:List (Nat×Own S)} (i:Nat) (b:Own S),lk (Dl r o) i=some b-> ∃ j c,lk o j=some c/\r j=i/\b=c.JG r
 | [],i,b,h=>by simp [Dl,AS] at h
 | (d,x)::t,i,b,h=>by
  simp only [Dl,AI] at h
  split at h
  ·rename_i he;cases h;exact ⟨d,x,by simp [AI],he,rfl⟩
  ·rename_i hne
   obtain ⟨j,c,h1,h2,h3⟩:=Ea i b h
   exact ⟨j,c,by rw [AI,if_neg (fun e=>by subst e;exact hne h2)];exact h1,h2,h3⟩
theorem SE {m:List (Nat×Nat)}: ∀ {bn:Nat} {l:List Nat},N6 m bn=some l-> ∀ i,i<bn-> ∃ j,lk m i=some j/\j∈l
 | 0,l,h,i,hi=>by omega
 | bn+1,l,h,i,hi=>by
  simp only [N6] at h
  split at h
  case h_2=>cases h
  rename_i j hj
  split at h
  case h_2=>cases h
  rename_i l' hl
  cases h
  by_cases e:i=bn
  ·subst e;exact ⟨j,hj,by simp⟩
  ·obtain ⟨k,h1,h2⟩:=SE hl i (by omega)
   exact ⟨k,h1,List.mem_cons_of_mem _ h2⟩
theorem QZ {n:Nat}: ∀ {l:List Nat},Tu n l=true-> ∀ j∈l,j<n
 | [],_,j,hj=>by simp at hj
 | x::r,h,j,hj=>by
  simp only [Tu] at h
  split at h
  case h_2=>cases h
  rename_i hx
  rcases List.mem_cons.1 hj with rfl|hj
  ·exact Nat.le_of_ble_eq_true hx
  ·exact QZ h j hj
theorem eP {m:List (Nat×Nat)} {bn n:Nat} (h:hO m bn n=true): ∀ i,i<bn-> ∃ j,lk m i=some j/\j<n:=by
 unfold hO at h
 split at h
 case h_2=>cases h
 rename_i l hl
 intro i hi
 obtain ⟨j,h1,h2⟩:=SE hl i hi
 exact ⟨j,h1,QZ h j h2⟩
theorem Yi {f:Fd} {v:SV} {ps ps':PS S} {x:f.T S.T} (h:cM false f v ps=some (x,ps')):ps'.bl=ps.bl:=by
 unfold cM at h
 split at h
 ·cases h
 ·split at h
  ·cases h;rfl
  ·cases h
theorem Up {p:Cr} {cs r:List SV} {ps ps':PS S} {x:p.T S} (h:pP false p cs ps=some (x,r,ps')):ps'.bl=ps.bl:=by
 unfold pP at h
 split at h
 ·split at h
  ·rename_i hx;cases h;exact Yi hx
  ·cases h
 ·split at h
  ·cases h;rfl
  ·cases h
 ·split at h
  ·rename_i hx
   cases h
   unfold TV at hx
   split at hx
   ·split at hx
    case h_2=>cases hx
    split at hx
    ·cases hx;rfl
    ·cases hx
   ·split at hx
    ·cases hx;rfl
    ·cases hx
   ·split at hx
    case h_2=>cases hx
    split at hx
    case h_2=>cases hx
    split at hx
    ·cases hx;rfl
    ·cases hx
   ·cases hx
  ·cases h
 ·split at h
  ·rename_i hx
   cases h
   unfold eT at hx
   split at hx
   ·split at hx
    case h_2=>cases hx
    split at hx
    ·cases hx;rfl
    ·cases hx
   ·split at hx
    ·cases hx;rfl
    ·cases hx
   ·cases hx
  ·cases h
 ·split at h
  ·rename_i hx
   cases h
   unfold eY at hx
   split at hx
   ·split at hx
    case h_2=>cases hx
    split at hx
    ·cases hx;rfl
    ·cases hx
   ·cases hx
  ·cases h
 ·split at h
  ·rename_i hx
   cases h
   unfold ec at hx
   split at hx
   ·split at hx
    case h_2=>cases hx
    split at hx
    ·cases hx;rfl
    ·cases hx
   ·split at hx
    ·cases hx;rfl
    ·cases hx
   ·cases hx
  ·cases h
 ·split at h
  ·cases h;rfl
  ·cases h
 ·split at h
  ·cases h;rfl
  ·cases h
 ·split at h
  ·cases h;rfl
  ·cases h
 ·split at h
  ·cases h;rfl
  ·cases h
 ·split at h
  ·cases h;rfl
  ·cases h
 ·cases h;rfl
 ·split at h
  ·cases h;rfl
  ·cases h
 ·split at h
  ·cases h;rfl
  ·cases h
 ·cases h
theorem Re: ∀ {qs:List Cr} {cs:List SV} {ps ps':PS S} {x:PT S qs},QW false qs cs ps=some (x,ps')->ps'.bl=ps.bl
 | [],[],ps,ps',x,h=>by simp only [QW,Option.some.injEq,Prod.mk.injEq] at h;rw [<-h.2]
 | [],_::_,ps,ps',x,h=>by simp [QW] at h
 | p::r,cs,ps,ps',x,h=>by
  simp only [QW] at h
  split at h
  case h_2=>cases h
  rename_i h1
  split at h
  case h_2=>cases h
  rename_i h2
  cases h
  rw [Re h2,Up h1]
theorem Rb: ∀ {qs:List Cr} {vs:List SV} {ps ps':PS S} {x:PT S qs},OA false qs vs ps=some (x,ps')->ps'.bl=ps.bl
 | [],[],ps,ps',x,h=>by simp only [OA,Option.some.injEq,Prod.mk.injEq] at h;rw [<-h.2]
 | [],_::_,ps,ps',x,h=>by simp [OA] at h
 | _::_,[],ps,ps',x,h=>by simp [OA] at h
 | p::r,v::vs,ps,ps',x,h=>by
  simp only [OA] at h
  split at h
  case h_2=>cases h
  split at h
  case h_2=>cases h
  rename_i h1
  split at h
  case h_2=>cases h
  rename_i h2
  cases h
  rw [Rb h2,Up h1]
theorem Vw {b:Gh} {j:Nat} {ps ps':PS S} {x:PT S b.ps} (h:QH b j ps=some (x,ps')):ps'.bl=ps.bl:=by
 unfold QH at h
 split at h
 ·split at h
  case h_2=>cases h
  split at h
  case h_2=>cases h
  rw [Re h]
 ·obtain ⟨c,_,_,rfl⟩:=MD h;rfl
theorem Rc: ∀ {bs:List Gh} {seen:List Nat} {ps ps':PS S} {x:BT S bs},Uo bs seen ps=some (x,ps')->ps'.bl=ps.bl
 | [],seen,ps,ps',x,h=>by simp only [Uo,Option.some.injEq,Prod.mk.injEq] at h;rw [<-h.2]
 | b::r,seen,ps,ps',x,h=>by
  simp only [Uo] at h
  split at h
  case h_2=>cases h
  split at h
  case h_2=>cases h
  split at h
  case h_2=>cases h
  rename_i h1
  split at h
  case h_2=>cases h
  rename_i h2
  cases h
  rw [Rc h2,Vw h1]
theorem Spec.JD {q:Spec} {vs:List SV} {o:List (Nat×Own S)} {m:List (Nat×Nat)} {bn:Nat} {x:q.D S} {ps:PS S} (h:q.parse false vs o m bn=some (x,ps)):ps.bl=[]:=by
 unfold Spec.parse at h
 split at h
 case h_2=>cases h
 rename_i h1
 split at h
 case h_2=>cases h
 rename_i h2
 cases h
 rw [Rc h2,Rb h1]
theorem VN {w0:World} {F D0 D:Nat->Prop} {o:List (Nat×Own S)} {N:Nat} {β:Nat->Nm} {w:World} {c:By S} {x:c.sp.D S} {ps:PS S} {args:List SV} (hg:GH w0 F D0 D o (· <N) β w) (h:c.sp.parse c.flat args o [] c.bn=some (x,ps)) (hc:c.sp.okB c.bn=true) (hflat:c.flat=true->c.rs.plain S=true)
  (hm:hO ps.m c.bn N=true) {y:c.rs.D S} {P:Program} {f:Nat} (hcall: ∀ w D β vs o n,c.sp.enc x c.bn=(vs,o,n)->GH w (AK o β) D D o (· <n) β w->BR (· <n) vs->c.bn<=n->S.inv D w->Calls P f (AA β vs).toArray w (Dm c y w D β o)) (hiv:S.inv D w)
  {rs':List SV} {o':List (Nat×Own S)} {n':Nat} (he:c.rs.enc y (HR c.bn c.rs)=(rs',o',n')):
  Calls P f (AA β args).toArray w fun e w'=> ∃ D' β',e=.returned ((Az (CQ (Bh c.bn ps.m N) rs')).den β')/\(∀ i,i<N->β i=β' i)/\GH w0 F D0 D' (Dl (Bh c.bn ps.m N) o'++ps.o) (· <N+(n' -c.bn)) β' w'/\(Az (CQ (Bh c.bn ps.m N) rs')).on (· <N+(n' -c.bn)):=by
 rcases hE:c.sp.enc x c.bn with ⟨vs,o1,n1⟩
 obtain ⟨β1,hbox,hgh1,hden,hon1,hbn1,hcross,hsub,_,hbl⟩:=Spec.B5 hg h hc hE
 have hmok:=eP hm
 rw [hden]
 refine (hcall w (FN D β ps.bl) β1 vs o1 n1 hE ⟨hgh1.Bk,hgh1.own,hgh1.inj,fun i b k hi hk=>.inr ⟨i,b,hi,hk⟩,hgh1.off,hgh1.lt,hgh1.C0,fun k hk=>.inl hk,OC.refl _ _,fun _ h=>h⟩ hon1 hbn1 (S.FQ hiv (fun _ _=>rfl) fun k hk=>.inl hk)).mono fun e w' ⟨D',β',rs2,o2,n2,he2,hret,hb',hgh2,honr,hn2⟩=>?_
 rw [he] at he2
 simp only [Prod.mk.injEq] at he2
 obtain ⟨rfl,rfl,rfl⟩:=he2
 -- blocks of what is lent and of what stays are as they were
 have hkeepD: ∀ k,FN D β ps.bl k->w'.heap[k]?=w.heap[k]?:=fun k hk=>hgh2.fr.block k (hgh1.C0 k hk) fun ⟨i,b,hi,hik⟩=>hgh1.off i b k hi hik hk
 have hoff: ∀ i c' k,lk ps.o i=some c'->(β i).has k->¬ AK o1 β1 k:=fun i c' k hi hk ⟨j,d,hj,hjk⟩=>by
  by_cases hib:i∈ps.bl
  ·exact hgh1.off j d k hj hjk (.inr ⟨i,hib,hk⟩)
  ·exact hcross i c' j d k hi hib hj hk hjk
 have hkeepR: ∀ i c' k,lk ps.o i=some c'->(β i).has k->w'.heap[k]?=w.heap[k]?:=fun i c' k hi hk=>
  hgh2.fr.block k (hg.lt i c' k (hsub i c' hi) hk) (hoff i c' k hi hk)
 let D2:Nat->Prop:=fun k=>(D' k\/D k)/\¬ ∃ i∈ps.bl,(β i).has k
 have hDlent: ∀ k,D k->FN D β ps.bl k:=fun k hk=>.inl hk
 have hDD2: ∀ k,D k->D2 k:=fun k hk=>⟨.inr hk,fun ⟨i,hi,hik⟩=>by
  obtain ⟨c',hc'⟩:=hbl i hi
  exact hg.off i c' k (hsub i c' hc') hik hk⟩
 let r:=Bh c.bn ps.m N
 let βn:Nat->Nm:=fun i=>if i<N then β i else β' (i -N+c.bn)
 have hβn: ∀ i,i<N->β i=βn i:=fun i hi=>by simp only [βn];rw [if_pos hi]
 have hr: ∀ i,i<n'->βn (r i)=β' i:=fun i hi=>by
  by_cases hib:i<c.bn
  ·obtain ⟨j,hj,hjN⟩:=hmok i hib
   have e1:r i=j:=by simp only [r,Bh];rw [show Nat.ble (i+1) c.bn=true from Nat.ble_eq_true_of_le hib];simp only [hj]
   rw [e1,<- hβn j hjN,hb' i hib,hbox i hib j hj]
  ·have e1:r i=N+(i -c.bn):=by
    simp only [r,Bh]
    have:Nat.ble (i+1) c.bn=false:=by
     cases hb:Nat.ble (i+1) c.bn
     ·rfl
     ·exact absurd (Nat.le_of_ble_eq_true hb) hib
    rw [this]
   simp only [e1,βn]
   rw [if_neg (by omega)]
   congr 1;omega
 have hrN: ∀ i,i<n'->r i<N+(n' -c.bn):=fun i hi=>by
  by_cases hib:i<c.bn
  ·obtain ⟨j,hj,hjN⟩:=hmok i hib
   have e1:r i=j:=by simp only [r,Bh];rw [show Nat.ble (i+1) c.bn=true from Nat.ble_eq_true_of_le hib];simp only [hj]
   omega
  ·have e1:r i=N+(i -c.bn):=by
    simp only [r,Bh]
    have:Nat.ble (i+1) c.bn=false:=by
     cases hb:Nat.ble (i+1) c.bn
     ·rfl
     ·exact absurd (Nat.le_of_ble_eq_true hb) hib
    rw [this]
   omega
 have hcase: ∀ i b,lk (Dl r o'++ps.o) i=some b->(∃ j c',lk o' j=some c'/\r j=i/\b=c'.JG r)\/lk ps.o i=some b:=fun i b h=>by
  rw [M7] at h
  cases h1:lk (Dl r o') i with
  | none=>rw [h1] at h;exact .inr (by simpa using h)
  | some c'=>rw [h1] at h;simp at h;subst h;exact .inl (Ea i _ h1)
 have hRN: ∀ i b,lk ps.o i=some b->i<N:=fun i b hi=>(hg.Bk i b (hsub i b hi)).1
 have hfree:ps.bl=[]\/Cv o':=by
  cases hfl:c.flat with
  | true=>exact .inr (Spec.Mf (hflat hfl) he)
  | false=>rw [hfl] at h;exact .inl (Spec.JD h)
 have hold: ∀ j c' k,lk o' j=some c'->(β' j).has k->AK o1 β1 k\/w.heap.size<=k:=fun j c' k hj hk=>(hgh2.fresh j c' k hj hk).symm
 have hsep: ∀ i b j c' k,lk ps.o i=some b->lk o' j=some c'->(β i).has k->(β' j).has k->False:=fun i b j c' k hi hj hk hjk=>by
  rcases hold j c' k hj hjk with h1|h1
  ·exact hoff i b k hi hk h1
  ·have:=hg.lt i b k (hsub i b hi) hk;omega
 have hfr1: ∀ k,AK o1 β1 k->w0.heap.size<=k\/F k:=fun k ⟨i,b,hi,hik⟩=>hgh1.fresh i b k hi hik
 refine ⟨D2,βn,?_,hβn,⟨fun i b hi=>?_,fun i b hi=>?_,fun i j b b' k hi hj hk hl=>?_,fun i b k hi hk=>?_,fun i b k hi hk hD=>?_,fun i b k hi hk=>?_,fun k hk=>?_,fun k hk=>?_,?_,fun k hk=>hDD2 k (hg.sub k hk)⟩,?_⟩
 ·rw [hret]
  congr 1
  have hd:=DW (β:=βn) (β':=β') (r:=r) (N:=(· <n')) hr rs' honr
  cases hrs:rs' with
  | nil=>simp [Az,CQ,SV.den,AA]
  | cons a t=>
   cases t with
   | nil=>rw [hrs] at hd;simp only [CQ,AA,List.cons.injEq,and_true] at hd;simp only [Az,CQ];exact hd.symm
   | cons b t=>rw [hrs] at hd;simp only [Az,CQ,SV.den];simp only [CQ] at hd;rw [hd]
 ·rcases hcase i b hi with ⟨j,c',hj,hji,rfl⟩|hi
  ·obtain ⟨h1,h2⟩:=hgh2.Bk j c' hj
   exact ⟨by rw [<-hji];exact hrN j h1,Own.Ni hrN h2⟩
  ·exact ⟨Nat.lt_of_lt_of_le (hRN i b hi) (Nat.le_add_right _ _),Own.Am (fun _ h=>Nat.lt_of_lt_of_le h (Nat.le_add_right _ _)) (hg.Bk i b (hsub i b hi)).2⟩
 ·rcases hcase i b hi with ⟨j,c',hj,hji,rfl⟩|hi
  ·obtain ⟨h1,h2⟩:=hgh2.Bk j c' hj
   rw [<-hji,hr j h1]
   refine Own.Ka (N:=(· <n')) hr h2 ?_
   have h3:=hgh2.own j c' hj
   rcases hfree with hf|hf
   ·exact Own.Bu h3 fun k hk=>⟨.inl hk,fun ⟨i,hi,_⟩=>by rw [hf] at hi;simp at hi⟩
   ·exact Own.Ms (hf j c' hj) h3
  ·rw [<-hβn i (hRN i b hi)]
   have h3:=hg.own i b (hsub i b hi)
   exact Own.Bu (Own.De (Own.Dq hβn (hg.Bk i b (hsub i b hi)).2 h3) (fun k hk=>hkeepR i b k hi hk) fun k hk=>hkeepD k (.inl hk)) hDD2
 ·rcases hcase i b hi with ⟨i',c1,hi1,e1,_⟩|hi<;>rcases hcase j b' hj with ⟨j',c2,hj1,e2,_⟩|hj
  ·rw [<-e1,hr i' (hgh2.Bk i' c1 hi1).1] at hk
   rw [<-e2,hr j' (hgh2.Bk j' c2 hj1).1] at hl
   rw [<-e1,<- e2,hgh2.inj i' j' c1 c2 k hi1 hj1 hk hl]
  ·rw [<-e1,hr i' (hgh2.Bk i' c1 hi1).1] at hk
   rw [<-hβn j (hRN j b' hj)] at hl
   exact (hsep j b' i' c1 k hj hi1 hl hk).elim
  ·rw [<-hβn i (hRN i b hi)] at hk
   rw [<-e2,hr j' (hgh2.Bk j' c2 hj1).1] at hl
   exact (hsep i b j' c2 k hi hj1 hk hl).elim
  ·rw [<-hβn i (hRN i b hi)] at hk;rw [<-hβn j (hRN j b' hj)] at hl
   exact hg.inj i j b b' k (hsub i b hi) (hsub j b' hj) hk hl
 ·rcases hcase i b hi with ⟨j,c',hj,hji,_⟩|hi
  ·rw [<-hji,hr j (hgh2.Bk j c' hj).1] at hk
   rcases hold j c' k hj hk with h1|h1
   ·exact hfr1 k h1
   ·exact .inl (Nat.le_trans hg.fr.size h1)
  ·rw [<-hβn i (hRN i b hi)] at hk
   exact hg.fresh i b k (hsub i b hi) hk
 ·rcases hcase i b hi with ⟨j,c',hj,hji,_⟩|hi
  ·rw [<-hji,hr j (hgh2.Bk j c' hj).1] at hk
   rcases hD.1 with h1|h1
   ·exact hgh2.off j c' k hj hk h1
   ·rcases hold j c' k hj hk with ⟨l,d,hl,hlk⟩|h2
    ·exact hgh1.off l d k hl hlk (.inl h1)
    ·have:=hg.C0 k h1;omega
  ·rw [<-hβn i (hRN i b hi)] at hk
   have hio:=hsub i b hi
   rcases hD.1 with hD1|hD1
   case inr=>exact hg.off i b k hio hk hD1
   rcases hgh2.JV k hD1 with h1|h1|h1
   ·rcases h1 with h1|h1
    ·exact hg.off i b k hio hk h1
    ·exact hD.2 h1
   ·exact hoff i b k hi hk h1
   ·have:=hg.lt i b k hio hk;omega
 ·rcases hcase i b hi with ⟨j,c',hj,hji,_⟩|hi
  ·rw [<-hji,hr j (hgh2.Bk j c' hj).1] at hk
   exact hgh2.lt j c' k hj hk
  ·rw [<-hβn i (hRN i b hi)] at hk
   exact Nat.lt_of_lt_of_le (hg.lt i b k (hsub i b hi) hk) hgh2.fr.size
 ·rcases hk.1 with h1|h1
  ·exact hgh2.C0 k h1
  ·exact Nat.lt_of_lt_of_le (hg.C0 k h1) hgh2.fr.size
 ·rcases hk.1 with hk1|hk1
  case inr=>exact hg.JV k hk1
  rcases hgh2.JV k hk1 with h1|h1|h1
  ·rcases h1 with h1|h1
   ·exact hg.JV k h1
   ·exact absurd h1 hk.2
  ·rcases hfr1 k h1 with h2|h2
   ·exact .inr (.inr h2)
   ·exact .inr (.inl h2)
  ·exact .inr (.inr (Nat.le_trans hg.fr.size h1))
 ·refine ⟨hgh2.fr.os.trans hg.fr.os,hgh2.fr.tape.trans hg.fr.tape,hgh2.fr.output.trans hg.fr.output,Nat.le_trans hg.fr.size hgh2.fr.size,fun k hk hF=>?_⟩
  refine (hgh2.fr.block k (Nat.lt_of_lt_of_le hk hg.fr.size) fun hb=>?_).trans (hg.fr.block k hk hF)
  rcases hfr1 k hb with h1|h1
  ·omega
  ·exact hF h1
 ·have ho:=Fq (N:=(· <n')) (N':=(· <N+(n' -c.bn))) hrN honr
  cases hrs:rs' with
  | nil=>simp [Az,CQ,SV.on,BR]
  | cons a t=>
   cases t with
   | nil=>rw [hrs] at ho;exact ho.1
   | cons b t=>rw [hrs] at ho;exact ho
end
end Go.En
