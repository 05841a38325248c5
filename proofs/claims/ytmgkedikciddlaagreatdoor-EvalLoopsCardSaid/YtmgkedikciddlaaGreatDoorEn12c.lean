/-
 A region that draws its order, by evaluation: what drawT finds is right (drawT_sound).
-/
import Derived.Test.YtmgkedikciddlaaGreatDoorMd
set_option linter.all false
namespace Go.En
open Go.RowKit
section
variable {S:At} {P:Program} {w0:World} {F D0:Nat->Prop} {s:St S} {all:Array Oper} {ms:List Nat} {fl:Bool} {hid:List Nat}
theorem SX: ∀ {fs:List (FC S.T)} {n:Nat} {oc:List (Nat×Own S)} {cs:List SV} {oc':List (Nat×Own S)} {n':Nat},Ca fs n oc=(cs,oc',n')-> ∀ a d,lk oc' a=some d->lk oc a=some d\/(∃ σ l,d=.sl σ l)\/d=.any:=by
 intro fs
 induction fs with
 | nil=>intro n oc cs oc' n' hu a d ha;simp only [Ca,Prod.mk.injEq] at hu;rw [<-hu.2.1] at ha;exact .inl ha
 | cons f r ih=>
  intro n oc cs oc' n' hu a d ha
  cases f with
  | sl σ l=>
   simp only [Ca,Prod.mk.injEq] at hu
   rw [<-hu.2.1] at ha
   rcases ih (n:=n+1) (oc:=(n,.sl σ l)::oc) rfl a d ha with h1|h1
   ·rw [AJ] at h1
    split at h1
    ·cases h1;exact .inr (.inl ⟨_,_,rfl⟩)
    ·exact .inl h1
   ·exact .inr h1
  | ow σ E l=>
   simp only [Ca,Prod.mk.injEq] at hu
   rw [<-hu.2.1] at ha
   rcases ih (n:=n+1) (oc:=(n,.any)::oc) rfl a d ha with h1|h1
   ·rw [AJ] at h1
    split at h1
    ·cases h1;exact .inr (.inr rfl)
    ·exact .inl h1
   ·exact .inr h1
  | _=>simp only [Ca,Prod.mk.injEq] at hu;rw [<-hu.2.1] at ha;exact ih rfl a d ha
def WX (o:List (Nat×Own S)):Prop:= ∀ i b,lk o i=some b->(∃ σ l,b=.sl σ l)\/b=.any
theorem Fu: ∀ {qs:List Cw} {x:PT S qs} {n:Nat} {oc:List (Nat×Own S)} {cs:List SV} {oc':List (Nat×Own S)} {n':Nat},Ce qs=true->CE qs x n oc=(cs,oc',n')->WX oc->WX oc'
 | [],x,n,oc,cs,oc',n',_,h,ho=>by simp only [CE,Prod.mk.injEq] at h;obtain ⟨_,rfl,_⟩:=h;exact ho
 | p::r,x,n,oc,cs,oc',n',hp,h,ho=>by
  simp only [CE] at h
  rcases hE:Br p x.1 n oc with ⟨a,o1,n1⟩
  rw [hE] at h
  simp only at h
  rcases hE2:CE r x.2 n1 o1 with ⟨b,o2,n2⟩
  rw [hE2] at h
  simp only [Prod.mk.injEq] at h
  obtain ⟨_,rfl,_⟩:=h
  cases p with
  | fd f=>
   exact Fu (by simpa [Ce] using hp) hE2 fun i b hi=>by
    rcases SX hE i b hi with h1|h1
    ·exact ho i b h1
    ·exact h1
  | st τ=>
   exact Fu (by simpa [Ce] using hp) hE2 fun i b hi=>by
    rcases SX hE i b hi with h1|h1
    ·exact ho i b h1
    ·exact h1
  | own τ E=>simp [Ce] at hp
  | dp τ E=>simp [Ce] at hp
  | mp κ τ ag=>simp [Ce] at hp
  | mr κ τ ag E=>simp [Ce] at hp
  | rw i=>simp [Ce] at hp
  | rm i=>simp [Ce] at hp
  | ep i z off=>simp [Ce] at hp
  | al i off=>simp [Ce] at hp
  | np=>simp [Ce] at hp
  | hd=>simp [Ce] at hp
  | hm=>simp [Ce] at hp
  | fn f caps=>
   cases caps with
   | nil=>simp only [Br,Prod.mk.injEq] at hE;obtain ⟨_,rfl,_⟩:=hE;exact Fu (by simpa [Ce] using hp) hE2 ho
   | cons=>simp [Ce] at hp
theorem Vh {q:Spec} {x:q.D S} {n:Nat} {vs:List SV} {o':List (Nat×Own S)} {n':Nat} (hl:q.Ra=true) (h:q.enc x n=(vs,o',n')):WX o':=by
 obtain ⟨as,bx⟩:=q
 unfold Spec.Ra at hl
 cases bx with
 | cons=>simp at hl
 | nil=>
  unfold Spec.enc at h
  rcases hE:CE as x.1 n [] with ⟨a,o1,n1⟩
  rw [hE] at h
  simp only [El,Prod.mk.injEq] at h
  obtain ⟨_,rfl,_⟩:=h
  exact Fu hl hE fun i b hi=>by simp [AQ] at hi
theorem WG {m:List (Nat×Nat)} {n i:Nat}:Bk 0 m n i=n+i:=by
 unfold Bk
 have:Nat.ble (i+1) 0=false:=by
  cases hb:Nat.ble (i+1) 0
  ·rfl
  ·exact absurd (Nat.le_of_ble_eq_true hb) (by omega)
 rw [this];simp
theorem Wq {D:Nat->Prop} {o:List (Nat×Own S)} {N:Nat->Prop} {β:Nat->Nm} {w:World} {n:Nat} {c:B2 S} {x:c.sp.D S} {ps:PS S} {args:List SV} (hg:GH w0 F D0 D o N β w) (h:c.sp.parse c.flat args o [] c.bn=some (x,ps)) (hc:c.sp.okB c.bn=true) (hflat:c.flat=true->c.rs.plain S=true)
  (hl:c.sp.Ra=true) (hb0:c.bn=0) {y:c.rs.D S} {f:Nat} (hcall: ∀ w D β vs o n,c.sp.enc x c.bn=(vs,o,n)->GH w (AK o β) D D o (· <n) β w->BW (· <n) vs->c.bn<=n->S.inv D w->Calls P f (AB β vs).toArray w (Dr c y w D β o)) (hiv:S.inv D w)
  {rs':List SV} {o':List (Nat×Own S)} {n':Nat} (he:c.rs.enc y (Hb c.bn c.rs)=(rs',o',n')) (hfr: ∀ j,n<=j->j<n+(n' -c.bn)->¬ N j):
  Calls P f (AB β args).toArray w fun e w'=> ∃ D' β',e=.returned ((A5 (CY (Bk c.bn ps.m n) rs')).den β')/\B4 D D' N n (n+(n' -c.bn)) (Dq (Bk c.bn ps.m n) o') β β' w w'/\(A5 (CY (Bk c.bn ps.m n) rs')).on (more N n (n+(n' -c.bn))):=by
 rcases hE:c.sp.enc x c.bn with ⟨vs,o1,n1⟩
 obtain ⟨β1,hbox,hgh1,hden,hon1,hbn1,hcross,hsub,_,hbl⟩:=Spec.CA hg h hc hE
 have hsl:=Vh hl hE
 have hno: ∀ k,¬ AK o1 β1 k:=fun k ⟨i,b,hi,hik⟩=>by
  rcases hsl i b hi with ⟨σ,l,rfl⟩|rfl
  ·exact (hgh1.own i _ hi).1.no k hik
  ·exact Nm.dP.no (hgh1.own i _ hi) k hik
 rw [hden]
 refine (hcall w (FZ D β ps.bl) β1 vs o1 n1 hE ⟨hgh1.Bn,hgh1.own,hgh1.inj,fun i b k hi hk=>.inr ⟨i,b,hi,hk⟩,hgh1.off,hgh1.lt,hgh1.DF,fun k hk=>.inl hk,OM.refl _ _,fun _ h=>h⟩ hon1 hbn1 (S.Fc hiv (fun _ _=>rfl) fun k hk=>.inl hk)).mono fun e w' ⟨D',β2,rs2,o2,n2,he2,hret,hb',hgh2,honr,hn2⟩=>?_
 rw [he] at he2
 simp only [Prod.mk.injEq] at he2
 obtain ⟨rfl,rfl,rfl⟩:=he2
 have hbelow:Below w.heap.size w w':=⟨hgh2.fr.os,hgh2.fr.tape,hgh2.fr.output,hgh2.fr.size,fun k hk=>hgh2.fr.block k hk (hno k)⟩
 rw [hb0] at hfr
 rw [hb0]
 simp only [Nat.sub_zero] at hfr ⊢
 let r:=Bk 0 ps.m n
 have hr0: ∀ i,r i=n+i:=fun i=>WG
 let D2:Nat->Prop:=fun k=>(D' k\/D k)/\¬ ∃ i∈ps.bl,(β i).has k
 have hDD2: ∀ k,D k->D2 k:=fun k hk=>⟨.inr hk,fun ⟨i,hi,hik⟩=>by
  obtain ⟨c',hc'⟩:=hbl i hi
  exact hg.off i c' k (hsub i c' hc') hik hk⟩
 let βn:Nat->Nm:=fun i=>if n<=i/\i<n+n' then β2 (i -n) else β i
 have hβn: ∀ i,N i->β i=βn i:=fun i hi=>by
  simp only [βn];rw [if_neg fun h=>hfr i h.1 h.2 hi]
 have hr: ∀ i,i<n'->βn (r i)=β2 i:=fun i hi=>by
  simp only [hr0,βn]
  rw [if_pos (by omega)]
  congr 1;omega
 have hrN: ∀ i,i<n'->more N n (n+n') (r i):=fun i hi=>.inr (by rw [hr0];omega)
 have hfree:ps.bl=[]\/C0 o':=by
  cases hfl:c.flat with
  | true=>exact .inr (Spec.Mq (hflat hfl) he)
  | false=>rw [hfl] at h;exact .inl (Spec.JR h)
 have hinj: ∀ i j,r i=r j->i=j:=fun i j h=>by rw [hr0,hr0] at h;omega
 have hold: ∀ j c' k,lk o' j=some c'->(β2 j).has k->w.heap.size<=k:=fun j c' k hj hk=>(hgh2.fresh j c' k hj hk).elim id fun h=>(hno k h).elim
 refine ⟨D2,βn,?_,⟨hβn,hbelow,Nat.le_add_right _ _,fun i b hi=>?_,fun i b hi=>?_,fun i b k hi hk=>?_,fun i j b c' k hi hj hk hl=>?_,hDD2,fun k hk=>?_,fun i b k hi hk hD=>?_,fun i b k hi hk=>?_⟩,?_⟩
 ·rw [hret]
  congr 1
  have hd:=Db (β:=βn) (β':=β2) (r:=r) (N:=(· <n')) hr rs' honr
  cases hrs:rs' with
  | nil=>simp [A5,CY,SV.den,AB]
  | cons a t=>
   cases t with
   | nil=>rw [hrs] at hd;simp only [CY,AB,List.cons.injEq,and_true] at hd;simp only [A5,CY];exact hd.symm
   | cons b t=>rw [hrs] at hd;simp only [A5,CY,SV.den];simp only [CY] at hd;rw [hd]
 ·obtain ⟨j,c',hj,hji,rfl⟩:=Ej i b hi
  obtain ⟨h1,h2⟩:=hgh2.Bn j c' hj
  exact ⟨by rw [<-hji,show Bk 0 ps.m n j=n+j from hr0 j];omega,Own.No hrN h2⟩
 ·obtain ⟨j,c',hj,hji,rfl⟩:=Ej i b hi
  obtain ⟨h1,h2⟩:=hgh2.Bn j c' hj
  rw [<-hji,hr j h1]
  refine Own.Kg (N:=(· <n')) hr h2 ?_
  have h3:=hgh2.own j c' hj
  rcases hfree with hf|hf
  ·exact Own.Bx h3 fun k hk=>⟨.inl hk,fun ⟨i,hi,_⟩=>by rw [hf] at hi;simp at hi⟩
  ·exact Own.M0 (hf j c' hj) h3
 ·obtain ⟨j,c',hj,hji,rfl⟩:=Ej i b hi
  rw [<-hji,hr j (hgh2.Bn j c' hj).1] at hk
  exact hold j c' k hj hk
 ·obtain ⟨i',c1,hi1,e1,_⟩:=Ej i b hi
  obtain ⟨j',c2,hj1,e2,_⟩:=Ej j c' hj
  rw [<-e1,hr i' (hgh2.Bn i' c1 hi1).1] at hk
  rw [<-e2,hr j' (hgh2.Bn j' c2 hj1).1] at hl
  rw [<-e1,<- e2,hgh2.inj i' j' c1 c2 k hi1 hj1 hk hl]
 ·rcases hk.1 with h1|h1
  ·rcases hgh2.KQ k h1 with h2|h2|h2
   ·rcases h2 with h2|h2
    ·exact .inl h2
    ·exact absurd h2 hk.2
   ·exact (hno k h2).elim
   ·exact .inr ⟨h2,hgh2.DF k h1⟩
  ·exact .inl h1
 ·obtain ⟨j,c',hj,hji,rfl⟩:=Ej i b hi
  rw [<-hji,hr j (hgh2.Bn j c' hj).1] at hk
  rcases hD.1 with h1|h1
  ·exact (hgh2.off j c' k hj hk h1).elim
  ·exact h1
 ·obtain ⟨j,c',hj,hji,rfl⟩:=Ej i b hi
  rw [<-hji,hr j (hgh2.Bn j c' hj).1] at hk
  exact hgh2.lt j c' k hj hk
 ·have ho:=F5 (N:=(· <n')) (N':=more N n (n+n')) hrN honr
  cases hrs:rs' with
  | nil=>simp [A5,CY,SV.on,BW]
  | cons a t=>
   cases t with
   | nil=>rw [hrs] at ho;exact ho.1
   | cons b t=>rw [hrs] at ho;exact ho
theorem TO {s s':St S} (h:s.t=s'.t) (x:Operand):ev s x=ev s' x:=by cases x<;>simp only [ev,h]
theorem Ud {s s':St S} (h:s.t=s'.t): ∀ l:List Operand,Hk s l=Hk s' l
 | []=>rfl
 | x::r=>by simp only [Hk,TO h x,Ud h r]
theorem Wr {s s':St S} (h:s.t=s'.t) {op:Op}:callee s op=callee s' op:=by
 unfold callee
 split
 ·rename_i f args ts
  rw [TO h f]
  simp only [Ud h args]
 ·rfl
theorem bq {m:List (Nat×Nat)} {bn:Nat} {o:List (Nat×Own S)} (h:Ys m bn o=true): ∀ i,i<bn-> ∃ j,lk m i=some j/\ ∃ b,lk o j=some b:=by
 unfold Ys at h
 split at h
 case h_2=>cases h
 rename_i l hl
 have key: ∀ (n:Nat) (l:List Nat),OD m n=some l->Nc (mW o) l=true-> ∀ i,i<n-> ∃ j,lk m i=some j/\ ∃ b,lk o j=some b:=by
  intro n
  induction n with
  | zero=>intro l _ _ i hi;omega
  | succ n ih=>
   intro l hv hb i hi
   simp only [OD] at hv
   split at hv
   case h_2=>cases hv
   rename_i j hj
   split at hv
   case h_2=>cases hv
   rename_i l' hl'
   cases hv
   simp only [Nc] at hb
   split at hb
   case h_2=>cases hb
   rename_i hjo
   by_cases he:i=n
   ·subst he
    refine ⟨j,hj,?_⟩
    unfold mW at hjo
    split at hjo
    ·rename_i b hb';exact ⟨b,hb'⟩
    ·cases hjo
   ·exact ih l' hl' hb i (by omega)
 exact key bn l hl h
theorem Kf {o':List (Nat×Own S)} {j:Nat}: ∀ {l:List (Nat×Own S)},j∈Hp o' l->(∃ b,lk l j=some b)
 | [],h=>by simp [Hp] at h
 | (i,b)::r,h=>by
  simp only [Hp] at h
  rw [AJ]
  by_cases he:i=j
  ·exact ⟨b,if_pos he⟩
  ·rw [if_neg he]
   split at h
   ·exact Kf h
   ·rcases List.mem_cons.1 h with h|h
    ·exact absurd h.symm he
    ·exact Kf h
theorem RL {o o':List (Nat×Own S)} {j:Nat} (h:j∈Hp o' o): ∃ b,lk o j=some b:=Kf h
theorem M4 {o':List (Nat×Own S)} {j:Nat} {b:Own S} (hn:lk o' j=none): ∀ {l:List (Nat×Own S)},lk l j=some b->j∈Hp o' l
 | [],h=>by simp [AQ] at h
 | (i,c)::r,h=>by
  rw [AJ] at h
  simp only [Hp]
  split at h
  ·rename_i he
   subst he
   rw [hn]
   simp
  ·split
   ·exact M4 hn h
   ·exact List.mem_cons_of_mem _ (M4 hn h)
theorem Lo {u n:Nat}:Nat.ble (u+1) n=true↔u<n:=by rw [Nat.ble_eq];omega
theorem IT {n u:Nat}: ∀ {l:List (Nat×Own S)},lk (Ey n l) u=if u<n then lk l u else none
 | []=>by simp [Ey,AQ]
 | (i,b)::r=>by
  simp only [Ey]
  split
  ·rename_i hi
   have hi:=Lo.1 hi
   rw [AJ,AJ,IT (l:=r)]
   by_cases he:i=u
   ·subst he;simp [hi]
   ·simp [he]
  ·rename_i hi
   have hi:¬ i<n:=fun h=>by rw [Lo.2 h] at hi;cases hi
   rw [AJ,IT (l:=r)]
   by_cases he:i=u
   ·subst he;simp [hi]
   ·simp [he]
theorem O9: ∀ {a b:List SV},Qj a b=true->a=b
 | [],[],_=>rfl
 | .ptr i k::r,.ptr i' k'::r',h=>by
  simp only [Qj] at h
  split at h
  ·rename_i h1 h2
   rw [Nat.eq_of_beq_eq_true h1,Nat.eq_of_beq_eq_true h2,O9 h]
  ·cases h
theorem ZZ {a b:Own S} (h:ZY a b=true):a=b:=by
 unfold ZY at h
 split at h
 case h_2=>cases h
 split at h
 case h_2=>cases h
 rename_i h1
 rw [Nat.eq_of_beq_eq_true h1,O9 h]
theorem X1 {o g:List (Nat×Own S)} {u:Nat} (h:RR o g u=true): ∃ b,lk g u=some b/\lk o u=some b:=by
 unfold RR at h
 split at h
 ·rename_i b b' h1 h2
  exact ⟨b,h1,by rw [ZZ h];exact h2⟩
 ·cases h
theorem Eg {f:Nat->Bool} {u:Nat}: ∀ {l:List Nat},u∈KX f l↔u∈l/\f u=false
 | []=>by simp [KX]
 | i::r=>by
  simp only [KX]
  split
  ·rename_i hf
   rw [Eg (l:=r),List.mem_cons]
   refine ⟨fun ⟨h1,h2⟩=>⟨.inr h1,h2⟩,fun ⟨h1,h2⟩=>⟨?_,h2⟩⟩
   rcases h1 with rfl|h1
   ·rw [hf] at h2;cases h2
   ·exact h1
  ·rename_i hf
   rw [List.mem_cons,List.mem_cons,Eg (l:=r)]
   refine ⟨fun h=>?_,fun ⟨h1,h2⟩=>?_⟩
   ·rcases h with rfl|⟨h1,h2⟩
    ·exact ⟨.inl rfl,hf⟩
    ·exact ⟨.inr h1,h2⟩
   ·rcases h1 with rfl|h1
    ·exact .inl rfl
    ·exact .inr ⟨h1,h2⟩
theorem IS {n u:Nat}: ∀ {l:List (Nat×Own S)},lk (GB n l) u=if u<n then none else lk l u
 | []=>by simp [GB,AQ]
 | (i,b)::r=>by
  simp only [GB]
  split
  ·rename_i hi
   have hi:=Lo.1 hi
   rw [AJ,IS (l:=r)]
   by_cases he:i=u
   ·subst he;simp [hi]
   ·simp [he]
  ·rename_i hi
   have hi:¬ i<n:=fun h=>by rw [Lo.2 h] at hi;cases hi
   rw [AJ,AJ,IS (l:=r)]
   by_cases he:i=u
   ·subst he;simp [hi]
   ·simp [he]
theorem Wh {tb:List (Nat×TI)} {st:St S} {T j m n':Nat} {x y:Operand} (hxj:ev st x=some (.tr j)) {c0:Option Bool} {ow:Own S} {o':List (Nat×Own S)} {v:SV} (h:Qy tb st T x y=.x c0 ((m,ow)::o') n' v): ∃ b,lk st.o j=some b:=by
 unfold Qy at h
 split at h
 case h_2=>cases h
 split at h
 case h_2=>cases h
 split at h
 case h_2=>cases h
 split at h
 case h_2=>cases h
 rename_i xv yv hz hx hy
 split at h
 case h_2=>cases h
 rename_i d l hb
 rw [hxj] at hx
 cases hx
 unfold Oc at hb
 simp only at hb
 split at hb
 case h_2=>cases hb
 rename_i hj
 exact ⟨_,hj⟩
theorem Vb {w0:World} {F D0 D:Nat->Prop} {o o2:List (Nat×Own S)} {N:Nat->Prop} {n0:Nat} {cn:List Nat} {β:Nat->Nm} {w:World} {c:B2 S} {x:c.sp.D S} {ps:PS S} {args:List SV} (hg2:GH w0 F D0 D o2 N β w) (hsub2:Sub o o2) (h:c.sp.parse c.flat args o [] c.bn=some (x,ps)) (hc:c.sp.okB c.bn=true) (hflat:c.flat=true->c.rs.plain S=true)
  (hm:Ys ps.m c.bn o=true) {y:c.rs.D S} {P:Program} {f:Nat} (hcall: ∀ w D β vs o n,c.sp.enc x c.bn=(vs,o,n)->GH w (AK o β) D D o (· <n) β w->BW (· <n) vs->c.bn<=n->S.inv D w->Calls P f (AB β vs).toArray w (Dr c y w D β o)) (hiv:S.inv D w)
  {rs':List SV} {o':List (Nat×Own S)} {n':Nat} (he:c.rs.enc y (Hb c.bn c.rs)=(rs',o',n')) (hfr: ∀ k,n0<=k->k<n0+(n' -c.bn)->¬ N k) (hcn: ∀ i b,lk o i=some b->lk ps.o i=none->i∈cn):
  Calls P f (AB β args).toArray w fun e w'=> ∃ D' β',e=.returned ((A5 (CY (Bk c.bn ps.m n0) rs')).den β')/\(∀ i,N i->β i=β' i)/\GH w0 F D0 D' (Dq (Bk c.bn ps.m n0) o'++Sg cn o2) (more N n0 (n0+(n' -c.bn))) β' w'/\(A5 (CY (Bk c.bn ps.m n0) rs')).on (more N n0 (n0+(n' -c.bn))):=by
 rcases hE:c.sp.enc x c.bn with ⟨vs,o1,n1⟩
 have hg:GH w0 F D0 D o N β w:=hg2.Hc hsub2
 have hgl:GH w (AK o β) D D o N β w:=⟨hg.Bn,hg.own,hg.inj,fun i b k hi hk=>.inr ⟨i,b,hi,hk⟩,hg.off,hg.lt,hg.DF,fun k hk=>.inl hk,OM.refl _ _,fun _ h=>h⟩
 obtain ⟨β1,hbox,hgh1,hden,hon1,hbn1,hcross,hsub,_,hbl⟩:=Spec.CA hgl h hc hE
 have hcomes: ∀ j d k,lk o1 j=some d->(β1 j).has k->AK o β k:=fun j d k hj hk=>(hgh1.fresh j d k hj hk).elim (fun h=>absurd (hgh1.lt j d k hj hk) (by omega)) id
 have hsubR: ∀ i b,lk (Sg cn o2) i=some b->lk o2 i=some b:=fun i b h=>by
  rw [Kn] at h
  split at h
  ·cases h
  ·exact h
 have hinR: ∀ i b,lk (Sg cn o2) i=some b->(∃ b',lk o i=some b')->lk ps.o i=some b:=fun i b h ⟨b',hb'⟩=>by
  rw [Kn] at h
  split at h
  ·cases h
  ·rename_i hni
   have e1:=hsub2 i b' hb'
   rw [h] at e1
   cases e1
   cases h5:lk ps.o i with
   | none=>exact absurd (hcn i _ hb' h5) hni
   | some d=>rw [hsub i d h5] at hb';cases hb';rfl
 have hmok:=bq hm
 rw [hden]
 refine (hcall w (FZ D β ps.bl) β1 vs o1 n1 hE ⟨hgh1.Bn,hgh1.own,hgh1.inj,fun i b k hi hk=>.inr ⟨i,b,hi,hk⟩,hgh1.off,hgh1.lt,hgh1.DF,fun k hk=>.inl hk,OM.refl _ _,fun _ h=>h⟩ hon1 hbn1 (S.Fc hiv (fun _ _=>rfl) fun k hk=>.inl hk)).mono fun e w' ⟨D',β',rs2,o2,n2,he2,hret,hb',hgh2,honr,hn2⟩=>?_
 rw [he] at he2
 simp only [Prod.mk.injEq] at he2
 obtain ⟨rfl,rfl,rfl⟩:=he2
 -- blocks of what is lent and of what stays are as they were
 have hkeepD: ∀ k,FZ D β ps.bl k->w'.heap[k]?=w.heap[k]?:=fun k hk=>hgh2.fr.block k (hgh1.DF k hk) fun ⟨i,b,hi,hik⟩=>hgh1.off i b k hi hik hk
 have hoff: ∀ i c' k,lk (Sg cn o2) i=some c'->(β i).has k->¬ AK o1 β1 k:=fun i c' k hi hk ⟨j,d,hj,hjk⟩=>by
  cases hio:lk o i with
  | none=>
   obtain ⟨i',b',hi',hk'⟩:=hcomes j d k hj hjk
   have:=hg2.inj i i' c' b' k (hsubR i c' hi) (hsub2 i' b' hi') hk hk'
   subst this
   rw [hio] at hi';cases hi'
  | some b'=>
  have hi:=hinR i c' hi ⟨b',hio⟩
  by_cases hib:i∈ps.bl
  ·exact hgh1.off j d k hj hjk (.inr ⟨i,hib,hk⟩)
  ·exact hcross i c' j d k hi hib hj hk hjk
 have hkeepR: ∀ i c' k,lk (Sg cn o2) i=some c'->(β i).has k->w'.heap[k]?=w.heap[k]?:=fun i c' k hi hk=>
  hgh2.fr.block k (hg2.lt i c' k (hsubR i c' hi) hk) (hoff i c' k hi hk)
 let D2:Nat->Prop:=fun k=>(D' k\/D k)/\¬ ∃ i∈ps.bl,(β i).has k
 have hDlent: ∀ k,D k->FZ D β ps.bl k:=fun k hk=>.inl hk
 have hDD2: ∀ k,D k->D2 k:=fun k hk=>⟨.inr hk,fun ⟨i,hi,hik⟩=>by
  obtain ⟨c',hc'⟩:=hbl i hi
  exact hg.off i c' k (hsub i c' hc') hik hk⟩
 let r:=Bk c.bn ps.m n0
 let βn:Nat->Nm:=fun i=>if n0<=i/\i<n0+(n' -c.bn) then β' (i -n0+c.bn) else β i
 have hβn: ∀ i,N i->β i=βn i:=fun i hi=>by simp only [βn];rw [if_neg fun h=>hfr i h.1 h.2 hi]
 have hr: ∀ i,i<n'->βn (r i)=β' i:=fun i hi=>by
  by_cases hib:i<c.bn
  ·obtain ⟨j,hj,b',hjo⟩:=hmok i hib
   have hjN:N j:=(hg.Bn j b' hjo).1
   have e1:r i=j:=by simp only [r,Bk];rw [show Nat.ble (i+1) c.bn=true from Nat.ble_eq_true_of_le hib];simp only [hj]
   rw [e1,<- hβn j hjN,hb' i hib,hbox i hib j hj]
  ·have e1:r i=n0+(i -c.bn):=by
    simp only [r,Bk]
    have:Nat.ble (i+1) c.bn=false:=by
     cases hb:Nat.ble (i+1) c.bn
     ·rfl
     ·exact absurd (Nat.le_of_ble_eq_true hb) hib
    rw [this]
   simp only [e1,βn]
   rw [if_pos (by omega)]
   congr 1;omega
 have hrN: ∀ i,i<n'->more N n0 (n0+(n' -c.bn)) (r i):=fun i hi=>by
  by_cases hib:i<c.bn
  ·obtain ⟨j,hj,b',hjo⟩:=hmok i hib
   have hjN:N j:=(hg.Bn j b' hjo).1
   have e1:r i=j:=by simp only [r,Bk];rw [show Nat.ble (i+1) c.bn=true from Nat.ble_eq_true_of_le hib];simp only [hj]
   rw [e1];exact .inl hjN
  ·have e1:r i=n0+(i -c.bn):=by
    simp only [r,Bk]
    have:Nat.ble (i+1) c.bn=false:=by
     cases hb:Nat.ble (i+1) c.bn
     ·rfl
     ·exact absurd (Nat.le_of_ble_eq_true hb) hib
    rw [this]
   exact .inr (by omega)
 have hcase: ∀ i b,lk (Dq r o'++Sg cn o2) i=some b->(∃ j c',lk o' j=some c'/\r j=i/\b=c'.JU r)\/lk (Sg cn o2) i=some b:=fun i b h=>by
  rw [NC] at h
  cases h1:lk (Dq r o') i with
  | none=>rw [h1] at h;exact .inr (by simpa using h)
  | some c'=>rw [h1] at h;simp at h;subst h;exact .inl (Ej i _ h1)
 have hRN: ∀ i b,lk (Sg cn o2) i=some b->N i:=fun i b hi=>(hg2.Bn i b (hsubR i b hi)).1
 have hfree:ps.bl=[]\/C0 o':=by
  cases hfl:c.flat with
  | true=>exact .inr (Spec.Mq (hflat hfl) he)
  | false=>rw [hfl] at h;exact .inl (Spec.JR h)
 have hold: ∀ j c' k,lk o' j=some c'->(β' j).has k->AK o1 β1 k\/w.heap.size<=k:=fun j c' k hj hk=>(hgh2.fresh j c' k hj hk).symm
 have hsep: ∀ i b j c' k,lk (Sg cn o2) i=some b->lk o' j=some c'->(β i).has k->(β' j).has k->False:=fun i b j c' k hi hj hk hjk=>by
  rcases hold j c' k hj hjk with h1|h1
  ·exact hoff i b k hi hk h1
  ·have:=hg2.lt i b k (hsubR i b hi) hk;omega
 have hfr1: ∀ k,AK o1 β1 k->w0.heap.size<=k\/F k:=fun k ⟨i,b,hi,hik⟩=>let ⟨i',b',hi',hk'⟩:=hcomes i b k hi hik;hg.fresh i' b' k hi' hk'
 refine ⟨D2,βn,?_,hβn,⟨fun i b hi=>?_,fun i b hi=>?_,fun i j b b' k hi hj hk hl=>?_,fun i b k hi hk=>?_,fun i b k hi hk hD=>?_,fun i b k hi hk=>?_,fun k hk=>?_,fun k hk=>?_,?_,fun k hk=>hDD2 k (hg.sub k hk)⟩,?_⟩
 ·rw [hret]
  congr 1
  have hd:=Db (β:=βn) (β':=β') (r:=r) (N:=(· <n')) hr rs' honr
  cases hrs:rs' with
  | nil=>simp [A5,CY,SV.den,AB]
  | cons a t=>
   cases t with
   | nil=>rw [hrs] at hd;simp only [CY,AB,List.cons.injEq,and_true] at hd;simp only [A5,CY];exact hd.symm
   | cons b t=>rw [hrs] at hd;simp only [A5,CY,SV.den];simp only [CY] at hd;rw [hd]
 ·rcases hcase i b hi with ⟨j,c',hj,hji,rfl⟩|hi
  ·obtain ⟨h1,h2⟩:=hgh2.Bn j c' hj
   exact ⟨by rw [<-hji];exact hrN j h1,Own.No hrN h2⟩
  ·exact ⟨.inl (hRN i b hi),Own.Am (fun _ h=>.inl h) (hg2.Bn i b (hsubR i b hi)).2⟩
 ·rcases hcase i b hi with ⟨j,c',hj,hji,rfl⟩|hi
  ·obtain ⟨h1,h2⟩:=hgh2.Bn j c' hj
   rw [<-hji,hr j h1]
   refine Own.Kg (N:=(· <n')) hr h2 ?_
   have h3:=hgh2.own j c' hj
   rcases hfree with hf|hf
   ·exact Own.Bx h3 fun k hk=>⟨.inl hk,fun ⟨i,hi,_⟩=>by rw [hf] at hi;simp at hi⟩
   ·exact Own.M0 (hf j c' hj) h3
  ·rw [<-hβn i (hRN i b hi)]
   have h3:=hg2.own i b (hsubR i b hi)
   exact Own.Bx (Own.Di (Own.Dt hβn (hg2.Bn i b (hsubR i b hi)).2 h3) (fun k hk=>hkeepR i b k hi hk) fun k hk=>hkeepD k (.inl hk)) hDD2
 ·rcases hcase i b hi with ⟨i',c1,hi1,e1,_⟩|hi<;>rcases hcase j b' hj with ⟨j',c2,hj1,e2,_⟩|hj
  ·rw [<-e1,hr i' (hgh2.Bn i' c1 hi1).1] at hk
   rw [<-e2,hr j' (hgh2.Bn j' c2 hj1).1] at hl
   rw [<-e1,<- e2,hgh2.inj i' j' c1 c2 k hi1 hj1 hk hl]
  ·rw [<-e1,hr i' (hgh2.Bn i' c1 hi1).1] at hk
   rw [<-hβn j (hRN j b' hj)] at hl
   exact (hsep j b' i' c1 k hj hi1 hl hk).elim
  ·rw [<-hβn i (hRN i b hi)] at hk
   rw [<-e2,hr j' (hgh2.Bn j' c2 hj1).1] at hl
   exact (hsep i b j' c2 k hi hj1 hk hl).elim
  ·rw [<-hβn i (hRN i b hi)] at hk;rw [<-hβn j (hRN j b' hj)] at hl
   exact hg2.inj i j b b' k (hsubR i b hi) (hsubR j b' hj) hk hl
 ·rcases hcase i b hi with ⟨j,c',hj,hji,_⟩|hi
  ·rw [<-hji,hr j (hgh2.Bn j c' hj).1] at hk
   rcases hold j c' k hj hk with h1|h1
   ·exact hfr1 k h1
   ·exact .inl (Nat.le_trans hg.fr.size h1)
  ·rw [<-hβn i (hRN i b hi)] at hk
   exact hg2.fresh i b k (hsubR i b hi) hk
 ·rcases hcase i b hi with ⟨j,c',hj,hji,_⟩|hi
  ·rw [<-hji,hr j (hgh2.Bn j c' hj).1] at hk
   rcases hD.1 with h1|h1
   ·exact hgh2.off j c' k hj hk h1
   ·rcases hold j c' k hj hk with ⟨l,d,hl,hlk⟩|h2
    ·exact hgh1.off l d k hl hlk (.inl h1)
    ·have:=hg.DF k h1;omega
  ·rw [<-hβn i (hRN i b hi)] at hk
   have hio:=hsubR i b hi
   rcases hD.1 with hD1|hD1
   case inr=>exact hg2.off i b k hio hk hD1
   rcases hgh2.KQ k hD1 with h1|h1|h1
   ·rcases h1 with h1|h1
    ·exact hg2.off i b k hio hk h1
    ·exact hD.2 h1
   ·exact hoff i b k hi hk h1
   ·have:=hg2.lt i b k hio hk;omega
 ·rcases hcase i b hi with ⟨j,c',hj,hji,_⟩|hi
  ·rw [<-hji,hr j (hgh2.Bn j c' hj).1] at hk
   exact hgh2.lt j c' k hj hk
  ·rw [<-hβn i (hRN i b hi)] at hk
   exact Nat.lt_of_lt_of_le (hg2.lt i b k (hsubR i b hi) hk) hgh2.fr.size
 ·rcases hk.1 with h1|h1
  ·exact hgh2.DF k h1
  ·exact Nat.lt_of_lt_of_le (hg.DF k h1) hgh2.fr.size
 ·rcases hk.1 with hk1|hk1
  case inr=>exact hg.KQ k hk1
  rcases hgh2.KQ k hk1 with h1|h1|h1
  ·rcases h1 with h1|h1
   ·exact hg.KQ k h1
   ·exact absurd h1 hk.2
  ·rcases hfr1 k h1 with h2|h2
   ·exact .inr (.inr h2)
   ·exact .inr (.inl h2)
  ·exact .inr (.inr (Nat.le_trans hg.fr.size h1))
 ·refine ⟨hgh2.fr.os.trans hg.fr.os,hgh2.fr.tape.trans hg.fr.tape,hgh2.fr.output.trans hg.fr.output,Nat.le_trans hg.fr.size hgh2.fr.size,fun k hk hF=>?_⟩
  refine (hgh2.fr.block k (Nat.lt_of_lt_of_le hk hg.fr.size) fun hb=>?_).trans (hg.fr.block k hk hF)
  rcases hfr1 k hb with h1|h1
  ·omega
  ·exact hF h1
 ·have ho:=F5 (N:=(· <n')) (N':=more N n0 (n0+(n' -c.bn))) hrN honr
  cases hrs:rs' with
  | nil=>simp [A5,CY,SV.on,BW]
  | cons a t=>
   cases t with
   | nil=>rw [hrs] at ho;exact ho.1
   | cons b t=>rw [hrs] at ho;exact ho
theorem M7 {n1 n2:Nat}: ∀ {l:List (Nat×Own S)},CU n1 n2 l=true->n1<=n2/\ ∀ i b,lk l i=some b->n1<=i/\i<n2
 | [],h=>⟨Nat.le_of_ble_eq_true h,fun i b hi=>by simp [AQ] at hi⟩
 | (j,c)::r,h=>by
  simp only [CU] at h
  split at h
  case h_2=>cases h
  rename_i h1 h2
  obtain ⟨h3,h4⟩:=M7 h
  have h1:=Nat.le_of_ble_eq_true h1
  have h2:=Nat.le_of_ble_eq_true h2
  refine ⟨h3,fun i b hi=>?_⟩
  rw [AJ] at hi
  split at hi
  ·rename_i he;subst he;exact ⟨h1,h2⟩
  ·exact h4 i b hi
theorem Hq (n:Nat) (b:Own S):CU n (n+1) [(n,b)]=true:=by
 simp only [CU,Nat.ble_eq_true_of_le (Nat.le_refl n),Nat.ble_eq_true_of_le (Nat.le_refl (n+1)),Nat.ble_eq_true_of_le (Nat.le_succ n)]
structure Good (fl:Bool) (hid:List Nat) (P:Program) (w0:World) (F D0:Nat->Prop) (s:St S) (all:Array Oper) (ms:List Nat) (rs:List (Rec S)):Prop where
 ops: ∀ r∈rs,all[r.i]?=some r.o
 chain:BR s.n rs
 kN: ∀ p r q,rs=p++r::q->GP fl hid P w0 F D0 s all ms p r
theorem Good.add {rs:List (Rec S)} (h:Good fl hid P w0 F D0 s all ms rs) {r:Rec S} (ho:all[r.i]?=some r.o) (hn:r.n1=BF s.n rs) (hr:CU r.n1 r.n2 r.o1=true) (hok:GP fl hid P w0 F D0 s all ms rs r):Good fl hid P w0 F D0 s all ms (rs++[r]):=by
 obtain ⟨h1,h2⟩:=M7 hr
 refine ⟨fun x hx=>?_,BR.append.2 ⟨h.chain,hn,h1,h2,trivial⟩,fun p x q he=>?_⟩
 ·rcases List.mem_append.1 hx with hx|hx
  ·exact h.ops x hx
  ·rw [List.mem_singleton] at hx;subst hx;exact ho
 ·rcases List.eq_nil_or_concat q with rfl|⟨q',y,rfl⟩
  ·have:=List.append_inj' (s₁:=rs) (s₂:=p) (t₁:=[r]) (t₂:=[x]) he rfl
   obtain ⟨rfl,h2⟩:=this
   simp only [List.cons.injEq,and_true] at h2
   subst h2
   exact hok
  ·have he':rs++[r]=(p++x::q')++[y]:=by rw [he];simp
   exact h.kN p x q' (List.append_inj' he' rfl).1
theorem DS.tell {rs:List (Rec S)} {r:Rec S} (h:DS fl hid P w0 F D0 s all ms rs r) {x:SV} (hd: ∀ β,x.den β=r.x.den β) (hx: ∀ N,x.on N):DS fl hid P w0 F D0 s all ms rs { r with x:=x }:=by
 refine ⟨h.slot,fun hp=>?_,fun hp D N β a w hg hN K Q' hK=>?_⟩
 ·refine fun D N β a w hg hN=>?_
  obtain ⟨β',h1,_,h3⟩:=h.pure hp D N β a w hg hN
  exact ⟨β',h1,hx _,by simp only [hd];exact h3⟩
 ·refine h.imp hp D N β a w hg hN K Q' fun D' β' w' hn _=>?_
  have:=hK D' β' w' hn (hx _)
  simp only [hd] at this;exact this
theorem B5 {ι:Nat->Type} {ρ:Type} {c:Option Bool} {t:Tr ι ρ} {Kc: ∀ c,ι c->Prop} {Kr:ρ->Prop} (h:(Lb c t).Holds Kc Kr):CW c/\t.Holds Kc Kr:=by
 cases c with
 | none=>exact ⟨trivial,h⟩
 | some b=>exact h
theorem Eu {ι:Nat->Type} {ρ:Type} {f:Nat} {args:List SV} {o:List (Nat×Own S)} {k:(c:B2 S)->c.sp.D S->PS S->Tr ι ρ} {fb:Tr ι ρ} {Kc: ∀ c,ι c->Prop} {Kr:ρ->Prop}: ∀ {l:List (B2 S)},(SU f args o k fb l).Holds Kc Kr->(∃ c∈l,∃ x ps,c.f=f/\c.sp.parse c.flat args o [] c.bn=some (x,ps)/\(k c x ps).Holds Kc Kr)\/fb.Holds Kc Kr
 | [],h=>.inr h
 | c::r,h=>by
  simp only [SU] at h
  split at h
  ·rename_i hf
   split at h
   ·rename_i x ps hp
    exact .inl ⟨c,by simp,x,ps,Nat.eq_of_beq_eq_true hf,hp,h⟩
   ·exact (Eu h).imp (fun ⟨c',h1,h2⟩=>⟨c',by simp [h1],h2⟩) id
  ·exact (Eu h).imp (fun ⟨c',h1,h2⟩=>⟨c',by simp [h1],h2⟩) id
theorem UI {ι:Nat->Type} {ρ:Type} {f:Nat} {args:List SV} {o:List (Nat×Own S)} {k:(c:B2 S)->c.sp.D S->PS S->Tr ι ρ} {w:Nat} {Kc: ∀ c,ι c->Prop} {Kr:ρ->Prop} {l:List (B2 S)} (h:(SU f args o k (.stuck w) l).Holds Kc Kr): ∃ c∈l,∃ x ps,c.f=f/\c.sp.parse c.flat args o [] c.bn=some (x,ps)/\(k c x ps).Holds Kc Kr:=
 (Eu h).elim id fun h=>h.elim
variable {ι:Nat->Type} {ρ:Type} {Kc: ∀ c,ι c->Prop} {Kr:ρ->Prop}
theorem Sm {rs:List (Rec S)} {r:Rec S} {k:Rec S->Tr ι ρ} (hg:Good fl hid P w0 F D0 s all ms rs) (ho:all[r.i]?=some r.o) (hn:r.n1=BF s.n rs) (hr:CU r.n1 r.n2 r.o1=true) (hcn:r.tk=false/\r.cn=[]/\r.gb=[]) (hok:DS fl hid P w0 F D0 s all ms rs r) (h:(Ex all r k).Holds Kc Kr):
  ∃ r',r'.key=r.key/\Good fl hid P w0 F D0 s all ms (rs++[r'])/\(k r').Holds Kc Kr:=by
 unfold Ex at h
 rw [Rec.Fv] at h
 unfold Wf at h
 split at h
 ·rename_i c hx
  split at h
  ·have key: ∀ b,c=b->(k { r with x:=.v (.bool b) }).Holds Kc Kr-> ∃ r',r'.key=r.key/\Good fl hid P w0 F D0 s all ms (rs++[r'])/\(k r').Holds Kc Kr:=fun b hb h=>by
    subst hb
    exact ⟨{ r with x:=.v (.bool c) },rfl,hg.add ho hn hr (.plain hcn.1 hcn.2.1 hcn.2.2 (hok.tell (fun β=>by rw [hx];simp [SV.den]) fun N=>trivial)),h⟩
   cases c
   ·exact key false rfl (h.2 rfl)
   ·exact key true rfl (h.1 rfl)
  ·exact ⟨r,rfl,hg.add ho hn hr (.plain hcn.1 hcn.2.1 hcn.2.2 hok),h⟩
 ·exact ⟨r,rfl,hg.add ho hn hr (.plain hcn.1 hcn.2.1 hcn.2.2 hok),h⟩
theorem GO.tell {rs:List (Rec S)} {r:Rec S} (h:GO fl hid P w0 F D0 s all ms rs r) {x:SV} (hd: ∀ β,x.den β=r.x.den β) (hx: ∀ N,x.on N):GO fl hid P w0 F D0 s all ms rs { r with x:=x }:=by
 refine ⟨h.slot,h.fl,h.pu,h.tf,h.tk,h.there,fun D N β a w o2 hg hsub hN K Q' hK=>?_⟩
 refine h.step D N β a w o2 hg hsub hN K Q' fun D' β' w' hag hgh _=>?_
 have:=hK D' β' w' hag hgh (hx _)
 simp only [hd] at this;exact this
theorem Hf {rs:List (Rec S)} {r:Rec S} {k:Rec S->Tr ι ρ} (hg:Good fl hid P w0 F D0 s all ms rs) (ho:all[r.i]?=some r.o) (hn:r.n1=BF s.n rs) (hr:CU r.n1 r.n2 r.o1=true) (hok:GO fl hid P w0 F D0 s all ms rs r) (h:(Ex all r k).Holds Kc Kr):
  ∃ r',r'.key=r.key/\Good fl hid P w0 F D0 s all ms (rs++[r'])/\(k r').Holds Kc Kr:=by
 unfold Ex at h
 rw [Rec.Fv] at h
 unfold Wf at h
 split at h
 ·rename_i c hx
  split at h
  ·have key: ∀ b,c=b->(k { r with x:=.v (.bool b) }).Holds Kc Kr-> ∃ r',r'.key=r.key/\Good fl hid P w0 F D0 s all ms (rs++[r'])/\(k r').Holds Kc Kr:=fun b hb h=>by
    subst hb
    exact ⟨{ r with x:=.v (.bool c) },rfl,hg.add ho hn hr (.Wx (hok.tell (fun β=>by rw [hx];simp [SV.den]) fun N=>trivial)),h⟩
   cases c
   ·exact key false rfl (h.2 rfl)
   ·exact key true rfl (h.1 rfl)
  ·exact ⟨r,rfl,hg.add ho hn hr (.Wx hok),h⟩
 ·exact ⟨r,rfl,hg.add ho hn hr (.Wx hok),h⟩
theorem HH {st:St S} {N:Nat->Prop} {β:Nat->Nm} {a:Act} (ho:st.o=[]) (hz:a.tmps.size=st.sz) (h: ∀ t y,lk st.t t=some y->t<a.tmps.size/\y.on N/\a.tmps.getD t undef=y.den β) (w:World):
  G w (fun _=>False) (fun _=>False) (fun _=>False) st N β { a with defers:=[] } w:=
 ⟨rfl,hz,fun t x hx=>⟨hz▸(h t x hx).1,(h t x hx).2.1⟩,fun t x hx=>(h t x hx).2.2,by
  refine ⟨fun i b h=>?_,fun i b h=>?_,fun i j b c k h=>?_,fun i b k h=>?_,fun i b k h=>?_,fun i b k h=>?_,fun k h=>h.elim,fun k h=>h.elim,OM.refl _ _,fun k h=>h.elim⟩<;>(rw [ho,AQ] at h;cases h)⟩
theorem B7 {d:Option Tmp} {sz:Nat} (h:EW d sz=true): ∀ u,d=some u->u<sz:=by
 unfold EW at h
 split at h
 ·intro u hu;cases hu
 ·intro u hu;cases hu;exact Nat.le_of_ble_eq_true h
section
variable {rs:List (Rec S)} {i:Nat} {o:Oper} {pu:Bool} {n:Nat}
theorem JZ {D N:Nat->Prop} {β:Nat->Nm} {a:Act} {w:World} (hg:G w0 F D0 D (seenAt fl hid s all ms rs i o false) N β a w): ∀ t y,lk (seenAt fl hid s all ms rs i o true).t t=some y->t<a.tmps.size/\y.on N/\a.tmps.getD t undef=y.den β:=fun t y hy=>by
 have hy':lk (seenAt fl hid s all ms rs i o false).t t=some y:=hy
 obtain ⟨h1,h2⟩:=hg.Gs t y hy'
 exact ⟨by rw [hg.size];exact h1,h2,hg.tmps t y hy'⟩
theorem gE (ho:all[i]?=some o) (hd:EW o.dst s.sz=true) (hw:Bw (seenAt fl hid s all ms rs i o pu) all o=.no):DS fl hid P w0 F D0 s all ms rs ⟨i,o,pu,[],n,n,.v (.tuple #[]),[],[],false⟩:=by
 refine ⟨B7 hd,fun hpu D N β a w hg _=>⟨β,B4.refl,trivial,.inr ⟨?_,by simp [SV.den,undef]⟩⟩,fun hpu D N β a w hg hN K Q' hK=>?_⟩
 ·simp only at hpu;subst hpu
  exact Ah (HH (st:=seenAt fl hid s all ms rs i o true) rfl hg.size (JZ hg) default) hw
 ·simp only at hpu;subst hpu
  unfold wpOp
  simp only [ho,Ah hg hw,Bool.false_eq_true,if_false]
  simpa [SV.den,undef] using hK D β w B4.refl trivial
theorem cM {tb:List (Nat×TI)} (htb:AY S P tb) (ho:all[i]?=some o) (hd:EW o.dst s.sz=true) (hw:Bw (seenAt fl hid s all ms rs i o pu) all o=.yes) {c:Option Bool} {x:SV} (he:evalOp tb (seenAt fl hid s all ms rs i o pu) o.op=.val c x) (hp:CW c):DS fl hid P w0 F D0 s all ms rs ⟨i,o,pu,[],n,n,x,[],[],false⟩:=by
 refine ⟨B7 hd,fun hpu D N β a w hg _=>?_,fun hpu D N β a w hg hN K Q' hK=>?_⟩
 ·simp only at hpu;subst hpu
  have key: ∀ w,(execOp a.eval o).run P w=.ok (.value (x.den β)) w/\x.on N:=fun w=>by
   have hg:=HH (st:=seenAt fl hid s all ms rs i o true) rfl hg.size (JZ hg) w
   have:=Bc htb hg o
   rw [he] at this
   exact this hp
  exact ⟨β,B4.refl,Am (fun _ h=>.inl h) (key default).2,.inl ⟨Ah (HH (st:=seenAt fl hid s all ms rs i o true) rfl hg.size (JZ hg) default) hw,fun w=>(key w).1⟩⟩
 ·simp only at hpu;subst hpu
  have hsound:=Bc htb hg o
  rw [he] at hsound
  obtain ⟨h1,h2⟩:=hsound hp
  unfold wpOp
  simp only [ho,Ah hg hw,if_true]
  exact .inl (As h1 (hK D β w B4.refl (Am (fun _ h=>.inl h) h2)))
theorem cK {tb:List (Nat×TI)} (htb:AY S P tb) (ho:all[i]?=some o) (hd:EW o.dst s.sz=true) (hw:Bw (seenAt fl hid s all ms rs i o false) all o=.yes) {b:Own S} (he:evalOp tb (seenAt fl hid s all ms rs i o false) o.op=.new b):DS fl hid P w0 F D0 s all ms rs ⟨i,o,false,[(n,b)],n,n+1,HP b n,[],[],false⟩:=by
 refine ⟨B7 hd,fun hpu=>(by cases hpu),fun _ D N β a w hg hN K Q' hK=>?_⟩
 have hsound:=Bc htb hg o
 rw [he] at hsound
 obtain ⟨h1,ob,len,cap,h2⟩:=hsound
 obtain ⟨β',hβn,hnew⟩:=B4.alloc (D:=D) (N:=N) (β:=β) (w:=w) (n:=n) (hN n (Nat.le_refl _) (Nat.lt_succ_self _)) h1 (fun β' hβ hn=>(h2 n β' hβ hn).2)
 unfold wpOp
 simp only [ho,Ah hg hw,if_true]
 refine .inl (As (h2 n β' hnew.agree hβn).1 (hK D β' _ hnew ?_))
 have:more N n (n+1) n:=.inr ⟨Nat.le_refl _,Nat.lt_succ_self _⟩
 cases b<;>exact this
theorem UJ {q:Wn} (h:Bw (seenAt fl hid s all ms rs i o true) all o=q):Bw (seenAt fl hid s all ms rs i o false) all o=q:=h
theorem gF {tb:List (Nat×TI)} (htb:AY S P tb) (ho:all[i]?=some o) (hd:EW o.dst s.sz=true) (hw:Bw (seenAt fl hid s all ms rs i o true) all o=.yes) {T q:Nat} {x:Operand} {lo hi:Option Operand} (hop:o.op=.slice T x lo hi none) (hx:ev (seenAt fl hid s all ms rs i o false) x=some (.h q))
  {c:Option Bool} {o1:List (Nat×Own S)} {n':Nat} {v:SV} (he:G1 tb (seenAt fl hid s all ms rs i o false) T x lo hi=.nm c o1 n' v) (hp:CW c):DS fl hid P w0 F D0 s all ms rs ⟨i,o,true,o1,BF s.n rs,n',v,[],[],false⟩:=by
 refine ⟨B7 hd,fun _ D N β a w hg hN=>?_,fun hpu=>(by cases hpu)⟩
 obtain ⟨β',h1,h2,h3⟩:=PZ htb hg hop hx he hp hN
 exact ⟨β',h1,h3,.inl ⟨Ah hg (UJ hw),h2⟩⟩
theorem gD {tb:List (Nat×TI)} (htb:AY S P tb) (ho:all[i]?=some o) (hd:EW o.dst s.sz=true) (hw:Bw (seenAt fl hid s all ms rs i o false) all o=.yes) {c:Option Bool} {o1:List (Nat×Own S)} {n':Nat} {v:SV} (he:evalOp tb (seenAt fl hid s all ms rs i o false) o.op=.nm c o1 n' v) (hp:CW c):DS fl hid P w0 F D0 s all ms rs ⟨i,o,false,o1,BF s.n rs,n',v,[],[],false⟩:=by
 refine ⟨B7 hd,fun hpu=>(by cases hpu),fun _ D N β a w hg hN K Q' hK=>?_⟩
 have hsound:=Bc htb hg o
 rw [he] at hsound
 obtain ⟨β',w',h1,h2,h3⟩:=hsound hp hN
 unfold wpOp
 simp only [ho,Ah hg hw,if_true]
 exact .inl (As h1 (hK D β' w' h2 h3))
theorem gC {tb:List (Nat×TI)} (htb:AY S P tb) (ho:all[i]?=some o) (hd:EW o.dst s.sz=true) (hw:Bw (seenAt fl hid s all ms rs i o false) all o=.yes) {l:List Oper} {e:Nat} (he:Xq tb l o=some e):DS fl hid P w0 F D0 s all ms rs ⟨i,o,false,[(n,.AS e [])],n,n+1,.view n 0 0 0,[],[],false⟩:=by
 refine ⟨B7 hd,fun hpu=>(by cases hpu),fun _ D N β a w hg hN K Q' hK=>?_⟩
 have hr:=Tb (P:=P) (a:=a) (w:=w) htb he
 obtain ⟨β',hβn,hnew⟩:=B4.alloc (S:=S) (D:=D) (N:=N) (β:=β) (w:=w) (n:=n) (hN n (Nat.le_refl _) (Nat.lt_succ_self _)) (b:=.AS e []) (ob:=.cells #[] e) (len:=0) (cap:=0) trivial (fun β' _ _=>⟨w.heap.size,rfl,heap_alloc_new w _⟩)
 unfold wpOp
 simp only [ho,Ah hg hw,if_true]
 refine .inl (As (v:=.slice (some ⟨w.heap.size,0,none⟩) 0 0) hr ?_)
 have:=hK D β' _ hnew (.inr ⟨Nat.le_refl _,Nat.lt_succ_self _⟩)
 simpa only [SV.den,hβn,Nm.AS,Option.getD_some] using this
theorem gA {tb:List (Nat×TI)} (htb:AY S P tb) (ho:all[i]?=some o) (hd:EW o.dst s.sz=true) (hw:Bw (seenAt fl hid s all ms rs i o false) all o=.yes) {j:Nat} {c:Option Bool} {o1:List (Nat×Own S)} {n':Nat} {v:SV} (he:VX tb (seenAt fl hid s all ms rs i o false) o.op=some (j,true,.nm c o1 n' v)) (hc:CW c):
  DS fl hid P w0 F D0 s all ms rs ⟨i,o,false,[],n,n,.view j 0 0 0,[],[],false⟩:=by
 refine ⟨B7 hd,fun hpu=>(by cases hpu),fun _ D N β a w hg hN K Q' hK=>?_⟩
 obtain ⟨hj,w',hr,hb⟩:=(K9 htb hg he hc).1 rfl
 unfold wpOp
 simp only [ho,Ah hg hw,if_true]
 exact .inl (As hr (hK D β w' ⟨fun _ _=>rfl,hb,Nat.le_refl _,fun i b h=>by simp [AQ] at h,fun i b h=>by simp [AQ] at h,fun i b k h=>by simp [AQ] at h,fun i j b c k h=>by simp [AQ] at h,fun _ h=>h,fun _ h=>.inl h,fun i b k h=>by simp [AQ] at h,fun i b k h=>by simp [AQ] at h⟩ (.inl hj)))
theorem gB {tb:List (Nat×TI)} (htb:AY S P tb) (ho:all[i]?=some o) (hd:EW o.dst s.sz=true) (hw:Bw (seenAt fl hid s all ms rs i o false) all o=.yes) {j:Nat} {c:Option Bool} {o1:List (Nat×Own S)} {n':Nat} {v:SV} (he:VX tb (seenAt fl hid s all ms rs i o false) o.op=some (j,false,.nm c o1 n' v)) (hc:CW c):
  DS fl hid P w0 F D0 s all ms rs ⟨i,o,false,o1,BF s.n rs,n',v,[],[],false⟩:=by
 refine ⟨B7 hd,fun hpu=>(by cases hpu),fun _ D N β a w hg hN K Q' hK=>?_⟩
 obtain ⟨β',w',h1,h2,h3⟩:=(K9 htb hg he hc).2 rfl hN
 unfold wpOp
 simp only [ho,Ah hg hw,if_true]
 exact .inl (As h1 (hK D β' w' h2 h3))
theorem ZG (hkp:B3 S w0 F D0) (ho:all[i]?=some o) (hd:EW o.dst s.sz=true) (hw:Bw (seenAt fl hid s all ms rs i o false) all o=.yes) {f:Nat} {args:List SV} (hcl:callee (seenAt fl hid s all ms rs i o false) o.op=some (f,args)) {c:B2 S} (hf:c.f=f) (hch:c.Holds P) {x:c.sp.D S} {ps:PS S} (hpa:c.sp.parse c.flat args (PB fl hid rs (oC (CD ms i) s.o rs)) [] c.bn=some (x,ps))
  (hl:c.sp.Ra=true) (hb0:c.bn=0) {y:c.rs.D S} (hy:c.out.gives x y) {rs':List SV} {o':List (Nat×Own S)} {n':Nat} (he:c.rs.enc y (Hb c.bn c.rs)=(rs',o',n')):
  DS fl hid P w0 F D0 s all ms rs ⟨i,o,false,Dq (Bk c.bn ps.m (BF s.n rs)) o',BF s.n rs,BF s.n rs+(n' -c.bn),A5 (CY (Bk c.bn ps.m (BF s.n rs)) rs'),[],[],false⟩:=by
 subst hf
 refine ⟨B7 hd,fun hpu=>(by cases hpu),fun _ D N β a w hg hN K Q' hK=>?_⟩
 unfold wpOp
 simp only [ho,Ah hg hw,if_true]
 refine .inl ?_
 unfold Oper.wp
 rw [Gx hg hcl hch.Bu,Oper.upon_enter]
 refine (Wq hg.gh hpa hch.bound hch.flat hl hb0 (hch.calls x y hy) (hg.gh.inv hkp) he hN).mono fun e w' ⟨D',β',he',hnew,hon⟩=>?_
 subst he'
 exact hK D' β' w' hnew hon
theorem ia {s s':St S} (h:s.t=s'.t) (n:Int) (x:Option Operand):Ii s n x=Ii s' n x:=by
 cases x with
 | none=>rfl
 | some x=>simp only [Ii,TO h]
theorem Lp {m n:Nat} {ms:List Nat} {i:Nat} {rs:List (Rec S)} {cn cn':List Nat} {c c':Option Bool} {ow ow':Own S} (h:Vg m hid n ms i rs cn c ow=some (cn',c',ow')):cn'=cn/\c'=c/\ow'=ow/\F8 m hid ms i n rs cn []=true:=by
 unfold Vg at h
 split at h
 ·rename_i ht;cases h;exact ⟨rfl,rfl,rfl,ht⟩
 ·cases h
theorem Wy {tb:List (Nat×TI)} (htb:AY S P tb) {st:St S} {m:Nat} {ms:List Nat} {i:Nat} {rs:List (Rec S)} {op:Oper} {cn:List Nat} {c:Option Bool} {ow:Own S} (he:UY m fl hid tb st ms i rs pu op.op=some (cn,c,ow)):
  (fl=true/\pu=false/\F8 m hid ms i st.n rs cn []=true/\ ∀ k∈cn,∃ b,lk st.o k=some b)/\
  ∀ (D N:Nat->Prop) β a w o2,CW c->G w0 F D0 D ⟨st.t,o2,st.n,st.sz⟩ N β a w->(∀ i b,lk st.o i=some b->lk o2 i=some b)->¬ N st.n->XG P w0 F D0 D st.n N β a w op ((st.n,ow)::db o2 cn):=by
 unfold UY at he
 split at he
 case h_2=>cases he
 split at he
 ·rename_i x y T T' hop
  split at he
  case h_2=>cases he
  rename_i j hT hx
  have hT:=Nat.eq_of_beq_eq_true hT
  subst hT
  split at he
  ·rename_i c' m' ow' o' n' v happ
   obtain ⟨rfl,rfl,rfl,ht⟩:=Lp he
   refine ⟨⟨rfl,rfl,ht,fun k hk=>?_⟩,fun D N β a w o2 hc hg hs hN=>?_⟩
   ·rw [List.mem_singleton.1 hk];exact Wh hx happ
   ·exact S9 (s:=st) htb hg hs hN hop hx happ hc
  ·split at he
   case h_2=>cases he
   rename_i e esz k κ τ ag E ls ht hy hj
   split at he
   case h_2=>cases he
   rename_i te E'' u hte hk
   split at he
   case h_2=>cases he
   rename_i κ' τ' ag' l hu hju hE''
   split at he
   case h_2=>cases he
   rename_i hτ hκ hsz hE hag _ _
   have hsz:=Nat.eq_of_beq_eq_true hsz
   have hE:=Nat.eq_of_beq_eq_true hE;subst hE
   have hE'':=Nat.eq_of_beq_eq_true hE'';subst hE''
   have hag:=Cx.1 hag;subst hag
   subst hτ
   subst hκ
   obtain ⟨rfl,rfl,rfl,htk⟩:=Lp he
   refine ⟨⟨rfl,rfl,htk,fun z hz=>?_⟩,fun D N β a w o2 hc hg hs hN=>?_⟩
   ·simp only [List.mem_cons,List.not_mem_nil,or_false] at hz
    rcases hz with rfl|rfl
    ·exact ⟨_,hj⟩
    ·exact ⟨_,hu⟩
   ·exact Wg (s:=⟨st.t,o2,st.n,st.sz⟩) hg hN hop (Ac htb ht).1 (htb.get hte) hsz (hs _ _ hk) (hs _ _ hu) ((TO (s:=⟨st.t,o2,st.n,st.sz⟩) (s':=st) rfl _).trans hy) ((TO (s:=⟨st.t,o2,st.n,st.sz⟩) (s':=st) rfl _).trans hx) (fun h=>by subst h;simp at hju) (hs _ _ hj) hc
 ·rename_i T n x hop
  split at he
  case h_2=>cases he
  rename_i j hn hx
  have hn:=Nat.eq_of_beq_eq_true hn
  subst hn
  split at he
  case h_2=>cases he
  rename_i c' m' ow' o' n' v hmk
  obtain ⟨rfl,rfl,rfl,ht⟩:=Lp he
  unfold Yj at hmk
  split at hmk
  case h_2=>cases hmk
  rename_i e esz h1
  obtain ⟨h2,h3⟩:=Ac htb h1
  split at hmk
  case h_2=>cases hmk
  rename_i te x' hte hesz _ hxe
  cases hxe
  have hesz:=Nat.eq_of_beq_eq_true hesz;subst hesz
  split at hmk
  case h_2=>cases hmk
  rename_i j' hag hsz GY
  have hsz:=Nat.eq_of_beq_eq_true hsz
  rw [hx] at GY
  cases GY
  split at hmk
  case h_2=>cases hmk
  rename_i κ τ ag l hj
  cases hmk
  refine ⟨⟨rfl,rfl,ht,fun k hk=>?_⟩,fun D N β a w o2 hc hg hs hN=>?_⟩
  ·rw [List.mem_singleton.1 hk];exact ⟨_,hj⟩
  ·exact Ry (s:=⟨st.t,o2,st.n,st.sz⟩) hg hN hop h2 h3 (htb.get hte) hsz ((TO (s:=⟨st.t,o2,st.n,st.sz⟩) (s':=st) rfl _).trans hx) (hs _ _ hj)
 ·rename_i T x hi hop
  split at he
  case h_2=>cases he
  rename_i e esz j h1 hx
  obtain ⟨h2,h3⟩:=Ac htb h1
  split at he
  case h_2=>cases he
  rename_i κ τ ag E ls hj
  split at he
  case h_2=>cases he
  rename_i h hb
  obtain ⟨rfl,rfl,rfl,ht⟩:=Lp he
  refine ⟨⟨rfl,rfl,ht,fun k hk=>?_⟩,fun D N β a w o2 hc hg hs hN=>?_⟩
  ·rw [List.mem_singleton.1 hk];exact ⟨_,hj⟩
  ·simp only [CW,decide_eq_true_eq] at hc
   exact VQ (s:=⟨st.t,o2,st.n,st.sz⟩) hg hN hop h2 h3 ((TO (s:=⟨st.t,o2,st.n,st.sz⟩) (s':=st) rfl _).trans hx) (hs _ _ hj) ((ia (s:=⟨st.t,o2,st.n,st.sz⟩) (s':=st) rfl _ _).trans hb) hc.1 hc.2
 ·cases he
theorem ND {u:Nat}: ∀ {js:List Nat} {o:List (Nat×Own S)},u ∉ js->lk (db o js) u=lk o u
 | [],_,_=>rfl
 | j::r,o,h=>by
  simp only [List.mem_cons,not_or] at h
  rw [db,ND h.2,Cs,if_neg fun e=>h.1 e.symm]
theorem cJ {tb:List (Nat×TI)} (htb:AY S P tb) (ho:all[i]?=some o) (hd:EW o.dst s.sz=true) (hw:Bw (seenAt fl hid s all ms rs i o pu) all o=.yes) {cn:List Nat} {c:Option Bool} {ow:Own S} (he:UY s.n fl hid tb (BP s all ms rs i o) ms i rs pu o.op=some (cn,c,ow)) (hc:CW c):
  pu=false/\GO fl hid P w0 F D0 s all ms rs ⟨i,o,false,[(BF s.n rs,ow)],BF s.n rs,BF s.n rs+1,.tr (BF s.n rs),cn,[],true⟩:=by
 obtain ⟨⟨rfl,rfl,htk,hth⟩,hs⟩:=Wy (w0:=w0) (F:=F) (D0:=D0) htb he
 refine ⟨rfl,B7 hd,rfl,rfl,rfl,htk,hth,fun D N β a w o2 hg hsub hN K Q' hK=>?_⟩
 have hN1:¬ N (BF s.n rs):=hN _ (Nat.le_refl _) (Nat.lt_succ_self _)
 obtain ⟨β',w',h1,h2,h3⟩:=hs D N β a w o2 hc hg hsub hN1
 have h3:GH w0 F D0 D ((BF s.n rs,ow)::db o2 cn) (fun k=>N k\/k=BF s.n rs) β' w':=h3
 have hwg:Region.wanted o (yielded all a.tmps)=true:=by
  have hgp:=HH (st:=seenAt true hid s all ms rs i o true) rfl hg.size (fun t y hy=>by
   have hy':lk (BP s all ms rs i o).t t=some y:=hy
   obtain ⟨k1,k2⟩:=hg.Gs t y hy'
   exact ⟨by rw [hg.size];exact k1,k2,hg.tmps t y hy'⟩) default
  exact Ah hgp (show Bw (seenAt true hid s all ms rs i o true) all o=.yes from hw)
 unfold wpOp
 simp only [ho,hwg,if_true]
 refine .inl (As h1 (hK D β' w' h2 (GH.Hc (GH.mono h3 fun k hk=>?_) fun u b hu=>?_) (.inr ⟨Nat.le_refl _,Nat.lt_succ_self _⟩)))
 ·rcases hk with hk|rfl
  ·exact .inl hk
  ·exact .inr ⟨Nat.le_refl _,Nat.lt_succ_self _⟩
 ·rw [CC] at hu
  simp only [AQ,Option.orElse_none] at hu
  rw [AJ] at hu ⊢
  split
  ·rename_i he;rw [if_pos he] at hu;simpa using hu
  ·rename_i he
   rw [if_neg he] at hu
   simp only [AQ,Option.orElse_none] at hu
   split at hu
   ·cases hu
   ·rename_i hne;rw [ND hne];exact hu
theorem cL {tb:List (Nat×TI)} (htb:AY S P tb) (ho:all[i]?=some o) (hd:EW o.dst s.sz=true) (hw:Bw (seenAt fl hid s all ms rs i o pu) all o=.yes) {j:Nat} {b:Own S} (he:Zf s.n fl hid tb (BP s all ms rs i o) ms i rs pu o.op=some (j,b)):
  pu=false/\GO fl hid P w0 F D0 s all ms rs ⟨i,o,false,[],BF s.n rs,BF s.n rs,.v (.tuple #[]),[j],[(j,b)],true⟩:=by
 unfold Zf at he
 split at he
 case h_2=>cases he
 refine ⟨rfl,?_⟩
 split at he
 case h_2=>cases he
 rename_i T x y hop
 split at he
 case h_2=>cases he
 rename_i j0 off hx
 split at he
 case h_2=>cases he
 rename_i U cs hj hlk
 split at he
 case h_2=>cases he
 rename_i j' b' hst
 split at he
 case h_2=>cases he
 rename_i hjj htk
 have hjj:=Nat.eq_of_beq_eq_true hjj
 cases he
 subst hjj
 refine ⟨B7 hd,rfl,rfl,rfl,htk,fun k hk=>?_,fun D N β a w o2 hg hsub hN K Q' hK=>?_⟩
 ·rw [List.mem_singleton.1 hk];exact ⟨_,hlk⟩
 have hwg:Region.wanted o (yielded all a.tmps)=true:=by
  have hgp:=HH (st:=seenAt true hid s all ms rs i o true) rfl hg.size (fun t y hy=>by
   have hy':lk (BP s all ms rs i o).t t=some y:=hy
   obtain ⟨k1,k2⟩:=hg.Gs t y hy'
   exact ⟨by rw [hg.size];exact k1,k2,hg.tmps t y hy'⟩) default
  exact Ah hgp (show Bw (seenAt true hid s all ms rs i o true) all o=.yes from hw)
 have hlk2:lk o2 j'=some (.AS U cs):=hsub j' _ hlk
 have hev: ∀ z,ev (⟨(BP s all ms rs i o).t,o2,BF s.n rs,s.sz⟩:St S) z=ev (BP s all ms rs i o) z:=fun z=>by cases z<;>rfl
 have hst2:evalOp tb (⟨(BP s all ms rs i o).t,o2,BF s.n rs,s.sz⟩:St S) o.op=.Sh none j' b:=by
  rw [hop]
  show IL tb _ T x y=_
  rw [<-hst]
  unfold IL
  simp only [hev,hx,hlk2,hlk]
 have hsound:=Bc htb hg o
 rw [hst2] at hsound
 obtain ⟨w',hr,hgh⟩:=hsound trivial
 unfold wpOp
 simp only [ho,hwg,if_true]
 refine .inl (OE hr ?_)
 have:=hK D β w' (fun _ _=>rfl) (GH.Hc (GH.mono hgh fun k hk=>.inl hk) fun u c hu=>?_) trivial
 ·simpa [SV.den,undef] using this
 ·rw [CC] at hu
  rw [E8]
  simp only [AJ,AQ,Option.orElse_none,List.mem_singleton] at hu
  split
  ·rename_i he;subst he;simpa using hu
  ·rename_i he
   rw [if_neg he,Option.orElse_none,if_neg fun e=>he e.symm] at hu
   simpa using hu
theorem ZH {tb:List (Nat×TI)} (htb:AY S P tb) (ho:all[i]?=some o) (hd:EW o.dst s.sz=true) (hfl:fl=true) (hw:Bw (seenAt fl hid s all ms rs i o pu) all o=.yes) {c:Option Bool} {x:SV} (he:evalOp tb (BP s all ms rs i o) o.op=.val c x) (hp:CW c)
  (htk:F8 s.n hid ms i n rs [] []=true) (hn:n=BF s.n rs):GO fl hid P w0 F D0 s all ms rs ⟨i,o,false,[],n,n,x,[],[],true⟩:=by
 subst hn
 refine ⟨B7 hd,hfl,rfl,rfl,htk,fun j hj=>(by cases hj),fun D N β a w o2 hg hsub hN K Q' hK=>?_⟩
 have hg':G w0 F D0 D (BP s all ms rs i o) N β a w:=⟨hg.defers,hg.size,hg.Gs,hg.tmps,hg.gh.Hc hsub⟩
 have hwg:Region.wanted o (yielded all a.tmps)=true:=by
  have hgp:=HH (st:=seenAt fl hid s all ms rs i o true) rfl hg.size (fun t y hy=>by
   have hy':lk (BP s all ms rs i o).t t=some y:=hy
   obtain ⟨k1,k2⟩:=hg.Gs t y hy'
   exact ⟨by rw [hg.size];exact k1,k2,hg.tmps t y hy'⟩) default
  exact Ah hgp (show Bw (seenAt fl hid s all ms rs i o true) all o=.yes from hw)
 have hsound:=Bc htb hg' o
 rw [he] at hsound
 obtain ⟨h1,h2⟩:=hsound hp
 unfold wpOp
 simp only [ho,hwg,if_true]
 exact .inl (As h1 (hK D β w (fun _ _=>rfl) (by unfold FF;exact hg.gh.mono fun _ h=>.inl h) (Am (fun _ h=>.inl h) h2)))
theorem WK {x y:SV} (h:UE x y=true):y=x/\((∃ a b,x=.ptr a b)\/ ∃ a,x=.By a):=by
 unfold UE at h
 split at h
 ·split at h
  ·rename_i h1 h2;rw [Nat.eq_of_beq_eq_true h1,Nat.eq_of_beq_eq_true h2];exact ⟨rfl,.inl ⟨_,_,rfl⟩⟩
  ·cases h
 ·rw [Nat.eq_of_beq_eq_true h];exact ⟨rfl,.inr ⟨_,rfl⟩⟩
 ·cases h
theorem af {r:R S} {x:SV} (h:fK r x=true):r=.val none x/\((∃ a b,x=.ptr a b)\/ ∃ a,x=.By a):=by
 unfold fK at h
 split at h
 ·obtain ⟨h1,h2⟩:=WK h;rw [h1];exact ⟨rfl,h2⟩
 ·cases h
theorem RM {tb:List (Nat×TI)} {T off:Nat} {v:SV} {x:Own S} (h:Ot tb T off v x=true):(∃ U cs t,x=.AS U cs/\lk tb T=some t/\ld (S:=S) t cs off=.val none v)/\((∃ a b,v=.ptr a b)\/ ∃ a,v=.By a):=by
 unfold Ot at h
 split at h
 ·split at h
  ·rename_i U cs _ t ht;obtain ⟨h1,h2⟩:=af h;exact ⟨⟨U,cs,t,rfl,ht,h1⟩,h2⟩
  ·cases h
 ·cases h
theorem N6 {tb:List (Nat×TI)} {T off j:Nat} {v:SV}: ∀ {rs:List (Rec S)},SM tb T off v j rs=true-> ∀ r∈rs,j∈r.cn-> ∃ x,lk r.gb j=some x/\Ot tb T off v x=true
 | [],_,r,h,_=>by cases h
 | r0::rs,h,r,hr,hj=>by
  unfold SM at h
  split at h
  ·rename_i hm
   rcases List.mem_cons.1 hr with rfl|hr
   ·rw [Cg.2 hj] at hm;cases hm
   ·exact N6 h r hr hj
  ·split at h
   ·rename_i x hx
    split at h
    ·rename_i hg
     rcases List.mem_cons.1 hr with rfl|hr
     ·exact ⟨x,hx,hg⟩
     ·exact N6 h r hr hj
    ·cases h
   ·cases h
theorem ZJ {tb:List (Nat×TI)} (htb:AY S P tb) (ho:all[i]?=some o) (hd:EW o.dst s.sz=true) (hw:Bw (seenAt fl hid s all ms rs i o pu) all o=.yes) {x:SV} (he:UF s tb (BP s all ms rs i o) rs o.op=some x) {n:Nat} (hn:n=BF s.n rs):
  Wd fl P w0 F D0 s all ms rs ⟨i,o,false,[],n,n,x,[],[],true⟩/\((∃ a b,x=.ptr a b)\/ ∃ a,x=.By a):=by
 subst hn
 unfold UF at he
 split at he
 case h_2=>cases he
 rename_i op T y hop
 split at he
 case h_2=>cases he
 rename_i j off hy
 split at he
 case h_2=>cases he
 rename_i U cs hj
 split at he
 case h_2=>cases he
 rename_i v hc
 split at he
 case h_2=>cases he
 rename_i hg hst
 cases he
 refine ⟨⟨B7 hd,rfl,rfl,rfl,rfl,j,fun y=>Ot tb T off x y=true,⟨_,hj,hg⟩,N6 hst,fun D N β a' w o2 hg2 hb hN K Q' hK=>?_⟩,(RM hg).2⟩
 obtain ⟨xo,hx,hgx⟩:=hb
 obtain ⟨⟨U',cs',t,rfl,ht,hl⟩,_⟩:=RM hgx
 have hwg:Region.wanted o (yielded all a'.tmps)=true:=by
  have hgp:=HH (st:=seenAt fl hid s all ms rs i o true) rfl hg2.size (fun t y hy=>by
   have hy':lk (BP s all ms rs i o).t t=some y:=hy
   obtain ⟨k1,k2⟩:=hg2.Gs t y hy'
   exact ⟨by rw [hg2.size];exact k1,k2,hg2.tmps t y hy'⟩) default
  exact Ah hgp (show Bw (seenAt fl hid s all ms rs i o true) all o=.yes from hw)
 have hsound:=G0 htb hg2 hop
 have hev:ev ⟨(BP s all ms rs i o).t,o2,BF s.n rs,s.sz⟩ y=some (.ptr j off):=by
  cases y<;>exact hy
 have hv:JB tb ⟨(BP s all ms rs i o).t,o2,BF s.n rs,s.sz⟩ T y=.val none x:=by
  unfold JB
  simp only [ht,hev,hx,hl]
 rw [hv] at hsound
 obtain ⟨h1,h2⟩:=hsound trivial
 unfold wpOp
 simp only [ho,hwg,if_true]
 exact .inl (As h1 (hK D β w (fun _ _=>rfl) (by unfold FF;exact hg2.gh.mono fun _ h=>.inl h) (Am (fun _ h=>.inl h) h2)))
theorem WD {tb:List (Nat×TI)} (htb:AY S P tb) (ho:all[i]?=some o) (hd:EW o.dst s.sz=true) (hfl:fl=true) (hw:Bw (seenAt fl hid s all ms rs i o pu) all o=.yes) {c:Option Bool} {o1:List (Nat×Own S)} {n':Nat} {x:SV} (he:evalOp tb (BP s all ms rs i o) o.op=.nm c o1 n' x) (hp:CW c)
  (htk:F8 s.n hid ms i (BF s.n rs) rs [] []=true):GO fl hid P w0 F D0 s all ms rs ⟨i,o,false,o1,BF s.n rs,n',x,[],[],true⟩:=by
 refine ⟨B7 hd,hfl,rfl,rfl,htk,fun j hj=>(by cases hj),fun D N β a w o2 hg hsub hN K Q' hK=>?_⟩
 have hg':G w0 F D0 D (BP s all ms rs i o) N β a w:=⟨hg.defers,hg.size,hg.Gs,hg.tmps,hg.gh.Hc hsub⟩
 have hwg:Region.wanted o (yielded all a.tmps)=true:=by
  have hgp:=HH (st:=seenAt fl hid s all ms rs i o true) rfl hg.size (fun t y hy=>by
   have hy':lk (BP s all ms rs i o).t t=some y:=hy
   obtain ⟨k1,k2⟩:=hg.Gs t y hy'
   exact ⟨by rw [hg.size];exact k1,k2,hg.tmps t y hy'⟩) default
  exact Ah hgp (show Bw (seenAt fl hid s all ms rs i o true) all o=.yes from hw)
 have hsound:=Bc htb hg' o
 rw [he] at hsound
 obtain ⟨β',w',h1,h2,h3⟩:=hsound hp hN
 unfold wpOp
 simp only [ho,hwg,if_true]
 exact .inl (As h1 (hK D β' w' h2.agree (by unfold FF;exact hg.gh.extend h2) h3))
theorem ZK (hkp:B3 S w0 F D0) (ho:all[i]?=some o) (hd:EW o.dst s.sz=true) (hfl:fl=true) (hw:Bw (seenAt fl hid s all ms rs i o false) all o=.yes) {f:Nat} {args:List SV} (hcl:callee (seenAt fl hid s all ms rs i o false) o.op=some (f,args)) {c:B2 S} (hf:c.f=f) (hch:c.Holds P) {x:c.sp.D S} {ps:PS S} (hpa:c.sp.parse c.flat args (oC (CD ms i) s.o rs) [] c.bn=some (x,ps))
  {y:c.rs.D S} (hy:c.out.gives x y) {rs':List SV} {o':List (Nat×Own S)} {n':Nat} (he:c.rs.enc y (Hb c.bn c.rs)=(rs',o',n'))
  (hm:Ys ps.m c.bn (oC (CD ms i) s.o rs)=true) (hr:CU (BF s.n rs) (BF s.n rs+(n' -c.bn)) (GB (BF s.n rs) (Dq (Bk c.bn ps.m (BF s.n rs)) o'))=true)
  {g:List (Nat×Own S)} (hgd:g=Ey (BF s.n rs) (Dq (Bk c.bn ps.m (BF s.n rs)) o'))
  (htk:F8 s.n hid ms i (BF s.n rs) rs (M3 ps.o (oC (CD ms i) s.o rs) g) (Jv (oC (CD ms i) s.o rs) g)=true):
  GO fl hid P w0 F D0 s all ms rs ⟨i,o,false,GB (BF s.n rs) (Dq (Bk c.bn ps.m (BF s.n rs)) o'),BF s.n rs,BF s.n rs+(n' -c.bn),A5 (CY (Bk c.bn ps.m (BF s.n rs)) rs'),M3 ps.o (oC (CD ms i) s.o rs) g,Jv (oC (CD ms i) s.o rs) g,true⟩:=by
 subst hf
 refine ⟨B7 hd,hfl,rfl,rfl,htk,fun j hj=>RL (Eg.1 hj).1,fun D N β a w o2 hg hsub hN K Q' hK=>?_⟩
 have hwg:Region.wanted o (yielded all a.tmps)=true:=by
  have hgp:=HH (st:=seenAt fl hid s all ms rs i o true) rfl hg.size (fun t y hy=>by
   have hy':lk (BP s all ms rs i o).t t=some y:=hy
   obtain ⟨k1,k2⟩:=hg.Gs t y hy'
   exact ⟨by rw [hg.size];exact k1,k2,hg.tmps t y hy'⟩) default
  exact Ah hgp (show Bw (seenAt fl hid s all ms rs i o true) all o=.yes from hw)
 unfold wpOp
 simp only [ho,hwg,if_true]
 refine .inl ?_
 unfold Oper.wp
 have hcl':callee (⟨(BP s all ms rs i o).t,o2,BF s.n rs,s.sz⟩:St S) o.op=some (c.f,args):=(Wr (s:=⟨(BP s all ms rs i o).t,o2,BF s.n rs,s.sz⟩) (s':=seenAt fl hid s all ms rs i o false) rfl).trans hcl
 rw [Gx hg hcl' hch.Bu,Oper.upon_enter]
 refine (Vb (n0:=BF s.n rs) (cn:=Hp ps.o (oC (CD ms i) s.o rs)) hg.gh hsub hpa hch.bound hch.flat hm (hch.calls x y hy) (hg.gh.inv hkp) he (fun k h1 h2=>hN k h1 h2) (fun i b hi hn=>M4 hn hi)).mono fun e w' ⟨D',β',he',hag,hgh,hon⟩=>?_
 subst he'
 refine hK D' β' w' hag (GH.Hc hgh fun u b hu=>?_) hon
 rw [CC] at hu
 rw [NC,Kn]
 by_cases hk:RR (oC (CD ms i) s.o rs) g u=true
 ·obtain ⟨b',h1,h2⟩:=X1 hk
  have h3:=hsub u b' h2
  have h4:=h1
  rw [hgd,IT] at h4
  by_cases hlt:u<BF s.n rs
  ·rw [if_pos hlt] at h4
   have h5:lk (Jv (oC (CD ms i) s.o rs) g) u=none:=by unfold Jv;rw [Gb,if_pos hk]
   have h6:¬ u∈M3 ps.o (oC (CD ms i) s.o rs) g:=fun h=>by rw [(Eg.1 h).2] at hk;cases hk
   simp only [h5,IS,if_pos hlt,if_neg h6,Option.orElse_none,h3] at hu
   rw [h4]
   simpa using hu
  ·rw [if_neg hlt] at h4;cases h4
 ·have h5:lk (Jv (oC (CD ms i) s.o rs) g) u=lk g u:=by unfold Jv;rw [Gb,if_neg hk]
  have h6:(u∈M3 ps.o (oC (CD ms i) s.o rs) g)=(u∈Hp ps.o (oC (CD ms i) s.o rs)):=by
   simp only [eq_iff_iff]
   exact ⟨fun h=>(Eg.1 h).1,fun h=>Eg.2 ⟨h,Bool.eq_false_iff.2 hk⟩⟩
  simp only [h5,h6,IS] at hu
  rw [hgd,IT] at hu
  by_cases hlt:u<BF s.n rs
  ·rw [if_pos hlt,if_pos hlt] at hu
   simpa using hu
  ·rw [if_neg hlt,if_neg hlt] at hu
   simpa using hu
end
theorem LB {tb:List (Nat×TI)} {ct:List (B2 S)} {fin:List (Rec S)->Tr ι ρ} {Goal:Prop} (hkp:B3 S w0 F D0) (htb:AY S P tb) (hct: ∀ c∈ct,c.Holds P) {pre:List (Nat×Bool)} (hfin: ∀ rs,rs.map Rec.key=pre->Good fl hid P w0 F D0 s all ms rs->(fin rs).Holds Kc Kr->Goal):
  ∀ (todo:List (Nat×Bool)) (rs:List (Rec S)),rs.map Rec.key++todo=pre->Good fl hid P w0 F D0 s all ms rs->(Cb fl hid tb ct s all ms fin todo rs).Holds Kc Kr->Goal
 | [],rs,hk,hg,h=>hfin rs (by simpa using hk) hg h
 | (i,pu)::t,rs,hk,hg,h=>by
  have hrange:CU (S:=S) (BF s.n rs) (BF s.n rs) []=true:=Nat.ble_eq_true_of_le (Nat.le_refl _)
  have ih: ∀ r:Rec S,r.key=(i,pu)->Good fl hid P w0 F D0 s all ms (rs++[r])->(Cb fl hid tb ct s all ms fin t (rs++[r])).Holds Kc Kr->Goal:=fun r hkey hg' h'=>
   LB hkp htb hct hfin t (rs++[r]) (by rw [<-hk];simp [hkey]) hg' h'
  have ihR: ∀ r:Rec S,r.key=(i,pu)/\r.tk=false/\r.cn=[]/\r.gb=[]->all[r.i]?=some r.o->r.n1=BF s.n rs->CU r.n1 r.n2 r.o1=true->DS fl hid P w0 F D0 s all ms rs r->(Ex all r fun r=>Cb fl hid tb ct s all ms fin t (rs++[r])).Holds Kc Kr->Goal:=fun r hkey ho hn hr hok h'=>by
   obtain ⟨r',h1,h2,h3⟩:=Sm hg ho hn hr hkey.2 hok h'
   exact ih r' (h1.trans hkey.1) h2 h3
  simp only [Cb,St.Fv] at h
  split at h
  case h_1=>exact h.elim
  rename_i o ho'
  have ho:all[i]?=some o:=by rw [GL] at ho';simpa using ho'
  split at h
  case h_1=>exact h.elim
  rename_i hd
  split at h
  ·rename_i hw
   exact ih ⟨i,o,pu,[],BF s.n rs,BF s.n rs,.v (.tuple #[]),[],[],false⟩ rfl (hg.add ho rfl hrange (.plain rfl rfl rfl (gE ho hd hw))) h
  ·rename_i hw
   split at h
   ·rename_i e hz0
    obtain ⟨rfl,hb0⟩:=WR hz0
    exact ihR ⟨i,o,false,[(BF s.n rs,.AS e [])],BF s.n rs,BF s.n rs+1,.view (BF s.n rs) 0 0 0,[],[],false⟩ ⟨rfl,rfl,rfl,rfl⟩ ho rfl (Hq _ _) (gC htb ho hd hw hb0) h
   ·rename_i j b c o1 n' v hz0
    obtain ⟨rfl,ha0⟩:=WQ hz0
    split at h
    case h_2=>exact h.elim
    rename_i hr
    obtain ⟨h1,h2⟩:=B5 h
    cases b with
    | true=>exact ihR ⟨i,o,false,[],BF s.n rs,BF s.n rs,.view j 0 0 0,[],[],false⟩ ⟨rfl,rfl,rfl,rfl⟩ ho rfl hrange (gA htb ho hd hw ha0 h1) (h2.1 rfl)
    | false=>exact ihR ⟨i,o,false,o1,BF s.n rs,n',v,[],[],false⟩ ⟨rfl,rfl,rfl,rfl⟩ ho rfl hr (gB htb ho hd hw ha0 h1) (h2.2 rfl)
   rename_i hzn
   clear hzn
   split at h
   ·rename_i cn c ow hco
    obtain ⟨h1,h2⟩:=B5 h
    obtain ⟨rfl,hok⟩:=cJ htb ho hd hw hco h1
    exact ih _ rfl (hg.add ho rfl (Hq _ _) (.Wx hok)) h2
   rename_i hzn
   clear hzn
   split at h
   ·rename_i j b hco
    obtain ⟨rfl,hok⟩:=cL htb ho hd hw hco
    exact ih _ rfl (hg.add ho rfl hrange (.Wx hok)) h
   rename_i hzn
   clear hzn
   split at h
   ·rename_i f args hcl
    split at h
    ·exact h.elim
    ·rcases Eu h with ⟨c,hcm,x,ps,hf,hp,h⟩|h
     case inr=>
      split at h
      case h_1=>exact h.elim
      obtain ⟨c,hcm,x,ps,hf,hp,h⟩:=UI h
      have hch:=hct c hcm
      have fin': ∀ y,c.out.gives x y->(SO s.n hid ms rs (BP s all ms rs i o) i o c ps y fun r=>Ex all r fun r=>Cb true hid tb ct s all ms fin t (rs++[r])).Holds Kc Kr->Goal:=fun y hy h=>by
       unfold SO at h
       split at h
       rename_i rs' o' n' he
       split at h
       case h_2=>exact h.elim
       rename_i hm hr htk
       have hok:=ZK hkp ho hd rfl hw hcl hf hch hp hy he hm hr rfl htk
       obtain ⟨r',h1,h2,h3⟩:=Hf (r:=⟨i,o,false,GB (BF s.n rs) (Dq (Bk c.bn ps.m (BF s.n rs)) o'),BF s.n rs,BF s.n rs+(n' -c.bn),A5 (CY (Bk c.bn ps.m (BF s.n rs)) rs'),M3 ps.o (oC (CD ms i) s.o rs) (Ey (BF s.n rs) (Dq (Bk c.bn ps.m (BF s.n rs)) o')),Jv (oC (CD ms i) s.o rs) (Ey (BF s.n rs) (Dq (Bk c.bn ps.m (BF s.n rs)) o')),true⟩) hg ho rfl hr hok h
       exact ih r' h1 h2 h3
      split at h
      ·rename_i g hout;exact fin' _ (by rw [hout];rfl) h
      ·rename_i p g hout;exact fin' _ (by rw [hout];exact ⟨h.1,rfl⟩) h.2
      ·rename_i m hout
       obtain ⟨y,h1,h2⟩:=h
       exact fin' y (by rw [hout];exact h1) h2
     have hch:=hct c hcm
     split at h
     case h_2=>exact h.elim
     rename_i hl hb0
     have hb0:=Nat.eq_of_beq_eq_true hb0
     have fin': ∀ y,c.out.gives x y->(recC (seenAt fl hid s all ms rs i o false) i o c ps y fun r=>Ex all r fun r=>Cb fl hid tb ct s all ms fin t (rs++[r])).Holds Kc Kr->Goal:=fun y hy h=>by
      unfold recC at h
      split at h
      rename_i rs' o' n' he
      split at h
      ·rename_i hr
       exact ihR ⟨i,o,false,Dq (Bk c.bn ps.m (BF s.n rs)) o',BF s.n rs,BF s.n rs+(n' -c.bn),A5 (CY (Bk c.bn ps.m (BF s.n rs)) rs'),[],[],false⟩ ⟨rfl,rfl,rfl,rfl⟩ ho rfl hr (ZG hkp ho hd hw hcl hf hch hp hl hb0 hy he) h
      ·exact h.elim
     split at h
     ·rename_i g hout;exact fin' _ (by rw [hout];rfl) h
     ·rename_i p g hout;exact fin' _ (by rw [hout];exact ⟨h.1,rfl⟩) h.2
     ·rename_i m hout
      obtain ⟨y,h1,h2⟩:=h
      exact fin' y (by rw [hout];exact h1) h2
   ·split at h
    ·rename_i c x he
     obtain ⟨h1,h2⟩:=B5 h
     exact ihR ⟨i,o,pu,[],BF s.n rs,BF s.n rs,x,[],[],false⟩ ⟨rfl,rfl,rfl,rfl⟩ ho rfl hrange (cM htb ho hd hw he h1) h2
    ·rename_i b he
     split at h
     ·exact h.elim
     ·exact ihR ⟨i,o,false,[(BF s.n rs,b)],BF s.n rs,BF s.n rs+1,HP b (BF s.n rs),[],[],false⟩ ⟨rfl,rfl,rfl,rfl⟩ ho rfl (Hq _ _) (cK htb ho hd hw he) h
    ·rename_i c o1 n' v he
     split at h
     case h_2=>exact h.elim
     rename_i hr _
     obtain ⟨h1,h2⟩:=B5 h
     exact ihR ⟨i,o,false,o1,BF s.n rs,n',v,[],[],false⟩ ⟨rfl,rfl,rfl,rfl⟩ ho rfl hr (gD htb ho hd hw he h1) h2
    ·split at h
     ·unfold ZC at h
      split at h
      case h_2=>exact h.elim
      rename_i T x lo hi hop
      split at h
      case h_2=>exact h.elim
      rename_i q hx
      split at h
      case h_2=>exact h.elim
      rename_i c o1 n' v he
      split at h
      case h_2=>exact h.elim
      rename_i hr
      obtain ⟨h1,h2⟩:=B5 h
      exact ihR ⟨i,o,true,o1,BF s.n rs,n',v,[],[],false⟩ ⟨rfl,rfl,rfl,rfl⟩ ho rfl hr (gF htb ho hd hw hop hx he h1) h2
     ·split at h
      ·obtain ⟨h1,h2⟩:=B5 h
       obtain ⟨r',k1,k2,k3⟩:=Hf (r:=⟨i,o,false,[],BF s.n rs,BF s.n rs,_,[],[],true⟩) hg ho rfl hrange (ZH htb ho hd rfl hw (by assumption) h1 (by assumption) rfl) h2
       exact ih r' k1 k2 k3
      ·split at h
       case h_2=>exact h.elim
       rename_i hr
       obtain ⟨h1,h2⟩:=B5 h
       obtain ⟨r',k1,k2,k3⟩:=Hf (r:=⟨i,o,false,_,BF s.n rs,_,_,[],[],true⟩) hg ho rfl hr (WD htb ho hd rfl hw (by assumption) h1 (by assumption)) h2
       exact ih r' k1 k2 k3
      ·split at h
       case h_2=>exact h.elim
       revert h
       rename_i x hx _ _ _ _
       intro h
       obtain ⟨hok,hxe⟩:=ZJ (w0:=w0) (F:=F) (D0:=D0) htb ho hd hw hx rfl
       rcases hxe with ⟨a,b,hxe⟩|⟨a,hxe⟩
       ·subst hxe
        rw [Ex,Rec.Fv] at h
        exact ih ⟨i,o,false,[],BF s.n rs,BF s.n rs,.ptr a b,[],[],true⟩ rfl (hg.add ho rfl hrange (.SL hok)) h
       ·subst hxe
        rw [Ex,Rec.Fv] at h
        exact ih ⟨i,o,false,[],BF s.n rs,BF s.n rs,.By a,[],[],true⟩ rfl (hg.add ho rfl hrange (.SL hok)) h
    ·exact h.elim
  ·exact h.elim
  ·exact h.elim
end
end Go.En
