/-
 A region that draws its order, by evaluation: what drawT finds is right (drawT_sound).
-/
import Derived.Test.YtkpggdcpaeanaaaGreatDoorMd
set_option linter.all false
namespace Go.En
open Go.RowKit
section
variable {S:Am} {P:Program} {w0:World} {F D0:Nat->Prop} {s:St S} {all:Array Oper} {ms:List Nat} {fl:Bool} {hid:List Nat}
theorem Rl: ∀ {fs:List (FC S.T)} {n:Nat} {oc:List (Nat×Own S)} {cs:List SV} {oc':List (Nat×Own S)} {n':Nat},CP fs n oc=(cs,oc',n')-> ∀ a d,lk oc' a=some d->lk oc a=some d\/(∃ σ l,d=.sl σ l)\/d=.any:=by
 intro fs
 induction fs with
 | nil=>intro n oc cs oc' n' hu a d ha;simp only [CP,Prod.mk.injEq] at hu;rw [<-hu.2.1] at ha;exact .inl ha
 | cons f r ih=>
  intro n oc cs oc' n' hu a d ha
  cases f with
  | sl σ l=>
   simp only [CP,Prod.mk.injEq] at hu
   rw [<-hu.2.1] at ha
   rcases ih (n:=n+1) (oc:=(n,.sl σ l)::oc) rfl a d ha with h1|h1
   ·rw [AI] at h1
    split at h1
    ·cases h1;exact .inr (.inl ⟨_,_,rfl⟩)
    ·exact .inl h1
   ·exact .inr h1
  | ow σ E l=>
   simp only [CP,Prod.mk.injEq] at hu
   rw [<-hu.2.1] at ha
   rcases ih (n:=n+1) (oc:=(n,.any)::oc) rfl a d ha with h1|h1
   ·rw [AI] at h1
    split at h1
    ·cases h1;exact .inr (.inr rfl)
    ·exact .inl h1
   ·exact .inr h1
  | _=>simp only [CP,Prod.mk.injEq] at hu;rw [<-hu.2.1] at ha;exact ih rfl a d ha
def Vq (o:List (Nat×Own S)):Prop:= ∀ i b,lk o i=some b->(∃ σ l,b=.sl σ l)\/b=.any
theorem Fb: ∀ {qs:List Cl} {x:PT S qs} {n:Nat} {oc:List (Nat×Own S)} {cs:List SV} {oc':List (Nat×Own S)} {n':Nat},CV qs=true->B6 qs x n oc=(cs,oc',n')->Vq oc->Vq oc'
 | [],x,n,oc,cs,oc',n',_,h,ho=>by simp only [B6,Prod.mk.injEq] at h;obtain ⟨_,rfl,_⟩:=h;exact ho
 | p::r,x,n,oc,cs,oc',n',hp,h,ho=>by
  simp only [B6] at h
  rcases hE:Bh p x.1 n oc with ⟨a,o1,n1⟩
  rw [hE] at h
  simp only at h
  rcases hE2:B6 r x.2 n1 o1 with ⟨b,o2,n2⟩
  rw [hE2] at h
  simp only [Prod.mk.injEq] at h
  obtain ⟨_,rfl,_⟩:=h
  cases p with
  | fd f=>
   exact Fb (by simpa [CV] using hp) hE2 fun i b hi=>by
    rcases Rl hE i b hi with h1|h1
    ·exact ho i b h1
    ·exact h1
  | st τ=>
   exact Fb (by simpa [CV] using hp) hE2 fun i b hi=>by
    rcases Rl hE i b hi with h1|h1
    ·exact ho i b h1
    ·exact h1
  | own τ E=>simp [CV] at hp
  | dp τ E=>simp [CV] at hp
  | mp κ τ ag=>simp [CV] at hp
  | mr κ τ ag E=>simp [CV] at hp
  | rw i=>simp [CV] at hp
  | rm i=>simp [CV] at hp
  | ep i z off=>simp [CV] at hp
  | al i off=>simp [CV] at hp
  | np=>simp [CV] at hp
  | hd=>simp [CV] at hp
  | hm=>simp [CV] at hp
  | fn f caps=>
   cases caps with
   | nil=>simp only [Bh,Prod.mk.injEq] at hE;obtain ⟨_,rfl,_⟩:=hE;exact Fb (by simpa [CV] using hp) hE2 ho
   | cons=>simp [CV] at hp
theorem U0 {q:Spec} {x:q.D S} {n:Nat} {vs:List SV} {o':List (Nat×Own S)} {n':Nat} (hl:q.Qz=true) (h:q.enc x n=(vs,o',n')):Vq o':=by
 obtain ⟨as,bx⟩:=q
 unfold Spec.Qz at hl
 cases bx with
 | cons=>simp at hl
 | nil=>
  unfold Spec.enc at h
  rcases hE:B6 as x.1 n [] with ⟨a,o1,n1⟩
  rw [hE] at h
  simp only [EZ,Prod.mk.injEq] at h
  obtain ⟨_,rfl,_⟩:=h
  exact Fb hl hE fun i b hi=>by simp [AP] at hi
theorem VZ {m:List (Nat×Nat)} {n i:Nat}:Bb 0 m n i=n+i:=by
 unfold Bb
 have:Nat.ble (i+1) 0=false:=by
  cases hb:Nat.ble (i+1) 0
  ·rfl
  ·exact absurd (Nat.le_of_ble_eq_true hb) (by omega)
 rw [this];simp
theorem V9 {D:Nat->Prop} {o:List (Nat×Own S)} {N:Nat->Prop} {β:Nat->Nm} {w:World} {n:Nat} {c:Bw S} {x:c.sp.D S} {ps:PS S} {args:List SV} (hg:GH w0 F D0 D o N β w) (h:c.sp.parse c.flat args o [] c.bn=some (x,ps)) (hc:c.sp.okB c.bn=true) (hflat:c.flat=true->c.rs.plain S=true)
  (hl:c.sp.Qz=true) (hb0:c.bn=0) {y:c.rs.D S} {f:Nat} (hcall: ∀ w D β vs o n,c.sp.enc x c.bn=(vs,o,n)->GH w (AJ o β) D D o (· <n) β w->BM (· <n) vs->c.bn<=n->S.inv D w->Calls P f (AA β vs).toArray w (Dk c y w D β o)) (hiv:S.inv D w)
  {rs':List SV} {o':List (Nat×Own S)} {n':Nat} (he:c.rs.enc y (HF c.bn c.rs)=(rs',o',n')) (hfr: ∀ j,n<=j->j<n+(n' -c.bn)->¬ N j):
  Calls P f (AA β args).toArray w fun e w'=> ∃ D' β',e=.returned ((As (CJ (Bb c.bn ps.m n) rs')).den β')/\By D D' N n (n+(n' -c.bn)) (Dj (Bb c.bn ps.m n) o') β β' w w'/\(As (CJ (Bb c.bn ps.m n) rs')).on (more N n (n+(n' -c.bn))):=by
 rcases hE:c.sp.enc x c.bn with ⟨vs,o1,n1⟩
 obtain ⟨β1,hbox,hgh1,hden,hon1,hbn1,hcross,hsub,_,hbl⟩:=Spec.B2 hg h hc hE
 have hsl:=U0 hl hE
 have hno: ∀ k,¬ AJ o1 β1 k:=fun k ⟨i,b,hi,hik⟩=>by
  rcases hsl i b hi with ⟨σ,l,rfl⟩|rfl
  ·exact (hgh1.own i _ hi).1.no k hik
  ·exact Nm.bW.no (hgh1.own i _ hi) k hik
 rw [hden]
 refine (hcall w (FH D β ps.bl) β1 vs o1 n1 hE ⟨hgh1.Bf,hgh1.own,hgh1.inj,fun i b k hi hk=>.inr ⟨i,b,hi,hk⟩,hgh1.off,hgh1.lt,hgh1.C5,fun k hk=>.inl hk,Ns.refl _ _,fun _ h=>h⟩ hon1 hbn1 (S.FJ hiv (fun _ _=>rfl) fun k hk=>.inl hk)).mono fun e w' ⟨D',β2,rs2,o2,n2,he2,hret,hb',hgh2,honr,hn2⟩=>?_
 rw [he] at he2
 simp only [Prod.mk.injEq] at he2
 obtain ⟨rfl,rfl,rfl⟩:=he2
 have hbelow:Below w.heap.size w w':=⟨hgh2.fr.os,hgh2.fr.tape,hgh2.fr.output,hgh2.fr.size,fun k hk=>hgh2.fr.block k hk (hno k)⟩
 rw [hb0] at hfr
 rw [hb0]
 simp only [Nat.sub_zero] at hfr ⊢
 let r:=Bb 0 ps.m n
 have hr0: ∀ i,r i=n+i:=fun i=>VZ
 let D2:Nat->Prop:=fun k=>(D' k\/D k)/\¬ ∃ i∈ps.bl,(β i).has k
 have hDD2: ∀ k,D k->D2 k:=fun k hk=>⟨.inr hk,fun ⟨i,hi,hik⟩=>by
  obtain ⟨c',hc'⟩:=hbl i hi
  exact hg.off i c' k (hsub i c' hc') hik hk⟩
 let βn:Nat->Nm:=fun i=>if n<=i/\i<n+n' then β2 (i -n) else β i
 have hβn: ∀ i,N i->β i=βn i:=fun i hi=>by
  simp only [βn];rw [if_neg fun h=>hfr i h.1 h.2 hi]
 have hr: ∀ i,i<n'->βn (r i)=β2 i:=fun i hi=>by
  simp only [hr0,βn]
  rw [if_pos (by omega)]
  congr 1;omega
 have hrN: ∀ i,i<n'->more N n (n+n') (r i):=fun i hi=>.inr (by rw [hr0];omega)
 have hfree:ps.bl=[]\/Cp o':=by
  cases hfl:c.flat with
  | true=>exact .inr (Spec.MP (hflat hfl) he)
  | false=>rw [hfl] at h;exact .inl (Spec.I2 h)
 have hinj: ∀ i j,r i=r j->i=j:=fun i j h=>by rw [hr0,hr0] at h;omega
 have hold: ∀ j c' k,lk o' j=some c'->(β2 j).has k->w.heap.size<=k:=fun j c' k hj hk=>(hgh2.fresh j c' k hj hk).elim id fun h=>(hno k h).elim
 refine ⟨D2,βn,?_,⟨hβn,hbelow,Nat.le_add_right _ _,fun i b hi=>?_,fun i b hi=>?_,fun i b k hi hk=>?_,fun i j b c' k hi hj hk hl=>?_,hDD2,fun k hk=>?_,fun i b k hi hk hD=>?_,fun i b k hi hk=>?_⟩,?_⟩
 ·rw [hret]
  congr 1
  have hd:=DS (β:=βn) (β':=β2) (r:=r) (N:=(· <n')) hr rs' honr
  cases hrs:rs' with
  | nil=>simp [As,CJ,SV.den,AA]
  | cons a t=>
   cases t with
   | nil=>rw [hrs] at hd;simp only [CJ,AA,List.cons.injEq,and_true] at hd;simp only [As,CJ];exact hd.symm
   | cons b t=>rw [hrs] at hd;simp only [As,CJ,SV.den];simp only [CJ] at hd;rw [hd]
 ·obtain ⟨j,c',hj,hji,rfl⟩:=EW i b hi
  obtain ⟨h1,h2⟩:=hgh2.Bf j c' hj
  exact ⟨by rw [<-hji,show Bb 0 ps.m n j=n+j from hr0 j];omega,Own.NK hrN h2⟩
 ·obtain ⟨j,c',hj,hji,rfl⟩:=EW i b hi
  obtain ⟨h1,h2⟩:=hgh2.Bf j c' hj
  rw [<-hji,hr j h1]
  refine Own.KD (N:=(· <n')) hr h2 ?_
  have h3:=hgh2.own j c' hj
  rcases hfree with hf|hf
  ·exact Own.Br h3 fun k hk=>⟨.inl hk,fun ⟨i,hi,_⟩=>by rw [hf] at hi;simp at hi⟩
  ·exact Own.Ma (hf j c' hj) h3
 ·obtain ⟨j,c',hj,hji,rfl⟩:=EW i b hi
  rw [<-hji,hr j (hgh2.Bf j c' hj).1] at hk
  exact hold j c' k hj hk
 ·obtain ⟨i',c1,hi1,e1,_⟩:=EW i b hi
  obtain ⟨j',c2,hj1,e2,_⟩:=EW j c' hj
  rw [<-e1,hr i' (hgh2.Bf i' c1 hi1).1] at hk
  rw [<-e2,hr j' (hgh2.Bf j' c2 hj1).1] at hl
  rw [<-e1,<- e2,hgh2.inj i' j' c1 c2 k hi1 hj1 hk hl]
 ·rcases hk.1 with h1|h1
  ·rcases hgh2.Jz k h1 with h2|h2|h2
   ·rcases h2 with h2|h2
    ·exact .inl h2
    ·exact absurd h2 hk.2
   ·exact (hno k h2).elim
   ·exact .inr ⟨h2,hgh2.C5 k h1⟩
  ·exact .inl h1
 ·obtain ⟨j,c',hj,hji,rfl⟩:=EW i b hi
  rw [<-hji,hr j (hgh2.Bf j c' hj).1] at hk
  rcases hD.1 with h1|h1
  ·exact (hgh2.off j c' k hj hk h1).elim
  ·exact h1
 ·obtain ⟨j,c',hj,hji,rfl⟩:=EW i b hi
  rw [<-hji,hr j (hgh2.Bf j c' hj).1] at hk
  exact hgh2.lt j c' k hj hk
 ·have ho:=Fj (N:=(· <n')) (N':=more N n (n+n')) hrN honr
  cases hrs:rs' with
  | nil=>simp [As,CJ,SV.on,BM]
  | cons a t=>
   cases t with
   | nil=>rw [hrs] at ho;exact ho.1
   | cons b t=>rw [hrs] at ho;exact ho
theorem Sh {s s':St S} (h:s.t=s'.t) (x:Operand):ev s x=ev s' x:=by cases x<;>simp only [ev,h]
theorem Tv {s s':St S} (h:s.t=s'.t): ∀ l:List Operand,HP s l=HP s' l
 | []=>rfl
 | x::r=>by simp only [HP,Sh h x,Tv h r]
theorem WA {s s':St S} (h:s.t=s'.t) {op:Op}:callee s op=callee s' op:=by
 unfold callee
 split
 ·rename_i f args ts
  rw [Sh h f]
  simp only [Tv h args]
 ·rfl
theorem aH {m:List (Nat×Nat)} {bn:Nat} {o:List (Nat×Own S)} (h:YD m bn o=true): ∀ i,i<bn-> ∃ j,lk m i=some j/\ ∃ b,lk o j=some b:=by
 unfold YD at h
 split at h
 case h_2=>cases h
 rename_i l hl
 have key: ∀ (n:Nat) (l:List Nat),Nj m n=some l->M9 (lJ o) l=true-> ∀ i,i<n-> ∃ j,lk m i=some j/\ ∃ b,lk o j=some b:=by
  intro n
  induction n with
  | zero=>intro l _ _ i hi;omega
  | succ n ih=>
   intro l hv hb i hi
   simp only [Nj] at hv
   split at hv
   case h_2=>cases hv
   rename_i j hj
   split at hv
   case h_2=>cases hv
   rename_i l' hl'
   cases hv
   simp only [M9] at hb
   split at hb
   case h_2=>cases hb
   rename_i hjo
   by_cases he:i=n
   ·subst he
    refine ⟨j,hj,?_⟩
    unfold lJ at hjo
    split at hjo
    ·rename_i b hb';exact ⟨b,hb'⟩
    ·cases hjo
   ·exact ih l' hl' hb i (by omega)
 exact key bn l hl h
theorem KC {o':List (Nat×Own S)} {j:Nat}: ∀ {l:List (Nat×Own S)},j∈HU o' l->(∃ b,lk l j=some b)
 | [],h=>by simp [HU] at h
 | (i,b)::r,h=>by
  simp only [HU] at h
  rw [AI]
  by_cases he:i=j
  ·exact ⟨b,if_pos he⟩
  ·rw [if_neg he]
   split at h
   ·exact KC h
   ·rcases List.mem_cons.1 h with h|h
    ·exact absurd h.symm he
    ·exact KC h
theorem Qk {o o':List (Nat×Own S)} {j:Nat} (h:j∈HU o' o): ∃ b,lk o j=some b:=KC h
theorem Md {o':List (Nat×Own S)} {j:Nat} {b:Own S} (hn:lk o' j=none): ∀ {l:List (Nat×Own S)},lk l j=some b->j∈HU o' l
 | [],h=>by simp [AP] at h
 | (i,c)::r,h=>by
  rw [AI] at h
  simp only [HU]
  split at h
  ·rename_i he
   subst he
   rw [hn]
   simp
  ·split
   ·exact Md hn h
   ·exact List.mem_cons_of_mem _ (Md hn h)
theorem LJ {u n:Nat}:Nat.ble (u+1) n=true↔u<n:=by rw [Nat.ble_eq];omega
theorem H7 {n u:Nat}: ∀ {l:List (Nat×Own S)},lk (El n l) u=if u<n then lk l u else none
 | []=>by simp [El,AP]
 | (i,b)::r=>by
  simp only [El]
  split
  ·rename_i hi
   have hi:=LJ.1 hi
   rw [AI,AI,H7 (l:=r)]
   by_cases he:i=u
   ·subst he;simp [hi]
   ·simp [he]
  ·rename_i hi
   have hi:¬ i<n:=fun h=>by rw [LJ.2 h] at hi;cases hi
   rw [AI,H7 (l:=r)]
   by_cases he:i=u
   ·subst he;simp [hi]
   ·simp [he]
theorem Od: ∀ {a b:List SV},P5 a b=true->a=b
 | [],[],_=>rfl
 | .ptr i k::r,.ptr i' k'::r',h=>by
  simp only [P5] at h
  split at h
  ·rename_i h1 h2
   rw [Nat.eq_of_beq_eq_true h1,Nat.eq_of_beq_eq_true h2,Od h]
  ·cases h
theorem Yq {a b:Own S} (h:Yp a b=true):a=b:=by
 unfold Yp at h
 split at h
 case h_2=>cases h
 split at h
 case h_2=>cases h
 rename_i h1
 rw [Nat.eq_of_beq_eq_true h1,Od h]
theorem XW {o g:List (Nat×Own S)} {u:Nat} (h:Qq o g u=true): ∃ b,lk g u=some b/\lk o u=some b:=by
 unfold Qq at h
 split at h
 ·rename_i b b' h1 h2
  exact ⟨b,h1,by rw [Yq h];exact h2⟩
 ·cases h
theorem ET {f:Nat->Bool} {u:Nat}: ∀ {l:List Nat},u∈J5 f l↔u∈l/\f u=false
 | []=>by simp [J5]
 | i::r=>by
  simp only [J5]
  split
  ·rename_i hf
   rw [ET (l:=r),List.mem_cons]
   refine ⟨fun ⟨h1,h2⟩=>⟨.inr h1,h2⟩,fun ⟨h1,h2⟩=>⟨?_,h2⟩⟩
   rcases h1 with rfl|h1
   ·rw [hf] at h2;cases h2
   ·exact h1
  ·rename_i hf
   rw [List.mem_cons,List.mem_cons,ET (l:=r)]
   refine ⟨fun h=>?_,fun ⟨h1,h2⟩=>?_⟩
   ·rcases h with rfl|⟨h1,h2⟩
    ·exact ⟨.inl rfl,hf⟩
    ·exact ⟨.inr h1,h2⟩
   ·rcases h1 with rfl|h1
    ·exact .inl rfl
    ·exact .inr ⟨h1,h2⟩
theorem H6 {n u:Nat}: ∀ {l:List (Nat×Own S)},lk (Fs n l) u=if u<n then none else lk l u
 | []=>by simp [Fs,AP]
 | (i,b)::r=>by
  simp only [Fs]
  split
  ·rename_i hi
   have hi:=LJ.1 hi
   rw [AI,H6 (l:=r)]
   by_cases he:i=u
   ·subst he;simp [hi]
   ·simp [he]
  ·rename_i hi
   have hi:¬ i<n:=fun h=>by rw [LJ.2 h] at hi;cases hi
   rw [AI,AI,H6 (l:=r)]
   by_cases he:i=u
   ·subst he;simp [hi]
   ·simp [he]
theorem V0 {tb:List (Nat×TI)} {st:St S} {T j m n':Nat} {x y:Operand} (hxj:ev st x=some (.tr j)) {c0:Option Bool} {ow:Own S} {o':List (Nat×Own S)} {v:SV} (h:QO tb st T x y=.x c0 ((m,ow)::o') n' v): ∃ b,lk st.o j=some b:=by
 unfold QO at h
 split at h
 case h_2=>cases h
 split at h
 case h_2=>cases h
 split at h
 case h_2=>cases h
 split at h
 case h_2=>cases h
 rename_i xv yv hz hx hy
 split at h
 case h_2=>cases h
 rename_i d l hb
 rw [hxj] at hx
 cases hx
 unfold OB at hb
 simp only at hb
 split at hb
 case h_2=>cases hb
 rename_i hj
 exact ⟨_,hj⟩
theorem Us {w0:World} {F D0 D:Nat->Prop} {o o2:List (Nat×Own S)} {N:Nat->Prop} {n0:Nat} {cn:List Nat} {β:Nat->Nm} {w:World} {c:Bw S} {x:c.sp.D S} {ps:PS S} {args:List SV} (hg2:GH w0 F D0 D o2 N β w) (hsub2:Sub o o2) (h:c.sp.parse c.flat args o [] c.bn=some (x,ps)) (hc:c.sp.okB c.bn=true) (hflat:c.flat=true->c.rs.plain S=true)
  (hm:YD ps.m c.bn o=true) {y:c.rs.D S} {P:Program} {f:Nat} (hcall: ∀ w D β vs o n,c.sp.enc x c.bn=(vs,o,n)->GH w (AJ o β) D D o (· <n) β w->BM (· <n) vs->c.bn<=n->S.inv D w->Calls P f (AA β vs).toArray w (Dk c y w D β o)) (hiv:S.inv D w)
  {rs':List SV} {o':List (Nat×Own S)} {n':Nat} (he:c.rs.enc y (HF c.bn c.rs)=(rs',o',n')) (hfr: ∀ k,n0<=k->k<n0+(n' -c.bn)->¬ N k) (hcn: ∀ i b,lk o i=some b->lk ps.o i=none->i∈cn):
  Calls P f (AA β args).toArray w fun e w'=> ∃ D' β',e=.returned ((As (CJ (Bb c.bn ps.m n0) rs')).den β')/\(∀ i,N i->β i=β' i)/\GH w0 F D0 D' (Dj (Bb c.bn ps.m n0) o'++Rw cn o2) (more N n0 (n0+(n' -c.bn))) β' w'/\(As (CJ (Bb c.bn ps.m n0) rs')).on (more N n0 (n0+(n' -c.bn))):=by
 rcases hE:c.sp.enc x c.bn with ⟨vs,o1,n1⟩
 have hg:GH w0 F D0 D o N β w:=hg2.HG hsub2
 have hgl:GH w (AJ o β) D D o N β w:=⟨hg.Bf,hg.own,hg.inj,fun i b k hi hk=>.inr ⟨i,b,hi,hk⟩,hg.off,hg.lt,hg.C5,fun k hk=>.inl hk,Ns.refl _ _,fun _ h=>h⟩
 obtain ⟨β1,hbox,hgh1,hden,hon1,hbn1,hcross,hsub,_,hbl⟩:=Spec.B2 hgl h hc hE
 have hcomes: ∀ j d k,lk o1 j=some d->(β1 j).has k->AJ o β k:=fun j d k hj hk=>(hgh1.fresh j d k hj hk).elim (fun h=>absurd (hgh1.lt j d k hj hk) (by omega)) id
 have hsubR: ∀ i b,lk (Rw cn o2) i=some b->lk o2 i=some b:=fun i b h=>by
  rw [KK] at h
  split at h
  ·cases h
  ·exact h
 have hinR: ∀ i b,lk (Rw cn o2) i=some b->(∃ b',lk o i=some b')->lk ps.o i=some b:=fun i b h ⟨b',hb'⟩=>by
  rw [KK] at h
  split at h
  ·cases h
  ·rename_i hni
   have e1:=hsub2 i b' hb'
   rw [h] at e1
   cases e1
   cases h5:lk ps.o i with
   | none=>exact absurd (hcn i _ hb' h5) hni
   | some d=>rw [hsub i d h5] at hb';cases hb';rfl
 have hmok:=aH hm
 rw [hden]
 refine (hcall w (FH D β ps.bl) β1 vs o1 n1 hE ⟨hgh1.Bf,hgh1.own,hgh1.inj,fun i b k hi hk=>.inr ⟨i,b,hi,hk⟩,hgh1.off,hgh1.lt,hgh1.C5,fun k hk=>.inl hk,Ns.refl _ _,fun _ h=>h⟩ hon1 hbn1 (S.FJ hiv (fun _ _=>rfl) fun k hk=>.inl hk)).mono fun e w' ⟨D',β',rs2,o2,n2,he2,hret,hb',hgh2,honr,hn2⟩=>?_
 rw [he] at he2
 simp only [Prod.mk.injEq] at he2
 obtain ⟨rfl,rfl,rfl⟩:=he2
 -- blocks of what is lent and of what stays are as they were
 have hkeepD: ∀ k,FH D β ps.bl k->w'.heap[k]?=w.heap[k]?:=fun k hk=>hgh2.fr.block k (hgh1.C5 k hk) fun ⟨i,b,hi,hik⟩=>hgh1.off i b k hi hik hk
 have hoff: ∀ i c' k,lk (Rw cn o2) i=some c'->(β i).has k->¬ AJ o1 β1 k:=fun i c' k hi hk ⟨j,d,hj,hjk⟩=>by
  cases hio:lk o i with
  | none=>
   obtain ⟨i',b',hi',hk'⟩:=hcomes j d k hj hjk
   have:=hg2.inj i i' c' b' k (hsubR i c' hi) (hsub2 i' b' hi') hk hk'
   subst this
   rw [hio] at hi';cases hi'
  | some b'=>
  have hi:=hinR i c' hi ⟨b',hio⟩
  by_cases hib:i∈ps.bl
  ·exact hgh1.off j d k hj hjk (.inr ⟨i,hib,hk⟩)
  ·exact hcross i c' j d k hi hib hj hk hjk
 have hkeepR: ∀ i c' k,lk (Rw cn o2) i=some c'->(β i).has k->w'.heap[k]?=w.heap[k]?:=fun i c' k hi hk=>
  hgh2.fr.block k (hg2.lt i c' k (hsubR i c' hi) hk) (hoff i c' k hi hk)
 let D2:Nat->Prop:=fun k=>(D' k\/D k)/\¬ ∃ i∈ps.bl,(β i).has k
 have hDlent: ∀ k,D k->FH D β ps.bl k:=fun k hk=>.inl hk
 have hDD2: ∀ k,D k->D2 k:=fun k hk=>⟨.inr hk,fun ⟨i,hi,hik⟩=>by
  obtain ⟨c',hc'⟩:=hbl i hi
  exact hg.off i c' k (hsub i c' hc') hik hk⟩
 let r:=Bb c.bn ps.m n0
 let βn:Nat->Nm:=fun i=>if n0<=i/\i<n0+(n' -c.bn) then β' (i -n0+c.bn) else β i
 have hβn: ∀ i,N i->β i=βn i:=fun i hi=>by simp only [βn];rw [if_neg fun h=>hfr i h.1 h.2 hi]
 have hr: ∀ i,i<n'->βn (r i)=β' i:=fun i hi=>by
  by_cases hib:i<c.bn
  ·obtain ⟨j,hj,b',hjo⟩:=hmok i hib
   have hjN:N j:=(hg.Bf j b' hjo).1
   have e1:r i=j:=by simp only [r,Bb];rw [show Nat.ble (i+1) c.bn=true from Nat.ble_eq_true_of_le hib];simp only [hj]
   rw [e1,<- hβn j hjN,hb' i hib,hbox i hib j hj]
  ·have e1:r i=n0+(i -c.bn):=by
    simp only [r,Bb]
    have:Nat.ble (i+1) c.bn=false:=by
     cases hb:Nat.ble (i+1) c.bn
     ·rfl
     ·exact absurd (Nat.le_of_ble_eq_true hb) hib
    rw [this]
   simp only [e1,βn]
   rw [if_pos (by omega)]
   congr 1;omega
 have hrN: ∀ i,i<n'->more N n0 (n0+(n' -c.bn)) (r i):=fun i hi=>by
  by_cases hib:i<c.bn
  ·obtain ⟨j,hj,b',hjo⟩:=hmok i hib
   have hjN:N j:=(hg.Bf j b' hjo).1
   have e1:r i=j:=by simp only [r,Bb];rw [show Nat.ble (i+1) c.bn=true from Nat.ble_eq_true_of_le hib];simp only [hj]
   rw [e1];exact .inl hjN
  ·have e1:r i=n0+(i -c.bn):=by
    simp only [r,Bb]
    have:Nat.ble (i+1) c.bn=false:=by
     cases hb:Nat.ble (i+1) c.bn
     ·rfl
     ·exact absurd (Nat.le_of_ble_eq_true hb) hib
    rw [this]
   exact .inr (by omega)
 have hcase: ∀ i b,lk (Dj r o'++Rw cn o2) i=some b->(∃ j c',lk o' j=some c'/\r j=i/\b=c'.I5 r)\/lk (Rw cn o2) i=some b:=fun i b h=>by
  rw [Ml] at h
  cases h1:lk (Dj r o') i with
  | none=>rw [h1] at h;exact .inr (by simpa using h)
  | some c'=>rw [h1] at h;simp at h;subst h;exact .inl (EW i _ h1)
 have hRN: ∀ i b,lk (Rw cn o2) i=some b->N i:=fun i b hi=>(hg2.Bf i b (hsubR i b hi)).1
 have hfree:ps.bl=[]\/Cp o':=by
  cases hfl:c.flat with
  | true=>exact .inr (Spec.MP (hflat hfl) he)
  | false=>rw [hfl] at h;exact .inl (Spec.I2 h)
 have hold: ∀ j c' k,lk o' j=some c'->(β' j).has k->AJ o1 β1 k\/w.heap.size<=k:=fun j c' k hj hk=>(hgh2.fresh j c' k hj hk).symm
 have hsep: ∀ i b j c' k,lk (Rw cn o2) i=some b->lk o' j=some c'->(β i).has k->(β' j).has k->False:=fun i b j c' k hi hj hk hjk=>by
  rcases hold j c' k hj hjk with h1|h1
  ·exact hoff i b k hi hk h1
  ·have:=hg2.lt i b k (hsubR i b hi) hk;omega
 have hfr1: ∀ k,AJ o1 β1 k->w0.heap.size<=k\/F k:=fun k ⟨i,b,hi,hik⟩=>let ⟨i',b',hi',hk'⟩:=hcomes i b k hi hik;hg.fresh i' b' k hi' hk'
 refine ⟨D2,βn,?_,hβn,⟨fun i b hi=>?_,fun i b hi=>?_,fun i j b b' k hi hj hk hl=>?_,fun i b k hi hk=>?_,fun i b k hi hk hD=>?_,fun i b k hi hk=>?_,fun k hk=>?_,fun k hk=>?_,?_,fun k hk=>hDD2 k (hg.sub k hk)⟩,?_⟩
 ·rw [hret]
  congr 1
  have hd:=DS (β:=βn) (β':=β') (r:=r) (N:=(· <n')) hr rs' honr
  cases hrs:rs' with
  | nil=>simp [As,CJ,SV.den,AA]
  | cons a t=>
   cases t with
   | nil=>rw [hrs] at hd;simp only [CJ,AA,List.cons.injEq,and_true] at hd;simp only [As,CJ];exact hd.symm
   | cons b t=>rw [hrs] at hd;simp only [As,CJ,SV.den];simp only [CJ] at hd;rw [hd]
 ·rcases hcase i b hi with ⟨j,c',hj,hji,rfl⟩|hi
  ·obtain ⟨h1,h2⟩:=hgh2.Bf j c' hj
   exact ⟨by rw [<-hji];exact hrN j h1,Own.NK hrN h2⟩
  ·exact ⟨.inl (hRN i b hi),Own.Aj (fun _ h=>.inl h) (hg2.Bf i b (hsubR i b hi)).2⟩
 ·rcases hcase i b hi with ⟨j,c',hj,hji,rfl⟩|hi
  ·obtain ⟨h1,h2⟩:=hgh2.Bf j c' hj
   rw [<-hji,hr j h1]
   refine Own.KD (N:=(· <n')) hr h2 ?_
   have h3:=hgh2.own j c' hj
   rcases hfree with hf|hf
   ·exact Own.Br h3 fun k hk=>⟨.inl hk,fun ⟨i,hi,_⟩=>by rw [hf] at hi;simp at hi⟩
   ·exact Own.Ma (hf j c' hj) h3
  ·rw [<-hβn i (hRN i b hi)]
   have h3:=hg2.own i b (hsubR i b hi)
   exact Own.Br (Own.Dc (Own.Dm hβn (hg2.Bf i b (hsubR i b hi)).2 h3) (fun k hk=>hkeepR i b k hi hk) fun k hk=>hkeepD k (.inl hk)) hDD2
 ·rcases hcase i b hi with ⟨i',c1,hi1,e1,_⟩|hi<;>rcases hcase j b' hj with ⟨j',c2,hj1,e2,_⟩|hj
  ·rw [<-e1,hr i' (hgh2.Bf i' c1 hi1).1] at hk
   rw [<-e2,hr j' (hgh2.Bf j' c2 hj1).1] at hl
   rw [<-e1,<- e2,hgh2.inj i' j' c1 c2 k hi1 hj1 hk hl]
  ·rw [<-e1,hr i' (hgh2.Bf i' c1 hi1).1] at hk
   rw [<-hβn j (hRN j b' hj)] at hl
   exact (hsep j b' i' c1 k hj hi1 hl hk).elim
  ·rw [<-hβn i (hRN i b hi)] at hk
   rw [<-e2,hr j' (hgh2.Bf j' c2 hj1).1] at hl
   exact (hsep i b j' c2 k hi hj1 hk hl).elim
  ·rw [<-hβn i (hRN i b hi)] at hk;rw [<-hβn j (hRN j b' hj)] at hl
   exact hg2.inj i j b b' k (hsubR i b hi) (hsubR j b' hj) hk hl
 ·rcases hcase i b hi with ⟨j,c',hj,hji,_⟩|hi
  ·rw [<-hji,hr j (hgh2.Bf j c' hj).1] at hk
   rcases hold j c' k hj hk with h1|h1
   ·exact hfr1 k h1
   ·exact .inl (Nat.le_trans hg.fr.size h1)
  ·rw [<-hβn i (hRN i b hi)] at hk
   exact hg2.fresh i b k (hsubR i b hi) hk
 ·rcases hcase i b hi with ⟨j,c',hj,hji,_⟩|hi
  ·rw [<-hji,hr j (hgh2.Bf j c' hj).1] at hk
   rcases hD.1 with h1|h1
   ·exact hgh2.off j c' k hj hk h1
   ·rcases hold j c' k hj hk with ⟨l,d,hl,hlk⟩|h2
    ·exact hgh1.off l d k hl hlk (.inl h1)
    ·have:=hg.C5 k h1;omega
  ·rw [<-hβn i (hRN i b hi)] at hk
   have hio:=hsubR i b hi
   rcases hD.1 with hD1|hD1
   case inr=>exact hg2.off i b k hio hk hD1
   rcases hgh2.Jz k hD1 with h1|h1|h1
   ·rcases h1 with h1|h1
    ·exact hg2.off i b k hio hk h1
    ·exact hD.2 h1
   ·exact hoff i b k hi hk h1
   ·have:=hg2.lt i b k hio hk;omega
 ·rcases hcase i b hi with ⟨j,c',hj,hji,_⟩|hi
  ·rw [<-hji,hr j (hgh2.Bf j c' hj).1] at hk
   exact hgh2.lt j c' k hj hk
  ·rw [<-hβn i (hRN i b hi)] at hk
   exact Nat.lt_of_lt_of_le (hg2.lt i b k (hsubR i b hi) hk) hgh2.fr.size
 ·rcases hk.1 with h1|h1
  ·exact hgh2.C5 k h1
  ·exact Nat.lt_of_lt_of_le (hg.C5 k h1) hgh2.fr.size
 ·rcases hk.1 with hk1|hk1
  case inr=>exact hg.Jz k hk1
  rcases hgh2.Jz k hk1 with h1|h1|h1
  ·rcases h1 with h1|h1
   ·exact hg.Jz k h1
   ·exact absurd h1 hk.2
  ·rcases hfr1 k h1 with h2|h2
   ·exact .inr (.inr h2)
   ·exact .inr (.inl h2)
  ·exact .inr (.inr (Nat.le_trans hg.fr.size h1))
 ·refine ⟨hgh2.fr.os.trans hg.fr.os,hgh2.fr.tape.trans hg.fr.tape,hgh2.fr.output.trans hg.fr.output,Nat.le_trans hg.fr.size hgh2.fr.size,fun k hk hF=>?_⟩
  refine (hgh2.fr.block k (Nat.lt_of_lt_of_le hk hg.fr.size) fun hb=>?_).trans (hg.fr.block k hk hF)
  rcases hfr1 k hb with h1|h1
  ·omega
  ·exact hF h1
 ·have ho:=Fj (N:=(· <n')) (N':=more N n0 (n0+(n' -c.bn))) hrN honr
  cases hrs:rs' with
  | nil=>simp [As,CJ,SV.on,BM]
  | cons a t=>
   cases t with
   | nil=>rw [hrs] at ho;exact ho.1
   | cons b t=>rw [hrs] at ho;exact ho
theorem Mg {n1 n2:Nat}: ∀ {l:List (Nat×Own S)},CD n1 n2 l=true->n1<=n2/\ ∀ i b,lk l i=some b->n1<=i/\i<n2
 | [],h=>⟨Nat.le_of_ble_eq_true h,fun i b hi=>by simp [AP] at hi⟩
 | (j,c)::r,h=>by
  simp only [CD] at h
  split at h
  case h_2=>cases h
  rename_i h1 h2
  obtain ⟨h3,h4⟩:=Mg h
  have h1:=Nat.le_of_ble_eq_true h1
  have h2:=Nat.le_of_ble_eq_true h2
  refine ⟨h3,fun i b hi=>?_⟩
  rw [AI] at hi
  split at hi
  ·rename_i he;subst he;exact ⟨h1,h2⟩
  ·exact h4 i b hi
theorem HV (n:Nat) (b:Own S):CD n (n+1) [(n,b)]=true:=by
 simp only [CD,Nat.ble_eq_true_of_le (Nat.le_refl n),Nat.ble_eq_true_of_le (Nat.le_refl (n+1)),Nat.ble_eq_true_of_le (Nat.le_succ n)]
structure Good (fl:Bool) (hid:List Nat) (P:Program) (w0:World) (F D0:Nat->Prop) (s:St S) (all:Array Oper) (ms:List Nat) (rs:List (Rec S)):Prop where
 ops: ∀ r∈rs,all[r.i]?=some r.o
 chain:BI s.n rs
 jK: ∀ p r q,rs=p++r::q->F7 fl hid P w0 F D0 s all ms p r
theorem Good.add {rs:List (Rec S)} (h:Good fl hid P w0 F D0 s all ms rs) {r:Rec S} (ho:all[r.i]?=some r.o) (hn:r.n1=A6 s.n rs) (hr:CD r.n1 r.n2 r.o1=true) (hok:F7 fl hid P w0 F D0 s all ms rs r):Good fl hid P w0 F D0 s all ms (rs++[r]):=by
 obtain ⟨h1,h2⟩:=Mg hr
 refine ⟨fun x hx=>?_,BI.append.2 ⟨h.chain,hn,h1,h2,trivial⟩,fun p x q he=>?_⟩
 ·rcases List.mem_append.1 hx with hx|hx
  ·exact h.ops x hx
  ·rw [List.mem_singleton] at hx;subst hx;exact ho
 ·rcases List.eq_nil_or_concat q with rfl|⟨q',y,rfl⟩
  ·have:=List.append_inj' (s₁:=rs) (s₂:=p) (t₁:=[r]) (t₂:=[x]) he rfl
   obtain ⟨rfl,h2⟩:=this
   simp only [List.cons.injEq,and_true] at h2
   subst h2
   exact hok
  ·have he':rs++[r]=(p++x::q')++[y]:=by rw [he];simp
   exact h.jK p x q' (List.append_inj' he' rfl).1
theorem DH.tell {rs:List (Rec S)} {r:Rec S} (h:DH fl hid P w0 F D0 s all ms rs r) {x:SV} (hd: ∀ β,x.den β=r.x.den β) (hx: ∀ N,x.on N):DH fl hid P w0 F D0 s all ms rs { r with x:=x }:=by
 refine ⟨h.slot,fun hp=>?_,fun hp D N β a w hg hN K Q' hK=>?_⟩
 ·refine fun D N β a w hg hN=>?_
  obtain ⟨β',h1,_,h3⟩:=h.pure hp D N β a w hg hN
  exact ⟨β',h1,hx _,by simp only [hd];exact h3⟩
 ·refine h.imp hp D N β a w hg hN K Q' fun D' β' w' hn _=>?_
  have:=hK D' β' w' hn (hx _)
  simp only [hd] at this;exact this
theorem Bz {ι:Nat->Type} {ρ:Type} {c:Option Bool} {t:Tr ι ρ} {Kc: ∀ c,ι c->Prop} {Kr:ρ->Prop} (h:(K8 c t).Holds Kc Kr):CG c/\t.Holds Kc Kr:=by
 cases c with
 | none=>exact ⟨trivial,h⟩
 | some b=>exact h
theorem Eg {ι:Nat->Type} {ρ:Type} {f:Nat} {args:List SV} {o:List (Nat×Own S)} {k:(c:Bw S)->c.sp.D S->PS S->Tr ι ρ} {fb:Tr ι ρ} {Kc: ∀ c,ι c->Prop} {Kr:ρ->Prop}: ∀ {l:List (Bw S)},(Rj f args o k fb l).Holds Kc Kr->(∃ c∈l,∃ x ps,c.f=f/\c.sp.parse c.flat args o [] c.bn=some (x,ps)/\(k c x ps).Holds Kc Kr)\/fb.Holds Kc Kr
 | [],h=>.inr h
 | c::r,h=>by
  simp only [Rj] at h
  split at h
  ·rename_i hf
   split at h
   ·rename_i x ps hp
    exact .inl ⟨c,by simp,x,ps,Nat.eq_of_beq_eq_true hf,hp,h⟩
   ·exact (Eg h).imp (fun ⟨c',h1,h2⟩=>⟨c',by simp [h1],h2⟩) id
  ·exact (Eg h).imp (fun ⟨c',h1,h2⟩=>⟨c',by simp [h1],h2⟩) id
theorem Ta {ι:Nat->Type} {ρ:Type} {f:Nat} {args:List SV} {o:List (Nat×Own S)} {k:(c:Bw S)->c.sp.D S->PS S->Tr ι ρ} {w:Nat} {Kc: ∀ c,ι c->Prop} {Kr:ρ->Prop} {l:List (Bw S)} (h:(Rj f args o k (.stuck w) l).Holds Kc Kr): ∃ c∈l,∃ x ps,c.f=f/\c.sp.parse c.flat args o [] c.bn=some (x,ps)/\(k c x ps).Holds Kc Kr:=
 (Eg h).elim id fun h=>h.elim
variable {ι:Nat->Type} {ρ:Type} {Kc: ∀ c,ι c->Prop} {Kr:ρ->Prop}
theorem R4 {rs:List (Rec S)} {r:Rec S} {k:Rec S->Tr ι ρ} (hg:Good fl hid P w0 F D0 s all ms rs) (ho:all[r.i]?=some r.o) (hn:r.n1=A6 s.n rs) (hr:CD r.n1 r.n2 r.o1=true) (hcn:r.tk=false/\r.cn=[]/\r.gb=[]) (hok:DH fl hid P w0 F D0 s all ms rs r) (h:(Ek all r k).Holds Kc Kr):
  ∃ r',r'.key=r.key/\Good fl hid P w0 F D0 s all ms (rs++[r'])/\(k r').Holds Kc Kr:=by
 unfold Ek at h
 rw [Rec.Fc] at h
 unfold Vy at h
 split at h
 ·rename_i c hx
  split at h
  ·have key: ∀ b,c=b->(k { r with x:=.v (.bool b) }).Holds Kc Kr-> ∃ r',r'.key=r.key/\Good fl hid P w0 F D0 s all ms (rs++[r'])/\(k r').Holds Kc Kr:=fun b hb h=>by
    subst hb
    exact ⟨{ r with x:=.v (.bool c) },rfl,hg.add ho hn hr (.plain hcn.1 hcn.2.1 hcn.2.2 (hok.tell (fun β=>by rw [hx];simp [SV.den]) fun N=>trivial)),h⟩
   cases c
   ·exact key false rfl (h.2 rfl)
   ·exact key true rfl (h.1 rfl)
  ·exact ⟨r,rfl,hg.add ho hn hr (.plain hcn.1 hcn.2.1 hcn.2.2 hok),h⟩
 ·exact ⟨r,rfl,hg.add ho hn hr (.plain hcn.1 hcn.2.1 hcn.2.2 hok),h⟩
theorem F6.tell {rs:List (Rec S)} {r:Rec S} (h:F6 fl hid P w0 F D0 s all ms rs r) {x:SV} (hd: ∀ β,x.den β=r.x.den β) (hx: ∀ N,x.on N):F6 fl hid P w0 F D0 s all ms rs { r with x:=x }:=by
 refine ⟨h.slot,h.fl,h.pu,h.tf,h.tk,h.there,fun D N β a w o2 hg hsub hN K Q' hK=>?_⟩
 refine h.step D N β a w o2 hg hsub hN K Q' fun D' β' w' hag hgh _=>?_
 have:=hK D' β' w' hag hgh (hx _)
 simp only [hd] at this;exact this
theorem HJ {rs:List (Rec S)} {r:Rec S} {k:Rec S->Tr ι ρ} (hg:Good fl hid P w0 F D0 s all ms rs) (ho:all[r.i]?=some r.o) (hn:r.n1=A6 s.n rs) (hr:CD r.n1 r.n2 r.o1=true) (hok:F6 fl hid P w0 F D0 s all ms rs r) (h:(Ek all r k).Holds Kc Kr):
  ∃ r',r'.key=r.key/\Good fl hid P w0 F D0 s all ms (rs++[r'])/\(k r').Holds Kc Kr:=by
 unfold Ek at h
 rw [Rec.Fc] at h
 unfold Vy at h
 split at h
 ·rename_i c hx
  split at h
  ·have key: ∀ b,c=b->(k { r with x:=.v (.bool b) }).Holds Kc Kr-> ∃ r',r'.key=r.key/\Good fl hid P w0 F D0 s all ms (rs++[r'])/\(k r').Holds Kc Kr:=fun b hb h=>by
    subst hb
    exact ⟨{ r with x:=.v (.bool c) },rfl,hg.add ho hn hr (.WO (hok.tell (fun β=>by rw [hx];simp [SV.den]) fun N=>trivial)),h⟩
   cases c
   ·exact key false rfl (h.2 rfl)
   ·exact key true rfl (h.1 rfl)
  ·exact ⟨r,rfl,hg.add ho hn hr (.WO hok),h⟩
 ·exact ⟨r,rfl,hg.add ho hn hr (.WO hok),h⟩
theorem Gy {st:St S} {N:Nat->Prop} {β:Nat->Nm} {a:Act} (ho:st.o=[]) (hz:a.tmps.size=st.sz) (h: ∀ t y,lk st.t t=some y->t<a.tmps.size/\y.on N/\a.tmps.getD t undef=y.den β) (w:World):
  G w (fun _=>False) (fun _=>False) (fun _=>False) st N β { a with defers:=[] } w:=
 ⟨rfl,hz,fun t x hx=>⟨hz▸(h t x hx).1,(h t x hx).2.1⟩,fun t x hx=>(h t x hx).2.2,by
  refine ⟨fun i b h=>?_,fun i b h=>?_,fun i j b c k h=>?_,fun i b k h=>?_,fun i b k h=>?_,fun i b k h=>?_,fun k h=>h.elim,fun k h=>h.elim,Ns.refl _ _,fun k h=>h.elim⟩<;>(rw [ho,AP] at h;cases h)⟩
theorem B1 {d:Option Tmp} {sz:Nat} (h:EH d sz=true): ∀ u,d=some u->u<sz:=by
 unfold EH at h
 split at h
 ·intro u hu;cases hu
 ·intro u hu;cases hu;exact Nat.le_of_ble_eq_true h
section
variable {rs:List (Rec S)} {i:Nat} {o:Oper} {pu:Bool} {n:Nat}
theorem I9 {D N:Nat->Prop} {β:Nat->Nm} {a:Act} {w:World} (hg:G w0 F D0 D (seenAt fl hid s all ms rs i o false) N β a w): ∀ t y,lk (seenAt fl hid s all ms rs i o true).t t=some y->t<a.tmps.size/\y.on N/\a.tmps.getD t undef=y.den β:=fun t y hy=>by
 have hy':lk (seenAt fl hid s all ms rs i o false).t t=some y:=hy
 obtain ⟨h1,h2⟩:=hg.GZ t y hy'
 exact ⟨by rw [hg.size];exact h1,h2,hg.tmps t y hy'⟩
theorem eJ (ho:all[i]?=some o) (hd:EH o.dst s.sz=true) (hw:Bq (seenAt fl hid s all ms rs i o pu) all o=.no):DH fl hid P w0 F D0 s all ms rs ⟨i,o,pu,[],n,n,.v (.tuple #[]),[],[],false⟩:=by
 refine ⟨B1 hd,fun hpu D N β a w hg _=>⟨β,By.refl,trivial,.inr ⟨?_,by simp [SV.den,undef]⟩⟩,fun hpu D N β a w hg hN K Q' hK=>?_⟩
 ·simp only at hpu;subst hpu
  exact Ad (Gy (st:=seenAt fl hid s all ms rs i o true) rfl hg.size (I9 hg) default) hw
 ·simp only at hpu;subst hpu
  unfold wpOp
  simp only [ho,Ad hg hw,Bool.false_eq_true,if_false]
  simpa [SV.den,undef] using hK D β w By.refl trivial
theorem aY {tb:List (Nat×TI)} (htb:AW S P tb) (ho:all[i]?=some o) (hd:EH o.dst s.sz=true) (hw:Bq (seenAt fl hid s all ms rs i o pu) all o=.yes) {c:Option Bool} {x:SV} (he:evalOp tb (seenAt fl hid s all ms rs i o pu) o.op=.val c x) (hp:CG c):DH fl hid P w0 F D0 s all ms rs ⟨i,o,pu,[],n,n,x,[],[],false⟩:=by
 refine ⟨B1 hd,fun hpu D N β a w hg _=>?_,fun hpu D N β a w hg hN K Q' hK=>?_⟩
 ·simp only at hpu;subst hpu
  have key: ∀ w,(execOp a.eval o).run P w=.ok (.value (x.den β)) w/\x.on N:=fun w=>by
   have hg:=Gy (st:=seenAt fl hid s all ms rs i o true) rfl hg.size (I9 hg) w
   have:=BS htb hg o
   rw [he] at this
   exact this hp
  exact ⟨β,By.refl,Aj (fun _ h=>.inl h) (key default).2,.inl ⟨Ad (Gy (st:=seenAt fl hid s all ms rs i o true) rfl hg.size (I9 hg) default) hw,fun w=>(key w).1⟩⟩
 ·simp only at hpu;subst hpu
  have hsound:=BS htb hg o
  rw [he] at hsound
  obtain ⟨h1,h2⟩:=hsound hp
  unfold wpOp
  simp only [ho,Ad hg hw,if_true]
  exact .inl (Al h1 (hK D β w By.refl (Aj (fun _ h=>.inl h) h2)))
theorem aW {tb:List (Nat×TI)} (htb:AW S P tb) (ho:all[i]?=some o) (hd:EH o.dst s.sz=true) (hw:Bq (seenAt fl hid s all ms rs i o false) all o=.yes) {b:Own S} (he:evalOp tb (seenAt fl hid s all ms rs i o false) o.op=.new b):DH fl hid P w0 F D0 s all ms rs ⟨i,o,false,[(n,b)],n,n+1,G4 b n,[],[],false⟩:=by
 refine ⟨B1 hd,fun hpu=>(by cases hpu),fun _ D N β a w hg hN K Q' hK=>?_⟩
 have hsound:=BS htb hg o
 rw [he] at hsound
 obtain ⟨h1,ob,len,cap,h2⟩:=hsound
 obtain ⟨β',hβn,hnew⟩:=By.alloc (D:=D) (N:=N) (β:=β) (w:=w) (n:=n) (hN n (Nat.le_refl _) (Nat.lt_succ_self _)) h1 (fun β' hβ hn=>(h2 n β' hβ hn).2)
 unfold wpOp
 simp only [ho,Ad hg hw,if_true]
 refine .inl (Al (h2 n β' hnew.agree hβn).1 (hK D β' _ hnew ?_))
 have:more N n (n+1) n:=.inr ⟨Nat.le_refl _,Nat.lt_succ_self _⟩
 cases b<;>exact this
theorem Tb {q:Wn} (h:Bq (seenAt fl hid s all ms rs i o true) all o=q):Bq (seenAt fl hid s all ms rs i o false) all o=q:=h
theorem eK {tb:List (Nat×TI)} (htb:AW S P tb) (ho:all[i]?=some o) (hd:EH o.dst s.sz=true) (hw:Bq (seenAt fl hid s all ms rs i o true) all o=.yes) {T q:Nat} {x:Operand} {lo hi:Option Operand} (hop:o.op=.slice T x lo hi none) (hx:ev (seenAt fl hid s all ms rs i o false) x=some (.h q))
  {c:Option Bool} {o1:List (Nat×Own S)} {n':Nat} {v:SV} (he:Gi tb (seenAt fl hid s all ms rs i o false) T x lo hi=.nm c o1 n' v) (hp:CG c):DH fl hid P w0 F D0 s all ms rs ⟨i,o,true,o1,A6 s.n rs,n',v,[],[],false⟩:=by
 refine ⟨B1 hd,fun _ D N β a w hg hN=>?_,fun hpu=>(by cases hpu)⟩
 obtain ⟨β',h1,h2,h3⟩:=O3 htb hg hop hx he hp hN
 exact ⟨β',h1,h3,.inl ⟨Ad hg (Tb hw),h2⟩⟩
theorem eI {tb:List (Nat×TI)} (htb:AW S P tb) (ho:all[i]?=some o) (hd:EH o.dst s.sz=true) (hw:Bq (seenAt fl hid s all ms rs i o false) all o=.yes) {c:Option Bool} {o1:List (Nat×Own S)} {n':Nat} {v:SV} (he:evalOp tb (seenAt fl hid s all ms rs i o false) o.op=.nm c o1 n' v) (hp:CG c):DH fl hid P w0 F D0 s all ms rs ⟨i,o,false,o1,A6 s.n rs,n',v,[],[],false⟩:=by
 refine ⟨B1 hd,fun hpu=>(by cases hpu),fun _ D N β a w hg hN K Q' hK=>?_⟩
 have hsound:=BS htb hg o
 rw [he] at hsound
 obtain ⟨β',w',h1,h2,h3⟩:=hsound hp hN
 unfold wpOp
 simp only [ho,Ad hg hw,if_true]
 exact .inl (Al h1 (hK D β' w' h2 h3))
theorem eH {tb:List (Nat×TI)} (htb:AW S P tb) (ho:all[i]?=some o) (hd:EH o.dst s.sz=true) (hw:Bq (seenAt fl hid s all ms rs i o false) all o=.yes) {l:List Oper} {e:Nat} (he:XL tb l o=some e):DH fl hid P w0 F D0 s all ms rs ⟨i,o,false,[(n,.AQ e [])],n,n+1,.view n 0 0 0,[],[],false⟩:=by
 refine ⟨B1 hd,fun hpu=>(by cases hpu),fun _ D N β a w hg hN K Q' hK=>?_⟩
 have hr:=Sw (P:=P) (a:=a) (w:=w) htb he
 obtain ⟨β',hβn,hnew⟩:=By.alloc (S:=S) (D:=D) (N:=N) (β:=β) (w:=w) (n:=n) (hN n (Nat.le_refl _) (Nat.lt_succ_self _)) (b:=.AQ e []) (ob:=.cells #[] e) (len:=0) (cap:=0) trivial (fun β' _ _=>⟨w.heap.size,rfl,heap_alloc_new w _⟩)
 unfold wpOp
 simp only [ho,Ad hg hw,if_true]
 refine .inl (Al (v:=.slice (some ⟨w.heap.size,0,none⟩) 0 0) hr ?_)
 have:=hK D β' _ hnew (.inr ⟨Nat.le_refl _,Nat.lt_succ_self _⟩)
 simpa only [SV.den,hβn,Nm.AQ,Option.getD_some] using this
theorem eF {tb:List (Nat×TI)} (htb:AW S P tb) (ho:all[i]?=some o) (hd:EH o.dst s.sz=true) (hw:Bq (seenAt fl hid s all ms rs i o false) all o=.yes) {j:Nat} {c:Option Bool} {o1:List (Nat×Own S)} {n':Nat} {v:SV} (he:Uo tb (seenAt fl hid s all ms rs i o false) o.op=some (j,true,.nm c o1 n' v)) (hc:CG c):
  DH fl hid P w0 F D0 s all ms rs ⟨i,o,false,[],n,n,.view j 0 0 0,[],[],false⟩:=by
 refine ⟨B1 hd,fun hpu=>(by cases hpu),fun _ D N β a w hg hN K Q' hK=>?_⟩
 obtain ⟨hj,w',hr,hb⟩:=(Kk htb hg he hc).1 rfl
 unfold wpOp
 simp only [ho,Ad hg hw,if_true]
 exact .inl (Al hr (hK D β w' ⟨fun _ _=>rfl,hb,Nat.le_refl _,fun i b h=>by simp [AP] at h,fun i b h=>by simp [AP] at h,fun i b k h=>by simp [AP] at h,fun i j b c k h=>by simp [AP] at h,fun _ h=>h,fun _ h=>.inl h,fun i b k h=>by simp [AP] at h,fun i b k h=>by simp [AP] at h⟩ (.inl hj)))
theorem eG {tb:List (Nat×TI)} (htb:AW S P tb) (ho:all[i]?=some o) (hd:EH o.dst s.sz=true) (hw:Bq (seenAt fl hid s all ms rs i o false) all o=.yes) {j:Nat} {c:Option Bool} {o1:List (Nat×Own S)} {n':Nat} {v:SV} (he:Uo tb (seenAt fl hid s all ms rs i o false) o.op=some (j,false,.nm c o1 n' v)) (hc:CG c):
  DH fl hid P w0 F D0 s all ms rs ⟨i,o,false,o1,A6 s.n rs,n',v,[],[],false⟩:=by
 refine ⟨B1 hd,fun hpu=>(by cases hpu),fun _ D N β a w hg hN K Q' hK=>?_⟩
 obtain ⟨β',w',h1,h2,h3⟩:=(Kk htb hg he hc).2 rfl hN
 unfold wpOp
 simp only [ho,Ad hg hw,if_true]
 exact .inl (Al h1 (hK D β' w' h2 h3))
theorem YW (hkp:Bx S w0 F D0) (ho:all[i]?=some o) (hd:EH o.dst s.sz=true) (hw:Bq (seenAt fl hid s all ms rs i o false) all o=.yes) {f:Nat} {args:List SV} (hcl:callee (seenAt fl hid s all ms rs i o false) o.op=some (f,args)) {c:Bw S} (hf:c.f=f) (hch:c.Holds P) {x:c.sp.D S} {ps:PS S} (hpa:c.sp.parse c.flat args (Of fl hid rs (oC (B5 ms i) s.o rs)) [] c.bn=some (x,ps))
  (hl:c.sp.Qz=true) (hb0:c.bn=0) {y:c.rs.D S} (hy:c.out.gives x y) {rs':List SV} {o':List (Nat×Own S)} {n':Nat} (he:c.rs.enc y (HF c.bn c.rs)=(rs',o',n')):
  DH fl hid P w0 F D0 s all ms rs ⟨i,o,false,Dj (Bb c.bn ps.m (A6 s.n rs)) o',A6 s.n rs,A6 s.n rs+(n' -c.bn),As (CJ (Bb c.bn ps.m (A6 s.n rs)) rs'),[],[],false⟩:=by
 subst hf
 refine ⟨B1 hd,fun hpu=>(by cases hpu),fun _ D N β a w hg hN K Q' hK=>?_⟩
 unfold wpOp
 simp only [ho,Ad hg hw,if_true]
 refine .inl ?_
 unfold Oper.wp
 rw [Ge hg hcl hch.Bm,Oper.upon_enter]
 refine (V9 hg.gh hpa hch.bound hch.flat hl hb0 (hch.calls x y hy) (hg.gh.inv hkp) he hN).mono fun e w' ⟨D',β',he',hnew,hon⟩=>?_
 subst he'
 exact hK D' β' w' hnew hon
theorem gN {s s':St S} (h:s.t=s'.t) (n:Int) (x:Option Operand):IG s n x=IG s' n x:=by
 cases x with
 | none=>rfl
 | some x=>simp only [IG,Sh h]
theorem LL {m n:Nat} {ms:List Nat} {i:Nat} {rs:List (Rec S)} {cn cn':List Nat} {c c':Option Bool} {ow ow':Own S} (h:Uz m hid n ms i rs cn c ow=some (cn',c',ow')):cn'=cn/\c'=c/\ow'=ow/\Fm m hid ms i n rs cn []=true:=by
 unfold Uz at h
 split at h
 ·rename_i ht;cases h;exact ⟨rfl,rfl,rfl,ht⟩
 ·cases h
theorem WQ {tb:List (Nat×TI)} (htb:AW S P tb) {st:St S} {m:Nat} {ms:List Nat} {i:Nat} {rs:List (Rec S)} {op:Oper} {cn:List Nat} {c:Option Bool} {ow:Own S} (he:Tp m fl hid tb st ms i rs pu op.op=some (cn,c,ow)):
  (fl=true/\pu=false/\Fm m hid ms i st.n rs cn []=true/\ ∀ k∈cn,∃ b,lk st.o k=some b)/\
  ∀ (D N:Nat->Prop) β a w o2,CG c->G w0 F D0 D ⟨st.t,o2,st.n,st.sz⟩ N β a w->(∀ i b,lk st.o i=some b->lk o2 i=some b)->¬ N st.n->XG P w0 F D0 D st.n N β a w op ((st.n,ow)::bh o2 cn):=by
 unfold Tp at he
 split at he
 case h_2=>cases he
 split at he
 ·rename_i x y T T' hop
  split at he
  case h_2=>cases he
  rename_i j hT hx
  have hT:=Nat.eq_of_beq_eq_true hT
  subst hT
  split at he
  ·rename_i c' m' ow' o' n' v happ
   obtain ⟨rfl,rfl,rfl,ht⟩:=LL he
   refine ⟨⟨rfl,rfl,ht,fun k hk=>?_⟩,fun D N β a w o2 hc hg hs hN=>?_⟩
   ·rw [List.mem_singleton.1 hk];exact V0 hx happ
   ·exact SS (s:=st) htb hg hs hN hop hx happ hc
  ·split at he
   case h_2=>cases he
   rename_i e esz k κ τ ag E ls ht hy hj
   split at he
   case h_2=>cases he
   rename_i te E'' u hte hk
   split at he
   case h_2=>cases he
   rename_i κ' τ' ag' l hu hju hE''
   split at he
   case h_2=>cases he
   rename_i hτ hκ hsz hE hag _ _
   have hsz:=Nat.eq_of_beq_eq_true hsz
   have hE:=Nat.eq_of_beq_eq_true hE;subst hE
   have hE'':=Nat.eq_of_beq_eq_true hE'';subst hE''
   have hag:=Cm.1 hag;subst hag
   subst hτ
   subst hκ
   obtain ⟨rfl,rfl,rfl,htk⟩:=LL he
   refine ⟨⟨rfl,rfl,htk,fun z hz=>?_⟩,fun D N β a w o2 hc hg hs hN=>?_⟩
   ·simp only [List.mem_cons,List.not_mem_nil,or_false] at hz
    rcases hz with rfl|rfl
    ·exact ⟨_,hj⟩
    ·exact ⟨_,hu⟩
   ·exact Vz (s:=⟨st.t,o2,st.n,st.sz⟩) hg hN hop (AY htb ht).1 (htb.get hte) hsz (hs _ _ hk) (hs _ _ hu) ((Sh (s:=⟨st.t,o2,st.n,st.sz⟩) (s':=st) rfl _).trans hy) ((Sh (s:=⟨st.t,o2,st.n,st.sz⟩) (s':=st) rfl _).trans hx) (fun h=>by subst h;simp at hju) (hs _ _ hj) hc
 ·rename_i T n x hop
  split at he
  case h_2=>cases he
  rename_i j hn hx
  have hn:=Nat.eq_of_beq_eq_true hn
  subst hn
  split at he
  case h_2=>cases he
  rename_i c' m' ow' o' n' v hmk
  obtain ⟨rfl,rfl,rfl,ht⟩:=LL he
  unfold X4 at hmk
  split at hmk
  case h_2=>cases hmk
  rename_i e esz h1
  obtain ⟨h2,h3⟩:=AY htb h1
  split at hmk
  case h_2=>cases hmk
  rename_i te x' hte hesz _ hxe
  cases hxe
  have hesz:=Nat.eq_of_beq_eq_true hesz;subst hesz
  split at hmk
  case h_2=>cases hmk
  rename_i j' hag hsz GI
  have hsz:=Nat.eq_of_beq_eq_true hsz
  rw [hx] at GI
  cases GI
  split at hmk
  case h_2=>cases hmk
  rename_i κ τ ag l hj
  cases hmk
  refine ⟨⟨rfl,rfl,ht,fun k hk=>?_⟩,fun D N β a w o2 hc hg hs hN=>?_⟩
  ·rw [List.mem_singleton.1 hk];exact ⟨_,hj⟩
  ·exact RD (s:=⟨st.t,o2,st.n,st.sz⟩) hg hN hop h2 h3 (htb.get hte) hsz ((Sh (s:=⟨st.t,o2,st.n,st.sz⟩) (s':=st) rfl _).trans hx) (hs _ _ hj)
 ·rename_i T x hi hop
  split at he
  case h_2=>cases he
  rename_i e esz j h1 hx
  obtain ⟨h2,h3⟩:=AY htb h1
  split at he
  case h_2=>cases he
  rename_i κ τ ag E ls hj
  split at he
  case h_2=>cases he
  rename_i h hb
  obtain ⟨rfl,rfl,rfl,ht⟩:=LL he
  refine ⟨⟨rfl,rfl,ht,fun k hk=>?_⟩,fun D N β a w o2 hc hg hs hN=>?_⟩
  ·rw [List.mem_singleton.1 hk];exact ⟨_,hj⟩
  ·simp only [CG,decide_eq_true_eq] at hc
   exact Uh (s:=⟨st.t,o2,st.n,st.sz⟩) hg hN hop h2 h3 ((Sh (s:=⟨st.t,o2,st.n,st.sz⟩) (s':=st) rfl _).trans hx) (hs _ _ hj) ((gN (s:=⟨st.t,o2,st.n,st.sz⟩) (s':=st) rfl _ _).trans hb) hc.1 hc.2
 ·cases he
theorem Mm {u:Nat}: ∀ {js:List Nat} {o:List (Nat×Own S)},u ∉ js->lk (bh o js) u=lk o u
 | [],_,_=>rfl
 | j::r,o,h=>by
  simp only [List.mem_cons,not_or] at h
  rw [bh,Mm h.2,Ci,if_neg fun e=>h.1 e.symm]
theorem aV {tb:List (Nat×TI)} (htb:AW S P tb) (ho:all[i]?=some o) (hd:EH o.dst s.sz=true) (hw:Bq (seenAt fl hid s all ms rs i o pu) all o=.yes) {cn:List Nat} {c:Option Bool} {ow:Own S} (he:Tp s.n fl hid tb (BG s all ms rs i o) ms i rs pu o.op=some (cn,c,ow)) (hc:CG c):
  pu=false/\F6 fl hid P w0 F D0 s all ms rs ⟨i,o,false,[(A6 s.n rs,ow)],A6 s.n rs,A6 s.n rs+1,.tr (A6 s.n rs),cn,[],true⟩:=by
 obtain ⟨⟨rfl,rfl,htk,hth⟩,hs⟩:=WQ (w0:=w0) (F:=F) (D0:=D0) htb he
 refine ⟨rfl,B1 hd,rfl,rfl,rfl,htk,hth,fun D N β a w o2 hg hsub hN K Q' hK=>?_⟩
 have hN1:¬ N (A6 s.n rs):=hN _ (Nat.le_refl _) (Nat.lt_succ_self _)
 obtain ⟨β',w',h1,h2,h3⟩:=hs D N β a w o2 hc hg hsub hN1
 have h3:GH w0 F D0 D ((A6 s.n rs,ow)::bh o2 cn) (fun k=>N k\/k=A6 s.n rs) β' w':=h3
 have hwg:Region.wanted o (yielded all a.tmps)=true:=by
  have hgp:=Gy (st:=seenAt true hid s all ms rs i o true) rfl hg.size (fun t y hy=>by
   have hy':lk (BG s all ms rs i o).t t=some y:=hy
   obtain ⟨k1,k2⟩:=hg.GZ t y hy'
   exact ⟨by rw [hg.size];exact k1,k2,hg.tmps t y hy'⟩) default
  exact Ad hgp (show Bq (seenAt true hid s all ms rs i o true) all o=.yes from hw)
 unfold wpOp
 simp only [ho,hwg,if_true]
 refine .inl (Al h1 (hK D β' w' h2 (GH.HG (GH.mono h3 fun k hk=>?_) fun u b hu=>?_) (.inr ⟨Nat.le_refl _,Nat.lt_succ_self _⟩)))
 ·rcases hk with hk|rfl
  ·exact .inl hk
  ·exact .inr ⟨Nat.le_refl _,Nat.lt_succ_self _⟩
 ·rw [B4] at hu
  simp only [AP,Option.orElse_none] at hu
  rw [AI] at hu ⊢
  split
  ·rename_i he;rw [if_pos he] at hu;simpa using hu
  ·rename_i he
   rw [if_neg he] at hu
   simp only [AP,Option.orElse_none] at hu
   split at hu
   ·cases hu
   ·rename_i hne;rw [Mm hne];exact hu
theorem aX {tb:List (Nat×TI)} (htb:AW S P tb) (ho:all[i]?=some o) (hd:EH o.dst s.sz=true) (hw:Bq (seenAt fl hid s all ms rs i o pu) all o=.yes) {j:Nat} {b:Own S} (he:Yx s.n fl hid tb (BG s all ms rs i o) ms i rs pu o.op=some (j,b)):
  pu=false/\F6 fl hid P w0 F D0 s all ms rs ⟨i,o,false,[],A6 s.n rs,A6 s.n rs,.v (.tuple #[]),[j],[(j,b)],true⟩:=by
 unfold Yx at he
 split at he
 case h_2=>cases he
 refine ⟨rfl,?_⟩
 split at he
 case h_2=>cases he
 rename_i T x y hop
 split at he
 case h_2=>cases he
 rename_i j0 off hx
 split at he
 case h_2=>cases he
 rename_i U cs hj hlk
 split at he
 case h_2=>cases he
 rename_i j' b' hst
 split at he
 case h_2=>cases he
 rename_i hjj htk
 have hjj:=Nat.eq_of_beq_eq_true hjj
 cases he
 subst hjj
 refine ⟨B1 hd,rfl,rfl,rfl,htk,fun k hk=>?_,fun D N β a w o2 hg hsub hN K Q' hK=>?_⟩
 ·rw [List.mem_singleton.1 hk];exact ⟨_,hlk⟩
 have hwg:Region.wanted o (yielded all a.tmps)=true:=by
  have hgp:=Gy (st:=seenAt true hid s all ms rs i o true) rfl hg.size (fun t y hy=>by
   have hy':lk (BG s all ms rs i o).t t=some y:=hy
   obtain ⟨k1,k2⟩:=hg.GZ t y hy'
   exact ⟨by rw [hg.size];exact k1,k2,hg.tmps t y hy'⟩) default
  exact Ad hgp (show Bq (seenAt true hid s all ms rs i o true) all o=.yes from hw)
 have hlk2:lk o2 j'=some (.AQ U cs):=hsub j' _ hlk
 have hev: ∀ z,ev (⟨(BG s all ms rs i o).t,o2,A6 s.n rs,s.sz⟩:St S) z=ev (BG s all ms rs i o) z:=fun z=>by cases z<;>rfl
 have hst2:evalOp tb (⟨(BG s all ms rs i o).t,o2,A6 s.n rs,s.sz⟩:St S) o.op=.Rx none j' b:=by
  rw [hop]
  show H0 tb _ T x y=_
  rw [<-hst]
  unfold H0
  simp only [hev,hx,hlk2,hlk]
 have hsound:=BS htb hg o
 rw [hst2] at hsound
 obtain ⟨w',hr,hgh⟩:=hsound trivial
 unfold wpOp
 simp only [ho,hwg,if_true]
 refine .inl (Nk hr ?_)
 have:=hK D β w' (fun _ _=>rfl) (GH.HG (GH.mono hgh fun k hk=>.inl hk) fun u c hu=>?_) trivial
 ·simpa [SV.den,undef] using this
 ·rw [B4] at hu
  rw [Er]
  simp only [AI,AP,Option.orElse_none,List.mem_singleton] at hu
  split
  ·rename_i he;subst he;simpa using hu
  ·rename_i he
   rw [if_neg he,Option.orElse_none,if_neg fun e=>he e.symm] at hu
   simpa using hu
theorem YX {tb:List (Nat×TI)} (htb:AW S P tb) (ho:all[i]?=some o) (hd:EH o.dst s.sz=true) (hfl:fl=true) (hw:Bq (seenAt fl hid s all ms rs i o pu) all o=.yes) {c:Option Bool} {x:SV} (he:evalOp tb (BG s all ms rs i o) o.op=.val c x) (hp:CG c)
  (htk:Fm s.n hid ms i n rs [] []=true) (hn:n=A6 s.n rs):F6 fl hid P w0 F D0 s all ms rs ⟨i,o,false,[],n,n,x,[],[],true⟩:=by
 subst hn
 refine ⟨B1 hd,hfl,rfl,rfl,htk,fun j hj=>(by cases hj),fun D N β a w o2 hg hsub hN K Q' hK=>?_⟩
 have hg':G w0 F D0 D (BG s all ms rs i o) N β a w:=⟨hg.defers,hg.size,hg.GZ,hg.tmps,hg.gh.HG hsub⟩
 have hwg:Region.wanted o (yielded all a.tmps)=true:=by
  have hgp:=Gy (st:=seenAt fl hid s all ms rs i o true) rfl hg.size (fun t y hy=>by
   have hy':lk (BG s all ms rs i o).t t=some y:=hy
   obtain ⟨k1,k2⟩:=hg.GZ t y hy'
   exact ⟨by rw [hg.size];exact k1,k2,hg.tmps t y hy'⟩) default
  exact Ad hgp (show Bq (seenAt fl hid s all ms rs i o true) all o=.yes from hw)
 have hsound:=BS htb hg' o
 rw [he] at hsound
 obtain ⟨h1,h2⟩:=hsound hp
 unfold wpOp
 simp only [ho,hwg,if_true]
 exact .inl (Al h1 (hK D β w (fun _ _=>rfl) (by unfold Ec;exact hg.gh.mono fun _ h=>.inl h) (Aj (fun _ h=>.inl h) h2)))
theorem Vd {x y:SV} (h:TW x y=true):y=x/\((∃ a b,x=.ptr a b)\/ ∃ a,x=.Bt a):=by
 unfold TW at h
 split at h
 ·split at h
  ·rename_i h1 h2;rw [Nat.eq_of_beq_eq_true h1,Nat.eq_of_beq_eq_true h2];exact ⟨rfl,.inl ⟨_,_,rfl⟩⟩
  ·cases h
 ·rw [Nat.eq_of_beq_eq_true h];exact ⟨rfl,.inr ⟨_,rfl⟩⟩
 ·cases h
theorem Z3 {r:R S} {x:SV} (h:dT r x=true):r=.val none x/\((∃ a b,x=.ptr a b)\/ ∃ a,x=.Bt a):=by
 unfold dT at h
 split at h
 ·obtain ⟨h1,h2⟩:=Vd h;rw [h1];exact ⟨rfl,h2⟩
 ·cases h
theorem Ql {tb:List (Nat×TI)} {T off:Nat} {v:SV} {x:Own S} (h:OO tb T off v x=true):(∃ U cs t,x=.AQ U cs/\lk tb T=some t/\ld (S:=S) t cs off=.val none v)/\((∃ a b,v=.ptr a b)\/ ∃ a,v=.Bt a):=by
 unfold OO at h
 split at h
 ·split at h
  ·rename_i U cs _ t ht;obtain ⟨h1,h2⟩:=Z3 h;exact ⟨⟨U,cs,t,rfl,ht,h1⟩,h2⟩
  ·cases h
 ·cases h
theorem Nb {tb:List (Nat×TI)} {T off j:Nat} {v:SV}: ∀ {rs:List (Rec S)},RZ tb T off v j rs=true-> ∀ r∈rs,j∈r.cn-> ∃ x,lk r.gb j=some x/\OO tb T off v x=true
 | [],_,r,h,_=>by cases h
 | r0::rs,h,r,hr,hj=>by
  unfold RZ at h
  split at h
  ·rename_i hm
   rcases List.mem_cons.1 hr with rfl|hr
   ·rw [CX.2 hj] at hm;cases hm
   ·exact Nb h r hr hj
  ·split at h
   ·rename_i x hx
    split at h
    ·rename_i hg
     rcases List.mem_cons.1 hr with rfl|hr
     ·exact ⟨x,hx,hg⟩
     ·exact Nb h r hr hj
    ·cases h
   ·cases h
theorem YZ {tb:List (Nat×TI)} (htb:AW S P tb) (ho:all[i]?=some o) (hd:EH o.dst s.sz=true) (hw:Bq (seenAt fl hid s all ms rs i o pu) all o=.yes) {x:SV} (he:TX s tb (BG s all ms rs i o) rs o.op=some x) {n:Nat} (hn:n=A6 s.n rs):
  Vv fl P w0 F D0 s all ms rs ⟨i,o,false,[],n,n,x,[],[],true⟩/\((∃ a b,x=.ptr a b)\/ ∃ a,x=.Bt a):=by
 subst hn
 unfold TX at he
 split at he
 case h_2=>cases he
 rename_i op T y hop
 split at he
 case h_2=>cases he
 rename_i j off hy
 split at he
 case h_2=>cases he
 rename_i U cs hj
 split at he
 case h_2=>cases he
 rename_i v hc
 split at he
 case h_2=>cases he
 rename_i hg hst
 cases he
 refine ⟨⟨B1 hd,rfl,rfl,rfl,rfl,j,fun y=>OO tb T off x y=true,⟨_,hj,hg⟩,Nb hst,fun D N β a' w o2 hg2 hb hN K Q' hK=>?_⟩,(Ql hg).2⟩
 obtain ⟨xo,hx,hgx⟩:=hb
 obtain ⟨⟨U',cs',t,rfl,ht,hl⟩,_⟩:=Ql hgx
 have hwg:Region.wanted o (yielded all a'.tmps)=true:=by
  have hgp:=Gy (st:=seenAt fl hid s all ms rs i o true) rfl hg2.size (fun t y hy=>by
   have hy':lk (BG s all ms rs i o).t t=some y:=hy
   obtain ⟨k1,k2⟩:=hg2.GZ t y hy'
   exact ⟨by rw [hg2.size];exact k1,k2,hg2.tmps t y hy'⟩) default
  exact Ad hgp (show Bq (seenAt fl hid s all ms rs i o true) all o=.yes from hw)
 have hsound:=Gh htb hg2 hop
 have hev:ev ⟨(BG s all ms rs i o).t,o2,A6 s.n rs,s.sz⟩ y=some (.ptr j off):=by
  cases y<;>exact hy
 have hv:Ij tb ⟨(BG s all ms rs i o).t,o2,A6 s.n rs,s.sz⟩ T y=.val none x:=by
  unfold Ij
  simp only [ht,hev,hx,hl]
 rw [hv] at hsound
 obtain ⟨h1,h2⟩:=hsound trivial
 unfold wpOp
 simp only [ho,hwg,if_true]
 exact .inl (Al h1 (hK D β w (fun _ _=>rfl) (by unfold Ec;exact hg2.gh.mono fun _ h=>.inl h) (Aj (fun _ h=>.inl h) h2)))
theorem VX {tb:List (Nat×TI)} (htb:AW S P tb) (ho:all[i]?=some o) (hd:EH o.dst s.sz=true) (hfl:fl=true) (hw:Bq (seenAt fl hid s all ms rs i o pu) all o=.yes) {c:Option Bool} {o1:List (Nat×Own S)} {n':Nat} {x:SV} (he:evalOp tb (BG s all ms rs i o) o.op=.nm c o1 n' x) (hp:CG c)
  (htk:Fm s.n hid ms i (A6 s.n rs) rs [] []=true):F6 fl hid P w0 F D0 s all ms rs ⟨i,o,false,o1,A6 s.n rs,n',x,[],[],true⟩:=by
 refine ⟨B1 hd,hfl,rfl,rfl,htk,fun j hj=>(by cases hj),fun D N β a w o2 hg hsub hN K Q' hK=>?_⟩
 have hg':G w0 F D0 D (BG s all ms rs i o) N β a w:=⟨hg.defers,hg.size,hg.GZ,hg.tmps,hg.gh.HG hsub⟩
 have hwg:Region.wanted o (yielded all a.tmps)=true:=by
  have hgp:=Gy (st:=seenAt fl hid s all ms rs i o true) rfl hg.size (fun t y hy=>by
   have hy':lk (BG s all ms rs i o).t t=some y:=hy
   obtain ⟨k1,k2⟩:=hg.GZ t y hy'
   exact ⟨by rw [hg.size];exact k1,k2,hg.tmps t y hy'⟩) default
  exact Ad hgp (show Bq (seenAt fl hid s all ms rs i o true) all o=.yes from hw)
 have hsound:=BS htb hg' o
 rw [he] at hsound
 obtain ⟨β',w',h1,h2,h3⟩:=hsound hp hN
 unfold wpOp
 simp only [ho,hwg,if_true]
 exact .inl (Al h1 (hK D β' w' h2.agree (by unfold Ec;exact hg.gh.extend h2) h3))
theorem Ya (hkp:Bx S w0 F D0) (ho:all[i]?=some o) (hd:EH o.dst s.sz=true) (hfl:fl=true) (hw:Bq (seenAt fl hid s all ms rs i o false) all o=.yes) {f:Nat} {args:List SV} (hcl:callee (seenAt fl hid s all ms rs i o false) o.op=some (f,args)) {c:Bw S} (hf:c.f=f) (hch:c.Holds P) {x:c.sp.D S} {ps:PS S} (hpa:c.sp.parse c.flat args (oC (B5 ms i) s.o rs) [] c.bn=some (x,ps))
  {y:c.rs.D S} (hy:c.out.gives x y) {rs':List SV} {o':List (Nat×Own S)} {n':Nat} (he:c.rs.enc y (HF c.bn c.rs)=(rs',o',n'))
  (hm:YD ps.m c.bn (oC (B5 ms i) s.o rs)=true) (hr:CD (A6 s.n rs) (A6 s.n rs+(n' -c.bn)) (Fs (A6 s.n rs) (Dj (Bb c.bn ps.m (A6 s.n rs)) o'))=true)
  {g:List (Nat×Own S)} (hgd:g=El (A6 s.n rs) (Dj (Bb c.bn ps.m (A6 s.n rs)) o'))
  (htk:Fm s.n hid ms i (A6 s.n rs) rs (Mc ps.o (oC (B5 ms i) s.o rs) g) (JU (oC (B5 ms i) s.o rs) g)=true):
  F6 fl hid P w0 F D0 s all ms rs ⟨i,o,false,Fs (A6 s.n rs) (Dj (Bb c.bn ps.m (A6 s.n rs)) o'),A6 s.n rs,A6 s.n rs+(n' -c.bn),As (CJ (Bb c.bn ps.m (A6 s.n rs)) rs'),Mc ps.o (oC (B5 ms i) s.o rs) g,JU (oC (B5 ms i) s.o rs) g,true⟩:=by
 subst hf
 refine ⟨B1 hd,hfl,rfl,rfl,htk,fun j hj=>Qk (ET.1 hj).1,fun D N β a w o2 hg hsub hN K Q' hK=>?_⟩
 have hwg:Region.wanted o (yielded all a.tmps)=true:=by
  have hgp:=Gy (st:=seenAt fl hid s all ms rs i o true) rfl hg.size (fun t y hy=>by
   have hy':lk (BG s all ms rs i o).t t=some y:=hy
   obtain ⟨k1,k2⟩:=hg.GZ t y hy'
   exact ⟨by rw [hg.size];exact k1,k2,hg.tmps t y hy'⟩) default
  exact Ad hgp (show Bq (seenAt fl hid s all ms rs i o true) all o=.yes from hw)
 unfold wpOp
 simp only [ho,hwg,if_true]
 refine .inl ?_
 unfold Oper.wp
 have hcl':callee (⟨(BG s all ms rs i o).t,o2,A6 s.n rs,s.sz⟩:St S) o.op=some (c.f,args):=(WA (s:=⟨(BG s all ms rs i o).t,o2,A6 s.n rs,s.sz⟩) (s':=seenAt fl hid s all ms rs i o false) rfl).trans hcl
 rw [Ge hg hcl' hch.Bm,Oper.upon_enter]
 refine (Us (n0:=A6 s.n rs) (cn:=HU ps.o (oC (B5 ms i) s.o rs)) hg.gh hsub hpa hch.bound hch.flat hm (hch.calls x y hy) (hg.gh.inv hkp) he (fun k h1 h2=>hN k h1 h2) (fun i b hi hn=>Md hn hi)).mono fun e w' ⟨D',β',he',hag,hgh,hon⟩=>?_
 subst he'
 refine hK D' β' w' hag (GH.HG hgh fun u b hu=>?_) hon
 rw [B4] at hu
 rw [Ml,KK]
 by_cases hk:Qq (oC (B5 ms i) s.o rs) g u=true
 ·obtain ⟨b',h1,h2⟩:=XW hk
  have h3:=hsub u b' h2
  have h4:=h1
  rw [hgd,H7] at h4
  by_cases hlt:u<A6 s.n rs
  ·rw [if_pos hlt] at h4
   have h5:lk (JU (oC (B5 ms i) s.o rs) g) u=none:=by unfold JU;rw [GK,if_pos hk]
   have h6:¬ u∈Mc ps.o (oC (B5 ms i) s.o rs) g:=fun h=>by rw [(ET.1 h).2] at hk;cases hk
   simp only [h5,H6,if_pos hlt,if_neg h6,Option.orElse_none,h3] at hu
   rw [h4]
   simpa using hu
  ·rw [if_neg hlt] at h4;cases h4
 ·have h5:lk (JU (oC (B5 ms i) s.o rs) g) u=lk g u:=by unfold JU;rw [GK,if_neg hk]
  have h6:(u∈Mc ps.o (oC (B5 ms i) s.o rs) g)=(u∈HU ps.o (oC (B5 ms i) s.o rs)):=by
   simp only [eq_iff_iff]
   exact ⟨fun h=>(ET.1 h).1,fun h=>ET.2 ⟨h,Bool.eq_false_iff.2 hk⟩⟩
  simp only [h5,h6,H6] at hu
  rw [hgd,H7] at hu
  by_cases hlt:u<A6 s.n rs
  ·rw [if_pos hlt,if_pos hlt] at hu
   simpa using hu
  ·rw [if_neg hlt,if_neg hlt] at hu
   simpa using hu
end
theorem Kn {tb:List (Nat×TI)} {ct:List (Bw S)} {fin:List (Rec S)->Tr ι ρ} {Goal:Prop} (hkp:Bx S w0 F D0) (htb:AW S P tb) (hct: ∀ c∈ct,c.Holds P) {pre:List (Nat×Bool)} (hfin: ∀ rs,rs.map Rec.key=pre->Good fl hid P w0 F D0 s all ms rs->(fin rs).Holds Kc Kr->Goal):
  ∀ (todo:List (Nat×Bool)) (rs:List (Rec S)),rs.map Rec.key++todo=pre->Good fl hid P w0 F D0 s all ms rs->(CQ fl hid tb ct s all ms fin todo rs).Holds Kc Kr->Goal
 | [],rs,hk,hg,h=>hfin rs (by simpa using hk) hg h
 | (i,pu)::t,rs,hk,hg,h=>by
  have hrange:CD (S:=S) (A6 s.n rs) (A6 s.n rs) []=true:=Nat.ble_eq_true_of_le (Nat.le_refl _)
  have ih: ∀ r:Rec S,r.key=(i,pu)->Good fl hid P w0 F D0 s all ms (rs++[r])->(CQ fl hid tb ct s all ms fin t (rs++[r])).Holds Kc Kr->Goal:=fun r hkey hg' h'=>
   Kn hkp htb hct hfin t (rs++[r]) (by rw [<-hk];simp [hkey]) hg' h'
  have ihR: ∀ r:Rec S,r.key=(i,pu)/\r.tk=false/\r.cn=[]/\r.gb=[]->all[r.i]?=some r.o->r.n1=A6 s.n rs->CD r.n1 r.n2 r.o1=true->DH fl hid P w0 F D0 s all ms rs r->(Ek all r fun r=>CQ fl hid tb ct s all ms fin t (rs++[r])).Holds Kc Kr->Goal:=fun r hkey ho hn hr hok h'=>by
   obtain ⟨r',h1,h2,h3⟩:=R4 hg ho hn hr hkey.2 hok h'
   exact ih r' (h1.trans hkey.1) h2 h3
  simp only [CQ,St.Fc] at h
  split at h
  case h_1=>exact h.elim
  rename_i o ho'
  have ho:all[i]?=some o:=by rw [F2] at ho';simpa using ho'
  split at h
  case h_1=>exact h.elim
  rename_i hd
  split at h
  ·rename_i hw
   exact ih ⟨i,o,pu,[],A6 s.n rs,A6 s.n rs,.v (.tuple #[]),[],[],false⟩ rfl (hg.add ho rfl hrange (.plain rfl rfl rfl (eJ ho hd hw))) h
  ·rename_i hw
   split at h
   ·rename_i e hz0
    obtain ⟨rfl,hb0⟩:=Vi hz0
    exact ihR ⟨i,o,false,[(A6 s.n rs,.AQ e [])],A6 s.n rs,A6 s.n rs+1,.view (A6 s.n rs) 0 0 0,[],[],false⟩ ⟨rfl,rfl,rfl,rfl⟩ ho rfl (HV _ _) (eH htb ho hd hw hb0) h
   ·rename_i j b c o1 n' v hz0
    obtain ⟨rfl,ha0⟩:=Vh hz0
    split at h
    case h_2=>exact h.elim
    rename_i hr
    obtain ⟨h1,h2⟩:=Bz h
    cases b with
    | true=>exact ihR ⟨i,o,false,[],A6 s.n rs,A6 s.n rs,.view j 0 0 0,[],[],false⟩ ⟨rfl,rfl,rfl,rfl⟩ ho rfl hrange (eF htb ho hd hw ha0 h1) (h2.1 rfl)
    | false=>exact ihR ⟨i,o,false,o1,A6 s.n rs,n',v,[],[],false⟩ ⟨rfl,rfl,rfl,rfl⟩ ho rfl hr (eG htb ho hd hw ha0 h1) (h2.2 rfl)
   rename_i hzn
   clear hzn
   split at h
   ·rename_i cn c ow hco
    obtain ⟨h1,h2⟩:=Bz h
    obtain ⟨rfl,hok⟩:=aV htb ho hd hw hco h1
    exact ih _ rfl (hg.add ho rfl (HV _ _) (.WO hok)) h2
   rename_i hzn
   clear hzn
   split at h
   ·rename_i j b hco
    obtain ⟨rfl,hok⟩:=aX htb ho hd hw hco
    exact ih _ rfl (hg.add ho rfl hrange (.WO hok)) h
   rename_i hzn
   clear hzn
   split at h
   ·rename_i f args hcl
    split at h
    ·exact h.elim
    ·rcases Eg h with ⟨c,hcm,x,ps,hf,hp,h⟩|h
     case inr=>
      split at h
      case h_1=>exact h.elim
      obtain ⟨c,hcm,x,ps,hf,hp,h⟩:=Ta h
      have hch:=hct c hcm
      have fin': ∀ y,c.out.gives x y->(Rc s.n hid ms rs (BG s all ms rs i o) i o c ps y fun r=>Ek all r fun r=>CQ true hid tb ct s all ms fin t (rs++[r])).Holds Kc Kr->Goal:=fun y hy h=>by
       unfold Rc at h
       split at h
       rename_i rs' o' n' he
       split at h
       case h_2=>exact h.elim
       rename_i hm hr htk
       have hok:=Ya hkp ho hd rfl hw hcl hf hch hp hy he hm hr rfl htk
       obtain ⟨r',h1,h2,h3⟩:=HJ (r:=⟨i,o,false,Fs (A6 s.n rs) (Dj (Bb c.bn ps.m (A6 s.n rs)) o'),A6 s.n rs,A6 s.n rs+(n' -c.bn),As (CJ (Bb c.bn ps.m (A6 s.n rs)) rs'),Mc ps.o (oC (B5 ms i) s.o rs) (El (A6 s.n rs) (Dj (Bb c.bn ps.m (A6 s.n rs)) o')),JU (oC (B5 ms i) s.o rs) (El (A6 s.n rs) (Dj (Bb c.bn ps.m (A6 s.n rs)) o')),true⟩) hg ho rfl hr hok h
       exact ih r' h1 h2 h3
      split at h
      ·rename_i g hout;exact fin' _ (by rw [hout];rfl) h
      ·rename_i p g hout;exact fin' _ (by rw [hout];exact ⟨h.1,rfl⟩) h.2
      ·rename_i m hout
       obtain ⟨y,h1,h2⟩:=h
       exact fin' y (by rw [hout];exact h1) h2
     have hch:=hct c hcm
     split at h
     case h_2=>exact h.elim
     rename_i hl hb0
     have hb0:=Nat.eq_of_beq_eq_true hb0
     have fin': ∀ y,c.out.gives x y->(recC (seenAt fl hid s all ms rs i o false) i o c ps y fun r=>Ek all r fun r=>CQ fl hid tb ct s all ms fin t (rs++[r])).Holds Kc Kr->Goal:=fun y hy h=>by
      unfold recC at h
      split at h
      rename_i rs' o' n' he
      split at h
      ·rename_i hr
       exact ihR ⟨i,o,false,Dj (Bb c.bn ps.m (A6 s.n rs)) o',A6 s.n rs,A6 s.n rs+(n' -c.bn),As (CJ (Bb c.bn ps.m (A6 s.n rs)) rs'),[],[],false⟩ ⟨rfl,rfl,rfl,rfl⟩ ho rfl hr (YW hkp ho hd hw hcl hf hch hp hl hb0 hy he) h
      ·exact h.elim
     split at h
     ·rename_i g hout;exact fin' _ (by rw [hout];rfl) h
     ·rename_i p g hout;exact fin' _ (by rw [hout];exact ⟨h.1,rfl⟩) h.2
     ·rename_i m hout
      obtain ⟨y,h1,h2⟩:=h
      exact fin' y (by rw [hout];exact h1) h2
   ·split at h
    ·rename_i c x he
     obtain ⟨h1,h2⟩:=Bz h
     exact ihR ⟨i,o,pu,[],A6 s.n rs,A6 s.n rs,x,[],[],false⟩ ⟨rfl,rfl,rfl,rfl⟩ ho rfl hrange (aY htb ho hd hw he h1) h2
    ·rename_i b he
     split at h
     ·exact h.elim
     ·exact ihR ⟨i,o,false,[(A6 s.n rs,b)],A6 s.n rs,A6 s.n rs+1,G4 b (A6 s.n rs),[],[],false⟩ ⟨rfl,rfl,rfl,rfl⟩ ho rfl (HV _ _) (aW htb ho hd hw he) h
    ·rename_i c o1 n' v he
     split at h
     case h_2=>exact h.elim
     rename_i hr _
     obtain ⟨h1,h2⟩:=Bz h
     exact ihR ⟨i,o,false,o1,A6 s.n rs,n',v,[],[],false⟩ ⟨rfl,rfl,rfl,rfl⟩ ho rfl hr (eI htb ho hd hw he h1) h2
    ·split at h
     ·unfold YS at h
      split at h
      case h_2=>exact h.elim
      rename_i T x lo hi hop
      split at h
      case h_2=>exact h.elim
      rename_i q hx
      split at h
      case h_2=>exact h.elim
      rename_i c o1 n' v he
      split at h
      case h_2=>exact h.elim
      rename_i hr
      obtain ⟨h1,h2⟩:=Bz h
      exact ihR ⟨i,o,true,o1,A6 s.n rs,n',v,[],[],false⟩ ⟨rfl,rfl,rfl,rfl⟩ ho rfl hr (eK htb ho hd hw hop hx he h1) h2
     ·split at h
      ·obtain ⟨h1,h2⟩:=Bz h
       obtain ⟨r',k1,k2,k3⟩:=HJ (r:=⟨i,o,false,[],A6 s.n rs,A6 s.n rs,_,[],[],true⟩) hg ho rfl hrange (YX htb ho hd rfl hw (by assumption) h1 (by assumption) rfl) h2
       exact ih r' k1 k2 k3
      ·split at h
       case h_2=>exact h.elim
       rename_i hr
       obtain ⟨h1,h2⟩:=Bz h
       obtain ⟨r',k1,k2,k3⟩:=HJ (r:=⟨i,o,false,_,A6 s.n rs,_,_,[],[],true⟩) hg ho rfl hr (VX htb ho hd rfl hw (by assumption) h1 (by assumption)) h2
       exact ih r' k1 k2 k3
      ·split at h
       case h_2=>exact h.elim
       revert h
       rename_i x hx _ _ _ _
       intro h
       obtain ⟨hok,hxe⟩:=YZ (w0:=w0) (F:=F) (D0:=D0) htb ho hd hw hx rfl
       rcases hxe with ⟨a,b,hxe⟩|⟨a,hxe⟩
       ·subst hxe
        rw [Ek,Rec.Fc] at h
        exact ih ⟨i,o,false,[],A6 s.n rs,A6 s.n rs,.ptr a b,[],[],true⟩ rfl (hg.add ho rfl hrange (.RY hok)) h
       ·subst hxe
        rw [Ek,Rec.Fc] at h
        exact ih ⟨i,o,false,[],A6 s.n rs,A6 s.n rs,.Bt a,[],[],true⟩ rfl (hg.add ho rfl hrange (.RY hok)) h
    ·exact h.elim
  ·exact h.elim
  ·exact h.elim
end
end Go.En
