/-
 A region that draws its order, by evaluation: what drawT finds is right (drawT_sound).
-/
import Derived.Test.YtpjlciengdhjoaaGreatDoorMd
namespace Go.En
open Go.RowKit
section
variable {S:As} {P:Program} {w0:World} {F D0:Nat->Prop} {s:St S} {all:Array Oper} {ms:List Nat} {fl:Bool} {hid:List Nat}
theorem SW: ∀ {fs:List (FC S.T)} {n:Nat} {oc:List (Nat×Own S)} {cs:List SV} {oc':List (Nat×Own S)} {n':Nat},Ch fs n oc=(cs,oc',n')-> ∀ a d,lk oc' a=some d->lk oc a=some d\/(∃ σ l,d=.sl σ l)\/d=.any:=by
 intro fs
 induction fs with
 | nil=>intro n oc cs oc' n' hu a d ha;simp only [Ch,bi] at hu;rw [<-hu.2.1] at ha;exact .inl ha
 | cons f r ih=>
  intro n oc cs oc' n' hu a d ha
  cases f with
  | sl σ l=>
   simp only [Ch,bi] at hu
   rw [<-hu.2.1] at ha
   rcases ih (n:=n+1) (oc:=(n,.sl σ l)::oc) rfl a d ha with h1|h1
   ·rw [AK] at h1
    split at h1
    ·cases h1;exact .inr (.inl ⟨_,_,rfl⟩)
    ·exact .inl h1
   ·exact .inr h1
  | ow σ E l=>
   simp only [Ch,bi] at hu
   rw [<-hu.2.1] at ha
   rcases ih (n:=n+1) (oc:=(n,.any)::oc) rfl a d ha with h1|h1
   ·rw [AK] at h1
    split at h1
    ·cases h1;exact .inr (.inr rfl)
    ·exact .inl h1
   ·exact .inr h1
  | _=>simp only [Ch,bi] at hu;rw [<-hu.2.1] at ha;exact ih rfl a d ha
def Wk (o:List (Nat×Own S)):Prop:= ∀ i b,lk o i=some b->(∃ σ l,b=.sl σ l)\/b=.any
theorem Fs: ∀ {qs:List C0} {x:PT S qs} {n:Nat} {oc:List (Nat×Own S)} {cs:List SV} {oc':List (Nat×Own S)} {n':Nat},Cm qs=true->CV qs x n oc=(cs,oc',n')->Wk oc->Wk oc'
 | [],x,n,oc,cs,oc',n',_,h,ho=>by simp only [CV,bi] at h;obtain ⟨_,rfl,_⟩:=h;exact ho
 | p::r,x,n,oc,cs,oc',n',hp,h,ho=>by
  simp only [CV] at h
  rcases hE:B3 p x.1 n oc with ⟨a,o1,n1⟩
  rw [hE] at h
  simp only at h
  rcases hE2:CV r x.2 n1 o1 with ⟨b,o2,n2⟩
  rw [hE2] at h
  simp only [bi] at h
  obtain ⟨_,rfl,_⟩:=h
  cases p with
  | fd f=>
   exact Fs (by simpa [Cm] using hp) hE2 fun i b hi=>by
    rcases SW hE i b hi with h1|h1
    ·exact ho i b h1
    ·exact h1
  | st τ=>
   exact Fs (by simpa [Cm] using hp) hE2 fun i b hi=>by
    rcases SW hE i b hi with h1|h1
    ·exact ho i b h1
    ·exact h1
  | own τ E=>simp [Cm] at hp
  | dp τ E=>simp [Cm] at hp
  | mp κ τ ag=>simp [Cm] at hp
  | mr κ τ ag E=>simp [Cm] at hp
  | rw i=>simp [Cm] at hp
  | rm i=>simp [Cm] at hp
  | ep i z off=>simp [Cm] at hp
  | al i off=>simp [Cm] at hp
  | np=>simp [Cm] at hp
  | hd=>simp [Cm] at hp
  | hm=>simp [Cm] at hp
  | fn f caps=>
   cases caps with
   | nil=>simp only [B3,bi] at hE;obtain ⟨_,rfl,_⟩:=hE;exact Fs (by simpa [Cm] using hp) hE2 ho
   | cons=>simp [Cm] at hp
theorem Vo {q:Spec} {x:q.D S} {n:Nat} {vs:List SV} {o':List (Nat×Own S)} {n':Nat} (hl:q.Rc=true) (h:q.enc x n=(vs,o',n')):Wk o':=by
 obtain ⟨as,bx⟩:=q
 unfold Spec.Rc at hl
 cases bx with
 | cons=>simp at hl
 | nil=>
  unfold Spec.enc at h
  rcases hE:CV as x.1 n [] with ⟨a,o1,n1⟩
  rw [hE] at h
  simp only [Ep,bi] at h
  obtain ⟨_,rfl,_⟩:=h
  exact Fs hl hE fun i b hi=>by simp [AW] at hi
theorem WN {m:List (Nat×Nat)} {n i:Nat}:Bv 0 m n i=n+i:=by
 unfold Bv
 have:Nat.ble (i+1) 0=false:=by
  cases hb:Nat.ble (i+1) 0
  ·rfl
  ·exact absurd (dk hb) (by omega)
 rw [this];simp
theorem XF {D:Nat->Prop} {o:List (Nat×Own S)} {N:Nat->Prop} {β:Nat->Nm} {w:World} {n:Nat} {c:BU S} {x:c.sp.D S} {ps:PS S} {args:List SV} (hg:GH w0 F D0 D o N β w) (h:c.sp.parse c.flat args o [] c.bn=some (x,ps)) (hc:c.sp.okB c.bn=true) (hflat:c.flat=true->c.rs.plain S=true)
  (hl:c.sp.Rc=true) (hb0:c.bn=0) {y:c.rs.D S} {f:Nat} (hcall: ∀ w D β vs o n,c.sp.enc x c.bn=(vs,o,n)->GH w (AL o β) D D o (· <n) β w->BZ (· <n) vs->c.bn<=n->S.inv D w->Calls P f (AD β vs).toArray w (Ds c y w D β o)) (hiv:S.inv D w)
  {rs':List SV} {o':List (Nat×Own S)} {n':Nat} (he:c.rs.enc y (Hg c.bn c.rs)=(rs',o',n')) (hfr: ∀ j,n<=j->j<n+(n' -c.bn)->¬ N j):
  Calls P f (AD β args).toArray w fun e w'=> ∃ D' β',e=.returned ((Ay (Cf (Bv c.bn ps.m n) rs')).den β')/\CG D D' N n (n+(n' -c.bn)) (Dr (Bv c.bn ps.m n) o') β β' w w'/\(Ay (Cf (Bv c.bn ps.m n) rs')).on (more N n (n+(n' -c.bn))):=by
 rcases hE:c.sp.enc x c.bn with ⟨vs,o1,n1⟩
 obtain ⟨β1,hbox,hgh1,hden,hon1,hbn1,hcross,hsub,_,hbl⟩:=Spec.CO hg h hc hE
 have hsl:=Vo hl hE
 have hno: ∀ k,¬ AL o1 β1 k:=fun k ⟨i,b,hi,hik⟩=>by
  rcases hsl i b hi with ⟨σ,l,rfl⟩|rfl
  ·exact (hgh1.own i _ hi).1.no k hik
  ·exact Nm.dH.no (hgh1.own i _ hi) k hik
 rw [hden]
 refine (hcall w (FW D β ps.bl) β1 vs o1 n1 hE ⟨hgh1.By,hgh1.own,hgh1.inj,fun i b k hi hk=>.inr ⟨i,b,hi,hk⟩,hgh1.off,hgh1.lt,hgh1.DL,fun k hk=>.inl hk,OX.refl _ _,fun _ h=>h⟩ hon1 hbn1 (S.FZ hiv (fun _ _=>rfl) fun k hk=>.inl hk)).mono fun e w' ⟨D',β2,rs2,o2,n2,he2,hret,hb',hgh2,honr,hn2⟩=>?_
 rw [he] at he2
 simp only [bi] at he2
 obtain ⟨rfl,rfl,rfl⟩:=he2
 have hbelow:Below w.heap.size w w':=⟨hgh2.fr.os,hgh2.fr.tape,hgh2.fr.output,hgh2.fr.size,fun k hk=>hgh2.fr.block k hk (hno k)⟩
 rw [hb0] at hfr
 rw [hb0]
 simp only [Nat.sub_zero] at hfr ⊢
 let r:=Bv 0 ps.m n
 have hr0: ∀ i,r i=n+i:=fun i=>WN
 let D2:Nat->Prop:=fun k=>(D' k\/D k)/\¬ ∃ i∈ps.bl,(β i).has k
 have hDD2: ∀ k,D k->D2 k:=fun k hk=>⟨.inr hk,fun ⟨i,hi,hik⟩=>by
  obtain ⟨c',hc'⟩:=hbl i hi
  exact hg.off i c' k (hsub i c' hc') hik hk⟩
 let βn:Nat->Nm:=fun i=>if n<=i/\i<n+n' then β2 (i -n) else β i
 have hβn: ∀ i,N i->β i=βn i:=fun i hi=>by
  simp only [βn];rw [if_neg fun h=>hfr i h.1 h.2 hi]
 have hr: ∀ i,i<n'->βn (r i)=β2 i:=fun i hi=>by
  simp only [hr0,βn]
  rw [if_pos (by omega)]
  congr 1;omega
 have hrN: ∀ i,i<n'->more N n (n+n') (r i):=fun i hi=>.inr (by rw [hr0];omega)
 have hfree:ps.bl=[]\/C5 o':=by
  cases hfl:c.flat with
  | true=>exact .inr (Spec.M4 (hflat hfl) he)
  | false=>rw [hfl] at h;exact .inl (Spec.Jb h)
 have hinj: ∀ i j,r i=r j->i=j:=fun i j h=>by rw [hr0,hr0] at h;omega
 have hold: ∀ j c' k,lk o' j=some c'->(β2 j).has k->w.heap.size<=k:=fun j c' k hj hk=>(hgh2.fresh j c' k hj hk).elim id fun h=>(hno k h).elim
 refine ⟨D2,βn,?_,⟨hβn,hbelow,Nat.le_add_right _ _,fun i b hi=>?_,fun i b hi=>?_,fun i b k hi hk=>?_,fun i j b c' k hi hj hk hl=>?_,hDD2,fun k hk=>?_,fun i b k hi hk hD=>?_,fun i b k hi hk=>?_⟩,?_⟩
 ·rw [hret]
  congr 1
  have hd:=De (β:=βn) (β':=β2) (r:=r) (N:=(· <n')) hr rs' honr
  cases hrs:rs' with
  | nil=>simp [Ay,Cf,SV.den,AD]
  | cons a t=>
   cases t with
   | nil=>rw [hrs] at hd;simp only [Cf,AD,List.cons.injEq,and_true] at hd;simp only [Ay,Cf];exact hd.symm
   | cons b t=>rw [hrs] at hd;simp only [Ay,Cf,SV.den];simp only [Cf] at hd;rw [hd]
 ·obtain ⟨j,c',hj,hji,rfl⟩:=Ek i b hi
  obtain ⟨h1,h2⟩:=hgh2.By j c' hj
  exact ⟨by rw [<-hji,show Bv 0 ps.m n j=n+j from hr0 j];omega,Own.N1 hrN h2⟩
 ·obtain ⟨j,c',hj,hji,rfl⟩:=Ek i b hi
  obtain ⟨h1,h2⟩:=hgh2.By j c' hj
  rw [<-hji,hr j h1]
  refine Own.Kp (N:=(· <n')) hr h2 ?_
  have h3:=hgh2.own j c' hj
  rcases hfree with hf|hf
  ·exact Own.CB h3 fun k hk=>⟨.inl hk,fun ⟨i,hi,_⟩=>by rw [hf] at hi;simp at hi⟩
  ·exact Own.NG (hf j c' hj) h3
 ·obtain ⟨j,c',hj,hji,rfl⟩:=Ek i b hi
  rw [<-hji,hr j (hgh2.By j c' hj).1] at hk
  exact hold j c' k hj hk
 ·obtain ⟨i',c1,hi1,e1,_⟩:=Ek i b hi
  obtain ⟨j',c2,hj1,e2,_⟩:=Ek j c' hj
  rw [<-e1,hr i' (hgh2.By i' c1 hi1).1] at hk
  rw [<-e2,hr j' (hgh2.By j' c2 hj1).1] at hl
  rw [<-e1,<- e2,hgh2.inj i' j' c1 c2 k hi1 hj1 hk hl]
 ·rcases hk.1 with h1|h1
  ·rcases hgh2.KZ k h1 with h2|h2|h2
   ·rcases h2 with h2|h2
    ·exact .inl h2
    ·exact absurd h2 hk.2
   ·exact (hno k h2).elim
   ·exact .inr ⟨h2,hgh2.DL k h1⟩
  ·exact .inl h1
 ·obtain ⟨j,c',hj,hji,rfl⟩:=Ek i b hi
  rw [<-hji,hr j (hgh2.By j c' hj).1] at hk
  rcases hD.1 with h1|h1
  ·exact (hgh2.off j c' k hj hk h1).elim
  ·exact h1
 ·obtain ⟨j,c',hj,hji,rfl⟩:=Ek i b hi
  rw [<-hji,hr j (hgh2.By j c' hj).1] at hk
  exact hgh2.lt j c' k hj hk
 ·have ho:=Fy (N:=(· <n')) (N':=more N n (n+n')) hrN honr
  cases hrs:rs' with
  | nil=>simp [Ay,Cf,SV.on,BZ]
  | cons a t=>
   cases t with
   | nil=>rw [hrs] at ho;exact ho.1
   | cons b t=>rw [hrs] at ho;exact ho
theorem TL {s s':St S} (h:s.t=s'.t) (x:Operand):ev s x=ev s' x:=by cases x<;>simp only [ev,h]
theorem Uf {s s':St S} (h:s.t=s'.t): ∀ l:List Operand,Ht s l=Ht s' l
 | []=>rfl
 | x::r=>by simp only [Ht,TL h x,Uf h r]
theorem XH {s s':St S} (h:s.t=s'.t) {op:Op}:callee s op=callee s' op:=by
 unfold callee
 split
 ·rename_i f args ts
  rw [TL h f]
  simp only [Uf h args]
 ·rfl
theorem bS {m:List (Nat×Nat)} {bn:Nat} {o:List (Nat×Own S)} (h:Yz m bn o=true): ∀ i,i<bn-> ∃ j,lk m i=some j/\ ∃ b,lk o j=some b:=by
 unfold Yz at h
 split at h
 case h_2=>cases h
 rename_i l hl
 have key: ∀ (n:Nat) (l:List Nat),OR m n=some l->Nr (nX o) l=true-> ∀ i,i<n-> ∃ j,lk m i=some j/\ ∃ b,lk o j=some b:=by
  intro n
  induction n with
  | zero=>intro l _ _ i hi;omega
  | succ n ih=>
   intro l hv hb i hi
   simp only [OR] at hv
   split at hv
   case h_2=>cases hv
   rename_i j hj
   split at hv
   case h_2=>cases hv
   rename_i l' hl'
   cases hv
   simp only [Nr] at hb
   split at hb
   case h_2=>cases hb
   rename_i hjo
   by_cases he:i=n
   ·subst he
    refine ⟨j,hj,?_⟩
    unfold nX at hjo
    split at hjo
    ·rename_i b hb';exact ⟨b,hb'⟩
    ·cases hjo
   ·exact ih l' hl' hb i (by omega)
 exact key bn l hl h
theorem Ko {o':List (Nat×Own S)} {j:Nat}: ∀ {l:List (Nat×Own S)},j∈Hy o' l->(∃ b,lk l j=some b)
 | [],h=>by simp [Hy] at h
 | (i,b)::r,h=>by
  simp only [Hy] at h
  rw [AK]
  by_cases he:i=j
  ·exact ⟨b,if_pos he⟩
  ·rw [if_neg he]
   split at h
   ·exact Ko h
   ·rcases List.mem_cons.1 h with h|h
    ·exact absurd h.symm he
    ·exact Ko h
theorem RN {o o':List (Nat×Own S)} {j:Nat} (h:j∈Hy o' o): ∃ b,lk o j=some b:=Ko h
theorem NK {o':List (Nat×Own S)} {j:Nat} {b:Own S} (hn:lk o' j=none): ∀ {l:List (Nat×Own S)},lk l j=some b->j∈Hy o' l
 | [],h=>by simp [AW] at h
 | (i,c)::r,h=>by
  rw [AK] at h
  simp only [Hy]
  split at h
  ·rename_i he
   subst he
   rw [hn]
   simp
  ·split
   ·exact NK hn h
   ·exact mt _ (NK hn h)
theorem Lz {u n:Nat}:Nat.ble (u+1) n=true↔u<n:=by rw [Nat.ble_eq];omega
theorem Ie {n u:Nat}: ∀ {l:List (Nat×Own S)},lk (E4 n l) u=if u<n then lk l u else none
 | []=>by simp [E4,AW]
 | (i,b)::r=>by
  simp only [E4]
  split
  ·rename_i hi
   have hi:=Lz.1 hi
   rw [AK,AK,Ie (l:=r)]
   by_cases he:i=u
   ·subst he;simp [hi]
   ·simp [he]
  ·rename_i hi
   have hi:¬ i<n:=fun h=>by rw [Lz.2 h] at hi;cases hi
   rw [AK,Ie (l:=r)]
   by_cases he:i=u
   ·subst he;simp [hi]
   ·simp [he]
theorem PK: ∀ {a b:List SV},Qk a b=true->a=b
 | [],[],_=>rfl
 | .ptr i k::r,.ptr i' k'::r',h=>by
  simp only [Qk] at h
  split at h
  ·rename_i h1 h2
   rw [ac h1,ac h2,PK h]
  ·cases h
theorem Zp {a b:Own S} (h:Zn a b=true):a=b:=by
 unfold Zn at h
 split at h
 case h_2=>cases h
 split at h
 case h_2=>cases h
 rename_i h1
 rw [ac h1,PK h]
theorem YH {o g:List (Nat×Own S)} {u:Nat} (h:RS o g u=true): ∃ b,lk g u=some b/\lk o u=some b:=by
 unfold RS at h
 split at h
 ·rename_i b b' h1 h2
  exact ⟨b,h1,by rw [Zp h];exact h2⟩
 ·cases h
theorem Eg {f:Nat->Bool} {u:Nat}: ∀ {l:List Nat},u∈Ki f l↔u∈l/\f u=false
 | []=>by simp [Ki]
 | i::r=>by
  simp only [Ki]
  split
  ·rename_i hf
   rw [Eg (l:=r),List.mem_cons]
   refine ⟨fun ⟨h1,h2⟩=>⟨.inr h1,h2⟩,fun ⟨h1,h2⟩=>⟨?_,h2⟩⟩
   rcases h1 with rfl|h1
   ·rw [hf] at h2;cases h2
   ·exact h1
  ·rename_i hf
   rw [List.mem_cons,List.mem_cons,Eg (l:=r)]
   refine ⟨fun h=>?_,fun ⟨h1,h2⟩=>?_⟩
   ·rcases h with rfl|⟨h1,h2⟩
    ·exact ⟨.inl rfl,hf⟩
    ·exact ⟨.inr h1,h2⟩
   ·rcases h1 with rfl|h1
    ·exact .inl rfl
    ·exact .inr ⟨h1,h2⟩
theorem Ic {n u:Nat}: ∀ {l:List (Nat×Own S)},lk (F6 n l) u=if u<n then none else lk l u
 | []=>by simp [F6,AW]
 | (i,b)::r=>by
  simp only [F6]
  split
  ·rename_i hi
   have hi:=Lz.1 hi
   rw [AK,Ic (l:=r)]
   by_cases he:i=u
   ·subst he;simp [hi]
   ·simp [he]
  ·rename_i hi
   have hi:¬ i<n:=fun h=>by rw [Lz.2 h] at hi;cases hi
   rw [AK,AK,Ic (l:=r)]
   by_cases he:i=u
   ·subst he;simp [hi]
   ·simp [he]
theorem Wy {tb:List (Nat×TI)} {st:St S} {T j m n':Nat} {x y:Operand} (hxj:ev st x=some (.tr j)) {c0:Option Bool} {ow:Own S} {o':List (Nat×Own S)} {v:SV} (h:Q0 tb st T x y=.x c0 ((m,ow)::o') n' v): ∃ b,lk st.o j=some b:=by
 unfold Q0 at h
 split at h
 case h_2=>cases h
 split at h
 case h_2=>cases h
 split at h
 case h_2=>cases h
 split at h
 case h_2=>cases h
 rename_i xv yv hz hx hy
 split at h
 case h_2=>cases h
 rename_i d l hb
 rw [hxj] at hx
 cases hx
 unfold Ou at hb
 simp only at hb
 split at hb
 case h_2=>cases hb
 rename_i hj
 exact ⟨_,hj⟩
theorem Vi {w0:World} {F D0 D:Nat->Prop} {o o2:List (Nat×Own S)} {N:Nat->Prop} {n0:Nat} {cn:List Nat} {β:Nat->Nm} {w:World} {c:BU S} {x:c.sp.D S} {ps:PS S} {args:List SV} (hg2:GH w0 F D0 D o2 N β w) (hsub2:Sub o o2) (h:c.sp.parse c.flat args o [] c.bn=some (x,ps)) (hc:c.sp.okB c.bn=true) (hflat:c.flat=true->c.rs.plain S=true)
  (hm:Yz ps.m c.bn o=true) {y:c.rs.D S} {P:Program} {f:Nat} (hcall: ∀ w D β vs o n,c.sp.enc x c.bn=(vs,o,n)->GH w (AL o β) D D o (· <n) β w->BZ (· <n) vs->c.bn<=n->S.inv D w->Calls P f (AD β vs).toArray w (Ds c y w D β o)) (hiv:S.inv D w)
  {rs':List SV} {o':List (Nat×Own S)} {n':Nat} (he:c.rs.enc y (Hg c.bn c.rs)=(rs',o',n')) (hfr: ∀ k,n0<=k->k<n0+(n' -c.bn)->¬ N k) (hcn: ∀ i b,lk o i=some b->lk ps.o i=none->i∈cn):
  Calls P f (AD β args).toArray w fun e w'=> ∃ D' β',e=.returned ((Ay (Cf (Bv c.bn ps.m n0) rs')).den β')/\(∀ i,N i->β i=β' i)/\GH w0 F D0 D' (Dr (Bv c.bn ps.m n0) o'++Se cn o2) (more N n0 (n0+(n' -c.bn))) β' w'/\(Ay (Cf (Bv c.bn ps.m n0) rs')).on (more N n0 (n0+(n' -c.bn))):=by
 rcases hE:c.sp.enc x c.bn with ⟨vs,o1,n1⟩
 have hg:GH w0 F D0 D o N β w:=hg2.Hh hsub2
 have hgl:GH w (AL o β) D D o N β w:=⟨hg.By,hg.own,hg.inj,fun i b k hi hk=>.inr ⟨i,b,hi,hk⟩,hg.off,hg.lt,hg.DL,fun k hk=>.inl hk,OX.refl _ _,fun _ h=>h⟩
 obtain ⟨β1,hbox,hgh1,hden,hon1,hbn1,hcross,hsub,_,hbl⟩:=Spec.CO hgl h hc hE
 have hcomes: ∀ j d k,lk o1 j=some d->(β1 j).has k->AL o β k:=fun j d k hj hk=>(hgh1.fresh j d k hj hk).elim (fun h=>absurd (hgh1.lt j d k hj hk) (by omega)) id
 have hsubR: ∀ i b,lk (Se cn o2) i=some b->lk o2 i=some b:=fun i b h=>by
  rw [Kw] at h
  split at h
  ·cases h
  ·exact h
 have hinR: ∀ i b,lk (Se cn o2) i=some b->(∃ b',lk o i=some b')->lk ps.o i=some b:=fun i b h ⟨b',hb'⟩=>by
  rw [Kw] at h
  split at h
  ·cases h
  ·rename_i hni
   have e1:=hsub2 i b' hb'
   rw [h] at e1
   cases e1
   cases h5:lk ps.o i with
   | none=>exact absurd (hcn i _ hb' h5) hni
   | some d=>rw [hsub i d h5] at hb';cases hb';rfl
 have hmok:=bS hm
 rw [hden]
 refine (hcall w (FW D β ps.bl) β1 vs o1 n1 hE ⟨hgh1.By,hgh1.own,hgh1.inj,fun i b k hi hk=>.inr ⟨i,b,hi,hk⟩,hgh1.off,hgh1.lt,hgh1.DL,fun k hk=>.inl hk,OX.refl _ _,fun _ h=>h⟩ hon1 hbn1 (S.FZ hiv (fun _ _=>rfl) fun k hk=>.inl hk)).mono fun e w' ⟨D',β',rs2,o2,n2,he2,hret,hb',hgh2,honr,hn2⟩=>?_
 rw [he] at he2
 simp only [bi] at he2
 obtain ⟨rfl,rfl,rfl⟩:=he2
 -- blocks of what is lent and of what stays are as they were
 have hkeepD: ∀ k,FW D β ps.bl k->w'.heap[k]?=w.heap[k]?:=fun k hk=>hgh2.fr.block k (hgh1.DL k hk) fun ⟨i,b,hi,hik⟩=>hgh1.off i b k hi hik hk
 have hoff: ∀ i c' k,lk (Se cn o2) i=some c'->(β i).has k->¬ AL o1 β1 k:=fun i c' k hi hk ⟨j,d,hj,hjk⟩=>by
  cases hio:lk o i with
  | none=>
   obtain ⟨i',b',hi',hk'⟩:=hcomes j d k hj hjk
   have:=hg2.inj i i' c' b' k (hsubR i c' hi) (hsub2 i' b' hi') hk hk'
   subst this
   rw [hio] at hi';cases hi'
  | some b'=>
  have hi:=hinR i c' hi ⟨b',hio⟩
  by_cases hib:i∈ps.bl
  ·exact hgh1.off j d k hj hjk (.inr ⟨i,hib,hk⟩)
  ·exact hcross i c' j d k hi hib hj hk hjk
 have hkeepR: ∀ i c' k,lk (Se cn o2) i=some c'->(β i).has k->w'.heap[k]?=w.heap[k]?:=fun i c' k hi hk=>
  hgh2.fr.block k (hg2.lt i c' k (hsubR i c' hi) hk) (hoff i c' k hi hk)
 let D2:Nat->Prop:=fun k=>(D' k\/D k)/\¬ ∃ i∈ps.bl,(β i).has k
 have hDlent: ∀ k,D k->FW D β ps.bl k:=fun k hk=>.inl hk
 have hDD2: ∀ k,D k->D2 k:=fun k hk=>⟨.inr hk,fun ⟨i,hi,hik⟩=>by
  obtain ⟨c',hc'⟩:=hbl i hi
  exact hg.off i c' k (hsub i c' hc') hik hk⟩
 let r:=Bv c.bn ps.m n0
 let βn:Nat->Nm:=fun i=>if n0<=i/\i<n0+(n' -c.bn) then β' (i -n0+c.bn) else β i
 have hβn: ∀ i,N i->β i=βn i:=fun i hi=>by simp only [βn];rw [if_neg fun h=>hfr i h.1 h.2 hi]
 have hr: ∀ i,i<n'->βn (r i)=β' i:=fun i hi=>by
  by_cases hib:i<c.bn
  ·obtain ⟨j,hj,b',hjo⟩:=hmok i hib
   have hjN:N j:=(hg.By j b' hjo).1
   have e1:r i=j:=by simp only [r,Bv];rw [show Nat.ble (i+1) c.bn=true from Nat.ble_eq_true_of_le hib];simp only [hj]
   rw [e1,<- hβn j hjN,hb' i hib,hbox i hib j hj]
  ·have e1:r i=n0+(i -c.bn):=by
    simp only [r,Bv]
    have:Nat.ble (i+1) c.bn=false:=by
     cases hb:Nat.ble (i+1) c.bn
     ·rfl
     ·exact absurd (dk hb) hib
    rw [this]
   simp only [e1,βn]
   rw [if_pos (by omega)]
   congr 1;omega
 have hrN: ∀ i,i<n'->more N n0 (n0+(n' -c.bn)) (r i):=fun i hi=>by
  by_cases hib:i<c.bn
  ·obtain ⟨j,hj,b',hjo⟩:=hmok i hib
   have hjN:N j:=(hg.By j b' hjo).1
   have e1:r i=j:=by simp only [r,Bv];rw [show Nat.ble (i+1) c.bn=true from Nat.ble_eq_true_of_le hib];simp only [hj]
   rw [e1];exact .inl hjN
  ·have e1:r i=n0+(i -c.bn):=by
    simp only [r,Bv]
    have:Nat.ble (i+1) c.bn=false:=by
     cases hb:Nat.ble (i+1) c.bn
     ·rfl
     ·exact absurd (dk hb) hib
    rw [this]
   exact .inr (by omega)
 have hcase: ∀ i b,lk (Dr r o'++Se cn o2) i=some b->(∃ j c',lk o' j=some c'/\r j=i/\b=c'.Je r)\/lk (Se cn o2) i=some b:=fun i b h=>by
  rw [NU] at h
  cases h1:lk (Dr r o') i with
  | none=>rw [h1] at h;exact .inr (by simpa using h)
  | some c'=>rw [h1] at h;simp at h;subst h;exact .inl (Ek i _ h1)
 have hRN: ∀ i b,lk (Se cn o2) i=some b->N i:=fun i b hi=>(hg2.By i b (hsubR i b hi)).1
 have hfree:ps.bl=[]\/C5 o':=by
  cases hfl:c.flat with
  | true=>exact .inr (Spec.M4 (hflat hfl) he)
  | false=>rw [hfl] at h;exact .inl (Spec.Jb h)
 have hold: ∀ j c' k,lk o' j=some c'->(β' j).has k->AL o1 β1 k\/w.heap.size<=k:=fun j c' k hj hk=>(hgh2.fresh j c' k hj hk).symm
 have hsep: ∀ i b j c' k,lk (Se cn o2) i=some b->lk o' j=some c'->(β i).has k->(β' j).has k->False:=fun i b j c' k hi hj hk hjk=>by
  rcases hold j c' k hj hjk with h1|h1
  ·exact hoff i b k hi hk h1
  ·have:=hg2.lt i b k (hsubR i b hi) hk;omega
 have hfr1: ∀ k,AL o1 β1 k->w0.heap.size<=k\/F k:=fun k ⟨i,b,hi,hik⟩=>let ⟨i',b',hi',hk'⟩:=hcomes i b k hi hik;hg.fresh i' b' k hi' hk'
 refine ⟨D2,βn,?_,hβn,⟨fun i b hi=>?_,fun i b hi=>?_,fun i j b b' k hi hj hk hl=>?_,fun i b k hi hk=>?_,fun i b k hi hk hD=>?_,fun i b k hi hk=>?_,fun k hk=>?_,fun k hk=>?_,?_,fun k hk=>hDD2 k (hg.sub k hk)⟩,?_⟩
 ·rw [hret]
  congr 1
  have hd:=De (β:=βn) (β':=β') (r:=r) (N:=(· <n')) hr rs' honr
  cases hrs:rs' with
  | nil=>simp [Ay,Cf,SV.den,AD]
  | cons a t=>
   cases t with
   | nil=>rw [hrs] at hd;simp only [Cf,AD,List.cons.injEq,and_true] at hd;simp only [Ay,Cf];exact hd.symm
   | cons b t=>rw [hrs] at hd;simp only [Ay,Cf,SV.den];simp only [Cf] at hd;rw [hd]
 ·rcases hcase i b hi with ⟨j,c',hj,hji,rfl⟩|hi
  ·obtain ⟨h1,h2⟩:=hgh2.By j c' hj
   exact ⟨by rw [<-hji];exact hrN j h1,Own.N1 hrN h2⟩
  ·exact ⟨.inl (hRN i b hi),Own.Ao (fun _ h=>.inl h) (hg2.By i b (hsubR i b hi)).2⟩
 ·rcases hcase i b hi with ⟨j,c',hj,hji,rfl⟩|hi
  ·obtain ⟨h1,h2⟩:=hgh2.By j c' hj
   rw [<-hji,hr j h1]
   refine Own.Kp (N:=(· <n')) hr h2 ?_
   have h3:=hgh2.own j c' hj
   rcases hfree with hf|hf
   ·exact Own.CB h3 fun k hk=>⟨.inl hk,fun ⟨i,hi,_⟩=>by rw [hf] at hi;simp at hi⟩
   ·exact Own.NG (hf j c' hj) h3
  ·rw [<-hβn i (hRN i b hi)]
   have h3:=hg2.own i b (hsubR i b hi)
   exact Own.CB (Own.Dm (Own.Du hβn (hg2.By i b (hsubR i b hi)).2 h3) (fun k hk=>hkeepR i b k hi hk) fun k hk=>hkeepD k (.inl hk)) hDD2
 ·rcases hcase i b hi with ⟨i',c1,hi1,e1,_⟩|hi<;>rcases hcase j b' hj with ⟨j',c2,hj1,e2,_⟩|hj
  ·rw [<-e1,hr i' (hgh2.By i' c1 hi1).1] at hk
   rw [<-e2,hr j' (hgh2.By j' c2 hj1).1] at hl
   rw [<-e1,<- e2,hgh2.inj i' j' c1 c2 k hi1 hj1 hk hl]
  ·rw [<-e1,hr i' (hgh2.By i' c1 hi1).1] at hk
   rw [<-hβn j (hRN j b' hj)] at hl
   exact (hsep j b' i' c1 k hj hi1 hl hk).elim
  ·rw [<-hβn i (hRN i b hi)] at hk
   rw [<-e2,hr j' (hgh2.By j' c2 hj1).1] at hl
   exact (hsep i b j' c2 k hi hj1 hk hl).elim
  ·rw [<-hβn i (hRN i b hi)] at hk;rw [<-hβn j (hRN j b' hj)] at hl
   exact hg2.inj i j b b' k (hsubR i b hi) (hsubR j b' hj) hk hl
 ·rcases hcase i b hi with ⟨j,c',hj,hji,_⟩|hi
  ·rw [<-hji,hr j (hgh2.By j c' hj).1] at hk
   rcases hold j c' k hj hk with h1|h1
   ·exact hfr1 k h1
   ·exact .inl (Nat.le_trans hg.fr.size h1)
  ·rw [<-hβn i (hRN i b hi)] at hk
   exact hg2.fresh i b k (hsubR i b hi) hk
 ·rcases hcase i b hi with ⟨j,c',hj,hji,_⟩|hi
  ·rw [<-hji,hr j (hgh2.By j c' hj).1] at hk
   rcases hD.1 with h1|h1
   ·exact hgh2.off j c' k hj hk h1
   ·rcases hold j c' k hj hk with ⟨l,d,hl,hlk⟩|h2
    ·exact hgh1.off l d k hl hlk (.inl h1)
    ·have:=hg.DL k h1;omega
  ·rw [<-hβn i (hRN i b hi)] at hk
   have hio:=hsubR i b hi
   rcases hD.1 with hD1|hD1
   case inr=>exact hg2.off i b k hio hk hD1
   rcases hgh2.KZ k hD1 with h1|h1|h1
   ·rcases h1 with h1|h1
    ·exact hg2.off i b k hio hk h1
    ·exact hD.2 h1
   ·exact hoff i b k hi hk h1
   ·have:=hg2.lt i b k hio hk;omega
 ·rcases hcase i b hi with ⟨j,c',hj,hji,_⟩|hi
  ·rw [<-hji,hr j (hgh2.By j c' hj).1] at hk
   exact hgh2.lt j c' k hj hk
  ·rw [<-hβn i (hRN i b hi)] at hk
   exact dg (hg2.lt i b k (hsubR i b hi) hk) hgh2.fr.size
 ·rcases hk.1 with h1|h1
  ·exact hgh2.DL k h1
  ·exact dg (hg.DL k h1) hgh2.fr.size
 ·rcases hk.1 with hk1|hk1
  case inr=>exact hg.KZ k hk1
  rcases hgh2.KZ k hk1 with h1|h1|h1
  ·rcases h1 with h1|h1
   ·exact hg.KZ k h1
   ·exact absurd h1 hk.2
  ·rcases hfr1 k h1 with h2|h2
   ·exact .inr (.inr h2)
   ·exact .inr (.inl h2)
  ·exact .inr (.inr (Nat.le_trans hg.fr.size h1))
 ·refine ⟨hgh2.fr.os.trans hg.fr.os,hgh2.fr.tape.trans hg.fr.tape,hgh2.fr.output.trans hg.fr.output,Nat.le_trans hg.fr.size hgh2.fr.size,fun k hk hF=>?_⟩
  refine (hgh2.fr.block k (dg hk hg.fr.size) fun hb=>?_).trans (hg.fr.block k hk hF)
  rcases hfr1 k hb with h1|h1
  ·omega
  ·exact hF h1
 ·have ho:=Fy (N:=(· <n')) (N':=more N n0 (n0+(n' -c.bn))) hrN honr
  cases hrs:rs' with
  | nil=>simp [Ay,Cf,SV.on,BZ]
  | cons a t=>
   cases t with
   | nil=>rw [hrs] at ho;exact ho.1
   | cons b t=>rw [hrs] at ho;exact ho
theorem NP {n1 n2:Nat}: ∀ {l:List (Nat×Own S)},Cb n1 n2 l=true->n1<=n2/\ ∀ i b,lk l i=some b->n1<=i/\i<n2
 | [],h=>⟨dk h,fun i b hi=>by simp [AW] at hi⟩
 | (j,c)::r,h=>by
  simp only [Cb] at h
  split at h
  case h_2=>cases h
  rename_i h1 h2
  obtain ⟨h3,h4⟩:=NP h
  have h1:=dk h1
  have h2:=dk h2
  refine ⟨h3,fun i b hi=>?_⟩
  rw [AK] at hi
  split at hi
  ·rename_i he;subst he;exact ⟨h1,h2⟩
  ·exact h4 i b hi
theorem Hz (n:Nat) (b:Own S):Cb n (n+1) [(n,b)]=true:=by
 simp only [Cb,Nat.ble_eq_true_of_le (Nat.le_refl n),Nat.ble_eq_true_of_le (Nat.le_refl (n+1)),Nat.ble_eq_true_of_le (Nat.le_succ n)]
structure Good (fl:Bool) (hid:List Nat) (P:Program) (w0:World) (F D0:Nat->Prop) (s:St S) (all:Array Oper) (ms:List Nat) (rs:List (Rec S)):Prop where
 ops: ∀ r∈rs,all[r.i]?=some r.o
 chain:BO s.n rs
 ko: ∀ p r q,rs=p++r::q->GM fl hid P w0 F D0 s all ms p r
theorem Good.add {rs:List (Rec S)} (h:Good fl hid P w0 F D0 s all ms rs) {r:Rec S} (ho:all[r.i]?=some r.o) (hn:r.n1=A8 s.n rs) (hr:Cb r.n1 r.n2 r.o1=true) (hok:GM fl hid P w0 F D0 s all ms rs r):Good fl hid P w0 F D0 s all ms (rs++[r]):=by
 obtain ⟨h1,h2⟩:=NP hr
 refine ⟨fun x hx=>?_,BO.append.2 ⟨h.chain,hn,h1,h2,trivial⟩,fun p x q he=>?_⟩
 ·rcases List.mem_append.1 hx with hx|hx
  ·exact h.ops x hx
  ·rw [List.mem_singleton] at hx;subst hx;exact ho
 ·rcases List.eq_nil_or_concat q with rfl|⟨q',y,rfl⟩
  ·have:=List.append_inj' (s₁:=rs) (s₂:=p) (t₁:=[r]) (t₂:=[x]) he rfl
   obtain ⟨rfl,h2⟩:=this
   simp only [List.cons.injEq,and_true] at h2
   subst h2
   exact hok
  ·have he':rs++[r]=(p++x::q')++[y]:=by rw [he];simp
   exact h.ko p x q' (List.append_inj' he' rfl).1
theorem DX.tell {rs:List (Rec S)} {r:Rec S} (h:DX fl hid P w0 F D0 s all ms rs r) {x:SV} (hd: ∀ β,x.den β=r.x.den β) (hx: ∀ N,x.on N):DX fl hid P w0 F D0 s all ms rs { r with x:=x }:=by
 refine ⟨h.slot,fun hp=>?_,fun hp D N β a w hg hN K Q' hK=>?_⟩
 ·refine fun D N β a w hg hN=>?_
  obtain ⟨β',h1,_,h3⟩:=h.pure hp D N β a w hg hN
  exact ⟨β',h1,hx _,by simp only [hd];exact h3⟩
 ·refine h.imp hp D N β a w hg hN K Q' fun D' β' w' hn _=>?_
  have:=hK D' β' w' hn (hx _)
  simp only [hd] at this;exact this
theorem CJ {ι:Nat->Type} {ρ:Type} {c:Option Bool} {t:Tr ι ρ} {Kc: ∀ c,ι c->Prop} {Kr:ρ->Prop} (h:(Lr c t).Holds Kc Kr):Cd c/\t.Holds Kc Kr:=by
 cases c with
 | none=>exact ⟨trivial,h⟩
 | some b=>exact h
theorem Ew {ι:Nat->Type} {ρ:Type} {f:Nat} {args:List SV} {o:List (Nat×Own S)} {k:(c:BU S)->c.sp.D S->PS S->Tr ι ρ} {fb:Tr ι ρ} {Kc: ∀ c,ι c->Prop} {Kr:ρ->Prop}: ∀ {l:List (BU S)},(SS f args o k fb l).Holds Kc Kr->(∃ c∈l,∃ x ps,c.f=f/\c.sp.parse c.flat args o [] c.bn=some (x,ps)/\(k c x ps).Holds Kc Kr)\/fb.Holds Kc Kr
 | [],h=>.inr h
 | c::r,h=>by
  simp only [SS] at h
  split at h
  ·rename_i hf
   split at h
   ·rename_i x ps hp
    exact .inl ⟨c,by simp,x,ps,ac hf,hp,h⟩
   ·exact (Ew h).imp (fun ⟨c',h1,h2⟩=>⟨c',by simp [h1],h2⟩) id
  ·exact (Ew h).imp (fun ⟨c',h1,h2⟩=>⟨c',by simp [h1],h2⟩) id
theorem UJ {ι:Nat->Type} {ρ:Type} {f:Nat} {args:List SV} {o:List (Nat×Own S)} {k:(c:BU S)->c.sp.D S->PS S->Tr ι ρ} {w:Nat} {Kc: ∀ c,ι c->Prop} {Kr:ρ->Prop} {l:List (BU S)} (h:(SS f args o k (.stuck w) l).Holds Kc Kr): ∃ c∈l,∃ x ps,c.f=f/\c.sp.parse c.flat args o [] c.bn=some (x,ps)/\(k c x ps).Holds Kc Kr:=
 (Ew h).elim id fun h=>h.elim
variable {ι:Nat->Type} {ρ:Type} {Kc: ∀ c,ι c->Prop} {Kr:ρ->Prop}
theorem Sj {rs:List (Rec S)} {r:Rec S} {k:Rec S->Tr ι ρ} (hg:Good fl hid P w0 F D0 s all ms rs) (ho:all[r.i]?=some r.o) (hn:r.n1=A8 s.n rs) (hr:Cb r.n1 r.n2 r.o1=true) (hcn:r.tk=false/\r.cn=[]/\r.gb=[]) (hok:DX fl hid P w0 F D0 s all ms rs r) (h:(E0 all r k).Holds Kc Kr):
  ∃ r',r'.key=r.key/\Good fl hid P w0 F D0 s all ms (rs++[r'])/\(k r').Holds Kc Kr:=by
 unfold E0 at h
 rw [Rec.Ft] at h
 unfold Wt at h
 split at h
 ·rename_i c hx
  split at h
  ·have key: ∀ b,c=b->(k { r with x:=.v (.bool b) }).Holds Kc Kr-> ∃ r',r'.key=r.key/\Good fl hid P w0 F D0 s all ms (rs++[r'])/\(k r').Holds Kc Kr:=fun b hb h=>by
    subst hb
    exact ⟨{ r with x:=.v (.bool c) },rfl,hg.add ho hn hr (.plain hcn.1 hcn.2.1 hcn.2.2 (hok.tell (fun β=>by rw [hx];simp [SV.den]) fun N=>trivial)),h⟩
   cases c
   ·exact key false rfl (h.2 rfl)
   ·exact key true rfl (h.1 rfl)
  ·exact ⟨r,rfl,hg.add ho hn hr (.plain hcn.1 hcn.2.1 hcn.2.2 hok),h⟩
 ·exact ⟨r,rfl,hg.add ho hn hr (.plain hcn.1 hcn.2.1 hcn.2.2 hok),h⟩
theorem GL.tell {rs:List (Rec S)} {r:Rec S} (h:GL fl hid P w0 F D0 s all ms rs r) {x:SV} (hd: ∀ β,x.den β=r.x.den β) (hx: ∀ N,x.on N):GL fl hid P w0 F D0 s all ms rs { r with x:=x }:=by
 refine ⟨h.slot,h.fl,h.pu,h.tf,h.tk,h.there,fun D N β a w o2 hg hsub hN K Q' hK=>?_⟩
 refine h.step D N β a w o2 hg hsub hN K Q' fun D' β' w' hag hgh _=>?_
 have:=hK D' β' w' hag hgh (hx _)
 simp only [hd] at this;exact this
theorem Hn {rs:List (Rec S)} {r:Rec S} {k:Rec S->Tr ι ρ} (hg:Good fl hid P w0 F D0 s all ms rs) (ho:all[r.i]?=some r.o) (hn:r.n1=A8 s.n rs) (hr:Cb r.n1 r.n2 r.o1=true) (hok:GL fl hid P w0 F D0 s all ms rs r) (h:(E0 all r k).Holds Kc Kr):
  ∃ r',r'.key=r.key/\Good fl hid P w0 F D0 s all ms (rs++[r'])/\(k r').Holds Kc Kr:=by
 unfold E0 at h
 rw [Rec.Ft] at h
 unfold Wt at h
 split at h
 ·rename_i c hx
  split at h
  ·have key: ∀ b,c=b->(k { r with x:=.v (.bool b) }).Holds Kc Kr-> ∃ r',r'.key=r.key/\Good fl hid P w0 F D0 s all ms (rs++[r'])/\(k r').Holds Kc Kr:=fun b hb h=>by
    subst hb
    exact ⟨{ r with x:=.v (.bool c) },rfl,hg.add ho hn hr (.XN (hok.tell (fun β=>by rw [hx];simp [SV.den]) fun N=>trivial)),h⟩
   cases c
   ·exact key false rfl (h.2 rfl)
   ·exact key true rfl (h.1 rfl)
  ·exact ⟨r,rfl,hg.add ho hn hr (.XN hok),h⟩
 ·exact ⟨r,rfl,hg.add ho hn hr (.XN hok),h⟩
theorem HN {st:St S} {N:Nat->Prop} {β:Nat->Nm} {a:Act} (ho:st.o=[]) (hz:a.tmps.size=st.sz) (h: ∀ t y,lk st.t t=some y->t<a.tmps.size/\y.on N/\a.tmps.getD t undef=y.den β) (w:World):
  G w (fun _=>False) (fun _=>False) (fun _=>False) st N β { a with defers:=[] } w:=
 ⟨rfl,hz,fun t x hx=>⟨hz▸(h t x hx).1,(h t x hx).2.1⟩,fun t x hx=>(h t x hx).2.2,by
  refine ⟨fun i b h=>?_,fun i b h=>?_,fun i j b c k h=>?_,fun i b k h=>?_,fun i b k h=>?_,fun i b k h=>?_,fun k h=>h.elim,fun k h=>h.elim,OX.refl _ _,fun k h=>h.elim⟩<;>(rw [ho,AW] at h;cases h)⟩
theorem CN {d:Option Tmp} {sz:Nat} (h:EV d sz=true): ∀ u,d=some u->u<sz:=by
 unfold EV at h
 split at h
 ·intro u hu;cases hu
 ·intro u hu;cases hu;exact dk h
section
variable {rs:List (Rec S)} {i:Nat} {o:Oper} {pu:Bool} {n:Nat}
theorem Ji {D N:Nat->Prop} {β:Nat->Nm} {a:Act} {w:World} (hg:G w0 F D0 D (seenAt fl hid s all ms rs i o false) N β a w): ∀ t y,lk (seenAt fl hid s all ms rs i o true).t t=some y->t<a.tmps.size/\y.on N/\a.tmps.getD t undef=y.den β:=fun t y hy=>by
 have hy':lk (seenAt fl hid s all ms rs i o false).t t=some y:=hy
 obtain ⟨h1,h2⟩:=hg.Gw t y hy'
 exact ⟨by rw [hg.size];exact h1,h2,hg.tmps t y hy'⟩
theorem gI (ho:all[i]?=some o) (hd:EV o.dst s.sz=true) (hw:CA (seenAt fl hid s all ms rs i o pu) all o=.no):DX fl hid P w0 F D0 s all ms rs ⟨i,o,pu,[],n,n,.v (.tuple #[]),[],[],false⟩:=by
 refine ⟨CN hd,fun hpu D N β a w hg _=>⟨β,CG.refl,trivial,.inr ⟨?_,by simp [SV.den,undef]⟩⟩,fun hpu D N β a w hg hN K Q' hK=>?_⟩
 ·simp only at hpu;subst hpu
  exact Ak (HN (st:=seenAt fl hid s all ms rs i o true) rfl hg.size (Ji hg) default) hw
 ·simp only at hpu;subst hpu
  unfold wpOp
  simp only [ho,Ak hg hw,Bool.false_eq_true,if_false]
  simpa [SV.den,undef] using hK D β w CG.refl trivial
theorem br {tb:List (Nat×TI)} (htb:Ae S P tb) (ho:all[i]?=some o) (hd:EV o.dst s.sz=true) (hw:CA (seenAt fl hid s all ms rs i o pu) all o=.yes) {c:Option Bool} {x:SV} (he:evalOp tb (seenAt fl hid s all ms rs i o pu) o.op=.val c x) (hp:Cd c):DX fl hid P w0 F D0 s all ms rs ⟨i,o,pu,[],n,n,x,[],[],false⟩:=by
 refine ⟨CN hd,fun hpu D N β a w hg _=>?_,fun hpu D N β a w hg hN K Q' hK=>?_⟩
 ·simp only at hpu;subst hpu
  have key: ∀ w,(execOp a.eval o).run P w=.ok (.value (x.den β)) w/\x.on N:=fun w=>by
   have hg:=HN (st:=seenAt fl hid s all ms rs i o true) rfl hg.size (Ji hg) w
   have:=Bh htb hg o
   rw [he] at this
   exact this hp
  exact ⟨β,CG.refl,Ao (fun _ h=>.inl h) (key default).2,.inl ⟨Ak (HN (st:=seenAt fl hid s all ms rs i o true) rfl hg.size (Ji hg) default) hw,fun w=>(key w).1⟩⟩
 ·simp only at hpu;subst hpu
  have hsound:=Bh htb hg o
  rw [he] at hsound
  obtain ⟨h1,h2⟩:=hsound hp
  unfold wpOp
  simp only [ho,Ak hg hw,if_true]
  exact .inl (Aq h1 (hK D β w CG.refl (Ao (fun _ h=>.inl h) h2)))
theorem bp {tb:List (Nat×TI)} (htb:Ae S P tb) (ho:all[i]?=some o) (hd:EV o.dst s.sz=true) (hw:CA (seenAt fl hid s all ms rs i o false) all o=.yes) {b:Own S} (he:evalOp tb (seenAt fl hid s all ms rs i o false) o.op=.new b):DX fl hid P w0 F D0 s all ms rs ⟨i,o,false,[(n,b)],n,n+1,HS b n,[],[],false⟩:=by
 refine ⟨CN hd,fun hpu=>(by cases hpu),fun _ D N β a w hg hN K Q' hK=>?_⟩
 have hsound:=Bh htb hg o
 rw [he] at hsound
 obtain ⟨h1,ob,len,cap,h2⟩:=hsound
 obtain ⟨β',hβn,hnew⟩:=CG.alloc (D:=D) (N:=N) (β:=β) (w:=w) (n:=n) (hN n (Nat.le_refl _) (lw _)) h1 (fun β' hβ hn=>(h2 n β' hβ hn).2)
 unfold wpOp
 simp only [ho,Ak hg hw,if_true]
 refine .inl (Aq (h2 n β' hnew.agree hβn).1 (hK D β' _ hnew ?_))
 have:more N n (n+1) n:=.inr ⟨Nat.le_refl _,lw _⟩
 cases b<;>exact this
theorem UK {q:Wn} (h:CA (seenAt fl hid s all ms rs i o true) all o=q):CA (seenAt fl hid s all ms rs i o false) all o=q:=h
theorem gJ {tb:List (Nat×TI)} (htb:Ae S P tb) (ho:all[i]?=some o) (hd:EV o.dst s.sz=true) (hw:CA (seenAt fl hid s all ms rs i o true) all o=.yes) {T q:Nat} {x:Operand} {lo hi:Option Operand} (hop:o.op=.slice T x lo hi none) (hx:ev (seenAt fl hid s all ms rs i o false) x=some (.h q))
  {c:Option Bool} {o1:List (Nat×Own S)} {n':Nat} {v:SV} (he:G4 tb (seenAt fl hid s all ms rs i o false) T x lo hi=.nm c o1 n' v) (hp:Cd c):DX fl hid P w0 F D0 s all ms rs ⟨i,o,true,o1,A8 s.n rs,n',v,[],[],false⟩:=by
 refine ⟨CN hd,fun _ D N β a w hg hN=>?_,fun hpu=>(by cases hpu)⟩
 obtain ⟨β',h1,h2,h3⟩:=Pq htb hg hop hx he hp hN
 exact ⟨β',h1,h3,.inl ⟨Ak hg (UK hw),h2⟩⟩
theorem gH {tb:List (Nat×TI)} (htb:Ae S P tb) (ho:all[i]?=some o) (hd:EV o.dst s.sz=true) (hw:CA (seenAt fl hid s all ms rs i o false) all o=.yes) {c:Option Bool} {o1:List (Nat×Own S)} {n':Nat} {v:SV} (he:evalOp tb (seenAt fl hid s all ms rs i o false) o.op=.nm c o1 n' v) (hp:Cd c):DX fl hid P w0 F D0 s all ms rs ⟨i,o,false,o1,A8 s.n rs,n',v,[],[],false⟩:=by
 refine ⟨CN hd,fun hpu=>(by cases hpu),fun _ D N β a w hg hN K Q' hK=>?_⟩
 have hsound:=Bh htb hg o
 rw [he] at hsound
 obtain ⟨β',w',h1,h2,h3⟩:=hsound hp hN
 unfold wpOp
 simp only [ho,Ak hg hw,if_true]
 exact .inl (Aq h1 (hK D β' w' h2 h3))
theorem gG {tb:List (Nat×TI)} (htb:Ae S P tb) (ho:all[i]?=some o) (hd:EV o.dst s.sz=true) (hw:CA (seenAt fl hid s all ms rs i o false) all o=.yes) {l:List Oper} {e:Nat} (he:X6 tb l o=some e):DX fl hid P w0 F D0 s all ms rs ⟨i,o,false,[(n,.AX e [])],n,n+1,.view n 0 0 0,[],[],false⟩:=by
 refine ⟨CN hd,fun hpu=>(by cases hpu),fun _ D N β a w hg hN K Q' hK=>?_⟩
 have hr:=Tb (P:=P) (a:=a) (w:=w) htb he
 obtain ⟨β',hβn,hnew⟩:=CG.alloc (S:=S) (D:=D) (N:=N) (β:=β) (w:=w) (n:=n) (hN n (Nat.le_refl _) (lw _)) (b:=.AX e []) (ob:=.cells #[] e) (len:=0) (cap:=0) trivial (fun β' _ _=>⟨w.heap.size,rfl,heap_alloc_new w _⟩)
 unfold wpOp
 simp only [ho,Ak hg hw,if_true]
 refine .inl (Aq (v:=.slice (some ⟨w.heap.size,0,none⟩) 0 0) hr ?_)
 have:=hK D β' _ hnew (.inr ⟨Nat.le_refl _,lw _⟩)
 simpa only [SV.den,hβn,Nm.AX,Option.getD_some] using this
theorem gE {tb:List (Nat×TI)} (htb:Ae S P tb) (ho:all[i]?=some o) (hd:EV o.dst s.sz=true) (hw:CA (seenAt fl hid s all ms rs i o false) all o=.yes) {j:Nat} {c:Option Bool} {o1:List (Nat×Own S)} {n':Nat} {v:SV} (he:Ve tb (seenAt fl hid s all ms rs i o false) o.op=some (j,true,.nm c o1 n' v)) (hc:Cd c):
  DX fl hid P w0 F D0 s all ms rs ⟨i,o,false,[],n,n,.view j 0 0 0,[],[],false⟩:=by
 refine ⟨CN hd,fun hpu=>(by cases hpu),fun _ D N β a w hg hN K Q' hK=>?_⟩
 obtain ⟨hj,w',hr,hb⟩:=(LS htb hg he hc).1 rfl
 unfold wpOp
 simp only [ho,Ak hg hw,if_true]
 exact .inl (Aq hr (hK D β w' ⟨fun _ _=>rfl,hb,Nat.le_refl _,fun i b h=>by simp [AW] at h,fun i b h=>by simp [AW] at h,fun i b k h=>by simp [AW] at h,fun i j b c k h=>by simp [AW] at h,fun _ h=>h,fun _ h=>.inl h,fun i b k h=>by simp [AW] at h,fun i b k h=>by simp [AW] at h⟩ (.inl hj)))
theorem gF {tb:List (Nat×TI)} (htb:Ae S P tb) (ho:all[i]?=some o) (hd:EV o.dst s.sz=true) (hw:CA (seenAt fl hid s all ms rs i o false) all o=.yes) {j:Nat} {c:Option Bool} {o1:List (Nat×Own S)} {n':Nat} {v:SV} (he:Ve tb (seenAt fl hid s all ms rs i o false) o.op=some (j,false,.nm c o1 n' v)) (hc:Cd c):
  DX fl hid P w0 F D0 s all ms rs ⟨i,o,false,o1,A8 s.n rs,n',v,[],[],false⟩:=by
 refine ⟨CN hd,fun hpu=>(by cases hpu),fun _ D N β a w hg hN K Q' hK=>?_⟩
 obtain ⟨β',w',h1,h2,h3⟩:=(LS htb hg he hc).2 rfl hN
 unfold wpOp
 simp only [ho,Ak hg hw,if_true]
 exact .inl (Aq h1 (hK D β' w' h2 h3))
theorem ZJ (hkp:CF S w0 F D0) (ho:all[i]?=some o) (hd:EV o.dst s.sz=true) (hw:CA (seenAt fl hid s all ms rs i o false) all o=.yes) {f:Nat} {args:List SV} (hcl:callee (seenAt fl hid s all ms rs i o false) o.op=some (f,args)) {c:BU S} (hf:c.f=f) (hch:c.Holds P) {x:c.sp.D S} {ps:PS S} (hpa:c.sp.parse c.flat args (PM fl hid rs (oC (CR ms i) s.o rs)) [] c.bn=some (x,ps))
  (hl:c.sp.Rc=true) (hb0:c.bn=0) {y:c.rs.D S} (hy:c.out.gives x y) {rs':List SV} {o':List (Nat×Own S)} {n':Nat} (he:c.rs.enc y (Hg c.bn c.rs)=(rs',o',n')):
  DX fl hid P w0 F D0 s all ms rs ⟨i,o,false,Dr (Bv c.bn ps.m (A8 s.n rs)) o',A8 s.n rs,A8 s.n rs+(n' -c.bn),Ay (Cf (Bv c.bn ps.m (A8 s.n rs)) rs'),[],[],false⟩:=by
 subst hf
 refine ⟨CN hd,fun hpu=>(by cases hpu),fun _ D N β a w hg hN K Q' hK=>?_⟩
 unfold wpOp
 simp only [ho,Ak hg hw,if_true]
 refine .inl ?_
 unfold Oper.wp
 rw [G0 hg hcl hch.B9,Oper.upon_enter]
 refine (XF hg.gh hpa hch.bound hch.flat hl hb0 (hch.calls x y hy) (hg.gh.inv hkp) he hN).mono fun e w' ⟨D',β',he',hnew,hon⟩=>?_
 subst he'
 exact hK D' β' w' hnew hon
theorem jN {s s':St S} (h:s.t=s'.t) (n:Int) (x:Option Operand):Is s n x=Is s' n x:=by
 cases x with
 | none=>rfl
 | some x=>simp only [Is,TL h]
theorem L0 {m n:Nat} {ms:List Nat} {i:Nat} {rs:List (Rec S)} {cn cn':List Nat} {c c':Option Bool} {ow ow':Own S} (h:Vn m hid n ms i rs cn c ow=some (cn',c',ow')):cn'=cn/\c'=c/\ow'=ow/\F3 m hid ms i n rs cn []=true:=by
 unfold Vn at h
 split at h
 ·rename_i ht;cases h;exact ⟨rfl,rfl,rfl,ht⟩
 ·cases h
theorem XO {tb:List (Nat×TI)} (htb:Ae S P tb) {st:St S} {m:Nat} {ms:List Nat} {i:Nat} {rs:List (Rec S)} {op:Oper} {cn:List Nat} {c:Option Bool} {ow:Own S} (he:Ua m fl hid tb st ms i rs pu op.op=some (cn,c,ow)):
  (fl=true/\pu=false/\F3 m hid ms i st.n rs cn []=true/\ ∀ k∈cn,∃ b,lk st.o k=some b)/\
  ∀ (D N:Nat->Prop) β a w o2,Cd c->G w0 F D0 D ⟨st.t,o2,st.n,st.sz⟩ N β a w->(∀ i b,lk st.o i=some b->lk o2 i=some b)->¬ N st.n->XG P w0 F D0 D st.n N β a w op ((st.n,ow)::dR o2 cn):=by
 unfold Ua at he
 split at he
 case h_2=>cases he
 split at he
 ·rename_i x y T T' hop
  split at he
  case h_2=>cases he
  rename_i j hT hx
  have hT:=ac hT
  subst hT
  split at he
  ·rename_i c' m' ow' o' n' v happ
   obtain ⟨rfl,rfl,rfl,ht⟩:=L0 he
   refine ⟨⟨rfl,rfl,ht,fun k hk=>?_⟩,fun D N β a w o2 hc hg hs hN=>?_⟩
   ·rw [List.mem_singleton.1 hk];exact Wy hx happ
   ·exact S6 (s:=st) htb hg hs hN hop hx happ hc
  ·split at he
   case h_2=>cases he
   rename_i e esz k κ τ ag E ls ht hy hj
   split at he
   case h_2=>cases he
   rename_i te E'' u hte hk
   split at he
   case h_2=>cases he
   rename_i κ' τ' ag' l hu hju hE''
   split at he
   case h_2=>cases he
   rename_i hτ hκ hsz hE hag _ _
   have hsz:=ac hsz
   have hE:=ac hE;subst hE
   have hE'':=ac hE'';subst hE''
   have hag:=C1.1 hag;subst hag
   subst hτ
   subst hκ
   obtain ⟨rfl,rfl,rfl,htk⟩:=L0 he
   refine ⟨⟨rfl,rfl,htk,fun z hz=>?_⟩,fun D N β a w o2 hc hg hs hN=>?_⟩
   ·simp only [List.mem_cons,List.not_mem_nil,or_false] at hz
    rcases hz with rfl|rfl
    ·exact ⟨_,hj⟩
    ·exact ⟨_,hu⟩
   ·exact Wx (s:=⟨st.t,o2,st.n,st.sz⟩) hg hN hop (Ag htb ht).1 (htb.get hte) hsz (hs _ _ hk) (hs _ _ hu) ((TL (s:=⟨st.t,o2,st.n,st.sz⟩) (s':=st) rfl _).trans hy) ((TL (s:=⟨st.t,o2,st.n,st.sz⟩) (s':=st) rfl _).trans hx) (fun h=>by subst h;simp at hju) (hs _ _ hj) hc
 ·rename_i T n x hop
  split at he
  case h_2=>cases he
  rename_i j hn hx
  have hn:=ac hn
  subst hn
  split at he
  case h_2=>cases he
  rename_i c' m' ow' o' n' v hmk
  obtain ⟨rfl,rfl,rfl,ht⟩:=L0 he
  unfold Yo at hmk
  split at hmk
  case h_2=>cases hmk
  rename_i e esz h1
  obtain ⟨h2,h3⟩:=Ag htb h1
  split at hmk
  case h_2=>cases hmk
  rename_i te x' hte hesz _ hxe
  cases hxe
  have hesz:=ac hesz;subst hesz
  split at hmk
  case h_2=>cases hmk
  rename_i j' hag hsz GV
  have hsz:=ac hsz
  rw [hx] at GV
  cases GV
  split at hmk
  case h_2=>cases hmk
  rename_i κ τ ag l hj
  cases hmk
  refine ⟨⟨rfl,rfl,ht,fun k hk=>?_⟩,fun D N β a w o2 hc hg hs hN=>?_⟩
  ·rw [List.mem_singleton.1 hk];exact ⟨_,hj⟩
  ·exact Rr (s:=⟨st.t,o2,st.n,st.sz⟩) hg hN hop h2 h3 (htb.get hte) hsz ((TL (s:=⟨st.t,o2,st.n,st.sz⟩) (s':=st) rfl _).trans hx) (hs _ _ hj)
 ·rename_i T x hi hop
  split at he
  case h_2=>cases he
  rename_i e esz j h1 hx
  obtain ⟨h2,h3⟩:=Ag htb h1
  split at he
  case h_2=>cases he
  rename_i κ τ ag E ls hj
  split at he
  case h_2=>cases he
  rename_i h hb
  obtain ⟨rfl,rfl,rfl,ht⟩:=L0 he
  refine ⟨⟨rfl,rfl,ht,fun k hk=>?_⟩,fun D N β a w o2 hc hg hs hN=>?_⟩
  ·rw [List.mem_singleton.1 hk];exact ⟨_,hj⟩
  ·simp only [Cd,ii] at hc
   exact VZ (s:=⟨st.t,o2,st.n,st.sz⟩) hg hN hop h2 h3 ((TL (s:=⟨st.t,o2,st.n,st.sz⟩) (s':=st) rfl _).trans hx) (hs _ _ hj) ((jN (s:=⟨st.t,o2,st.n,st.sz⟩) (s':=st) rfl _ _).trans hb) hc.1 hc.2
 ·cases he
theorem NV {u:Nat}: ∀ {js:List Nat} {o:List (Nat×Own S)},u ∉ js->lk (dR o js) u=lk o u
 | [],_,_=>rfl
 | j::r,o,h=>by
  simp only [List.mem_cons,not_or] at h
  rw [dR,NV h.2,Cy,if_neg fun e=>h.1 e.symm]
theorem bo {tb:List (Nat×TI)} (htb:Ae S P tb) (ho:all[i]?=some o) (hd:EV o.dst s.sz=true) (hw:CA (seenAt fl hid s all ms rs i o pu) all o=.yes) {cn:List Nat} {c:Option Bool} {ow:Own S} (he:Ua s.n fl hid tb (BK s all ms rs i o) ms i rs pu o.op=some (cn,c,ow)) (hc:Cd c):
  pu=false/\GL fl hid P w0 F D0 s all ms rs ⟨i,o,false,[(A8 s.n rs,ow)],A8 s.n rs,A8 s.n rs+1,.tr (A8 s.n rs),cn,[],true⟩:=by
 obtain ⟨⟨rfl,rfl,htk,hth⟩,hs⟩:=XO (w0:=w0) (F:=F) (D0:=D0) htb he
 refine ⟨rfl,CN hd,rfl,rfl,rfl,htk,hth,fun D N β a w o2 hg hsub hN K Q' hK=>?_⟩
 have hN1:¬ N (A8 s.n rs):=hN _ (Nat.le_refl _) (lw _)
 obtain ⟨β',w',h1,h2,h3⟩:=hs D N β a w o2 hc hg hsub hN1
 have h3:GH w0 F D0 D ((A8 s.n rs,ow)::dR o2 cn) (fun k=>N k\/k=A8 s.n rs) β' w':=h3
 have hwg:Region.wanted o (yielded all a.tmps)=true:=by
  have hgp:=HN (st:=seenAt true hid s all ms rs i o true) rfl hg.size (fun t y hy=>by
   have hy':lk (BK s all ms rs i o).t t=some y:=hy
   obtain ⟨k1,k2⟩:=hg.Gw t y hy'
   exact ⟨by rw [hg.size];exact k1,k2,hg.tmps t y hy'⟩) default
  exact Ak hgp (show CA (seenAt true hid s all ms rs i o true) all o=.yes from hw)
 unfold wpOp
 simp only [ho,hwg,if_true]
 refine .inl (Aq h1 (hK D β' w' h2 (GH.Hh (GH.mono h3 fun k hk=>?_) fun u b hu=>?_) (.inr ⟨Nat.le_refl _,lw _⟩)))
 ·rcases hk with hk|rfl
  ·exact .inl hk
  ·exact .inr ⟨Nat.le_refl _,lw _⟩
 ·rw [CQ] at hu
  simp only [AW,Option.orElse_none] at hu
  rw [AK] at hu ⊢
  split
  ·rename_i he;rw [if_pos he] at hu;simpa using hu
  ·rename_i he
   rw [if_neg he] at hu
   simp only [AW,Option.orElse_none] at hu
   split at hu
   ·cases hu
   ·rename_i hne;rw [NV hne];exact hu
theorem bq {tb:List (Nat×TI)} (htb:Ae S P tb) (ho:all[i]?=some o) (hd:EV o.dst s.sz=true) (hw:CA (seenAt fl hid s all ms rs i o pu) all o=.yes) {j:Nat} {b:Own S} (he:Zv s.n fl hid tb (BK s all ms rs i o) ms i rs pu o.op=some (j,b)):
  pu=false/\GL fl hid P w0 F D0 s all ms rs ⟨i,o,false,[],A8 s.n rs,A8 s.n rs,.v (.tuple #[]),[j],[(j,b)],true⟩:=by
 unfold Zv at he
 split at he
 case h_2=>cases he
 refine ⟨rfl,?_⟩
 split at he
 case h_2=>cases he
 rename_i T x y hop
 split at he
 case h_2=>cases he
 rename_i j0 off hx
 split at he
 case h_2=>cases he
 rename_i U cs hj hlk
 split at he
 case h_2=>cases he
 rename_i j' b' hst
 split at he
 case h_2=>cases he
 rename_i hjj htk
 have hjj:=ac hjj
 cases he
 subst hjj
 refine ⟨CN hd,rfl,rfl,rfl,htk,fun k hk=>?_,fun D N β a w o2 hg hsub hN K Q' hK=>?_⟩
 ·rw [List.mem_singleton.1 hk];exact ⟨_,hlk⟩
 have hwg:Region.wanted o (yielded all a.tmps)=true:=by
  have hgp:=HN (st:=seenAt true hid s all ms rs i o true) rfl hg.size (fun t y hy=>by
   have hy':lk (BK s all ms rs i o).t t=some y:=hy
   obtain ⟨k1,k2⟩:=hg.Gw t y hy'
   exact ⟨by rw [hg.size];exact k1,k2,hg.tmps t y hy'⟩) default
  exact Ak hgp (show CA (seenAt true hid s all ms rs i o true) all o=.yes from hw)
 have hlk2:lk o2 j'=some (.AX U cs):=hsub j' _ hlk
 have hev: ∀ z,ev (⟨(BK s all ms rs i o).t,o2,A8 s.n rs,s.sz⟩:St S) z=ev (BK s all ms rs i o) z:=fun z=>by cases z<;>rfl
 have hst2:evalOp tb (⟨(BK s all ms rs i o).t,o2,A8 s.n rs,s.sz⟩:St S) o.op=.Sf none j' b:=by
  rw [hop]
  show IY tb _ T x y=_
  rw [<-hst]
  unfold IY
  simp only [hev,hx,hlk2,hlk]
 have hsound:=Bh htb hg o
 rw [hst2] at hsound
 obtain ⟨w',hr,hgh⟩:=hsound trivial
 unfold wpOp
 simp only [ho,hwg,if_true]
 refine .inl (OS hr ?_)
 have:=hK D β w' (fun _ _=>rfl) (GH.Hh (GH.mono hgh fun k hk=>.inl hk) fun u c hu=>?_) trivial
 ·simpa [SV.den,undef] using this
 ·rw [CQ] at hu
  rw [FB]
  simp only [AK,AW,Option.orElse_none,List.mem_singleton] at hu
  split
  ·rename_i he;subst he;simpa using hu
  ·rename_i he
   rw [if_neg he,Option.orElse_none,if_neg fun e=>he e.symm] at hu
   simpa using hu
theorem ZK {tb:List (Nat×TI)} (htb:Ae S P tb) (ho:all[i]?=some o) (hd:EV o.dst s.sz=true) (hfl:fl=true) (hw:CA (seenAt fl hid s all ms rs i o pu) all o=.yes) {c:Option Bool} {x:SV} (he:evalOp tb (BK s all ms rs i o) o.op=.val c x) (hp:Cd c)
  (htk:F3 s.n hid ms i n rs [] []=true) (hn:n=A8 s.n rs):GL fl hid P w0 F D0 s all ms rs ⟨i,o,false,[],n,n,x,[],[],true⟩:=by
 subst hn
 refine ⟨CN hd,hfl,rfl,rfl,htk,fun j hj=>(by cases hj),fun D N β a w o2 hg hsub hN K Q' hK=>?_⟩
 have hg':G w0 F D0 D (BK s all ms rs i o) N β a w:=⟨hg.defers,hg.size,hg.Gw,hg.tmps,hg.gh.Hh hsub⟩
 have hwg:Region.wanted o (yielded all a.tmps)=true:=by
  have hgp:=HN (st:=seenAt fl hid s all ms rs i o true) rfl hg.size (fun t y hy=>by
   have hy':lk (BK s all ms rs i o).t t=some y:=hy
   obtain ⟨k1,k2⟩:=hg.Gw t y hy'
   exact ⟨by rw [hg.size];exact k1,k2,hg.tmps t y hy'⟩) default
  exact Ak hgp (show CA (seenAt fl hid s all ms rs i o true) all o=.yes from hw)
 have hsound:=Bh htb hg' o
 rw [he] at hsound
 obtain ⟨h1,h2⟩:=hsound hp
 unfold wpOp
 simp only [ho,hwg,if_true]
 exact .inl (Aq h1 (hK D β w (fun _ _=>rfl) (by unfold E6;exact hg.gh.mono fun _ h=>.inl h) (Ao (fun _ h=>.inl h) h2)))
theorem WT {x y:SV} (h:UF x y=true):y=x/\((∃ a b,x=.ptr a b)\/ ∃ a,x=.CC a):=by
 unfold UF at h
 split at h
 ·split at h
  ·rename_i h1 h2;rw [ac h1,ac h2];exact ⟨rfl,.inl ⟨_,_,rfl⟩⟩
  ·cases h
 ·rw [ac h];exact ⟨rfl,.inr ⟨_,rfl⟩⟩
 ·cases h
theorem bF {r:R S} {x:SV} (h:fM r x=true):r=.val none x/\((∃ a b,x=.ptr a b)\/ ∃ a,x=.CC a):=by
 unfold fM at h
 split at h
 ·obtain ⟨h1,h2⟩:=WT h;rw [h1];exact ⟨rfl,h2⟩
 ·cases h
theorem RO {tb:List (Nat×TI)} {T off:Nat} {v:SV} {x:Own S} (h:O7 tb T off v x=true):(∃ U cs t,x=.AX U cs/\lk tb T=some t/\ld (S:=S) t cs off=.val none v)/\((∃ a b,v=.ptr a b)\/ ∃ a,v=.CC a):=by
 unfold O7 at h
 split at h
 ·split at h
  ·rename_i U cs _ t ht;obtain ⟨h1,h2⟩:=bF h;exact ⟨⟨U,cs,t,rfl,ht,h1⟩,h2⟩
  ·cases h
 ·cases h
theorem OK {tb:List (Nat×TI)} {T off j:Nat} {v:SV}: ∀ {rs:List (Rec S)},SK tb T off v j rs=true-> ∀ r∈rs,j∈r.cn-> ∃ x,lk r.gb j=some x/\O7 tb T off v x=true
 | [],_,r,h,_=>by cases h
 | r0::rs,h,r,hr,hj=>by
  unfold SK at h
  split at h
  ·rename_i hm
   rcases List.mem_cons.1 hr with rfl|hr
   ·rw [Cn.2 hj] at hm;cases hm
   ·exact OK h r hr hj
  ·split at h
   ·rename_i x hx
    split at h
    ·rename_i hg
     rcases List.mem_cons.1 hr with rfl|hr
     ·exact ⟨x,hx,hg⟩
     ·exact OK h r hr hj
    ·cases h
   ·cases h
theorem ZM {tb:List (Nat×TI)} (htb:Ae S P tb) (ho:all[i]?=some o) (hd:EV o.dst s.sz=true) (hw:CA (seenAt fl hid s all ms rs i o pu) all o=.yes) {x:SV} (he:UG s tb (BK s all ms rs i o) rs o.op=some x) {n:Nat} (hn:n=A8 s.n rs):
  Wr fl P w0 F D0 s all ms rs ⟨i,o,false,[],n,n,x,[],[],true⟩/\((∃ a b,x=.ptr a b)\/ ∃ a,x=.CC a):=by
 subst hn
 unfold UG at he
 split at he
 case h_2=>cases he
 rename_i op T y hop
 split at he
 case h_2=>cases he
 rename_i j off hy
 split at he
 case h_2=>cases he
 rename_i U cs hj
 split at he
 case h_2=>cases he
 rename_i v hc
 split at he
 case h_2=>cases he
 rename_i hg hst
 cases he
 refine ⟨⟨CN hd,rfl,rfl,rfl,rfl,j,fun y=>O7 tb T off x y=true,⟨_,hj,hg⟩,OK hst,fun D N β a' w o2 hg2 hb hN K Q' hK=>?_⟩,(RO hg).2⟩
 obtain ⟨xo,hx,hgx⟩:=hb
 obtain ⟨⟨U',cs',t,rfl,ht,hl⟩,_⟩:=RO hgx
 have hwg:Region.wanted o (yielded all a'.tmps)=true:=by
  have hgp:=HN (st:=seenAt fl hid s all ms rs i o true) rfl hg2.size (fun t y hy=>by
   have hy':lk (BK s all ms rs i o).t t=some y:=hy
   obtain ⟨k1,k2⟩:=hg2.Gw t y hy'
   exact ⟨by rw [hg2.size];exact k1,k2,hg2.tmps t y hy'⟩) default
  exact Ak hgp (show CA (seenAt fl hid s all ms rs i o true) all o=.yes from hw)
 have hsound:=G3 htb hg2 hop
 have hev:ev ⟨(BK s all ms rs i o).t,o2,A8 s.n rs,s.sz⟩ y=some (.ptr j off):=by
  cases y<;>exact hy
 have hv:JJ tb ⟨(BK s all ms rs i o).t,o2,A8 s.n rs,s.sz⟩ T y=.val none x:=by
  unfold JJ
  simp only [ht,hev,hx,hl]
 rw [hv] at hsound
 obtain ⟨h1,h2⟩:=hsound trivial
 unfold wpOp
 simp only [ho,hwg,if_true]
 exact .inl (Aq h1 (hK D β w (fun _ _=>rfl) (by unfold E6;exact hg2.gh.mono fun _ h=>.inl h) (Ao (fun _ h=>.inl h) h2)))
theorem WL {tb:List (Nat×TI)} (htb:Ae S P tb) (ho:all[i]?=some o) (hd:EV o.dst s.sz=true) (hfl:fl=true) (hw:CA (seenAt fl hid s all ms rs i o pu) all o=.yes) {c:Option Bool} {o1:List (Nat×Own S)} {n':Nat} {x:SV} (he:evalOp tb (BK s all ms rs i o) o.op=.nm c o1 n' x) (hp:Cd c)
  (htk:F3 s.n hid ms i (A8 s.n rs) rs [] []=true):GL fl hid P w0 F D0 s all ms rs ⟨i,o,false,o1,A8 s.n rs,n',x,[],[],true⟩:=by
 refine ⟨CN hd,hfl,rfl,rfl,htk,fun j hj=>(by cases hj),fun D N β a w o2 hg hsub hN K Q' hK=>?_⟩
 have hg':G w0 F D0 D (BK s all ms rs i o) N β a w:=⟨hg.defers,hg.size,hg.Gw,hg.tmps,hg.gh.Hh hsub⟩
 have hwg:Region.wanted o (yielded all a.tmps)=true:=by
  have hgp:=HN (st:=seenAt fl hid s all ms rs i o true) rfl hg.size (fun t y hy=>by
   have hy':lk (BK s all ms rs i o).t t=some y:=hy
   obtain ⟨k1,k2⟩:=hg.Gw t y hy'
   exact ⟨by rw [hg.size];exact k1,k2,hg.tmps t y hy'⟩) default
  exact Ak hgp (show CA (seenAt fl hid s all ms rs i o true) all o=.yes from hw)
 have hsound:=Bh htb hg' o
 rw [he] at hsound
 obtain ⟨β',w',h1,h2,h3⟩:=hsound hp hN
 unfold wpOp
 simp only [ho,hwg,if_true]
 exact .inl (Aq h1 (hK D β' w' h2.agree (by unfold E6;exact hg.gh.extend h2) h3))
theorem ZN (hkp:CF S w0 F D0) (ho:all[i]?=some o) (hd:EV o.dst s.sz=true) (hfl:fl=true) (hw:CA (seenAt fl hid s all ms rs i o false) all o=.yes) {f:Nat} {args:List SV} (hcl:callee (seenAt fl hid s all ms rs i o false) o.op=some (f,args)) {c:BU S} (hf:c.f=f) (hch:c.Holds P) {x:c.sp.D S} {ps:PS S} (hpa:c.sp.parse c.flat args (oC (CR ms i) s.o rs) [] c.bn=some (x,ps))
  {y:c.rs.D S} (hy:c.out.gives x y) {rs':List SV} {o':List (Nat×Own S)} {n':Nat} (he:c.rs.enc y (Hg c.bn c.rs)=(rs',o',n'))
  (hm:Yz ps.m c.bn (oC (CR ms i) s.o rs)=true) (hr:Cb (A8 s.n rs) (A8 s.n rs+(n' -c.bn)) (F6 (A8 s.n rs) (Dr (Bv c.bn ps.m (A8 s.n rs)) o'))=true)
  {g:List (Nat×Own S)} (hgd:g=E4 (A8 s.n rs) (Dr (Bv c.bn ps.m (A8 s.n rs)) o'))
  (htk:F3 s.n hid ms i (A8 s.n rs) rs (NJ ps.o (oC (CR ms i) s.o rs) g) (J4 (oC (CR ms i) s.o rs) g)=true):
  GL fl hid P w0 F D0 s all ms rs ⟨i,o,false,F6 (A8 s.n rs) (Dr (Bv c.bn ps.m (A8 s.n rs)) o'),A8 s.n rs,A8 s.n rs+(n' -c.bn),Ay (Cf (Bv c.bn ps.m (A8 s.n rs)) rs'),NJ ps.o (oC (CR ms i) s.o rs) g,J4 (oC (CR ms i) s.o rs) g,true⟩:=by
 subst hf
 refine ⟨CN hd,hfl,rfl,rfl,htk,fun j hj=>RN (Eg.1 hj).1,fun D N β a w o2 hg hsub hN K Q' hK=>?_⟩
 have hwg:Region.wanted o (yielded all a.tmps)=true:=by
  have hgp:=HN (st:=seenAt fl hid s all ms rs i o true) rfl hg.size (fun t y hy=>by
   have hy':lk (BK s all ms rs i o).t t=some y:=hy
   obtain ⟨k1,k2⟩:=hg.Gw t y hy'
   exact ⟨by rw [hg.size];exact k1,k2,hg.tmps t y hy'⟩) default
  exact Ak hgp (show CA (seenAt fl hid s all ms rs i o true) all o=.yes from hw)
 unfold wpOp
 simp only [ho,hwg,if_true]
 refine .inl ?_
 unfold Oper.wp
 have hcl':callee (⟨(BK s all ms rs i o).t,o2,A8 s.n rs,s.sz⟩:St S) o.op=some (c.f,args):=(XH (s:=⟨(BK s all ms rs i o).t,o2,A8 s.n rs,s.sz⟩) (s':=seenAt fl hid s all ms rs i o false) rfl).trans hcl
 rw [G0 hg hcl' hch.B9,Oper.upon_enter]
 refine (Vi (n0:=A8 s.n rs) (cn:=Hy ps.o (oC (CR ms i) s.o rs)) hg.gh hsub hpa hch.bound hch.flat hm (hch.calls x y hy) (hg.gh.inv hkp) he (fun k h1 h2=>hN k h1 h2) (fun i b hi hn=>NK hn hi)).mono fun e w' ⟨D',β',he',hag,hgh,hon⟩=>?_
 subst he'
 refine hK D' β' w' hag (GH.Hh hgh fun u b hu=>?_) hon
 rw [CQ] at hu
 rw [NU,Kw]
 by_cases hk:RS (oC (CR ms i) s.o rs) g u=true
 ·obtain ⟨b',h1,h2⟩:=YH hk
  have h3:=hsub u b' h2
  have h4:=h1
  rw [hgd,Ie] at h4
  by_cases hlt:u<A8 s.n rs
  ·rw [if_pos hlt] at h4
   have h5:lk (J4 (oC (CR ms i) s.o rs) g) u=none:=by unfold J4;rw [GX,if_pos hk]
   have h6:¬ u∈NJ ps.o (oC (CR ms i) s.o rs) g:=fun h=>by rw [(Eg.1 h).2] at hk;cases hk
   simp only [h5,Ic,if_pos hlt,if_neg h6,Option.orElse_none,h3] at hu
   rw [h4]
   simpa using hu
  ·rw [if_neg hlt] at h4;cases h4
 ·have h5:lk (J4 (oC (CR ms i) s.o rs) g) u=lk g u:=by unfold J4;rw [GX,if_neg hk]
  have h6:(u∈NJ ps.o (oC (CR ms i) s.o rs) g)=(u∈Hy ps.o (oC (CR ms i) s.o rs)):=by
   simp only [eq_iff_iff]
   exact ⟨fun h=>(Eg.1 h).1,fun h=>Eg.2 ⟨h,Bool.eq_false_iff.2 hk⟩⟩
  simp only [h5,h6,Ic] at hu
  rw [hgd,Ie] at hu
  by_cases hlt:u<A8 s.n rs
  ·rw [if_pos hlt,if_pos hlt] at hu
   simpa using hu
  ·rw [if_neg hlt,if_neg hlt] at hu
   simpa using hu
end
theorem LV {tb:List (Nat×TI)} {ct:List (BU S)} {fin:List (Rec S)->Tr ι ρ} {Goal:Prop} (hkp:CF S w0 F D0) (htb:Ae S P tb) (hct: ∀ c∈ct,c.Holds P) {pre:List (Nat×Bool)} (hfin: ∀ rs,rs.map Rec.key=pre->Good fl hid P w0 F D0 s all ms rs->(fin rs).Holds Kc Kr->Goal):
  ∀ (todo:List (Nat×Bool)) (rs:List (Rec S)),rs.map Rec.key++todo=pre->Good fl hid P w0 F D0 s all ms rs->(Ci fl hid tb ct s all ms fin todo rs).Holds Kc Kr->Goal
 | [],rs,hk,hg,h=>hfin rs (by simpa using hk) hg h
 | (i,pu)::t,rs,hk,hg,h=>by
  have hrange:Cb (S:=S) (A8 s.n rs) (A8 s.n rs) []=true:=Nat.ble_eq_true_of_le (Nat.le_refl _)
  have ih: ∀ r:Rec S,r.key=(i,pu)->Good fl hid P w0 F D0 s all ms (rs++[r])->(Ci fl hid tb ct s all ms fin t (rs++[r])).Holds Kc Kr->Goal:=fun r hkey hg' h'=>
   LV hkp htb hct hfin t (rs++[r]) (by rw [<-hk];simp [hkey]) hg' h'
  have ihR: ∀ r:Rec S,r.key=(i,pu)/\r.tk=false/\r.cn=[]/\r.gb=[]->all[r.i]?=some r.o->r.n1=A8 s.n rs->Cb r.n1 r.n2 r.o1=true->DX fl hid P w0 F D0 s all ms rs r->(E0 all r fun r=>Ci fl hid tb ct s all ms fin t (rs++[r])).Holds Kc Kr->Goal:=fun r hkey ho hn hr hok h'=>by
   obtain ⟨r',h1,h2,h3⟩:=Sj hg ho hn hr hkey.2 hok h'
   exact ih r' (h1.trans hkey.1) h2 h3
  simp only [Ci,St.Ft] at h
  split at h
  case h_1=>exact h.elim
  rename_i o ho'
  have ho:all[i]?=some o:=by rw [GI] at ho';simpa using ho'
  split at h
  case h_1=>exact h.elim
  rename_i hd
  split at h
  ·rename_i hw
   exact ih ⟨i,o,pu,[],A8 s.n rs,A8 s.n rs,.v (.tuple #[]),[],[],false⟩ rfl (hg.add ho rfl hrange (.plain rfl rfl rfl (gI ho hd hw))) h
  ·rename_i hw
   split at h
   ·rename_i e hz0
    obtain ⟨rfl,hb0⟩:=WZ hz0
    exact ihR ⟨i,o,false,[(A8 s.n rs,.AX e [])],A8 s.n rs,A8 s.n rs+1,.view (A8 s.n rs) 0 0 0,[],[],false⟩ ⟨rfl,rfl,rfl,rfl⟩ ho rfl (Hz _ _) (gG htb ho hd hw hb0) h
   ·rename_i j b c o1 n' v hz0
    obtain ⟨rfl,ha0⟩:=WY hz0
    split at h
    case h_2=>exact h.elim
    rename_i hr
    obtain ⟨h1,h2⟩:=CJ h
    cases b with
    | true=>exact ihR ⟨i,o,false,[],A8 s.n rs,A8 s.n rs,.view j 0 0 0,[],[],false⟩ ⟨rfl,rfl,rfl,rfl⟩ ho rfl hrange (gE htb ho hd hw ha0 h1) (h2.1 rfl)
    | false=>exact ihR ⟨i,o,false,o1,A8 s.n rs,n',v,[],[],false⟩ ⟨rfl,rfl,rfl,rfl⟩ ho rfl hr (gF htb ho hd hw ha0 h1) (h2.2 rfl)
   rename_i hzn
   clear hzn
   split at h
   ·rename_i cn c ow hco
    obtain ⟨h1,h2⟩:=CJ h
    obtain ⟨rfl,hok⟩:=bo htb ho hd hw hco h1
    exact ih _ rfl (hg.add ho rfl (Hz _ _) (.XN hok)) h2
   rename_i hzn
   clear hzn
   split at h
   ·rename_i j b hco
    obtain ⟨rfl,hok⟩:=bq htb ho hd hw hco
    exact ih _ rfl (hg.add ho rfl hrange (.XN hok)) h
   rename_i hzn
   clear hzn
   split at h
   ·rename_i f args hcl
    split at h
    ·exact h.elim
    ·rcases Ew h with ⟨c,hcm,x,ps,hf,hp,h⟩|h
     case inr=>
      split at h
      case h_1=>exact h.elim
      obtain ⟨c,hcm,x,ps,hf,hp,h⟩:=UJ h
      have hch:=hct c hcm
      have fin': ∀ y,c.out.gives x y->(SN s.n hid ms rs (BK s all ms rs i o) i o c ps y fun r=>E0 all r fun r=>Ci true hid tb ct s all ms fin t (rs++[r])).Holds Kc Kr->Goal:=fun y hy h=>by
       unfold SN at h
       split at h
       rename_i rs' o' n' he
       split at h
       case h_2=>exact h.elim
       rename_i hm hr htk
       have hok:=ZN hkp ho hd rfl hw hcl hf hch hp hy he hm hr rfl htk
       obtain ⟨r',h1,h2,h3⟩:=Hn (r:=⟨i,o,false,F6 (A8 s.n rs) (Dr (Bv c.bn ps.m (A8 s.n rs)) o'),A8 s.n rs,A8 s.n rs+(n' -c.bn),Ay (Cf (Bv c.bn ps.m (A8 s.n rs)) rs'),NJ ps.o (oC (CR ms i) s.o rs) (E4 (A8 s.n rs) (Dr (Bv c.bn ps.m (A8 s.n rs)) o')),J4 (oC (CR ms i) s.o rs) (E4 (A8 s.n rs) (Dr (Bv c.bn ps.m (A8 s.n rs)) o')),true⟩) hg ho rfl hr hok h
       exact ih r' h1 h2 h3
      split at h
      ·rename_i g hout;exact fin' _ (by rw [hout];rfl) h
      ·rename_i p g hout;exact fin' _ (by rw [hout];exact ⟨h.1,rfl⟩) h.2
      ·rename_i m hout
       obtain ⟨y,h1,h2⟩:=h
       exact fin' y (by rw [hout];exact h1) h2
     have hch:=hct c hcm
     split at h
     case h_2=>exact h.elim
     rename_i hl hb0
     have hb0:=ac hb0
     have fin': ∀ y,c.out.gives x y->(recC (seenAt fl hid s all ms rs i o false) i o c ps y fun r=>E0 all r fun r=>Ci fl hid tb ct s all ms fin t (rs++[r])).Holds Kc Kr->Goal:=fun y hy h=>by
      unfold recC at h
      split at h
      rename_i rs' o' n' he
      split at h
      ·rename_i hr
       exact ihR ⟨i,o,false,Dr (Bv c.bn ps.m (A8 s.n rs)) o',A8 s.n rs,A8 s.n rs+(n' -c.bn),Ay (Cf (Bv c.bn ps.m (A8 s.n rs)) rs'),[],[],false⟩ ⟨rfl,rfl,rfl,rfl⟩ ho rfl hr (ZJ hkp ho hd hw hcl hf hch hp hl hb0 hy he) h
      ·exact h.elim
     split at h
     ·rename_i g hout;exact fin' _ (by rw [hout];rfl) h
     ·rename_i p g hout;exact fin' _ (by rw [hout];exact ⟨h.1,rfl⟩) h.2
     ·rename_i m hout
      obtain ⟨y,h1,h2⟩:=h
      exact fin' y (by rw [hout];exact h1) h2
   ·split at h
    ·rename_i c x he
     obtain ⟨h1,h2⟩:=CJ h
     exact ihR ⟨i,o,pu,[],A8 s.n rs,A8 s.n rs,x,[],[],false⟩ ⟨rfl,rfl,rfl,rfl⟩ ho rfl hrange (br htb ho hd hw he h1) h2
    ·rename_i b he
     split at h
     ·exact h.elim
     ·exact ihR ⟨i,o,false,[(A8 s.n rs,b)],A8 s.n rs,A8 s.n rs+1,HS b (A8 s.n rs),[],[],false⟩ ⟨rfl,rfl,rfl,rfl⟩ ho rfl (Hz _ _) (bp htb ho hd hw he) h
    ·rename_i c o1 n' v he
     split at h
     case h_2=>exact h.elim
     rename_i hr _
     obtain ⟨h1,h2⟩:=CJ h
     exact ihR ⟨i,o,false,o1,A8 s.n rs,n',v,[],[],false⟩ ⟨rfl,rfl,rfl,rfl⟩ ho rfl hr (gH htb ho hd hw he h1) h2
    ·split at h
     ·unfold ZG at h
      split at h
      case h_2=>exact h.elim
      rename_i T x lo hi hop
      split at h
      case h_2=>exact h.elim
      rename_i q hx
      split at h
      case h_2=>exact h.elim
      rename_i c o1 n' v he
      split at h
      case h_2=>exact h.elim
      rename_i hr
      obtain ⟨h1,h2⟩:=CJ h
      exact ihR ⟨i,o,true,o1,A8 s.n rs,n',v,[],[],false⟩ ⟨rfl,rfl,rfl,rfl⟩ ho rfl hr (gJ htb ho hd hw hop hx he h1) h2
     ·split at h
      ·obtain ⟨h1,h2⟩:=CJ h
       obtain ⟨r',k1,k2,k3⟩:=Hn (r:=⟨i,o,false,[],A8 s.n rs,A8 s.n rs,_,[],[],true⟩) hg ho rfl hrange (ZK htb ho hd rfl hw (by assumption) h1 (by assumption) rfl) h2
       exact ih r' k1 k2 k3
      ·split at h
       case h_2=>exact h.elim
       rename_i hr
       obtain ⟨h1,h2⟩:=CJ h
       obtain ⟨r',k1,k2,k3⟩:=Hn (r:=⟨i,o,false,_,A8 s.n rs,_,_,[],[],true⟩) hg ho rfl hr (WL htb ho hd rfl hw (by assumption) h1 (by assumption)) h2
       exact ih r' k1 k2 k3
      ·split at h
       case h_2=>exact h.elim
       revert h
       rename_i x hx _ _ _ _
       intro h
       obtain ⟨hok,hxe⟩:=ZM (w0:=w0) (F:=F) (D0:=D0) htb ho hd hw hx rfl
       rcases hxe with ⟨a,b,hxe⟩|⟨a,hxe⟩
       ·subst hxe
        rw [E0,Rec.Ft] at h
        exact ih ⟨i,o,false,[],A8 s.n rs,A8 s.n rs,.ptr a b,[],[],true⟩ rfl (hg.add ho rfl hrange (.SJ hok)) h
       ·subst hxe
        rw [E0,Rec.Ft] at h
        exact ih ⟨i,o,false,[],A8 s.n rs,A8 s.n rs,.CC a,[],[],true⟩ rfl (hg.add ho rfl hrange (.SJ hok)) h
    ·exact h.elim
  ·exact h.elim
  ·exact h.elim
end
end Go.En
