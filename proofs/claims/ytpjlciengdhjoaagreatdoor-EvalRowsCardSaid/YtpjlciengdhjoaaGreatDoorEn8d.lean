/-
 The evaluation is sound: rows of rows: append, make; maps: make, update, lookup.
-/
import Derived.Test.YtpjlciengdhjoaaGreatDoorEn8
namespace Go.En
open Go.RowKit
section
variable {S:As} {P:Program} {w0:World} {F D0 D:Nat->Prop} {s:St S} {N:Nat->Prop} {β:Nat->Nm} {a:Act} {w:World}
theorem Nm.X3 (n:Nm) (c:Nat): ∃ a l k,n.hd c=.slice a l k:=by
 unfold Nm.hd;split
 ·split
  ·exact ⟨_,_,_,rfl⟩
  ·exact ⟨_,_,_,rfl⟩
 ·exact ⟨_,_,_,rfl⟩
def We (b:Option Nat) (len cap:Nat) (L:List Value):Nm:=⟨b,len,cap,.tuple L.toArray⟩
theorem Ys {b:Option Nat} {len cap:Nat} {L:List Value} {c:Nat} {x:Option Addr} {l k:Nat} (h:L[c]?=some (.slice x l k)):(We b len cap L).hd c=.slice x l k:=by
 simp [We,Nm.hd,h]
theorem bP {b:Option Nat} {len cap:Nat} {L:List Value} {c g k:Nat} (h:(We b len cap L).sub c=some (g,k)): ∃ v,L[c]?=some v/\v.ownBlock=some g:=by
 unfold Nm.sub We at h
 simp only [List.getElem?_toArray] at h
 split at h
 ·rename_i b' o s m k' hc
  simp only [am,bi] at h
  obtain ⟨rfl,rfl⟩:=h
  exact ⟨_,hc,rfl⟩
 ·cases h
inductive Ml (S:As) (w:World) (D:Nat->Prop) (β:Nat->Nm) (o:List (Nat×Own S)):List (FC S.T)->List Value->List Nat->Prop where
 | nil:Ml S w D β o [] [] []
 | plain {f:FC S.T} {v:Value} {r:List (FC S.T)} {vs:List Value} {js:List Nat} (hf: ∀ σ E m,f≠.ow σ E m) (h:Ml S w D β o r vs js):Ml S w D β o (f::r) (v::vs) js
 | none {σ E:Nat} {r:List (FC S.T)} {vs:List Value} {js:List Nat} (h:Ml S w D β o r vs js):Ml S w D β o (.ow σ E []::r) (.slice none 0 0::vs) js
 | own {σ E j:Nat} {m:List (S.T σ)} {v:Value} {us:List Value} {r:List (FC S.T)} {vs:List Value} {js:List Nat} (hj:lk o j=some (.tr σ E m)) (hv:v.ownBlock=(β j).b) (hr:w.ownsRow 0 E (S.sz σ) v m.length us) (hu:AG S w D (S.flat σ m) us) (h:Ml S w D β o r vs js):Ml S w D β o (.ow σ E m::r) (v::vs) (j::js)
theorem Ml.append {o:List (Nat×Own S)} {fs gs:List (FC S.T)} {vs us:List Value} {js ks:List Nat} (h:Ml S w D β o fs vs js) (t:Ml S w D β o gs us ks):Ml S w D β o (fs++gs) (vs++us) (js++ks):=by
 induction h with
 | nil=>exact t
 | plain hf _ ih=>exact .plain hf ih
 | none _ ih=>exact .none ih
 | own hj hv hr hu _ ih=>exact .own hj hv hr hu ih
theorem Ml.get {o:List (Nat×Own S)} {fs:List (FC S.T)} {vs:List Value} {js:List Nat} (h:Ml S w D β o fs vs js): ∀ {c σ E:Nat} {m:List (S.T σ)},fs[c]?=some (.ow σ E m)-> ∃ v,vs[c]?=some v/\(∃ us,w.ownsRow 0 E (S.sz σ) v m.length us/\AG S w D (S.flat σ m) us)/\
  ∀ g,v.ownBlock=some g-> ∃ j∈js,∃ σ' E' m',lk o j=some (.tr σ' E' m')/\(β j).b=some g:=by
 induction h with
 | nil=>intro c σ E m h;simp at h
 | plain hf _ ih=>
  intro c σ E m h
  cases c with
  | zero=>simp only [List.getElem?_cons_zero,am] at h;exact absurd h (hf _ _ _)
  | succ c=>simp only [List.getElem?_cons_succ] at h ⊢; exact ih h
 | none _ ih=>
  intro c σ E m h
  cases c with
  | zero=>
   simp only [List.getElem?_cons_zero,am] at h
   cases h
   exact ⟨_,rfl,⟨[],World.ownsRow_nil w 0 _ _,by simpa [As.flat] using AG.nil⟩,fun g hg=>by simp [Value.ownBlock] at hg⟩
  | succ c=>simp only [List.getElem?_cons_succ] at h ⊢; exact ih h
 | own hj hv hr hu _ ih=>
  intro c σ E m h
  cases c with
  | zero=>
   simp only [List.getElem?_cons_zero,am] at h
   cases h
   exact ⟨_,rfl,⟨_,hr,hu⟩,fun g hg=>⟨_,List.mem_cons_self,_,_,_,hj,by rw [<-hv];exact hg⟩⟩
  | succ c=>
   simp only [List.getElem?_cons_succ] at h ⊢
   obtain ⟨v,h1,h2,h3⟩:=ih h
   exact ⟨v,h1,h2,fun g hg=>let ⟨j,hj,r⟩:=h3 g hg;⟨j,mt _ hj,r⟩⟩
theorem RP {i:Nat}: ∀ {l:List Nat},X1 i l=true↔i∈l
 | []=>by simp [X1]
 | j::r=>by
  simp only [X1]
  split
  ·rename_i h;have:=ac h;subst this;simp
  ·rename_i h
   rw [RP (l:=r)]
   have:¬ j=i:=fun e=>by subst e;simp at h
   simp [Ne.symm this]
theorem PE: ∀ {l:List Nat},QV l=true->l.Nodup
 | [],_=>List.nodup_nil
 | j::r,h=>by
  simp only [QV] at h
  split at h
  ·cases h
  ·rename_i hj
   refine List.nodup_cons.2 ⟨fun hm=>?_,PE h⟩
   rw [RP.2 hm] at hj;cases hj
theorem Ml.inj {o:List (Nat×Own S)} {M:Nat->Prop} (hg:GH w0 F D0 D o M β w) {fs:List (FC S.T)} {vs:List Value} {js:List Nat} (h:Ml S w D β o fs vs js) (hn:js.Nodup): ∀ {c d σ E σ' E':Nat} {m:List (S.T σ)} {m':List (S.T σ')} {v v':Value} {g:Nat},fs[c]?=some (.ow σ E m)->fs[d]?=some (.ow σ' E' m')->vs[c]?=some v->vs[d]?=some v'->v.ownBlock=some g->v'.ownBlock=some g->c=d:=by
 induction h with
 | nil=>intro c d σ E σ' E' m m' v v' g h;simp at h
 | plain hf _ ih=>
  intro c d σ E σ' E' m m' v v' g h1 h2 h3 h4 h5 h6
  cases c with
  | zero=>simp only [List.getElem?_cons_zero,am] at h1;exact absurd h1 (hf _ _ _)
  | succ c=>
   cases d with
   | zero=>simp only [List.getElem?_cons_zero,am] at h2;exact absurd h2 (hf _ _ _)
   | succ d=>simp only [List.getElem?_cons_succ] at h1 h2 h3 h4;rw [ih hn h1 h2 h3 h4 h5 h6]
 | none _ ih=>
  intro c d σ E σ' E' m m' v v' g h1 h2 h3 h4 h5 h6
  cases c with
  | zero=>simp only [List.getElem?_cons_zero,am] at h3;subst h3;simp [Value.ownBlock] at h5
  | succ c=>
   cases d with
   | zero=>simp only [List.getElem?_cons_zero,am] at h4;subst h4;simp [Value.ownBlock] at h6
   | succ d=>simp only [List.getElem?_cons_succ] at h1 h2 h3 h4;rw [ih hn h1 h2 h3 h4 h5 h6]
 | own hj hv hr hu hrest ih=>
  intro c d σ E σ' E' m m' v v' g h1 h2 h3 h4 h5 h6
  obtain ⟨hn1,hn2⟩:=List.nodup_cons.1 hn
  cases c with
  | zero=>
   cases d with
   | zero=>rfl
   | succ d=>
    simp only [List.getElem?_cons_zero,List.getElem?_cons_succ,am] at h2 h3 h4
    subst h3
    obtain ⟨v1,k1,_,k3⟩:=hrest.get h2
    rw [h4] at k1;cases k1
    obtain ⟨j',hm',_,_,_,hl',hb'⟩:=k3 g h6
    have:=hg.inj _ _ _ _ g hj hl' (.inl (by rw [<-hv];exact h5)) (.inl hb')
    subst this;exact absurd hm' hn1
  | succ c=>
   cases d with
   | zero=>
    simp only [List.getElem?_cons_zero,List.getElem?_cons_succ,am] at h1 h3 h4
    subst h4
    obtain ⟨v1,k1,_,k3⟩:=hrest.get h1
    rw [h3] at k1;cases k1
    obtain ⟨j',hm',_,_,_,hl',hb'⟩:=k3 g h5
    have:=hg.inj _ _ _ _ g hj hl' (.inl (by rw [<-hv];exact h6)) (.inl hb')
    subst this;exact absurd hm' hn1
   | succ d=>simp only [List.getElem?_cons_succ] at h1 h2 h3 h4;rw [ih hn2 h1 h2 h3 h4 h5 h6]
theorem bj {o:List (Nat×Own S)} {M:Nat->Prop} (hg:GH w0 F D0 D o M β w) {σ E:Nat} {v:SV} {l:List (S.T σ)} {j:Option Nat} (h:gD o σ E v=some (l,j)) {r:List (FC S.T)} {vs:List Value} {js:List Nat} (t:Ml S w D β o r vs js):
  Ml S w D β o (.ow σ E l::r) (v.den β::vs) (XQ j js)/\Av S w D (.ow σ E l) (v.den β):=by
 unfold gD at h
 split at h
 ·rename_i i
  split at h
  case h_2=>cases h
  rename_i σ' E' l' hi
  split at h
  case h_2=>cases h
  rename_i he hE _
  have hE:=ac hE;subst hE
  subst he
  cases h
  obtain ⟨hlen,us,hrow,hu⟩:=hg.own i _ hi
  simp only [SV.den,hlen,XQ]
  exact ⟨.own hi (by cases (β i).b<;>rfl) hrow hu t,.ow _ _ _ _ _⟩
 ·rename_i n c
  split at h
  case h_2=>cases h
  rename_i h1 h2
  cases h
  rw [ac h1,ac h2]
  exact ⟨.none t,.ow σ E [] none 0⟩
 ·cases h
theorem Qa {o:List (Nat×Own S)} {M:Nat->Prop} (hg:GH w0 F D0 D o M β w): ∀ {fs:List Fd} {vs z:List SV} {p:Ps S.T fs} {js:List Nat},R4 o fs vs=some (p,js,z)-> ∃ us,vs=us++z/\AG S w D (EG fs p) (AD β us)/\Ml S w D β o (EG fs p) (AD β us) js
 | [],vs,z,p,js,h=>by
  simp only [R4,am,bi] at h
  obtain ⟨_,rfl,rfl⟩:=h
  exact ⟨[],rfl,by simpa [EG,AD] using AG.nil,by simpa [EG,AD] using Ml.nil⟩
 | f::r,[],z,p,js,h=>by cases f<;>simp [R4] at h
 | f::r,v::vs,z,p,js,h=>by
  have plain:(∀ y:f.T S.T,∀ σ E m,f.fc y≠.ow σ E m)->(match rd o f v with
    | some y=>match R4 o r vs with
     | some (q,js,z)=>some ((y,q),js,z)
     | none=>none
    | none=>none:Option (Ps S.T (f::r)×List Nat×List SV))=some (p,js,z)-> ∃ us,v::vs=us++z/\AG S w D (EG (f::r) p) (AD β us)/\Ml S w D β o (EG (f::r) p) (AD β us) js:=fun hf h=>by
   split at h
   case h_2=>cases h
   rename_i y hy
   split at h
   case h_2=>cases h
   rename_i q ks z' hq
   cases h
   obtain ⟨us,rfl,h1,h2⟩:=Qa hg hq
   exact ⟨v::us,rfl,by simpa [EG,AD] using AG.cons (R5 hg hy) h1,by simpa [EG,AD] using Ml.plain (hf _) h2⟩
  cases f with
  | ow σ E=>
   simp only [R4] at h
   split at h
   case h_2=>cases h
   rename_i l j hl
   split at h
   case h_2=>cases h
   rename_i q ks z' hq
   cases h
   obtain ⟨us,rfl,h1,h2⟩:=Qa hg hq
   obtain ⟨h3,h4⟩:=bj hg hl h2
   exact ⟨v::us,rfl,by simpa [EG,AD,Fd.fc] using AG.cons h4 h1,by simpa [EG,AD,Fd.fc] using h3⟩
  | int k=>exact plain (fun y σ E m=>by simp [Fd.fc]) h
  | bool=>exact plain (fun y σ E m=>by simp [Fd.fc]) h
  | str=>exact plain (fun y σ E m=>by simp [Fd.fc]) h
  | sl τ=>exact plain (fun y σ E m=>by simp [Fd.fc]) h
theorem PI {o:List (Nat×Own S)} {M:Nat->Prop} (hg:GH w0 F D0 D o M β w) {τ:Nat}: ∀ {n:Nat} {cs:List SV} {l:List (S.T τ)} {js:List Nat},LB o τ n cs=some (l,js)->l.length=n/\AG S w D (S.flat τ l) (AD β cs)/\Ml S w D β o (S.flat τ l) (AD β cs) js
 | 0,[],l,js,h=>by simp only [LB,am,bi] at h;obtain ⟨rfl,rfl⟩:=h;exact ⟨rfl,by simpa [As.flat,AD] using AG.nil,by simpa [As.flat,AD] using Ml.nil⟩
 | 0,_::_,l,js,h=>by simp [LB] at h
 | n+1,cs,l,js,h=>by
  simp only [LB] at h
  split at h
  case h_2=>cases h
  rename_i p ks z hp
  split at h
  case h_2=>cases h
  rename_i l' ks' hl
  cases h
  obtain ⟨us,rfl,h1,h2⟩:=Qa hg hp
  obtain ⟨h3,h4,h5⟩:=PI hg hl
  have e:S.enc τ (S.of τ p)=EG (S.fds τ) p:=by unfold As.enc;rw [S.FF]
  refine ⟨by simp [h3],?_,?_⟩
  ·rw [S.Bw,CZ,e];exact h1.append h4
  ·rw [S.Bw,CZ,e];exact h2.append h5
def WC {T:Nat->Type}:List (FC T)->List Value->List Value
 | .ow _ _ _::r,v::vs=>v::WC r vs
 | _::r,_::vs=>undef::WC r vs
 | _,_=>[]
theorem U7 {T:Nat->Type}: ∀ {fs:List (FC T)} {vs:List Value} {c:Nat} {v:Value},(WC fs vs)[c]?=some v->(∃ σ E m,fs[c]?=some (.ow σ E m)/\vs[c]?=some v)\/v=undef
 | [],vs,c,v,h=>by simp [WC] at h
 | f::r,[],c,v,h=>by cases f<;>simp [WC] at h
 | f::r,u::vs,0,v,h=>by
  cases f with
  | ow σ E m=>simp only [WC,List.getElem?_cons_zero,am] at h;subst h;exact .inl ⟨σ,E,m,rfl,rfl⟩
  | _=>simp only [WC,List.getElem?_cons_zero,am] at h;exact .inr h.symm
 | f::r,u::vs,c+1,v,h=>by
  have:(WC r vs)[c]?=some v:=by cases f<;>simpa [WC] using h
  simpa using U7 this
theorem Y5 {T:Nat->Type}: ∀ {fs:List (FC T)} {vs:List Value} {c σ E:Nat} {m:List (T σ)} {v:Value},fs[c]?=some (.ow σ E m)->vs[c]?=some v->(WC fs vs)[c]?=some v
 | [],vs,c,_,_,_,v,h,_=>by simp at h
 | f::r,[],c,_,_,_,v,_,h=>by simp at h
 | f::r,u::vs,0,σ,E,m,v,h,k=>by
  simp only [List.getElem?_cons_zero,am] at h k
  subst h;subst k;rfl
 | f::r,u::vs,c+1,σ,E,m,v,h,k=>by
  simp only [List.getElem?_cons_succ] at h k
  have:=Y5 h k
  cases f<;>simpa [WC] using this
theorem T5 {α:Type}: ∀ {js:List Nat} {o:List (Nat×α)} {i:Nat} {b:α},lk (dR o js) i=some b->lk o i=some b/\i ∉ js
 | [],o,i,b,h=>⟨h,by simp⟩
 | j::r,o,i,b,h=>by
  obtain ⟨h1,h2⟩:=T5 (js:=r) h
  rw [Cy] at h1
  split at h1
  ·cases h1
  ·rename_i hne;exact ⟨h1,by simp [Ne.symm hne,h2]⟩
theorem XA (hg:GH w0 F D0 D s.o N β w) {τ e:Nat} {x:SV} {d:Option Nat} {l:List (S.T τ)} (h:W9 s τ e x=some (d,l)):
  ∃ (nm:Nm) (vs:List Value),w.ownsRow 0 e (S.sz τ) (x.den β) l.length vs/\AG S w D (S.flat τ l) vs/\OZ S w D nm τ l vs/\(x.den β).ownBlock=nm.b/\(∀ k,nm.has k-> ∃ i E l',d=some i/\lk s.o i=some (.dp τ E l')/\(β i).has k):=by
 unfold W9 at h
 split at h
 ·rename_i n c
  split at h
  ·rename_i h1 h2
   cases h
   rw [ac h1,ac h2]
   exact ⟨⟨none,0,0,undef⟩,[],by simpa [SV.den] using World.ownsRow_nil w 0 e (S.sz τ),by simpa [As.flat] using AG.nil,⟨fun e x off σ E m hx=>by simp at hx,fun c d b k k' hs=>(by rw [Nm.BI] at hs;cases hs),fun c b k hs=>(by rw [Nm.BI] at hs;cases hs)⟩,rfl,fun k hk=>absurd hk (Nm.Fe rfl (fun _=>Nm.BI) k)⟩
  ·cases h
 ·rename_i i
  split at h
  case h_2=>cases h
  rename_i τ' E l' hi
  split at h
  ·rename_i he hE _
   subst he
   cases h
   have hE:=ac hE;subst hE
   obtain ⟨hlen,vs,hrow,hvs,hn⟩:=hg.own i _ hi
   exact ⟨β i,vs,by simp only [SV.den,hlen];exact hrow,hvs,hn,by simp only [SV.den];cases (β i).b<;>rfl,fun k hk=>⟨i,_,_,rfl,hi,hk⟩⟩
  ·cases h
 ·cases h
theorem Sm {tb:List (Nat×TI)} (htb:Ae S P tb) (hg:G w0 F D0 D s N β a w) {op:Oper} {T:Nat} {x y:Operand} (hop:op.op=.call ⟨.builtin .append,#[x,y],#[T,T]⟩):R.Sound P w0 F D0 D s N β a w op (dx tb s T x y):=by
 unfold dx
 split
 case h_2=>trivial
 rename_i e esz ht
 have hd:=Ag htb ht
 simp only [TD.ok] at hd
 split
 case h_2=>trivial
 rename_i te hte
 have hoe:=htb.get hte
 split
 case h_2=>trivial
 rename_i τ hτ
 obtain ⟨hsz,hpos,_,_⟩:=hoe.oq τ hτ
 split
 case h_2=>trivial
 rename_i xv k m hz hx hy
 split
 case h_2=>trivial
 rename_i d l E z m' cs hb hk
 split
 case h_2=>trivial
 rename_i l' js hm hz2 hrd
 split
 case h_2=>trivial
 rename_i hcond
 simp only [dl] at hcond
 have hm1:=dk hcond.1
 have hnd:=PE hcond.2
 have hm:=ac hm;subst hm
 have hz2:=ac hz2;subst hz2
 intro hroom hN
 subst hN
 simp only [Cd,room,ii] at hroom
 obtain ⟨nm,vs,hown,hvs,hnest,A5,hhas⟩:=XA hg.gh hb
 obtain ⟨hl',hus,howl⟩:=PI hg.gh hrd
 have hkrow:=hg.gh.own k _ hk
 have hkb:=A6 hkrow (by omega)
 have hinf:=hoe.info
 cases hi:P.info? e with
 | none=>simp [hi] at hinf
 | some i=>
 simp only [hi,Option.map_some,am,bi] at hinf
 obtain ⟨hiz,his,hib⟩:=hinf
 have hzc:te.z.cells.size=te.sz:=by rw [<-Array.length_toList,hoe.zc β,AI,hoe.zl]
 rw [hsz] at hown
 have e1:a.eval x=xv.den β:=AE hg hx
 have e2:a.eval y=.slice (some ⟨(β k).AX,0,none⟩) l'.length (β k).cap:=by rw [AE hg hy];simp only [SV.den,hkb,hl'];rfl
 have hlen_le:l.length+l'.length<=(l.length+l'.length)*(te.bs+1):=Nat.le_mul_of_pos_right _ (by omega)
 obtain ⟨v',w',hr,h2,h3,h4⟩:=CE w T op.type e i te.z te.sz te.bs hd.1 hi hiz his hib hzc hpos (xv.den β) l.length vs hown ⟨(β k).AX,0,none⟩ l'.length (β k).cap (AD β cs) (by rw [<-hus.1,S.Au,hsz])
  (fun j u hu=>by rw [add_lit,Nat.zero_add];exact (BE hkrow hu).2) hus.WB (by simp only [maxLen];omega) (Nat.le_trans (Nat.mul_le_mul_left _ (by omega)) hroom)
 have hnmlt: ∀ g,nm.has g->g<w.heap.size:=fun g hg'=>let ⟨i,E,l',_,a2,a3⟩:=hhas g hg';hg.gh.lt i _ g a2 a3
 obtain ⟨hgh,hD⟩:=hg.gh.Y0 (d:=d) h3 (fun g hg'=>by
  rw [A5] at hg'
  obtain ⟨i,E,l',a1,a2,a3⟩:=hhas g (.inl hg')
  exact ⟨i,_,a1,a2,a3⟩)
 have hgh2:=hgh.Hh (o':=dR (EU s.o d) js) (fun i b h=>(T5 h).1)
 obtain ⟨hv',hv2,hv3⟩:=EK (len:=(l++l').length) (n:=(l++l').length) (w:=w') (e:=e) (size:=te.sz) (base:=0) (v:=v') (xs:=vs++AD β cs) (by rw [List.length_append];exact h2)
 -- the new name's cells
 have hvl:vs.length=l.length*S.sz τ:=by rw [<-hvs.1,S.Au]
 let L:List Value:=(List.range (l.length*S.sz τ)).map nm.hd++WC (S.flat τ l') (AD β cs)
 have hL1: ∀ c,c<l.length*S.sz τ->L[c]?=some (nm.hd c):=fun c hc=>by
  simp only [L]
  rw [el (by simpa using hc)]
  simp [hc]
 have hL2: ∀ c,L[l.length*S.sz τ+c]?=(WC (S.flat τ l') (AD β cs))[c]?:=fun c=>by
  simp only [L]
  rw [kw (by simp)]
  simp
 have hsub: ∀ c g cap,(We (CD (l++l').length v').b (l++l').length (CD (l++l').length v').cap L).sub c=some (g,cap)->
   (c<l.length*S.sz τ/\ ∃ cap',nm.sub c=some (g,cap'))\/(∃ q,c=l.length*S.sz τ+q/\ ∃ σ E m v,(S.flat τ l')[q]?=some (.ow σ E m)/\(AD β cs)[q]?=some v/\v.ownBlock=some g/\ ∃ j∈js,∃ σ' E' m',lk s.o j=some (.tr σ' E' m')/\(β j).b=some g):=fun c g cap hs=>by
  obtain ⟨v,hv,hvb⟩:=bP hs
  by_cases hc:c<l.length*S.sz τ
  ·rw [hL1 c hc] at hv;cases hv
   exact .inl ⟨hc,Nm.NM hvb⟩
  ·obtain ⟨q,rfl⟩: ∃ q,c=l.length*S.sz τ+q:=⟨c -l.length*S.sz τ,by omega⟩
   rw [hL2] at hv
   rcases U7 hv with ⟨σ,E,m,k1,k2⟩|rfl
   ·obtain ⟨v1,k3,_,k4⟩:=howl.get k1
    rw [k2] at k3;cases k3
    exact .inr ⟨q,rfl,σ,E,m,v,k1,k2,hvb,k4 g hvb⟩
   ·simp [undef,Value.ownBlock] at hvb
 have hblkcase: ∀ g,v'.ownBlock=some g->nm.b=some g\/g=w.heap.size:=fun g hg'=>by
  rcases h4 with h4|h4|h4<;>rw [hg'] at h4
  ·cases h4
  ·rw [A5] at h4;exact .inl h4.symm
  ·simp only [am] at h4;exact .inr h4
 have hdj: ∀ {j:Nat} {g:Nat} {σ' E':Nat} {m':List (S.T σ')},lk s.o j=some (.tr σ' E' m')->(β j).b=some g->¬ nm.has g:=fun {j g σ' E' m'} hj hjb hng=>by
  obtain ⟨i,E,l1,_,a2,a3⟩:=hhas g hng
  have:=hg.gh.inj i j _ _ g a2 hj a3 (.inl hjb)
  subst this
  rw [a2] at hj;cases hj
 have hold: ∀ g,g<w.heap.size->nm.b≠some g->w'.heap[g]?=w.heap[g]?:=fun g hgl hne=>h3.block g hgl fun e=>hne (by rw [A5] at e;exact e.symm)
 have hnest':OZ S w' D (We (CD (l++l').length v').b (l++l').length (CD (l++l').length v').cap L) τ (l++l') (vs++AD β cs):=by
  refine ⟨fun e1 x off σ E m hx ho=>?_,fun c c' g k k' hs hs'=>?_,fun c g k hs=>?_⟩
  ·have hoz:=JH ho
   by_cases he:e1<l.length
   ·rw [el he] at hx
    obtain ⟨k1,us,k2,k3⟩:=hnest.row e1 x off σ E m hx ho
    have hc:=mul_lt (z:=S.sz τ) he hoz
    obtain ⟨aa,ll,cc,hsl⟩:=nm.X3 (e1*S.sz τ+off)
    have hhd:(We (CD (l++l').length v').b (l++l').length (CD (l++l').length v').cap L).hd (e1*S.sz τ+off)=nm.hd (e1*S.sz τ+off):=by
     rw [hsl];exact Ys (by rw [hL1 _ hc,hsl])
    rw [hhd]
    refine ⟨by rw [el (by omega)];exact k1,us,DQ k2 fun g hg'=>?_,k3.B4 hD fun _ h=>h⟩
    obtain ⟨cap,hs⟩:=Nm.NM hg'
    exact hold g (hnmlt g (.inr ⟨_,_,hs⟩)) (hnest.ne _ _ _ hs)
   ·rw [kw (by omega)] at hx
    obtain ⟨e2,rfl⟩: ∃ e2,e1=l.length+e2:=⟨e1 -l.length,by omega⟩
    rw [show l.length+e2 -l.length=e2 from by omega] at hx
    have hfl:=S.Jz τ l' e2 x off _ hx ho
    obtain ⟨v,k1,⟨us,k2,k3⟩,k4⟩:=howl.get hfl
    have hce:(l.length+e2)*S.sz τ+off=l.length*S.sz τ+(e2*S.sz τ+off):=by rw [Nat.add_mul];omega
    have hvsl: ∃ aa ll cc,v=.slice aa ll cc:=by
     rcases k2.2 with ⟨rfl,_⟩|⟨_,_,_,rfl,_⟩<;>exact ⟨_,_,_,rfl⟩
    obtain ⟨aa,ll,cc,rfl⟩:=hvsl
    have hhd:(We (CD (l++l').length v').b (l++l').length (CD (l++l').length v').cap L).hd ((l.length+e2)*S.sz τ+off)=.slice aa ll cc:=Ys (by rw [hce,hL2,Y5 hfl k1])
    rw [hhd]
    refine ⟨?_,us,DQ k2 fun g hg'=>?_,k3.B4 hD fun _ h=>h⟩
    ·rw [hce,<- hvl,kw (by omega)];simpa using k1
    ·obtain ⟨j,_,σ',E',m',hj,hjb⟩:=k4 g hg'
     exact hold g (hg.gh.lt j _ g hj (.inl hjb)) fun e=>hdj hj hjb (.inl e)
  ·rcases hsub c g k hs with ⟨c1,k1,s1⟩|⟨q1,rfl,σ1,E1,m1,v1,f1,u1,b1,j1,hj1,_,_,_,l1,t1⟩<;>rcases hsub c' g k' hs' with ⟨c2,k2,s2⟩|⟨q2,rfl,σ2,E2,m2,v2,f2,u2,b2,j2,hj2,_,_,_,l2,t2⟩
   ·exact hnest.inj _ _ _ _ _ s1 s2
   ·exact absurd (.inr ⟨_,_,s1⟩) (hdj l2 t2)
   ·exact absurd (.inr ⟨_,_,s2⟩) (hdj l1 t1)
   ·rw [howl.inj hg.gh hnd f1 f2 u1 u2 b1 b2]
  ·show ¬ (CD (l++l').length v').b=some g
   rw [hv2]
   intro hb'
   rcases hsub c g k hs with ⟨c1,k1,s1⟩|⟨q1,rfl,σ1,E1,m1,v1,f1,u1,b1,j1,hj1,_,_,_,l1,t1⟩
   ·rcases hblkcase g hb' with h5|h5
    ·exact hnest.ne _ _ _ s1 h5
    ·have:=hnmlt g (.inr ⟨_,_,s1⟩);omega
   ·rcases hblkcase g hb' with h5|h5
    ·exact hdj l1 t1 (.inl h5)
    ·have:=hg.gh.lt _ _ g l1 (.inl t1);omega
 have hcase: ∀ g,(We (CD (l++l').length v').b (l++l').length (CD (l++l').length v').cap L).has g->nm.has g\/(∃ j∈js,∃ σ' E' m',lk s.o j=some (.tr σ' E' m')/\(β j).b=some g)\/(g=w.heap.size/\v'.ownBlock=some g):=fun g hg'=>by
  rcases hg' with hg'|⟨c,cap,hs⟩
  ·have hg':(CD (l++l').length v').b=some g:=hg'
   rw [hv2] at hg'
   rcases hblkcase g hg' with h5|h5
   ·exact .inl (.inl h5)
   ·exact .inr (.inr ⟨h5,hg'⟩)
  ·rcases hsub c g cap hs with ⟨_,_,s1⟩|⟨_,_,_,_,_,_,_,_,_,j1,hj1,r⟩
   ·exact .inl (.inr ⟨_,_,s1⟩)
   ·exact .inr (.inl ⟨j1,hj1,r⟩)
 obtain ⟨β',hβ,hβn,hgh'⟩:=hgh2.name (b:=.dp τ e (l++l')) (nm:=We (CD (l++l').length v').b (l++l').length (CD (l++l').length v').cap L) (n:=s.n) (by simp) trivial
  (fun β' hβ hn'=>⟨rfl,vs++AD β cs,by show w'.ownsRow 0 e (S.sz τ) (.slice ((CD (l++l').length v').b.map fun b=>⟨b,0,none⟩) (l++l').length (CD (l++l').length v').cap) _ _;rw [<-hv',hsz,List.length_append];exact h2,by rw [S.Es];exact (hvs.append hus).B4 hD fun _ h=>h,hnest'⟩)
  (fun g hg'=>by
   rcases hcase g hg' with h5|⟨j,_,_,_,_,h6,h7⟩|⟨h5,_⟩
   ·obtain ⟨i,E,l1,_,a2,a3⟩:=hhas g h5;exact hg.gh.fresh i _ g a2 a3
   ·exact hg.gh.fresh j _ g h6 (.inl h7)
   ·subst h5;exact .inl hg.gh.fr.size)
  (fun g hg' hDg=>by
   rcases hcase g hg' with h5|⟨j,_,_,_,_,h6,h7⟩|⟨h5,_⟩
   ·obtain ⟨i,E,l1,_,a2,a3⟩:=hhas g h5;exact hg.gh.off i _ g a2 a3 hDg
   ·exact hg.gh.off j _ g h6 (.inl h7) hDg
   ·subst h5;have:=hg.gh.DL _ hDg;omega)
  (fun i b g hi' hib he=>by
   obtain ⟨h8,h9⟩:=T5 hi'
   have h10:=Ea i b h8
   rcases hcase g he with h5|⟨j,hj,_,_,_,h6,h7⟩|⟨h5,_⟩
   ·obtain ⟨i0,E,l1,a1,a2,a3⟩:=hhas g h5
    have:=hg.gh.inj i i0 b _ g h10 a2 hib a3
    subst this
    subst a1
    simp [EU,Cy] at h8
   ·have:=hg.gh.inj i j b _ g h10 h6 hib (.inl h7)
    subst this;exact h9 hj
   ·subst h5;have:=hg.gh.lt i b _ h10 hib;omega)
  (fun g hg'=>by
   rcases hcase g hg' with h5|⟨j,_,_,_,_,h6,h7⟩|⟨h5,h6⟩
   ·exact dg (hnmlt g h5) h3.size
   ·exact dg (hg.gh.lt j _ g h6 (.inl h7)) h3.size
   ·exact ownsRow_blk_lt h2 h6)
 rw [DG] at hgh'
 refine ⟨β',w',?_,hβ,hgh',by simp [SV.on],by omega⟩
 unfold execOp
 simp only [hop,resolve,invoke,builtin,Sem.run_bind,Sem.run_pure,Result.andThen_ok,List.map_toArray,List.map_cons,List.map_nil,e1,e2,hr,SV.den,hβn]
 show Result.ok (Next.value v') w'=Result.ok (Next.value (.slice ((CD (l++l').length v').b.map fun b=>⟨b,0,none⟩) (l++l').length (CD (l++l').length v').cap)) w'
 rw [<-hv']
theorem Ro {tb:List (Nat×TI)} (htb:Ae S P tb) (hg:G w0 F D0 D s N β a w) {op:Oper} {T:Nat} {l c:Operand} (hop:op.op=.makeSlice T l c):R.Sound P w0 F D0 D s N β a w op (Yk tb s T l c):=by
 unfold Yk
 split
 case h_2=>trivial
 rename_i e esz ht
 have hd:=Ag htb ht
 simp only [TD.ok] at hd
 split
 case h_2=>trivial
 rename_i te hte
 have hoe:=htb.get hte
 split
 case h_2=>trivial
 rename_i τ hτ
 obtain ⟨hsz,hpos,hdat⟩:=hoe.oq τ hτ
 split
 case h_2=>trivial
 rename_i kl L kc C hz hl hcc
 intro hc hN
 simp only [Cd,ii] at hc
 obtain ⟨h0,hLC,hb⟩:=hc
 have hinf:=hoe.info
 cases hi:P.info? e with
 | none=>simp [hi] at hinf
 | some i=>
 simp only [hi,Option.map_some,am,bi] at hinf
 obtain ⟨hiz,his,hib⟩:=hinf
 have hC0:0<=C:=Int.le_trans h0 hLC
 have hbC:(te.bs:Int)*C<=281474976710656/\C<=281474976710656:=by
  have e1:C*((te.bs:Int)+1)=te.bs*C+C:=by rw [Int.mul_add,Int.mul_one,Int.mul_comm]
  have e2:0<=(te.bs:Int)*C:=Int.mul_nonneg (by omega) hC0
  omega
 have hr:=run_make w T e i te.z hd.1 hi hiz kl kc L C h0 hLC (by rw [hib];exact hbC.1) (by omega)
 have hzc:te.z.cells.toList=AD β te.zc:=hoe.zc β
 have hzs:te.z.cells.size=te.sz:=by rw [<-Array.length_toList,hzc,AI,hoe.zl]
 have hmade:(madeCells te.z.cells (C.toNat*i.size)).toList=DJ C.toNat te.z.cells.toList:=by
  have:=Nl te.z.cells C.toNat (by omega)
  rw [hzs] at this
  rw [his,madeCells,hzs,this]
 have hzl:te.z.cells.toList.length=te.sz:=by simpa using hzs
 have hrep: ∀ n,S.flat τ (List.replicate n (S.A4 τ))=DJ n (S.enc τ (S.A4 τ)):=fun n=>by
  induction n with
  | zero=>rfl
  | succ n ih=>rw [List.replicate_succ,S.Bw,ih];rfl
 have hrepok: ∀ n (w:World),AG S w D (DJ n (S.enc τ (S.A4 τ))) (DJ n te.z.cells.toList):=fun n w=>by
  induction n with
  | zero=>exact AG.nil
  | succ n ih=>exact (IU hdat).append ih
 have hnest: ∀ (n:Nat) (w:World),∀ e1 x off σ E (m:List (S.T σ)),(List.replicate n (S.A4 τ))[e1]?=some x->(S.enc τ x)[off]?=some (.ow σ E m)->(DJ n te.z.cells.toList)[e1*S.sz τ+off]?=some ((⟨some 0,0,0,undef⟩:Nm).hd (e1*S.sz τ+off))/\
   ∃ us,w.ownsRow 0 E (S.sz σ) ((⟨some 0,0,0,undef⟩:Nm).hd (e1*S.sz τ+off)) m.length us/\AG S w D (S.flat σ m) us:=fun n w e1 x off σ E m hx ho=>by
  have hoz:=JH ho
  rw [List.getElem?_replicate] at hx
  split at hx
  case isFalse=>cases hx
  rename_i hen
  cases hx
  rw [hdat.1,List.getElem?_map] at ho
  obtain ⟨f,hf,hff⟩:=Option.map_eq_some_iff.1 ho
  have hfo:f=.ow σ E/\m=[]:=by cases f<;>simp only [Fd.PV] at hff<;>cases hff;exact ⟨rfl,rfl⟩
  obtain ⟨rfl,rfl⟩:=hfo
  have hc:(DJ n te.z.cells.toList)[e1*S.sz τ+off]?=some (.slice none 0 0):=by
   have hlt:e1*S.sz τ+off<n*te.z.cells.toList.length:=by rw [hzl,<- hsz];exact mul_lt hen hoz
   rw [N5 _ _ _ hlt,hzl,<- hsz,Nat.mul_comm,Nat.mul_add_mod,Nat.mod_eq_of_lt hoz,hdat.2,List.getElem?_map,hf]
   rfl
  exact ⟨hc,[],World.ownsRow_nil w 0 _ _,by simpa [As.flat] using AG.nil⟩
 have hh: ∀ β':Nat->Nm,(Own.dp τ e (List.replicate L.toNat (S.A4 τ)):Own S).holds D β' (w.alloc (.cells (madeCells te.z.cells (C.toNat*i.size)) e)) ⟨some w.heap.size,L.toNat,C.toNat,undef⟩:=fun β'=>by
  have hle:L.toNat<=C.toNat:=by omega
  refine ⟨by simp,DJ L.toNat te.z.cells.toList,⟨by rw [IJ,hzl,List.length_replicate,hsz],.inr ⟨w.heap.size,C.toNat,_,rfl,Nat.zero_le _,heap_alloc_new w _,by rw [List.length_replicate];exact hle,by simp only [maxLen];omega,by rw [size_madeCells,his,hsz],?_⟩⟩,by rw [hrep];exact hrepok _ _,?_,fun c d b k k' hs=>(by rw [Nm.BI] at hs;cases hs),fun c b k hs=>(by rw [Nm.BI] at hs;cases hs)⟩
  rotate_left
  ·exact hnest _ _
  rw [hmade,List.length_replicate,hsz]
  obtain ⟨d,hd'⟩: ∃ d,C.toNat=L.toNat+d:=⟨C.toNat -L.toNat,by omega⟩
  rw [hd',<- hzl]
  clear hd' hle
  have key: ∀ (k d:Nat) (z:List Value),(DJ (k+d) z).take (k*z.length)=DJ k z:=by
   intro k d z
   induction k with
   | zero=>simp [DJ]
   | succ k ih=>
    rw [show k+1+d=(k+d)+1 from by omega]
    simp only [DJ]
    rw [show (k+1)*z.length=z.length+k*z.length from by rw [Nat.add_mul];omega,List.take_length_add_append]
    rw [ih]
  exact key _ _ _
 obtain ⟨β',h1,h2⟩:=CG.alloc (D:=D) (N:=N) (β:=β) (n:=s.n) (hN s.n (Nat.le_refl _) (lw _)) (b:=.dp τ e (List.replicate L.toNat (S.A4 τ))) (w:=w) (ob:=.cells (madeCells te.z.cells (C.toNat*i.size)) e) (len:=L.toNat) (cap:=C.toNat) trivial (fun β' _ _=>hh β')
 refine ⟨β',_,?_,h2,.inr ⟨Nat.le_refl _,lw _⟩⟩
 unfold execOp
 simp only [hop,AE hg hl,AE hg hcc,SV.den,Sem.run_bind,hr,Result.andThen_ok,Sem.run_pure,h1,Option.map_some]
abbrev AT {α:Type} (l:List (List UInt8×α)) (k:List UInt8):Option α:=Di (T:=fun _=>Unit) .str l k
abbrev Bc {α:Type} (l:List (List UInt8×α)) (k:List UInt8) (v:α):List (List UInt8×α):=K7 (T:=fun _=>Unit) .str l k v
def Fq:Fd->TypeDesc
 | .int k=>.int k
 | _=>.string
theorem ax {d:TD} {κ:Fd} {T:Nat} (h:RU d=some κ) (hd:d.ok P T):P.underlying T=some (Fq κ)/\((∃ k,κ=.int k)\/κ=.str):=by
 unfold RU at h
 split at h
 ·cases h;exact ⟨hd,.inl ⟨_,rfl⟩⟩
 ·cases h;exact ⟨hd,.inr rfl⟩
 ·cases h
theorem FV {κ κ':Fd} (h:IP κ' κ=true) (hk:(∃ k,κ'=.int k)\/κ'=.str):κ=κ':=by
 unfold IP at h
 split at h
 ·rw [(DR _ _).1 h]
 ·rfl
 ·cases h
theorem J7 {tb:List (Nat×TI)} (htb:Ae S P tb) {kt:Nat} {κ:Fd} (h:(DS tb kt).bind RU=some κ):P.underlying kt=some (Fq κ)/\((∃ k,κ=.int k)\/κ=.str):=by
 obtain ⟨d,h1,h2⟩:=Option.bind_eq_some_iff.1 h
 exact ax h2 (Ag htb h1)
theorem FP {κ:Fd} (hk:(∃ k,κ=.int k)\/κ=.str) (x:κ.T S.T):MapKept.IsKey (Fq κ) (DY κ x):=by
 rcases hk with ⟨k,rfl⟩|rfl<;>simp [Fq,DY,MapKept.IsKey]
theorem SG {κ:Fd} (hk:(∃ k,κ=.int k)\/κ=.str) (x y:κ.T S.T):Instr.sameNow (Fq κ) (DY κ x) (DY κ y)=some (I1 κ x y):=by
 rcases hk with ⟨k,rfl⟩|rfl
 ·simp only [Fq,DY,Instr.sameNow,if_true,I1,IV]
 ·have e:((⟨⟨x⟩⟩:ByteArray) == ⟨⟨y⟩⟩)=decide (x=y):=by
   rw [beq_toListBytes,ByteArray.toList_eq,ByteArray.toList_eq];exact IV x y
  simp only [Fq,DY,Instr.sameNow,I1,e]
theorem rd_key {o:List (Nat×Own S)} {M:Nat->Prop} (hg:GH w0 F D0 D o M β w) {κ:Fd} (hk:(∃ k,κ=.int k)\/κ=.str) {v:SV} {y:κ.T S.T} (h:rd o κ v=some y):v.den β=DY κ y:=by
 have:=R5 hg h
 rcases hk with ⟨k,rfl⟩|rfl
 ·simp only [Fd.fc] at this;generalize v.den β=u at this;cases this;rfl
 ·simp only [Fd.fc] at this;generalize v.den β=u at this;cases this;rfl
theorem Jy {κ:Fd} (hk:(∃ k,κ=.int k)\/κ=.str) {α:Type} (a:κ.T S.T): ∀ (l:List (κ.T S.T×α)) (es:List MapEntry) (i:Nat),es.length=l.length->(∀ (j:Nat) x e,l[j]?=some x->es[j]?=some e->e.key=DY κ x.1)->
  (Di κ l a=none/\Instr.findNow (Fq κ) (DY κ a) es i=some none/\(∀ v,K7 κ l a v=l++[(a,v)])/\QT κ l a=l.length)\/
  ∃ (j:Nat) (x:κ.T S.T×α) (e:MapEntry),Di κ l a=some x.2/\l[j]?=some x/\es[j]?=some e/\Instr.findNow (Fq κ) (DY κ a) es i=some (some (i+j,e.val))/\(∀ v,K7 κ l a v=l.set j (a,v))/\QT κ l a=j
 | [],es,i,hl,_=>by
  have:es=[]:=jp (by simpa using hl)
  subst this
  exact .inl ⟨rfl,rfl,fun v=>rfl,rfl⟩
 | x::r,[],i,hl,_=>by simp at hl
 | x::r,e::es,i,hl,hkey=>by
  have h0:=hkey 0 x e rfl rfl
  have hs:=SG hk a x.1
  rw [<-h0] at hs
  cases hb:I1 κ a x.1 with
  | true=>
   rw [hb] at hs
   exact .inr ⟨0,x,e,by simp [Di,hb],rfl,rfl,by simp [Instr.findNow,hs],fun v=>by simp [K7,hb],by simp [QT,hb]⟩
  | false=>
   rw [hb] at hs
   rcases Jy hk a r es (i+1) (by simpa using hl) (fun j y f hy hf=>hkey (j+1) y f (by simpa using hy) (by simpa using hf)) with ⟨h1,h2,h3,h6⟩|⟨j,y,f,h1,h2,h3,h4,h5,h6⟩
   ·exact .inl ⟨by simp [Di,hb,h1],by simp [Instr.findNow,hs,h2],fun v=>by simp [K7,hb,h3],by simp [QT,hb,h6]⟩
   ·exact .inr ⟨j+1,y,f,by simp [Di,hb,h1],by simpa using h2,by simpa using h3,by simp [Instr.findNow,hs,h4];omega,fun v=>by simp [K7,hb,h5],by simp [QT,hb,h6]⟩
theorem FJ {ag:Bool} {x:SV} {cs:List SV} (h:Gp ag x=some cs) (β:Nat->Nm):x.den β=Fx ag (AD β cs):=by
 unfold Gp at h
 split at h
 ·rw [(ED h β).1];simp [Fx]
 ·split at h
  ·cases h;simp [Fx,AD]
  ·cases h
theorem Rp {tb:List (Nat×TI)} {op:Oper} {T:Nat} (hop:op.op=.makeMap T none):R.Sound P w0 F D0 D s N β a w op (Yl tb T):=by
 unfold Yl
 split
 case h_2=>trivial
 split
 case h_2=>trivial
 rename_i κ te hκ hte
 split
 case h_2=>trivial
 rename_i τ hτ
 refine ⟨trivial,.map #[] 0,0,0,fun n β' _ hn=>⟨?_,w.heap.size,rfl,#[],(MapKept.heap_alloc w _).1,rfl,fun j x e hx=>by simp at hx⟩⟩
 simp [execOp,hop,Instr.makeMap,HS,SV.den,hn,Nm.AX]
theorem M5 {κ:Fd} {τ:Nat} {ag:Bool} {l:List (κ.T S.T×S.T τ)} {es:Array MapEntry} (hent: ∀ (j:Nat) (x:κ.T S.T×S.T τ) (e:MapEntry),l[j]?=some x->es[j]?=some e->e.born=j/\LQ S w D κ τ ag x e) (j:Nat) (x:κ.T S.T×S.T τ) (e:MapEntry) (hx:l[j]?=some x) (he:es.toList[j]?=some e):e.key=DY κ x.1:=
 (hent j x e hx (by simpa using he)).2.key
theorem Fc {κ:Fd} {τ:Nat} {ag:Bool} {g:Nat} {l:List (κ.T S.T×S.T τ)} {es:Array MapEntry} {c:Nat} (hh:w.heap[g]?=some (.map es c)) (hgD:¬ D g) {es':Array MapEntry} (h1:es'.size=l.length) (h2: ∀ (j:Nat) (x:κ.T S.T×S.T τ) (e:MapEntry),l[j]?=some x->es'[j]?=some e->e.born=j/\LQ S w D κ τ ag x e):
  MapAt S { w with heap:=w.heap.setIfInBounds g (.map es' es'.size) } D κ τ ag g l:=by
 have hset:=MapKept.heap_set (o':=.map es' es'.size) hh
 exact ⟨es',hset.1,h1,fun j x e hx he=>⟨(h2 j x e hx he).1,(h2 j x e hx he).2.B4 (fun q hq=>hset.2 q fun e=>by subst e;exact hgD hq) fun _ h=>h⟩⟩
theorem O8 {κ:Fd} {τ:Nat} {ag:Bool} {l:List (κ.T S.T×S.T τ)} {es:Array MapEntry} (hkk:(∃ k,κ=.int k)\/κ=.str) (hsz:es.size=l.length) (hent: ∀ (j:Nat) (x:κ.T S.T×S.T τ) (e:MapEntry),l[j]?=some x->es[j]?=some e->e.born=j/\LQ S w D κ τ ag x e) {x:κ.T S.T} {j:Nat} {e:MapEntry} (h3:es.toList[j]?=some e) (h4:Instr.findNow (Fq κ) (DY κ x) es.toList 0=some (some (j,e.val))):e.key=DY κ x:=by
 rcases MapKept.findNow_spec (FP (S:=S) hkk x) es.toList 0 (fun z hz=>by
  obtain ⟨q,hq⟩:=List.mem_iff_getElem?.1 hz
  have hql:=(List.getElem?_eq_some_iff.1 hq).1
  obtain ⟨y',hy'⟩: ∃ y',l[q]?=some y':=⟨l[q]'(by rw [<-hsz];simpa using hql),co _⟩
  rw [(hent q y' z hy' (by simpa using hq)).2.key];exact FP hkk _) with ⟨k1,_⟩|⟨q,e',k1,k2,k3⟩
 ·rw [h4] at k1;cases k1
 ·rw [h4] at k1
  simp only [am,bi,Nat.zero_add] at k1
  obtain ⟨rfl,_⟩:=k1
  rw [h3] at k2;cases k2;exact k3
theorem U1 {κ:Fd} {τ:Nat} {ag:Bool} {g:Nat} {l:List (κ.T S.T×S.T τ)} {T kt et:Nat} (hT:P.underlying T=some (.map kt et)) (hkd:P.underlying kt=some (Fq κ)) (hkk:(∃ k,κ=.int k)\/κ=.str) (hM:MapAt S w D κ τ ag g l) (hgD:¬ D g) (x:κ.T S.T) (y:S.T τ) {us:List Value} (hus:AG S w D (S.enc τ y) us):
  ∃ es':Array MapEntry,(Instr.mapUpdate T (.map (some g)) (DY κ x) (Fx ag us)).run P w=.ok () { w with heap:=w.heap.setIfInBounds g (.map es' es'.size) }/\MapAt S { w with heap:=w.heap.setIfInBounds g (.map es' es'.size) } D κ τ ag g (K7 κ l x y):=by
 obtain ⟨es,hh,hsz,hent⟩:=hM
 have hik:=FP (S:=S) hkk x
 have hnew: ∀ born,LQ S w D κ τ ag (x,y) ⟨DY κ x,Fx ag us,born⟩:=fun born=>⟨rfl,us,rfl,hus⟩
 rcases Jy hkk x l es.toList 0 (by simpa using hsz) (M5 hent) with ⟨h1,h2,h3,_⟩|⟨j,z,e,h1,h2,h3,h4,h5,_⟩
 ·refine ⟨es.push ⟨DY κ x,Fx ag us,es.size⟩,?_,Fc hh hgD (by rw [h3];simp [hsz]) fun j y' e hy he=>?_⟩
  ·rw [Array.size_push]
   simp [Instr.mapUpdate,run_underlying hT,MapKept.run_getObj_map hh,MapKept.run_checkKey hkd hik,MapKept.run_findKey hkd h2,MapKept.run_setObj_map _ hh,Result.andThen]
  ·rw [h3,List.getElem?_append] at hy
   rw [Array.getElem?_push] at he
   split at hy
   ·rename_i hlt
    rw [if_neg (by omega)] at he
    exact hent j y' e hy he
   ·rename_i hge
    have hjl:j=l.length:=by
     have:=(List.getElem?_eq_some_iff.1 hy).1;simp at this;omega
    subst hjl
    rw [if_pos hsz.symm] at he
    simp only [Nat.sub_self,List.getElem?_cons_zero,am] at hy he
    subst hy;subst he
    exact ⟨hsz,hnew _⟩
 ·have hje:es[j]?=some e:=by simpa using h3
  have hek:e.key=DY κ z.1:=(hent j z e h2 hje).2.key
  simp only [Nat.zero_add] at h4
  have hekx:e.key=DY κ x:=O8 hkk hsz hent h3 h4
  refine ⟨es.modify j fun e=>{ e with key:=DY κ x,val:=Fx ag us },?_,Fc hh hgD (by rw [h5];simp [hsz]) fun q y' e' hy he=>?_⟩
  ·rw [Array.size_modify]
   simp [Instr.mapUpdate,run_underlying hT,MapKept.run_getObj_map hh,MapKept.run_checkKey hkd hik,MapKept.run_findKey hkd h4,hje,hekx,MapKept.run_keyThatStays hik,MapKept.run_setObj_map _ hh,Result.andThen]
  ·rw [h5,List.getElem?_set] at hy
   rw [Array.getElem?_modify] at he
   split at hy
   ·rename_i hjq
    subst hjq
    rw [if_pos rfl,hje] at he
    simp only [Option.map_some,am] at he
    split at hy
    ·cases hy;subst he;exact ⟨(hent j z e h2 hje).1,hnew _⟩
    ·cases hy
   ·rename_i hjq
    rw [if_neg hjq] at he
    exact hent q y' e' hy he
theorem Tq {o:List (Nat×Own S)} {M:Nat->Prop} (hg:GH w0 F D0 D o M β w) {i e g c:Nat} {κ:Fd} {τ:Nat} {ag:Bool} {E:TypeId} {ls:List (List (κ.T S.T×S.T τ))} (hi:lk o i=some (.mr κ τ ag E ls)) (hsub:(β i).sub e=some (g,c)) {es es':Array MapEntry} {cl:Nat} (hh:w.heap[g]?=some (.map es cl)) {m:List (κ.T S.T×S.T τ)}
  (hM:MapAt S { w with heap:=w.heap.setIfInBounds g (.map es' es'.size) } D κ τ ag g m):GH w0 F D0 D (pt o i (.mr κ τ ag E (ls.set e m))) M β { w with heap:=w.heap.setIfInBounds g (.map es' es'.size) }:=by
 have hset:=MapKept.heap_set (o':=.map es' es'.size) hh
 obtain ⟨hlen,vs,hrow,hm⟩:=hg.own i _ hi
 have hgD: ∀ q,D q->(w.heap.setIfInBounds g (.map es' es'.size))[q]?=w.heap[q]?:=fun q hq=>hset.2 q fun e'=>by subst e';exact hg.off i _ _ hi (.inr ⟨e,c,hsub⟩) hq
 refine hg.LL hi (.inr ⟨e,c,hsub⟩) trivial rfl rfl rfl (by simp) (fun j _ hj=>hset.2 j hj) ⟨by simpa using hlen,vs,?_,fun d m' hd=>?_,hm.inj,hm.ne⟩
 ·rw [List.length_set]
  refine DQ hrow fun g' hg'=>hset.2 g' fun e'=>?_
  subst e'
  refine hm.ne e g' c hsub ?_
  cases hb:(β i).b with
  | none=>simp [hb,Value.ownBlock] at hg'
  | some q=>simp [hb,Value.ownBlock] at hg';rw [hg']
 ·rw [List.getElem?_set] at hd
  split at hd
  ·rename_i he
   subst he
   split at hd
   ·rename_i hlt
    cases hd
    obtain ⟨b,c',k1,k2,_⟩:=hm.cell e _ (co hlt)
    rw [hsub] at k1;cases k1
    exact ⟨g,c,hsub,k2,hM⟩
   ·cases hd
  ·rename_i he
   obtain ⟨b,c',k1,k2,k3⟩:=hm.cell d m' hd
   exact ⟨b,c',k1,k2,k3.B4 (hset.2 b fun e'=>by subst e';exact he (hm.inj _ _ _ _ _ hsub k1)) hgD fun _ h=>h⟩
theorem OQ {tb:List (Nat×TI)} (htb:Ae S P tb) (hg:G w0 F D0 D s N β a w) {op:Oper} {T:Nat} {m k v:Operand} (hop:op.op=.mapUpdate T m k v\/op.op=.insert T m k v):R.Sound P w0 F D0 D s N β a w op (cO tb s T m k v):=by
 unfold cO
 split
 case h_2=>trivial
 rename_i kt et ht
 have hT:=Ag htb ht
 simp only [TD.ok] at hT
 split
 ·rename_i i hm
  split
  case h_2=>trivial
  rename_i κ τ ag l κ' hi hκ
  obtain ⟨hkd,hkk⟩:=J7 htb hκ
  split
  case h_2=>trivial
  rename_i x p hsame hkx hp
  have:=FV hsame hkk;subst this
  obtain ⟨kv,hk1,hk2⟩:=Option.bind_eq_some_iff.1 hkx
  obtain ⟨cs,hc1,hc2⟩:=Option.bind_eq_some_iff.1 hp
  obtain ⟨vv,hv1,hv2⟩:=Option.bind_eq_some_iff.1 hc1
  intro _
  obtain ⟨g,hgb,hM⟩:=hg.gh.own i _ hi
  have A5:(β i).AX=g:=by simp [Nm.AX,hgb]
  have ekey:a.eval k=DY κ x:=by rw [AE hg hk1];exact rd_key hg.gh hkk hk2
  have em:a.eval m=.map (some g):=by rw [AE hg hm];simp only [SV.den,A5]
  have ev':a.eval v=Fx ag (AD β cs):=by rw [AE hg hv1];exact FJ hv2 β
  obtain ⟨us,hus,hcells⟩:=Jc hg.gh hc2
  rw [List.append_nil] at hus
  subst hus
  have henc:S.enc τ (S.of τ p)=EG (S.fds τ) p:=by unfold As.enc;rw [S.FF]
  obtain ⟨es,hh,_⟩:=id hM
  obtain ⟨es',hr,hM'⟩:=U1 hT hkd hkk hM (fun h=>hg.gh.off i _ _ hi (.inl hgb) h) x (S.of τ p) (us:=AD β cs) (by rw [henc];exact hcells)
  have hset:=MapKept.heap_set (o':=.map es' es'.size) hh
  refine ⟨{ w with heap:=w.heap.setIfInBounds g (.map es' es'.size) },?_,hg.gh.LL hi (.inl hgb) trivial rfl rfl rfl (by simp) (fun j _ hj=>hset.2 j hj) ⟨g,hgb,hM'⟩⟩
  rcases hop with hop|hop<;>simp [execOp,hop,em,ekey,ev',hr]
 ·rename_i i e hm
  split
  case h_2=>trivial
  rename_i κ τ ag E ls κ' hi hκ
  obtain ⟨hkd,hkk⟩:=J7 htb hκ
  split
  case h_2=>trivial
  rename_i x p hsame hkx hp
  have:=FV hsame hkk;subst this
  obtain ⟨kv,hk1,hk2⟩:=Option.bind_eq_some_iff.1 hkx
  obtain ⟨cs,hc1,hc2⟩:=Option.bind_eq_some_iff.1 hp
  obtain ⟨vv,hv1,hv2⟩:=Option.bind_eq_some_iff.1 hc1
  intro hc
  have he:e<ls.length:=by simpa [Cd] using hc
  obtain ⟨g,c,hsub,hden,hM⟩:=Rs hg.gh hi he
  have ekey:a.eval k=DY κ x:=by rw [AE hg hk1];exact rd_key hg.gh hkk hk2
  have em:a.eval m=.map (some g):=by rw [AE hg hm];exact hden
  have ev':a.eval v=Fx ag (AD β cs):=by rw [AE hg hv1];exact FJ hv2 β
  obtain ⟨us,hus,hcells⟩:=Jc hg.gh hc2
  rw [List.append_nil] at hus
  subst hus
  have henc:S.enc τ (S.of τ p)=EG (S.fds τ) p:=by unfold As.enc;rw [S.FF]
  obtain ⟨es,hh,_⟩:=id hM
  obtain ⟨es',hr,hM'⟩:=U1 hT hkd hkk hM (fun h=>hg.gh.off i _ _ hi (.inr ⟨e,c,hsub⟩) h) x (S.of τ p) (us:=AD β cs) (by rw [henc];exact hcells)
  refine ⟨_,?_,Tq hg.gh hi hsub hh hM'⟩
  rcases hop with hop|hop<;>simp [execOp,hop,em,ekey,ev',hr]
 ·trivial
theorem HL {op:Oper} {c:Option Bool} {τ:Nat} {ag ok:Bool} {v:Option (S.T τ)} (hs:Cd c-> ∃ vs,AG S w D (S.enc τ (v.getD (S.A4 τ))) vs/\(execOp a.eval op).run P w=.ok (.value (if ok=true then .tuple #[Fx ag vs,.bool v.isSome] else Fx ag vs)) w):
  R.Sound P w0 F D0 D s N β a w op (Nn s c τ ag ok v):=by
 unfold Nn
 split
 rename_i cs o1 n' hu
 have main: ∀ (x:SV),(∀ β' vs,AD β' cs=vs->x.den β'=Fx ag vs)->(∀ M:Nat->Prop,BZ M cs->x.on M)->R.Sound P w0 F D0 D s N β a w op (.nm c o1 n' (okV ok x v.isSome)):=fun x hx hxo hcc hN=>by
  obtain ⟨vs,hc,hr⟩:=hs hcc
  obtain ⟨β',h2,h4,h5⟩:=EP (β:=β) hc hu hN
  refine ⟨β',w,?_,h2,?_⟩
  ·rw [hr]
   cases ok
   ·simp [okV,hx β' vs h4]
   ·simp [okV,SV.den,AD,hx β' vs h4]
  ·cases ok
   ·exact hxo _ h5
   ·exact ⟨hxo _ h5,trivial,trivial⟩
 split
 ·exact main (.agg cs) (fun β' vs h=>by simp [SV.den,h,Fx]) fun M h=>h
 ·rename_i x
  exact main x (fun β' vs h=>by simp only [AD] at h;simp [<-h,Fx]) fun M h=>h.1
 ·trivial
theorem C1 {a b:Bool}:HU a b=true↔a=b:=by cases a<;>cases b<;>simp [HU]
theorem OE {e:Nat} {te:TI} (h:te.ok S P e) (w:World):(zeroValue e).run P w=.ok te.z w:=h.zero w
theorem Mi {te:TI} (h:ib te=true):te.z=Fx te.agg te.z.cells.toList:=by
 have one: ∀ v:Value,v.oneCell'=true->v.cells.toList=[v]:=fun v hv=>by cases v<;>first|rfl|simp [Value.oneCell'] at hv
 unfold ib at h
 split at h
 ·rename_i ha
  split at h
  ·rename_i arr hz;rw [ha,hz];simp [Fx,Value.cells]
  ·cases h
 ·rename_i ha
  rw [ha,one _ h];simp [Fx]
theorem No {κ:Fd} {τ:Nat} {ag:Bool} {g:Nat} {l:List (κ.T S.T×S.T τ)} {T kt et:Nat} {te:TI} (hT:P.underlying T=some (.map kt et)) (hkd:P.underlying kt=some (Fq κ)) (hkk:(∃ k,κ=.int k)\/κ=.str) (hoe:te.ok S P et) (hzo:ib te=true) (hag:ag=te.agg) (hz:AG S w D (S.enc τ (S.A4 τ)) te.z.cells.toList) (hM:MapAt S w D κ τ ag g l) (x:κ.T S.T)
  {op:Oper} {m k:Operand} {ok:Bool} (hop:op.op=.lookup T m k ok) (em:a.eval m=.map (some g)) (ekey:a.eval k=DY κ x):
  ∃ vs,AG S w D (S.enc τ ((Di κ l x).getD (S.A4 τ))) vs/\(execOp a.eval op).run P w=.ok (.value (if ok=true then .tuple #[Fx ag vs,.bool (Di κ l x).isSome] else Fx ag vs)) w:=by
 obtain ⟨es,hh,hsz,hent⟩:=hM
 subst hag
 have hik:=FP (S:=S) hkk x
 rcases Jy hkk x l es.toList 0 (by simpa using hsz) (M5 hent) with ⟨h1,h2,h3,_⟩|⟨j,y,e,h1,h2,h3,h4,h5,_⟩
 ·rw [h1]
  refine ⟨te.z.cells.toList,by simpa using hz,?_⟩
  cases ok<;>simp [execOp,hop,Instr.lookup,run_underlying hT,em,ekey,MapKept.run_getObj_map hh,MapKept.run_checkKey hkd hik,MapKept.run_findKey hkd h2,OE hoe,<- Mi hzo]
 ·rw [h1]
  have hje:es[j]?=some e:=by simpa using h3
  obtain ⟨_,_,vs,hv1,hv2⟩:=hent j y e h2 hje
  refine ⟨vs,by simpa using hv2,?_⟩
  simp only [Nat.zero_add] at h4
  cases ok<;>simp [execOp,hop,Instr.lookup,run_underlying hT,em,ekey,MapKept.run_getObj_map hh,MapKept.run_checkKey hkd hik,MapKept.run_findKey hkd h4,hv1]
theorem Rl {tb:List (Nat×TI)} (htb:Ae S P tb) (hg:G w0 F D0 D s N β a w) {op:Oper} {T:Nat} {m k:Operand} {ok:Bool} (hop:op.op=.lookup T m k ok):R.Sound P w0 F D0 D s N β a w op (Yd tb s T m k ok):=by
 unfold Yd
 split
 case h_2=>trivial
 rename_i kt et ht
 have hT:=Ag htb ht
 simp only [TD.ok] at hT
 split
 case h_2=>trivial
 rename_i κ' te hκ hte
 obtain ⟨hkd,hkk⟩:=J7 htb hκ
 have hoe:=htb.get hte
 split
 case h_2=>trivial
 rename_i τ' hτ hzo
 have hz:=IU (D:=D) (w:=w) (hoe.Z6 τ' hτ).2.2
 split
 ·rename_i i hm
  split
  case h_2=>trivial
  rename_i κ τ ag l hi
  split
  case h_2=>trivial
  rename_i x hsame hττ hag hkx
  have:=FV hsame hkk;subst this
  have hττ:=ac hττ;subst hττ
  have hag:=C1.1 hag
  obtain ⟨kv,hk1,hk2⟩:=Option.bind_eq_some_iff.1 hkx
  obtain ⟨g,hgb,hM⟩:=hg.gh.own i _ hi
  have A5:(β i).AX=g:=by simp [Nm.AX,hgb]
  have ekey:a.eval k=DY κ x:=by rw [AE hg hk1];exact rd_key hg.gh hkk hk2
  have em:a.eval m=.map (some g):=by rw [AE hg hm];simp only [SV.den,A5]
  exact HL fun _=>No hT hkd hkk hoe hzo hag hz hM x hop em ekey
 ·rename_i i e hm
  split
  case h_2=>trivial
  rename_i κ τ ag E ls hi
  split
  case h_2=>trivial
  rename_i x hsame hττ hag hkx
  have:=FV hsame hkk;subst this
  have hττ:=ac hττ;subst hττ
  have hag:=C1.1 hag
  obtain ⟨kv,hk1,hk2⟩:=Option.bind_eq_some_iff.1 hkx
  refine HL fun hc=>?_
  obtain ⟨g,c,hsub,hden,hM⟩:=Rs hg.gh hi (show e<ls.length by simpa [Cd] using hc)
  have ekey:a.eval k=DY κ x:=by rw [AE hg hk1];exact rd_key hg.gh hkk hk2
  have em:a.eval m=.map (some g):=by rw [AE hg hm];exact hden
  exact No hT hkd hkk hoe hzo hag hz hM x hop em ekey
 ·rename_i hm
  split
  case h_2=>trivial
  rename_i x hkx
  obtain ⟨kv,hk1,hk2⟩:=Option.bind_eq_some_iff.1 hkx
  have ekey:a.eval k=DY κ' x:=by rw [AE hg hk1];exact rd_key hg.gh hkk hk2
  have hik:=FP (S:=S) hkk x
  have h2:Instr.findNow (Fq κ') (DY κ' x) [] 0=some none:=rfl
  refine HL fun _=>⟨te.z.cells.toList,by simpa using hz,?_⟩
  cases ok<;>simp [execOp,hop,Instr.lookup,run_underlying hT,AE hg hm,SV.den,ekey,MapKept.run_checkKey hkd hik,MapKept.run_findKey hkd h2,OE hoe,<- Mi hzo]
 ·trivial
end
end Go.En
