/-
 The evaluation is sound: memory's laws, loads and stores.
-/
import Derived.Test.YtpjlciengdhjoaaGreatDoorEn3
namespace Go.En
open Go.RowKit
section
variable {S:As} {P:Program} {T:Nat} {t:TI}
theorem TI.ok.size (h:t.ok S P T) (w:World):(sizeOf T).run P w=.ok t.sz w:=by
 have:=h.info
 cases hi:P.info? T with
 | none=>simp [hi] at this
 | some i=>simp only [hi,Option.map_some,am,bi] at this;simp [sizeOf,typeInfo,hi,this.2.1]
theorem TI.ok.zero (h:t.ok S P T) (w:World):(zeroValue T).run P w=.ok t.z w:=by
 have:=h.info
 cases hi:P.info? T with
 | none=>simp [hi] at this
 | some i=>simp only [hi,Option.map_some,am,bi] at this;simp [zeroValue,typeInfo,hi,this.1]
theorem TI.ok.pT (h:t.ok S P T): ∃ d,P.underlying T=some d/\(FR d=!t.agg):=by
 have:=h.desc
 unfold TI.agg
 cases hd:t.d<;>simp only [hd,TD.ok] at this
 case other=>obtain ⟨d,h1,h2⟩:=this;exact ⟨d,h1,by simpa using h2⟩
 case struct=>obtain ⟨l,h1,_⟩:=this;exact ⟨_,h1,rfl⟩
 case slice=>exact ⟨_,this.1,rfl⟩
 case array=>exact ⟨_,this.1,rfl⟩
 all_goals exact ⟨_,this,rfl⟩
theorem TI.ok.isAgg (h:t.ok S P T) (w:World):(isAgg T).run P w=.ok t.agg w:=by
 obtain ⟨d,h1,h2⟩:=h.pT
 unfold Go.isAgg
 rw [Sem.run_bind,run_underlying h1 w]
 have h3:t.agg=!FR d:=by rw [h2];simp
 rw [h3]
 cases d<;>simp [FR]
theorem add_lit (b o n:Nat):Addr.add ⟨b,o,none⟩ n=⟨b,o+n,none⟩:=Addr.add_lit b o n
theorem EM (h:t.ok S P T) (w:World) (b off:Nat) (vs:List Value) (hl:vs.length=t.sz) (hc: ∀ j v,vs[j]?=some v->w.cell? ⟨b,off+j,none⟩=some v) (ha:t.agg=true):
  (loadVar T ⟨b,off,none⟩).run P w=.ok (.agg vs.toArray) w:=by
 unfold loadVar
 rw [Sem.run_bind,h.isAgg w,Result.andThen_ok]
 simp only [ha,if_true]
 have h1:=run_loadCells_list (P:=P) w ⟨b,off,none⟩ vs (fun j v hv=>by rw [add_lit];exact hc j v hv)
 rw [Sem.run_bind,h.size w,Result.andThen_ok,<- hl,Sem.run_bind,h1]
 rfl
theorem B2 (h:t.ok S P T) (w:World) (b off:Nat) (v:Value) (hc:w.cell? ⟨b,off,none⟩=some v) (ha:t.agg=false):
  (loadVar T ⟨b,off,none⟩).run P w=.ok v w:=by
 unfold loadVar
 rw [Sem.run_bind,h.isAgg w,Result.andThen_ok]
 simp [ha,hc]
end
structure dq (w:World) (b:Nat) (T:TypeId) (cs:List Value) (w':World):Prop where
 os:w'.os=w.os
 tape:w'.tape=w.tape
 output:w'.output=w.output
 size:w'.heap.size=w.heap.size
 here:w'.heap[b]?=some (.cells cs.toArray T (0,0))
 block: ∀ k,k≠b->w'.heap[k]?=w.heap[k]?
def Af {α:Type} (cs:List α) (off:Nat) (new:List α):List α:=cs.take off++new++cs.drop (off+new.length)
theorem CP {α:Type} (cs:List α) (off:Nat) (new:List α) (h:off+new.length<=cs.length) (j:Nat):(Af cs off new)[j]?=if j<off then cs[j]? else if j<off+new.length then new[j -off]? else cs[j]?:=by
 unfold Af
 simp only [List.getElem?_append,ol,List.getElem?_drop,List.length_append,List.length_take]
 have e:min off cs.length=off:=by omega
 rw [e]
 by_cases h1:j<off
 ·have:j<off+new.length:=by omega
  simp [h1,this]
 ·by_cases h2:j<off+new.length
  ·simp [h1,h2]
  ·have:off+new.length+(j -(off+new.length))=j:=by omega
   simp [h1,h2,this]
theorem GK {α:Type} (cs:List α) (off:Nat) (new:List α) (h:off+new.length<=cs.length):(Af cs off new).length=cs.length:=by
 simp [Af];omega
theorem SI {α:Type} (cs:List α) (off:Nat) (new:List α) (m:Nat) (h:off+new.length<=m) (hm:m<=cs.length):(Af cs off new).take m=Af (cs.take m) off new:=by
 apply List.ext_getElem?
 intro j
 rw [ol,CP _ _ _ (by omega),CP _ _ _ (by rw [List.length_take];omega),ol]
 by_cases h1:j<m
 ·simp [h1]
 ·have h2:¬ j<off:=by omega
  have h3:¬ j<off+new.length:=by omega
  simp [h1,h2,h3]
theorem EN {P:Program} (T:TypeId) (b:Nat): ∀ (new:List Value) (w:World) (cs:List Value) (off i:Nat),w.heap[b]?=some (.cells cs.toArray T (0,0))->(∀ v∈new,v.oneCell'=true)->off+i+new.length<=cs.length->
  ∃ w',(storeCells ⟨b,off,none⟩ new i).run P w=.ok () w'/\dq w b T (Af cs (off+i) new) w'
 | [],w,cs,off,i,h,_,_=>⟨w,by simp [storeCells],rfl,rfl,rfl,rfl,by simpa [Af] using h,fun _ _=>rfl⟩
 | v::new,w,cs,off,i,h,hv,hl=>by
  simp only [List.length_cons] at hl
  have hc:w.cell? ⟨b,off+i,none⟩=some (cs[off+i]'(by omega)):=by
   rw [cell_of_row w b (off+i) _ T _ h];simp
  have hf:w.frozen? ⟨b,off+i,none⟩=false:=frozen_of_row w b _ _ T h
  have h1:(w.setCell ⟨b,off+i,none⟩ v).heap[b]?=some (.cells (cs.set (off+i) v).toArray T (0,0)):=by
   rw [heap_setCell_same w b (off+i) _ T v h];simp
  obtain ⟨w',hr,ht⟩:=EN (P:=P) T b new (w.setCell ⟨b,off+i,none⟩ v) (cs.set (off+i) v) off (i+1) h1 (fun u hu=>hv u (by simp [hu])) (by simp;omega)
  refine ⟨w',?_,?_⟩
  ·simp only [storeCells,Sem.run_bind,add_lit,run_store P w _ v _ (hv v (by simp)),hc,hf,Bool.false_eq_true,if_false,Result.andThen_ok]
   exact hr
  ·refine ⟨ht.os,ht.tape,ht.output,by rw [ht.size];simp,?_,fun k hk=>(ht.block k hk).trans (heap_setCell_other w _ k v hk)⟩
   rw [ht.here]
   congr 3
   apply List.ext_getElem?
   intro j
   rw [CP _ _ _ (by simp;omega),CP _ _ _ (by simp;omega)]
   simp only [List.getElem?_set,List.length_cons]
   by_cases h1:j<off+i
   ·have h3:j<off+(i+1):=by omega
    have h4:¬ off+i=j:=by omega
    simp [h1,h3,h4]
   ·by_cases h2:j=off+i
    ·subst h2
     have h3:off+i<off+(i+1):=by omega
     have h6:off+i<off+i+(new.length+1):=by omega
     have h7:off+i<cs.length:=by omega
     simp [h3,h6,h7]
    ·have h3:¬ j<off+(i+1):=by omega
     by_cases h4:j<off+(i+1)+new.length
     ·have h5:j<off+i+(new.length+1):=by omega
      have h7:j -(off+i)=(j -(off+(i+1)))+1:=by omega
      simp only [h1,h3,h4,h5,if_true,if_false,h7,List.getElem?_cons_succ]
     ·have h5:¬ j<off+i+(new.length+1):=by omega
      have h6:¬ off+i=j:=by omega
      simp [h1,h3,h4,h5,h6]
section
variable {S:As} {w:World} {D:Nat->Prop}
theorem AG.nil:AG S w D [] []:=⟨rfl,fun i f v h=>by simp at h⟩
theorem AG.cons {f:FC S.T} {v:Value} {fs:List (FC S.T)} {vs:List Value} (h:Av S w D f v) (t:AG S w D fs vs):AG S w D (f::fs) (v::vs):=
 ⟨by simp [t.1],fun i g u hg hu=>by
  cases i with
  | zero=>simp only [List.getElem?_cons_zero,am] at hg hu;subst hg;subst hu;exact h
  | succ i=>simp only [List.getElem?_cons_succ] at hg hu;exact t.2 i g u hg hu⟩
theorem AG.DK {f:FC S.T} {fs:List (FC S.T)} {vs:List Value} (h:AG S w D (f::fs) vs): ∃ v r,vs=v::r/\Av S w D f v/\AG S w D fs r:=by
 obtain ⟨h1,h2⟩:=h
 cases vs with
 | nil=>simp at h1
 | cons v r=>exact ⟨v,r,rfl,h2 0 f v rfl rfl,by simpa using h1,fun i g u hg hu=>h2 (i+1) g u (by simpa using hg) (by simpa using hu)⟩
theorem AG.append {fs gs:List (FC S.T)} {vs us:List Value} (h:AG S w D fs vs) (t:AG S w D gs us):AG S w D (fs++gs) (vs++us):=
 ⟨by simp [h.1,t.1],fun i g u hg hu=>by
  have hl:=h.1
  rw [List.getElem?_append] at hg hu
  by_cases hi:i<fs.length
  ·rw [if_pos hi] at hg;rw [if_pos (by omega)] at hu;exact h.2 i g u hg hu
  ·rw [if_neg hi] at hg;rw [if_neg (by omega)] at hu;rw [hl] at hg;exact t.2 _ g u hg hu⟩
theorem AG.take {fs:List (FC S.T)} {vs:List Value} (h:AG S w D fs vs) (n:Nat):AG S w D (fs.take n) (vs.take n):=
 ⟨by simp [h.1],fun i g u hg hu=>by
  rw [ol] at hg hu
  split at hg
  ·rename_i hi;rw [if_pos hi] at hu;exact h.2 i g u hg hu
  ·cases hg⟩
theorem AG.drop {fs:List (FC S.T)} {vs:List Value} (h:AG S w D fs vs) (n:Nat):AG S w D (fs.drop n) (vs.drop n):=
 ⟨by simp [h.1],fun i g u hg hu=>by
  rw [List.getElem?_drop] at hg hu;exact h.2 _ g u hg hu⟩
theorem AG.Af {fs gs:List (FC S.T)} {vs us:List Value} (h:AG S w D fs vs) (t:AG S w D gs us) (off:Nat):AG S w D (En.Af fs off gs) (En.Af vs off us):=by
 unfold En.Af
 rw [t.1]
 exact ((h.take off).append t).append (h.drop _)
theorem AG.WB {fs:List (FC S.T)} {vs:List Value} (h:AG S w D fs vs): ∀ v∈vs,v.oneCell'=true:=fun v hv=>by
 obtain ⟨i,hi,rfl⟩:=List.mem_iff_getElem.1 hv
 exact (h.2 i (fs[i]'(by rw [h.1];exact hi)) _ (co _) (co hi)).one
theorem As.Es (S:As) (τ:Nat) (l m:List (S.T τ)):S.flat τ (l++m)=S.flat τ l++S.flat τ m:=by simp [As.flat]
theorem As.Bw (S:As) (τ:Nat) (x:S.T τ) (m:List (S.T τ)):S.flat τ (x::m)=S.enc τ x++S.flat τ m:=by simp [As.flat]
theorem As.FO (S:As) (τ:Nat) (l:List (S.T τ)) (n:Nat):S.flat τ (l.take n)=(S.flat τ l).take (n*S.sz τ):=by
 induction l generalizing n with
 | nil=>simp [As.flat]
 | cons x r ih=>
  cases n with
  | zero=>simp [As.flat]
  | succ n=>
   rw [List.take_succ_cons,S.Bw,S.Bw,ih,Nat.succ_mul,Nat.add_comm,<- S.Ah τ x,List.take_length_add_append]
theorem As.IZ (S:As) (τ:Nat) (l:List (S.T τ)) (n:Nat):S.flat τ (l.drop n)=(S.flat τ l).drop (n*S.sz τ):=by
 induction l generalizing n with
 | nil=>simp [As.flat]
 | cons x r ih=>
  cases n with
  | zero=>simp [As.flat]
  | succ n=>rw [List.drop_succ_cons,S.Bw,ih,Nat.succ_mul,Nat.add_comm,<- S.Ah τ x,List.drop_length_add_append]
theorem As.Pv (S:As) (τ:Nat) (l:List (S.T τ)) (e:Nat) (h:e<l.length) (d:S.T τ):((S.flat τ l).drop (e*S.sz τ)).take (S.sz τ)=S.enc τ (l.getD e d):=by
 rw [<-S.IZ,List.drop_eq_getElem_cons h,S.Bw,<- S.Ah τ l[e],List.take_left']
 ·simp [List.getD,h]
 ·simp
theorem As.J0 (S:As) (τ:Nat): ∀ (l:List (S.T τ)) (e:Nat) (x:S.T τ),e<l.length->S.flat τ (l.set e x)=En.Af (S.flat τ l) (e*S.sz τ) (S.enc τ x)
 | [],e,x,h=>by simp at h
 | y::r,0,x,h=>by
  rw [List.set_cons_zero,S.Bw,S.Bw]
  unfold En.Af
  have:(S.enc τ x).length=(S.enc τ y).length:=by rw [S.Ah,S.Ah]
  simp [this]
 | y::r,e+1,x,h=>by
  have ih:=S.J0 τ r e x (by simpa using h)
  rw [List.set_cons_succ,S.Bw,ih,S.Bw]
  unfold En.Af
  have e1:(e+1)*S.sz τ=(S.enc τ y).length+e*S.sz τ:=by rw [Nat.succ_mul,S.Ah];omega
  have e2:(e+1)*S.sz τ+(S.enc τ x).length=(S.enc τ y).length+(e*S.sz τ+(S.enc τ x).length):=by rw [e1];omega
  rw [e2,e1,List.take_length_add_append,List.drop_length_add_append]
  simp
theorem As.Ph (S:As) (τ:Nat) {l:List (S.T τ)} {vs:List Value} (h:AG S w D (S.flat τ l) vs) {e:Nat} (he:e<l.length) (d:S.T τ):AG S w D (S.enc τ (l.getD e d)) ((vs.drop (e*S.sz τ)).take (S.sz τ)):=by
 rw [<-S.Pv τ l e he d];exact (h.drop _).take _
def CD (len:Nat):Value->Nm
 | .slice (some a) _ c=>⟨some a.block,len,c,undef⟩
 | _=>⟨none,len,0,undef⟩
theorem EK {e:TypeId} {size n len:Nat} {v:Value} {xs:List Value} {base:Nat} (h:w.ownsRow base e size v n xs):v=.slice ((CD len v).b.map fun b=>⟨b,0,none⟩) n (CD len v).cap/\(CD len v).b=v.ownBlock/\(CD len v).len=len:=by
 rcases h.2 with ⟨rfl,rfl⟩|⟨g,cap,cur,rfl,_⟩
 ·exact ⟨rfl,rfl,rfl⟩
 ·exact ⟨rfl,rfl,rfl⟩
theorem Nt (len:Nat) (v:Value):(CD len v).AX=A5 v:=by
 cases v<;>first|rfl|(rename_i a _ _;cases a<;>rfl)
theorem BE {E sz n:Nat} {nm:Nm} {xs:List Value} (h:w.ownsRow 0 E sz (.slice (nm.b.map fun b=>⟨b,0,none⟩) n nm.cap) n xs) {j:Nat} {v:Value} (hv:xs[j]?=some v):
  nm.b=some nm.AX/\w.cell? ⟨nm.AX,j,none⟩=some v:=by
 obtain ⟨h1,h2⟩:=h
 rcases h2 with ⟨h2,h3⟩|⟨g,cap,cur,h3,_,h5,_,_,h8,h9⟩
 ·subst h3;simp at h1;rw [h1] at hv;simp at hv
 ·have hb:nm.b=some g:=by
   cases hb:nm.b with
   | none=>simp [hb] at h3
   | some k=>simp [hb] at h3;rw [h3.1]
  refine ⟨by simp [Nm.AX,hb],?_⟩
  simp only [Nm.AX,hb,Option.getD_some]
  rw [cell_of_row w g j _ E _ h5]
  rw [<-h9] at hv
  simp only [ol] at hv
  split at hv
  ·simpa using hv
  ·cases hv
theorem A6 {E sz n:Nat} {nm:Nm} {xs:List Value} (h:w.ownsRow 0 E sz (.slice (nm.b.map fun b=>⟨b,0,none⟩) n nm.cap) n xs) (hn:0<n):nm.b=some nm.AX:=by
 rcases h.2 with ⟨_,h2⟩|⟨g,cap,cur,h3,_⟩
 ·omega
 ·cases hb:nm.b with
  | none=>simp [hb] at h3
  | some k=>simp [Nm.AX,hb]
theorem IG {P:Program} {E sz n off:Nat} {nm:Nm} {xs us:List Value} (h:w.ownsRow 0 E sz (.slice (nm.b.map fun b=>⟨b,0,none⟩) n nm.cap) n xs) (h1: ∀ v∈us,v.oneCell'=true) (hl:off+us.length<=xs.length) (h0:us≠[]):
  ∃ w',(storeCells ⟨nm.AX,off,none⟩ us 0).run P w=.ok () w'/\w'.ownsRow 0 E sz (.slice (nm.b.map fun b=>⟨b,0,none⟩) n nm.cap) n (Af xs off us)/\nm.b=some nm.AX/\
   w'.os=w.os/\w'.tape=w.tape/\w'.output=w.output/\w'.heap.size=w.heap.size/\ ∀ k,k≠nm.AX->w'.heap[k]?=w.heap[k]?:=by
 obtain ⟨hlen,hrow⟩:=h
 have hnl:0<us.length:=List.length_pos_iff.2 h0
 rcases hrow with ⟨_,h5⟩|⟨g,cap,cur,h4,_,hh,h6,h7,h8,h9⟩
 ·exfalso;subst h5;simp at hlen;subst hlen;simp at hl;exact h0 hl.2
 ·have hb:nm.b=some g/\nm.cap=cap:=by
   cases hb:nm.b with
   | none=>simp [hb] at h4
   | some k=>simp [hb] at h4;exact ⟨by rw [h4.1],h4.2⟩
  obtain ⟨hb,hcap⟩:=hb
  have A5:nm.AX=g:=by simp [Nm.AX,hb]
  have hmul:n*sz<=cap*sz:=Nat.mul_le_mul_right _ h6
  obtain ⟨w',hr,htn⟩:=EN (P:=P) E g us w cur.toList off 0 (by simpa using hh) h1 (by simp only [Array.length_toList];omega)
  have hsl:(Af cur.toList (off+0) us).length=cur.toList.length:=GK _ _ _ (by simp only [Array.length_toList];omega)
  refine ⟨w',by rw [A5];exact hr,⟨by rw [GK _ _ _ hl];exact hlen,.inr ⟨g,cap,(Af cur.toList (off+0) us).toArray,by simp [hb,hcap],Nat.zero_le _,htn.here,h6,h7,?_,?_⟩⟩,by rw [A5,hb],htn.os,htn.tape,htn.output,htn.size,fun k hk=>htn.block k (by rwa [A5] at hk)⟩
  ·simp only [List.size_toArray,hsl,Array.length_toList];exact h8
  ·simp only [Nat.add_zero]
   rw [SI _ _ _ _ (by omega) (by simp only [Array.length_toList];omega),h9]
end
section
variable {S:As} {w0:World} {F D0 D:Nat->Prop} {β:Nat->Nm} {w:World}
theorem HQ: ∀ {fs:List (FC S.T)} {vs:List Value} {n:Nat} {o:List (Nat×Own S)} {β:Nat->Nm} {cs:List SV} {o':List (Nat×Own S)} {n':Nat},AG S w D fs vs->GH w0 F D0 D o (· <n) β w->Ch fs n o=(cs,o',n')->
  ∃ β',(∀ i,i<n->β i=β' i)/\GH w0 F D0 D o' (· <n') β' w/\AD β' cs=vs/\BZ (· <n') cs/\n<=n'
 | [],vs,n,o,β,cs,o',n',hc,hg,h=>by
  simp only [Ch,bi] at h
  obtain ⟨rfl,rfl,rfl⟩:=h
  have:vs=[]:=by have:=hc.1;simp at this;exact jp this.symm
  subst this
  exact ⟨β,fun _ _=>rfl,hg,by simp [AD],trivial,Nat.le_refl _⟩
 | .int k m::r,vs,n,o,β,cs,o',n',hc,hg,h=>by
  obtain ⟨v,u,rfl,h1,h2⟩:=hc.DK
  simp only [Ch,bi] at h
  obtain ⟨rfl,rfl,rfl⟩:=h
  obtain ⟨β',h3,h4,h5,h6,h7⟩:=HQ h2 hg rfl
  cases h1
  exact ⟨β',h3,h4,by simp [AD,SV.den,h5],⟨trivial,h6⟩,h7⟩
 | .bool m::r,vs,n,o,β,cs,o',n',hc,hg,h=>by
  obtain ⟨v,u,rfl,h1,h2⟩:=hc.DK
  simp only [Ch,bi] at h
  obtain ⟨rfl,rfl,rfl⟩:=h
  obtain ⟨β',h3,h4,h5,h6,h7⟩:=HQ h2 hg rfl
  cases h1
  exact ⟨β',h3,h4,by simp [AD,SV.den,h5],⟨trivial,h6⟩,h7⟩
 | .str m::r,vs,n,o,β,cs,o',n',hc,hg,h=>by
  obtain ⟨v,u,rfl,h1,h2⟩:=hc.DK
  simp only [Ch,bi] at h
  obtain ⟨rfl,rfl,rfl⟩:=h
  obtain ⟨β',h3,h4,h5,h6,h7⟩:=HQ h2 hg rfl
  cases h1
  exact ⟨β',h3,h4,by simp [AD,SV.den,h5],⟨trivial,h6⟩,h7⟩
 | .sl σ l::r,vs,n,o,β,cs,o',n',hc,hg,h=>by
  obtain ⟨v,u,rfl,h1,h2⟩:=hc.DK
  simp only [Ch,bi] at h
  obtain ⟨rfl,rfl,rfl⟩:=h
  have hnh: ∀ k,¬ Nm.has ⟨none,0,0,v⟩ k:=fun k=>Nm.Fe rfl (fun c=>by cases h1<;>rfl) k
  obtain ⟨β1,e1,e2,hg1⟩:=hg.name (b:=.sl σ l) (nm:=⟨none,0,0,v⟩) (n:=n) (by simp) trivial (fun _ _ _=>⟨⟨rfl,fun c=>by cases h1<;>rfl⟩,by have e:Nm.sl ⟨none,0,0,v⟩=v:=by { cases h1<;>rfl };rw [e];exact h1⟩) (fun k hk=>absurd hk (hnh k)) (fun k hk=>absurd hk (hnh k)) (fun i c k _ _ hk=>hnh k hk) (fun k hk=>absurd hk (hnh k))
  rw [DG] at hg1
  obtain ⟨β',h3,h4,h5,h6,h7⟩:=HQ h2 hg1 rfl
  refine ⟨β',fun i hi=>(e1 i hi).trans (h3 i (by omega)),h4,?_,⟨by simp only [SV.on];omega,h6⟩,by omega⟩
  simp only [AD,SV.den,h5,<- h3 n (by omega),e2]
  cases h1<;>rfl
 | .ow σ E l::r,vs,n,o,β,cs,o',n',hc,hg,h=>by
  obtain ⟨v,u,rfl,h1,h2⟩:=hc.DK
  simp only [Ch,bi] at h
  obtain ⟨rfl,rfl,rfl⟩:=h
  have hnh: ∀ k,¬ Nm.has ⟨none,0,0,v⟩ k:=fun k=>Nm.Fe rfl (fun c=>by cases h1<;>rfl) k
  obtain ⟨β1,e1,e2,hg1⟩:=hg.name (b:=.any) (nm:=⟨none,0,0,v⟩) (n:=n) (by simp) trivial (fun _ _ _=>⟨rfl,fun c=>by cases h1<;>rfl⟩) (fun k hk=>absurd hk (hnh k)) (fun k hk=>absurd hk (hnh k)) (fun i c k _ _ hk=>hnh k hk) (fun k hk=>absurd hk (hnh k))
  rw [DG] at hg1
  obtain ⟨β',h3,h4,h5,h6,h7⟩:=HQ h2 hg1 rfl
  refine ⟨β',fun i hi=>(e1 i hi).trans (h3 i (by omega)),h4,?_,⟨by simp only [SV.on];omega,h6⟩,by omega⟩
  simp only [AD,SV.den,h5,<- h3 n (by omega),e2]
  cases h1<;>rfl
def more (N:Nat->Prop) (n n':Nat):Nat->Prop:=fun i=>N i\/(n<=i/\i<n')
structure CG (D D' N:Nat->Prop) (n n':Nat) (o1:List (Nat×Own S)) (β β':Nat->Nm) (w w':World):Prop where
 agree: ∀ i,N i->β i=β' i
 below:Below w.heap.size w w'
 le:n<=n'
 By: ∀ i b,lk o1 i=some b->(n<=i/\i<n')/\b.on (more N n n')
 own: ∀ i b,lk o1 i=some b->b.holds D' β' w' (β' i)
 fresh: ∀ i b k,lk o1 i=some b->(β' i).has k->w.heap.size<=k
 inj: ∀ i j b c k,lk o1 i=some b->lk o1 j=some c->(β' i).has k->(β' j).has k->i=j
 jT: ∀ k,D k->D' k
 eZ: ∀ k,D' k->D k\/(w.heap.size<=k/\k<w'.heap.size)
 off: ∀ i b k,lk o1 i=some b->(β' i).has k->D' k->D k
 lt: ∀ i b k,lk o1 i=some b->(β' i).has k->k<w'.heap.size
theorem GH.extend {o o1:List (Nat×Own S)} {N:Nat->Prop} {β β':Nat->Nm} {w w':World} {n n':Nat} (h:GH w0 F D0 D o N β w) {D':Nat->Prop} (hk:CG D D' N n n' o1 β β' w w'):GH w0 F D0 D' (o1++o) (more N n n') β' w':=by
 have h2:=(h.step hk.below).congr hk.agree
 have hcase: ∀ i b,lk (o1++o) i=some b->lk o1 i=some b\/lk o i=some b:=fun i b hi=>by
  rw [NU] at hi
  cases h1:lk o1 i with
  | none=>rw [h1] at hi;exact .inr (by simpa using hi)
  | some c=>rw [h1] at hi;simp at hi;subst hi;exact .inl rfl
 have hlt: ∀ i b k,lk o i=some b->(β' i).has k->k<w.heap.size:=fun i b k hi hkk=>by
  rw [<-hk.agree i (h.By i b hi).1] at hkk;exact h.lt i b k hi hkk
 refine ⟨fun i b hi=>?_,fun i b hi=>?_,fun i j b c q hi hj h1 h3=>?_,fun i b q hi h1=>?_,fun i b q hi h1 hD=>?_,fun i b q hi h1=>?_,fun k hD=>?_,fun k hD=>?_,h2.fr,fun k hD=>hk.jT k (h.sub k hD)⟩
 ·rcases hcase i b hi with hi|hi
  ·exact ⟨.inr (hk.By i b hi).1,(hk.By i b hi).2⟩
  ·exact ⟨.inl (h.By i b hi).1,Own.Ao (fun _ h=>.inl h) (h.By i b hi).2⟩
 ·rcases hcase i b hi with hi|hi
  ·exact hk.own i b hi
  ·exact Own.CB (h2.own i b hi) hk.jT
 ·rcases hcase i b hi with hi|hi<;>rcases hcase j c hj with hj|hj
  ·exact hk.inj i j b c q hi hj h1 h3
  ·have:=hk.fresh i b q hi h1;have:=hlt j c q hj h3;omega
  ·have:=hk.fresh j c q hj h3;have:=hlt i b q hi h1;omega
  ·exact h2.inj i j b c q hi hj h1 h3
 ·rcases hcase i b hi with hi|hi
  ·exact .inl (Nat.le_trans h.fr.size (hk.fresh i b q hi h1))
  ·exact h2.fresh i b q hi h1
 ·rcases hcase i b hi with hi|hi
  ·have:=hk.fresh i b q hi h1;have:=h.DL q (hk.off i b q hi h1 hD);omega
  ·rcases hk.eZ q hD with h3|h3
   ·exact h2.off i b q hi h1 h3
   ·have:=hlt i b q hi h1;omega
 ·rcases hcase i b hi with hi|hi
  ·exact hk.lt i b q hi h1
  ·exact h2.lt i b q hi h1
 ·rcases hk.eZ k hD with h3|h3
  ·exact h2.DL k h3
  ·exact h3.2
 ·rcases hk.eZ k hD with h3|h3
  ·exact h.KZ k h3
  ·exact .inr (.inr (Nat.le_trans h.fr.size h3.1))
theorem CG.refl {N:Nat->Prop} {β:Nat->Nm} {w:World} {n:Nat}:CG D D N n n ([]:List (Nat×Own S)) β β w w:=
 ⟨fun _ _=>rfl,Below.refl _ _,Nat.le_refl _,fun i b h=>by simp [AW] at h,fun i b h=>by simp [AW] at h,fun i b k h=>by simp [AW] at h,fun i j b c k h=>by simp [AW] at h,fun _ h=>h,fun _ h=>.inl h,fun i b k h=>by simp [AW] at h,fun i b k h=>by simp [AW] at h⟩
theorem CG.val {N:Nat->Prop} {β β':Nat->Nm} {w w':World} {n n':Nat} {o1:List (Nat×Own S)} (h:CG D D N n n' o1 β β' w w') (hN:¬ N n') {b:Own S} {nm:Nm} (hb: ∀ k,¬ nm.has k) (hon:b.on (more N n n')) (hh: ∀ β'':Nat->Nm,(∀ i,more N n n' i->β' i=β'' i)->b.holds D β'' w' nm):
  ∃ β'',(∀ i,more N n n' i->β' i=β'' i)/\β'' n'=nm/\CG D D N n (n'+1) ((n',b)::o1) β β'' w w':=by
 let β'':Nat->Nm:=fun i=>if i=n' then nm else β' i
 have hβ: ∀ i,more N n n' i->β' i=β'' i:=fun i hi=>by
  simp only [β''];rw [if_neg]
  rintro rfl
  rcases hi with hi|hi
  ·exact hN hi
  ·omega
 have hβn:β'' n'=nm:=by simp [β'']
 have hmore: ∀ i,more N n n' i->more N n (n'+1) i:=fun i hi=>hi.imp id fun h=>⟨h.1,by omega⟩
 refine ⟨β'',hβ,hβn,fun i hi=>(h.agree i hi).trans (hβ i (.inl hi)),h.below,Nat.le_succ_of_le h.le,fun i c hi=>?_,fun i c hi=>?_,fun i c k hi hk=>?_,fun i j c d k hi hj h1 h2=>?_,fun _ h=>h,fun _ h=>.inl h,fun _ _ _ _ _ h=>h,fun i c k hi hk=>?_⟩
 all_goals rw [AK] at hi
 ·split at hi
  ·rename_i he;subst he;cases hi;exact ⟨⟨h.le,lw _⟩,Own.Ao hmore hon⟩
  ·obtain ⟨h1,h2⟩:=h.By i c hi;exact ⟨⟨h1.1,by omega⟩,Own.Ao hmore h2⟩
 ·split at hi
  ·rename_i he;subst he;cases hi;rw [hβn];exact hh β'' hβ
  ·have h1:=h.By i c hi
   rw [<-hβ i (.inr h1.1)]
   exact Own.Du hβ h1.2 (h.own i c hi)
 ·split at hi
  ·rename_i he;subst he;rw [hβn] at hk;exact absurd hk (hb k)
  ·rw [<-hβ i (.inr (h.By i c hi).1)] at hk;exact h.fresh i c k hi hk
 ·rw [AK] at hj
  split at hi
  ·rename_i he;subst he;rw [hβn] at h1;exact absurd h1 (hb k)
  ·split at hj
   ·rename_i he;subst he;rw [hβn] at h2;exact absurd h2 (hb k)
   ·rw [<-hβ i (.inr (h.By i c hi).1)] at h1;rw [<-hβ j (.inr (h.By j d hj).1)] at h2
    exact h.inj i j c d k hi hj h1 h2
 ·split at hi
  ·rename_i he;subst he;rw [hβn] at hk;exact absurd hk (hb k)
  ·rw [<-hβ i (.inr (h.By i c hi).1)] at hk;exact h.lt i c k hi hk
theorem CG.alloc {N:Nat->Prop} {β:Nat->Nm} {w:World} {n:Nat} (hN:¬ N n) {b:Own S} {ob:Obj} {len cap:Nat} (hon:b.on N) (hh: ∀ β':Nat->Nm,(∀ i,N i->β i=β' i)->β' n=⟨some w.heap.size,len,cap,undef⟩->b.holds D β' (w.alloc ob) ⟨some w.heap.size,len,cap,undef⟩):
  ∃ β',β' n=⟨some w.heap.size,len,cap,undef⟩/\CG D D N n (n+1) [(n,b)] β β' w (w.alloc ob):=by
 let β':Nat->Nm:=fun i=>if i=n then ⟨some w.heap.size,len,cap,undef⟩ else β i
 have hβ: ∀ i,N i->β i=β' i:=fun i hi=>by simp only [β'];rw [if_neg (fun e:i=n=>hN (by subst e;exact hi))]
 have hβn:β' n=⟨some w.heap.size,len,cap,undef⟩:=by simp [β']
 have key: ∀ i c,lk [(n,b)] i=some c->i=n/\c=b:=fun i c hi=>by
  rw [AK,AW] at hi
  split at hi
  ·rename_i he;cases hi;exact ⟨he.symm,rfl⟩
  ·cases hi
 refine ⟨β',hβn,hβ,(Below.refl _ _).alloc (Nat.le_refl _) _,Nat.le_succ _,fun i c hi=>?_,fun i c hi=>?_,fun i c k hi hk=>?_,fun i j c d k hi hj _ _=>?_,fun _ h=>h,fun _ h=>.inl h,fun _ _ _ _ _ h=>h,fun i c k hi hk=>?_⟩
 ·obtain ⟨rfl,rfl⟩:=key i c hi;exact ⟨⟨Nat.le_refl _,lw _⟩,Own.Ao (fun _ h=>.inl h) hon⟩
 ·obtain ⟨rfl,rfl⟩:=key i c hi;rw [hβn];exact hh β' hβ hβn
 ·obtain ⟨rfl,rfl⟩:=key i c hi;rw [hβn,Nm.FG fun _=>Nm.BI] at hk;cases hk;exact Nat.le_refl _
 ·rw [(key i c hi).1,(key j d hj).1]
 ·obtain ⟨rfl,rfl⟩:=key i c hi;rw [hβn,Nm.FG fun _=>Nm.BI] at hk;cases hk;show w.heap.size<(w.heap.push ob).size;rw [Array.size_push];exact lw _
theorem Fj: ∀ (fs:List (FC S.T)) (n:Nat),n<=(EO fs n).2.2
 | [],n=>Nat.le_refl _
 | .int k m::r,n=>Fj r n
 | .bool m::r,n=>Fj r n
 | .str m::r,n=>Fj r n
 | .sl σ l::r,n=>Nat.le_trans (Nat.le_succ n) (Fj r (n+1))
 | .ow σ E l::r,n=>Nat.le_trans (Nat.le_succ n) (Fj r (n+1))
theorem EP {N:Nat->Prop} {w:World}: ∀ {fs:List (FC S.T)} {vs:List Value} {n:Nat} {β:Nat->Nm} {cs:List SV} {o1:List (Nat×Own S)} {n':Nat},AG S w D fs vs->EO fs n=(cs,o1,n')->(∀ j,n<=j->j<n'->¬ N j)->
  ∃ β',CG D D N n n' o1 β β' w w/\AD β' cs=vs/\BZ (more N n n') cs
 | [],vs,n,β,cs,o1,n',hc,h,_=>by
  simp only [EO,bi] at h
  obtain ⟨rfl,rfl,rfl⟩:=h
  have:vs=[]:=by have:=hc.1;simp at this;exact jp this.symm
  subst this
  exact ⟨β,CG.refl,by simp [AD],trivial⟩
 | .int k m::r,vs,n,β,cs,o1,n',hc,h,hN=>by
  obtain ⟨v,u,rfl,h1,h2⟩:=hc.DK
  simp only [EO,bi] at h
  obtain ⟨rfl,rfl,rfl⟩:=h
  obtain ⟨β',h3,h4,h5⟩:=EP (β:=β) h2 rfl hN
  cases h1
  exact ⟨β',h3,by simp [AD,SV.den,h4],⟨trivial,h5⟩⟩
 | .bool m::r,vs,n,β,cs,o1,n',hc,h,hN=>by
  obtain ⟨v,u,rfl,h1,h2⟩:=hc.DK
  simp only [EO,bi] at h
  obtain ⟨rfl,rfl,rfl⟩:=h
  obtain ⟨β',h3,h4,h5⟩:=EP (β:=β) h2 rfl hN
  cases h1
  exact ⟨β',h3,by simp [AD,SV.den,h4],⟨trivial,h5⟩⟩
 | .str m::r,vs,n,β,cs,o1,n',hc,h,hN=>by
  obtain ⟨v,u,rfl,h1,h2⟩:=hc.DK
  simp only [EO,bi] at h
  obtain ⟨rfl,rfl,rfl⟩:=h
  obtain ⟨β',h3,h4,h5⟩:=EP (β:=β) h2 rfl hN
  cases h1
  exact ⟨β',h3,by simp [AD,SV.den,h4],⟨trivial,h5⟩⟩
 | .sl σ l::r,vs,n,β,cs,o1,n',hc,h,hN=>by
  obtain ⟨v,u,rfl,h1,h2⟩:=hc.DK
  obtain ⟨cs2,o2,n2,he2⟩: ∃ a b c,EO r (n+1)=(a,b,c):=⟨_,_,_,rfl⟩
  have hle:n+1<=n2:=by have:=Fj r (n+1);rw [he2] at this;exact this
  simp only [EO,he2,bi] at h
  obtain ⟨rfl,rfl,rfl⟩:=h
  let β1:Nat->Nm:=fun i=>if i=n then ⟨none,0,0,v⟩ else β i
  obtain ⟨β',h3,h4,h5⟩:=EP (N:=more N n (n+1)) (β:=β1) h2 (n:=n+1) he2 (fun j hj1 hj2 hj=>by
   rcases hj with hj|hj
   ·exact hN j (by omega) hj2 hj
   ·omega)
  have hn0:¬ N n:=hN n (Nat.le_refl _) (by omega)
  have e1:β1 n=⟨none,0,0,v⟩:=by simp [β1]
  have e2:β' n=⟨none,0,0,v⟩:=by rw [<-h3.agree n (.inr ⟨Nat.le_refl _,lw _⟩)];exact e1
  have e3:Nm.sl ⟨none,0,0,v⟩=v:=by cases h1<;>rfl
  have hnh: ∀ k,¬ Nm.has ⟨none,0,0,v⟩ k:=fun k=>Nm.Fe rfl (fun c=>by cases h1<;>rfl) k
  have hm: ∀ i,more (more N n (n+1)) (n+1) n2 i->more N n n2 i:=fun i hi=>by
   rcases hi with (hi|hi)|hi
   ·exact .inl hi
   ·exact .inr ⟨hi.1,by omega⟩
   ·exact .inr ⟨by omega,hi.2⟩
  refine ⟨β',⟨fun i hi=>?_,h3.below,by omega,fun i b hi=>?_,fun i b hi=>?_,fun i b k hi hk=>?_,fun i j b c k hi hj h6 h7=>?_,fun _ h=>h,fun _ h=>.inl h,fun _ _ _ _ _ h=>h,fun i b k hi hk=>?_⟩,?_,?_⟩
  ·rw [<-h3.agree i (.inl hi)];simp only [β1];rw [if_neg (fun e=>hn0 (by subst e;exact hi))]
  ·rw [AK] at hi
   split at hi
   ·rename_i he;subst he;cases hi;exact ⟨⟨Nat.le_refl _,by omega⟩,trivial⟩
   ·obtain ⟨h6,h7⟩:=h3.By i b hi;exact ⟨⟨by omega,h6.2⟩,Own.Ao hm h7⟩
  ·rw [AK] at hi
   split at hi
   ·rename_i he;subst he;cases hi;rw [e2];exact ⟨⟨rfl,fun c=>by cases h1<;>rfl⟩,by rw [e3];exact h1⟩
   ·exact h3.own i b hi
  ·rw [AK] at hi
   split at hi
   ·rename_i he;subst he;rw [e2] at hk;exact absurd hk (hnh k)
   ·exact h3.fresh i b k hi hk
  ·rw [AK] at hi hj
   split at hi
   ·rename_i he;subst he;rw [e2] at h6;exact absurd h6 (hnh k)
   ·split at hj
    ·rename_i he;subst he;rw [e2] at h7;exact absurd h7 (hnh k)
    ·exact h3.inj i j b c k hi hj h6 h7
  ·rw [AK] at hi
   split at hi
   ·rename_i he;subst he;rw [e2] at hk;exact absurd hk (hnh k)
   ·exact h3.lt i b k hi hk
  ·simp only [AD,SV.den,h4,e2,e3]
  ·exact ⟨.inr ⟨Nat.le_refl _,by omega⟩,Ce hm h5⟩
 | .ow σ E l::r,vs,n,β,cs,o1,n',hc,h,hN=>by
  obtain ⟨v,u,rfl,h1,h2⟩:=hc.DK
  obtain ⟨cs2,o2,n2,he2⟩: ∃ a b c,EO r (n+1)=(a,b,c):=⟨_,_,_,rfl⟩
  have hle:n+1<=n2:=by have:=Fj r (n+1);rw [he2] at this;exact this
  simp only [EO,he2,bi] at h
  obtain ⟨rfl,rfl,rfl⟩:=h
  let β1:Nat->Nm:=fun i=>if i=n then ⟨none,0,0,v⟩ else β i
  obtain ⟨β',h3,h4,h5⟩:=EP (N:=more N n (n+1)) (β:=β1) h2 (n:=n+1) he2 (fun j hj1 hj2 hj=>by
   rcases hj with hj|hj
   ·exact hN j (by omega) hj2 hj
   ·omega)
  have hn0:¬ N n:=hN n (Nat.le_refl _) (by omega)
  have e1:β1 n=⟨none,0,0,v⟩:=by simp [β1]
  have e2:β' n=⟨none,0,0,v⟩:=by rw [<-h3.agree n (.inr ⟨Nat.le_refl _,lw _⟩)];exact e1
  have e3:Nm.sl ⟨none,0,0,v⟩=v:=by cases h1<;>rfl
  have hnh: ∀ k,¬ Nm.has ⟨none,0,0,v⟩ k:=fun k=>Nm.Fe rfl (fun c=>by cases h1<;>rfl) k
  have hm: ∀ i,more (more N n (n+1)) (n+1) n2 i->more N n n2 i:=fun i hi=>by
   rcases hi with (hi|hi)|hi
   ·exact .inl hi
   ·exact .inr ⟨hi.1,by omega⟩
   ·exact .inr ⟨by omega,hi.2⟩
  refine ⟨β',⟨fun i hi=>?_,h3.below,by omega,fun i b hi=>?_,fun i b hi=>?_,fun i b k hi hk=>?_,fun i j b c k hi hj h6 h7=>?_,fun _ h=>h,fun _ h=>.inl h,fun _ _ _ _ _ h=>h,fun i b k hi hk=>?_⟩,?_,?_⟩
  ·rw [<-h3.agree i (.inl hi)];simp only [β1];rw [if_neg (fun e=>hn0 (by subst e;exact hi))]
  ·rw [AK] at hi
   split at hi
   ·rename_i he;subst he;cases hi;exact ⟨⟨Nat.le_refl _,by omega⟩,trivial⟩
   ·obtain ⟨h6,h7⟩:=h3.By i b hi;exact ⟨⟨by omega,h6.2⟩,Own.Ao hm h7⟩
  ·rw [AK] at hi
   split at hi
   ·rename_i he;subst he;cases hi;rw [e2];exact ⟨rfl,fun c=>by cases h1<;>rfl⟩
   ·exact h3.own i b hi
  ·rw [AK] at hi
   split at hi
   ·rename_i he;subst he;rw [e2] at hk;exact absurd hk (hnh k)
   ·exact h3.fresh i b k hi hk
  ·rw [AK] at hi hj
   split at hi
   ·rename_i he;subst he;rw [e2] at h6;exact absurd h6 (hnh k)
   ·split at hj
    ·rename_i he;subst he;rw [e2] at h7;exact absurd h7 (hnh k)
    ·exact h3.inj i j b c k hi hj h6 h7
  ·rw [AK] at hi
   split at hi
   ·rename_i he;subst he;rw [e2] at hk;exact absurd hk (hnh k)
   ·exact h3.lt i b k hi hk
  ·simp only [AD,SV.den,h4,e2,e3]
  ·exact ⟨.inr ⟨Nat.le_refl _,by omega⟩,Ce hm h5⟩
theorem R5 {o:List (Nat×Own S)} {N:Nat->Prop} (hg:GH w0 F D0 D o N β w) {f:Fd} {v:SV} {y:f.T S.T} (h:rd o f v=some y):Av S w D (f.fc y) (v.den β):=by
 unfold rd at h
 split at h
 ·rename_i k k' n
  split at h
  ·rename_i hk;cases h;rw [(DR _ _).1 hk];simp only [SV.den];exact .int _ _
  ·cases h
 ·cases h;simp only [SV.den];exact .bool _
 ·cases h;simp only [SV.den];exact .bool _
 ·cases h;simp only [SV.den];exact .str _
 ·rename_i σ i
  split at h
  ·rename_i σ' l hl
   split at h
   ·rename_i he _;subst he;cases h;exact (hg.own i _ hl).2
   ·cases h
  ·cases h
 ·rename_i σ n c
  split at h
  ·rename_i h1 h2
   cases h
   rw [ac h1]
   simp only [SV.den];exact .nil _ _ _
  ·cases h
 ·rename_i σ i off n c
  split at h
  ·rename_i h1
   cases h
   rw [ac h1]
   simp only [SV.den];exact .nil _ _ _
  ·cases h
 ·cases h
theorem Jc {o:List (Nat×Own S)} {N:Nat->Prop} (hg:GH w0 F D0 D o N β w): ∀ {fs:List Fd} {vs z:List SV} {p:Ps S.T fs},ZI o fs vs=some (p,z)-> ∃ us,vs=us++z/\AG S w D (EG fs p) (AD β us)
 | [],vs,z,p,h=>by
  simp only [ZI,am,bi] at h
  exact ⟨[],by simp [h.2],by simpa [EG,AD] using AG.nil⟩
 | f::r,[],z,p,h=>by simp [ZI] at h
 | f::r,v::vs,z,p,h=>by
  simp only [ZI] at h
  split at h
  case h_2=>cases h
  rename_i y hy
  split at h
  case h_2=>cases h
  rename_i q z' hq
  cases h
  obtain ⟨us,h1,h2⟩:=Jc hg hq
  exact ⟨v::us,by simp [h1],by simpa [EG,AD] using AG.cons (R5 hg hy) h2⟩
theorem Gi {o:List (Nat×Own S)} {N:Nat->Prop} (hg:GH w0 F D0 D o N β w) {τ:Nat}: ∀ {n:Nat} {cs:List SV} {l:List (S.T τ)},I7 o τ n cs=some l->l.length=n/\AG S w D (S.flat τ l) (AD β cs)
 | 0,[],l,h=>by simp only [I7,am] at h;subst h;exact ⟨rfl,by simpa [As.flat,AD] using AG.nil⟩
 | 0,_::_,l,h=>by simp [I7] at h
 | n+1,cs,l,h=>by
  simp only [I7] at h
  split at h
  case h_2=>cases h
  rename_i p z hp
  split at h
  case h_2=>cases h
  rename_i l' hl
  cases h
  obtain ⟨us,h1,h2⟩:=Jc hg hp
  obtain ⟨h3,h4⟩:=Gi hg hl
  refine ⟨by simp [h3],?_⟩
  rw [S.Bw,h1,CZ]
  exact (show AG S w D (S.enc τ (S.of τ p)) _ by unfold As.enc;rw [S.FF];exact h2).append h4
theorem UL {o:List (Nat×Own S)} {N:Nat->Prop} (hg:GH w0 F D0 D o N β w): ∀ {fs:List Fd} {p q:Ps S.T fs} {off:Nat} {vs:List SV} {us:List Value},Qt o fs p off vs=some q->AG S w D (EG fs p) us->vs≠[]->
  off+vs.length<=us.length/\AG S w D (EG fs q) (Af us off (AD β vs))
 | fs,p,q,off,[],us,h,hc,h0=>absurd rfl h0
 | [],p,q,off,v::vs,us,h,hc,_=>by simp [Qt] at h
 | f::r,p,q,0,v::vs,us,h,hc,_=>by
  simp only [Qt] at h
  split at h
  case h_2=>cases h
  rename_i y hy
  split at h
  case h_2=>cases h
  rename_i q' hq
  cases h
  obtain ⟨u,us',rfl,h1,h2⟩:=hc.DK
  have h3:=R5 hg hy
  cases vs with
  | nil=>
   have:q'=p.2:=by
    cases r with
    | nil=>rfl
    | cons=>simp only [Qt,am] at hq;exact hq.symm
   subst this
   exact ⟨by simp,by simpa [Af,AD,EG] using AG.cons h3 h2⟩
  | cons v' vs'=>
   obtain ⟨h4,h5⟩:=UL hg hq h2 (by simp)
   exact ⟨by simp only [List.length_cons] at h4 ⊢; omega,by simpa [Af,AD,EG] using AG.cons h3 h5⟩
 | f::r,p,q,off+1,v::vs,us,h,hc,h0=>by
  simp only [Qt] at h
  split at h
  case h_2=>cases h
  rename_i q' hq
  cases h
  obtain ⟨u,us',rfl,h1,h2⟩:=hc.DK
  obtain ⟨h4,h5⟩:=UL hg hq h2 h0
  refine ⟨by simp only [List.length_cons] at h4 ⊢; omega,?_⟩
  have e:Af (u::us') (off+1) (AD β (v::vs))=u::Af us' off (AD β (v::vs)):=by
   simp [Af,show off+1+(AD β (v::vs)).length=(off+(AD β (v::vs)).length)+1 by omega]
  rw [e]
  exact AG.cons h1 h5
theorem J3 {T:Nat->Type} {σ:Nat}: ∀ {fs:List Fd} {p:Ps T fs} {k:Nat} {m:List (T σ)},J2 σ fs p k=some m-> ∃ E,(EG fs p)[k]?=some (.ow σ E m)
 | [],p,k,m,h=>by simp [J2] at h
 | .ow σ' E::r,p,0,m,h=>by
  unfold J2 at h
  split at h
  ·rename_i he _;subst he;cases h;exact ⟨E,rfl⟩
  ·cases h
 | .int _::r,p,0,m,h=>by simp [J2] at h
 | .bool::r,p,0,m,h=>by simp [J2] at h
 | .str::r,p,0,m,h=>by simp [J2] at h
 | .sl _::r,p,0,m,h=>by simp [J2] at h
 | f::r,p,k+1,m,h=>by
  simp only [J2] at h
  obtain ⟨E,h1⟩:=J3 h
  exact ⟨E,by simpa [EG] using h1⟩
theorem Qm {T:Nat->Type} {σ:Nat} {m:List (T σ)}: ∀ {fs:List Fd} {p q:Ps T fs} {k:Nat},OJ σ m fs p k=some q-> ∃ E m0,(EG fs p)[k]?=some (.ow σ E m0)/\EG fs q=(EG fs p).set k (.ow σ E m)
 | [],p,q,k,h=>by simp [OJ] at h
 | .ow σ' E::r,p,q,0,h=>by
  unfold OJ at h
  split at h
  ·rename_i he _;subst he;cases h;exact ⟨E,p.1,rfl,rfl⟩
  ·cases h
 | .int _::r,p,q,0,h=>by simp [OJ] at h
 | .bool::r,p,q,0,h=>by simp [OJ] at h
 | .str::r,p,q,0,h=>by simp [OJ] at h
 | .sl _::r,p,q,0,h=>by simp [OJ] at h
 | f::r,p,q,k+1,h=>by
  simp only [OJ] at h
  split at h
  ·rename_i q' hq
   cases h
   obtain ⟨E,m0,h1,h2⟩:=Qm hq
   exact ⟨E,m0,by simpa [EG] using h1,by simp [EG,h2]⟩
  ·cases h
theorem kn {o:List (Nat×Own S)} {σ E:Nat} {v:SV}:(rd o (.ow σ E) v:Option (List (S.T σ)))=none:=by
 simp [rd]
theorem UM {o:List (Nat×Own S)}: ∀ {fs:List Fd} {p q:Ps S.T fs} {off:Nat} {vs:List SV},Qt o fs p off vs=some q-> ∀ c σ E (m:List (S.T σ)),(EG fs q)[c]?=some (.ow σ E m)->(EG fs p)[c]?=some (.ow σ E m)/\(c<off\/off+vs.length<=c)
 | fs,p,q,off,[],h,c,σ,E,m,hm=>by
  have:q=p:=by cases fs<;>simp only [Qt,am] at h<;>first|exact h.symm|rfl
  subst this;exact ⟨hm,by simp only [List.length_nil];omega⟩
 | [],p,q,off,_::_,h,c,σ,E,m,hm=>by simp [EG] at hm
 | f::r,p,q,0,v::vs,h,c,σ,E,m,hm=>by
  simp only [Qt] at h
  split at h
  case h_2=>cases h
  rename_i y hy
  split at h
  case h_2=>cases h
  rename_i q' hq
  cases h
  cases c with
  | zero=>
   simp only [EG,List.getElem?_cons_zero,am] at hm
   cases f<;>simp only [Fd.fc] at hm<;>cases hm
   rw [kn] at hy;cases hy
  | succ c=>
   simp only [EG,List.getElem?_cons_succ] at hm ⊢
   obtain ⟨h1,h2⟩:=UM hq c σ E m hm
   exact ⟨h1,by simp only [List.length_cons];omega⟩
 | f::r,p,q,off+1,v::vs,h,c,σ,E,m,hm=>by
  simp only [Qt] at h
  split at h
  case h_2=>cases h
  rename_i q' hq
  cases h
  cases c with
  | zero=>simp only [EG,List.getElem?_cons_zero] at hm ⊢; exact ⟨hm,.inl (by omega)⟩
  | succ c=>
   simp only [EG,List.getElem?_cons_succ] at hm ⊢
   obtain ⟨h1,h2⟩:=UM hq c σ E m hm
   exact ⟨h1,by omega⟩
theorem HP {α:Type} (cs:List α) (off:Nat):Af cs off []=cs:=by simp [Af]
theorem mul_lt {e l z off:Nat} (he:e<l) (ho:off<z):e*z+off<l*z:=by
 have:e*z+z<=l*z:=by rw [<-Nat.succ_mul];exact Nat.mul_le_mul_right _ he
 omega
theorem aL {e e1 z off off1:Nat} (h:e1*z+off1=e*z+off) (ho:off<z) (ho1:off1<z):e1=e/\off1=off:=by
 rcases Nat.lt_trichotomy e1 e with h1|h1|h1
 ·have:=mul_lt h1 ho1;omega
 ·subst h1;exact ⟨rfl,by omega⟩
 ·have:=mul_lt h1 ho;omega
theorem fy {P:Program} {o:List (Nat×Own S)} {N:Nat->Prop} (hg:GH w0 F D0 D o N β w) {nm:Nm} {τ E e off:Nat} {l:List (S.T τ)} {vs:List Value} {new:List SV} {q:Ps S.T (S.fds τ)}
  (hrow:w.ownsRow 0 E (S.sz τ) (.slice (nm.b.map fun b=>⟨b,0,none⟩) l.length nm.cap) l.length vs) (hvs:AG S w D (S.flat τ l) vs) (he:e<l.length) (hq:Qt o (S.fds τ) (S.to τ (l.getD e (S.A4 τ))) off new=some q):
  nm.b=some nm.AX/\(new≠[]->off+new.length<=S.sz τ)/\ ∃ w',(storeCells ⟨nm.AX,e*S.sz τ+off,none⟩ (AD β new) 0).run P w=.ok () w'/\
   w'.ownsRow 0 E (S.sz τ) (.slice (nm.b.map fun b=>⟨b,0,none⟩) l.length nm.cap) l.length (Af vs (e*S.sz τ+off) (AD β new))/\AG S w D (S.flat τ (l.set e (S.of τ q))) (Af vs (e*S.sz τ+off) (AD β new))/\
   w'.os=w.os/\w'.tape=w.tape/\w'.output=w.output/\w'.heap.size=w.heap.size/\ ∀ k,k≠nm.AX->w'.heap[k]?=w.heap[k]?:=by
 have henc:=S.Ph τ hvs he (S.A4 τ)
 have hfl:=S.Au τ l
 have hmul:e*S.sz τ+S.sz τ<=l.length*S.sz τ:=by rw [<-Nat.succ_mul];exact Nat.mul_le_mul_right _ he
 have hvl:vs.length=l.length*S.sz τ:=by rw [<-hvs.1,hfl]
 have hul:((vs.drop (e*S.sz τ)).take (S.sz τ)).length=S.sz τ:=by rw [List.length_take,List.length_drop];omega
 have hb:=A6 hrow (by omega)
 by_cases h0:new=[]
 ·subst h0
  have hq':q=S.to τ (l.getD e (S.A4 τ)):=by
   have: ∀ (fs:List Fd) (p q:Ps S.T fs) (off:Nat),Qt o fs p off []=some q->q=p:=fun fs p q off h=>by
    cases fs<;>simp only [Qt,am] at h<;>first|exact h.symm|rfl
   exact this _ _ _ _ hq
  refine ⟨hb,fun h=>absurd rfl h,w,by simp [AD,storeCells],by simpa [AD,HP] using hrow,?_,rfl,rfl,rfl,rfl,fun _ _=>rfl⟩
  simp only [AD,HP]
  rw [S.J0 τ l e _ he]
  have:Af (S.flat τ l) (e*S.sz τ) (S.enc τ (S.of τ q))=S.flat τ l:=by
   have h6:S.enc τ (S.of τ q)=S.enc τ (l.getD e (S.A4 τ)):=by unfold As.enc;rw [S.FF,hq']
   rw [h6,<- S.Pv τ l e he (S.A4 τ)]
   apply List.ext_getElem?
   intro j
   have hl6:(((S.flat τ l).drop (e*S.sz τ)).take (S.sz τ)).length=S.sz τ:=by rw [List.length_take,List.length_drop];omega
   rw [CP _ _ _ (by rw [hl6];omega),hl6]
   split
   ·rfl
   ·split
    ·rw [ol,if_pos (by omega),List.getElem?_drop];congr 1;omega
    ·rfl
  rw [this];exact hvs
 ·obtain ⟨h1,h2⟩:=UL hg hq henc h0
  rw [hul] at h1
  have hones: ∀ v∈AD β new,v.oneCell'=true:=fun v hv=>h2.WB v (by
   unfold Af;simp only [List.mem_append];exact .inl (.inr hv))
  obtain ⟨w',hr,hrow',_,h3,h4,h5,h6,h7⟩:=IG (P:=P) (off:=e*S.sz τ+off) hrow hones (by rw [AI];omega) (fun h=>h0 (by have:=congrArg List.length h;rw [AI] at this;exact jp this))
  refine ⟨hb,fun _=>h1,w',hr,hrow',?_,h3,h4,h5,h6,h7⟩
  rw [S.J0 τ l e _ he]
  have h8:Af vs (e*S.sz τ+off) (AD β new)=Af vs (e*S.sz τ) (Af ((vs.drop (e*S.sz τ)).take (S.sz τ)) off (AD β new)):=by
   apply List.ext_getElem?
   intro j
   have hl8:(Af ((vs.drop (e*S.sz τ)).take (S.sz τ)) off (AD β new)).length=S.sz τ:=by rw [GK _ _ _ (by rw [hul,AI];exact h1),hul]
   rw [CP _ _ _ (by rw [AI];omega),CP _ _ _ (by rw [hl8];omega),hl8,AI]
   by_cases c1:j<e*S.sz τ
   ·have c2:j<e*S.sz τ+off:=by omega
    simp [c1,c2]
   ·by_cases c3:j<e*S.sz τ+S.sz τ
    ·rw [if_neg c1,if_pos c3,CP _ _ _ (by rw [hul,AI];exact h1),AI]
     by_cases c4:j<e*S.sz τ+off
     ·rw [if_pos c4,if_pos (by omega),ol,if_pos (by omega),List.getElem?_drop];congr 1;omega
     ·rw [if_neg c4]
      by_cases c5:j<e*S.sz τ+off+new.length
      ·rw [if_pos c5,if_neg (by omega:¬ j -e*S.sz τ<off),if_pos (by omega:j -e*S.sz τ<off+new.length)];congr 1;omega
      ·rw [if_neg c5,if_neg (by omega:¬ j -e*S.sz τ<off),if_neg (by omega:¬ j -e*S.sz τ<off+new.length),ol,if_pos (by omega),List.getElem?_drop];congr 1;omega
    ·rw [if_neg c1,if_neg c3,if_neg (by omega),if_neg (by omega)]
  rw [h8]
  refine hvs.Af ?_ _
  unfold As.enc;rw [S.FF];exact h2
theorem getD_some {α:Type} {l:List α} {e:Nat} {d:α} (he:e<l.length):l[e]?=some (l.getD e d):=by
 rw [co he];simp [List.getD,he]
theorem JH {τ off:Nat} {x:S.T τ} {f:FC S.T} (h:(S.enc τ x)[off]?=some f):off<S.sz τ:=by
 rw [<-S.Ah τ x];exact (List.getElem?_eq_some_iff.1 h).1
theorem OZ.put {n:Nm} {τ e off:Nat} {l:List (S.T τ)} {vs us:List Value} {o:List (Nat×Own S)} {new:List SV} {q:Ps S.T (S.fds τ)} (h:OZ S w D n τ l vs) (he:e<l.length) (hvl:vs.length=l.length*S.sz τ)
  (hq:Qt o (S.fds τ) (S.to τ (l.getD e (S.A4 τ))) off new=some q) (hl:us.length=new.length) (hb:new≠[]->off+new.length<=S.sz τ):OZ S w D n τ (l.set e (S.of τ q)) (Af vs (e*S.sz τ+off) us):=by
 refine ⟨fun e1 x off1 σ E m hx ho=>?_,h.inj,h.ne⟩
 have ho1:=JH ho
 have hmul:e*S.sz τ+S.sz τ<=l.length*S.sz τ:=by rw [<-Nat.succ_mul];exact Nat.mul_le_mul_right _ he
 have hsp:new≠[]-> ∀ j,(Af vs (e*S.sz τ+off) us)[j]?=if j<e*S.sz τ+off then vs[j]? else if j<e*S.sz τ+off+us.length then us[j -(e*S.sz τ+off)]? else vs[j]?:=fun h0 j=>CP _ _ _ (by have:=hb h0;omega) j
 have hn0:new=[]->us=[]:=fun h0=>by subst h0;exact jp hl
 rw [List.getElem?_set] at hx
 split at hx
 ·rename_i hee
  subst hee
  cases hx
  unfold As.enc at ho
  rw [S.FF] at ho
  obtain ⟨h1,h2⟩:=UM hq off1 σ E m ho
  obtain ⟨h3,h4⟩:=h.row e _ off1 σ E m (getD_some he) h1
  refine ⟨?_,h4⟩
  by_cases h0:new=[]
  ·rw [hn0 h0,HP];exact h3
  ·rw [hsp h0]
   split
   ·exact h3
   ·rw [if_neg (by omega)];exact h3
 ·rename_i hee
  obtain ⟨h3,h4⟩:=h.row e1 x off1 σ E m hx ho
  refine ⟨?_,h4⟩
  by_cases h0:new=[]
  ·rw [hn0 h0,HP];exact h3
  ·rw [hsp h0]
   have hbb:=hb h0
   rcases Nat.lt_or_gt_of_ne hee with h5|h5
   ·have:e*S.sz τ+S.sz τ<=e1*S.sz τ:=by rw [<-Nat.succ_mul];exact Nat.mul_le_mul_right _ h5
    rw [if_neg (by omega),if_neg (by omega)];exact h3
   ·have:=mul_lt h5 ho1
    rw [if_pos (by omega)];exact h3
theorem V8 {P:Program} {o:List (Nat×Own S)} {N:Nat->Prop} (hg:GH w0 F D0 D o N β w) {n:Nm} {τ E e off σ j q0:Nat} {l:List (S.T τ)} {vs:List Value} {m:List (S.T σ)} {new:List SV} {q:Ps S.T (S.fds σ)} {p:Ps S.T (S.fds τ)}
  (hlo:n.len=l.length) (hrow:w.ownsRow 0 E (S.sz τ) (.slice (n.b.map fun b=>⟨b,0,none⟩) l.length n.cap) l.length vs) (hvs:AG S w D (S.flat τ l) vs) (hn:OZ S w D n τ l vs) (he:e<l.length) (hj:j<m.length)
  (hm:J2 σ (S.fds τ) (S.to τ (l.getD e (S.A4 τ))) off=some m) (hq:Qt o (S.fds σ) (S.to σ (m.getD j (S.A4 σ))) q0 new=some q) (hp:OJ σ (m.set j (S.of σ q)) (S.fds τ) (S.to τ (l.getD e (S.A4 τ))) off=some p)
  (hoff: ∀ k,n.has k->¬ D k):
  ∃ w',(storeCells ⟨A5 (n.hd (e*S.sz τ+off)),j*S.sz σ+q0,none⟩ (AD β new) 0).run P w=.ok () w'/\n.has (A5 (n.hd (e*S.sz τ+off)))/\(Own.dp τ E (l.set e (S.of τ p))).holds D β w' n/\
   w'.os=w.os/\w'.tape=w.tape/\w'.output=w.output/\w'.heap.size=w.heap.size/\ ∀ k,k≠A5 (n.hd (e*S.sz τ+off))->w'.heap[k]?=w.heap[k]?:=by
 obtain ⟨E1,hE1⟩:=J3 hm
 have hx:=getD_some (d:=S.A4 τ) he
 have hoffz:=JH (S:=S) (τ:=τ) (x:=l.getD e (S.A4 τ)) hE1
 obtain ⟨hcell,us,hr1,hu1⟩:=hn.row e _ off σ E1 m hx hE1
 obtain ⟨hv,hvb,hvn⟩:=EK (len:=m.length) hr1
 rw [hv] at hr1
 obtain ⟨hb,hbd,w',hst,hr2,hu2,h3,h4,h5,h6,h7⟩:=fy (P:=P) (β:=β) hg hr1 hu1 hj hq
 rw [Nt] at hst hb h7
 have hsub: ∃ cap,n.sub (e*S.sz τ+off)=some (A5 (n.hd (e*S.sz τ+off)),cap):=by
  rw [hvb] at hb
  exact Nm.NM hb
 obtain ⟨cap,hsub⟩:=hsub
 have hD: ∀ k,D k->w'.heap[k]?=w.heap[k]?:=fun k hk=>h7 k fun e=>hoff k (by rw [e];exact .inr ⟨_,_,hsub⟩) hk
 refine ⟨w',hst,.inr ⟨_,_,hsub⟩,⟨by rw [List.length_set];exact hlo,vs,?_,?_,?_⟩,h3,h4,h5,h6,h7⟩
 ·rw [List.length_set]
  refine DQ hrow fun g hg'=>h7 g fun e=>?_
  refine hn.ne _ _ _ hsub ?_
  cases hnb:n.b with
  | none=>rw [hnb] at hg';simp [Value.ownBlock] at hg'
  | some k=>rw [hnb] at hg';simp only [Option.map_some,Value.ownBlock,am] at hg';rw [hg',e]
 ·refine AG.B4 hD (fun _ h=>h) ⟨?_,fun i f v hf hv'=>?_⟩
  ·rw [S.Au,List.length_set,<- hvs.1,S.Au]
  ·obtain ⟨E2,m0,h8,h9⟩:=Qm hp
   rw [hE1] at h8;cases h8
   rw [S.J0 τ l e _ he] at hf
   have henc:S.enc τ (S.of τ p)=(S.enc τ (l.getD e (S.A4 τ))).set off (.ow σ E1 (m.set j (S.of σ q))):=by unfold As.enc;rw [S.FF];exact h9
   have hfl:=S.Au τ l
   have hmul:e*S.sz τ+S.sz τ<=l.length*S.sz τ:=by rw [<-Nat.succ_mul];exact Nat.mul_le_mul_right _ he
   rw [CP _ _ _ (by rw [S.Ah];omega),S.Ah] at hf
   split at hf
   ·exact hvs.2 i f v hf hv'
   ·split at hf
    ·rename_i c1 c2
     rw [henc,List.getElem?_set] at hf
     have hold:(S.flat τ l)[i]?=(S.enc τ (l.getD e (S.A4 τ)))[i -e*S.sz τ]?:=by
      rw [<-S.Pv τ l e he (S.A4 τ),ol,if_pos (by omega),List.getElem?_drop];congr 1;omega
     split at hf
     ·rename_i hio
      have hlt:off<(S.enc τ (l.getD e (S.A4 τ))).length:=by rw [S.Ah];exact hoffz
      rw [if_pos hlt] at hf
      cases hf
      have:=hvs.2 i (.ow σ E1 m) v (by rw [hold,<- hio];exact hE1) hv'
      cases this
      have e1:m.length=(m.set j (S.of σ q)).length:=by rw [List.length_set]
      rw [e1];exact .ow _ _ _ _ _
     ·exact hvs.2 i f v (by rw [hold];exact hf) hv'
    ·exact hvs.2 i f v hf hv'
 ·refine ⟨fun e1 x off1 σ1 E2 m1 hx1 ho1=>?_,hn.inj,hn.ne⟩
  have hz1:=JH ho1
  have key:e1*S.sz τ+off1≠e*S.sz τ+off-> ∀ {σ2 E3:Nat} {m2:List (S.T σ2)},(∃ us,w.ownsRow 0 E3 (S.sz σ2) (n.hd (e1*S.sz τ+off1)) m2.length us/\AG S w D (S.flat σ2 m2) us)-> ∃ us,w'.ownsRow 0 E3 (S.sz σ2) (n.hd (e1*S.sz τ+off1)) m2.length us/\AG S w' D (S.flat σ2 m2) us:=by
   rintro hne σ2 E3 m2 ⟨us2,k1,k2⟩
   refine ⟨us2,DQ k1 fun g hg'=>h7 g fun e3=>hne ?_,k2.B4 hD fun _ h=>h⟩
   obtain ⟨cap2,hs2⟩:=Nm.NM hg'
   rw [e3] at hs2
   exact hn.inj _ _ _ _ _ hs2 hsub
  rw [List.getElem?_set] at hx1
  split at hx1
  ·rename_i hee
   subst hee
   cases hx1
   obtain ⟨E3,m0,h8,h9⟩:=Qm hp
   rw [hE1] at h8;cases h8
   unfold As.enc at ho1
   rw [S.FF,h9,List.getElem?_set] at ho1
   split at ho1
   ·rename_i hoo
    subst hoo
    have hlt:off<(EG (S.fds τ) (S.to τ (l.getD e (S.A4 τ)))).length:=(List.getElem?_eq_some_iff.1 hE1).1
    rw [if_pos hlt] at ho1
    cases ho1
    refine ⟨hcell,_,?_,hu2.B4 hD fun _ h=>h⟩
    rw [List.length_set,hv];exact hr2
   ·rename_i hoo
    obtain ⟨k1,k2⟩:=hn.row e _ off1 σ1 E2 m1 hx ho1
    exact ⟨k1,key (by omega) k2⟩
  ·rename_i hee
   obtain ⟨k1,k2⟩:=hn.row e1 x off1 σ1 E2 m1 hx1 ho1
   exact ⟨k1,key (fun h=>hee (aL h hoffz hz1).1.symm) k2⟩
end
end Go.En
