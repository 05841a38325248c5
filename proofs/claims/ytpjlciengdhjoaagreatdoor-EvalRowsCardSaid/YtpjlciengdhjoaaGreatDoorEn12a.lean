/-
 A region that draws its order: what is checked of it (Chk), and that its first part may come in any order (VC.draw).
-/
import Derived.Test.YtpjlciengdhjoaaGreatDoorEn12
namespace Go.En
open Go.RowKit
section
variable {S:As}
theorem QC {α:Type} {t:List (Nat×α)} {u:Nat} {x:α}: ∀ {l:List Nat},lk (pick l t) u=some x->u∈l/\lk t u=some x
 | [],h=>by simp [pick,AW] at h
 | v::r,h=>by
  simp only [pick] at h
  split at h
  ·rename_i y hy
   simp only [AK] at h
   split at h
   ·rename_i he;subst he;cases h;exact ⟨by simp,hy⟩
   ·have:=QC h;exact ⟨by simp [this.1],this.2⟩
  ·have:=QC h;exact ⟨by simp [this.1],this.2⟩
theorem Ih {u:Nat} {x:SV}: ∀ {rs:List (Rec S)} {t:List (Nat×SV)},lk (HO t rs) u=some x->(∃ p r q,rs=p++r::q/\r.o.dst=some u/\x=r.x)\/((∀ r∈rs,r.o.dst≠some u)/\lk t u=some x)
 | [],t,h=>.inr ⟨by simp,h⟩
 | r::rs,t,h=>by
  simp only [HO] at h
  split at h
  ·rename_i hd
   rcases Ih h with ⟨p,r',q,h1,h2,h3⟩|⟨h1,h2⟩
   ·exact .inl ⟨r::p,r',q,by simp [h1],h2,h3⟩
   ·refine .inr ⟨fun r' hr'=>?_,h2⟩
    rcases List.mem_cons.1 hr' with rfl|hr'
    ·rw [hd];simp
    ·exact h1 r' hr'
  ·rename_i d hd
   rcases Ih h with ⟨p,r',q,h1,h2,h3⟩|⟨h1,h2⟩
   ·exact .inl ⟨r::p,r',q,by simp [h1],h2,h3⟩
   ·rw [FB] at h2
    split at h2
    ·rename_i he;subst he;cases h2;exact .inl ⟨[],r,rs,rfl,hd,rfl⟩
    ·rename_i he
     refine .inr ⟨fun r' hr'=>?_,h2⟩
     rcases List.mem_cons.1 hr' with rfl|hr'
     ·rw [hd];simpa using he
     ·exact h1 r' hr'
def BO:Nat->List (Rec S)->Prop
 | _,[]=>True
 | n,r::rs=>r.n1=n/\r.n1<=r.n2/\(∀ i b,lk r.o1 i=some b->r.n1<=i/\i<r.n2)/\BO r.n2 rs
theorem Nx: ∀ (n:Nat) (l m:List (Rec S)),A8 n (l++m)=A8 (A8 n l) m
 | n,[],m=>rfl
 | n,r::l,m=>by simp only [List.cons_append,A8];exact Nx _ l m
theorem BO.append: ∀ {n:Nat} {l m:List (Rec S)},BO n (l++m)↔BO n l/\BO (A8 n l) m
 | n,[],m=>by simp [BO,A8]
 | n,r::l,m=>by simp only [List.cons_append,BO,A8,BO.append (l:=l),and_assoc]
theorem BO.le: ∀ {n:Nat} {l:List (Rec S)},BO n l->n<=A8 n l
 | n,[],_=>Nat.le_refl _
 | n,r::l,⟨h1,h2,_,h4⟩=>by have:=BO.le h4;simp only [A8];omega
theorem BO.mem {n:Nat} {l:List (Rec S)} (h:BO n l) {r:Rec S} (hr:r∈l):n<=r.n1/\r.n1<=r.n2/\r.n2<=A8 n l/\ ∀ i b,lk r.o1 i=some b->r.n1<=i/\i<r.n2:=by
 obtain ⟨p,q,rfl⟩:=List.append_of_mem hr
 obtain ⟨h1,h2,h3,h4,h5⟩:=BO.append.1 h
 have h6:=h1.le
 have h7:=h5.le
 refine ⟨by omega,h3,?_,h4⟩
 rw [Nx];exact h7
theorem BO.at {n:Nat} {p q:List (Rec S)} {r:Rec S} (h:BO n (p++r::q)):r.n1=A8 n p:=(BO.append.1 h).2.1
theorem BO.before {n:Nat} {p q:List (Rec S)} {r r':Rec S} (h:BO n (p++r::q)) (hr:r'∈p):r'.n2<=r.n1:=by
 obtain ⟨h1,h2,_⟩:=BO.append.1 h
 rw [h2];exact (h1.mem hr).2.2.1
theorem BO.behind {n:Nat} {p q:List (Rec S)} {r r':Rec S} (h:BO n (p++r::q)) (hr:r'∈q):r.n2<=r'.n1:=by
 obtain ⟨h1,h2,h3,h4,h5⟩:=BO.append.1 h
 exact (h5.mem hr).1
theorem Kw {u:Nat}: ∀ {c:List Nat} {o:List (Nat×Own S)},lk (Se c o) u=if u∈c then none else lk o u
 | [],o=>by simp [Se]
 | j::c,o=>by
  simp only [Se,Cy,Kw (c:=c),List.mem_cons]
  by_cases h:j=u
  ·subst h;simp
  ·have h':¬ u=j:=fun e=>h e.symm
   simp [h,h']
structure Wc (n0:Nat) (r:Rec S):Prop where
 gb: ∀ i b,lk r.gb i=some b->i∈r.cn/\i<n0
 cn: ∀ j∈r.cn,j<r.n1
 pl:r.tk=false->r.cn=[]
theorem Wc.nil {n0:Nat} {r:Rec S} (h:Wc n0 r) (hc:r.cn=[]) (i:Nat):lk r.gb i=none:=by
 cases hg:lk r.gb i with
 | none=>rfl
 | some b=>have:=(h.gb i b hg).1;rw [hc] at this;cases this
def E6 (r:Rec S) (o:List (Nat×Own S)):List (Nat×Own S):=r.gb++(r.o1++Se r.cn o)
theorem CQ {r:Rec S} {o:List (Nat×Own S)} {u:Nat}:lk (E6 r o) u=(lk r.gb u).orElse fun _=>(lk r.o1 u).orElse fun _=>if u∈r.cn then none else lk o u:=by
 simp only [E6,NU,Kw]
theorem Nz {L:Nat->Bool}: ∀ {p q:List (Rec S)} {o:List (Nat×Own S)},oC L o (p++q)=oC L (oC L o p) q
 | [],q,o=>rfl
 | r::p,q,o=>by
  simp only [List.cons_append,oC]
  split
  ·exact Nz
  ·exact Nz
def Sub (o o2:List (Nat×Own S)):Prop:= ∀ u b,lk o u=some b->lk o2 u=some b
theorem J5 {r:Rec S} {o:List (Nat×Own S)} {n0 n:Nat} {rs:List (Rec S)} (hch:BO n (r::rs)) (hw:Wc n0 r) (ho: ∀ i c,lk o i=some c->i<n): ∀ i c,lk (E6 r o) i=some c->i<r.n2:=fun i c h=>by
 obtain ⟨h1,h2,h3,_⟩:=hch
 rw [CQ] at h
 cases hg:lk r.gb i with
 | some d=>have:=hw.cn i (hw.gb i d hg).1;omega
 | none=>
  rw [hg] at h
  simp only [Option.orElse_none] at h
  cases h4:lk r.o1 i with
  | some d=>exact (h3 i d h4).2
  | none=>
   rw [h4] at h
   simp only [Option.orElse_none] at h
   split at h
   ·cases h
   ·have:=ho i c h;omega
theorem Xz {r:Rec S} {o o2:List (Nat×Own S)} (h:Sub o o2):Sub (E6 r o) (E6 r o2):=fun u b hb=>by
 rw [CQ] at hb ⊢
 cases hg:lk r.gb u with
 | some d=>rw [hg] at hb;simpa using hb
 | none=>
  rw [hg] at hb
  simp only [Option.orElse_none] at hb ⊢
  cases h4:lk r.o1 u with
  | some d=>rw [h4] at hb;simpa using hb
  | none=>
   rw [h4] at hb
   simp only [Option.orElse_none] at hb ⊢
   split at hb
   ·cases hb
   ·rename_i hn;rw [if_neg hn];exact h u b hb
theorem U3 {l:List Nat} (h:Ol l=false):l=[]:=by cases l with|nil=>rfl|cons _ _=>cases h
theorem Ts {A L:Nat->Bool} {n0:Nat}: ∀ {rs:List (Rec S)} {n:Nat} {o o2:List (Nat×Own S)},BO n rs->(∀ r∈rs,Wc n0 r)->(∀ i c,lk o i=some c->i<n)->Sub o o2->(∀ r∈rs,A r.i=true->L r.i=true)->(∀ r∈rs,Ol r.cn=true->L r.i=true->A r.i=true)->Sub (oC A o rs) (oC L o2 rs)
 | [],n,o,o2,_,_,_,h,_,_=>h
 | r::rs,n,o,o2,hch,hw,ho,h,hAL,hT=>by
  have hw1:=hw r (by simp)
  have hch':=hch
  obtain ⟨h1,h2,h3,h4⟩:=hch
  simp only [oC]
  have hrest: ∀ {o o2:List (Nat×Own S)},(∀ i c,lk o i=some c->i<r.n2)->Sub o o2->Sub (oC A o rs) (oC L o2 rs):=fun ho h=>Ts h4 (fun r hr=>hw r (by simp [hr])) ho h (fun r hr=>hAL r (by simp [hr])) fun r hr=>hT r (by simp [hr])
  cases hL:L r.i with
  | false=>
   have hA:A r.i=false:=by
    cases hA:A r.i with
    | false=>rfl
    | true=>rw [hAL r (by simp) hA] at hL;cases hL
   rw [hA]
   exact hrest (fun i c hi=>by have:=ho i c hi;omega) h
  | true=>
   cases hA:A r.i with
   | true=>exact hrest (J5 hch' hw1 ho) (Xz h)
   | false=>
    have hcn:r.cn=[]:=by
     cases hc:Ol r.cn with
     | false=>exact U3 hc
     | true=>have:=hT r (by simp) hc hL;rw [hA] at this;cases this
    refine hrest (fun i c hi=>by have:=ho i c hi;omega) fun u b hb=>?_
    show lk (E6 r o2) u=some b
    have hlt:=ho u b hb
    have h5:lk r.o1 u=none:=by
     cases h5:lk r.o1 u with
     | none=>rfl
     | some d=>have:=(h3 u d h5).1;omega
    rw [CQ,hw1.nil hcn,h5,hcn]
    simpa using h u b hb
theorem Et {L:Nat->Bool} {u n0:Nat} {b:Own S}: ∀ {rs:List (Rec S)} {n:Nat} {o:List (Nat×Own S)},BO n rs->(∀ r∈rs,Wc n0 r)->(∀ i c,lk o i=some c->i<n)->(∀ r∈rs,L r.i=true->u ∉ r.cn)->(lk (oC L o rs) u=some b↔(∃ r∈rs,L r.i=true/\lk r.o1 u=some b)\/lk o u=some b)
 | [],n,o,_,_,_,_=>by simp [oC]
 | r::rs,n,o,hch,hw,ho,hu=>by
  have hw1:=hw r (by simp)
  have hch':=hch
  obtain ⟨h1,h2,h3,h4⟩:=hch
  simp only [oC,List.mem_cons,exists_eq_or_imp]
  cases hL:L r.i with
  | false=>
   rw [Et h4 (fun r hr=>hw r (by simp [hr])) (fun i c hi=>by have:=ho i c hi;omega) (fun r hr=>hu r (by simp [hr]))]
   simp
  | true=>
   have hn:=hu r (by simp) hL
   have hgn:lk r.gb u=none:=by
    cases hg:lk r.gb u with
    | none=>rfl
    | some d=>exact absurd (hw1.gb u d hg).1 hn
   show lk (oC L (E6 r o) rs) u=some b↔_
   rw [Et h4 (fun r hr=>hw r (by simp [hr])) (J5 hch' hw1 ho) (fun r hr=>hu r (by simp [hr])),CQ,hgn,if_neg hn]
   simp only [Option.orElse_none,true_and]
   cases h5:lk r.o1 u with
   | none=>simp
   | some c=>
    have h6:lk o u=none:=by
     cases h6:lk o u with
     | none=>rfl
     | some d=>have:=ho u d h6;have:=(h3 u c h5).1;omega
    simp only [Option.orElse_some,am,h6]
    constructor
    ·rintro (h|h)
     ·exact .inl (.inr h)
     ·exact .inl (.inl h)
    ·rintro ((h|h)|h)
     ·exact .inr h
     ·exact .inl h
     ·cases h
theorem Ig {L:Nat->Bool} {u n0:Nat} {b:Own S} (hu:n0<=u): ∀ {rs:List (Rec S)} {o:List (Nat×Own S)},(∀ r∈rs,Wc n0 r)->lk (oC L o rs) u=some b->(∃ r∈rs,L r.i=true/\lk r.o1 u=some b)\/lk o u=some b
 | [],o,_,h=>.inr h
 | r::rs,o,hw,h=>by
  simp only [oC] at h
  have hwr: ∀ r∈rs,Wc n0 r:=fun r hr=>hw r (by simp [hr])
  cases hL:L r.i with
  | false=>
   rw [hL] at h
   rcases Ig hu hwr h with ⟨r',h1,h2,h3⟩|h1
   ·exact .inl ⟨r',by simp [h1],h2,h3⟩
   ·exact .inr h1
  | true=>
   rw [hL] at h
   rcases Ig hu hwr (show lk (oC L (E6 r o) rs) u=some b from h) with ⟨r',h1,h2,h3⟩|h1
   ·exact .inl ⟨r',by simp [h1],h2,h3⟩
   ·rw [CQ] at h1
    cases hg:lk r.gb u with
    | some d=>have:=((hw r (by simp)).gb u d hg).2;omega
    | none=>
     rw [hg] at h1
     simp only [Option.orElse_none] at h1
     cases h5:lk r.o1 u with
     | some d=>rw [h5] at h1;exact .inl ⟨r,by simp,hL,by rw [h5];simpa using h1⟩
     | none=>
      rw [h5] at h1
      simp only [Option.orElse_none] at h1
      split at h1
      ·cases h1
      ·exact .inr h1
theorem Ny {L:Nat->Bool} {M:Nat->Prop}: ∀ {rs:List (Rec S)} {o o2:List (Nat×Own S)},(∀ u,¬ M u->lk o u=lk o2 u)-> ∀ u,¬ M u->lk (oC L o rs) u=lk (oC L o2 rs) u
 | [],o,o2,h,u,hu=>h u hu
 | r::rs,o,o2,h,u,hu=>by
  simp only [oC]
  split
  ·refine Ny (fun v hv=>?_) u hu
   show lk (E6 r o) v=lk (E6 r o2) v
   rw [CQ,CQ,h v hv]
  ·exact Ny h u hu
theorem U4 {L:Nat->Bool} {n0:Nat}: ∀ {rs:List (Rec S)} {n:Nat} {o:List (Nat×Own S)},BO n rs->(∀ r∈rs,Wc n0 r)->(∀ i c,lk o i=some c->i<n)-> ∀ i c,lk (oC L o rs) i=some c->i<A8 n rs
 | [],n,o,_,_,ho=>ho
 | r::rs,n,o,hch,hw,ho=>by
  have hch':=hch
  obtain ⟨h1,h2,h3,h4⟩:=hch
  simp only [oC,A8]
  split
  ·exact U4 h4 (fun r hr=>hw r (by simp [hr])) (J5 hch' (hw r (by simp)) ho)
  ·exact U4 h4 (fun r hr=>hw r (by simp [hr])) fun i c hi=>by have:=ho i c hi;omega
theorem GX {f:Nat->Bool} {u:Nat}: ∀ {l:List (Nat×Own S)},lk (JG f l) u=if f u=true then none else lk l u
 | []=>by simp [JG,AW]
 | (i,b)::r=>by
  simp only [JG]
  split
  ·rename_i hf
   rw [GX (l:=r),AK]
   by_cases he:i=u
   ·subst he;rw [if_pos hf,if_pos hf]
   ·rw [if_neg he]
  ·rename_i hf
   rw [AK,AK,GX (l:=r)]
   by_cases he:i=u
   ·subst he;rw [if_pos rfl,if_pos rfl,if_neg (by rw [hf];exact Bool.false_ne_true)]
   ·rw [if_neg he,if_neg he]
theorem Yc {fl:Bool} {hid:List Nat} {rs:List (Rec S)} {u:Nat} {b:Own S} {o:List (Nat×Own S)} (h:lk (PM fl hid rs o) u=some b):lk o u=some b/\(fl=true->IE u rs=false/\u ∉ hid):=by
 cases fl with
 | true=>
  simp only [PM,Kw] at h
  split at h
  ·cases h
  ·rename_i hn
   rw [GX] at h
   split at h
   ·cases h
   ·rename_i hm;exact ⟨h,fun _=>⟨Bool.eq_false_iff.2 hm,hn⟩⟩
 | false=>exact ⟨h,fun h=>by cases h⟩
theorem cL {u:Nat} {o:List (Nat×Own S)} (h:SR u o=true): ∃ b,lk o u=some b:=by
 unfold SR at h
 split at h
 ·rename_i b hb;exact ⟨b,hb⟩
 ·cases h
theorem Rw {u:Nat}: ∀ {rs:List (Rec S)},IE u rs=true-> ∃ r∈rs,Ow r.o.op=true/\SR u r.o1=true
 | [],h=>by cases h
 | r::rs,h=>by
  cases h1:Ow r.o.op<;>cases h2:SR u r.o1
  case true.true=>exact ⟨r,by simp,h1,h2⟩
  all_goals
   simp only [IE,h1,h2] at h
   obtain ⟨r',h3,h4⟩:=Rw h
   exact ⟨r',by simp [h3],h4⟩
theorem Rv {u:Nat}: ∀ {rs:List (Rec S)} {r:Rec S},r∈rs->Ow r.o.op=true->SR u r.o1=true->IE u rs=true
 | [],_,h,_,_=>absurd h List.not_mem_nil
 | r::rs,r',h,h1,h2=>by
  rcases List.mem_cons.1 h with rfl|h
  ·simp only [IE,h1,h2]
  ·have ih:=Rv h h1 h2
   cases h3:Ow r.o.op<;>cases h4:SR u r.o1<;>simp only [IE,h3,h4,ih]
theorem Ns {f:Nat->Bool}: ∀ {l:List Nat},Nr f l=true-> ∀ i∈l,f i=true
 | [],_,i,hi=>by cases hi
 | j::r,h,i,hi=>by
  simp only [Nr] at h
  split at h
  ·rename_i hj
   rcases List.mem_cons.1 hi with rfl|hi
   ·exact hj
   ·exact Ns h i hi
  ·cases h
theorem RV {f:Nat->Bool}: ∀ {l:List (Nat×Own S)},Us f l=true-> ∀ i b,lk l i=some b->f i=true
 | [],_,i,b,hi=>by simp [AW] at hi
 | (j,c)::r,h,i,b,hi=>by
  simp only [Us] at h
  split at h
  ·rename_i hj
   rw [AK] at hi
   split at hi
   ·rename_i he;subst he;exact hj
   ·exact RV h i b hi
  ·cases h
theorem Ly {own:Bool} {ms:List Nat} {i:Nat}: ∀ {rs:List (Rec S)},XB own ms i rs=true-> ∀ r∈rs,(Ol r.cn || (own && r.tk))=true->CR ms i r.i=true
 | [],_,r,hr,_=>by cases hr
 | r0::rs,h,r,hr,hc=>by
  simp only [XB] at h
  split at h
  ·rename_i h0
   rcases List.mem_cons.1 hr with rfl|hr
   ·rw [h0] at hc;cases hc
   ·exact Ly h r hr hc
  ·split at h
   ·rename_i h0
    rcases List.mem_cons.1 hr with rfl|hr
    ·exact h0
    ·exact Ly h r hr hc
   ·cases h
theorem UR (m i:Nat):eH m i=m.testBit i:=by
 unfold eH Nat.testBit
 have h:Nat.land 1 (m.shiftRight i)=1 &&& (m >>> i):=rfl
 rw [h]
 rw [Nat.one_and_eq_mod_two]
 have:m >>> i % 2=0\/m >>> i % 2=1:=by omega
 rcases this with h|h<;>rw [h]<;>rfl
def Mu (e:Edge):Bool:=match e.ground with
 | .textOnly _=>false
 | .gcOnly _=>false
 | _=>true
theorem Ke (e:Edge):Mu e=Region.binds .any e:=by
 unfold Mu Region.binds
 cases e.ground<;>rfl
def ID (ms:List Nat):List Edge->Nat->Nat
 | [],s=>s
 | e::r,s=>match Mu e with
  | true=>match nth ms e.on with
   | some m=>ID ms r (Nat.lor s (Nat.lor (2 ^ e.on) m))
   | none=>ID ms r (Nat.lor s (2 ^ e.on))
  | false=>ID ms r s
def C7:List Oper->List Nat->List Nat
 | [],ms=>ms
 | o::r,ms=>C7 r (ms++[ID ms o.after.toList 0])
theorem HM {ms:List Nat} {i:Nat}: ∀ {l:List Edge} {s:Nat},(ID ms l s).testBit i=true->s.testBit i=true\/ ∃ e∈l,Region.binds .any e=true/\(e.on=i\/(ms.getD e.on 0).testBit i=true)
 | [],s,h=>.inl h
 | e::l,s,h=>by
  simp only [ID] at h
  split at h
  ·rename_i hb
   rw [Ke] at hb
   split at h
   ·rename_i m hm
    rw [GI] at hm
    rcases HM h with h|⟨e',h1,h2⟩
    ·rw [show Nat.lor s (Nat.lor (2 ^ e.on) m)=s ||| (2 ^ e.on ||| m) from rfl] at h
     simp only [Nat.testBit_or,io,Nat.testBit_two_pow,ii] at h
     rcases h with h|h|h
     ·exact .inl h
     ·exact .inr ⟨e,by simp,hb,.inl h⟩
     ·exact .inr ⟨e,by simp,hb,.inr (by simpa [lc,hm] using h)⟩
    ·exact .inr ⟨e',by simp [h1],h2⟩
   ·rcases HM h with h|⟨e',h1,h2⟩
    ·rw [show Nat.lor s (2 ^ e.on)=s ||| 2 ^ e.on from rfl] at h
     simp only [Nat.testBit_or,io,Nat.testBit_two_pow,ii] at h
     rcases h with h|h
     ·exact .inl h
     ·exact .inr ⟨e,by simp,hb,.inl h⟩
    ·exact .inr ⟨e',by simp [h1],h2⟩
  ·rcases HM h with h|⟨e',h1,h2⟩
   ·exact .inl h
   ·exact .inr ⟨e',by simp [h1],h2⟩
theorem KN: ∀ (l:List Oper) (ms:List Nat),(∀ j,j<ms.length->(C7 l ms)[j]?=ms[j]?)/\(∀ j o,l[j]?=some o-> ∃ ms',ms'.length=ms.length+j/\(∀ x,x<ms'.length->(C7 l ms)[x]?=ms'[x]?)/\(C7 l ms)[ms.length+j]?=some (ID ms' o.after.toList 0))
 | [],ms=>⟨fun j _=>by simp [C7],fun j o h=>by simp at h⟩
 | o::r,ms=>by
  obtain ⟨h1,h2⟩:=KN r (ms++[ID ms o.after.toList 0])
  refine ⟨fun j hj=>?_,fun j o' h=>?_⟩
  ·simp only [C7]
   rw [h1 j (by simp;omega),el hj]
  ·cases j with
   | zero=>
    simp only [List.getElem?_cons_zero,am] at h
    subst h
    refine ⟨ms,rfl,fun x hx=>?_,?_⟩
    ·simp only [C7];rw [h1 x (by simp;omega),el hx]
    ·simp only [C7];rw [h1 _ (by simp)];simp
   | succ j=>
    simp only [List.getElem?_cons_succ] at h
    obtain ⟨ms',h3,h4,h5⟩:=h2 j o' h
    refine ⟨ms',by simp at h3;omega,fun x hx=>?_,?_⟩
    ·simp only [C7];exact h4 x hx
    ·simp only [C7]
     rw [<-h5]
     congr 1
     simp;omega
def Pc (all:Array Oper) (j i:Nat):Bool:=CR (C7 all.toList []) j i
theorem Gz {all:Array Oper} {L:Nat->Bool} (hcl: ∀ j o,all[j]?=some o->L j=true-> ∀ e∈o.after,Region.binds .any e=true->L e.on=true):
  ∀ {j:Nat} {o:Oper} {i:Nat},all[j]?=some o->(∀ e∈o.after,Region.binds .any e=true->L e.on=true)->Pc all j i=true->L i=true:=by
 intro j
 induction j using Nat.strongRecOn with
 | _ j ih=>
  intro o i ho hdep ha
  obtain ⟨ms',h1,h2,h3⟩:=(KN all.toList []).2 j o (by simpa using ho)
  simp only [List.length_nil,Nat.zero_add] at h1 h3
  unfold Pc CR at ha
  simp only [GI,h3,UR] at ha
  rcases HM ha with h|⟨e,he,hb,h⟩
  ·simp at h
  ·have hLe:=hdep e (by simpa using he) hb
   rcases h with h|h
   ·rw [<-h];exact hLe
   ·rw [lc] at h
    rcases Nat.lt_or_ge e.on ms'.length with hlt|hge
    ·have h4:=h2 e.on hlt
     cases ho':all[e.on]? with
     | none=>
      exfalso
      have:all.size<=e.on:=by simpa using ho'
      have hj:j<all.size:=(Array.getElem?_eq_some_iff.1 ho).1
      omega
     | some o'=>
      refine ih e.on (by omega) ho' (hcl e.on o' ho' hLe) ?_
      unfold Pc CR
      rw [GI,h4]
      cases hm:ms'[e.on]? with
      | none=>rw [hm] at h;simp at h
      | some m=>rw [hm] at h;simpa [UR] using h
    ·rw [List.getElem?_eq_none hge] at h;simp at h
structure cV (all:Array Oper) (ms:List Nat) (rs:List (Rec S)) (IS:List Nat):Prop where
 ms:ms=C7 all.toList []
 p8: ∀ (j:Nat) (o:Oper) cs b,all[j]?=some o->o.op≠.select cs b
 ops: ∀ r∈rs,all[r.i]?=some r.o
 nd:(rs.map (·.i)).Nodup
 cover: ∀ i,i<all.size->i∈rs.map (·.i)\/i∈IS
 eY: ∀ i∈IS,i<all.size/\i ∉ rs.map (·.i)
 py:IS.Nodup
 dep: ∀ p r q,rs=p++r::q-> ∀ e∈r.o.after,Region.binds .any e=true->e.on∈p.map (·.i)
 nQ: ∀ p j q o,IS=p++j::q->all[j]?=some o-> ∀ e∈o.after,Region.binds .any e=true->e.on∈rs.map (·.i)\/e.on∈p
 sep: ∀ p r q r',rs=p++r::q->r'∈q->(∀ u,r.o.dst=some u->u∈Lp all r'.o->Pc all r'.i r.i=true)/\(∀ u,r'.o.dst=some u->u∈Lp all r.o->Pc all r'.i r.i=true)/\(∀ u,r.o.dst=some u->r'.o.dst≠some u)
 lH: ∀ p j q,IS=p++j::q->(∀ i∈p,Pc all j i=true)/\(∀ r∈rs,r.pu=false->Pc all j r.i=true)
 pure: ∀ r∈rs,r.pu=true-> ∀ j oj,all[j]?=some oj->j≠r.i->Pc all r.i j=false->(∀ e∈oj.after,Region.binds .any e=true->e.on≠r.i)->r.o.apart all oj=true
theorem UE {rs p p' q q':List (Rec S)} {r r':Rec S} (hn:(rs.map (·.i)).Nodup) (h:rs=p++r::q) (h':rs=p'++r'::q') (hi:r.i=r'.i):p=p'/\r=r'/\q=q':=by
 subst h
 induction p generalizing p' with
 | nil=>
  cases p' with
  | nil=>simp at h';exact ⟨rfl,h'.1,h'.2⟩
  | cons x p'=>
   simp only [List.nil_append,List.cons_append,List.cons.injEq] at h'
   obtain ⟨rfl,h2⟩:=h'
   simp only [List.nil_append,List.map_cons,List.nodup_cons] at hn
   exact absurd (by rw [h2,hi];simp) hn.1
 | cons x p ih=>
  cases p' with
  | nil=>
   simp only [List.nil_append,List.cons_append,List.cons.injEq] at h'
   obtain ⟨rfl,h2⟩:=h'
   simp only [List.cons_append,List.map_cons,List.nodup_cons] at hn
   exact absurd (by rw [<-hi];simp) hn.1
  | cons y p'=>
   simp only [List.cons_append,List.cons.injEq] at h'
   obtain ⟨rfl,h2⟩:=h'
   simp only [List.cons_append,List.map_cons,List.nodup_cons] at hn
   obtain ⟨h3,h4,h5⟩:=ih hn.2 h2
   exact ⟨by rw [h3],h4,h5⟩
theorem R6 {rs:List (Rec S)} {r r':Rec S} (hn:(rs.map (·.i)).Nodup) (h:r∈rs) (h':r'∈rs) (hi:r.i=r'.i):r=r':=by
 obtain ⟨p,q,e⟩:=List.append_of_mem h
 obtain ⟨p',q',e'⟩:=List.append_of_mem h'
 exact (UE hn e e' hi).2.1
variable {P:Program} {w0:World} {F D0 D:Nat->Prop} {s:St S} {all:Array Oper} {ms:List Nat} {rs:List (Rec S)} {IS:List Nat} {fl:Bool} {hid:List Nat}
structure DX (fl:Bool) (hid:List Nat) (P:Program) (w0:World) (F D0:Nat->Prop) (s:St S) (all:Array Oper) (ms:List Nat) (p:List (Rec S)) (r:Rec S):Prop where
 slot: ∀ d,r.o.dst=some d->d<s.sz
 pure:r.pu=true-> ∀ (D N:Nat->Prop) β a w,G w0 F D0 D (seenAt fl hid s all ms p r.i r.o false) N β a w->(∀ j,r.n1<=j->j<r.n2->¬ N j)-> ∃ β',CG D D N r.n1 r.n2 r.o1 β β' w w/\r.x.on (more N r.n1 r.n2)/\Yields P all r.o (r.x.den β') a
 imp:r.pu=false-> ∀ (D N:Nat->Prop) β a w,G w0 F D0 D (seenAt fl hid s all ms p r.i r.o false) N β a w->(∀ j,r.n1<=j->j<r.n2->¬ N j)-> ∀ K Q',(∀ D' β' w',CG D D' N r.n1 r.n2 r.o1 β β' w w'->r.x.on (more N r.n1 r.n2)->K (a.put r.o.dst (r.x.den β')) w')->wpOp P all Q' r.i K a w
structure GL (fl:Bool) (hid:List Nat) (P:Program) (w0:World) (F D0:Nat->Prop) (s:St S) (all:Array Oper) (ms:List Nat) (p:List (Rec S)) (r:Rec S):Prop where
 slot: ∀ d,r.o.dst=some d->d<s.sz
 fl:fl=true
 pu:r.pu=false
 tf:r.tk=true
 tk:F3 s.n hid ms r.i r.n1 p r.cn r.gb=true
 there: ∀ j∈r.cn,∃ b,lk (oC (CR ms r.i) s.o p) j=some b
 step: ∀ (D N:Nat->Prop) β a w o2,G w0 F D0 D ⟨(BK s all ms p r.i r.o).t,o2,A8 s.n p,s.sz⟩ N β a w->Sub (oC (CR ms r.i) s.o p) o2->(∀ k,r.n1<=k->k<r.n2->¬ N k)-> ∀ K Q',(∀ D' β' w',(∀ i,N i->β i=β' i)->GH w0 F D0 D' (E6 r o2) (more N r.n1 r.n2) β' w'->r.x.on (more N r.n1 r.n2)->K (a.put r.o.dst (r.x.den β')) w')->wpOp P all Q' r.i K a w
structure Wr (fl:Bool) (P:Program) (w0:World) (F D0:Nat->Prop) (s:St S) (all:Array Oper) (ms:List Nat) (p:List (Rec S)) (r:Rec S):Prop where
 slot: ∀ d,r.o.dst=some d->d<s.sz
 pu:r.pu=false
 tf:r.tk=true
 cn:r.cn=[]
 gb:r.gb=[]
 ex: ∃ (j:Nat) (Gd:Own S->Prop),(∃ b,lk s.o j=some b/\Gd b)/\(∀ r'∈p,j∈r'.cn-> ∃ b,lk r'.gb j=some b/\Gd b)/\
  ∀ (D N:Nat->Prop) β a w o2,G w0 F D0 D ⟨(BK s all ms p r.i r.o).t,o2,A8 s.n p,s.sz⟩ N β a w->(∃ b,lk o2 j=some b/\Gd b)->(∀ k,r.n1<=k->k<r.n2->¬ N k)-> ∀ K Q',(∀ D' β' w',(∀ i,N i->β i=β' i)->GH w0 F D0 D' (E6 r o2) (more N r.n1 r.n2) β' w'->r.x.on (more N r.n1 r.n2)->K (a.put r.o.dst (r.x.den β')) w')->wpOp P all Q' r.i K a w
theorem QW {L:Nat->Bool} {j:Nat} {Gd:Own S->Prop}: ∀ {l:List (Rec S)} {o:List (Nat×Own S)},(∀ r∈l,L r.i=true->j∈r.cn-> ∃ b,lk r.gb j=some b/\Gd b)->(∀ r∈l,∀ b,lk r.gb j=some b->j∈r.cn)->(∀ r∈l,lk r.o1 j=none)->(∃ b,lk o j=some b/\Gd b)-> ∃ b,lk (oC L o l) j=some b/\Gd b
 | [],_,_,_,_,h=>h
 | r::l,o,h1,h2,h3,h=>by
  simp only [oC]
  split
  ·rename_i hL
   refine QW (fun r' h'=>h1 r' (by simp [h'])) (fun r' h'=>h2 r' (by simp [h'])) (fun r' h'=>h3 r' (by simp [h'])) ?_
   show ∃ b,lk (E6 r o) j=some b/\Gd b
   by_cases hj:j∈r.cn
   ·obtain ⟨b,hb,hg⟩:=h1 r (by simp) hL hj
    exact ⟨b,by rw [CQ,hb];rfl,hg⟩
   ·obtain ⟨b,hb,hg⟩:=h
    refine ⟨b,?_,hg⟩
    have hn:lk r.gb j=none:=by
     cases hx:lk r.gb j with
     | none=>rfl
     | some c=>exact absurd (h2 r (by simp) c hx) hj
    rw [CQ,hn,h3 r (by simp),if_neg hj]
    simpa using hb
  ·exact QW (fun r' h'=>h1 r' (by simp [h'])) (fun r' h'=>h2 r' (by simp [h'])) (fun r' h'=>h3 r' (by simp [h'])) h
inductive GM (fl:Bool) (hid:List Nat) (P:Program) (w0:World) (F D0:Nat->Prop) (s:St S) (all:Array Oper) (ms:List Nat) (p:List (Rec S)) (r:Rec S):Prop where
 | plain (htf:r.tk=false) (hcn:r.cn=[]) (hgb:r.gb=[]) (h:DX fl hid P w0 F D0 s all ms p r)
 | XN (h:GL fl hid P w0 F D0 s all ms p r)
 | SJ (h:Wr fl P w0 F D0 s all ms p r)
theorem GM.slot {p:List (Rec S)} {r:Rec S} (h:GM fl hid P w0 F D0 s all ms p r): ∀ d,r.o.dst=some d->d<s.sz:=by
 cases h with
 | plain _ _ _ h=>exact h.slot
 | XN h=>exact h.slot
 | SJ h=>exact h.slot
theorem GM.wf {p:List (Rec S)} {r:Rec S} (h:GM fl hid P w0 F D0 s all ms p r):Wc s.n r:=by
 cases h with
 | plain _ hcn hgb _=>exact ⟨fun i b hi=>by rw [hgb] at hi;simp [AW] at hi,fun j hj=>(by rw [hcn] at hj;cases hj),fun _=>hcn⟩
 | SJ h=>exact ⟨fun i b hi=>by rw [h.gb] at hi;simp [AW] at hi,fun j hj=>(by rw [h.cn] at hj;cases hj),fun _=>h.cn⟩
 | XN h=>
  have htk:=h.tk
  simp only [F3,dl] at htk
  obtain ⟨⟨h1,h2⟩,_⟩:=htk
  refine ⟨fun i b hi=>?_,fun j hj=>?_,fun h'=>(by rw [h.tf] at h';cases h')⟩
  ·have:=RV h2 i b hi
   simp only [dl] at this
   exact ⟨Cn.1 this.1,dk this.2⟩
  ·have:=Ns h1 j hj
   simp only [dl] at this
   exact dk this.2
theorem GM.take {p:List (Rec S)} {r:Rec S} (h:GM fl hid P w0 F D0 s all ms p r) {j:Nat} (hj:j∈r.cn):fl=true/\(j∈hid\/ ∃ r'∈p,Ow r'.o.op=true/\SR j r'.o1=true)/\(∃ b,lk (oC (CR ms r.i) s.o p) j=some b):=by
 cases h with
 | plain _ hcn _ _=>rw [hcn] at hj;cases hj
 | SJ h=>rw [h.cn] at hj;cases hj
 | XN h=>
  have htk:=h.tk
  simp only [F3,dl] at htk
  have:=Ns htk.1.1 j hj
  simp only [dl,io] at this
  refine ⟨h.fl,?_,h.there j hj⟩
  rcases this.1 with h1|h1
  ·exact .inl (Cn.1 h1)
  ·exact .inr (Rw h1)
theorem GL.nJ {p:List (Rec S)} {r:Rec S} (h:GL fl hid P w0 F D0 s all ms p r): ∀ r'∈p,Ol r'.cn=true->CR ms r.i r'.i=true:=by
 have htk:=h.tk
 simp only [F3,dl] at htk
 exact fun r' hr' hn=>Ly htk.2 r' hr' (by rw [hn];rfl)
theorem GM.eA {p:List (Rec S)} {r:Rec S} (h:GM fl hid P w0 F D0 s all ms p r) (hc:Ol r.cn=true): ∀ r'∈p,r'.tk=true->CR ms r.i r'.i=true:=by
 cases h with
 | plain _ hcn _ _=>rw [hcn] at hc;cases hc
 | SJ h=>rw [h.cn] at hc;cases hc
 | XN h=>
  have htk:=h.tk
  simp only [F3,dl] at htk
  exact fun r' hr' hn=>Ly htk.2 r' hr' (by rw [hc,hn,Bool.true_and,Bool.or_true])
def NL (s:St S) (rs:List (Rec S)) (L:Nat->Bool) (k:Nat):Prop:=k<s.n\/ ∃ r∈rs,L r.i=true/\r.n1<=k/\k<r.n2
structure J (w0:World) (F D0 D:Nat->Prop) (s:St S) (βs:Nat->Nm) (rs:List (Rec S)) (L:Nat->Bool) (β:Nat->Nm) (a:Act) (w:World):Prop where
 defers:a.defers=[]
 size:a.tmps.size=s.sz
 Gw: ∀ u x,lk s.t u=some x->u<s.sz/\x.on (· <s.n)
 By: ∀ i b,lk s.o i=some b->i<s.n/\b.on (· <s.n)
 om: ∀ i,i<s.n->βs i=β i
 nk: ∀ u x,lk s.t u=some x->(∀ r∈rs,r.o.dst=some u->L r.i=false)->a.tmps.getD u undef=x.den β
 new: ∀ r∈rs,L r.i=true-> ∀ u,r.o.dst=some u->u<s.sz/\r.x.on (NL s rs L)/\a.tmps.getD u undef=r.x.den β
 gh:GH w0 F D0 D (oC L s.o rs) (NL s rs L) β w
theorem J.seen {βs:Nat->Nm} {L:Nat->Bool} {β:Nat->Nm} {a:Act} {w:World} (hj:J w0 F D0 D s βs rs L β a w) (hc:cV all ms rs IS) (hcl: ∀ j o,all[j]?=some o->L j=true-> ∀ e∈o.after,Region.binds .any e=true->L e.on=true)
  {p q:List (Rec S)} {r:Rec S} (hr:rs=p++r::q) (hready: ∀ e∈r.o.after,Region.binds .any e=true->L e.on=true) (hL:L r.i=false) {t:Nat} {y:SV} (hy:lk (pick (Lp all r.o) (HO s.t p)) t=some y):
  t<s.sz/\y.on (NL s rs L)/\a.tmps.getD t undef=y.den β:=by
 obtain ⟨h1,h2⟩:=QC hy
 have hro:all[r.i]?=some r.o:=hc.ops r (by rw [hr];simp)
 rcases Ih h2 with ⟨p',r',q',h5,h7,h8⟩|⟨h3,h4⟩
 ·have hrs:rs=p'++r'::(q'++r::q):=by rw [hr,h5];simp
  have hanc:=(hc.sep p' r' (q'++r::q) r hrs (by simp)).1 t h7 h1
  have hLi:L r'.i=true:=Gz hcl hro hready hanc
  rw [h8]
  exact hj.new r' (by rw [hrs];simp) hLi t h7
 ·obtain ⟨h5,h6⟩:=hj.Gw t y h4
  refine ⟨h5,Ao (fun k hk=>.inl hk) h6,hj.nk t y h4 fun r2 hr2 h13=>?_⟩
  cases hLr2:L r2.i with
  | false=>rfl
  | true=>
   exfalso
   rw [hr] at hr2
   rcases List.mem_append.1 hr2 with hz|hz
   ·exact h3 r2 hz h13
   ·rcases List.mem_cons.1 hz with rfl|hmem
    ·rw [hL] at hLr2;cases hLr2
    ·have hanc:=(hc.sep p r q r2 hr hmem).2.1 t h13 h1
     have hro2:all[r2.i]?=some r2.o:=hc.ops r2 (by rw [hr];simp [hmem])
     have:=Gz hcl hro2 (hcl r2.i r2.o hro2 hLr2) hanc
     rw [hL] at this
     cases this
theorem LZ {a:Act} {d:Option Tmp} {u:Nat} {x:Value} (h:d≠some u):(a.put d x).tmps.getD u undef=a.tmps.getD u undef:=by
 cases d with
 | none=>rfl
 | some d=>
  have hne:d≠u:=fun e=>h (by rw [e])
  simp [Act.put,Array.getElem?_setIfInBounds_ne hne]
theorem RM {a:Act} {u:Nat} {x:Value} (h:u<a.tmps.size):(a.put (some u) x).tmps.getD u undef=x:=by
 simp [Act.put,h]
def Ez (L:Nat->Bool) (i:Nat):Nat->Bool:=fun j=>L j || j == i
theorem Sh {L:Nat->Bool} {r:Rec S} (hc:cV all ms rs IS) (hr:r∈rs) (k:Nat):NL s rs (Ez L r.i) k↔more (NL s rs L) r.n1 r.n2 k:=by
 simp only [NL,more]
 constructor
 ·rintro (h|⟨r',h1,h2,h3⟩)
  ·exact .inl (.inl h)
  ·simp only [Ez,io,beq_iff_eq] at h2
   rcases h2 with h2|h2
   ·exact .inl (.inr ⟨r',h1,h2,h3⟩)
   ·have:=R6 hc.nd h1 hr h2
    subst this;exact .inr h3
 ·rintro ((h|⟨r',h1,h2,h3⟩)|h)
  ·exact .inl h
  ·exact .inr ⟨r',h1,by simp [Ez,h2],h3⟩
  ·exact .inr ⟨r,hr,by simp [Ez],h⟩
theorem J.put {βs:Nat->Nm} {L:Nat->Bool} {β β':Nat->Nm} {a:Act} {w w':World} (hj:J w0 F D0 D s βs rs L β a w) (hc:cV all ms rs IS) (hch:BO s.n rs) {r:Rec S} (hr:r∈rs) (hslot: ∀ d,r.o.dst=some d->d<s.sz) {D':Nat->Prop}
  (hagree: ∀ i,NL s rs L i->β i=β' i) (hgh':GH w0 F D0 D' (E6 r (oC L s.o rs)) (more (NL s rs L) r.n1 r.n2) β' w') (hsubC:Sub (oC (Ez L r.i) s.o rs) (E6 r (oC L s.o rs))) (hx:r.x.on (more (NL s rs L) r.n1 r.n2)):
  J w0 F D0 D' s βs rs (Ez L r.i) β' (a.put r.o.dst (r.x.den β')) w':=by
 have hsub: ∀ k,NL s rs L k->NL s rs (Ez L r.i) k:=fun k hk=>(Sh hc hr k).2 (.inl hk)
 have hother: ∀ r'∈rs,r'.i≠r.i-> ∀ u,r'.o.dst=some u->r.o.dst≠some u:=fun r' h hne u h3 hd=>by
  obtain ⟨p,q,hr1⟩:=List.append_of_mem hr
  obtain ⟨p',q',h1⟩:=List.append_of_mem h
  rcases List.append_eq_append_iff.1 (hr1.symm.trans h1) with ⟨l,h4,h5⟩|⟨l,h4,h5⟩
  ·cases l with
   | nil=>simp only [List.nil_append,List.cons.injEq] at h5;exact hne (by rw [h5.1])
   | cons x l=>
    simp only [List.cons_append,List.cons.injEq] at h5
    have:r'∈q:=by rw [h5.2];simp
    exact (hc.sep p r q r' hr1 this).2.2 u hd h3
  ·cases l with
   | nil=>simp only [List.nil_append,List.cons.injEq] at h5;exact hne (by rw [h5.1])
   | cons x l=>
    simp only [List.cons_append,List.cons.injEq] at h5
    have:r∈q':=by rw [h5.2];simp
    exact (hc.sep p' r' q' r h1 this).2.2 u h3 hd
 have hwf: ∀ i c,lk s.o i=some c->i<s.n:=fun i c hi=>(hj.By i c hi).1
 refine ⟨by cases r.o.dst<;>simpa [Act.put] using hj.defers,by cases r.o.dst<;>simpa [Act.put] using hj.size,hj.Gw,hj.By,fun i hi=>(hj.om i hi).trans (hagree i (.inl hi)),fun u x hu hno=>?_,fun r' hr' hLi u hu=>?_,?_⟩
 ·have hne:r.o.dst≠some u:=fun hd=>by
   have:=hno r hr hd
   simp [Ez] at this
  rw [LZ hne,hj.nk u x hu fun r' hr' hd=>by have:=hno r' hr' hd;simp only [Ez,Bool.or_eq_false_iff] at this;exact this.1]
  exact CX hagree x (Ao (fun k hk=>.inl hk) (hj.Gw u x hu).2)
 ·by_cases he:r'.i=r.i
  ·have:=R6 hc.nd hr' hr he
   subst this
   have hlt:=hslot u hu
   refine ⟨hlt,Ao (fun k hk=>(Sh hc hr k).2 hk) hx,?_⟩
   rw [hu,RM (by rw [hj.size];exact hlt)]
  ·have hLi':L r'.i=true:=by simpa [Ez,he] using hLi
   obtain ⟨h1,h2,h3⟩:=hj.new r' hr' hLi' u hu
   refine ⟨h1,Ao hsub h2,?_⟩
   rw [LZ (hother r' hr' he u hu),h3]
   exact CX hagree _ h2
 ·exact GH.Hh (GH.mono hgh' fun k hk=>(Sh hc hr k).2 hk) hsubC
theorem J8 (hc:cV all ms rs IS) (hch:BO s.n rs) (hwf: ∀ i c,lk s.o i=some c->i<s.n) (hrec: ∀ p r q,rs=p++r::q->GM fl hid P w0 F D0 s all ms p r) {L:Nat->Bool} (hcl: ∀ j o,all[j]?=some o->L j=true-> ∀ e∈o.after,Region.binds .any e=true->L e.on=true)
  {p q:List (Rec S)} {r:Rec S} (hr:rs=p++r::q) (hL:L r.i=false):Sub (oC (Ez L r.i) s.o rs) (E6 r (oC L s.o rs)):=by
 have hwR: ∀ r'∈rs,Wc s.n r':=fun r' h=>by obtain ⟨p',q',e⟩:=List.append_of_mem h;exact (hrec p' r' q' e).wf
 have hne: ∀ r'∈p++q,r'.i≠r.i:=fun r' h he=>by
  have hnd:=hc.nd
  rw [hr] at hnd
  simp only [List.map_append,List.map_cons] at hnd
  obtain ⟨_,n2,n3⟩:=List.nodup_append.1 hnd
  rcases List.mem_append.1 h with h|h
  ·exact n3 r'.i (List.mem_map.2 ⟨r',h,rfl⟩) r.i (by simp) he
  ·exact (List.nodup_cons.1 n2).1 (by rw [<-he];exact List.mem_map.2 ⟨r',h,rfl⟩)
 have hadd: ∀ (l:List (Rec S)) (o:List (Nat×Own S)),(∀ r'∈l,r'.i≠r.i)->oC (Ez L r.i) o l=oC L o l:=fun l=>by
  induction l with
  | nil=>intro o _;rfl
  | cons x l ih=>
   intro o hx
   have:Ez L r.i x.i=L x.i:=by simp only [Ez];rw [show (x.i == r.i)=false by simpa using hx x (by simp)];simp
   simp only [oC,this]
   split
   ·exact ih _ fun r' h=>hx r' (by simp [h])
   ·exact ih _ fun r' h=>hx r' (by simp [h])
 have hp: ∀ r'∈p,r'.i≠r.i:=fun r' h=>hne r' (by simp [h])
 have hq: ∀ r'∈q,r'.i≠r.i:=fun r' h=>hne r' (by simp [h])
 have hch2:=hch
 rw [hr] at hch2
 obtain ⟨hchp,hchr⟩:=BO.append.1 hch2
 have hchr':=hchr
 obtain ⟨k1,k2,k3,k4⟩:=hchr
 have hwr:=hwR r (by rw [hr];simp)
 have hX: ∀ i c,lk (oC L s.o p) i=some c->i<A8 s.n p:=U4 hchp (fun r' h=>hwR r' (by rw [hr];simp [h])) hwf
 have eL:oC (Ez L r.i) s.o rs=oC L (E6 r (oC L s.o p)) q:=by
  rw [hr,Nz,hadd p _ hp]
  simp only [oC]
  rw [show Ez L r.i r.i=true by simp [Ez]]
  exact hadd q _ hq
 have eR:oC L s.o rs=oC L (oC L s.o p) q:=by
  rw [hr,Nz]
  simp only [oC,hL]
 rw [eL,eR]
 have hnot: ∀ t∈q,L t.i=true->CR ms t.i r.i=false:=fun t ht hLt=>by
  cases ha:CR ms t.i r.i with
  | false=>rfl
  | true=>
   have hot:=hc.ops t (by rw [hr];simp [ht])
   have ha':Pc all t.i r.i=true:=by unfold Pc;rw [<-hc.ms];exact ha
   have:=Gz hcl hot (hcl t.i t.o hot hLt) ha'
   rw [hL] at this;cases this
 intro u b hb
 cases htf:r.tk with
 | false=>
  -- who takes nothing
  have hcn:=hwr.pl htf
  have hgn:=hwr.nil hcn
  by_cases hu:r.n1<=u/\u<r.n2
  ·have hun: ∀ t∈q,L t.i=true->u ∉ t.cn:=fun t ht hLt hm=>by
    obtain ⟨q1,q2,e⟩:=List.append_of_mem ht
    have et:rs=(p++r::q1)++t::q2:=by rw [hr,e];simp
    obtain ⟨_,_,⟨c,h1⟩⟩:=(hrec _ t q2 et).take hm
    have hsn:s.n<=u:=by have:=hchp.le;omega
    rcases Ig hsn (fun r' h=>hwR r' (by rw [et];exact List.mem_append_left _ h)) h1 with ⟨r',h2,h3,h4⟩|h2
    ·have h2':r'∈rs:=by rw [et];exact List.mem_append_left _ h2
     by_cases he:r'=r
     ·subst he;rw [hnot t ht hLt] at h3;cases h3
     ·have hcm:=(hch.mem h2').2.2.2 u c h4
      rw [hr] at h2'
      rcases List.mem_append.1 h2' with h5|h5
      ·have:=hch2.before h5;omega
      ·rcases List.mem_cons.1 h5 with h5|h5
       ·exact he h5
       ·have:=hch2.behind h5;omega
    ·have:=hwf u c h2;omega
   rw [Et k4 (fun r' h=>hwR r' (by rw [hr];simp [h])) (J5 hchr' hwr hX) hun] at hb
   rw [CQ,hgn,hcn]
   simp only [Option.orElse_none]
   rcases hb with ⟨r',h1,_,h2⟩|hb
   ·have:=(k4.mem h1).2.2.2 u b h2
    have:=(k4.mem h1).1
    omega
   ·rw [CQ,hgn,hcn] at hb
    simp only [Option.orElse_none] at hb
    cases h5:lk r.o1 u with
    | some d=>rw [h5] at hb;simpa using hb
    | none=>
     rw [h5] at hb
     simp only [Option.orElse_none] at hb
     have:lk (oC L s.o p) u=some b:=by simpa using hb
     have:=hX u b this
     omega
  ·have h5: ∀ v,¬ (r.n1<=v/\v<r.n2)->lk r.o1 v=none:=fun v hv=>by
    cases h5:lk r.o1 v with
    | none=>rfl
    | some d=>exact absurd (k3 v d h5) hv
   rw [Ny (M:=fun v=>r.n1<=v/\v<r.n2) (o2:=oC L s.o p) (fun v hv=>by rw [CQ,hgn,h5 v hv,hcn];simp) u hu] at hb
   rw [CQ,hgn,h5 u hu,hcn]
   simpa using hb
 | true=>
  -- who takes something: the others take nothing
  have hqn: ∀ t∈q,L t.i=true->t.cn=[]:=fun t ht hLt=>by
   cases hc':Ol t.cn with
   | false=>exact U3 hc'
   | true=>
    obtain ⟨q1,q2,e⟩:=List.append_of_mem ht
    have et:rs=(p++r::q1)++t::q2:=by rw [hr,e];simp
    have:=(hrec _ t q2 et).eA hc' r (by simp) htf
    rw [hnot t ht hLt] at this;cases this
  have hun: ∀ v,∀ t∈q,L t.i=true->v ∉ t.cn:=fun v t ht hLt=>by rw [hqn t ht hLt];simp
  have hwq: ∀ r'∈q,Wc s.n r':=fun r' h=>hwR r' (by rw [hr];simp [h])
  rw [Et k4 hwq (J5 hchr' hwr hX) (hun u)] at hb
  have hX2: ∀ i c,lk (oC L s.o p) i=some c->i<r.n2:=fun i c h=>by have:=hX i c h;omega
  rcases hb with ⟨r',h1,h2,h3⟩|hb
  ·have h4:=(k4.mem h1).2.2.2 u b h3
   have h5:=(k4.mem h1).1
   have g1:lk r.gb u=none:=by
    cases hg:lk r.gb u with
    | none=>rfl
    | some d=>have:=hwr.cn u (hwr.gb u d hg).1;omega
   have g2:lk r.o1 u=none:=by
    cases hg:lk r.o1 u with
    | none=>rfl
    | some d=>have:=(k3 u d hg).2;omega
   have g3:u ∉ r.cn:=fun h=>by have:=hwr.cn u h;omega
   rw [CQ,g1,g2,if_neg g3]
   simp only [Option.orElse_none]
   exact (Et k4 hwq hX2 (hun u)).2 (.inl ⟨r',h1,h2,h3⟩)
  ·rw [CQ] at hb ⊢
   cases g1:lk r.gb u with
   | some d=>rw [g1] at hb;simpa using hb
   | none=>
    rw [g1] at hb
    simp only [Option.orElse_none] at hb ⊢
    cases g2:lk r.o1 u with
    | some d=>rw [g2] at hb;simpa using hb
    | none=>
     rw [g2] at hb
     simp only [Option.orElse_none] at hb ⊢
     split at hb
     ·cases hb
     ·rename_i g3
      rw [if_neg g3]
      exact (Et k4 hwq hX2 (hun u)).2 (.inr hb)
def AQ (listed:Array Bool):Nat->Bool:=fun i=>listed.getD i false
def Fk (listed:Array Bool):Nat:=listed.toList.count false
theorem G5 {listed:Array Bool} {i:Nat} (hi:i<listed.size):AQ (listed.setIfInBounds i true)=Ez (AQ listed) i:=by
 funext j
 simp only [AQ,Ez]
 by_cases h:i=j
 ·subst h;simp [hi]
 ·have:(j == i)=false:=by simp;omega
  rw [getD_set_ne false h];simp [this]
theorem KY {listed:Array Bool} {i:Nat} (hi:i<listed.size) (h:AQ listed i=false):Fk (listed.setIfInBounds i true)+1=Fk listed:=by
 have hl:i<listed.toList.length:=by simpa using hi
 have hv:listed.toList[i]=false:=by simpa [AQ,hi] using h
 simp only [Fk,Array.toList_setIfInBounds]
 have hpos:0<listed.toList.count false:=List.count_pos_iff.2 (by rw [<-hv];exact List.getElem_mem hl)
 have h1:(listed.toList.set i true).count false=listed.toList.count false -1:=by
  rw [List.count_set hl,hv];simp
 rw [h1];omega
theorem JB {listed:Array Bool} (h:Fk listed=0) {i:Nat} (hi:i<listed.size):AQ listed i=true:=by
 have h1:=List.count_eq_zero.1 h
 cases hv:AQ listed i with
 | true=>rfl
 | false=>
  exfalso
  apply h1
  have:listed.toList[i]'(by simpa using hi)=false:=by simpa [AQ,hi] using hv
  rw [<-this]
  exact List.getElem_mem _
theorem N4 {listed:Array Bool} {i:Nat} {o:Oper} (hi:i<listed.size) (h:AQ listed i=false) (ho:all[i]?=some o) (hd: ∀ e∈o.after,Region.binds .any e=true->AQ listed e.on=true):i∈Region.ready .any all listed:=by
 refine mem_ready.2 ⟨?_,o,ho,hd⟩
 simpa [AQ,hi] using h
theorem N0 {listed:Array Bool} {i:Nat} (h:i∈Region.ready .any all listed):AQ listed i=false/\i<listed.size/\ ∃ o,all[i]?=some o/\ ∀ e∈o.after,Region.binds .any e=true->AQ listed e.on=true:=by
 obtain ⟨h1,o,h2,h3⟩:=mem_ready.1 h
 have hlt:i<listed.size:=by
  rcases Nat.lt_or_ge i listed.size with h'|h'
  ·exact h'
  ·simp [Array.getElem?_eq_none h'] at h1
 exact ⟨by simpa [AQ,hlt] using h1,hlt,o,h2,h3⟩
def Mj (all:Array Oper) (L:Nat->Bool):Prop:= ∀ j o,all[j]?=some o->L j=true-> ∀ e∈o.after,Region.binds .any e=true->L e.on=true
theorem Mj.add {L:Nat->Bool} (h:Mj all L) {i:Nat} (hd: ∀ o,all[i]?=some o-> ∀ e∈o.after,Region.binds .any e=true->L e.on=true):Mj all (Ez L i):=fun j o ho hj e he hb=>by
 simp only [Ez,io,beq_iff_eq] at hj ⊢
 rcases hj with hj|rfl
 ·exact .inl (h j o ho hj e he hb)
 ·exact .inl (hd o ho e he hb)
theorem LG (hc:cV all ms rs IS) {Q':Exit->Act->World->Prop}: ∀ (q p:List Nat) (fuel:Nat) (listed:Array Bool) (a:Act) (w:World),IS=p++q->listed.size=all.size->Mj all (AQ listed)->
  (∀ i,i<all.size->(AQ listed i=true↔i∈rs.map (·.i)\/i∈p))->Fk listed<=fuel->wpList P all Q' (q.filterMap (all[·]?)) a w->wpAny P .any all Q' fuel listed a w
 | [],p,fuel,listed,a,w,hs,hsz,_,hL,_,h=>by
  refine wpAny_done ?_ (by simpa [wpList] using h) fuel
  rw [List.eq_nil_iff_forall_not_mem]
  intro i hi
  obtain ⟨h1,h2,_⟩:=N0 hi
  have:AQ listed i=true:=(hL i (by omega)).2 (by have:=hc.cover i (by omega);rw [hs] at this;simpa using this)
  rw [h1] at this;cases this
 | j::q,p,fuel,listed,a,w,hs,hsz,hcl,hL,hf,h=>by
  have hjm:j∈IS:=by rw [hs];simp
  have hjlt:=(hc.eY j hjm).1
  have hjp:j ∉ p:=by
   have:=hc.py;rw [hs,List.nodup_append] at this
   intro hj;exact this.2.2 j hj j (by simp) rfl
  have hLj:AQ listed j=false:=by
   cases hv:AQ listed j with
   | false=>rfl
   | true=>
    rcases (hL j hjlt).1 hv with h1|h1
    ·exact absurd h1 (hc.eY j hjm).2
    ·exact absurd h1 hjp
  obtain ⟨o,ho⟩: ∃ o,all[j]?=some o:=⟨_,Array.getElem?_eq_getElem hjlt⟩
  have hdep: ∀ e∈o.after,Region.binds .any e=true->AQ listed e.on=true:=fun e he hb=>by
   have hd:=hc.nQ p j q o hs ho e he hb
   have hlt:e.on<all.size:=by
    rcases hd with hd|hd
    ·obtain ⟨r,hr,hri⟩:=List.mem_map.1 hd
     have:=hc.ops r hr;rw [hri] at this
     exact (Array.getElem?_eq_some_iff.1 this).1
    ·exact (hc.eY e.on (by rw [hs];simp [hd])).1
   exact (hL e.on hlt).2 hd
  have hrd:j∈Region.ready .any all listed:=N4 (by omega) hLj ho hdep
  have honly: ∀ i∈Region.ready .any all listed,i=j:=fun i hi=>by
   obtain ⟨h1,h2,oi,h3,h4⟩:=N0 hi
   have hilt:i<all.size:=by omega
   rcases hc.cover i hilt with h5|h5
   ·have:=(hL i hilt).2 (.inl h5);rw [h1] at this;cases this
   ·rw [hs,List.mem_append,List.mem_cons] at h5
    rcases h5 with h5|h5|h5
    ·have:=(hL i hilt).2 (.inr h5);rw [h1] at this;cases this
    ·exact h5
    ·exfalso
     obtain ⟨q1,q2,hq⟩:=List.append_of_mem h5
     have hanc:=(hc.lH (p++j::q1) i q2 (by rw [hs,hq];simp)).1 j (by simp)
     have:=Gz hcl h3 h4 hanc
     rw [hLj] at this;cases this
  cases fuel with
  | zero=>have:=JB (Nat.le_zero.1 hf) (i:=j) (by omega);rw [hLj] at this;cases this
  | succ fuel=>
   refine ⟨fun h0=>(by rw [h0] at hrd;cases hrd),fun i hi=>?_⟩
   have:=honly i hi;subst this
   have hset:AQ (listed.setIfInBounds i true)=Ez (AQ listed) i:=G5 (by omega)
   have hrec: ∀ a w,wpList P all Q' (q.filterMap (all[·]?)) a w->wpAny P .any all Q' fuel (listed.setIfInBounds i true) a w:=fun a w hh=>by
    refine LG hc q (p++[i]) fuel _ a w (by rw [hs];simp) (by simpa using hsz) ?_ (fun x hx=>?_) ?_ hh
    ·rw [hset];exact hcl.add fun o' ho'=>by rw [ho] at ho';cases ho';exact hdep
    ·rw [hset];simp only [Ez,io,beq_iff_eq,hL x hx,List.mem_append,List.mem_singleton,or_assoc]
    ·have:=KY (i:=i) (by omega) hLj;omega
   simp only [List.filterMap_cons,ho] at h
   unfold wpOp
   simp only [ho]
   unfold wpList at h
   split at h
   ·rename_i hw
    rw [if_pos hw]
    exact h.imp (Oper.wp_mono fun a w hh=>hrec a w hh) id
   ·rename_i hw
    rw [if_neg hw]
    exact hrec _ _ h
theorem RF {L:Nat->Bool}: ∀ {l:List (Rec S)},(∃ r∈l,L r.i=false)-> ∃ p r q,l=p++r::q/\L r.i=false/\ ∀ x∈p,L x.i=true
 | [],h=>by obtain ⟨r,hr,_⟩:=h;cases hr
 | r::l,h=>by
  cases hL:L r.i with
  | false=>exact ⟨[],r,l,rfl,hL,by simp⟩
  | true=>
   obtain ⟨r',hr',h'⟩:=h
   rcases List.mem_cons.1 hr' with rfl|hr'
   ·rw [hL] at h';cases h'
   ·obtain ⟨p,x,q,h1,h2,h3⟩:=RF ⟨r',hr',h'⟩
    refine ⟨r::p,x,q,by simp [h1],h2,fun y hy=>?_⟩
    rcases List.mem_cons.1 hy with rfl|hy
    ·exact hL
    ·exact h3 y hy
theorem WJ {βs:Nat->Nm} (hc:cV all ms rs IS) (hch:BO s.n rs) (hrec: ∀ p r q,rs=p++r::q->GM fl hid P w0 F D0 s all ms p r) {Q':Exit->Act->World->Prop} (hQ: ∀ c a d v w,Q' (.panic c) (a.put d v) w->Q' (.panic c) a w)
  (hdone: ∀ L D β a w,J w0 F D0 D s βs rs L β a w->(∀ r∈rs,L r.i=true)->wpList P all Q' (IS.filterMap (all[·]?)) a w):
  ∀ (fuel:Nat) (listed:Array Bool) (D:Nat->Prop) (β:Nat->Nm) (a:Act) (w:World),J w0 F D0 D s βs rs (AQ listed) β a w->listed.size=all.size->Mj all (AQ listed)->(∀ i,i<all.size->AQ listed i=true->i∈rs.map (·.i))->Fk listed<=fuel->
   wpAny P .any all Q' fuel listed a w:=by
 intro fuel
 induction fuel with
 | zero=>
  intro listed D β a w hj hsz hcl hpre hf
  have hallL: ∀ i,i<all.size->AQ listed i=true:=fun i hi=>JB (Nat.le_zero.1 hf) (by omega)
  have hall: ∀ r∈rs,AQ listed r.i=true:=fun r hr=>hallL r.i (Array.getElem?_eq_some_iff.1 (hc.ops r hr)).1
  exact LG hc IS [] 0 listed a w rfl hsz hcl (fun i hi=>⟨fun h=>.inl (hpre i hi h),fun _=>hallL i hi⟩) hf (hdone _ D β a w hj hall)
 | succ fuel ih=>
  intro listed D β a w hj hsz hcl hpre hf
  by_cases hall: ∀ r∈rs,AQ listed r.i=true
  ·refine LG hc IS [] (fuel+1) listed a w rfl hsz hcl (fun i hi=>⟨fun h=>.inl (hpre i hi h),fun h=>?_⟩) hf (hdone _ D β a w hj hall)
   rcases h with h|h
   ·obtain ⟨r,hr,rfl⟩:=List.mem_map.1 h;exact hall r hr
   ·cases h
  ·have hex: ∃ r∈rs,AQ listed r.i=false:=by
    apply Classical.byContradiction
    intro hno
    exact hall fun r hr=>by
     cases hv:AQ listed r.i with
     | true=>rfl
     | false=>exact absurd ⟨r,hr,hv⟩ hno
   have hidx: ∀ r∈rs,r.i<listed.size:=fun r hr=>by have:=(Array.getElem?_eq_some_iff.1 (hc.ops r hr)).1;omega
   have hdepR: ∀ p r q,rs=p++r::q->(∀ x∈p,AQ listed x.i=true)-> ∀ e∈r.o.after,Region.binds .any e=true->AQ listed e.on=true:=fun p r q hr hp e he hb=>by
    obtain ⟨x,hx,hxi⟩:=List.mem_map.1 (hc.dep p r q hr e he hb)
    rw [<-hxi];exact hp x hx
   -- the step of one record
   have hstep: ∀ r∈rs,AQ listed r.i=false->(∀ e∈r.o.after,Region.binds .any e=true->AQ listed e.on=true)-> ∀ D' β' a' w',J w0 F D0 D' s βs rs (Ez (AQ listed) r.i) β' a' w'->wpAny P .any all Q' fuel (listed.setIfInBounds r.i true) a' w':=fun r hr hL hdep D' β' a' w' hj'=>by
    have hro:=hc.ops r hr
    have hlt:=hidx r hr
    refine ih _ D' β' a' w' (by rw [G5 hlt];exact hj') (by simpa using hsz) (by rw [G5 hlt];exact hcl.add fun o ho=>by rw [hro] at ho;cases ho;exact hdep) (fun i hi h=>?_) (by have:=KY hlt hL;omega)
    rw [G5 hlt] at h
    simp only [Ez,io,beq_iff_eq] at h
    rcases h with h|rfl
    ·exact hpre i hi h
    ·exact List.mem_map.2 ⟨r,hr,rfl⟩
   have hsee: ∀ p r q,rs=p++r::q->AQ listed r.i=false->(∀ e∈r.o.after,Region.binds .any e=true->AQ listed e.on=true)-> ∀ t y,lk (pick (Lp all r.o) (HO s.t p)) t=some y->t<s.sz/\y.on (NL s rs (AQ listed))/\a.tmps.getD t undef=y.den β:=
    fun p r q hr hL hdep t y hy=>hj.seen hc hcl hr hdep hL hy
   have hwf: ∀ i c,lk s.o i=some c->i<s.n:=fun i c hi=>(hj.By i c hi).1
   have hwR: ∀ r'∈rs,Wc s.n r':=fun r' h=>by obtain ⟨p',q',e⟩:=List.append_of_mem h;exact (hrec p' r' q' e).wf
   have hgen: ∀ p r q,rs=p++r::q->AQ listed r.i=false->(∀ e∈r.o.after,Region.binds .any e=true->AQ listed e.on=true)->(G w0 F D0 D (seenAt fl hid s all ms p r.i r.o false) (NL s rs (AQ listed)) β a w/\ ∀ k,r.n1<=k->k<r.n2->¬ NL s rs (AQ listed) k)/\(GL fl hid P w0 F D0 s all ms p r->Sub (oC (CR ms r.i) s.o p) (oC (AQ listed) s.o rs)):=fun p r q hr h1 h4=>by
    have hrm:r∈rs:=by rw [hr];simp
    have hro:=hc.ops r hrm
    have hch2:=hch
    rw [hr] at hch2
    have hchp:BO s.n p:=(BO.append.1 hch2).1
    have hpr: ∀ r'∈p,r'∈rs:=fun r' h=>by rw [hr];simp [h]
    have hA: ∀ j,CR ms r.i j=true->AQ listed j=true:=fun j hj=>by
     have ha':Pc all r.i j=true:=by unfold Pc;rw [<-hc.ms];exact hj
     exact Gz hcl hro h4 ha'
    -- those that nobody takes
    have huntaken: ∀ {u b},lk (oC (CR ms r.i) s.o p) u=some b->(∀ r'∈rs,u ∉ r'.cn)->lk (oC (AQ listed) s.o rs) u=some b:=fun {u b} hb hun=>by
     rw [Et hchp (fun r' h=>hwR r' (hpr r' h)) hwf fun r' h _=>hun r' (hpr r' h)] at hb
     refine (Et hch hwR hwf fun r' h _=>hun r' h).2 ?_
     rcases hb with ⟨r',h5,h6,h7⟩|hb
     ·exact .inl ⟨r',hpr r' h5,hA _ h6,h7⟩
     ·exact .inr hb
    have hvis: ∀ {u b},lk (oC (CR ms r.i) s.o p) u=some b->(fl=true->IE u p=false/\u ∉ hid)->lk (oC (AQ listed) s.o rs) u=some b:=fun {u b} hb hnt=>by
     refine huntaken hb fun t ht hm=>?_
     obtain ⟨p',q',e⟩:=List.append_of_mem ht
     obtain ⟨h5,h6,_⟩:=(hrec p' t q' e).take hm
     obtain ⟨h7,h8⟩:=hnt h5
     rcases h6 with h6|⟨r',h9,h11,h10'⟩
     ·exact h8 h6
     ·have hr':r'∈rs:=by rw [e];simp [h9]
      obtain ⟨c,h10⟩:=cL h10'
      have h12:=(hch.mem hr').2.2.2 u c h10
      have h13:=(hch.mem hr').1
      rcases Ig (n0:=s.n) (by omega) (fun r' h=>hwR r' (hpr r' h)) hb with ⟨r2,h14,_,h15⟩|h14
      ·have h16:=hpr r2 h14
       have h17:=(hch.mem h16).2.2.2 u b h15
       have he:r2=r':=by
        obtain ⟨p2,q2,e2⟩:=List.append_of_mem hr'
        have h16':=h16
        rw [e2] at h16'
        have hch3:=hch
        rw [e2] at hch3
        rcases List.mem_append.1 h16' with h18|h18
        ·have:=hch3.before h18;omega
        ·rcases List.mem_cons.1 h18 with h18|h18
         ·exact h18
         ·have:=hch3.behind h18;omega
       rw [Rv (show r'∈p from he▸h14) h11 h10'] at h7
       cases h7
      ·have:=hwf u b h14;omega
    refine ⟨⟨⟨hj.defers,hj.size,fun t y hy=>by obtain ⟨h5,h6,_⟩:=hsee p r q hr h1 h4 t y hy;exact ⟨h5,h6⟩,fun t y hy=>(hsee p r q hr h1 h4 t y hy).2.2,hj.gh.Hh fun u b hb=>by
      obtain ⟨hb',hnt⟩:=Yc (show lk (PM fl hid p (oC (CR ms r.i) s.o p)) u=some b from hb)
      exact hvis hb' hnt⟩,?_⟩,fun hcn=>?_⟩
    case refine_2=>
     -- who takes sees all
     have hs1:Sub (oC (CR ms r.i) s.o p) (oC (AQ listed) s.o p):=Ts hchp (fun r' h=>hwR r' (hpr r' h)) hwf (fun _ _ h=>h) (fun r' _ h=>hA _ h) fun r' h h5 _=>hcn.nJ r' h h5
     have hs2:Sub (oC (AQ listed) s.o p) (oC (AQ listed) s.o rs):=by
      have e1:oC (AQ listed) s.o rs=oC (AQ listed) (oC (AQ listed) s.o p) q:=by
       rw [hr,Nz]
       simp only [oC,h1]
      have hF: ∀ (l:List (Rec S)) (o:List (Nat×Own S)),oC (fun _=>false) o l=o:=fun l=>by
       induction l with
       | nil=>intro o;rfl
       | cons x l ih=>intro o;simp only [oC];exact ih o
      rw [e1]
      obtain ⟨_,k1,k2,k3,k4⟩:=BO.append.1 hch2
      have:=Ts (A:=fun _=>false) (L:=AQ listed) (n0:=s.n) (o:=oC (AQ listed) s.o p) (o2:=oC (AQ listed) s.o p) k4 (fun r' h=>hwR r' (by rw [hr];simp [h])) (fun i c h=>by have:=U4 hchp (fun r' h=>hwR r' (hpr r' h)) hwf i c h;omega) (fun _ _ h=>h) (fun _ _ h=>by cases h) (fun t ht htc htL=>by
       exfalso
       obtain ⟨q1,q2,e⟩:=List.append_of_mem ht
       have et:rs=(p++r::q1)++t::q2:=by rw [hr,e];simp
       have ha:=(hrec _ t q2 et).eA htc r (by simp) hcn.tf
       have hot:=hc.ops t (by rw [et];simp)
       have ha':Pc all t.i r.i=true:=by unfold Pc;rw [<-hc.ms];exact ha
       have:=Gz hcl hot (hcl t.i t.o hot htL) ha'
       rw [h1] at this;cases this)
      rw [hF] at this
      exact this
     exact fun u b hb=>hs2 u b (hs1 u b hb)
    rintro j hj1 hj2 (h6|⟨r',h6,h7,h8⟩)
    ·have:=(hch.mem hrm).1;omega
    ·have hne:r'.i≠r.i:=fun e=>by rw [e,h1] at h7;cases h7
     have h6':=h6
     rw [hr] at h6' hch
     rcases List.mem_append.1 h6' with h9|h9
     ·have:=hch.before h9;omega
     ·rcases List.mem_cons.1 h9 with rfl|h9
      ·exact hne rfl
      ·have:=hch.behind h9;omega
   by_cases hpure: ∃ r∈rs,r.pu=true/\AQ listed r.i=false/\ ∀ e∈r.o.after,Region.binds .any e=true->AQ listed e.on=true
   ·obtain ⟨r,hrm,hpu,hL,hdep⟩:=hpure
    obtain ⟨p,q,hr⟩:=List.append_of_mem hrm
    have hro:=hc.ops r hrm
    obtain ⟨⟨hgr,hname⟩,_⟩:=hgen p r q hr hL hdep
    obtain ⟨hcn,hgb,hrec0⟩:r.cn=[]/\r.gb=[]/\DX fl hid P w0 F D0 s all ms p r:=by
     cases hrec p r q hr with
     | plain _ h1 h2 h3=>exact ⟨h1,h2,h3⟩
     | XN h=>rw [h.pu] at hpu;cases hpu
     | SJ h=>rw [h.pu] at hpu;cases hpu
    obtain ⟨β',hnew,hxon,hy⟩:=hrec0.pure hpu D _ β a w hgr hname
    refine wpAny_first hro hc.p8 (fun c a w h=>hQ c a _ _ w h) fuel listed a w (fun j oj hoj hji hun hno=>?_) (N4 (hidx r hrm) hL hro hdep) hy (hstep r hrm hL hdep D β' _ w (hj.put hc hch hrm (hrec p r q hr).slot hnew.agree (by unfold E6;rw [hcn,hgb];exact hj.gh.extend hnew) (J8 hc hch hwf hrec hcl hr hL) hxon))
    refine hc.pure r hrm hpu j oj hoj hji ?_ hno
    cases hv:Pc all r.i j with
    | false=>rfl
    | true=>
     have:=Gz hcl hro hdep hv
     have hjlt:j<listed.size:=by have:=(Array.getElem?_eq_some_iff.1 hoj).1;omega
     simp [AQ,hjlt] at this
     simp [hjlt,this] at hun
   ·have hnp: ∀ r∈rs,AQ listed r.i=false->(∀ e∈r.o.after,Region.binds .any e=true->AQ listed e.on=true)->r.pu=false:=fun r hr hL hdep=>by
     cases hv:r.pu with
     | false=>rfl
     | true=>exact absurd ⟨r,hr,hv,hL,hdep⟩ hpure
    obtain ⟨p0,r0,q0,hr0,hL0,hp0⟩:=RF hex
    have hdep0:=hdepR p0 r0 q0 hr0 hp0
    have hpu0:=hnp r0 (by rw [hr0];simp) hL0 hdep0
    refine ⟨fun h0=>?_,fun i hi=>?_⟩
    ·have:=N4 (hidx r0 (by rw [hr0];simp)) hL0 (hc.ops r0 (by rw [hr0];simp)) hdep0
     rw [h0] at this;cases this
    ·obtain ⟨h1,h2,o,h3,h4⟩:=N0 hi
     rcases hc.cover i (by omega) with h5|h5
     ·obtain ⟨r,hrm,rfl⟩:=List.mem_map.1 h5
      obtain ⟨p,q,hr⟩:=List.append_of_mem hrm
      have hro:=hc.ops r hrm
      rw [hro] at h3;cases h3
      have hpu:=hnp r hrm h1 h4
      obtain ⟨⟨hg,hname⟩,hcons⟩:=hgen p r q hr h1 h4
      cases hrec p r q hr with
      | plain _ hcn hgb hrec0=>exact hrec0.imp hpu D _ β a w hg hname _ _ fun D' β' w' hn hx=>hstep r hrm h1 h4 D' β' _ w' (hj.put hc hch hrm (hrec p r q hr).slot hn.agree (by unfold E6;rw [hcn,hgb];exact hj.gh.extend hn) (J8 hc hch hwf hrec hcl hr h1) hx)
      | XN hcon=>
       refine hcon.step D _ β a w (oC (AQ listed) s.o rs) ⟨hg.defers,hg.size,hg.Gw,hg.tmps,hj.gh⟩ (hcons hcon) hname _ _ fun D' β' w' hag hgh hx=>hstep r hrm h1 h4 D' β' _ w' (hj.put hc hch hrm (hrec p r q hr).slot hag hgh (J8 hc hch hwf hrec hcl hr h1) hx)
      | SJ hst=>
       obtain ⟨j,Gd,k1,k2,k3⟩:=hst.ex
       have hjn:j<s.n:=by obtain ⟨b,hb,_⟩:=k1;exact hwf j b hb
       refine k3 D _ β a w (oC (AQ listed) s.o rs) ⟨hg.defers,hg.size,hg.Gw,hg.tmps,hj.gh⟩ ?_ hname _ _ fun D' β' w' hag hgh hx=>hstep r hrm h1 h4 D' β' _ w' (hj.put hc hch hrm (hrec p r q hr).slot hag hgh (J8 hc hch hwf hrec hcl hr h1) hx)
       refine QW (fun t ht htL htj=>?_) (fun t ht b hb=>((hwR t ht).gb j b hb).1) (fun t ht=>?_) k1
       ·rw [hr] at ht
        rcases List.mem_append.1 ht with h6|h6
        ·exact k2 t h6 htj
        ·rcases List.mem_cons.1 h6 with rfl|h6
         ·rw [hst.cn] at htj;cases htj
         ·exfalso
          obtain ⟨q1,q2,e⟩:=List.append_of_mem h6
          have et:rs=(p++r::q1)++t::q2:=by rw [hr,e];simp
          have htc:Ol t.cn=true:=by
           cases hx:t.cn with
           | nil=>rw [hx] at htj;cases htj
           | cons _ _=>rfl
          have ha:=(hrec _ t q2 et).eA htc r (by simp) hst.tf
          have hot:=hc.ops t (by rw [et];simp)
          have ha':Pc all t.i r.i=true:=by unfold Pc;rw [<-hc.ms];exact ha
          have:=Gz hcl hot (hcl t.i t.o hot htL) ha'
          rw [h1] at this;cases this
       ·cases hx:lk t.o1 j with
        | none=>rfl
        | some b=>have:=(hch.mem ht).2.2.2 j b hx;have:=(hch.mem ht).1;omega
     ·exfalso
      obtain ⟨q1,q2,hq⟩:=List.append_of_mem h5
      have hanc:=(hc.lH q1 i q2 hq).2 r0 (by rw [hr0];simp) hpu0
      have:=Gz hcl h3 h4 hanc
      rw [hL0] at this;cases this
theorem Wp {L:Nat->Bool} (hch:BO s.n rs) (hall: ∀ r∈rs,L r.i=true) (k:Nat):NL s rs L k↔k<A8 s.n rs:=by
 constructor
 ·rintro (h|⟨r,h1,_,h2⟩)
  ·exact dg h hch.le
  ·have:=(hch.mem h1).2.2.1;omega
 ·intro hk
  by_cases h1:k<s.n
  ·exact .inl h1
  ·right
   have key: ∀ (n:Nat) (l:List (Rec S)),BO n l->n<=k->k<A8 n l-> ∃ r∈l,r.n1<=k/\k<r.n2:=by
    intro n l
    induction l generalizing n with
    | nil=>intro _ h2 h3;simp only [A8] at h3;omega
    | cons r l ih=>
     rintro ⟨e1,e2,_,e4⟩ h2 h3
     by_cases h4:k<r.n2
     ·exact ⟨r,by simp,by omega,h4⟩
     ·obtain ⟨r',h5,h6⟩:=ih r.n2 e4 (by omega) h3
      exact ⟨r',by simp [h5],h6⟩
   obtain ⟨r,h2,h3⟩:=key s.n rs hch (by omega) hk
   exact ⟨r,h2,hall r h2,h3⟩
theorem Yv {L:Nat->Bool}: ∀ {rs:List (Rec S)} {o:List (Nat×Own S)},(∀ r∈rs,L r.i=true)->oC L o rs=oC (fun _=>true) o rs
 | [],_,_=>rfl
 | r::rs,o,h=>by
  simp only [oC,h r (by simp)]
  exact Yv fun r' hr'=>h r' (by simp [hr'])
theorem VC.draw {Φ:Fence} {Q:Exit->Act->World->Prop} {bn:Nat} {β0:Nat->Nm} {M:Nat} {k:List It} {id:Nat} (hm:P.follows .mixedOrders=true) (hcalm:Calm Φ Q all) (hbn:bn<=s.n) (hc:cV all ms rs IS) (hch:BO s.n rs) (hrec: ∀ p r q,rs=p++r::q->GM fl hid P w0 F D0 s all ms p r) (hQ: ∀ c a d v w,Q (.panic c) (a.put d v) w->Q (.panic c) a w)
  (h:VC Φ P Q w0 F D0 bn β0 M (.ops all (IS.filterMap (all[·]?))::k) (behind s rs)):VC Φ P Q w0 F D0 bn β0 M (.code (.region id all true)::k) s:=fun D β a w hβ0 hg=>by
 simp only [after]
 have hQ': ∀ c a d v w,after Φ P M k Q (.panic c) (a.put d v) w->after Φ P M k Q (.panic c) a w:=by
  clear h hc hrec hg hβ0 hbn
  intro c a d v w
  induction k with
  | nil=>exact hQ c a d v w
  | cons x k ih=>
   cases x<;>simp only [after,Exit.inBlock]<;>first
    | exact ih
    | (cases M<;>simp only [H0]<;>exact ih)
 have hL0: ∀ i,AQ (Array.replicate all.size false) i=false:=fun i=>by simp only [AQ,lm,Array.getElem?_replicate];split<;>rfl
 have hNL: ∀ x,NL s rs (AQ (Array.replicate all.size false)) x↔x<s.n:=fun x=>by
  constructor
  ·rintro (h|⟨_,_,h,_⟩)
   ·exact h
   ·rw [hL0] at h;cases h
  ·exact .inl
 have hoL: ∀ l:List (Rec S),oC (AQ (Array.replicate all.size false)) s.o l=s.o:=by
  intro l
  induction l with
  | nil=>rfl
  | cons r l ih=>simp only [oC,hL0];exact ih
 refine On (hcalm.after k) hm (WJ (βs:=β) hc hch hrec hQ' (fun L D2 β2 a w hj hall=>?_) all.size _ D β a _ ⟨hg.defers,hg.size,hg.Gw,hg.gh.By,fun _ _=>rfl,fun u x hu _=>hg.tmps u x hu,fun r _ hL=>?_,?_⟩ (by simp) (fun j o _ hj=>?_) (fun i _ hi=>?_) ?_)
 ·have hgh:=hj.gh
  rw [Yv hall] at hgh
  have hgh2:=GH.mono hgh fun k hk=>(Wp hch hall k).1 hk
  have:=h D2 β2 a w (fun i hi=>by rw [<-hj.om i (dg hi hbn)];exact hβ0 i hi) ⟨hj.defers,hj.size,fun t x hx=>?_,fun t x hx=>?_,hgh2⟩
  ·simpa only [after] using this
  all_goals
   simp only [behind] at hx
   rcases Ih hx with ⟨p,r,q,h3,h5,h6⟩|⟨h1,h2⟩
  ·have hr:r∈rs:=by rw [h3];simp
   have h7:=hj.new r hr (hall r hr) t h5
   rw [h6]
   exact ⟨h7.1,Ao (fun k hk=>(Wp hch hall k).1 hk) h7.2.1⟩
  ·have h3:=hj.Gw t x h2
   exact ⟨h3.1,Ao (fun i hi=>dg hi hch.le) h3.2⟩
  ·have hr:r∈rs:=by rw [h3];simp
   rw [h6]
   exact (hj.new r hr (hall r hr) t h5).2.2
  ·exact hj.nk t x h2 fun r hr hd=>absurd hd (h1 r hr)
 ·rw [hL0] at hL;cases hL
 ·rw [hoL]
  exact GH.mono (hg.gh.step (w':={ w with drawn:=w.drawn+1 }) ⟨rfl,rfl,rfl,Nat.le_refl _,fun _ _=>rfl⟩) fun k hk=>(hNL k).2 hk
 ·rw [hL0] at hj;cases hj
 ·rw [hL0] at hi;cases hi
 ·simp [Fk]
end
end Go.En
