/-
 A region that draws its order: what is checked of it (Chk), and that its first part may come in any order (VC.draw).
-/
import Derived.Test.YtikecakpcfpghaaGreatDoorEn12
set_option linter.all false
namespace Go.En
open Go.RowKit
section
variable {S:Aq}
theorem Ph {α:Type} {t:List (Nat×α)} {u:Nat} {x:α}: ∀ {l:List Nat},lk (pick l t) u=some x->u∈l/\lk t u=some x
 | [],h=>by simp [pick,AS] at h
 | v::r,h=>by
  simp only [pick] at h
  split at h
  ·rename_i y hy
   simp only [AI] at h
   split at h
   ·rename_i he;subst he;cases h;exact ⟨by simp,hy⟩
   ·have:=Ph h;exact ⟨by simp [this.1],this.2⟩
  ·have:=Ph h;exact ⟨by simp [this.1],this.2⟩
theorem IM {u:Nat} {x:SV}: ∀ {rs:List (Rec S)} {t:List (Nat×SV)},lk (G6 t rs) u=some x->(∃ p r q,rs=p++r::q/\r.o.dst=some u/\x=r.x)\/((∀ r∈rs,r.o.dst≠some u)/\lk t u=some x)
 | [],t,h=>.inr ⟨by simp,h⟩
 | r::rs,t,h=>by
  simp only [G6] at h
  split at h
  ·rename_i hd
   rcases IM h with ⟨p,r',q,h1,h2,h3⟩|⟨h1,h2⟩
   ·exact .inl ⟨r::p,r',q,by simp [h1],h2,h3⟩
   ·refine .inr ⟨fun r' hr'=>?_,h2⟩
    rcases List.mem_cons.1 hr' with rfl|hr'
    ·rw [hd];simp
    ·exact h1 r' hr'
  ·rename_i d hd
   rcases IM h with ⟨p,r',q,h1,h2,h3⟩|⟨h1,h2⟩
   ·exact .inl ⟨r::p,r',q,by simp [h1],h2,h3⟩
   ·rw [Ew] at h2
    split at h2
    ·rename_i he;subst he;cases h2;exact .inl ⟨[],r,rs,rfl,hd,rfl⟩
    ·rename_i he
     refine .inr ⟨fun r' hr'=>?_,h2⟩
     rcases List.mem_cons.1 hr' with rfl|hr'
     ·rw [hd];simpa using he
     ·exact h1 r' hr'
def BM:Nat->List (Rec S)->Prop
 | _,[]=>True
 | n,r::rs=>r.n1=n/\r.n1<=r.n2/\(∀ i b,lk r.o1 i=some b->r.n1<=i/\i<r.n2)/\BM r.n2 rs
theorem Nd: ∀ (n:Nat) (l m:List (Rec S)),A9 n (l++m)=A9 (A9 n l) m
 | n,[],m=>rfl
 | n,r::l,m=>by simp only [List.cons_append,A9];exact Nd _ l m
theorem BM.append: ∀ {n:Nat} {l m:List (Rec S)},BM n (l++m)↔BM n l/\BM (A9 n l) m
 | n,[],m=>by simp [BM,A9]
 | n,r::l,m=>by simp only [List.cons_append,BM,A9,BM.append (l:=l),and_assoc]
theorem BM.le: ∀ {n:Nat} {l:List (Rec S)},BM n l->n<=A9 n l
 | n,[],_=>Nat.le_refl _
 | n,r::l,⟨h1,h2,_,h4⟩=>by have:=BM.le h4;simp only [A9];omega
theorem BM.mem {n:Nat} {l:List (Rec S)} (h:BM n l) {r:Rec S} (hr:r∈l):n<=r.n1/\r.n1<=r.n2/\r.n2<=A9 n l/\ ∀ i b,lk r.o1 i=some b->r.n1<=i/\i<r.n2:=by
 obtain ⟨p,q,rfl⟩:=List.append_of_mem hr
 obtain ⟨h1,h2,h3,h4,h5⟩:=BM.append.1 h
 have h6:=h1.le
 have h7:=h5.le
 refine ⟨by omega,h3,?_,h4⟩
 rw [Nd];exact h7
theorem BM.at {n:Nat} {p q:List (Rec S)} {r:Rec S} (h:BM n (p++r::q)):r.n1=A9 n p:=(BM.append.1 h).2.1
theorem BM.before {n:Nat} {p q:List (Rec S)} {r r':Rec S} (h:BM n (p++r::q)) (hr:r'∈p):r'.n2<=r.n1:=by
 obtain ⟨h1,h2,_⟩:=BM.append.1 h
 rw [h2];exact (h1.mem hr).2.2.1
theorem BM.behind {n:Nat} {p q:List (Rec S)} {r r':Rec S} (h:BM n (p++r::q)) (hr:r'∈q):r.n2<=r'.n1:=by
 obtain ⟨h1,h2,h3,h4,h5⟩:=BM.append.1 h
 exact (h5.mem hr).1
theorem Ki {u:Nat}: ∀ {c:List Nat} {o:List (Nat×Own S)},lk (SJ c o) u=if u∈c then none else lk o u
 | [],o=>by simp [SJ]
 | j::c,o=>by
  simp only [SJ,Co,Ki (c:=c),List.mem_cons]
  by_cases h:j=u
  ·subst h;simp
  ·have h':¬ u=j:=fun e=>h e.symm
   simp [h,h']
structure WJ (n0:Nat) (r:Rec S):Prop where
 gb: ∀ i b,lk r.gb i=some b->i∈r.cn/\i<n0
 cn: ∀ j∈r.cn,j<r.n1
 pl:r.tk=false->r.cn=[]
theorem WJ.nil {n0:Nat} {r:Rec S} (h:WJ n0 r) (hc:r.cn=[]) (i:Nat):lk r.gb i=none:=by
 cases hg:lk r.gb i with
 | none=>rfl
 | some b=>have:=(h.gb i b hg).1;rw [hc] at this;cases this
def E7 (r:Rec S) (o:List (Nat×Own S)):List (Nat×Own S):=r.gb++(r.o1++SJ r.cn o)
theorem B7 {r:Rec S} {o:List (Nat×Own S)} {u:Nat}:lk (E7 r o) u=(lk r.gb u).orElse fun _=>(lk r.o1 u).orElse fun _=>if u∈r.cn then none else lk o u:=by
 simp only [E7,M7,Ki]
theorem Ng {L:Nat->Bool}: ∀ {p q:List (Rec S)} {o:List (Nat×Own S)},oC L o (p++q)=oC L (oC L o p) q
 | [],q,o=>rfl
 | r::p,q,o=>by
  simp only [List.cons_append,oC]
  split
  ·exact Ng
  ·exact Ng
def Sub (o o2:List (Nat×Own S)):Prop:= ∀ u b,lk o u=some b->lk o2 u=some b
theorem Jj {r:Rec S} {o:List (Nat×Own S)} {n0 n:Nat} {rs:List (Rec S)} (hch:BM n (r::rs)) (hw:WJ n0 r) (ho: ∀ i c,lk o i=some c->i<n): ∀ i c,lk (E7 r o) i=some c->i<r.n2:=fun i c h=>by
 obtain ⟨h1,h2,h3,_⟩:=hch
 rw [B7] at h
 cases hg:lk r.gb i with
 | some d=>have:=hw.cn i (hw.gb i d hg).1;omega
 | none=>
  rw [hg] at h
  simp only [Option.orElse_none] at h
  cases h4:lk r.o1 i with
  | some d=>exact (h3 i d h4).2
  | none=>
   rw [h4] at h
   simp only [Option.orElse_none] at h
   split at h
   ·cases h
   ·have:=ho i c h;omega
theorem XY {r:Rec S} {o o2:List (Nat×Own S)} (h:Sub o o2):Sub (E7 r o) (E7 r o2):=fun u b hb=>by
 rw [B7] at hb ⊢
 cases hg:lk r.gb u with
 | some d=>rw [hg] at hb;simpa using hb
 | none=>
  rw [hg] at hb
  simp only [Option.orElse_none] at hb ⊢
  cases h4:lk r.o1 u with
  | some d=>rw [h4] at hb;simpa using hb
  | none=>
   rw [h4] at hb
   simp only [Option.orElse_none] at hb ⊢
   split at hb
   ·cases hb
   ·rename_i hn;rw [if_neg hn];exact h u b hb
theorem Ug {l:List Nat} (h:OP l=false):l=[]:=by cases l with|nil=>rfl|cons _ _=>cases h
theorem TP {A L:Nat->Bool} {n0:Nat}: ∀ {rs:List (Rec S)} {n:Nat} {o o2:List (Nat×Own S)},BM n rs->(∀ r∈rs,WJ n0 r)->(∀ i c,lk o i=some c->i<n)->Sub o o2->(∀ r∈rs,A r.i=true->L r.i=true)->(∀ r∈rs,OP r.cn=true->L r.i=true->A r.i=true)->Sub (oC A o rs) (oC L o2 rs)
 | [],n,o,o2,_,_,_,h,_,_=>h
 | r::rs,n,o,o2,hch,hw,ho,h,hAL,hT=>by
  have hw1:=hw r (by simp)
  have hch':=hch
  obtain ⟨h1,h2,h3,h4⟩:=hch
  simp only [oC]
  have hrest: ∀ {o o2:List (Nat×Own S)},(∀ i c,lk o i=some c->i<r.n2)->Sub o o2->Sub (oC A o rs) (oC L o2 rs):=fun ho h=>TP h4 (fun r hr=>hw r (by simp [hr])) ho h (fun r hr=>hAL r (by simp [hr])) fun r hr=>hT r (by simp [hr])
  cases hL:L r.i with
  | false=>
   have hA:A r.i=false:=by
    cases hA:A r.i with
    | false=>rfl
    | true=>rw [hAL r (by simp) hA] at hL;cases hL
   rw [hA]
   exact hrest (fun i c hi=>by have:=ho i c hi;omega) h
  | true=>
   cases hA:A r.i with
   | true=>exact hrest (Jj hch' hw1 ho) (XY h)
   | false=>
    have hcn:r.cn=[]:=by
     cases hc:OP r.cn with
     | false=>exact Ug hc
     | true=>have:=hT r (by simp) hc hL;rw [hA] at this;cases this
    refine hrest (fun i c hi=>by have:=ho i c hi;omega) fun u b hb=>?_
    show lk (E7 r o2) u=some b
    have hlt:=ho u b hb
    have h5:lk r.o1 u=none:=by
     cases h5:lk r.o1 u with
     | none=>rfl
     | some d=>have:=(h3 u d h5).1;omega
    rw [B7,hw1.nil hcn,h5,hcn]
    simpa using h u b hb
theorem Eg {L:Nat->Bool} {u n0:Nat} {b:Own S}: ∀ {rs:List (Rec S)} {n:Nat} {o:List (Nat×Own S)},BM n rs->(∀ r∈rs,WJ n0 r)->(∀ i c,lk o i=some c->i<n)->(∀ r∈rs,L r.i=true->u ∉ r.cn)->(lk (oC L o rs) u=some b↔(∃ r∈rs,L r.i=true/\lk r.o1 u=some b)\/lk o u=some b)
 | [],n,o,_,_,_,_=>by simp [oC]
 | r::rs,n,o,hch,hw,ho,hu=>by
  have hw1:=hw r (by simp)
  have hch':=hch
  obtain ⟨h1,h2,h3,h4⟩:=hch
  simp only [oC,List.mem_cons,exists_eq_or_imp]
  cases hL:L r.i with
  | false=>
   rw [Eg h4 (fun r hr=>hw r (by simp [hr])) (fun i c hi=>by have:=ho i c hi;omega) (fun r hr=>hu r (by simp [hr]))]
   simp
  | true=>
   have hn:=hu r (by simp) hL
   have hgn:lk r.gb u=none:=by
    cases hg:lk r.gb u with
    | none=>rfl
    | some d=>exact absurd (hw1.gb u d hg).1 hn
   show lk (oC L (E7 r o) rs) u=some b↔_
   rw [Eg h4 (fun r hr=>hw r (by simp [hr])) (Jj hch' hw1 ho) (fun r hr=>hu r (by simp [hr])),B7,hgn,if_neg hn]
   simp only [Option.orElse_none,true_and]
   cases h5:lk r.o1 u with
   | none=>simp
   | some c=>
    have h6:lk o u=none:=by
     cases h6:lk o u with
     | none=>rfl
     | some d=>have:=ho u d h6;have:=(h3 u c h5).1;omega
    simp only [Option.orElse_some,Option.some.injEq,h6]
    constructor
    ·rintro (h|h)
     ·exact .inl (.inr h)
     ·exact .inl (.inl h)
    ·rintro ((h|h)|h)
     ·exact .inr h
     ·exact .inl h
     ·cases h
theorem IL {L:Nat->Bool} {u n0:Nat} {b:Own S} (hu:n0<=u): ∀ {rs:List (Rec S)} {o:List (Nat×Own S)},(∀ r∈rs,WJ n0 r)->lk (oC L o rs) u=some b->(∃ r∈rs,L r.i=true/\lk r.o1 u=some b)\/lk o u=some b
 | [],o,_,h=>.inr h
 | r::rs,o,hw,h=>by
  simp only [oC] at h
  have hwr: ∀ r∈rs,WJ n0 r:=fun r hr=>hw r (by simp [hr])
  cases hL:L r.i with
  | false=>
   rw [hL] at h
   rcases IL hu hwr h with ⟨r',h1,h2,h3⟩|h1
   ·exact .inl ⟨r',by simp [h1],h2,h3⟩
   ·exact .inr h1
  | true=>
   rw [hL] at h
   rcases IL hu hwr (show lk (oC L (E7 r o) rs) u=some b from h) with ⟨r',h1,h2,h3⟩|h1
   ·exact .inl ⟨r',by simp [h1],h2,h3⟩
   ·rw [B7] at h1
    cases hg:lk r.gb u with
    | some d=>have:=((hw r (by simp)).gb u d hg).2;omega
    | none=>
     rw [hg] at h1
     simp only [Option.orElse_none] at h1
     cases h5:lk r.o1 u with
     | some d=>rw [h5] at h1;exact .inl ⟨r,by simp,hL,by rw [h5];simpa using h1⟩
     | none=>
      rw [h5] at h1
      simp only [Option.orElse_none] at h1
      split at h1
      ·cases h1
      ·exact .inr h1
theorem Nf {L:Nat->Bool} {M:Nat->Prop}: ∀ {rs:List (Rec S)} {o o2:List (Nat×Own S)},(∀ u,¬ M u->lk o u=lk o2 u)-> ∀ u,¬ M u->lk (oC L o rs) u=lk (oC L o2 rs) u
 | [],o,o2,h,u,hu=>h u hu
 | r::rs,o,o2,h,u,hu=>by
  simp only [oC]
  split
  ·refine Nf (fun v hv=>?_) u hu
   show lk (E7 r o) v=lk (E7 r o2) v
   rw [B7,B7,h v hv]
  ·exact Nf h u hu
theorem Uh {L:Nat->Bool} {n0:Nat}: ∀ {rs:List (Rec S)} {n:Nat} {o:List (Nat×Own S)},BM n rs->(∀ r∈rs,WJ n0 r)->(∀ i c,lk o i=some c->i<n)-> ∀ i c,lk (oC L o rs) i=some c->i<A9 n rs
 | [],n,o,_,_,ho=>ho
 | r::rs,n,o,hch,hw,ho=>by
  have hch':=hch
  obtain ⟨h1,h2,h3,h4⟩:=hch
  simp only [oC,A9]
  split
  ·exact Uh h4 (fun r hr=>hw r (by simp [hr])) (Jj hch' (hw r (by simp)) ho)
  ·exact Uh h4 (fun r hr=>hw r (by simp [hr])) fun i c hi=>by have:=ho i c hi;omega
theorem GQ {f:Nat->Bool} {u:Nat}: ∀ {l:List (Nat×Own S)},lk (Iu f l) u=if f u=true then none else lk l u
 | []=>by simp [Iu,AS]
 | (i,b)::r=>by
  simp only [Iu]
  split
  ·rename_i hf
   rw [GQ (l:=r),AI]
   by_cases he:i=u
   ·subst he;rw [if_pos hf,if_pos hf]
   ·rw [if_neg he]
  ·rename_i hf
   rw [AI,AI,GQ (l:=r)]
   by_cases he:i=u
   ·subst he;rw [if_pos rfl,if_pos rfl,if_neg (by rw [hf];exact Bool.false_ne_true)]
   ·rw [if_neg he,if_neg he]
theorem YB {fl:Bool} {hid:List Nat} {rs:List (Rec S)} {u:Nat} {b:Own S} {o:List (Nat×Own S)} (h:lk (Oz fl hid rs o) u=some b):lk o u=some b/\(fl=true->Ht u rs=false/\u ∉ hid):=by
 cases fl with
 | true=>
  simp only [Oz,Ki] at h
  split at h
  ·cases h
  ·rename_i hn
   rw [GQ] at h
   split at h
   ·cases h
   ·rename_i hm;exact ⟨h,fun _=>⟨Bool.eq_false_iff.2 hm,hn⟩⟩
 | false=>exact ⟨h,fun h=>by cases h⟩
theorem bS {u:Nat} {o:List (Nat×Own S)} (h:R8 u o=true): ∃ b,lk o u=some b:=by
 unfold R8 at h
 split at h
 ·rename_i b hb;exact ⟨b,hb⟩
 ·cases h
theorem RZ {u:Nat}: ∀ {rs:List (Rec S)},Ht u rs=true-> ∃ r∈rs,OW r.o.op=true/\R8 u r.o1=true
 | [],h=>by cases h
 | r::rs,h=>by
  cases h1:OW r.o.op<;>cases h2:R8 u r.o1
  case true.true=>exact ⟨r,by simp,h1,h2⟩
  all_goals
   simp only [Ht,h1,h2] at h
   obtain ⟨r',h3,h4⟩:=RZ h
   exact ⟨r',by simp [h3],h4⟩
theorem RY {u:Nat}: ∀ {rs:List (Rec S)} {r:Rec S},r∈rs->OW r.o.op=true->R8 u r.o1=true->Ht u rs=true
 | [],_,h,_,_=>absurd h List.not_mem_nil
 | r::rs,r',h,h1,h2=>by
  rcases List.mem_cons.1 h with rfl|h
  ·simp only [Ht,h1,h2]
  ·have ih:=RY h h1 h2
   cases h3:OW r.o.op<;>cases h4:R8 u r.o1<;>simp only [Ht,h3,h4,ih]
theorem NY {f:Nat->Bool}: ∀ {l:List Nat},NX f l=true-> ∀ i∈l,f i=true
 | [],_,i,hi=>by cases hi
 | j::r,h,i,hi=>by
  simp only [NX] at h
  split at h
  ·rename_i hj
   rcases List.mem_cons.1 hi with rfl|hi
   ·exact hj
   ·exact NY h i hi
  ·cases h
theorem Q9 {f:Nat->Bool}: ∀ {l:List (Nat×Own S)},UM f l=true-> ∀ i b,lk l i=some b->f i=true
 | [],_,i,b,hi=>by simp [AS] at hi
 | (j,c)::r,h,i,b,hi=>by
  simp only [UM] at h
  split at h
  ·rename_i hj
   rw [AI] at hi
   split at hi
   ·rename_i he;subst he;exact hj
   ·exact Q9 h i b hi
  ·cases h
theorem Lc {own:Bool} {ms:List Nat} {i:Nat}: ∀ {rs:List (Rec S)},Wb own ms i rs=true-> ∀ r∈rs,(OP r.cn || (own && r.tk))=true->B8 ms i r.i=true
 | [],_,r,hr,_=>by cases hr
 | r0::rs,h,r,hr,hc=>by
  simp only [Wb] at h
  split at h
  ·rename_i h0
   rcases List.mem_cons.1 hr with rfl|hr
   ·rw [h0] at hc;cases hc
   ·exact Lc h r hr hc
  ·split at h
   ·rename_i h0
    rcases List.mem_cons.1 hr with rfl|hr
    ·exact h0
    ·exact Lc h r hr hc
   ·cases h
theorem Tw (m i:Nat):dF m i=m.testBit i:=by
 unfold dF Nat.testBit
 have h:Nat.land 1 (m.shiftRight i)=1 &&& (m >>> i):=rfl
 rw [h]
 rw [Nat.one_and_eq_mod_two]
 have:m >>> i % 2=0\/m >>> i % 2=1:=by omega
 rcases this with h|h<;>rw [h]<;>rfl
def MX (e:Edge):Bool:=match e.ground with
 | .textOnly _=>false
 | .gcOnly _=>false
 | _=>true
theorem KO (e:Edge):MX e=Region.binds .any e:=by
 unfold MX Region.binds
 cases e.ground<;>rfl
def Hs (ms:List Nat):List Edge->Nat->Nat
 | [],s=>s
 | e::r,s=>match MX e with
  | true=>match nth ms e.on with
   | some m=>Hs ms r (Nat.lor s (Nat.lor (2 ^ e.on) m))
   | none=>Hs ms r (Nat.lor s (2 ^ e.on))
  | false=>Hs ms r s
def Cw:List Oper->List Nat->List Nat
 | [],ms=>ms
 | o::r,ms=>Cw r (ms++[Hs ms o.after.toList 0])
theorem G4 {ms:List Nat} {i:Nat}: ∀ {l:List Edge} {s:Nat},(Hs ms l s).testBit i=true->s.testBit i=true\/ ∃ e∈l,Region.binds .any e=true/\(e.on=i\/(ms.getD e.on 0).testBit i=true)
 | [],s,h=>.inl h
 | e::l,s,h=>by
  simp only [Hs] at h
  split at h
  ·rename_i hb
   rw [KO] at hb
   split at h
   ·rename_i m hm
    rw [F9] at hm
    rcases G4 h with h|⟨e',h1,h2⟩
    ·rw [show Nat.lor s (Nat.lor (2 ^ e.on) m)=s ||| (2 ^ e.on ||| m) from rfl] at h
     simp only [Nat.testBit_or,Bool.or_eq_true,Nat.testBit_two_pow,decide_eq_true_eq] at h
     rcases h with h|h|h
     ·exact .inl h
     ·exact .inr ⟨e,by simp,hb,.inl h⟩
     ·exact .inr ⟨e,by simp,hb,.inr (by simpa [List.getD_eq_getElem?_getD,hm] using h)⟩
    ·exact .inr ⟨e',by simp [h1],h2⟩
   ·rcases G4 h with h|⟨e',h1,h2⟩
    ·rw [show Nat.lor s (2 ^ e.on)=s ||| 2 ^ e.on from rfl] at h
     simp only [Nat.testBit_or,Bool.or_eq_true,Nat.testBit_two_pow,decide_eq_true_eq] at h
     rcases h with h|h
     ·exact .inl h
     ·exact .inr ⟨e,by simp,hb,.inl h⟩
    ·exact .inr ⟨e',by simp [h1],h2⟩
  ·rcases G4 h with h|⟨e',h1,h2⟩
   ·exact .inl h
   ·exact .inr ⟨e',by simp [h1],h2⟩
theorem J0: ∀ (l:List Oper) (ms:List Nat),(∀ j,j<ms.length->(Cw l ms)[j]?=ms[j]?)/\(∀ j o,l[j]?=some o-> ∃ ms',ms'.length=ms.length+j/\(∀ x,x<ms'.length->(Cw l ms)[x]?=ms'[x]?)/\(Cw l ms)[ms.length+j]?=some (Hs ms' o.after.toList 0))
 | [],ms=>⟨fun j _=>by simp [Cw],fun j o h=>by simp at h⟩
 | o::r,ms=>by
  obtain ⟨h1,h2⟩:=J0 r (ms++[Hs ms o.after.toList 0])
  refine ⟨fun j hj=>?_,fun j o' h=>?_⟩
  ·simp only [Cw]
   rw [h1 j (by simp;omega),List.getElem?_append_left hj]
  ·cases j with
   | zero=>
    simp only [List.getElem?_cons_zero,Option.some.injEq] at h
    subst h
    refine ⟨ms,rfl,fun x hx=>?_,?_⟩
    ·simp only [Cw];rw [h1 x (by simp;omega),List.getElem?_append_left hx]
    ·simp only [Cw];rw [h1 _ (by simp)];simp
   | succ j=>
    simp only [List.getElem?_cons_succ] at h
    obtain ⟨ms',h3,h4,h5⟩:=h2 j o' h
    refine ⟨ms',by simp at h3;omega,fun x hx=>?_,?_⟩
    ·simp only [Cw];exact h4 x hx
    ·simp only [Cw]
     rw [<-h5]
     congr 1
     simp;omega
def O8 (all:Array Oper) (j i:Nat):Bool:=B8 (Cw all.toList []) j i
theorem Gj {all:Array Oper} {L:Nat->Bool} (hcl: ∀ j o,all[j]?=some o->L j=true-> ∀ e∈o.after,Region.binds .any e=true->L e.on=true):
  ∀ {j:Nat} {o:Oper} {i:Nat},all[j]?=some o->(∀ e∈o.after,Region.binds .any e=true->L e.on=true)->O8 all j i=true->L i=true:=by
 intro j
 induction j using Nat.strongRecOn with
 | _ j ih=>
  intro o i ho hdep ha
  obtain ⟨ms',h1,h2,h3⟩:=(J0 all.toList []).2 j o (by simpa using ho)
  simp only [List.length_nil,Nat.zero_add] at h1 h3
  unfold O8 B8 at ha
  simp only [F9,h3,Tw] at ha
  rcases G4 ha with h|⟨e,he,hb,h⟩
  ·simp at h
  ·have hLe:=hdep e (by simpa using he) hb
   rcases h with h|h
   ·rw [<-h];exact hLe
   ·rw [List.getD_eq_getElem?_getD] at h
    rcases Nat.lt_or_ge e.on ms'.length with hlt|hge
    ·have h4:=h2 e.on hlt
     cases ho':all[e.on]? with
     | none=>
      exfalso
      have:all.size<=e.on:=by simpa using ho'
      have hj:j<all.size:=(Array.getElem?_eq_some_iff.1 ho).1
      omega
     | some o'=>
      refine ih e.on (by omega) ho' (hcl e.on o' ho' hLe) ?_
      unfold O8 B8
      rw [F9,h4]
      cases hm:ms'[e.on]? with
      | none=>rw [hm] at h;simp at h
      | some m=>rw [hm] at h;simpa [Tw] using h
    ·rw [List.getElem?_eq_none hge] at h;simp at h
structure bd (all:Array Oper) (ms:List Nat) (rs:List (Rec S)) (H9:List Nat):Prop where
 ms:ms=Cw all.toList []
 nw: ∀ (j:Nat) (o:Oper) cs b,all[j]?=some o->o.op≠.select cs b
 ops: ∀ r∈rs,all[r.i]?=some r.o
 nd:(rs.map (·.i)).Nodup
 cover: ∀ i,i<all.size->i∈rs.map (·.i)\/i∈H9
 dR: ∀ i∈H9,i<all.size/\i ∉ rs.map (·.i)
 ng:H9.Nodup
 dep: ∀ p r q,rs=p++r::q-> ∀ e∈r.o.after,Region.binds .any e=true->e.on∈p.map (·.i)
 lx: ∀ p j q o,H9=p++j::q->all[j]?=some o-> ∀ e∈o.after,Region.binds .any e=true->e.on∈rs.map (·.i)\/e.on∈p
 sep: ∀ p r q r',rs=p++r::q->r'∈q->(∀ u,r.o.dst=some u->u∈LM all r'.o->O8 all r'.i r.i=true)/\(∀ u,r'.o.dst=some u->u∈LM all r.o->O8 all r'.i r.i=true)/\(∀ u,r.o.dst=some u->r'.o.dst≠some u)
 j5: ∀ p j q,H9=p++j::q->(∀ i∈p,O8 all j i=true)/\(∀ r∈rs,r.pu=false->O8 all j r.i=true)
 pure: ∀ r∈rs,r.pu=true-> ∀ j oj,all[j]?=some oj->j≠r.i->O8 all r.i j=false->(∀ e∈oj.after,Region.binds .any e=true->e.on≠r.i)->r.o.apart all oj=true
theorem Tk {rs p p' q q':List (Rec S)} {r r':Rec S} (hn:(rs.map (·.i)).Nodup) (h:rs=p++r::q) (h':rs=p'++r'::q') (hi:r.i=r'.i):p=p'/\r=r'/\q=q':=by
 subst h
 induction p generalizing p' with
 | nil=>
  cases p' with
  | nil=>simp at h';exact ⟨rfl,h'.1,h'.2⟩
  | cons x p'=>
   simp only [List.nil_append,List.cons_append,List.cons.injEq] at h'
   obtain ⟨rfl,h2⟩:=h'
   simp only [List.nil_append,List.map_cons,List.nodup_cons] at hn
   exact absurd (by rw [h2,hi];simp) hn.1
 | cons x p ih=>
  cases p' with
  | nil=>
   simp only [List.nil_append,List.cons_append,List.cons.injEq] at h'
   obtain ⟨rfl,h2⟩:=h'
   simp only [List.cons_append,List.map_cons,List.nodup_cons] at hn
   exact absurd (by rw [<-hi];simp) hn.1
  | cons y p'=>
   simp only [List.cons_append,List.cons.injEq] at h'
   obtain ⟨rfl,h2⟩:=h'
   simp only [List.cons_append,List.map_cons,List.nodup_cons] at hn
   obtain ⟨h3,h4,h5⟩:=ih hn.2 h2
   exact ⟨by rw [h3],h4,h5⟩
theorem Rk {rs:List (Rec S)} {r r':Rec S} (hn:(rs.map (·.i)).Nodup) (h:r∈rs) (h':r'∈rs) (hi:r.i=r'.i):r=r':=by
 obtain ⟨p,q,e⟩:=List.append_of_mem h
 obtain ⟨p',q',e'⟩:=List.append_of_mem h'
 exact (Tk hn e e' hi).2.1
variable {P:Program} {w0:World} {F D0 D:Nat->Prop} {s:St S} {all:Array Oper} {ms:List Nat} {rs:List (Rec S)} {H9:List Nat} {fl:Bool} {hid:List Nat}
structure DJ (fl:Bool) (hid:List Nat) (P:Program) (w0:World) (F D0:Nat->Prop) (s:St S) (all:Array Oper) (ms:List Nat) (p:List (Rec S)) (r:Rec S):Prop where
 slot: ∀ d,r.o.dst=some d->d<s.sz
 pure:r.pu=true-> ∀ (D N:Nat->Prop) β a w,G w0 F D0 D (seenAt fl hid s all ms p r.i r.o false) N β a w->(∀ j,r.n1<=j->j<r.n2->¬ N j)-> ∃ β',Bz D D N r.n1 r.n2 r.o1 β β' w w/\r.x.on (more N r.n1 r.n2)/\Yields P all r.o (r.x.den β') a
 imp:r.pu=false-> ∀ (D N:Nat->Prop) β a w,G w0 F D0 D (seenAt fl hid s all ms p r.i r.o false) N β a w->(∀ j,r.n1<=j->j<r.n2->¬ N j)-> ∀ K Q',(∀ D' β' w',Bz D D' N r.n1 r.n2 r.o1 β β' w w'->r.x.on (more N r.n1 r.n2)->K (a.put r.o.dst (r.x.den β')) w')->wpOp P all Q' r.i K a w
structure GD (fl:Bool) (hid:List Nat) (P:Program) (w0:World) (F D0:Nat->Prop) (s:St S) (all:Array Oper) (ms:List Nat) (p:List (Rec S)) (r:Rec S):Prop where
 slot: ∀ d,r.o.dst=some d->d<s.sz
 fl:fl=true
 pu:r.pu=false
 tf:r.tk=true
 tk:Fu s.n hid ms r.i r.n1 p r.cn r.gb=true
 there: ∀ j∈r.cn,∃ b,lk (oC (B8 ms r.i) s.o p) j=some b
 step: ∀ (D N:Nat->Prop) β a w o2,G w0 F D0 D ⟨(BK s all ms p r.i r.o).t,o2,A9 s.n p,s.sz⟩ N β a w->Sub (oC (B8 ms r.i) s.o p) o2->(∀ k,r.n1<=k->k<r.n2->¬ N k)-> ∀ K Q',(∀ D' β' w',(∀ i,N i->β i=β' i)->GH w0 F D0 D' (E7 r o2) (more N r.n1 r.n2) β' w'->r.x.on (more N r.n1 r.n2)->K (a.put r.o.dst (r.x.den β')) w')->wpOp P all Q' r.i K a w
structure WT (fl:Bool) (P:Program) (w0:World) (F D0:Nat->Prop) (s:St S) (all:Array Oper) (ms:List Nat) (p:List (Rec S)) (r:Rec S):Prop where
 slot: ∀ d,r.o.dst=some d->d<s.sz
 pu:r.pu=false
 tf:r.tk=true
 cn:r.cn=[]
 gb:r.gb=[]
 ex: ∃ (j:Nat) (Gd:Own S->Prop),(∃ b,lk s.o j=some b/\Gd b)/\(∀ r'∈p,j∈r'.cn-> ∃ b,lk r'.gb j=some b/\Gd b)/\
  ∀ (D N:Nat->Prop) β a w o2,G w0 F D0 D ⟨(BK s all ms p r.i r.o).t,o2,A9 s.n p,s.sz⟩ N β a w->(∃ b,lk o2 j=some b/\Gd b)->(∀ k,r.n1<=k->k<r.n2->¬ N k)-> ∀ K Q',(∀ D' β' w',(∀ i,N i->β i=β' i)->GH w0 F D0 D' (E7 r o2) (more N r.n1 r.n2) β' w'->r.x.on (more N r.n1 r.n2)->K (a.put r.o.dst (r.x.den β')) w')->wpOp P all Q' r.i K a w
theorem QD {L:Nat->Bool} {j:Nat} {Gd:Own S->Prop}: ∀ {l:List (Rec S)} {o:List (Nat×Own S)},(∀ r∈l,L r.i=true->j∈r.cn-> ∃ b,lk r.gb j=some b/\Gd b)->(∀ r∈l,∀ b,lk r.gb j=some b->j∈r.cn)->(∀ r∈l,lk r.o1 j=none)->(∃ b,lk o j=some b/\Gd b)-> ∃ b,lk (oC L o l) j=some b/\Gd b
 | [],_,_,_,_,h=>h
 | r::l,o,h1,h2,h3,h=>by
  simp only [oC]
  split
  ·rename_i hL
   refine QD (fun r' h'=>h1 r' (by simp [h'])) (fun r' h'=>h2 r' (by simp [h'])) (fun r' h'=>h3 r' (by simp [h'])) ?_
   show ∃ b,lk (E7 r o) j=some b/\Gd b
   by_cases hj:j∈r.cn
   ·obtain ⟨b,hb,hg⟩:=h1 r (by simp) hL hj
    exact ⟨b,by rw [B7,hb];rfl,hg⟩
   ·obtain ⟨b,hb,hg⟩:=h
    refine ⟨b,?_,hg⟩
    have hn:lk r.gb j=none:=by
     cases hx:lk r.gb j with
     | none=>rfl
     | some c=>exact absurd (h2 r (by simp) c hx) hj
    rw [B7,hn,h3 r (by simp),if_neg hj]
    simpa using hb
  ·exact QD (fun r' h'=>h1 r' (by simp [h'])) (fun r' h'=>h2 r' (by simp [h'])) (fun r' h'=>h3 r' (by simp [h'])) h
inductive GF (fl:Bool) (hid:List Nat) (P:Program) (w0:World) (F D0:Nat->Prop) (s:St S) (all:Array Oper) (ms:List Nat) (p:List (Rec S)) (r:Rec S):Prop where
 | plain (htf:r.tk=false) (hcn:r.cn=[]) (hgb:r.gb=[]) (h:DJ fl hid P w0 F D0 s all ms p r)
 | Wk (h:GD fl hid P w0 F D0 s all ms p r)
 | Rw (h:WT fl P w0 F D0 s all ms p r)
theorem GF.slot {p:List (Rec S)} {r:Rec S} (h:GF fl hid P w0 F D0 s all ms p r): ∀ d,r.o.dst=some d->d<s.sz:=by
 cases h with
 | plain _ _ _ h=>exact h.slot
 | Wk h=>exact h.slot
 | Rw h=>exact h.slot
theorem GF.wf {p:List (Rec S)} {r:Rec S} (h:GF fl hid P w0 F D0 s all ms p r):WJ s.n r:=by
 cases h with
 | plain _ hcn hgb _=>exact ⟨fun i b hi=>by rw [hgb] at hi;simp [AS] at hi,fun j hj=>(by rw [hcn] at hj;cases hj),fun _=>hcn⟩
 | Rw h=>exact ⟨fun i b hi=>by rw [h.gb] at hi;simp [AS] at hi,fun j hj=>(by rw [h.cn] at hj;cases hj),fun _=>h.cn⟩
 | Wk h=>
  have htk:=h.tk
  simp only [Fu,Bool.and_eq_true] at htk
  obtain ⟨⟨h1,h2⟩,_⟩:=htk
  refine ⟨fun i b hi=>?_,fun j hj=>?_,fun h'=>(by rw [h.tf] at h';cases h')⟩
  ·have:=Q9 h2 i b hi
   simp only [Bool.and_eq_true] at this
   exact ⟨Ca.1 this.1,Nat.le_of_ble_eq_true this.2⟩
  ·have:=NY h1 j hj
   simp only [Bool.and_eq_true] at this
   exact Nat.le_of_ble_eq_true this.2
theorem GF.take {p:List (Rec S)} {r:Rec S} (h:GF fl hid P w0 F D0 s all ms p r) {j:Nat} (hj:j∈r.cn):fl=true/\(j∈hid\/ ∃ r'∈p,OW r'.o.op=true/\R8 j r'.o1=true)/\(∃ b,lk (oC (B8 ms r.i) s.o p) j=some b):=by
 cases h with
 | plain _ hcn _ _=>rw [hcn] at hj;cases hj
 | Rw h=>rw [h.cn] at hj;cases hj
 | Wk h=>
  have htk:=h.tk
  simp only [Fu,Bool.and_eq_true] at htk
  have:=NY htk.1.1 j hj
  simp only [Bool.and_eq_true,Bool.or_eq_true] at this
  refine ⟨h.fl,?_,h.there j hj⟩
  rcases this.1 with h1|h1
  ·exact .inl (Ca.1 h1)
  ·exact .inr (RZ h1)
theorem GD.lp {p:List (Rec S)} {r:Rec S} (h:GD fl hid P w0 F D0 s all ms p r): ∀ r'∈p,OP r'.cn=true->B8 ms r.i r'.i=true:=by
 have htk:=h.tk
 simp only [Fu,Bool.and_eq_true] at htk
 exact fun r' hr' hn=>Lc htk.2 r' hr' (by rw [hn];rfl)
theorem GF.c9 {p:List (Rec S)} {r:Rec S} (h:GF fl hid P w0 F D0 s all ms p r) (hc:OP r.cn=true): ∀ r'∈p,r'.tk=true->B8 ms r.i r'.i=true:=by
 cases h with
 | plain _ hcn _ _=>rw [hcn] at hc;cases hc
 | Rw h=>rw [h.cn] at hc;cases hc
 | Wk h=>
  have htk:=h.tk
  simp only [Fu,Bool.and_eq_true] at htk
  exact fun r' hr' hn=>Lc htk.2 r' hr' (by rw [hc,hn,Bool.true_and,Bool.or_true])
def NL (s:St S) (rs:List (Rec S)) (L:Nat->Bool) (k:Nat):Prop:=k<s.n\/ ∃ r∈rs,L r.i=true/\r.n1<=k/\k<r.n2
structure J (w0:World) (F D0 D:Nat->Prop) (s:St S) (βs:Nat->Nm) (rs:List (Rec S)) (L:Nat->Bool) (β:Nat->Nm) (a:Act) (w:World):Prop where
 defers:a.defers=[]
 size:a.tmps.size=s.sz
 Gc: ∀ u x,lk s.t u=some x->u<s.sz/\x.on (· <s.n)
 Bk: ∀ i b,lk s.o i=some b->i<s.n/\b.on (· <s.n)
 mv: ∀ i,i<s.n->βs i=β i
 mG: ∀ u x,lk s.t u=some x->(∀ r∈rs,r.o.dst=some u->L r.i=false)->a.tmps.getD u undef=x.den β
 new: ∀ r∈rs,L r.i=true-> ∀ u,r.o.dst=some u->u<s.sz/\r.x.on (NL s rs L)/\a.tmps.getD u undef=r.x.den β
 gh:GH w0 F D0 D (oC L s.o rs) (NL s rs L) β w
theorem J.seen {βs:Nat->Nm} {L:Nat->Bool} {β:Nat->Nm} {a:Act} {w:World} (hj:J w0 F D0 D s βs rs L β a w) (hc:bd all ms rs H9) (hcl: ∀ j o,all[j]?=some o->L j=true-> ∀ e∈o.after,Region.binds .any e=true->L e.on=true)
  {p q:List (Rec S)} {r:Rec S} (hr:rs=p++r::q) (hready: ∀ e∈r.o.after,Region.binds .any e=true->L e.on=true) (hL:L r.i=false) {t:Nat} {y:SV} (hy:lk (pick (LM all r.o) (G6 s.t p)) t=some y):
  t<s.sz/\y.on (NL s rs L)/\a.tmps.getD t undef=y.den β:=by
 obtain ⟨h1,h2⟩:=Ph hy
 have hro:all[r.i]?=some r.o:=hc.ops r (by rw [hr];simp)
 rcases IM h2 with ⟨p',r',q',h5,h7,h8⟩|⟨h3,h4⟩
 ·have hrs:rs=p'++r'::(q'++r::q):=by rw [hr,h5];simp
  have hanc:=(hc.sep p' r' (q'++r::q) r hrs (by simp)).1 t h7 h1
  have hLi:L r'.i=true:=Gj hcl hro hready hanc
  rw [h8]
  exact hj.new r' (by rw [hrs];simp) hLi t h7
 ·obtain ⟨h5,h6⟩:=hj.Gc t y h4
  refine ⟨h5,Am (fun k hk=>.inl hk) h6,hj.mG t y h4 fun r2 hr2 h13=>?_⟩
  cases hLr2:L r2.i with
  | false=>rfl
  | true=>
   exfalso
   rw [hr] at hr2
   rcases List.mem_append.1 hr2 with hz|hz
   ·exact h3 r2 hz h13
   ·rcases List.mem_cons.1 hz with rfl|hmem
    ·rw [hL] at hLr2;cases hLr2
    ·have hanc:=(hc.sep p r q r2 hr hmem).2.1 t h13 h1
     have hro2:all[r2.i]?=some r2.o:=hc.ops r2 (by rw [hr];simp [hmem])
     have:=Gj hcl hro2 (hcl r2.i r2.o hro2 hLr2) hanc
     rw [hL] at this
     cases this
theorem LA {a:Act} {d:Option Tmp} {u:Nat} {x:Value} (h:d≠some u):(a.put d x).tmps.getD u undef=a.tmps.getD u undef:=by
 cases d with
 | none=>rfl
 | some d=>
  have hne:d≠u:=fun e=>h (by rw [e])
  simp [Act.put,Array.getElem?_setIfInBounds_ne hne]
theorem Qz {a:Act} {u:Nat} {x:Value} (h:u<a.tmps.size):(a.put (some u) x).tmps.getD u undef=x:=by
 simp [Act.put,h]
def Em (L:Nat->Bool) (i:Nat):Nat->Bool:=fun j=>L j || j == i
theorem SM {L:Nat->Bool} {r:Rec S} (hc:bd all ms rs H9) (hr:r∈rs) (k:Nat):NL s rs (Em L r.i) k↔more (NL s rs L) r.n1 r.n2 k:=by
 simp only [NL,more]
 constructor
 ·rintro (h|⟨r',h1,h2,h3⟩)
  ·exact .inl (.inl h)
  ·simp only [Em,Bool.or_eq_true,beq_iff_eq] at h2
   rcases h2 with h2|h2
   ·exact .inl (.inr ⟨r',h1,h2,h3⟩)
   ·have:=Rk hc.nd h1 hr h2
    subst this;exact .inr h3
 ·rintro ((h|⟨r',h1,h2,h3⟩)|h)
  ·exact .inl h
  ·exact .inr ⟨r',h1,by simp [Em,h2],h3⟩
  ·exact .inr ⟨r,hr,by simp [Em],h⟩
theorem J.put {βs:Nat->Nm} {L:Nat->Bool} {β β':Nat->Nm} {a:Act} {w w':World} (hj:J w0 F D0 D s βs rs L β a w) (hc:bd all ms rs H9) (hch:BM s.n rs) {r:Rec S} (hr:r∈rs) (hslot: ∀ d,r.o.dst=some d->d<s.sz) {D':Nat->Prop}
  (hagree: ∀ i,NL s rs L i->β i=β' i) (hgh':GH w0 F D0 D' (E7 r (oC L s.o rs)) (more (NL s rs L) r.n1 r.n2) β' w') (hsubC:Sub (oC (Em L r.i) s.o rs) (E7 r (oC L s.o rs))) (hx:r.x.on (more (NL s rs L) r.n1 r.n2)):
  J w0 F D0 D' s βs rs (Em L r.i) β' (a.put r.o.dst (r.x.den β')) w':=by
 have hsub: ∀ k,NL s rs L k->NL s rs (Em L r.i) k:=fun k hk=>(SM hc hr k).2 (.inl hk)
 have hother: ∀ r'∈rs,r'.i≠r.i-> ∀ u,r'.o.dst=some u->r.o.dst≠some u:=fun r' h hne u h3 hd=>by
  obtain ⟨p,q,hr1⟩:=List.append_of_mem hr
  obtain ⟨p',q',h1⟩:=List.append_of_mem h
  rcases List.append_eq_append_iff.1 (hr1.symm.trans h1) with ⟨l,h4,h5⟩|⟨l,h4,h5⟩
  ·cases l with
   | nil=>simp only [List.nil_append,List.cons.injEq] at h5;exact hne (by rw [h5.1])
   | cons x l=>
    simp only [List.cons_append,List.cons.injEq] at h5
    have:r'∈q:=by rw [h5.2];simp
    exact (hc.sep p r q r' hr1 this).2.2 u hd h3
  ·cases l with
   | nil=>simp only [List.nil_append,List.cons.injEq] at h5;exact hne (by rw [h5.1])
   | cons x l=>
    simp only [List.cons_append,List.cons.injEq] at h5
    have:r∈q':=by rw [h5.2];simp
    exact (hc.sep p' r' q' r h1 this).2.2 u h3 hd
 have hwf: ∀ i c,lk s.o i=some c->i<s.n:=fun i c hi=>(hj.Bk i c hi).1
 refine ⟨by cases r.o.dst<;>simpa [Act.put] using hj.defers,by cases r.o.dst<;>simpa [Act.put] using hj.size,hj.Gc,hj.Bk,fun i hi=>(hj.mv i hi).trans (hagree i (.inl hi)),fun u x hu hno=>?_,fun r' hr' hLi u hu=>?_,?_⟩
 ·have hne:r.o.dst≠some u:=fun hd=>by
   have:=hno r hr hd
   simp [Em] at this
  rw [LA hne,hj.mG u x hu fun r' hr' hd=>by have:=hno r' hr' hd;simp only [Em,Bool.or_eq_false_iff] at this;exact this.1]
  exact CF hagree x (Am (fun k hk=>.inl hk) (hj.Gc u x hu).2)
 ·by_cases he:r'.i=r.i
  ·have:=Rk hc.nd hr' hr he
   subst this
   have hlt:=hslot u hu
   refine ⟨hlt,Am (fun k hk=>(SM hc hr k).2 hk) hx,?_⟩
   rw [hu,Qz (by rw [hj.size];exact hlt)]
  ·have hLi':L r'.i=true:=by simpa [Em,he] using hLi
   obtain ⟨h1,h2,h3⟩:=hj.new r' hr' hLi' u hu
   refine ⟨h1,Am hsub h2,?_⟩
   rw [LA (hother r' hr' he u hu),h3]
   exact CF hagree _ h2
 ·exact GH.G8 (GH.mono hgh' fun k hk=>(SM hc hr k).2 hk) hsubC
theorem Jn (hc:bd all ms rs H9) (hch:BM s.n rs) (hwf: ∀ i c,lk s.o i=some c->i<s.n) (hrec: ∀ p r q,rs=p++r::q->GF fl hid P w0 F D0 s all ms p r) {L:Nat->Bool} (hcl: ∀ j o,all[j]?=some o->L j=true-> ∀ e∈o.after,Region.binds .any e=true->L e.on=true)
  {p q:List (Rec S)} {r:Rec S} (hr:rs=p++r::q) (hL:L r.i=false):Sub (oC (Em L r.i) s.o rs) (E7 r (oC L s.o rs)):=by
 have hwR: ∀ r'∈rs,WJ s.n r':=fun r' h=>by obtain ⟨p',q',e⟩:=List.append_of_mem h;exact (hrec p' r' q' e).wf
 have hne: ∀ r'∈p++q,r'.i≠r.i:=fun r' h he=>by
  have hnd:=hc.nd
  rw [hr] at hnd
  simp only [List.map_append,List.map_cons] at hnd
  obtain ⟨_,n2,n3⟩:=List.nodup_append.1 hnd
  rcases List.mem_append.1 h with h|h
  ·exact n3 r'.i (List.mem_map.2 ⟨r',h,rfl⟩) r.i (by simp) he
  ·exact (List.nodup_cons.1 n2).1 (by rw [<-he];exact List.mem_map.2 ⟨r',h,rfl⟩)
 have hadd: ∀ (l:List (Rec S)) (o:List (Nat×Own S)),(∀ r'∈l,r'.i≠r.i)->oC (Em L r.i) o l=oC L o l:=fun l=>by
  induction l with
  | nil=>intro o _;rfl
  | cons x l ih=>
   intro o hx
   have:Em L r.i x.i=L x.i:=by simp only [Em];rw [show (x.i == r.i)=false by simpa using hx x (by simp)];simp
   simp only [oC,this]
   split
   ·exact ih _ fun r' h=>hx r' (by simp [h])
   ·exact ih _ fun r' h=>hx r' (by simp [h])
 have hp: ∀ r'∈p,r'.i≠r.i:=fun r' h=>hne r' (by simp [h])
 have hq: ∀ r'∈q,r'.i≠r.i:=fun r' h=>hne r' (by simp [h])
 have hch2:=hch
 rw [hr] at hch2
 obtain ⟨hchp,hchr⟩:=BM.append.1 hch2
 have hchr':=hchr
 obtain ⟨k1,k2,k3,k4⟩:=hchr
 have hwr:=hwR r (by rw [hr];simp)
 have hX: ∀ i c,lk (oC L s.o p) i=some c->i<A9 s.n p:=Uh hchp (fun r' h=>hwR r' (by rw [hr];simp [h])) hwf
 have eL:oC (Em L r.i) s.o rs=oC L (E7 r (oC L s.o p)) q:=by
  rw [hr,Ng,hadd p _ hp]
  simp only [oC]
  rw [show Em L r.i r.i=true by simp [Em]]
  exact hadd q _ hq
 have eR:oC L s.o rs=oC L (oC L s.o p) q:=by
  rw [hr,Ng]
  simp only [oC,hL]
 rw [eL,eR]
 have hnot: ∀ t∈q,L t.i=true->B8 ms t.i r.i=false:=fun t ht hLt=>by
  cases ha:B8 ms t.i r.i with
  | false=>rfl
  | true=>
   have hot:=hc.ops t (by rw [hr];simp [ht])
   have ha':O8 all t.i r.i=true:=by unfold O8;rw [<-hc.ms];exact ha
   have:=Gj hcl hot (hcl t.i t.o hot hLt) ha'
   rw [hL] at this;cases this
 intro u b hb
 cases htf:r.tk with
 | false=>
  -- who takes nothing
  have hcn:=hwr.pl htf
  have hgn:=hwr.nil hcn
  by_cases hu:r.n1<=u/\u<r.n2
  ·have hun: ∀ t∈q,L t.i=true->u ∉ t.cn:=fun t ht hLt hm=>by
    obtain ⟨q1,q2,e⟩:=List.append_of_mem ht
    have et:rs=(p++r::q1)++t::q2:=by rw [hr,e];simp
    obtain ⟨_,_,⟨c,h1⟩⟩:=(hrec _ t q2 et).take hm
    have hsn:s.n<=u:=by have:=hchp.le;omega
    rcases IL hsn (fun r' h=>hwR r' (by rw [et];exact List.mem_append_left _ h)) h1 with ⟨r',h2,h3,h4⟩|h2
    ·have h2':r'∈rs:=by rw [et];exact List.mem_append_left _ h2
     by_cases he:r'=r
     ·subst he;rw [hnot t ht hLt] at h3;cases h3
     ·have hcm:=(hch.mem h2').2.2.2 u c h4
      rw [hr] at h2'
      rcases List.mem_append.1 h2' with h5|h5
      ·have:=hch2.before h5;omega
      ·rcases List.mem_cons.1 h5 with h5|h5
       ·exact he h5
       ·have:=hch2.behind h5;omega
    ·have:=hwf u c h2;omega
   rw [Eg k4 (fun r' h=>hwR r' (by rw [hr];simp [h])) (Jj hchr' hwr hX) hun] at hb
   rw [B7,hgn,hcn]
   simp only [Option.orElse_none]
   rcases hb with ⟨r',h1,_,h2⟩|hb
   ·have:=(k4.mem h1).2.2.2 u b h2
    have:=(k4.mem h1).1
    omega
   ·rw [B7,hgn,hcn] at hb
    simp only [Option.orElse_none] at hb
    cases h5:lk r.o1 u with
    | some d=>rw [h5] at hb;simpa using hb
    | none=>
     rw [h5] at hb
     simp only [Option.orElse_none] at hb
     have:lk (oC L s.o p) u=some b:=by simpa using hb
     have:=hX u b this
     omega
  ·have h5: ∀ v,¬ (r.n1<=v/\v<r.n2)->lk r.o1 v=none:=fun v hv=>by
    cases h5:lk r.o1 v with
    | none=>rfl
    | some d=>exact absurd (k3 v d h5) hv
   rw [Nf (M:=fun v=>r.n1<=v/\v<r.n2) (o2:=oC L s.o p) (fun v hv=>by rw [B7,hgn,h5 v hv,hcn];simp) u hu] at hb
   rw [B7,hgn,h5 u hu,hcn]
   simpa using hb
 | true=>
  -- who takes something: the others take nothing
  have hqn: ∀ t∈q,L t.i=true->t.cn=[]:=fun t ht hLt=>by
   cases hc':OP t.cn with
   | false=>exact Ug hc'
   | true=>
    obtain ⟨q1,q2,e⟩:=List.append_of_mem ht
    have et:rs=(p++r::q1)++t::q2:=by rw [hr,e];simp
    have:=(hrec _ t q2 et).c9 hc' r (by simp) htf
    rw [hnot t ht hLt] at this;cases this
  have hun: ∀ v,∀ t∈q,L t.i=true->v ∉ t.cn:=fun v t ht hLt=>by rw [hqn t ht hLt];simp
  have hwq: ∀ r'∈q,WJ s.n r':=fun r' h=>hwR r' (by rw [hr];simp [h])
  rw [Eg k4 hwq (Jj hchr' hwr hX) (hun u)] at hb
  have hX2: ∀ i c,lk (oC L s.o p) i=some c->i<r.n2:=fun i c h=>by have:=hX i c h;omega
  rcases hb with ⟨r',h1,h2,h3⟩|hb
  ·have h4:=(k4.mem h1).2.2.2 u b h3
   have h5:=(k4.mem h1).1
   have g1:lk r.gb u=none:=by
    cases hg:lk r.gb u with
    | none=>rfl
    | some d=>have:=hwr.cn u (hwr.gb u d hg).1;omega
   have g2:lk r.o1 u=none:=by
    cases hg:lk r.o1 u with
    | none=>rfl
    | some d=>have:=(k3 u d hg).2;omega
   have g3:u ∉ r.cn:=fun h=>by have:=hwr.cn u h;omega
   rw [B7,g1,g2,if_neg g3]
   simp only [Option.orElse_none]
   exact (Eg k4 hwq hX2 (hun u)).2 (.inl ⟨r',h1,h2,h3⟩)
  ·rw [B7] at hb ⊢
   cases g1:lk r.gb u with
   | some d=>rw [g1] at hb;simpa using hb
   | none=>
    rw [g1] at hb
    simp only [Option.orElse_none] at hb ⊢
    cases g2:lk r.o1 u with
    | some d=>rw [g2] at hb;simpa using hb
    | none=>
     rw [g2] at hb
     simp only [Option.orElse_none] at hb ⊢
     split at hb
     ·cases hb
     ·rename_i g3
      rw [if_neg g3]
      exact (Eg k4 hwq hX2 (hun u)).2 (.inr hb)
def AL (listed:Array Bool):Nat->Bool:=fun i=>listed.getD i false
def Fa (listed:Array Bool):Nat:=listed.toList.count false
theorem Gp {listed:Array Bool} {i:Nat} (hi:i<listed.size):AL (listed.setIfInBounds i true)=Em (AL listed) i:=by
 funext j
 simp only [AL,Em]
 by_cases h:i=j
 ·subst h;simp [hi]
 ·have:(j == i)=false:=by simp;omega
  rw [getD_set_ne false h];simp [this]
theorem KH {listed:Array Bool} {i:Nat} (hi:i<listed.size) (h:AL listed i=false):Fa (listed.setIfInBounds i true)+1=Fa listed:=by
 have hl:i<listed.toList.length:=by simpa using hi
 have hv:listed.toList[i]=false:=by simpa [AL,hi] using h
 simp only [Fa,Array.toList_setIfInBounds]
 have hpos:0<listed.toList.count false:=List.count_pos_iff.2 (by rw [<-hv];exact List.getElem_mem hl)
 have h1:(listed.toList.set i true).count false=listed.toList.count false -1:=by
  rw [List.count_set hl,hv];simp
 rw [h1];omega
theorem Ip {listed:Array Bool} (h:Fa listed=0) {i:Nat} (hi:i<listed.size):AL listed i=true:=by
 have h1:=List.count_eq_zero.1 h
 cases hv:AL listed i with
 | true=>rfl
 | false=>
  exfalso
  apply h1
  have:listed.toList[i]'(by simpa using hi)=false:=by simpa [AL,hi] using hv
  rw [<-this]
  exact List.getElem_mem _
theorem Nl {listed:Array Bool} {i:Nat} {o:Oper} (hi:i<listed.size) (h:AL listed i=false) (ho:all[i]?=some o) (hd: ∀ e∈o.after,Region.binds .any e=true->AL listed e.on=true):i∈Region.ready .any all listed:=by
 refine mem_ready.2 ⟨?_,o,ho,hd⟩
 simpa [AL,hi] using h
theorem Nh {listed:Array Bool} {i:Nat} (h:i∈Region.ready .any all listed):AL listed i=false/\i<listed.size/\ ∃ o,all[i]?=some o/\ ∀ e∈o.after,Region.binds .any e=true->AL listed e.on=true:=by
 obtain ⟨h1,o,h2,h3⟩:=mem_ready.1 h
 have hlt:i<listed.size:=by
  rcases Nat.lt_or_ge i listed.size with h'|h'
  ·exact h'
  ·simp [Array.getElem?_eq_none h'] at h1
 exact ⟨by simpa [AL,hlt] using h1,hlt,o,h2,h3⟩
def MK (all:Array Oper) (L:Nat->Bool):Prop:= ∀ j o,all[j]?=some o->L j=true-> ∀ e∈o.after,Region.binds .any e=true->L e.on=true
theorem MK.add {L:Nat->Bool} (h:MK all L) {i:Nat} (hd: ∀ o,all[i]?=some o-> ∀ e∈o.after,Region.binds .any e=true->L e.on=true):MK all (Em L i):=fun j o ho hj e he hb=>by
 simp only [Em,Bool.or_eq_true,beq_iff_eq] at hj ⊢
 rcases hj with hj|rfl
 ·exact .inl (h j o ho hj e he hb)
 ·exact .inl (hd o ho e he hb)
theorem Kw (hc:bd all ms rs H9) {Q':Exit->Act->World->Prop}: ∀ (q p:List Nat) (fuel:Nat) (listed:Array Bool) (a:Act) (w:World),H9=p++q->listed.size=all.size->MK all (AL listed)->
  (∀ i,i<all.size->(AL listed i=true↔i∈rs.map (·.i)\/i∈p))->Fa listed<=fuel->wpList P all Q' (q.filterMap (all[·]?)) a w->wpAny P .any all Q' fuel listed a w
 | [],p,fuel,listed,a,w,hs,hsz,_,hL,_,h=>by
  refine wpAny_done ?_ (by simpa [wpList] using h) fuel
  rw [List.eq_nil_iff_forall_not_mem]
  intro i hi
  obtain ⟨h1,h2,_⟩:=Nh hi
  have:AL listed i=true:=(hL i (by omega)).2 (by have:=hc.cover i (by omega);rw [hs] at this;simpa using this)
  rw [h1] at this;cases this
 | j::q,p,fuel,listed,a,w,hs,hsz,hcl,hL,hf,h=>by
  have hjm:j∈H9:=by rw [hs];simp
  have hjlt:=(hc.dR j hjm).1
  have hjp:j ∉ p:=by
   have:=hc.ng;rw [hs,List.nodup_append] at this
   intro hj;exact this.2.2 j hj j (by simp) rfl
  have hLj:AL listed j=false:=by
   cases hv:AL listed j with
   | false=>rfl
   | true=>
    rcases (hL j hjlt).1 hv with h1|h1
    ·exact absurd h1 (hc.dR j hjm).2
    ·exact absurd h1 hjp
  obtain ⟨o,ho⟩: ∃ o,all[j]?=some o:=⟨_,Array.getElem?_eq_getElem hjlt⟩
  have hdep: ∀ e∈o.after,Region.binds .any e=true->AL listed e.on=true:=fun e he hb=>by
   have hd:=hc.lx p j q o hs ho e he hb
   have hlt:e.on<all.size:=by
    rcases hd with hd|hd
    ·obtain ⟨r,hr,hri⟩:=List.mem_map.1 hd
     have:=hc.ops r hr;rw [hri] at this
     exact (Array.getElem?_eq_some_iff.1 this).1
    ·exact (hc.dR e.on (by rw [hs];simp [hd])).1
   exact (hL e.on hlt).2 hd
  have hrd:j∈Region.ready .any all listed:=Nl (by omega) hLj ho hdep
  have honly: ∀ i∈Region.ready .any all listed,i=j:=fun i hi=>by
   obtain ⟨h1,h2,oi,h3,h4⟩:=Nh hi
   have hilt:i<all.size:=by omega
   rcases hc.cover i hilt with h5|h5
   ·have:=(hL i hilt).2 (.inl h5);rw [h1] at this;cases this
   ·rw [hs,List.mem_append,List.mem_cons] at h5
    rcases h5 with h5|h5|h5
    ·have:=(hL i hilt).2 (.inr h5);rw [h1] at this;cases this
    ·exact h5
    ·exfalso
     obtain ⟨q1,q2,hq⟩:=List.append_of_mem h5
     have hanc:=(hc.j5 (p++j::q1) i q2 (by rw [hs,hq];simp)).1 j (by simp)
     have:=Gj hcl h3 h4 hanc
     rw [hLj] at this;cases this
  cases fuel with
  | zero=>have:=Ip (Nat.le_zero.1 hf) (i:=j) (by omega);rw [hLj] at this;cases this
  | succ fuel=>
   refine ⟨fun h0=>(by rw [h0] at hrd;cases hrd),fun i hi=>?_⟩
   have:=honly i hi;subst this
   have hset:AL (listed.setIfInBounds i true)=Em (AL listed) i:=Gp (by omega)
   have hrec: ∀ a w,wpList P all Q' (q.filterMap (all[·]?)) a w->wpAny P .any all Q' fuel (listed.setIfInBounds i true) a w:=fun a w hh=>by
    refine Kw hc q (p++[i]) fuel _ a w (by rw [hs];simp) (by simpa using hsz) ?_ (fun x hx=>?_) ?_ hh
    ·rw [hset];exact hcl.add fun o' ho'=>by rw [ho] at ho';cases ho';exact hdep
    ·rw [hset];simp only [Em,Bool.or_eq_true,beq_iff_eq,hL x hx,List.mem_append,List.mem_singleton,or_assoc]
    ·have:=KH (i:=i) (by omega) hLj;omega
   simp only [List.filterMap_cons,ho] at h
   unfold wpOp
   simp only [ho]
   unfold wpList at h
   split at h
   ·rename_i hw
    rw [if_pos hw]
    exact h.imp (Oper.wp_mono fun a w hh=>hrec a w hh) id
   ·rename_i hw
    rw [if_neg hw]
    exact hrec _ _ h
theorem Qt {L:Nat->Bool}: ∀ {l:List (Rec S)},(∃ r∈l,L r.i=false)-> ∃ p r q,l=p++r::q/\L r.i=false/\ ∀ x∈p,L x.i=true
 | [],h=>by obtain ⟨r,hr,_⟩:=h;cases hr
 | r::l,h=>by
  cases hL:L r.i with
  | false=>exact ⟨[],r,l,rfl,hL,by simp⟩
  | true=>
   obtain ⟨r',hr',h'⟩:=h
   rcases List.mem_cons.1 hr' with rfl|hr'
   ·rw [hL] at h';cases h'
   ·obtain ⟨p,x,q,h1,h2,h3⟩:=Qt ⟨r',hr',h'⟩
    refine ⟨r::p,x,q,by simp [h1],h2,fun y hy=>?_⟩
    rcases List.mem_cons.1 hy with rfl|hy
    ·exact hL
    ·exact h3 y hy
theorem V0 {βs:Nat->Nm} (hc:bd all ms rs H9) (hch:BM s.n rs) (hrec: ∀ p r q,rs=p++r::q->GF fl hid P w0 F D0 s all ms p r) {Q':Exit->Act->World->Prop} (hQ: ∀ c a d v w,Q' (.panic c) (a.put d v) w->Q' (.panic c) a w)
  (hdone: ∀ L D β a w,J w0 F D0 D s βs rs L β a w->(∀ r∈rs,L r.i=true)->wpList P all Q' (H9.filterMap (all[·]?)) a w):
  ∀ (fuel:Nat) (listed:Array Bool) (D:Nat->Prop) (β:Nat->Nm) (a:Act) (w:World),J w0 F D0 D s βs rs (AL listed) β a w->listed.size=all.size->MK all (AL listed)->(∀ i,i<all.size->AL listed i=true->i∈rs.map (·.i))->Fa listed<=fuel->
   wpAny P .any all Q' fuel listed a w:=by
 intro fuel
 induction fuel with
 | zero=>
  intro listed D β a w hj hsz hcl hpre hf
  have hallL: ∀ i,i<all.size->AL listed i=true:=fun i hi=>Ip (Nat.le_zero.1 hf) (by omega)
  have hall: ∀ r∈rs,AL listed r.i=true:=fun r hr=>hallL r.i (Array.getElem?_eq_some_iff.1 (hc.ops r hr)).1
  exact Kw hc H9 [] 0 listed a w rfl hsz hcl (fun i hi=>⟨fun h=>.inl (hpre i hi h),fun _=>hallL i hi⟩) hf (hdone _ D β a w hj hall)
 | succ fuel ih=>
  intro listed D β a w hj hsz hcl hpre hf
  by_cases hall: ∀ r∈rs,AL listed r.i=true
  ·refine Kw hc H9 [] (fuel+1) listed a w rfl hsz hcl (fun i hi=>⟨fun h=>.inl (hpre i hi h),fun h=>?_⟩) hf (hdone _ D β a w hj hall)
   rcases h with h|h
   ·obtain ⟨r,hr,rfl⟩:=List.mem_map.1 h;exact hall r hr
   ·cases h
  ·have hex: ∃ r∈rs,AL listed r.i=false:=by
    apply Classical.byContradiction
    intro hno
    exact hall fun r hr=>by
     cases hv:AL listed r.i with
     | true=>rfl
     | false=>exact absurd ⟨r,hr,hv⟩ hno
   have hidx: ∀ r∈rs,r.i<listed.size:=fun r hr=>by have:=(Array.getElem?_eq_some_iff.1 (hc.ops r hr)).1;omega
   have hdepR: ∀ p r q,rs=p++r::q->(∀ x∈p,AL listed x.i=true)-> ∀ e∈r.o.after,Region.binds .any e=true->AL listed e.on=true:=fun p r q hr hp e he hb=>by
    obtain ⟨x,hx,hxi⟩:=List.mem_map.1 (hc.dep p r q hr e he hb)
    rw [<-hxi];exact hp x hx
   -- the step of one record
   have hstep: ∀ r∈rs,AL listed r.i=false->(∀ e∈r.o.after,Region.binds .any e=true->AL listed e.on=true)-> ∀ D' β' a' w',J w0 F D0 D' s βs rs (Em (AL listed) r.i) β' a' w'->wpAny P .any all Q' fuel (listed.setIfInBounds r.i true) a' w':=fun r hr hL hdep D' β' a' w' hj'=>by
    have hro:=hc.ops r hr
    have hlt:=hidx r hr
    refine ih _ D' β' a' w' (by rw [Gp hlt];exact hj') (by simpa using hsz) (by rw [Gp hlt];exact hcl.add fun o ho=>by rw [hro] at ho;cases ho;exact hdep) (fun i hi h=>?_) (by have:=KH hlt hL;omega)
    rw [Gp hlt] at h
    simp only [Em,Bool.or_eq_true,beq_iff_eq] at h
    rcases h with h|rfl
    ·exact hpre i hi h
    ·exact List.mem_map.2 ⟨r,hr,rfl⟩
   have hsee: ∀ p r q,rs=p++r::q->AL listed r.i=false->(∀ e∈r.o.after,Region.binds .any e=true->AL listed e.on=true)-> ∀ t y,lk (pick (LM all r.o) (G6 s.t p)) t=some y->t<s.sz/\y.on (NL s rs (AL listed))/\a.tmps.getD t undef=y.den β:=
    fun p r q hr hL hdep t y hy=>hj.seen hc hcl hr hdep hL hy
   have hwf: ∀ i c,lk s.o i=some c->i<s.n:=fun i c hi=>(hj.Bk i c hi).1
   have hwR: ∀ r'∈rs,WJ s.n r':=fun r' h=>by obtain ⟨p',q',e⟩:=List.append_of_mem h;exact (hrec p' r' q' e).wf
   have hgen: ∀ p r q,rs=p++r::q->AL listed r.i=false->(∀ e∈r.o.after,Region.binds .any e=true->AL listed e.on=true)->(G w0 F D0 D (seenAt fl hid s all ms p r.i r.o false) (NL s rs (AL listed)) β a w/\ ∀ k,r.n1<=k->k<r.n2->¬ NL s rs (AL listed) k)/\(GD fl hid P w0 F D0 s all ms p r->Sub (oC (B8 ms r.i) s.o p) (oC (AL listed) s.o rs)):=fun p r q hr h1 h4=>by
    have hrm:r∈rs:=by rw [hr];simp
    have hro:=hc.ops r hrm
    have hch2:=hch
    rw [hr] at hch2
    have hchp:BM s.n p:=(BM.append.1 hch2).1
    have hpr: ∀ r'∈p,r'∈rs:=fun r' h=>by rw [hr];simp [h]
    have hA: ∀ j,B8 ms r.i j=true->AL listed j=true:=fun j hj=>by
     have ha':O8 all r.i j=true:=by unfold O8;rw [<-hc.ms];exact hj
     exact Gj hcl hro h4 ha'
    -- those that nobody takes
    have huntaken: ∀ {u b},lk (oC (B8 ms r.i) s.o p) u=some b->(∀ r'∈rs,u ∉ r'.cn)->lk (oC (AL listed) s.o rs) u=some b:=fun {u b} hb hun=>by
     rw [Eg hchp (fun r' h=>hwR r' (hpr r' h)) hwf fun r' h _=>hun r' (hpr r' h)] at hb
     refine (Eg hch hwR hwf fun r' h _=>hun r' h).2 ?_
     rcases hb with ⟨r',h5,h6,h7⟩|hb
     ·exact .inl ⟨r',hpr r' h5,hA _ h6,h7⟩
     ·exact .inr hb
    have hvis: ∀ {u b},lk (oC (B8 ms r.i) s.o p) u=some b->(fl=true->Ht u p=false/\u ∉ hid)->lk (oC (AL listed) s.o rs) u=some b:=fun {u b} hb hnt=>by
     refine huntaken hb fun t ht hm=>?_
     obtain ⟨p',q',e⟩:=List.append_of_mem ht
     obtain ⟨h5,h6,_⟩:=(hrec p' t q' e).take hm
     obtain ⟨h7,h8⟩:=hnt h5
     rcases h6 with h6|⟨r',h9,h11,h10'⟩
     ·exact h8 h6
     ·have hr':r'∈rs:=by rw [e];simp [h9]
      obtain ⟨c,h10⟩:=bS h10'
      have h12:=(hch.mem hr').2.2.2 u c h10
      have h13:=(hch.mem hr').1
      rcases IL (n0:=s.n) (by omega) (fun r' h=>hwR r' (hpr r' h)) hb with ⟨r2,h14,_,h15⟩|h14
      ·have h16:=hpr r2 h14
       have h17:=(hch.mem h16).2.2.2 u b h15
       have he:r2=r':=by
        obtain ⟨p2,q2,e2⟩:=List.append_of_mem hr'
        have h16':=h16
        rw [e2] at h16'
        have hch3:=hch
        rw [e2] at hch3
        rcases List.mem_append.1 h16' with h18|h18
        ·have:=hch3.before h18;omega
        ·rcases List.mem_cons.1 h18 with h18|h18
         ·exact h18
         ·have:=hch3.behind h18;omega
       rw [RY (show r'∈p from he▸h14) h11 h10'] at h7
       cases h7
      ·have:=hwf u b h14;omega
    refine ⟨⟨⟨hj.defers,hj.size,fun t y hy=>by obtain ⟨h5,h6,_⟩:=hsee p r q hr h1 h4 t y hy;exact ⟨h5,h6⟩,fun t y hy=>(hsee p r q hr h1 h4 t y hy).2.2,hj.gh.G8 fun u b hb=>by
      obtain ⟨hb',hnt⟩:=YB (show lk (Oz fl hid p (oC (B8 ms r.i) s.o p)) u=some b from hb)
      exact hvis hb' hnt⟩,?_⟩,fun hcn=>?_⟩
    case refine_2=>
     -- who takes sees all
     have hs1:Sub (oC (B8 ms r.i) s.o p) (oC (AL listed) s.o p):=TP hchp (fun r' h=>hwR r' (hpr r' h)) hwf (fun _ _ h=>h) (fun r' _ h=>hA _ h) fun r' h h5 _=>hcn.lp r' h h5
     have hs2:Sub (oC (AL listed) s.o p) (oC (AL listed) s.o rs):=by
      have e1:oC (AL listed) s.o rs=oC (AL listed) (oC (AL listed) s.o p) q:=by
       rw [hr,Ng]
       simp only [oC,h1]
      have hF: ∀ (l:List (Rec S)) (o:List (Nat×Own S)),oC (fun _=>false) o l=o:=fun l=>by
       induction l with
       | nil=>intro o;rfl
       | cons x l ih=>intro o;simp only [oC];exact ih o
      rw [e1]
      obtain ⟨_,k1,k2,k3,k4⟩:=BM.append.1 hch2
      have:=TP (A:=fun _=>false) (L:=AL listed) (n0:=s.n) (o:=oC (AL listed) s.o p) (o2:=oC (AL listed) s.o p) k4 (fun r' h=>hwR r' (by rw [hr];simp [h])) (fun i c h=>by have:=Uh hchp (fun r' h=>hwR r' (hpr r' h)) hwf i c h;omega) (fun _ _ h=>h) (fun _ _ h=>by cases h) (fun t ht htc htL=>by
       exfalso
       obtain ⟨q1,q2,e⟩:=List.append_of_mem ht
       have et:rs=(p++r::q1)++t::q2:=by rw [hr,e];simp
       have ha:=(hrec _ t q2 et).c9 htc r (by simp) hcn.tf
       have hot:=hc.ops t (by rw [et];simp)
       have ha':O8 all t.i r.i=true:=by unfold O8;rw [<-hc.ms];exact ha
       have:=Gj hcl hot (hcl t.i t.o hot htL) ha'
       rw [h1] at this;cases this)
      rw [hF] at this
      exact this
     exact fun u b hb=>hs2 u b (hs1 u b hb)
    rintro j hj1 hj2 (h6|⟨r',h6,h7,h8⟩)
    ·have:=(hch.mem hrm).1;omega
    ·have hne:r'.i≠r.i:=fun e=>by rw [e,h1] at h7;cases h7
     have h6':=h6
     rw [hr] at h6' hch
     rcases List.mem_append.1 h6' with h9|h9
     ·have:=hch.before h9;omega
     ·rcases List.mem_cons.1 h9 with rfl|h9
      ·exact hne rfl
      ·have:=hch.behind h9;omega
   by_cases hpure: ∃ r∈rs,r.pu=true/\AL listed r.i=false/\ ∀ e∈r.o.after,Region.binds .any e=true->AL listed e.on=true
   ·obtain ⟨r,hrm,hpu,hL,hdep⟩:=hpure
    obtain ⟨p,q,hr⟩:=List.append_of_mem hrm
    have hro:=hc.ops r hrm
    obtain ⟨⟨hgr,hname⟩,_⟩:=hgen p r q hr hL hdep
    obtain ⟨hcn,hgb,hrec0⟩:r.cn=[]/\r.gb=[]/\DJ fl hid P w0 F D0 s all ms p r:=by
     cases hrec p r q hr with
     | plain _ h1 h2 h3=>exact ⟨h1,h2,h3⟩
     | Wk h=>rw [h.pu] at hpu;cases hpu
     | Rw h=>rw [h.pu] at hpu;cases hpu
    obtain ⟨β',hnew,hxon,hy⟩:=hrec0.pure hpu D _ β a w hgr hname
    refine wpAny_first hro hc.nw (fun c a w h=>hQ c a _ _ w h) fuel listed a w (fun j oj hoj hji hun hno=>?_) (Nl (hidx r hrm) hL hro hdep) hy (hstep r hrm hL hdep D β' _ w (hj.put hc hch hrm (hrec p r q hr).slot hnew.agree (by unfold E7;rw [hcn,hgb];exact hj.gh.extend hnew) (Jn hc hch hwf hrec hcl hr hL) hxon))
    refine hc.pure r hrm hpu j oj hoj hji ?_ hno
    cases hv:O8 all r.i j with
    | false=>rfl
    | true=>
     have:=Gj hcl hro hdep hv
     have hjlt:j<listed.size:=by have:=(Array.getElem?_eq_some_iff.1 hoj).1;omega
     simp [AL,hjlt] at this
     simp [hjlt,this] at hun
   ·have hnp: ∀ r∈rs,AL listed r.i=false->(∀ e∈r.o.after,Region.binds .any e=true->AL listed e.on=true)->r.pu=false:=fun r hr hL hdep=>by
     cases hv:r.pu with
     | false=>rfl
     | true=>exact absurd ⟨r,hr,hv,hL,hdep⟩ hpure
    obtain ⟨p0,r0,q0,hr0,hL0,hp0⟩:=Qt hex
    have hdep0:=hdepR p0 r0 q0 hr0 hp0
    have hpu0:=hnp r0 (by rw [hr0];simp) hL0 hdep0
    refine ⟨fun h0=>?_,fun i hi=>?_⟩
    ·have:=Nl (hidx r0 (by rw [hr0];simp)) hL0 (hc.ops r0 (by rw [hr0];simp)) hdep0
     rw [h0] at this;cases this
    ·obtain ⟨h1,h2,o,h3,h4⟩:=Nh hi
     rcases hc.cover i (by omega) with h5|h5
     ·obtain ⟨r,hrm,rfl⟩:=List.mem_map.1 h5
      obtain ⟨p,q,hr⟩:=List.append_of_mem hrm
      have hro:=hc.ops r hrm
      rw [hro] at h3;cases h3
      have hpu:=hnp r hrm h1 h4
      obtain ⟨⟨hg,hname⟩,hcons⟩:=hgen p r q hr h1 h4
      cases hrec p r q hr with
      | plain _ hcn hgb hrec0=>exact hrec0.imp hpu D _ β a w hg hname _ _ fun D' β' w' hn hx=>hstep r hrm h1 h4 D' β' _ w' (hj.put hc hch hrm (hrec p r q hr).slot hn.agree (by unfold E7;rw [hcn,hgb];exact hj.gh.extend hn) (Jn hc hch hwf hrec hcl hr h1) hx)
      | Wk hcon=>
       refine hcon.step D _ β a w (oC (AL listed) s.o rs) ⟨hg.defers,hg.size,hg.Gc,hg.tmps,hj.gh⟩ (hcons hcon) hname _ _ fun D' β' w' hag hgh hx=>hstep r hrm h1 h4 D' β' _ w' (hj.put hc hch hrm (hrec p r q hr).slot hag hgh (Jn hc hch hwf hrec hcl hr h1) hx)
      | Rw hst=>
       obtain ⟨j,Gd,k1,k2,k3⟩:=hst.ex
       have hjn:j<s.n:=by obtain ⟨b,hb,_⟩:=k1;exact hwf j b hb
       refine k3 D _ β a w (oC (AL listed) s.o rs) ⟨hg.defers,hg.size,hg.Gc,hg.tmps,hj.gh⟩ ?_ hname _ _ fun D' β' w' hag hgh hx=>hstep r hrm h1 h4 D' β' _ w' (hj.put hc hch hrm (hrec p r q hr).slot hag hgh (Jn hc hch hwf hrec hcl hr h1) hx)
       refine QD (fun t ht htL htj=>?_) (fun t ht b hb=>((hwR t ht).gb j b hb).1) (fun t ht=>?_) k1
       ·rw [hr] at ht
        rcases List.mem_append.1 ht with h6|h6
        ·exact k2 t h6 htj
        ·rcases List.mem_cons.1 h6 with rfl|h6
         ·rw [hst.cn] at htj;cases htj
         ·exfalso
          obtain ⟨q1,q2,e⟩:=List.append_of_mem h6
          have et:rs=(p++r::q1)++t::q2:=by rw [hr,e];simp
          have htc:OP t.cn=true:=by
           cases hx:t.cn with
           | nil=>rw [hx] at htj;cases htj
           | cons _ _=>rfl
          have ha:=(hrec _ t q2 et).c9 htc r (by simp) hst.tf
          have hot:=hc.ops t (by rw [et];simp)
          have ha':O8 all t.i r.i=true:=by unfold O8;rw [<-hc.ms];exact ha
          have:=Gj hcl hot (hcl t.i t.o hot htL) ha'
          rw [h1] at this;cases this
       ·cases hx:lk t.o1 j with
        | none=>rfl
        | some b=>have:=(hch.mem ht).2.2.2 j b hx;have:=(hch.mem ht).1;omega
     ·exfalso
      obtain ⟨q1,q2,hq⟩:=List.append_of_mem h5
      have hanc:=(hc.j5 q1 i q2 hq).2 r0 (by rw [hr0];simp) hpu0
      have:=Gj hcl h3 h4 hanc
      rw [hL0] at this;cases this
theorem WR {L:Nat->Bool} (hch:BM s.n rs) (hall: ∀ r∈rs,L r.i=true) (k:Nat):NL s rs L k↔k<A9 s.n rs:=by
 constructor
 ·rintro (h|⟨r,h1,_,h2⟩)
  ·exact Nat.lt_of_lt_of_le h hch.le
  ·have:=(hch.mem h1).2.2.1;omega
 ·intro hk
  by_cases h1:k<s.n
  ·exact .inl h1
  ·right
   have key: ∀ (n:Nat) (l:List (Rec S)),BM n l->n<=k->k<A9 n l-> ∃ r∈l,r.n1<=k/\k<r.n2:=by
    intro n l
    induction l generalizing n with
    | nil=>intro _ h2 h3;simp only [A9] at h3;omega
    | cons r l ih=>
     rintro ⟨e1,e2,_,e4⟩ h2 h3
     by_cases h4:k<r.n2
     ·exact ⟨r,by simp,by omega,h4⟩
     ·obtain ⟨r',h5,h6⟩:=ih r.n2 e4 (by omega) h3
      exact ⟨r',by simp [h5],h6⟩
   obtain ⟨r,h2,h3⟩:=key s.n rs hch (by omega) hk
   exact ⟨r,h2,hall r h2,h3⟩
theorem YW {L:Nat->Bool}: ∀ {rs:List (Rec S)} {o:List (Nat×Own S)},(∀ r∈rs,L r.i=true)->oC L o rs=oC (fun _=>true) o rs
 | [],_,_=>rfl
 | r::rs,o,h=>by
  simp only [oC,h r (by simp)]
  exact YW fun r' hr'=>h r' (by simp [hr'])
theorem VC.draw {Φ:Fence} {Q:Exit->Act->World->Prop} {bn:Nat} {β0:Nat->Nm} {M:Nat} {k:List It} {id:Nat} (hm:P.follows .mixedOrders=true) (hcalm:Calm Φ Q all) (hbn:bn<=s.n) (hc:bd all ms rs H9) (hch:BM s.n rs) (hrec: ∀ p r q,rs=p++r::q->GF fl hid P w0 F D0 s all ms p r) (hQ: ∀ c a d v w,Q (.panic c) (a.put d v) w->Q (.panic c) a w)
  (h:VC Φ P Q w0 F D0 bn β0 M (.ops all (H9.filterMap (all[·]?))::k) (behind s rs)):VC Φ P Q w0 F D0 bn β0 M (.code (.region id all true)::k) s:=fun D β a w hβ0 hg=>by
 simp only [after]
 have hQ': ∀ c a d v w,after Φ P M k Q (.panic c) (a.put d v) w->after Φ P M k Q (.panic c) a w:=by
  clear h hc hrec hg hβ0 hbn
  intro c a d v w
  induction k with
  | nil=>exact hQ c a d v w
  | cons x k ih=>
   cases x<;>simp only [after,Exit.inBlock]<;>first
    | exact ih
    | (cases M<;>simp only [HK]<;>exact ih)
 have hL0: ∀ i,AL (Array.replicate all.size false) i=false:=fun i=>by simp only [AL,Array.getD_eq_getD_getElem?,Array.getElem?_replicate];split<;>rfl
 have hNL: ∀ x,NL s rs (AL (Array.replicate all.size false)) x↔x<s.n:=fun x=>by
  constructor
  ·rintro (h|⟨_,_,h,_⟩)
   ·exact h
   ·rw [hL0] at h;cases h
  ·exact .inl
 have hoL: ∀ l:List (Rec S),oC (AL (Array.replicate all.size false)) s.o l=s.o:=by
  intro l
  induction l with
  | nil=>rfl
  | cons r l ih=>simp only [oC,hL0];exact ih
 refine OR (hcalm.after k) hm (V0 (βs:=β) hc hch hrec hQ' (fun L D2 β2 a w hj hall=>?_) all.size _ D β a _ ⟨hg.defers,hg.size,hg.Gc,hg.gh.Bk,fun _ _=>rfl,fun u x hu _=>hg.tmps u x hu,fun r _ hL=>?_,?_⟩ (by simp) (fun j o _ hj=>?_) (fun i _ hi=>?_) ?_)
 ·have hgh:=hj.gh
  rw [YW hall] at hgh
  have hgh2:=GH.mono hgh fun k hk=>(WR hch hall k).1 hk
  have:=h D2 β2 a w (fun i hi=>by rw [<-hj.mv i (Nat.lt_of_lt_of_le hi hbn)];exact hβ0 i hi) ⟨hj.defers,hj.size,fun t x hx=>?_,fun t x hx=>?_,hgh2⟩
  ·simpa only [after] using this
  all_goals
   simp only [behind] at hx
   rcases IM hx with ⟨p,r,q,h3,h5,h6⟩|⟨h1,h2⟩
  ·have hr:r∈rs:=by rw [h3];simp
   have h7:=hj.new r hr (hall r hr) t h5
   rw [h6]
   exact ⟨h7.1,Am (fun k hk=>(WR hch hall k).1 hk) h7.2.1⟩
  ·have h3:=hj.Gc t x h2
   exact ⟨h3.1,Am (fun i hi=>Nat.lt_of_lt_of_le hi hch.le) h3.2⟩
  ·have hr:r∈rs:=by rw [h3];simp
   rw [h6]
   exact (hj.new r hr (hall r hr) t h5).2.2
  ·exact hj.mG t x h2 fun r hr hd=>absurd hd (h1 r hr)
 ·rw [hL0] at hL;cases hL
 ·rw [hoL]
  exact GH.mono (hg.gh.step (w':={ w with drawn:=w.drawn+1 }) ⟨rfl,rfl,rfl,Nat.le_refl _,fun _ _=>rfl⟩) fun k hk=>(hNL k).2 hk
 ·rw [hL0] at hj;cases hj
 ·rw [hL0] at hi;cases hi
 ·simp [Fa]
end
end Go.En
