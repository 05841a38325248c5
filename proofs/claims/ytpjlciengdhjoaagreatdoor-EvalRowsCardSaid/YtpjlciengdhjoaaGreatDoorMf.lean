/- A function's model: what its trees come to, with as much fuel as it takes (Env.run), its equations (run_eq, cut_eq), and that it is a contract (fun_ctr). -/
import Derived.Test.YtpjlciengdhjoaaGreatDoorMe
namespace Go.En
open Go.RowKit
abbrev I (n:Nat):Int:=(n:Int)
noncomputable def kI {β:Type} (s:Nat->Option β):Option β:=
 open Classical in if h: ∃ n,s n≠none then s (Classical.choose h) else none
theorem Re {β:Type} {s:Nat->Option β} (hm: ∀ n y,s n=some y->s (n+1)=some y) {y:β}:kI s=some y↔ ∃ n,s n=some y:=by
 have hle: ∀ n m y,n<=m->s n=some y->s m=some y:=fun n m y h=>by
  induction h with
  | refl=>exact id
  | step _ ih=>exact fun h=>hm _ _ (ih h)
 constructor
 ·intro h
  unfold kI at h
  split at h
  ·exact ⟨_,h⟩
  ·cases h
 ·rintro ⟨n,h⟩
  unfold kI
  have hex: ∃ n,s n≠none:=⟨n,by rw [h];simp⟩
  rw [dif_pos hex]
  have h1:=Classical.choose_spec hex
  cases h2:s (Classical.choose hex) with
  | none=>exact absurd h2 h1
  | some z=>
   have a:=hle _ _ _ (Nat.le_max_left n (Classical.choose hex)) h
   have b:=hle _ _ _ (Nat.le_max_right n (Classical.choose hex)) h2
   rw [a] at b;cases b;rfl
section
variable {ι:Nat->Type} {ρ:Type}
theorem Tr.GP {M M': ∀ c,ι c->Option ρ} (h: ∀ c x y,M c x=some y->M' c x=some y): ∀ {t:Tr ι ρ} {y:ρ},t.eval M=some y->t.eval M'=some y
 | .ret r,y,hy=>hy
 | .cut c x,y,hy=>h c x y hy
 | .ite b t e,y,hy=>by
  simp only [Tr.eval] at hy ⊢
  split at hy
  ·rename_i hb;rw [if_pos hb];exact GP h hy
  ·rename_i hb;rw [if_neg hb];exact GP h hy
 | .Z5 p t,y,hy=>by
  simp only [Tr.eval] at hy ⊢
  split at hy
  ·rename_i hb;rw [if_pos hb];exact GP h hy
  ·cases hy
 | .Is m k,y,hy=>by
  simp only [Tr.eval] at hy ⊢
  obtain ⟨x,h1,h2⟩:=Option.bind_eq_some_iff.1 hy
  rw [h1];exact GP h h2
 | .stuck _,y,hy=>by simp [Tr.eval] at hy
theorem LJ {step: ∀ c,ι c->Tr ι ρ}: ∀ n c x y,Ej step n c x=some y->Ej step (n+1) c x=some y
 | 0,c,x,y,h=>by simp [Ej] at h
 | n+1,c,x,y,h=>by
  simp only [Ej] at h ⊢
  exact Tr.GP (fun c x y h=>LJ n c x y h) h
theorem Tr.GO {step: ∀ c,ι c->Tr ι ρ}: ∀ {t:Tr ι ρ} {y:ρ},t.eval (fun c x=>kI fun n=>Ej step n c x)=some y↔ ∃ n,t.eval (Ej step n)=some y
 | .ret r,y=>by simp [Tr.eval]
 | .cut c x,y=>by simp only [Tr.eval];exact Re fun n y h=>LJ n c x y h
 | .ite b t e,y=>by
  simp only [Tr.eval]
  split
  ·exact GO
  ·exact GO
 | .Z5 p t,y=>by
  simp only [Tr.eval]
  split
  ·exact GO
  ·simp
 | .Is m k,y=>by
  simp only [Tr.eval]
  cases m with
  | none=>simp
  | some x=>simp only [Option.bind_some];exact GO
 | .stuck _,y=>by simp [Tr.eval]
end
section
variable {S:As}
def Va (E:Env S) (c:Nat) (q:Cut) (h:lk E.DF c=some q) (x:E.ι c):q.sp.D S:=by
 unfold Env.ι eV at x;rw [h] at x;exact x
theorem SU {E:Env S} {c:Nat} {q:Cut} (h:lk E.DF c=some q) (x:q.sp.D S):Va E c q h (EJ E c q h x)=x:=by
 unfold Va EJ
 simp [id,cast_cast]
def Env.step (E:Env S) (f0:Nat) (c:Nat) (x:E.ι c):Tr E.ι E.ρ:=
 match h:lk E.DF c with
 | some q=>Jk E f0 q (Va E c q h x)
 | none=>.stuck 1
theorem Env.step_mk {E:Env S} {f0 c:Nat} {q:Cut} (h:lk E.DF c=some q) (x:q.sp.D S):E.step f0 c (EJ E c q h x)=Jk E f0 q x:=by
 unfold Env.step
 split
 ·rename_i q' h'
  rw [h] at h'
  cases h'
  rw [SU]
 ·rename_i h';rw [h] at h';cases h'
noncomputable def Env.cut (E:Env S) (f0:Nat) (c:Nat) (x:E.ι c):Option E.ρ:=kI fun n=>Ej (E.step f0) n c x
noncomputable def Env.run (E:Env S) (f0:Nat) (sp:Spec) (x:sp.D S):Option (E.rs.D S):=(Jj E f0 sp x).eval (E.cut f0)
theorem Env.nP {E:Env S} {f0 c:Nat} {q:Cut} (h:lk E.DF c=some q) (x:q.sp.D S):E.cut f0 c (EJ E c q h x)=(Jk E f0 q x).eval (E.cut f0):=by
 apply Option.ext
 intro y
 unfold Env.cut
 rw [Re (s:=fun n=>Ej (E.step f0) n c (EJ E c q h x)) (fun n y h=>LJ n c _ y h),Tr.GO]
 constructor
 ·rintro ⟨n,hn⟩
  cases n with
  | zero=>simp [Ej] at hn
  | succ n=>simp only [Ej,Env.step_mk] at hn;exact ⟨n,hn⟩
 ·rintro ⟨n,hn⟩
  refine ⟨n+1,?_⟩
  simp only [Ej,Env.step_mk];exact hn
def AY (P:Program) (f:Nat):Code:=match P.funcs[f]? with
 | some fn=>match fn.body with
  | some c=>c
  | none=>.skip
 | none=>.skip
def Cw (P:Program) (f:Nat):Nat:=match P.funcs[f]? with
 | some fn=>fn.ntmps
 | none=>0
def EL (P:Program) (f:Nat):List ResultVar:=match P.funcs[f]? with
 | some fn=>fn.results.toList
 | none=>[]
structure Aj where
 DF:List (Nat×Cut)
 bn:Nat
 sp:Spec
 rs:Spec
 flat:Bool
 dr:List (Nat×JD)
 inl:List (Nat×List (Nat×JD))
def RR (P:Program):List (Nat×List (Nat×JD))->List (Nat×nE)
 | []=>[]
 | (f,dr)::r=>(f,⟨AY P f,Cw P f,EL P f,dr⟩)::RR P r
def AU (P:Program) (f:Nat) (tb:List (Nat×TI)) (ct:List (BU S)) (p:Aj):Env S:=
 ⟨RR P p.inl,tb,ct,p.DF,p.bn,EL P f,p.rs,Cw P f,p.dr,AY P f⟩
def aj {α:Type}:Option α->Bool
 | some _=>true
 | none=>false
def AH (S:As) (P:Program) (f:Nat) (p:Aj):Bool:=
 B9 P f && Nat.ble p.sp.as.length (Cw P f) && p.sp.okB p.bn && p.rs.okB (Hg p.bn p.rs) && (!p.flat || p.rs.plain S) && IX (AY P f) p.dr && P.follows .mixedOrders && HY (fun x=>B9 P x.1 && IX (AY P x.1) x.2) p.inl &&
 HY (fun x=>x.2.sp.okB x.2.bn && Nat.ble p.bn x.2.bn && Nat.beq x.2.ts.length x.2.sp.as.length && aj (DI (AY P f) x.2.key)) p.DF
theorem Tf {α:Type} {x:α}: ∀ {l:List (Nat×α)} {i:Nat},lk l i=some x->(i,x)∈l
 | [],i,h=>by simp [AW] at h
 | (d,y)::r,i,h=>by
  rw [AK] at h
  split at h
  ·rename_i he;subst he;cases h;simp
  ·exact mt _ (Tf h)
theorem NQ {P:Program} {f:Nat} {q:nE}: ∀ {l:List (Nat×List (Nat×JD))},lk (RR P l) f=some q-> ∃ dr,(f,dr)∈l/\q=⟨AY P f,Cw P f,EL P f,dr⟩
 | [],h=>by simp [RR,AW] at h
 | (g,dr)::r,h=>by
  simp only [RR,AK] at h
  split at h
  ·rename_i he;subst he;cases h;exact ⟨dr,by simp,rfl⟩
  ·obtain ⟨dr',h1,h2⟩:=NQ h;exact ⟨dr',by simp [h1],h2⟩
theorem Ov {P:Program} {f:Nat} (h:B9 P f=true): ∃ fn,P.funcs[f]?=some fn/\fn.body=some (AY P f)/\fn.ntmps=Cw P f/\fn.results.toList=EL P f:=by
 unfold B9 at h
 split at h
 case h_2=>cases h
 rename_i fn hf
 simp only [dl] at h
 cases hbody:fn.body with
 | none=>rw [hbody] at h;simp at h
 | some c=>exact ⟨fn,hf,by simp only [AY,hf,hbody],by simp only [Cw,hf],by simp only [EL,hf]⟩
theorem Am {P:Program}: ∀ c∈([]:List (BU S)),c.Holds P:=fun c h=>by simp at h
theorem AS {P:Program} {x:BU S} {l:List (BU S)} (h:x.Holds P) (t: ∀ c∈l,c.Holds P): ∀ c∈x::l,c.Holds P:=fun c hc=>by
 rcases List.mem_cons.1 hc with rfl|hc
 ·exact h
 ·exact t c hc
theorem BP {P:Program} {f:Nat} {tb:List (Nat×TI)} {ct:List (BU S)} {p:Aj} (f0:Nat) (htb:Ae S P tb) (hct: ∀ c∈ct,c.Holds P) (h:AH S P f p=true):
  BU.Holds P ⟨f,p.bn,p.sp,p.rs,p.flat,.opt ((AU P f tb ct p).run f0 p.sp)⟩:=by
 simp only [AH,dl] at h
 obtain ⟨⟨⟨⟨⟨⟨⟨⟨h1,h2⟩,h3⟩,h4⟩,h5⟩,h6⟩,h7⟩,h9⟩,h8⟩:=h
 have hb:=h1
 unfold B9 at h1
 split at h1
 case h_2=>cases h1
 rename_i fn hf
 simp only [dl] at h1
 cases hbody:fn.body with
 | none=>rw [hbody] at h1;simp at h1
 | some c=>
 have e1:AY P f=c:=by simp only [AY,hf,hbody]
 have e2:Cw P f=fn.ntmps:=by simp only [Cw,hf]
 have e3:EL P f=fn.results.toList:=by simp only [EL,hf]
 have hE:(AU P f tb ct p).Ok P:=by
  refine ⟨htb,hct,h4,h6,h7,fun g q hq=>?_,fun c q hq=>?_⟩
  ·obtain ⟨dr,hm,e⟩:=NQ hq
   have:=Bm.1 h9 (g,dr) hm
   simp only [dl] at this
   obtain ⟨fn',a1,a2,a3,a4⟩:=Ov this.1
   subst e
   exact ⟨this.1,this.2,fn',a1,a2,a3,a4⟩
  have:=Bm.1 h8 (c,q) (Tf hq)
  simp only [dl] at this
  obtain ⟨⟨⟨a1,a2⟩,a3⟩,a4⟩:=this
  refine ⟨a1,dk a2,ac a3,?_⟩
  cases hk:DI (AY P f) q.key with
  | none=>rw [hk] at a4;cases a4
  | some k=>exact ⟨k,hk⟩
 refine ⟨hb,h3,fun hfl=>?_,fun x y hxy w D β vs o n he hg hon hn hiv=>?_⟩
 ·simp only at hfl;rw [hfl] at h5;simpa using h5
 ·have hxy':(AU P f tb ct p).run f0 p.sp x=some y:=hxy
  unfold Env.run Env.cut at hxy'
  obtain ⟨n0,hn0⟩:=Tr.GO.1 hxy'
  exact O6 (out:=.opt ((AU P f tb ct p).run f0 p.sp)) hE hf (by rw [hbody];exact congrArg some e1.symm) e2.symm e3.symm (dk h2) (Ej ((AU P f tb ct p).step f0)) (fun _ _=>rfl) (fun n k q h x y hy=>by simp only [Ej,Env.step_mk] at hy;exact hy) hn0 he hg hon hiv
end
end Go.En
namespace Go.En
open Go.RowKit
section
variable {S:As} {P:Program}
theorem J9 {f:Nat} {sp rs:Spec} {out:Out (sp.D S) (rs.D S)} (hb:B9 P f=true) (hok:sp.okB 0=true) (hpl:rs.plain S=true)
  {A:sp.D S->Array Value} (hA: ∀ x,∃ vs,sp.enc x 0=(vs,[],0)/\ ∀ β,(AD β vs).toArray=A x)
  {B:rs.D S->Value} (hB: ∀ y,∃ rs',rs.enc y (Hg 0 rs)=(rs',[],0)/\(∀ β,(Ay rs').den β=B y)/\BZ (· <0) rs')
  (hc: ∀ x y,out.gives x y-> ∀ w D,S.inv D w->Calls P f (A x) w fun e w'=>e=.returned (B y)/\Below w.heap.size w w'):
  BU.Holds P ⟨f,0,sp,rs,true,out⟩:=by
 refine ⟨hb,hok,fun _=>hpl,fun x y hxy w D β vs o n he hg hon hn hiv=>?_⟩
 obtain ⟨vs',h1,h2⟩:=hA x
 rw [h1] at he
 simp only [bi] at he
 obtain ⟨rfl,rfl,rfl⟩:=he
 rw [h2]
 refine (hc x y hxy w D hiv).mono fun e w' ⟨h3,h4⟩=>?_
 obtain ⟨rs',h5,h6,h7⟩:=hB y
 exact ⟨D,β,rs',[],0,h5,by rw [h3,h6],fun _ _=>rfl,hg.step h4,h7,Nat.le_refl _⟩
variable {f:Nat} (hb:B9 P f=true)
include hb
theorem Rb {g:List UInt8->List UInt8->Bool} {p:List UInt8->List UInt8->Bool} (hc: ∀ a b w D,p a b=true->S.inv D w->Calls P f #[.string ⟨⟨a⟩⟩,.string ⟨⟨b⟩⟩] w fun e w'=>e=.returned (.bool (g a b))/\Below w.heap.size w w'):
  BU.Holds (S:=S) P ⟨f,0,⟨[.fd .str,.fd .str],[]⟩,⟨[.fd .bool],[]⟩,true,.pre (fun x=>p x.1.1 x.1.2.1) fun x=>((g x.1.1 x.1.2.1,()),())⟩:=
 J9 hb rfl rfl (A:=fun x=>#[.string ⟨⟨x.1.1⟩⟩,.string ⟨⟨x.1.2.1⟩⟩]) (fun _=>⟨_,rfl,fun _=>rfl⟩) (B:=fun y=>.bool y.1.1) (fun _=>⟨_,rfl,fun _=>rfl,trivial,trivial⟩)
  (fun x y h w D hiv=>by obtain ⟨h1,rfl⟩:=h;exact hc _ _ w D h1 hiv)
theorem YR {g:List UInt8->List UInt8->Int} {p:List UInt8->List UInt8->Bool} (hc: ∀ a b w D,p a b=true->S.inv D w->Calls P f #[.string ⟨⟨a⟩⟩,.string ⟨⟨b⟩⟩] w fun e w'=>e=.returned (.int .i64 (g a b))/\Below w.heap.size w w'):
  BU.Holds (S:=S) P ⟨f,0,⟨[.fd .str,.fd .str],[]⟩,⟨[.fd (.int .i64)],[]⟩,true,.pre (fun x=>p x.1.1 x.1.2.1) fun x=>((g x.1.1 x.1.2.1,()),())⟩:=
 J9 hb rfl rfl (A:=fun x=>#[.string ⟨⟨x.1.1⟩⟩,.string ⟨⟨x.1.2.1⟩⟩]) (fun _=>⟨_,rfl,fun _=>rfl⟩) (B:=fun y=>.int .i64 y.1.1) (fun _=>⟨_,rfl,fun _=>rfl,trivial,trivial⟩)
  (fun x y h w D hiv=>by obtain ⟨h1,rfl⟩:=h;exact hc _ _ w D h1 hiv)
theorem YQ {g:List UInt8->Int->Int} {p:List UInt8->Int->Bool} (hc: ∀ a b w D,p a b=true->S.inv D w->Calls P f #[.string ⟨⟨a⟩⟩,.int .u8 b] w fun e w'=>e=.returned (.int .i64 (g a b))/\Below w.heap.size w w'):
  BU.Holds (S:=S) P ⟨f,0,⟨[.fd .str,.fd (.int .u8)],[]⟩,⟨[.fd (.int .i64)],[]⟩,true,.pre (fun x=>p x.1.1 x.1.2.1) fun x=>((g x.1.1 x.1.2.1,()),())⟩:=
 J9 hb rfl rfl (A:=fun x=>#[.string ⟨⟨x.1.1⟩⟩,.int .u8 x.1.2.1]) (fun _=>⟨_,rfl,fun _=>rfl⟩) (B:=fun y=>.int .i64 y.1.1) (fun _=>⟨_,rfl,fun _=>rfl,trivial,trivial⟩)
  (fun x y h w D hiv=>by obtain ⟨h1,rfl⟩:=h;exact hc _ _ w D h1 hiv)
theorem bH {g:List UInt8->List UInt8} {p:List UInt8->Bool} (hc: ∀ a w D,p a=true->S.inv D w->Calls P f #[.string ⟨⟨a⟩⟩] w fun e w'=>e=.returned (.string ⟨⟨g a⟩⟩)/\Below w.heap.size w w'):
  BU.Holds (S:=S) P ⟨f,0,⟨[.fd .str],[]⟩,⟨[.fd .str],[]⟩,true,.pre (fun x=>p x.1.1) fun x=>((g x.1.1,()),())⟩:=
 J9 hb rfl rfl (A:=fun x=>#[.string ⟨⟨x.1.1⟩⟩]) (fun _=>⟨_,rfl,fun _=>rfl⟩) (B:=fun y=>.string ⟨⟨y.1.1⟩⟩) (fun _=>⟨_,rfl,fun _=>rfl,trivial,trivial⟩)
  (fun x y h w D hiv=>by obtain ⟨h1,rfl⟩:=h;exact hc _ w D h1 hiv)
theorem YP {τ:Nat} {E:TypeId} (emb:List UInt8->S.T τ) (hemb: ∀ x,S.enc τ (emb x)=[.str x]) {g:List UInt8->List (List UInt8)} {p:List UInt8->Bool} (hlen: ∀ a,p a=true->(g a).length<=maxLen)
  (hc: ∀ a w D,p a=true->S.inv D w->Calls P f #[.string ⟨⟨a⟩⟩] w fun e w'=>e=.returned (.slice (some ⟨w.heap.size,0,none⟩) (g a).length (g a).length)/\w'=w.alloc (.cells ((g a).map fun l=>Value.string ⟨⟨l⟩⟩).toArray E)):
  BU.Holds (S:=S) P ⟨f,0,⟨[.fd .str],[]⟩,⟨[.own τ E],[]⟩,false,.pre (fun x=>p x.1.1) fun x=>(((g x.1.1).map emb,()),())⟩:=by
 have hsz:S.sz τ=1:=by have:=S.Ah τ (emb []);rw [hemb] at this;exact this.symm
 refine ⟨hb,rfl,fun h=>(by cases h),fun x y hxy w D β vs o n he hg hon hn hiv=>?_⟩
 obtain ⟨vs',h1,h2⟩: ∃ vs,Spec.enc (S:=S) ⟨[.fd .str],[]⟩ x 0=(vs,[],0)/\ ∀ β,(AD β vs).toArray=#[.string ⟨⟨x.1.1⟩⟩]:=⟨_,rfl,fun _=>rfl⟩
 rw [h1] at he
 simp only [bi] at he
 obtain ⟨rfl,rfl,rfl⟩:=he
 rw [h2]
 obtain ⟨hp,rfl⟩:=hxy
 refine (hc _ w D hp hiv).mono fun e w' ⟨h3,h4⟩=>?_
 subst h4
 have hflat: ∀ l:List (List UInt8),S.flat τ (l.map emb)=l.map fun x=>FC.str x:=by
  intro l
  induction l with
  | nil=>rfl
  | cons a r ih=>simp only [List.map_cons,As.flat,List.flatMap_cons,hemb] at ih ⊢; rw [ih];rfl
 obtain ⟨β',b1,b2,b3⟩:=hg.alloc (b:=.tr τ E ((g x.1.1).map emb)) (ob:=.cells ((g x.1.1).map fun l=>Value.string ⟨⟨l⟩⟩).toArray E) (len:=(g x.1.1).length) (cap:=(g x.1.1).length) (n:=0) (by omega) trivial (fun β' _ _=>by
  refine ⟨by simp,(g x.1.1).map fun l=>Value.string ⟨⟨l⟩⟩,⟨by simp [hsz],.inr ⟨w.heap.size,(g x.1.1).length,((g x.1.1).map fun l=>Value.string ⟨⟨l⟩⟩).toArray,by simp,Nat.zero_le _,?_,by simp,hlen _ hp,by simp [hsz],?_⟩⟩,?_⟩
  ·show (w.heap.push _)[w.heap.size]?=_
   simp
  ·rw [hsz];simp only [Nat.mul_one,List.length_map];exact List.take_of_length_le (by simp)
  ·rw [hflat]
   refine ⟨by simp,fun i f v hf hv=>?_⟩
   rw [List.getElem?_map] at hf hv
   cases hgi:(g x.1.1)[i]? with
   | none=>rw [hgi] at hf;simp at hf
   | some a=>
    rw [hgi] at hf hv
    simp only [Option.map_some,am] at hf hv
    subst hf hv
    exact .str a)
 refine ⟨D,β',[.tr 0],[(0,.tr τ E ((g x.1.1).map emb))],1,rfl,?_,fun i hi=>absurd hi (by omega),by rw [DG] at b3;exact b3,⟨Nat.zero_lt_one,trivial⟩,by omega⟩
 rw [h3]
 simp [Ay,SV.den,b2]
end
end Go.En
