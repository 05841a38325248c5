/- A function's model: what its trees come to, with as much fuel as it takes (Env.run), its equations (run_eq, cut_eq), and that it is a contract (fun_ctr). -/
import Derived.Test.YtmgkedikciddlaaGreatDoorMe
namespace Go.En
open Go.RowKit
abbrev I (n:Nat):Int:=(n:Int)
noncomputable def ja {β:Type} (s:Nat->Option β):Option β:=
 open Classical in if h: ∃ n,s n≠none then s (Classical.choose h) else none
theorem Rb {β:Type} {s:Nat->Option β} (hm: ∀ n y,s n=some y->s (n+1)=some y) {y:β}:ja s=some y↔ ∃ n,s n=some y:=by
 have hle: ∀ n m y,n<=m->s n=some y->s m=some y:=fun n m y h=>by
  induction h with
  | refl=>exact id
  | step _ ih=>exact fun h=>hm _ _ (ih h)
 constructor
 ·intro h
  unfold ja at h
  split at h
  ·exact ⟨_,h⟩
  ·cases h
 ·rintro ⟨n,h⟩
  unfold ja
  have hex: ∃ n,s n≠none:=⟨n,by rw [h];simp⟩
  rw [dif_pos hex]
  have h1:=Classical.choose_spec hex
  cases h2:s (Classical.choose hex) with
  | none=>exact absurd h2 h1
  | some z=>
   have a:=hle _ _ _ (Nat.le_max_left n (Classical.choose hex)) h
   have b:=hle _ _ _ (Nat.le_max_right n (Classical.choose hex)) h2
   rw [a] at b;cases b;rfl
section
variable {ι:Nat->Type} {ρ:Type}
theorem Tr.GS {M M': ∀ c,ι c->Option ρ} (h: ∀ c x y,M c x=some y->M' c x=some y): ∀ {t:Tr ι ρ} {y:ρ},t.eval M=some y->t.eval M'=some y
 | .ret r,y,hy=>hy
 | .cut c x,y,hy=>h c x y hy
 | .ite b t e,y,hy=>by
  simp only [Tr.eval] at hy ⊢
  split at hy
  ·rename_i hb;rw [if_pos hb];exact GS h hy
  ·rename_i hb;rw [if_neg hb];exact GS h hy
 | .Zp p t,y,hy=>by
  simp only [Tr.eval] at hy ⊢
  split at hy
  ·rename_i hb;rw [if_pos hb];exact GS h hy
  ·cases hy
 | .Ii m k,y,hy=>by
  simp only [Tr.eval] at hy ⊢
  obtain ⟨x,h1,h2⟩:=Option.bind_eq_some_iff.1 hy
  rw [h1];exact GS h h2
 | .stuck _,y,hy=>by simp [Tr.eval] at hy
theorem K3 {step: ∀ c,ι c->Tr ι ρ}: ∀ n c x y,Ei step n c x=some y->Ei step (n+1) c x=some y
 | 0,c,x,y,h=>by simp [Ei] at h
 | n+1,c,x,y,h=>by
  simp only [Ei] at h ⊢
  exact Tr.GS (fun c x y h=>K3 n c x y h) h
theorem Tr.GR {step: ∀ c,ι c->Tr ι ρ}: ∀ {t:Tr ι ρ} {y:ρ},t.eval (fun c x=>ja fun n=>Ei step n c x)=some y↔ ∃ n,t.eval (Ei step n)=some y
 | .ret r,y=>by simp [Tr.eval]
 | .cut c x,y=>by simp only [Tr.eval];exact Rb fun n y h=>K3 n c x y h
 | .ite b t e,y=>by
  simp only [Tr.eval]
  split
  ·exact GR
  ·exact GR
 | .Zp p t,y=>by
  simp only [Tr.eval]
  split
  ·exact GR
  ·simp
 | .Ii m k,y=>by
  simp only [Tr.eval]
  cases m with
  | none=>simp
  | some x=>simp only [Option.bind_some];exact GR
 | .stuck _,y=>by simp [Tr.eval]
end
section
variable {S:At}
def VR (E:Env S) (c:Nat) (q:Cut) (h:lk E.C6 c=some q) (x:E.ι c):q.sp.D S:=by
 unfold Env.ι eT at x;rw [h] at x;exact x
theorem SW {E:Env S} {c:Nat} {q:Cut} (h:lk E.C6 c=some q) (x:q.sp.D S):VR E c q h (EH E c q h x)=x:=by
 unfold VR EH
 simp [id,cast_cast]
def Env.step (E:Env S) (f0:Nat) (c:Nat) (x:E.ι c):Tr E.ι E.ρ:=
 match h:lk E.C6 c with
 | some q=>Jb E f0 q (VR E c q h x)
 | none=>.stuck 1
theorem Env.step_mk {E:Env S} {f0 c:Nat} {q:Cut} (h:lk E.C6 c=some q) (x:q.sp.D S):E.step f0 c (EH E c q h x)=Jb E f0 q x:=by
 unfold Env.step
 split
 ·rename_i q' h'
  rw [h] at h'
  cases h'
  rw [SW]
 ·rename_i h';rw [h] at h';cases h'
noncomputable def Env.cut (E:Env S) (f0:Nat) (c:Nat) (x:E.ι c):Option E.ρ:=ja fun n=>Ei (E.step f0) n c x
noncomputable def Env.run (E:Env S) (f0:Nat) (sp:Spec) (x:sp.D S):Option (E.rs.D S):=(Ja E f0 sp x).eval (E.cut f0)
theorem Env.mO {E:Env S} {f0 c:Nat} {q:Cut} (h:lk E.C6 c=some q) (x:q.sp.D S):E.cut f0 c (EH E c q h x)=(Jb E f0 q x).eval (E.cut f0):=by
 apply Option.ext
 intro y
 unfold Env.cut
 rw [Rb (s:=fun n=>Ei (E.step f0) n c (EH E c q h x)) (fun n y h=>K3 n c _ y h),Tr.GR]
 constructor
 ·rintro ⟨n,hn⟩
  cases n with
  | zero=>simp [Ei] at hn
  | succ n=>simp only [Ei,Env.step_mk] at hn;exact ⟨n,hn⟩
 ·rintro ⟨n,hn⟩
  refine ⟨n+1,?_⟩
  simp only [Ei,Env.step_mk];exact hn
def AT (P:Program) (f:Nat):Code:=match P.funcs[f]? with
 | some fn=>match fn.body with
  | some c=>c
  | none=>.skip
 | none=>.skip
def Cq (P:Program) (f:Nat):Nat:=match P.funcs[f]? with
 | some fn=>fn.ntmps
 | none=>0
def EK (P:Program) (f:Nat):List ResultVar:=match P.funcs[f]? with
 | some fn=>fn.results.toList
 | none=>[]
structure Ak where
 C6:List (Nat×Cut)
 bn:Nat
 sp:Spec
 rs:Spec
 flat:Bool
 dr:List (Nat×I6)
 inl:List (Nat×List (Nat×I6))
def RQ (P:Program):List (Nat×List (Nat×I6))->List (Nat×mH)
 | []=>[]
 | (f,dr)::r=>(f,⟨AT P f,Cq P f,EK P f,dr⟩)::RQ P r
def Au (P:Program) (f:Nat) (tb:List (Nat×TI)) (ct:List (B2 S)) (p:Ak):Env S:=
 ⟨RQ P p.inl,tb,ct,p.C6,p.bn,EK P f,p.rs,Cq P f,p.dr,AT P f⟩
def aM {α:Type}:Option α->Bool
 | some _=>true
 | none=>false
def AH (S:At) (P:Program) (f:Nat) (p:Ak):Bool:=
 Bu P f && Nat.ble p.sp.as.length (Cq P f) && p.sp.okB p.bn && p.rs.okB (Hb p.bn p.rs) && (!p.flat || p.rs.plain S) && IK (AT P f) p.dr && P.follows .mixedOrders && HS (fun x=>Bu P x.1 && IK (AT P x.1) x.2) p.inl &&
 HS (fun x=>x.2.sp.okB x.2.bn && Nat.ble p.bn x.2.bn && Nat.beq x.2.ts.length x.2.sp.as.length && aM (DA (AT P f) x.2.key)) p.C6
theorem Tg {α:Type} {x:α}: ∀ {l:List (Nat×α)} {i:Nat},lk l i=some x->(i,x)∈l
 | [],i,h=>by simp [AQ] at h
 | (d,y)::r,i,h=>by
  rw [AJ] at h
  split at h
  ·rename_i he;subst he;cases h;simp
  ·exact List.mem_cons_of_mem _ (Tg h)
theorem M8 {P:Program} {f:Nat} {q:mH}: ∀ {l:List (Nat×List (Nat×I6))},lk (RQ P l) f=some q-> ∃ dr,(f,dr)∈l/\q=⟨AT P f,Cq P f,EK P f,dr⟩
 | [],h=>by simp [RQ,AQ] at h
 | (g,dr)::r,h=>by
  simp only [RQ,AJ] at h
  split at h
  ·rename_i he;subst he;cases h;exact ⟨dr,by simp,rfl⟩
  ·obtain ⟨dr',h1,h2⟩:=M8 h;exact ⟨dr',by simp [h1],h2⟩
theorem Od {P:Program} {f:Nat} (h:Bu P f=true): ∃ fn,P.funcs[f]?=some fn/\fn.body=some (AT P f)/\fn.ntmps=Cq P f/\fn.results.toList=EK P f:=by
 unfold Bu at h
 split at h
 case h_2=>cases h
 rename_i fn hf
 simp only [Bool.and_eq_true] at h
 cases hbody:fn.body with
 | none=>rw [hbody] at h;simp at h
 | some c=>exact ⟨fn,hf,by simp only [AT,hf,hbody],by simp only [Cq,hf],by simp only [EK,hf]⟩
theorem CS {P:Program}: ∀ c∈([]:List (B2 S)),c.Holds P:=fun c h=>by simp at h
theorem BG {P:Program} {x:B2 S} {l:List (B2 S)} (h:x.Holds P) (t: ∀ c∈l,c.Holds P): ∀ c∈x::l,c.Holds P:=fun c hc=>by
 rcases List.mem_cons.1 hc with rfl|hc
 ·exact h
 ·exact t c hc
theorem FE {P:Program} {f:Nat} {tb:List (Nat×TI)} {ct:List (B2 S)} {p:Ak} (f0:Nat) (htb:AY S P tb) (hct: ∀ c∈ct,c.Holds P) (h:AH S P f p=true):
  B2.Holds P ⟨f,p.bn,p.sp,p.rs,p.flat,.opt ((Au P f tb ct p).run f0 p.sp)⟩:=by
 simp only [AH,Bool.and_eq_true] at h
 obtain ⟨⟨⟨⟨⟨⟨⟨⟨h1,h2⟩,h3⟩,h4⟩,h5⟩,h6⟩,h7⟩,h9⟩,h8⟩:=h
 have hb:=h1
 unfold Bu at h1
 split at h1
 case h_2=>cases h1
 rename_i fn hf
 simp only [Bool.and_eq_true] at h1
 cases hbody:fn.body with
 | none=>rw [hbody] at h1;simp at h1
 | some c=>
 have e1:AT P f=c:=by simp only [AT,hf,hbody]
 have e2:Cq P f=fn.ntmps:=by simp only [Cq,hf]
 have e3:EK P f=fn.results.toList:=by simp only [EK,hf]
 have hE:(Au P f tb ct p).Ok P:=by
  refine ⟨htb,hct,h4,h6,h7,fun g q hq=>?_,fun c q hq=>?_⟩
  ·obtain ⟨dr,hm,e⟩:=M8 hq
   have:=Bf.1 h9 (g,dr) hm
   simp only [Bool.and_eq_true] at this
   obtain ⟨fn',a1,a2,a3,a4⟩:=Od this.1
   subst e
   exact ⟨this.1,this.2,fn',a1,a2,a3,a4⟩
  have:=Bf.1 h8 (c,q) (Tg hq)
  simp only [Bool.and_eq_true] at this
  obtain ⟨⟨⟨a1,a2⟩,a3⟩,a4⟩:=this
  refine ⟨a1,Nat.le_of_ble_eq_true a2,Nat.eq_of_beq_eq_true a3,?_⟩
  cases hk:DA (AT P f) q.key with
  | none=>rw [hk] at a4;cases a4
  | some k=>exact ⟨k,hk⟩
 refine ⟨hb,h3,fun hfl=>?_,fun x y hxy w D β vs o n he hg hon hn hiv=>?_⟩
 ·simp only at hfl;rw [hfl] at h5;simpa using h5
 ·have hxy':(Au P f tb ct p).run f0 p.sp x=some y:=hxy
  unfold Env.run Env.cut at hxy'
  obtain ⟨n0,hn0⟩:=Tr.GR.1 hxy'
  exact Oq (out:=.opt ((Au P f tb ct p).run f0 p.sp)) hE hf (by rw [hbody];exact congrArg some e1.symm) e2.symm e3.symm (Nat.le_of_ble_eq_true h2) (Ei ((Au P f tb ct p).step f0)) (fun _ _=>rfl) (fun n k q h x y hy=>by simp only [Ei,Env.step_mk] at hy;exact hy) hn0 he hg hon hiv
end
end Go.En
namespace Go.En
open Go.RowKit
section
variable {S:At} {P:Program}
theorem IP {f:Nat} {sp rs:Spec} {out:Out (sp.D S) (rs.D S)} (hb:Bu P f=true) (hok:sp.okB 0=true) (hpl:rs.plain S=true)
  {A:sp.D S->Array Value} (hA: ∀ x,∃ vs,sp.enc x 0=(vs,[],0)/\ ∀ β,(AB β vs).toArray=A x)
  {B:rs.D S->Value} (hB: ∀ y,∃ rs',rs.enc y (Hb 0 rs)=(rs',[],0)/\(∀ β,(A5 rs').den β=B y)/\BW (· <0) rs')
  (hc: ∀ x y,out.gives x y-> ∀ w D,S.inv D w->Calls P f (A x) w fun e w'=>e=.returned (B y)/\Below w.heap.size w w'):
  B2.Holds P ⟨f,0,sp,rs,true,out⟩:=by
 refine ⟨hb,hok,fun _=>hpl,fun x y hxy w D β vs o n he hg hon hn hiv=>?_⟩
 obtain ⟨vs',h1,h2⟩:=hA x
 rw [h1] at he
 simp only [Prod.mk.injEq] at he
 obtain ⟨rfl,rfl,rfl⟩:=he
 rw [h2]
 refine (hc x y hxy w D hiv).mono fun e w' ⟨h3,h4⟩=>?_
 obtain ⟨rs',h5,h6,h7⟩:=hB y
 exact ⟨D,β,rs',[],0,h5,by rw [h3,h6],fun _ _=>rfl,hg.step h4,h7,Nat.le_refl _⟩
variable {f:Nat} (hb:Bu P f=true)
include hb
theorem RZ {g:List UInt8->List UInt8->Bool} {p:List UInt8->List UInt8->Bool} (hc: ∀ a b w D,p a b=true->S.inv D w->Calls P f #[.string ⟨⟨a⟩⟩,.string ⟨⟨b⟩⟩] w fun e w'=>e=.returned (.bool (g a b))/\Below w.heap.size w w'):
  B2.Holds (S:=S) P ⟨f,0,⟨[.fd .str,.fd .str],[]⟩,⟨[.fd .bool],[]⟩,true,.pre (fun x=>p x.1.1 x.1.2.1) fun x=>((g x.1.1 x.1.2.1,()),())⟩:=
 IP hb rfl rfl (A:=fun x=>#[.string ⟨⟨x.1.1⟩⟩,.string ⟨⟨x.1.2.1⟩⟩]) (fun _=>⟨_,rfl,fun _=>rfl⟩) (B:=fun y=>.bool y.1.1) (fun _=>⟨_,rfl,fun _=>rfl,trivial,trivial⟩)
  (fun x y h w D hiv=>by obtain ⟨h1,rfl⟩:=h;exact hc _ _ w D h1 hiv)
theorem YD {g:List UInt8->List UInt8->Int} {p:List UInt8->List UInt8->Bool} (hc: ∀ a b w D,p a b=true->S.inv D w->Calls P f #[.string ⟨⟨a⟩⟩,.string ⟨⟨b⟩⟩] w fun e w'=>e=.returned (.int .i64 (g a b))/\Below w.heap.size w w'):
  B2.Holds (S:=S) P ⟨f,0,⟨[.fd .str,.fd .str],[]⟩,⟨[.fd (.int .i64)],[]⟩,true,.pre (fun x=>p x.1.1 x.1.2.1) fun x=>((g x.1.1 x.1.2.1,()),())⟩:=
 IP hb rfl rfl (A:=fun x=>#[.string ⟨⟨x.1.1⟩⟩,.string ⟨⟨x.1.2.1⟩⟩]) (fun _=>⟨_,rfl,fun _=>rfl⟩) (B:=fun y=>.int .i64 y.1.1) (fun _=>⟨_,rfl,fun _=>rfl,trivial,trivial⟩)
  (fun x y h w D hiv=>by obtain ⟨h1,rfl⟩:=h;exact hc _ _ w D h1 hiv)
theorem YC {g:List UInt8->Int->Int} {p:List UInt8->Int->Bool} (hc: ∀ a b w D,p a b=true->S.inv D w->Calls P f #[.string ⟨⟨a⟩⟩,.int .u8 b] w fun e w'=>e=.returned (.int .i64 (g a b))/\Below w.heap.size w w'):
  B2.Holds (S:=S) P ⟨f,0,⟨[.fd .str,.fd (.int .u8)],[]⟩,⟨[.fd (.int .i64)],[]⟩,true,.pre (fun x=>p x.1.1 x.1.2.1) fun x=>((g x.1.1 x.1.2.1,()),())⟩:=
 IP hb rfl rfl (A:=fun x=>#[.string ⟨⟨x.1.1⟩⟩,.int .u8 x.1.2.1]) (fun _=>⟨_,rfl,fun _=>rfl⟩) (B:=fun y=>.int .i64 y.1.1) (fun _=>⟨_,rfl,fun _=>rfl,trivial,trivial⟩)
  (fun x y h w D hiv=>by obtain ⟨h1,rfl⟩:=h;exact hc _ _ w D h1 hiv)
theorem aj {g:List UInt8->List UInt8} {p:List UInt8->Bool} (hc: ∀ a w D,p a=true->S.inv D w->Calls P f #[.string ⟨⟨a⟩⟩] w fun e w'=>e=.returned (.string ⟨⟨g a⟩⟩)/\Below w.heap.size w w'):
  B2.Holds (S:=S) P ⟨f,0,⟨[.fd .str],[]⟩,⟨[.fd .str],[]⟩,true,.pre (fun x=>p x.1.1) fun x=>((g x.1.1,()),())⟩:=
 IP hb rfl rfl (A:=fun x=>#[.string ⟨⟨x.1.1⟩⟩]) (fun _=>⟨_,rfl,fun _=>rfl⟩) (B:=fun y=>.string ⟨⟨y.1.1⟩⟩) (fun _=>⟨_,rfl,fun _=>rfl,trivial,trivial⟩)
  (fun x y h w D hiv=>by obtain ⟨h1,rfl⟩:=h;exact hc _ w D h1 hiv)
theorem ai {g:Int->List UInt8} {p:Int->Bool} (hc: ∀ a w D,p a=true->S.inv D w->Calls P f #[.int .i64 a] w fun e w'=>e=.returned (.string ⟨⟨g a⟩⟩)/\Below w.heap.size w w'):
  B2.Holds (S:=S) P ⟨f,0,⟨[.fd (.int .i64)],[]⟩,⟨[.fd .str],[]⟩,true,.pre (fun x=>p x.1.1) fun x=>((g x.1.1,()),())⟩:=
 IP hb rfl rfl (A:=fun x=>#[.int .i64 x.1.1]) (fun _=>⟨_,rfl,fun _=>rfl⟩) (B:=fun y=>.string ⟨⟨y.1.1⟩⟩) (fun _=>⟨_,rfl,fun _=>rfl,trivial,trivial⟩)
  (fun x y h w D hiv=>by obtain ⟨h1,rfl⟩:=h;exact hc _ w D h1 hiv)
theorem YB {τ:Nat} {E:TypeId} (emb:List UInt8->S.T τ) (hemb: ∀ x,S.enc τ (emb x)=[.str x]) {g:List UInt8->List (List UInt8)} {p:List UInt8->Bool} (hlen: ∀ a,p a=true->(g a).length<=maxLen)
  (hc: ∀ a w D,p a=true->S.inv D w->Calls P f #[.string ⟨⟨a⟩⟩] w fun e w'=>e=.returned (.slice (some ⟨w.heap.size,0,none⟩) (g a).length (g a).length)/\w'=w.alloc (.cells ((g a).map fun l=>Value.string ⟨⟨l⟩⟩).toArray E)):
  B2.Holds (S:=S) P ⟨f,0,⟨[.fd .str],[]⟩,⟨[.own τ E],[]⟩,false,.pre (fun x=>p x.1.1) fun x=>(((g x.1.1).map emb,()),())⟩:=by
 have hsz:S.sz τ=1:=by have:=S.Ad τ (emb []);rw [hemb] at this;exact this.symm
 refine ⟨hb,rfl,fun h=>(by cases h),fun x y hxy w D β vs o n he hg hon hn hiv=>?_⟩
 obtain ⟨vs',h1,h2⟩: ∃ vs,Spec.enc (S:=S) ⟨[.fd .str],[]⟩ x 0=(vs,[],0)/\ ∀ β,(AB β vs).toArray=#[.string ⟨⟨x.1.1⟩⟩]:=⟨_,rfl,fun _=>rfl⟩
 rw [h1] at he
 simp only [Prod.mk.injEq] at he
 obtain ⟨rfl,rfl,rfl⟩:=he
 rw [h2]
 obtain ⟨hp,rfl⟩:=hxy
 refine (hc _ w D hp hiv).mono fun e w' ⟨h3,h4⟩=>?_
 subst h4
 have hflat: ∀ l:List (List UInt8),S.flat τ (l.map emb)=l.map fun x=>FC.str x:=by
  intro l
  induction l with
  | nil=>rfl
  | cons a r ih=>simp only [List.map_cons,At.flat,List.flatMap_cons,hemb] at ih ⊢; rw [ih];rfl
 obtain ⟨β',b1,b2,b3⟩:=hg.alloc (b:=.tr τ E ((g x.1.1).map emb)) (ob:=.cells ((g x.1.1).map fun l=>Value.string ⟨⟨l⟩⟩).toArray E) (len:=(g x.1.1).length) (cap:=(g x.1.1).length) (n:=0) (by omega) trivial (fun β' _ _=>by
  refine ⟨by simp,(g x.1.1).map fun l=>Value.string ⟨⟨l⟩⟩,⟨by simp [hsz],.inr ⟨w.heap.size,(g x.1.1).length,((g x.1.1).map fun l=>Value.string ⟨⟨l⟩⟩).toArray,by simp,Nat.zero_le _,?_,by simp,hlen _ hp,by simp [hsz],?_⟩⟩,?_⟩
  ·show (w.heap.push _)[w.heap.size]?=_
   simp
  ·rw [hsz];simp only [Nat.mul_one,List.length_map];exact List.take_of_length_le (by simp)
  ·rw [hflat]
   refine ⟨by simp,fun i f v hf hv=>?_⟩
   rw [List.getElem?_map] at hf hv
   cases hgi:(g x.1.1)[i]? with
   | none=>rw [hgi] at hf;simp at hf
   | some a=>
    rw [hgi] at hf hv
    simp only [Option.map_some,Option.some.injEq] at hf hv
    subst hf hv
    exact .str a)
 refine ⟨D,β',[.tr 0],[(0,.tr τ E ((g x.1.1).map emb))],1,rfl,?_,fun i hi=>absurd hi (by omega),by rw [C7] at b3;exact b3,⟨Nat.zero_lt_one,trivial⟩,by omega⟩
 rw [h3]
 simp [A5,SV.den,b2]
end
end Go.En
