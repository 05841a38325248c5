/- A function's model that the kernel can run: its trees, so many cuts deep (Env.runF); that it is a contract. -/
import Derived.Test.YtikecakpcfpghaaGreatDoorMo
import Derived.Test.YtikecakpcfpghaaGreatDoorMi
import Derived.Test.YtikecakpcfpghaaGreatDoorMj
set_option linter.all false
namespace Go.En
open Go.RowKit
section
variable {S:Aq} {P:Program}
def Env.J6 (E:Env S) (f0 n:Nat) (sp:Spec) (x:sp.D S):Option (E.rs.D S):=(H6 E f0 sp x).eval (DD (E.step f0) n)
def Env.Y6 (E:Env S) (f0 n:Nat) (J:Jump E) (sp:Spec) (x:sp.D S):Option (E.rs.D S):=(H6 E f0 sp x).eval (DD (E.H8 f0 J) n)
theorem Qy {f:Nat} {tb:List (Nat×TI)} {ct:List (By S)} {p:Ai} (f0 n:Nat) (htb:AU S P tb) (hct: ∀ c∈ct,c.Holds P) (h:AG S P f p=true):
  By.Holds P ⟨f,p.bn,p.sp,p.rs,p.flat,.opt ((Aj P f tb ct p).J6 f0 n p.sp)⟩:=by
 obtain ⟨hE,hb,h3,fn,hf,hbody,hn,hres⟩:=FP htb hct h
 simp only [AG,Bool.and_eq_true] at h
 obtain ⟨⟨⟨⟨⟨⟨⟨⟨_,h2⟩,_⟩,_⟩,h5⟩,_⟩,_⟩,_⟩,_⟩:=h
 refine ⟨hb,h3,fun hfl=>?_,fun x y hxy w D β vs o m he hg hon _ hiv=>?_⟩
 ·simp only at hfl;rw [hfl] at h5;simpa using h5
 ·exact Of (out:=.opt ((Aj P f tb ct p).J6 f0 n p.sp)) hE hf hbody hn hres (Nat.le_of_ble_eq_true h2) (DD ((Aj P f tb ct p).step f0)) (fun _ _=>rfl) (fun n k q h x y hy=>by simp only [DD,Env.step_mk] at hy;exact hy) (show _=some y from hxy) he hg hon hiv
theorem Vd {f:Nat} {tb:List (Nat×TI)} {ct:List (By S)} {p:Ai} (f0 n:Nat) (htb:AU S P tb) (hct: ∀ c∈ct,c.Holds P) (h:AG S P f p=true) (J:Jump (Aj P f tb ct p)) (hJ:J.Ok P):
  By.Holds P ⟨f,p.bn,p.sp,p.rs,p.flat,.opt ((Aj P f tb ct p).Y6 f0 n J p.sp)⟩:=by
 obtain ⟨hE,hb,h3,fn,hf,hbody,hn,hres⟩:=FP htb hct h
 simp only [AG,Bool.and_eq_true] at h
 obtain ⟨⟨⟨⟨⟨⟨⟨⟨_,h2⟩,_⟩,_⟩,h5⟩,_⟩,_⟩,_⟩,_⟩:=h
 refine ⟨hb,h3,fun hfl=>?_,fun x y hxy w D β vs o m he hg hon _ hiv=>?_⟩
 ·simp only at hfl;rw [hfl] at h5;simpa using h5
 ·exact Mu (out:=.opt ((Aj P f tb ct p).Y6 f0 n J p.sp)) hE hJ hf hbody hn hres (Nat.le_of_ble_eq_true h2) (show _=some y from hxy) he hg hon hiv
end
end Go.En
namespace Go.En
open Go.RowKit
section
variable {S:Aq} {P:Program}
theorem Yv {α:Type} (T:Nat->α) (z:α) (s:α->α) (h0:T 0=z) (hs: ∀ n,T (n+1)=s (T n)): ∀ n,T n=Nat.rec (motive:=fun _=>α) z (fun _ r=>s r) n
 | 0=>h0
 | n+1=>by rw [hs n,Yv T z s h0 hs n]
theorem T5 {f bn:Nat} {sp rs:Spec} {flat:Bool} {α:Type} {m:Nat->sp.D S->Option (rs.D S)} (h: ∀ N,By.Holds P ⟨f,bn,sp,rs,flat,.opt (m N)⟩) (g:α->sp.D S->Option (rs.D S)) (T:Nat->α) (z:α) (s:α->α) (N:Nat)
  (h0:T 0=z) (hs: ∀ n,T (n+1)=s (T n)) (hm: ∀ N,m N=g (T N)):By.Holds P ⟨f,bn,sp,rs,flat,.opt (g (Nat.rec (motive:=fun _=>α) z (fun _ r=>s r) N))⟩:=by
 have e:=h N
 rw [hm N,Yv T z s h0 hs N] at e
 exact e
theorem hc {l:List (By S)} {c:By S} (h:c.Holds P) (k: ∀ c∈l,c.Holds P): ∀ d∈c::l,d.Holds P:=Ao h k
theorem hn: ∀ d∈([]:List (By S)),d.Holds P:=Br
def kc (f:Nat) (p:Ai) (m:p.sp.D S->Option (p.rs.D S)):By S:=⟨f,p.bn,p.sp,p.rs,p.flat,.opt m⟩
class NN (α:Type) where
 nn:α
instance {α:Type}:NN (Option α):=⟨none⟩
instance:NN Unit:=⟨()⟩
instance {α β:Type} [NN β]:NN (α->β):=⟨fun _=>NN.nn⟩
instance {α β:Type} [NN α] [NN β]:NN (α×β):=⟨(NN.nn,NN.nn)⟩
def C5 {α:Type} [NN α] (s:α->α) (n:Nat):α:=Nat.rec (motive:=fun _=>α) NN.nn (fun _ r=>s r) n
section
variable {f:Nat} {tb:List (Nat×TI)} {p:Ai} {ct:List (By S)}
theorem kh (htb:AU S P tb) (h: ∀ c∈ct,c.Holds P) (ok:AG S P f p=true) {k:p.sp.D S->Option (p.rs.D S)} (e:k=(Aj P f tb ct p).J6 3000 1000000 p.sp):(kc f p k).Holds P:=Sn (Qy 3000 1000000 htb h ok) (by unfold kc;rw [e])
def iT (E:Env S) (n c:Nat) (q:Cut) (h:lk E.Cx c=some q) (x:q.sp.D S):Option E.ρ:=DD (E.step 3000) n c (DH E c q h x)
theorem GB (htb:AU S P tb) (h: ∀ c∈ct,c.Holds P) (ok:AG S P f p=true) {k:p.sp.D S->Option (p.rs.D S)} {α:Type} [NN α] (g:α->p.sp.D S->Option (p.rs.D S)) (T:((c:Nat)->(q:Cut)->lk p.Cx c=some q->q.sp.D S->Option (p.rs.D S))->α) (s:α->α)
  (e:(T (iT (Aj P f tb ct p) 0),(fun n=>T (iT (Aj P f tb ct p) (n+1))),(fun N=>(Aj P f tb ct p).J6 3000 N p.sp),k)=(NN.nn,(fun n=>s (T (iT (Aj P f tb ct p) n))),(fun N=>g (T (iT (Aj P f tb ct p) N))),g (C5 s 1000000))):(kc f p k).Holds P:=by
 have e0:=congrArg Prod.fst e;have e1:=congrArg (fun x=>x.2.1) e;have e2:=congrArg (fun x=>x.2.2.1) e;have e3:=congrArg (fun x=>x.2.2.2) e
 simp only at e0 e1 e2 e3
 have:=T5 (fun N=>Qy 3000 N htb h ok) g (fun n=>T (iT (Aj P f tb ct p) n)) _ s 1000000 e0 (fun n=>congrFun e1 n) (fun N=>congrFun e2 N)
 rw [e3];exact this
def Wc (E:Env S) (J:Jump E) (n c:Nat) (q:Cut) (h:lk E.Cx c=some q) (x:q.sp.D S):Option E.ρ:=DD (E.H8 3000 J) n c (DH E c q h x)
theorem nc (htb:AU S P tb) (h: ∀ c∈ct,c.Holds P) (ok:AG S P f p=true) {k:p.sp.D S->Option (p.rs.D S)} (J:Jump (Aj P f tb ct p)) (hJ:J.Ok P) {α:Type} [NN α] (g:α->p.sp.D S->Option (p.rs.D S)) (T:((c:Nat)->(q:Cut)->lk p.Cx c=some q->q.sp.D S->Option (p.rs.D S))->α) (s:α->α)
  (e:(T (Wc (Aj P f tb ct p) J 0),(fun n=>T (Wc (Aj P f tb ct p) J (n+1))),(fun N=>(Aj P f tb ct p).Y6 3000 N J p.sp),k)=(NN.nn,(fun n=>s (T (Wc (Aj P f tb ct p) J n))),(fun N=>g (T (Wc (Aj P f tb ct p) J N))),g (C5 s 1000000))):(kc f p k).Holds P:=by
 have e0:=congrArg Prod.fst e;have e1:=congrArg (fun x=>x.2.1) e;have e2:=congrArg (fun x=>x.2.2.1) e;have e3:=congrArg (fun x=>x.2.2.2) e
 simp only at e0 e1 e2 e3
 have:=T5 (fun N=>Vd 3000 N htb h ok J hJ) g (fun n=>T (Wc (Aj P f tb ct p) J n)) _ s 1000000 e0 (fun n=>congrFun e1 n) (fun N=>congrFun e2 N)
 rw [e3];exact this
end
end
def ck {α:Type} (b:Bool) (x:Option α):Option α:=if b=true then x else none
def ci {α:Type} (b:Bool) (x y:α):α:=if b=true then x else y
abbrev lK (δ:Type):Type:=Option (Unit×(δ×Unit))
def hU {δ:Type} (x:δ):lK δ:=some ((),(x,()))
def nk {δ τ σ:Type} (x:τ×(δ×σ)):lK δ:=hU x.2.1
abbrev SH (δ ε:Type):Type:=Option (Unit×(δ×ε×Unit))
def hZ {δ ε:Type} (x:δ) (y:ε):SH δ ε:=some ((),(x,y,()))
abbrev HH (α:Type):Type:=Option ((α×Unit)×Unit)
def Ez {α:Type} (a:α):HH α:=some ((a,()),())
def nq {α τ σ:Type} (x:(α×τ)×σ):HH α:=Ez x.1.1
abbrev R1 (α δ:Type):Type:=Option ((α×Unit)×(δ×Unit))
def Cn {α δ:Type} (a:α) (x:δ):R1 α δ:=some ((a,()),(x,()))
def MB {α δ τ σ:Type} (x:(α×τ)×(δ×σ)):R1 α δ:=Cn x.1.1 x.2.1
abbrev R2 (α δ ε:Type):Type:=Option ((α×Unit)×(δ×ε×Unit))
def Ac {α δ ε:Type} (a:α) (x:δ) (y:ε):R2 α δ ε:=some ((a,()),(x,y,()))
def BP {α δ ε τ σ:Type} (x:(α×τ)×(δ×ε×σ)):R2 α δ ε:=Ac x.1.1 x.2.1 x.2.2.1
abbrev gv (α δ ε ζ:Type):Type:=Option ((α×Unit)×(δ×ε×ζ×Unit))
def Yr {α δ ε ζ:Type} (a:α) (x:δ) (y:ε) (z:ζ):gv α δ ε ζ:=some ((a,()),(x,y,z,()))
abbrev MO (α β:Type):Type:=Option ((α×β×Unit)×Unit)
def JE {α β:Type} (a:α) (b:β):MO α β:=some ((a,b,()),())
def MC {α β τ σ:Type} (x:(α×β×τ)×σ):MO α β:=JE x.1.1 x.1.2.1
abbrev WI (α β δ:Type):Type:=Option ((α×β×Unit)×(δ×Unit))
def QK {α β δ:Type} (a:α) (b:β) (x:δ):WI α β δ:=some ((a,b,()),(x,()))
def mI {α β δ τ σ:Type} (x:(α×β×τ)×(δ×σ)):WI α β δ:=QK x.1.1 x.1.2.1 x.2.1
abbrev WS (α β δ ε:Type):Type:=Option ((α×β×Unit)×(δ×ε×Unit))
def Rf {α β δ ε:Type} (a:α) (b:β) (x:δ) (y:ε):WS α β δ ε:=some ((a,b,()),(x,y,()))
abbrev O6 (α β γ:Type):Type:=Option ((α×β×γ×Unit)×Unit)
def Rh {α β γ:Type} (a:α) (b:β) (c:γ):O6 α β γ:=some ((a,b,c,()),())
def nB {α β γ τ σ:Type} (x:(α×β×γ×τ)×σ):O6 α β γ:=Rh x.1.1 x.1.2.1 x.1.2.2.1
abbrev nX (α β γ δ:Type):Type:=Option ((α×β×γ×Unit)×(δ×Unit))
abbrev Y1 (α δ:Type):Type:=(α×Unit)×(δ×Unit)
abbrev Y2 (α δ ε:Type):Type:=(α×Unit)×(δ×ε×Unit)
abbrev lh (α δ ε ζ:Type):Type:=(α×Unit)×(δ×ε×ζ×Unit)
end Go.En
namespace Go.Proofs
open Go Go.En
def kd (f:Nat) (p:Ai) (m:p.sp.D En.Dop.D4->Option (p.rs.D En.Dop.D4)):By En.Dop.D4:=kc f p m
end Go.Proofs
set_option maxRecDepth 100000
set_option maxHeartbeats 4000000
namespace Go.Proofs.Tryz
open Go Go.En
noncomputable section
def LF.k (k0:PS):R1 Int PS:=
 let A1:=List.getD k0.l (I k0.l.length -1).toNat Dop.d4
 let A2:=A1.at_+I A1.text.length
 ci (I k0.l.length=0) (Cn 0 k0)<|
 ck (BD (I k0.l.length -1))<|
 ck (0<=I k0.l.length -1/\I k0.l.length -1<I k0.l.length)<|
 ck (BD A2)<|
 Cn A2 k0
def LF.Kc:=kd 61 LF.p fun x=>LF.k x.2.1
theorem LF.Kh:LF.Kc.Holds prog:=kh AH hn LF.ok (by kernel_rfl)
def Ei.k (k0:PS):R1 Dop.Tok PS:=
 ci (!(k0.e=0)) ((LF.k k0).bind fun y3=>
 Cn (Dop.Tok.mk 0 [] 0 y3.1.1) y3.2.1)<|
 ci (I k0.l.length<=k0.at_) ((LF.k k0).bind fun y4=>
 Cn (Dop.Tok.mk 0 [] 0 y4.1.1) y4.2.1)<|
 ck (0<=k0.at_/\k0.at_<I k0.l.length)<|
 Cn (List.getD k0.l k0.at_.toNat Dop.d4) k0
def Ei.Kc:=kd 28 Ei.p fun x=>Ei.k x.2.1
theorem Ei.Kh:Ei.Kc.Holds prog:=kh AH (hc LF.Kh hn) Ei.ok (by kernel_rfl)
def Fb.k (kind at_:Int):HH Dop.AZ:=
 Ez (Dop.AZ.mk kind (-1) (-1) (-1) (-1) [] 0 0 at_)
def Fb.Kc:=kd 62 Fb.p fun x=>Fb.k x.1.1 x.1.2.1
theorem Fb.Kh:Fb.Kc.Holds prog:=kh AH hn Fb.ok (by kernel_rfl)
def NR.k (s:List UInt8) (k0:PS):R1 Bool PS:=
 (Ei.k k0).bind fun y2=>
 ci (y2.1.1.kind=4) (Cn (decide (y2.1.1.text=s)) y2.2.1)<|
 ci (y2.1.1.kind=2) (Cn (decide (y2.1.1.text=s)) y2.2.1)<|
 Cn false y2.2.1
def NR.Kc:=kd 63 NR.p fun x=>NR.k x.1.2.1 x.2.1
theorem NR.Kh:NR.Kc.Holds prog:=kh AH (hc Ei.Kh hn) NR.ok (by kernel_rfl)
def Ex.k (s:List UInt8) (k0:PS):R1 Bool PS:=
 (NR.k s k0).bind fun y2=>
 ci (!y2.1.1) (Cn false y2.2.1)<|
 ck (BD (PS.at_ y2.2.1+1))<|
 Cn true (PS.Uy y2.2.1 (PS.at_ y2.2.1+1))
def Ex.Kc:=kd 66 Ex.p fun x=>Ex.k x.1.2.1 x.2.1
theorem Ex.Kh:Ex.Kc.Holds prog:=kh AH (hc NR.Kh hn) Ex.ok (by kernel_rfl)
def Ce.k (e:Int) (k0:PS):lK PS:=
 ci (k0.e=0) ((Ei.k k0).bind fun y3=>
 hU (PS.FX (PS.Y8 y3.2.1 e) y3.1.1.at_))<|
 hU k0
def Ce.Kc:=kd 100 Ce.p fun x=>Ce.k x.1.2.1 x.2.1
theorem Ce.Kh:Ce.Kc.Holds prog:=kh AH (hc Ei.Kh hn) Ce.ok (by kernel_rfl)
def GC.k (s:List UInt8) (k0:PS):lK PS:=
 (Ex.k s k0).bind fun y2=>
 ci (!y2.1.1) ((Ce.k 5 y2.2.1).bind nk)<|
 hU y2.2.1
def GC.Kc:=kd 64 GC.p fun x=>GC.k x.1.2.1 x.2.1
theorem GC.Kh:GC.Kc.Holds prog:=kh AH (hc Ex.Kh (hc Ce.Kh hn)) GC.ok (by kernel_rfl)
def MA.k (k:Int) (k0:PS):R1 Dop.Tok PS:=
 (Ei.k k0).bind fun y2=>
 ci (!(y2.1.1.kind=k)) ((Ce.k 5 y2.2.1).bind fun y4=>
 Cn (Dop.Tok.mk 0 [] 0 y2.1.1.at_) y4.2.1)<|
 ci (!(PS.e y2.2.1=0)) ((Ce.k 5 y2.2.1).bind fun y5=>
 Cn (Dop.Tok.mk 0 [] 0 y2.1.1.at_) y5.2.1)<|
 ck (BD (PS.at_ y2.2.1+1))<|
 Cn y2.1.1 (PS.Uy y2.2.1 (PS.at_ y2.2.1+1))
def MA.Kc:=kd 65 MA.p fun x=>MA.k x.1.2.1 x.2.1
theorem MA.Kh:MA.Kc.Holds prog:=kh AH (hc Ei.Kh (hc Ce.Kh hn)) MA.ok (by kernel_rfl)
abbrev Pq.T:Type:=List Dop.HC->Int->Int->Dop.HC->HH Int
abbrev Du.KT:Type:=Pq.T×Unit
def Pq.kB (tK:Du.KT):Pq.T:=fun s t7 t8 b0=>
 let A1:=List.getD s t8.toNat Dop.d6
 ci (t8<t7) (ck (0<=t8/\t8<I s.length)<|
 ci (OG (List.take 4 (List.drop 0 (SV.v (Value.int IntKind.i64 b0.kind)::SV.v (Value.int IntKind.i64 b0.elem)::SV.v (Value.int IntKind.i64 b0.n)::SV.v (Value.string (ByteArray.mk (Array.mk b0.name)))::[]++[]))) (List.take 4 (List.drop 0 (SV.v (Value.int IntKind.i64 A1.kind)::SV.v (Value.int IntKind.i64 A1.elem)::SV.v (Value.int IntKind.i64 A1.n)::SV.v (Value.string (ByteArray.mk (Array.mk A1.name)))::[])))) (Ez t8)<|
 ck (BD (t8+1))<|
 tK.1 s t7 (t8+1) b0)<|
 Ez (-1)
def Du.kS (tK:Du.KT):Du.KT:=(Pq.kB tK,())
def Du.kL (n:Nat):Du.KT:=C5 Du.kS n
def Du.k0 (tK:Du.KT) (s:List Dop.HC) (v:Dop.HC):HH Int:=
 tK.1 s (I s.length) 0 v
def Du.k (s:List Dop.HC) (v:Dop.HC):HH Int:=Du.k0 (Du.kL 1000000) s v
def Du.Kc:=kd 126 Du.p fun x=>Du.k x.1.1 x.1.2.1
theorem Du.Kh:Du.Kc.Holds prog:=GB AH hn Du.ok (fun t x=>Du.k0 t x.1.1 x.1.2.1) (fun c=>(fun s t7 t8 b0=>c 2 Du.q2 rfl ((s,(),t7,t8,()),((b0,()),())),())) Du.kS (by kernel_rfl)
def Jr.k (x:Dop.HC) (k0:PS):R1 Int PS:=
 (Du.k k0.types x).bind fun y2=>
 ci (0<=y2.1.1) (Cn y2.1.1 k0)<|
 ci (I k0.types.length=256) ((Ce.k 4 k0).bind fun y5=>
 Cn 0 y5.2.1)<|
 ck (DK none (room 40 (k0.types.length+(x::[]).length)))<|
 ck (BD (I (k0.types++x::[]).length -1))<|
 Cn (I (k0.types++x::[]).length -1) (PS.U1 k0 (k0.types++x::[]))
def Jr.Kc:=kd 102 Jr.p fun x=>Jr.k x.1.2.1 x.2.1
theorem Jr.Kh:Jr.Kc.Holds prog:=kh AH (hc Du.Kh (hc Ce.Kh hn)) Jr.ok (by kernel_rfl)
abbrev Lp.T:Type:=Int->PS->R1 Int PS
abbrev DN.KT:Type:=Lp.T×Unit
def Lp.kB (tK:DN.KT):Lp.T:=fun t k0=>
 (Ex.k ([42]:List UInt8) k0).bind fun y2=>
 ci y2.1.1 ((Jr.k (Dop.HC.mk 4 t 0 []) y2.2.1).bind fun y4=>
 tK.1 y4.1.1 y4.2.1)<|
 Cn t y2.2.1
def DN.kS (tK:DN.KT):DN.KT:=(Lp.kB tK,())
def DN.kL (n:Nat):DN.KT:=C5 DN.kS n
def DN.k0 (tK:DN.KT) (k0:PS):R1 Int PS:=
 (Ex.k ([118,111,105,100]:List UInt8) k0).bind fun y2=>
 ci y2.1.1 (tK.1 0 y2.2.1)<|
 (Ex.k ([105,110,116]:List UInt8) y2.2.1).bind fun y4=>
 ci y4.1.1 (tK.1 1 y4.2.1)<|
 (Ex.k ([117,110,115,105,103,110,101,100]:List UInt8) y4.2.1).bind fun y6=>
 ci y6.1.1 (tK.1 2 y6.2.1)<|
 (Ex.k ([99,104,97,114]:List UInt8) y6.2.1).bind fun y8=>
 ci y8.1.1 (tK.1 3 y8.2.1)<|
 (GC.k ([115,116,114,117,99,116]:List UInt8) y8.2.1).bind fun y10=>
 (MA.k 1 y10.2.1).bind fun y11=>
 (Jr.k (Dop.HC.mk 6 0 0 y11.1.1.text) y11.2.1).bind fun y12=>
 tK.1 y12.1.1 y12.2.1
def DN.k (k0:PS):R1 Int PS:=DN.k0 (DN.kL 1000000) k0
def DN.Kc:=kd 101 DN.p fun x=>DN.k x.2.1
theorem DN.Kh:DN.Kc.Holds prog:=GB AH (hc Ex.Kh (hc GC.Kh (hc MA.Kh (hc Jr.Kh hn)))) DN.ok (fun t x=>DN.k0 t x.2.1) (fun c=>(fun t k0=>c 11 DN.cR rfl (((),t,()),(k0,())),())) DN.kS (by kernel_rfl)
def YJ.k (k0:PS):R1 Dop.AZ PS:=
 (Ei.k k0).bind fun y2=>
 (Fb.k 51 y2.1.1.at_).bind fun y3=>
 (DN.k y2.2.1).bind fun y4=>
 (MA.k 1 y4.2.1).bind fun y5=>
 Cn (Dop.AZ.mk y3.1.1.kind y3.1.1.a y3.1.1.b y3.1.1.c y3.1.1.d y5.1.1.text y3.1.1.n y4.1.1 y3.1.1.at_) y5.2.1
def YJ.Kc:=kd 67 YJ.p fun x=>YJ.k x.2.1
theorem YJ.Kh:YJ.Kc.Holds prog:=kh AH (hc Ei.Kh (hc Fb.Kh (hc DN.Kh (hc MA.Kh hn)))) YJ.ok (by kernel_rfl)
def TL.k (t:Int) (k0:PS):R1 Int PS:=
 (Ex.k ([91]:List UInt8) k0).bind fun y2=>
 ci (!y2.1.1) (Cn t y2.2.1)<|
 (MA.k 3 y2.2.1).bind fun y4=>
 (GC.k ([93]:List UInt8) y4.2.1).bind fun y5=>
 (Jr.k (Dop.HC.mk 5 t y4.1.1.n []) y5.2.1).bind MB
def TL.Kc:=kd 68 TL.p fun x=>TL.k x.1.2.1 x.2.1
theorem TL.Kh:TL.Kc.Holds prog:=kh AH (hc Ex.Kh (hc MA.Kh (hc GC.Kh (hc Jr.Kh hn)))) TL.ok (by kernel_rfl)
def EJ.k (n:Dop.AZ) (k0:PS):R1 Int PS:=
 ci (I k0.nodes.length=8192) ((Ce.k 4 k0).bind fun y3=>
 ci (!(PS.e y3.2.1=0)) (Cn (-1) y3.2.1)<|
 ck (DK none (room 80 ((PS.nodes y3.2.1).length+(n::[]).length)))<|
 ck (BD (I (PS.nodes y3.2.1++n::[]).length -1))<|
 Cn (I (PS.nodes y3.2.1++n::[]).length -1) (PS.FA y3.2.1 (PS.nodes y3.2.1++n::[])))<|
 ci (!(k0.e=0)) (Cn (-1) k0)<|
 ck (DK none (room 80 (k0.nodes.length+(n::[]).length)))<|
 ck (BD (I (k0.nodes++n::[]).length -1))<|
 Cn (I (k0.nodes++n::[]).length -1) (PS.FA k0 (k0.nodes++n::[]))
def EJ.Kc:=kd 69 EJ.p fun x=>EJ.k x.1.2.1 x.2.1
theorem EJ.Kh:EJ.Kc.Holds prog:=kh AH (hc Ce.Kh hn) EJ.ok (by kernel_rfl)
def HL.k (n:Int) (k0:PS):R1 Int PS:=
 ci (n<0) (Cn 0 k0)<|
 ck (0<=n/\n<I k0.nodes.length)<|
 ck (n.toNat<k0.nodes.length)<|
 Cn ((List.getD k0.nodes n.toNat Dop.d5).at_) k0
def NA.k (t:Dop.HA) (n:Int):HH Dop.AZ:=
 let A1:=Ez (Dop.AZ.mk 0 0 0 0 0 [] 0 0 0)
 ci (n<0) A1<|
 ci (I t.nodes.length<=n) A1<|
 ck (0<=n/\n<I t.nodes.length)<|
 Ez (List.getD t.nodes n.toNat Dop.d5)
def NA.Kc:=kd 31 NA.p fun x=>NA.k x.1.1 x.1.2.1
theorem NA.Kh:NA.Kc.Holds prog:=kh AH hn NA.ok (by kernel_rfl)
abbrev UX.T:Type:=Int->List Int->Int->Int->Dop.HA->HH (List Int)
abbrev Gf.KT:Type:=UX.T×Unit
def UX.kB (tK:Gf.KT):UX.T:=fun n out t9 t10 b0=>
 ci (t10<t9) ((NA.k b0 n).bind fun y3=>
 ci (!(y3.1.1.kind=20)) (Ez out)<|
 ck (DK none (room 8 (out.length+(y3.1.1.a::[]).length)))<|
 ck (BD (t10+1))<|
 tK.1 y3.1.1.b (out++y3.1.1.a::[]) t9 (t10+1) b0)<|
 Ez out
def Gf.kS (tK:Gf.KT):Gf.KT:=(UX.kB tK,())
def Gf.kL (n:Nat):Gf.KT:=C5 Gf.kS n
def Gf.k0 (tK:Gf.KT) (t:Dop.HA) (n:Int):HH (List Int):=
 tK.1 n [] (I t.nodes.length) 0 t
def Gf.k (t:Dop.HA) (n:Int):HH (List Int):=Gf.k0 (Gf.kL 1000000) t n
def Gf.Kc:=kd 16 Gf.p fun x=>Gf.k x.1.1 x.1.2.1
theorem Gf.Kh:Gf.Kc.Holds prog:=GB AH (hc NA.Kh hn) Gf.ok (fun t x=>Gf.k0 t x.1.1 x.1.2.1) (fun c=>(fun n out t9 t10 b0=>c 3 Gf.q3 rfl ((n,(),out,t9,t10,()),((b0,()),())),())) Gf.kS (by kernel_rfl)
def NH.k (k0:PS):R1 Bool PS:=
 (NR.k ([105,110,116]:List UInt8) k0).bind fun y2=>
 ci y2.1.1 (Cn true y2.2.1)<|
 (NR.k ([117,110,115,105,103,110,101,100]:List UInt8) y2.2.1).bind fun y4=>
 ci y4.1.1 (Cn true y4.2.1)<|
 (NR.k ([99,104,97,114]:List UInt8) y4.2.1).bind fun y6=>
 ci y6.1.1 (Cn true y6.2.1)<|
 (NR.k ([118,111,105,100]:List UInt8) y6.2.1).bind fun y8=>
 ci y8.1.1 (Cn true y8.2.1)<|
 (NR.k ([115,116,114,117,99,116]:List UInt8) y8.2.1).bind MB
def NH.Kc:=kd 157 NH.p fun x=>NH.k x.2.1
theorem NH.Kh:NH.Kc.Holds prog:=kh AH (hc NR.Kh hn) NH.ok (by kernel_rfl)
abbrev UU.T:Type:=List UInt8->Int->MO Int Bool
abbrev KK.KT:Type:=UU.T×Unit
def UU.kB (tK:KK.KT):UU.T:=fun s at_=>
 let A1:=List.drop at_.toNat (List.take (I s.length).toNat s)
 let A3:=at_+Lib.indexByte A1 (Int.toNat 10).toUInt8
 let A2:=List.drop (Int.toNat 2) (List.take (I A1.length).toNat A1)
 ci (at_<I s.length) (ck (0<=at_/\at_<=I s.length/\I s.length<=I s.length)<|
 ck (0<=at_/\at_<I s.length)<|
 ck true<|
 ci (0<=Lib.indexByte ([32,9,10,13]:List UInt8) (E0 s at_).toNat.toUInt8) (ck (BD (at_+1))<|
 tK.1 s (at_+1))<|
 ck true<|
 ci (Lib.hasPrefix A1 ([47,47]:List UInt8)) (ck true<|
 ci (Lib.indexByte A1 (Int.toNat 10).toUInt8<0) (JE (I s.length) true)<|
 ck (BD A3)<|
 tK.1 s A3)<|
 ck true<|
 ci (Lib.hasPrefix A1 ([47,42]:List UInt8)) (ck ((0:Int)<=2/\2<=I A1.length/\I A1.length<=I A1.length)<|
 ck (Vs A2)<|
 ci (Lib.index A2 ([42,47]:List UInt8)<0) (JE at_ false)<|
 ck (BD (Lib.index A2 ([42,47]:List UInt8)+4))<|
 ck (BD (at_+(Lib.index A2 ([42,47]:List UInt8)+4)))<|
 tK.1 s (at_+(Lib.index A2 ([42,47]:List UInt8)+4)))<|
 JE at_ true)<|
 JE at_ true
def KK.kS (tK:KK.KT):KK.KT:=(UU.kB tK,())
def KK.kL (n:Nat):KK.KT:=C5 KK.kS n
def KK.k0 (tK:KK.KT) (s:List UInt8):MO Int Bool:=
 tK.1 s 0
def KK.k (s:List UInt8):MO Int Bool:=KK.k0 (KK.kL 1000000) s
def KK.Kc:=kd 26 KK.p fun x=>KK.k x.1.1
theorem KK.Kh:KK.Kc.Holds prog:=GB AH (hc indexByte.holds (hc hasPrefix.holds (hc index.holds hn))) KK.ok (fun t x=>KK.k0 t x.1.1) (fun c=>(fun s at_=>c 2 KK.q2 rfl ((s,at_,()),()),())) KK.kS (by kernel_rfl)
def Vp.k (c:Int):HH Bool:=
 let z1:HH Bool:=
 ci (65<=c) (ci (c<=90) (Ez true)<|
 Ez (decide (c=95)))<|
 Ez (decide (c=95))
 ci (97<=c) (ci (c<=122) (Ez true)<|
 z1)<|
 z1
def Vp.Kc:=kd 54 Vp.p fun x=>Vp.k x.1.1
theorem Vp.Kh:Vp.Kc.Holds prog:=kh AH hn Vp.ok (by kernel_rfl)
def Vq.k (c:Int):HH Bool:=
 ci (48<=c) (Ez (decide (c<=57)))<|
 Ez false
def Vq.Kc:=kd 57 Vq.p fun x=>Vq.k x.1.1
theorem Vq.Kh:Vq.Kc.Holds prog:=kh AH hn Vq.ok (by kernel_rfl)
abbrev UZ.T:Type:=List UInt8->Int->HH Int
abbrev Jz.KT:Type:=UZ.T×Unit
def UZ.kB (tK:Jz.KT):UZ.T:=fun s n=>
 ci (n<I s.length) (ck (0<=n/\n<I s.length)<|
 (Vp.k (E0 s n)).bind fun y3=>
 ci y3.1.1 (ck (BD (n+1))<|
 tK.1 s (n+1))<|
 ck (0<=n/\n<I s.length)<|
 (Vq.k (E0 s n)).bind fun y5=>
 ci y5.1.1 (ck (BD (n+1))<|
 tK.1 s (n+1))<|
 Ez n)<|
 Ez n
def Jz.kS (tK:Jz.KT):Jz.KT:=(UZ.kB tK,())
def Jz.kL (n:Nat):Jz.KT:=C5 Jz.kS n
def Jz.k0 (tK:Jz.KT) (s:List UInt8):HH Int:=
 tK.1 s 0
def Jz.k (s:List UInt8):HH Int:=Jz.k0 (Jz.kL 1000000) s
def Jz.Kc:=kd 55 Jz.p fun x=>Jz.k x.1.1
theorem Jz.Kh:Jz.Kc.Holds prog:=GB AH (hc Vp.Kh (hc Vq.Kh hn)) Jz.ok (fun t x=>Jz.k0 t x.1.1) (fun c=>(fun s n=>c 2 Jz.q2 rfl ((s,n,()),()),())) Jz.kS (by kernel_rfl)
def YI.k (w:List UInt8):HH Bool:=
 ci (!(w=[])) (ck (Vs w)<|
 ci (!Lib.contains w ([32]:List UInt8)) (ck (([32]:List UInt8).length+w.length<=9223372036854775807)<|
 ck (((32:UInt8)::[]++w).length+([32]:List UInt8).length<=9223372036854775807)<|
 ck (Vs (([32,98,114,101,97,107,32,99,97,115,101,32,99,104,97,114,32,99,111,110,116,105,110,117,101,32,100,101,102,97,117,108,116,32,100,111,32,101,108,115,101,32,102,111,114,32,103,101,116,99,32,103,111,116,111,32,105,102]:List UInt8).append ([32,105,110,116,32,112,117,116,99,32,114,101,116,117,114,110,32,115,105,122,101,111,102,32,115,116,114,117,99,116,32,115,119,105,116,99,104,32,117,110,115,105,103,110,101,100,32,118,111,105,100,32,119,104,105,108,101,32]:List UInt8)))<|
 Ez (Lib.contains (([32,98,114,101,97,107,32,99,97,115,101,32,99,104,97,114,32,99,111,110,116,105,110,117,101,32,100,101,102,97,117,108,116,32,100,111,32,101,108,115,101,32,102,111,114,32,103,101,116,99,32,103,111,116,111,32,105,102]:List UInt8).append ([32,105,110,116,32,112,117,116,99,32,114,101,116,117,114,110,32,115,105,122,101,111,102,32,115,116,114,117,99,116,32,115,119,105,116,99,104,32,117,110,115,105,103,110,101,100,32,118,111,105,100,32,119,104,105,108,101,32]:List UInt8)) ((32:UInt8)::[]++w++(32:UInt8)::[])))<|
 Ez false)<|
 Ez false
def YI.Kc:=kd 56 YI.p fun x=>YI.k x.1.1
theorem YI.Kh:YI.Kc.Holds prog:=kh AH (hc contains.holds hn) YI.ok (by kernel_rfl)
def TJ.k (kind n size:Int) (b0:List UInt8):WI Dop.Tok Int (List UInt8×Unit):=
 ck ((0:Int)<=0/\0<=size/\size<=I b0.length)<|
 QK (Dop.Tok.mk kind (List.drop (Int.toNat 0) (List.take size.toNat b0)) n 0) 0 (b0,())
def TJ.Kc:=kd 53 TJ.p fun x=>TJ.k x.1.1 x.1.2.1 x.1.2.2.1 x.2.1.1
theorem TJ.Kh:TJ.Kc.Holds prog:=kh AH hn TJ.ok (by kernel_rfl)
abbrev Ua.T:Type:=List UInt8->Int->Int->Int->Int->MO Int Bool
abbrev KM.KT:Type:=Ua.T×Unit
def Ua.kB (tK:KM.KT):Ua.T:=fun s base n t34 t35=>
 let A1:=Lib.toLowerA (List.drop t35.toNat (List.take (t35+1).toNat s))
 ci (t35<t34) (ck (BD (t35+1))<|
 ck (0<=t35/\t35<=t35+1/\t35+1<=I s.length)<|
 ck (cI (List.drop t35.toNat (List.take (t35+1).toNat s)))<|
 ck ((0:Int)<=0/\0<I A1.length)<|
 ck true<|
 ci (Lib.indexByte ([48,49,50,51,52,53,54,55,56,57,97,98,99,100,101,102]:List UInt8) (E0 A1 0).toNat.toUInt8<0) (JE 0 false)<|
 ci (base<=Lib.indexByte ([48,49,50,51,52,53,54,55,56,57,97,98,99,100,101,102]:List UInt8) (E0 A1 0).toNat.toUInt8) (JE 0 false)<|
 ck (BD (n*base))<|
 ck (BD (n*base+Lib.indexByte ([48,49,50,51,52,53,54,55,56,57,97,98,99,100,101,102]:List UInt8) (E0 A1 0).toNat.toUInt8))<|
 ci (4294967295<n*base+Lib.indexByte ([48,49,50,51,52,53,54,55,56,57,97,98,99,100,101,102]:List UInt8) (E0 A1 0).toNat.toUInt8) (JE 0 false)<|
 ck (BD (t35+1))<|
 tK.1 s base (n*base+Lib.indexByte ([48,49,50,51,52,53,54,55,56,57,97,98,99,100,101,102]:List UInt8) (E0 A1 0).toNat.toUInt8) t34 (t35+1))<|
 JE n (!decide (s=[]))
def KM.kS (tK:KM.KT):KM.KT:=(Ua.kB tK,())
def KM.kL (n:Nat):KM.KT:=C5 KM.kS n
def KM.k0 (tK:KM.KT) (s:List UInt8):MO Int Bool:=
 let A3:=List.drop (Int.toNat 2) (List.take (I s.length).toNat s)
 let A1:=List.drop (Int.toNat 0) (List.take (I s.length -1).toNat s)
 let A2:=List.drop (Int.toNat 2) (List.take (I A1.length).toNat A1)
 let z1:MO Int Bool:=
 let z3:MO Int Bool:=
 ck ((0:Int)<=2/\2<=I A1.length/\I A1.length<=I A1.length)<|
 tK.1 A2 16 0 (I A2.length) 0
 ck ((0:Int)<=0/\0<=I s.length -1/\I s.length -1<=I s.length)<|
 ck true<|
 ci (Lib.hasPrefix A1 ([48,120]:List UInt8)) (z3)<|
 ck true<|
 ci (Lib.hasPrefix A1 ([48,88]:List UInt8)) (z3)<|
 tK.1 A1 10 0 (I A1.length) 0
 let z2:MO Int Bool:=
 ck ((0:Int)<=2/\2<=I s.length/\I s.length<=I s.length)<|
 tK.1 A3 16 0 (I A3.length) 0
 ck (BD (I s.length -1))<|
 ck (0<=I s.length -1/\I s.length -1<I s.length)<|
 ci (E0 s (I s.length -1)=117) (z1)<|
 ck (0<=I s.length -1/\I s.length -1<I s.length)<|
 ci (E0 s (I s.length -1)=85) (z1)<|
 ck true<|
 ci (Lib.hasPrefix s ([48,120]:List UInt8)) (z2)<|
 ck true<|
 ci (Lib.hasPrefix s ([48,88]:List UInt8)) (z2)<|
 tK.1 s 10 0 (I s.length) 0
def KM.k (s:List UInt8):MO Int Bool:=KM.k0 (KM.kL 1000000) s
def KM.Kc:=kd 58 KM.p fun x=>KM.k x.1.1
theorem KM.Kh:KM.Kc.Holds prog:=GB AH (hc hasPrefix.holds (hc lower.holds (hc indexByte.holds hn))) KM.ok (fun t x=>KM.k0 t x.1.1) (fun c=>(fun s base n t34 t35=>c 9 KM.q9 rfl ((s,base,n,t34,t35,()),()),())) KM.kS (by kernel_rfl)
def TK.KE:Env Dop.D4:=Aj prog 59 tb [] TK.p
def TK.k (s:List UInt8):MO Int Int:=TK.KE.J6 3000 1000000 TK.p.sp ((s,()),())
def TK.Kc:=kd 59 TK.p fun x=>TK.k x.1.1
theorem TK.Kh:TK.Kc.Holds prog:=kh AH hn TK.ok (by kernel_rfl)
def NB.k :HH (List (List UInt8)):=
 ck (cI (([60,60,61,32,62,62,61,32,43,43,32,45,45,32,45,62,32,43,61,32,45,61,32,42,61,32,47,61,32,37,61,32,38,61,32,124,61,32,94,61,32,60,60,32,62,62,32,60,61,32,62,61,32,61,61,32]:List UInt8).append ([33,61,32,38,38,32,124,124,32,43,32,45,32,42,32,47,32,37,32,38,32,124,32,94,32,126,32,33,32,60,32,62,32,61,32,63,32,58,32,59,32,44,32,46,32,40,32,41,32,91,32,93,32,123,32,125]:List UInt8)) && ((Lib.fields (([60,60,61,32,62,62,61,32,43,43,32,45,45,32,45,62,32,43,61,32,45,61,32,42,61,32,47,61,32,37,61,32,38,61,32,124,61,32,94,61,32,60,60,32,62,62,32,60,61,32,62,61,32,61,61,32]:List UInt8).append ([33,61,32,38,38,32,124,124,32,43,32,45,32,42,32,47,32,37,32,38,32,124,32,94,32,126,32,33,32,60,32,62,32,61,32,63,32,58,32,59,32,44,32,46,32,40,32,41,32,91,32,93,32,123,32,125]:List UInt8))).length<=maxLen))<|
 Ez (List.map (fun (a:List UInt8)=>a) (Lib.fields (([60,60,61,32,62,62,61,32,43,43,32,45,45,32,45,62,32,43,61,32,45,61,32,42,61,32,47,61,32,37,61,32,38,61,32,124,61,32,94,61,32,60,60,32,62,62,32,60,61,32,62,61,32,61,61,32]:List UInt8).append ([33,61,32,38,38,32,124,124,32,43,32,45,32,42,32,47,32,37,32,38,32,124,32,94,32,126,32,33,32,60,32,62,32,61,32,63,32,58,32,59,32,44,32,46,32,40,32,41,32,91,32,93,32,123,32,125]:List UInt8))))
def NB.Kc:=kd 99 NB.p fun x=>NB.k
theorem NB.Kh:NB.Kc.Holds prog:=kh AH (hc fields.holds hn) NB.ok (by kernel_rfl)
abbrev Ub.T:Type:=List UInt8->(List (List UInt8))->Int->Int->HH (List UInt8)
abbrev KN.KT:Type:=Ub.T×Unit
def Ub.kB (tK:KN.KT):Ub.T:=fun s t5 t6 t7=>
 let A1:=List.getD t5 t7.toNat []
 ci (t7<t6) (ck (0<=t7/\t7<I t5.length)<|
 ck (t7.toNat<t5.length)<|
 ck true<|
 ci (Lib.hasPrefix s A1) (Ez A1)<|
 ck (BD (t7+1))<|
 tK.1 s t5 t6 (t7+1))<|
 Ez []
def KN.kS (tK:KN.KT):KN.KT:=(Ub.kB tK,())
def KN.kL (n:Nat):KN.KT:=C5 KN.kS n
def KN.k0 (tK:KN.KT) (s:List UInt8):HH (List UInt8):=
 (NB.k).bind fun y2=>
 tK.1 s y2.1.1 (I y2.1.1.length) 0
def KN.k (s:List UInt8):HH (List UInt8):=KN.k0 (KN.kL 1000000) s
def KN.Kc:=kd 60 KN.p fun x=>KN.k x.1.1
theorem KN.Kh:KN.Kc.Holds prog:=GB AH (hc NB.Kh (hc hasPrefix.holds hn)) KN.ok (fun t x=>KN.k0 t x.1.1) (fun c=>(fun s t5 t6 t7=>c 2 KN.q2 rfl ((s,t5,t6,t7,()),()),())) KN.kS (by kernel_rfl)
def YG.k (o:List UInt8):MO Dop.Tok Int:=
 ck ((0:Int)<=0/\0<I o.length)<|
 (Vp.k (E0 o 0)).bind fun y2=>
 ci y2.1.1 ((Jz.k o).bind fun y4=>
 ck ((0:Int)<=0/\0<=y4.1.1/\y4.1.1<=I o.length)<|
 (YI.k (List.drop (Int.toNat 0) (List.take y4.1.1.toNat o))).bind fun y5=>
 ci y5.1.1 ((TJ.k 2 0 y4.1.1 o).bind MC)<|
 (TJ.k 1 0 y4.1.1 o).bind MC)<|
 ck ((0:Int)<=0/\0<I o.length)<|
 (Vq.k (E0 o 0)).bind fun y4=>
 ci y4.1.1 ((Jz.k o).bind fun y6=>
 ck ((0:Int)<=0/\0<=y6.1.1/\y6.1.1<=I o.length)<|
 (KM.k (List.drop (Int.toNat 0) (List.take y6.1.1.toNat o))).bind fun y7=>
 ci (!y7.1.2.1) (JE (Dop.Tok.mk 0 [] 0 0) 3)<|
 (TJ.k 3 y7.1.1 y6.1.1 o).bind MC)<|
 ck ((0:Int)<=0/\0<I o.length)<|
 ci (E0 o (0:Int)=39) ((TK.k o).bind fun y7=>
 ci (0<y7.1.2.1) ((TJ.k 3 y7.1.1 y7.1.2.1 o).bind MC)<|
 JE (Dop.Tok.mk 0 [] 0 0) 2)<|
 (KN.k o).bind fun y7=>
 ci (!(y7.1.1=[])) ((TJ.k 4 0 (I y7.1.1.length) o).bind MC)<|
 JE (Dop.Tok.mk 0 [] 0 0) 2
def YG.Kc:=kd 27 YG.p fun x=>YG.k x.1.1
theorem YG.Kh:YG.Kc.Holds prog:=kh AH (hc Vp.Kh (hc Jz.Kh (hc YI.Kh (hc TJ.Kh (hc Vq.Kh (hc KM.Kh (hc TK.Kh (hc KN.Kh hn)))))))) YG.ok (by kernel_rfl)
abbrev UP.T:Type:=List UInt8->List Dop.Tok->Int->O6 (List Dop.Tok) Int Int
abbrev m19.KT:Type:=UP.T×Unit
def UP.kB (tK:m19.KT):UP.T:=fun s out at_=>
 let A1:=List.take (I s.length).toNat s
 ck (0<=at_/\at_<=I s.length/\I s.length<=I s.length)<|
 (KK.k (List.drop at_.toNat A1)).bind fun y2=>
 ck (BD (at_+y2.1.1))<|
 ci (!y2.1.2.1) (Rh [] (at_+y2.1.1) 2)<|
 ci (at_+y2.1.1=I s.length) (ck (DK none (room 40 (out.length+(Dop.Tok.mk 0 [] 0 (at_+y2.1.1)::[]).length)))<|
 Rh (out++Dop.Tok.mk 0 [] 0 (at_+y2.1.1)::[]) 0 0)<|
 ck (0<=at_+y2.1.1/\at_+y2.1.1<=I s.length/\I s.length<=I s.length)<|
 (YG.k (List.drop (at_+y2.1.1).toNat A1)).bind fun y5=>
 ci (!(y5.1.2.1=0)) (Rh [] (at_+y2.1.1) y5.1.2.1)<|
 ci (I out.length=8192) (Rh [] (at_+y2.1.1) 4)<|
 ck (DK none (room 40 (out.length+(Dop.Tok.mk y5.1.1.kind y5.1.1.text y5.1.1.n (at_+y2.1.1)::[]).length)))<|
 ck (BD (at_+y2.1.1+I y5.1.1.text.length))<|
 tK.1 s (out++Dop.Tok.mk y5.1.1.kind y5.1.1.text y5.1.1.n (at_+y2.1.1)::[]) (at_+y2.1.1+I y5.1.1.text.length)
def m19.kS (tK:m19.KT):m19.KT:=(UP.kB tK,())
def m19.kL (n:Nat):m19.KT:=C5 m19.kS n
def m19.k0 (tK:m19.KT) (s:List UInt8):O6 (List Dop.Tok) Int Int:=
 ci (32768<I s.length) (Rh [] 0 4)<|
 tK.1 s [] 0
def m19.k (s:List UInt8):O6 (List Dop.Tok) Int Int:=m19.k0 (m19.kL 1000000) s
def m19.Kc:=kd 13 m19.p fun x=>m19.k x.1.1
theorem m19.Kh:m19.Kc.Holds prog:=GB AH (hc KK.Kh (hc YG.Kh hn)) m19.ok (fun t x=>m19.k0 t x.1.1) (fun c=>(fun s out at_=>c 5 m19.q5 rfl ((s,out,at_,()),()),())) m19.kS (by kernel_rfl)
def NQ.k (b0_0:List Dop.Tok) (b0_1 b0_4 b0_5 b0_6 b0_7:Int):R1 Int (List Dop.Tok×Int×Unit×Unit×Int×Int×Int×Int×Unit):=
 let A1:=List.getD b0_0 (I b0_0.length -1).toNat Dop.d4
 let A2:=A1.at_+I A1.text.length
 ci (I b0_0.length=0) (Cn 0 (b0_0,(b0_1,((),((),(b0_4,(b0_5,(b0_6,(b0_7,())))))))))<|
 ck (BD (I b0_0.length -1))<|
 ck (0<=I b0_0.length -1/\I b0_0.length -1<I b0_0.length)<|
 ck (BD A2)<|
 Cn A2 (b0_0,(b0_1,((),((),(b0_4,(b0_5,(b0_6,(b0_7,()))))))))
def NQ.Kc:=kd 61 NQ.p fun x=>NQ.k x.2.1.1 x.2.1.2.1 x.2.1.2.2.2.2.1 x.2.1.2.2.2.2.2.1 x.2.1.2.2.2.2.2.2.1 x.2.1.2.2.2.2.2.2.2.1
theorem NQ.Kh:NQ.Kc.Holds prog:=kh AH hn NQ.ok (by kernel_rfl)
def NO.k (b0_0:List Dop.Tok) (b0_1 b0_4 b0_5 b0_6 b0_7:Int):R1 Dop.Tok (List Dop.Tok×Int×Unit×Unit×Int×Int×Int×Int×Unit):=
 let A1:=NQ.k b0_0 b0_1 b0_4 b0_5 b0_6 b0_7
 let F1:Y1 Int (List Dop.Tok×Int×Unit×Unit×Int×Int×Int×Int×Unit)->R1 Dop.Tok (List Dop.Tok×Int×Unit×Unit×Int×Int×Int×Int×Unit):=fun y4=>
 Cn (Dop.Tok.mk 0 [] 0 y4.1.1) (y4.2.1.1,(y4.2.1.2.1,((),((),(y4.2.1.2.2.2.2.1,(y4.2.1.2.2.2.2.2.1,(y4.2.1.2.2.2.2.2.2.1,(y4.2.1.2.2.2.2.2.2.2.1,()))))))))
 ci (!(b0_6=0)) (A1.bind F1)<|
 ci (I b0_0.length<=b0_1) (A1.bind F1)<|
 ck (0<=b0_1/\b0_1<I b0_0.length)<|
 Cn (List.getD b0_0 b0_1.toNat Dop.d4) (b0_0,(b0_1,((),((),(b0_4,(b0_5,(b0_6,(b0_7,()))))))))
def NO.Kc:=kd 28 NO.p fun x=>NO.k x.2.1.1 x.2.1.2.1 x.2.1.2.2.2.2.1 x.2.1.2.2.2.2.2.1 x.2.1.2.2.2.2.2.2.1 x.2.1.2.2.2.2.2.2.2.1
theorem NO.Kh:NO.Kc.Holds prog:=kh AH (hc NQ.Kh hn) NO.ok (by kernel_rfl)
def JC.k (s:List UInt8) (b0_0:List Dop.Tok) (b0_1 b0_4 b0_5 b0_6 b0_7:Int):R1 Bool (List Dop.Tok×Int×Unit×Unit×Int×Int×Int×Int×Unit):=
 (NO.k b0_0 b0_1 b0_4 b0_5 b0_6 b0_7).bind fun y2=>
 ci (y2.1.1.kind=4) (Cn (decide (y2.1.1.text=s)) (y2.2.1.1,(y2.2.1.2.1,((),((),(y2.2.1.2.2.2.2.1,(y2.2.1.2.2.2.2.2.1,(y2.2.1.2.2.2.2.2.2.1,(y2.2.1.2.2.2.2.2.2.2.1,())))))))))<|
 ci (y2.1.1.kind=2) (Cn (decide (y2.1.1.text=s)) (y2.2.1.1,(y2.2.1.2.1,((),((),(y2.2.1.2.2.2.2.1,(y2.2.1.2.2.2.2.2.1,(y2.2.1.2.2.2.2.2.2.1,(y2.2.1.2.2.2.2.2.2.2.1,())))))))))<|
 Cn false (y2.2.1.1,(y2.2.1.2.1,((),((),(y2.2.1.2.2.2.2.1,(y2.2.1.2.2.2.2.2.1,(y2.2.1.2.2.2.2.2.2.1,(y2.2.1.2.2.2.2.2.2.2.1,()))))))))
def JC.Kc:=kd 63 JC.p fun x=>JC.k x.1.2.1 x.2.1.1 x.2.1.2.1 x.2.1.2.2.2.2.1 x.2.1.2.2.2.2.2.1 x.2.1.2.2.2.2.2.2.1 x.2.1.2.2.2.2.2.2.2.1
theorem JC.Kh:JC.Kc.Holds prog:=kh AH (hc NO.Kh hn) JC.ok (by kernel_rfl)
def Hj.k (b0_0:List Dop.Tok) (b0_1 b0_4 b0_5 b0_6 b0_7:Int):R1 Bool (List Dop.Tok×Int×Unit×Unit×Int×Int×Int×Int×Unit):=
 (JC.k ([105,110,116]:List UInt8) b0_0 b0_1 b0_4 b0_5 b0_6 b0_7).bind fun y2=>
 ci y2.1.1 (Cn true (y2.2.1.1,(y2.2.1.2.1,((),((),(y2.2.1.2.2.2.2.1,(y2.2.1.2.2.2.2.2.1,(y2.2.1.2.2.2.2.2.2.1,(y2.2.1.2.2.2.2.2.2.2.1,())))))))))<|
 (JC.k ([117,110,115,105,103,110,101,100]:List UInt8) y2.2.1.1 y2.2.1.2.1 y2.2.1.2.2.2.2.1 y2.2.1.2.2.2.2.2.1 y2.2.1.2.2.2.2.2.2.1 y2.2.1.2.2.2.2.2.2.2.1).bind fun y4=>
 ci y4.1.1 (Cn true (y4.2.1.1,(y4.2.1.2.1,((),((),(y4.2.1.2.2.2.2.1,(y4.2.1.2.2.2.2.2.1,(y4.2.1.2.2.2.2.2.2.1,(y4.2.1.2.2.2.2.2.2.2.1,())))))))))<|
 (JC.k ([99,104,97,114]:List UInt8) y4.2.1.1 y4.2.1.2.1 y4.2.1.2.2.2.2.1 y4.2.1.2.2.2.2.2.1 y4.2.1.2.2.2.2.2.2.1 y4.2.1.2.2.2.2.2.2.2.1).bind fun y6=>
 ci y6.1.1 (Cn true (y6.2.1.1,(y6.2.1.2.1,((),((),(y6.2.1.2.2.2.2.1,(y6.2.1.2.2.2.2.2.1,(y6.2.1.2.2.2.2.2.2.1,(y6.2.1.2.2.2.2.2.2.2.1,())))))))))<|
 (JC.k ([118,111,105,100]:List UInt8) y6.2.1.1 y6.2.1.2.1 y6.2.1.2.2.2.2.1 y6.2.1.2.2.2.2.2.1 y6.2.1.2.2.2.2.2.2.1 y6.2.1.2.2.2.2.2.2.2.1).bind fun y8=>
 ci y8.1.1 (Cn true (y8.2.1.1,(y8.2.1.2.1,((),((),(y8.2.1.2.2.2.2.1,(y8.2.1.2.2.2.2.2.1,(y8.2.1.2.2.2.2.2.2.1,(y8.2.1.2.2.2.2.2.2.2.1,())))))))))<|
 (JC.k ([115,116,114,117,99,116]:List UInt8) y8.2.1.1 y8.2.1.2.1 y8.2.1.2.2.2.2.1 y8.2.1.2.2.2.2.2.1 y8.2.1.2.2.2.2.2.2.1 y8.2.1.2.2.2.2.2.2.2.1).bind fun y10=>
 Cn y10.1.1 (y10.2.1.1,(y10.2.1.2.1,((),((),(y10.2.1.2.2.2.2.1,(y10.2.1.2.2.2.2.2.1,(y10.2.1.2.2.2.2.2.2.1,(y10.2.1.2.2.2.2.2.2.2.1,()))))))))
def Hj.Kc:=kd 157 Hj.p fun x=>Hj.k x.2.1.1 x.2.1.2.1 x.2.1.2.2.2.2.1 x.2.1.2.2.2.2.2.1 x.2.1.2.2.2.2.2.2.1 x.2.1.2.2.2.2.2.2.2.1
theorem Hj.Kh:Hj.Kc.Holds prog:=kh AH (hc JC.Kh hn) Hj.ok (by kernel_rfl)
end
end Go.Proofs.Tryz
