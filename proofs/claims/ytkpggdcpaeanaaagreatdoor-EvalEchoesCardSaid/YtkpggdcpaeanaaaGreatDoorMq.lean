/- A function's model that the kernel can run: its trees, so many cuts deep (Env.runF); that it is a contract. -/
import Derived.Test.YtkpggdcpaeanaaaGreatDoorMo
import Derived.Test.YtkpggdcpaeanaaaGreatDoorMi
import Derived.Test.YtkpggdcpaeanaaaGreatDoorMj
set_option linter.all false
namespace Go.En
open Go.RowKit
section
variable {S:Ao} {P:Program}
def Env.Zp (E:Env S) (f0 n:Nat) (sp:Spec) (x:sp.D S):Option (E.rs.D S):=(I8 E f0 sp x).eval (Ee (E.step f0) n)
def Env.X6 (E:Env S) (f0 n:Nat) (J:Jump E) (sp:Spec) (x:sp.D S):Option (E.rs.D S):=(I8 E f0 sp x).eval (Ee (E.IV f0 J) n)
theorem QY {f:Nat} {tb:List (Nat×TI)} {ct:List (CC S)} {p:Ai} (f0 n:Nat) (htb:AW S P tb) (hct: ∀ c∈ct,c.Holds P) (h:AG S P f p=true):
  CC.Holds P ⟨f,p.bn,p.sp,p.rs,p.flat,.opt ((BC P f tb ct p).Zp f0 n p.sp)⟩:=by
 obtain ⟨hE,hb,h3,fn,hf,hbody,hn,hres⟩:=Gj htb hct h
 simp only [AG,Bool.and_eq_true] at h
 obtain ⟨⟨⟨⟨⟨⟨⟨⟨_,h2⟩,_⟩,_⟩,h5⟩,_⟩,_⟩,_⟩,_⟩:=h
 refine ⟨hb,h3,fun hfl=>?_,fun x y hxy w D β vs o m he hg hon _ hiv=>?_⟩
 ·simp only at hfl;rw [hfl] at h5;simpa using h5
 ·exact OG (out:=.opt ((BC P f tb ct p).Zp f0 n p.sp)) hE hf hbody hn hres (Nat.le_of_ble_eq_true h2) (Ee ((BC P f tb ct p).step f0)) (fun _ _=>rfl) (fun n k q h x y hy=>by simp only [Ee,Env.step_mk] at hy;exact hy) (show _=some y from hxy) he hg hon hiv
theorem Uk {f:Nat} {tb:List (Nat×TI)} {ct:List (CC S)} {p:Ai} (f0 n:Nat) (htb:AW S P tb) (hct: ∀ c∈ct,c.Holds P) (h:AG S P f p=true) (J:Jump (BC P f tb ct p)) (hJ:J.Ok P):
  CC.Holds P ⟨f,p.bn,p.sp,p.rs,p.flat,.opt ((BC P f tb ct p).X6 f0 n J p.sp)⟩:=by
 obtain ⟨hE,hb,h3,fn,hf,hbody,hn,hres⟩:=Gj htb hct h
 simp only [AG,Bool.and_eq_true] at h
 obtain ⟨⟨⟨⟨⟨⟨⟨⟨_,h2⟩,_⟩,_⟩,h5⟩,_⟩,_⟩,_⟩,_⟩:=h
 refine ⟨hb,h3,fun hfl=>?_,fun x y hxy w D β vs o m he hg hon _ hiv=>?_⟩
 ·simp only at hfl;rw [hfl] at h5;simpa using h5
 ·exact SW (out:=.opt ((BC P f tb ct p).X6 f0 n J p.sp)) hE hJ hf hbody hn hres (Nat.le_of_ble_eq_true h2) (show _=some y from hxy) he hg hon hiv
end
end Go.En
/- Loops in plain words: a model that is reckoned round by round. -/
namespace Go.En
open Go.RowKit
section
variable {S:Ao} {P:Program}
theorem Xx {α:Type} (T:Nat->α) (z:α) (s:α->α) (h0:T 0=z) (hs: ∀ n,T (n+1)=s (T n)): ∀ n,T n=Nat.rec (motive:=fun _=>α) z (fun _ r=>s r) n
 | 0=>h0
 | n+1=>by rw [hs n,Xx T z s h0 hs n]
theorem TO {f bn:Nat} {sp rs:Spec} {flat:Bool} {α:Type} {m:Nat->sp.D S->Option (rs.D S)} (h: ∀ N,CC.Holds P ⟨f,bn,sp,rs,flat,.opt (m N)⟩) (g:α->sp.D S->Option (rs.D S)) (T:Nat->α) (z:α) (s:α->α) (N:Nat)
  (h0:T 0=z) (hs: ∀ n,T (n+1)=s (T n)) (hm: ∀ N,m N=g (T N)):CC.Holds P ⟨f,bn,sp,rs,flat,.opt (g (Nat.rec (motive:=fun _=>α) z (fun _ r=>s r) N))⟩:=by
 have e:=h N
 rw [hm N,Xx T z s h0 hs N] at e
 exact e
theorem hc {l:List (CC S)} {c:CC S} (h:c.Holds P) (k: ∀ c∈l,c.Holds P): ∀ d∈c::l,d.Holds P:=A6 h k
theorem hn: ∀ d∈([]:List (CC S)),d.Holds P:=CJ
def kc (f:Nat) (p:Ai) (m:p.sp.D S->Option (p.rs.D S)):CC S:=⟨f,p.bn,p.sp,p.rs,p.flat,.opt m⟩
class NN (α:Type) where
 nn:α
instance {α:Type}:NN (Option α):=⟨none⟩
instance:NN Unit:=⟨()⟩
instance {α β:Type} [NN β]:NN (α->β):=⟨fun _=>NN.nn⟩
instance {α β:Type} [NN α] [NN β]:NN (α×β):=⟨(NN.nn,NN.nn)⟩
def Cv {α:Type} [NN α] (s:α->α) (n:Nat):α:=Nat.rec (motive:=fun _=>α) NN.nn (fun _ r=>s r) n
section
variable {f:Nat} {tb:List (Nat×TI)} {p:Ai} {ct:List (CC S)}
theorem kh (htb:AW S P tb) (h: ∀ c∈ct,c.Holds P) (ok:AG S P f p=true) {k:p.sp.D S->Option (p.rs.D S)} (e:k=(BC P f tb ct p).Zp 3000 1000000 p.sp):(kc f p k).Holds P:=R7 (QY 3000 1000000 htb h ok) (by unfold kc;rw [e])
def fP (E:Env S) (n c:Nat) (q:Cut) (h:lk E.C1 c=some q) (x:q.sp.D S):Option E.ρ:=Ee (E.step 3000) n c (EB E c q h x)
theorem E7 (htb:AW S P tb) (h: ∀ c∈ct,c.Holds P) (ok:AG S P f p=true) {k:p.sp.D S->Option (p.rs.D S)} {α:Type} [NN α] (g:α->p.sp.D S->Option (p.rs.D S)) (T:((c:Nat)->(q:Cut)->lk p.C1 c=some q->q.sp.D S->Option (p.rs.D S))->α) (s:α->α)
  (e:(T (fP (BC P f tb ct p) 0),(fun n=>T (fP (BC P f tb ct p) (n+1))),(fun N=>(BC P f tb ct p).Zp 3000 N p.sp),k)=(NN.nn,(fun n=>s (T (fP (BC P f tb ct p) n))),(fun N=>g (T (fP (BC P f tb ct p) N))),g (Cv s 1000000))):(kc f p k).Holds P:=by
 have e0:=congrArg Prod.fst e;have e1:=congrArg (fun x=>x.2.1) e;have e2:=congrArg (fun x=>x.2.2.1) e;have e3:=congrArg (fun x=>x.2.2.2) e
 simp only at e0 e1 e2 e3
 have:=TO (fun N=>QY 3000 N htb h ok) g (fun n=>T (fP (BC P f tb ct p) n)) _ s 1000000 e0 (fun n=>congrFun e1 n) (fun N=>congrFun e2 N)
 rw [e3];exact this
def Vd (E:Env S) (J:Jump E) (n c:Nat) (q:Cut) (h:lk E.C1 c=some q) (x:q.sp.D S):Option E.ρ:=Ee (E.IV 3000 J) n c (EB E c q h x)
theorem lB (htb:AW S P tb) (h: ∀ c∈ct,c.Holds P) (ok:AG S P f p=true) {k:p.sp.D S->Option (p.rs.D S)} (J:Jump (BC P f tb ct p)) (hJ:J.Ok P) {α:Type} [NN α] (g:α->p.sp.D S->Option (p.rs.D S)) (T:((c:Nat)->(q:Cut)->lk p.C1 c=some q->q.sp.D S->Option (p.rs.D S))->α) (s:α->α)
  (e:(T (Vd (BC P f tb ct p) J 0),(fun n=>T (Vd (BC P f tb ct p) J (n+1))),(fun N=>(BC P f tb ct p).X6 3000 N J p.sp),k)=(NN.nn,(fun n=>s (T (Vd (BC P f tb ct p) J n))),(fun N=>g (T (Vd (BC P f tb ct p) J N))),g (Cv s 1000000))):(kc f p k).Holds P:=by
 have e0:=congrArg Prod.fst e;have e1:=congrArg (fun x=>x.2.1) e;have e2:=congrArg (fun x=>x.2.2.1) e;have e3:=congrArg (fun x=>x.2.2.2) e
 simp only at e0 e1 e2 e3
 have:=TO (fun N=>Uk 3000 N htb h ok J hJ) g (fun n=>T (Vd (BC P f tb ct p) J n)) _ s 1000000 e0 (fun n=>congrFun e1 n) (fun N=>congrFun e2 N)
 rw [e3];exact this
end
end
def ck {α:Type} (b:Bool) (x:Option α):Option α:=if b=true then x else none
def ci {α:Type} (b:Bool) (x y:α):α:=if b=true then x else y
abbrev iv (δ:Type):Type:=Option (Unit×(δ×Unit))
def ez {δ:Type} (x:δ):iv δ:=some ((),(x,()))
def lF {δ τ σ:Type} (x:τ×(δ×σ)):iv δ:=ez x.2.1
abbrev Ns (δ ε:Type):Type:=Option (Unit×(δ×ε×Unit))
def Xs {δ ε:Type} (x:δ) (y:ε):Ns δ ε:=some ((),(x,y,()))
def cz {δ ε τ σ:Type} (x:τ×(δ×ε×σ)):Ns δ ε:=Xs x.2.1 x.2.2.1
abbrev F8 (α:Type):Type:=Option ((α×Unit)×Unit)
def ED {α:Type} (a:α):F8 α:=some ((a,()),())
def kM {α τ σ:Type} (x:(α×τ)×σ):F8 α:=ED x.1.1
abbrev R1 (α δ:Type):Type:=Option ((α×Unit)×(δ×Unit))
def CS {α δ:Type} (a:α) (x:δ):R1 α δ:=some ((a,()),(x,()))
def G3 {α δ τ σ:Type} (x:(α×τ)×(δ×σ)):R1 α δ:=CS x.1.1 x.2.1
abbrev R2 (α δ ε:Type):Type:=Option ((α×Unit)×(δ×ε×Unit))
def AV {α δ ε:Type} (a:α) (x:δ) (y:ε):R2 α δ ε:=some ((a,()),(x,y,()))
def A7 {α δ ε τ σ:Type} (x:(α×τ)×(δ×ε×σ)):R2 α δ ε:=AV x.1.1 x.2.1 x.2.2.1
abbrev ed (α δ ε ζ:Type):Type:=Option ((α×Unit)×(δ×ε×ζ×Unit))
def Xt {α δ ε ζ:Type} (a:α) (x:δ) (y:ε) (z:ζ):ed α δ ε ζ:=some ((a,()),(x,y,z,()))
abbrev LI (α β:Type):Type:=Option ((α×β×Unit)×Unit)
def I0 {α β:Type} (a:α) (b:β):LI α β:=some ((a,b,()),())
def Ly {α β τ σ:Type} (x:(α×β×τ)×σ):LI α β:=I0 x.1.1 x.1.2.1
abbrev VK (α β δ:Type):Type:=Option ((α×β×Unit)×(δ×Unit))
def Pw {α β δ:Type} (a:α) (b:β) (x:δ):VK α β δ:=some ((a,b,()),(x,()))
def jl {α β δ τ σ:Type} (x:(α×β×τ)×(δ×σ)):VK α β δ:=Pw x.1.1 x.1.2.1 x.2.1
abbrev ee (α β δ ε:Type):Type:=Option ((α×β×Unit)×(δ×ε×Unit))
def Nn {α β δ ε:Type} (a:α) (b:β) (x:δ) (y:ε):ee α β δ ε:=some ((a,b,()),(x,y,()))
abbrev Oe (α β γ:Type):Type:=Option ((α×β×γ×Unit)×Unit)
def Ds {α β γ:Type} (a:α) (b:β) (c:γ):Oe α β γ:=some ((a,b,c,()),())
def kN {α β γ τ σ:Type} (x:(α×β×γ×τ)×σ):Oe α β γ:=Ds x.1.1 x.1.2.1 x.1.2.2.1
abbrev iw (α β γ δ:Type):Type:=Option ((α×β×γ×Unit)×(δ×Unit))
def jG {α β γ δ:Type} (a:α) (b:β) (c:γ) (x:δ):iw α β γ δ:=some ((a,b,c,()),(x,()))
end Go.En
/- What is of the seat in the contracts of twins. -/
namespace Go.Proofs
open Go Go.En
def kd (f:Nat) (p:Ai) (m:p.sp.D En.Dop.D4->Option (p.rs.D En.Dop.D4)):CC En.Dop.D4:=kc f p m
end Go.Proofs
/- Functions in plain words (what their equations say), and their contracts. Written by a program. -/
set_option maxRecDepth 100000
set_option maxHeartbeats 4000000
namespace Go.Proofs.Tryz
open Go Go.En
noncomputable section
def Kv.k (k0:PS):R1 Int PS:=
 let A1:=List.getD k0.l (I k0.l.length -1).toNat Dop.d4
 let A2:=A1.at_+I A1.text.length
 ci (I k0.l.length=0) (CS 0 k0)<|
 ck (Ap (I k0.l.length -1))<|
 ck (0<=I k0.l.length -1/\I k0.l.length -1<I k0.l.length)<|
 ck (Ap A2)<|
 CS A2 k0
def Kv.Kc:=kd 89 Kv.p fun x=>Kv.k x.2.1
theorem Kv.Kh:Kv.Kc.Holds prog:=kh AH hn Kv.ok (by kernel_rfl)
def Eo.k (k0:PS):R1 Dop.Tok PS:=
 ci (!(k0.e=0)) ((Kv.k k0).bind fun y3=>
 CS (Dop.Tok.mk 0 [] 0 y3.1.1) y3.2.1)<|
 ci (I k0.l.length<=k0.at_) ((Kv.k k0).bind fun y4=>
 CS (Dop.Tok.mk 0 [] 0 y4.1.1) y4.2.1)<|
 ck (0<=k0.at_/\k0.at_<I k0.l.length)<|
 CS (List.getD k0.l k0.at_.toNat Dop.d4) k0
def Eo.Kc:=kd 45 Eo.p fun x=>Eo.k x.2.1
theorem Eo.Kh:Eo.Kc.Holds prog:=kh AH (hc Kv.Kh hn) Eo.ok (by kernel_rfl)
def Fc.k (kind at_:Int):F8 Dop.AR:=
 ED (Dop.AR.mk kind (-1) (-1) (-1) (-1) [] 0 0 at_)
def Fc.Kc:=kd 90 Fc.p fun x=>Fc.k x.1.1 x.1.2.1
theorem Fc.Kh:Fc.Kc.Holds prog:=kh AH hn Fc.ok (by kernel_rfl)
def Mz.k (s:List UInt8) (k0:PS):R1 Bool PS:=
 (Eo.k k0).bind fun y2=>
 ci (y2.1.1.kind=4) (CS (decide (y2.1.1.text=s)) y2.2.1)<|
 ci (y2.1.1.kind=2) (CS (decide (y2.1.1.text=s)) y2.2.1)<|
 CS false y2.2.1
def Mz.Kc:=kd 91 Mz.p fun x=>Mz.k x.1.2.1 x.2.1
theorem Mz.Kh:Mz.Kc.Holds prog:=kh AH (hc Eo.Kh hn) Mz.ok (by kernel_rfl)
def Cx.k (s:List UInt8) (k0:PS):R1 Bool PS:=
 (Mz.k s k0).bind fun y2=>
 ci (!y2.1.1) (CS false y2.2.1)<|
 ck (Ap (PS.at_ y2.2.1+1))<|
 CS true (PS.UG y2.2.1 (PS.at_ y2.2.1+1))
def Cx.Kc:=kd 94 Cx.p fun x=>Cx.k x.1.2.1 x.2.1
theorem Cx.Kh:Cx.Kc.Holds prog:=kh AH (hc Mz.Kh hn) Cx.ok (by kernel_rfl)
def Cd.k (e:Int) (k0:PS):iv PS:=
 ci (k0.e=0) ((Eo.k k0).bind fun y3=>
 ez (PS.FY (PS.X8 y3.2.1 e) y3.1.1.at_))<|
 ez k0
def Cd.Kc:=kd 142 Cd.p fun x=>Cd.k x.1.2.1 x.2.1
theorem Cd.Kh:Cd.Kc.Holds prog:=kh AH (hc Eo.Kh hn) Cd.ok (by kernel_rfl)
def DN.k (s:List UInt8) (k0:PS):iv PS:=
 (Cx.k s k0).bind fun y2=>
 ci (!y2.1.1) ((Cd.k 5 y2.2.1).bind lF)<|
 ez y2.2.1
def DN.Kc:=kd 92 DN.p fun x=>DN.k x.1.2.1 x.2.1
theorem DN.Kh:DN.Kc.Holds prog:=kh AH (hc Cx.Kh (hc Cd.Kh hn)) DN.ok (by kernel_rfl)
def IJ.k (k:Int) (k0:PS):R1 Dop.Tok PS:=
 (Eo.k k0).bind fun y2=>
 ci (!(y2.1.1.kind=k)) ((Cd.k 5 y2.2.1).bind fun y4=>
 CS (Dop.Tok.mk 0 [] 0 y2.1.1.at_) y4.2.1)<|
 ci (!(PS.e y2.2.1=0)) ((Cd.k 5 y2.2.1).bind fun y5=>
 CS (Dop.Tok.mk 0 [] 0 y2.1.1.at_) y5.2.1)<|
 ck (Ap (PS.at_ y2.2.1+1))<|
 CS y2.1.1 (PS.UG y2.2.1 (PS.at_ y2.2.1+1))
def IJ.Kc:=kd 93 IJ.p fun x=>IJ.k x.1.2.1 x.2.1
theorem IJ.Kh:IJ.Kc.Holds prog:=kh AH (hc Eo.Kh (hc Cd.Kh hn)) IJ.ok (by kernel_rfl)
abbrev PO.T:Type:=List Dop.HN->Int->Int->Dop.HN->F8 Int
abbrev Dq.KT:Type:=PO.T×Unit
def PO.kB (tK:Dq.KT):PO.T:=fun s t7 t8 b0=>
 let A1:=List.getD s t8.toNat Dop.d6
 ci (t8<t7) (ck (0<=t8/\t8<I s.length)<|
 ci (SG (List.take 4 (List.drop 0 (SV.v (Value.int IntKind.i64 b0.kind)::SV.v (Value.int IntKind.i64 b0.elem)::SV.v (Value.int IntKind.i64 b0.n)::SV.v (Value.string (ByteArray.mk (Array.mk b0.name)))::[]++[]))) (List.take 4 (List.drop 0 (SV.v (Value.int IntKind.i64 A1.kind)::SV.v (Value.int IntKind.i64 A1.elem)::SV.v (Value.int IntKind.i64 A1.n)::SV.v (Value.string (ByteArray.mk (Array.mk A1.name)))::[])))) (ED t8)<|
 ck (Ap (t8+1))<|
 tK.1 s t7 (t8+1) b0)<|
 ED (-1)
def Dq.kS (tK:Dq.KT):Dq.KT:=(PO.kB tK,())
def Dq.kL (n:Nat):Dq.KT:=Cv Dq.kS n
def Dq.k0 (tK:Dq.KT) (s:List Dop.HN) (v:Dop.HN):F8 Int:=
 tK.1 s (I s.length) 0 v
def Dq.k (s:List Dop.HN) (v:Dop.HN):F8 Int:=Dq.k0 (Dq.kL 1000000) s v
def Dq.Kc:=kd 179 Dq.p fun x=>Dq.k x.1.1 x.1.2.1
theorem Dq.Kh:Dq.Kc.Holds prog:=E7 AH hn Dq.ok (fun t x=>Dq.k0 t x.1.1 x.1.2.1) (fun c=>(fun s t7 t8 b0=>c 2 Dq.q2 rfl ((s,(),t7,t8,()),((b0,()),())),())) Dq.kS (by kernel_rfl)
def Jb.k (x:Dop.HN) (k0:PS):R1 Int PS:=
 (Dq.k k0.types x).bind fun y2=>
 ci (0<=y2.1.1) (CS y2.1.1 k0)<|
 ci (I k0.types.length=256) ((Cd.k 4 k0).bind fun y5=>
 CS 0 y5.2.1)<|
 ck (Cc none (room 40 (k0.types.length+(x::[]).length)))<|
 ck (Ap (I (k0.types++x::[]).length -1))<|
 CS (I (k0.types++x::[]).length -1) (PS.UI k0 (k0.types++x::[]))
def Jb.Kc:=kd 144 Jb.p fun x=>Jb.k x.1.2.1 x.2.1
theorem Jb.Kh:Jb.Kc.Holds prog:=kh AH (hc Dq.Kh (hc Cd.Kh hn)) Jb.ok (by kernel_rfl)
abbrev LY.T:Type:=Int->PS->R1 Int PS
abbrev DM.KT:Type:=LY.T×Unit
def LY.kB (tK:DM.KT):LY.T:=fun t k0=>
 (Cx.k ([42]:List UInt8) k0).bind fun y2=>
 ci y2.1.1 ((Jb.k (Dop.HN.mk 4 t 0 []) y2.2.1).bind fun y4=>
 tK.1 y4.1.1 y4.2.1)<|
 CS t y2.2.1
def DM.kS (tK:DM.KT):DM.KT:=(LY.kB tK,())
def DM.kL (n:Nat):DM.KT:=Cv DM.kS n
def DM.k0 (tK:DM.KT) (k0:PS):R1 Int PS:=
 (Cx.k ([118,111,105,100]:List UInt8) k0).bind fun y2=>
 ci y2.1.1 (tK.1 0 y2.2.1)<|
 (Cx.k ([105,110,116]:List UInt8) y2.2.1).bind fun y4=>
 ci y4.1.1 (tK.1 1 y4.2.1)<|
 (Cx.k ([117,110,115,105,103,110,101,100]:List UInt8) y4.2.1).bind fun y6=>
 ci y6.1.1 (tK.1 2 y6.2.1)<|
 (Cx.k ([99,104,97,114]:List UInt8) y6.2.1).bind fun y8=>
 ci y8.1.1 (tK.1 3 y8.2.1)<|
 (DN.k ([115,116,114,117,99,116]:List UInt8) y8.2.1).bind fun y10=>
 (IJ.k 1 y10.2.1).bind fun y11=>
 (Jb.k (Dop.HN.mk 6 0 0 y11.1.1.text) y11.2.1).bind fun y12=>
 tK.1 y12.1.1 y12.2.1
def DM.k (k0:PS):R1 Int PS:=DM.k0 (DM.kL 1000000) k0
def DM.Kc:=kd 143 DM.p fun x=>DM.k x.2.1
theorem DM.Kh:DM.Kc.Holds prog:=E7 AH (hc Cx.Kh (hc DN.Kh (hc IJ.Kh (hc Jb.Kh hn)))) DM.ok (fun t x=>DM.k0 t x.2.1) (fun c=>(fun t k0=>c 11 DM.aV rfl (((),t,()),(k0,())),())) DM.kS (by kernel_rfl)
def Qw.k (k0:PS):R1 Dop.AR PS:=
 (Eo.k k0).bind fun y2=>
 (Fc.k 51 y2.1.1.at_).bind fun y3=>
 (DM.k y2.2.1).bind fun y4=>
 (IJ.k 1 y4.2.1).bind fun y5=>
 CS (Dop.AR.mk y3.1.1.kind y3.1.1.a y3.1.1.b y3.1.1.c y3.1.1.d y5.1.1.text y3.1.1.n y4.1.1 y3.1.1.at_) y5.2.1
def Qw.Kc:=kd 95 Qw.p fun x=>Qw.k x.2.1
theorem Qw.Kh:Qw.Kc.Holds prog:=kh AH (hc Eo.Kh (hc Fc.Kh (hc DM.Kh (hc IJ.Kh hn)))) Qw.ok (by kernel_rfl)
def Pn.k (t:Int) (k0:PS):R1 Int PS:=
 (Cx.k ([91]:List UInt8) k0).bind fun y2=>
 ci (!y2.1.1) (CS t y2.2.1)<|
 (IJ.k 3 y2.2.1).bind fun y4=>
 (DN.k ([93]:List UInt8) y4.2.1).bind fun y5=>
 (Jb.k (Dop.HN.mk 5 t y4.1.1.n []) y5.2.1).bind G3
def Pn.Kc:=kd 96 Pn.p fun x=>Pn.k x.1.2.1 x.2.1
theorem Pn.Kh:Pn.Kc.Holds prog:=kh AH (hc Cx.Kh (hc IJ.Kh (hc DN.Kh (hc Jb.Kh hn)))) Pn.ok (by kernel_rfl)
def Cy.k (n:Dop.AR) (k0:PS):R1 Int PS:=
 ci (I k0.nodes.length=8192) ((Cd.k 4 k0).bind fun y3=>
 ci (!(PS.e y3.2.1=0)) (CS (-1) y3.2.1)<|
 ck (Cc none (room 80 ((PS.nodes y3.2.1).length+(n::[]).length)))<|
 ck (Ap (I (PS.nodes y3.2.1++n::[]).length -1))<|
 CS (I (PS.nodes y3.2.1++n::[]).length -1) (PS.E9 y3.2.1 (PS.nodes y3.2.1++n::[])))<|
 ci (!(k0.e=0)) (CS (-1) k0)<|
 ck (Cc none (room 80 (k0.nodes.length+(n::[]).length)))<|
 ck (Ap (I (k0.nodes++n::[]).length -1))<|
 CS (I (k0.nodes++n::[]).length -1) (PS.E9 k0 (k0.nodes++n::[]))
def Cy.Kc:=kd 97 Cy.p fun x=>Cy.k x.1.2.1 x.2.1
theorem Cy.Kh:Cy.Kc.Holds prog:=kh AH (hc Cd.Kh hn) Cy.ok (by kernel_rfl)
def HH.k (n:Int) (k0:PS):R1 Int PS:=
 ci (n<0) (CS 0 k0)<|
 ck (0<=n/\n<I k0.nodes.length)<|
 ck (n.toNat<k0.nodes.length)<|
 CS ((List.getD k0.nodes n.toNat Dop.d5).at_) k0
def Mm.k (t:Dop.Fy) (n:Int):F8 Dop.AR:=
 let A1:=ED (Dop.AR.mk 0 0 0 0 0 [] 0 0 0)
 ci (n<0) A1<|
 ci (I t.nodes.length<=n) A1<|
 ck (0<=n/\n<I t.nodes.length)<|
 ED (List.getD t.nodes n.toNat Dop.d5)
def Mm.Kc:=kd 120 Mm.p fun x=>Mm.k x.1.1 x.1.2.1
theorem Mm.Kh:Mm.Kc.Holds prog:=kh AH hn Mm.ok (by kernel_rfl)
abbrev Ts.T:Type:=Int->List Int->Int->Int->Dop.Fy->F8 (List Int)
abbrev Ga.KT:Type:=Ts.T×Unit
def Ts.kB (tK:Ga.KT):Ts.T:=fun n out t9 t10 b0=>
 ci (t10<t9) ((Mm.k b0 n).bind fun y3=>
 ci (!(y3.1.1.kind=20)) (ED out)<|
 ck (Cc none (room 8 (out.length+(y3.1.1.a::[]).length)))<|
 ck (Ap (t10+1))<|
 tK.1 y3.1.1.b (out++y3.1.1.a::[]) t9 (t10+1) b0)<|
 ED out
def Ga.kS (tK:Ga.KT):Ga.KT:=(Ts.kB tK,())
def Ga.kL (n:Nat):Ga.KT:=Cv Ga.kS n
def Ga.k0 (tK:Ga.KT) (t:Dop.Fy) (n:Int):F8 (List Int):=
 tK.1 n [] (I t.nodes.length) 0 t
def Ga.k (t:Dop.Fy) (n:Int):F8 (List Int):=Ga.k0 (Ga.kL 1000000) t n
def Ga.Kc:=kd 73 Ga.p fun x=>Ga.k x.1.1 x.1.2.1
theorem Ga.Kh:Ga.Kc.Holds prog:=E7 AH (hc Mm.Kh hn) Ga.ok (fun t x=>Ga.k0 t x.1.1 x.1.2.1) (fun c=>(fun n out t9 t10 b0=>c 3 Ga.q3 rfl ((n,(),out,t9,t10,()),((b0,()),())),())) Ga.kS (by kernel_rfl)
def Mt.k (k0:PS):R1 Bool PS:=
 (Mz.k ([105,110,116]:List UInt8) k0).bind fun y2=>
 ci y2.1.1 (CS true y2.2.1)<|
 (Mz.k ([117,110,115,105,103,110,101,100]:List UInt8) y2.2.1).bind fun y4=>
 ci y4.1.1 (CS true y4.2.1)<|
 (Mz.k ([99,104,97,114]:List UInt8) y4.2.1).bind fun y6=>
 ci y6.1.1 (CS true y6.2.1)<|
 (Mz.k ([118,111,105,100]:List UInt8) y6.2.1).bind fun y8=>
 ci y8.1.1 (CS true y8.2.1)<|
 (Mz.k ([115,116,114,117,99,116]:List UInt8) y8.2.1).bind G3
def Mt.Kc:=kd 204 Mt.p fun x=>Mt.k x.2.1
theorem Mt.Kh:Mt.Kc.Holds prog:=kh AH (hc Mz.Kh hn) Mt.ok (by kernel_rfl)
abbrev To.T:Type:=List UInt8->Int->LI Int Bool
abbrev J0.KT:Type:=To.T×Unit
def To.kB (tK:J0.KT):To.T:=fun s at_=>
 let A1:=List.drop at_.toNat (List.take (I s.length).toNat s)
 let A3:=at_+Lib.indexByte A1 (Int.toNat 10).toUInt8
 let A2:=List.drop (Int.toNat 2) (List.take (I A1.length).toNat A1)
 ci (at_<I s.length) (ck (0<=at_/\at_<=I s.length/\I s.length<=I s.length)<|
 ck (0<=at_/\at_<I s.length)<|
 ck true<|
 ci (0<=Lib.indexByte ([32,9,10,13]:List UInt8) (Cf s at_).toNat.toUInt8) (ck (Ap (at_+1))<|
 tK.1 s (at_+1))<|
 ck true<|
 ci (Lib.hasPrefix A1 ([47,47]:List UInt8)) (ck true<|
 ci (Lib.indexByte A1 (Int.toNat 10).toUInt8<0) (I0 (I s.length) true)<|
 ck (Ap A3)<|
 tK.1 s A3)<|
 ck true<|
 ci (Lib.hasPrefix A1 ([47,42]:List UInt8)) (ck ((0:Int)<=2/\2<=I A1.length/\I A1.length<=I A1.length)<|
 ck (Uz A2)<|
 ci (Lib.index A2 ([42,47]:List UInt8)<0) (I0 at_ false)<|
 ck (Ap (Lib.index A2 ([42,47]:List UInt8)+4))<|
 ck (Ap (at_+(Lib.index A2 ([42,47]:List UInt8)+4)))<|
 tK.1 s (at_+(Lib.index A2 ([42,47]:List UInt8)+4)))<|
 I0 at_ true)<|
 I0 at_ true
def J0.kS (tK:J0.KT):J0.KT:=(To.kB tK,())
def J0.kL (n:Nat):J0.KT:=Cv J0.kS n
def J0.k0 (tK:J0.KT) (s:List UInt8):LI Int Bool:=
 tK.1 s 0
def J0.k (s:List UInt8):LI Int Bool:=J0.k0 (J0.kL 1000000) s
def J0.Kc:=kd 43 J0.p fun x=>J0.k x.1.1
theorem J0.Kh:J0.Kc.Holds prog:=E7 AH (hc indexByte.holds (hc hasPrefix.holds (hc index.holds hn))) J0.ok (fun t x=>J0.k0 t x.1.1) (fun c=>(fun s at_=>c 2 J0.q2 rfl ((s,at_,()),()),())) J0.kS (by kernel_rfl)
def Uw.k (c:Int):F8 Bool:=
 let z1:F8 Bool:=
 ci (65<=c) (ci (c<=90) (ED true)<|
 ED (decide (c=95)))<|
 ED (decide (c=95))
 ci (97<=c) (ci (c<=122) (ED true)<|
 z1)<|
 z1
def Uw.Kc:=kd 82 Uw.p fun x=>Uw.k x.1.1
theorem Uw.Kh:Uw.Kc.Holds prog:=kh AH hn Uw.ok (by kernel_rfl)
def Ux.k (c:Int):F8 Bool:=
 ci (48<=c) (ED (decide (c<=57)))<|
 ED false
def Ux.Kc:=kd 85 Ux.p fun x=>Ux.k x.1.1
theorem Ux.Kh:Ux.Kc.Holds prog:=kh AH hn Ux.ok (by kernel_rfl)
abbrev Tu.T:Type:=List UInt8->Int->F8 Int
abbrev Jk.KT:Type:=Tu.T×Unit
def Tu.kB (tK:Jk.KT):Tu.T:=fun s n=>
 ci (n<I s.length) (ck (0<=n/\n<I s.length)<|
 (Uw.k (Cf s n)).bind fun y3=>
 ci y3.1.1 (ck (Ap (n+1))<|
 tK.1 s (n+1))<|
 ck (0<=n/\n<I s.length)<|
 (Ux.k (Cf s n)).bind fun y5=>
 ci y5.1.1 (ck (Ap (n+1))<|
 tK.1 s (n+1))<|
 ED n)<|
 ED n
def Jk.kS (tK:Jk.KT):Jk.KT:=(Tu.kB tK,())
def Jk.kL (n:Nat):Jk.KT:=Cv Jk.kS n
def Jk.k0 (tK:Jk.KT) (s:List UInt8):F8 Int:=
 tK.1 s 0
def Jk.k (s:List UInt8):F8 Int:=Jk.k0 (Jk.kL 1000000) s
def Jk.Kc:=kd 83 Jk.p fun x=>Jk.k x.1.1
theorem Jk.Kh:Jk.Kc.Holds prog:=E7 AH (hc Uw.Kh (hc Ux.Kh hn)) Jk.ok (fun t x=>Jk.k0 t x.1.1) (fun c=>(fun s n=>c 2 Jk.q2 rfl ((s,n,()),()),())) Jk.kS (by kernel_rfl)
def XK.k (w:List UInt8):F8 Bool:=
 ci (!(w=[])) (ck (Uz w)<|
 ci (!Lib.contains w ([32]:List UInt8)) (ck (([32]:List UInt8).length+w.length<=9223372036854775807)<|
 ck (((32:UInt8)::[]++w).length+([32]:List UInt8).length<=9223372036854775807)<|
 ck (Uz (([32,98,114,101,97,107,32,99,97,115,101,32,99,104,97,114,32,99,111,110,116,105,110,117,101,32,100,101,102,97,117,108,116,32,100,111,32,101,108,115,101,32,102,111,114,32,103,101,116,99,32,103,111,116,111,32,105,102]:List UInt8).append ([32,105,110,116,32,112,117,116,99,32,114,101,116,117,114,110,32,115,105,122,101,111,102,32,115,116,114,117,99,116,32,115,119,105,116,99,104,32,117,110,115,105,103,110,101,100,32,118,111,105,100,32,119,104,105,108,101,32]:List UInt8)))<|
 ED (Lib.contains (([32,98,114,101,97,107,32,99,97,115,101,32,99,104,97,114,32,99,111,110,116,105,110,117,101,32,100,101,102,97,117,108,116,32,100,111,32,101,108,115,101,32,102,111,114,32,103,101,116,99,32,103,111,116,111,32,105,102]:List UInt8).append ([32,105,110,116,32,112,117,116,99,32,114,101,116,117,114,110,32,115,105,122,101,111,102,32,115,116,114,117,99,116,32,115,119,105,116,99,104,32,117,110,115,105,103,110,101,100,32,118,111,105,100,32,119,104,105,108,101,32]:List UInt8)) ((32:UInt8)::[]++w++(32:UInt8)::[])))<|
 ED false)<|
 ED false
def XK.Kc:=kd 84 XK.p fun x=>XK.k x.1.1
theorem XK.Kh:XK.Kc.Holds prog:=kh AH (hc contains.holds hn) XK.ok (by kernel_rfl)
def Se.k (kind n size:Int) (b0:List UInt8):VK Dop.Tok Int (List UInt8×Unit):=
 ck ((0:Int)<=0/\0<=size/\size<=I b0.length)<|
 Pw (Dop.Tok.mk kind (List.drop (Int.toNat 0) (List.take size.toNat b0)) n 0) 0 (b0,())
def Se.Kc:=kd 81 Se.p fun x=>Se.k x.1.1 x.1.2.1 x.1.2.2.1 x.2.1.1
theorem Se.Kh:Se.Kc.Holds prog:=kh AH hn Se.ok (by kernel_rfl)
abbrev Tv.T:Type:=List UInt8->Int->Int->Int->Int->LI Int Bool
abbrev J2.KT:Type:=Tv.T×Unit
def Tv.kB (tK:J2.KT):Tv.T:=fun s base n t34 t35=>
 let A1:=Lib.toLowerA (List.drop t35.toNat (List.take (t35+1).toNat s))
 ci (t35<t34) (ck (Ap (t35+1))<|
 ck (0<=t35/\t35<=t35+1/\t35+1<=I s.length)<|
 ck (aO (List.drop t35.toNat (List.take (t35+1).toNat s)))<|
 ck ((0:Int)<=0/\0<I A1.length)<|
 ck true<|
 ci (Lib.indexByte ([48,49,50,51,52,53,54,55,56,57,97,98,99,100,101,102]:List UInt8) (Cf A1 0).toNat.toUInt8<0) (I0 0 false)<|
 ci (base<=Lib.indexByte ([48,49,50,51,52,53,54,55,56,57,97,98,99,100,101,102]:List UInt8) (Cf A1 0).toNat.toUInt8) (I0 0 false)<|
 ck (Ap (n*base))<|
 ck (Ap (n*base+Lib.indexByte ([48,49,50,51,52,53,54,55,56,57,97,98,99,100,101,102]:List UInt8) (Cf A1 0).toNat.toUInt8))<|
 ci (4294967295<n*base+Lib.indexByte ([48,49,50,51,52,53,54,55,56,57,97,98,99,100,101,102]:List UInt8) (Cf A1 0).toNat.toUInt8) (I0 0 false)<|
 ck (Ap (t35+1))<|
 tK.1 s base (n*base+Lib.indexByte ([48,49,50,51,52,53,54,55,56,57,97,98,99,100,101,102]:List UInt8) (Cf A1 0).toNat.toUInt8) t34 (t35+1))<|
 I0 n (!decide (s=[]))
def J2.kS (tK:J2.KT):J2.KT:=(Tv.kB tK,())
def J2.kL (n:Nat):J2.KT:=Cv J2.kS n
def J2.k0 (tK:J2.KT) (s:List UInt8):LI Int Bool:=
 let A3:=List.drop (Int.toNat 2) (List.take (I s.length).toNat s)
 let A1:=List.drop (Int.toNat 0) (List.take (I s.length -1).toNat s)
 let A2:=List.drop (Int.toNat 2) (List.take (I A1.length).toNat A1)
 let z1:LI Int Bool:=
 let z3:LI Int Bool:=
 ck ((0:Int)<=2/\2<=I A1.length/\I A1.length<=I A1.length)<|
 tK.1 A2 16 0 (I A2.length) 0
 ck ((0:Int)<=0/\0<=I s.length -1/\I s.length -1<=I s.length)<|
 ck true<|
 ci (Lib.hasPrefix A1 ([48,120]:List UInt8)) (z3)<|
 ck true<|
 ci (Lib.hasPrefix A1 ([48,88]:List UInt8)) (z3)<|
 tK.1 A1 10 0 (I A1.length) 0
 let z2:LI Int Bool:=
 ck ((0:Int)<=2/\2<=I s.length/\I s.length<=I s.length)<|
 tK.1 A3 16 0 (I A3.length) 0
 ck (Ap (I s.length -1))<|
 ck (0<=I s.length -1/\I s.length -1<I s.length)<|
 ci (Cf s (I s.length -1)=117) (z1)<|
 ck (0<=I s.length -1/\I s.length -1<I s.length)<|
 ci (Cf s (I s.length -1)=85) (z1)<|
 ck true<|
 ci (Lib.hasPrefix s ([48,120]:List UInt8)) (z2)<|
 ck true<|
 ci (Lib.hasPrefix s ([48,88]:List UInt8)) (z2)<|
 tK.1 s 10 0 (I s.length) 0
def J2.k (s:List UInt8):LI Int Bool:=J2.k0 (J2.kL 1000000) s
def J2.Kc:=kd 86 J2.p fun x=>J2.k x.1.1
theorem J2.Kh:J2.Kc.Holds prog:=E7 AH (hc hasPrefix.holds (hc lower.holds (hc indexByte.holds hn))) J2.ok (fun t x=>J2.k0 t x.1.1) (fun c=>(fun s base n t34 t35=>c 9 J2.q9 rfl ((s,base,n,t34,t35,()),()),())) J2.kS (by kernel_rfl)
def XL.k (s:List UInt8):LI Int Int:=
 let z1:LI Int Int:=
 ci (3<=I s.length) (ck ((0:Int)<=1/\1<I s.length)<|
 ci (!(Cf s (1:Int)=39)) (ck ((0:Int)<=1/\1<I s.length)<|
 ci (!(Cf s (1:Int)=92)) (ck ((0:Int)<=1/\1<I s.length)<|
 ci (!(Cf s (1:Int)=10)) (ck ((0:Int)<=2/\2<I s.length)<|
 ci (Cf s (2:Int)=39) (ck ((0:Int)<=1/\1<I s.length)<|
 ck (Ap (Cf s 1))<|
 I0 (Cf s 1) 3)<|
 I0 0 0)<|
 I0 0 0)<|
 I0 0 0)<|
 I0 0 0)<|
 I0 0 0
 ci (4<=I s.length) (ck ((0:Int)<=1/\1<I s.length)<|
 ci (Cf s (1:Int)=92) (ck ((0:Int)<=3/\3<I s.length)<|
 ci (Cf s (3:Int)=39) (ck ((0:Int)<=2/\2<I s.length)<|
 ci ((DP (Dn (Dn (Dn (Dn (Dn (([]:List (Int×Int))) 110 10) 116 9) 48 0) 92 92) 39 39) (Cf s 2)).isSome) (I0 ((DP (Dn (Dn (Dn (Dn (Dn (([]:List (Int×Int))) 110 10) 116 9) 48 0) 92 92) 39 39) (Cf s 2)).getD 0) 4)<|
 I0 0 0)<|
 z1)<|
 z1)<|
 z1
def XL.Kc:=kd 87 XL.p fun x=>XL.k x.1.1
theorem XL.Kh:XL.Kc.Holds prog:=kh AH hn XL.ok (by kernel_rfl)
def Mn.k :F8 (List (List UInt8)):=
 ck (aO (([60,60,61,32,62,62,61,32,43,43,32,45,45,32,45,62,32,43,61,32,45,61,32,42,61,32,47,61,32,37,61,32,38,61,32,124,61,32,94,61,32,60,60,32,62,62,32,60,61,32,62,61,32,61,61,32]:List UInt8).append ([33,61,32,38,38,32,124,124,32,43,32,45,32,42,32,47,32,37,32,38,32,124,32,94,32,126,32,33,32,60,32,62,32,61,32,63,32,58,32,59,32,44,32,46,32,40,32,41,32,91,32,93,32,123,32,125]:List UInt8)) && ((Lib.fields (([60,60,61,32,62,62,61,32,43,43,32,45,45,32,45,62,32,43,61,32,45,61,32,42,61,32,47,61,32,37,61,32,38,61,32,124,61,32,94,61,32,60,60,32,62,62,32,60,61,32,62,61,32,61,61,32]:List UInt8).append ([33,61,32,38,38,32,124,124,32,43,32,45,32,42,32,47,32,37,32,38,32,124,32,94,32,126,32,33,32,60,32,62,32,61,32,63,32,58,32,59,32,44,32,46,32,40,32,41,32,91,32,93,32,123,32,125]:List UInt8))).length<=maxLen))<|
 ED (List.map (fun (a:List UInt8)=>a) (Lib.fields (([60,60,61,32,62,62,61,32,43,43,32,45,45,32,45,62,32,43,61,32,45,61,32,42,61,32,47,61,32,37,61,32,38,61,32,124,61,32,94,61,32,60,60,32,62,62,32,60,61,32,62,61,32,61,61,32]:List UInt8).append ([33,61,32,38,38,32,124,124,32,43,32,45,32,42,32,47,32,37,32,38,32,124,32,94,32,126,32,33,32,60,32,62,32,61,32,63,32,58,32,59,32,44,32,46,32,40,32,41,32,91,32,93,32,123,32,125]:List UInt8))))
def Mn.Kc:=kd 141 Mn.p fun x=>Mn.k
theorem Mn.Kh:Mn.Kc.Holds prog:=kh AH (hc fields.holds hn) Mn.ok (by kernel_rfl)
abbrev Tw.T:Type:=List UInt8->(List (List UInt8))->Int->Int->F8 (List UInt8)
abbrev J3.KT:Type:=Tw.T×Unit
def Tw.kB (tK:J3.KT):Tw.T:=fun s t5 t6 t7=>
 let A1:=List.getD t5 t7.toNat []
 ci (t7<t6) (ck (0<=t7/\t7<I t5.length)<|
 ck (t7.toNat<t5.length)<|
 ck true<|
 ci (Lib.hasPrefix s A1) (ED A1)<|
 ck (Ap (t7+1))<|
 tK.1 s t5 t6 (t7+1))<|
 ED []
def J3.kS (tK:J3.KT):J3.KT:=(Tw.kB tK,())
def J3.kL (n:Nat):J3.KT:=Cv J3.kS n
def J3.k0 (tK:J3.KT) (s:List UInt8):F8 (List UInt8):=
 (Mn.k).bind fun y2=>
 tK.1 s y2.1.1 (I y2.1.1.length) 0
def J3.k (s:List UInt8):F8 (List UInt8):=J3.k0 (J3.kL 1000000) s
def J3.Kc:=kd 88 J3.p fun x=>J3.k x.1.1
theorem J3.Kh:J3.Kc.Holds prog:=E7 AH (hc Mn.Kh (hc hasPrefix.holds hn)) J3.ok (fun t x=>J3.k0 t x.1.1) (fun c=>(fun s t5 t6 t7=>c 2 J3.q2 rfl ((s,t5,t6,t7,()),()),())) J3.kS (by kernel_rfl)
def XI.k (o:List UInt8):LI Dop.Tok Int:=
 ck ((0:Int)<=0/\0<I o.length)<|
 (Uw.k (Cf o 0)).bind fun y2=>
 ci y2.1.1 ((Jk.k o).bind fun y4=>
 ck ((0:Int)<=0/\0<=y4.1.1/\y4.1.1<=I o.length)<|
 (XK.k (List.drop (Int.toNat 0) (List.take y4.1.1.toNat o))).bind fun y5=>
 ci y5.1.1 ((Se.k 2 0 y4.1.1 o).bind Ly)<|
 (Se.k 1 0 y4.1.1 o).bind Ly)<|
 ck ((0:Int)<=0/\0<I o.length)<|
 (Ux.k (Cf o 0)).bind fun y4=>
 ci y4.1.1 ((Jk.k o).bind fun y6=>
 ck ((0:Int)<=0/\0<=y6.1.1/\y6.1.1<=I o.length)<|
 (J2.k (List.drop (Int.toNat 0) (List.take y6.1.1.toNat o))).bind fun y7=>
 ci (!y7.1.2.1) (I0 (Dop.Tok.mk 0 [] 0 0) 3)<|
 (Se.k 3 y7.1.1 y6.1.1 o).bind Ly)<|
 ck ((0:Int)<=0/\0<I o.length)<|
 ci (Cf o (0:Int)=39) ((XL.k o).bind fun y7=>
 ci (0<y7.1.2.1) ((Se.k 3 y7.1.1 y7.1.2.1 o).bind Ly)<|
 I0 (Dop.Tok.mk 0 [] 0 0) 2)<|
 (J3.k o).bind fun y7=>
 ci (!(y7.1.1=[])) ((Se.k 4 0 (I y7.1.1.length) o).bind Ly)<|
 I0 (Dop.Tok.mk 0 [] 0 0) 2
def XI.Kc:=kd 44 XI.p fun x=>XI.k x.1.1
theorem XI.Kh:XI.Kc.Holds prog:=kh AH (hc Uw.Kh (hc Jk.Kh (hc XK.Kh (hc Se.Kh (hc Ux.Kh (hc J2.Kh (hc XL.Kh (hc J3.Kh hn)))))))) XI.ok (by kernel_rfl)
abbrev Ti.T:Type:=List UInt8->List Dop.Tok->Int->Oe (List Dop.Tok) Int Int
abbrev m19.KT:Type:=Ti.T×Unit
def Ti.kB (tK:m19.KT):Ti.T:=fun s out at_=>
 let A1:=List.take (I s.length).toNat s
 ck (0<=at_/\at_<=I s.length/\I s.length<=I s.length)<|
 (J0.k (List.drop at_.toNat A1)).bind fun y2=>
 ck (Ap (at_+y2.1.1))<|
 ci (!y2.1.2.1) (Ds [] (at_+y2.1.1) 2)<|
 ci (at_+y2.1.1=I s.length) (ck (Cc none (room 40 (out.length+(Dop.Tok.mk 0 [] 0 (at_+y2.1.1)::[]).length)))<|
 Ds (out++Dop.Tok.mk 0 [] 0 (at_+y2.1.1)::[]) 0 0)<|
 ck (0<=at_+y2.1.1/\at_+y2.1.1<=I s.length/\I s.length<=I s.length)<|
 (XI.k (List.drop (at_+y2.1.1).toNat A1)).bind fun y5=>
 ci (!(y5.1.2.1=0)) (Ds [] (at_+y2.1.1) y5.1.2.1)<|
 ci (I out.length=8192) (Ds [] (at_+y2.1.1) 4)<|
 ck (Cc none (room 40 (out.length+(Dop.Tok.mk y5.1.1.kind y5.1.1.text y5.1.1.n (at_+y2.1.1)::[]).length)))<|
 ck (Ap (at_+y2.1.1+I y5.1.1.text.length))<|
 tK.1 s (out++Dop.Tok.mk y5.1.1.kind y5.1.1.text y5.1.1.n (at_+y2.1.1)::[]) (at_+y2.1.1+I y5.1.1.text.length)
def m19.kS (tK:m19.KT):m19.KT:=(Ti.kB tK,())
def m19.kL (n:Nat):m19.KT:=Cv m19.kS n
def m19.k0 (tK:m19.KT) (s:List UInt8):Oe (List Dop.Tok) Int Int:=
 ci (32768<I s.length) (Ds [] 0 4)<|
 tK.1 s [] 0
def m19.k (s:List UInt8):Oe (List Dop.Tok) Int Int:=m19.k0 (m19.kL 1000000) s
def m19.Kc:=kd 19 m19.p fun x=>m19.k x.1.1
theorem m19.Kh:m19.Kc.Holds prog:=E7 AH (hc J0.Kh (hc XI.Kh hn)) m19.ok (fun t x=>m19.k0 t x.1.1) (fun c=>(fun s out at_=>c 5 m19.q5 rfl ((s,out,at_,()),()),())) m19.kS (by kernel_rfl)
def My.k (b0_0:List Dop.Tok) (b0_1 b0_4 b0_5 b0_6 b0_7:Int):R1 Int (List Dop.Tok×Int×Unit×Unit×Int×Int×Int×Int×Unit):=
 let A1:=List.getD b0_0 (I b0_0.length -1).toNat Dop.d4
 let A2:=A1.at_+I A1.text.length
 ci (I b0_0.length=0) (CS 0 (b0_0,(b0_1,((),((),(b0_4,(b0_5,(b0_6,(b0_7,())))))))))<|
 ck (Ap (I b0_0.length -1))<|
 ck (0<=I b0_0.length -1/\I b0_0.length -1<I b0_0.length)<|
 ck (Ap A2)<|
 CS A2 (b0_0,(b0_1,((),((),(b0_4,(b0_5,(b0_6,(b0_7,()))))))))
def My.Kc:=kd 89 My.p fun x=>My.k x.2.1.1 x.2.1.2.1 x.2.1.2.2.2.2.1 x.2.1.2.2.2.2.2.1 x.2.1.2.2.2.2.2.2.1 x.2.1.2.2.2.2.2.2.2.1
theorem My.Kh:My.Kc.Holds prog:=kh AH hn My.ok (by kernel_rfl)
def Mw.k (b0_0:List Dop.Tok) (b0_1 b0_4 b0_5 b0_6 b0_7:Int):R1 Dop.Tok (List Dop.Tok×Int×Unit×Unit×Int×Int×Int×Int×Unit):=
 let A1:=My.k b0_0 b0_1 b0_4 b0_5 b0_6 b0_7
 ci (!(b0_6=0)) (A1.bind fun y3=>
 CS (Dop.Tok.mk 0 [] 0 y3.1.1) (y3.2.1.1,(y3.2.1.2.1,((),((),(y3.2.1.2.2.2.2.1,(y3.2.1.2.2.2.2.2.1,(y3.2.1.2.2.2.2.2.2.1,(y3.2.1.2.2.2.2.2.2.2.1,())))))))))<|
 ci (I b0_0.length<=b0_1) (A1.bind fun y4=>
 CS (Dop.Tok.mk 0 [] 0 y4.1.1) (y4.2.1.1,(y4.2.1.2.1,((),((),(y4.2.1.2.2.2.2.1,(y4.2.1.2.2.2.2.2.1,(y4.2.1.2.2.2.2.2.2.1,(y4.2.1.2.2.2.2.2.2.2.1,())))))))))<|
 ck (0<=b0_1/\b0_1<I b0_0.length)<|
 CS (List.getD b0_0 b0_1.toNat Dop.d4) (b0_0,(b0_1,((),((),(b0_4,(b0_5,(b0_6,(b0_7,()))))))))
def Mw.Kc:=kd 45 Mw.p fun x=>Mw.k x.2.1.1 x.2.1.2.1 x.2.1.2.2.2.2.1 x.2.1.2.2.2.2.2.1 x.2.1.2.2.2.2.2.2.1 x.2.1.2.2.2.2.2.2.2.1
theorem Mw.Kh:Mw.Kc.Holds prog:=kh AH (hc My.Kh hn) Mw.ok (by kernel_rfl)
def Iy.k (s:List UInt8) (b0_0:List Dop.Tok) (b0_1 b0_4 b0_5 b0_6 b0_7:Int):R1 Bool (List Dop.Tok×Int×Unit×Unit×Int×Int×Int×Int×Unit):=
 (Mw.k b0_0 b0_1 b0_4 b0_5 b0_6 b0_7).bind fun y2=>
 ci (y2.1.1.kind=4) (CS (decide (y2.1.1.text=s)) (y2.2.1.1,(y2.2.1.2.1,((),((),(y2.2.1.2.2.2.2.1,(y2.2.1.2.2.2.2.2.1,(y2.2.1.2.2.2.2.2.2.1,(y2.2.1.2.2.2.2.2.2.2.1,())))))))))<|
 ci (y2.1.1.kind=2) (CS (decide (y2.1.1.text=s)) (y2.2.1.1,(y2.2.1.2.1,((),((),(y2.2.1.2.2.2.2.1,(y2.2.1.2.2.2.2.2.1,(y2.2.1.2.2.2.2.2.2.1,(y2.2.1.2.2.2.2.2.2.2.1,())))))))))<|
 CS false (y2.2.1.1,(y2.2.1.2.1,((),((),(y2.2.1.2.2.2.2.1,(y2.2.1.2.2.2.2.2.1,(y2.2.1.2.2.2.2.2.2.1,(y2.2.1.2.2.2.2.2.2.2.1,()))))))))
def Iy.Kc:=kd 91 Iy.p fun x=>Iy.k x.1.2.1 x.2.1.1 x.2.1.2.1 x.2.1.2.2.2.2.1 x.2.1.2.2.2.2.2.1 x.2.1.2.2.2.2.2.2.1 x.2.1.2.2.2.2.2.2.2.1
theorem Iy.Kh:Iy.Kc.Holds prog:=kh AH (hc Mw.Kh hn) Iy.ok (by kernel_rfl)
def He.k (b0_0:List Dop.Tok) (b0_1 b0_4 b0_5 b0_6 b0_7:Int):R1 Bool (List Dop.Tok×Int×Unit×Unit×Int×Int×Int×Int×Unit):=
 (Iy.k ([105,110,116]:List UInt8) b0_0 b0_1 b0_4 b0_5 b0_6 b0_7).bind fun y2=>
 ci y2.1.1 (CS true (y2.2.1.1,(y2.2.1.2.1,((),((),(y2.2.1.2.2.2.2.1,(y2.2.1.2.2.2.2.2.1,(y2.2.1.2.2.2.2.2.2.1,(y2.2.1.2.2.2.2.2.2.2.1,())))))))))<|
 (Iy.k ([117,110,115,105,103,110,101,100]:List UInt8) y2.2.1.1 y2.2.1.2.1 y2.2.1.2.2.2.2.1 y2.2.1.2.2.2.2.2.1 y2.2.1.2.2.2.2.2.2.1 y2.2.1.2.2.2.2.2.2.2.1).bind fun y4=>
 ci y4.1.1 (CS true (y4.2.1.1,(y4.2.1.2.1,((),((),(y4.2.1.2.2.2.2.1,(y4.2.1.2.2.2.2.2.1,(y4.2.1.2.2.2.2.2.2.1,(y4.2.1.2.2.2.2.2.2.2.1,())))))))))<|
 (Iy.k ([99,104,97,114]:List UInt8) y4.2.1.1 y4.2.1.2.1 y4.2.1.2.2.2.2.1 y4.2.1.2.2.2.2.2.1 y4.2.1.2.2.2.2.2.2.1 y4.2.1.2.2.2.2.2.2.2.1).bind fun y6=>
 ci y6.1.1 (CS true (y6.2.1.1,(y6.2.1.2.1,((),((),(y6.2.1.2.2.2.2.1,(y6.2.1.2.2.2.2.2.1,(y6.2.1.2.2.2.2.2.2.1,(y6.2.1.2.2.2.2.2.2.2.1,())))))))))<|
 (Iy.k ([118,111,105,100]:List UInt8) y6.2.1.1 y6.2.1.2.1 y6.2.1.2.2.2.2.1 y6.2.1.2.2.2.2.2.1 y6.2.1.2.2.2.2.2.2.1 y6.2.1.2.2.2.2.2.2.2.1).bind fun y8=>
 ci y8.1.1 (CS true (y8.2.1.1,(y8.2.1.2.1,((),((),(y8.2.1.2.2.2.2.1,(y8.2.1.2.2.2.2.2.1,(y8.2.1.2.2.2.2.2.2.1,(y8.2.1.2.2.2.2.2.2.2.1,())))))))))<|
 (Iy.k ([115,116,114,117,99,116]:List UInt8) y8.2.1.1 y8.2.1.2.1 y8.2.1.2.2.2.2.1 y8.2.1.2.2.2.2.2.1 y8.2.1.2.2.2.2.2.2.1 y8.2.1.2.2.2.2.2.2.2.1).bind fun y10=>
 CS y10.1.1 (y10.2.1.1,(y10.2.1.2.1,((),((),(y10.2.1.2.2.2.2.1,(y10.2.1.2.2.2.2.2.1,(y10.2.1.2.2.2.2.2.2.1,(y10.2.1.2.2.2.2.2.2.2.1,()))))))))
def He.Kc:=kd 204 He.p fun x=>He.k x.2.1.1 x.2.1.2.1 x.2.1.2.2.2.2.1 x.2.1.2.2.2.2.2.1 x.2.1.2.2.2.2.2.2.1 x.2.1.2.2.2.2.2.2.2.1
theorem He.Kh:He.Kc.Holds prog:=kh AH (hc Iy.Kh hn) He.ok (by kernel_rfl)
end
end Go.Proofs.Tryz
