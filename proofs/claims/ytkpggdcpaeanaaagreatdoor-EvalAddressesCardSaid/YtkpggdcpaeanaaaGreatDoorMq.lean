/- A function's model that the kernel can run: its trees, so many cuts deep (Env.runF); that it is a contract. -/
import Derived.Test.YtkpggdcpaeanaaaGreatDoorMo
import Derived.Test.YtkpggdcpaeanaaaGreatDoorMi
import Derived.Test.YtkpggdcpaeanaaaGreatDoorMj
set_option linter.all false
namespace Go.En
open Go.RowKit
section
variable {S:Aj} {P:Program}
def Env.Fm (E:Env S) (f0 n:Nat) (sp:Spec) (x:sp.D S):Option (E.rs.D S):=(I0 E f0 sp x).eval (EK (E.step f0) n)
def Env.X3 (E:Env S) (f0 n:Nat) (J:Jump E) (sp:Spec) (x:sp.D S):Option (E.rs.D S):=(I0 E f0 sp x).eval (EK (E.IL f0 J) n)
theorem QN {f:Nat} {tb:List (Nat×TI)} {ct:List (Bp S)} {p:Af} (f0 n:Nat) (htb:AW S P tb) (hct: ∀ c∈ct,c.Holds P) (h:AG S P f p=true):
  Bp.Holds P ⟨f,p.bn,p.sp,p.rs,p.flat,.opt ((Ae P f tb ct p).Fm f0 n p.sp)⟩:=by
 obtain ⟨hE,hb,h3,fn,hf,hbody,hn,hres⟩:=GO htb hct h
 simp only [AG,Bool.and_eq_true] at h
 obtain ⟨⟨⟨⟨⟨⟨⟨⟨_,h2⟩,_⟩,_⟩,h5⟩,_⟩,_⟩,_⟩,_⟩:=h
 refine ⟨hb,h3,fun hfl=>?_,fun x y hxy w D β vs o m he hg hon _ hiv=>?_⟩
 ·simp only at hfl;rw [hfl] at h5;simpa using h5
 ·exact N6 (out:=.opt ((Ae P f tb ct p).Fm f0 n p.sp)) hE hf hbody hn hres (Nat.le_of_ble_eq_true h2) (EK ((Ae P f tb ct p).step f0)) (fun _ _=>rfl) (fun n k q h x y hy=>by simp only [EK,Env.step_mk] at hy;exact hy) (show _=some y from hxy) he hg hon hiv
theorem Ub {f:Nat} {tb:List (Nat×TI)} {ct:List (Bp S)} {p:Af} (f0 n:Nat) (htb:AW S P tb) (hct: ∀ c∈ct,c.Holds P) (h:AG S P f p=true) (J:Jump (Ae P f tb ct p)) (hJ:J.Ok P):
  Bp.Holds P ⟨f,p.bn,p.sp,p.rs,p.flat,.opt ((Ae P f tb ct p).X3 f0 n J p.sp)⟩:=by
 obtain ⟨hE,hb,h3,fn,hf,hbody,hn,hres⟩:=GO htb hct h
 simp only [AG,Bool.and_eq_true] at h
 obtain ⟨⟨⟨⟨⟨⟨⟨⟨_,h2⟩,_⟩,_⟩,h5⟩,_⟩,_⟩,_⟩,_⟩:=h
 refine ⟨hb,h3,fun hfl=>?_,fun x y hxy w D β vs o m he hg hon _ hiv=>?_⟩
 ·simp only at hfl;rw [hfl] at h5;simpa using h5
 ·exact SO (out:=.opt ((Ae P f tb ct p).X3 f0 n J p.sp)) hE hJ hf hbody hn hres (Nat.le_of_ble_eq_true h2) (show _=some y from hxy) he hg hon hiv
end
end Go.En
/- Loops in plain words: a model that is reckoned round by round. -/
namespace Go.En
open Go.RowKit
section
variable {S:Aj} {P:Program}
theorem Xu {α:Type} (T:Nat->α) (z:α) (s:α->α) (h0:T 0=z) (hs: ∀ n,T (n+1)=s (T n)): ∀ n,T n=Nat.rec (motive:=fun _=>α) z (fun _ r=>s r) n
 | 0=>h0
 | n+1=>by rw [hs n,Xu T z s h0 hs n]
theorem TM {f bn:Nat} {sp rs:Spec} {flat:Bool} {α:Type} {m:Nat->sp.D S->Option (rs.D S)} (h: ∀ N,Bp.Holds P ⟨f,bn,sp,rs,flat,.opt (m N)⟩) (g:α->sp.D S->Option (rs.D S)) (T:Nat->α) (z:α) (s:α->α) (N:Nat)
  (h0:T 0=z) (hs: ∀ n,T (n+1)=s (T n)) (hm: ∀ N,m N=g (T N)):Bp.Holds P ⟨f,bn,sp,rs,flat,.opt (g (Nat.rec (motive:=fun _=>α) z (fun _ r=>s r) N))⟩:=by
 have e:=h N
 rw [hm N,Xu T z s h0 hs N] at e
 exact e
theorem hc {l:List (Bp S)} {c:Bp S} (h:c.Holds P) (k: ∀ c∈l,c.Holds P): ∀ d∈c::l,d.Holds P:=Az h k
theorem hn: ∀ d∈([]:List (Bp S)),d.Holds P:=B7
def kc (f:Nat) (p:Af) (m:p.sp.D S->Option (p.rs.D S)):Bp S:=⟨f,p.bn,p.sp,p.rs,p.flat,.opt m⟩
class NN (α:Type) where
 nn:α
instance {α:Type}:NN (Option α):=⟨none⟩
instance:NN Unit:=⟨()⟩
instance {α β:Type} [NN β]:NN (α->β):=⟨fun _=>NN.nn⟩
instance {α β:Type} [NN α] [NN β]:NN (α×β):=⟨(NN.nn,NN.nn)⟩
def DA {α:Type} [NN α] (s:α->α) (n:Nat):α:=Nat.rec (motive:=fun _=>α) NN.nn (fun _ r=>s r) n
section
variable {f:Nat} {tb:List (Nat×TI)} {p:Af} {ct:List (Bp S)}
theorem kh (htb:AW S P tb) (h: ∀ c∈ct,c.Holds P) (ok:AG S P f p=true) {k:p.sp.D S->Option (p.rs.D S)} (e:k=(Ae P f tb ct p).Fm 3000 1000000 p.sp):(kc f p k).Holds P:=R0 (QN 3000 1000000 htb h ok) (by unfold kc;rw [e])
def fK (E:Env S) (n c:Nat) (q:Cut) (h:lk E.Cs c=some q) (x:q.sp.D S):Option E.ρ:=EK (E.step 3000) n c (Ds E c q h x)
theorem GD (htb:AW S P tb) (h: ∀ c∈ct,c.Holds P) (ok:AG S P f p=true) {k:p.sp.D S->Option (p.rs.D S)} {α:Type} [NN α] (g:α->p.sp.D S->Option (p.rs.D S)) (T:((c:Nat)->(q:Cut)->lk p.Cs c=some q->q.sp.D S->Option (p.rs.D S))->α) (s:α->α)
  (e:(T (fK (Ae P f tb ct p) 0),(fun n=>T (fK (Ae P f tb ct p) (n+1))),(fun N=>(Ae P f tb ct p).Fm 3000 N p.sp),k)=(NN.nn,(fun n=>s (T (fK (Ae P f tb ct p) n))),(fun N=>g (T (fK (Ae P f tb ct p) N))),g (DA s 1000000))):(kc f p k).Holds P:=by
 have e0:=congrArg Prod.fst e;have e1:=congrArg (fun x=>x.2.1) e;have e2:=congrArg (fun x=>x.2.2.1) e;have e3:=congrArg (fun x=>x.2.2.2) e
 simp only at e0 e1 e2 e3
 have:=TM (fun N=>QN 3000 N htb h ok) g (fun n=>T (fK (Ae P f tb ct p) n)) _ s 1000000 e0 (fun n=>congrFun e1 n) (fun N=>congrFun e2 N)
 rw [e3];exact this
def Ve (E:Env S) (J:Jump E) (n c:Nat) (q:Cut) (h:lk E.Cs c=some q) (x:q.sp.D S):Option E.ρ:=EK (E.IL 3000 J) n c (Ds E c q h x)
theorem kn (htb:AW S P tb) (h: ∀ c∈ct,c.Holds P) (ok:AG S P f p=true) {k:p.sp.D S->Option (p.rs.D S)} (J:Jump (Ae P f tb ct p)) (hJ:J.Ok P) {α:Type} [NN α] (g:α->p.sp.D S->Option (p.rs.D S)) (T:((c:Nat)->(q:Cut)->lk p.Cs c=some q->q.sp.D S->Option (p.rs.D S))->α) (s:α->α)
  (e:(T (Ve (Ae P f tb ct p) J 0),(fun n=>T (Ve (Ae P f tb ct p) J (n+1))),(fun N=>(Ae P f tb ct p).X3 3000 N J p.sp),k)=(NN.nn,(fun n=>s (T (Ve (Ae P f tb ct p) J n))),(fun N=>g (T (Ve (Ae P f tb ct p) J N))),g (DA s 1000000))):(kc f p k).Holds P:=by
 have e0:=congrArg Prod.fst e;have e1:=congrArg (fun x=>x.2.1) e;have e2:=congrArg (fun x=>x.2.2.1) e;have e3:=congrArg (fun x=>x.2.2.2) e
 simp only at e0 e1 e2 e3
 have:=TM (fun N=>Ub 3000 N htb h ok J hJ) g (fun n=>T (Ve (Ae P f tb ct p) J n)) _ s 1000000 e0 (fun n=>congrFun e1 n) (fun N=>congrFun e2 N)
 rw [e3];exact this
end
end
def ck {α:Type} (b:Bool) (x:Option α):Option α:=if b=true then x else none
def ci {α:Type} (b:Bool) (x y:α):α:=if b=true then x else y
abbrev iZ (δ:Type):Type:=Option (Unit×(δ×Unit))
def eo {δ:Type} (x:δ):iZ δ:=some ((),(x,()))
def ky {δ τ σ:Type} (x:τ×(δ×σ)):iZ δ:=eo x.2.1
abbrev OV (δ ε:Type):Type:=Option (Unit×(δ×ε×Unit))
def Zm {δ ε:Type} (x:δ) (y:ε):OV δ ε:=some ((),(x,y,()))
def en {δ ε τ σ:Type} (x:τ×(δ×ε×σ)):OV δ ε:=Zm x.2.1 x.2.2.1
abbrev FN (α:Type):Type:=Option ((α×Unit)×Unit)
def CW {α:Type} (a:α):FN α:=some ((a,()),())
def kA {α τ σ:Type} (x:(α×τ)×σ):FN α:=CW x.1.1
abbrev R1 (α δ:Type):Type:=Option ((α×Unit)×(δ×Unit))
def CJ {α δ:Type} (a:α) (x:δ):R1 α δ:=some ((a,()),(x,()))
def Gh {α δ τ σ:Type} (x:(α×τ)×(δ×σ)):R1 α δ:=CJ x.1.1 x.2.1
abbrev R2 (α δ ε:Type):Type:=Option ((α×Unit)×(δ×ε×Unit))
def Ao {α δ ε:Type} (a:α) (x:δ) (y:ε):R2 α δ ε:=some ((a,()),(x,y,()))
def CN {α δ ε τ σ:Type} (x:(α×τ)×(δ×ε×σ)):R2 α δ ε:=Ao x.1.1 x.2.1 x.2.2.1
abbrev ia (α δ ε ζ:Type):Type:=Option ((α×Unit)×(δ×ε×ζ×Unit))
def iy {α δ ε ζ:Type} (a:α) (x:δ) (y:ε) (z:ζ):ia α δ ε ζ:=some ((a,()),(x,y,z,()))
abbrev Lx (α β:Type):Type:=Option ((α×β×Unit)×Unit)
def I5 {α β:Type} (a:α) (b:β):Lx α β:=some ((a,b,()),())
def Ll {α β τ σ:Type} (x:(α×β×τ)×σ):Lx α β:=I5 x.1.1 x.1.2.1
abbrev VA (α β δ:Type):Type:=Option ((α×β×Unit)×(δ×Unit))
def OH {α β δ:Type} (a:α) (b:β) (x:δ):VA α β δ:=some ((a,b,()),(x,()))
def jd {α β δ τ σ:Type} (x:(α×β×τ)×(δ×σ)):VA α β δ:=OH x.1.1 x.1.2.1 x.2.1
abbrev ib (α β δ ε:Type):Type:=Option ((α×β×Unit)×(δ×ε×Unit))
def iz {α β δ ε:Type} (a:α) (b:β) (x:δ) (y:ε):ib α β δ ε:=some ((a,b,()),(x,y,()))
abbrev OW (α β γ:Type):Type:=Option ((α×β×γ×Unit)×Unit)
def Ln {α β γ:Type} (a:α) (b:β) (c:γ):OW α β γ:=some ((a,b,c,()),())
def kC {α β γ τ σ:Type} (x:(α×β×γ×τ)×σ):OW α β γ:=Ln x.1.1 x.1.2.1 x.1.2.2.1
abbrev kb (α β γ δ:Type):Type:=Option ((α×β×γ×Unit)×(δ×Unit))
abbrev Y1 (α δ:Type):Type:=(α×Unit)×(δ×Unit)
abbrev Y2 (α δ ε:Type):Type:=(α×Unit)×(δ×ε×Unit)
end Go.En
/- What is of the seat in the contracts of twins. -/
namespace Go.Proofs
open Go Go.En
def kd (f:Nat) (p:Af) (m:p.sp.D En.Dop.D4->Option (p.rs.D En.Dop.D4)):Bp En.Dop.D4:=kc f p m
end Go.Proofs
/- Functions in plain words (what their equations say), and their contracts. Written by a program. -/
set_option maxRecDepth 100000
set_option maxHeartbeats 4000000
namespace Go.Proofs.Tryz
open Go Go.En
noncomputable section
def Ko.k (k0:PS):R1 Int PS:=
 let A1:=List.getD k0.l (I k0.l.length -1).toNat Dop.d4
 let A2:=A1.at_+I A1.text.length
 ci (I k0.l.length=0) (CJ 0 k0)<|
 ck (Au (I k0.l.length -1))<|
 ck (0<=I k0.l.length -1/\I k0.l.length -1<I k0.l.length)<|
 ck (Au A2)<|
 CJ A2 k0
def Ko.Kc:=kd 89 Ko.p fun x=>Ko.k x.2.1
theorem Ko.Kh:Ko.Kc.Holds prog:=kh AH hn Ko.ok (by kernel_rfl)
def ET.k (k0:PS):R1 Dop.Tok PS:=
 ci (!(k0.e=0)) ((Ko.k k0).bind fun y3=>
 CJ (Dop.Tok.mk 0 [] 0 y3.1.1) y3.2.1)<|
 ci (I k0.l.length<=k0.at_) ((Ko.k k0).bind fun y4=>
 CJ (Dop.Tok.mk 0 [] 0 y4.1.1) y4.2.1)<|
 ck (0<=k0.at_/\k0.at_<I k0.l.length)<|
 CJ (List.getD k0.l k0.at_.toNat Dop.d4) k0
def ET.Kc:=kd 45 ET.p fun x=>ET.k x.2.1
theorem ET.Kh:ET.Kc.Holds prog:=kh AH (hc Ko.Kh hn) ET.ok (by kernel_rfl)
def FJ.k (kind at_:Int):FN Dop.AU:=
 CW (Dop.AU.mk kind (-1) (-1) (-1) (-1) [] 0 0 at_)
def FJ.Kc:=kd 90 FJ.p fun x=>FJ.k x.1.1 x.1.2.1
theorem FJ.Kh:FJ.Kc.Holds prog:=kh AH hn FJ.ok (by kernel_rfl)
def Mq.k (s:List UInt8) (k0:PS):R1 Bool PS:=
 (ET.k k0).bind fun y2=>
 ci (y2.1.1.kind=4) (CJ (decide (y2.1.1.text=s)) y2.2.1)<|
 ci (y2.1.1.kind=2) (CJ (decide (y2.1.1.text=s)) y2.2.1)<|
 CJ false y2.2.1
def Mq.Kc:=kd 91 Mq.p fun x=>Mq.k x.1.2.1 x.2.1
theorem Mq.Kh:Mq.Kc.Holds prog:=kh AH (hc ET.Kh hn) Mq.ok (by kernel_rfl)
def Cm.k (s:List UInt8) (k0:PS):R1 Bool PS:=
 (Mq.k s k0).bind fun y2=>
 ci (!y2.1.1) (CJ false y2.2.1)<|
 ck (Au (PS.at_ y2.2.1+1))<|
 CJ true (PS.T9 y2.2.1 (PS.at_ y2.2.1+1))
def Cm.Kc:=kd 94 Cm.p fun x=>Cm.k x.1.2.1 x.2.1
theorem Cm.Kh:Cm.Kc.Holds prog:=kh AH (hc Mq.Kh hn) Cm.ok (by kernel_rfl)
def CV.k (e:Int) (k0:PS):iZ PS:=
 ci (k0.e=0) ((ET.k k0).bind fun y3=>
 eo (PS.FE (PS.X5 y3.2.1 e) y3.1.1.at_))<|
 eo k0
def CV.Kc:=kd 142 CV.p fun x=>CV.k x.1.2.1 x.2.1
theorem CV.Kh:CV.Kc.Holds prog:=kh AH (hc ET.Kh hn) CV.ok (by kernel_rfl)
def DG.k (s:List UInt8) (k0:PS):iZ PS:=
 (Cm.k s k0).bind fun y2=>
 ci (!y2.1.1) ((CV.k 5 y2.2.1).bind ky)<|
 eo y2.2.1
def DG.Kc:=kd 92 DG.p fun x=>DG.k x.1.2.1 x.2.1
theorem DG.Kh:DG.Kc.Holds prog:=kh AH (hc Cm.Kh (hc CV.Kh hn)) DG.ok (by kernel_rfl)
def IB.k (k:Int) (k0:PS):R1 Dop.Tok PS:=
 (ET.k k0).bind fun y2=>
 ci (!(y2.1.1.kind=k)) ((CV.k 5 y2.2.1).bind fun y4=>
 CJ (Dop.Tok.mk 0 [] 0 y2.1.1.at_) y4.2.1)<|
 ci (!(PS.e y2.2.1=0)) ((CV.k 5 y2.2.1).bind fun y5=>
 CJ (Dop.Tok.mk 0 [] 0 y2.1.1.at_) y5.2.1)<|
 ck (Au (PS.at_ y2.2.1+1))<|
 CJ y2.1.1 (PS.T9 y2.2.1 (PS.at_ y2.2.1+1))
def IB.Kc:=kd 93 IB.p fun x=>IB.k x.1.2.1 x.2.1
theorem IB.Kh:IB.Kc.Holds prog:=kh AH (hc ET.Kh (hc CV.Kh hn)) IB.ok (by kernel_rfl)
abbrev PF.T:Type:=List Dop.G4->Int->Int->Dop.G4->FN Int
abbrev De.KT:Type:=PF.T×Unit
def PF.kB (tK:De.KT):PF.T:=fun s t7 t8 b0=>
 let A1:=List.getD s t8.toNat Dop.d6
 ci (t8<t7) (ck (0<=t8/\t8<I s.length)<|
 ci (SA (List.take 4 (List.drop 0 (SV.v (Value.int IntKind.i64 b0.kind)::SV.v (Value.int IntKind.i64 b0.elem)::SV.v (Value.int IntKind.i64 b0.n)::SV.v (Value.string (ByteArray.mk (Array.mk b0.name)))::[]++[]))) (List.take 4 (List.drop 0 (SV.v (Value.int IntKind.i64 A1.kind)::SV.v (Value.int IntKind.i64 A1.elem)::SV.v (Value.int IntKind.i64 A1.n)::SV.v (Value.string (ByteArray.mk (Array.mk A1.name)))::[])))) (CW t8)<|
 ck (Au (t8+1))<|
 tK.1 s t7 (t8+1) b0)<|
 CW (-1)
def De.kS (tK:De.KT):De.KT:=(PF.kB tK,())
def De.kL (n:Nat):De.KT:=DA De.kS n
def De.k0 (tK:De.KT) (s:List Dop.G4) (v:Dop.G4):FN Int:=
 tK.1 s (I s.length) 0 v
def De.k (s:List Dop.G4) (v:Dop.G4):FN Int:=De.k0 (De.kL 1000000) s v
def De.Kc:=kd 179 De.p fun x=>De.k x.1.1 x.1.2.1
theorem De.Kh:De.Kc.Holds prog:=GD AH hn De.ok (fun t x=>De.k0 t x.1.1 x.1.2.1) (fun c=>(fun s t7 t8 b0=>c 2 De.q2 rfl ((s,(),t7,t8,()),((b0,()),())),())) De.kS (by kernel_rfl)
def JW.k (x:Dop.G4) (k0:PS):R1 Int PS:=
 (De.k k0.types x).bind fun y2=>
 ci (0<=y2.1.1) (CJ y2.1.1 k0)<|
 ci (I k0.types.length=256) ((CV.k 4 k0).bind fun y5=>
 CJ 0 y5.2.1)<|
 ck (Cq none (room 40 (k0.types.length+(x::[]).length)))<|
 ck (Au (I (k0.types++x::[]).length -1))<|
 CJ (I (k0.types++x::[]).length -1) (PS.UA k0 (k0.types++x::[]))
def JW.Kc:=kd 144 JW.p fun x=>JW.k x.1.2.1 x.2.1
theorem JW.Kh:JW.Kc.Holds prog:=kh AH (hc De.Kh (hc CV.Kh hn)) JW.ok (by kernel_rfl)
abbrev LI.T:Type:=Int->PS->R1 Int PS
abbrev DE.KT:Type:=LI.T×Unit
def LI.kB (tK:DE.KT):LI.T:=fun t k0=>
 (Cm.k ([42]:List UInt8) k0).bind fun y2=>
 ci y2.1.1 ((JW.k (Dop.G4.mk 4 t 0 []) y2.2.1).bind fun y4=>
 tK.1 y4.1.1 y4.2.1)<|
 CJ t y2.2.1
def DE.kS (tK:DE.KT):DE.KT:=(LI.kB tK,())
def DE.kL (n:Nat):DE.KT:=DA DE.kS n
def DE.k0 (tK:DE.KT) (k0:PS):R1 Int PS:=
 (Cm.k ([118,111,105,100]:List UInt8) k0).bind fun y2=>
 ci y2.1.1 (tK.1 0 y2.2.1)<|
 (Cm.k ([105,110,116]:List UInt8) y2.2.1).bind fun y4=>
 ci y4.1.1 (tK.1 1 y4.2.1)<|
 (Cm.k ([117,110,115,105,103,110,101,100]:List UInt8) y4.2.1).bind fun y6=>
 ci y6.1.1 (tK.1 2 y6.2.1)<|
 (Cm.k ([99,104,97,114]:List UInt8) y6.2.1).bind fun y8=>
 ci y8.1.1 (tK.1 3 y8.2.1)<|
 (DG.k ([115,116,114,117,99,116]:List UInt8) y8.2.1).bind fun y10=>
 (IB.k 1 y10.2.1).bind fun y11=>
 (JW.k (Dop.G4.mk 6 0 0 y11.1.1.text) y11.2.1).bind fun y12=>
 tK.1 y12.1.1 y12.2.1
def DE.k (k0:PS):R1 Int PS:=DE.k0 (DE.kL 1000000) k0
def DE.Kc:=kd 143 DE.p fun x=>DE.k x.2.1
theorem DE.Kh:DE.Kc.Holds prog:=GD AH (hc Cm.Kh (hc DG.Kh (hc IB.Kh (hc JW.Kh hn)))) DE.ok (fun t x=>DE.k0 t x.2.1) (fun c=>(fun t k0=>c 11 DE.c9 rfl (((),t,()),(k0,())),())) DE.kS (by kernel_rfl)
def Qm.k (k0:PS):R1 Dop.AU PS:=
 (ET.k k0).bind fun y2=>
 (FJ.k 51 y2.1.1.at_).bind fun y3=>
 (DE.k y2.2.1).bind fun y4=>
 (IB.k 1 y4.2.1).bind fun y5=>
 CJ (Dop.AU.mk y3.1.1.kind y3.1.1.a y3.1.1.b y3.1.1.c y3.1.1.d y5.1.1.text y3.1.1.n y4.1.1 y3.1.1.at_) y5.2.1
def Qm.Kc:=kd 95 Qm.p fun x=>Qm.k x.2.1
theorem Qm.Kh:Qm.Kc.Holds prog:=kh AH (hc ET.Kh (hc FJ.Kh (hc DE.Kh (hc IB.Kh hn)))) Qm.ok (by kernel_rfl)
def PZ.k (t:Int) (k0:PS):R1 Int PS:=
 (Cm.k ([91]:List UInt8) k0).bind fun y2=>
 ci (!y2.1.1) (CJ t y2.2.1)<|
 (IB.k 3 y2.2.1).bind fun y4=>
 (DG.k ([93]:List UInt8) y4.2.1).bind fun y5=>
 (JW.k (Dop.G4.mk 5 t y4.1.1.n []) y5.2.1).bind Gh
def PZ.Kc:=kd 96 PZ.p fun x=>PZ.k x.1.2.1 x.2.1
theorem PZ.Kh:PZ.Kc.Holds prog:=kh AH (hc Cm.Kh (hc IB.Kh (hc DG.Kh (hc JW.Kh hn)))) PZ.ok (by kernel_rfl)
def Cn.k (n:Dop.AU) (k0:PS):R1 Int PS:=
 ci (I k0.nodes.length=8192) ((CV.k 4 k0).bind fun y3=>
 ci (!(PS.e y3.2.1=0)) (CJ (-1) y3.2.1)<|
 ck (Cq none (room 80 ((PS.nodes y3.2.1).length+(n::[]).length)))<|
 ck (Au (I (PS.nodes y3.2.1++n::[]).length -1))<|
 CJ (I (PS.nodes y3.2.1++n::[]).length -1) (PS.Dx y3.2.1 (PS.nodes y3.2.1++n::[])))<|
 ci (!(k0.e=0)) (CJ (-1) k0)<|
 ck (Cq none (room 80 (k0.nodes.length+(n::[]).length)))<|
 ck (Au (I (k0.nodes++n::[]).length -1))<|
 CJ (I (k0.nodes++n::[]).length -1) (PS.Dx k0 (k0.nodes++n::[]))
def Cn.Kc:=kd 97 Cn.p fun x=>Cn.k x.1.2.1 x.2.1
theorem Cn.Kh:Cn.Kc.Holds prog:=kh AH (hc CV.Kh hn) Cn.ok (by kernel_rfl)
def Gt.k (n:Int) (k0:PS):R1 Int PS:=
 ci (n<0) (CJ 0 k0)<|
 ck (0<=n/\n<I k0.nodes.length)<|
 ck (n.toNat<k0.nodes.length)<|
 CJ ((List.getD k0.nodes n.toNat Dop.d5).at_) k0
def Mc.k (t:Dop.G3) (n:Int):FN Dop.AU:=
 let A1:=CW (Dop.AU.mk 0 0 0 0 0 [] 0 0 0)
 ci (n<0) A1<|
 ci (I t.nodes.length<=n) A1<|
 ck (0<=n/\n<I t.nodes.length)<|
 CW (List.getD t.nodes n.toNat Dop.d5)
def Mc.Kc:=kd 120 Mc.p fun x=>Mc.k x.1.1 x.1.2.1
theorem Mc.Kh:Mc.Kc.Holds prog:=kh AH hn Mc.ok (by kernel_rfl)
abbrev Tm.T:Type:=Int->List Int->Int->Int->Dop.G3->FN (List Int)
abbrev GG.KT:Type:=Tm.T×Unit
def Tm.kB (tK:GG.KT):Tm.T:=fun n out t9 t10 b0=>
 ci (t10<t9) ((Mc.k b0 n).bind fun y3=>
 ci (!(y3.1.1.kind=20)) (CW out)<|
 ck (Cq none (room 8 (out.length+(y3.1.1.a::[]).length)))<|
 ck (Au (t10+1))<|
 tK.1 y3.1.1.b (out++y3.1.1.a::[]) t9 (t10+1) b0)<|
 CW out
def GG.kS (tK:GG.KT):GG.KT:=(Tm.kB tK,())
def GG.kL (n:Nat):GG.KT:=DA GG.kS n
def GG.k0 (tK:GG.KT) (t:Dop.G3) (n:Int):FN (List Int):=
 tK.1 n [] (I t.nodes.length) 0 t
def GG.k (t:Dop.G3) (n:Int):FN (List Int):=GG.k0 (GG.kL 1000000) t n
def GG.Kc:=kd 73 GG.p fun x=>GG.k x.1.1 x.1.2.1
theorem GG.Kh:GG.Kc.Holds prog:=GD AH (hc Mc.Kh hn) GG.ok (fun t x=>GG.k0 t x.1.1 x.1.2.1) (fun c=>(fun n out t9 t10 b0=>c 3 GG.q3 rfl ((n,(),out,t9,t10,()),((b0,()),())),())) GG.kS (by kernel_rfl)
def Mg.k (k0:PS):R1 Bool PS:=
 (Mq.k ([105,110,116]:List UInt8) k0).bind fun y2=>
 ci y2.1.1 (CJ true y2.2.1)<|
 (Mq.k ([117,110,115,105,103,110,101,100]:List UInt8) y2.2.1).bind fun y4=>
 ci y4.1.1 (CJ true y4.2.1)<|
 (Mq.k ([99,104,97,114]:List UInt8) y4.2.1).bind fun y6=>
 ci y6.1.1 (CJ true y6.2.1)<|
 (Mq.k ([118,111,105,100]:List UInt8) y6.2.1).bind fun y8=>
 ci y8.1.1 (CJ true y8.2.1)<|
 (Mq.k ([115,116,114,117,99,116]:List UInt8) y8.2.1).bind Gh
def Mg.Kc:=kd 204 Mg.p fun x=>Mg.k x.2.1
theorem Mg.Kh:Mg.Kc.Holds prog:=kh AH (hc Mq.Kh hn) Mg.ok (by kernel_rfl)
abbrev OA.T:Type:=List UInt8->Int->Lx Int Bool
abbrev HU.KT:Type:=OA.T×Unit
def OA.kB (tK:HU.KT):OA.T:=fun s at_=>
 let A1:=List.drop at_.toNat (List.take (I s.length).toNat s)
 let A3:=at_+Lib.indexByte A1 (Int.toNat 10).toUInt8
 let A2:=List.drop (Int.toNat 2) (List.take (I A1.length).toNat A1)
 ci (at_<I s.length) (ck (0<=at_/\at_<=I s.length/\I s.length<=I s.length)<|
 ck (0<=at_/\at_<I s.length)<|
 ck true<|
 ci (0<=Lib.indexByte ([32,9,10,13]:List UInt8) (Cg s at_).toNat.toUInt8) (ck (Au (at_+1))<|
 tK.1 s (at_+1))<|
 ck true<|
 ci (Lib.hasPrefix A1 ([47,47]:List UInt8)) (ck true<|
 ci (Lib.indexByte A1 (Int.toNat 10).toUInt8<0) (I5 (I s.length) true)<|
 ck (Au A3)<|
 tK.1 s A3)<|
 ck true<|
 ci (Lib.hasPrefix A1 ([47,42]:List UInt8)) (ck ((0:Int)<=2/\2<=I A1.length/\I A1.length<=I A1.length)<|
 ck (VG A2)<|
 ci (Lib.index A2 ([42,47]:List UInt8)<0) (I5 at_ false)<|
 ck (Au (Lib.index A2 ([42,47]:List UInt8)+4))<|
 ck (Au (at_+(Lib.index A2 ([42,47]:List UInt8)+4)))<|
 tK.1 s (at_+(Lib.index A2 ([42,47]:List UInt8)+4)))<|
 I5 at_ true)<|
 I5 at_ true
def HU.kS (tK:HU.KT):HU.KT:=(OA.kB tK,())
def HU.kL (n:Nat):HU.KT:=DA HU.kS n
def HU.k0 (tK:HU.KT) (s:List UInt8):Lx Int Bool:=
 tK.1 s 0
def HU.k (s:List UInt8):Lx Int Bool:=HU.k0 (HU.kL 1000000) s
def HU.Kc:=kd 43 HU.p fun x=>HU.k x.1.1
theorem HU.Kh:HU.Kc.Holds prog:=GD AH (hc indexByte.holds (hc hasPrefix.holds (hc index.holds hn))) HU.ok (fun t x=>HU.k0 t x.1.1) (fun c=>(fun s at_=>c 2 HU.q2 rfl ((s,at_,()),()),())) HU.kS (by kernel_rfl)
def Sb.k (c:Int):FN Bool:=
 let z1:FN Bool:=
 ci (65<=c) (ci (c<=90) (CW true)<|
 CW (decide (c=95)))<|
 CW (decide (c=95))
 ci (97<=c) (ci (c<=122) (CW true)<|
 z1)<|
 z1
def Sb.Kc:=kd 82 Sb.p fun x=>Sb.k x.1.1
theorem Sb.Kh:Sb.Kc.Holds prog:=kh AH hn Sb.ok (by kernel_rfl)
def Sc.k (c:Int):FN Bool:=
 ci (48<=c) (CW (decide (c<=57)))<|
 CW false
def Sc.Kc:=kd 85 Sc.p fun x=>Sc.k x.1.1
theorem Sc.Kh:Sc.Kc.Holds prog:=kh AH hn Sc.ok (by kernel_rfl)
abbrev Km.T:Type:=List UInt8->Int->FN Int
abbrev Hz.KT:Type:=Km.T×Unit
def Km.kB (tK:Hz.KT):Km.T:=fun s n=>
 ci (n<I s.length) (ck (0<=n/\n<I s.length)<|
 (Sb.k (Cg s n)).bind fun y3=>
 ci y3.1.1 (ck (Au (n+1))<|
 tK.1 s (n+1))<|
 ck (0<=n/\n<I s.length)<|
 (Sc.k (Cg s n)).bind fun y5=>
 ci y5.1.1 (ck (Au (n+1))<|
 tK.1 s (n+1))<|
 CW n)<|
 CW n
def Hz.kS (tK:Hz.KT):Hz.KT:=(Km.kB tK,())
def Hz.kL (n:Nat):Hz.KT:=DA Hz.kS n
def Hz.k0 (tK:Hz.KT) (s:List UInt8):FN Int:=
 tK.1 s 0
def Hz.k (s:List UInt8):FN Int:=Hz.k0 (Hz.kL 1000000) s
def Hz.Kc:=kd 83 Hz.p fun x=>Hz.k x.1.1
theorem Hz.Kh:Hz.Kc.Holds prog:=GD AH (hc Sb.Kh (hc Sc.Kh hn)) Hz.ok (fun t x=>Hz.k0 t x.1.1) (fun c=>(fun s n=>c 2 Hz.q2 rfl ((s,n,()),()),())) Hz.kS (by kernel_rfl)
def XK.k (w:List UInt8):FN Bool:=
 ci (!(w=[])) (ck (VG w)<|
 ci (!Lib.contains w ([32]:List UInt8)) (ck (([32]:List UInt8).length+w.length<=9223372036854775807)<|
 ck (((32:UInt8)::[]++w).length+([32]:List UInt8).length<=9223372036854775807)<|
 ck (VG (([32,98,114,101,97,107,32,99,97,115,101,32,99,104,97,114,32,99,111,110,116,105,110,117,101,32,100,101,102,97,117,108,116,32,100,111,32,101,108,115,101,32,102,111,114,32,103,101,116,99,32,103,111,116,111,32,105,102]:List UInt8).append ([32,105,110,116,32,112,117,116,99,32,114,101,116,117,114,110,32,115,105,122,101,111,102,32,115,116,114,117,99,116,32,115,119,105,116,99,104,32,117,110,115,105,103,110,101,100,32,118,111,105,100,32,119,104,105,108,101,32]:List UInt8)))<|
 CW (Lib.contains (([32,98,114,101,97,107,32,99,97,115,101,32,99,104,97,114,32,99,111,110,116,105,110,117,101,32,100,101,102,97,117,108,116,32,100,111,32,101,108,115,101,32,102,111,114,32,103,101,116,99,32,103,111,116,111,32,105,102]:List UInt8).append ([32,105,110,116,32,112,117,116,99,32,114,101,116,117,114,110,32,115,105,122,101,111,102,32,115,116,114,117,99,116,32,115,119,105,116,99,104,32,117,110,115,105,103,110,101,100,32,118,111,105,100,32,119,104,105,108,101,32]:List UInt8)) ((32:UInt8)::[]++w++(32:UInt8)::[])))<|
 CW false)<|
 CW false
def XK.Kc:=kd 84 XK.p fun x=>XK.k x.1.1
theorem XK.Kh:XK.Kc.Holds prog:=kh AH (hc contains.holds hn) XK.ok (by kernel_rfl)
def Ql.k (kind n size:Int) (b0:List UInt8):VA Dop.Tok Int (List UInt8×Unit):=
 ck ((0:Int)<=0/\0<=size/\size<=I b0.length)<|
 OH (Dop.Tok.mk kind (List.drop (Int.toNat 0) (List.take size.toNat b0)) n 0) 0 (b0,())
def Ql.Kc:=kd 81 Ql.p fun x=>Ql.k x.1.1 x.1.2.1 x.1.2.2.1 x.2.1.1
theorem Ql.Kh:Ql.Kc.Holds prog:=kh AH hn Ql.ok (by kernel_rfl)
abbrev Kn.T:Type:=List UInt8->Int->Int->Int->Int->Lx Int Bool
abbrev Gc.KT:Type:=Kn.T×Unit
def Kn.kB (tK:Gc.KT):Kn.T:=fun s base n t34 t35=>
 let A1:=Lib.toLowerA (List.drop t35.toNat (List.take (t35+1).toNat s))
 ci (t35<t34) (ck (Au (t35+1))<|
 ck (0<=t35/\t35<=t35+1/\t35+1<=I s.length)<|
 ck (YT (List.drop t35.toNat (List.take (t35+1).toNat s)))<|
 ck ((0:Int)<=0/\0<I A1.length)<|
 ck true<|
 ci (Lib.indexByte ([48,49,50,51,52,53,54,55,56,57,97,98,99,100,101,102]:List UInt8) (Cg A1 0).toNat.toUInt8<0) (I5 0 false)<|
 ci (base<=Lib.indexByte ([48,49,50,51,52,53,54,55,56,57,97,98,99,100,101,102]:List UInt8) (Cg A1 0).toNat.toUInt8) (I5 0 false)<|
 ck (Au (n*base))<|
 ck (Au (n*base+Lib.indexByte ([48,49,50,51,52,53,54,55,56,57,97,98,99,100,101,102]:List UInt8) (Cg A1 0).toNat.toUInt8))<|
 ci (4294967295<n*base+Lib.indexByte ([48,49,50,51,52,53,54,55,56,57,97,98,99,100,101,102]:List UInt8) (Cg A1 0).toNat.toUInt8) (I5 0 false)<|
 ck (Au (t35+1))<|
 tK.1 s base (n*base+Lib.indexByte ([48,49,50,51,52,53,54,55,56,57,97,98,99,100,101,102]:List UInt8) (Cg A1 0).toNat.toUInt8) t34 (t35+1))<|
 I5 n (!decide (s=[]))
def Gc.kS (tK:Gc.KT):Gc.KT:=(Kn.kB tK,())
def Gc.kL (n:Nat):Gc.KT:=DA Gc.kS n
def Gc.k0 (tK:Gc.KT) (s:List UInt8):Lx Int Bool:=
 let A3:=List.drop (Int.toNat 2) (List.take (I s.length).toNat s)
 let A1:=List.drop (Int.toNat 0) (List.take (I s.length -1).toNat s)
 let A2:=List.drop (Int.toNat 2) (List.take (I A1.length).toNat A1)
 let z1:Lx Int Bool:=
 let z3:Lx Int Bool:=
 ck ((0:Int)<=2/\2<=I A1.length/\I A1.length<=I A1.length)<|
 tK.1 A2 16 0 (I A2.length) 0
 ck ((0:Int)<=0/\0<=I s.length -1/\I s.length -1<=I s.length)<|
 ck true<|
 ci (Lib.hasPrefix A1 ([48,120]:List UInt8)) (z3)<|
 ck true<|
 ci (Lib.hasPrefix A1 ([48,88]:List UInt8)) (z3)<|
 tK.1 A1 10 0 (I A1.length) 0
 let z2:Lx Int Bool:=
 ck ((0:Int)<=2/\2<=I s.length/\I s.length<=I s.length)<|
 tK.1 A3 16 0 (I A3.length) 0
 ck (Au (I s.length -1))<|
 ck (0<=I s.length -1/\I s.length -1<I s.length)<|
 ci (Cg s (I s.length -1)=117) (z1)<|
 ck (0<=I s.length -1/\I s.length -1<I s.length)<|
 ci (Cg s (I s.length -1)=85) (z1)<|
 ck true<|
 ci (Lib.hasPrefix s ([48,120]:List UInt8)) (z2)<|
 ck true<|
 ci (Lib.hasPrefix s ([48,88]:List UInt8)) (z2)<|
 tK.1 s 10 0 (I s.length) 0
def Gc.k (s:List UInt8):Lx Int Bool:=Gc.k0 (Gc.kL 1000000) s
def Gc.Kc:=kd 86 Gc.p fun x=>Gc.k x.1.1
theorem Gc.Kh:Gc.Kc.Holds prog:=GD AH (hc hasPrefix.holds (hc lower.holds (hc indexByte.holds hn))) Gc.ok (fun t x=>Gc.k0 t x.1.1) (fun c=>(fun s base n t34 t35=>c 9 Gc.q9 rfl ((s,base,n,t34,t35,()),()),())) Gc.kS (by kernel_rfl)
def Sd.KE:Env Dop.D4:=Ae prog 87 tb [] Sd.p
def Sd.k (s:List UInt8):Lx Int Int:=Sd.KE.Fm 3000 1000000 Sd.p.sp ((s,()),())
def Sd.Kc:=kd 87 Sd.p fun x=>Sd.k x.1.1
theorem Sd.Kh:Sd.Kc.Holds prog:=kh AH hn Sd.ok (by kernel_rfl)
def Md.k :FN (List (List UInt8)):=
 ck (YT (([60,60,61,32,62,62,61,32,43,43,32,45,45,32,45,62,32,43,61,32,45,61,32,42,61,32,47,61,32,37,61,32,38,61,32,124,61,32,94,61,32,60,60,32,62,62,32,60,61,32,62,61,32,61,61,32]:List UInt8).append ([33,61,32,38,38,32,124,124,32,43,32,45,32,42,32,47,32,37,32,38,32,124,32,94,32,126,32,33,32,60,32,62,32,61,32,63,32,58,32,59,32,44,32,46,32,40,32,41,32,91,32,93,32,123,32,125]:List UInt8)) && ((Lib.fields (([60,60,61,32,62,62,61,32,43,43,32,45,45,32,45,62,32,43,61,32,45,61,32,42,61,32,47,61,32,37,61,32,38,61,32,124,61,32,94,61,32,60,60,32,62,62,32,60,61,32,62,61,32,61,61,32]:List UInt8).append ([33,61,32,38,38,32,124,124,32,43,32,45,32,42,32,47,32,37,32,38,32,124,32,94,32,126,32,33,32,60,32,62,32,61,32,63,32,58,32,59,32,44,32,46,32,40,32,41,32,91,32,93,32,123,32,125]:List UInt8))).length<=maxLen))<|
 CW (List.map (fun (a:List UInt8)=>a) (Lib.fields (([60,60,61,32,62,62,61,32,43,43,32,45,45,32,45,62,32,43,61,32,45,61,32,42,61,32,47,61,32,37,61,32,38,61,32,124,61,32,94,61,32,60,60,32,62,62,32,60,61,32,62,61,32,61,61,32]:List UInt8).append ([33,61,32,38,38,32,124,124,32,43,32,45,32,42,32,47,32,37,32,38,32,124,32,94,32,126,32,33,32,60,32,62,32,61,32,63,32,58,32,59,32,44,32,46,32,40,32,41,32,91,32,93,32,123,32,125]:List UInt8))))
def Md.Kc:=kd 141 Md.p fun x=>Md.k
theorem Md.Kh:Md.Kc.Holds prog:=kh AH (hc fields.holds hn) Md.ok (by kernel_rfl)
abbrev To.T:Type:=List UInt8->(List (List UInt8))->Int->Int->FN (List UInt8)
abbrev Jt.KT:Type:=To.T×Unit
def To.kB (tK:Jt.KT):To.T:=fun s t5 t6 t7=>
 let A1:=List.getD t5 t7.toNat []
 ci (t7<t6) (ck (0<=t7/\t7<I t5.length)<|
 ck (t7.toNat<t5.length)<|
 ck true<|
 ci (Lib.hasPrefix s A1) (CW A1)<|
 ck (Au (t7+1))<|
 tK.1 s t5 t6 (t7+1))<|
 CW []
def Jt.kS (tK:Jt.KT):Jt.KT:=(To.kB tK,())
def Jt.kL (n:Nat):Jt.KT:=DA Jt.kS n
def Jt.k0 (tK:Jt.KT) (s:List UInt8):FN (List UInt8):=
 (Md.k).bind fun y2=>
 tK.1 s y2.1.1 (I y2.1.1.length) 0
def Jt.k (s:List UInt8):FN (List UInt8):=Jt.k0 (Jt.kL 1000000) s
def Jt.Kc:=kd 88 Jt.p fun x=>Jt.k x.1.1
theorem Jt.Kh:Jt.Kc.Holds prog:=GD AH (hc Md.Kh (hc hasPrefix.holds hn)) Jt.ok (fun t x=>Jt.k0 t x.1.1) (fun c=>(fun s t5 t6 t7=>c 2 Jt.q2 rfl ((s,t5,t6,t7,()),()),())) Jt.kS (by kernel_rfl)
def Sa.k (o:List UInt8):Lx Dop.Tok Int:=
 ck ((0:Int)<=0/\0<I o.length)<|
 (Sb.k (Cg o 0)).bind fun y2=>
 ci y2.1.1 ((Hz.k o).bind fun y4=>
 ck ((0:Int)<=0/\0<=y4.1.1/\y4.1.1<=I o.length)<|
 (XK.k (List.drop (Int.toNat 0) (List.take y4.1.1.toNat o))).bind fun y5=>
 ci y5.1.1 ((Ql.k 2 0 y4.1.1 o).bind Ll)<|
 (Ql.k 1 0 y4.1.1 o).bind Ll)<|
 ck ((0:Int)<=0/\0<I o.length)<|
 (Sc.k (Cg o 0)).bind fun y4=>
 ci y4.1.1 ((Hz.k o).bind fun y6=>
 ck ((0:Int)<=0/\0<=y6.1.1/\y6.1.1<=I o.length)<|
 (Gc.k (List.drop (Int.toNat 0) (List.take y6.1.1.toNat o))).bind fun y7=>
 ci (!y7.1.2.1) (I5 (Dop.Tok.mk 0 [] 0 0) 3)<|
 (Ql.k 3 y7.1.1 y6.1.1 o).bind Ll)<|
 ck ((0:Int)<=0/\0<I o.length)<|
 ci (Cg o (0:Int)=39) ((Sd.k o).bind fun y7=>
 ci (0<y7.1.2.1) ((Ql.k 3 y7.1.1 y7.1.2.1 o).bind Ll)<|
 I5 (Dop.Tok.mk 0 [] 0 0) 2)<|
 (Jt.k o).bind fun y7=>
 ci (!(y7.1.1=[])) ((Ql.k 4 0 (I y7.1.1.length) o).bind Ll)<|
 I5 (Dop.Tok.mk 0 [] 0 0) 2
def Sa.Kc:=kd 44 Sa.p fun x=>Sa.k x.1.1
theorem Sa.Kh:Sa.Kc.Holds prog:=kh AH (hc Sb.Kh (hc Hz.Kh (hc XK.Kh (hc Ql.Kh (hc Sc.Kh (hc Gc.Kh (hc Sd.Kh (hc Jt.Kh hn)))))))) Sa.ok (by kernel_rfl)
abbrev Kj.T:Type:=List UInt8->List Dop.Tok->Int->OW (List Dop.Tok) Int Int
abbrev m19.KT:Type:=Kj.T×Unit
def Kj.kB (tK:m19.KT):Kj.T:=fun s out at_=>
 let A1:=List.take (I s.length).toNat s
 ck (0<=at_/\at_<=I s.length/\I s.length<=I s.length)<|
 (HU.k (List.drop at_.toNat A1)).bind fun y2=>
 ck (Au (at_+y2.1.1))<|
 ci (!y2.1.2.1) (Ln [] (at_+y2.1.1) 2)<|
 ci (at_+y2.1.1=I s.length) (ck (Cq none (room 40 (out.length+(Dop.Tok.mk 0 [] 0 (at_+y2.1.1)::[]).length)))<|
 Ln (out++Dop.Tok.mk 0 [] 0 (at_+y2.1.1)::[]) 0 0)<|
 ck (0<=at_+y2.1.1/\at_+y2.1.1<=I s.length/\I s.length<=I s.length)<|
 (Sa.k (List.drop (at_+y2.1.1).toNat A1)).bind fun y5=>
 ci (!(y5.1.2.1=0)) (Ln [] (at_+y2.1.1) y5.1.2.1)<|
 ci (I out.length=8192) (Ln [] (at_+y2.1.1) 4)<|
 ck (Cq none (room 40 (out.length+(Dop.Tok.mk y5.1.1.kind y5.1.1.text y5.1.1.n (at_+y2.1.1)::[]).length)))<|
 ck (Au (at_+y2.1.1+I y5.1.1.text.length))<|
 tK.1 s (out++Dop.Tok.mk y5.1.1.kind y5.1.1.text y5.1.1.n (at_+y2.1.1)::[]) (at_+y2.1.1+I y5.1.1.text.length)
def m19.kS (tK:m19.KT):m19.KT:=(Kj.kB tK,())
def m19.kL (n:Nat):m19.KT:=DA m19.kS n
def m19.k0 (tK:m19.KT) (s:List UInt8):OW (List Dop.Tok) Int Int:=
 ci (32768<I s.length) (Ln [] 0 4)<|
 tK.1 s [] 0
def m19.k (s:List UInt8):OW (List Dop.Tok) Int Int:=m19.k0 (m19.kL 1000000) s
def m19.Kc:=kd 19 m19.p fun x=>m19.k x.1.1
theorem m19.Kh:m19.Kc.Holds prog:=GD AH (hc HU.Kh (hc Sa.Kh hn)) m19.ok (fun t x=>m19.k0 t x.1.1) (fun c=>(fun s out at_=>c 5 m19.q5 rfl ((s,out,at_,()),()),())) m19.kS (by kernel_rfl)
def Mp.k (b0_0:List Dop.Tok) (b0_1 b0_4 b0_5 b0_6 b0_7:Int):R1 Int (List Dop.Tok×Int×Unit×Unit×Int×Int×Int×Int×Unit):=
 let A1:=List.getD b0_0 (I b0_0.length -1).toNat Dop.d4
 let A2:=A1.at_+I A1.text.length
 ci (I b0_0.length=0) (CJ 0 (b0_0,(b0_1,((),((),(b0_4,(b0_5,(b0_6,(b0_7,())))))))))<|
 ck (Au (I b0_0.length -1))<|
 ck (0<=I b0_0.length -1/\I b0_0.length -1<I b0_0.length)<|
 ck (Au A2)<|
 CJ A2 (b0_0,(b0_1,((),((),(b0_4,(b0_5,(b0_6,(b0_7,()))))))))
def Mp.Kc:=kd 89 Mp.p fun x=>Mp.k x.2.1.1 x.2.1.2.1 x.2.1.2.2.2.2.1 x.2.1.2.2.2.2.2.1 x.2.1.2.2.2.2.2.2.1 x.2.1.2.2.2.2.2.2.2.1
theorem Mp.Kh:Mp.Kc.Holds prog:=kh AH hn Mp.ok (by kernel_rfl)
def Mm.k (b0_0:List Dop.Tok) (b0_1 b0_4 b0_5 b0_6 b0_7:Int):R1 Dop.Tok (List Dop.Tok×Int×Unit×Unit×Int×Int×Int×Int×Unit):=
 let A1:=Mp.k b0_0 b0_1 b0_4 b0_5 b0_6 b0_7
 let F1:Y1 Int (List Dop.Tok×Int×Unit×Unit×Int×Int×Int×Int×Unit)->R1 Dop.Tok (List Dop.Tok×Int×Unit×Unit×Int×Int×Int×Int×Unit):=fun y4=>
 CJ (Dop.Tok.mk 0 [] 0 y4.1.1) (y4.2.1.1,(y4.2.1.2.1,((),((),(y4.2.1.2.2.2.2.1,(y4.2.1.2.2.2.2.2.1,(y4.2.1.2.2.2.2.2.2.1,(y4.2.1.2.2.2.2.2.2.2.1,()))))))))
 ci (!(b0_6=0)) (A1.bind F1)<|
 ci (I b0_0.length<=b0_1) (A1.bind F1)<|
 ck (0<=b0_1/\b0_1<I b0_0.length)<|
 CJ (List.getD b0_0 b0_1.toNat Dop.d4) (b0_0,(b0_1,((),((),(b0_4,(b0_5,(b0_6,(b0_7,()))))))))
def Mm.Kc:=kd 45 Mm.p fun x=>Mm.k x.2.1.1 x.2.1.2.1 x.2.1.2.2.2.2.1 x.2.1.2.2.2.2.2.1 x.2.1.2.2.2.2.2.2.1 x.2.1.2.2.2.2.2.2.2.1
theorem Mm.Kh:Mm.Kc.Holds prog:=kh AH (hc Mp.Kh hn) Mm.ok (by kernel_rfl)
def Ip.k (s:List UInt8) (b0_0:List Dop.Tok) (b0_1 b0_4 b0_5 b0_6 b0_7:Int):R1 Bool (List Dop.Tok×Int×Unit×Unit×Int×Int×Int×Int×Unit):=
 (Mm.k b0_0 b0_1 b0_4 b0_5 b0_6 b0_7).bind fun y2=>
 ci (y2.1.1.kind=4) (CJ (decide (y2.1.1.text=s)) (y2.2.1.1,(y2.2.1.2.1,((),((),(y2.2.1.2.2.2.2.1,(y2.2.1.2.2.2.2.2.1,(y2.2.1.2.2.2.2.2.2.1,(y2.2.1.2.2.2.2.2.2.2.1,())))))))))<|
 ci (y2.1.1.kind=2) (CJ (decide (y2.1.1.text=s)) (y2.2.1.1,(y2.2.1.2.1,((),((),(y2.2.1.2.2.2.2.1,(y2.2.1.2.2.2.2.2.1,(y2.2.1.2.2.2.2.2.2.1,(y2.2.1.2.2.2.2.2.2.2.1,())))))))))<|
 CJ false (y2.2.1.1,(y2.2.1.2.1,((),((),(y2.2.1.2.2.2.2.1,(y2.2.1.2.2.2.2.2.1,(y2.2.1.2.2.2.2.2.2.1,(y2.2.1.2.2.2.2.2.2.2.1,()))))))))
def Ip.Kc:=kd 91 Ip.p fun x=>Ip.k x.1.2.1 x.2.1.1 x.2.1.2.1 x.2.1.2.2.2.2.1 x.2.1.2.2.2.2.2.1 x.2.1.2.2.2.2.2.2.1 x.2.1.2.2.2.2.2.2.2.1
theorem Ip.Kh:Ip.Kc.Holds prog:=kh AH (hc Mm.Kh hn) Ip.ok (by kernel_rfl)
def HO.k (b0_0:List Dop.Tok) (b0_1 b0_4 b0_5 b0_6 b0_7:Int):R1 Bool (List Dop.Tok×Int×Unit×Unit×Int×Int×Int×Int×Unit):=
 (Ip.k ([105,110,116]:List UInt8) b0_0 b0_1 b0_4 b0_5 b0_6 b0_7).bind fun y2=>
 ci y2.1.1 (CJ true (y2.2.1.1,(y2.2.1.2.1,((),((),(y2.2.1.2.2.2.2.1,(y2.2.1.2.2.2.2.2.1,(y2.2.1.2.2.2.2.2.2.1,(y2.2.1.2.2.2.2.2.2.2.1,())))))))))<|
 (Ip.k ([117,110,115,105,103,110,101,100]:List UInt8) y2.2.1.1 y2.2.1.2.1 y2.2.1.2.2.2.2.1 y2.2.1.2.2.2.2.2.1 y2.2.1.2.2.2.2.2.2.1 y2.2.1.2.2.2.2.2.2.2.1).bind fun y4=>
 ci y4.1.1 (CJ true (y4.2.1.1,(y4.2.1.2.1,((),((),(y4.2.1.2.2.2.2.1,(y4.2.1.2.2.2.2.2.1,(y4.2.1.2.2.2.2.2.2.1,(y4.2.1.2.2.2.2.2.2.2.1,())))))))))<|
 (Ip.k ([99,104,97,114]:List UInt8) y4.2.1.1 y4.2.1.2.1 y4.2.1.2.2.2.2.1 y4.2.1.2.2.2.2.2.1 y4.2.1.2.2.2.2.2.2.1 y4.2.1.2.2.2.2.2.2.2.1).bind fun y6=>
 ci y6.1.1 (CJ true (y6.2.1.1,(y6.2.1.2.1,((),((),(y6.2.1.2.2.2.2.1,(y6.2.1.2.2.2.2.2.1,(y6.2.1.2.2.2.2.2.2.1,(y6.2.1.2.2.2.2.2.2.2.1,())))))))))<|
 (Ip.k ([118,111,105,100]:List UInt8) y6.2.1.1 y6.2.1.2.1 y6.2.1.2.2.2.2.1 y6.2.1.2.2.2.2.2.1 y6.2.1.2.2.2.2.2.2.1 y6.2.1.2.2.2.2.2.2.2.1).bind fun y8=>
 ci y8.1.1 (CJ true (y8.2.1.1,(y8.2.1.2.1,((),((),(y8.2.1.2.2.2.2.1,(y8.2.1.2.2.2.2.2.1,(y8.2.1.2.2.2.2.2.2.1,(y8.2.1.2.2.2.2.2.2.2.1,())))))))))<|
 (Ip.k ([115,116,114,117,99,116]:List UInt8) y8.2.1.1 y8.2.1.2.1 y8.2.1.2.2.2.2.1 y8.2.1.2.2.2.2.2.1 y8.2.1.2.2.2.2.2.2.1 y8.2.1.2.2.2.2.2.2.2.1).bind fun y10=>
 CJ y10.1.1 (y10.2.1.1,(y10.2.1.2.1,((),((),(y10.2.1.2.2.2.2.1,(y10.2.1.2.2.2.2.2.1,(y10.2.1.2.2.2.2.2.2.1,(y10.2.1.2.2.2.2.2.2.2.1,()))))))))
def HO.Kc:=kd 204 HO.p fun x=>HO.k x.2.1.1 x.2.1.2.1 x.2.1.2.2.2.2.1 x.2.1.2.2.2.2.2.1 x.2.1.2.2.2.2.2.2.1 x.2.1.2.2.2.2.2.2.2.1
theorem HO.Kh:HO.Kc.Holds prog:=kh AH (hc Ip.Kh hn) HO.ok (by kernel_rfl)
end
end Go.Proofs.Tryz
