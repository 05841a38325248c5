/- A function's model that the kernel can run: its trees, so many cuts deep (Env.runF); that it is a contract. -/
import Derived.Test.YtkpggdcpaeanaaaGreatDoorMo
import Derived.Test.YtkpggdcpaeanaaaGreatDoorMi
import Derived.Test.YtkpggdcpaeanaaaGreatDoorMj
set_option linter.all false
namespace Go.En
open Go.RowKit
section
variable {S:Am} {P:Program}
def Env.Ez (E:Env S) (f0 n:Nat) (sp:Spec) (x:sp.D S):Option (E.rs.D S):=(JA E f0 sp x).eval (EV (E.step f0) n)
def Env.Yh (E:Env S) (f0 n:Nat) (J:Jump E) (sp:Spec) (x:sp.D S):Option (E.rs.D S):=(JA E f0 sp x).eval (EV (E.IX f0 J) n)
theorem Qi {f:Nat} {tb:List (Nat×TI)} {ct:List (Bw S)} {p:Ag} (f0 n:Nat) (htb:AW S P tb) (hct: ∀ c∈ct,c.Holds P) (h:AF S P f p=true):
  Bw.Holds P ⟨f,p.bn,p.sp,p.rs,p.flat,.opt ((Ac P f tb ct p).Ez f0 n p.sp)⟩:=by
 obtain ⟨hE,hb,h3,fn,hf,hbody,hn,hres⟩:=Gf htb hct h
 simp only [AF,Bool.and_eq_true] at h
 obtain ⟨⟨⟨⟨⟨⟨⟨⟨_,h2⟩,_⟩,_⟩,h5⟩,_⟩,_⟩,_⟩,_⟩:=h
 refine ⟨hb,h3,fun hfl=>?_,fun x y hxy w D β vs o m he hg hon _ hiv=>?_⟩
 ·simp only at hfl;rw [hfl] at h5;simpa using h5
 ·exact ON (out:=.opt ((Ac P f tb ct p).Ez f0 n p.sp)) hE hf hbody hn hres (Nat.le_of_ble_eq_true h2) (EV ((Ac P f tb ct p).step f0)) (fun _ _=>rfl) (fun n k q h x y hy=>by simp only [EV,Env.step_mk] at hy;exact hy) (show _=some y from hxy) he hg hon hiv
theorem U7 {f:Nat} {tb:List (Nat×TI)} {ct:List (Bw S)} {p:Ag} (f0 n:Nat) (htb:AW S P tb) (hct: ∀ c∈ct,c.Holds P) (h:AF S P f p=true) (J:Jump (Ac P f tb ct p)) (hJ:J.Ok P):
  Bw.Holds P ⟨f,p.bn,p.sp,p.rs,p.flat,.opt ((Ac P f tb ct p).Yh f0 n J p.sp)⟩:=by
 obtain ⟨hE,hb,h3,fn,hf,hbody,hn,hres⟩:=Gf htb hct h
 simp only [AF,Bool.and_eq_true] at h
 obtain ⟨⟨⟨⟨⟨⟨⟨⟨_,h2⟩,_⟩,_⟩,h5⟩,_⟩,_⟩,_⟩,_⟩:=h
 refine ⟨hb,h3,fun hfl=>?_,fun x y hxy w D β vs o m he hg hon _ hiv=>?_⟩
 ·simp only at hfl;rw [hfl] at h5;simpa using h5
 ·exact Su (out:=.opt ((Ac P f tb ct p).Yh f0 n J p.sp)) hE hJ hf hbody hn hres (Nat.le_of_ble_eq_true h2) (show _=some y from hxy) he hg hon hiv
end
end Go.En
namespace Go.En
open Go.RowKit
section
variable {S:Am} {P:Program}
theorem YY {α:Type} (T:Nat->α) (z:α) (s:α->α) (h0:T 0=z) (hs: ∀ n,T (n+1)=s (T n)): ∀ n,T n=Nat.rec (motive:=fun _=>α) z (fun _ r=>s r) n
 | 0=>h0
 | n+1=>by rw [hs n,YY T z s h0 hs n]
theorem Tq {f bn:Nat} {sp rs:Spec} {flat:Bool} {α:Type} {m:Nat->sp.D S->Option (rs.D S)} (h: ∀ N,Bw.Holds P ⟨f,bn,sp,rs,flat,.opt (m N)⟩) (g:α->sp.D S->Option (rs.D S)) (T:Nat->α) (z:α) (s:α->α) (N:Nat)
  (h0:T 0=z) (hs: ∀ n,T (n+1)=s (T n)) (hm: ∀ N,m N=g (T N)):Bw.Holds P ⟨f,bn,sp,rs,flat,.opt (g (Nat.rec (motive:=fun _=>α) z (fun _ r=>s r) N))⟩:=by
 have e:=h N
 rw [hm N,YY T z s h0 hs N] at e
 exact e
theorem hc {l:List (Bw S)} {c:Bw S} (h:c.Holds P) (k: ∀ c∈l,c.Holds P): ∀ d∈c::l,d.Holds P:=A7 h k
theorem hn: ∀ d∈([]:List (Bw S)),d.Holds P:=CC
def kc (f:Nat) (p:Ag) (m:p.sp.D S->Option (p.rs.D S)):Bw S:=⟨f,p.bn,p.sp,p.rs,p.flat,.opt m⟩
class NN (α:Type) where
 nn:α
instance {α:Type}:NN (Option α):=⟨none⟩
instance:NN Unit:=⟨()⟩
instance {α β:Type} [NN β]:NN (α->β):=⟨fun _=>NN.nn⟩
instance {α β:Type} [NN α] [NN β]:NN (α×β):=⟨(NN.nn,NN.nn)⟩
def Cw {α:Type} [NN α] (s:α->α) (n:Nat):α:=Nat.rec (motive:=fun _=>α) NN.nn (fun _ r=>s r) n
section
variable {f:Nat} {tb:List (Nat×TI)} {p:Ag} {ct:List (Bw S)}
theorem kh (htb:AW S P tb) (h: ∀ c∈ct,c.Holds P) (ok:AF S P f p=true) {k:p.sp.D S->Option (p.rs.D S)} (e:k=(Ac P f tb ct p).Ez 3000 1000000 p.sp):(kc f p k).Holds P:=SW (Qi 3000 1000000 htb h ok) (by unfold kc;rw [e])
def gQ (E:Env S) (n c:Nat) (q:Cut) (h:lk E.Cz c=some q) (x:q.sp.D S):Option E.ρ:=EV (E.step 3000) n c (Dz E c q h x)
theorem F4 (htb:AW S P tb) (h: ∀ c∈ct,c.Holds P) (ok:AF S P f p=true) {k:p.sp.D S->Option (p.rs.D S)} {α:Type} [NN α] (g:α->p.sp.D S->Option (p.rs.D S)) (T:((c:Nat)->(q:Cut)->lk p.Cz c=some q->q.sp.D S->Option (p.rs.D S))->α) (s:α->α)
  (e:(T (gQ (Ac P f tb ct p) 0),(fun n=>T (gQ (Ac P f tb ct p) (n+1))),(fun N=>(Ac P f tb ct p).Ez 3000 N p.sp),k)=(NN.nn,(fun n=>s (T (gQ (Ac P f tb ct p) n))),(fun N=>g (T (gQ (Ac P f tb ct p) N))),g (Cw s 1000000))):(kc f p k).Holds P:=by
 have e0:=congrArg Prod.fst e;have e1:=congrArg (fun x=>x.2.1) e;have e2:=congrArg (fun x=>x.2.2.1) e;have e3:=congrArg (fun x=>x.2.2.2) e
 simp only at e0 e1 e2 e3
 have:=Tq (fun N=>Qi 3000 N htb h ok) g (fun n=>T (gQ (Ac P f tb ct p) n)) _ s 1000000 e0 (fun n=>congrFun e1 n) (fun N=>congrFun e2 N)
 rw [e3];exact this
def V7 (E:Env S) (J:Jump E) (n c:Nat) (q:Cut) (h:lk E.Cz c=some q) (x:q.sp.D S):Option E.ρ:=EV (E.IX 3000 J) n c (Dz E c q h x)
theorem mj (htb:AW S P tb) (h: ∀ c∈ct,c.Holds P) (ok:AF S P f p=true) {k:p.sp.D S->Option (p.rs.D S)} (J:Jump (Ac P f tb ct p)) (hJ:J.Ok P) {α:Type} [NN α] (g:α->p.sp.D S->Option (p.rs.D S)) (T:((c:Nat)->(q:Cut)->lk p.Cz c=some q->q.sp.D S->Option (p.rs.D S))->α) (s:α->α)
  (e:(T (V7 (Ac P f tb ct p) J 0),(fun n=>T (V7 (Ac P f tb ct p) J (n+1))),(fun N=>(Ac P f tb ct p).Yh 3000 N J p.sp),k)=(NN.nn,(fun n=>s (T (V7 (Ac P f tb ct p) J n))),(fun N=>g (T (V7 (Ac P f tb ct p) J N))),g (Cw s 1000000))):(kc f p k).Holds P:=by
 have e0:=congrArg Prod.fst e;have e1:=congrArg (fun x=>x.2.1) e;have e2:=congrArg (fun x=>x.2.2.1) e;have e3:=congrArg (fun x=>x.2.2.2) e
 simp only at e0 e1 e2 e3
 have:=Tq (fun N=>U7 3000 N htb h ok J hJ) g (fun n=>T (V7 (Ac P f tb ct p) J n)) _ s 1000000 e0 (fun n=>congrFun e1 n) (fun N=>congrFun e2 N)
 rw [e3];exact this
end
end
def ck {α:Type} (b:Bool) (x:Option α):Option α:=if b=true then x else none
def ci {α:Type} (b:Bool) (x y:α):α:=if b=true then x else y
abbrev kH (δ:Type):Type:=Option (Unit×(δ×Unit))
def gB {δ:Type} (x:δ):kH δ:=some ((),(x,()))
def mo {δ τ σ:Type} (x:τ×(δ×σ)):kH δ:=gB x.2.1
abbrev On (δ ε:Type):Type:=Option (Unit×(δ×ε×Unit))
def aT {δ ε:Type} (x:δ) (y:ε):On δ ε:=some ((),(x,y,()))
def gA {δ ε τ σ:Type} (x:τ×(δ×ε×σ)):On δ ε:=aT x.2.1 x.2.2.1
abbrev Ei (α:Type):Type:=Option ((α×Unit)×Unit)
def CO {α:Type} (a:α):Ei α:=some ((a,()),())
def mE {α τ σ:Type} (x:(α×τ)×σ):Ei α:=CO x.1.1
abbrev R1 (α δ:Type):Type:=Option ((α×Unit)×(δ×Unit))
def CR {α δ:Type} (a:α) (x:δ):R1 α δ:=some ((a,()),(x,()))
def Gx {α δ τ σ:Type} (x:(α×τ)×(δ×σ)):R1 α δ:=CR x.1.1 x.2.1
abbrev R2 (α δ ε:Type):Type:=Option ((α×Unit)×(δ×ε×Unit))
def Ah {α δ ε:Type} (a:α) (x:δ) (y:ε):R2 α δ ε:=some ((a,()),(x,y,()))
def Bp {α δ ε τ σ:Type} (x:(α×τ)×(δ×ε×σ)):R2 α δ ε:=Ah x.1.1 x.2.1 x.2.2.1
abbrev kI (α δ ε ζ:Type):Type:=Option ((α×Unit)×(δ×ε×ζ×Unit))
def kb {α δ ε ζ:Type} (a:α) (x:δ) (y:ε) (z:ζ):kI α δ ε ζ:=some ((a,()),(x,y,z,()))
abbrev LH (α β:Type):Type:=Option ((α×β×Unit)×Unit)
def GP {α β:Type} (a:α) (b:β):LH α β:=some ((a,b,()),())
def L0 {α β τ σ:Type} (x:(α×β×τ)×σ):LH α β:=GP x.1.1 x.1.2.1
abbrev Vj (α β δ:Type):Type:=Option ((α×β×Unit)×(δ×Unit))
def OZ {α β δ:Type} (a:α) (b:β) (x:δ):Vj α β δ:=some ((a,b,()),(x,()))
def lS {α β δ τ σ:Type} (x:(α×β×τ)×(δ×σ)):Vj α β δ:=OZ x.1.1 x.1.2.1 x.2.1
abbrev kJ (α β δ ε:Type):Type:=Option ((α×β×Unit)×(δ×ε×Unit))
def ke {α β δ ε:Type} (a:α) (b:β) (x:δ) (y:ε):kJ α β δ ε:=some ((a,b,()),(x,y,()))
abbrev OA (α β γ:Type):Type:=Option ((α×β×γ×Unit)×Unit)
def Js {α β γ:Type} (a:α) (b:β) (c:γ):OA α β γ:=some ((a,b,c,()),())
def mF {α β γ τ σ:Type} (x:(α×β×γ×τ)×σ):OA α β γ:=Js x.1.1 x.1.2.1 x.1.2.2.1
abbrev mc (α β γ δ:Type):Type:=Option ((α×β×γ×Unit)×(δ×Unit))
abbrev Y1 (α δ:Type):Type:=(α×Unit)×(δ×Unit)
abbrev Y2 (α δ ε:Type):Type:=(α×Unit)×(δ×ε×Unit)
end Go.En
namespace Go.Proofs
open Go Go.En
def kd (f:Nat) (p:Ag) (m:p.sp.D En.Dop.D4->Option (p.rs.D En.Dop.D4)):Bw En.Dop.D4:=kc f p m
end Go.Proofs
set_option maxRecDepth 100000
set_option maxHeartbeats 4000000
namespace Go.Proofs.Tryz
open Go Go.En
noncomputable section
def K0.k (k0:PS):R1 Int PS:=
 let A1:=List.getD k0.l (I k0.l.length -1).toNat Dop.d4
 let A2:=A1.at_+I A1.text.length
 ci (I k0.l.length=0) (CR 0 k0)<|
 ck (Az (I k0.l.length -1))<|
 ck (0<=I k0.l.length -1/\I k0.l.length -1<I k0.l.length)<|
 ck (Az A2)<|
 CR A2 k0
def K0.Kc:=kd 89 K0.p fun x=>K0.k x.2.1
theorem K0.Kh:K0.Kc.Holds prog:=kh AH hn K0.ok (by kernel_rfl)
def Ee.k (k0:PS):R1 Dop.Tok PS:=
 ci (!(k0.e=0)) ((K0.k k0).bind fun y3=>
 CR (Dop.Tok.mk 0 [] 0 y3.1.1) y3.2.1)<|
 ci (I k0.l.length<=k0.at_) ((K0.k k0).bind fun y4=>
 CR (Dop.Tok.mk 0 [] 0 y4.1.1) y4.2.1)<|
 ck (0<=k0.at_/\k0.at_<I k0.l.length)<|
 CR (List.getD k0.l k0.at_.toNat Dop.d4) k0
def Ee.Kc:=kd 45 Ee.p fun x=>Ee.k x.2.1
theorem Ee.Kh:Ee.Kc.Holds prog:=kh AH (hc K0.Kh hn) Ee.ok (by kernel_rfl)
def FW.k (kind at_:Int):Ei Dop.AU:=
 CO (Dop.AU.mk kind (-1) (-1) (-1) (-1) [] 0 0 at_)
def FW.Kc:=kd 90 FW.p fun x=>FW.k x.1.1 x.1.2.1
theorem FW.Kh:FW.Kc.Holds prog:=kh AH hn FW.ok (by kernel_rfl)
def M3.k (s:List UInt8) (k0:PS):R1 Bool PS:=
 (Ee.k k0).bind fun y2=>
 ci (y2.1.1.kind=4) (CR (decide (y2.1.1.text=s)) y2.2.1)<|
 ci (y2.1.1.kind=2) (CR (decide (y2.1.1.text=s)) y2.2.1)<|
 CR false y2.2.1
def M3.Kc:=kd 91 M3.p fun x=>M3.k x.1.2.1 x.2.1
theorem M3.Kh:M3.Kc.Holds prog:=kh AH (hc Ee.Kh hn) M3.ok (by kernel_rfl)
def Cq.k (s:List UInt8) (k0:PS):R1 Bool PS:=
 (M3.k s k0).bind fun y2=>
 ci (!y2.1.1) (CR false y2.2.1)<|
 ck (Az (PS.at_ y2.2.1+1))<|
 CR true (PS.Uc y2.2.1 (PS.at_ y2.2.1+1))
def Cq.Kc:=kd 94 Cq.p fun x=>Cq.k x.1.2.1 x.2.1
theorem Cq.Kh:Cq.Kc.Holds prog:=kh AH (hc M3.Kh hn) Cq.ok (by kernel_rfl)
def CZ.k (e:Int) (k0:PS):kH PS:=
 ci (k0.e=0) ((Ee.k k0).bind fun y3=>
 gB (PS.FR (PS.Yj y3.2.1 e) y3.1.1.at_))<|
 gB k0
def CZ.Kc:=kd 142 CZ.p fun x=>CZ.k x.1.2.1 x.2.1
theorem CZ.Kh:CZ.Kc.Holds prog:=kh AH (hc Ee.Kh hn) CZ.ok (by kernel_rfl)
def DN.k (s:List UInt8) (k0:PS):kH PS:=
 (Cq.k s k0).bind fun y2=>
 ci (!y2.1.1) ((CZ.k 5 y2.2.1).bind mo)<|
 gB y2.2.1
def DN.Kc:=kd 92 DN.p fun x=>DN.k x.1.2.1 x.2.1
theorem DN.Kh:DN.Kc.Holds prog:=kh AH (hc Cq.Kh (hc CZ.Kh hn)) DN.ok (by kernel_rfl)
def IL.k (k:Int) (k0:PS):R1 Dop.Tok PS:=
 (Ee.k k0).bind fun y2=>
 ci (!(y2.1.1.kind=k)) ((CZ.k 5 y2.2.1).bind fun y4=>
 CR (Dop.Tok.mk 0 [] 0 y2.1.1.at_) y4.2.1)<|
 ci (!(PS.e y2.2.1=0)) ((CZ.k 5 y2.2.1).bind fun y5=>
 CR (Dop.Tok.mk 0 [] 0 y2.1.1.at_) y5.2.1)<|
 ck (Az (PS.at_ y2.2.1+1))<|
 CR y2.1.1 (PS.Uc y2.2.1 (PS.at_ y2.2.1+1))
def IL.Kc:=kd 93 IL.p fun x=>IL.k x.1.2.1 x.2.1
theorem IL.Kh:IL.Kc.Holds prog:=kh AH (hc Ee.Kh (hc CZ.Kh hn)) IL.ok (by kernel_rfl)
abbrev PY.T:Type:=List Dop.HH->Int->Int->Dop.HH->Ei Int
abbrev Dp.KT:Type:=PY.T×Unit
def PY.kB (tK:Dp.KT):PY.T:=fun s t7 t8 b0=>
 let A1:=List.getD s t8.toNat Dop.d6
 ci (t8<t7) (ck (0<=t8/\t8<I s.length)<|
 ci (Se (List.take 4 (List.drop 0 (SV.v (Value.int IntKind.i64 b0.kind)::SV.v (Value.int IntKind.i64 b0.elem)::SV.v (Value.int IntKind.i64 b0.n)::SV.v (Value.string (ByteArray.mk (Array.mk b0.name)))::[]++[]))) (List.take 4 (List.drop 0 (SV.v (Value.int IntKind.i64 A1.kind)::SV.v (Value.int IntKind.i64 A1.elem)::SV.v (Value.int IntKind.i64 A1.n)::SV.v (Value.string (ByteArray.mk (Array.mk A1.name)))::[])))) (CO t8)<|
 ck (Az (t8+1))<|
 tK.1 s t7 (t8+1) b0)<|
 CO (-1)
def Dp.kS (tK:Dp.KT):Dp.KT:=(PY.kB tK,())
def Dp.kL (n:Nat):Dp.KT:=Cw Dp.kS n
def Dp.k0 (tK:Dp.KT) (s:List Dop.HH) (v:Dop.HH):Ei Int:=
 tK.1 s (I s.length) 0 v
def Dp.k (s:List Dop.HH) (v:Dop.HH):Ei Int:=Dp.k0 (Dp.kL 1000000) s v
def Dp.Kc:=kd 179 Dp.p fun x=>Dp.k x.1.1 x.1.2.1
theorem Dp.Kh:Dp.Kc.Holds prog:=F4 AH hn Dp.ok (fun t x=>Dp.k0 t x.1.1 x.1.2.1) (fun c=>(fun s t7 t8 b0=>c 2 Dp.q2 rfl ((s,(),t7,t8,()),((b0,()),())),())) Dp.kS (by kernel_rfl)
def Jb.k (x:Dop.HH) (k0:PS):R1 Int PS:=
 (Dp.k k0.types x).bind fun y2=>
 ci (0<=y2.1.1) (CR y2.1.1 k0)<|
 ci (I k0.types.length=256) ((CZ.k 4 k0).bind fun y5=>
 CR 0 y5.2.1)<|
 ck (Cu none (room 40 (k0.types.length+(x::[]).length)))<|
 ck (Az (I (k0.types++x::[]).length -1))<|
 CR (I (k0.types++x::[]).length -1) (PS.Ud k0 (k0.types++x::[]))
def Jb.Kc:=kd 144 Jb.p fun x=>Jb.k x.1.2.1 x.2.1
theorem Jb.Kh:Jb.Kc.Holds prog:=kh AH (hc Dp.Kh (hc CZ.Kh hn)) Jb.ok (by kernel_rfl)
abbrev LY.T:Type:=Int->PS->R1 Int PS
abbrev DL.KT:Type:=LY.T×Unit
def LY.kB (tK:DL.KT):LY.T:=fun t k0=>
 (Cq.k ([42]:List UInt8) k0).bind fun y2=>
 ci y2.1.1 ((Jb.k (Dop.HH.mk 4 t 0 []) y2.2.1).bind fun y4=>
 tK.1 y4.1.1 y4.2.1)<|
 CR t y2.2.1
def DL.kS (tK:DL.KT):DL.KT:=(LY.kB tK,())
def DL.kL (n:Nat):DL.KT:=Cw DL.kS n
def DL.k0 (tK:DL.KT) (k0:PS):R1 Int PS:=
 (Cq.k ([118,111,105,100]:List UInt8) k0).bind fun y2=>
 ci y2.1.1 (tK.1 0 y2.2.1)<|
 (Cq.k ([105,110,116]:List UInt8) y2.2.1).bind fun y4=>
 ci y4.1.1 (tK.1 1 y4.2.1)<|
 (Cq.k ([117,110,115,105,103,110,101,100]:List UInt8) y4.2.1).bind fun y6=>
 ci y6.1.1 (tK.1 2 y6.2.1)<|
 (Cq.k ([99,104,97,114]:List UInt8) y6.2.1).bind fun y8=>
 ci y8.1.1 (tK.1 3 y8.2.1)<|
 (DN.k ([115,116,114,117,99,116]:List UInt8) y8.2.1).bind fun y10=>
 (IL.k 1 y10.2.1).bind fun y11=>
 (Jb.k (Dop.HH.mk 6 0 0 y11.1.1.text) y11.2.1).bind fun y12=>
 tK.1 y12.1.1 y12.2.1
def DL.k (k0:PS):R1 Int PS:=DL.k0 (DL.kL 1000000) k0
def DL.Kc:=kd 143 DL.p fun x=>DL.k x.2.1
theorem DL.Kh:DL.Kc.Holds prog:=F4 AH (hc Cq.Kh (hc DN.Kh (hc IL.Kh (hc Jb.Kh hn)))) DL.ok (fun t x=>DL.k0 t x.2.1) (fun c=>(fun t k0=>c 11 DL.eD rfl (((),t,()),(k0,())),())) DL.kS (by kernel_rfl)
def Q9.k (k0:PS):R1 Dop.AU PS:=
 (Ee.k k0).bind fun y2=>
 (FW.k 51 y2.1.1.at_).bind fun y3=>
 (DL.k y2.2.1).bind fun y4=>
 (IL.k 1 y4.2.1).bind fun y5=>
 CR (Dop.AU.mk y3.1.1.kind y3.1.1.a y3.1.1.b y3.1.1.c y3.1.1.d y5.1.1.text y3.1.1.n y4.1.1 y3.1.1.at_) y5.2.1
def Q9.Kc:=kd 95 Q9.p fun x=>Q9.k x.2.1
theorem Q9.Kh:Q9.Kc.Holds prog:=kh AH (hc Ee.Kh (hc FW.Kh (hc DL.Kh (hc IL.Kh hn)))) Q9.ok (by kernel_rfl)
def Pu.k (t:Int) (k0:PS):R1 Int PS:=
 (Cq.k ([91]:List UInt8) k0).bind fun y2=>
 ci (!y2.1.1) (CR t y2.2.1)<|
 (IL.k 3 y2.2.1).bind fun y4=>
 (DN.k ([93]:List UInt8) y4.2.1).bind fun y5=>
 (Jb.k (Dop.HH.mk 5 t y4.1.1.n []) y5.2.1).bind Gx
def Pu.Kc:=kd 96 Pu.p fun x=>Pu.k x.1.2.1 x.2.1
theorem Pu.Kh:Pu.Kc.Holds prog:=kh AH (hc Cq.Kh (hc IL.Kh (hc DN.Kh (hc Jb.Kh hn)))) Pu.ok (by kernel_rfl)
def Cr.k (n:Dop.AU) (k0:PS):R1 Int PS:=
 ci (I k0.nodes.length=8192) ((CZ.k 4 k0).bind fun y3=>
 ci (!(PS.e y3.2.1=0)) (CR (-1) y3.2.1)<|
 ck (Cu none (room 80 ((PS.nodes y3.2.1).length+(n::[]).length)))<|
 ck (Az (I (PS.nodes y3.2.1++n::[]).length -1))<|
 CR (I (PS.nodes y3.2.1++n::[]).length -1) (PS.EY y3.2.1 (PS.nodes y3.2.1++n::[])))<|
 ci (!(k0.e=0)) (CR (-1) k0)<|
 ck (Cu none (room 80 (k0.nodes.length+(n::[]).length)))<|
 ck (Az (I (k0.nodes++n::[]).length -1))<|
 CR (I (k0.nodes++n::[]).length -1) (PS.EY k0 (k0.nodes++n::[]))
def Cr.Kc:=kd 97 Cr.p fun x=>Cr.k x.1.2.1 x.2.1
theorem Cr.Kh:Cr.Kc.Holds prog:=kh AH (hc CZ.Kh hn) Cr.ok (by kernel_rfl)
def G9.k (n:Int) (k0:PS):R1 Int PS:=
 ci (n<0) (CR 0 k0)<|
 ck (0<=n/\n<I k0.nodes.length)<|
 ck (n.toNat<k0.nodes.length)<|
 CR ((List.getD k0.nodes n.toNat Dop.d5).at_) k0
def Mp.k (t:Dop.G2) (n:Int):Ei Dop.AU:=
 let A1:=CO (Dop.AU.mk 0 0 0 0 0 [] 0 0 0)
 ci (n<0) A1<|
 ci (I t.nodes.length<=n) A1<|
 ck (0<=n/\n<I t.nodes.length)<|
 CO (List.getD t.nodes n.toNat Dop.d5)
def Mp.Kc:=kd 120 Mp.p fun x=>Mp.k x.1.1 x.1.2.1
theorem Mp.Kh:Mp.Kc.Holds prog:=kh AH hn Mp.ok (by kernel_rfl)
abbrev UF.T:Type:=Int->List Int->Int->Int->Dop.G2->Ei (List Int)
abbrev GX.KT:Type:=UF.T×Unit
def UF.kB (tK:GX.KT):UF.T:=fun n out t9 t10 b0=>
 ci (t10<t9) ((Mp.k b0 n).bind fun y3=>
 ci (!(y3.1.1.kind=20)) (CO out)<|
 ck (Cu none (room 8 (out.length+(y3.1.1.a::[]).length)))<|
 ck (Az (t10+1))<|
 tK.1 y3.1.1.b (out++y3.1.1.a::[]) t9 (t10+1) b0)<|
 CO out
def GX.kS (tK:GX.KT):GX.KT:=(UF.kB tK,())
def GX.kL (n:Nat):GX.KT:=Cw GX.kS n
def GX.k0 (tK:GX.KT) (t:Dop.G2) (n:Int):Ei (List Int):=
 tK.1 n [] (I t.nodes.length) 0 t
def GX.k (t:Dop.G2) (n:Int):Ei (List Int):=GX.k0 (GX.kL 1000000) t n
def GX.Kc:=kd 73 GX.p fun x=>GX.k x.1.1 x.1.2.1
theorem GX.Kh:GX.Kc.Holds prog:=F4 AH (hc Mp.Kh hn) GX.ok (fun t x=>GX.k0 t x.1.1 x.1.2.1) (fun c=>(fun n out t9 t10 b0=>c 3 GX.q3 rfl ((n,(),out,t9,t10,()),((b0,()),())),())) GX.kS (by kernel_rfl)
def Mu.k (k0:PS):R1 Bool PS:=
 (M3.k ([105,110,116]:List UInt8) k0).bind fun y2=>
 ci y2.1.1 (CR true y2.2.1)<|
 (M3.k ([117,110,115,105,103,110,101,100]:List UInt8) y2.2.1).bind fun y4=>
 ci y4.1.1 (CR true y4.2.1)<|
 (M3.k ([99,104,97,114]:List UInt8) y4.2.1).bind fun y6=>
 ci y6.1.1 (CR true y6.2.1)<|
 (M3.k ([118,111,105,100]:List UInt8) y6.2.1).bind fun y8=>
 ci y8.1.1 (CR true y8.2.1)<|
 (M3.k ([115,116,114,117,99,116]:List UInt8) y8.2.1).bind Gx
def Mu.Kc:=kd 204 Mu.p fun x=>Mu.k x.2.1
theorem Mu.Kh:Mu.Kc.Holds prog:=kh AH (hc M3.Kh hn) Mu.ok (by kernel_rfl)
abbrev OS.T:Type:=List UInt8->Int->LH Int Bool
abbrev Hh.KT:Type:=OS.T×Unit
def OS.kB (tK:Hh.KT):OS.T:=fun s at_=>
 let A1:=List.drop at_.toNat (List.take (I s.length).toNat s)
 let A3:=at_+Lib.indexByte A1 (Int.toNat 10).toUInt8
 let A2:=List.drop (Int.toNat 2) (List.take (I A1.length).toNat A1)
 ci (at_<I s.length) (ck (0<=at_/\at_<=I s.length/\I s.length<=I s.length)<|
 ck (0<=at_/\at_<I s.length)<|
 ck true<|
 ci (0<=Lib.indexByte ([32,9,10,13]:List UInt8) (Ck s at_).toNat.toUInt8) (ck (Az (at_+1))<|
 tK.1 s (at_+1))<|
 ck true<|
 ci (Lib.hasPrefix A1 ([47,47]:List UInt8)) (ck true<|
 ci (Lib.indexByte A1 (Int.toNat 10).toUInt8<0) (GP (I s.length) true)<|
 ck (Az A3)<|
 tK.1 s A3)<|
 ck true<|
 ci (Lib.hasPrefix A1 ([47,42]:List UInt8)) (ck ((0:Int)<=2/\2<=I A1.length/\I A1.length<=I A1.length)<|
 ck (VN A2)<|
 ci (Lib.index A2 ([42,47]:List UInt8)<0) (GP at_ false)<|
 ck (Az (Lib.index A2 ([42,47]:List UInt8)+4))<|
 ck (Az (at_+(Lib.index A2 ([42,47]:List UInt8)+4)))<|
 tK.1 s (at_+(Lib.index A2 ([42,47]:List UInt8)+4)))<|
 GP at_ true)<|
 GP at_ true
def Hh.kS (tK:Hh.KT):Hh.KT:=(OS.kB tK,())
def Hh.kL (n:Nat):Hh.KT:=Cw Hh.kS n
def Hh.k0 (tK:Hh.KT) (s:List UInt8):LH Int Bool:=
 tK.1 s 0
def Hh.k (s:List UInt8):LH Int Bool:=Hh.k0 (Hh.kL 1000000) s
def Hh.Kc:=kd 43 Hh.p fun x=>Hh.k x.1.1
theorem Hh.Kh:Hh.Kc.Holds prog:=F4 AH (hc indexByte.holds (hc hasPrefix.holds (hc index.holds hn))) Hh.ok (fun t x=>Hh.k0 t x.1.1) (fun c=>(fun s at_=>c 2 Hh.q2 rfl ((s,at_,()),()),())) Hh.kS (by kernel_rfl)
def S7.k (c:Int):Ei Bool:=
 let z1:Ei Bool:=
 ci (65<=c) (ci (c<=90) (CO true)<|
 CO (decide (c=95)))<|
 CO (decide (c=95))
 ci (97<=c) (ci (c<=122) (CO true)<|
 z1)<|
 z1
def S7.Kc:=kd 82 S7.p fun x=>S7.k x.1.1
theorem S7.Kh:S7.Kc.Holds prog:=kh AH hn S7.ok (by kernel_rfl)
def S8.k (c:Int):Ei Bool:=
 ci (48<=c) (CO (decide (c<=57)))<|
 CO false
def S8.Kc:=kd 85 S8.p fun x=>S8.k x.1.1
theorem S8.Kh:S8.Kc.Holds prog:=kh AH hn S8.ok (by kernel_rfl)
abbrev Ky.T:Type:=List UInt8->Int->Ei Int
abbrev IB.KT:Type:=Ky.T×Unit
def Ky.kB (tK:IB.KT):Ky.T:=fun s n=>
 ci (n<I s.length) (ck (0<=n/\n<I s.length)<|
 (S7.k (Ck s n)).bind fun y3=>
 ci y3.1.1 (ck (Az (n+1))<|
 tK.1 s (n+1))<|
 ck (0<=n/\n<I s.length)<|
 (S8.k (Ck s n)).bind fun y5=>
 ci y5.1.1 (ck (Az (n+1))<|
 tK.1 s (n+1))<|
 CO n)<|
 CO n
def IB.kS (tK:IB.KT):IB.KT:=(Ky.kB tK,())
def IB.kL (n:Nat):IB.KT:=Cw IB.kS n
def IB.k0 (tK:IB.KT) (s:List UInt8):Ei Int:=
 tK.1 s 0
def IB.k (s:List UInt8):Ei Int:=IB.k0 (IB.kL 1000000) s
def IB.Kc:=kd 83 IB.p fun x=>IB.k x.1.1
theorem IB.Kh:IB.Kc.Holds prog:=F4 AH (hc S7.Kh (hc S8.Kh hn)) IB.ok (fun t x=>IB.k0 t x.1.1) (fun c=>(fun s n=>c 2 IB.q2 rfl ((s,n,()),()),())) IB.kS (by kernel_rfl)
def Xy.k (w:List UInt8):Ei Bool:=
 ci (!(w=[])) (ck (VN w)<|
 ci (!Lib.contains w ([32]:List UInt8)) (ck (([32]:List UInt8).length+w.length<=9223372036854775807)<|
 ck (((32:UInt8)::[]++w).length+([32]:List UInt8).length<=9223372036854775807)<|
 ck (VN (([32,98,114,101,97,107,32,99,97,115,101,32,99,104,97,114,32,99,111,110,116,105,110,117,101,32,100,101,102,97,117,108,116,32,100,111,32,101,108,115,101,32,102,111,114,32,103,101,116,99,32,103,111,116,111,32,105,102]:List UInt8).append ([32,105,110,116,32,112,117,116,99,32,114,101,116,117,114,110,32,115,105,122,101,111,102,32,115,116,114,117,99,116,32,115,119,105,116,99,104,32,117,110,115,105,103,110,101,100,32,118,111,105,100,32,119,104,105,108,101,32]:List UInt8)))<|
 CO (Lib.contains (([32,98,114,101,97,107,32,99,97,115,101,32,99,104,97,114,32,99,111,110,116,105,110,117,101,32,100,101,102,97,117,108,116,32,100,111,32,101,108,115,101,32,102,111,114,32,103,101,116,99,32,103,111,116,111,32,105,102]:List UInt8).append ([32,105,110,116,32,112,117,116,99,32,114,101,116,117,114,110,32,115,105,122,101,111,102,32,115,116,114,117,99,116,32,115,119,105,116,99,104,32,117,110,115,105,103,110,101,100,32,118,111,105,100,32,119,104,105,108,101,32]:List UInt8)) ((32:UInt8)::[]++w++(32:UInt8)::[])))<|
 CO false)<|
 CO false
def Xy.Kc:=kd 84 Xy.p fun x=>Xy.k x.1.1
theorem Xy.Kh:Xy.Kc.Holds prog:=kh AH (hc contains.holds hn) Xy.ok (by kernel_rfl)
def Q8.k (kind n size:Int) (b0:List UInt8):Vj Dop.Tok Int (List UInt8×Unit):=
 ck ((0:Int)<=0/\0<=size/\size<=I b0.length)<|
 OZ (Dop.Tok.mk kind (List.drop (Int.toNat 0) (List.take size.toNat b0)) n 0) 0 (b0,())
def Q8.Kc:=kd 81 Q8.p fun x=>Q8.k x.1.1 x.1.2.1 x.1.2.2.1 x.2.1.1
theorem Q8.Kh:Q8.Kc.Holds prog:=kh AH hn Q8.ok (by kernel_rfl)
abbrev Kz.T:Type:=List UInt8->Int->Int->Int->Int->LH Int Bool
abbrev Gt.KT:Type:=Kz.T×Unit
def Kz.kB (tK:Gt.KT):Kz.T:=fun s base n t34 t35=>
 let A1:=Lib.toLowerA (List.drop t35.toNat (List.take (t35+1).toNat s))
 ci (t35<t34) (ck (Az (t35+1))<|
 ck (0<=t35/\t35<=t35+1/\t35+1<=I s.length)<|
 ck (ZB (List.drop t35.toNat (List.take (t35+1).toNat s)))<|
 ck ((0:Int)<=0/\0<I A1.length)<|
 ck true<|
 ci (Lib.indexByte ([48,49,50,51,52,53,54,55,56,57,97,98,99,100,101,102]:List UInt8) (Ck A1 0).toNat.toUInt8<0) (GP 0 false)<|
 ci (base<=Lib.indexByte ([48,49,50,51,52,53,54,55,56,57,97,98,99,100,101,102]:List UInt8) (Ck A1 0).toNat.toUInt8) (GP 0 false)<|
 ck (Az (n*base))<|
 ck (Az (n*base+Lib.indexByte ([48,49,50,51,52,53,54,55,56,57,97,98,99,100,101,102]:List UInt8) (Ck A1 0).toNat.toUInt8))<|
 ci (4294967295<n*base+Lib.indexByte ([48,49,50,51,52,53,54,55,56,57,97,98,99,100,101,102]:List UInt8) (Ck A1 0).toNat.toUInt8) (GP 0 false)<|
 ck (Az (t35+1))<|
 tK.1 s base (n*base+Lib.indexByte ([48,49,50,51,52,53,54,55,56,57,97,98,99,100,101,102]:List UInt8) (Ck A1 0).toNat.toUInt8) t34 (t35+1))<|
 GP n (!decide (s=[]))
def Gt.kS (tK:Gt.KT):Gt.KT:=(Kz.kB tK,())
def Gt.kL (n:Nat):Gt.KT:=Cw Gt.kS n
def Gt.k0 (tK:Gt.KT) (s:List UInt8):LH Int Bool:=
 let A3:=List.drop (Int.toNat 2) (List.take (I s.length).toNat s)
 let A1:=List.drop (Int.toNat 0) (List.take (I s.length -1).toNat s)
 let A2:=List.drop (Int.toNat 2) (List.take (I A1.length).toNat A1)
 let z1:LH Int Bool:=
 let z3:LH Int Bool:=
 ck ((0:Int)<=2/\2<=I A1.length/\I A1.length<=I A1.length)<|
 tK.1 A2 16 0 (I A2.length) 0
 ck ((0:Int)<=0/\0<=I s.length -1/\I s.length -1<=I s.length)<|
 ck true<|
 ci (Lib.hasPrefix A1 ([48,120]:List UInt8)) (z3)<|
 ck true<|
 ci (Lib.hasPrefix A1 ([48,88]:List UInt8)) (z3)<|
 tK.1 A1 10 0 (I A1.length) 0
 let z2:LH Int Bool:=
 ck ((0:Int)<=2/\2<=I s.length/\I s.length<=I s.length)<|
 tK.1 A3 16 0 (I A3.length) 0
 ck (Az (I s.length -1))<|
 ck (0<=I s.length -1/\I s.length -1<I s.length)<|
 ci (Ck s (I s.length -1)=117) (z1)<|
 ck (0<=I s.length -1/\I s.length -1<I s.length)<|
 ci (Ck s (I s.length -1)=85) (z1)<|
 ck true<|
 ci (Lib.hasPrefix s ([48,120]:List UInt8)) (z2)<|
 ck true<|
 ci (Lib.hasPrefix s ([48,88]:List UInt8)) (z2)<|
 tK.1 s 10 0 (I s.length) 0
def Gt.k (s:List UInt8):LH Int Bool:=Gt.k0 (Gt.kL 1000000) s
def Gt.Kc:=kd 86 Gt.p fun x=>Gt.k x.1.1
theorem Gt.Kh:Gt.Kc.Holds prog:=F4 AH (hc hasPrefix.holds (hc lower.holds (hc indexByte.holds hn))) Gt.ok (fun t x=>Gt.k0 t x.1.1) (fun c=>(fun s base n t34 t35=>c 9 Gt.q9 rfl ((s,base,n,t34,t35,()),()),())) Gt.kS (by kernel_rfl)
def S9.KE:Env Dop.D4:=Ac prog 87 tb [] S9.p
def S9.k (s:List UInt8):LH Int Int:=S9.KE.Ez 3000 1000000 S9.p.sp ((s,()),())
def S9.Kc:=kd 87 S9.p fun x=>S9.k x.1.1
theorem S9.Kh:S9.Kc.Holds prog:=kh AH hn S9.ok (by kernel_rfl)
def Mq.k :Ei (List (List UInt8)):=
 ck (ZB (([60,60,61,32,62,62,61,32,43,43,32,45,45,32,45,62,32,43,61,32,45,61,32,42,61,32,47,61,32,37,61,32,38,61,32,124,61,32,94,61,32,60,60,32,62,62,32,60,61,32,62,61,32,61,61,32]:List UInt8).append ([33,61,32,38,38,32,124,124,32,43,32,45,32,42,32,47,32,37,32,38,32,124,32,94,32,126,32,33,32,60,32,62,32,61,32,63,32,58,32,59,32,44,32,46,32,40,32,41,32,91,32,93,32,123,32,125]:List UInt8)) && ((Lib.fields (([60,60,61,32,62,62,61,32,43,43,32,45,45,32,45,62,32,43,61,32,45,61,32,42,61,32,47,61,32,37,61,32,38,61,32,124,61,32,94,61,32,60,60,32,62,62,32,60,61,32,62,61,32,61,61,32]:List UInt8).append ([33,61,32,38,38,32,124,124,32,43,32,45,32,42,32,47,32,37,32,38,32,124,32,94,32,126,32,33,32,60,32,62,32,61,32,63,32,58,32,59,32,44,32,46,32,40,32,41,32,91,32,93,32,123,32,125]:List UInt8))).length<=maxLen))<|
 CO (List.map (fun (a:List UInt8)=>a) (Lib.fields (([60,60,61,32,62,62,61,32,43,43,32,45,45,32,45,62,32,43,61,32,45,61,32,42,61,32,47,61,32,37,61,32,38,61,32,124,61,32,94,61,32,60,60,32,62,62,32,60,61,32,62,61,32,61,61,32]:List UInt8).append ([33,61,32,38,38,32,124,124,32,43,32,45,32,42,32,47,32,37,32,38,32,124,32,94,32,126,32,33,32,60,32,62,32,61,32,63,32,58,32,59,32,44,32,46,32,40,32,41,32,91,32,93,32,123,32,125]:List UInt8))))
def Mq.Kc:=kd 141 Mq.p fun x=>Mq.k
theorem Mq.Kh:Mq.Kc.Holds prog:=kh AH (hc fields.holds hn) Mq.ok (by kernel_rfl)
abbrev UH.T:Type:=List UInt8->(List (List UInt8))->Int->Int->Ei (List UInt8)
abbrev J1.KT:Type:=UH.T×Unit
def UH.kB (tK:J1.KT):UH.T:=fun s t5 t6 t7=>
 let A1:=List.getD t5 t7.toNat []
 ci (t7<t6) (ck (0<=t7/\t7<I t5.length)<|
 ck (t7.toNat<t5.length)<|
 ck true<|
 ci (Lib.hasPrefix s A1) (CO A1)<|
 ck (Az (t7+1))<|
 tK.1 s t5 t6 (t7+1))<|
 CO []
def J1.kS (tK:J1.KT):J1.KT:=(UH.kB tK,())
def J1.kL (n:Nat):J1.KT:=Cw J1.kS n
def J1.k0 (tK:J1.KT) (s:List UInt8):Ei (List UInt8):=
 (Mq.k).bind fun y2=>
 tK.1 s y2.1.1 (I y2.1.1.length) 0
def J1.k (s:List UInt8):Ei (List UInt8):=J1.k0 (J1.kL 1000000) s
def J1.Kc:=kd 88 J1.p fun x=>J1.k x.1.1
theorem J1.Kh:J1.Kc.Holds prog:=F4 AH (hc Mq.Kh (hc hasPrefix.holds hn)) J1.ok (fun t x=>J1.k0 t x.1.1) (fun c=>(fun s t5 t6 t7=>c 2 J1.q2 rfl ((s,t5,t6,t7,()),()),())) J1.kS (by kernel_rfl)
def S4.k (o:List UInt8):LH Dop.Tok Int:=
 ck ((0:Int)<=0/\0<I o.length)<|
 (S7.k (Ck o 0)).bind fun y2=>
 ci y2.1.1 ((IB.k o).bind fun y4=>
 ck ((0:Int)<=0/\0<=y4.1.1/\y4.1.1<=I o.length)<|
 (Xy.k (List.drop (Int.toNat 0) (List.take y4.1.1.toNat o))).bind fun y5=>
 ci y5.1.1 ((Q8.k 2 0 y4.1.1 o).bind L0)<|
 (Q8.k 1 0 y4.1.1 o).bind L0)<|
 ck ((0:Int)<=0/\0<I o.length)<|
 (S8.k (Ck o 0)).bind fun y4=>
 ci y4.1.1 ((IB.k o).bind fun y6=>
 ck ((0:Int)<=0/\0<=y6.1.1/\y6.1.1<=I o.length)<|
 (Gt.k (List.drop (Int.toNat 0) (List.take y6.1.1.toNat o))).bind fun y7=>
 ci (!y7.1.2.1) (GP (Dop.Tok.mk 0 [] 0 0) 3)<|
 (Q8.k 3 y7.1.1 y6.1.1 o).bind L0)<|
 ck ((0:Int)<=0/\0<I o.length)<|
 ci (Ck o (0:Int)=39) ((S9.k o).bind fun y7=>
 ci (0<y7.1.2.1) ((Q8.k 3 y7.1.1 y7.1.2.1 o).bind L0)<|
 GP (Dop.Tok.mk 0 [] 0 0) 2)<|
 (J1.k o).bind fun y7=>
 ci (!(y7.1.1=[])) ((Q8.k 4 0 (I y7.1.1.length) o).bind L0)<|
 GP (Dop.Tok.mk 0 [] 0 0) 2
def S4.Kc:=kd 44 S4.p fun x=>S4.k x.1.1
theorem S4.Kh:S4.Kc.Holds prog:=kh AH (hc S7.Kh (hc IB.Kh (hc Xy.Kh (hc Q8.Kh (hc S8.Kh (hc Gt.Kh (hc S9.Kh (hc J1.Kh hn)))))))) S4.ok (by kernel_rfl)
abbrev Ku.T:Type:=List UInt8->List Dop.Tok->Int->OA (List Dop.Tok) Int Int
abbrev m19.KT:Type:=Ku.T×Unit
def Ku.kB (tK:m19.KT):Ku.T:=fun s out at_=>
 let A1:=List.take (I s.length).toNat s
 ck (0<=at_/\at_<=I s.length/\I s.length<=I s.length)<|
 (Hh.k (List.drop at_.toNat A1)).bind fun y2=>
 ck (Az (at_+y2.1.1))<|
 ci (!y2.1.2.1) (Js [] (at_+y2.1.1) 2)<|
 ci (at_+y2.1.1=I s.length) (ck (Cu none (room 40 (out.length+(Dop.Tok.mk 0 [] 0 (at_+y2.1.1)::[]).length)))<|
 Js (out++Dop.Tok.mk 0 [] 0 (at_+y2.1.1)::[]) 0 0)<|
 ck (0<=at_+y2.1.1/\at_+y2.1.1<=I s.length/\I s.length<=I s.length)<|
 (S4.k (List.drop (at_+y2.1.1).toNat A1)).bind fun y5=>
 ci (!(y5.1.2.1=0)) (Js [] (at_+y2.1.1) y5.1.2.1)<|
 ci (I out.length=8192) (Js [] (at_+y2.1.1) 4)<|
 ck (Cu none (room 40 (out.length+(Dop.Tok.mk y5.1.1.kind y5.1.1.text y5.1.1.n (at_+y2.1.1)::[]).length)))<|
 ck (Az (at_+y2.1.1+I y5.1.1.text.length))<|
 tK.1 s (out++Dop.Tok.mk y5.1.1.kind y5.1.1.text y5.1.1.n (at_+y2.1.1)::[]) (at_+y2.1.1+I y5.1.1.text.length)
def m19.kS (tK:m19.KT):m19.KT:=(Ku.kB tK,())
def m19.kL (n:Nat):m19.KT:=Cw m19.kS n
def m19.k0 (tK:m19.KT) (s:List UInt8):OA (List Dop.Tok) Int Int:=
 ci (32768<I s.length) (Js [] 0 4)<|
 tK.1 s [] 0
def m19.k (s:List UInt8):OA (List Dop.Tok) Int Int:=m19.k0 (m19.kL 1000000) s
def m19.Kc:=kd 19 m19.p fun x=>m19.k x.1.1
theorem m19.Kh:m19.Kc.Holds prog:=F4 AH (hc Hh.Kh (hc S4.Kh hn)) m19.ok (fun t x=>m19.k0 t x.1.1) (fun c=>(fun s out at_=>c 5 m19.q5 rfl ((s,out,at_,()),()),())) m19.kS (by kernel_rfl)
def M1.k (b0_0:List Dop.Tok) (b0_1 b0_4 b0_5 b0_6 b0_7:Int):R1 Int (List Dop.Tok×Int×Unit×Unit×Int×Int×Int×Int×Unit):=
 let A1:=List.getD b0_0 (I b0_0.length -1).toNat Dop.d4
 let A2:=A1.at_+I A1.text.length
 ci (I b0_0.length=0) (CR 0 (b0_0,(b0_1,((),((),(b0_4,(b0_5,(b0_6,(b0_7,())))))))))<|
 ck (Az (I b0_0.length -1))<|
 ck (0<=I b0_0.length -1/\I b0_0.length -1<I b0_0.length)<|
 ck (Az A2)<|
 CR A2 (b0_0,(b0_1,((),((),(b0_4,(b0_5,(b0_6,(b0_7,()))))))))
def M1.Kc:=kd 89 M1.p fun x=>M1.k x.2.1.1 x.2.1.2.1 x.2.1.2.2.2.2.1 x.2.1.2.2.2.2.2.1 x.2.1.2.2.2.2.2.2.1 x.2.1.2.2.2.2.2.2.2.1
theorem M1.Kh:M1.Kc.Holds prog:=kh AH hn M1.ok (by kernel_rfl)
def My.k (b0_0:List Dop.Tok) (b0_1 b0_4 b0_5 b0_6 b0_7:Int):R1 Dop.Tok (List Dop.Tok×Int×Unit×Unit×Int×Int×Int×Int×Unit):=
 let A1:=M1.k b0_0 b0_1 b0_4 b0_5 b0_6 b0_7
 let F1:Y1 Int (List Dop.Tok×Int×Unit×Unit×Int×Int×Int×Int×Unit)->R1 Dop.Tok (List Dop.Tok×Int×Unit×Unit×Int×Int×Int×Int×Unit):=fun y4=>
 CR (Dop.Tok.mk 0 [] 0 y4.1.1) (y4.2.1.1,(y4.2.1.2.1,((),((),(y4.2.1.2.2.2.2.1,(y4.2.1.2.2.2.2.2.1,(y4.2.1.2.2.2.2.2.2.1,(y4.2.1.2.2.2.2.2.2.2.1,()))))))))
 ci (!(b0_6=0)) (A1.bind F1)<|
 ci (I b0_0.length<=b0_1) (A1.bind F1)<|
 ck (0<=b0_1/\b0_1<I b0_0.length)<|
 CR (List.getD b0_0 b0_1.toNat Dop.d4) (b0_0,(b0_1,((),((),(b0_4,(b0_5,(b0_6,(b0_7,()))))))))
def My.Kc:=kd 45 My.p fun x=>My.k x.2.1.1 x.2.1.2.1 x.2.1.2.2.2.2.1 x.2.1.2.2.2.2.2.1 x.2.1.2.2.2.2.2.2.1 x.2.1.2.2.2.2.2.2.2.1
theorem My.Kh:My.Kc.Holds prog:=kh AH (hc M1.Kh hn) My.ok (by kernel_rfl)
def I1.k (s:List UInt8) (b0_0:List Dop.Tok) (b0_1 b0_4 b0_5 b0_6 b0_7:Int):R1 Bool (List Dop.Tok×Int×Unit×Unit×Int×Int×Int×Int×Unit):=
 (My.k b0_0 b0_1 b0_4 b0_5 b0_6 b0_7).bind fun y2=>
 ci (y2.1.1.kind=4) (CR (decide (y2.1.1.text=s)) (y2.2.1.1,(y2.2.1.2.1,((),((),(y2.2.1.2.2.2.2.1,(y2.2.1.2.2.2.2.2.1,(y2.2.1.2.2.2.2.2.2.1,(y2.2.1.2.2.2.2.2.2.2.1,())))))))))<|
 ci (y2.1.1.kind=2) (CR (decide (y2.1.1.text=s)) (y2.2.1.1,(y2.2.1.2.1,((),((),(y2.2.1.2.2.2.2.1,(y2.2.1.2.2.2.2.2.1,(y2.2.1.2.2.2.2.2.2.1,(y2.2.1.2.2.2.2.2.2.2.1,())))))))))<|
 CR false (y2.2.1.1,(y2.2.1.2.1,((),((),(y2.2.1.2.2.2.2.1,(y2.2.1.2.2.2.2.2.1,(y2.2.1.2.2.2.2.2.2.1,(y2.2.1.2.2.2.2.2.2.2.1,()))))))))
def I1.Kc:=kd 91 I1.p fun x=>I1.k x.1.2.1 x.2.1.1 x.2.1.2.1 x.2.1.2.2.2.2.1 x.2.1.2.2.2.2.2.1 x.2.1.2.2.2.2.2.2.1 x.2.1.2.2.2.2.2.2.2.1
theorem I1.Kh:I1.Kc.Holds prog:=kh AH (hc My.Kh hn) I1.ok (by kernel_rfl)
def Hb.k (b0_0:List Dop.Tok) (b0_1 b0_4 b0_5 b0_6 b0_7:Int):R1 Bool (List Dop.Tok×Int×Unit×Unit×Int×Int×Int×Int×Unit):=
 (I1.k ([105,110,116]:List UInt8) b0_0 b0_1 b0_4 b0_5 b0_6 b0_7).bind fun y2=>
 ci y2.1.1 (CR true (y2.2.1.1,(y2.2.1.2.1,((),((),(y2.2.1.2.2.2.2.1,(y2.2.1.2.2.2.2.2.1,(y2.2.1.2.2.2.2.2.2.1,(y2.2.1.2.2.2.2.2.2.2.1,())))))))))<|
 (I1.k ([117,110,115,105,103,110,101,100]:List UInt8) y2.2.1.1 y2.2.1.2.1 y2.2.1.2.2.2.2.1 y2.2.1.2.2.2.2.2.1 y2.2.1.2.2.2.2.2.2.1 y2.2.1.2.2.2.2.2.2.2.1).bind fun y4=>
 ci y4.1.1 (CR true (y4.2.1.1,(y4.2.1.2.1,((),((),(y4.2.1.2.2.2.2.1,(y4.2.1.2.2.2.2.2.1,(y4.2.1.2.2.2.2.2.2.1,(y4.2.1.2.2.2.2.2.2.2.1,())))))))))<|
 (I1.k ([99,104,97,114]:List UInt8) y4.2.1.1 y4.2.1.2.1 y4.2.1.2.2.2.2.1 y4.2.1.2.2.2.2.2.1 y4.2.1.2.2.2.2.2.2.1 y4.2.1.2.2.2.2.2.2.2.1).bind fun y6=>
 ci y6.1.1 (CR true (y6.2.1.1,(y6.2.1.2.1,((),((),(y6.2.1.2.2.2.2.1,(y6.2.1.2.2.2.2.2.1,(y6.2.1.2.2.2.2.2.2.1,(y6.2.1.2.2.2.2.2.2.2.1,())))))))))<|
 (I1.k ([118,111,105,100]:List UInt8) y6.2.1.1 y6.2.1.2.1 y6.2.1.2.2.2.2.1 y6.2.1.2.2.2.2.2.1 y6.2.1.2.2.2.2.2.2.1 y6.2.1.2.2.2.2.2.2.2.1).bind fun y8=>
 ci y8.1.1 (CR true (y8.2.1.1,(y8.2.1.2.1,((),((),(y8.2.1.2.2.2.2.1,(y8.2.1.2.2.2.2.2.1,(y8.2.1.2.2.2.2.2.2.1,(y8.2.1.2.2.2.2.2.2.2.1,())))))))))<|
 (I1.k ([115,116,114,117,99,116]:List UInt8) y8.2.1.1 y8.2.1.2.1 y8.2.1.2.2.2.2.1 y8.2.1.2.2.2.2.2.1 y8.2.1.2.2.2.2.2.2.1 y8.2.1.2.2.2.2.2.2.2.1).bind fun y10=>
 CR y10.1.1 (y10.2.1.1,(y10.2.1.2.1,((),((),(y10.2.1.2.2.2.2.1,(y10.2.1.2.2.2.2.2.1,(y10.2.1.2.2.2.2.2.2.1,(y10.2.1.2.2.2.2.2.2.2.1,()))))))))
def Hb.Kc:=kd 204 Hb.p fun x=>Hb.k x.2.1.1 x.2.1.2.1 x.2.1.2.2.2.2.1 x.2.1.2.2.2.2.2.1 x.2.1.2.2.2.2.2.2.1 x.2.1.2.2.2.2.2.2.2.1
theorem Hb.Kh:Hb.Kc.Holds prog:=kh AH (hc I1.Kh hn) Hb.ok (by kernel_rfl)
end
end Go.Proofs.Tryz
