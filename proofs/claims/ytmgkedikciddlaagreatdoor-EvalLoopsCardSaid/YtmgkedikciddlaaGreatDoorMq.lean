/- A function's model that the kernel can run: its trees, so many cuts deep (Env.runF); that it is a contract. -/
import Derived.Test.YtmgkedikciddlaaGreatDoorMo
import Derived.Test.YtmgkedikciddlaaGreatDoorMi
import Derived.Test.YtmgkedikciddlaaGreatDoorMj
set_option linter.all false
namespace Go.En
open Go.RowKit
section
variable {S:At} {P:Program}
def Env.KJ (E:Env S) (f0 n:Nat) (sp:Spec) (x:sp.D S):Option (E.rs.D S):=(Ja E f0 sp x).eval (Ei (E.step f0) n)
def Env.ZS (E:Env S) (f0 n:Nat) (J:Jump E) (sp:Spec) (x:sp.D S):Option (E.rs.D S):=(Ja E f0 sp x).eval (Ei (E.Iz f0 J) n)
theorem RI {f:Nat} {tb:List (Nat×TI)} {ct:List (B2 S)} {p:Ak} (f0 n:Nat) (htb:AY S P tb) (hct: ∀ c∈ct,c.Holds P) (h:AH S P f p=true):
  B2.Holds P ⟨f,p.bn,p.sp,p.rs,p.flat,.opt ((Au P f tb ct p).KJ f0 n p.sp)⟩:=by
 obtain ⟨hE,hb,h3,fn,hf,hbody,hn,hres⟩:=Gy htb hct h
 simp only [AH,Bool.and_eq_true] at h
 obtain ⟨⟨⟨⟨⟨⟨⟨⟨_,h2⟩,_⟩,_⟩,h5⟩,_⟩,_⟩,_⟩,_⟩:=h
 refine ⟨hb,h3,fun hfl=>?_,fun x y hxy w D β vs o m he hg hon _ hiv=>?_⟩
 ·simp only at hfl;rw [hfl] at h5;simpa using h5
 ·exact Oq (out:=.opt ((Au P f tb ct p).KJ f0 n p.sp)) hE hf hbody hn hres (Nat.le_of_ble_eq_true h2) (Ei ((Au P f tb ct p).step f0)) (fun _ _=>rfl) (fun n k q h x y hy=>by simp only [Ei,Env.step_mk] at hy;exact hy) (show _=some y from hxy) he hg hon hiv
theorem Vo {f:Nat} {tb:List (Nat×TI)} {ct:List (B2 S)} {p:Ak} (f0 n:Nat) (htb:AY S P tb) (hct: ∀ c∈ct,c.Holds P) (h:AH S P f p=true) (J:Jump (Au P f tb ct p)) (hJ:J.Ok P):
  B2.Holds P ⟨f,p.bn,p.sp,p.rs,p.flat,.opt ((Au P f tb ct p).ZS f0 n J p.sp)⟩:=by
 obtain ⟨hE,hb,h3,fn,hf,hbody,hn,hres⟩:=Gy htb hct h
 simp only [AH,Bool.and_eq_true] at h
 obtain ⟨⟨⟨⟨⟨⟨⟨⟨_,h2⟩,_⟩,_⟩,h5⟩,_⟩,_⟩,_⟩,_⟩:=h
 refine ⟨hb,h3,fun hfl=>?_,fun x y hxy w D β vs o m he hg hon _ hiv=>?_⟩
 ·simp only at hfl;rw [hfl] at h5;simpa using h5
 ·exact TZ (out:=.opt ((Au P f tb ct p).ZS f0 n J p.sp)) hE hJ hf hbody hn hres (Nat.le_of_ble_eq_true h2) (show _=some y from hxy) he hg hon hiv
end
end Go.En
namespace Go.En
open Go.RowKit
section
variable {S:At} {P:Program}
theorem ZI {α:Type} (T:Nat->α) (z:α) (s:α->α) (h0:T 0=z) (hs: ∀ n,T (n+1)=s (T n)): ∀ n,T n=Nat.rec (motive:=fun _=>α) z (fun _ r=>s r) n
 | 0=>h0
 | n+1=>by rw [hs n,ZI T z s h0 hs n]
theorem UZ {f bn:Nat} {sp rs:Spec} {flat:Bool} {α:Type} {m:Nat->sp.D S->Option (rs.D S)} (h: ∀ N,B2.Holds P ⟨f,bn,sp,rs,flat,.opt (m N)⟩) (g:α->sp.D S->Option (rs.D S)) (T:Nat->α) (z:α) (s:α->α) (N:Nat)
  (h0:T 0=z) (hs: ∀ n,T (n+1)=s (T n)) (hm: ∀ N,m N=g (T N)):B2.Holds P ⟨f,bn,sp,rs,flat,.opt (g (Nat.rec (motive:=fun _=>α) z (fun _ r=>s r) N))⟩:=by
 have e:=h N
 rw [hm N,ZI T z s h0 hs N] at e
 exact e
theorem hc {l:List (B2 S)} {c:B2 S} (h:c.Holds P) (k: ∀ c∈l,c.Holds P): ∀ d∈c::l,d.Holds P:=BG h k
theorem hn: ∀ d∈([]:List (B2 S)),d.Holds P:=CS
def kc (f:Nat) (p:Ak) (m:p.sp.D S->Option (p.rs.D S)):B2 S:=⟨f,p.bn,p.sp,p.rs,p.flat,.opt m⟩
class NN (α:Type) where
 nn:α
instance {α:Type}:NN (Option α):=⟨none⟩
instance:NN Unit:=⟨()⟩
instance {α β:Type} [NN β]:NN (α->β):=⟨fun _=>NN.nn⟩
instance {α β:Type} [NN α] [NN β]:NN (α×β):=⟨(NN.nn,NN.nn)⟩
def Bp {α:Type} [NN α] (s:α->α) (n:Nat):α:=Nat.rec (motive:=fun _=>α) NN.nn (fun _ r=>s r) n
section
variable {f:Nat} {tb:List (Nat×TI)} {p:Ak} {ct:List (B2 S)}
theorem kh (htb:AY S P tb) (h: ∀ c∈ct,c.Holds P) (ok:AH S P f p=true) {k:p.sp.D S->Option (p.rs.D S)} (e:k=(Au P f tb ct p).KJ 3000 1000000 p.sp):(kc f p k).Holds P:=TB (RI 3000 1000000 htb h ok) (by unfold kc;rw [e])
def ig (E:Env S) (n c:Nat) (q:Cut) (h:lk E.C6 c=some q) (x:q.sp.D S):Option E.ρ:=Ei (E.step 3000) n c (EH E c q h x)
theorem Fx (htb:AY S P tb) (h: ∀ c∈ct,c.Holds P) (ok:AH S P f p=true) {k:p.sp.D S->Option (p.rs.D S)} {α:Type} [NN α] (g:α->p.sp.D S->Option (p.rs.D S)) (T:((c:Nat)->(q:Cut)->lk p.C6 c=some q->q.sp.D S->Option (p.rs.D S))->α) (s:α->α)
  (e:(T (ig (Au P f tb ct p) 0),(fun n=>T (ig (Au P f tb ct p) (n+1))),(fun N=>(Au P f tb ct p).KJ 3000 N p.sp),k)=(NN.nn,(fun n=>s (T (ig (Au P f tb ct p) n))),(fun N=>g (T (ig (Au P f tb ct p) N))),g (Bp s 1000000))):(kc f p k).Holds P:=by
 have e0:=congrArg Prod.fst e;have e1:=congrArg (fun x=>x.2.1) e;have e2:=congrArg (fun x=>x.2.2.1) e;have e3:=congrArg (fun x=>x.2.2.2) e
 simp only at e0 e1 e2 e3
 have:=UZ (fun N=>RI 3000 N htb h ok) g (fun n=>T (ig (Au P f tb ct p) n)) _ s 1000000 e0 (fun n=>congrFun e1 n) (fun N=>congrFun e2 N)
 rw [e3];exact this
def Wo (E:Env S) (J:Jump E) (n c:Nat) (q:Cut) (h:lk E.C6 c=some q) (x:q.sp.D S):Option E.ρ:=Ei (E.Iz 3000 J) n c (EH E c q h x)
theorem oT (htb:AY S P tb) (h: ∀ c∈ct,c.Holds P) (ok:AH S P f p=true) {k:p.sp.D S->Option (p.rs.D S)} (J:Jump (Au P f tb ct p)) (hJ:J.Ok P) {α:Type} [NN α] (g:α->p.sp.D S->Option (p.rs.D S)) (T:((c:Nat)->(q:Cut)->lk p.C6 c=some q->q.sp.D S->Option (p.rs.D S))->α) (s:α->α)
  (e:(T (Wo (Au P f tb ct p) J 0),(fun n=>T (Wo (Au P f tb ct p) J (n+1))),(fun N=>(Au P f tb ct p).ZS 3000 N J p.sp),k)=(NN.nn,(fun n=>s (T (Wo (Au P f tb ct p) J n))),(fun N=>g (T (Wo (Au P f tb ct p) J N))),g (Bp s 1000000))):(kc f p k).Holds P:=by
 have e0:=congrArg Prod.fst e;have e1:=congrArg (fun x=>x.2.1) e;have e2:=congrArg (fun x=>x.2.2.1) e;have e3:=congrArg (fun x=>x.2.2.2) e
 simp only at e0 e1 e2 e3
 have:=UZ (fun N=>Vo 3000 N htb h ok J hJ) g (fun n=>T (Wo (Au P f tb ct p) J n)) _ s 1000000 e0 (fun n=>congrFun e1 n) (fun N=>congrFun e2 N)
 rw [e3];exact this
end
end
def ck {α:Type} (b:Bool) (x:Option α):Option α:=if b=true then x else none
def ci {α:Type} (b:Bool) (x y:α):α:=if b=true then x else y
abbrev lr (δ:Type):Type:=Option (Unit×(δ×Unit))
def iN {δ:Type} (x:δ):lr δ:=some ((),(x,()))
def oX {δ τ σ:Type} (x:τ×(δ×σ)):lr δ:=iN x.2.1
abbrev Sd (δ ε:Type):Type:=Option (Unit×(δ×ε×Unit))
def iO {δ ε:Type} (x:δ) (y:ε):Sd δ ε:=some ((),(x,y,()))
abbrev Fs (α:Type):Type:=Option ((α×Unit)×Unit)
def Cn {α:Type} (a:α):Fs α:=some ((a,()),())
def nt {α τ σ:Type} (x:(α×τ)×σ):Fs α:=Cn x.1.1
abbrev R1 (α δ:Type):Type:=Option ((α×Unit)×(δ×Unit))
def Co {α δ:Type} (a:α) (x:δ):R1 α δ:=some ((a,()),(x,()))
def ML {α δ τ σ:Type} (x:(α×τ)×(δ×σ)):R1 α δ:=Co x.1.1 x.2.1
abbrev R2 (α δ ε:Type):Type:=Option ((α×Unit)×(δ×ε×Unit))
def Aa {α δ ε:Type} (a:α) (x:δ) (y:ε):R2 α δ ε:=some ((a,()),(x,y,()))
def BQ {α δ ε τ σ:Type} (x:(α×τ)×(δ×ε×σ)):R2 α δ ε:=Aa x.1.1 x.2.1 x.2.2.1
abbrev iD (α δ ε ζ:Type):Type:=Option ((α×Unit)×(δ×ε×ζ×Unit))
def ZE {α δ ε ζ:Type} (a:α) (x:δ) (y:ε) (z:ζ):iD α δ ε ζ:=some ((a,()),(x,y,z,()))
abbrev MZ (α β:Type):Type:=Option ((α×β×Unit)×Unit)
def Ev {α β:Type} (a:α) (b:β):MZ α β:=some ((a,b,()),())
def MM {α β τ σ:Type} (x:(α×β×τ)×σ):MZ α β:=Ev x.1.1 x.1.2.1
abbrev WS (α β δ:Type):Type:=Option ((α×β×Unit)×(δ×Unit))
def O6 {α β δ:Type} (a:α) (b:β) (x:δ):WS α β δ:=some ((a,b,()),(x,()))
def nG {α β δ τ σ:Type} (x:(α×β×τ)×(δ×σ)):WS α β δ:=O6 x.1.1 x.1.2.1 x.2.1
abbrev Wc (α β δ ε:Type):Type:=Option ((α×β×Unit)×(δ×ε×Unit))
def R9 {α β δ ε:Type} (a:α) (b:β) (x:δ) (y:ε):Wc α β δ ε:=some ((a,b,()),(x,y,()))
abbrev PI (α β γ:Type):Type:=Option ((α×β×γ×Unit)×Unit)
def HJ {α β γ:Type} (a:α) (b:β) (c:γ):PI α β γ:=some ((a,b,c,()),())
def nv {α β γ τ σ:Type} (x:(α×β×γ×τ)×σ):PI α β γ:=HJ x.1.1 x.1.2.1 x.1.2.2.1
abbrev oP (α β γ δ:Type):Type:=Option ((α×β×γ×Unit)×(δ×Unit))
abbrev Y1 (α δ:Type):Type:=(α×Unit)×(δ×Unit)
abbrev Y2 (α δ ε:Type):Type:=(α×Unit)×(δ×ε×Unit)
abbrev mI (α δ ε ζ:Type):Type:=(α×Unit)×(δ×ε×ζ×Unit)
end Go.En
namespace Go.Proofs
open Go Go.En
def kd (f:Nat) (p:Ak) (m:p.sp.D En.Dop.D4->Option (p.rs.D En.Dop.D4)):B2 En.Dop.D4:=kc f p m
end Go.Proofs
set_option maxRecDepth 100000
set_option maxHeartbeats 4000000
namespace Go.Proofs.Tryz
open Go Go.En
noncomputable section
def LQ.k (k0:PS):R1 Int PS:=
 let A1:=List.getD k0.l (I k0.l.length -1).toNat Dop.d4
 let A2:=A1.at_+I A1.text.length
 ci (I k0.l.length=0) (Co 0 k0)<|
 ck (BI (I k0.l.length -1))<|
 ck (0<=I k0.l.length -1/\I k0.l.length -1<I k0.l.length)<|
 ck (BI A2)<|
 Co A2 k0
def LQ.Kc:=kd 77 LQ.p fun x=>LQ.k x.2.1
theorem LQ.Kh:LQ.Kc.Holds prog:=kh AI hn LQ.ok (by kernel_rfl)
def Es.k (k0:PS):R1 Dop.Tok PS:=
 ci (!(k0.e=0)) ((LQ.k k0).bind fun y3=>
 Co (Dop.Tok.mk 0 [] 0 y3.1.1) y3.2.1)<|
 ci (I k0.l.length<=k0.at_) ((LQ.k k0).bind fun y4=>
 Co (Dop.Tok.mk 0 [] 0 y4.1.1) y4.2.1)<|
 ck (0<=k0.at_/\k0.at_<I k0.l.length)<|
 Co (List.getD k0.l k0.at_.toNat Dop.d4) k0
def Es.Kc:=kd 42 Es.p fun x=>Es.k x.2.1
theorem Es.Kh:Es.Kc.Holds prog:=kh AI (hc LQ.Kh hn) Es.ok (by kernel_rfl)
def Fm.k (kind at_:Int):Fs Dop.Ab:=
 Cn (Dop.Ab.mk kind (-1) (-1) (-1) (-1) [] 0 0 at_)
def Fm.Kc:=kd 78 Fm.p fun x=>Fm.k x.1.1 x.1.2.1
theorem Fm.Kh:Fm.Kc.Holds prog:=kh AI hn Fm.ok (by kernel_rfl)
def NW.k (s:List UInt8) (k0:PS):R1 Bool PS:=
 (Es.k k0).bind fun y2=>
 ci (y2.1.1.kind=4) (Co (decide (y2.1.1.text=s)) y2.2.1)<|
 ci (y2.1.1.kind=2) (Co (decide (y2.1.1.text=s)) y2.2.1)<|
 Co false y2.2.1
def NW.Kc:=kd 79 NW.p fun x=>NW.k x.1.2.1 x.2.1
theorem NW.Kh:NW.Kc.Holds prog:=kh AI (hc Es.Kh hn) NW.ok (by kernel_rfl)
def FA.k (s:List UInt8) (k0:PS):R1 Bool PS:=
 (NW.k s k0).bind fun y2=>
 ci (!y2.1.1) (Co false y2.2.1)<|
 ck (BI (PS.at_ y2.2.1+1))<|
 Co true (PS.VK y2.2.1 (PS.at_ y2.2.1+1))
def FA.Kc:=kd 82 FA.p fun x=>FA.k x.1.2.1 x.2.1
theorem FA.Kh:FA.Kc.Holds prog:=kh AI (hc NW.Kh hn) FA.ok (by kernel_rfl)
def Cj.k (e:Int) (k0:PS):lr PS:=
 ci (k0.e=0) ((Es.k k0).bind fun y3=>
 iN (PS.Fj (PS.ZU y3.2.1 e) y3.1.1.at_))<|
 iN k0
def Cj.Kc:=kd 116 Cj.p fun x=>Cj.k x.1.2.1 x.2.1
theorem Cj.Kh:Cj.Kc.Holds prog:=kh AI (hc Es.Kh hn) Cj.ok (by kernel_rfl)
def GN.k (s:List UInt8) (k0:PS):lr PS:=
 (FA.k s k0).bind fun y2=>
 ci (!y2.1.1) ((Cj.k 5 y2.2.1).bind oX)<|
 iN y2.2.1
def GN.Kc:=kd 80 GN.p fun x=>GN.k x.1.2.1 x.2.1
theorem GN.Kh:GN.Kc.Holds prog:=kh AI (hc FA.Kh (hc Cj.Kh hn)) GN.ok (by kernel_rfl)
def MK.k (k:Int) (k0:PS):R1 Dop.Tok PS:=
 (Es.k k0).bind fun y2=>
 ci (!(y2.1.1.kind=k)) ((Cj.k 5 y2.2.1).bind fun y4=>
 Co (Dop.Tok.mk 0 [] 0 y2.1.1.at_) y4.2.1)<|
 ci (!(PS.e y2.2.1=0)) ((Cj.k 5 y2.2.1).bind fun y5=>
 Co (Dop.Tok.mk 0 [] 0 y2.1.1.at_) y5.2.1)<|
 ck (BI (PS.at_ y2.2.1+1))<|
 Co y2.1.1 (PS.VK y2.2.1 (PS.at_ y2.2.1+1))
def MK.Kc:=kd 81 MK.p fun x=>MK.k x.1.2.1 x.2.1
theorem MK.Kh:MK.Kc.Holds prog:=kh AI (hc Es.Kh (hc Cj.Kh hn)) MK.ok (by kernel_rfl)
abbrev QI.T:Type:=List Dop.HM->Int->Int->Dop.HM->Fs Int
abbrev Dy.KT:Type:=QI.T×Unit
def QI.kB (tK:Dy.KT):QI.T:=fun s t7 t8 b0=>
 let A1:=List.getD s t8.toNat Dop.d6
 ci (t8<t7) (ck (0<=t8/\t8<I s.length)<|
 ci (TL (List.take 4 (List.drop 0 (SV.v (Value.int IntKind.i64 b0.kind)::SV.v (Value.int IntKind.i64 b0.elem)::SV.v (Value.int IntKind.i64 b0.n)::SV.v (Value.string (ByteArray.mk (Array.mk b0.name)))::[]++[]))) (List.take 4 (List.drop 0 (SV.v (Value.int IntKind.i64 A1.kind)::SV.v (Value.int IntKind.i64 A1.elem)::SV.v (Value.int IntKind.i64 A1.n)::SV.v (Value.string (ByteArray.mk (Array.mk A1.name)))::[])))) (Cn t8)<|
 ck (BI (t8+1))<|
 tK.1 s t7 (t8+1) b0)<|
 Cn (-1)
def Dy.kS (tK:Dy.KT):Dy.KT:=(QI.kB tK,())
def Dy.kL (n:Nat):Dy.KT:=Bp Dy.kS n
def Dy.k0 (tK:Dy.KT) (s:List Dop.HM) (v:Dop.HM):Fs Int:=
 tK.1 s (I s.length) 0 v
def Dy.k (s:List Dop.HM) (v:Dop.HM):Fs Int:=Dy.k0 (Dy.kL 1000000) s v
def Dy.Kc:=kd 142 Dy.p fun x=>Dy.k x.1.1 x.1.2.1
theorem Dy.Kh:Dy.Kc.Holds prog:=Fx AI hn Dy.ok (fun t x=>Dy.k0 t x.1.1 x.1.2.1) (fun c=>(fun s t7 t8 b0=>c 2 Dy.q2 rfl ((s,(),t7,t8,()),((b0,()),())),())) Dy.kS (by kernel_rfl)
def J5.k (x:Dop.HM) (k0:PS):R1 Int PS:=
 (Dy.k k0.types x).bind fun y2=>
 ci (0<=y2.1.1) (Co y2.1.1 k0)<|
 ci (I k0.types.length=256) ((Cj.k 4 k0).bind fun y5=>
 Co 0 y5.2.1)<|
 ck (DG none (room 40 (k0.types.length+(x::[]).length)))<|
 ck (BI (I (k0.types++x::[]).length -1))<|
 Co (I (k0.types++x::[]).length -1) (PS.VM k0 (k0.types++x::[]))
def J5.Kc:=kd 118 J5.p fun x=>J5.k x.1.2.1 x.2.1
theorem J5.Kh:J5.Kc.Holds prog:=kh AI (hc Dy.Kh (hc Cj.Kh hn)) J5.ok (by kernel_rfl)
abbrev L0.T:Type:=Int->PS->R1 Int PS
abbrev DW.KT:Type:=L0.T×Unit
def L0.kB (tK:DW.KT):L0.T:=fun t k0=>
 (FA.k ([42]:List UInt8) k0).bind fun y2=>
 ci y2.1.1 ((J5.k (Dop.HM.mk 4 t 0 []) y2.2.1).bind fun y4=>
 tK.1 y4.1.1 y4.2.1)<|
 Co t y2.2.1
def DW.kS (tK:DW.KT):DW.KT:=(L0.kB tK,())
def DW.kL (n:Nat):DW.KT:=Bp DW.kS n
def DW.k0 (tK:DW.KT) (k0:PS):R1 Int PS:=
 (FA.k ([118,111,105,100]:List UInt8) k0).bind fun y2=>
 ci y2.1.1 (tK.1 0 y2.2.1)<|
 (FA.k ([105,110,116]:List UInt8) y2.2.1).bind fun y4=>
 ci y4.1.1 (tK.1 1 y4.2.1)<|
 (FA.k ([117,110,115,105,103,110,101,100]:List UInt8) y4.2.1).bind fun y6=>
 ci y6.1.1 (tK.1 2 y6.2.1)<|
 (FA.k ([99,104,97,114]:List UInt8) y6.2.1).bind fun y8=>
 ci y8.1.1 (tK.1 3 y8.2.1)<|
 (GN.k ([115,116,114,117,99,116]:List UInt8) y8.2.1).bind fun y10=>
 (MK.k 1 y10.2.1).bind fun y11=>
 (J5.k (Dop.HM.mk 6 0 0 y11.1.1.text) y11.2.1).bind fun y12=>
 tK.1 y12.1.1 y12.2.1
def DW.k (k0:PS):R1 Int PS:=DW.k0 (DW.kL 1000000) k0
def DW.Kc:=kd 117 DW.p fun x=>DW.k x.2.1
theorem DW.Kh:DW.Kc.Holds prog:=Fx AI (hc FA.Kh (hc GN.Kh (hc MK.Kh (hc J5.Kh hn)))) DW.ok (fun t x=>DW.k0 t x.2.1) (fun c=>(fun t k0=>c 11 DW.da rfl (((),t,()),(k0,())),())) DW.kS (by kernel_rfl)
def Yd.k (k0:PS):R1 Dop.Ab PS:=
 (Es.k k0).bind fun y2=>
 (Fm.k 51 y2.1.1.at_).bind fun y3=>
 (DW.k y2.2.1).bind fun y4=>
 (MK.k 1 y4.2.1).bind fun y5=>
 Co (Dop.Ab.mk y3.1.1.kind y3.1.1.a y3.1.1.b y3.1.1.c y3.1.1.d y5.1.1.text y3.1.1.n y4.1.1 y3.1.1.at_) y5.2.1
def Yd.Kc:=kd 83 Yd.p fun x=>Yd.k x.2.1
theorem Yd.Kh:Yd.Kc.Holds prog:=kh AI (hc Es.Kh (hc Fm.Kh (hc DW.Kh (hc MK.Kh hn)))) Yd.ok (by kernel_rfl)
def Tq.k (t:Int) (k0:PS):R1 Int PS:=
 (FA.k ([91]:List UInt8) k0).bind fun y2=>
 ci (!y2.1.1) (Co t y2.2.1)<|
 (MK.k 3 y2.2.1).bind fun y4=>
 (GN.k ([93]:List UInt8) y4.2.1).bind fun y5=>
 (J5.k (Dop.HM.mk 5 t y4.1.1.n []) y5.2.1).bind ML
def Tq.Kc:=kd 84 Tq.p fun x=>Tq.k x.1.2.1 x.2.1
theorem Tq.Kh:Tq.Kc.Holds prog:=kh AI (hc FA.Kh (hc MK.Kh (hc GN.Kh (hc J5.Kh hn)))) Tq.ok (by kernel_rfl)
def ES.k (n:Dop.Ab) (k0:PS):R1 Int PS:=
 ci (I k0.nodes.length=8192) ((Cj.k 4 k0).bind fun y3=>
 ci (!(PS.e y3.2.1=0)) (Co (-1) y3.2.1)<|
 ck (DG none (room 80 ((PS.nodes y3.2.1).length+(n::[]).length)))<|
 ck (BI (I (PS.nodes y3.2.1++n::[]).length -1))<|
 Co (I (PS.nodes y3.2.1++n::[]).length -1) (PS.FK y3.2.1 (PS.nodes y3.2.1++n::[])))<|
 ci (!(k0.e=0)) (Co (-1) k0)<|
 ck (DG none (room 80 (k0.nodes.length+(n::[]).length)))<|
 ck (BI (I (k0.nodes++n::[]).length -1))<|
 Co (I (k0.nodes++n::[]).length -1) (PS.FK k0 (k0.nodes++n::[]))
def ES.Kc:=kd 85 ES.p fun x=>ES.k x.1.2.1 x.2.1
theorem ES.Kh:ES.Kc.Holds prog:=kh AI (hc Cj.Kh hn) ES.ok (by kernel_rfl)
def HU.k (n:Int) (k0:PS):R1 Int PS:=
 ci (n<0) (Co 0 k0)<|
 ck (0<=n/\n<I k0.nodes.length)<|
 ck (n.toNat<k0.nodes.length)<|
 Co ((List.getD k0.nodes n.toNat Dop.d5).at_) k0
def NG.k (t:Dop.FM) (n:Int):Fs Dop.Ab:=
 let A1:=Cn (Dop.Ab.mk 0 0 0 0 0 [] 0 0 0)
 ci (n<0) A1<|
 ci (I t.nodes.length<=n) A1<|
 ck (0<=n/\n<I t.nodes.length)<|
 Cn (List.getD t.nodes n.toNat Dop.d5)
def NG.Kc:=kd 45 NG.p fun x=>NG.k x.1.1 x.1.2.1
theorem NG.Kh:NG.Kc.Holds prog:=kh AI hn NG.ok (by kernel_rfl)
abbrev Ux.T:Type:=Int->List Int->Int->Int->Dop.FM->Fs (List Int)
abbrev Gq.KT:Type:=Ux.T×Unit
def Ux.kB (tK:Gq.KT):Ux.T:=fun n out t9 t10 b0=>
 ci (t10<t9) ((NG.k b0 n).bind fun y3=>
 ci (!(y3.1.1.kind=20)) (Cn out)<|
 ck (DG none (room 8 (out.length+(y3.1.1.a::[]).length)))<|
 ck (BI (t10+1))<|
 tK.1 y3.1.1.b (out++y3.1.1.a::[]) t9 (t10+1) b0)<|
 Cn out
def Gq.kS (tK:Gq.KT):Gq.KT:=(Ux.kB tK,())
def Gq.kL (n:Nat):Gq.KT:=Bp Gq.kS n
def Gq.k0 (tK:Gq.KT) (t:Dop.FM) (n:Int):Fs (List Int):=
 tK.1 n [] (I t.nodes.length) 0 t
def Gq.k (t:Dop.FM) (n:Int):Fs (List Int):=Gq.k0 (Gq.kL 1000000) t n
def Gq.Kc:=kd 25 Gq.p fun x=>Gq.k x.1.1 x.1.2.1
theorem Gq.Kh:Gq.Kc.Holds prog:=Fx AI (hc NG.Kh hn) Gq.ok (fun t x=>Gq.k0 t x.1.1 x.1.2.1) (fun c=>(fun n out t9 t10 b0=>c 3 Gq.q3 rfl ((n,(),out,t9,t10,()),((b0,()),())),())) Gq.kS (by kernel_rfl)
def NO.k (k0:PS):R1 Bool PS:=
 (NW.k ([105,110,116]:List UInt8) k0).bind fun y2=>
 ci y2.1.1 (Co true y2.2.1)<|
 (NW.k ([117,110,115,105,103,110,101,100]:List UInt8) y2.2.1).bind fun y4=>
 ci y4.1.1 (Co true y4.2.1)<|
 (NW.k ([99,104,97,114]:List UInt8) y4.2.1).bind fun y6=>
 ci y6.1.1 (Co true y6.2.1)<|
 (NW.k ([118,111,105,100]:List UInt8) y6.2.1).bind fun y8=>
 ci y8.1.1 (Co true y8.2.1)<|
 (NW.k ([115,116,114,117,99,116]:List UInt8) y8.2.1).bind ML
def NO.Kc:=kd 173 NO.p fun x=>NO.k x.2.1
theorem NO.Kh:NO.Kc.Holds prog:=kh AI (hc NW.Kh hn) NO.ok (by kernel_rfl)
abbrev Oz.T:Type:=List UInt8->Int->MZ Int Bool
abbrev Hz.KT:Type:=Oz.T×Unit
def Oz.kB (tK:Hz.KT):Oz.T:=fun s at_=>
 let A1:=List.drop at_.toNat (List.take (I s.length).toNat s)
 let A3:=at_+Lib.indexByte A1 (Int.toNat 10).toUInt8
 let A2:=List.drop (Int.toNat 2) (List.take (I A1.length).toNat A1)
 ci (at_<I s.length) (ck (0<=at_/\at_<=I s.length/\I s.length<=I s.length)<|
 ck (0<=at_/\at_<I s.length)<|
 ck true<|
 ci (0<=Lib.indexByte ([32,9,10,13]:List UInt8) (DC s at_).toNat.toUInt8) (ck (BI (at_+1))<|
 tK.1 s (at_+1))<|
 ck true<|
 ci (Lib.hasPrefix A1 ([47,47]:List UInt8)) (ck true<|
 ci (Lib.indexByte A1 (Int.toNat 10).toUInt8<0) (Ev (I s.length) true)<|
 ck (BI A3)<|
 tK.1 s A3)<|
 ck true<|
 ci (Lib.hasPrefix A1 ([47,42]:List UInt8)) (ck ((0:Int)<=2/\2<=I A1.length/\I A1.length<=I A1.length)<|
 ck (V4 A2)<|
 ci (Lib.index A2 ([42,47]:List UInt8)<0) (Ev at_ false)<|
 ck (BI (Lib.index A2 ([42,47]:List UInt8)+4))<|
 ck (BI (at_+(Lib.index A2 ([42,47]:List UInt8)+4)))<|
 tK.1 s (at_+(Lib.index A2 ([42,47]:List UInt8)+4)))<|
 Ev at_ true)<|
 Ev at_ true
def Hz.kS (tK:Hz.KT):Hz.KT:=(Oz.kB tK,())
def Hz.kL (n:Nat):Hz.KT:=Bp Hz.kS n
def Hz.k0 (tK:Hz.KT) (s:List UInt8):MZ Int Bool:=
 tK.1 s 0
def Hz.k (s:List UInt8):MZ Int Bool:=Hz.k0 (Hz.kL 1000000) s
def Hz.Kc:=kd 40 Hz.p fun x=>Hz.k x.1.1
theorem Hz.Kh:Hz.Kc.Holds prog:=Fx AI (hc indexByte.holds (hc hasPrefix.holds (hc index.holds hn))) Hz.ok (fun t x=>Hz.k0 t x.1.1) (fun c=>(fun s at_=>c 2 Hz.q2 rfl ((s,at_,()),()),())) Hz.kS (by kernel_rfl)
def Tn.k (c:Int):Fs Bool:=
 let z1:Fs Bool:=
 ci (65<=c) (ci (c<=90) (Cn true)<|
 Cn (decide (c=95)))<|
 Cn (decide (c=95))
 ci (97<=c) (ci (c<=122) (Cn true)<|
 z1)<|
 z1
def Tn.Kc:=kd 70 Tn.p fun x=>Tn.k x.1.1
theorem Tn.Kh:Tn.Kc.Holds prog:=kh AI hn Tn.ok (by kernel_rfl)
def To.k (c:Int):Fs Bool:=
 ci (48<=c) (Cn (decide (c<=57)))<|
 Cn false
def To.Kc:=kd 73 To.p fun x=>To.k x.1.1
theorem To.Kh:To.Kc.Holds prog:=kh AI hn To.ok (by kernel_rfl)
abbrev LO.T:Type:=List UInt8->Int->Fs Int
abbrev Ib.KT:Type:=LO.T×Unit
def LO.kB (tK:Ib.KT):LO.T:=fun s n=>
 ci (n<I s.length) (ck (0<=n/\n<I s.length)<|
 (Tn.k (DC s n)).bind fun y3=>
 ci y3.1.1 (ck (BI (n+1))<|
 tK.1 s (n+1))<|
 ck (0<=n/\n<I s.length)<|
 (To.k (DC s n)).bind fun y5=>
 ci y5.1.1 (ck (BI (n+1))<|
 tK.1 s (n+1))<|
 Cn n)<|
 Cn n
def Ib.kS (tK:Ib.KT):Ib.KT:=(LO.kB tK,())
def Ib.kL (n:Nat):Ib.KT:=Bp Ib.kS n
def Ib.k0 (tK:Ib.KT) (s:List UInt8):Fs Int:=
 tK.1 s 0
def Ib.k (s:List UInt8):Fs Int:=Ib.k0 (Ib.kL 1000000) s
def Ib.Kc:=kd 71 Ib.p fun x=>Ib.k x.1.1
theorem Ib.Kh:Ib.Kc.Holds prog:=Fx AI (hc Tn.Kh (hc To.Kh hn)) Ib.ok (fun t x=>Ib.k0 t x.1.1) (fun c=>(fun s n=>c 2 Ib.q2 rfl ((s,n,()),()),())) Ib.kS (by kernel_rfl)
def Yc.k (w:List UInt8):Fs Bool:=
 ci (!(w=[])) (ck (V4 w)<|
 ci (!Lib.contains w ([32]:List UInt8)) (ck (([32]:List UInt8).length+w.length<=9223372036854775807)<|
 ck (((32:UInt8)::[]++w).length+([32]:List UInt8).length<=9223372036854775807)<|
 ck (V4 (([32,98,114,101,97,107,32,99,97,115,101,32,99,104,97,114,32,99,111,110,116,105,110,117,101,32,100,101,102,97,117,108,116,32,100,111,32,101,108,115,101,32,102,111,114,32,103,101,116,99,32,103,111,116,111,32,105,102]:List UInt8).append ([32,105,110,116,32,112,117,116,99,32,114,101,116,117,114,110,32,115,105,122,101,111,102,32,115,116,114,117,99,116,32,115,119,105,116,99,104,32,117,110,115,105,103,110,101,100,32,118,111,105,100,32,119,104,105,108,101,32]:List UInt8)))<|
 Cn (Lib.contains (([32,98,114,101,97,107,32,99,97,115,101,32,99,104,97,114,32,99,111,110,116,105,110,117,101,32,100,101,102,97,117,108,116,32,100,111,32,101,108,115,101,32,102,111,114,32,103,101,116,99,32,103,111,116,111,32,105,102]:List UInt8).append ([32,105,110,116,32,112,117,116,99,32,114,101,116,117,114,110,32,115,105,122,101,111,102,32,115,116,114,117,99,116,32,115,119,105,116,99,104,32,117,110,115,105,103,110,101,100,32,118,111,105,100,32,119,104,105,108,101,32]:List UInt8)) ((32:UInt8)::[]++w++(32:UInt8)::[])))<|
 Cn false)<|
 Cn false
def Yc.Kc:=kd 72 Yc.p fun x=>Yc.k x.1.1
theorem Yc.Kh:Yc.Kc.Holds prog:=kh AI (hc contains.holds hn) Yc.ok (by kernel_rfl)
def Ru.k (kind n size:Int) (b0:List UInt8):WS Dop.Tok Int (List UInt8×Unit):=
 ck ((0:Int)<=0/\0<=size/\size<=I b0.length)<|
 O6 (Dop.Tok.mk kind (List.drop (Int.toNat 0) (List.take size.toNat b0)) n 0) 0 (b0,())
def Ru.Kc:=kd 69 Ru.p fun x=>Ru.k x.1.1 x.1.2.1 x.1.2.2.1 x.2.1.1
theorem Ru.Kh:Ru.Kc.Holds prog:=kh AI hn Ru.ok (by kernel_rfl)
abbrev LP.T:Type:=List UInt8->Int->Int->Int->Int->MZ Int Bool
abbrev He.KT:Type:=LP.T×Unit
def LP.kB (tK:He.KT):LP.T:=fun s base n t34 t35=>
 let A1:=Lib.toLowerA (List.drop t35.toNat (List.take (t35+1).toNat s))
 ci (t35<t34) (ck (BI (t35+1))<|
 ck (0<=t35/\t35<=t35+1/\t35+1<=I s.length)<|
 ck (Zt (List.drop t35.toNat (List.take (t35+1).toNat s)))<|
 ck ((0:Int)<=0/\0<I A1.length)<|
 ck true<|
 ci (Lib.indexByte ([48,49,50,51,52,53,54,55,56,57,97,98,99,100,101,102]:List UInt8) (DC A1 0).toNat.toUInt8<0) (Ev 0 false)<|
 ci (base<=Lib.indexByte ([48,49,50,51,52,53,54,55,56,57,97,98,99,100,101,102]:List UInt8) (DC A1 0).toNat.toUInt8) (Ev 0 false)<|
 ck (BI (n*base))<|
 ck (BI (n*base+Lib.indexByte ([48,49,50,51,52,53,54,55,56,57,97,98,99,100,101,102]:List UInt8) (DC A1 0).toNat.toUInt8))<|
 ci (4294967295<n*base+Lib.indexByte ([48,49,50,51,52,53,54,55,56,57,97,98,99,100,101,102]:List UInt8) (DC A1 0).toNat.toUInt8) (Ev 0 false)<|
 ck (BI (t35+1))<|
 tK.1 s base (n*base+Lib.indexByte ([48,49,50,51,52,53,54,55,56,57,97,98,99,100,101,102]:List UInt8) (DC A1 0).toNat.toUInt8) t34 (t35+1))<|
 Ev n (!decide (s=[]))
def He.kS (tK:He.KT):He.KT:=(LP.kB tK,())
def He.kL (n:Nat):He.KT:=Bp He.kS n
def He.k0 (tK:He.KT) (s:List UInt8):MZ Int Bool:=
 let A3:=List.drop (Int.toNat 2) (List.take (I s.length).toNat s)
 let A1:=List.drop (Int.toNat 0) (List.take (I s.length -1).toNat s)
 let A2:=List.drop (Int.toNat 2) (List.take (I A1.length).toNat A1)
 let z1:MZ Int Bool:=
 let z3:MZ Int Bool:=
 ck ((0:Int)<=2/\2<=I A1.length/\I A1.length<=I A1.length)<|
 tK.1 A2 16 0 (I A2.length) 0
 ck ((0:Int)<=0/\0<=I s.length -1/\I s.length -1<=I s.length)<|
 ck true<|
 ci (Lib.hasPrefix A1 ([48,120]:List UInt8)) (z3)<|
 ck true<|
 ci (Lib.hasPrefix A1 ([48,88]:List UInt8)) (z3)<|
 tK.1 A1 10 0 (I A1.length) 0
 let z2:MZ Int Bool:=
 ck ((0:Int)<=2/\2<=I s.length/\I s.length<=I s.length)<|
 tK.1 A3 16 0 (I A3.length) 0
 ck (BI (I s.length -1))<|
 ck (0<=I s.length -1/\I s.length -1<I s.length)<|
 ci (DC s (I s.length -1)=117) (z1)<|
 ck (0<=I s.length -1/\I s.length -1<I s.length)<|
 ci (DC s (I s.length -1)=85) (z1)<|
 ck true<|
 ci (Lib.hasPrefix s ([48,120]:List UInt8)) (z2)<|
 ck true<|
 ci (Lib.hasPrefix s ([48,88]:List UInt8)) (z2)<|
 tK.1 s 10 0 (I s.length) 0
def He.k (s:List UInt8):MZ Int Bool:=He.k0 (He.kL 1000000) s
def He.Kc:=kd 74 He.p fun x=>He.k x.1.1
theorem He.Kh:He.Kc.Holds prog:=Fx AI (hc hasPrefix.holds (hc lower.holds (hc indexByte.holds hn))) He.ok (fun t x=>He.k0 t x.1.1) (fun c=>(fun s base n t34 t35=>c 9 He.q9 rfl ((s,base,n,t34,t35,()),()),())) He.kS (by kernel_rfl)
def Tp.KE:Env Dop.D4:=Au prog 75 tb [] Tp.p
def Tp.k (s:List UInt8):MZ Int Int:=Tp.KE.KJ 3000 1000000 Tp.p.sp ((s,()),())
def Tp.Kc:=kd 75 Tp.p fun x=>Tp.k x.1.1
theorem Tp.Kh:Tp.Kc.Holds prog:=kh AI hn Tp.ok (by kernel_rfl)
def NH.k :Fs (List (List UInt8)):=
 ck (Zt (([60,60,61,32,62,62,61,32,43,43,32,45,45,32,45,62,32,43,61,32,45,61,32,42,61,32,47,61,32,37,61,32,38,61,32,124,61,32,94,61,32,60,60,32,62,62,32,60,61,32,62,61,32,61,61,32]:List UInt8).append ([33,61,32,38,38,32,124,124,32,43,32,45,32,42,32,47,32,37,32,38,32,124,32,94,32,126,32,33,32,60,32,62,32,61,32,63,32,58,32,59,32,44,32,46,32,40,32,41,32,91,32,93,32,123,32,125]:List UInt8)) && ((Lib.fields (([60,60,61,32,62,62,61,32,43,43,32,45,45,32,45,62,32,43,61,32,45,61,32,42,61,32,47,61,32,37,61,32,38,61,32,124,61,32,94,61,32,60,60,32,62,62,32,60,61,32,62,61,32,61,61,32]:List UInt8).append ([33,61,32,38,38,32,124,124,32,43,32,45,32,42,32,47,32,37,32,38,32,124,32,94,32,126,32,33,32,60,32,62,32,61,32,63,32,58,32,59,32,44,32,46,32,40,32,41,32,91,32,93,32,123,32,125]:List UInt8))).length<=maxLen))<|
 Cn (List.map (fun (a:List UInt8)=>a) (Lib.fields (([60,60,61,32,62,62,61,32,43,43,32,45,45,32,45,62,32,43,61,32,45,61,32,42,61,32,47,61,32,37,61,32,38,61,32,124,61,32,94,61,32,60,60,32,62,62,32,60,61,32,62,61,32,61,61,32]:List UInt8).append ([33,61,32,38,38,32,124,124,32,43,32,45,32,42,32,47,32,37,32,38,32,124,32,94,32,126,32,33,32,60,32,62,32,61,32,63,32,58,32,59,32,44,32,46,32,40,32,41,32,91,32,93,32,123,32,125]:List UInt8))))
def NH.Kc:=kd 115 NH.p fun x=>NH.k
theorem NH.Kh:NH.Kc.Holds prog:=kh AI (hc fields.holds hn) NH.ok (by kernel_rfl)
abbrev Uz.T:Type:=List UInt8->(List (List UInt8))->Int->Int->Fs (List UInt8)
abbrev KS.KT:Type:=Uz.T×Unit
def Uz.kB (tK:KS.KT):Uz.T:=fun s t5 t6 t7=>
 let A1:=List.getD t5 t7.toNat []
 ci (t7<t6) (ck (0<=t7/\t7<I t5.length)<|
 ck (t7.toNat<t5.length)<|
 ck true<|
 ci (Lib.hasPrefix s A1) (Cn A1)<|
 ck (BI (t7+1))<|
 tK.1 s t5 t6 (t7+1))<|
 Cn []
def KS.kS (tK:KS.KT):KS.KT:=(Uz.kB tK,())
def KS.kL (n:Nat):KS.KT:=Bp KS.kS n
def KS.k0 (tK:KS.KT) (s:List UInt8):Fs (List UInt8):=
 (NH.k).bind fun y2=>
 tK.1 s y2.1.1 (I y2.1.1.length) 0
def KS.k (s:List UInt8):Fs (List UInt8):=KS.k0 (KS.kL 1000000) s
def KS.Kc:=kd 76 KS.p fun x=>KS.k x.1.1
theorem KS.Kh:KS.Kc.Holds prog:=Fx AI (hc NH.Kh (hc hasPrefix.holds hn)) KS.ok (fun t x=>KS.k0 t x.1.1) (fun c=>(fun s t5 t6 t7=>c 2 KS.q2 rfl ((s,t5,t6,t7,()),()),())) KS.kS (by kernel_rfl)
def Tm.k (o:List UInt8):MZ Dop.Tok Int:=
 ck ((0:Int)<=0/\0<I o.length)<|
 (Tn.k (DC o 0)).bind fun y2=>
 ci y2.1.1 ((Ib.k o).bind fun y4=>
 ck ((0:Int)<=0/\0<=y4.1.1/\y4.1.1<=I o.length)<|
 (Yc.k (List.drop (Int.toNat 0) (List.take y4.1.1.toNat o))).bind fun y5=>
 ci y5.1.1 ((Ru.k 2 0 y4.1.1 o).bind MM)<|
 (Ru.k 1 0 y4.1.1 o).bind MM)<|
 ck ((0:Int)<=0/\0<I o.length)<|
 (To.k (DC o 0)).bind fun y4=>
 ci y4.1.1 ((Ib.k o).bind fun y6=>
 ck ((0:Int)<=0/\0<=y6.1.1/\y6.1.1<=I o.length)<|
 (He.k (List.drop (Int.toNat 0) (List.take y6.1.1.toNat o))).bind fun y7=>
 ci (!y7.1.2.1) (Ev (Dop.Tok.mk 0 [] 0 0) 3)<|
 (Ru.k 3 y7.1.1 y6.1.1 o).bind MM)<|
 ck ((0:Int)<=0/\0<I o.length)<|
 ci (DC o (0:Int)=39) ((Tp.k o).bind fun y7=>
 ci (0<y7.1.2.1) ((Ru.k 3 y7.1.1 y7.1.2.1 o).bind MM)<|
 Ev (Dop.Tok.mk 0 [] 0 0) 2)<|
 (KS.k o).bind fun y7=>
 ci (!(y7.1.1=[])) ((Ru.k 4 0 (I y7.1.1.length) o).bind MM)<|
 Ev (Dop.Tok.mk 0 [] 0 0) 2
def Tm.Kc:=kd 41 Tm.p fun x=>Tm.k x.1.1
theorem Tm.Kh:Tm.Kc.Holds prog:=kh AI (hc Tn.Kh (hc Ib.Kh (hc Yc.Kh (hc Ru.Kh (hc To.Kh (hc He.Kh (hc Tp.Kh (hc KS.Kh hn)))))))) Tm.ok (by kernel_rfl)
abbrev LL.T:Type:=List UInt8->List Dop.Tok->Int->PI (List Dop.Tok) Int Int
abbrev m19.KT:Type:=LL.T×Unit
def LL.kB (tK:m19.KT):LL.T:=fun s out at_=>
 let A1:=List.take (I s.length).toNat s
 ck (0<=at_/\at_<=I s.length/\I s.length<=I s.length)<|
 (Hz.k (List.drop at_.toNat A1)).bind fun y2=>
 ck (BI (at_+y2.1.1))<|
 ci (!y2.1.2.1) (HJ [] (at_+y2.1.1) 2)<|
 ci (at_+y2.1.1=I s.length) (ck (DG none (room 40 (out.length+(Dop.Tok.mk 0 [] 0 (at_+y2.1.1)::[]).length)))<|
 HJ (out++Dop.Tok.mk 0 [] 0 (at_+y2.1.1)::[]) 0 0)<|
 ck (0<=at_+y2.1.1/\at_+y2.1.1<=I s.length/\I s.length<=I s.length)<|
 (Tm.k (List.drop (at_+y2.1.1).toNat A1)).bind fun y5=>
 ci (!(y5.1.2.1=0)) (HJ [] (at_+y2.1.1) y5.1.2.1)<|
 ci (I out.length=8192) (HJ [] (at_+y2.1.1) 4)<|
 ck (DG none (room 40 (out.length+(Dop.Tok.mk y5.1.1.kind y5.1.1.text y5.1.1.n (at_+y2.1.1)::[]).length)))<|
 ck (BI (at_+y2.1.1+I y5.1.1.text.length))<|
 tK.1 s (out++Dop.Tok.mk y5.1.1.kind y5.1.1.text y5.1.1.n (at_+y2.1.1)::[]) (at_+y2.1.1+I y5.1.1.text.length)
def m19.kS (tK:m19.KT):m19.KT:=(LL.kB tK,())
def m19.kL (n:Nat):m19.KT:=Bp m19.kS n
def m19.k0 (tK:m19.KT) (s:List UInt8):PI (List Dop.Tok) Int Int:=
 ci (32768<I s.length) (HJ [] 0 4)<|
 tK.1 s [] 0
def m19.k (s:List UInt8):PI (List Dop.Tok) Int Int:=m19.k0 (m19.kL 1000000) s
def m19.Kc:=kd 22 m19.p fun x=>m19.k x.1.1
theorem m19.Kh:m19.Kc.Holds prog:=Fx AI (hc Hz.Kh (hc Tm.Kh hn)) m19.ok (fun t x=>m19.k0 t x.1.1) (fun c=>(fun s out at_=>c 5 m19.q5 rfl ((s,out,at_,()),()),())) m19.kS (by kernel_rfl)
def NV.k (b0_0:List Dop.Tok) (b0_1 b0_4 b0_5 b0_6 b0_7:Int):R1 Int (List Dop.Tok×Int×Unit×Unit×Int×Int×Int×Int×Unit):=
 let A1:=List.getD b0_0 (I b0_0.length -1).toNat Dop.d4
 let A2:=A1.at_+I A1.text.length
 ci (I b0_0.length=0) (Co 0 (b0_0,(b0_1,((),((),(b0_4,(b0_5,(b0_6,(b0_7,())))))))))<|
 ck (BI (I b0_0.length -1))<|
 ck (0<=I b0_0.length -1/\I b0_0.length -1<I b0_0.length)<|
 ck (BI A2)<|
 Co A2 (b0_0,(b0_1,((),((),(b0_4,(b0_5,(b0_6,(b0_7,()))))))))
def NV.Kc:=kd 77 NV.p fun x=>NV.k x.2.1.1 x.2.1.2.1 x.2.1.2.2.2.2.1 x.2.1.2.2.2.2.2.1 x.2.1.2.2.2.2.2.2.1 x.2.1.2.2.2.2.2.2.2.1
theorem NV.Kh:NV.Kc.Holds prog:=kh AI hn NV.ok (by kernel_rfl)
def NT.k (b0_0:List Dop.Tok) (b0_1 b0_4 b0_5 b0_6 b0_7:Int):R1 Dop.Tok (List Dop.Tok×Int×Unit×Unit×Int×Int×Int×Int×Unit):=
 let A1:=NV.k b0_0 b0_1 b0_4 b0_5 b0_6 b0_7
 let F1:Y1 Int (List Dop.Tok×Int×Unit×Unit×Int×Int×Int×Int×Unit)->R1 Dop.Tok (List Dop.Tok×Int×Unit×Unit×Int×Int×Int×Int×Unit):=fun y4=>
 Co (Dop.Tok.mk 0 [] 0 y4.1.1) (y4.2.1.1,(y4.2.1.2.1,((),((),(y4.2.1.2.2.2.2.1,(y4.2.1.2.2.2.2.2.1,(y4.2.1.2.2.2.2.2.2.1,(y4.2.1.2.2.2.2.2.2.2.1,()))))))))
 ci (!(b0_6=0)) (A1.bind F1)<|
 ci (I b0_0.length<=b0_1) (A1.bind F1)<|
 ck (0<=b0_1/\b0_1<I b0_0.length)<|
 Co (List.getD b0_0 b0_1.toNat Dop.d4) (b0_0,(b0_1,((),((),(b0_4,(b0_5,(b0_6,(b0_7,()))))))))
def NT.Kc:=kd 42 NT.p fun x=>NT.k x.2.1.1 x.2.1.2.1 x.2.1.2.2.2.2.1 x.2.1.2.2.2.2.2.1 x.2.1.2.2.2.2.2.2.1 x.2.1.2.2.2.2.2.2.2.1
theorem NT.Kh:NT.Kc.Holds prog:=kh AI (hc NV.Kh hn) NT.ok (by kernel_rfl)
def JQ.k (s:List UInt8) (b0_0:List Dop.Tok) (b0_1 b0_4 b0_5 b0_6 b0_7:Int):R1 Bool (List Dop.Tok×Int×Unit×Unit×Int×Int×Int×Int×Unit):=
 (NT.k b0_0 b0_1 b0_4 b0_5 b0_6 b0_7).bind fun y2=>
 ci (y2.1.1.kind=4) (Co (decide (y2.1.1.text=s)) (y2.2.1.1,(y2.2.1.2.1,((),((),(y2.2.1.2.2.2.2.1,(y2.2.1.2.2.2.2.2.1,(y2.2.1.2.2.2.2.2.2.1,(y2.2.1.2.2.2.2.2.2.2.1,())))))))))<|
 ci (y2.1.1.kind=2) (Co (decide (y2.1.1.text=s)) (y2.2.1.1,(y2.2.1.2.1,((),((),(y2.2.1.2.2.2.2.1,(y2.2.1.2.2.2.2.2.1,(y2.2.1.2.2.2.2.2.2.1,(y2.2.1.2.2.2.2.2.2.2.1,())))))))))<|
 Co false (y2.2.1.1,(y2.2.1.2.1,((),((),(y2.2.1.2.2.2.2.1,(y2.2.1.2.2.2.2.2.1,(y2.2.1.2.2.2.2.2.2.1,(y2.2.1.2.2.2.2.2.2.2.1,()))))))))
def JQ.Kc:=kd 79 JQ.p fun x=>JQ.k x.1.2.1 x.2.1.1 x.2.1.2.1 x.2.1.2.2.2.2.1 x.2.1.2.2.2.2.2.1 x.2.1.2.2.2.2.2.2.1 x.2.1.2.2.2.2.2.2.2.1
theorem JQ.Kh:JQ.Kc.Holds prog:=kh AI (hc NT.Kh hn) JQ.ok (by kernel_rfl)
def Hu.k (b0_0:List Dop.Tok) (b0_1 b0_4 b0_5 b0_6 b0_7:Int):R1 Bool (List Dop.Tok×Int×Unit×Unit×Int×Int×Int×Int×Unit):=
 (JQ.k ([105,110,116]:List UInt8) b0_0 b0_1 b0_4 b0_5 b0_6 b0_7).bind fun y2=>
 ci y2.1.1 (Co true (y2.2.1.1,(y2.2.1.2.1,((),((),(y2.2.1.2.2.2.2.1,(y2.2.1.2.2.2.2.2.1,(y2.2.1.2.2.2.2.2.2.1,(y2.2.1.2.2.2.2.2.2.2.1,())))))))))<|
 (JQ.k ([117,110,115,105,103,110,101,100]:List UInt8) y2.2.1.1 y2.2.1.2.1 y2.2.1.2.2.2.2.1 y2.2.1.2.2.2.2.2.1 y2.2.1.2.2.2.2.2.2.1 y2.2.1.2.2.2.2.2.2.2.1).bind fun y4=>
 ci y4.1.1 (Co true (y4.2.1.1,(y4.2.1.2.1,((),((),(y4.2.1.2.2.2.2.1,(y4.2.1.2.2.2.2.2.1,(y4.2.1.2.2.2.2.2.2.1,(y4.2.1.2.2.2.2.2.2.2.1,())))))))))<|
 (JQ.k ([99,104,97,114]:List UInt8) y4.2.1.1 y4.2.1.2.1 y4.2.1.2.2.2.2.1 y4.2.1.2.2.2.2.2.1 y4.2.1.2.2.2.2.2.2.1 y4.2.1.2.2.2.2.2.2.2.1).bind fun y6=>
 ci y6.1.1 (Co true (y6.2.1.1,(y6.2.1.2.1,((),((),(y6.2.1.2.2.2.2.1,(y6.2.1.2.2.2.2.2.1,(y6.2.1.2.2.2.2.2.2.1,(y6.2.1.2.2.2.2.2.2.2.1,())))))))))<|
 (JQ.k ([118,111,105,100]:List UInt8) y6.2.1.1 y6.2.1.2.1 y6.2.1.2.2.2.2.1 y6.2.1.2.2.2.2.2.1 y6.2.1.2.2.2.2.2.2.1 y6.2.1.2.2.2.2.2.2.2.1).bind fun y8=>
 ci y8.1.1 (Co true (y8.2.1.1,(y8.2.1.2.1,((),((),(y8.2.1.2.2.2.2.1,(y8.2.1.2.2.2.2.2.1,(y8.2.1.2.2.2.2.2.2.1,(y8.2.1.2.2.2.2.2.2.2.1,())))))))))<|
 (JQ.k ([115,116,114,117,99,116]:List UInt8) y8.2.1.1 y8.2.1.2.1 y8.2.1.2.2.2.2.1 y8.2.1.2.2.2.2.2.1 y8.2.1.2.2.2.2.2.2.1 y8.2.1.2.2.2.2.2.2.2.1).bind fun y10=>
 Co y10.1.1 (y10.2.1.1,(y10.2.1.2.1,((),((),(y10.2.1.2.2.2.2.1,(y10.2.1.2.2.2.2.2.1,(y10.2.1.2.2.2.2.2.2.1,(y10.2.1.2.2.2.2.2.2.2.1,()))))))))
def Hu.Kc:=kd 173 Hu.p fun x=>Hu.k x.2.1.1 x.2.1.2.1 x.2.1.2.2.2.2.1 x.2.1.2.2.2.2.2.1 x.2.1.2.2.2.2.2.2.1 x.2.1.2.2.2.2.2.2.2.1
theorem Hu.Kh:Hu.Kc.Holds prog:=kh AI (hc JQ.Kh hn) Hu.ok (by kernel_rfl)
end
end Go.Proofs.Tryz
