/- A function's model that the kernel can run: its trees, so many cuts deep (Env.runF); that it is a contract. -/
import Derived.Test.YtpjlciengdhjoaaGreatDoorMo
import Derived.Test.YtpjlciengdhjoaaGreatDoorMi
import Derived.Test.YtpjlciengdhjoaaGreatDoorMj
namespace Go.En
open Go.RowKit
section
variable {S:As} {P:Program}
def Env.Ei (E:Env S) (f0 n:Nat) (sp:Spec) (x:sp.D S):Option (E.rs.D S):=(Jj E f0 sp x).eval (Ej (E.step f0) n)
def Env.Zi (E:Env S) (f0 n:Nat) (J:Jump E) (sp:Spec) (x:sp.D S):Option (E.rs.D S):=(Jj E f0 sp x).eval (Ej (E.I8 f0 J) n)
theorem RL {f:Nat} {tb:List (Nat×TI)} {ct:List (BU S)} {p:Aj} (f0 n:Nat) (htb:Ae S P tb) (hct: ∀ c∈ct,c.Holds P) (h:AH S P f p=true):
  BU.Holds P ⟨f,p.bn,p.sp,p.rs,p.flat,.opt ((AU P f tb ct p).Ei f0 n p.sp)⟩:=by
 obtain ⟨hE,hb,h3,fn,hf,hbody,hn,hres⟩:=G1 htb hct h
 simp only [AH,dl] at h
 obtain ⟨⟨⟨⟨⟨⟨⟨⟨_,h2⟩,_⟩,_⟩,h5⟩,_⟩,_⟩,_⟩,_⟩:=h
 refine ⟨hb,h3,fun hfl=>?_,fun x y hxy w D β vs o m he hg hon _ hiv=>?_⟩
 ·simp only at hfl;rw [hfl] at h5;simpa using h5
 ·exact O6 (out:=.opt ((AU P f tb ct p).Ei f0 n p.sp)) hE hf hbody hn hres (dk h2) (Ej ((AU P f tb ct p).step f0)) (fun _ _=>rfl) (fun n k q h x y hy=>by simp only [Ej,Env.step_mk] at hy;exact hy) (show _=some y from hxy) he hg hon hiv
theorem Vv {f:Nat} {tb:List (Nat×TI)} {ct:List (BU S)} {p:Aj} (f0 n:Nat) (htb:Ae S P tb) (hct: ∀ c∈ct,c.Holds P) (h:AH S P f p=true) (J:Jump (AU P f tb ct p)) (hJ:J.Ok P):
  BU.Holds P ⟨f,p.bn,p.sp,p.rs,p.flat,.opt ((AU P f tb ct p).Zi f0 n J p.sp)⟩:=by
 obtain ⟨hE,hb,h3,fn,hf,hbody,hn,hres⟩:=G1 htb hct h
 simp only [AH,dl] at h
 obtain ⟨⟨⟨⟨⟨⟨⟨⟨_,h2⟩,_⟩,_⟩,h5⟩,_⟩,_⟩,_⟩,_⟩:=h
 refine ⟨hb,h3,fun hfl=>?_,fun x y hxy w D β vs o m he hg hon _ hiv=>?_⟩
 ·simp only at hfl;rw [hfl] at h5;simpa using h5
 ·exact TY (out:=.opt ((AU P f tb ct p).Zi f0 n J p.sp)) hE hJ hf hbody hn hres (dk h2) (show _=some y from hxy) he hg hon hiv
end
end Go.En
namespace Go.En
open Go.RowKit
section
variable {S:As} {P:Program}
theorem ZL {α:Type} (T:Nat->α) (z:α) (s:α->α) (h0:T 0=z) (hs: ∀ n,T (n+1)=s (T n)): ∀ n,T n=Nat.rec (motive:=fun _=>α) z (fun _ r=>s r) n
 | 0=>h0
 | n+1=>by rw [hs n,ZL T z s h0 hs n]
theorem Ub {f bn:Nat} {sp rs:Spec} {flat:Bool} {α:Type} {m:Nat->sp.D S->Option (rs.D S)} (h: ∀ N,BU.Holds P ⟨f,bn,sp,rs,flat,.opt (m N)⟩) (g:α->sp.D S->Option (rs.D S)) (T:Nat->α) (z:α) (s:α->α) (N:Nat)
  (h0:T 0=z) (hs: ∀ n,T (n+1)=s (T n)) (hm: ∀ N,m N=g (T N)):BU.Holds P ⟨f,bn,sp,rs,flat,.opt (g (Nat.rec (motive:=fun _=>α) z (fun _ r=>s r) N))⟩:=by
 have e:=h N
 rw [hm N,ZL T z s h0 hs N] at e
 exact e
theorem hc {l:List (BU S)} {c:BU S} (h:c.Holds P) (k: ∀ c∈l,c.Holds P): ∀ d∈c::l,d.Holds P:=AS h k
theorem hn: ∀ d∈([]:List (BU S)),d.Holds P:=Am
def kc (f:Nat) (p:Aj) (m:p.sp.D S->Option (p.rs.D S)):BU S:=⟨f,p.bn,p.sp,p.rs,p.flat,.opt m⟩
class NN (α:Type) where
 nn:α
instance {α:Type}:NN (Option α):=⟨none⟩
instance:NN Unit:=⟨()⟩
instance {α β:Type} [NN β]:NN (α->β):=⟨fun _=>NN.nn⟩
instance {α β:Type} [NN α] [NN β]:NN (α×β):=⟨(NN.nn,NN.nn)⟩
def Bd {α:Type} [NN α] (s:α->α) (n:Nat):α:=Nat.rec (motive:=fun _=>α) NN.nn (fun _ r=>s r) n
section
variable {f:Nat} {tb:List (Nat×TI)} {p:Aj} {ct:List (BU S)}
theorem kh (htb:Ae S P tb) (h: ∀ c∈ct,c.Holds P) (ok:AH S P f p=true) {k:p.sp.D S->Option (p.rs.D S)} (e:k=(AU P f tb ct p).Ei 3000 1000000 p.sp):(kc f p k).Holds P:=Mx (RL 3000 1000000 htb h ok) (by unfold kc;rw [e])
def jP (E:Env S) (n c:Nat) (q:Cut) (h:lk E.DF c=some q) (x:q.sp.D S):Option E.ρ:=Ej (E.step 3000) n c (EJ E c q h x)
theorem GB (htb:Ae S P tb) (h: ∀ c∈ct,c.Holds P) (ok:AH S P f p=true) {k:p.sp.D S->Option (p.rs.D S)} {α:Type} [NN α] (g:α->p.sp.D S->Option (p.rs.D S)) (T:((c:Nat)->(q:Cut)->lk p.DF c=some q->q.sp.D S->Option (p.rs.D S))->α) (s:α->α)
  (e:(T (jP (AU P f tb ct p) 0),(fun n=>T (jP (AU P f tb ct p) (n+1))),(fun N=>(AU P f tb ct p).Ei 3000 N p.sp),k)=(NN.nn,(fun n=>s (T (jP (AU P f tb ct p) n))),(fun N=>g (T (jP (AU P f tb ct p) N))),g (Bd s 1000000))):(kc f p k).Holds P:=by
 have e0:=congrArg Prod.fst e;have e1:=congrArg (fun x=>x.2.1) e;have e2:=congrArg (fun x=>x.2.2.1) e;have e3:=congrArg (fun x=>x.2.2.2) e
 simp only at e0 e1 e2 e3
 have:=Ub (fun N=>RL 3000 N htb h ok) g (fun n=>T (jP (AU P f tb ct p) n)) _ s 1000000 e0 (fun n=>congrFun e1 n) (fun N=>congrFun e2 N)
 rw [e3];exact this
def XD (E:Env S) (J:Jump E) (n c:Nat) (q:Cut) (h:lk E.DF c=some q) (x:q.sp.D S):Option E.ρ:=Ej (E.I8 3000 J) n c (EJ E c q h x)
theorem pw (htb:Ae S P tb) (h: ∀ c∈ct,c.Holds P) (ok:AH S P f p=true) {k:p.sp.D S->Option (p.rs.D S)} (J:Jump (AU P f tb ct p)) (hJ:J.Ok P) {α:Type} [NN α] (g:α->p.sp.D S->Option (p.rs.D S)) (T:((c:Nat)->(q:Cut)->lk p.DF c=some q->q.sp.D S->Option (p.rs.D S))->α) (s:α->α)
  (e:(T (XD (AU P f tb ct p) J 0),(fun n=>T (XD (AU P f tb ct p) J (n+1))),(fun N=>(AU P f tb ct p).Zi 3000 N J p.sp),k)=(NN.nn,(fun n=>s (T (XD (AU P f tb ct p) J n))),(fun N=>g (T (XD (AU P f tb ct p) J N))),g (Bd s 1000000))):(kc f p k).Holds P:=by
 have e0:=congrArg Prod.fst e;have e1:=congrArg (fun x=>x.2.1) e;have e2:=congrArg (fun x=>x.2.2.1) e;have e3:=congrArg (fun x=>x.2.2.2) e
 simp only at e0 e1 e2 e3
 have:=Ub (fun N=>Vv 3000 N htb h ok J hJ) g (fun n=>T (XD (AU P f tb ct p) J n)) _ s 1000000 e0 (fun n=>congrFun e1 n) (fun N=>congrFun e2 N)
 rw [e3];exact this
end
end
def ck {α:Type} (b:Bool) (x:Option α):Option α:=if b=true then x else none
def ci {α:Type} (b:Bool) (x y:α):α:=if b=true then x else y
abbrev mU (δ:Type):Type:=Option (Unit×(δ×Unit))
def dQ {δ:Type} (x:δ):mU δ:=some ((),(x,()))
def p4 {δ τ σ:Type} (x:τ×(δ×σ)):mU δ:=dQ x.2.1
abbrev PZ (δ ε:Type):Type:=Option (Unit×(δ×ε×Unit))
def Wg {δ ε:Type} (x:δ) (y:ε):PZ δ ε:=some ((),(x,y,()))
abbrev C9 (α:Type):Type:=Option ((α×Unit)×Unit)
def Aw {α:Type} (a:α):C9 α:=some ((a,()),())
def ov {α τ σ:Type} (x:(α×τ)×σ):C9 α:=Aw x.1.1
abbrev R1 (α δ:Type):Type:=Option ((α×Unit)×(δ×Unit))
def B7 {α δ:Type} (a:α) (x:δ):R1 α δ:=some ((a,()),(x,()))
def PF {α δ τ σ:Type} (x:(α×τ)×(δ×σ)):R1 α δ:=B7 x.1.1 x.2.1
abbrev R2 (α δ ε:Type):Type:=Option ((α×Unit)×(δ×ε×Unit))
def Ar {α δ ε:Type} (a:α) (x:δ) (y:ε):R2 α δ ε:=some ((a,()),(x,y,()))
def C8 {α δ ε τ σ:Type} (x:(α×τ)×(δ×ε×σ)):R2 α δ ε:=Ar x.1.1 x.2.1 x.2.2.1
abbrev mW (α δ ε ζ:Type):Type:=Option ((α×Unit)×(δ×ε×ζ×Unit))
def mn {α δ ε ζ:Type} (a:α) (x:δ) (y:ε) (z:ζ):mW α δ ε ζ:=some ((a,()),(x,y,z,()))
abbrev Hj (α β:Type):Type:=Option ((α×β×Unit)×Unit)
def D8 {α β:Type} (a:α) (b:β):Hj α β:=some ((a,b,()),())
def Iy {α β τ σ:Type} (x:(α×β×τ)×σ):Hj α β:=D8 x.1.1 x.1.2.1
abbrev Wa (α β δ:Type):Type:=Option ((α×β×Unit)×(δ×Unit))
def PH {α β δ:Type} (a:α) (b:β) (x:δ):Wa α β δ:=some ((a,b,()),(x,()))
def nq {α β δ τ σ:Type} (x:(α×β×τ)×(δ×σ)):Wa α β δ:=PH x.1.1 x.1.2.1 x.2.1
abbrev mX (α β δ ε:Type):Type:=Option ((α×β×Unit)×(δ×ε×Unit))
def mo {α β δ ε:Type} (a:α) (b:β) (x:δ) (y:ε):mX α β δ ε:=some ((a,b,()),(x,y,()))
abbrev Ot (α β γ:Type):Type:=Option ((α×β×γ×Unit)×Unit)
def Kd {α β γ:Type} (a:α) (b:β) (c:γ):Ot α β γ:=some ((a,b,c,()),())
def ox {α β γ τ σ:Type} (x:(α×β×γ×τ)×σ):Ot α β γ:=Kd x.1.1 x.1.2.1 x.1.2.2.1
abbrev pc (α β γ δ:Type):Type:=Option ((α×β×γ×Unit)×(δ×Unit))
abbrev Y1 (α δ:Type):Type:=(α×Unit)×(δ×Unit)
abbrev Y2 (α δ ε:Type):Type:=(α×Unit)×(δ×ε×Unit)
end Go.En
namespace Go.Proofs
open Go Go.En
def kd (f:Nat) (p:Aj) (m:p.sp.D En.Dop.D4->Option (p.rs.D En.Dop.D4)):BU En.Dop.D4:=kc f p m
end Go.Proofs
set_option maxRecDepth 100000
set_option maxHeartbeats 4000000
namespace Go.Proofs.Tryz
open Go Go.En
noncomputable section
def Lj.k (k0:PS):R1 Int PS:=
 let A1:=List.getD k0.l (I k0.l.length -1).toNat Dop.d4
 let A2:=A1.at_+I A1.text.length
 ci (I k0.l.length=0) (B7 0 k0)<|
 ck (Al (I k0.l.length -1))<|
 ck (0<=I k0.l.length -1/\I k0.l.length -1<I k0.l.length)<|
 ck (Al A2)<|
 B7 A2 k0
def Lj.Kc:=kd 77 Lj.p fun x=>Lj.k x.2.1
theorem Lj.Kh:Lj.Kc.Holds prog:=kh AJ hn Lj.ok (by kernel_rfl)
def Ef.k (k0:PS):R1 Dop.Tok PS:=
 ci (!(k0.e=0)) ((Lj.k k0).bind fun y1=>
 B7 (Dop.Tok.mk 0 [] 0 y1.1.1) y1.2.1)<|
 ci (I k0.l.length<=k0.at_) ((Lj.k k0).bind fun y1=>
 B7 (Dop.Tok.mk 0 [] 0 y1.1.1) y1.2.1)<|
 ck (0<=k0.at_/\k0.at_<I k0.l.length)<|
 B7 (List.getD k0.l k0.at_.toNat Dop.d4) k0
def Ef.Kc:=kd 44 Ef.p fun x=>Ef.k x.2.1
theorem Ef.Kh:Ef.Kc.Holds prog:=kh AJ (hc Lj.Kh hn) Ef.ok (by kernel_rfl)
def FD.k (kind at_:Int):C9 Dop.AV:=
 Aw (Dop.AV.mk kind (-1) (-1) (-1) (-1) [] 0 0 at_)
def FD.Kc:=kd 78 FD.p fun x=>FD.k x.1.1 x.1.2.1
theorem FD.Kh:FD.Kc.Holds prog:=kh AJ hn FD.ok (by kernel_rfl)
def Oi.k (s:List UInt8) (k0:PS):R1 Bool PS:=
 (Ef.k k0).bind fun y1=>
 ci (y1.1.1.kind=4) (B7 (decide (y1.1.1.text=s)) y1.2.1)<|
 ci (y1.1.1.kind=2) (B7 (decide (y1.1.1.text=s)) y1.2.1)<|
 B7 false y1.2.1
def Oi.Kc:=kd 79 Oi.p fun x=>Oi.k x.1.2.1 x.2.1
theorem Oi.Kh:Oi.Kc.Holds prog:=kh AJ (hc Ef.Kh hn) Oi.ok (by kernel_rfl)
def Em.k (s:List UInt8) (k0:PS):R1 Bool PS:=
 (Oi.k s k0).bind fun y1=>
 ci (!y1.1.1) (B7 false y1.2.1)<|
 ck (Al (PS.at_ y1.2.1+1))<|
 B7 true (PS.VT y1.2.1 (PS.at_ y1.2.1+1))
def Em.Kc:=kd 82 Em.p fun x=>Em.k x.1.2.1 x.2.1
theorem Em.Kh:Em.Kc.Holds prog:=kh AJ (hc Oi.Kh hn) Em.ok (by kernel_rfl)
def Cs.k (e:Int) (k0:PS):mU PS:=
 ci (k0.e=0) ((Ef.k k0).bind fun y1=>
 dQ (PS.Fi (PS.Wi y1.2.1 e) y1.1.1.at_))<|
 dQ k0
def Cs.Kc:=kd 116 Cs.p fun x=>Cs.k x.1.2.1 x.2.1
theorem Cs.Kh:Cs.Kc.Holds prog:=kh AJ (hc Ef.Kh hn) Cs.ok (by kernel_rfl)
def Fw.k (s:List UInt8) (k0:PS):mU PS:=
 (Em.k s k0).bind fun y2=>
 ci (!y2.1.1) ((Cs.k 5 y2.2.1).bind p4)<|
 dQ y2.2.1
def Fw.Kc:=kd 80 Fw.p fun x=>Fw.k x.1.2.1 x.2.1
theorem Fw.Kh:Fw.Kc.Holds prog:=kh AJ (hc Em.Kh (hc Cs.Kh hn)) Fw.ok (by kernel_rfl)
def Ma.k (k:Int) (k0:PS):R1 Dop.Tok PS:=
 (Ef.k k0).bind fun y2=>
 let z1:R1 Dop.Tok PS:=
 (Cs.k 5 y2.2.1).bind fun y1=>
 B7 (Dop.Tok.mk 0 [] 0 y2.1.1.at_) y1.2.1
 ci (!(y2.1.1.kind=k)) (z1)<|
 ci (!(PS.e y2.2.1=0)) (z1)<|
 ck (Al (PS.at_ y2.2.1+1))<|
 B7 y2.1.1 (PS.VT y2.2.1 (PS.at_ y2.2.1+1))
def Ma.Kc:=kd 81 Ma.p fun x=>Ma.k x.1.2.1 x.2.1
theorem Ma.Kh:Ma.Kc.Holds prog:=kh AJ (hc Ef.Kh (hc Cs.Kh hn)) Ma.ok (by kernel_rfl)
abbrev QI.T:Type:=List Dop.Fp->Int->Int->Dop.Fp->C9 Int
abbrev D6.KT:Type:=QI.T×Unit
def QI.kB (tK:D6.KT):QI.T:=fun s t7 t8 b0=>
 let A1:=List.getD s t8.toNat Dop.d6
 ci (t8<t7) (ck (0<=t8/\t8<I s.length)<|
 ci (TG (List.take 4 (List.drop 0 (SV.v (Value.int IntKind.i64 b0.kind)::SV.v (Value.int IntKind.i64 b0.elem)::SV.v (Value.int IntKind.i64 b0.n)::SV.v (Value.string (ByteArray.mk (Array.mk b0.name)))::[]++[]))) (List.take 4 (List.drop 0 (SV.v (Value.int IntKind.i64 A1.kind)::SV.v (Value.int IntKind.i64 A1.elem)::SV.v (Value.int IntKind.i64 A1.n)::SV.v (Value.string (ByteArray.mk (Array.mk A1.name)))::[])))) (Aw t8)<|
 ck (Al (t8+1))<|
 tK.1 s t7 (t8+1) b0)<|
 Aw (-1)
def D6.kS (tK:D6.KT):D6.KT:=(QI.kB tK,())
def D6.kL (n:Nat):D6.KT:=Bd D6.kS n
def D6.k0 (tK:D6.KT) (s:List Dop.Fp) (v:Dop.Fp):C9 Int:=
 tK.1 s (I s.length) 0 v
def D6.k (s:List Dop.Fp) (v:Dop.Fp):C9 Int:=D6.k0 (D6.kL 1000000) s v
def D6.Kc:=kd 142 D6.p fun x=>D6.k x.1.1 x.1.2.1
theorem D6.Kh:D6.Kc.Holds prog:=GB AJ hn D6.ok (fun t x=>D6.k0 t x.1.1 x.1.2.1) (fun c=>(fun s t7 t8 b0=>c 2 D6.q2 rfl ((s,(),t7,t8,()),((b0,()),())),())) D6.kS (by kernel_rfl)
def KC.k (x:Dop.Fp) (k0:PS):R1 Int PS:=
 (D6.k k0.types x).bind fun y2=>
 ci (0<=y2.1.1) (B7 y2.1.1 k0)<|
 ci (I k0.types.length=256) ((Cs.k 4 k0).bind fun y1=>
 B7 0 y1.2.1)<|
 ck (Dc none (room 40 (k0.types.length+(x::[]).length)))<|
 ck (Al (I (k0.types++x::[]).length -1))<|
 B7 (I (k0.types++x::[]).length -1) (PS.VV k0 (k0.types++x::[]))
def KC.Kc:=kd 118 KC.p fun x=>KC.k x.1.2.1 x.2.1
theorem KC.Kh:KC.Kc.Holds prog:=kh AJ (hc D6.Kh (hc Cs.Kh hn)) KC.ok (by kernel_rfl)
abbrev MA.T:Type:=Int->PS->R1 Int PS
abbrev DZ.KT:Type:=MA.T×Unit
def MA.kB (tK:DZ.KT):MA.T:=fun t k0=>
 (Em.k ([42]:List UInt8) k0).bind fun y2=>
 ci y2.1.1 ((KC.k (Dop.Fp.mk 4 t 0 []) y2.2.1).bind fun y1=>
 tK.1 y1.1.1 y1.2.1)<|
 B7 t y2.2.1
def DZ.kS (tK:DZ.KT):DZ.KT:=(MA.kB tK,())
def DZ.kL (n:Nat):DZ.KT:=Bd DZ.kS n
def DZ.k0 (tK:DZ.KT) (k0:PS):R1 Int PS:=
 (Em.k ([118,111,105,100]:List UInt8) k0).bind fun y7=>
 ci y7.1.1 (tK.1 0 y7.2.1)<|
 (Em.k ([105,110,116]:List UInt8) y7.2.1).bind fun y6=>
 ci y6.1.1 (tK.1 1 y6.2.1)<|
 (Em.k ([117,110,115,105,103,110,101,100]:List UInt8) y6.2.1).bind fun y5=>
 ci y5.1.1 (tK.1 2 y5.2.1)<|
 (Em.k ([99,104,97,114]:List UInt8) y5.2.1).bind fun y4=>
 ci y4.1.1 (tK.1 3 y4.2.1)<|
 (Fw.k ([115,116,114,117,99,116]:List UInt8) y4.2.1).bind fun y3=>
 (Ma.k 1 y3.2.1).bind fun y2=>
 (KC.k (Dop.Fp.mk 6 0 0 y2.1.1.text) y2.2.1).bind fun y1=>
 tK.1 y1.1.1 y1.2.1
def DZ.k (k0:PS):R1 Int PS:=DZ.k0 (DZ.kL 1000000) k0
def DZ.Kc:=kd 117 DZ.p fun x=>DZ.k x.2.1
theorem DZ.Kh:DZ.Kc.Holds prog:=GB AJ (hc Em.Kh (hc Fw.Kh (hc Ma.Kh (hc KC.Kh hn)))) DZ.ok (fun t x=>DZ.k0 t x.2.1) (fun c=>(fun t k0=>c 11 DZ.gA rfl (((),t,()),(k0,())),())) DZ.kS (by kernel_rfl)
def Yi.k (k0:PS):R1 Dop.AV PS:=
 (Ef.k k0).bind fun y4=>
 (FD.k 51 y4.1.1.at_).bind fun y3=>
 (DZ.k y4.2.1).bind fun y2=>
 (Ma.k 1 y2.2.1).bind fun y1=>
 B7 (Dop.AV.mk y3.1.1.kind y3.1.1.a y3.1.1.b y3.1.1.c y3.1.1.d y1.1.1.text y3.1.1.n y2.1.1 y3.1.1.at_) y1.2.1
def Yi.Kc:=kd 83 Yi.p fun x=>Yi.k x.2.1
theorem Yi.Kh:Yi.Kc.Holds prog:=kh AJ (hc Ef.Kh (hc FD.Kh (hc DZ.Kh (hc Ma.Kh hn)))) Yi.ok (by kernel_rfl)
def Tn.k (t:Int) (k0:PS):R1 Int PS:=
 (Em.k ([91]:List UInt8) k0).bind fun y4=>
 ci (!y4.1.1) (B7 t y4.2.1)<|
 (Ma.k 3 y4.2.1).bind fun y3=>
 (Fw.k ([93]:List UInt8) y3.2.1).bind fun y2=>
 (KC.k (Dop.Fp.mk 5 t y3.1.1.n []) y2.2.1).bind PF
def Tn.Kc:=kd 84 Tn.p fun x=>Tn.k x.1.2.1 x.2.1
theorem Tn.Kh:Tn.Kc.Holds prog:=kh AJ (hc Em.Kh (hc Ma.Kh (hc Fw.Kh (hc KC.Kh hn)))) Tn.ok (by kernel_rfl)
def Dj.k (n:Dop.AV) (k0:PS):R1 Int PS:=
 ci (I k0.nodes.length=8192) ((Cs.k 4 k0).bind fun y1=>
 ci (!(PS.e y1.2.1=0)) (B7 (-1) y1.2.1)<|
 ck (Dc none (room 80 ((PS.nodes y1.2.1).length+(n::[]).length)))<|
 ck (Al (I (PS.nodes y1.2.1++n::[]).length -1))<|
 B7 (I (PS.nodes y1.2.1++n::[]).length -1) (PS.Eo y1.2.1 (PS.nodes y1.2.1++n::[])))<|
 ci (!(k0.e=0)) (B7 (-1) k0)<|
 ck (Dc none (room 80 (k0.nodes.length+(n::[]).length)))<|
 ck (Al (I (k0.nodes++n::[]).length -1))<|
 B7 (I (k0.nodes++n::[]).length -1) (PS.Eo k0 (k0.nodes++n::[]))
def Dj.Kc:=kd 85 Dj.p fun x=>Dj.k x.1.2.1 x.2.1
theorem Dj.Kh:Dj.Kc.Holds prog:=kh AJ (hc Cs.Kh hn) Dj.ok (by kernel_rfl)
def GY.k (n:Int) (k0:PS):R1 Int PS:=
 ci (n<0) (B7 0 k0)<|
 ck (0<=n/\n<I k0.nodes.length)<|
 ck (n.toNat<k0.nodes.length)<|
 B7 ((List.getD k0.nodes n.toNat Dop.d5).at_) k0
def NX.k (t:Dop.HW) (n:Int):C9 Dop.AV:=
 let A1:=Aw (Dop.AV.mk 0 0 0 0 0 [] 0 0 0)
 ci (n<0) A1<|
 ci (I t.nodes.length<=n) A1<|
 ck (0<=n/\n<I t.nodes.length)<|
 Aw (List.getD t.nodes n.toNat Dop.d5)
def NX.Kc:=kd 47 NX.p fun x=>NX.k x.1.1 x.1.2.1
theorem NX.Kh:NX.Kc.Holds prog:=kh AJ hn NX.ok (by kernel_rfl)
abbrev Uy.T:Type:=Int->List Int->Int->Int->Dop.HW->C9 (List Int)
abbrev Gu.KT:Type:=Uy.T×Unit
def Uy.kB (tK:Gu.KT):Uy.T:=fun n out t9 t10 b0=>
 ci (t10<t9) ((NX.k b0 n).bind fun y1=>
 ci (!(y1.1.1.kind=20)) (Aw out)<|
 ck (Dc none (room 8 (out.length+(y1.1.1.a::[]).length)))<|
 ck (Al (t10+1))<|
 tK.1 y1.1.1.b (out++y1.1.1.a::[]) t9 (t10+1) b0)<|
 Aw out
def Gu.kS (tK:Gu.KT):Gu.KT:=(Uy.kB tK,())
def Gu.kL (n:Nat):Gu.KT:=Bd Gu.kS n
def Gu.k0 (tK:Gu.KT) (t:Dop.HW) (n:Int):C9 (List Int):=
 tK.1 n [] (I t.nodes.length) 0 t
def Gu.k (t:Dop.HW) (n:Int):C9 (List Int):=Gu.k0 (Gu.kL 1000000) t n
def Gu.Kc:=kd 31 Gu.p fun x=>Gu.k x.1.1 x.1.2.1
theorem Gu.Kh:Gu.Kc.Holds prog:=GB AJ (hc NX.Kh hn) Gu.ok (fun t x=>Gu.k0 t x.1.1 x.1.2.1) (fun c=>(fun n out t9 t10 b0=>c 3 Gu.q3 rfl ((n,(),out,t9,t10,()),((b0,()),())),())) Gu.kS (by kernel_rfl)
def JW.KE:Env Dop.D4:=AU prog 173 tb [Oi.Kc] JW.p
def JW.k (k0:PS):R1 Bool PS:=JW.KE.Ei 3000 1000000 JW.p.sp (((),()),(k0,()))
def JW.Kc:=kd 173 JW.p fun x=>JW.k x.2.1
theorem JW.Kh:JW.Kc.Holds prog:=kh AJ (hc Oi.Kh hn) JW.ok (by kernel_rfl)
abbrev I4.T:Type:=List UInt8->Int->Hj Int Bool
abbrev Gt.KT:Type:=I4.T×Unit
def I4.kB (tK:Gt.KT):I4.T:=fun s at_=>
 let A1:=List.drop at_.toNat (List.take (I s.length).toNat s)
 let A3:=at_+Lib.indexByte A1 (Int.toNat 10).toUInt8
 let A2:=List.drop (Int.toNat 2) (List.take (I A1.length).toNat A1)
 ci (at_<I s.length) (ck (0<=at_/\at_<=I s.length/\I s.length<=I s.length)<|
 ck (0<=at_/\at_<I s.length)<|
 ck true<|
 ci (0<=Lib.indexByte ([32,9,10,13]:List UInt8) (Cz s at_).toNat.toUInt8) (ck (Al (at_+1))<|
 tK.1 s (at_+1))<|
 ck true<|
 ci (Lib.hasPrefix A1 ([47,47]:List UInt8)) (ck true<|
 ci (Lib.indexByte A1 (Int.toNat 10).toUInt8<0) (D8 (I s.length) true)<|
 ck (Al A3)<|
 tK.1 s A3)<|
 ck true<|
 ci (Lib.hasPrefix A1 ([47,42]:List UInt8)) (ck ((0:Int)<=2/\2<=I A1.length/\I A1.length<=I A1.length)<|
 ck (V9 A2)<|
 ci (Lib.index A2 ([42,47]:List UInt8)<0) (D8 at_ false)<|
 ck (Al (Lib.index A2 ([42,47]:List UInt8)+4))<|
 ck (Al (at_+(Lib.index A2 ([42,47]:List UInt8)+4)))<|
 tK.1 s (at_+(Lib.index A2 ([42,47]:List UInt8)+4)))<|
 D8 at_ true)<|
 D8 at_ true
def Gt.kS (tK:Gt.KT):Gt.KT:=(I4.kB tK,())
def Gt.kL (n:Nat):Gt.KT:=Bd Gt.kS n
def Gt.k0 (tK:Gt.KT) (s:List UInt8):Hj Int Bool:=
 tK.1 s 0
def Gt.k (s:List UInt8):Hj Int Bool:=Gt.k0 (Gt.kL 1000000) s
def Gt.Kc:=kd 42 Gt.p fun x=>Gt.k x.1.1
theorem Gt.Kh:Gt.Kc.Holds prog:=GB AJ (hc indexByte.holds (hc hasPrefix.holds (hc index.holds hn))) Gt.ok (fun t x=>Gt.k0 t x.1.1) (fun c=>(fun s at_=>c 2 Gt.q2 rfl ((s,at_,()),()),())) Gt.kS (by kernel_rfl)
def Tk.k (c:Int):C9 Bool:=
 let z1:C9 Bool:=
 ci (65<=c) (ci (c<=90) (Aw true)<|
 Aw (decide (c=95)))<|
 Aw (decide (c=95))
 ci (97<=c) (ci (c<=122) (Aw true)<|
 z1)<|
 z1
def Tk.Kc:=kd 70 Tk.p fun x=>Tk.k x.1.1
theorem Tk.Kh:Tk.Kc.Holds prog:=kh AJ hn Tk.ok (by kernel_rfl)
def Tl.k (c:Int):C9 Bool:=
 ci (48<=c) (Aw (decide (c<=57)))<|
 Aw false
def Tl.Kc:=kd 73 Tl.p fun x=>Tl.k x.1.1
theorem Tl.Kh:Tl.Kc.Holds prog:=kh AJ hn Tl.ok (by kernel_rfl)
abbrev Lh.T:Type:=List UInt8->Int->C9 Int
abbrev Il.KT:Type:=Lh.T×Unit
def Lh.kB (tK:Il.KT):Lh.T:=fun s n=>
 ci (n<I s.length) (ck (0<=n/\n<I s.length)<|
 (Tk.k (Cz s n)).bind fun y2=>
 ci y2.1.1 (ck (Al (n+1))<|
 tK.1 s (n+1))<|
 ck (0<=n/\n<I s.length)<|
 (Tl.k (Cz s n)).bind fun y1=>
 ci y1.1.1 (ck (Al (n+1))<|
 tK.1 s (n+1))<|
 Aw n)<|
 Aw n
def Il.kS (tK:Il.KT):Il.KT:=(Lh.kB tK,())
def Il.kL (n:Nat):Il.KT:=Bd Il.kS n
def Il.k0 (tK:Il.KT) (s:List UInt8):C9 Int:=
 tK.1 s 0
def Il.k (s:List UInt8):C9 Int:=Il.k0 (Il.kL 1000000) s
def Il.Kc:=kd 71 Il.p fun x=>Il.k x.1.1
theorem Il.Kh:Il.Kc.Holds prog:=GB AJ (hc Tk.Kh (hc Tl.Kh hn)) Il.ok (fun t x=>Il.k0 t x.1.1) (fun c=>(fun s n=>c 2 Il.q2 rfl ((s,n,()),()),())) Il.kS (by kernel_rfl)
def Yh.k (w:List UInt8):C9 Bool:=
 ci (!(w=[])) (ck (V9 w)<|
 ci (!Lib.contains w ([32]:List UInt8)) (ck (([32]:List UInt8).length+w.length<=9223372036854775807)<|
 ck (((32:UInt8)::[]++w).length+([32]:List UInt8).length<=9223372036854775807)<|
 ck (V9 (([32,98,114,101,97,107,32,99,97,115,101,32,99,104,97,114,32,99,111,110,116,105,110,117,101,32,100,101,102,97,117,108,116,32,100,111,32,101,108,115,101,32,102,111,114,32,103,101,116,99,32,103,111,116,111,32,105,102]:List UInt8).append ([32,105,110,116,32,112,117,116,99,32,114,101,116,117,114,110,32,115,105,122,101,111,102,32,115,116,114,117,99,116,32,115,119,105,116,99,104,32,117,110,115,105,103,110,101,100,32,118,111,105,100,32,119,104,105,108,101,32]:List UInt8)))<|
 Aw (Lib.contains (([32,98,114,101,97,107,32,99,97,115,101,32,99,104,97,114,32,99,111,110,116,105,110,117,101,32,100,101,102,97,117,108,116,32,100,111,32,101,108,115,101,32,102,111,114,32,103,101,116,99,32,103,111,116,111,32,105,102]:List UInt8).append ([32,105,110,116,32,112,117,116,99,32,114,101,116,117,114,110,32,115,105,122,101,111,102,32,115,116,114,117,99,116,32,115,119,105,116,99,104,32,117,110,115,105,103,110,101,100,32,118,111,105,100,32,119,104,105,108,101,32]:List UInt8)) ((32:UInt8)::[]++w++(32:UInt8)::[])))<|
 Aw false)<|
 Aw false
def Yh.Kc:=kd 72 Yh.p fun x=>Yh.k x.1.1
theorem Yh.Kh:Yh.Kc.Holds prog:=kh AJ (hc contains.holds hn) Yh.ok (by kernel_rfl)
def Rn.k (kind n size:Int) (b0:List UInt8):Wa Dop.Tok Int (List UInt8×Unit):=
 ck ((0:Int)<=0/\0<=size/\size<=I b0.length)<|
 PH (Dop.Tok.mk kind (List.drop (Int.toNat 0) (List.take size.toNat b0)) n 0) 0 (b0,())
def Rn.Kc:=kd 69 Rn.p fun x=>Rn.k x.1.1 x.1.2.1 x.1.2.2.1 x.2.1.1
theorem Rn.Kh:Rn.Kc.Holds prog:=kh AJ hn Rn.ok (by kernel_rfl)
abbrev Li.T:Type:=List UInt8->Int->Int->Int->Int->Hj Int Bool
abbrev Hl.KT:Type:=Li.T×Unit
def Li.kB (tK:Hl.KT):Li.T:=fun s base n t34 t35=>
 let A1:=Lib.toLowerA (List.drop t35.toNat (List.take (t35+1).toNat s))
 ci (t35<t34) (ck (Al (t35+1))<|
 ck (0<=t35/\t35<=t35+1/\t35+1<=I s.length)<|
 ck (Yy (List.drop t35.toNat (List.take (t35+1).toNat s)))<|
 ck ((0:Int)<=0/\0<I A1.length)<|
 ck true<|
 ci (Lib.indexByte ([48,49,50,51,52,53,54,55,56,57,97,98,99,100,101,102]:List UInt8) (Cz A1 0).toNat.toUInt8<0) (D8 0 false)<|
 ci (base<=Lib.indexByte ([48,49,50,51,52,53,54,55,56,57,97,98,99,100,101,102]:List UInt8) (Cz A1 0).toNat.toUInt8) (D8 0 false)<|
 ck (Al (n*base))<|
 ck (Al (n*base+Lib.indexByte ([48,49,50,51,52,53,54,55,56,57,97,98,99,100,101,102]:List UInt8) (Cz A1 0).toNat.toUInt8))<|
 ci (4294967295<n*base+Lib.indexByte ([48,49,50,51,52,53,54,55,56,57,97,98,99,100,101,102]:List UInt8) (Cz A1 0).toNat.toUInt8) (D8 0 false)<|
 ck (Al (t35+1))<|
 tK.1 s base (n*base+Lib.indexByte ([48,49,50,51,52,53,54,55,56,57,97,98,99,100,101,102]:List UInt8) (Cz A1 0).toNat.toUInt8) t34 (t35+1))<|
 D8 n (!decide (s=[]))
def Hl.kS (tK:Hl.KT):Hl.KT:=(Li.kB tK,())
def Hl.kL (n:Nat):Hl.KT:=Bd Hl.kS n
def Hl.k0 (tK:Hl.KT) (s:List UInt8):Hj Int Bool:=
 let A3:=List.drop (Int.toNat 2) (List.take (I s.length).toNat s)
 let A1:=List.drop (Int.toNat 0) (List.take (I s.length -1).toNat s)
 let A2:=List.drop (Int.toNat 2) (List.take (I A1.length).toNat A1)
 let z1:Hj Int Bool:=
 let z3:Hj Int Bool:=
 ck ((0:Int)<=2/\2<=I A1.length/\I A1.length<=I A1.length)<|
 tK.1 A2 16 0 (I A2.length) 0
 ck ((0:Int)<=0/\0<=I s.length -1/\I s.length -1<=I s.length)<|
 ck true<|
 ci (Lib.hasPrefix A1 ([48,120]:List UInt8)) (z3)<|
 ck true<|
 ci (Lib.hasPrefix A1 ([48,88]:List UInt8)) (z3)<|
 tK.1 A1 10 0 (I A1.length) 0
 let z2:Hj Int Bool:=
 ck ((0:Int)<=2/\2<=I s.length/\I s.length<=I s.length)<|
 tK.1 A3 16 0 (I A3.length) 0
 ck (Al (I s.length -1))<|
 ck (0<=I s.length -1/\I s.length -1<I s.length)<|
 ci (Cz s (I s.length -1)=117) (z1)<|
 ck (0<=I s.length -1/\I s.length -1<I s.length)<|
 ci (Cz s (I s.length -1)=85) (z1)<|
 ck true<|
 ci (Lib.hasPrefix s ([48,120]:List UInt8)) (z2)<|
 ck true<|
 ci (Lib.hasPrefix s ([48,88]:List UInt8)) (z2)<|
 tK.1 s 10 0 (I s.length) 0
def Hl.k (s:List UInt8):Hj Int Bool:=Hl.k0 (Hl.kL 1000000) s
def Hl.Kc:=kd 74 Hl.p fun x=>Hl.k x.1.1
theorem Hl.Kh:Hl.Kc.Holds prog:=GB AJ (hc hasPrefix.holds (hc lower.holds (hc indexByte.holds hn))) Hl.ok (fun t x=>Hl.k0 t x.1.1) (fun c=>(fun s base n t34 t35=>c 9 Hl.q9 rfl ((s,base,n,t34,t35,()),()),())) Hl.kS (by kernel_rfl)
def Tm.KE:Env Dop.D4:=AU prog 75 tb [] Tm.p
def Tm.k (s:List UInt8):Hj Int Int:=Tm.KE.Ei 3000 1000000 Tm.p.sp ((s,()),())
def Tm.Kc:=kd 75 Tm.p fun x=>Tm.k x.1.1
theorem Tm.Kh:Tm.Kc.Holds prog:=kh AJ hn Tm.ok (by kernel_rfl)
def NY.k :C9 (List (List UInt8)):=
 ck (Yy (([60,60,61,32,62,62,61,32,43,43,32,45,45,32,45,62,32,43,61,32,45,61,32,42,61,32,47,61,32,37,61,32,38,61,32,124,61,32,94,61,32,60,60,32,62,62,32,60,61,32,62,61,32,61,61,32]:List UInt8).append ([33,61,32,38,38,32,124,124,32,43,32,45,32,42,32,47,32,37,32,38,32,124,32,94,32,126,32,33,32,60,32,62,32,61,32,63,32,58,32,59,32,44,32,46,32,40,32,41,32,91,32,93,32,123,32,125]:List UInt8)) && ((Lib.fields (([60,60,61,32,62,62,61,32,43,43,32,45,45,32,45,62,32,43,61,32,45,61,32,42,61,32,47,61,32,37,61,32,38,61,32,124,61,32,94,61,32,60,60,32,62,62,32,60,61,32,62,61,32,61,61,32]:List UInt8).append ([33,61,32,38,38,32,124,124,32,43,32,45,32,42,32,47,32,37,32,38,32,124,32,94,32,126,32,33,32,60,32,62,32,61,32,63,32,58,32,59,32,44,32,46,32,40,32,41,32,91,32,93,32,123,32,125]:List UInt8))).length<=maxLen))<|
 Aw (List.map (fun (a:List UInt8)=>a) (Lib.fields (([60,60,61,32,62,62,61,32,43,43,32,45,45,32,45,62,32,43,61,32,45,61,32,42,61,32,47,61,32,37,61,32,38,61,32,124,61,32,94,61,32,60,60,32,62,62,32,60,61,32,62,61,32,61,61,32]:List UInt8).append ([33,61,32,38,38,32,124,124,32,43,32,45,32,42,32,47,32,37,32,38,32,124,32,94,32,126,32,33,32,60,32,62,32,61,32,63,32,58,32,59,32,44,32,46,32,40,32,41,32,91,32,93,32,123,32,125]:List UInt8))))
def NY.Kc:=kd 115 NY.p fun x=>NY.k
theorem NY.Kh:NY.Kc.Holds prog:=kh AJ (hc fields.holds hn) NY.ok (by kernel_rfl)
abbrev U0.T:Type:=List UInt8->(List (List UInt8))->Int->Int->C9 (List UInt8)
abbrev Kb.KT:Type:=U0.T×Unit
def U0.kB (tK:Kb.KT):U0.T:=fun s t5 t6 t7=>
 let A1:=List.getD t5 t7.toNat []
 ci (t7<t6) (ck (0<=t7/\t7<I t5.length)<|
 ck (t7.toNat<t5.length)<|
 ck true<|
 ci (Lib.hasPrefix s A1) (Aw A1)<|
 ck (Al (t7+1))<|
 tK.1 s t5 t6 (t7+1))<|
 Aw []
def Kb.kS (tK:Kb.KT):Kb.KT:=(U0.kB tK,())
def Kb.kL (n:Nat):Kb.KT:=Bd Kb.kS n
def Kb.k0 (tK:Kb.KT) (s:List UInt8):C9 (List UInt8):=
 (NY.k).bind fun y1=>
 tK.1 s y1.1.1 (I y1.1.1.length) 0
def Kb.k (s:List UInt8):C9 (List UInt8):=Kb.k0 (Kb.kL 1000000) s
def Kb.Kc:=kd 76 Kb.p fun x=>Kb.k x.1.1
theorem Kb.Kh:Kb.Kc.Holds prog:=GB AJ (hc NY.Kh (hc hasPrefix.holds hn)) Kb.ok (fun t x=>Kb.k0 t x.1.1) (fun c=>(fun s t5 t6 t7=>c 2 Kb.q2 rfl ((s,t5,t6,t7,()),()),())) Kb.kS (by kernel_rfl)
def Tj.k (o:List UInt8):Hj Dop.Tok Int:=
 ck ((0:Int)<=0/\0<I o.length)<|
 (Tk.k (Cz o 0)).bind fun y5=>
 ci y5.1.1 ((Il.k o).bind fun y3=>
 ck ((0:Int)<=0/\0<=y3.1.1/\y3.1.1<=I o.length)<|
 (Yh.k (List.drop (Int.toNat 0) (List.take y3.1.1.toNat o))).bind fun y2=>
 ci y2.1.1 ((Rn.k 2 0 y3.1.1 o).bind Iy)<|
 (Rn.k 1 0 y3.1.1 o).bind Iy)<|
 ck ((0:Int)<=0/\0<I o.length)<|
 (Tl.k (Cz o 0)).bind fun y4=>
 ci y4.1.1 ((Il.k o).bind fun y3=>
 ck ((0:Int)<=0/\0<=y3.1.1/\y3.1.1<=I o.length)<|
 (Hl.k (List.drop (Int.toNat 0) (List.take y3.1.1.toNat o))).bind fun y2=>
 ci (!y2.1.2.1) (D8 (Dop.Tok.mk 0 [] 0 0) 3)<|
 (Rn.k 3 y2.1.1 y3.1.1 o).bind Iy)<|
 ck ((0:Int)<=0/\0<I o.length)<|
 ci (Cz o (0:Int)=39) ((Tm.k o).bind fun y2=>
 ci (0<y2.1.2.1) ((Rn.k 3 y2.1.1 y2.1.2.1 o).bind Iy)<|
 D8 (Dop.Tok.mk 0 [] 0 0) 2)<|
 (Kb.k o).bind fun y2=>
 ci (!(y2.1.1=[])) ((Rn.k 4 0 (I y2.1.1.length) o).bind Iy)<|
 D8 (Dop.Tok.mk 0 [] 0 0) 2
def Tj.Kc:=kd 43 Tj.p fun x=>Tj.k x.1.1
theorem Tj.Kh:Tj.Kc.Holds prog:=kh AJ (hc Tk.Kh (hc Il.Kh (hc Yh.Kh (hc Rn.Kh (hc Tl.Kh (hc Hl.Kh (hc Tm.Kh (hc Kb.Kh hn)))))))) Tj.ok (by kernel_rfl)
abbrev Lc.T:Type:=List UInt8->List Dop.Tok->Int->Ot (List Dop.Tok) Int Int
abbrev m19.KT:Type:=Lc.T×Unit
def Lc.kB (tK:m19.KT):Lc.T:=fun s out at_=>
 let A1:=List.take (I s.length).toNat s
 ck (0<=at_/\at_<=I s.length/\I s.length<=I s.length)<|
 (Gt.k (List.drop at_.toNat A1)).bind fun y2=>
 ck (Al (at_+y2.1.1))<|
 ci (!y2.1.2.1) (Kd [] (at_+y2.1.1) 2)<|
 ci (at_+y2.1.1=I s.length) (ck (Dc none (room 40 (out.length+(Dop.Tok.mk 0 [] 0 (at_+y2.1.1)::[]).length)))<|
 Kd (out++Dop.Tok.mk 0 [] 0 (at_+y2.1.1)::[]) 0 0)<|
 ck (0<=at_+y2.1.1/\at_+y2.1.1<=I s.length/\I s.length<=I s.length)<|
 (Tj.k (List.drop (at_+y2.1.1).toNat A1)).bind fun y1=>
 ci (!(y1.1.2.1=0)) (Kd [] (at_+y2.1.1) y1.1.2.1)<|
 ci (I out.length=8192) (Kd [] (at_+y2.1.1) 4)<|
 ck (Dc none (room 40 (out.length+(Dop.Tok.mk y1.1.1.kind y1.1.1.text y1.1.1.n (at_+y2.1.1)::[]).length)))<|
 ck (Al (at_+y2.1.1+I y1.1.1.text.length))<|
 tK.1 s (out++Dop.Tok.mk y1.1.1.kind y1.1.1.text y1.1.1.n (at_+y2.1.1)::[]) (at_+y2.1.1+I y1.1.1.text.length)
def m19.kS (tK:m19.KT):m19.KT:=(Lc.kB tK,())
def m19.kL (n:Nat):m19.KT:=Bd m19.kS n
def m19.k0 (tK:m19.KT) (s:List UInt8):Ot (List Dop.Tok) Int Int:=
 ci (32768<I s.length) (Kd [] 0 4)<|
 tK.1 s [] 0
def m19.k (s:List UInt8):Ot (List Dop.Tok) Int Int:=m19.k0 (m19.kL 1000000) s
def m19.Kc:=kd 28 m19.p fun x=>m19.k x.1.1
theorem m19.Kh:m19.Kc.Holds prog:=GB AJ (hc Gt.Kh (hc Tj.Kh hn)) m19.ok (fun t x=>m19.k0 t x.1.1) (fun c=>(fun s out at_=>c 5 m19.q5 rfl ((s,out,at_,()),()),())) m19.kS (by kernel_rfl)
def Nj.k (b0_0:List Dop.Tok) (b0_1 b0_4 b0_5 b0_6 b0_7:Int):R1 Int (List Dop.Tok×Int×Unit×Unit×Int×Int×Int×Int×Unit):=
 let A1:=List.getD b0_0 (I b0_0.length -1).toNat Dop.d4
 let A2:=A1.at_+I A1.text.length
 ci (I b0_0.length=0) (B7 0 (b0_0,(b0_1,((),((),(b0_4,(b0_5,(b0_6,(b0_7,())))))))))<|
 ck (Al (I b0_0.length -1))<|
 ck (0<=I b0_0.length -1/\I b0_0.length -1<I b0_0.length)<|
 ck (Al A2)<|
 B7 A2 (b0_0,(b0_1,((),((),(b0_4,(b0_5,(b0_6,(b0_7,()))))))))
def Nj.Kc:=kd 77 Nj.p fun x=>Nj.k x.2.1.1 x.2.1.2.1 x.2.1.2.2.2.2.1 x.2.1.2.2.2.2.2.1 x.2.1.2.2.2.2.2.2.1 x.2.1.2.2.2.2.2.2.2.1
theorem Nj.Kh:Nj.Kc.Holds prog:=kh AJ hn Nj.ok (by kernel_rfl)
def Nh.k (b0_0:List Dop.Tok) (b0_1 b0_4 b0_5 b0_6 b0_7:Int):R1 Dop.Tok (List Dop.Tok×Int×Unit×Unit×Int×Int×Int×Int×Unit):=
 let A1:=Nj.k b0_0 b0_1 b0_4 b0_5 b0_6 b0_7
 let F1:Y1 Int (List Dop.Tok×Int×Unit×Unit×Int×Int×Int×Int×Unit)->R1 Dop.Tok (List Dop.Tok×Int×Unit×Unit×Int×Int×Int×Int×Unit):=fun y1=>
 B7 (Dop.Tok.mk 0 [] 0 y1.1.1) (y1.2.1.1,(y1.2.1.2.1,((),((),(y1.2.1.2.2.2.2.1,(y1.2.1.2.2.2.2.2.1,(y1.2.1.2.2.2.2.2.2.1,(y1.2.1.2.2.2.2.2.2.2.1,()))))))))
 ci (!(b0_6=0)) (A1.bind F1)<|
 ci (I b0_0.length<=b0_1) (A1.bind F1)<|
 ck (0<=b0_1/\b0_1<I b0_0.length)<|
 B7 (List.getD b0_0 b0_1.toNat Dop.d4) (b0_0,(b0_1,((),((),(b0_4,(b0_5,(b0_6,(b0_7,()))))))))
def Nh.Kc:=kd 44 Nh.p fun x=>Nh.k x.2.1.1 x.2.1.2.1 x.2.1.2.2.2.2.1 x.2.1.2.2.2.2.2.1 x.2.1.2.2.2.2.2.2.1 x.2.1.2.2.2.2.2.2.2.1
theorem Nh.Kh:Nh.Kc.Holds prog:=kh AJ (hc Nj.Kh hn) Nh.ok (by kernel_rfl)
def Ja.k (s:List UInt8) (b0_0:List Dop.Tok) (b0_1 b0_4 b0_5 b0_6 b0_7:Int):R1 Bool (List Dop.Tok×Int×Unit×Unit×Int×Int×Int×Int×Unit):=
 (Nh.k b0_0 b0_1 b0_4 b0_5 b0_6 b0_7).bind fun y1=>
 ci (y1.1.1.kind=4) (B7 (decide (y1.1.1.text=s)) (y1.2.1.1,(y1.2.1.2.1,((),((),(y1.2.1.2.2.2.2.1,(y1.2.1.2.2.2.2.2.1,(y1.2.1.2.2.2.2.2.2.1,(y1.2.1.2.2.2.2.2.2.2.1,())))))))))<|
 ci (y1.1.1.kind=2) (B7 (decide (y1.1.1.text=s)) (y1.2.1.1,(y1.2.1.2.1,((),((),(y1.2.1.2.2.2.2.1,(y1.2.1.2.2.2.2.2.1,(y1.2.1.2.2.2.2.2.2.1,(y1.2.1.2.2.2.2.2.2.2.1,())))))))))<|
 B7 false (y1.2.1.1,(y1.2.1.2.1,((),((),(y1.2.1.2.2.2.2.1,(y1.2.1.2.2.2.2.2.1,(y1.2.1.2.2.2.2.2.2.1,(y1.2.1.2.2.2.2.2.2.2.1,()))))))))
def Ja.Kc:=kd 79 Ja.p fun x=>Ja.k x.1.2.1 x.2.1.1 x.2.1.2.1 x.2.1.2.2.2.2.1 x.2.1.2.2.2.2.2.1 x.2.1.2.2.2.2.2.2.1 x.2.1.2.2.2.2.2.2.2.1
theorem Ja.Kh:Ja.Kc.Holds prog:=kh AJ (hc Nh.Kh hn) Ja.ok (by kernel_rfl)
def H3.k (b0_0:List Dop.Tok) (b0_1 b0_4 b0_5 b0_6 b0_7:Int):R1 Bool (List Dop.Tok×Int×Unit×Unit×Int×Int×Int×Int×Unit):=
 (Ja.k ([105,110,116]:List UInt8) b0_0 b0_1 b0_4 b0_5 b0_6 b0_7).bind fun y5=>
 ci y5.1.1 (B7 true (y5.2.1.1,(y5.2.1.2.1,((),((),(y5.2.1.2.2.2.2.1,(y5.2.1.2.2.2.2.2.1,(y5.2.1.2.2.2.2.2.2.1,(y5.2.1.2.2.2.2.2.2.2.1,())))))))))<|
 (Ja.k ([117,110,115,105,103,110,101,100]:List UInt8) y5.2.1.1 y5.2.1.2.1 y5.2.1.2.2.2.2.1 y5.2.1.2.2.2.2.2.1 y5.2.1.2.2.2.2.2.2.1 y5.2.1.2.2.2.2.2.2.2.1).bind fun y4=>
 ci y4.1.1 (B7 true (y4.2.1.1,(y4.2.1.2.1,((),((),(y4.2.1.2.2.2.2.1,(y4.2.1.2.2.2.2.2.1,(y4.2.1.2.2.2.2.2.2.1,(y4.2.1.2.2.2.2.2.2.2.1,())))))))))<|
 (Ja.k ([99,104,97,114]:List UInt8) y4.2.1.1 y4.2.1.2.1 y4.2.1.2.2.2.2.1 y4.2.1.2.2.2.2.2.1 y4.2.1.2.2.2.2.2.2.1 y4.2.1.2.2.2.2.2.2.2.1).bind fun y3=>
 ci y3.1.1 (B7 true (y3.2.1.1,(y3.2.1.2.1,((),((),(y3.2.1.2.2.2.2.1,(y3.2.1.2.2.2.2.2.1,(y3.2.1.2.2.2.2.2.2.1,(y3.2.1.2.2.2.2.2.2.2.1,())))))))))<|
 (Ja.k ([118,111,105,100]:List UInt8) y3.2.1.1 y3.2.1.2.1 y3.2.1.2.2.2.2.1 y3.2.1.2.2.2.2.2.1 y3.2.1.2.2.2.2.2.2.1 y3.2.1.2.2.2.2.2.2.2.1).bind fun y2=>
 ci y2.1.1 (B7 true (y2.2.1.1,(y2.2.1.2.1,((),((),(y2.2.1.2.2.2.2.1,(y2.2.1.2.2.2.2.2.1,(y2.2.1.2.2.2.2.2.2.1,(y2.2.1.2.2.2.2.2.2.2.1,())))))))))<|
 (Ja.k ([115,116,114,117,99,116]:List UInt8) y2.2.1.1 y2.2.1.2.1 y2.2.1.2.2.2.2.1 y2.2.1.2.2.2.2.2.1 y2.2.1.2.2.2.2.2.2.1 y2.2.1.2.2.2.2.2.2.2.1).bind fun y1=>
 B7 y1.1.1 (y1.2.1.1,(y1.2.1.2.1,((),((),(y1.2.1.2.2.2.2.1,(y1.2.1.2.2.2.2.2.1,(y1.2.1.2.2.2.2.2.2.1,(y1.2.1.2.2.2.2.2.2.2.1,()))))))))
def H3.Kc:=kd 173 H3.p fun x=>H3.k x.2.1.1 x.2.1.2.1 x.2.1.2.2.2.2.1 x.2.1.2.2.2.2.2.1 x.2.1.2.2.2.2.2.2.1 x.2.1.2.2.2.2.2.2.2.1
theorem H3.Kh:H3.Kc.Holds prog:=kh AJ (hc Ja.Kh hn) H3.ok (by kernel_rfl)
end
end Go.Proofs.Tryz
