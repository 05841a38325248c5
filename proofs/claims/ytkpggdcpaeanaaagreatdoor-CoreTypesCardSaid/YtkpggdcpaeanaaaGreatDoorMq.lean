/- A function's model that the kernel can run: its trees, so many cuts deep (Env.runF); that it is a contract. -/
import Derived.Test.YtkpggdcpaeanaaaGreatDoorMo
import Derived.Test.YtkpggdcpaeanaaaGreatDoorMi
import Derived.Test.YtkpggdcpaeanaaaGreatDoorMj
namespace Go.En
open Go.RowKit
section
variable {S:Aj} {P:Program}
def Env.YZ (E:Env S) (f0 n:Nat) (sp:Spec) (x:sp.D S):Option (E.rs.D S):=(IT E f0 sp x).eval (EJ (E.step f0) n)
def Env.Wp (E:Env S) (f0 n:Nat) (J:Jump E) (sp:Spec) (x:sp.D S):Option (E.rs.D S):=(IT E f0 sp x).eval (EJ (E.Hs f0 J) n)
theorem PQ {f:Nat} {tb:List (Nat×TI)} {ct:List (Bw S)} {p:Ak} (f0 n:Nat) (htb:AT S P tb) (hct: ∀ c∈ct,c.Holds P) (h:AH S P f p=true):
  Bw.Holds P ⟨f,p.bn,p.sp,p.rs,p.flat,.opt ((Az P f tb ct p).YZ f0 n p.sp)⟩:=by
 obtain ⟨hE,hb,h3,fn,hf,hbody,hn,hres⟩:=EZ htb hct h
 simp only [AH,Bool.and_eq_true] at h
 obtain ⟨⟨⟨⟨⟨⟨⟨⟨_,h2⟩,_⟩,_⟩,h5⟩,_⟩,_⟩,_⟩,_⟩:=h
 refine ⟨hb,h3,fun hfl=>?_,fun x y hxy w D β vs o m he hg hon _ hiv=>?_⟩
 ·simp only at hfl;rw [hfl] at h5;simpa using h5
 ·exact ND (out:=.opt ((Az P f tb ct p).YZ f0 n p.sp)) hE hf hbody hn hres (Nat.le_of_ble_eq_true h2) (EJ ((Az P f tb ct p).step f0)) (fun _ _=>rfl) (fun n k q h x y hy=>by simp only [EJ,Env.step_mk] at hy;exact hy) (show _=some y from hxy) he hg hon hiv
theorem Tc {f:Nat} {tb:List (Nat×TI)} {ct:List (Bw S)} {p:Ak} (f0 n:Nat) (htb:AT S P tb) (hct: ∀ c∈ct,c.Holds P) (h:AH S P f p=true) (J:Jump (Az P f tb ct p)) (hJ:J.Ok P):
  Bw.Holds P ⟨f,p.bn,p.sp,p.rs,p.flat,.opt ((Az P f tb ct p).Wp f0 n J p.sp)⟩:=by
 obtain ⟨hE,hb,h3,fn,hf,hbody,hn,hres⟩:=EZ htb hct h
 simp only [AH,Bool.and_eq_true] at h
 obtain ⟨⟨⟨⟨⟨⟨⟨⟨_,h2⟩,_⟩,_⟩,h5⟩,_⟩,_⟩,_⟩,_⟩:=h
 refine ⟨hb,h3,fun hfl=>?_,fun x y hxy w D β vs o m he hg hon _ hiv=>?_⟩
 ·simp only at hfl;rw [hfl] at h5;simpa using h5
 ·exact RM (out:=.opt ((Az P f tb ct p).Wp f0 n J p.sp)) hE hJ hf hbody hn hres (Nat.le_of_ble_eq_true h2) (show _=some y from hxy) he hg hon hiv
end
end Go.En
/- Loops in plain words: a model that is reckoned round by round. -/
namespace Go.En
open Go.RowKit
section
variable {S:Aj} {P:Program}
theorem Wf {α:Type} (T:Nat→α) (z:α) (s:α→α) (h0:T 0=z) (hs: ∀ n,T (n+1)=s (T n)): ∀ n,T n=Nat.rec (motive:=fun _=>α) z (fun _ r=>s r) n
 | 0=>h0
 | n+1=>by rw [hs n,Wf T z s h0 hs n]
theorem SG {f bn:Nat} {sp rs:Spec} {flat:Bool} {α:Type} {m:Nat→sp.D S→Option (rs.D S)} (h: ∀ N,Bw.Holds P ⟨f,bn,sp,rs,flat,.opt (m N)⟩) (g:α→sp.D S→Option (rs.D S)) (T:Nat→α) (z:α) (s:α→α) (N:Nat)
  (h0:T 0=z) (hs: ∀ n,T (n+1)=s (T n)) (hm: ∀ N,m N=g (T N)):Bw.Holds P ⟨f,bn,sp,rs,flat,.opt (g (Nat.rec (motive:=fun _=>α) z (fun _ r=>s r) N))⟩:=by
 have e:=h N
 rw [hm N,Wf T z s h0 hs N] at e
 exact e
theorem hc {l:List (Bw S)} {c:Bw S} (h:c.Holds P) (k: ∀ c∈l,c.Holds P): ∀ d∈c::l,d.Holds P:=Af h k
theorem hn: ∀ d∈([]:List (Bw S)),d.Holds P:=Bb
def kc (f:Nat) (p:Ak) (m:p.sp.D S→Option (p.rs.D S)):Bw S:=⟨f,p.bn,p.sp,p.rs,p.flat,.opt m⟩
class NN (α:Type) where
 nn:α
instance {α:Type}:NN (Option α):=⟨none⟩
instance:NN Unit:=⟨()⟩
instance {α β:Type} [NN β]:NN (α→β):=⟨fun _=>NN.nn⟩
instance {α β:Type} [NN α] [NN β]:NN (α×β):=⟨(NN.nn,NN.nn)⟩
def Eu {α:Type} [NN α] (s:α→α) (n:Nat):α:=Nat.rec (motive:=fun _=>α) NN.nn (fun _ r=>s r) n
section
variable {f:Nat} {tb:List (Nat×TI)} {p:Ak} {ct:List (Bw S)}
theorem kh (htb:AT S P tb) (h: ∀ c∈ct,c.Holds P) (ok:AH S P f p=true) {k:p.sp.D S→Option (p.rs.D S)} (e:k=(Az P f tb ct p).YZ 3000 1000000 p.sp):(kc f p k).Holds P:=Qz (PQ 3000 1000000 htb h ok) (by unfold kc;rw [e])
def dS (E:Env S) (n c:Nat) (q:Cut) (h:lk E.Ct c=some q) (x:q.sp.D S):Option E.ρ:=EJ (E.step 3000) n c (Dr E c q h x)
theorem GG (htb:AT S P tb) (h: ∀ c∈ct,c.Holds P) (ok:AH S P f p=true) {k:p.sp.D S→Option (p.rs.D S)} {α:Type} [NN α] (g:α→p.sp.D S→Option (p.rs.D S)) (T:((c:Nat)→(q:Cut)→lk p.Ct c=some q→q.sp.D S→Option (p.rs.D S))→α) (s:α→α)
  (e:(T (dS (Az P f tb ct p) 0),(fun n=>T (dS (Az P f tb ct p) (n+1))),(fun N=>(Az P f tb ct p).YZ 3000 N p.sp),k)=(NN.nn,(fun n=>s (T (dS (Az P f tb ct p) n))),(fun N=>g (T (dS (Az P f tb ct p) N))),g (Eu s 1000000))):(kc f p k).Holds P:=by
 have e0:=congrArg Prod.fst e;have e1:=congrArg (fun x=>x.2.1) e;have e2:=congrArg (fun x=>x.2.2.1) e;have e3:=congrArg (fun x=>x.2.2.2) e
 simp only at e0 e1 e2 e3
 have:=SG (fun N=>PQ 3000 N htb h ok) g (fun n=>T (dS (Az P f tb ct p) n)) _ s 1000000 e0 (fun n=>congrFun e1 n) (fun N=>congrFun e2 N)
 rw [e3];exact this
def UY (E:Env S) (J:Jump E) (n c:Nat) (q:Cut) (h:lk E.Ct c=some q) (x:q.sp.D S):Option E.ρ:=EJ (E.Hs 3000 J) n c (Dr E c q h x)
theorem iO (htb:AT S P tb) (h: ∀ c∈ct,c.Holds P) (ok:AH S P f p=true) {k:p.sp.D S→Option (p.rs.D S)} (J:Jump (Az P f tb ct p)) (hJ:J.Ok P) {α:Type} [NN α] (g:α→p.sp.D S→Option (p.rs.D S)) (T:((c:Nat)→(q:Cut)→lk p.Ct c=some q→q.sp.D S→Option (p.rs.D S))→α) (s:α→α)
  (e:(T (UY (Az P f tb ct p) J 0),(fun n=>T (UY (Az P f tb ct p) J (n+1))),(fun N=>(Az P f tb ct p).Wp 3000 N J p.sp),k)=(NN.nn,(fun n=>s (T (UY (Az P f tb ct p) J n))),(fun N=>g (T (UY (Az P f tb ct p) J N))),g (Eu s 1000000))):(kc f p k).Holds P:=by
 have e0:=congrArg Prod.fst e;have e1:=congrArg (fun x=>x.2.1) e;have e2:=congrArg (fun x=>x.2.2.1) e;have e3:=congrArg (fun x=>x.2.2.2) e
 simp only at e0 e1 e2 e3
 have:=SG (fun N=>Tc 3000 N htb h ok J hJ) g (fun n=>T (UY (Az P f tb ct p) J n)) _ s 1000000 e0 (fun n=>congrFun e1 n) (fun N=>congrFun e2 N)
 rw [e3];exact this
end
end
def ck {α:Type} (b:Bool) (x:Option α):Option α:=if b=true then x else none
def ci {α:Type} (b:Bool) (x y:α):α:=if b=true then x else y
abbrev fY (δ:Type):Type:=Option (Unit×(δ×Unit))
def dF {δ:Type} (x:δ):fY δ:=some ((),(x,()))
def iS {δ τ σ:Type} (x:τ×(δ×σ)):fY δ:=dF x.2.1
abbrev Mk (δ ε:Type):Type:=Option (Unit×(δ×ε×Unit))
def Wa {δ ε:Type} (x:δ) (y:ε):Mk δ ε:=some ((),(x,y,()))
def bT {δ ε τ σ:Type} (x:τ×(δ×ε×σ)):Mk δ ε:=Wa x.2.1 x.2.2.1
abbrev Gh (α:Type):Type:=Option ((α×Unit)×Unit)
def Fx {α:Type} (a:α):Gh α:=some ((a,()),())
def iT {α τ σ:Type} (x:(α×τ)×σ):Gh α:=Fx x.1.1
abbrev R1 (α δ:Type):Type:=Option ((α×Unit)×(δ×Unit))
def Cs {α δ:Type} (a:α) (x:δ):R1 α δ:=some ((a,()),(x,()))
def Ga {α δ τ σ:Type} (x:(α×τ)×(δ×σ)):R1 α δ:=Cs x.1.1 x.2.1
abbrev R2 (α δ ε:Type):Type:=Option ((α×Unit)×(δ×ε×Unit))
def BR {α δ ε:Type} (a:α) (x:δ) (y:ε):R2 α δ ε:=some ((a,()),(x,y,()))
def Bp {α δ ε τ σ:Type} (x:(α×τ)×(δ×ε×σ)):R2 α δ ε:=BR x.1.1 x.2.1 x.2.2.1
abbrev cz (α δ ε ζ:Type):Type:=Option ((α×Unit)×(δ×ε×ζ×Unit))
def Wb {α δ ε ζ:Type} (a:α) (x:δ) (y:ε) (z:ζ):cz α δ ε ζ:=some ((a,()),(x,y,z,()))
abbrev R4 (α β:Type):Type:=Option ((α×β×Unit)×Unit)
def NQ {α β:Type} (a:α) (b:β):R4 α β:=some ((a,b,()),())
def eQ {α β τ σ:Type} (x:(α×β×τ)×σ):R4 α β:=NQ x.1.1 x.1.2.1
abbrev UD (α β δ:Type):Type:=Option ((α×β×Unit)×(δ×Unit))
def Oh {α β δ:Type} (a:α) (b:β) (x:δ):UD α β δ:=some ((a,b,()),(x,()))
def gZ {α β δ τ σ:Type} (x:(α×β×τ)×(δ×σ)):UD α β δ:=Oh x.1.1 x.1.2.1 x.2.1
abbrev c6 (α β δ ε:Type):Type:=Option ((α×β×Unit)×(δ×ε×Unit))
def Mf {α β δ ε:Type} (a:α) (b:β) (x:δ) (y:ε):c6 α β δ ε:=some ((a,b,()),(x,y,()))
abbrev QV (α β γ:Type):Type:=Option ((α×β×γ×Unit)×Unit)
def S0 {α β γ:Type} (a:α) (b:β) (c:γ):QV α β γ:=some ((a,b,c,()),())
def hO {α β γ τ σ:Type} (x:(α×β×γ×τ)×σ):QV α β γ:=S0 x.1.1 x.1.2.1 x.1.2.2.1
abbrev fZ (α β γ δ:Type):Type:=Option ((α×β×γ×Unit)×(δ×Unit))
def fo {α β γ δ:Type} (a:α) (b:β) (c:γ) (x:δ):fZ α β γ δ:=some ((a,b,c,()),(x,()))
end Go.En
/- What is of the seat in the contracts of twins. -/
namespace Go.Proofs
open Go Go.En
def kd (f:Nat) (p:Ak) (m:p.sp.D En.Dop.D4→Option (p.rs.D En.Dop.D4)):Bw En.Dop.D4:=kc f p m
end Go.Proofs
/- Functions in plain words (what their equations say), and their contracts. Written by a program. -/
set_option maxRecDepth 100000
set_option maxHeartbeats 4000000
namespace Go.Proofs.Tryz
open Go Go.En
noncomputable section
def KB.k (k0:PS):R1 Int PS:=
 let A1:=List.getD k0.l (I k0.l.length -1).toNat Dop.d4
 let A2:=A1.at_+I A1.text.length
 ci (I k0.l.length=0) (Cs 0 k0)<|
 ck (Av (I k0.l.length -1))<|
 ck (0≤I k0.l.length -1∧I k0.l.length -1<I k0.l.length)<|
 ck (Av A2)<|
 Cs A2 k0
def KB.Kc:=kd 89 KB.p fun x=>KB.k x.2.1
theorem KB.Kh:KB.Kc.Holds prog:=kh AJ hn KB.ok (by kernel_rfl)
def ES.k (k0:PS):R1 Dop.Tok PS:=
 ci (!(k0.e=0)) ((KB.k k0).bind fun y3=>
 Cs (Dop.Tok.mk 0 [] 0 y3.1.1) y3.2.1)<|
 ci (I k0.l.length≤k0.at_) ((KB.k k0).bind fun y4=>
 Cs (Dop.Tok.mk 0 [] 0 y4.1.1) y4.2.1)<|
 ck (0≤k0.at_∧k0.at_<I k0.l.length)<|
 Cs (List.getD k0.l k0.at_.toNat Dop.d4) k0
def ES.Kc:=kd 45 ES.p fun x=>ES.k x.2.1
theorem ES.Kh:ES.Kc.Holds prog:=kh AJ (hc KB.Kh hn) ES.ok (by kernel_rfl)
def FA.k (kind at_:Int):Gh Dop.Aa:=
 Fx (Dop.Aa.mk kind (-1) (-1) (-1) (-1) [] 0 0 at_)
def FA.Kc:=kd 90 FA.p fun x=>FA.k x.1.1 x.1.2.1
theorem FA.Kh:FA.Kc.Holds prog:=kh AJ hn FA.ok (by kernel_rfl)
def Lz.k (s:List UInt8) (k0:PS):R1 Bool PS:=
 (ES.k k0).bind fun y2=>
 ci (y2.1.1.kind=4) (Cs (decide (y2.1.1.text=s)) y2.2.1)<|
 ci (y2.1.1.kind=2) (Cs (decide (y2.1.1.text=s)) y2.2.1)<|
 Cs false y2.2.1
def Lz.Kc:=kd 91 Lz.p fun x=>Lz.k x.1.2.1 x.2.1
theorem Lz.Kh:Lz.Kc.Holds prog:=kh AJ (hc ES.Kh hn) Lz.ok (by kernel_rfl)
def Cn.k (s:List UInt8) (k0:PS):R1 Bool PS:=
 (Lz.k s k0).bind fun y2=>
 ci (!y2.1.1) (Cs false y2.2.1)<|
 ck (Av (PS.at_ y2.2.1+1))<|
 Cs true (PS.S5 y2.2.1 (PS.at_ y2.2.1+1))
def Cn.Kc:=kd 94 Cn.p fun x=>Cn.k x.1.2.1 x.2.1
theorem Cn.Kh:Cn.Kc.Holds prog:=kh AJ (hc Lz.Kh hn) Cn.ok (by kernel_rfl)
def BY.k (e:Int) (k0:PS):fY PS:=
 ci (k0.e=0) ((ES.k k0).bind fun y3=>
 dF (PS.E7 (PS.Wr y3.2.1 e) y3.1.1.at_))<|
 dF k0
def BY.Kc:=kd 142 BY.p fun x=>BY.k x.1.2.1 x.2.1
theorem BY.Kh:BY.Kc.Holds prog:=kh AJ (hc ES.Kh hn) BY.ok (by kernel_rfl)
def DE.k (s:List UInt8) (k0:PS):fY PS:=
 (Cn.k s k0).bind fun y2=>
 ci (!y2.1.1) ((BY.k 5 y2.2.1).bind iS)<|
 dF y2.2.1
def DE.Kc:=kd 92 DE.p fun x=>DE.k x.1.2.1 x.2.1
theorem DE.Kh:DE.Kc.Holds prog:=kh AJ (hc Cn.Kh (hc BY.Kh hn)) DE.ok (by kernel_rfl)
def Hk.k (k:Int) (k0:PS):R1 Dop.Tok PS:=
 (ES.k k0).bind fun y2=>
 ci (!(y2.1.1.kind=k)) ((BY.k 5 y2.2.1).bind fun y4=>
 Cs (Dop.Tok.mk 0 [] 0 y2.1.1.at_) y4.2.1)<|
 ci (!(PS.e y2.2.1=0)) ((BY.k 5 y2.2.1).bind fun y5=>
 Cs (Dop.Tok.mk 0 [] 0 y2.1.1.at_) y5.2.1)<|
 ck (Av (PS.at_ y2.2.1+1))<|
 Cs y2.1.1 (PS.S5 y2.2.1 (PS.at_ y2.2.1+1))
def Hk.Kc:=kd 93 Hk.p fun x=>Hk.k x.1.2.1 x.2.1
theorem Hk.Kh:Hk.Kc.Holds prog:=kh AJ (hc ES.Kh (hc BY.Kh hn)) Hk.ok (by kernel_rfl)
abbrev OG.T:Type:=List Dop.Gr→Int→Int→Dop.Gr→Gh Int
abbrev Dd.KT:Type:=OG.T×Unit
def OG.kB (tK:Dd.KT):OG.T:=fun s t7 t8 b0=>
 let A1:=List.getD s t8.toNat Dop.d6
 ci (t8<t7) (ck (0≤t8∧t8<I s.length)<|
 ci (Q7 (List.take 4 (List.drop 0 (SV.v (Value.int IntKind.i64 b0.kind)::SV.v (Value.int IntKind.i64 b0.elem)::SV.v (Value.int IntKind.i64 b0.n)::SV.v (Value.string (ByteArray.mk (Array.mk b0.name)))::[]++[]))) (List.take 4 (List.drop 0 (SV.v (Value.int IntKind.i64 A1.kind)::SV.v (Value.int IntKind.i64 A1.elem)::SV.v (Value.int IntKind.i64 A1.n)::SV.v (Value.string (ByteArray.mk (Array.mk A1.name)))::[])))) (Fx t8)<|
 ck (Av (t8+1))<|
 tK.1 s t7 (t8+1) b0)<|
 Fx (-1)
def Dd.kS (tK:Dd.KT):Dd.KT:=(OG.kB tK,())
def Dd.kL (n:Nat):Dd.KT:=Eu Dd.kS n
def Dd.k0 (tK:Dd.KT) (s:List Dop.Gr) (v:Dop.Gr):Gh Int:=
 tK.1 s (I s.length) 0 v
def Dd.k (s:List Dop.Gr) (v:Dop.Gr):Gh Int:=Dd.k0 (Dd.kL 1000000) s v
def Dd.Kc:=kd 179 Dd.p fun x=>Dd.k x.1.1 x.1.2.1
theorem Dd.Kh:Dd.Kc.Holds prog:=GG AJ hn Dd.ok (fun t x=>Dd.k0 t x.1.1 x.1.2.1) (fun c=>(fun s t7 t8 b0=>c 2 Dd.q2 rfl ((s,(),t7,t8,()),((b0,()),())),())) Dd.kS (by kernel_rfl)
def Iz.k (x:Dop.Gr) (k0:PS):R1 Int PS:=
 (Dd.k k0.types x).bind fun y2=>
 ci (0≤y2.1.1) (Cs y2.1.1 k0)<|
 ci (I k0.types.length=256) ((BY.k 4 k0).bind fun y5=>
 Cs 0 y5.2.1)<|
 ck (Cj none (room 40 (k0.types.length+(x::[]).length)))<|
 ck (Av (I (k0.types++x::[]).length -1))<|
 Cs (I (k0.types++x::[]).length -1) (PS.S6 k0 (k0.types++x::[]))
def Iz.Kc:=kd 144 Iz.p fun x=>Iz.k x.1.2.1 x.2.1
theorem Iz.Kh:Iz.Kc.Holds prog:=kh AJ (hc Dd.Kh (hc BY.Kh hn)) Iz.ok (by kernel_rfl)
abbrev Km.T:Type:=Int→PS→R1 Int PS
abbrev DD.KT:Type:=Km.T×Unit
def Km.kB (tK:DD.KT):Km.T:=fun t k0=>
 (Cn.k ([42]:List UInt8) k0).bind fun y2=>
 ci y2.1.1 ((Iz.k (Dop.Gr.mk 4 t 0 []) y2.2.1).bind fun y4=>
 tK.1 y4.1.1 y4.2.1)<|
 Cs t y2.2.1
def DD.kS (tK:DD.KT):DD.KT:=(Km.kB tK,())
def DD.kL (n:Nat):DD.KT:=Eu DD.kS n
def DD.k0 (tK:DD.KT) (k0:PS):R1 Int PS:=
 (Cn.k ([118,111,105,100]:List UInt8) k0).bind fun y2=>
 ci y2.1.1 (tK.1 0 y2.2.1)<|
 (Cn.k ([105,110,116]:List UInt8) y2.2.1).bind fun y4=>
 ci y4.1.1 (tK.1 1 y4.2.1)<|
 (Cn.k ([117,110,115,105,103,110,101,100]:List UInt8) y4.2.1).bind fun y6=>
 ci y6.1.1 (tK.1 2 y6.2.1)<|
 (Cn.k ([99,104,97,114]:List UInt8) y6.2.1).bind fun y8=>
 ci y8.1.1 (tK.1 3 y8.2.1)<|
 (DE.k ([115,116,114,117,99,116]:List UInt8) y8.2.1).bind fun y10=>
 (Hk.k 1 y10.2.1).bind fun y11=>
 (Iz.k (Dop.Gr.mk 6 0 0 y11.1.1.text) y11.2.1).bind fun y12=>
 tK.1 y12.1.1 y12.2.1
def DD.k (k0:PS):R1 Int PS:=DD.k0 (DD.kL 1000000) k0
def DD.Kc:=kd 143 DD.p fun x=>DD.k x.2.1
theorem DD.Kh:DD.Kc.Holds prog:=GG AJ (hc Cn.Kh (hc DE.Kh (hc Hk.Kh (hc Iz.Kh hn)))) DD.ok (fun t x=>DD.k0 t x.2.1) (fun c=>(fun t k0=>c 11 DD.ZD rfl (((),t,()),(k0,())),())) DD.kS (by kernel_rfl)
def Pt.k (k0:PS):R1 Dop.Aa PS:=
 (ES.k k0).bind fun y2=>
 (FA.k 51 y2.1.1.at_).bind fun y3=>
 (DD.k y2.2.1).bind fun y4=>
 (Hk.k 1 y4.2.1).bind fun y5=>
 Cs (Dop.Aa.mk y3.1.1.kind y3.1.1.a y3.1.1.b y3.1.1.c y3.1.1.d y5.1.1.text y3.1.1.n y4.1.1 y3.1.1.at_) y5.2.1
def Pt.Kc:=kd 95 Pt.p fun x=>Pt.k x.2.1
theorem Pt.Kh:Pt.Kc.Holds prog:=kh AJ (hc ES.Kh (hc FA.Kh (hc DD.Kh (hc Hk.Kh hn)))) Pt.ok (by kernel_rfl)
def OZ.k (t:Int) (k0:PS):R1 Int PS:=
 (Cn.k ([91]:List UInt8) k0).bind fun y2=>
 ci (!y2.1.1) (Cs t y2.2.1)<|
 (Hk.k 3 y2.2.1).bind fun y4=>
 (DE.k ([93]:List UInt8) y4.2.1).bind fun y5=>
 (Iz.k (Dop.Gr.mk 5 t y4.1.1.n []) y5.2.1).bind Ga
def OZ.Kc:=kd 96 OZ.p fun x=>OZ.k x.1.2.1 x.2.1
theorem OZ.Kh:OZ.Kc.Holds prog:=kh AJ (hc Cn.Kh (hc Hk.Kh (hc DE.Kh (hc Iz.Kh hn)))) OZ.ok (by kernel_rfl)
def Co.k (n:Dop.Aa) (k0:PS):R1 Int PS:=
 ci (I k0.nodes.length=8192) ((BY.k 4 k0).bind fun y3=>
 ci (!(PS.e y3.2.1=0)) (Cs (-1) y3.2.1)<|
 ck (Cj none (room 80 ((PS.nodes y3.2.1).length+(n::[]).length)))<|
 ck (Av (I (PS.nodes y3.2.1++n::[]).length -1))<|
 Cs (I (PS.nodes y3.2.1++n::[]).length -1) (PS.Ei y3.2.1 (PS.nodes y3.2.1++n::[])))<|
 ci (!(k0.e=0)) (Cs (-1) k0)<|
 ck (Cj none (room 80 (k0.nodes.length+(n::[]).length)))<|
 ck (Av (I (k0.nodes++n::[]).length -1))<|
 Cs (I (k0.nodes++n::[]).length -1) (PS.Ei k0 (k0.nodes++n::[]))
def Co.Kc:=kd 97 Co.p fun x=>Co.k x.1.2.1 x.2.1
theorem Co.Kh:Co.Kc.Holds prog:=kh AJ (hc BY.Kh hn) Co.ok (by kernel_rfl)
def Gk.k (n:Int) (k0:PS):R1 Int PS:=
 ci (n<0) (Cs 0 k0)<|
 ck (0≤n∧n<I k0.nodes.length)<|
 ck (n.toNat<k0.nodes.length)<|
 Cs ((List.getD k0.nodes n.toNat Dop.d5).at_) k0
def Lp.k (t:Dop.FV) (n:Int):Gh Dop.Aa:=
 let A1:=Fx (Dop.Aa.mk 0 0 0 0 0 [] 0 0 0)
 ci (n<0) A1<|
 ci (I t.nodes.length≤n) A1<|
 ck (0≤n∧n<I t.nodes.length)<|
 Fx (List.getD t.nodes n.toNat Dop.d5)
def Lp.Kc:=kd 120 Lp.p fun x=>Lp.k x.1.1 x.1.2.1
theorem Lp.Kh:Lp.Kc.Holds prog:=kh AJ hn Lp.ok (by kernel_rfl)
abbrev Sg.T:Type:=Int→List Int→Int→Int→Dop.FV→Gh (List Int)
abbrev F5.KT:Type:=Sg.T×Unit
def Sg.kB (tK:F5.KT):Sg.T:=fun n out t9 t10 b0=>
 ci (t10<t9) ((Lp.k b0 n).bind fun y3=>
 ci (!(y3.1.1.kind=20)) (Fx out)<|
 ck (Cj none (room 8 (out.length+(y3.1.1.a::[]).length)))<|
 ck (Av (t10+1))<|
 tK.1 y3.1.1.b (out++y3.1.1.a::[]) t9 (t10+1) b0)<|
 Fx out
def F5.kS (tK:F5.KT):F5.KT:=(Sg.kB tK,())
def F5.kL (n:Nat):F5.KT:=Eu F5.kS n
def F5.k0 (tK:F5.KT) (t:Dop.FV) (n:Int):Gh (List Int):=
 tK.1 n [] (I t.nodes.length) 0 t
def F5.k (t:Dop.FV) (n:Int):Gh (List Int):=F5.k0 (F5.kL 1000000) t n
def F5.Kc:=kd 73 F5.p fun x=>F5.k x.1.1 x.1.2.1
theorem F5.Kh:F5.Kc.Holds prog:=GG AJ (hc Lp.Kh hn) F5.ok (fun t x=>F5.k0 t x.1.1 x.1.2.1) (fun c=>(fun n out t9 t10 b0=>c 3 F5.q3 rfl ((n,(),out,t9,t10,()),((b0,()),())),())) F5.kS (by kernel_rfl)
def Lu.k (k0:PS):R1 Bool PS:=
 (Lz.k ([105,110,116]:List UInt8) k0).bind fun y2=>
 ci y2.1.1 (Cs true y2.2.1)<|
 (Lz.k ([117,110,115,105,103,110,101,100]:List UInt8) y2.2.1).bind fun y4=>
 ci y4.1.1 (Cs true y4.2.1)<|
 (Lz.k ([99,104,97,114]:List UInt8) y4.2.1).bind fun y6=>
 ci y6.1.1 (Cs true y6.2.1)<|
 (Lz.k ([118,111,105,100]:List UInt8) y6.2.1).bind fun y8=>
 ci y8.1.1 (Cs true y8.2.1)<|
 (Lz.k ([115,116,114,117,99,116]:List UInt8) y8.2.1).bind Ga
def Lu.Kc:=kd 204 Lu.p fun x=>Lu.k x.2.1
theorem Lu.Kh:Lu.Kc.Holds prog:=kh AJ (hc Lz.Kh hn) Lu.ok (by kernel_rfl)
abbrev Sc.T:Type:=List UInt8→Int→R4 Int Bool
abbrev JL.KT:Type:=Sc.T×Unit
def Sc.kB (tK:JL.KT):Sc.T:=fun s at_=>
 let A1:=List.drop at_.toNat (List.take (I s.length).toNat s)
 let A3:=at_+Lib.indexByte A1 (Int.toNat 10).toUInt8
 let A2:=List.drop (Int.toNat 2) (List.take (I A1.length).toNat A1)
 ci (at_<I s.length) (ck (0≤at_∧at_≤I s.length∧I s.length≤I s.length)<|
 ck (0≤at_∧at_<I s.length)<|
 ck true<|
 ci (0≤Lib.indexByte ([32,9,10,13]:List UInt8) (CZ s at_).toNat.toUInt8) (ck (Av (at_+1))<|
 tK.1 s (at_+1))<|
 ck true<|
 ci (Lib.hasPrefix A1 ([47,47]:List UInt8)) (ck true<|
 ci (Lib.indexByte A1 (Int.toNat 10).toUInt8<0) (NQ (I s.length) true)<|
 ck (Av A3)<|
 tK.1 s A3)<|
 ck true<|
 ci (Lib.hasPrefix A1 ([47,42]:List UInt8)) (ck ((0:Int)≤2∧2≤I A1.length∧I A1.length≤I A1.length)<|
 ck (P2 A2)<|
 ci (Lib.index A2 ([42,47]:List UInt8)<0) (NQ at_ false)<|
 ck (Av (Lib.index A2 ([42,47]:List UInt8)+4))<|
 ck (Av (at_+(Lib.index A2 ([42,47]:List UInt8)+4)))<|
 tK.1 s (at_+(Lib.index A2 ([42,47]:List UInt8)+4)))<|
 NQ at_ true)<|
 NQ at_ true
def JL.kS (tK:JL.KT):JL.KT:=(Sc.kB tK,())
def JL.kL (n:Nat):JL.KT:=Eu JL.kS n
def JL.k0 (tK:JL.KT) (s:List UInt8):R4 Int Bool:=
 tK.1 s 0
def JL.k (s:List UInt8):R4 Int Bool:=JL.k0 (JL.kL 1000000) s
def JL.Kc:=kd 43 JL.p fun x=>JL.k x.1.1
theorem JL.Kh:JL.Kc.Holds prog:=GG AJ (hc indexByte.holds (hc hasPrefix.holds (hc index.holds hn))) JL.ok (fun t x=>JL.k0 t x.1.1) (fun c=>(fun s at_=>c 2 JL.q2 rfl ((s,at_,()),()),())) JL.kS (by kernel_rfl)
def To.k (c:Int):Gh Bool:=
 let z1:Gh Bool:=
 ci (65≤c) (ci (c≤90) (Fx true)<|
 Fx (decide (c=95)))<|
 Fx (decide (c=95))
 ci (97≤c) (ci (c≤122) (Fx true)<|
 z1)<|
 z1
def To.Kc:=kd 82 To.p fun x=>To.k x.1.1
theorem To.Kh:To.Kc.Holds prog:=kh AJ hn To.ok (by kernel_rfl)
def Tp.k (c:Int):Gh Bool:=
 ci (48≤c) (Fx (decide (c≤57)))<|
 Fx false
def Tp.Kc:=kd 85 Tp.p fun x=>Tp.k x.1.1
theorem Tp.Kh:Tp.Kc.Holds prog:=kh AJ hn Tp.ok (by kernel_rfl)
abbrev Si.T:Type:=List UInt8→Int→Gh Int
abbrev I7.KT:Type:=Si.T×Unit
def Si.kB (tK:I7.KT):Si.T:=fun s n=>
 ci (n<I s.length) (ck (0≤n∧n<I s.length)<|
 (To.k (CZ s n)).bind fun y3=>
 ci y3.1.1 (ck (Av (n+1))<|
 tK.1 s (n+1))<|
 ck (0≤n∧n<I s.length)<|
 (Tp.k (CZ s n)).bind fun y5=>
 ci y5.1.1 (ck (Av (n+1))<|
 tK.1 s (n+1))<|
 Fx n)<|
 Fx n
def I7.kS (tK:I7.KT):I7.KT:=(Si.kB tK,())
def I7.kL (n:Nat):I7.KT:=Eu I7.kS n
def I7.k0 (tK:I7.KT) (s:List UInt8):Gh Int:=
 tK.1 s 0
def I7.k (s:List UInt8):Gh Int:=I7.k0 (I7.kL 1000000) s
def I7.Kc:=kd 83 I7.p fun x=>I7.k x.1.1
theorem I7.Kh:I7.Kc.Holds prog:=GG AJ (hc To.Kh (hc Tp.Kh hn)) I7.ok (fun t x=>I7.k0 t x.1.1) (fun c=>(fun s n=>c 2 I7.q2 rfl ((s,n,()),()),())) I7.kS (by kernel_rfl)
def V0.k (w:List UInt8):Gh Bool:=
 ci (!(w=[])) (ck (P2 w)<|
 ci (!Lib.contains w ([32]:List UInt8)) (ck (([32]:List UInt8).length+w.length≤9223372036854775807)<|
 ck (((32:UInt8)::[]++w).length+([32]:List UInt8).length≤9223372036854775807)<|
 ck (P2 (([32,98,114,101,97,107,32,99,97,115,101,32,99,104,97,114,32,99,111,110,116,105,110,117,101,32,100,101,102,97,117,108,116,32,100,111,32,101,108,115,101,32,102,111,114,32,103,101,116,99,32,103,111,116,111,32,105,102]:List UInt8).append ([32,105,110,116,32,112,117,116,99,32,114,101,116,117,114,110,32,115,105,122,101,111,102,32,115,116,114,117,99,116,32,115,119,105,116,99,104,32,117,110,115,105,103,110,101,100,32,118,111,105,100,32,119,104,105,108,101,32]:List UInt8)))<|
 Fx (Lib.contains (([32,98,114,101,97,107,32,99,97,115,101,32,99,104,97,114,32,99,111,110,116,105,110,117,101,32,100,101,102,97,117,108,116,32,100,111,32,101,108,115,101,32,102,111,114,32,103,101,116,99,32,103,111,116,111,32,105,102]:List UInt8).append ([32,105,110,116,32,112,117,116,99,32,114,101,116,117,114,110,32,115,105,122,101,111,102,32,115,116,114,117,99,116,32,115,119,105,116,99,104,32,117,110,115,105,103,110,101,100,32,118,111,105,100,32,119,104,105,108,101,32]:List UInt8)) ((32:UInt8)::[]++w++(32:UInt8)::[])))<|
 Fx false)<|
 Fx false
def V0.Kc:=kd 84 V0.p fun x=>V0.k x.1.1
theorem V0.Kh:V0.Kc.Holds prog:=kh AJ (hc contains.holds hn) V0.ok (by kernel_rfl)
def RV.k (kind n size:Int) (b0:List UInt8):UD Dop.Tok Int (List UInt8×Unit):=
 ck ((0:Int)≤0∧0≤size∧size≤I b0.length)<|
 Oh (Dop.Tok.mk kind (List.drop (Int.toNat 0) (List.take size.toNat b0)) n 0) 0 (b0,())
def RV.Kc:=kd 81 RV.p fun x=>RV.k x.1.1 x.1.2.1 x.1.2.2.1 x.2.1.1
theorem RV.Kh:RV.Kc.Holds prog:=kh AJ hn RV.ok (by kernel_rfl)
abbrev Sj.T:Type:=List UInt8→Int→Int→Int→Int→R4 Int Bool
abbrev JN.KT:Type:=Sj.T×Unit
def Sj.kB (tK:JN.KT):Sj.T:=fun s base n t34 t35=>
 let A1:=Lib.toLowerA (List.drop t35.toNat (List.take (t35+1).toNat s))
 ci (t35<t34) (ck (Av (t35+1))<|
 ck (0≤t35∧t35≤t35+1∧t35+1≤I s.length)<|
 ck (Y5 (List.drop t35.toNat (List.take (t35+1).toNat s)))<|
 ck ((0:Int)≤0∧0<I A1.length)<|
 ck true<|
 ci (Lib.indexByte ([48,49,50,51,52,53,54,55,56,57,97,98,99,100,101,102]:List UInt8) (CZ A1 0).toNat.toUInt8<0) (NQ 0 false)<|
 ci (base≤Lib.indexByte ([48,49,50,51,52,53,54,55,56,57,97,98,99,100,101,102]:List UInt8) (CZ A1 0).toNat.toUInt8) (NQ 0 false)<|
 ck (Av (n*base))<|
 ck (Av (n*base+Lib.indexByte ([48,49,50,51,52,53,54,55,56,57,97,98,99,100,101,102]:List UInt8) (CZ A1 0).toNat.toUInt8))<|
 ci (4294967295<n*base+Lib.indexByte ([48,49,50,51,52,53,54,55,56,57,97,98,99,100,101,102]:List UInt8) (CZ A1 0).toNat.toUInt8) (NQ 0 false)<|
 ck (Av (t35+1))<|
 tK.1 s base (n*base+Lib.indexByte ([48,49,50,51,52,53,54,55,56,57,97,98,99,100,101,102]:List UInt8) (CZ A1 0).toNat.toUInt8) t34 (t35+1))<|
 NQ n (!decide (s=[]))
def JN.kS (tK:JN.KT):JN.KT:=(Sj.kB tK,())
def JN.kL (n:Nat):JN.KT:=Eu JN.kS n
def JN.k0 (tK:JN.KT) (s:List UInt8):R4 Int Bool:=
 let A3:=List.drop (Int.toNat 2) (List.take (I s.length).toNat s)
 let A1:=List.drop (Int.toNat 0) (List.take (I s.length -1).toNat s)
 let A2:=List.drop (Int.toNat 2) (List.take (I A1.length).toNat A1)
 let z1:R4 Int Bool:=
 let z3:R4 Int Bool:=
 ck ((0:Int)≤2∧2≤I A1.length∧I A1.length≤I A1.length)<|
 tK.1 A2 16 0 (I A2.length) 0
 ck ((0:Int)≤0∧0≤I s.length -1∧I s.length -1≤I s.length)<|
 ck true<|
 ci (Lib.hasPrefix A1 ([48,120]:List UInt8)) (z3)<|
 ck true<|
 ci (Lib.hasPrefix A1 ([48,88]:List UInt8)) (z3)<|
 tK.1 A1 10 0 (I A1.length) 0
 let z2:R4 Int Bool:=
 ck ((0:Int)≤2∧2≤I s.length∧I s.length≤I s.length)<|
 tK.1 A3 16 0 (I A3.length) 0
 ck (Av (I s.length -1))<|
 ck (0≤I s.length -1∧I s.length -1<I s.length)<|
 ci (CZ s (I s.length -1)=117) (z1)<|
 ck (0≤I s.length -1∧I s.length -1<I s.length)<|
 ci (CZ s (I s.length -1)=85) (z1)<|
 ck true<|
 ci (Lib.hasPrefix s ([48,120]:List UInt8)) (z2)<|
 ck true<|
 ci (Lib.hasPrefix s ([48,88]:List UInt8)) (z2)<|
 tK.1 s 10 0 (I s.length) 0
def JN.k (s:List UInt8):R4 Int Bool:=JN.k0 (JN.kL 1000000) s
def JN.Kc:=kd 86 JN.p fun x=>JN.k x.1.1
theorem JN.Kh:JN.Kc.Holds prog:=GG AJ (hc hasPrefix.holds (hc lower.holds (hc indexByte.holds hn))) JN.ok (fun t x=>JN.k0 t x.1.1) (fun c=>(fun s base n t34 t35=>c 9 JN.q9 rfl ((s,base,n,t34,t35,()),()),())) JN.kS (by kernel_rfl)
def V1.k (s:List UInt8):R4 Int Int:=
 let z1:R4 Int Int:=
 ci (3≤I s.length) (ck ((0:Int)≤1∧1<I s.length)<|
 ci (!(CZ s (1:Int)=39)) (ck ((0:Int)≤1∧1<I s.length)<|
 ci (!(CZ s (1:Int)=92)) (ck ((0:Int)≤1∧1<I s.length)<|
 ci (!(CZ s (1:Int)=10)) (ck ((0:Int)≤2∧2<I s.length)<|
 ci (CZ s (2:Int)=39) (ck ((0:Int)≤1∧1<I s.length)<|
 ck (Av (CZ s 1))<|
 NQ (CZ s 1) 3)<|
 NQ 0 0)<|
 NQ 0 0)<|
 NQ 0 0)<|
 NQ 0 0)<|
 NQ 0 0
 ci (4≤I s.length) (ck ((0:Int)≤1∧1<I s.length)<|
 ci (CZ s (1:Int)=92) (ck ((0:Int)≤3∧3<I s.length)<|
 ci (CZ s (3:Int)=39) (ck ((0:Int)≤2∧2<I s.length)<|
 ci ((DF (Da (Da (Da (Da (Da (([]:List (Int×Int))) 110 10) 116 9) 48 0) 92 92) 39 39) (CZ s 2)).isSome) (NQ ((DF (Da (Da (Da (Da (Da (([]:List (Int×Int))) 110 10) 116 9) 48 0) 92 92) 39 39) (CZ s 2)).getD 0) 4)<|
 NQ 0 0)<|
 z1)<|
 z1)<|
 z1
def V1.Kc:=kd 87 V1.p fun x=>V1.k x.1.1
theorem V1.Kh:V1.Kc.Holds prog:=kh AJ hn V1.ok (by kernel_rfl)
def Lq.k :Gh (List (List UInt8)):=
 ck (Y5 (([60,60,61,32,62,62,61,32,43,43,32,45,45,32,45,62,32,43,61,32,45,61,32,42,61,32,47,61,32,37,61,32,38,61,32,124,61,32,94,61,32,60,60,32,62,62,32,60,61,32,62,61,32,61,61,32]:List UInt8).append ([33,61,32,38,38,32,124,124,32,43,32,45,32,42,32,47,32,37,32,38,32,124,32,94,32,126,32,33,32,60,32,62,32,61,32,63,32,58,32,59,32,44,32,46,32,40,32,41,32,91,32,93,32,123,32,125]:List UInt8)) && ((Lib.fields (([60,60,61,32,62,62,61,32,43,43,32,45,45,32,45,62,32,43,61,32,45,61,32,42,61,32,47,61,32,37,61,32,38,61,32,124,61,32,94,61,32,60,60,32,62,62,32,60,61,32,62,61,32,61,61,32]:List UInt8).append ([33,61,32,38,38,32,124,124,32,43,32,45,32,42,32,47,32,37,32,38,32,124,32,94,32,126,32,33,32,60,32,62,32,61,32,63,32,58,32,59,32,44,32,46,32,40,32,41,32,91,32,93,32,123,32,125]:List UInt8))).length≤maxLen))<|
 Fx (List.map (fun (a:List UInt8)=>a) (Lib.fields (([60,60,61,32,62,62,61,32,43,43,32,45,45,32,45,62,32,43,61,32,45,61,32,42,61,32,47,61,32,37,61,32,38,61,32,124,61,32,94,61,32,60,60,32,62,62,32,60,61,32,62,61,32,61,61,32]:List UInt8).append ([33,61,32,38,38,32,124,124,32,43,32,45,32,42,32,47,32,37,32,38,32,124,32,94,32,126,32,33,32,60,32,62,32,61,32,63,32,58,32,59,32,44,32,46,32,40,32,41,32,91,32,93,32,123,32,125]:List UInt8))))
def Lq.Kc:=kd 141 Lq.p fun x=>Lq.k
theorem Lq.Kh:Lq.Kc.Holds prog:=kh AJ (hc fields.holds hn) Lq.ok (by kernel_rfl)
abbrev Sk.T:Type:=List UInt8→(List (List UInt8))→Int→Int→Gh (List UInt8)
abbrev JO.KT:Type:=Sk.T×Unit
def Sk.kB (tK:JO.KT):Sk.T:=fun s t5 t6 t7=>
 let A1:=List.getD t5 t7.toNat []
 ci (t7<t6) (ck (0≤t7∧t7<I t5.length)<|
 ck (t7.toNat<t5.length)<|
 ck true<|
 ci (Lib.hasPrefix s A1) (Fx A1)<|
 ck (Av (t7+1))<|
 tK.1 s t5 t6 (t7+1))<|
 Fx []
def JO.kS (tK:JO.KT):JO.KT:=(Sk.kB tK,())
def JO.kL (n:Nat):JO.KT:=Eu JO.kS n
def JO.k0 (tK:JO.KT) (s:List UInt8):Gh (List UInt8):=
 (Lq.k).bind fun y2=>
 tK.1 s y2.1.1 (I y2.1.1.length) 0
def JO.k (s:List UInt8):Gh (List UInt8):=JO.k0 (JO.kL 1000000) s
def JO.Kc:=kd 88 JO.p fun x=>JO.k x.1.1
theorem JO.Kh:JO.Kc.Holds prog:=GG AJ (hc Lq.Kh (hc hasPrefix.holds hn)) JO.ok (fun t x=>JO.k0 t x.1.1) (fun c=>(fun s t5 t6 t7=>c 2 JO.q2 rfl ((s,t5,t6,t7,()),()),())) JO.kS (by kernel_rfl)
def Vy.k (o:List UInt8):R4 Dop.Tok Int:=
 ck ((0:Int)≤0∧0<I o.length)<|
 (To.k (CZ o 0)).bind fun y2=>
 ci y2.1.1 ((I7.k o).bind fun y4=>
 ck ((0:Int)≤0∧0≤y4.1.1∧y4.1.1≤I o.length)<|
 (V0.k (List.drop (Int.toNat 0) (List.take y4.1.1.toNat o))).bind fun y5=>
 ci y5.1.1 ((RV.k 2 0 y4.1.1 o).bind eQ)<|
 (RV.k 1 0 y4.1.1 o).bind eQ)<|
 ck ((0:Int)≤0∧0<I o.length)<|
 (Tp.k (CZ o 0)).bind fun y4=>
 ci y4.1.1 ((I7.k o).bind fun y6=>
 ck ((0:Int)≤0∧0≤y6.1.1∧y6.1.1≤I o.length)<|
 (JN.k (List.drop (Int.toNat 0) (List.take y6.1.1.toNat o))).bind fun y7=>
 ci (!y7.1.2.1) (NQ (Dop.Tok.mk 0 [] 0 0) 3)<|
 (RV.k 3 y7.1.1 y6.1.1 o).bind eQ)<|
 ck ((0:Int)≤0∧0<I o.length)<|
 ci (CZ o (0:Int)=39) ((V1.k o).bind fun y7=>
 ci (0<y7.1.2.1) ((RV.k 3 y7.1.1 y7.1.2.1 o).bind eQ)<|
 NQ (Dop.Tok.mk 0 [] 0 0) 2)<|
 (JO.k o).bind fun y7=>
 ci (!(y7.1.1=[])) ((RV.k 4 0 (I y7.1.1.length) o).bind eQ)<|
 NQ (Dop.Tok.mk 0 [] 0 0) 2
def Vy.Kc:=kd 44 Vy.p fun x=>Vy.k x.1.1
theorem Vy.Kh:Vy.Kc.Holds prog:=kh AJ (hc To.Kh (hc I7.Kh (hc V0.Kh (hc RV.Kh (hc Tp.Kh (hc JN.Kh (hc V1.Kh (hc JO.Kh hn)))))))) Vy.ok (by kernel_rfl)
abbrev SY.T:Type:=List UInt8→List Dop.Tok→Int→QV (List Dop.Tok) Int Int
abbrev m19.KT:Type:=SY.T×Unit
def SY.kB (tK:m19.KT):SY.T:=fun s out at_=>
 let A1:=List.take (I s.length).toNat s
 ck (0≤at_∧at_≤I s.length∧I s.length≤I s.length)<|
 (JL.k (List.drop at_.toNat A1)).bind fun y2=>
 ck (Av (at_+y2.1.1))<|
 ci (!y2.1.2.1) (S0 [] (at_+y2.1.1) 2)<|
 ci (at_+y2.1.1=I s.length) (ck (Cj none (room 40 (out.length+(Dop.Tok.mk 0 [] 0 (at_+y2.1.1)::[]).length)))<|
 S0 (out++Dop.Tok.mk 0 [] 0 (at_+y2.1.1)::[]) 0 0)<|
 ck (0≤at_+y2.1.1∧at_+y2.1.1≤I s.length∧I s.length≤I s.length)<|
 (Vy.k (List.drop (at_+y2.1.1).toNat A1)).bind fun y5=>
 ci (!(y5.1.2.1=0)) (S0 [] (at_+y2.1.1) y5.1.2.1)<|
 ci (I out.length=8192) (S0 [] (at_+y2.1.1) 4)<|
 ck (Cj none (room 40 (out.length+(Dop.Tok.mk y5.1.1.kind y5.1.1.text y5.1.1.n (at_+y2.1.1)::[]).length)))<|
 ck (Av (at_+y2.1.1+I y5.1.1.text.length))<|
 tK.1 s (out++Dop.Tok.mk y5.1.1.kind y5.1.1.text y5.1.1.n (at_+y2.1.1)::[]) (at_+y2.1.1+I y5.1.1.text.length)
def m19.kS (tK:m19.KT):m19.KT:=(SY.kB tK,())
def m19.kL (n:Nat):m19.KT:=Eu m19.kS n
def m19.k0 (tK:m19.KT) (s:List UInt8):QV (List Dop.Tok) Int Int:=
 ci (32768<I s.length) (S0 [] 0 4)<|
 tK.1 s [] 0
def m19.k (s:List UInt8):QV (List Dop.Tok) Int Int:=m19.k0 (m19.kL 1000000) s
def m19.Kc:=kd 19 m19.p fun x=>m19.k x.1.1
theorem m19.Kh:m19.Kc.Holds prog:=GG AJ (hc JL.Kh (hc Vy.Kh hn)) m19.ok (fun t x=>m19.k0 t x.1.1) (fun c=>(fun s out at_=>c 5 m19.q5 rfl ((s,out,at_,()),()),())) m19.kS (by kernel_rfl)
def Ly.k (b0_0:List Dop.Tok) (b0_1 b0_4 b0_5 b0_6 b0_7:Int):R1 Int (List Dop.Tok×Int×Unit×Unit×Int×Int×Int×Int×Unit):=
 let A1:=List.getD b0_0 (I b0_0.length -1).toNat Dop.d4
 let A2:=A1.at_+I A1.text.length
 ci (I b0_0.length=0) (Cs 0 (b0_0,(b0_1,((),((),(b0_4,(b0_5,(b0_6,(b0_7,())))))))))<|
 ck (Av (I b0_0.length -1))<|
 ck (0≤I b0_0.length -1∧I b0_0.length -1<I b0_0.length)<|
 ck (Av A2)<|
 Cs A2 (b0_0,(b0_1,((),((),(b0_4,(b0_5,(b0_6,(b0_7,()))))))))
def Ly.Kc:=kd 89 Ly.p fun x=>Ly.k x.2.1.1 x.2.1.2.1 x.2.1.2.2.2.2.1 x.2.1.2.2.2.2.2.1 x.2.1.2.2.2.2.2.2.1 x.2.1.2.2.2.2.2.2.2.1
theorem Ly.Kh:Ly.Kc.Holds prog:=kh AJ hn Ly.ok (by kernel_rfl)
def Lx.k (b0_0:List Dop.Tok) (b0_1 b0_4 b0_5 b0_6 b0_7:Int):R1 Dop.Tok (List Dop.Tok×Int×Unit×Unit×Int×Int×Int×Int×Unit):=
 let A1:=Ly.k b0_0 b0_1 b0_4 b0_5 b0_6 b0_7
 ci (!(b0_6=0)) (A1.bind fun y3=>
 Cs (Dop.Tok.mk 0 [] 0 y3.1.1) (y3.2.1.1,(y3.2.1.2.1,((),((),(y3.2.1.2.2.2.2.1,(y3.2.1.2.2.2.2.2.1,(y3.2.1.2.2.2.2.2.2.1,(y3.2.1.2.2.2.2.2.2.2.1,())))))))))<|
 ci (I b0_0.length≤b0_1) (A1.bind fun y4=>
 Cs (Dop.Tok.mk 0 [] 0 y4.1.1) (y4.2.1.1,(y4.2.1.2.1,((),((),(y4.2.1.2.2.2.2.1,(y4.2.1.2.2.2.2.2.1,(y4.2.1.2.2.2.2.2.2.1,(y4.2.1.2.2.2.2.2.2.2.1,())))))))))<|
 ck (0≤b0_1∧b0_1<I b0_0.length)<|
 Cs (List.getD b0_0 b0_1.toNat Dop.d4) (b0_0,(b0_1,((),((),(b0_4,(b0_5,(b0_6,(b0_7,()))))))))
def Lx.Kc:=kd 45 Lx.p fun x=>Lx.k x.2.1.1 x.2.1.2.1 x.2.1.2.2.2.2.1 x.2.1.2.2.2.2.2.1 x.2.1.2.2.2.2.2.2.1 x.2.1.2.2.2.2.2.2.2.1
theorem Lx.Kh:Lx.Kc.Holds prog:=kh AJ (hc Ly.Kh hn) Lx.ok (by kernel_rfl)
def IH.k (s:List UInt8) (b0_0:List Dop.Tok) (b0_1 b0_4 b0_5 b0_6 b0_7:Int):R1 Bool (List Dop.Tok×Int×Unit×Unit×Int×Int×Int×Int×Unit):=
 (Lx.k b0_0 b0_1 b0_4 b0_5 b0_6 b0_7).bind fun y2=>
 ci (y2.1.1.kind=4) (Cs (decide (y2.1.1.text=s)) (y2.2.1.1,(y2.2.1.2.1,((),((),(y2.2.1.2.2.2.2.1,(y2.2.1.2.2.2.2.2.1,(y2.2.1.2.2.2.2.2.2.1,(y2.2.1.2.2.2.2.2.2.2.1,())))))))))<|
 ci (y2.1.1.kind=2) (Cs (decide (y2.1.1.text=s)) (y2.2.1.1,(y2.2.1.2.1,((),((),(y2.2.1.2.2.2.2.1,(y2.2.1.2.2.2.2.2.1,(y2.2.1.2.2.2.2.2.2.1,(y2.2.1.2.2.2.2.2.2.2.1,())))))))))<|
 Cs false (y2.2.1.1,(y2.2.1.2.1,((),((),(y2.2.1.2.2.2.2.1,(y2.2.1.2.2.2.2.2.1,(y2.2.1.2.2.2.2.2.2.1,(y2.2.1.2.2.2.2.2.2.2.1,()))))))))
def IH.Kc:=kd 91 IH.p fun x=>IH.k x.1.2.1 x.2.1.1 x.2.1.2.1 x.2.1.2.2.2.2.1 x.2.1.2.2.2.2.2.1 x.2.1.2.2.2.2.2.2.1 x.2.1.2.2.2.2.2.2.2.1
theorem IH.Kh:IH.Kc.Holds prog:=kh AJ (hc Lx.Kh hn) IH.ok (by kernel_rfl)
def G6.k (b0_0:List Dop.Tok) (b0_1 b0_4 b0_5 b0_6 b0_7:Int):R1 Bool (List Dop.Tok×Int×Unit×Unit×Int×Int×Int×Int×Unit):=
 (IH.k ([105,110,116]:List UInt8) b0_0 b0_1 b0_4 b0_5 b0_6 b0_7).bind fun y2=>
 ci y2.1.1 (Cs true (y2.2.1.1,(y2.2.1.2.1,((),((),(y2.2.1.2.2.2.2.1,(y2.2.1.2.2.2.2.2.1,(y2.2.1.2.2.2.2.2.2.1,(y2.2.1.2.2.2.2.2.2.2.1,())))))))))<|
 (IH.k ([117,110,115,105,103,110,101,100]:List UInt8) y2.2.1.1 y2.2.1.2.1 y2.2.1.2.2.2.2.1 y2.2.1.2.2.2.2.2.1 y2.2.1.2.2.2.2.2.2.1 y2.2.1.2.2.2.2.2.2.2.1).bind fun y4=>
 ci y4.1.1 (Cs true (y4.2.1.1,(y4.2.1.2.1,((),((),(y4.2.1.2.2.2.2.1,(y4.2.1.2.2.2.2.2.1,(y4.2.1.2.2.2.2.2.2.1,(y4.2.1.2.2.2.2.2.2.2.1,())))))))))<|
 (IH.k ([99,104,97,114]:List UInt8) y4.2.1.1 y4.2.1.2.1 y4.2.1.2.2.2.2.1 y4.2.1.2.2.2.2.2.1 y4.2.1.2.2.2.2.2.2.1 y4.2.1.2.2.2.2.2.2.2.1).bind fun y6=>
 ci y6.1.1 (Cs true (y6.2.1.1,(y6.2.1.2.1,((),((),(y6.2.1.2.2.2.2.1,(y6.2.1.2.2.2.2.2.1,(y6.2.1.2.2.2.2.2.2.1,(y6.2.1.2.2.2.2.2.2.2.1,())))))))))<|
 (IH.k ([118,111,105,100]:List UInt8) y6.2.1.1 y6.2.1.2.1 y6.2.1.2.2.2.2.1 y6.2.1.2.2.2.2.2.1 y6.2.1.2.2.2.2.2.2.1 y6.2.1.2.2.2.2.2.2.2.1).bind fun y8=>
 ci y8.1.1 (Cs true (y8.2.1.1,(y8.2.1.2.1,((),((),(y8.2.1.2.2.2.2.1,(y8.2.1.2.2.2.2.2.1,(y8.2.1.2.2.2.2.2.2.1,(y8.2.1.2.2.2.2.2.2.2.1,())))))))))<|
 (IH.k ([115,116,114,117,99,116]:List UInt8) y8.2.1.1 y8.2.1.2.1 y8.2.1.2.2.2.2.1 y8.2.1.2.2.2.2.2.1 y8.2.1.2.2.2.2.2.2.1 y8.2.1.2.2.2.2.2.2.2.1).bind fun y10=>
 Cs y10.1.1 (y10.2.1.1,(y10.2.1.2.1,((),((),(y10.2.1.2.2.2.2.1,(y10.2.1.2.2.2.2.2.1,(y10.2.1.2.2.2.2.2.2.1,(y10.2.1.2.2.2.2.2.2.2.1,()))))))))
def G6.Kc:=kd 204 G6.p fun x=>G6.k x.2.1.1 x.2.1.2.1 x.2.1.2.2.2.2.1 x.2.1.2.2.2.2.2.1 x.2.1.2.2.2.2.2.2.1 x.2.1.2.2.2.2.2.2.2.1
theorem G6.Kh:G6.Kc.Holds prog:=kh AJ (hc IH.Kh hn) G6.ok (by kernel_rfl)
end
end Go.Proofs.Tryz
