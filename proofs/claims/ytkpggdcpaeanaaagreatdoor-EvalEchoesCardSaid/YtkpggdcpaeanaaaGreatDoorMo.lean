/- A function of which a part is gone through by hand: from one cut to another one (Jump). Its model, its equations, that it is a contract. -/
import Derived.Test.YtkpggdcpaeanaaaGreatDoorMh
import Derived.Test.YtkpggdcpaeanaaaGreatDoorMn
import Derived.Test.YtkpggdcpaeanaaaGreatDoorMm
namespace Go.En
open Go.RowKit
section
variable {S:Ao}
structure Jump (E:Env S) where
 c1:Nat
 c2:Nat
 q1:Cut
 q2:Cut
 h1:lk E.C1 c1=some q1
 h2:lk E.C1 c2=some q2
 g:q1.sp.D S->Option (q2.sp.D S)
def Jump.Ok (P:Program) {E:Env S} (J:Jump E):Prop:=
 ∀ (Q:Exit->Act->World->Prop) (w0:World) (F D0:Nat->Prop) (β0:Nat->Nm) (M:Nat) (x:J.q1.sp.D S) (y:J.q2.sp.D S),Bz S w0 F D0->(∀ c a d v w,Q (.panic c) (a.put d v) w->Q (.panic c) a w)->J.g x=some y->IK P Q w0 F D0 β0 M E J.q2 y->IK P Q w0 F D0 β0 M E J.q1 x
def Env.IV (E:Env S) (f0:Nat) (J:Jump E) (c:Nat) (x:E.ι c):Tr E.ι E.ρ:=
 if h:c=J.c1 then .IF (J.g (UN E J.c1 J.q1 J.h1 (h▸x))) fun y=>.cut J.c2 (EB E J.c2 J.q2 J.h2 y) else E.step f0 c x
theorem Env.S3 {E:Env S} {f0:Nat} {J:Jump E} (x:J.q1.sp.D S):E.IV f0 J J.c1 (EB E J.c1 J.q1 J.h1 x)=.IF (J.g x) fun y=>.cut J.c2 (EB E J.c2 J.q2 J.h2 y):=by
 unfold Env.IV
 rw [dif_pos rfl]
 simp only [RT]
theorem Env.YK {E:Env S} {f0 c:Nat} {J:Jump E} (hc:c≠J.c1) {q:Cut} (h:lk E.C1 c=some q) (x:q.sp.D S):E.IV f0 J c (EB E c q h x)=I9 E f0 q x:=by
 unfold Env.IV
 rw [dif_neg hc,Env.step_mk]
variable {P:Program}
theorem SW {E:Env S} (hE:E.Ok P) {J:Jump E} (hJ:J.Ok P) {f:FuncId} {fn:Func} {sp:Spec} (hf:P.funcs[f]?=some fn) (hb:fn.body=some E.body) (hn:fn.ntmps=E.sz) (hres:fn.results.toList=E.res) (hsz:sp.as.length<=E.sz) {f0:Nat}
  {n:Nat} {x:sp.D S} {y:E.rs.D S} (h:(I8 E f0 sp x).eval (Ee (E.IV f0 J) n)=some y) {flat:Bool} {w:World} {D:Nat->Prop} {β:Nat->Nm} {vs:List SV} {o:List (Nat×Own S)} {m:Nat} {out:Out (sp.D S) (E.rs.D S)} (he:sp.enc x E.bn=(vs,o,m)) (hg:GH w (AJ o β) D D o (· <m) β w) (hon:BR (· <m) vs) (hiv:S.inv D w):
  Calls P f (AA β vs).toArray w (Dk ⟨f,E.bn,sp,E.rs,flat,out⟩ y w D β o):=by
 have hkp:Bz S w (AJ o β) D:=⟨hiv,fun k hk=>⟨hg.C8 k hk,fun ⟨i,b,hi,hik⟩=>hg.off i b k hi hik hk⟩⟩
 have hr: ∀ y',y'=y->QB w (AJ o β) D E β (Dk ⟨f,E.bn,sp,E.rs,flat,out⟩ y w D β o) y':=by
  rintro y' rfl D' β' w' ws o' n' he' hβ hgh hon' hn'
  exact ⟨D',β',ws,o',n',he',rfl,hβ,hgh,hon',hn'⟩
 have key: ∀ n k q (h:lk E.C1 k=some q) (x:q.sp.D S),Ee (E.IV f0 J) n k (EB E k q h x)=some y->IK P (bodyPost P fn (Dk ⟨f,E.bn,sp,E.rs,flat,out⟩ y w D β o)) w (AJ o β) D β (n*f0) E q x:=by
  intro n
  induction n with
  | zero=>intro k q h x hx;simp [Ee] at hx
  | succ n ih=>
   intro k q h x hx
   by_cases hk1:k=J.c1
   ·subst hk1
    have hq:q=J.q1:=by have:=J.h1;rw [h] at this;cases this;rfl
    subst hq
    simp only [Ee] at hx
    rw [Env.S3] at hx
    simp only [Tr.eval] at hx
    obtain ⟨z,hz,hx⟩:=Option.bind_eq_some_iff.1 hx
    have:=hJ _ _ _ _ _ _ x z hkp Pv hz (ih J.c2 J.q2 J.h2 z hx)
    intro ks ws o' n' hk hq
    exact VC.more (by rw [Nat.succ_mul];omega) (this ks ws o' n' hk hq)
   intro ks ws o' n' hk hq
   simp only [Ee] at hx
   rw [Env.YK hk1] at hx
   obtain ⟨_,h3,_,_⟩:=hE.C1 k q h
   have h2:=Tr.BA hx
   unfold I9 at h2
   rw [hk] at h2
   simp only [hq] at h2
   have:=AS hE (Kc:=fun c x=>Ee (E.IV f0 J) n c x=some y) (Kr:=(· =y)) f0 (fr:=⟨true,E.dr⟩) (Y0 hkp hE hres hr (fun c q' h' x' GL=>ih c q' h' x' GL)) true ks ⟨q.ts.zip ws,o',n',E.sz⟩ (Nat.le_trans h3 (Spec.On hq)) rfl (KU hk) h2
   rw [Nat.succ_mul]
   exact this
 have h2:=Tr.BA h
 unfold I8 at h2
 rw [he] at h2
 have hvc:=AS hE (Kc:=fun c x=>Ee (E.IV f0 J) n c x=some y) (Kr:=(· =y)) f0 (fr:=⟨true,E.dr⟩) (Y0 hkp hE hres hr (fun c q' h' x' GL=>key n c q' h' x' GL)) false [.code [] E.body] ⟨Bj 0 vs,o,m,E.sz⟩ (Spec.On he) rfl (fun z hz=>by
  simp only [List.mem_cons,List.not_mem_nil,or_false] at hz
  subst hz
  rfl) h2
 exact VC.enter hf hb hn (by rw [Spec.Aa he];exact hsz) hon hg hvc
end
end Go.En
/- Functions of the seat, lifted: plan, model, contract, equations. Written by a program (Lift) that ran the layer's evaluation; Lean checks each line. -/
set_option maxRecDepth 100000
set_option maxHeartbeats 4000000
namespace Go.Proofs.Tryz
open Go Go.En
def LA.p:Ai:=⟨[],3,⟨[.al 0 0],[⟨0,126,[.al 1 0],false⟩,CK.b1,CT.b2]⟩,⟨[.st 10],[⟨0,126,[.al 1 0],false⟩,CK.b1,CT.b2]⟩,false,[],[]⟩
theorem LA.ok:AG Dop.D4 prog 223 LA.p=true:=by kernel_rfl
abbrev Aj.q6:Cut:=⟨[[0,0,0,1,1,1,1],[0,1,0,1,1,1,1],[0,1,1,1,1,1]],[0,2,3,4,5,7,12,13,14],6,⟨[.al 0 0,.fd .str,.fn 223 [(2,0)],.fd (.int .i64),.fd .bool,.al 3 0,.al 4 0,.fd (.int .i64),.al 5 0],[CK.b0,CT.b1,⟨2,126,[.al 0 0],false⟩,⟨3,174,[.st 10],false⟩,⟨4,174,[.st 10],false⟩,⟨5,174,[.st 10],false⟩]⟩⟩
def Aj.p:Ai:=⟨[(6,Aj.q6)],3,⟨[.al 0 0,.st 10,.fd .str,.fn 223 [(2,0)],.fd (.int .i64),.fd .bool],[CK.b0,CT.b1,⟨2,126,[.al 0 0],false⟩]⟩,⟨[.st 10],[CK.b0,CT.b1,⟨2,126,[.al 0 0],false⟩]⟩,false,[(1,⟨[(0,true),(1,true),(2,true),(3,false),(4,true),(5,true),(6,true),(7,false),(8,true),(9,true),(10,true),(11,true),(12,true),(13,true),(14,false),(15,true),(16,false),(17,false),(18,true),(19,true)],[2000000],[0,1,3,7,15,31,63,127,255,511,1023,2047,4095,8191,16383,2047,34815,131071,262143,524287],false⟩),(7,⟨[(0,true),(1,true),(2,false),(3,true),(4,false),(5,true),(6,false),(7,false)],[8,1000000,1000003],[0,0,0,0,8,0,63,0,255],true⟩),(8,⟨[(0,true),(1,true),(2,true),(3,false),(4,true),(5,false),(6,true),(7,false),(8,true),(9,true),(10,true),(11,false),(12,false),(13,true),(14,true),(15,true),(16,false),(17,false),(18,true),(19,false),(20,false),(21,false),(22,true),(23,false),(24,true)],[25,1000000],[0,0,0,0,0,0,0,64,0,0,0,1024,3584,7680,15872,15872,48640,130560,261632,524272,1048572,2097151,0,4194304,16777215,33554431],true⟩),(11,⟨[(0,true),(1,true),(2,true),(3,true),(4,false),(5,true),(6,false),(7,true),(8,true),(9,false),(10,true),(11,false),(12,false)],[13,1000000,1000003],[0,0,0,0,12,0,32,124,0,284,0,2047,0,8191],true⟩),(12,⟨[(0,true),(1,false),(2,true),(3,false),(4,true),(5,false),(6,true),(7,true),(8,true),(9,false),(10,false),(11,true),(12,true),(13,true),(14,false),(15,false),(16,true),(17,false),(18,false),(19,true)],[1000000],[0,0,0,0,0,16,0,0,0,256,896,1920,3968,3968,12160,32640,65408,131068,262143,524287],true⟩),(13,⟨[(0,true),(1,true),(2,true),(3,true),(4,true),(5,true),(6,true),(7,true),(8,false),(9,false),(10,false),(11,false),(12,true),(13,false),(14,true)],[15,1000000],[0,0,0,0,0,0,0,0,192,496,1020,2047,0,4096,16383,32767],false⟩)],[]⟩
theorem Aj.ok:AG Dop.D4 prog 220 Aj.p=true:=by kernel_rfl
abbrev Bc.q9:Cut:=⟨[[0,0,1,1,0,1,0,1,0,1,1,1],[0,1,1,1,0,1,0,1,0,1,1,1],[1,0],[0,1,1,1,1]],[2,4,5,6],5,⟨[.al 2 0,.al 3 0,.al 4 0,.fd (.int .i64)],[CK.b0,CT.b1,⟨2,126,[.al 0 0],false⟩,⟨3,174,[.st 10],false⟩,⟨4,56,[.st 5],false⟩]⟩⟩
abbrev Bc.Xr:Cut:=⟨[[0,0,1,1,0,1,0,0,1,1,1,1,1,1,1,0,1,0,1,1,1],[0,1,1,1,0,1,0,0,1,1,1,1,1,1,1,0,1,0,1,1,1],[0,1,0,1,1,1,1,1,1,1,0,1,0,1,1,1],[1,0],[0,1,1,1,1]],[2,4,5,9],5,⟨[.al 2 0,.al 3 0,.al 4 0,.fd (.int .i64)],[CK.b0,CT.b1,⟨2,126,[.al 0 0],false⟩,⟨3,174,[.st 10],false⟩,⟨4,56,[.st 5],false⟩]⟩⟩
abbrev Bc.kb:Cut:=⟨[[0,0,0,1,1,1,1,1,1,1,1,1,1,1,0,1,0,1,1,1],[0,1,0,1,1,1,1,1,1,1,1,1,1,1,0,1,0,1,1,1],[1,0],[0,1,1,1,1]],[1,2,4,5],5,⟨[.fd (.int .i64),.al 2 0,.al 3 0,.al 4 0],[CK.b0,CT.b1,⟨2,126,[.al 0 0],false⟩,⟨3,174,[.st 10],false⟩,⟨4,56,[.st 5],false⟩]⟩⟩
abbrev Bc.ke:Cut:=⟨[[0,0,1,1,1,1,1,1,1,1,1,1,1,1,0,1,0,1,1,1],[0,1,1,1,1,1,1,1,1,1,1,1,1,1,0,1,0,1,1,1],[1,0],[0,1,1,1,1]],[1,2,4,5,36],5,⟨[.fd (.int .i64),.al 2 0,.al 3 0,.al 4 0,.fd (.int .i64)],[CK.b0,CT.b1,⟨2,126,[.al 0 0],false⟩,⟨3,174,[.st 10],false⟩,⟨4,56,[.st 5],false⟩]⟩⟩
def Bc.p:Ai:=⟨[(9,Bc.q9),(24,Bc.Xr),(40,Bc.kb),(41,Bc.ke)],2,⟨[.al 0 0,.fd (.int .i64)],[CK.b0,CT.b1]⟩,⟨[.st 10],[CK.b0,CT.b1]⟩,false,[(9,⟨[(0,false),(1,true),(2,false),(3,false),(4,true),(5,true),(6,false),(7,true),(8,true)],[9,2000002],[0,0,2,7,0,0,32,96,255,511],false⟩),(15,⟨[(0,false),(1,true),(2,false),(3,false),(4,true),(5,false),(6,true),(7,false),(8,true)],[9,2000002],[0,0,2,7,0,16,0,64,255,511],false⟩),(16,⟨[(0,false),(1,false),(2,false),(3,false),(4,true),(5,false),(6,false)],[7,2000002],[0,0,0,6,0,16,63,127],true⟩),(32,⟨[(0,false),(1,true),(2,true),(3,false),(4,true),(5,true),(6,true),(7,false),(8,true),(9,true),(10,false),(11,true),(12,true),(13,false),(14,true),(15,false),(16,false),(17,true),(18,true),(19,true)],[2000002],[0,1,3,7,15,31,63,127,255,511,1023,2047,4095,8191,1023,17407,65535,131071,262143,524287],false⟩),(36,⟨[(0,false),(1,false),(2,false),(3,false),(4,true),(5,false),(6,true),(7,false),(8,false),(9,true),(10,false),(11,true)],[12,2000002],[0,0,0,0,0,16,0,124,255,0,512,2047,4095],true⟩),(37,⟨[(0,false),(1,false),(2,true),(3,false),(4,false),(5,true),(6,true),(7,false)],[8,1000005,2000002],[0,0,0,4,12,0,0,127,255],true⟩),(40,⟨[(0,false),(1,false),(2,true),(3,false),(4,false),(5,true),(6,false),(7,true),(8,true),(9,true),(10,true),(11,false),(12,true),(13,false)],[14,2000002],[0,0,0,4,14,0,32,96,0,0,0,1024,3072,8191,16383],true⟩),(51,⟨[(0,false),(1,false),(2,false),(3,false),(4,true),(5,false),(6,true),(7,false)],[8,2000002],[0,0,0,0,0,30,0,127,255],true⟩),(61,⟨[(4,false),(5,true),(6,false),(7,true),(8,false),(0,false),(1,true),(2,true),(3,false),(9,false),(10,true),(11,true),(12,true),(13,true),(14,true)],[2000002],[0,1,3,7,0,0,32,0,240,511,1023,2047,2047,4095,16383],false⟩)],[]⟩
theorem Bc.ok:AG Dop.D4 prog 194 Bc.p=true:=by kernel_rfl
def K9.p:Ai:=⟨[],2,⟨[.al 0 0,.st 5,.fd (.int .i64)],[CK.b0,CT.b1]⟩,⟨[.st 10],[CK.b0,CT.b1]⟩,false,[(10,⟨[(0,true),(1,false),(2,false),(3,true),(4,true),(5,false),(6,false),(7,true)],[8,1000000],[0,0,3,0,0,16,63,127,255],true⟩),(14,⟨[(0,true),(1,false),(2,true),(3,true),(4,false),(5,false),(6,true)],[7,1000000],[0,1,0,0,8,28,63,127],false⟩),(23,⟨[(0,true),(1,true),(2,true),(3,false),(4,false),(5,true),(6,true),(7,false),(8,true),(9,false),(10,false),(11,true)],[12,1000000],[0,0,0,4,15,0,0,64,0,256,1023,2047,4095],false⟩)],[]⟩
theorem K9.ok:AG Dop.D4 prog 218 K9.p=true:=by kernel_rfl
def CZ.p:Ai:=⟨[],2,⟨[.al 0 0,.fd (.int .i64)],[CK.b0,CT.b1]⟩,⟨[.st 10],[CK.b0,CT.b1]⟩,false,[(2,⟨[(0,true),(1,true),(2,true),(3,false),(4,true),(5,true),(6,true),(7,true),(8,true),(9,false),(10,true),(11,false),(12,false),(13,true),(14,true)],[2000000],[0,1,3,7,15,31,63,127,255,511,63,1087,4095,8191,16383],false⟩)],[]⟩
theorem CZ.ok:AG Dop.D4 prog 167 CZ.p=true:=by kernel_rfl
abbrev Af.q6:Cut:=⟨[[0,0,0,1,1,1,1],[0,1,0,1,1,1,1],[0,1,1,1,1,1]],[0,2,3,4,5,7,12,13,14],7,⟨[.al 0 0,.fd .str,.fn 222 [(2,0),(3,0)],.fd (.int .i64),.fd .bool,.al 4 0,.al 5 0,.fd (.int .i64),.al 6 0],[CK.b0,CT.b1,⟨2,126,[.al 0 0],false⟩,⟨3,56,[.st 5],false⟩,⟨4,174,[.st 10],false⟩,⟨5,174,[.st 10],false⟩,⟨6,174,[.st 10],false⟩]⟩⟩
def Af.p:Ai:=⟨[(6,Af.q6)],4,⟨[.al 0 0,.st 10,.fd .str,.fn 222 [(2,0),(3,0)],.fd (.int .i64),.fd .bool],[CK.b0,CT.b1,⟨2,126,[.al 0 0],false⟩,⟨3,56,[.st 5],false⟩]⟩,⟨[.st 10],[CK.b0,CT.b1,⟨2,126,[.al 0 0],false⟩,⟨3,56,[.st 5],false⟩]⟩,false,[(1,⟨[(0,true),(1,true),(2,true),(3,false),(4,true),(5,true),(6,true),(7,false),(8,true),(9,true),(10,true),(11,true),(12,true),(13,true),(14,false),(15,true),(16,false),(17,false),(18,true),(19,true)],[2000000],[0,1,3,7,15,31,63,127,255,511,1023,2047,4095,8191,16383,2047,34815,131071,262143,524287],false⟩),(7,⟨[(0,true),(1,true),(2,false),(3,true),(4,false),(5,true),(6,false),(7,false)],[8,1000000,1000003],[0,0,0,0,8,0,63,0,255],true⟩),(8,⟨[(0,true),(1,true),(2,true),(3,false),(4,true),(5,false),(6,true),(7,false),(8,true),(9,true),(10,true),(11,false),(12,false),(13,true),(14,true),(15,true),(16,false),(17,false),(18,true),(19,false),(20,false),(21,false),(22,true),(23,false),(24,true)],[25,1000000],[0,0,0,0,0,0,0,64,0,0,0,1024,3584,7680,15872,15872,48640,130560,261632,524272,1048572,2097151,0,4194304,16777215,33554431],true⟩),(11,⟨[(0,true),(1,true),(2,true),(3,true),(4,false),(5,true),(6,false),(7,true),(8,true),(9,false),(10,true),(11,false),(12,false)],[13,1000000,1000003],[0,0,0,0,12,0,32,124,0,284,0,2047,0,8191],true⟩),(12,⟨[(0,true),(1,false),(2,true),(3,false),(4,true),(5,false),(6,true),(7,true),(8,true),(9,false),(10,false),(11,true),(12,true),(13,true),(14,false),(15,false),(16,true),(17,false),(18,false),(19,true)],[1000000],[0,0,0,0,0,16,0,0,0,256,896,1920,3968,3968,12160,32640,65408,131068,262143,524287],true⟩),(13,⟨[(0,true),(1,true),(2,true),(3,true),(4,true),(5,true),(6,true),(7,true),(8,false),(9,false),(10,false),(11,false),(12,true),(13,false),(14,true)],[15,1000000],[0,0,0,0,0,0,0,0,192,496,1020,2047,0,4096,16383,32767],false⟩)],[]⟩
theorem Af.ok:AG Dop.D4 prog 220 Af.p=true:=by kernel_rfl
def KQ.p:Ai:=⟨[],4,⟨[.al 0 0,.al 3 0],[⟨0,126,[.al 1 0],false⟩,CK.b1,CT.b2,⟨3,56,[.st 5],false⟩]⟩,⟨[.st 10],[⟨0,126,[.al 1 0],false⟩,CK.b1,CT.b2,⟨3,56,[.st 5],false⟩]⟩,false,[],[]⟩
theorem KQ.ok:AG Dop.D4 prog 222 KQ.p=true:=by kernel_rfl
def LB.p:Ai:=⟨[],2,⟨[.al 0 0,.st 5,.fd (.int .i64)],[CK.b0,CT.b1]⟩,⟨[.st 10],[CK.b0,CT.b1]⟩,false,[(6,⟨[(0,true),(1,true),(2,true),(3,false),(4,true),(5,false),(6,true),(7,false),(8,false),(9,true),(10,true),(11,true),(12,true),(13,true),(14,true),(15,true)],[2000000],[0,1,3,7,0,16,0,64,255,511,1023,1023,1023,2047,12287,32767],false⟩),(9,⟨[(0,true),(1,true),(2,true),(3,false),(4,true),(5,true),(6,false),(7,false),(8,true),(9,false)],[10,1000000],[0,0,0,4,0,0,48,126,0,511,1023],false⟩)],[]⟩
theorem LB.ok:AG Dop.D4 prog 226 LB.p=true:=by kernel_rfl
abbrev Dy.q9:Cut:=⟨[[0,0,0,0,1,0,1,1,1,1,1,1],[0,1,0,0,1,0,1,1,1,1,1,1],[2,0,0,1,0,1,1,1,1,1,1],[1,0],[0,1,1,1,1,1,1,1]],[0,4,6,7,10,45,46,47],5,⟨[.al 0 0,.al 2 0,.al 3 0,.al 4 0,.own 0 3,.own 0 3,.fd (.int .i64),.fd (.int .i64)],[CK.b0,CT.b1,⟨2,56,[.st 5],false⟩,⟨3,174,[.st 10],false⟩,⟨4,140,[.st 15],false⟩]⟩⟩
def Dy.p:Ai:=⟨[(9,Dy.q9)],2,⟨[.al 0 0,.st 5,.fd (.int .i64)],[CK.b0,CT.b1]⟩,⟨[.st 10],[CK.b0,CT.b1]⟩,false,[(1,⟨[(0,true),(1,true),(2,true),(3,false),(4,true),(5,false),(6,false),(7,true),(8,true),(9,true),(10,false)],[11,12],[0,1,3,7,0,16,63,127,255,255,0,1535,4095],false⟩),(4,⟨[(0,true),(1,true),(2,true),(3,false),(4,true),(5,false),(6,false),(7,true)],[],[0,1,3,7,0,16,63,127],true⟩),(12,⟨[(0,true),(1,true),(2,false),(3,true),(4,false),(5,true),(6,false),(7,false),(8,true),(9,false),(10,false),(11,false),(12,true)],[1000000],[0,0,0,0,8,0,56,120,0,510,1022,2047,4095],true⟩),(14,⟨[(0,true),(1,true),(2,true),(3,false),(4,true),(5,false),(6,false),(7,true),(8,false),(9,true)],[10,1000000,9000000],[0,0,0,6,0,16,63,0,128,511,1023],true⟩)],[]⟩
theorem Dy.ok:AG Dop.D4 prog 227 Dy.p=true:=by kernel_rfl
abbrev BS.T:Type:=(((Unit×Int×Unit)×(CK×CT×Unit))->Option ((Dop.Ae×Unit)×(CK×CT×Unit)))×(((Unit×Dop.AR×Int×Unit)×(CK×CT×Unit))->Option ((Dop.Ae×Unit)×(CK×CT×Unit)))×(((Unit×Int×Unit)×(CK×CT×Unit))->Option ((Dop.Ae×Unit)×(CK×CT×Unit)))×(((Unit×Dop.Ae×List UInt8×Unit×Int×Bool×Unit)×(CK×CT×(Unit×Unit)×(Dop.AR×Unit)×Unit))->Option ((Dop.Ae×Unit)×(CK×CT×(Unit×Unit)×(Dop.AR×Unit)×Unit)))×(((Unit×Unit×Unit)×((Unit×Unit)×CK×CT×(Dop.AR×Unit)×Unit))->Option ((Dop.Ae×Unit)×((Unit×Unit)×CK×CT×(Dop.AR×Unit)×Unit)))×(((Unit×Dop.AR×Int×Unit)×(CK×CT×Unit))->Option ((Dop.Ae×Unit)×(CK×CT×Unit)))×(((Unit×Dop.AR×Int×Unit)×(CK×CT×Unit))->Option ((Dop.Ae×Unit)×(CK×CT×Unit)))×Unit
end Go.Proofs.Tryz
/- Functions of the seat, lifted: plan, model, contract, equations. Written by a program (Lift) that ran the layer's evaluation; Lean checks each line. -/
set_option maxRecDepth 100000
set_option maxHeartbeats 4000000
namespace Go.Proofs.Tryz
open Go Go.En
def C0.p:Ai:=⟨[],5,⟨[.al 0 0,.fd (.int .i64)],[⟨0,135,[.st 7,.al 1 0,.own 0 3,.own 11 52,.own 12 32,.st 0,.own 5 56,.mr (.str) 9 true 129,.mp (.str) 15 true,.rm 2,.st 11,.st 0,.rm 3,.rm 4,.st 0,.mr (.int .i64) 0 false 217,.st 0,.fd (.int .i64),.st 0],false⟩,CT.b1]⟩,⟨[.st 5],[⟨0,135,[.fd (.sl 5),.fd (.sl 6),.fd (.int .i64),.al 1 0,.own 0 3,.own 11 52,.own 12 32,.fd (.int .i64),.own 5 56,.mr (.str) 9 true 129,.mp (.str) 15 true,.rm 2,.fd .str,.fd (.int .i64),.fd (.int .i64),.fd (.int .i64),.fd (.int .i64),.fd (.int .i64),.rm 3,.rm 4,.fd (.int .i64),.mr (.int .i64) 0 false 217,.fd (.int .i64),.fd (.int .i64),.fd (.int .i64)],false⟩,CT.b1]⟩,false,[],[]⟩
noncomputable def C0.E:Env Dop.D4:=BC prog 74 tb [] C0.p
theorem C0.ok:AG Dop.D4 prog 74 C0.p=true:=by kernel_rfl
noncomputable def C0.c:CC Dop.D4:=⟨74,C0.p.bn,C0.p.sp,C0.p.rs,C0.p.flat,.opt (C0.E.run 3000 C0.p.sp)⟩
theorem C0.holds:C0.c.Holds prog:=E4 3000 AH CJ C0.ok
noncomputable def C0 (n:Int) (b0_0:Dop.Fy) (b0_2:List Int) (b0_3:List (Dop.DR)) (b0_4:List (Dop.Ni)) (b0_5:Int) (b0_6:List Dop.AR) (b0_7:List (List (List UInt8×Dop.B6))) (b0_8:List (List UInt8×Dop.Of)) (b0_10:Dop.DR) (b0_11:Int) (b0_14:Int) (b0_15:List (List (Int×Int))) (b0_16:Int) (b0_17:Int) (b0_18:Int) (k1:CT):Option ((Dop.AR×Unit)×((List Dop.AR×List Dop.HN×Int×Unit×List Int×List (Dop.DR)×List (Dop.Ni)×Int×List Dop.AR×List (List (List UInt8×Dop.B6))×List (List UInt8×Dop.Of)×Unit×List UInt8×Int×Int×Int×Int×Int×Unit×Unit×Int×List (List (Int×Int))×Int×Int×Int×Unit)×CT×Unit)):=C0.E.run 3000 C0.p.sp (((),n,()),((b0_0,(),b0_2,b0_3,b0_4,b0_5,b0_6,b0_7,b0_8,(),b0_10,b0_11,(),(),b0_14,b0_15,b0_16,b0_17,b0_18,()),k1,()))
theorem ZS (n:Int) (b0_0:Dop.Fy) (b0_2:List Int) (b0_3:List (Dop.DR)) (b0_4:List (Dop.Ni)) (b0_5:Int) (b0_6:List Dop.AR) (b0_7:List (List (List UInt8×Dop.B6))) (b0_8:List (List UInt8×Dop.Of)) (b0_10:Dop.DR) (b0_11:Int) (b0_14:Int) (b0_15:List (List (Int×Int))) (b0_16:Int) (b0_17:Int) (b0_18:Int) (k1:CT):C0 n b0_0 b0_2 b0_3 b0_4 b0_5 b0_6 b0_7 b0_8 b0_10 b0_11 b0_14 b0_15 b0_16 b0_17 b0_18 k1=
 if (decide (n<(0:Int)))=true then
  some ((Dop.AR.mk (0:Int) (-1:Int) (-1:Int) (-1:Int) (-1:Int) (@List.nil UInt8) (0:Int) (0:Int) (0:Int),()),((b0_0.nodes,(b0_0.types,(b0_0.top,((),(b0_2,(b0_3,(b0_4,(b0_5,(b0_6,(b0_7,(b0_8,((),(b0_10.name,(b0_10.params,(b0_10.Al,(b0_10.frame,(b0_10.body,(b0_11,((),((),(b0_14,(b0_15,(b0_16,(b0_17,(b0_18,()))))))))))))))))))))))))),(k1,())))
 else
  if (decide (I b0_0.nodes.length<=n))=true then
  some ((Dop.AR.mk (0:Int) (-1:Int) (-1:Int) (-1:Int) (-1:Int) (@List.nil UInt8) (0:Int) (0:Int) (0:Int),()),((b0_0.nodes,(b0_0.types,(b0_0.top,((),(b0_2,(b0_3,(b0_4,(b0_5,(b0_6,(b0_7,(b0_8,((),(b0_10.name,(b0_10.params,(b0_10.Al,(b0_10.frame,(b0_10.body,(b0_11,((),((),(b0_14,(b0_15,(b0_16,(b0_17,(b0_18,()))))))))))))))))))))))))),(k1,())))
  else
  if (decide ((0:Int)<=n/\n<I b0_0.nodes.length))=true then
  some ((@List.getD Dop.AR b0_0.nodes n.toNat Dop.d5,()),((b0_0.nodes,(b0_0.types,(b0_0.top,((),(b0_2,(b0_3,(b0_4,(b0_5,(b0_6,(b0_7,(b0_8,((),(b0_10.name,(b0_10.params,(b0_10.Al,(b0_10.frame,(b0_10.body,(b0_11,((),((),(b0_14,(b0_15,(b0_16,(b0_17,(b0_18,()))))))))))))))))))))))))),(k1,())))
  else none:=by kernel_rfl
end Go.Proofs.Tryz
/- Functions of the seat, lifted: plan, model, contract, equations. Written by a program (Lift) that ran the layer's evaluation; Lean checks each line. -/
set_option maxRecDepth 100000
set_option maxHeartbeats 4000000
namespace Go.Proofs.Tryz
open Go Go.En
def Gz.p:Ai:=⟨[],3,⟨[.al 0 0,.fd (.int .i64)],[⟨0,135,[.st 7,.al 1 0,.own 0 3,.own 11 52,.own 12 32,.st 0,.own 5 56,.rw 2,.mp (.str) 15 true,.mp (.str) 0 false,.st 11,.st 0,.mp (.str) 0 false,.mp (.str) 0 false,.st 0,.mr (.int .i64) 0 false 217,.st 0,.fd (.int .i64),.st 0],false⟩,CT.b1,⟨2,130,[.mr (.str) 9 true 129],true⟩]⟩,⟨[.st 5],[⟨0,135,[.fd (.sl 5),.fd (.sl 6),.fd (.int .i64),.al 1 0,.own 0 3,.own 11 52,.own 12 32,.fd (.int .i64),.own 5 56,.rw 2,.mp (.str) 15 true,.mp (.str) 0 false,.fd .str,.fd (.int .i64),.fd (.int .i64),.fd (.int .i64),.fd (.int .i64),.fd (.int .i64),.mp (.str) 0 false,.mp (.str) 0 false,.fd (.int .i64),.mr (.int .i64) 0 false 217,.fd (.int .i64),.fd (.int .i64),.fd (.int .i64)],false⟩,CT.b1,⟨2,0,[.mr (.str) 9 true 129],true⟩]⟩,false,[],[]⟩
theorem Gz.ok:AG Dop.D4 prog 74 Gz.p=true:=by kernel_rfl
end Go.Proofs.Tryz
/- Functions of the seat, lifted: plan, model, contract, equations. Written by a program (Lift) that ran the layer's evaluation; Lean checks each line. -/
set_option maxRecDepth 100000
set_option maxHeartbeats 4000000
namespace Go.Proofs.Tryz
open Go Go.En
def Mq.p:Ai:=⟨[],0,⟨[.fd (.sl 16)],[]⟩,⟨[.own 16 171],[]⟩,true,[],[]⟩
theorem Mq.ok:AG Dop.D4 prog 162 Mq.p=true:=by kernel_rfl
abbrev DX.q7:Cut:=⟨[[0,0,0,0,1,0,1,1,1,1],[0,1,0,0,1,0,1,1,1,1],[2,0,0,1,0,1,1,1,1],[1,0],[0,1,1,1,1,1]],[0,1,2,10,11,38,39,40],1,⟨[.al 0 0,.fd .str,.fd (.sl 16),.fd .bool,.mp (.str) 0 false,.fd (.sl 16),.fd (.int .i64),.fd (.int .i64)],[CT.b0]⟩⟩
abbrev DX.aX:Cut:=⟨[[0,0,0,0,1,0,1,1,1,1,1,1,1],[0,1,0,0,1,0,1,1,1,1,1,1,1],[2,0,0,1,0,1,1,1,1,1,1,1],[1,2],[0,1,1,1,1,1,1,1,1]],[0,1,2,14,64,65,66],1,⟨[.al 0 0,.fd .str,.fd (.sl 16),.fd (.int .i64),.fd (.sl 16),.fd (.int .i64),.fd (.int .i64)],[CT.b0]⟩⟩
def DX.p:Ai:=⟨[(7,DX.q7),(16,DX.aX)],1,⟨[.al 0 0,.fd .str,.fd (.sl 16)],[CT.b0]⟩,⟨[.fd (.int .i64)],[CT.b0]⟩,false,[(27,⟨[(0,true),(1,true),(2,true),(3,false),(4,true),(5,true),(6,false)],[7],[0,1,3,7,0,0,32,127],false⟩)],[]⟩
theorem DX.ok:AG Dop.D4 prog 122 DX.p=true:=by kernel_rfl
end Go.Proofs.Tryz
/- Functions of the seat, lifted: plan, model, contract, equations. Written by a program (Lift) that ran the layer's evaluation; Lean checks each line. -/
set_option maxRecDepth 100000
set_option maxHeartbeats 4000000
namespace Go.Proofs.Tryz
open Go Go.En
abbrev Ci.q4:Cut:=⟨[[0,0,0,0,1,1,1],[0,1,0,0,1,1,1],[2,0,0,1,1,1],[1,0]],[0,45,46],2,⟨[.al 0 0,.st 8,.fd (.int .i64)],[CK.b0,CT.b1]⟩⟩
def Ci.p:Ai:=⟨[(4,Ci.q4)],2,⟨[.al 0 0,.fd (.int .i64)],[CK.b0,CT.b1]⟩,⟨[],[CK.b0,CT.b1]⟩,false,[(2,⟨[(0,true),(1,true),(2,true),(4,true),(5,true),(6,false),(7,false),(8,true),(3,false),(9,false),(10,true)],[11,1000000],[0,1,3,7,0,0,32,112,240,511,1023,2047],false⟩)],[]⟩
theorem Ci.ok:AG Dop.D4 prog 129 Ci.p=true:=by kernel_rfl
abbrev F4.T:Type:=(((Unit×Int×Unit)×(CK×CT×Unit))->Option (Unit×(CK×CT×Unit)))×Unit
end Go.Proofs.Tryz
/- Functions of the seat, lifted: plan, model, contract, equations. Written by a program (Lift) that ran the layer's evaluation; Lean checks each line. -/
set_option maxRecDepth 100000
set_option maxHeartbeats 4000000
namespace Go.Proofs.Tryz
open Go Go.En
def IG.p:Ai:=⟨[],2,⟨[.al 0 0,.fd .str,.fd (.int .i64),.fd (.int .i64),.fd .bool],[CK.b0,CT.b1]⟩,⟨[.st 9,.fd .bool],[CK.b0,CT.b1]⟩,false,[(2,⟨[(0,true),(1,true),(2,true),(3,false),(4,true),(5,true),(6,true),(7,false),(8,false),(9,true),(10,false),(11,false),(12,true)],[],[0,1,3,7,0,16,48,112,240,496,1023,2047,4095],false⟩),(13,⟨[(0,true),(1,true),(2,true),(3,true),(4,false),(5,true),(6,false),(7,true)],[8,1000017],[0,1,3,7,15,0,32,127,255],false⟩),(18,⟨[(0,false),(1,true),(2,true),(3,true),(4,false),(5,true),(6,false),(7,true)],[1000010],[0,0,2,6,14,30,1,127],false⟩)],[(123,[]),(164,[])]⟩
theorem IG.ok:AG Dop.D4 prog 130 IG.p=true:=by kernel_rfl
end Go.Proofs.Tryz
/- What the checker holds in its first phase (three maps are nil). Written by a program. -/
namespace Go.Proofs
open Go Go.En
abbrev CH:Type:=En.Dop.Fy×Unit×List (Int)×List (En.Dop.DR)×List (En.Dop.Ni)×Int×List (En.Dop.AR)×List (List (List UInt8×En.Dop.B6))×List (List UInt8×En.Dop.Of)×Unit×En.Dop.DR×Int×Unit×Unit×Int×List (List (Int×Int))×Int×Int×Int×Unit
abbrev CH.t (k:CH):En.Dop.Fy:=k.1
abbrev CH.num (k:CH):List (Int):=k.2.2.1
abbrev CH.NU (k:CH) (v:List (Int)):CH:=(k.1,k.2.1,v,k.2.2.2)
abbrev CH.funcs (k:CH):List (En.Dop.DR):=k.2.2.2.1
abbrev CH.globals (k:CH):List (En.Dop.Ni):=k.2.2.2.2.1
abbrev CH.FL (k:CH) (v:List (En.Dop.Ni)):CH:=(k.1,k.2.1,k.2.2.1,k.2.2.2.1,v,k.2.2.2.2.2)
abbrev CH.top (k:CH):Int:=k.2.2.2.2.2.1
abbrev CH.OT (k:CH) (v:Int):CH:=(k.1,k.2.1,k.2.2.1,k.2.2.2.1,k.2.2.2.2.1,v,k.2.2.2.2.2.2)
abbrev CH.nodes (k:CH):List (En.Dop.AR):=k.2.2.2.2.2.2.1
abbrev CH.names (k:CH):List (List (List UInt8×En.Dop.B6)):=k.2.2.2.2.2.2.2.1
abbrev CH.B8 (k:CH) (v:List (List (List UInt8×En.Dop.B6))):CH:=(k.1,k.2.1,k.2.2.1,k.2.2.2.1,k.2.2.2.2.1,k.2.2.2.2.2.1,k.2.2.2.2.2.2.1,v,k.2.2.2.2.2.2.2.2)
abbrev CH.sigs (k:CH):List (List UInt8×En.Dop.Of):=k.2.2.2.2.2.2.2.2.1
abbrev CH.I6 (k:CH) (v:List (List UInt8×En.Dop.Of)):CH:=(k.1,k.2.1,k.2.2.1,k.2.2.2.1,k.2.2.2.2.1,k.2.2.2.2.2.1,k.2.2.2.2.2.2.1,k.2.2.2.2.2.2.2.1,v,k.2.2.2.2.2.2.2.2.2)
abbrev CH.loops (k:CH):Int:=k.2.2.2.2.2.2.2.2.2.2.2.2.2.2.1
abbrev CH.BE (k:CH):List (List (Int×Int)):=k.2.2.2.2.2.2.2.2.2.2.2.2.2.2.2.1
abbrev CH.Gh (k:CH):Int:=k.2.2.2.2.2.2.2.2.2.2.2.2.2.2.2.2.1
abbrev CH.e (k:CH):Int:=k.2.2.2.2.2.2.2.2.2.2.2.2.2.2.2.2.2.1
abbrev CH.X8 (k:CH) (v:Int):CH:=(k.1,k.2.1,k.2.2.1,k.2.2.2.1,k.2.2.2.2.1,k.2.2.2.2.2.1,k.2.2.2.2.2.2.1,k.2.2.2.2.2.2.2.1,k.2.2.2.2.2.2.2.2.1,k.2.2.2.2.2.2.2.2.2.1,k.2.2.2.2.2.2.2.2.2.2.1,k.2.2.2.2.2.2.2.2.2.2.2.1,k.2.2.2.2.2.2.2.2.2.2.2.2.1,k.2.2.2.2.2.2.2.2.2.2.2.2.2.1,k.2.2.2.2.2.2.2.2.2.2.2.2.2.2.1,k.2.2.2.2.2.2.2.2.2.2.2.2.2.2.2.1,k.2.2.2.2.2.2.2.2.2.2.2.2.2.2.2.2.1,v,k.2.2.2.2.2.2.2.2.2.2.2.2.2.2.2.2.2.2)
abbrev CH.when (k:CH):Int:=k.2.2.2.2.2.2.2.2.2.2.2.2.2.2.2.2.2.2.1
abbrev CH.FY (k:CH) (v:Int):CH:=(k.1,k.2.1,k.2.2.1,k.2.2.2.1,k.2.2.2.2.1,k.2.2.2.2.2.1,k.2.2.2.2.2.2.1,k.2.2.2.2.2.2.2.1,k.2.2.2.2.2.2.2.2.1,k.2.2.2.2.2.2.2.2.2.1,k.2.2.2.2.2.2.2.2.2.2.1,k.2.2.2.2.2.2.2.2.2.2.2.1,k.2.2.2.2.2.2.2.2.2.2.2.2.1,k.2.2.2.2.2.2.2.2.2.2.2.2.2.1,k.2.2.2.2.2.2.2.2.2.2.2.2.2.2.1,k.2.2.2.2.2.2.2.2.2.2.2.2.2.2.2.1,k.2.2.2.2.2.2.2.2.2.2.2.2.2.2.2.2.1,k.2.2.2.2.2.2.2.2.2.2.2.2.2.2.2.2.2.1,v,k.2.2.2.2.2.2.2.2.2.2.2.2.2.2.2.2.2.2.2)
abbrev CH.b0:En.Ge:=⟨0,135,[.st 7,.al 1 0,.own 0 3,.own 11 52,.own 12 32,.st 0,.own 5 56,.mr (.str) 9 true 129,.mp (.str) 15 true,.hm,.st 11,.st 0,.hm,.hm,.st 0,.mr (.int .i64) 0 false 217,.st 0,.fd (.int .i64),.st 0],false⟩
abbrev CH.b1:En.Ge:=⟨1,135,[.st 7,.al 2 0,.own 0 3,.own 11 52,.own 12 32,.st 0,.own 5 56,.mr (.str) 9 true 129,.mp (.str) 15 true,.hm,.st 11,.st 0,.hm,.hm,.st 0,.mr (.int .i64) 0 false 217,.st 0,.fd (.int .i64),.st 0],false⟩
abbrev CH.b2:En.Ge:=⟨2,135,[.st 7,.al 3 0,.own 0 3,.own 11 52,.own 12 32,.st 0,.own 5 56,.mr (.str) 9 true 129,.mp (.str) 15 true,.hm,.st 11,.st 0,.hm,.hm,.st 0,.mr (.int .i64) 0 false 217,.st 0,.fd (.int .i64),.st 0],false⟩
end Go.Proofs
/- Functions of the seat, lifted: plan, model, contract, equations. Written by a program (Lift) that ran the layer's evaluation; Lean checks each line. -/
set_option maxRecDepth 100000
set_option maxHeartbeats 4000000
namespace Go.Proofs.Tryz
open Go Go.En
def Gy.p:Ai:=⟨[],2,⟨[.al 0 0,.fd (.int .i64)],[CH.b0,CT.b1]⟩,⟨[.st 5],[CH.b0,CT.b1]⟩,false,[],[]⟩
theorem Gy.ok:AG Dop.D4 prog 74 Gy.p=true:=by kernel_rfl
def Ce.p:Ai:=⟨[],2,⟨[.al 0 0,.fd (.int .i64),.fd (.int .i64)],[CH.b0,CT.b1]⟩,⟨[.st 10],[CH.b0,CT.b1]⟩,false,[],[]⟩
theorem Ce.ok:AG Dop.D4 prog 123 Ce.p=true:=by kernel_rfl
abbrev BU.q2:Cut:=⟨[[0,0,0,0,0,1,0,1],[0,1,0,0,0,1,0,1],[0,1,0,0,1,0,1],[2,0,0,1,0,1],[1,0],[0,1,1]],[0,1,2,7],2,⟨[.al 0 0,.fd (.int .i64),.fd (.int .i64),.fd (.int .i64)],[CH.b0,CT.b1]⟩⟩
abbrev BU.Xq:Cut:=⟨[[0,0,0,1,1,1,0,0,1,0,0,1,0,1],[0,1,0,1,1,1,0,0,1,0,0,1,0,1],[0,1,1,1,1,0,0,1,0,0,1,0,1],[1,1],[0,1,1,0,0,1,0,1],[2,0,0,1,0,1],[1,0],[0,1,1]],[0,1,2,7,9,10],2,⟨[.al 0 0,.fd (.int .i64),.fd (.int .i64),.fd (.int .i64),.fd (.int .i64),.fd (.int .i64)],[CH.b0,CT.b1]⟩⟩
def BU.p:Ai:=⟨[(2,BU.q2),(13,BU.Xq)],2,⟨[.al 0 0,.fd (.int .i64),.fd (.int .i64)],[CH.b0,CT.b1]⟩,⟨[.fd (.int .i64)],[CH.b0,CT.b1]⟩,false,[(8,⟨[(0,true),(1,true),(2,true),(3,false),(4,true),(5,true),(6,true),(7,false),(8,true),(9,false),(10,false),(11,false),(12,false),(13,true),(14,true),(15,true),(16,true),(17,true)],[2000000],[0,1,3,7,0,16,48,112,0,256,1008,2032,4095,8191,16383,16383,32767,131071],false⟩),(10,⟨[(0,true),(1,true),(2,true),(3,false),(4,true),(5,true),(6,true),(7,false),(8,true),(9,false),(10,false),(11,false),(12,true),(13,false),(14,false),(15,true),(16,true),(17,true),(18,true),(19,true)],[2000000],[0,1,3,7,0,16,48,112,0,256,1008,2032,0,4096,16383,32767,65535,65535,131071,524287],false⟩),(12,⟨[(0,true),(1,true),(2,true),(3,false),(4,true),(5,false),(6,false),(7,true),(8,true),(9,true),(10,true),(11,true)],[2000000],[0,1,3,7,0,16,63,127,255,255,511,2047],false⟩)],[]⟩
theorem BU.ok:AG Dop.D4 prog 121 BU.p=true:=by kernel_rfl
abbrev EN.q3:Cut:=⟨[[0,0,0,0,1,0,1,1],[0,1,0,0,1,0,1,1],[2,0,0,1,0,1,1],[1,0],[0,1,1,1]],[0,2,4,6,16,17,18],3,⟨[.al 0 0,.fd (.int .i64),.al 2 0,.own 16 171,.own 0 3,.fd (.int .i64),.fd (.int .i64)],[CH.b0,CT.b1,⟨2,56,[.st 5],false⟩]⟩⟩
def EN.p:Ai:=⟨[(3,EN.q3)],2,⟨[.al 0 0,.st 5,.fd (.int .i64)],[CH.b0,CT.b1]⟩,⟨[],[CH.b0,CT.b1]⟩,false,[(2,⟨[(0,true),(1,true),(2,true),(3,false),(4,true),(5,false),(6,false),(7,false),(8,true)],[],[0,1,3,7,0,16,63,127,0],true⟩),(8,⟨[(0,true),(1,true),(2,true),(3,false),(4,true),(5,false),(6,true),(7,false),(8,true)],[2000000,9000000],[0,1,3,7,0,16,0,127,255],true⟩)],[]⟩
theorem EN.ok:AG Dop.D4 prog 75 EN.p=true:=by kernel_rfl
def Fl.p:Ai:=⟨[],2,⟨[.al 0 0,.fd (.int .i64)],[CH.b0,CT.b1]⟩,⟨[.fd (.int .i64)],[CH.b0,CT.b1]⟩,false,[],[]⟩
theorem Fl.ok:AG Dop.D4 prog 127 Fl.p=true:=by kernel_rfl
def Hc.p:Ai:=⟨[],2,⟨[.al 0 0,.fd (.int .i64)],[CH.b0,CT.b1]⟩,⟨[.fd .bool],[CH.b0,CT.b1]⟩,false,[],[]⟩
theorem Hc.ok:AG Dop.D4 prog 125 Hc.p=true:=by kernel_rfl
abbrev EO.aW:Cut:=⟨[[0,0,1,1,1,1,1,1,1,1],[0,1,1,1,1,1,1,1,1,1]],[0,4,6,7,13],3,⟨[.al 0 0,.al 2 0,.fd (.int .i64),.fd (.int .i64),.fd (.int .i64)],[CH.b0,CT.b1,⟨2,56,[.st 5],false⟩]⟩⟩
def EO.p:Ai:=⟨[(15,EO.aW)],2,⟨[.al 0 0,.st 5,.fd (.int .i64)],[CH.b0,CT.b1]⟩,⟨[],[CH.b0,CT.b1]⟩,false,[(3,⟨[(0,true),(1,true),(2,true),(3,false),(4,false),(5,false),(6,true),(7,false),(8,false),(9,true),(10,true),(11,true),(12,false)],[13,14],[0,1,3,7,15,31,0,64,255,511,1023,1023,0,6143,16383],false⟩),(4,⟨[(0,true),(1,true),(2,true),(3,false),(4,true),(5,false),(6,false),(7,true),(8,true),(9,true),(10,false)],[11,12],[0,1,3,7,0,16,63,127,255,255,0,1535,4095],false⟩),(15,⟨[(0,true),(1,true),(2,true),(3,false),(4,false),(5,false),(6,true),(7,false),(8,true),(9,true),(10,true),(11,true),(12,false),(13,true),(14,true)],[15],[0,1,3,7,15,31,0,64,0,256,768,1792,3840,0,16128,32767],false⟩),(16,⟨[(0,true),(1,true),(2,true),(3,true),(4,true),(5,false),(6,true),(7,false),(8,true),(9,true),(10,true),(11,true),(12,false),(13,true),(14,true),(15,true),(16,false)],[17,18,19,20,21],[0,0,2,6,14,30,0,64,0,256,768,1792,3840,0,0,32704,65472,131070,262143,524287,1048575,2097151],false⟩)],[]⟩
theorem EO.ok:AG Dop.D4 prog 76 EO.p=true:=by kernel_rfl
abbrev DZ.q7:Cut:=⟨[[0,0,0,1,1,1,1,1,1],[0,1,0,1,1,1,1,1,1],[0,1,1,1,1,1,1,1]],[0,2,4,6,11],4,⟨[.al 0 0,.fd (.int .i64),.al 2 0,.al 3 0,.own 0 3],[CH.b0,CT.b1,⟨2,56,[.st 5],false⟩,⟨3,140,[.own 0 3,.fd (.int .i64)],false⟩]⟩⟩
abbrev DZ.UA:Cut:=⟨[[0,0,0,0,1,0,1,1,1,1,1,1,1],[0,1,0,0,1,0,1,1,1,1,1,1,1],[2,0,0,1,0,1,1,1,1,1,1,1],[1,0],[0,1,1,1,1,1,1,1,1]],[0,2,4,6,85,86,87],4,⟨[.al 0 0,.fd (.int .i64),.al 2 0,.al 3 0,.own 0 3,.fd (.int .i64),.fd (.int .i64)],[CH.b0,CT.b1,⟨2,56,[.st 5],false⟩,⟨3,140,[.own 0 3,.fd (.int .i64)],false⟩]⟩⟩
def DZ.p:Ai:=⟨[(7,DZ.q7),(10,DZ.UA)],2,⟨[.al 0 0,.st 5,.fd (.int .i64)],[CH.b0,CT.b1]⟩,⟨[],[CH.b0,CT.b1]⟩,false,[(2,⟨[(0,true),(1,true),(2,true),(3,false),(4,true),(5,false),(6,false),(7,true),(8,true),(9,true),(10,false)],[11,12],[0,1,3,7,0,16,63,127,255,255,0,1535,4095],false⟩),(3,⟨[(0,true),(1,true),(2,true),(3,false),(4,false),(5,false),(6,true),(7,false),(8,false),(9,true),(10,true),(11,true),(12,false)],[13,14],[0,1,3,7,15,31,0,64,255,511,1023,1023,0,6143,16383],false⟩),(4,⟨[(0,true),(1,true),(2,true),(3,false),(4,true),(5,false),(6,false),(7,true)],[],[0,1,3,7,0,16,63,127],true⟩),(17,⟨[(0,true),(1,true),(2,true),(3,false),(4,true),(5,true),(6,true),(7,false),(8,true),(9,true),(10,true),(11,true),(12,true),(13,true),(14,false),(15,true),(16,false),(17,false),(18,true),(19,true)],[2000000],[0,1,3,7,15,31,63,127,255,511,1023,2047,4095,8191,16383,2047,34815,131071,262143,524287],false⟩),(19,⟨[(0,true),(1,true),(2,true),(3,false),(4,true),(5,false),(6,false)],[7],[0,1,3,7,0,16,0,127],false⟩)],[]⟩
theorem DZ.ok:AG Dop.D4 prog 77 DZ.p=true:=by kernel_rfl
end Go.Proofs.Tryz
/- Functions of the seat, lifted: plan, model, contract, equations. Written by a program (Lift) that ran the layer's evaluation; Lean checks each line. -/
set_option maxRecDepth 100000
set_option maxHeartbeats 4000000
namespace Go.Proofs.Tryz
open Go Go.En
def Jc.p:Ai:=⟨[],2,⟨[.al 0 0,.fd (.int .i64)],[CK.b0,CT.b1]⟩,⟨[.fd (.int .i64)],[CK.b0,CT.b1]⟩,false,[],[]⟩
theorem Jc.ok:AG Dop.D4 prog 166 Jc.p=true:=by kernel_rfl
def Mr.p:Ai:=⟨[],2,⟨[.al 0 0,.st 5,.fd (.int .i64)],[CK.b0,CT.b1]⟩,⟨[.fd (.int .i64)],[CK.b0,CT.b1]⟩,false,[(6,⟨[(0,true),(1,true),(2,false),(3,true),(4,true),(5,true),(6,false),(7,true),(8,false),(9,false),(10,true)],[1000000],[0,0,0,0,8,24,56,0,254,511,1023],true⟩)],[]⟩
theorem Mr.ok:AG Dop.D4 prog 169 Mr.p=true:=by kernel_rfl
def Ms.p:Ai:=⟨[],2,⟨[.al 0 0,.st 5,.fd (.int .i64)],[CK.b0,CT.b1]⟩,⟨[.fd (.int .i64)],[CK.b0,CT.b1]⟩,false,[(17,⟨[(0,true),(1,true),(2,false),(3,true),(4,false),(5,true),(6,true),(7,false),(8,false),(9,false),(10,true)],[1000000],[0,0,0,0,0,0,0,120,254,511,1023],true⟩)],[]⟩
theorem Ms.ok:AG Dop.D4 prog 173 Ms.p=true:=by kernel_rfl
abbrev Bf.kU:Cut:=⟨[[0,0,0,0,1,1,1,1,1,1,1,1,1,1,1,0,1,0,1,1,1],[0,1,0,0,1,1,1,1,1,1,1,1,1,1,1,0,1,0,1,1,1],[0,1,0,1,1,1,1,1,1,1,1,1,1,1,0,1,0,1,1,1],[1,0],[0,1,1,1,1]],[1,2,5],4,⟨[.fd (.int .i64),.al 2 0,.al 3 0],[CK.b0,CT.b1,⟨2,126,[.al 0 0],false⟩,⟨3,56,[.st 5],false⟩]⟩⟩
abbrev Bf.kW:Cut:=⟨[[0,0,1,1,1,1,1,1,1,1,1,1,1,1,0,1,0,1,1,1],[0,1,1,1,1,1,1,1,1,1,1,1,1,1,0,1,0,1,1,1],[1,0],[0,1,1,1,1]],[1,2,5,27],4,⟨[.fd (.int .i64),.al 2 0,.al 3 0,.fd (.int .i64)],[CK.b0,CT.b1,⟨2,126,[.al 0 0],false⟩,⟨3,56,[.st 5],false⟩]⟩⟩
def Bf.p:Ai:=⟨[(27,Bf.kU),(30,Bf.kW)],2,⟨[.al 0 0,.fd (.int .i64)],[CK.b0,CT.b1]⟩,⟨[.fd (.int .i64)],[CK.b0,CT.b1]⟩,false,[(6,⟨[(0,false),(1,false),(2,true),(3,false),(4,false),(5,false),(6,true)],[2000002],[0,0,0,4,14,31,63],false⟩),(15,⟨[(0,false),(1,true),(2,false),(3,true),(4,false),(5,false),(6,false),(7,true)],[2000002],[0,0,0,0,8,28,63,127],false⟩),(18,⟨[(0,false),(1,false),(2,true),(3,false),(4,false),(5,true),(6,true),(7,false),(8,true)],[2000002],[0,0,0,4,14,30,0,127,255],false⟩),(24,⟨[(0,false),(1,true),(2,true),(3,true),(4,false),(5,true),(6,false),(7,false),(8,false),(9,true)],[2000002],[0,0,0,0,0,0,32,112,255,511],false⟩),(33,⟨[(0,false),(1,true),(2,true),(3,false),(4,true),(5,false),(6,false),(7,true),(8,true),(9,true),(10,true),(11,true)],[],[0,1,3,7,0,16,63,127,255,255,511,2047],false⟩),(35,⟨[(0,false),(1,true),(2,true),(3,false),(4,true),(5,false),(6,true)],[7],[0,1,3,7,0,16,0,127],false⟩),(38,⟨[(0,false),(1,true),(2,true),(3,false),(4,true),(5,false),(6,false),(7,true)],[8],[0,1,3,7,0,16,63,127,255],false⟩),(39,⟨[(0,false),(1,true),(2,true),(3,false),(4,true),(5,false),(6,false),(7,true)],[],[0,1,3,7,0,16,63,127],false⟩),(41,⟨[(0,false),(1,false),(2,true),(3,false),(4,false),(5,true),(6,false),(7,false),(8,true)],[2000002],[0,0,0,4,14,0,32,127,255],false⟩),(44,⟨[(0,false),(1,false),(2,true),(3,true),(4,false),(5,false),(6,false),(7,false),(8,true),(9,true)],[10,2000002],[0,0,2,6,14,0,32,126,255,511,1023],false⟩),(48,⟨[(0,false),(1,false),(2,true),(3,true),(4,false),(5,false),(6,true),(7,true),(8,false),(9,false),(10,true),(11,false),(12,true),(13,true)],[14,2000002],[0,0,2,6,14,0,32,96,224,480,992,2046,4095,8191,16383],false⟩)],[(171,[(3,⟨[(0,true),(1,true),(2,true),(3,true),(4,false),(5,true),(6,true),(7,true),(8,false),(9,false),(10,true)],[11,12,13,14],[0,0,2,6,14,0,32,96,224,480,992,2046,4095,8191,16383],false⟩)])]⟩
theorem Bf.ok:AG Dop.D4 prog 135 Bf.p=true:=by kernel_rfl
def Is.p:Ai:=⟨[],2,⟨[.al 0 0,.fd (.int .i64)],[CK.b0,CT.b1]⟩,⟨[.fd (.int .i64)],[CK.b0,CT.b1]⟩,false,[],[]⟩
theorem Is.ok:AG Dop.D4 prog 168 Is.p=true:=by kernel_rfl
def K5.p:Ai:=⟨[],2,⟨[.al 0 0,.st 5,.fd (.int .i64)],[CK.b0,CT.b1]⟩,⟨[.fd (.int .i64)],[CK.b0,CT.b1]⟩,false,[(6,⟨[(0,true),(1,true),(2,true),(3,false),(4,true),(5,true),(6,true),(7,false),(8,false),(9,true),(10,false),(11,false),(12,true)],[],[0,1,3,7,0,16,48,112,240,496,1023,2047,4095],false⟩),(12,⟨[(0,true),(1,true),(2,false),(3,true),(4,true),(5,false),(6,false),(7,true),(8,false),(9,true)],[1000000],[0,0,2,0,0,16,56,0,255,511],false⟩)],[]⟩
theorem K5.ok:AG Dop.D4 prog 170 K5.p=true:=by kernel_rfl
abbrev Dx.q3:Cut:=⟨[[0,0,0,0,1,0,1,1],[0,1,0,0,1,0,1,1],[2,0,0,1,0,1,1],[1,0],[0,1,1,1]],[0,3,12,13,14],4,⟨[.al 0 0,.own 0 3,.own 0 3,.fd (.int .i64),.fd (.int .i64)],[⟨0,126,[.al 1 0],false⟩,CK.b1,CT.b2,⟨3,56,[.st 5],false⟩]⟩⟩
def Dx.p:Ai:=⟨[(3,Dx.q3)],4,⟨[.al 0 0,.al 3 0],[⟨0,126,[.al 1 0],false⟩,CK.b1,CT.b2,⟨3,56,[.st 5],false⟩]⟩,⟨[.fd (.int .i64)],[⟨0,126,[.al 1 0],false⟩,CK.b1,CT.b2,⟨3,56,[.st 5],false⟩]⟩,false,[(2,⟨[(0,false),(1,true),(2,true),(3,false),(4,true),(5,false),(6,false),(7,false),(8,true)],[],[0,1,3,7,0,16,63,127,0],true⟩),(7,⟨[(0,false),(1,false),(2,true),(3,false),(4,false),(5,true)],[2000000,9000000],[0,0,0,6,15,31],true⟩)],[]⟩
theorem Dx.ok:AG Dop.D4 prog 172 Dx.p=true:=by kernel_rfl
abbrev Cs.T:Type:=(((Unit×Int×Unit)×(CK×CT×Unit))->Option ((Int×Unit)×(CK×CT×Unit)))×(((Unit×Int×Unit)×(CK×CT×Unit))->Option ((Int×Unit)×(CK×CT×Unit)))×(((Unit×Dop.AR×Int×Unit)×(CK×CT×Unit))->Option ((Int×Unit)×(CK×CT×Unit)))×(((Unit×Unit×Unit)×((Unit×Unit)×CK×CT×(Dop.AR×Unit)×Unit))->Option ((Int×Unit)×((Unit×Unit)×CK×CT×(Dop.AR×Unit)×Unit)))×Unit
end Go.Proofs.Tryz
/- Functions of the seat, lifted: plan, model, contract, equations. Written by a program (Lift) that ran the layer's evaluation; Lean checks each line. -/
set_option maxRecDepth 100000
set_option maxHeartbeats 4000000
namespace Go.Proofs.Tryz
open Go Go.En
abbrev D9.q9:Cut:=⟨[[0,0,0,0,1,0,1,1,1,1,1,1,1,1],[0,1,0,0,1,0,1,1,1,1,1,1,1,1],[2,0,0,1,0,1,1,1,1,1,1,1,1],[1,0],[0,1,1,1,1,1,1,1,1,1]],[0,4,6,89,90,91],3,⟨[.al 0 0,.al 2 0,.own 0 3,.own 0 3,.fd (.int .i64),.fd (.int .i64)],[CK.b0,CT.b1,⟨2,56,[.st 5],false⟩]⟩⟩
abbrev D9.Xr:Cut:=⟨[[0,0,1,1,1,1,1,1,1,1,1,1,1],[0,1,1,1,1,1,1,1,1,1,1,1,1]],[0,6,15],2,⟨[.al 0 0,.own 0 3,.fd (.int .i64)],[CK.b0,CT.b1]⟩⟩
abbrev D9.VO:Cut:=⟨[[0,1,1,1,1,1,1,1,1,1,1,1,1,1,1]],[0,6,15],2,⟨[.al 0 0,.own 0 3,.fd (.int .i64)],[CK.b0,CT.b1]⟩⟩
def D9.p:Ai:=⟨[(9,D9.q9),(24,D9.Xr),(32,D9.VO)],2,⟨[.al 0 0,.st 5,.fd (.int .i64)],[CH.b0,CT.b1]⟩,⟨[],[CK.b0,CT.b1]⟩,false,[(1,⟨[(0,true),(1,true),(2,true),(3,false),(4,true),(5,true),(6,true),(7,true),(8,false),(9,true),(10,false),(11,false),(12,true),(13,true),(14,true)],[15,16,17,18],[0,0,0,4,12,0,32,96,224,0,512,2016,4064,4093,12285,28669,65535,131071,262143],false⟩),(5,⟨[(0,true),(1,true),(2,true),(3,true),(4,false),(5,true),(6,false),(7,false),(8,true),(9,false),(10,true),(11,true),(12,true)],[13],[0,0,2,6,14,0,32,126,254,510,1023,2047,4095,8191],false⟩),(8,⟨[(0,true),(1,true),(2,true),(3,false),(4,true),(5,false),(6,false),(7,false),(8,true)],[],[0,1,3,7,0,16,63,127,0],true⟩),(12,⟨[(0,true),(1,true),(2,true),(3,false),(4,true),(5,false),(6,false),(7,true),(8,true),(9,false),(10,false),(11,true)],[],[0,1,3,7,0,16,63,127,0,511,1023,2047],false⟩),(13,⟨[(0,true),(1,true),(2,true),(3,false),(4,true),(5,false),(6,false),(7,true)],[],[0,1,3,7,0,16,63,127],false⟩),(14,⟨[(0,true),(1,true),(2,true),(3,false),(4,false),(5,false),(6,true),(7,false),(8,false),(9,true),(10,true),(11,true),(12,false)],[13,14],[0,1,3,7,15,31,0,64,255,511,1023,1023,0,6143,16383],false⟩),(17,⟨[(0,true),(1,true),(2,true),(3,false),(4,false),(5,false),(6,true),(7,false),(8,true),(9,true),(10,true)],[11],[0,1,3,7,15,31,0,64,0,0,768,2047],false⟩),(33,⟨[(0,true),(1,true),(2,true),(3,true),(4,true),(5,false),(6,true),(7,true),(8,true),(9,false),(10,false)],[11,12,13,14,15],[0,0,2,6,14,30,0,64,192,448,960,2046,4095,8191,16383,32767],false⟩)],[]⟩
theorem D9.ok:AG Dop.D4 prog 78 D9.p=true:=by kernel_rfl
end Go.Proofs.Tryz
