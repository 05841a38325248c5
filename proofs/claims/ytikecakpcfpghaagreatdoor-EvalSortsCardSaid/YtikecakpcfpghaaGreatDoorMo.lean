/- A function of which a part is gone through by hand: from one cut to another one (Jump). Its model, its equations, that it is a contract. -/
import Derived.Test.YtikecakpcfpghaaGreatDoorMh
import Derived.Test.YtikecakpcfpghaaGreatDoorMn
import Derived.Test.YtikecakpcfpghaaGreatDoorMm
namespace Go.En
open Go.RowKit
section
variable {S:Aq}
structure Jump (E:Env S) where
 c1:Nat
 c2:Nat
 q1:Cut
 q2:Cut
 h1:lk E.Cx c1=some q1
 h2:lk E.Cx c2=some q2
 g:q1.sp.D S->Option (q2.sp.D S)
def Jump.Ok (P:Program) {E:Env S} (J:Jump E):Prop:=
 ∀ (Q:Exit->Act->World->Prop) (w0:World) (F D0:Nat->Prop) (β0:Nat->Nm) (M:Nat) (x:J.q1.sp.D S) (y:J.q2.sp.D S),BS S w0 F D0->(∀ c a d v w,Q (.panic c) (a.put d v) w->Q (.panic c) a w)->J.g x=some y->Ic P Q w0 F D0 β0 M E J.q2 y->Ic P Q w0 F D0 β0 M E J.q1 x
def Env.H8 (E:Env S) (f0:Nat) (J:Jump E) (c:Nat) (x:E.ι c):Tr E.ι E.ρ:=
 if h:c=J.c1 then .IX (J.g (VD E J.c1 J.q1 J.h1 (h▸x))) fun y=>.cut J.c2 (DH E J.c2 J.q2 J.h2 y) else E.step f0 c x
noncomputable def Env.OF (E:Env S) (f0:Nat) (J:Jump E) (c:Nat) (x:E.ι c):Option E.ρ:=cD fun n=>DD (E.H8 f0 J) n c x
noncomputable def Env.Td (E:Env S) (f0:Nat) (J:Jump E) (sp:Spec) (x:sp.D S):Option (E.rs.D S):=(H6 E f0 sp x).eval (E.OF f0 J)
theorem RI {E:Env S} {step: ∀ c,E.ι c->Tr E.ι E.ρ} {c:Nat} {x:E.ι c}:(cD fun n=>DD step n c x)=(step c x).eval (fun c x=>cD fun n=>DD step n c x):=by
 apply Option.ext
 intro y
 rw [M6 (s:=fun n=>DD step n c x) (fun n y h=>IW n c _ y h),Tr.Ee]
 constructor
 ·rintro ⟨n,hn⟩
  cases n with
  | zero=>simp [DD] at hn
  | succ n=>simp only [DD] at hn;exact ⟨n,hn⟩
 ·rintro ⟨n,hn⟩
  exact ⟨n+1,by simp only [DD];exact hn⟩
theorem Env.Nz {E:Env S} {f0:Nat} {J:Jump E} (x:J.q1.sp.D S):E.H8 f0 J J.c1 (DH E J.c1 J.q1 J.h1 x)=.IX (J.g x) fun y=>.cut J.c2 (DH E J.c2 J.q2 J.h2 y):=by
 unfold Env.H8
 rw [dif_pos rfl]
 simp only [SA]
theorem Env.Ry {E:Env S} {f0 c:Nat} {J:Jump E} (hc:c≠J.c1) {q:Cut} (h:lk E.Cx c=some q) (x:q.sp.D S):E.H8 f0 J c (DH E c q h x)=H7 E f0 q x:=by
 unfold Env.H8
 rw [dif_neg hc,Env.step_mk]
theorem Env.Wq {E:Env S} {f0 c:Nat} {J:Jump E} (hc:c≠J.c1) {q:Cut} (h:lk E.Cx c=some q) (x:q.sp.D S) {m r:Option E.ρ} (hm:m=E.OF f0 J c (DH E c q h x)) (hr:(H7 E f0 q x).eval (E.OF f0 J)=r):m=r:=by
 rw [hm];unfold Env.OF;rw [RI,Env.Ry hc];exact hr
theorem Env.VV {E:Env S} {f0:Nat} {J:Jump E} (x:J.q1.sp.D S):E.OF f0 J J.c1 (DH E J.c1 J.q1 J.h1 x)=(J.g x).bind fun y=>E.OF f0 J J.c2 (DH E J.c2 J.q2 J.h2 y):=by
 unfold Env.OF;rw [RI,Env.Nz];rfl
variable {P:Program}
theorem Mu {E:Env S} (hE:E.Ok P) {J:Jump E} (hJ:J.Ok P) {f:FuncId} {fn:Func} {sp:Spec} (hf:P.funcs[f]?=some fn) (hb:fn.body=some E.body) (hn:fn.ntmps=E.sz) (hres:fn.results.toList=E.res) (hsz:sp.as.length<=E.sz) {f0:Nat}
  {n:Nat} {x:sp.D S} {y:E.rs.D S} (h:(H6 E f0 sp x).eval (DD (E.H8 f0 J) n)=some y) {flat:Bool} {w:World} {D:Nat->Prop} {β:Nat->Nm} {vs:List SV} {o:List (Nat×Own S)} {m:Nat} {out:Out (sp.D S) (E.rs.D S)} (he:sp.enc x E.bn=(vs,o,m)) (hg:GH w (AK o β) D D o (· <m) β w) (hon:BR (· <m) vs) (hiv:S.inv D w):
  Calls P f (AA β vs).toArray w (Dm ⟨f,E.bn,sp,E.rs,flat,out⟩ y w D β o):=by
 have hkp:BS S w (AK o β) D:=⟨hiv,fun k hk=>⟨hg.C0 k hk,fun ⟨i,b,hi,hik⟩=>hg.off i b k hi hik hk⟩⟩
 have hr: ∀ y',y'=y->QY w (AK o β) D E β (Dm ⟨f,E.bn,sp,E.rs,flat,out⟩ y w D β o) y':=by
  rintro y' rfl D' β' w' ws o' n' he' hβ hgh hon' hn'
  exact ⟨D',β',ws,o',n',he',rfl,hβ,hgh,hon',hn'⟩
 have key: ∀ n k q (h:lk E.Cx k=some q) (x:q.sp.D S),DD (E.H8 f0 J) n k (DH E k q h x)=some y->Ic P (bodyPost P fn (Dm ⟨f,E.bn,sp,E.rs,flat,out⟩ y w D β o)) w (AK o β) D β (n*f0) E q x:=by
  intro n
  induction n with
  | zero=>intro k q h x hx;simp [DD] at hx
  | succ n ih=>
   intro k q h x hx
   by_cases hk1:k=J.c1
   ·subst hk1
    have hq:q=J.q1:=by have:=J.h1;rw [h] at this;cases this;rfl
    subst hq
    simp only [DD] at hx
    rw [Env.Nz] at hx
    simp only [Tr.eval] at hx
    obtain ⟨z,hz,hx⟩:=Option.bind_eq_some_iff.1 hx
    have:=hJ _ _ _ _ _ _ x z hkp QJ hz (ih J.c2 J.q2 J.h2 z hx)
    intro ks ws o' n' hk hq
    exact VC.more (by rw [Nat.succ_mul];omega) (this ks ws o' n' hk hq)
   intro ks ws o' n' hk hq
   simp only [DD] at hx
   rw [Env.Ry hk1] at hx
   obtain ⟨_,h3,_,_⟩:=hE.Cx k q h
   have h2:=Tr.BE hx
   unfold H7 at h2
   rw [hk] at h2
   simp only [hq] at h2
   have:=AQ hE (Kc:=fun c x=>DD (E.H8 f0 J) n c x=some y) (Kr:=(· =y)) f0 (fr:=⟨true,E.dr⟩) (Z5 hkp hE hres hr (fun c q' h' x' GO=>ih c q' h' x' GO)) true ks ⟨q.ts.zip ws,o',n',E.sz⟩ (Nat.le_trans h3 (Spec.PF hq)) rfl (Ko hk) h2
   rw [Nat.succ_mul]
   exact this
 have h2:=Tr.BE h
 unfold H6 at h2
 rw [he] at h2
 have hvc:=AQ hE (Kc:=fun c x=>DD (E.H8 f0 J) n c x=some y) (Kr:=(· =y)) f0 (fr:=⟨true,E.dr⟩) (Z5 hkp hE hres hr (fun c q' h' x' GO=>key n c q' h' x' GO)) false [.code [] E.body] ⟨Bj 0 vs,o,m,E.sz⟩ (Spec.PF he) rfl (fun z hz=>by
  simp only [List.mem_cons,List.not_mem_nil,or_false] at hz
  subst hz
  rfl) h2
 exact VC.enter hf hb hn (by rw [Spec.Aa he];exact hsz) hon hg hvc
theorem XX {f:Nat} {tb:List (Nat×TI)} {ct:List (By S)} {p:Ai} (f0:Nat) (htb:AU S P tb) (hct: ∀ c∈ct,c.Holds P) (h:AG S P f p=true) (J:Jump (Aj P f tb ct p)) (hJ:J.Ok P):
  By.Holds P ⟨f,p.bn,p.sp,p.rs,p.flat,.opt ((Aj P f tb ct p).Td f0 J p.sp)⟩:=by
 obtain ⟨hE,hb,h3,fn,hf,hbody,hn,hres⟩:=FP htb hct h
 simp only [AG,Bool.and_eq_true] at h
 obtain ⟨⟨⟨⟨⟨⟨⟨⟨_,h2⟩,_⟩,_⟩,h5⟩,_⟩,_⟩,_⟩,_⟩:=h
 refine ⟨hb,h3,fun hfl=>?_,fun x y hxy w D β vs o n he hg hon _ hiv=>?_⟩
 ·simp only at hfl;rw [hfl] at h5;simpa using h5
 ·have hxy':(Aj P f tb ct p).Td f0 J p.sp x=some y:=hxy
  unfold Env.Td Env.OF at hxy'
  obtain ⟨n0,hn0⟩:=Tr.Ee.1 hxy'
  exact Mu (out:=.opt ((Aj P f tb ct p).Td f0 J p.sp)) hE hJ hf hbody hn hres (Nat.le_of_ble_eq_true h2) hn0 he hg hon hiv
end
end Go.En
set_option maxRecDepth 100000
set_option maxHeartbeats 4000000
namespace Go.Proofs.Tryz
open Go Go.En
def LX.p:Ai:=⟨[],3,⟨[.al 0 0],[⟨0,59,[.al 1 0],false⟩,CK.b1,CT.b2]⟩,⟨[.st 10],[⟨0,59,[.al 1 0],false⟩,CK.b1,CT.b2]⟩,false,[],[]⟩
theorem LX.ok:AG Dop.D4 prog 136 LX.p=true:=by kernel_rfl
abbrev Ak.q6:Cut:=⟨[[0,0,0,1,1,1,1],[0,1,0,1,1,1,1],[0,1,1,1,1,1]],[0,2,3,4,5,7,12,13,14],6,⟨[.al 0 0,.fd .str,.fn 136 [(2,0)],.fd (.int .i64),.fd .bool,.al 3 0,.al 4 0,.fd (.int .i64),.al 5 0],[CK.b0,CT.b1,⟨2,59,[.al 0 0],false⟩,⟨3,107,[.st 10],false⟩,⟨4,107,[.st 10],false⟩,⟨5,107,[.st 10],false⟩]⟩⟩
def Ak.p:Ai:=⟨[(6,Ak.q6)],3,⟨[.al 0 0,.st 10,.fd .str,.fn 136 [(2,0)],.fd (.int .i64),.fd .bool],[CK.b0,CT.b1,⟨2,59,[.al 0 0],false⟩]⟩,⟨[.st 10],[CK.b0,CT.b1,⟨2,59,[.al 0 0],false⟩]⟩,false,[(1,⟨[(0,true),(1,true),(2,true),(3,false),(4,true),(5,true),(6,true),(7,false),(8,true),(9,true),(10,true),(11,true),(12,true),(13,true),(14,false),(15,true),(16,false),(17,false),(18,true),(19,true)],[2000000],[0,1,3,7,15,31,63,127,255,511,1023,2047,4095,8191,16383,2047,34815,131071,262143,524287],false⟩),(7,⟨[(0,true),(1,true),(2,false),(3,true),(4,false),(5,true),(6,false),(7,false)],[8,1000000,1000003],[0,0,0,0,8,0,63,0,255],true⟩),(8,⟨[(0,true),(1,true),(2,true),(3,false),(4,true),(5,false),(6,true),(7,false),(8,true),(9,true),(10,true),(11,false),(12,false),(13,true),(14,true),(15,true),(16,false),(17,false),(18,true),(19,false),(20,false),(21,false),(22,true),(23,false),(24,true)],[25,1000000],[0,0,0,0,0,0,0,64,0,0,0,1024,3584,7680,15872,15872,48640,130560,261632,524272,1048572,2097151,0,4194304,16777215,33554431],true⟩),(11,⟨[(0,true),(1,true),(2,true),(3,true),(4,false),(5,true),(6,false),(7,true),(8,true),(9,false),(10,true),(11,false),(12,false)],[13,1000000,1000003],[0,0,0,0,12,0,32,124,0,284,0,2047,0,8191],true⟩),(12,⟨[(0,true),(1,false),(2,true),(3,false),(4,true),(5,false),(6,true),(7,true),(8,true),(9,false),(10,false),(11,true),(12,true),(13,true),(14,false),(15,false),(16,true),(17,false),(18,false),(19,true)],[1000000],[0,0,0,0,0,16,0,0,0,256,896,1920,3968,3968,12160,32640,65408,131068,262143,524287],true⟩),(13,⟨[(0,true),(1,true),(2,true),(3,true),(4,true),(5,true),(6,true),(7,true),(8,false),(9,false),(10,false),(11,false),(12,true),(13,false),(14,true)],[15,1000000],[0,0,0,0,0,0,0,0,192,496,1020,2047,0,4096,16383,32767],false⟩)],[]⟩
theorem Ak.ok:AG Dop.D4 prog 133 Ak.p=true:=by kernel_rfl
abbrev BV.q9:Cut:=⟨[[0,0,1,1,0,1,0,1,0,1,1,1],[0,1,1,1,0,1,0,1,0,1,1,1],[1,0],[0,1,1,1,1]],[2,4,5,6],5,⟨[.al 2 0,.al 3 0,.al 4 0,.fd (.int .i64)],[CK.b0,CT.b1,⟨2,59,[.al 0 0],false⟩,⟨3,107,[.st 10],false⟩,⟨4,73,[.st 5],false⟩]⟩⟩
abbrev BV.Yq:Cut:=⟨[[0,0,1,1,0,1,0,0,1,1,1,1,1,1,1,0,1,0,1,1,1],[0,1,1,1,0,1,0,0,1,1,1,1,1,1,1,0,1,0,1,1,1],[0,1,0,1,1,1,1,1,1,1,0,1,0,1,1,1],[1,0],[0,1,1,1,1]],[2,4,5,9],5,⟨[.al 2 0,.al 3 0,.al 4 0,.fd (.int .i64)],[CK.b0,CT.b1,⟨2,59,[.al 0 0],false⟩,⟨3,107,[.st 10],false⟩,⟨4,73,[.st 5],false⟩]⟩⟩
abbrev BV.nM:Cut:=⟨[[0,0,0,1,1,1,1,1,1,1,1,1,1,1,0,1,0,1,1,1],[0,1,0,1,1,1,1,1,1,1,1,1,1,1,0,1,0,1,1,1],[1,0],[0,1,1,1,1]],[1,2,4,5],5,⟨[.fd (.int .i64),.al 2 0,.al 3 0,.al 4 0],[CK.b0,CT.b1,⟨2,59,[.al 0 0],false⟩,⟨3,107,[.st 10],false⟩,⟨4,73,[.st 5],false⟩]⟩⟩
abbrev BV.nN:Cut:=⟨[[0,0,1,1,1,1,1,1,1,1,1,1,1,1,0,1,0,1,1,1],[0,1,1,1,1,1,1,1,1,1,1,1,1,1,0,1,0,1,1,1],[1,0],[0,1,1,1,1]],[1,2,4,5,36],5,⟨[.fd (.int .i64),.al 2 0,.al 3 0,.al 4 0,.fd (.int .i64)],[CK.b0,CT.b1,⟨2,59,[.al 0 0],false⟩,⟨3,107,[.st 10],false⟩,⟨4,73,[.st 5],false⟩]⟩⟩
def BV.p:Ai:=⟨[(9,BV.q9),(24,BV.Yq),(40,BV.nM),(41,BV.nN)],2,⟨[.al 0 0,.fd (.int .i64)],[CK.b0,CT.b1]⟩,⟨[.st 10],[CK.b0,CT.b1]⟩,false,[(9,⟨[(0,false),(1,true),(2,false),(3,false),(4,true),(5,true),(6,false),(7,true),(8,true)],[9,2000002],[0,0,2,7,0,0,32,96,255,511],false⟩),(15,⟨[(0,false),(1,true),(2,false),(3,false),(4,true),(5,false),(6,true),(7,false),(8,true)],[9,2000002],[0,0,2,7,0,16,0,64,255,511],false⟩),(16,⟨[(0,false),(1,false),(2,false),(3,false),(4,true),(5,false),(6,false)],[7,2000002],[0,0,0,6,0,16,63,127],true⟩),(32,⟨[(0,false),(1,true),(2,true),(3,false),(4,true),(5,true),(6,true),(7,false),(8,true),(9,true),(10,false),(11,true),(12,true),(13,false),(14,true),(15,false),(16,false),(17,true),(18,true),(19,true)],[2000002],[0,1,3,7,15,31,63,127,255,511,1023,2047,4095,8191,1023,17407,65535,131071,262143,524287],false⟩),(36,⟨[(0,false),(1,false),(2,false),(3,false),(4,true),(5,false),(6,true),(7,false),(8,false),(9,true),(10,false),(11,true)],[12,2000002],[0,0,0,0,0,16,0,124,255,0,512,2047,4095],true⟩),(37,⟨[(0,false),(1,false),(2,true),(3,false),(4,false),(5,true),(6,true),(7,false)],[8,1000005,2000002],[0,0,0,4,12,0,0,127,255],true⟩),(40,⟨[(0,false),(1,false),(2,true),(3,false),(4,false),(5,true),(6,false),(7,true),(8,true),(9,true),(10,true),(11,false),(12,true),(13,false)],[14,2000002],[0,0,0,4,14,0,32,96,0,0,0,1024,3072,8191,16383],true⟩),(51,⟨[(0,false),(1,false),(2,false),(3,false),(4,true),(5,false),(6,true),(7,false)],[8,2000002],[0,0,0,0,0,30,0,127,255],true⟩),(61,⟨[(4,false),(5,true),(6,false),(7,true),(8,false),(0,false),(1,true),(2,true),(3,false),(9,false),(10,true),(11,true),(12,true),(13,true),(14,true)],[2000002],[0,1,3,7,0,0,32,0,240,511,1023,2047,2047,4095,16383],false⟩)],[]⟩
theorem BV.ok:AG Dop.D4 prog 106 BV.p=true:=by kernel_rfl
def Ia.p:Ai:=⟨[],2,⟨[.al 0 0,.st 5,.fd (.int .i64)],[CK.b0,CT.b1]⟩,⟨[.st 10],[CK.b0,CT.b1]⟩,false,[(10,⟨[(0,true),(1,false),(2,false),(3,true),(4,true),(5,false),(6,false),(7,true)],[8,1000000],[0,0,3,0,0,16,63,127,255],true⟩),(14,⟨[(0,true),(1,false),(2,true),(3,true),(4,false),(5,false),(6,true)],[7,1000000],[0,1,0,0,8,28,63,127],false⟩),(23,⟨[(0,true),(1,true),(2,true),(3,false),(4,false),(5,true),(6,true),(7,false),(8,true),(9,false),(10,false),(11,true)],[12,1000000],[0,0,0,4,15,0,0,64,0,256,1023,2047,4095],false⟩)],[]⟩
theorem Ia.ok:AG Dop.D4 prog 131 Ia.p=true:=by kernel_rfl
def CE.p:Ai:=⟨[],2,⟨[.al 0 0,.fd (.int .i64)],[CK.b0,CT.b1]⟩,⟨[.st 10],[CK.b0,CT.b1]⟩,false,[(2,⟨[(0,true),(1,true),(2,true),(3,false),(4,true),(5,true),(6,true),(7,true),(8,true),(9,false),(10,true),(11,false),(12,false),(13,true),(14,true)],[2000000],[0,1,3,7,15,31,63,127,255,511,63,1087,4095,8191,16383],false⟩)],[]⟩
theorem CE.ok:AG Dop.D4 prog 81 CE.p=true:=by kernel_rfl
abbrev AW.q6:Cut:=⟨[[0,0,0,1,1,1,1],[0,1,0,1,1,1,1],[0,1,1,1,1,1]],[0,2,3,4,5,7,12,13,14],7,⟨[.al 0 0,.fd .str,.fn 135 [(2,0),(3,0)],.fd (.int .i64),.fd .bool,.al 4 0,.al 5 0,.fd (.int .i64),.al 6 0],[CK.b0,CT.b1,⟨2,59,[.al 0 0],false⟩,⟨3,73,[.st 5],false⟩,⟨4,107,[.st 10],false⟩,⟨5,107,[.st 10],false⟩,⟨6,107,[.st 10],false⟩]⟩⟩
def AW.p:Ai:=⟨[(6,AW.q6)],4,⟨[.al 0 0,.st 10,.fd .str,.fn 135 [(2,0),(3,0)],.fd (.int .i64),.fd .bool],[CK.b0,CT.b1,⟨2,59,[.al 0 0],false⟩,⟨3,73,[.st 5],false⟩]⟩,⟨[.st 10],[CK.b0,CT.b1,⟨2,59,[.al 0 0],false⟩,⟨3,73,[.st 5],false⟩]⟩,false,[(1,⟨[(0,true),(1,true),(2,true),(3,false),(4,true),(5,true),(6,true),(7,false),(8,true),(9,true),(10,true),(11,true),(12,true),(13,true),(14,false),(15,true),(16,false),(17,false),(18,true),(19,true)],[2000000],[0,1,3,7,15,31,63,127,255,511,1023,2047,4095,8191,16383,2047,34815,131071,262143,524287],false⟩),(7,⟨[(0,true),(1,true),(2,false),(3,true),(4,false),(5,true),(6,false),(7,false)],[8,1000000,1000003],[0,0,0,0,8,0,63,0,255],true⟩),(8,⟨[(0,true),(1,true),(2,true),(3,false),(4,true),(5,false),(6,true),(7,false),(8,true),(9,true),(10,true),(11,false),(12,false),(13,true),(14,true),(15,true),(16,false),(17,false),(18,true),(19,false),(20,false),(21,false),(22,true),(23,false),(24,true)],[25,1000000],[0,0,0,0,0,0,0,64,0,0,0,1024,3584,7680,15872,15872,48640,130560,261632,524272,1048572,2097151,0,4194304,16777215,33554431],true⟩),(11,⟨[(0,true),(1,true),(2,true),(3,true),(4,false),(5,true),(6,false),(7,true),(8,true),(9,false),(10,true),(11,false),(12,false)],[13,1000000,1000003],[0,0,0,0,12,0,32,124,0,284,0,2047,0,8191],true⟩),(12,⟨[(0,true),(1,false),(2,true),(3,false),(4,true),(5,false),(6,true),(7,true),(8,true),(9,false),(10,false),(11,true),(12,true),(13,true),(14,false),(15,false),(16,true),(17,false),(18,false),(19,true)],[1000000],[0,0,0,0,0,16,0,0,0,256,896,1920,3968,3968,12160,32640,65408,131068,262143,524287],true⟩),(13,⟨[(0,true),(1,true),(2,true),(3,true),(4,true),(5,true),(6,true),(7,true),(8,false),(9,false),(10,false),(11,false),(12,true),(13,false),(14,true)],[15,1000000],[0,0,0,0,0,0,0,0,192,496,1020,2047,0,4096,16383,32767],false⟩)],[]⟩
theorem AW.ok:AG Dop.D4 prog 133 AW.p=true:=by kernel_rfl
def Hk.p:Ai:=⟨[],4,⟨[.al 0 0,.al 3 0],[⟨0,59,[.al 1 0],false⟩,CK.b1,CT.b2,⟨3,73,[.st 5],false⟩]⟩,⟨[.st 10],[⟨0,59,[.al 1 0],false⟩,CK.b1,CT.b2,⟨3,73,[.st 5],false⟩]⟩,false,[],[]⟩
theorem Hk.ok:AG Dop.D4 prog 135 Hk.p=true:=by kernel_rfl
def HO.p:Ai:=⟨[],2,⟨[.al 0 0,.st 5,.fd (.int .i64)],[CK.b0,CT.b1]⟩,⟨[.st 10],[CK.b0,CT.b1]⟩,false,[(6,⟨[(0,true),(1,true),(2,true),(3,false),(4,true),(5,false),(6,true),(7,false),(8,false),(9,true),(10,true),(11,true),(12,true),(13,true),(14,true),(15,true)],[2000000],[0,1,3,7,0,16,0,64,255,511,1023,1023,1023,2047,12287,32767],false⟩),(9,⟨[(0,true),(1,true),(2,true),(3,false),(4,true),(5,true),(6,false),(7,false),(8,true),(9,false)],[10,1000000],[0,0,0,4,0,0,48,126,0,511,1023],false⟩)],[]⟩
theorem HO.ok:AG Dop.D4 prog 139 HO.p=true:=by kernel_rfl
abbrev DQ.q9:Cut:=⟨[[0,0,0,0,1,0,1,1,1,1,1,1],[0,1,0,0,1,0,1,1,1,1,1,1],[2,0,0,1,0,1,1,1,1,1,1],[1,0],[0,1,1,1,1,1,1,1]],[0,4,6,7,10,45,46,47],5,⟨[.al 0 0,.al 2 0,.al 3 0,.al 4 0,.own 0 3,.own 0 3,.fd (.int .i64),.fd (.int .i64)],[CK.b0,CT.b1,⟨2,73,[.st 5],false⟩,⟨3,107,[.st 10],false⟩,⟨4,77,[.st 15],false⟩]⟩⟩
def DQ.p:Ai:=⟨[(9,DQ.q9)],2,⟨[.al 0 0,.st 5,.fd (.int .i64)],[CK.b0,CT.b1]⟩,⟨[.st 10],[CK.b0,CT.b1]⟩,false,[(1,⟨[(0,true),(1,true),(2,true),(3,false),(4,true),(5,false),(6,false),(7,true),(8,true),(9,true),(10,false)],[11,12],[0,1,3,7,0,16,63,127,255,255,0,1535,4095],false⟩),(4,⟨[(0,true),(1,true),(2,true),(3,false),(4,true),(5,false),(6,false),(7,true)],[],[0,1,3,7,0,16,63,127],true⟩),(12,⟨[(0,true),(1,true),(2,false),(3,true),(4,false),(5,true),(6,false),(7,false),(8,true),(9,false),(10,false),(11,false),(12,true)],[1000000],[0,0,0,0,8,0,56,120,0,510,1022,2047,4095],true⟩),(14,⟨[(0,true),(1,true),(2,true),(3,false),(4,true),(5,false),(6,false),(7,true),(8,false),(9,true)],[10,1000000,9000000],[0,0,0,6,0,16,63,0,128,511,1023],true⟩)],[]⟩
theorem DQ.ok:AG Dop.D4 prog 140 DQ.p=true:=by kernel_rfl
abbrev BN.T:Type:=(((Unit×Int×Unit)×(CK×CT×Unit))->Option ((Dop.Ae×Unit)×(CK×CT×Unit)))×(((Unit×Dop.AZ×Int×Unit)×(CK×CT×Unit))->Option ((Dop.Ae×Unit)×(CK×CT×Unit)))×(((Unit×Int×Unit)×(CK×CT×Unit))->Option ((Dop.Ae×Unit)×(CK×CT×Unit)))×(((Unit×Dop.Ae×List UInt8×Unit×Int×Bool×Unit)×(CK×CT×(Unit×Unit)×(Dop.AZ×Unit)×Unit))->Option ((Dop.Ae×Unit)×(CK×CT×(Unit×Unit)×(Dop.AZ×Unit)×Unit)))×(((Unit×Unit×Unit)×((Unit×Unit)×CK×CT×(Dop.AZ×Unit)×Unit))->Option ((Dop.Ae×Unit)×((Unit×Unit)×CK×CT×(Dop.AZ×Unit)×Unit)))×(((Unit×Dop.AZ×Int×Unit)×(CK×CT×Unit))->Option ((Dop.Ae×Unit)×(CK×CT×Unit)))×(((Unit×Dop.AZ×Int×Unit)×(CK×CT×Unit))->Option ((Dop.Ae×Unit)×(CK×CT×Unit)))×Unit
noncomputable def BN.ct (r:BN.T):List (By Dop.D4):=[⟨106,BV.p.bn,BV.p.sp,BV.p.rs,BV.p.flat,.opt (r.1)⟩,⟨131,Ia.p.bn,Ia.p.sp,Ia.p.rs,Ia.p.flat,.opt (r.2.1)⟩,⟨81,CE.p.bn,CE.p.sp,CE.p.rs,CE.p.flat,.opt (r.2.2.1)⟩,⟨133,AW.p.bn,AW.p.sp,AW.p.rs,AW.p.flat,.opt (r.2.2.2.1)⟩,⟨135,Hk.p.bn,Hk.p.sp,Hk.p.rs,Hk.p.flat,.opt (r.2.2.2.2.1)⟩,⟨139,HO.p.bn,HO.p.sp,HO.p.rs,HO.p.flat,.opt (r.2.2.2.2.2.1)⟩,⟨140,DQ.p.bn,DQ.p.sp,DQ.p.rs,DQ.p.flat,.opt (r.2.2.2.2.2.2.1)⟩]
end Go.Proofs.Tryz
namespace Go.Proofs.Tryz
open Go Go.En
def Cz.p:Ai:=⟨[],5,⟨[.al 0 0,.fd (.int .i64)],[⟨0,70,[.st 7,.al 1 0,.own 0 3,.own 11 67,.own 12 51,.st 0,.own 5 73,.mr (.str) 9 true 62,.mp (.str) 15 true,.rm 2,.st 11,.st 0,.rm 3,.rm 4,.st 0,.mr (.int .i64) 0 false 152,.st 0,.fd (.int .i64),.st 0],false⟩,CT.b1]⟩,⟨[.st 5],[⟨0,70,[.fd (.sl 5),.fd (.sl 6),.fd (.int .i64),.al 1 0,.own 0 3,.own 11 67,.own 12 51,.fd (.int .i64),.own 5 73,.mr (.str) 9 true 62,.mp (.str) 15 true,.rm 2,.fd .str,.fd (.int .i64),.fd (.int .i64),.fd (.int .i64),.fd (.int .i64),.fd (.int .i64),.rm 3,.rm 4,.fd (.int .i64),.mr (.int .i64) 0 false 152,.fd (.int .i64),.fd (.int .i64),.fd (.int .i64)],false⟩,CT.b1]⟩,false,[],[]⟩
noncomputable def Cz.E:Env Dop.D4:=Aj prog 17 tb [] Cz.p
theorem Cz.ok:AG Dop.D4 prog 17 Cz.p=true:=by kernel_rfl
noncomputable def Cz.c:By Dop.D4:=⟨17,Cz.p.bn,Cz.p.sp,Cz.p.rs,Cz.p.flat,.opt (Cz.E.run 3000 Cz.p.sp)⟩
theorem Cz.holds:Cz.c.Holds prog:=E6 3000 AH Br Cz.ok
noncomputable def Cz (n:Int) (b0_0:Dop.HA) (b0_2:List Int) (b0_3:List (Dop.Dc)) (b0_4:List (Dop.ML)) (b0_5:Int) (b0_6:List Dop.AZ) (b0_7:List (List (List UInt8×Dop.CD))) (b0_8:List (List UInt8×Dop.N8)) (b0_10:Dop.Dc) (b0_11:Int) (b0_14:Int) (b0_15:List (List (Int×Int))) (b0_16:Int) (b0_17:Int) (b0_18:Int) (k1:CT):Option ((Dop.AZ×Unit)×((List Dop.AZ×List Dop.HC×Int×Unit×List Int×List (Dop.Dc)×List (Dop.ML)×Int×List Dop.AZ×List (List (List UInt8×Dop.CD))×List (List UInt8×Dop.N8)×Unit×List UInt8×Int×Int×Int×Int×Int×Unit×Unit×Int×List (List (Int×Int))×Int×Int×Int×Unit)×CT×Unit)):=Cz.E.run 3000 Cz.p.sp (((),n,()),((b0_0,(),b0_2,b0_3,b0_4,b0_5,b0_6,b0_7,b0_8,(),b0_10,b0_11,(),(),b0_14,b0_15,b0_16,b0_17,b0_18,()),k1,()))
theorem aW (n:Int) (b0_0:Dop.HA) (b0_2:List Int) (b0_3:List (Dop.Dc)) (b0_4:List (Dop.ML)) (b0_5:Int) (b0_6:List Dop.AZ) (b0_7:List (List (List UInt8×Dop.CD))) (b0_8:List (List UInt8×Dop.N8)) (b0_10:Dop.Dc) (b0_11:Int) (b0_14:Int) (b0_15:List (List (Int×Int))) (b0_16:Int) (b0_17:Int) (b0_18:Int) (k1:CT):Cz n b0_0 b0_2 b0_3 b0_4 b0_5 b0_6 b0_7 b0_8 b0_10 b0_11 b0_14 b0_15 b0_16 b0_17 b0_18 k1=
 if (decide (n<(0:Int)))=true then
  some ((Dop.AZ.mk (0:Int) (-1:Int) (-1:Int) (-1:Int) (-1:Int) (@List.nil UInt8) (0:Int) (0:Int) (0:Int),()),((b0_0.nodes,(b0_0.types,(b0_0.top,((),(b0_2,(b0_3,(b0_4,(b0_5,(b0_6,(b0_7,(b0_8,((),(b0_10.name,(b0_10.params,(b0_10.Al,(b0_10.frame,(b0_10.body,(b0_11,((),((),(b0_14,(b0_15,(b0_16,(b0_17,(b0_18,()))))))))))))))))))))))))),(k1,())))
 else
  if (decide (I b0_0.nodes.length<=n))=true then
  some ((Dop.AZ.mk (0:Int) (-1:Int) (-1:Int) (-1:Int) (-1:Int) (@List.nil UInt8) (0:Int) (0:Int) (0:Int),()),((b0_0.nodes,(b0_0.types,(b0_0.top,((),(b0_2,(b0_3,(b0_4,(b0_5,(b0_6,(b0_7,(b0_8,((),(b0_10.name,(b0_10.params,(b0_10.Al,(b0_10.frame,(b0_10.body,(b0_11,((),((),(b0_14,(b0_15,(b0_16,(b0_17,(b0_18,()))))))))))))))))))))))))),(k1,())))
  else
  if (decide ((0:Int)<=n/\n<I b0_0.nodes.length))=true then
  some ((@List.getD Dop.AZ b0_0.nodes n.toNat Dop.d5,()),((b0_0.nodes,(b0_0.types,(b0_0.top,((),(b0_2,(b0_3,(b0_4,(b0_5,(b0_6,(b0_7,(b0_8,((),(b0_10.name,(b0_10.params,(b0_10.Al,(b0_10.frame,(b0_10.body,(b0_11,((),((),(b0_14,(b0_15,(b0_16,(b0_17,(b0_18,()))))))))))))))))))))))))),(k1,())))
  else none:=by kernel_rfl
end Go.Proofs.Tryz
namespace Go.Proofs.Tryz
open Go Go.En
def Hp.p:Ai:=⟨[],3,⟨[.al 0 0,.fd (.int .i64)],[⟨0,70,[.st 7,.al 1 0,.own 0 3,.own 11 67,.own 12 51,.st 0,.own 5 73,.rw 2,.mp (.str) 15 true,.mp (.str) 0 false,.st 11,.st 0,.mp (.str) 0 false,.mp (.str) 0 false,.st 0,.mr (.int .i64) 0 false 152,.st 0,.fd (.int .i64),.st 0],false⟩,CT.b1,⟨2,63,[.mr (.str) 9 true 62],true⟩]⟩,⟨[.st 5],[⟨0,70,[.fd (.sl 5),.fd (.sl 6),.fd (.int .i64),.al 1 0,.own 0 3,.own 11 67,.own 12 51,.fd (.int .i64),.own 5 73,.rw 2,.mp (.str) 15 true,.mp (.str) 0 false,.fd .str,.fd (.int .i64),.fd (.int .i64),.fd (.int .i64),.fd (.int .i64),.fd (.int .i64),.mp (.str) 0 false,.mp (.str) 0 false,.fd (.int .i64),.mr (.int .i64) 0 false 152,.fd (.int .i64),.fd (.int .i64),.fd (.int .i64)],false⟩,CT.b1,⟨2,0,[.mr (.str) 9 true 62],true⟩]⟩,false,[],[]⟩
theorem Hp.ok:AG Dop.D4 prog 17 Hp.p=true:=by kernel_rfl
end Go.Proofs.Tryz
namespace Go.Proofs.Tryz
open Go Go.En
def ND.p:Ai:=⟨[],0,⟨[.fd (.sl 16)],[]⟩,⟨[.own 16 104],[]⟩,true,[],[]⟩
theorem ND.ok:AG Dop.D4 prog 76 ND.p=true:=by kernel_rfl
abbrev Gt.q7:Cut:=⟨[[0,0,0,0,1,0,1,1,1,1],[0,1,0,0,1,0,1,1,1,1],[2,0,0,1,0,1,1,1,1],[1,0],[0,1,1,1,1,1]],[0,1,2,10,11,38,39,40],1,⟨[.al 0 0,.fd .str,.fd (.sl 16),.fd .bool,.mp (.str) 0 false,.fd (.sl 16),.fd (.int .i64),.fd (.int .i64)],[CT.b0]⟩⟩
abbrev Gt.eu:Cut:=⟨[[0,0,0,0,1,0,1,1,1,1,1,1,1],[0,1,0,0,1,0,1,1,1,1,1,1,1],[2,0,0,1,0,1,1,1,1,1,1,1],[1,2],[0,1,1,1,1,1,1,1,1]],[0,1,2,14,64,65,66],1,⟨[.al 0 0,.fd .str,.fd (.sl 16),.fd (.int .i64),.fd (.sl 16),.fd (.int .i64),.fd (.int .i64)],[CT.b0]⟩⟩
def Gt.p:Ai:=⟨[(7,Gt.q7),(16,Gt.eu)],1,⟨[.al 0 0,.fd .str,.fd (.sl 16)],[CT.b0]⟩,⟨[.fd (.int .i64)],[CT.b0]⟩,false,[(27,⟨[(0,true),(1,true),(2,true),(3,false),(4,true),(5,true),(6,false)],[7],[0,1,3,7,0,0,32,127],false⟩)],[]⟩
theorem Gt.ok:AG Dop.D4 prog 33 Gt.p=true:=by kernel_rfl
end Go.Proofs.Tryz
namespace Go.Proofs.Tryz
open Go Go.En
abbrev Cj.q4:Cut:=⟨[[0,0,0,0,1,1,1],[0,1,0,0,1,1,1],[2,0,0,1,1,1],[1,0]],[0,45,46],2,⟨[.al 0 0,.st 8,.fd (.int .i64)],[CK.b0,CT.b1]⟩⟩
def Cj.p:Ai:=⟨[(4,Cj.q4)],2,⟨[.al 0 0,.fd (.int .i64)],[CK.b0,CT.b1]⟩,⟨[],[CK.b0,CT.b1]⟩,false,[(2,⟨[(0,true),(1,true),(2,true),(4,true),(5,true),(6,false),(7,false),(8,true),(3,false),(9,false),(10,true)],[11,1000000],[0,1,3,7,0,0,32,112,240,511,1023,2047],false⟩)],[]⟩
theorem Cj.ok:AG Dop.D4 prog 40 Cj.p=true:=by kernel_rfl
abbrev F6.T:Type:=(((Unit×Int×Unit)×(CK×CT×Unit))->Option (Unit×(CK×CT×Unit)))×Unit
end Go.Proofs.Tryz
namespace Go.Proofs.Tryz
open Go Go.En
def IY.p:Ai:=⟨[],2,⟨[.al 0 0,.fd .str,.fd (.int .i64),.fd (.int .i64),.fd .bool],[CK.b0,CT.b1]⟩,⟨[.st 9,.fd .bool],[CK.b0,CT.b1]⟩,false,[(2,⟨[(0,true),(1,true),(2,true),(3,false),(4,true),(5,true),(6,true),(7,false),(8,false),(9,true),(10,false),(11,false),(12,true)],[],[0,1,3,7,0,16,48,112,240,496,1023,2047,4095],false⟩),(13,⟨[(0,true),(1,true),(2,true),(3,true),(4,false),(5,true),(6,false),(7,true)],[8,1000017],[0,1,3,7,15,0,32,127,255],false⟩),(18,⟨[(0,false),(1,true),(2,true),(3,true),(4,false),(5,true),(6,false),(7,true)],[1000010],[0,0,2,6,14,30,1,127],false⟩)],[(34,[]),(78,[])]⟩
theorem IY.ok:AG Dop.D4 prog 41 IY.p=true:=by kernel_rfl
end Go.Proofs.Tryz
namespace Go.Proofs
open Go Go.En
abbrev CH:Type:=En.Dop.HA×Unit×List (Int)×List (En.Dop.Dc)×List (En.Dop.ML)×Int×List (En.Dop.AZ)×List (List (List UInt8×En.Dop.CD))×List (List UInt8×En.Dop.N8)×Unit×En.Dop.Dc×Int×Unit×Unit×Int×List (List (Int×Int))×Int×Int×Int×Unit
abbrev CH.t (k:CH):En.Dop.HA:=k.1
abbrev CH.num (k:CH):List (Int):=k.2.2.1
abbrev CH.Nu (k:CH) (v:List (Int)):CH:=(k.1,k.2.1,v,k.2.2.2)
abbrev CH.funcs (k:CH):List (En.Dop.Dc):=k.2.2.2.1
abbrev CH.globals (k:CH):List (En.Dop.ML):=k.2.2.2.2.1
abbrev CH.top (k:CH):Int:=k.2.2.2.2.2.1
abbrev CH.nodes (k:CH):List (En.Dop.AZ):=k.2.2.2.2.2.2.1
abbrev CH.names (k:CH):List (List (List UInt8×En.Dop.CD)):=k.2.2.2.2.2.2.2.1
abbrev CH.sigs (k:CH):List (List UInt8×En.Dop.N8):=k.2.2.2.2.2.2.2.2.1
abbrev CH.JJ (k:CH) (v:List (List UInt8×En.Dop.N8)):CH:=(k.1,k.2.1,k.2.2.1,k.2.2.2.1,k.2.2.2.2.1,k.2.2.2.2.2.1,k.2.2.2.2.2.2.1,k.2.2.2.2.2.2.2.1,v,k.2.2.2.2.2.2.2.2.2)
abbrev CH.loops (k:CH):Int:=k.2.2.2.2.2.2.2.2.2.2.2.2.2.2.1
abbrev CH.MH (k:CH):List (List (Int×Int)):=k.2.2.2.2.2.2.2.2.2.2.2.2.2.2.2.1
abbrev CH.LP (k:CH):Int:=k.2.2.2.2.2.2.2.2.2.2.2.2.2.2.2.2.1
abbrev CH.e (k:CH):Int:=k.2.2.2.2.2.2.2.2.2.2.2.2.2.2.2.2.2.1
abbrev CH.Y8 (k:CH) (v:Int):CH:=(k.1,k.2.1,k.2.2.1,k.2.2.2.1,k.2.2.2.2.1,k.2.2.2.2.2.1,k.2.2.2.2.2.2.1,k.2.2.2.2.2.2.2.1,k.2.2.2.2.2.2.2.2.1,k.2.2.2.2.2.2.2.2.2.1,k.2.2.2.2.2.2.2.2.2.2.1,k.2.2.2.2.2.2.2.2.2.2.2.1,k.2.2.2.2.2.2.2.2.2.2.2.2.1,k.2.2.2.2.2.2.2.2.2.2.2.2.2.1,k.2.2.2.2.2.2.2.2.2.2.2.2.2.2.1,k.2.2.2.2.2.2.2.2.2.2.2.2.2.2.2.1,k.2.2.2.2.2.2.2.2.2.2.2.2.2.2.2.2.1,v,k.2.2.2.2.2.2.2.2.2.2.2.2.2.2.2.2.2.2)
abbrev CH.when (k:CH):Int:=k.2.2.2.2.2.2.2.2.2.2.2.2.2.2.2.2.2.2.1
abbrev CH.FX (k:CH) (v:Int):CH:=(k.1,k.2.1,k.2.2.1,k.2.2.2.1,k.2.2.2.2.1,k.2.2.2.2.2.1,k.2.2.2.2.2.2.1,k.2.2.2.2.2.2.2.1,k.2.2.2.2.2.2.2.2.1,k.2.2.2.2.2.2.2.2.2.1,k.2.2.2.2.2.2.2.2.2.2.1,k.2.2.2.2.2.2.2.2.2.2.2.1,k.2.2.2.2.2.2.2.2.2.2.2.2.1,k.2.2.2.2.2.2.2.2.2.2.2.2.2.1,k.2.2.2.2.2.2.2.2.2.2.2.2.2.2.1,k.2.2.2.2.2.2.2.2.2.2.2.2.2.2.2.1,k.2.2.2.2.2.2.2.2.2.2.2.2.2.2.2.2.1,k.2.2.2.2.2.2.2.2.2.2.2.2.2.2.2.2.2.1,v,k.2.2.2.2.2.2.2.2.2.2.2.2.2.2.2.2.2.2.2)
abbrev CH.b0:En.Gh:=⟨0,70,[.st 7,.al 1 0,.own 0 3,.own 11 67,.own 12 51,.st 0,.own 5 73,.mr (.str) 9 true 62,.mp (.str) 15 true,.hm,.st 11,.st 0,.hm,.hm,.st 0,.mr (.int .i64) 0 false 152,.st 0,.fd (.int .i64),.st 0],false⟩
abbrev CH.b1:En.Gh:=⟨1,70,[.st 7,.al 2 0,.own 0 3,.own 11 67,.own 12 51,.st 0,.own 5 73,.mr (.str) 9 true 62,.mp (.str) 15 true,.hm,.st 11,.st 0,.hm,.hm,.st 0,.mr (.int .i64) 0 false 152,.st 0,.fd (.int .i64),.st 0],false⟩
abbrev CH.b2:En.Gh:=⟨2,70,[.st 7,.al 3 0,.own 0 3,.own 11 67,.own 12 51,.st 0,.own 5 73,.mr (.str) 9 true 62,.mp (.str) 15 true,.hm,.st 11,.st 0,.hm,.hm,.st 0,.mr (.int .i64) 0 false 152,.st 0,.fd (.int .i64),.st 0],false⟩
end Go.Proofs
namespace Go.Proofs.Tryz
open Go Go.En
def HP.p:Ai:=⟨[],2,⟨[.al 0 0,.fd (.int .i64)],[CH.b0,CT.b1]⟩,⟨[.st 5],[CH.b0,CT.b1]⟩,false,[],[]⟩
theorem HP.ok:AG Dop.D4 prog 17 HP.p=true:=by kernel_rfl
def DY.p:Ai:=⟨[],2,⟨[.al 0 0,.fd (.int .i64),.fd (.int .i64)],[CH.b0,CT.b1]⟩,⟨[.st 10],[CH.b0,CT.b1]⟩,false,[],[]⟩
theorem DY.ok:AG Dop.D4 prog 34 DY.p=true:=by kernel_rfl
abbrev BU.q2:Cut:=⟨[[0,0,0,0,0,1,0,1],[0,1,0,0,0,1,0,1],[0,1,0,0,1,0,1],[2,0,0,1,0,1],[1,0],[0,1,1]],[0,1,2,7],2,⟨[.al 0 0,.fd (.int .i64),.fd (.int .i64),.fd (.int .i64)],[CH.b0,CT.b1]⟩⟩
abbrev BU.Zd:Cut:=⟨[[0,0,0,1,1,1,0,0,1,0,0,1,0,1],[0,1,0,1,1,1,0,0,1,0,0,1,0,1],[0,1,1,1,1,0,0,1,0,0,1,0,1],[1,1],[0,1,1,0,0,1,0,1],[2,0,0,1,0,1],[1,0],[0,1,1]],[0,1,2,7,9,10],2,⟨[.al 0 0,.fd (.int .i64),.fd (.int .i64),.fd (.int .i64),.fd (.int .i64),.fd (.int .i64)],[CH.b0,CT.b1]⟩⟩
def BU.p:Ai:=⟨[(2,BU.q2),(13,BU.Zd)],2,⟨[.al 0 0,.fd (.int .i64),.fd (.int .i64)],[CH.b0,CT.b1]⟩,⟨[.fd (.int .i64)],[CH.b0,CT.b1]⟩,false,[(8,⟨[(0,true),(1,true),(2,true),(3,false),(4,true),(5,true),(6,true),(7,false),(8,true),(9,false),(10,false),(11,false),(12,false),(13,true),(14,true),(15,true),(16,true),(17,true)],[2000000],[0,1,3,7,0,16,48,112,0,256,1008,2032,4095,8191,16383,16383,32767,131071],false⟩),(10,⟨[(0,true),(1,true),(2,true),(3,false),(4,true),(5,true),(6,true),(7,false),(8,true),(9,false),(10,false),(11,false),(12,true),(13,false),(14,false),(15,true),(16,true),(17,true),(18,true),(19,true)],[2000000],[0,1,3,7,0,16,48,112,0,256,1008,2032,0,4096,16383,32767,65535,65535,131071,524287],false⟩),(12,⟨[(0,true),(1,true),(2,true),(3,false),(4,true),(5,false),(6,false),(7,true),(8,true),(9,true),(10,true),(11,true)],[2000000],[0,1,3,7,0,16,63,127,255,255,511,2047],false⟩)],[]⟩
theorem BU.ok:AG Dop.D4 prog 32 BU.p=true:=by kernel_rfl
abbrev Hq.q3:Cut:=⟨[[0,0,0,0,1,0,1,1],[0,1,0,0,1,0,1,1],[2,0,0,1,0,1,1],[1,0],[0,1,1,1]],[0,2,4,6,16,17,18],3,⟨[.al 0 0,.fd (.int .i64),.al 2 0,.own 16 104,.own 0 3,.fd (.int .i64),.fd (.int .i64)],[CH.b0,CT.b1,⟨2,73,[.st 5],false⟩]⟩⟩
def Hq.p:Ai:=⟨[(3,Hq.q3)],2,⟨[.al 0 0,.st 5,.fd (.int .i64)],[CH.b0,CT.b1]⟩,⟨[],[CH.b0,CT.b1]⟩,false,[(2,⟨[(0,true),(1,true),(2,true),(3,false),(4,true),(5,false),(6,false),(7,false),(8,true)],[],[0,1,3,7,0,16,63,127,0],true⟩),(8,⟨[(0,true),(1,true),(2,true),(3,false),(4,true),(5,false),(6,true),(7,false),(8,true)],[2000000,9000000],[0,1,3,7,0,16,0,127,255],true⟩)],[]⟩
theorem Hq.ok:AG Dop.D4 prog 18 Hq.p=true:=by kernel_rfl
def GR.p:Ai:=⟨[],2,⟨[.al 0 0,.fd (.int .i64)],[CH.b0,CT.b1]⟩,⟨[.fd (.int .i64)],[CH.b0,CT.b1]⟩,false,[],[]⟩
theorem GR.ok:AG Dop.D4 prog 38 GR.p=true:=by kernel_rfl
def Hh.p:Ai:=⟨[],2,⟨[.al 0 0,.fd (.int .i64)],[CH.b0,CT.b1]⟩,⟨[.fd .bool],[CH.b0,CT.b1]⟩,false,[],[]⟩
theorem Hh.ok:AG Dop.D4 prog 36 Hh.p=true:=by kernel_rfl
abbrev Hr.er:Cut:=⟨[[0,0,1,1,1,1,1,1,1,1],[0,1,1,1,1,1,1,1,1,1]],[0,4,6,7,13],3,⟨[.al 0 0,.al 2 0,.fd (.int .i64),.fd (.int .i64),.fd (.int .i64)],[CH.b0,CT.b1,⟨2,73,[.st 5],false⟩]⟩⟩
def Hr.p:Ai:=⟨[(15,Hr.er)],2,⟨[.al 0 0,.st 5,.fd (.int .i64)],[CH.b0,CT.b1]⟩,⟨[],[CH.b0,CT.b1]⟩,false,[(3,⟨[(0,true),(1,true),(2,true),(3,false),(4,false),(5,false),(6,true),(7,false),(8,false),(9,true),(10,true),(11,true),(12,false)],[13,14],[0,1,3,7,15,31,0,64,255,511,1023,1023,0,6143,16383],false⟩),(4,⟨[(0,true),(1,true),(2,true),(3,false),(4,true),(5,false),(6,false),(7,true),(8,true),(9,true),(10,false)],[11,12],[0,1,3,7,0,16,63,127,255,255,0,1535,4095],false⟩),(15,⟨[(0,true),(1,true),(2,true),(3,false),(4,false),(5,false),(6,true),(7,false),(8,true),(9,true),(10,true),(11,true),(12,false),(13,true),(14,true)],[15],[0,1,3,7,15,31,0,64,0,256,768,1792,3840,0,16128,32767],false⟩),(16,⟨[(0,true),(1,true),(2,true),(3,true),(4,true),(5,false),(6,true),(7,false),(8,true),(9,true),(10,true),(11,true),(12,false),(13,true),(14,true),(15,true),(16,false)],[17,18,19,20,21],[0,0,2,6,14,30,0,64,0,256,768,1792,3840,0,0,32704,65472,131070,262143,524287,1048575,2097151],false⟩)],[]⟩
theorem Hr.ok:AG Dop.D4 prog 19 Hr.p=true:=by kernel_rfl
abbrev Da.q7:Cut:=⟨[[0,0,0,1,1,1,1,1,1],[0,1,0,1,1,1,1,1,1],[0,1,1,1,1,1,1,1]],[0,2,4,6,11],4,⟨[.al 0 0,.fd (.int .i64),.al 2 0,.al 3 0,.own 0 3],[CH.b0,CT.b1,⟨2,73,[.st 5],false⟩,⟨3,77,[.own 0 3,.fd (.int .i64)],false⟩]⟩⟩
abbrev Da.Us:Cut:=⟨[[0,0,0,0,1,0,1,1,1,1,1,1,1],[0,1,0,0,1,0,1,1,1,1,1,1,1],[2,0,0,1,0,1,1,1,1,1,1,1],[1,0],[0,1,1,1,1,1,1,1,1]],[0,2,4,6,85,86,87],4,⟨[.al 0 0,.fd (.int .i64),.al 2 0,.al 3 0,.own 0 3,.fd (.int .i64),.fd (.int .i64)],[CH.b0,CT.b1,⟨2,73,[.st 5],false⟩,⟨3,77,[.own 0 3,.fd (.int .i64)],false⟩]⟩⟩
def Da.p:Ai:=⟨[(7,Da.q7),(10,Da.Us)],2,⟨[.al 0 0,.st 5,.fd (.int .i64)],[CH.b0,CT.b1]⟩,⟨[],[CH.b0,CT.b1]⟩,false,[(2,⟨[(0,true),(1,true),(2,true),(3,false),(4,true),(5,false),(6,false),(7,true),(8,true),(9,true),(10,false)],[11,12],[0,1,3,7,0,16,63,127,255,255,0,1535,4095],false⟩),(3,⟨[(0,true),(1,true),(2,true),(3,false),(4,false),(5,false),(6,true),(7,false),(8,false),(9,true),(10,true),(11,true),(12,false)],[13,14],[0,1,3,7,15,31,0,64,255,511,1023,1023,0,6143,16383],false⟩),(4,⟨[(0,true),(1,true),(2,true),(3,false),(4,true),(5,false),(6,false),(7,true)],[],[0,1,3,7,0,16,63,127],true⟩),(17,⟨[(0,true),(1,true),(2,true),(3,false),(4,true),(5,true),(6,true),(7,false),(8,true),(9,true),(10,true),(11,true),(12,true),(13,true),(14,false),(15,true),(16,false),(17,false),(18,true),(19,true)],[2000000],[0,1,3,7,15,31,63,127,255,511,1023,2047,4095,8191,16383,2047,34815,131071,262143,524287],false⟩),(19,⟨[(0,true),(1,true),(2,true),(3,false),(4,true),(5,false),(6,false)],[7],[0,1,3,7,0,16,0,127],false⟩)],[]⟩
theorem Da.ok:AG Dop.D4 prog 20 Da.p=true:=by kernel_rfl
end Go.Proofs.Tryz
namespace Go.Proofs.Tryz
open Go Go.En
def Js.p:Ai:=⟨[],2,⟨[.al 0 0,.fd (.int .i64)],[CK.b0,CT.b1]⟩,⟨[.fd (.int .i64)],[CK.b0,CT.b1]⟩,false,[],[]⟩
theorem Js.ok:AG Dop.D4 prog 80 Js.p=true:=by kernel_rfl
def NF.p:Ai:=⟨[],2,⟨[.al 0 0,.st 5,.fd (.int .i64)],[CK.b0,CT.b1]⟩,⟨[.fd (.int .i64)],[CK.b0,CT.b1]⟩,false,[(6,⟨[(0,true),(1,true),(2,false),(3,true),(4,true),(5,true),(6,false),(7,true),(8,false),(9,false),(10,true)],[1000000],[0,0,0,0,8,24,56,0,254,511,1023],true⟩)],[]⟩
theorem NF.ok:AG Dop.D4 prog 83 NF.p=true:=by kernel_rfl
def NG.p:Ai:=⟨[],2,⟨[.al 0 0,.st 5,.fd (.int .i64)],[CK.b0,CT.b1]⟩,⟨[.fd (.int .i64)],[CK.b0,CT.b1]⟩,false,[(17,⟨[(0,true),(1,true),(2,false),(3,true),(4,false),(5,true),(6,true),(7,false),(8,false),(9,false),(10,true)],[1000000],[0,0,0,0,0,0,0,120,254,511,1023],true⟩)],[]⟩
theorem NG.ok:AG Dop.D4 prog 87 NG.p=true:=by kernel_rfl
abbrev Bg.nG:Cut:=⟨[[0,0,0,0,1,1,1,1,1,1,1,1,1,1,1,0,1,0,1,1,1],[0,1,0,0,1,1,1,1,1,1,1,1,1,1,1,0,1,0,1,1,1],[0,1,0,1,1,1,1,1,1,1,1,1,1,1,0,1,0,1,1,1],[1,0],[0,1,1,1,1]],[1,2,5],4,⟨[.fd (.int .i64),.al 2 0,.al 3 0],[CK.b0,CT.b1,⟨2,59,[.al 0 0],false⟩,⟨3,73,[.st 5],false⟩]⟩⟩
abbrev Bg.nH:Cut:=⟨[[0,0,1,1,1,1,1,1,1,1,1,1,1,1,0,1,0,1,1,1],[0,1,1,1,1,1,1,1,1,1,1,1,1,1,0,1,0,1,1,1],[1,0],[0,1,1,1,1]],[1,2,5,27],4,⟨[.fd (.int .i64),.al 2 0,.al 3 0,.fd (.int .i64)],[CK.b0,CT.b1,⟨2,59,[.al 0 0],false⟩,⟨3,73,[.st 5],false⟩]⟩⟩
def Bg.p:Ai:=⟨[(27,Bg.nG),(30,Bg.nH)],2,⟨[.al 0 0,.fd (.int .i64)],[CK.b0,CT.b1]⟩,⟨[.fd (.int .i64)],[CK.b0,CT.b1]⟩,false,[(6,⟨[(0,false),(1,false),(2,true),(3,false),(4,false),(5,false),(6,true)],[2000002],[0,0,0,4,14,31,63],false⟩),(15,⟨[(0,false),(1,true),(2,false),(3,true),(4,false),(5,false),(6,false),(7,true)],[2000002],[0,0,0,0,8,28,63,127],false⟩),(18,⟨[(0,false),(1,false),(2,true),(3,false),(4,false),(5,true),(6,true),(7,false),(8,true)],[2000002],[0,0,0,4,14,30,0,127,255],false⟩),(24,⟨[(0,false),(1,true),(2,true),(3,true),(4,false),(5,true),(6,false),(7,false),(8,false),(9,true)],[2000002],[0,0,0,0,0,0,32,112,255,511],false⟩),(33,⟨[(0,false),(1,true),(2,true),(3,false),(4,true),(5,false),(6,false),(7,true),(8,true),(9,true),(10,true),(11,true)],[],[0,1,3,7,0,16,63,127,255,255,511,2047],false⟩),(35,⟨[(0,false),(1,true),(2,true),(3,false),(4,true),(5,false),(6,true)],[7],[0,1,3,7,0,16,0,127],false⟩),(38,⟨[(0,false),(1,true),(2,true),(3,false),(4,true),(5,false),(6,false),(7,true)],[8],[0,1,3,7,0,16,63,127,255],false⟩),(39,⟨[(0,false),(1,true),(2,true),(3,false),(4,true),(5,false),(6,false),(7,true)],[],[0,1,3,7,0,16,63,127],false⟩),(41,⟨[(0,false),(1,false),(2,true),(3,false),(4,false),(5,true),(6,false),(7,false),(8,true)],[2000002],[0,0,0,4,14,0,32,127,255],false⟩),(44,⟨[(0,false),(1,false),(2,true),(3,true),(4,false),(5,false),(6,false),(7,false),(8,true),(9,true)],[10,2000002],[0,0,2,6,14,0,32,126,255,511,1023],false⟩),(48,⟨[(0,false),(1,false),(2,true),(3,true),(4,false),(5,false),(6,true),(7,true),(8,false),(9,false),(10,true),(11,false),(12,true),(13,true)],[14,2000002],[0,0,2,6,14,0,32,96,224,480,992,2046,4095,8191,16383],false⟩)],[(85,[(3,⟨[(0,true),(1,true),(2,true),(3,true),(4,false),(5,true),(6,true),(7,true),(8,false),(9,false),(10,true)],[11,12,13,14],[0,0,2,6,14,0,32,96,224,480,992,2046,4095,8191,16383],false⟩)])]⟩
theorem Bg.ok:AG Dop.D4 prog 46 Bg.p=true:=by kernel_rfl
def Gv.p:Ai:=⟨[],2,⟨[.al 0 0,.fd (.int .i64)],[CK.b0,CT.b1]⟩,⟨[.fd (.int .i64)],[CK.b0,CT.b1]⟩,false,[],[]⟩
theorem Gv.ok:AG Dop.D4 prog 82 Gv.p=true:=by kernel_rfl
def HM.p:Ai:=⟨[],2,⟨[.al 0 0,.st 5,.fd (.int .i64)],[CK.b0,CT.b1]⟩,⟨[.fd (.int .i64)],[CK.b0,CT.b1]⟩,false,[(6,⟨[(0,true),(1,true),(2,true),(3,false),(4,true),(5,true),(6,true),(7,false),(8,false),(9,true),(10,false),(11,false),(12,true)],[],[0,1,3,7,0,16,48,112,240,496,1023,2047,4095],false⟩),(12,⟨[(0,true),(1,true),(2,false),(3,true),(4,true),(5,false),(6,false),(7,true),(8,false),(9,true)],[1000000],[0,0,2,0,0,16,56,0,255,511],false⟩)],[]⟩
theorem HM.ok:AG Dop.D4 prog 84 HM.p=true:=by kernel_rfl
abbrev DP.q3:Cut:=⟨[[0,0,0,0,1,0,1,1],[0,1,0,0,1,0,1,1],[2,0,0,1,0,1,1],[1,0],[0,1,1,1]],[0,3,12,13,14],4,⟨[.al 0 0,.own 0 3,.own 0 3,.fd (.int .i64),.fd (.int .i64)],[⟨0,59,[.al 1 0],false⟩,CK.b1,CT.b2,⟨3,73,[.st 5],false⟩]⟩⟩
def DP.p:Ai:=⟨[(3,DP.q3)],4,⟨[.al 0 0,.al 3 0],[⟨0,59,[.al 1 0],false⟩,CK.b1,CT.b2,⟨3,73,[.st 5],false⟩]⟩,⟨[.fd (.int .i64)],[⟨0,59,[.al 1 0],false⟩,CK.b1,CT.b2,⟨3,73,[.st 5],false⟩]⟩,false,[(2,⟨[(0,false),(1,true),(2,true),(3,false),(4,true),(5,false),(6,false),(7,false),(8,true)],[],[0,1,3,7,0,16,63,127,0],true⟩),(7,⟨[(0,false),(1,false),(2,true),(3,false),(4,false),(5,true)],[2000000,9000000],[0,0,0,6,15,31],true⟩)],[]⟩
theorem DP.ok:AG Dop.D4 prog 86 DP.p=true:=by kernel_rfl
abbrev Cd.T:Type:=(((Unit×Int×Unit)×(CK×CT×Unit))->Option ((Int×Unit)×(CK×CT×Unit)))×(((Unit×Int×Unit)×(CK×CT×Unit))->Option ((Int×Unit)×(CK×CT×Unit)))×(((Unit×Dop.AZ×Int×Unit)×(CK×CT×Unit))->Option ((Int×Unit)×(CK×CT×Unit)))×(((Unit×Unit×Unit)×((Unit×Unit)×CK×CT×(Dop.AZ×Unit)×Unit))->Option ((Int×Unit)×((Unit×Unit)×CK×CT×(Dop.AZ×Unit)×Unit)))×Unit
noncomputable def Cd.ct (r:Cd.T):List (By Dop.D4):=[⟨46,Bg.p.bn,Bg.p.sp,Bg.p.rs,Bg.p.flat,.opt (r.1)⟩,⟨82,Gv.p.bn,Gv.p.sp,Gv.p.rs,Gv.p.flat,.opt (r.2.1)⟩,⟨84,HM.p.bn,HM.p.sp,HM.p.rs,HM.p.flat,.opt (r.2.2.1)⟩,⟨86,DP.p.bn,DP.p.sp,DP.p.rs,DP.p.flat,.opt (r.2.2.2.1)⟩]
end Go.Proofs.Tryz
namespace Go.Proofs.Tryz
open Go Go.En
abbrev EA.q9:Cut:=⟨[[0,0,0,0,1,0,1,1,1,1,1,1,1,1],[0,1,0,0,1,0,1,1,1,1,1,1,1,1],[2,0,0,1,0,1,1,1,1,1,1,1,1],[1,0],[0,1,1,1,1,1,1,1,1,1]],[0,4,6,89,90,91],3,⟨[.al 0 0,.al 2 0,.own 0 3,.own 0 3,.fd (.int .i64),.fd (.int .i64)],[CK.b0,CT.b1,⟨2,73,[.st 5],false⟩]⟩⟩
abbrev EA.Yq:Cut:=⟨[[0,0,1,1,1,1,1,1,1,1,1,1,1],[0,1,1,1,1,1,1,1,1,1,1,1,1]],[0,6,15],2,⟨[.al 0 0,.own 0 3,.fd (.int .i64)],[CK.b0,CT.b1]⟩⟩
abbrev EA.WL:Cut:=⟨[[0,1,1,1,1,1,1,1,1,1,1,1,1,1,1]],[0,6,15],2,⟨[.al 0 0,.own 0 3,.fd (.int .i64)],[CK.b0,CT.b1]⟩⟩
def EA.p:Ai:=⟨[(9,EA.q9),(24,EA.Yq),(32,EA.WL)],2,⟨[.al 0 0,.st 5,.fd (.int .i64)],[CH.b0,CT.b1]⟩,⟨[],[CK.b0,CT.b1]⟩,false,[(1,⟨[(0,true),(1,true),(2,true),(3,false),(4,true),(5,true),(6,true),(7,true),(8,false),(9,true),(10,false),(11,false),(12,true),(13,true),(14,true)],[15,16,17,18],[0,0,0,4,12,0,32,96,224,0,512,2016,4064,4093,12285,28669,65535,131071,262143],false⟩),(5,⟨[(0,true),(1,true),(2,true),(3,true),(4,false),(5,true),(6,false),(7,false),(8,true),(9,false),(10,true),(11,true),(12,true)],[13],[0,0,2,6,14,0,32,126,254,510,1023,2047,4095,8191],false⟩),(8,⟨[(0,true),(1,true),(2,true),(3,false),(4,true),(5,false),(6,false),(7,false),(8,true)],[],[0,1,3,7,0,16,63,127,0],true⟩),(12,⟨[(0,true),(1,true),(2,true),(3,false),(4,true),(5,false),(6,false),(7,true),(8,true),(9,false),(10,false),(11,true)],[],[0,1,3,7,0,16,63,127,0,511,1023,2047],false⟩),(13,⟨[(0,true),(1,true),(2,true),(3,false),(4,true),(5,false),(6,false),(7,true)],[],[0,1,3,7,0,16,63,127],false⟩),(14,⟨[(0,true),(1,true),(2,true),(3,false),(4,false),(5,false),(6,true),(7,false),(8,false),(9,true),(10,true),(11,true),(12,false)],[13,14],[0,1,3,7,15,31,0,64,255,511,1023,1023,0,6143,16383],false⟩),(17,⟨[(0,true),(1,true),(2,true),(3,false),(4,false),(5,false),(6,true),(7,false),(8,true),(9,true),(10,true)],[11],[0,1,3,7,15,31,0,64,0,0,768,2047],false⟩),(33,⟨[(0,true),(1,true),(2,true),(3,true),(4,true),(5,false),(6,true),(7,true),(8,true),(9,false),(10,false)],[11,12,13,14,15],[0,0,2,6,14,30,0,64,192,448,960,2046,4095,8191,16383,32767],false⟩)],[]⟩
theorem EA.ok:AG Dop.D4 prog 21 EA.p=true:=by kernel_rfl
end Go.Proofs.Tryz
