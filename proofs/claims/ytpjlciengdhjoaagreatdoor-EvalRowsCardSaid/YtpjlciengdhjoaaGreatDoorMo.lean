/- A function of which a part is gone through by hand: from one cut to another one (Jump). Its model, its equations, that it is a contract. -/
import Derived.Test.YtpjlciengdhjoaaGreatDoorMh
import Derived.Test.YtpjlciengdhjoaaGreatDoorMn
import Derived.Test.YtpjlciengdhjoaaGreatDoorMm
namespace Go.En
open Go.RowKit
section
variable {S:As}
structure Jump (E:Env S) where
 c1:Nat
 c2:Nat
 q1:Cut
 q2:Cut
 h1:lk E.DF c1=some q1
 h2:lk E.DF c2=some q2
 g:q1.sp.D S->Option (q2.sp.D S)
def Jump.Ok (P:Program) {E:Env S} (J:Jump E):Prop:=
 ∀ (Q:Exit->Act->World->Prop) (w0:World) (F D0:Nat->Prop) (β0:Nat->Nm) (M:Nat) (x:J.q1.sp.D S) (y:J.q2.sp.D S),CF S w0 F D0->(∀ c a d v w,Q (.panic c) (a.put d v) w->Q (.panic c) a w)->J.g x=some y->Iz P Q w0 F D0 β0 M E J.q2 y->Iz P Q w0 F D0 β0 M E J.q1 x
def Env.I8 (E:Env S) (f0:Nat) (J:Jump E) (c:Nat) (x:E.ι c):Tr E.ι E.ρ:=
 if h:c=J.c1 then .Is (J.g (Va E J.c1 J.q1 J.h1 (h▸x))) fun y=>.cut J.c2 (EJ E J.c2 J.q2 J.h2 y) else E.step f0 c x
theorem Env.UH {E:Env S} {f0:Nat} {J:Jump E} (x:J.q1.sp.D S):E.I8 f0 J J.c1 (EJ E J.c1 J.q1 J.h1 x)=.Is (J.g x) fun y=>.cut J.c2 (EJ E J.c2 J.q2 J.h2 y):=by
 unfold Env.I8
 rw [dif_pos rfl]
 simp only [SU]
theorem Env.Zt {E:Env S} {f0 c:Nat} {J:Jump E} (hc:c≠J.c1) {q:Cut} (h:lk E.DF c=some q) (x:q.sp.D S):E.I8 f0 J c (EJ E c q h x)=Jk E f0 q x:=by
 unfold Env.I8
 rw [dif_neg hc,Env.step_mk]
variable {P:Program}
theorem TY {E:Env S} (hE:E.Ok P) {J:Jump E} (hJ:J.Ok P) {f:FuncId} {fn:Func} {sp:Spec} (hf:P.funcs[f]?=some fn) (hb:fn.body=some E.body) (hn:fn.ntmps=E.sz) (hres:fn.results.toList=E.res) (hsz:sp.as.length<=E.sz) {f0:Nat}
  {n:Nat} {x:sp.D S} {y:E.rs.D S} (h:(Jj E f0 sp x).eval (Ej (E.I8 f0 J) n)=some y) {flat:Bool} {w:World} {D:Nat->Prop} {β:Nat->Nm} {vs:List SV} {o:List (Nat×Own S)} {m:Nat} {out:Out (sp.D S) (E.rs.D S)} (he:sp.enc x E.bn=(vs,o,m)) (hg:GH w (AL o β) D D o (· <m) β w) (hon:BZ (· <m) vs) (hiv:S.inv D w):
  Calls P f (AD β vs).toArray w (Ds ⟨f,E.bn,sp,E.rs,flat,out⟩ y w D β o):=by
 have hkp:CF S w (AL o β) D:=⟨hiv,fun k hk=>⟨hg.DL k hk,fun ⟨i,b,hi,hik⟩=>hg.off i b k hi hik hk⟩⟩
 have hr: ∀ y',y'=y->Qx w (AL o β) D E β (Ds ⟨f,E.bn,sp,E.rs,flat,out⟩ y w D β o) y':=by
  rintro y' rfl D' β' w' ws o' n' he' hβ hgh hon' hn'
  exact ⟨D',β',ws,o',n',he',rfl,hβ,hgh,hon',hn'⟩
 have key: ∀ n k q (h:lk E.DF k=some q) (x:q.sp.D S),Ej (E.I8 f0 J) n k (EJ E k q h x)=some y->Iz P (bodyPost P fn (Ds ⟨f,E.bn,sp,E.rs,flat,out⟩ y w D β o)) w (AL o β) D β (n*f0) E q x:=by
  intro n
  induction n with
  | zero=>intro k q h x hx;simp [Ej] at hx
  | succ n ih=>
   intro k q h x hx
   by_cases hk1:k=J.c1
   ·subst hk1
    have hq:q=J.q1:=by have:=J.h1;rw [h] at this;cases this;rfl
    subst hq
    simp only [Ej] at hx
    rw [Env.UH] at hx
    simp only [Tr.eval] at hx
    obtain ⟨z,hz,hx⟩:=Option.bind_eq_some_iff.1 hx
    have:=hJ _ _ _ _ _ _ x z hkp QZ hz (ih J.c2 J.q2 J.h2 z hx)
    intro ks ws o' n' hk hq
    exact VC.more (by rw [Nat.succ_mul];omega) (this ks ws o' n' hk hq)
   intro ks ws o' n' hk hq
   simp only [Ej] at hx
   rw [Env.Zt hk1] at hx
   obtain ⟨_,h3,_,_⟩:=hE.DF k q h
   have h2:=Tr.BA hx
   unfold Jk at h2
   rw [hk] at h2
   simp only [hq] at h2
   have:=AZ hE (Kc:=fun c x=>Ej (E.I8 f0 J) n c x=some y) (Kr:=(· =y)) f0 (fr:=⟨true,E.dr⟩) (ah hkp hE hres hr (fun c q' h' x' GV=>ih c q' h' x' GV)) true ks ⟨q.ts.zip ws,o',n',E.sz⟩ (Nat.le_trans h3 (Spec.Pj hq)) rfl (K8 hk) h2
   rw [Nat.succ_mul]
   exact this
 have h2:=Tr.BA h
 unfold Jj at h2
 rw [he] at h2
 have hvc:=AZ hE (Kc:=fun c x=>Ej (E.I8 f0 J) n c x=some y) (Kr:=(· =y)) f0 (fr:=⟨true,E.dr⟩) (ah hkp hE hres hr (fun c q' h' x' GV=>key n c q' h' x' GV)) false [.code [] E.body] ⟨Bx 0 vs,o,m,E.sz⟩ (Spec.Pj he) rfl (fun z hz=>by
  simp only [List.mem_cons,List.not_mem_nil,or_false] at hz
  subst hz
  rfl) h2
 exact VC.enter hf hb hn (by rw [Spec.Ah he];exact hsz) hon hg hvc
end
end Go.En
set_option maxRecDepth 100000
set_option maxHeartbeats 4000000
namespace Go.Proofs.Tryz
open Go Go.En
def Nf.p:Aj:=⟨[],3,⟨[.al 0 0],[⟨0,75,[.al 1 0],false⟩,CK.b1,CT.b2]⟩,⟨[.st 10],[⟨0,75,[.al 1 0],false⟩,CK.b1,CT.b2]⟩,false,[],[]⟩
theorem Nf.ok:AH Dop.D4 prog 152 Nf.p=true:=by kernel_rfl
abbrev Bo.q6:Cut:=⟨[[0,0,0,1,1,1,1],[0,1,0,1,1,1,1],[0,1,1,1,1,1]],[0,2,3,4,5,7,12,13,14],6,⟨[.al 0 0,.fd .str,.fn 152 [(2,0)],.fd (.int .i64),.fd .bool,.al 3 0,.al 4 0,.fd (.int .i64),.al 5 0],[CK.b0,CT.b1,⟨2,75,[.al 0 0],false⟩,⟨3,123,[.st 10],false⟩,⟨4,123,[.st 10],false⟩,⟨5,123,[.st 10],false⟩]⟩⟩
def Bo.p:Aj:=⟨[(6,Bo.q6)],3,⟨[.al 0 0,.st 10,.fd .str,.fn 152 [(2,0)],.fd (.int .i64),.fd .bool],[CK.b0,CT.b1,⟨2,75,[.al 0 0],false⟩]⟩,⟨[.st 10],[CK.b0,CT.b1,⟨2,75,[.al 0 0],false⟩]⟩,false,[(1,⟨[(0,true),(1,true),(2,true),(3,false),(4,true),(5,true),(6,true),(7,false),(8,true),(9,true),(10,true),(11,true),(12,true),(13,true),(14,false),(15,true),(16,false),(17,false),(18,true),(19,true)],[2000000],[0,1,3,7,15,31,63,127,255,511,1023,2047,4095,8191,16383,2047,34815,131071,262143,524287],false⟩),(7,⟨[(0,true),(1,true),(2,false),(3,true),(4,false),(5,true),(6,false),(7,false)],[8,1000000,1000003],[0,0,0,0,8,0,63,0,255],true⟩),(8,⟨[(0,true),(1,true),(2,true),(3,false),(4,true),(5,false),(6,true),(7,false),(8,true),(9,true),(10,true),(11,false),(12,false),(13,true),(14,true),(15,true),(16,false),(17,false),(18,true),(19,false),(20,false),(21,false),(22,true),(23,false),(24,true)],[25,1000000],[0,0,0,0,0,0,0,64,0,0,0,1024,3584,7680,15872,15872,48640,130560,261632,524272,1048572,2097151,0,4194304,16777215,33554431],true⟩),(11,⟨[(0,true),(1,true),(2,true),(3,true),(4,false),(5,true),(6,false),(7,true),(8,true),(9,false),(10,true),(11,false),(12,false)],[13,1000000,1000003],[0,0,0,0,12,0,32,124,0,284,0,2047,0,8191],true⟩),(12,⟨[(0,true),(1,false),(2,true),(3,false),(4,true),(5,false),(6,true),(7,true),(8,true),(9,false),(10,false),(11,true),(12,true),(13,true),(14,false),(15,false),(16,true),(17,false),(18,false),(19,true)],[1000000],[0,0,0,0,0,16,0,0,0,256,896,1920,3968,3968,12160,32640,65408,131068,262143,524287],true⟩),(13,⟨[(0,true),(1,true),(2,true),(3,true),(4,true),(5,true),(6,true),(7,true),(8,false),(9,false),(10,false),(11,false),(12,true),(13,false),(14,true)],[15,1000000],[0,0,0,0,0,0,0,0,192,496,1020,2047,0,4096,16383,32767],false⟩)],[]⟩
theorem Bo.ok:AH Dop.D4 prog 149 Bo.p=true:=by kernel_rfl
abbrev A9.q9:Cut:=⟨[[0,0,1,1,0,1,0,1,0,1,1,1],[0,1,1,1,0,1,0,1,0,1,1,1],[1,0],[0,1,1,1,1]],[2,4,5,6],5,⟨[.al 2 0,.al 3 0,.al 4 0,.fd (.int .i64)],[CK.b0,CT.b1,⟨2,75,[.al 0 0],false⟩,⟨3,123,[.st 10],false⟩,⟨4,89,[.st 5],false⟩]⟩⟩
abbrev A9.ZH:Cut:=⟨[[0,0,1,1,0,1,0,0,1,1,1,1,1,1,1,0,1,0,1,1,1],[0,1,1,1,0,1,0,0,1,1,1,1,1,1,1,0,1,0,1,1,1],[0,1,0,1,1,1,1,1,1,1,0,1,0,1,1,1],[1,0],[0,1,1,1,1]],[2,4,5,9],5,⟨[.al 2 0,.al 3 0,.al 4 0,.fd (.int .i64)],[CK.b0,CT.b1,⟨2,75,[.al 0 0],false⟩,⟨3,123,[.st 10],false⟩,⟨4,89,[.st 5],false⟩]⟩⟩
abbrev A9.pE:Cut:=⟨[[0,0,0,1,1,1,1,1,1,1,1,1,1,1,0,1,0,1,1,1],[0,1,0,1,1,1,1,1,1,1,1,1,1,1,0,1,0,1,1,1],[1,0],[0,1,1,1,1]],[1,2,4,5],5,⟨[.fd (.int .i64),.al 2 0,.al 3 0,.al 4 0],[CK.b0,CT.b1,⟨2,75,[.al 0 0],false⟩,⟨3,123,[.st 10],false⟩,⟨4,89,[.st 5],false⟩]⟩⟩
abbrev A9.pF:Cut:=⟨[[0,0,1,1,1,1,1,1,1,1,1,1,1,1,0,1,0,1,1,1],[0,1,1,1,1,1,1,1,1,1,1,1,1,1,0,1,0,1,1,1],[1,0],[0,1,1,1,1]],[1,2,4,5,36],5,⟨[.fd (.int .i64),.al 2 0,.al 3 0,.al 4 0,.fd (.int .i64)],[CK.b0,CT.b1,⟨2,75,[.al 0 0],false⟩,⟨3,123,[.st 10],false⟩,⟨4,89,[.st 5],false⟩]⟩⟩
def A9.p:Aj:=⟨[(9,A9.q9),(24,A9.ZH),(40,A9.pE),(41,A9.pF)],2,⟨[.al 0 0,.fd (.int .i64)],[CK.b0,CT.b1]⟩,⟨[.st 10],[CK.b0,CT.b1]⟩,false,[(9,⟨[(0,false),(1,true),(2,false),(3,false),(4,true),(5,true),(6,false),(7,true),(8,true)],[9,2000002],[0,0,2,7,0,0,32,96,255,511],false⟩),(15,⟨[(0,false),(1,true),(2,false),(3,false),(4,true),(5,false),(6,true),(7,false),(8,true)],[9,2000002],[0,0,2,7,0,16,0,64,255,511],false⟩),(16,⟨[(0,false),(1,false),(2,false),(3,false),(4,true),(5,false),(6,false)],[7,2000002],[0,0,0,6,0,16,63,127],true⟩),(32,⟨[(0,false),(1,true),(2,true),(3,false),(4,true),(5,true),(6,true),(7,false),(8,true),(9,true),(10,false),(11,true),(12,true),(13,false),(14,true),(15,false),(16,false),(17,true),(18,true),(19,true)],[2000002],[0,1,3,7,15,31,63,127,255,511,1023,2047,4095,8191,1023,17407,65535,131071,262143,524287],false⟩),(36,⟨[(0,false),(1,false),(2,false),(3,false),(4,true),(5,false),(6,true),(7,false),(8,false),(9,true),(10,false),(11,true)],[12,2000002],[0,0,0,0,0,16,0,124,255,0,512,2047,4095],true⟩),(37,⟨[(0,false),(1,false),(2,true),(3,false),(4,false),(5,true),(6,true),(7,false)],[8,1000005,2000002],[0,0,0,4,12,0,0,127,255],true⟩),(40,⟨[(0,false),(1,false),(2,true),(3,false),(4,false),(5,true),(6,false),(7,true),(8,true),(9,true),(10,true),(11,false),(12,true),(13,false)],[14,2000002],[0,0,0,4,14,0,32,96,0,0,0,1024,3072,8191,16383],true⟩),(51,⟨[(0,false),(1,false),(2,false),(3,false),(4,true),(5,false),(6,true),(7,false)],[8,2000002],[0,0,0,0,0,30,0,127,255],true⟩),(61,⟨[(4,false),(5,true),(6,false),(7,true),(8,false),(0,false),(1,true),(2,true),(3,false),(9,false),(10,true),(11,true),(12,true),(13,true),(14,true)],[2000002],[0,1,3,7,0,0,32,0,240,511,1023,2047,2047,4095,16383],false⟩)],[]⟩
theorem A9.ok:AH Dop.D4 prog 122 A9.p=true:=by kernel_rfl
def Hc.p:Aj:=⟨[],2,⟨[.al 0 0,.st 5,.fd (.int .i64)],[CK.b0,CT.b1]⟩,⟨[.st 10],[CK.b0,CT.b1]⟩,false,[(10,⟨[(0,true),(1,false),(2,false),(3,true),(4,true),(5,false),(6,false),(7,true)],[8,1000000],[0,0,3,0,0,16,63,127,255],true⟩),(14,⟨[(0,true),(1,false),(2,true),(3,true),(4,false),(5,false),(6,true)],[7,1000000],[0,1,0,0,8,28,63,127],false⟩),(23,⟨[(0,true),(1,true),(2,true),(3,false),(4,false),(5,true),(6,true),(7,false),(8,true),(9,false),(10,false),(11,true)],[12,1000000],[0,0,0,4,15,0,0,64,0,256,1023,2047,4095],false⟩)],[]⟩
theorem Hc.ok:AH Dop.D4 prog 147 Hc.p=true:=by kernel_rfl
def B1.p:Aj:=⟨[],2,⟨[.al 0 0,.fd (.int .i64)],[CK.b0,CT.b1]⟩,⟨[.st 10],[CK.b0,CT.b1]⟩,false,[(2,⟨[(0,true),(1,true),(2,true),(3,false),(4,true),(5,true),(6,true),(7,true),(8,true),(9,false),(10,true),(11,false),(12,false),(13,true),(14,true)],[2000000],[0,1,3,7,15,31,63,127,255,511,63,1087,4095,8191,16383],false⟩)],[]⟩
theorem B1.ok:AH Dop.D4 prog 97 B1.p=true:=by kernel_rfl
abbrev BC.q6:Cut:=⟨[[0,0,0,1,1,1,1],[0,1,0,1,1,1,1],[0,1,1,1,1,1]],[0,2,3,4,5,7,12,13,14],7,⟨[.al 0 0,.fd .str,.fn 151 [(2,0),(3,0)],.fd (.int .i64),.fd .bool,.al 4 0,.al 5 0,.fd (.int .i64),.al 6 0],[CK.b0,CT.b1,⟨2,75,[.al 0 0],false⟩,⟨3,89,[.st 5],false⟩,⟨4,123,[.st 10],false⟩,⟨5,123,[.st 10],false⟩,⟨6,123,[.st 10],false⟩]⟩⟩
def BC.p:Aj:=⟨[(6,BC.q6)],4,⟨[.al 0 0,.st 10,.fd .str,.fn 151 [(2,0),(3,0)],.fd (.int .i64),.fd .bool],[CK.b0,CT.b1,⟨2,75,[.al 0 0],false⟩,⟨3,89,[.st 5],false⟩]⟩,⟨[.st 10],[CK.b0,CT.b1,⟨2,75,[.al 0 0],false⟩,⟨3,89,[.st 5],false⟩]⟩,false,[(1,⟨[(0,true),(1,true),(2,true),(3,false),(4,true),(5,true),(6,true),(7,false),(8,true),(9,true),(10,true),(11,true),(12,true),(13,true),(14,false),(15,true),(16,false),(17,false),(18,true),(19,true)],[2000000],[0,1,3,7,15,31,63,127,255,511,1023,2047,4095,8191,16383,2047,34815,131071,262143,524287],false⟩),(7,⟨[(0,true),(1,true),(2,false),(3,true),(4,false),(5,true),(6,false),(7,false)],[8,1000000,1000003],[0,0,0,0,8,0,63,0,255],true⟩),(8,⟨[(0,true),(1,true),(2,true),(3,false),(4,true),(5,false),(6,true),(7,false),(8,true),(9,true),(10,true),(11,false),(12,false),(13,true),(14,true),(15,true),(16,false),(17,false),(18,true),(19,false),(20,false),(21,false),(22,true),(23,false),(24,true)],[25,1000000],[0,0,0,0,0,0,0,64,0,0,0,1024,3584,7680,15872,15872,48640,130560,261632,524272,1048572,2097151,0,4194304,16777215,33554431],true⟩),(11,⟨[(0,true),(1,true),(2,true),(3,true),(4,false),(5,true),(6,false),(7,true),(8,true),(9,false),(10,true),(11,false),(12,false)],[13,1000000,1000003],[0,0,0,0,12,0,32,124,0,284,0,2047,0,8191],true⟩),(12,⟨[(0,true),(1,false),(2,true),(3,false),(4,true),(5,false),(6,true),(7,true),(8,true),(9,false),(10,false),(11,true),(12,true),(13,true),(14,false),(15,false),(16,true),(17,false),(18,false),(19,true)],[1000000],[0,0,0,0,0,16,0,0,0,256,896,1920,3968,3968,12160,32640,65408,131068,262143,524287],true⟩),(13,⟨[(0,true),(1,true),(2,true),(3,true),(4,true),(5,true),(6,true),(7,true),(8,false),(9,false),(10,false),(11,false),(12,true),(13,false),(14,true)],[15,1000000],[0,0,0,0,0,0,0,0,192,496,1020,2047,0,4096,16383,32767],false⟩)],[]⟩
theorem BC.ok:AH Dop.D4 prog 149 BC.p=true:=by kernel_rfl
def KI.p:Aj:=⟨[],4,⟨[.al 0 0,.al 3 0],[⟨0,75,[.al 1 0],false⟩,CK.b1,CT.b2,⟨3,89,[.st 5],false⟩]⟩,⟨[.st 10],[⟨0,75,[.al 1 0],false⟩,CK.b1,CT.b2,⟨3,89,[.st 5],false⟩]⟩,false,[],[]⟩
theorem KI.ok:AH Dop.D4 prog 151 KI.p=true:=by kernel_rfl
def Hd.p:Aj:=⟨[],2,⟨[.al 0 0,.st 5,.fd (.int .i64)],[CK.b0,CT.b1]⟩,⟨[.st 10],[CK.b0,CT.b1]⟩,false,[(6,⟨[(0,true),(1,true),(2,true),(3,false),(4,true),(5,false),(6,true),(7,false),(8,false),(9,true),(10,true),(11,true),(12,true),(13,true),(14,true),(15,true)],[2000000],[0,1,3,7,0,16,0,64,255,511,1023,1023,1023,2047,12287,32767],false⟩),(9,⟨[(0,true),(1,true),(2,true),(3,false),(4,true),(5,true),(6,false),(7,false),(8,true),(9,false)],[10,1000000],[0,0,0,4,0,0,48,126,0,511,1023],false⟩)],[]⟩
theorem Hd.ok:AH Dop.D4 prog 155 Hd.p=true:=by kernel_rfl
abbrev Gc.q9:Cut:=⟨[[0,0,0,0,1,0,1,1,1,1,1,1],[0,1,0,0,1,0,1,1,1,1,1,1],[2,0,0,1,0,1,1,1,1,1,1],[1,0],[0,1,1,1,1,1,1,1]],[0,4,6,7,10,45,46,47],5,⟨[.al 0 0,.al 2 0,.al 3 0,.al 4 0,.own 0 3,.own 0 3,.fd (.int .i64),.fd (.int .i64)],[CK.b0,CT.b1,⟨2,89,[.st 5],false⟩,⟨3,123,[.st 10],false⟩,⟨4,93,[.st 15],false⟩]⟩⟩
def Gc.p:Aj:=⟨[(9,Gc.q9)],2,⟨[.al 0 0,.st 5,.fd (.int .i64)],[CK.b0,CT.b1]⟩,⟨[.st 10],[CK.b0,CT.b1]⟩,false,[(1,⟨[(0,true),(1,true),(2,true),(3,false),(4,true),(5,false),(6,false),(7,true),(8,true),(9,true),(10,false)],[11,12],[0,1,3,7,0,16,63,127,255,255,0,1535,4095],false⟩),(4,⟨[(0,true),(1,true),(2,true),(3,false),(4,true),(5,false),(6,false),(7,true)],[],[0,1,3,7,0,16,63,127],true⟩),(12,⟨[(0,true),(1,true),(2,false),(3,true),(4,false),(5,true),(6,false),(7,false),(8,true),(9,false),(10,false),(11,false),(12,true)],[1000000],[0,0,0,0,8,0,56,120,0,510,1022,2047,4095],true⟩),(14,⟨[(0,true),(1,true),(2,true),(3,false),(4,true),(5,false),(6,false),(7,true),(8,false),(9,true)],[10,1000000,9000000],[0,0,0,6,0,16,63,0,128,511,1023],true⟩)],[]⟩
theorem Gc.ok:AH Dop.D4 prog 156 Gc.p=true:=by kernel_rfl
abbrev BG.T:Type:=(((Unit×Int×Unit)×(CK×CT×Unit))->Option ((Dop.BM×Unit)×(CK×CT×Unit)))×(((Unit×Dop.AV×Int×Unit)×(CK×CT×Unit))->Option ((Dop.BM×Unit)×(CK×CT×Unit)))×(((Unit×Int×Unit)×(CK×CT×Unit))->Option ((Dop.BM×Unit)×(CK×CT×Unit)))×(((Unit×Dop.BM×List UInt8×Unit×Int×Bool×Unit)×(CK×CT×(Unit×Unit)×(Dop.AV×Unit)×Unit))->Option ((Dop.BM×Unit)×(CK×CT×(Unit×Unit)×(Dop.AV×Unit)×Unit)))×(((Unit×Unit×Unit)×((Unit×Unit)×CK×CT×(Dop.AV×Unit)×Unit))->Option ((Dop.BM×Unit)×((Unit×Unit)×CK×CT×(Dop.AV×Unit)×Unit)))×(((Unit×Dop.AV×Int×Unit)×(CK×CT×Unit))->Option ((Dop.BM×Unit)×(CK×CT×Unit)))×(((Unit×Dop.AV×Int×Unit)×(CK×CT×Unit))->Option ((Dop.BM×Unit)×(CK×CT×Unit)))×Unit
noncomputable def BG.ct (r:BG.T):List (BU Dop.D4):=[⟨122,A9.p.bn,A9.p.sp,A9.p.rs,A9.p.flat,.opt (r.1)⟩,⟨147,Hc.p.bn,Hc.p.sp,Hc.p.rs,Hc.p.flat,.opt (r.2.1)⟩,⟨97,B1.p.bn,B1.p.sp,B1.p.rs,B1.p.flat,.opt (r.2.2.1)⟩,⟨149,BC.p.bn,BC.p.sp,BC.p.rs,BC.p.flat,.opt (r.2.2.2.1)⟩,⟨151,KI.p.bn,KI.p.sp,KI.p.rs,KI.p.flat,.opt (r.2.2.2.2.1)⟩,⟨155,Hd.p.bn,Hd.p.sp,Hd.p.rs,Hd.p.flat,.opt (r.2.2.2.2.2.1)⟩,⟨156,Gc.p.bn,Gc.p.sp,Gc.p.rs,Gc.p.flat,.opt (r.2.2.2.2.2.2.1)⟩]
end Go.Proofs.Tryz
namespace Go.Proofs.Tryz
open Go Go.En
def C3.p:Aj:=⟨[],5,⟨[.al 0 0,.fd (.int .i64)],[⟨0,86,[.st 7,.al 1 0,.own 0 3,.own 11 83,.own 12 63,.st 0,.own 5 89,.mr (.str) 9 true 78,.mp (.str) 15 true,.rm 2,.st 11,.st 0,.rm 3,.rm 4,.st 0,.mr (.int .i64) 0 false 166,.st 0,.fd (.int .i64),.st 0],false⟩,CT.b1]⟩,⟨[.st 5],[⟨0,86,[.fd (.sl 5),.fd (.sl 6),.fd (.int .i64),.al 1 0,.own 0 3,.own 11 83,.own 12 63,.fd (.int .i64),.own 5 89,.mr (.str) 9 true 78,.mp (.str) 15 true,.rm 2,.fd .str,.fd (.int .i64),.fd (.int .i64),.fd (.int .i64),.fd (.int .i64),.fd (.int .i64),.rm 3,.rm 4,.fd (.int .i64),.mr (.int .i64) 0 false 166,.fd (.int .i64),.fd (.int .i64),.fd (.int .i64)],false⟩,CT.b1]⟩,false,[],[]⟩
noncomputable def C3.E:Env Dop.D4:=AU prog 32 tb [] C3.p
theorem C3.ok:AH Dop.D4 prog 32 C3.p=true:=by kernel_rfl
noncomputable def C3.c:BU Dop.D4:=⟨32,C3.p.bn,C3.p.sp,C3.p.rs,C3.p.flat,.opt (C3.E.run 3000 C3.p.sp)⟩
theorem C3.holds:C3.c.Holds prog:=BP 3000 AJ Am C3.ok
noncomputable def C3 (n:Int) (b0_0:Dop.HW) (b0_2:List Int) (b0_3:List (Dop.Ey)) (b0_4:List (Dop.PX)) (b0_5:Int) (b0_6:List Dop.AV) (b0_7:List (List (List UInt8×Dop.EB))) (b0_8:List (List UInt8×Dop.Pa)) (b0_10:Dop.Ey) (b0_11:Int) (b0_14:Int) (b0_15:List (List (Int×Int))) (b0_16:Int) (b0_17:Int) (b0_18:Int) (k1:CT):Option ((Dop.AV×Unit)×((List Dop.AV×List Dop.Fp×Int×Unit×List Int×List (Dop.Ey)×List (Dop.PX)×Int×List Dop.AV×List (List (List UInt8×Dop.EB))×List (List UInt8×Dop.Pa)×Unit×List UInt8×Int×Int×Int×Int×Int×Unit×Unit×Int×List (List (Int×Int))×Int×Int×Int×Unit)×CT×Unit)):=C3.E.run 3000 C3.p.sp (((),n,()),((b0_0,(),b0_2,b0_3,b0_4,b0_5,b0_6,b0_7,b0_8,(),b0_10,b0_11,(),(),b0_14,b0_15,b0_16,b0_17,b0_18,()),k1,()))
theorem bO (n:Int) (b0_0:Dop.HW) (b0_2:List Int) (b0_3:List (Dop.Ey)) (b0_4:List (Dop.PX)) (b0_5:Int) (b0_6:List Dop.AV) (b0_7:List (List (List UInt8×Dop.EB))) (b0_8:List (List UInt8×Dop.Pa)) (b0_10:Dop.Ey) (b0_11:Int) (b0_14:Int) (b0_15:List (List (Int×Int))) (b0_16:Int) (b0_17:Int) (b0_18:Int) (k1:CT):C3 n b0_0 b0_2 b0_3 b0_4 b0_5 b0_6 b0_7 b0_8 b0_10 b0_11 b0_14 b0_15 b0_16 b0_17 b0_18 k1=
 if (decide (n<(0:Int)))=true then
  some ((Dop.AV.mk (0:Int) (-1:Int) (-1:Int) (-1:Int) (-1:Int) (@List.nil UInt8) (0:Int) (0:Int) (0:Int),()),((b0_0.nodes,(b0_0.types,(b0_0.top,((),(b0_2,(b0_3,(b0_4,(b0_5,(b0_6,(b0_7,(b0_8,((),(b0_10.name,(b0_10.params,(b0_10.A7,(b0_10.frame,(b0_10.body,(b0_11,((),((),(b0_14,(b0_15,(b0_16,(b0_17,(b0_18,()))))))))))))))))))))))))),(k1,())))
 else
  if (decide (I b0_0.nodes.length<=n))=true then
  some ((Dop.AV.mk (0:Int) (-1:Int) (-1:Int) (-1:Int) (-1:Int) (@List.nil UInt8) (0:Int) (0:Int) (0:Int),()),((b0_0.nodes,(b0_0.types,(b0_0.top,((),(b0_2,(b0_3,(b0_4,(b0_5,(b0_6,(b0_7,(b0_8,((),(b0_10.name,(b0_10.params,(b0_10.A7,(b0_10.frame,(b0_10.body,(b0_11,((),((),(b0_14,(b0_15,(b0_16,(b0_17,(b0_18,()))))))))))))))))))))))))),(k1,())))
  else
  if (decide ((0:Int)<=n/\n<I b0_0.nodes.length))=true then
  some ((@List.getD Dop.AV b0_0.nodes n.toNat Dop.d5,()),((b0_0.nodes,(b0_0.types,(b0_0.top,((),(b0_2,(b0_3,(b0_4,(b0_5,(b0_6,(b0_7,(b0_8,((),(b0_10.name,(b0_10.params,(b0_10.A7,(b0_10.frame,(b0_10.body,(b0_11,((),((),(b0_14,(b0_15,(b0_16,(b0_17,(b0_18,()))))))))))))))))))))))))),(k1,())))
  else none:=by kernel_rfl
end Go.Proofs.Tryz
namespace Go.Proofs.Tryz
open Go Go.En
def Ni.p:Aj:=⟨[],3,⟨[.al 0 0,.fd (.int .i64)],[⟨0,86,[.st 7,.al 1 0,.own 0 3,.own 11 83,.own 12 63,.st 0,.own 5 89,.rw 2,.mp (.str) 15 true,.mp (.str) 0 false,.st 11,.st 0,.mp (.str) 0 false,.mp (.str) 0 false,.st 0,.mr (.int .i64) 0 false 166,.st 0,.fd (.int .i64),.st 0],false⟩,CT.b1,⟨2,79,[.mr (.str) 9 true 78],true⟩]⟩,⟨[.st 5],[⟨0,86,[.fd (.sl 5),.fd (.sl 6),.fd (.int .i64),.al 1 0,.own 0 3,.own 11 83,.own 12 63,.fd (.int .i64),.own 5 89,.rw 2,.mp (.str) 15 true,.mp (.str) 0 false,.fd .str,.fd (.int .i64),.fd (.int .i64),.fd (.int .i64),.fd (.int .i64),.fd (.int .i64),.mp (.str) 0 false,.mp (.str) 0 false,.fd (.int .i64),.mr (.int .i64) 0 false 166,.fd (.int .i64),.fd (.int .i64),.fd (.int .i64)],false⟩,CT.b1,⟨2,0,[.mr (.str) 9 true 78],true⟩]⟩,false,[],[]⟩
theorem Ni.ok:AH Dop.D4 prog 32 Ni.p=true:=by kernel_rfl
end Go.Proofs.Tryz
namespace Go.Proofs.Tryz
open Go Go.En
def Na.p:Aj:=⟨[],0,⟨[.fd (.sl 16)],[]⟩,⟨[.own 16 120],[]⟩,true,[],[]⟩
theorem Na.ok:AH Dop.D4 prog 92 Na.p=true:=by kernel_rfl
abbrev G9.q7:Cut:=⟨[[0,0,0,0,1,0,1,1,1,1],[0,1,0,0,1,0,1,1,1,1],[2,0,0,1,0,1,1,1,1],[1,0],[0,1,1,1,1,1]],[0,1,2,10,11,38,39,40],1,⟨[.al 0 0,.fd .str,.fd (.sl 16),.fd .bool,.mp (.str) 0 false,.fd (.sl 16),.fd (.int .i64),.fd (.int .i64)],[CT.b0]⟩⟩
abbrev G9.gC:Cut:=⟨[[0,0,0,0,1,0,1,1,1,1,1,1,1],[0,1,0,0,1,0,1,1,1,1,1,1,1],[2,0,0,1,0,1,1,1,1,1,1,1],[1,2],[0,1,1,1,1,1,1,1,1]],[0,1,2,14,64,65,66],1,⟨[.al 0 0,.fd .str,.fd (.sl 16),.fd (.int .i64),.fd (.sl 16),.fd (.int .i64),.fd (.int .i64)],[CT.b0]⟩⟩
def G9.p:Aj:=⟨[(7,G9.q7),(16,G9.gC)],1,⟨[.al 0 0,.fd .str,.fd (.sl 16)],[CT.b0]⟩,⟨[.fd (.int .i64)],[CT.b0]⟩,false,[(27,⟨[(0,true),(1,true),(2,true),(3,false),(4,true),(5,true),(6,false)],[7],[0,1,3,7,0,0,32,127],false⟩)],[]⟩
theorem G9.ok:AH Dop.D4 prog 49 G9.p=true:=by kernel_rfl
end Go.Proofs.Tryz
namespace Go.Proofs.Tryz
open Go Go.En
abbrev Bz.q4:Cut:=⟨[[0,0,0,0,1,1,1],[0,1,0,0,1,1,1],[2,0,0,1,1,1],[1,0]],[0,45,46],2,⟨[.al 0 0,.st 8,.fd (.int .i64)],[CK.b0,CT.b1]⟩⟩
def Bz.p:Aj:=⟨[(4,Bz.q4)],2,⟨[.al 0 0,.fd (.int .i64)],[CK.b0,CT.b1]⟩,⟨[],[CK.b0,CT.b1]⟩,false,[(2,⟨[(0,true),(1,true),(2,true),(4,true),(5,true),(6,false),(7,false),(8,true),(3,false),(9,false),(10,true)],[11,1000000],[0,1,3,7,0,0,32,112,240,511,1023,2047],false⟩)],[]⟩
theorem Bz.ok:AH Dop.D4 prog 56 Bz.p=true:=by kernel_rfl
abbrev Dy.T:Type:=(((Unit×Int×Unit)×(CK×CT×Unit))->Option (Unit×(CK×CT×Unit)))×Unit
end Go.Proofs.Tryz
namespace Go.Proofs.Tryz
open Go Go.En
def HA.p:Aj:=⟨[],2,⟨[.al 0 0,.fd .str,.fd (.int .i64),.fd (.int .i64),.fd .bool],[CK.b0,CT.b1]⟩,⟨[.st 9,.fd .bool],[CK.b0,CT.b1]⟩,false,[(2,⟨[(0,true),(1,true),(2,true),(3,false),(4,true),(5,true),(6,true),(7,false),(8,false),(9,true),(10,false),(11,false),(12,true)],[],[0,1,3,7,0,16,48,112,240,496,1023,2047,4095],false⟩),(13,⟨[(0,true),(1,true),(2,true),(3,true),(4,false),(5,true),(6,false),(7,true)],[8,1000017],[0,1,3,7,15,0,32,127,255],false⟩),(18,⟨[(0,false),(1,true),(2,true),(3,true),(4,false),(5,true),(6,false),(7,true)],[1000010],[0,0,2,6,14,30,1,127],false⟩)],[(50,[]),(94,[])]⟩
theorem HA.ok:AH Dop.D4 prog 57 HA.p=true:=by kernel_rfl
end Go.Proofs.Tryz
namespace Go.Proofs
open Go Go.En
abbrev CH:Type:=En.Dop.HW×Unit×List (Int)×List (En.Dop.Ey)×List (En.Dop.PX)×Int×List (En.Dop.AV)×List (List (List UInt8×En.Dop.EB))×List (List UInt8×En.Dop.Pa)×Unit×En.Dop.Ey×Int×Unit×Unit×Int×List (List (Int×Int))×Int×Int×Int×Unit
abbrev CH.t (k:CH):En.Dop.HW:=k.1
abbrev CH.num (k:CH):List (Int):=k.2.2.1
abbrev CH.OF (k:CH) (v:List (Int)):CH:=(k.1,k.2.1,v,k.2.2.2)
abbrev CH.funcs (k:CH):List (En.Dop.Ey):=k.2.2.2.1
abbrev CH.globals (k:CH):List (En.Dop.PX):=k.2.2.2.2.1
abbrev CH.top (k:CH):Int:=k.2.2.2.2.2.1
abbrev CH.nodes (k:CH):List (En.Dop.AV):=k.2.2.2.2.2.2.1
abbrev CH.names (k:CH):List (List (List UInt8×En.Dop.EB)):=k.2.2.2.2.2.2.2.1
abbrev CH.sigs (k:CH):List (List UInt8×En.Dop.Pa):=k.2.2.2.2.2.2.2.2.1
abbrev CH.Jh (k:CH) (v:List (List UInt8×En.Dop.Pa)):CH:=(k.1,k.2.1,k.2.2.1,k.2.2.2.1,k.2.2.2.2.1,k.2.2.2.2.2.1,k.2.2.2.2.2.2.1,k.2.2.2.2.2.2.2.1,v,k.2.2.2.2.2.2.2.2.2)
abbrev CH.loops (k:CH):Int:=k.2.2.2.2.2.2.2.2.2.2.2.2.2.2.1
abbrev CH.SM (k:CH):List (List (Int×Int)):=k.2.2.2.2.2.2.2.2.2.2.2.2.2.2.2.1
abbrev CH.Qu (k:CH):Int:=k.2.2.2.2.2.2.2.2.2.2.2.2.2.2.2.2.1
abbrev CH.e (k:CH):Int:=k.2.2.2.2.2.2.2.2.2.2.2.2.2.2.2.2.2.1
abbrev CH.Wi (k:CH) (v:Int):CH:=(k.1,k.2.1,k.2.2.1,k.2.2.2.1,k.2.2.2.2.1,k.2.2.2.2.2.1,k.2.2.2.2.2.2.1,k.2.2.2.2.2.2.2.1,k.2.2.2.2.2.2.2.2.1,k.2.2.2.2.2.2.2.2.2.1,k.2.2.2.2.2.2.2.2.2.2.1,k.2.2.2.2.2.2.2.2.2.2.2.1,k.2.2.2.2.2.2.2.2.2.2.2.2.1,k.2.2.2.2.2.2.2.2.2.2.2.2.2.1,k.2.2.2.2.2.2.2.2.2.2.2.2.2.2.1,k.2.2.2.2.2.2.2.2.2.2.2.2.2.2.2.1,k.2.2.2.2.2.2.2.2.2.2.2.2.2.2.2.2.1,v,k.2.2.2.2.2.2.2.2.2.2.2.2.2.2.2.2.2.2)
abbrev CH.when (k:CH):Int:=k.2.2.2.2.2.2.2.2.2.2.2.2.2.2.2.2.2.2.1
abbrev CH.Fi (k:CH) (v:Int):CH:=(k.1,k.2.1,k.2.2.1,k.2.2.2.1,k.2.2.2.2.1,k.2.2.2.2.2.1,k.2.2.2.2.2.2.1,k.2.2.2.2.2.2.2.1,k.2.2.2.2.2.2.2.2.1,k.2.2.2.2.2.2.2.2.2.1,k.2.2.2.2.2.2.2.2.2.2.1,k.2.2.2.2.2.2.2.2.2.2.2.1,k.2.2.2.2.2.2.2.2.2.2.2.2.1,k.2.2.2.2.2.2.2.2.2.2.2.2.2.1,k.2.2.2.2.2.2.2.2.2.2.2.2.2.2.1,k.2.2.2.2.2.2.2.2.2.2.2.2.2.2.2.1,k.2.2.2.2.2.2.2.2.2.2.2.2.2.2.2.2.1,k.2.2.2.2.2.2.2.2.2.2.2.2.2.2.2.2.2.1,v,k.2.2.2.2.2.2.2.2.2.2.2.2.2.2.2.2.2.2.2)
abbrev CH.b0:En.Gx:=⟨0,86,[.st 7,.al 1 0,.own 0 3,.own 11 83,.own 12 63,.st 0,.own 5 89,.mr (.str) 9 true 78,.mp (.str) 15 true,.hm,.st 11,.st 0,.hm,.hm,.st 0,.mr (.int .i64) 0 false 166,.st 0,.fd (.int .i64),.st 0],false⟩
abbrev CH.b1:En.Gx:=⟨1,86,[.st 7,.al 2 0,.own 0 3,.own 11 83,.own 12 63,.st 0,.own 5 89,.mr (.str) 9 true 78,.mp (.str) 15 true,.hm,.st 11,.st 0,.hm,.hm,.st 0,.mr (.int .i64) 0 false 166,.st 0,.fd (.int .i64),.st 0],false⟩
abbrev CH.b2:En.Gx:=⟨2,86,[.st 7,.al 3 0,.own 0 3,.own 11 83,.own 12 63,.st 0,.own 5 89,.mr (.str) 9 true 78,.mp (.str) 15 true,.hm,.st 11,.st 0,.hm,.hm,.st 0,.mr (.int .i64) 0 false 166,.st 0,.fd (.int .i64),.st 0],false⟩
end Go.Proofs
namespace Go.Proofs.Tryz
open Go Go.En
def Hf.p:Aj:=⟨[],2,⟨[.al 0 0,.fd (.int .i64)],[CH.b0,CT.b1]⟩,⟨[.st 5],[CH.b0,CT.b1]⟩,false,[],[]⟩
theorem Hf.ok:AH Dop.D4 prog 32 Hf.p=true:=by kernel_rfl
def Dv.p:Aj:=⟨[],2,⟨[.al 0 0,.fd (.int .i64),.fd (.int .i64)],[CH.b0,CT.b1]⟩,⟨[.st 10],[CH.b0,CT.b1]⟩,false,[],[]⟩
theorem Dv.ok:AH Dop.D4 prog 50 Dv.p=true:=by kernel_rfl
abbrev Ba.q2:Cut:=⟨[[0,0,0,0,0,1,0,1],[0,1,0,0,0,1,0,1],[0,1,0,0,1,0,1],[2,0,0,1,0,1],[1,0],[0,1,1]],[0,1,2,7],2,⟨[.al 0 0,.fd (.int .i64),.fd (.int .i64),.fd (.int .i64)],[CH.b0,CT.b1]⟩⟩
abbrev Ba.aB:Cut:=⟨[[0,0,0,1,1,1,0,0,1,0,0,1,0,1],[0,1,0,1,1,1,0,0,1,0,0,1,0,1],[0,1,1,1,1,0,0,1,0,0,1,0,1],[1,1],[0,1,1,0,0,1,0,1],[2,0,0,1,0,1],[1,0],[0,1,1]],[0,1,2,7,9,10],2,⟨[.al 0 0,.fd (.int .i64),.fd (.int .i64),.fd (.int .i64),.fd (.int .i64),.fd (.int .i64)],[CH.b0,CT.b1]⟩⟩
def Ba.p:Aj:=⟨[(2,Ba.q2),(13,Ba.aB)],2,⟨[.al 0 0,.fd (.int .i64),.fd (.int .i64)],[CH.b0,CT.b1]⟩,⟨[.fd (.int .i64)],[CH.b0,CT.b1]⟩,false,[(8,⟨[(0,true),(1,true),(2,true),(3,false),(4,true),(5,true),(6,true),(7,false),(8,true),(9,false),(10,false),(11,false),(12,false),(13,true),(14,true),(15,true),(16,true),(17,true)],[2000000],[0,1,3,7,0,16,48,112,0,256,1008,2032,4095,8191,16383,16383,32767,131071],false⟩),(10,⟨[(0,true),(1,true),(2,true),(3,false),(4,true),(5,true),(6,true),(7,false),(8,true),(9,false),(10,false),(11,false),(12,true),(13,false),(14,false),(15,true),(16,true),(17,true),(18,true),(19,true)],[2000000],[0,1,3,7,0,16,48,112,0,256,1008,2032,0,4096,16383,32767,65535,65535,131071,524287],false⟩),(12,⟨[(0,true),(1,true),(2,true),(3,false),(4,true),(5,false),(6,false),(7,true),(8,true),(9,true),(10,true),(11,true)],[2000000],[0,1,3,7,0,16,63,127,255,255,511,2047],false⟩)],[]⟩
theorem Ba.ok:AH Dop.D4 prog 48 Ba.p=true:=by kernel_rfl
abbrev IB.q3:Cut:=⟨[[0,0,0,0,1,0,1,1],[0,1,0,0,1,0,1,1],[2,0,0,1,0,1,1],[1,0],[0,1,1,1]],[0,2,4,6,16,17,18],3,⟨[.al 0 0,.fd (.int .i64),.al 2 0,.own 16 120,.own 0 3,.fd (.int .i64),.fd (.int .i64)],[CH.b0,CT.b1,⟨2,89,[.st 5],false⟩]⟩⟩
def IB.p:Aj:=⟨[(3,IB.q3)],2,⟨[.al 0 0,.st 5,.fd (.int .i64)],[CH.b0,CT.b1]⟩,⟨[],[CH.b0,CT.b1]⟩,false,[(2,⟨[(0,true),(1,true),(2,true),(3,false),(4,true),(5,false),(6,false),(7,false),(8,true)],[],[0,1,3,7,0,16,63,127,0],true⟩),(8,⟨[(0,true),(1,true),(2,true),(3,false),(4,true),(5,false),(6,true),(7,false),(8,true)],[2000000,9000000],[0,1,3,7,0,16,0,127,255],true⟩)],[]⟩
theorem IB.ok:AH Dop.D4 prog 33 IB.p=true:=by kernel_rfl
def GZ.p:Aj:=⟨[],2,⟨[.al 0 0,.fd (.int .i64)],[CH.b0,CT.b1]⟩,⟨[.fd (.int .i64)],[CH.b0,CT.b1]⟩,false,[],[]⟩
theorem GZ.ok:AH Dop.D4 prog 54 GZ.p=true:=by kernel_rfl
def H2.p:Aj:=⟨[],2,⟨[.al 0 0,.fd (.int .i64)],[CH.b0,CT.b1]⟩,⟨[.fd .bool],[CH.b0,CT.b1]⟩,false,[],[]⟩
theorem H2.ok:AH Dop.D4 prog 52 H2.p=true:=by kernel_rfl
abbrev IC.gB:Cut:=⟨[[0,0,1,1,1,1,1,1,1,1],[0,1,1,1,1,1,1,1,1,1]],[0,4,6,7,13],3,⟨[.al 0 0,.al 2 0,.fd (.int .i64),.fd (.int .i64),.fd (.int .i64)],[CH.b0,CT.b1,⟨2,89,[.st 5],false⟩]⟩⟩
def IC.p:Aj:=⟨[(15,IC.gB)],2,⟨[.al 0 0,.st 5,.fd (.int .i64)],[CH.b0,CT.b1]⟩,⟨[],[CH.b0,CT.b1]⟩,false,[(3,⟨[(0,true),(1,true),(2,true),(3,false),(4,false),(5,false),(6,true),(7,false),(8,false),(9,true),(10,true),(11,true),(12,false)],[13,14],[0,1,3,7,15,31,0,64,255,511,1023,1023,0,6143,16383],false⟩),(4,⟨[(0,true),(1,true),(2,true),(3,false),(4,true),(5,false),(6,false),(7,true),(8,true),(9,true),(10,false)],[11,12],[0,1,3,7,0,16,63,127,255,255,0,1535,4095],false⟩),(15,⟨[(0,true),(1,true),(2,true),(3,false),(4,false),(5,false),(6,true),(7,false),(8,true),(9,true),(10,true),(11,true),(12,false),(13,true),(14,true)],[15],[0,1,3,7,15,31,0,64,0,256,768,1792,3840,0,16128,32767],false⟩),(16,⟨[(0,true),(1,true),(2,true),(3,true),(4,true),(5,false),(6,true),(7,false),(8,true),(9,true),(10,true),(11,true),(12,false),(13,true),(14,true),(15,true),(16,false)],[17,18,19,20,21],[0,0,2,6,14,30,0,64,0,256,768,1792,3840,0,0,32704,65472,131070,262143,524287,1048575,2097151],false⟩)],[]⟩
theorem IC.ok:AH Dop.D4 prog 34 IC.p=true:=by kernel_rfl
abbrev Dh.q7:Cut:=⟨[[0,0,0,1,1,1,1,1,1],[0,1,0,1,1,1,1,1,1],[0,1,1,1,1,1,1,1]],[0,2,4,6,11],4,⟨[.al 0 0,.fd (.int .i64),.al 2 0,.al 3 0,.own 0 3],[CH.b0,CT.b1,⟨2,89,[.st 5],false⟩,⟨3,93,[.own 0 3,.fd (.int .i64)],false⟩]⟩⟩
abbrev Dh.WK:Cut:=⟨[[0,0,0,0,1,0,1,1,1,1,1,1,1],[0,1,0,0,1,0,1,1,1,1,1,1,1],[2,0,0,1,0,1,1,1,1,1,1,1],[1,0],[0,1,1,1,1,1,1,1,1]],[0,2,4,6,85,86,87],4,⟨[.al 0 0,.fd (.int .i64),.al 2 0,.al 3 0,.own 0 3,.fd (.int .i64),.fd (.int .i64)],[CH.b0,CT.b1,⟨2,89,[.st 5],false⟩,⟨3,93,[.own 0 3,.fd (.int .i64)],false⟩]⟩⟩
def Dh.p:Aj:=⟨[(7,Dh.q7),(10,Dh.WK)],2,⟨[.al 0 0,.st 5,.fd (.int .i64)],[CH.b0,CT.b1]⟩,⟨[],[CH.b0,CT.b1]⟩,false,[(2,⟨[(0,true),(1,true),(2,true),(3,false),(4,true),(5,false),(6,false),(7,true),(8,true),(9,true),(10,false)],[11,12],[0,1,3,7,0,16,63,127,255,255,0,1535,4095],false⟩),(3,⟨[(0,true),(1,true),(2,true),(3,false),(4,false),(5,false),(6,true),(7,false),(8,false),(9,true),(10,true),(11,true),(12,false)],[13,14],[0,1,3,7,15,31,0,64,255,511,1023,1023,0,6143,16383],false⟩),(4,⟨[(0,true),(1,true),(2,true),(3,false),(4,true),(5,false),(6,false),(7,true)],[],[0,1,3,7,0,16,63,127],true⟩),(17,⟨[(0,true),(1,true),(2,true),(3,false),(4,true),(5,true),(6,true),(7,false),(8,true),(9,true),(10,true),(11,true),(12,true),(13,true),(14,false),(15,true),(16,false),(17,false),(18,true),(19,true)],[2000000],[0,1,3,7,15,31,63,127,255,511,1023,2047,4095,8191,16383,2047,34815,131071,262143,524287],false⟩),(19,⟨[(0,true),(1,true),(2,true),(3,false),(4,true),(5,false),(6,false)],[7],[0,1,3,7,0,16,0,127],false⟩)],[]⟩
theorem Dh.ok:AH Dop.D4 prog 35 Dh.p=true:=by kernel_rfl
end Go.Proofs.Tryz
namespace Go.Proofs.Tryz
open Go Go.En
def KD.p:Aj:=⟨[],2,⟨[.al 0 0,.fd (.int .i64)],[CK.b0,CT.b1]⟩,⟨[.fd (.int .i64)],[CK.b0,CT.b1]⟩,false,[],[]⟩
theorem KD.ok:AH Dop.D4 prog 96 KD.p=true:=by kernel_rfl
def KF.p:Aj:=⟨[],2,⟨[.al 0 0,.st 5,.fd (.int .i64)],[CK.b0,CT.b1]⟩,⟨[.fd (.int .i64)],[CK.b0,CT.b1]⟩,false,[(6,⟨[(0,true),(1,true),(2,false),(3,true),(4,true),(5,true),(6,false),(7,true),(8,false),(9,false),(10,true)],[1000000],[0,0,0,0,8,24,56,0,254,511,1023],true⟩)],[]⟩
theorem KF.ok:AH Dop.D4 prog 99 KF.p=true:=by kernel_rfl
def JU.p:Aj:=⟨[],2,⟨[.al 0 0,.st 5,.fd (.int .i64)],[CK.b0,CT.b1]⟩,⟨[.fd (.int .i64)],[CK.b0,CT.b1]⟩,false,[(17,⟨[(0,true),(1,true),(2,false),(3,true),(4,false),(5,true),(6,true),(7,false),(8,false),(9,false),(10,true)],[1000000],[0,0,0,0,0,0,0,120,254,511,1023],true⟩)],[]⟩
theorem JU.ok:AH Dop.D4 prog 103 JU.p=true:=by kernel_rfl
abbrev Br.o8:Cut:=⟨[[0,0,0,0,1,1,1,1,1,1,1,1,1,1,1,0,1,0,1,1,1],[0,1,0,0,1,1,1,1,1,1,1,1,1,1,1,0,1,0,1,1,1],[0,1,0,1,1,1,1,1,1,1,1,1,1,1,0,1,0,1,1,1],[1,0],[0,1,1,1,1]],[1,2,5],4,⟨[.fd (.int .i64),.al 2 0,.al 3 0],[CK.b0,CT.b1,⟨2,75,[.al 0 0],false⟩,⟨3,89,[.st 5],false⟩]⟩⟩
abbrev Br.o9:Cut:=⟨[[0,0,1,1,1,1,1,1,1,1,1,1,1,1,0,1,0,1,1,1],[0,1,1,1,1,1,1,1,1,1,1,1,1,1,0,1,0,1,1,1],[1,0],[0,1,1,1,1]],[1,2,5,27],4,⟨[.fd (.int .i64),.al 2 0,.al 3 0,.fd (.int .i64)],[CK.b0,CT.b1,⟨2,75,[.al 0 0],false⟩,⟨3,89,[.st 5],false⟩]⟩⟩
def Br.p:Aj:=⟨[(27,Br.o8),(30,Br.o9)],2,⟨[.al 0 0,.fd (.int .i64)],[CK.b0,CT.b1]⟩,⟨[.fd (.int .i64)],[CK.b0,CT.b1]⟩,false,[(6,⟨[(0,false),(1,false),(2,true),(3,false),(4,false),(5,false),(6,true)],[2000002],[0,0,0,4,14,31,63],false⟩),(15,⟨[(0,false),(1,true),(2,false),(3,true),(4,false),(5,false),(6,false),(7,true)],[2000002],[0,0,0,0,8,28,63,127],false⟩),(18,⟨[(0,false),(1,false),(2,true),(3,false),(4,false),(5,true),(6,true),(7,false),(8,true)],[2000002],[0,0,0,4,14,30,0,127,255],false⟩),(24,⟨[(0,false),(1,true),(2,true),(3,true),(4,false),(5,true),(6,false),(7,false),(8,false),(9,true)],[2000002],[0,0,0,0,0,0,32,112,255,511],false⟩),(33,⟨[(0,false),(1,true),(2,true),(3,false),(4,true),(5,false),(6,false),(7,true),(8,true),(9,true),(10,true),(11,true)],[],[0,1,3,7,0,16,63,127,255,255,511,2047],false⟩),(35,⟨[(0,false),(1,true),(2,true),(3,false),(4,true),(5,false),(6,true)],[7],[0,1,3,7,0,16,0,127],false⟩),(38,⟨[(0,false),(1,true),(2,true),(3,false),(4,true),(5,false),(6,false),(7,true)],[8],[0,1,3,7,0,16,63,127,255],false⟩),(39,⟨[(0,false),(1,true),(2,true),(3,false),(4,true),(5,false),(6,false),(7,true)],[],[0,1,3,7,0,16,63,127],false⟩),(41,⟨[(0,false),(1,false),(2,true),(3,false),(4,false),(5,true),(6,false),(7,false),(8,true)],[2000002],[0,0,0,4,14,0,32,127,255],false⟩),(44,⟨[(0,false),(1,false),(2,true),(3,true),(4,false),(5,false),(6,false),(7,false),(8,true),(9,true)],[10,2000002],[0,0,2,6,14,0,32,126,255,511,1023],false⟩),(48,⟨[(0,false),(1,false),(2,true),(3,true),(4,false),(5,false),(6,true),(7,true),(8,false),(9,false),(10,true),(11,false),(12,true),(13,true)],[14,2000002],[0,0,2,6,14,0,32,96,224,480,992,2046,4095,8191,16383],false⟩)],[(101,[(3,⟨[(0,true),(1,true),(2,true),(3,true),(4,false),(5,true),(6,true),(7,true),(8,false),(9,false),(10,true)],[11,12,13,14],[0,0,2,6,14,0,32,96,224,480,992,2046,4095,8191,16383],false⟩)])]⟩
theorem Br.ok:AH Dop.D4 prog 62 Br.p=true:=by kernel_rfl
def HG.p:Aj:=⟨[],2,⟨[.al 0 0,.fd (.int .i64)],[CK.b0,CT.b1]⟩,⟨[.fd (.int .i64)],[CK.b0,CT.b1]⟩,false,[],[]⟩
theorem HG.ok:AH Dop.D4 prog 98 HG.p=true:=by kernel_rfl
def HZ.p:Aj:=⟨[],2,⟨[.al 0 0,.st 5,.fd (.int .i64)],[CK.b0,CT.b1]⟩,⟨[.fd (.int .i64)],[CK.b0,CT.b1]⟩,false,[(6,⟨[(0,true),(1,true),(2,true),(3,false),(4,true),(5,true),(6,true),(7,false),(8,false),(9,true),(10,false),(11,false),(12,true)],[],[0,1,3,7,0,16,48,112,240,496,1023,2047,4095],false⟩),(12,⟨[(0,true),(1,true),(2,false),(3,true),(4,true),(5,false),(6,false),(7,true),(8,false),(9,true)],[1000000],[0,0,2,0,0,16,56,0,255,511],false⟩)],[]⟩
theorem HZ.ok:AH Dop.D4 prog 100 HZ.p=true:=by kernel_rfl
abbrev DN.q3:Cut:=⟨[[0,0,0,0,1,0,1,1],[0,1,0,0,1,0,1,1],[2,0,0,1,0,1,1],[1,0],[0,1,1,1]],[0,3,12,13,14],4,⟨[.al 0 0,.own 0 3,.own 0 3,.fd (.int .i64),.fd (.int .i64)],[⟨0,75,[.al 1 0],false⟩,CK.b1,CT.b2,⟨3,89,[.st 5],false⟩]⟩⟩
def DN.p:Aj:=⟨[(3,DN.q3)],4,⟨[.al 0 0,.al 3 0],[⟨0,75,[.al 1 0],false⟩,CK.b1,CT.b2,⟨3,89,[.st 5],false⟩]⟩,⟨[.fd (.int .i64)],[⟨0,75,[.al 1 0],false⟩,CK.b1,CT.b2,⟨3,89,[.st 5],false⟩]⟩,false,[(2,⟨[(0,false),(1,true),(2,true),(3,false),(4,true),(5,false),(6,false),(7,false),(8,true)],[],[0,1,3,7,0,16,63,127,0],true⟩),(7,⟨[(0,false),(1,false),(2,true),(3,false),(4,false),(5,true)],[2000000,9000000],[0,0,0,6,15,31],true⟩)],[]⟩
theorem DN.ok:AH Dop.D4 prog 102 DN.p=true:=by kernel_rfl
abbrev Cl.T:Type:=(((Unit×Int×Unit)×(CK×CT×Unit))->Option ((Int×Unit)×(CK×CT×Unit)))×(((Unit×Int×Unit)×(CK×CT×Unit))->Option ((Int×Unit)×(CK×CT×Unit)))×(((Unit×Dop.AV×Int×Unit)×(CK×CT×Unit))->Option ((Int×Unit)×(CK×CT×Unit)))×(((Unit×Unit×Unit)×((Unit×Unit)×CK×CT×(Dop.AV×Unit)×Unit))->Option ((Int×Unit)×((Unit×Unit)×CK×CT×(Dop.AV×Unit)×Unit)))×Unit
noncomputable def Cl.ct (r:Cl.T):List (BU Dop.D4):=[⟨62,Br.p.bn,Br.p.sp,Br.p.rs,Br.p.flat,.opt (r.1)⟩,⟨98,HG.p.bn,HG.p.sp,HG.p.rs,HG.p.flat,.opt (r.2.1)⟩,⟨100,HZ.p.bn,HZ.p.sp,HZ.p.rs,HZ.p.flat,.opt (r.2.2.1)⟩,⟨102,DN.p.bn,DN.p.sp,DN.p.rs,DN.p.flat,.opt (r.2.2.2.1)⟩]
end Go.Proofs.Tryz
namespace Go.Proofs.Tryz
open Go Go.En
abbrev Dw.q9:Cut:=⟨[[0,0,0,0,1,0,1,1,1,1,1,1,1,1],[0,1,0,0,1,0,1,1,1,1,1,1,1,1],[2,0,0,1,0,1,1,1,1,1,1,1,1],[1,0],[0,1,1,1,1,1,1,1,1,1]],[0,4,6,89,90,91],3,⟨[.al 0 0,.al 2 0,.own 0 3,.own 0 3,.fd (.int .i64),.fd (.int .i64)],[CK.b0,CT.b1,⟨2,89,[.st 5],false⟩]⟩⟩
abbrev Dw.ZH:Cut:=⟨[[0,0,1,1,1,1,1,1,1,1,1,1,1],[0,1,1,1,1,1,1,1,1,1,1,1,1]],[0,6,15],2,⟨[.al 0 0,.own 0 3,.fd (.int .i64)],[CK.b0,CT.b1]⟩⟩
abbrev Dw.Wf:Cut:=⟨[[0,1,1,1,1,1,1,1,1,1,1,1,1,1,1]],[0,6,15],2,⟨[.al 0 0,.own 0 3,.fd (.int .i64)],[CK.b0,CT.b1]⟩⟩
def Dw.p:Aj:=⟨[(9,Dw.q9),(24,Dw.ZH),(32,Dw.Wf)],2,⟨[.al 0 0,.st 5,.fd (.int .i64)],[CH.b0,CT.b1]⟩,⟨[],[CK.b0,CT.b1]⟩,false,[(1,⟨[(0,true),(1,true),(2,true),(3,false),(4,true),(5,true),(6,true),(7,true),(8,false),(9,true),(10,false),(11,false),(12,true),(13,true),(14,true)],[15,16,17,18],[0,0,0,4,12,0,32,96,224,0,512,2016,4064,4093,12285,28669,65535,131071,262143],false⟩),(5,⟨[(0,true),(1,true),(2,true),(3,true),(4,false),(5,true),(6,false),(7,false),(8,true),(9,false),(10,true),(11,true),(12,true)],[13],[0,0,2,6,14,0,32,126,254,510,1023,2047,4095,8191],false⟩),(8,⟨[(0,true),(1,true),(2,true),(3,false),(4,true),(5,false),(6,false),(7,false),(8,true)],[],[0,1,3,7,0,16,63,127,0],true⟩),(12,⟨[(0,true),(1,true),(2,true),(3,false),(4,true),(5,false),(6,false),(7,true),(8,true),(9,false),(10,false),(11,true)],[],[0,1,3,7,0,16,63,127,0,511,1023,2047],false⟩),(13,⟨[(0,true),(1,true),(2,true),(3,false),(4,true),(5,false),(6,false),(7,true)],[],[0,1,3,7,0,16,63,127],false⟩),(14,⟨[(0,true),(1,true),(2,true),(3,false),(4,false),(5,false),(6,true),(7,false),(8,false),(9,true),(10,true),(11,true),(12,false)],[13,14],[0,1,3,7,15,31,0,64,255,511,1023,1023,0,6143,16383],false⟩),(17,⟨[(0,true),(1,true),(2,true),(3,false),(4,false),(5,false),(6,true),(7,false),(8,true),(9,true),(10,true)],[11],[0,1,3,7,15,31,0,64,0,0,768,2047],false⟩),(33,⟨[(0,true),(1,true),(2,true),(3,true),(4,true),(5,false),(6,true),(7,true),(8,true),(9,false),(10,false)],[11,12,13,14,15],[0,0,2,6,14,30,0,64,192,448,960,2046,4095,8191,16383,32767],false⟩)],[]⟩
theorem Dw.ok:AH Dop.D4 prog 36 Dw.p=true:=by kernel_rfl
end Go.Proofs.Tryz
