/- A function of which a part is gone through by hand: from one cut to another one (Jump). Its model, its equations, that it is a contract. -/
import Derived.Test.YtkpggdcpaeanaaaGreatDoorMh
import Derived.Test.YtkpggdcpaeanaaaGreatDoorMn
import Derived.Test.YtkpggdcpaeanaaaGreatDoorMm
namespace Go.En
open Go.RowKit
section
variable {S:Aj}
structure Jump (E:Env S) where
 c1:Nat
 c2:Nat
 q1:Cut
 q2:Cut
 h1:lk E.Cs c1=some q1
 h2:lk E.Cs c2=some q2
 g:q1.sp.D S->Option (q2.sp.D S)
def Jump.Ok (P:Program) {E:Env S} (J:Jump E):Prop:=
 ∀ (Q:Exit->Act->World->Prop) (w0:World) (F D0:Nat->Prop) (β0:Nat->Nm) (M:Nat) (x:J.q1.sp.D S) (y:J.q2.sp.D S),Bq S w0 F D0->(∀ c a d v w,Q (.panic c) (a.put d v) w->Q (.panic c) a w)->J.g x=some y->IC P Q w0 F D0 β0 M E J.q2 y->IC P Q w0 F D0 β0 M E J.q1 x
def Env.IL (E:Env S) (f0:Nat) (J:Jump E) (c:Nat) (x:E.ι c):Tr E.ι E.ρ:=
 if h:c=J.c1 then .H5 (J.g (UF E J.c1 J.q1 J.h1 (h▸x))) fun y=>.cut J.c2 (Ds E J.c2 J.q2 J.h2 y) else E.step f0 c x
theorem Env.S2 {E:Env S} {f0:Nat} {J:Jump E} (x:J.q1.sp.D S):E.IL f0 J J.c1 (Ds E J.c1 J.q1 J.h1 x)=.H5 (J.g x) fun y=>.cut J.c2 (Ds E J.c2 J.q2 J.h2 y):=by
 unfold Env.IL
 rw [dif_pos rfl]
 simp only [RL]
theorem Env.YH {E:Env S} {f0 c:Nat} {J:Jump E} (hc:c≠J.c1) {q:Cut} (h:lk E.Cs c=some q) (x:q.sp.D S):E.IL f0 J c (Ds E c q h x)=I1 E f0 q x:=by
 unfold Env.IL
 rw [dif_neg hc,Env.step_mk]
variable {P:Program}
theorem SO {E:Env S} (hE:E.Ok P) {J:Jump E} (hJ:J.Ok P) {f:FuncId} {fn:Func} {sp:Spec} (hf:P.funcs[f]?=some fn) (hb:fn.body=some E.body) (hn:fn.ntmps=E.sz) (hres:fn.results.toList=E.res) (hsz:sp.as.length<=E.sz) {f0:Nat}
  {n:Nat} {x:sp.D S} {y:E.rs.D S} (h:(I0 E f0 sp x).eval (EK (E.IL f0 J) n)=some y) {flat:Bool} {w:World} {D:Nat->Prop} {β:Nat->Nm} {vs:List SV} {o:List (Nat×Own S)} {m:Nat} {out:Out (sp.D S) (E.rs.D S)} (he:sp.enc x E.bn=(vs,o,m)) (hg:GH w (AJ o β) D D o (· <m) β w) (hon:BH (· <m) vs) (hiv:S.inv D w):
  Calls P f (AA β vs).toArray w (DZ ⟨f,E.bn,sp,E.rs,flat,out⟩ y w D β o):=by
 have hkp:Bq S w (AJ o β) D:=⟨hiv,fun k hk=>⟨hg.Cy k hk,fun ⟨i,b,hi,hik⟩=>hg.off i b k hi hik hk⟩⟩
 have hr: ∀ y',y'=y->P1 w (AJ o β) D E β (DZ ⟨f,E.bn,sp,E.rs,flat,out⟩ y w D β o) y':=by
  rintro y' rfl D' β' w' ws o' n' he' hβ hgh hon' hn'
  exact ⟨D',β',ws,o',n',he',rfl,hβ,hgh,hon',hn'⟩
 have key: ∀ n k q (h:lk E.Cs k=some q) (x:q.sp.D S),EK (E.IL f0 J) n k (Ds E k q h x)=some y->IC P (bodyPost P fn (DZ ⟨f,E.bn,sp,E.rs,flat,out⟩ y w D β o)) w (AJ o β) D β (n*f0) E q x:=by
  intro n
  induction n with
  | zero=>intro k q h x hx;simp [EK] at hx
  | succ n ih=>
   intro k q h x hx
   by_cases hk1:k=J.c1
   ·subst hk1
    have hq:q=J.q1:=by have:=J.h1;rw [h] at this;cases this;rfl
    subst hq
    simp only [EK] at hx
    rw [Env.S2] at hx
    simp only [Tr.eval] at hx
    obtain ⟨z,hz,hx⟩:=Option.bind_eq_some_iff.1 hx
    have:=hJ _ _ _ _ _ _ x z hkp Pg hz (ih J.c2 J.q2 J.h2 z hx)
    intro ks ws o' n' hk hq
    exact VC.more (by rw [Nat.succ_mul];omega) (this ks ws o' n' hk hq)
   intro ks ws o' n' hk hq
   simp only [EK] at hx
   rw [Env.YH hk1] at hx
   obtain ⟨_,h3,_,_⟩:=hE.Cs k q h
   have h2:=Tr.A5 hx
   unfold I1 at h2
   rw [hk] at h2
   simp only [hq] at h2
   have:=AS hE (Kc:=fun c x=>EK (E.IL f0 J) n c x=some y) (Kr:=(· =y)) f0 (fr:=⟨true,E.dr⟩) (Y4 hkp hE hres hr (fun c q' h' x' Fz=>ih c q' h' x' Fz)) true ks ⟨q.ts.zip ws,o',n',E.sz⟩ (Nat.le_trans h3 (Spec.Od hq)) rfl (KJ hk) h2
   rw [Nat.succ_mul]
   exact this
 have h2:=Tr.A5 h
 unfold I0 at h2
 rw [he] at h2
 have hvc:=AS hE (Kc:=fun c x=>EK (E.IL f0 J) n c x=some y) (Kr:=(· =y)) f0 (fr:=⟨true,E.dr⟩) (Y4 hkp hE hres hr (fun c q' h' x' Fz=>key n c q' h' x' Fz)) false [.code [] E.body] ⟨BY 0 vs,o,m,E.sz⟩ (Spec.Od he) rfl (fun z hz=>by
  simp only [List.mem_cons,List.not_mem_nil,or_false] at hz
  subst hz
  rfl) h2
 exact VC.enter hf hb hn (by rw [Spec.AZ he];exact hsz) hon hg hvc
end
end Go.En
/- Functions of the seat, lifted: plan, model, contract, equations. Written by a program (Lift) that ran the layer's evaluation; Lean checks each line. -/
set_option maxRecDepth 100000
set_option maxHeartbeats 4000000
namespace Go.Proofs.Tryz
open Go Go.En
def Mi.p:Af:=⟨[],3,⟨[.al 0 0],[⟨0,126,[.al 1 0],false⟩,CK.b1,CT.b2]⟩,⟨[.st 10],[⟨0,126,[.al 1 0],false⟩,CK.b1,CT.b2]⟩,false,[],[]⟩
theorem Mi.ok:AG Dop.D4 prog 223 Mi.p=true:=by kernel_rfl
abbrev BR.q6:Cut:=⟨[[0,0,0,1,1,1,1],[0,1,0,1,1,1,1],[0,1,1,1,1,1]],[0,2,3,4,5,7,12,13,14],6,⟨[.al 0 0,.fd .str,.fn 223 [(2,0)],.fd (.int .i64),.fd .bool,.al 3 0,.al 4 0,.fd (.int .i64),.al 5 0],[CK.b0,CT.b1,⟨2,126,[.al 0 0],false⟩,⟨3,174,[.st 10],false⟩,⟨4,174,[.st 10],false⟩,⟨5,174,[.st 10],false⟩]⟩⟩
def BR.p:Af:=⟨[(6,BR.q6)],3,⟨[.al 0 0,.st 10,.fd .str,.fn 223 [(2,0)],.fd (.int .i64),.fd .bool],[CK.b0,CT.b1,⟨2,126,[.al 0 0],false⟩]⟩,⟨[.st 10],[CK.b0,CT.b1,⟨2,126,[.al 0 0],false⟩]⟩,false,[(1,⟨[(0,true),(1,true),(2,true),(3,false),(4,true),(5,true),(6,true),(7,false),(8,true),(9,true),(10,true),(11,true),(12,true),(13,true),(14,false),(15,true),(16,false),(17,false),(18,true),(19,true)],[2000000],[0,1,3,7,15,31,63,127,255,511,1023,2047,4095,8191,16383,2047,34815,131071,262143,524287],false⟩),(7,⟨[(0,true),(1,true),(2,false),(3,true),(4,false),(5,true),(6,false),(7,false)],[8,1000000,1000003],[0,0,0,0,8,0,63,0,255],true⟩),(8,⟨[(0,true),(1,true),(2,true),(3,false),(4,true),(5,false),(6,true),(7,false),(8,true),(9,true),(10,true),(11,false),(12,false),(13,true),(14,true),(15,true),(16,false),(17,false),(18,true),(19,false),(20,false),(21,false),(22,true),(23,false),(24,true)],[25,1000000],[0,0,0,0,0,0,0,64,0,0,0,1024,3584,7680,15872,15872,48640,130560,261632,524272,1048572,2097151,0,4194304,16777215,33554431],true⟩),(11,⟨[(0,true),(1,true),(2,true),(3,true),(4,false),(5,true),(6,false),(7,true),(8,true),(9,false),(10,true),(11,false),(12,false)],[13,1000000,1000003],[0,0,0,0,12,0,32,124,0,284,0,2047,0,8191],true⟩),(12,⟨[(0,true),(1,false),(2,true),(3,false),(4,true),(5,false),(6,true),(7,true),(8,true),(9,false),(10,false),(11,true),(12,true),(13,true),(14,false),(15,false),(16,true),(17,false),(18,false),(19,true)],[1000000],[0,0,0,0,0,16,0,0,0,256,896,1920,3968,3968,12160,32640,65408,131068,262143,524287],true⟩),(13,⟨[(0,true),(1,true),(2,true),(3,true),(4,true),(5,true),(6,true),(7,true),(8,false),(9,false),(10,false),(11,false),(12,true),(13,false),(14,true)],[15,1000000],[0,0,0,0,0,0,0,0,192,496,1020,2047,0,4096,16383,32767],false⟩)],[]⟩
theorem BR.ok:AG Dop.D4 prog 220 BR.p=true:=by kernel_rfl
abbrev A9.q9:Cut:=⟨[[0,0,1,1,0,1,0,1,0,1,1,1],[0,1,1,1,0,1,0,1,0,1,1,1],[1,0],[0,1,1,1,1]],[2,4,5,6],5,⟨[.al 2 0,.al 3 0,.al 4 0,.fd (.int .i64)],[CK.b0,CT.b1,⟨2,126,[.al 0 0],false⟩,⟨3,174,[.st 10],false⟩,⟨4,56,[.st 5],false⟩]⟩⟩
abbrev A9.Xq:Cut:=⟨[[0,0,1,1,0,1,0,0,1,1,1,1,1,1,1,0,1,0,1,1,1],[0,1,1,1,0,1,0,0,1,1,1,1,1,1,1,0,1,0,1,1,1],[0,1,0,1,1,1,1,1,1,1,0,1,0,1,1,1],[1,0],[0,1,1,1,1]],[2,4,5,9],5,⟨[.al 2 0,.al 3 0,.al 4 0,.fd (.int .i64)],[CK.b0,CT.b1,⟨2,126,[.al 0 0],false⟩,⟨3,174,[.st 10],false⟩,⟨4,56,[.st 5],false⟩]⟩⟩
abbrev A9.kN:Cut:=⟨[[0,0,0,1,1,1,1,1,1,1,1,1,1,1,0,1,0,1,1,1],[0,1,0,1,1,1,1,1,1,1,1,1,1,1,0,1,0,1,1,1],[1,0],[0,1,1,1,1]],[1,2,4,5],5,⟨[.fd (.int .i64),.al 2 0,.al 3 0,.al 4 0],[CK.b0,CT.b1,⟨2,126,[.al 0 0],false⟩,⟨3,174,[.st 10],false⟩,⟨4,56,[.st 5],false⟩]⟩⟩
abbrev A9.kO:Cut:=⟨[[0,0,1,1,1,1,1,1,1,1,1,1,1,1,0,1,0,1,1,1],[0,1,1,1,1,1,1,1,1,1,1,1,1,1,0,1,0,1,1,1],[1,0],[0,1,1,1,1]],[1,2,4,5,36],5,⟨[.fd (.int .i64),.al 2 0,.al 3 0,.al 4 0,.fd (.int .i64)],[CK.b0,CT.b1,⟨2,126,[.al 0 0],false⟩,⟨3,174,[.st 10],false⟩,⟨4,56,[.st 5],false⟩]⟩⟩
def A9.p:Af:=⟨[(9,A9.q9),(24,A9.Xq),(40,A9.kN),(41,A9.kO)],2,⟨[.al 0 0,.fd (.int .i64)],[CK.b0,CT.b1]⟩,⟨[.st 10],[CK.b0,CT.b1]⟩,false,[(9,⟨[(0,false),(1,true),(2,false),(3,false),(4,true),(5,true),(6,false),(7,true),(8,true)],[9,2000002],[0,0,2,7,0,0,32,96,255,511],false⟩),(15,⟨[(0,false),(1,true),(2,false),(3,false),(4,true),(5,false),(6,true),(7,false),(8,true)],[9,2000002],[0,0,2,7,0,16,0,64,255,511],false⟩),(16,⟨[(0,false),(1,false),(2,false),(3,false),(4,true),(5,false),(6,false)],[7,2000002],[0,0,0,6,0,16,63,127],true⟩),(32,⟨[(0,false),(1,true),(2,true),(3,false),(4,true),(5,true),(6,true),(7,false),(8,true),(9,true),(10,false),(11,true),(12,true),(13,false),(14,true),(15,false),(16,false),(17,true),(18,true),(19,true)],[2000002],[0,1,3,7,15,31,63,127,255,511,1023,2047,4095,8191,1023,17407,65535,131071,262143,524287],false⟩),(36,⟨[(0,false),(1,false),(2,false),(3,false),(4,true),(5,false),(6,true),(7,false),(8,false),(9,true),(10,false),(11,true)],[12,2000002],[0,0,0,0,0,16,0,124,255,0,512,2047,4095],true⟩),(37,⟨[(0,false),(1,false),(2,true),(3,false),(4,false),(5,true),(6,true),(7,false)],[8,1000005,2000002],[0,0,0,4,12,0,0,127,255],true⟩),(40,⟨[(0,false),(1,false),(2,true),(3,false),(4,false),(5,true),(6,false),(7,true),(8,true),(9,true),(10,true),(11,false),(12,true),(13,false)],[14,2000002],[0,0,0,4,14,0,32,96,0,0,0,1024,3072,8191,16383],true⟩),(51,⟨[(0,false),(1,false),(2,false),(3,false),(4,true),(5,false),(6,true),(7,false)],[8,2000002],[0,0,0,0,0,30,0,127,255],true⟩),(61,⟨[(4,false),(5,true),(6,false),(7,true),(8,false),(0,false),(1,true),(2,true),(3,false),(9,false),(10,true),(11,true),(12,true),(13,true),(14,true)],[2000002],[0,1,3,7,0,0,32,0,240,511,1023,2047,2047,4095,16383],false⟩)],[]⟩
theorem A9.ok:AG Dop.D4 prog 194 A9.p=true:=by kernel_rfl
def H9.p:Af:=⟨[],2,⟨[.al 0 0,.st 5,.fd (.int .i64)],[CK.b0,CT.b1]⟩,⟨[.st 10],[CK.b0,CT.b1]⟩,false,[(10,⟨[(0,true),(1,false),(2,false),(3,true),(4,true),(5,false),(6,false),(7,true)],[8,1000000],[0,0,3,0,0,16,63,127,255],true⟩),(14,⟨[(0,true),(1,false),(2,true),(3,true),(4,false),(5,false),(6,true)],[7,1000000],[0,1,0,0,8,28,63,127],false⟩),(23,⟨[(0,true),(1,true),(2,true),(3,false),(4,false),(5,true),(6,true),(7,false),(8,true),(9,false),(10,false),(11,true)],[12,1000000],[0,0,0,4,15,0,0,64,0,256,1023,2047,4095],false⟩)],[]⟩
theorem H9.ok:AG Dop.D4 prog 218 H9.p=true:=by kernel_rfl
def B9.p:Af:=⟨[],2,⟨[.al 0 0,.fd (.int .i64)],[CK.b0,CT.b1]⟩,⟨[.st 10],[CK.b0,CT.b1]⟩,false,[(2,⟨[(0,true),(1,true),(2,true),(3,false),(4,true),(5,true),(6,true),(7,true),(8,true),(9,false),(10,true),(11,false),(12,false),(13,true),(14,true)],[2000000],[0,1,3,7,15,31,63,127,255,511,63,1087,4095,8191,16383],false⟩)],[]⟩
theorem B9.ok:AG Dop.D4 prog 167 B9.p=true:=by kernel_rfl
abbrev A6.q6:Cut:=⟨[[0,0,0,1,1,1,1],[0,1,0,1,1,1,1],[0,1,1,1,1,1]],[0,2,3,4,5,7,12,13,14],7,⟨[.al 0 0,.fd .str,.fn 222 [(2,0),(3,0)],.fd (.int .i64),.fd .bool,.al 4 0,.al 5 0,.fd (.int .i64),.al 6 0],[CK.b0,CT.b1,⟨2,126,[.al 0 0],false⟩,⟨3,56,[.st 5],false⟩,⟨4,174,[.st 10],false⟩,⟨5,174,[.st 10],false⟩,⟨6,174,[.st 10],false⟩]⟩⟩
def A6.p:Af:=⟨[(6,A6.q6)],4,⟨[.al 0 0,.st 10,.fd .str,.fn 222 [(2,0),(3,0)],.fd (.int .i64),.fd .bool],[CK.b0,CT.b1,⟨2,126,[.al 0 0],false⟩,⟨3,56,[.st 5],false⟩]⟩,⟨[.st 10],[CK.b0,CT.b1,⟨2,126,[.al 0 0],false⟩,⟨3,56,[.st 5],false⟩]⟩,false,[(1,⟨[(0,true),(1,true),(2,true),(3,false),(4,true),(5,true),(6,true),(7,false),(8,true),(9,true),(10,true),(11,true),(12,true),(13,true),(14,false),(15,true),(16,false),(17,false),(18,true),(19,true)],[2000000],[0,1,3,7,15,31,63,127,255,511,1023,2047,4095,8191,16383,2047,34815,131071,262143,524287],false⟩),(7,⟨[(0,true),(1,true),(2,false),(3,true),(4,false),(5,true),(6,false),(7,false)],[8,1000000,1000003],[0,0,0,0,8,0,63,0,255],true⟩),(8,⟨[(0,true),(1,true),(2,true),(3,false),(4,true),(5,false),(6,true),(7,false),(8,true),(9,true),(10,true),(11,false),(12,false),(13,true),(14,true),(15,true),(16,false),(17,false),(18,true),(19,false),(20,false),(21,false),(22,true),(23,false),(24,true)],[25,1000000],[0,0,0,0,0,0,0,64,0,0,0,1024,3584,7680,15872,15872,48640,130560,261632,524272,1048572,2097151,0,4194304,16777215,33554431],true⟩),(11,⟨[(0,true),(1,true),(2,true),(3,true),(4,false),(5,true),(6,false),(7,true),(8,true),(9,false),(10,true),(11,false),(12,false)],[13,1000000,1000003],[0,0,0,0,12,0,32,124,0,284,0,2047,0,8191],true⟩),(12,⟨[(0,true),(1,false),(2,true),(3,false),(4,true),(5,false),(6,true),(7,true),(8,true),(9,false),(10,false),(11,true),(12,true),(13,true),(14,false),(15,false),(16,true),(17,false),(18,false),(19,true)],[1000000],[0,0,0,0,0,16,0,0,0,256,896,1920,3968,3968,12160,32640,65408,131068,262143,524287],true⟩),(13,⟨[(0,true),(1,true),(2,true),(3,true),(4,true),(5,true),(6,true),(7,true),(8,false),(9,false),(10,false),(11,false),(12,true),(13,false),(14,true)],[15,1000000],[0,0,0,0,0,0,0,0,192,496,1020,2047,0,4096,16383,32767],false⟩)],[]⟩
theorem A6.ok:AG Dop.D4 prog 220 A6.p=true:=by kernel_rfl
def Jc.p:Af:=⟨[],4,⟨[.al 0 0,.al 3 0],[⟨0,126,[.al 1 0],false⟩,CK.b1,CT.b2,⟨3,56,[.st 5],false⟩]⟩,⟨[.st 10],[⟨0,126,[.al 1 0],false⟩,CK.b1,CT.b2,⟨3,56,[.st 5],false⟩]⟩,false,[],[]⟩
theorem Jc.ok:AG Dop.D4 prog 222 Jc.p=true:=by kernel_rfl
def Gx.p:Af:=⟨[],2,⟨[.al 0 0,.st 5,.fd (.int .i64)],[CK.b0,CT.b1]⟩,⟨[.st 10],[CK.b0,CT.b1]⟩,false,[(6,⟨[(0,true),(1,true),(2,true),(3,false),(4,true),(5,false),(6,true),(7,false),(8,false),(9,true),(10,true),(11,true),(12,true),(13,true),(14,true),(15,true)],[2000000],[0,1,3,7,0,16,0,64,255,511,1023,1023,1023,2047,12287,32767],false⟩),(9,⟨[(0,true),(1,true),(2,true),(3,false),(4,true),(5,true),(6,false),(7,false),(8,true),(9,false)],[10,1000000],[0,0,0,4,0,0,48,126,0,511,1023],false⟩)],[]⟩
theorem Gx.ok:AG Dop.D4 prog 226 Gx.p=true:=by kernel_rfl
abbrev F4.q9:Cut:=⟨[[0,0,0,0,1,0,1,1,1,1,1,1],[0,1,0,0,1,0,1,1,1,1,1,1],[2,0,0,1,0,1,1,1,1,1,1],[1,0],[0,1,1,1,1,1,1,1]],[0,4,6,7,10,45,46,47],5,⟨[.al 0 0,.al 2 0,.al 3 0,.al 4 0,.own 0 3,.own 0 3,.fd (.int .i64),.fd (.int .i64)],[CK.b0,CT.b1,⟨2,56,[.st 5],false⟩,⟨3,174,[.st 10],false⟩,⟨4,140,[.st 15],false⟩]⟩⟩
def F4.p:Af:=⟨[(9,F4.q9)],2,⟨[.al 0 0,.st 5,.fd (.int .i64)],[CK.b0,CT.b1]⟩,⟨[.st 10],[CK.b0,CT.b1]⟩,false,[(1,⟨[(0,true),(1,true),(2,true),(3,false),(4,true),(5,false),(6,false),(7,true),(8,true),(9,true),(10,false)],[11,12],[0,1,3,7,0,16,63,127,255,255,0,1535,4095],false⟩),(4,⟨[(0,true),(1,true),(2,true),(3,false),(4,true),(5,false),(6,false),(7,true)],[],[0,1,3,7,0,16,63,127],true⟩),(12,⟨[(0,true),(1,true),(2,false),(3,true),(4,false),(5,true),(6,false),(7,false),(8,true),(9,false),(10,false),(11,false),(12,true)],[1000000],[0,0,0,0,8,0,56,120,0,510,1022,2047,4095],true⟩),(14,⟨[(0,true),(1,true),(2,true),(3,false),(4,true),(5,false),(6,false),(7,true),(8,false),(9,true)],[10,1000000,9000000],[0,0,0,6,0,16,63,0,128,511,1023],true⟩)],[]⟩
theorem F4.ok:AG Dop.D4 prog 227 F4.p=true:=by kernel_rfl
abbrev Bc.T:Type:=(((Unit×Int×Unit)×(CK×CT×Unit))->Option ((Dop.CE×Unit)×(CK×CT×Unit)))×(((Unit×Dop.AU×Int×Unit)×(CK×CT×Unit))->Option ((Dop.CE×Unit)×(CK×CT×Unit)))×(((Unit×Int×Unit)×(CK×CT×Unit))->Option ((Dop.CE×Unit)×(CK×CT×Unit)))×(((Unit×Dop.CE×List UInt8×Unit×Int×Bool×Unit)×(CK×CT×(Unit×Unit)×(Dop.AU×Unit)×Unit))->Option ((Dop.CE×Unit)×(CK×CT×(Unit×Unit)×(Dop.AU×Unit)×Unit)))×(((Unit×Unit×Unit)×((Unit×Unit)×CK×CT×(Dop.AU×Unit)×Unit))->Option ((Dop.CE×Unit)×((Unit×Unit)×CK×CT×(Dop.AU×Unit)×Unit)))×(((Unit×Dop.AU×Int×Unit)×(CK×CT×Unit))->Option ((Dop.CE×Unit)×(CK×CT×Unit)))×(((Unit×Dop.AU×Int×Unit)×(CK×CT×Unit))->Option ((Dop.CE×Unit)×(CK×CT×Unit)))×Unit
noncomputable def Bc.ct (r:Bc.T):List (Bp Dop.D4):=[⟨194,A9.p.bn,A9.p.sp,A9.p.rs,A9.p.flat,.opt (r.1)⟩,⟨218,H9.p.bn,H9.p.sp,H9.p.rs,H9.p.flat,.opt (r.2.1)⟩,⟨167,B9.p.bn,B9.p.sp,B9.p.rs,B9.p.flat,.opt (r.2.2.1)⟩,⟨220,A6.p.bn,A6.p.sp,A6.p.rs,A6.p.flat,.opt (r.2.2.2.1)⟩,⟨222,Jc.p.bn,Jc.p.sp,Jc.p.rs,Jc.p.flat,.opt (r.2.2.2.2.1)⟩,⟨226,Gx.p.bn,Gx.p.sp,Gx.p.rs,Gx.p.flat,.opt (r.2.2.2.2.2.1)⟩,⟨227,F4.p.bn,F4.p.sp,F4.p.rs,F4.p.flat,.opt (r.2.2.2.2.2.2.1)⟩]
end Go.Proofs.Tryz
/- Functions of the seat, lifted: plan, model, contract, equations. Written by a program (Lift) that ran the layer's evaluation; Lean checks each line. -/
set_option maxRecDepth 100000
set_option maxHeartbeats 4000000
namespace Go.Proofs.Tryz
open Go Go.En
def Cr.p:Af:=⟨[],5,⟨[.al 0 0,.fd (.int .i64)],[⟨0,135,[.st 7,.al 1 0,.own 0 3,.own 11 52,.own 12 32,.st 0,.own 5 56,.mr (.str) 9 true 129,.mp (.str) 15 true,.rm 2,.st 11,.st 0,.rm 3,.rm 4,.st 0,.mr (.int .i64) 0 false 217,.st 0,.fd (.int .i64),.st 0],false⟩,CT.b1]⟩,⟨[.st 5],[⟨0,135,[.fd (.sl 5),.fd (.sl 6),.fd (.int .i64),.al 1 0,.own 0 3,.own 11 52,.own 12 32,.fd (.int .i64),.own 5 56,.mr (.str) 9 true 129,.mp (.str) 15 true,.rm 2,.fd .str,.fd (.int .i64),.fd (.int .i64),.fd (.int .i64),.fd (.int .i64),.fd (.int .i64),.rm 3,.rm 4,.fd (.int .i64),.mr (.int .i64) 0 false 217,.fd (.int .i64),.fd (.int .i64),.fd (.int .i64)],false⟩,CT.b1]⟩,false,[],[]⟩
noncomputable def Cr.E:Env Dop.D4:=Ae prog 74 tb [] Cr.p
theorem Cr.ok:AG Dop.D4 prog 74 Cr.p=true:=by kernel_rfl
noncomputable def Cr.c:Bp Dop.D4:=⟨74,Cr.p.bn,Cr.p.sp,Cr.p.rs,Cr.p.flat,.opt (Cr.E.run 3000 Cr.p.sp)⟩
theorem Cr.holds:Cr.c.Holds prog:=Ek 3000 AH B7 Cr.ok
noncomputable def Cr (n:Int) (b0_0:Dop.G3) (b0_2:List Int) (b0_3:List (Dop.EY)) (b0_4:List (Dop.NY)) (b0_5:Int) (b0_6:List Dop.AU) (b0_7:List (List (List UInt8×Dop.DP))) (b0_8:List (List UInt8×Dop.Pw)) (b0_10:Dop.EY) (b0_11:Int) (b0_14:Int) (b0_15:List (List (Int×Int))) (b0_16:Int) (b0_17:Int) (b0_18:Int) (k1:CT):Option ((Dop.AU×Unit)×((List Dop.AU×List Dop.G4×Int×Unit×List Int×List (Dop.EY)×List (Dop.NY)×Int×List Dop.AU×List (List (List UInt8×Dop.DP))×List (List UInt8×Dop.Pw)×Unit×List UInt8×Int×Int×Int×Int×Int×Unit×Unit×Int×List (List (Int×Int))×Int×Int×Int×Unit)×CT×Unit)):=Cr.E.run 3000 Cr.p.sp (((),n,()),((b0_0,(),b0_2,b0_3,b0_4,b0_5,b0_6,b0_7,b0_8,(),b0_10,b0_11,(),(),b0_14,b0_15,b0_16,b0_17,b0_18,()),k1,()))
theorem ZW (n:Int) (b0_0:Dop.G3) (b0_2:List Int) (b0_3:List (Dop.EY)) (b0_4:List (Dop.NY)) (b0_5:Int) (b0_6:List Dop.AU) (b0_7:List (List (List UInt8×Dop.DP))) (b0_8:List (List UInt8×Dop.Pw)) (b0_10:Dop.EY) (b0_11:Int) (b0_14:Int) (b0_15:List (List (Int×Int))) (b0_16:Int) (b0_17:Int) (b0_18:Int) (k1:CT):Cr n b0_0 b0_2 b0_3 b0_4 b0_5 b0_6 b0_7 b0_8 b0_10 b0_11 b0_14 b0_15 b0_16 b0_17 b0_18 k1=
 if (decide (n<(0:Int)))=true then
  some ((Dop.AU.mk (0:Int) (-1:Int) (-1:Int) (-1:Int) (-1:Int) (@List.nil UInt8) (0:Int) (0:Int) (0:Int),()),((b0_0.nodes,(b0_0.types,(b0_0.top,((),(b0_2,(b0_3,(b0_4,(b0_5,(b0_6,(b0_7,(b0_8,((),(b0_10.name,(b0_10.params,(b0_10.Aw,(b0_10.frame,(b0_10.body,(b0_11,((),((),(b0_14,(b0_15,(b0_16,(b0_17,(b0_18,()))))))))))))))))))))))))),(k1,())))
 else
  if (decide (I b0_0.nodes.length<=n))=true then
  some ((Dop.AU.mk (0:Int) (-1:Int) (-1:Int) (-1:Int) (-1:Int) (@List.nil UInt8) (0:Int) (0:Int) (0:Int),()),((b0_0.nodes,(b0_0.types,(b0_0.top,((),(b0_2,(b0_3,(b0_4,(b0_5,(b0_6,(b0_7,(b0_8,((),(b0_10.name,(b0_10.params,(b0_10.Aw,(b0_10.frame,(b0_10.body,(b0_11,((),((),(b0_14,(b0_15,(b0_16,(b0_17,(b0_18,()))))))))))))))))))))))))),(k1,())))
  else
  if (decide ((0:Int)<=n/\n<I b0_0.nodes.length))=true then
  some ((@List.getD Dop.AU b0_0.nodes n.toNat Dop.d5,()),((b0_0.nodes,(b0_0.types,(b0_0.top,((),(b0_2,(b0_3,(b0_4,(b0_5,(b0_6,(b0_7,(b0_8,((),(b0_10.name,(b0_10.params,(b0_10.Aw,(b0_10.frame,(b0_10.body,(b0_11,((),((),(b0_14,(b0_15,(b0_16,(b0_17,(b0_18,()))))))))))))))))))))))))),(k1,())))
  else none:=by kernel_rfl
end Go.Proofs.Tryz
/- Functions of the seat, lifted: plan, model, contract, equations. Written by a program (Lift) that ran the layer's evaluation; Lean checks each line. -/
set_option maxRecDepth 100000
set_option maxHeartbeats 4000000
namespace Go.Proofs.Tryz
open Go Go.En
def Mn.p:Af:=⟨[],3,⟨[.al 0 0,.fd (.int .i64)],[⟨0,135,[.st 7,.al 1 0,.own 0 3,.own 11 52,.own 12 32,.st 0,.own 5 56,.rw 2,.mp (.str) 15 true,.mp (.str) 0 false,.st 11,.st 0,.mp (.str) 0 false,.mp (.str) 0 false,.st 0,.mr (.int .i64) 0 false 217,.st 0,.fd (.int .i64),.st 0],false⟩,CT.b1,⟨2,130,[.mr (.str) 9 true 129],true⟩]⟩,⟨[.st 5],[⟨0,135,[.fd (.sl 5),.fd (.sl 6),.fd (.int .i64),.al 1 0,.own 0 3,.own 11 52,.own 12 32,.fd (.int .i64),.own 5 56,.rw 2,.mp (.str) 15 true,.mp (.str) 0 false,.fd .str,.fd (.int .i64),.fd (.int .i64),.fd (.int .i64),.fd (.int .i64),.fd (.int .i64),.mp (.str) 0 false,.mp (.str) 0 false,.fd (.int .i64),.mr (.int .i64) 0 false 217,.fd (.int .i64),.fd (.int .i64),.fd (.int .i64)],false⟩,CT.b1,⟨2,0,[.mr (.str) 9 true 129],true⟩]⟩,false,[],[]⟩
theorem Mn.ok:AG Dop.D4 prog 74 Mn.p=true:=by kernel_rfl
end Go.Proofs.Tryz
/- Functions of the seat, lifted: plan, model, contract, equations. Written by a program (Lift) that ran the layer's evaluation; Lean checks each line. -/
set_option maxRecDepth 100000
set_option maxHeartbeats 4000000
namespace Go.Proofs.Tryz
open Go Go.En
def Mf.p:Af:=⟨[],0,⟨[.fd (.sl 16)],[]⟩,⟨[.own 16 171],[]⟩,true,[],[]⟩
theorem Mf.ok:AG Dop.D4 prog 162 Mf.p=true:=by kernel_rfl
abbrev DL.q7:Cut:=⟨[[0,0,0,0,1,0,1,1,1,1],[0,1,0,0,1,0,1,1,1,1],[2,0,0,1,0,1,1,1,1],[1,0],[0,1,1,1,1,1]],[0,1,2,10,11,38,39,40],1,⟨[.al 0 0,.fd .str,.fd (.sl 16),.fd .bool,.mp (.str) 0 false,.fd (.sl 16),.fd (.int .i64),.fd (.int .i64)],[CT.b0]⟩⟩
abbrev DL.dA:Cut:=⟨[[0,0,0,0,1,0,1,1,1,1,1,1,1],[0,1,0,0,1,0,1,1,1,1,1,1,1],[2,0,0,1,0,1,1,1,1,1,1,1],[1,2],[0,1,1,1,1,1,1,1,1]],[0,1,2,14,64,65,66],1,⟨[.al 0 0,.fd .str,.fd (.sl 16),.fd (.int .i64),.fd (.sl 16),.fd (.int .i64),.fd (.int .i64)],[CT.b0]⟩⟩
def DL.p:Af:=⟨[(7,DL.q7),(16,DL.dA)],1,⟨[.al 0 0,.fd .str,.fd (.sl 16)],[CT.b0]⟩,⟨[.fd (.int .i64)],[CT.b0]⟩,false,[(27,⟨[(0,true),(1,true),(2,true),(3,false),(4,true),(5,true),(6,false)],[7],[0,1,3,7,0,0,32,127],false⟩)],[]⟩
theorem DL.ok:AG Dop.D4 prog 122 DL.p=true:=by kernel_rfl
end Go.Proofs.Tryz
/- Functions of the seat, lifted: plan, model, contract, equations. Written by a program (Lift) that ran the layer's evaluation; Lean checks each line. -/
set_option maxRecDepth 100000
set_option maxHeartbeats 4000000
namespace Go.Proofs.Tryz
open Go Go.En
abbrev Cb.q4:Cut:=⟨[[0,0,0,0,1,1,1],[0,1,0,0,1,1,1],[2,0,0,1,1,1],[1,0]],[0,45,46],2,⟨[.al 0 0,.st 8,.fd (.int .i64)],[CK.b0,CT.b1]⟩⟩
def Cb.p:Af:=⟨[(4,Cb.q4)],2,⟨[.al 0 0,.fd (.int .i64)],[CK.b0,CT.b1]⟩,⟨[],[CK.b0,CT.b1]⟩,false,[(2,⟨[(0,true),(1,true),(2,true),(4,true),(5,true),(6,false),(7,false),(8,true),(3,false),(9,false),(10,true)],[11,1000000],[0,1,3,7,0,0,32,112,240,511,1023,2047],false⟩)],[]⟩
theorem Cb.ok:AG Dop.D4 prog 129 Cb.p=true:=by kernel_rfl
abbrev Fj.T:Type:=(((Unit×Int×Unit)×(CK×CT×Unit))->Option (Unit×(CK×CT×Unit)))×Unit
end Go.Proofs.Tryz
/- Functions of the seat, lifted: plan, model, contract, equations. Written by a program (Lift) that ran the layer's evaluation; Lean checks each line. -/
set_option maxRecDepth 100000
set_option maxHeartbeats 4000000
namespace Go.Proofs.Tryz
open Go Go.En
def GX.p:Af:=⟨[],2,⟨[.al 0 0,.fd .str,.fd (.int .i64),.fd (.int .i64),.fd .bool],[CK.b0,CT.b1]⟩,⟨[.st 9,.fd .bool],[CK.b0,CT.b1]⟩,false,[(2,⟨[(0,true),(1,true),(2,true),(3,false),(4,true),(5,true),(6,true),(7,false),(8,false),(9,true),(10,false),(11,false),(12,true)],[],[0,1,3,7,0,16,48,112,240,496,1023,2047,4095],false⟩),(13,⟨[(0,true),(1,true),(2,true),(3,true),(4,false),(5,true),(6,false),(7,true)],[8,1000017],[0,1,3,7,15,0,32,127,255],false⟩),(18,⟨[(0,false),(1,true),(2,true),(3,true),(4,false),(5,true),(6,false),(7,true)],[1000010],[0,0,2,6,14,30,1,127],false⟩)],[(123,[]),(164,[])]⟩
theorem GX.ok:AG Dop.D4 prog 130 GX.p=true:=by kernel_rfl
end Go.Proofs.Tryz
/- What the checker holds in its first phase (three maps are nil). Written by a program. -/
namespace Go.Proofs
open Go Go.En
abbrev CH:Type:=En.Dop.G3×Unit×List (Int)×List (En.Dop.EY)×List (En.Dop.NY)×Int×List (En.Dop.AU)×List (List (List UInt8×En.Dop.DP))×List (List UInt8×En.Dop.Pw)×Unit×En.Dop.EY×Int×Unit×Unit×Int×List (List (Int×Int))×Int×Int×Int×Unit
abbrev CH.t (k:CH):En.Dop.G3:=k.1
abbrev CH.num (k:CH):List (Int):=k.2.2.1
abbrev CH.NJ (k:CH) (v:List (Int)):CH:=(k.1,k.2.1,v,k.2.2.2)
abbrev CH.funcs (k:CH):List (En.Dop.EY):=k.2.2.2.1
abbrev CH.globals (k:CH):List (En.Dop.NY):=k.2.2.2.2.1
abbrev CH.Ey (k:CH) (v:List (En.Dop.NY)):CH:=(k.1,k.2.1,k.2.2.1,k.2.2.2.1,v,k.2.2.2.2.2)
abbrev CH.top (k:CH):Int:=k.2.2.2.2.2.1
abbrev CH.OK (k:CH) (v:Int):CH:=(k.1,k.2.1,k.2.2.1,k.2.2.2.1,k.2.2.2.2.1,v,k.2.2.2.2.2.2)
abbrev CH.nodes (k:CH):List (En.Dop.AU):=k.2.2.2.2.2.2.1
abbrev CH.names (k:CH):List (List (List UInt8×En.Dop.DP)):=k.2.2.2.2.2.2.2.1
abbrev CH.Cp (k:CH) (v:List (List (List UInt8×En.Dop.DP))):CH:=(k.1,k.2.1,k.2.2.1,k.2.2.2.1,k.2.2.2.2.1,k.2.2.2.2.2.1,k.2.2.2.2.2.2.1,v,k.2.2.2.2.2.2.2.2)
abbrev CH.sigs (k:CH):List (List UInt8×En.Dop.Pw):=k.2.2.2.2.2.2.2.2.1
abbrev CH.Iy (k:CH) (v:List (List UInt8×En.Dop.Pw)):CH:=(k.1,k.2.1,k.2.2.1,k.2.2.2.1,k.2.2.2.2.1,k.2.2.2.2.2.1,k.2.2.2.2.2.2.1,k.2.2.2.2.2.2.2.1,v,k.2.2.2.2.2.2.2.2.2)
abbrev CH.loops (k:CH):Int:=k.2.2.2.2.2.2.2.2.2.2.2.2.2.2.1
abbrev CH.RD (k:CH):List (List (Int×Int)):=k.2.2.2.2.2.2.2.2.2.2.2.2.2.2.2.1
abbrev CH.Px (k:CH):Int:=k.2.2.2.2.2.2.2.2.2.2.2.2.2.2.2.2.1
abbrev CH.e (k:CH):Int:=k.2.2.2.2.2.2.2.2.2.2.2.2.2.2.2.2.2.1
abbrev CH.X5 (k:CH) (v:Int):CH:=(k.1,k.2.1,k.2.2.1,k.2.2.2.1,k.2.2.2.2.1,k.2.2.2.2.2.1,k.2.2.2.2.2.2.1,k.2.2.2.2.2.2.2.1,k.2.2.2.2.2.2.2.2.1,k.2.2.2.2.2.2.2.2.2.1,k.2.2.2.2.2.2.2.2.2.2.1,k.2.2.2.2.2.2.2.2.2.2.2.1,k.2.2.2.2.2.2.2.2.2.2.2.2.1,k.2.2.2.2.2.2.2.2.2.2.2.2.2.1,k.2.2.2.2.2.2.2.2.2.2.2.2.2.2.1,k.2.2.2.2.2.2.2.2.2.2.2.2.2.2.2.1,k.2.2.2.2.2.2.2.2.2.2.2.2.2.2.2.2.1,v,k.2.2.2.2.2.2.2.2.2.2.2.2.2.2.2.2.2.2)
abbrev CH.when (k:CH):Int:=k.2.2.2.2.2.2.2.2.2.2.2.2.2.2.2.2.2.2.1
abbrev CH.FE (k:CH) (v:Int):CH:=(k.1,k.2.1,k.2.2.1,k.2.2.2.1,k.2.2.2.2.1,k.2.2.2.2.2.1,k.2.2.2.2.2.2.1,k.2.2.2.2.2.2.2.1,k.2.2.2.2.2.2.2.2.1,k.2.2.2.2.2.2.2.2.2.1,k.2.2.2.2.2.2.2.2.2.2.1,k.2.2.2.2.2.2.2.2.2.2.2.1,k.2.2.2.2.2.2.2.2.2.2.2.2.1,k.2.2.2.2.2.2.2.2.2.2.2.2.2.1,k.2.2.2.2.2.2.2.2.2.2.2.2.2.2.1,k.2.2.2.2.2.2.2.2.2.2.2.2.2.2.2.1,k.2.2.2.2.2.2.2.2.2.2.2.2.2.2.2.2.1,k.2.2.2.2.2.2.2.2.2.2.2.2.2.2.2.2.2.1,v,k.2.2.2.2.2.2.2.2.2.2.2.2.2.2.2.2.2.2.2)
abbrev CH.b0:En.GK:=⟨0,135,[.st 7,.al 1 0,.own 0 3,.own 11 52,.own 12 32,.st 0,.own 5 56,.mr (.str) 9 true 129,.mp (.str) 15 true,.hm,.st 11,.st 0,.hm,.hm,.st 0,.mr (.int .i64) 0 false 217,.st 0,.fd (.int .i64),.st 0],false⟩
abbrev CH.b1:En.GK:=⟨1,135,[.st 7,.al 2 0,.own 0 3,.own 11 52,.own 12 32,.st 0,.own 5 56,.mr (.str) 9 true 129,.mp (.str) 15 true,.hm,.st 11,.st 0,.hm,.hm,.st 0,.mr (.int .i64) 0 false 217,.st 0,.fd (.int .i64),.st 0],false⟩
abbrev CH.b2:En.GK:=⟨2,135,[.st 7,.al 3 0,.own 0 3,.own 11 52,.own 12 32,.st 0,.own 5 56,.mr (.str) 9 true 129,.mp (.str) 15 true,.hm,.st 11,.st 0,.hm,.hm,.st 0,.mr (.int .i64) 0 false 217,.st 0,.fd (.int .i64),.st 0],false⟩
end Go.Proofs
/- Functions of the seat, lifted: plan, model, contract, equations. Written by a program (Lift) that ran the layer's evaluation; Lean checks each line. -/
set_option maxRecDepth 100000
set_option maxHeartbeats 4000000
namespace Go.Proofs.Tryz
open Go Go.En
def Gz.p:Af:=⟨[],2,⟨[.al 0 0,.fd (.int .i64)],[CH.b0,CT.b1]⟩,⟨[.st 5],[CH.b0,CT.b1]⟩,false,[],[]⟩
theorem Gz.ok:AG Dop.D4 prog 74 Gz.p=true:=by kernel_rfl
def CX.p:Af:=⟨[],2,⟨[.al 0 0,.fd (.int .i64),.fd (.int .i64)],[CH.b0,CT.b1]⟩,⟨[.st 10],[CH.b0,CT.b1]⟩,false,[],[]⟩
theorem CX.ok:AG Dop.D4 prog 123 CX.p=true:=by kernel_rfl
abbrev BI.q2:Cut:=⟨[[0,0,0,0,0,1,0,1],[0,1,0,0,0,1,0,1],[0,1,0,0,1,0,1],[2,0,0,1,0,1],[1,0],[0,1,1]],[0,1,2,7],2,⟨[.al 0 0,.fd (.int .i64),.fd (.int .i64),.fd (.int .i64)],[CH.b0,CT.b1]⟩⟩
abbrev BI.YU:Cut:=⟨[[0,0,0,1,1,1,0,0,1,0,0,1,0,1],[0,1,0,1,1,1,0,0,1,0,0,1,0,1],[0,1,1,1,1,0,0,1,0,0,1,0,1],[1,1],[0,1,1,0,0,1,0,1],[2,0,0,1,0,1],[1,0],[0,1,1]],[0,1,2,7,9,10],2,⟨[.al 0 0,.fd (.int .i64),.fd (.int .i64),.fd (.int .i64),.fd (.int .i64),.fd (.int .i64)],[CH.b0,CT.b1]⟩⟩
def BI.p:Af:=⟨[(2,BI.q2),(13,BI.YU)],2,⟨[.al 0 0,.fd (.int .i64),.fd (.int .i64)],[CH.b0,CT.b1]⟩,⟨[.fd (.int .i64)],[CH.b0,CT.b1]⟩,false,[(8,⟨[(0,true),(1,true),(2,true),(3,false),(4,true),(5,true),(6,true),(7,false),(8,true),(9,false),(10,false),(11,false),(12,false),(13,true),(14,true),(15,true),(16,true),(17,true)],[2000000],[0,1,3,7,0,16,48,112,0,256,1008,2032,4095,8191,16383,16383,32767,131071],false⟩),(10,⟨[(0,true),(1,true),(2,true),(3,false),(4,true),(5,true),(6,true),(7,false),(8,true),(9,false),(10,false),(11,false),(12,true),(13,false),(14,false),(15,true),(16,true),(17,true),(18,true),(19,true)],[2000000],[0,1,3,7,0,16,48,112,0,256,1008,2032,0,4096,16383,32767,65535,65535,131071,524287],false⟩),(12,⟨[(0,true),(1,true),(2,true),(3,false),(4,true),(5,false),(6,false),(7,true),(8,true),(9,true),(10,true),(11,true)],[2000000],[0,1,3,7,0,16,63,127,255,255,511,2047],false⟩)],[]⟩
theorem BI.ok:AG Dop.D4 prog 121 BI.p=true:=by kernel_rfl
abbrev HV.q3:Cut:=⟨[[0,0,0,0,1,0,1,1],[0,1,0,0,1,0,1,1],[2,0,0,1,0,1,1],[1,0],[0,1,1,1]],[0,2,4,6,16,17,18],3,⟨[.al 0 0,.fd (.int .i64),.al 2 0,.own 16 171,.own 0 3,.fd (.int .i64),.fd (.int .i64)],[CH.b0,CT.b1,⟨2,56,[.st 5],false⟩]⟩⟩
def HV.p:Af:=⟨[(3,HV.q3)],2,⟨[.al 0 0,.st 5,.fd (.int .i64)],[CH.b0,CT.b1]⟩,⟨[],[CH.b0,CT.b1]⟩,false,[(2,⟨[(0,true),(1,true),(2,true),(3,false),(4,true),(5,false),(6,false),(7,false),(8,true)],[],[0,1,3,7,0,16,63,127,0],true⟩),(8,⟨[(0,true),(1,true),(2,true),(3,false),(4,true),(5,false),(6,true),(7,false),(8,true)],[2000000,9000000],[0,1,3,7,0,16,0,127,255],true⟩)],[]⟩
theorem HV.ok:AG Dop.D4 prog 75 HV.p=true:=by kernel_rfl
def FV.p:Af:=⟨[],2,⟨[.al 0 0,.fd (.int .i64)],[CH.b0,CT.b1]⟩,⟨[.fd (.int .i64)],[CH.b0,CT.b1]⟩,false,[],[]⟩
theorem FV.ok:AG Dop.D4 prog 127 FV.p=true:=by kernel_rfl
def HM.p:Af:=⟨[],2,⟨[.al 0 0,.fd (.int .i64)],[CH.b0,CT.b1]⟩,⟨[.fd .bool],[CH.b0,CT.b1]⟩,false,[],[]⟩
theorem HM.ok:AG Dop.D4 prog 125 HM.p=true:=by kernel_rfl
abbrev D6.ak:Cut:=⟨[[0,0,1,1,1,1,1,1,1,1],[0,1,1,1,1,1,1,1,1,1]],[0,4,6,7,13],3,⟨[.al 0 0,.al 2 0,.fd (.int .i64),.fd (.int .i64),.fd (.int .i64)],[CH.b0,CT.b1,⟨2,56,[.st 5],false⟩]⟩⟩
def D6.p:Af:=⟨[(15,D6.ak)],2,⟨[.al 0 0,.st 5,.fd (.int .i64)],[CH.b0,CT.b1]⟩,⟨[],[CH.b0,CT.b1]⟩,false,[(3,⟨[(0,true),(1,true),(2,true),(3,false),(4,false),(5,false),(6,true),(7,false),(8,false),(9,true),(10,true),(11,true),(12,false)],[13,14],[0,1,3,7,15,31,0,64,255,511,1023,1023,0,6143,16383],false⟩),(4,⟨[(0,true),(1,true),(2,true),(3,false),(4,true),(5,false),(6,false),(7,true),(8,true),(9,true),(10,false)],[11,12],[0,1,3,7,0,16,63,127,255,255,0,1535,4095],false⟩),(15,⟨[(0,true),(1,true),(2,true),(3,false),(4,false),(5,false),(6,true),(7,false),(8,true),(9,true),(10,true),(11,true),(12,false),(13,true),(14,true)],[15],[0,1,3,7,15,31,0,64,0,256,768,1792,3840,0,16128,32767],false⟩),(16,⟨[(0,true),(1,true),(2,true),(3,true),(4,true),(5,false),(6,true),(7,false),(8,true),(9,true),(10,true),(11,true),(12,false),(13,true),(14,true),(15,true),(16,false)],[17,18,19,20,21],[0,0,2,6,14,30,0,64,0,256,768,1792,3840,0,0,32704,65472,131070,262143,524287,1048575,2097151],false⟩)],[]⟩
theorem D6.ok:AG Dop.D4 prog 76 D6.p=true:=by kernel_rfl
abbrev DM.q7:Cut:=⟨[[0,0,0,1,1,1,1,1,1],[0,1,0,1,1,1,1,1,1],[0,1,1,1,1,1,1,1]],[0,2,4,6,11],4,⟨[.al 0 0,.fd (.int .i64),.al 2 0,.al 3 0,.own 0 3],[CH.b0,CT.b1,⟨2,56,[.st 5],false⟩,⟨3,140,[.own 0 3,.fd (.int .i64)],false⟩]⟩⟩
abbrev DM.VH:Cut:=⟨[[0,0,0,0,1,0,1,1,1,1,1,1,1],[0,1,0,0,1,0,1,1,1,1,1,1,1],[2,0,0,1,0,1,1,1,1,1,1,1],[1,0],[0,1,1,1,1,1,1,1,1]],[0,2,4,6,85,86,87],4,⟨[.al 0 0,.fd (.int .i64),.al 2 0,.al 3 0,.own 0 3,.fd (.int .i64),.fd (.int .i64)],[CH.b0,CT.b1,⟨2,56,[.st 5],false⟩,⟨3,140,[.own 0 3,.fd (.int .i64)],false⟩]⟩⟩
def DM.p:Af:=⟨[(7,DM.q7),(10,DM.VH)],2,⟨[.al 0 0,.st 5,.fd (.int .i64)],[CH.b0,CT.b1]⟩,⟨[],[CH.b0,CT.b1]⟩,false,[(2,⟨[(0,true),(1,true),(2,true),(3,false),(4,true),(5,false),(6,false),(7,true),(8,true),(9,true),(10,false)],[11,12],[0,1,3,7,0,16,63,127,255,255,0,1535,4095],false⟩),(3,⟨[(0,true),(1,true),(2,true),(3,false),(4,false),(5,false),(6,true),(7,false),(8,false),(9,true),(10,true),(11,true),(12,false)],[13,14],[0,1,3,7,15,31,0,64,255,511,1023,1023,0,6143,16383],false⟩),(4,⟨[(0,true),(1,true),(2,true),(3,false),(4,true),(5,false),(6,false),(7,true)],[],[0,1,3,7,0,16,63,127],true⟩),(17,⟨[(0,true),(1,true),(2,true),(3,false),(4,true),(5,true),(6,true),(7,false),(8,true),(9,true),(10,true),(11,true),(12,true),(13,true),(14,false),(15,true),(16,false),(17,false),(18,true),(19,true)],[2000000],[0,1,3,7,15,31,63,127,255,511,1023,2047,4095,8191,16383,2047,34815,131071,262143,524287],false⟩),(19,⟨[(0,true),(1,true),(2,true),(3,false),(4,true),(5,false),(6,false)],[7],[0,1,3,7,0,16,0,127],false⟩)],[]⟩
theorem DM.ok:AG Dop.D4 prog 77 DM.p=true:=by kernel_rfl
end Go.Proofs.Tryz
/- Functions of the seat, lifted: plan, model, contract, equations. Written by a program (Lift) that ran the layer's evaluation; Lean checks each line. -/
set_option maxRecDepth 100000
set_option maxHeartbeats 4000000
namespace Go.Proofs.Tryz
open Go Go.En
def JX.p:Af:=⟨[],2,⟨[.al 0 0,.fd (.int .i64)],[CK.b0,CT.b1]⟩,⟨[.fd (.int .i64)],[CK.b0,CT.b1]⟩,false,[],[]⟩
theorem JX.ok:AG Dop.D4 prog 166 JX.p=true:=by kernel_rfl
def JY.p:Af:=⟨[],2,⟨[.al 0 0,.st 5,.fd (.int .i64)],[CK.b0,CT.b1]⟩,⟨[.fd (.int .i64)],[CK.b0,CT.b1]⟩,false,[(6,⟨[(0,true),(1,true),(2,false),(3,true),(4,true),(5,true),(6,false),(7,true),(8,false),(9,false),(10,true)],[1000000],[0,0,0,0,8,24,56,0,254,511,1023],true⟩)],[]⟩
theorem JY.ok:AG Dop.D4 prog 169 JY.p=true:=by kernel_rfl
def Ij.p:Af:=⟨[],2,⟨[.al 0 0,.st 5,.fd (.int .i64)],[CK.b0,CT.b1]⟩,⟨[.fd (.int .i64)],[CK.b0,CT.b1]⟩,false,[(17,⟨[(0,true),(1,true),(2,false),(3,true),(4,false),(5,true),(6,true),(7,false),(8,false),(9,false),(10,true)],[1000000],[0,0,0,0,0,0,0,120,254,511,1023],true⟩)],[]⟩
theorem Ij.ok:AG Dop.D4 prog 173 Ij.p=true:=by kernel_rfl
abbrev BV.kH:Cut:=⟨[[0,0,0,0,1,1,1,1,1,1,1,1,1,1,1,0,1,0,1,1,1],[0,1,0,0,1,1,1,1,1,1,1,1,1,1,1,0,1,0,1,1,1],[0,1,0,1,1,1,1,1,1,1,1,1,1,1,0,1,0,1,1,1],[1,0],[0,1,1,1,1]],[1,2,5],4,⟨[.fd (.int .i64),.al 2 0,.al 3 0],[CK.b0,CT.b1,⟨2,126,[.al 0 0],false⟩,⟨3,56,[.st 5],false⟩]⟩⟩
abbrev BV.kI:Cut:=⟨[[0,0,1,1,1,1,1,1,1,1,1,1,1,1,0,1,0,1,1,1],[0,1,1,1,1,1,1,1,1,1,1,1,1,1,0,1,0,1,1,1],[1,0],[0,1,1,1,1]],[1,2,5,27],4,⟨[.fd (.int .i64),.al 2 0,.al 3 0,.fd (.int .i64)],[CK.b0,CT.b1,⟨2,126,[.al 0 0],false⟩,⟨3,56,[.st 5],false⟩]⟩⟩
def BV.p:Af:=⟨[(27,BV.kH),(30,BV.kI)],2,⟨[.al 0 0,.fd (.int .i64)],[CK.b0,CT.b1]⟩,⟨[.fd (.int .i64)],[CK.b0,CT.b1]⟩,false,[(6,⟨[(0,false),(1,false),(2,true),(3,false),(4,false),(5,false),(6,true)],[2000002],[0,0,0,4,14,31,63],false⟩),(15,⟨[(0,false),(1,true),(2,false),(3,true),(4,false),(5,false),(6,false),(7,true)],[2000002],[0,0,0,0,8,28,63,127],false⟩),(18,⟨[(0,false),(1,false),(2,true),(3,false),(4,false),(5,true),(6,true),(7,false),(8,true)],[2000002],[0,0,0,4,14,30,0,127,255],false⟩),(24,⟨[(0,false),(1,true),(2,true),(3,true),(4,false),(5,true),(6,false),(7,false),(8,false),(9,true)],[2000002],[0,0,0,0,0,0,32,112,255,511],false⟩),(33,⟨[(0,false),(1,true),(2,true),(3,false),(4,true),(5,false),(6,false),(7,true),(8,true),(9,true),(10,true),(11,true)],[],[0,1,3,7,0,16,63,127,255,255,511,2047],false⟩),(35,⟨[(0,false),(1,true),(2,true),(3,false),(4,true),(5,false),(6,true)],[7],[0,1,3,7,0,16,0,127],false⟩),(38,⟨[(0,false),(1,true),(2,true),(3,false),(4,true),(5,false),(6,false),(7,true)],[8],[0,1,3,7,0,16,63,127,255],false⟩),(39,⟨[(0,false),(1,true),(2,true),(3,false),(4,true),(5,false),(6,false),(7,true)],[],[0,1,3,7,0,16,63,127],false⟩),(41,⟨[(0,false),(1,false),(2,true),(3,false),(4,false),(5,true),(6,false),(7,false),(8,true)],[2000002],[0,0,0,4,14,0,32,127,255],false⟩),(44,⟨[(0,false),(1,false),(2,true),(3,true),(4,false),(5,false),(6,false),(7,false),(8,true),(9,true)],[10,2000002],[0,0,2,6,14,0,32,126,255,511,1023],false⟩),(48,⟨[(0,false),(1,false),(2,true),(3,true),(4,false),(5,false),(6,true),(7,true),(8,false),(9,false),(10,true),(11,false),(12,true),(13,true)],[14,2000002],[0,0,2,6,14,0,32,96,224,480,992,2046,4095,8191,16383],false⟩)],[(171,[(3,⟨[(0,true),(1,true),(2,true),(3,true),(4,false),(5,true),(6,true),(7,true),(8,false),(9,false),(10,true)],[11,12,13,14],[0,0,2,6,14,0,32,96,224,480,992,2046,4095,8191,16383],false⟩)])]⟩
theorem BV.ok:AG Dop.D4 prog 135 BV.p=true:=by kernel_rfl
def Ga.p:Af:=⟨[],2,⟨[.al 0 0,.fd (.int .i64)],[CK.b0,CT.b1]⟩,⟨[.fd (.int .i64)],[CK.b0,CT.b1]⟩,false,[],[]⟩
theorem Ga.ok:AG Dop.D4 prog 168 Ga.p=true:=by kernel_rfl
def Gu.p:Af:=⟨[],2,⟨[.al 0 0,.st 5,.fd (.int .i64)],[CK.b0,CT.b1]⟩,⟨[.fd (.int .i64)],[CK.b0,CT.b1]⟩,false,[(6,⟨[(0,true),(1,true),(2,true),(3,false),(4,true),(5,true),(6,true),(7,false),(8,false),(9,true),(10,false),(11,false),(12,true)],[],[0,1,3,7,0,16,48,112,240,496,1023,2047,4095],false⟩),(12,⟨[(0,true),(1,true),(2,false),(3,true),(4,true),(5,false),(6,false),(7,true),(8,false),(9,true)],[1000000],[0,0,2,0,0,16,56,0,255,511],false⟩)],[]⟩
theorem Gu.ok:AG Dop.D4 prog 170 Gu.p=true:=by kernel_rfl
abbrev C0.q3:Cut:=⟨[[0,0,0,0,1,0,1,1],[0,1,0,0,1,0,1,1],[2,0,0,1,0,1,1],[1,0],[0,1,1,1]],[0,3,12,13,14],4,⟨[.al 0 0,.own 0 3,.own 0 3,.fd (.int .i64),.fd (.int .i64)],[⟨0,126,[.al 1 0],false⟩,CK.b1,CT.b2,⟨3,56,[.st 5],false⟩]⟩⟩
def C0.p:Af:=⟨[(3,C0.q3)],4,⟨[.al 0 0,.al 3 0],[⟨0,126,[.al 1 0],false⟩,CK.b1,CT.b2,⟨3,56,[.st 5],false⟩]⟩,⟨[.fd (.int .i64)],[⟨0,126,[.al 1 0],false⟩,CK.b1,CT.b2,⟨3,56,[.st 5],false⟩]⟩,false,[(2,⟨[(0,false),(1,true),(2,true),(3,false),(4,true),(5,false),(6,false),(7,false),(8,true)],[],[0,1,3,7,0,16,63,127,0],true⟩),(7,⟨[(0,false),(1,false),(2,true),(3,false),(4,false),(5,true)],[2000000,9000000],[0,0,0,6,15,31],true⟩)],[]⟩
theorem C0.ok:AG Dop.D4 prog 172 C0.p=true:=by kernel_rfl
abbrev CM.T:Type:=(((Unit×Int×Unit)×(CK×CT×Unit))->Option ((Int×Unit)×(CK×CT×Unit)))×(((Unit×Int×Unit)×(CK×CT×Unit))->Option ((Int×Unit)×(CK×CT×Unit)))×(((Unit×Dop.AU×Int×Unit)×(CK×CT×Unit))->Option ((Int×Unit)×(CK×CT×Unit)))×(((Unit×Unit×Unit)×((Unit×Unit)×CK×CT×(Dop.AU×Unit)×Unit))->Option ((Int×Unit)×((Unit×Unit)×CK×CT×(Dop.AU×Unit)×Unit)))×Unit
noncomputable def CM.ct (r:CM.T):List (Bp Dop.D4):=[⟨135,BV.p.bn,BV.p.sp,BV.p.rs,BV.p.flat,.opt (r.1)⟩,⟨168,Ga.p.bn,Ga.p.sp,Ga.p.rs,Ga.p.flat,.opt (r.2.1)⟩,⟨170,Gu.p.bn,Gu.p.sp,Gu.p.rs,Gu.p.flat,.opt (r.2.2.1)⟩,⟨172,C0.p.bn,C0.p.sp,C0.p.rs,C0.p.flat,.opt (r.2.2.2.1)⟩]
end Go.Proofs.Tryz
/- Functions of the seat, lifted: plan, model, contract, equations. Written by a program (Lift) that ran the layer's evaluation; Lean checks each line. -/
set_option maxRecDepth 100000
set_option maxHeartbeats 4000000
namespace Go.Proofs.Tryz
open Go Go.En
abbrev Dh.q9:Cut:=⟨[[0,0,0,0,1,0,1,1,1,1,1,1,1,1],[0,1,0,0,1,0,1,1,1,1,1,1,1,1],[2,0,0,1,0,1,1,1,1,1,1,1,1],[1,0],[0,1,1,1,1,1,1,1,1,1]],[0,4,6,89,90,91],3,⟨[.al 0 0,.al 2 0,.own 0 3,.own 0 3,.fd (.int .i64),.fd (.int .i64)],[CK.b0,CT.b1,⟨2,56,[.st 5],false⟩]⟩⟩
abbrev Dh.Xq:Cut:=⟨[[0,0,1,1,1,1,1,1,1,1,1,1,1],[0,1,1,1,1,1,1,1,1,1,1,1,1]],[0,6,15],2,⟨[.al 0 0,.own 0 3,.fd (.int .i64)],[CK.b0,CT.b1]⟩⟩
abbrev Dh.VI:Cut:=⟨[[0,1,1,1,1,1,1,1,1,1,1,1,1,1,1]],[0,6,15],2,⟨[.al 0 0,.own 0 3,.fd (.int .i64)],[CK.b0,CT.b1]⟩⟩
def Dh.p:Af:=⟨[(9,Dh.q9),(24,Dh.Xq),(32,Dh.VI)],2,⟨[.al 0 0,.st 5,.fd (.int .i64)],[CH.b0,CT.b1]⟩,⟨[],[CK.b0,CT.b1]⟩,false,[(1,⟨[(0,true),(1,true),(2,true),(3,false),(4,true),(5,true),(6,true),(7,true),(8,false),(9,true),(10,false),(11,false),(12,true),(13,true),(14,true)],[15,16,17,18],[0,0,0,4,12,0,32,96,224,0,512,2016,4064,4093,12285,28669,65535,131071,262143],false⟩),(5,⟨[(0,true),(1,true),(2,true),(3,true),(4,false),(5,true),(6,false),(7,false),(8,true),(9,false),(10,true),(11,true),(12,true)],[13],[0,0,2,6,14,0,32,126,254,510,1023,2047,4095,8191],false⟩),(8,⟨[(0,true),(1,true),(2,true),(3,false),(4,true),(5,false),(6,false),(7,false),(8,true)],[],[0,1,3,7,0,16,63,127,0],true⟩),(12,⟨[(0,true),(1,true),(2,true),(3,false),(4,true),(5,false),(6,false),(7,true),(8,true),(9,false),(10,false),(11,true)],[],[0,1,3,7,0,16,63,127,0,511,1023,2047],false⟩),(13,⟨[(0,true),(1,true),(2,true),(3,false),(4,true),(5,false),(6,false),(7,true)],[],[0,1,3,7,0,16,63,127],false⟩),(14,⟨[(0,true),(1,true),(2,true),(3,false),(4,false),(5,false),(6,true),(7,false),(8,false),(9,true),(10,true),(11,true),(12,false)],[13,14],[0,1,3,7,15,31,0,64,255,511,1023,1023,0,6143,16383],false⟩),(17,⟨[(0,true),(1,true),(2,true),(3,false),(4,false),(5,false),(6,true),(7,false),(8,true),(9,true),(10,true)],[11],[0,1,3,7,15,31,0,64,0,0,768,2047],false⟩),(33,⟨[(0,true),(1,true),(2,true),(3,true),(4,true),(5,false),(6,true),(7,true),(8,true),(9,false),(10,false)],[11,12,13,14,15],[0,0,2,6,14,30,0,64,192,448,960,2046,4095,8191,16383,32767],false⟩)],[]⟩
theorem Dh.ok:AG Dop.D4 prog 78 Dh.p=true:=by kernel_rfl
end Go.Proofs.Tryz
