/- A function of which a part is gone through by hand: from one cut to another one (Jump). Its model, its equations, that it is a contract. -/
import Derived.Test.YtkpggdcpaeanaaaGreatDoorMh
import Derived.Test.YtkpggdcpaeanaaaGreatDoorMn
import Derived.Test.YtkpggdcpaeanaaaGreatDoorMm
namespace Go.En
open Go.RowKit
section
variable {S:Am}
structure Jump (E:Env S) where
 c1:Nat
 c2:Nat
 q1:Cut
 q2:Cut
 h1:lk E.Cz c1=some q1
 h2:lk E.Cz c2=some q2
 g:q1.sp.D S->Option (q2.sp.D S)
def Jump.Ok (P:Program) {E:Env S} (J:Jump E):Prop:=
 ∀ (Q:Exit->Act->World->Prop) (w0:World) (F D0:Nat->Prop) (β0:Nat->Nm) (M:Nat) (x:J.q1.sp.D S) (y:J.q2.sp.D S),Bx S w0 F D0->(∀ c a d v w,Q (.panic c) (a.put d v) w->Q (.panic c) a w)->J.g x=some y->IM P Q w0 F D0 β0 M E J.q2 y->IM P Q w0 F D0 β0 M E J.q1 x
def Env.IX (E:Env S) (f0:Nat) (J:Jump E) (c:Nat) (x:E.ι c):Tr E.ι E.ρ:=
 if h:c=J.c1 then .IG (J.g (Ui E J.c1 J.q1 J.h1 (h▸x))) fun y=>.cut J.c2 (Dz E J.c2 J.q2 J.h2 y) else E.step f0 c x
theorem Env.TY {E:Env S} {f0:Nat} {J:Jump E} (x:J.q1.sp.D S):E.IX f0 J J.c1 (Dz E J.c1 J.q1 J.h1 x)=.IG (J.g x) fun y=>.cut J.c2 (Dz E J.c2 J.q2 J.h2 y):=by
 unfold Env.IX
 rw [dif_pos rfl]
 simp only [Rk]
theorem Env.Yv {E:Env S} {f0 c:Nat} {J:Jump E} (hc:c≠J.c1) {q:Cut} (h:lk E.Cz c=some q) (x:q.sp.D S):E.IX f0 J c (Dz E c q h x)=JB E f0 q x:=by
 unfold Env.IX
 rw [dif_neg hc,Env.step_mk]
variable {P:Program}
theorem Su {E:Env S} (hE:E.Ok P) {J:Jump E} (hJ:J.Ok P) {f:FuncId} {fn:Func} {sp:Spec} (hf:P.funcs[f]?=some fn) (hb:fn.body=some E.body) (hn:fn.ntmps=E.sz) (hres:fn.results.toList=E.res) (hsz:sp.as.length<=E.sz) {f0:Nat}
  {n:Nat} {x:sp.D S} {y:E.rs.D S} (h:(JA E f0 sp x).eval (EV (E.IX f0 J) n)=some y) {flat:Bool} {w:World} {D:Nat->Prop} {β:Nat->Nm} {vs:List SV} {o:List (Nat×Own S)} {m:Nat} {out:Out (sp.D S) (E.rs.D S)} (he:sp.enc x E.bn=(vs,o,m)) (hg:GH w (AJ o β) D D o (· <m) β w) (hon:BM (· <m) vs) (hiv:S.inv D w):
  Calls P f (AA β vs).toArray w (Dk ⟨f,E.bn,sp,E.rs,flat,out⟩ y w D β o):=by
 have hkp:Bx S w (AJ o β) D:=⟨hiv,fun k hk=>⟨hg.C5 k hk,fun ⟨i,b,hi,hik⟩=>hg.off i b k hi hik hk⟩⟩
 have hr: ∀ y',y'=y->QL w (AJ o β) D E β (Dk ⟨f,E.bn,sp,E.rs,flat,out⟩ y w D β o) y':=by
  rintro y' rfl D' β' w' ws o' n' he' hβ hgh hon' hn'
  exact ⟨D',β',ws,o',n',he',rfl,hβ,hgh,hon',hn'⟩
 have key: ∀ n k q (h:lk E.Cz k=some q) (x:q.sp.D S),EV (E.IX f0 J) n k (Dz E k q h x)=some y->IM P (bodyPost P fn (Dk ⟨f,E.bn,sp,E.rs,flat,out⟩ y w D β o)) w (AJ o β) D β (n*f0) E q x:=by
  intro n
  induction n with
  | zero=>intro k q h x hx;simp [EV] at hx
  | succ n ih=>
   intro k q h x hx
   by_cases hk1:k=J.c1
   ·subst hk1
    have hq:q=J.q1:=by have:=J.h1;rw [h] at this;cases this;rfl
    subst hq
    simp only [EV] at hx
    rw [Env.TY] at hx
    simp only [Tr.eval] at hx
    obtain ⟨z,hz,hx⟩:=Option.bind_eq_some_iff.1 hx
    have:=hJ _ _ _ _ _ _ x z hkp P1 hz (ih J.c2 J.q2 J.h2 z hx)
    intro ks ws o' n' hk hq
    exact VC.more (by rw [Nat.succ_mul];omega) (this ks ws o' n' hk hq)
   intro ks ws o' n' hk hq
   simp only [EV] at hx
   rw [Env.Yv hk1] at hx
   obtain ⟨_,h3,_,_⟩:=hE.Cz k q h
   have h2:=Tr.A8 hx
   unfold JB at h2
   rw [hk] at h2
   simp only [hq] at h2
   have:=AS hE (Kc:=fun c x=>EV (E.IX f0 J) n c x=some y) (Kr:=(· =y)) f0 (fr:=⟨true,E.dr⟩) (Zk hkp hE hres hr (fun c q' h' x' GI=>ih c q' h' x' GI)) true ks ⟨q.ts.zip ws,o',n',E.sz⟩ (Nat.le_trans h3 (Spec.Ox hq)) rfl (KR hk) h2
   rw [Nat.succ_mul]
   exact this
 have h2:=Tr.A8 h
 unfold JA at h2
 rw [he] at h2
 have hvc:=AS hE (Kc:=fun c x=>EV (E.IX f0 J) n c x=some y) (Kr:=(· =y)) f0 (fr:=⟨true,E.dr⟩) (Zk hkp hE hres hr (fun c q' h' x' GI=>key n c q' h' x' GI)) false [.code [] E.body] ⟨Be 0 vs,o,m,E.sz⟩ (Spec.Ox he) rfl (fun z hz=>by
  simp only [List.mem_cons,List.not_mem_nil,or_false] at hz
  subst hz
  rfl) h2
 exact VC.enter hf hb hn (by rw [Spec.AZ he];exact hsz) hon hg hvc
end
end Go.En
set_option maxRecDepth 100000
set_option maxHeartbeats 4000000
namespace Go.Proofs.Tryz
open Go Go.En
def Mw.p:Ag:=⟨[],3,⟨[.al 0 0],[⟨0,126,[.al 1 0],false⟩,CK.b1,CT.b2]⟩,⟨[.st 10],[⟨0,126,[.al 1 0],false⟩,CK.b1,CT.b2]⟩,false,[],[]⟩
theorem Mw.ok:AF Dop.D4 prog 223 Mw.p=true:=by kernel_rfl
abbrev BX.q6:Cut:=⟨[[0,0,0,1,1,1,1],[0,1,0,1,1,1,1],[0,1,1,1,1,1]],[0,2,3,4,5,7,12,13,14],6,⟨[.al 0 0,.fd .str,.fn 223 [(2,0)],.fd (.int .i64),.fd .bool,.al 3 0,.al 4 0,.fd (.int .i64),.al 5 0],[CK.b0,CT.b1,⟨2,126,[.al 0 0],false⟩,⟨3,174,[.st 10],false⟩,⟨4,174,[.st 10],false⟩,⟨5,174,[.st 10],false⟩]⟩⟩
def BX.p:Ag:=⟨[(6,BX.q6)],3,⟨[.al 0 0,.st 10,.fd .str,.fn 223 [(2,0)],.fd (.int .i64),.fd .bool],[CK.b0,CT.b1,⟨2,126,[.al 0 0],false⟩]⟩,⟨[.st 10],[CK.b0,CT.b1,⟨2,126,[.al 0 0],false⟩]⟩,false,[(1,⟨[(0,true),(1,true),(2,true),(3,false),(4,true),(5,true),(6,true),(7,false),(8,true),(9,true),(10,true),(11,true),(12,true),(13,true),(14,false),(15,true),(16,false),(17,false),(18,true),(19,true)],[2000000],[0,1,3,7,15,31,63,127,255,511,1023,2047,4095,8191,16383,2047,34815,131071,262143,524287],false⟩),(7,⟨[(0,true),(1,true),(2,false),(3,true),(4,false),(5,true),(6,false),(7,false)],[8,1000000,1000003],[0,0,0,0,8,0,63,0,255],true⟩),(8,⟨[(0,true),(1,true),(2,true),(3,false),(4,true),(5,false),(6,true),(7,false),(8,true),(9,true),(10,true),(11,false),(12,false),(13,true),(14,true),(15,true),(16,false),(17,false),(18,true),(19,false),(20,false),(21,false),(22,true),(23,false),(24,true)],[25,1000000],[0,0,0,0,0,0,0,64,0,0,0,1024,3584,7680,15872,15872,48640,130560,261632,524272,1048572,2097151,0,4194304,16777215,33554431],true⟩),(11,⟨[(0,true),(1,true),(2,true),(3,true),(4,false),(5,true),(6,false),(7,true),(8,true),(9,false),(10,true),(11,false),(12,false)],[13,1000000,1000003],[0,0,0,0,12,0,32,124,0,284,0,2047,0,8191],true⟩),(12,⟨[(0,true),(1,false),(2,true),(3,false),(4,true),(5,false),(6,true),(7,true),(8,true),(9,false),(10,false),(11,true),(12,true),(13,true),(14,false),(15,false),(16,true),(17,false),(18,false),(19,true)],[1000000],[0,0,0,0,0,16,0,0,0,256,896,1920,3968,3968,12160,32640,65408,131068,262143,524287],true⟩),(13,⟨[(0,true),(1,true),(2,true),(3,true),(4,true),(5,true),(6,true),(7,true),(8,false),(9,false),(10,false),(11,false),(12,true),(13,false),(14,true)],[15,1000000],[0,0,0,0,0,0,0,0,192,496,1020,2047,0,4096,16383,32767],false⟩)],[]⟩
theorem BX.ok:AF Dop.D4 prog 220 BX.p=true:=by kernel_rfl
abbrev A9.q9:Cut:=⟨[[0,0,1,1,0,1,0,1,0,1,1,1],[0,1,1,1,0,1,0,1,0,1,1,1],[1,0],[0,1,1,1,1]],[2,4,5,6],5,⟨[.al 2 0,.al 3 0,.al 4 0,.fd (.int .i64)],[CK.b0,CT.b1,⟨2,126,[.al 0 0],false⟩,⟨3,174,[.st 10],false⟩,⟨4,56,[.st 5],false⟩]⟩⟩
abbrev A9.YU:Cut:=⟨[[0,0,1,1,0,1,0,0,1,1,1,1,1,1,1,0,1,0,1,1,1],[0,1,1,1,0,1,0,0,1,1,1,1,1,1,1,0,1,0,1,1,1],[0,1,0,1,1,1,1,1,1,1,0,1,0,1,1,1],[1,0],[0,1,1,1,1]],[2,4,5,9],5,⟨[.al 2 0,.al 3 0,.al 4 0,.fd (.int .i64)],[CK.b0,CT.b1,⟨2,126,[.al 0 0],false⟩,⟨3,174,[.st 10],false⟩,⟨4,56,[.st 5],false⟩]⟩⟩
abbrev A9.mQ:Cut:=⟨[[0,0,0,1,1,1,1,1,1,1,1,1,1,1,0,1,0,1,1,1],[0,1,0,1,1,1,1,1,1,1,1,1,1,1,0,1,0,1,1,1],[1,0],[0,1,1,1,1]],[1,2,4,5],5,⟨[.fd (.int .i64),.al 2 0,.al 3 0,.al 4 0],[CK.b0,CT.b1,⟨2,126,[.al 0 0],false⟩,⟨3,174,[.st 10],false⟩,⟨4,56,[.st 5],false⟩]⟩⟩
abbrev A9.mR:Cut:=⟨[[0,0,1,1,1,1,1,1,1,1,1,1,1,1,0,1,0,1,1,1],[0,1,1,1,1,1,1,1,1,1,1,1,1,1,0,1,0,1,1,1],[1,0],[0,1,1,1,1]],[1,2,4,5,36],5,⟨[.fd (.int .i64),.al 2 0,.al 3 0,.al 4 0,.fd (.int .i64)],[CK.b0,CT.b1,⟨2,126,[.al 0 0],false⟩,⟨3,174,[.st 10],false⟩,⟨4,56,[.st 5],false⟩]⟩⟩
def A9.p:Ag:=⟨[(9,A9.q9),(24,A9.YU),(40,A9.mQ),(41,A9.mR)],2,⟨[.al 0 0,.fd (.int .i64)],[CK.b0,CT.b1]⟩,⟨[.st 10],[CK.b0,CT.b1]⟩,false,[(9,⟨[(0,false),(1,true),(2,false),(3,false),(4,true),(5,true),(6,false),(7,true),(8,true)],[9,2000002],[0,0,2,7,0,0,32,96,255,511],false⟩),(15,⟨[(0,false),(1,true),(2,false),(3,false),(4,true),(5,false),(6,true),(7,false),(8,true)],[9,2000002],[0,0,2,7,0,16,0,64,255,511],false⟩),(16,⟨[(0,false),(1,false),(2,false),(3,false),(4,true),(5,false),(6,false)],[7,2000002],[0,0,0,6,0,16,63,127],true⟩),(32,⟨[(0,false),(1,true),(2,true),(3,false),(4,true),(5,true),(6,true),(7,false),(8,true),(9,true),(10,false),(11,true),(12,true),(13,false),(14,true),(15,false),(16,false),(17,true),(18,true),(19,true)],[2000002],[0,1,3,7,15,31,63,127,255,511,1023,2047,4095,8191,1023,17407,65535,131071,262143,524287],false⟩),(36,⟨[(0,false),(1,false),(2,false),(3,false),(4,true),(5,false),(6,true),(7,false),(8,false),(9,true),(10,false),(11,true)],[12,2000002],[0,0,0,0,0,16,0,124,255,0,512,2047,4095],true⟩),(37,⟨[(0,false),(1,false),(2,true),(3,false),(4,false),(5,true),(6,true),(7,false)],[8,1000005,2000002],[0,0,0,4,12,0,0,127,255],true⟩),(40,⟨[(0,false),(1,false),(2,true),(3,false),(4,false),(5,true),(6,false),(7,true),(8,true),(9,true),(10,true),(11,false),(12,true),(13,false)],[14,2000002],[0,0,0,4,14,0,32,96,0,0,0,1024,3072,8191,16383],true⟩),(51,⟨[(0,false),(1,false),(2,false),(3,false),(4,true),(5,false),(6,true),(7,false)],[8,2000002],[0,0,0,0,0,30,0,127,255],true⟩),(61,⟨[(4,false),(5,true),(6,false),(7,true),(8,false),(0,false),(1,true),(2,true),(3,false),(9,false),(10,true),(11,true),(12,true),(13,true),(14,true)],[2000002],[0,1,3,7,0,0,32,0,240,511,1023,2047,2047,4095,16383],false⟩)],[]⟩
theorem A9.ok:AF Dop.D4 prog 194 A9.p=true:=by kernel_rfl
def IJ.p:Ag:=⟨[],2,⟨[.al 0 0,.st 5,.fd (.int .i64)],[CK.b0,CT.b1]⟩,⟨[.st 10],[CK.b0,CT.b1]⟩,false,[(10,⟨[(0,true),(1,false),(2,false),(3,true),(4,true),(5,false),(6,false),(7,true)],[8,1000000],[0,0,3,0,0,16,63,127,255],true⟩),(14,⟨[(0,true),(1,false),(2,true),(3,true),(4,false),(5,false),(6,true)],[7,1000000],[0,1,0,0,8,28,63,127],false⟩),(23,⟨[(0,true),(1,true),(2,true),(3,false),(4,false),(5,true),(6,true),(7,false),(8,true),(9,false),(10,false),(11,true)],[12,1000000],[0,0,0,4,15,0,0,64,0,256,1023,2047,4095],false⟩)],[]⟩
theorem IJ.ok:AF Dop.D4 prog 218 IJ.p=true:=by kernel_rfl
def CE.p:Ag:=⟨[],2,⟨[.al 0 0,.fd (.int .i64)],[CK.b0,CT.b1]⟩,⟨[.st 10],[CK.b0,CT.b1]⟩,false,[(2,⟨[(0,true),(1,true),(2,true),(3,false),(4,true),(5,true),(6,true),(7,true),(8,true),(9,false),(10,true),(11,false),(12,false),(13,true),(14,true)],[2000000],[0,1,3,7,15,31,63,127,255,511,63,1087,4095,8191,16383],false⟩)],[]⟩
theorem CE.ok:AF Dop.D4 prog 167 CE.p=true:=by kernel_rfl
abbrev BA.q6:Cut:=⟨[[0,0,0,1,1,1,1],[0,1,0,1,1,1,1],[0,1,1,1,1,1]],[0,2,3,4,5,7,12,13,14],7,⟨[.al 0 0,.fd .str,.fn 222 [(2,0),(3,0)],.fd (.int .i64),.fd .bool,.al 4 0,.al 5 0,.fd (.int .i64),.al 6 0],[CK.b0,CT.b1,⟨2,126,[.al 0 0],false⟩,⟨3,56,[.st 5],false⟩,⟨4,174,[.st 10],false⟩,⟨5,174,[.st 10],false⟩,⟨6,174,[.st 10],false⟩]⟩⟩
def BA.p:Ag:=⟨[(6,BA.q6)],4,⟨[.al 0 0,.st 10,.fd .str,.fn 222 [(2,0),(3,0)],.fd (.int .i64),.fd .bool],[CK.b0,CT.b1,⟨2,126,[.al 0 0],false⟩,⟨3,56,[.st 5],false⟩]⟩,⟨[.st 10],[CK.b0,CT.b1,⟨2,126,[.al 0 0],false⟩,⟨3,56,[.st 5],false⟩]⟩,false,[(1,⟨[(0,true),(1,true),(2,true),(3,false),(4,true),(5,true),(6,true),(7,false),(8,true),(9,true),(10,true),(11,true),(12,true),(13,true),(14,false),(15,true),(16,false),(17,false),(18,true),(19,true)],[2000000],[0,1,3,7,15,31,63,127,255,511,1023,2047,4095,8191,16383,2047,34815,131071,262143,524287],false⟩),(7,⟨[(0,true),(1,true),(2,false),(3,true),(4,false),(5,true),(6,false),(7,false)],[8,1000000,1000003],[0,0,0,0,8,0,63,0,255],true⟩),(8,⟨[(0,true),(1,true),(2,true),(3,false),(4,true),(5,false),(6,true),(7,false),(8,true),(9,true),(10,true),(11,false),(12,false),(13,true),(14,true),(15,true),(16,false),(17,false),(18,true),(19,false),(20,false),(21,false),(22,true),(23,false),(24,true)],[25,1000000],[0,0,0,0,0,0,0,64,0,0,0,1024,3584,7680,15872,15872,48640,130560,261632,524272,1048572,2097151,0,4194304,16777215,33554431],true⟩),(11,⟨[(0,true),(1,true),(2,true),(3,true),(4,false),(5,true),(6,false),(7,true),(8,true),(9,false),(10,true),(11,false),(12,false)],[13,1000000,1000003],[0,0,0,0,12,0,32,124,0,284,0,2047,0,8191],true⟩),(12,⟨[(0,true),(1,false),(2,true),(3,false),(4,true),(5,false),(6,true),(7,true),(8,true),(9,false),(10,false),(11,true),(12,true),(13,true),(14,false),(15,false),(16,true),(17,false),(18,false),(19,true)],[1000000],[0,0,0,0,0,16,0,0,0,256,896,1920,3968,3968,12160,32640,65408,131068,262143,524287],true⟩),(13,⟨[(0,true),(1,true),(2,true),(3,true),(4,true),(5,true),(6,true),(7,true),(8,false),(9,false),(10,false),(11,false),(12,true),(13,false),(14,true)],[15,1000000],[0,0,0,0,0,0,0,0,192,496,1020,2047,0,4096,16383,32767],false⟩)],[]⟩
theorem BA.ok:AF Dop.D4 prog 220 BA.p=true:=by kernel_rfl
def Jh.p:Ag:=⟨[],4,⟨[.al 0 0,.al 3 0],[⟨0,126,[.al 1 0],false⟩,CK.b1,CT.b2,⟨3,56,[.st 5],false⟩]⟩,⟨[.st 10],[⟨0,126,[.al 1 0],false⟩,CK.b1,CT.b2,⟨3,56,[.st 5],false⟩]⟩,false,[],[]⟩
theorem Jh.ok:AF Dop.D4 prog 222 Jh.p=true:=by kernel_rfl
def HD.p:Ag:=⟨[],2,⟨[.al 0 0,.st 5,.fd (.int .i64)],[CK.b0,CT.b1]⟩,⟨[.st 10],[CK.b0,CT.b1]⟩,false,[(6,⟨[(0,true),(1,true),(2,true),(3,false),(4,true),(5,false),(6,true),(7,false),(8,false),(9,true),(10,true),(11,true),(12,true),(13,true),(14,true),(15,true)],[2000000],[0,1,3,7,0,16,0,64,255,511,1023,1023,1023,2047,12287,32767],false⟩),(9,⟨[(0,true),(1,true),(2,true),(3,false),(4,true),(5,true),(6,false),(7,false),(8,true),(9,false)],[10,1000000],[0,0,0,4,0,0,48,126,0,511,1023],false⟩)],[]⟩
theorem HD.ok:AF Dop.D4 prog 226 HD.p=true:=by kernel_rfl
abbrev GM.q9:Cut:=⟨[[0,0,0,0,1,0,1,1,1,1,1,1],[0,1,0,0,1,0,1,1,1,1,1,1],[2,0,0,1,0,1,1,1,1,1,1],[1,0],[0,1,1,1,1,1,1,1]],[0,4,6,7,10,45,46,47],5,⟨[.al 0 0,.al 2 0,.al 3 0,.al 4 0,.own 0 3,.own 0 3,.fd (.int .i64),.fd (.int .i64)],[CK.b0,CT.b1,⟨2,56,[.st 5],false⟩,⟨3,174,[.st 10],false⟩,⟨4,140,[.st 15],false⟩]⟩⟩
def GM.p:Ag:=⟨[(9,GM.q9)],2,⟨[.al 0 0,.st 5,.fd (.int .i64)],[CK.b0,CT.b1]⟩,⟨[.st 10],[CK.b0,CT.b1]⟩,false,[(1,⟨[(0,true),(1,true),(2,true),(3,false),(4,true),(5,false),(6,false),(7,true),(8,true),(9,true),(10,false)],[11,12],[0,1,3,7,0,16,63,127,255,255,0,1535,4095],false⟩),(4,⟨[(0,true),(1,true),(2,true),(3,false),(4,true),(5,false),(6,false),(7,true)],[],[0,1,3,7,0,16,63,127],true⟩),(12,⟨[(0,true),(1,true),(2,false),(3,true),(4,false),(5,true),(6,false),(7,false),(8,true),(9,false),(10,false),(11,false),(12,true)],[1000000],[0,0,0,0,8,0,56,120,0,510,1022,2047,4095],true⟩),(14,⟨[(0,true),(1,true),(2,true),(3,false),(4,true),(5,false),(6,false),(7,true),(8,false),(9,true)],[10,1000000,9000000],[0,0,0,6,0,16,63,0,128,511,1023],true⟩)],[]⟩
theorem GM.ok:AF Dop.D4 prog 227 GM.p=true:=by kernel_rfl
abbrev Bi.T:Type:=(((Unit×Int×Unit)×(CK×CT×Unit))->Option ((Dop.Ao×Unit)×(CK×CT×Unit)))×(((Unit×Dop.AU×Int×Unit)×(CK×CT×Unit))->Option ((Dop.Ao×Unit)×(CK×CT×Unit)))×(((Unit×Int×Unit)×(CK×CT×Unit))->Option ((Dop.Ao×Unit)×(CK×CT×Unit)))×(((Unit×Dop.Ao×List UInt8×Unit×Int×Bool×Unit)×(CK×CT×(Unit×Unit)×(Dop.AU×Unit)×Unit))->Option ((Dop.Ao×Unit)×(CK×CT×(Unit×Unit)×(Dop.AU×Unit)×Unit)))×(((Unit×Unit×Unit)×((Unit×Unit)×CK×CT×(Dop.AU×Unit)×Unit))->Option ((Dop.Ao×Unit)×((Unit×Unit)×CK×CT×(Dop.AU×Unit)×Unit)))×(((Unit×Dop.AU×Int×Unit)×(CK×CT×Unit))->Option ((Dop.Ao×Unit)×(CK×CT×Unit)))×(((Unit×Dop.AU×Int×Unit)×(CK×CT×Unit))->Option ((Dop.Ao×Unit)×(CK×CT×Unit)))×Unit
noncomputable def Bi.ct (r:Bi.T):List (Bw Dop.D4):=[⟨194,A9.p.bn,A9.p.sp,A9.p.rs,A9.p.flat,.opt (r.1)⟩,⟨218,IJ.p.bn,IJ.p.sp,IJ.p.rs,IJ.p.flat,.opt (r.2.1)⟩,⟨167,CE.p.bn,CE.p.sp,CE.p.rs,CE.p.flat,.opt (r.2.2.1)⟩,⟨220,BA.p.bn,BA.p.sp,BA.p.rs,BA.p.flat,.opt (r.2.2.2.1)⟩,⟨222,Jh.p.bn,Jh.p.sp,Jh.p.rs,Jh.p.flat,.opt (r.2.2.2.2.1)⟩,⟨226,HD.p.bn,HD.p.sp,HD.p.rs,HD.p.flat,.opt (r.2.2.2.2.2.1)⟩,⟨227,GM.p.bn,GM.p.sp,GM.p.rs,GM.p.flat,.opt (r.2.2.2.2.2.2.1)⟩]
end Go.Proofs.Tryz
set_option maxRecDepth 100000
set_option maxHeartbeats 4000000
namespace Go.Proofs.Tryz
open Go Go.En
def Cv.p:Ag:=⟨[],5,⟨[.al 0 0,.fd (.int .i64)],[⟨0,135,[.st 7,.al 1 0,.own 0 3,.own 11 52,.own 12 32,.st 0,.own 5 56,.mr (.str) 9 true 129,.mp (.str) 15 true,.rm 2,.st 11,.st 0,.rm 3,.rm 4,.st 0,.mr (.int .i64) 0 false 217,.st 0,.fd (.int .i64),.st 0],false⟩,CT.b1]⟩,⟨[.st 5],[⟨0,135,[.fd (.sl 5),.fd (.sl 6),.fd (.int .i64),.al 1 0,.own 0 3,.own 11 52,.own 12 32,.fd (.int .i64),.own 5 56,.mr (.str) 9 true 129,.mp (.str) 15 true,.rm 2,.fd .str,.fd (.int .i64),.fd (.int .i64),.fd (.int .i64),.fd (.int .i64),.fd (.int .i64),.rm 3,.rm 4,.fd (.int .i64),.mr (.int .i64) 0 false 217,.fd (.int .i64),.fd (.int .i64),.fd (.int .i64)],false⟩,CT.b1]⟩,false,[],[]⟩
noncomputable def Cv.E:Env Dop.D4:=Ac prog 74 tb [] Cv.p
theorem Cv.ok:AF Dop.D4 prog 74 Cv.p=true:=by kernel_rfl
noncomputable def Cv.c:Bw Dop.D4:=⟨74,Cv.p.bn,Cv.p.sp,Cv.p.rs,Cv.p.flat,.opt (Cv.E.run 3000 Cv.p.sp)⟩
theorem Cv.holds:Cv.c.Holds prog:=Ev 3000 AH CC Cv.ok
noncomputable def Cv (n:Int) (b0_0:Dop.G2) (b0_2:List Int) (b0_3:List (Dop.Eh)) (b0_4:List (Dop.Nl)) (b0_5:Int) (b0_6:List Dop.AU) (b0_7:List (List (List UInt8×Dop.Da))) (b0_8:List (List UInt8×Dop.QF)) (b0_10:Dop.Eh) (b0_11:Int) (b0_14:Int) (b0_15:List (List (Int×Int))) (b0_16:Int) (b0_17:Int) (b0_18:Int) (k1:CT):Option ((Dop.AU×Unit)×((List Dop.AU×List Dop.HH×Int×Unit×List Int×List (Dop.Eh)×List (Dop.Nl)×Int×List Dop.AU×List (List (List UInt8×Dop.Da))×List (List UInt8×Dop.QF)×Unit×List UInt8×Int×Int×Int×Int×Int×Unit×Unit×Int×List (List (Int×Int))×Int×Int×Int×Unit)×CT×Unit)):=Cv.E.run 3000 Cv.p.sp (((),n,()),((b0_0,(),b0_2,b0_3,b0_4,b0_5,b0_6,b0_7,b0_8,(),b0_10,b0_11,(),(),b0_14,b0_15,b0_16,b0_17,b0_18,()),k1,()))
theorem aD (n:Int) (b0_0:Dop.G2) (b0_2:List Int) (b0_3:List (Dop.Eh)) (b0_4:List (Dop.Nl)) (b0_5:Int) (b0_6:List Dop.AU) (b0_7:List (List (List UInt8×Dop.Da))) (b0_8:List (List UInt8×Dop.QF)) (b0_10:Dop.Eh) (b0_11:Int) (b0_14:Int) (b0_15:List (List (Int×Int))) (b0_16:Int) (b0_17:Int) (b0_18:Int) (k1:CT):Cv n b0_0 b0_2 b0_3 b0_4 b0_5 b0_6 b0_7 b0_8 b0_10 b0_11 b0_14 b0_15 b0_16 b0_17 b0_18 k1=
 if (decide (n<(0:Int)))=true then
  some ((Dop.AU.mk (0:Int) (-1:Int) (-1:Int) (-1:Int) (-1:Int) (@List.nil UInt8) (0:Int) (0:Int) (0:Int),()),((b0_0.nodes,(b0_0.types,(b0_0.top,((),(b0_2,(b0_3,(b0_4,(b0_5,(b0_6,(b0_7,(b0_8,((),(b0_10.name,(b0_10.params,(b0_10.An,(b0_10.frame,(b0_10.body,(b0_11,((),((),(b0_14,(b0_15,(b0_16,(b0_17,(b0_18,()))))))))))))))))))))))))),(k1,())))
 else
  if (decide (I b0_0.nodes.length<=n))=true then
  some ((Dop.AU.mk (0:Int) (-1:Int) (-1:Int) (-1:Int) (-1:Int) (@List.nil UInt8) (0:Int) (0:Int) (0:Int),()),((b0_0.nodes,(b0_0.types,(b0_0.top,((),(b0_2,(b0_3,(b0_4,(b0_5,(b0_6,(b0_7,(b0_8,((),(b0_10.name,(b0_10.params,(b0_10.An,(b0_10.frame,(b0_10.body,(b0_11,((),((),(b0_14,(b0_15,(b0_16,(b0_17,(b0_18,()))))))))))))))))))))))))),(k1,())))
  else
  if (decide ((0:Int)<=n/\n<I b0_0.nodes.length))=true then
  some ((@List.getD Dop.AU b0_0.nodes n.toNat Dop.d5,()),((b0_0.nodes,(b0_0.types,(b0_0.top,((),(b0_2,(b0_3,(b0_4,(b0_5,(b0_6,(b0_7,(b0_8,((),(b0_10.name,(b0_10.params,(b0_10.An,(b0_10.frame,(b0_10.body,(b0_11,((),((),(b0_14,(b0_15,(b0_16,(b0_17,(b0_18,()))))))))))))))))))))))))),(k1,())))
  else none:=by kernel_rfl
end Go.Proofs.Tryz
set_option maxRecDepth 100000
set_option maxHeartbeats 4000000
namespace Go.Proofs.Tryz
open Go Go.En
def M0.p:Ag:=⟨[],3,⟨[.al 0 0,.fd (.int .i64)],[⟨0,135,[.st 7,.al 1 0,.own 0 3,.own 11 52,.own 12 32,.st 0,.own 5 56,.rw 2,.mp (.str) 15 true,.mp (.str) 0 false,.st 11,.st 0,.mp (.str) 0 false,.mp (.str) 0 false,.st 0,.mr (.int .i64) 0 false 217,.st 0,.fd (.int .i64),.st 0],false⟩,CT.b1,⟨2,130,[.mr (.str) 9 true 129],true⟩]⟩,⟨[.st 5],[⟨0,135,[.fd (.sl 5),.fd (.sl 6),.fd (.int .i64),.al 1 0,.own 0 3,.own 11 52,.own 12 32,.fd (.int .i64),.own 5 56,.rw 2,.mp (.str) 15 true,.mp (.str) 0 false,.fd .str,.fd (.int .i64),.fd (.int .i64),.fd (.int .i64),.fd (.int .i64),.fd (.int .i64),.mp (.str) 0 false,.mp (.str) 0 false,.fd (.int .i64),.mr (.int .i64) 0 false 217,.fd (.int .i64),.fd (.int .i64),.fd (.int .i64)],false⟩,CT.b1,⟨2,0,[.mr (.str) 9 true 129],true⟩]⟩,false,[],[]⟩
theorem M0.ok:AF Dop.D4 prog 74 M0.p=true:=by kernel_rfl
end Go.Proofs.Tryz
set_option maxRecDepth 100000
set_option maxHeartbeats 4000000
namespace Go.Proofs.Tryz
open Go Go.En
def Ms.p:Ag:=⟨[],0,⟨[.fd (.sl 16)],[]⟩,⟨[.own 16 171],[]⟩,true,[],[]⟩
theorem Ms.ok:AF Dop.D4 prog 162 Ms.p=true:=by kernel_rfl
abbrev DV.q7:Cut:=⟨[[0,0,0,0,1,0,1,1,1,1],[0,1,0,0,1,0,1,1,1,1],[2,0,0,1,0,1,1,1,1],[1,0],[0,1,1,1,1,1]],[0,1,2,10,11,38,39,40],1,⟨[.al 0 0,.fd .str,.fd (.sl 16),.fd .bool,.mp (.str) 0 false,.fd (.sl 16),.fd (.int .i64),.fd (.int .i64)],[CT.b0]⟩⟩
abbrev DV.bg:Cut:=⟨[[0,0,0,0,1,0,1,1,1,1,1,1,1],[0,1,0,0,1,0,1,1,1,1,1,1,1],[2,0,0,1,0,1,1,1,1,1,1,1],[1,2],[0,1,1,1,1,1,1,1,1]],[0,1,2,14,64,65,66],1,⟨[.al 0 0,.fd .str,.fd (.sl 16),.fd (.int .i64),.fd (.sl 16),.fd (.int .i64),.fd (.int .i64)],[CT.b0]⟩⟩
def DV.p:Ag:=⟨[(7,DV.q7),(16,DV.bg)],1,⟨[.al 0 0,.fd .str,.fd (.sl 16)],[CT.b0]⟩,⟨[.fd (.int .i64)],[CT.b0]⟩,false,[(27,⟨[(0,true),(1,true),(2,true),(3,false),(4,true),(5,true),(6,false)],[7],[0,1,3,7,0,0,32,127],false⟩)],[]⟩
theorem DV.ok:AF Dop.D4 prog 122 DV.p=true:=by kernel_rfl
end Go.Proofs.Tryz
set_option maxRecDepth 100000
set_option maxHeartbeats 4000000
namespace Go.Proofs.Tryz
open Go Go.En
abbrev Ce.q4:Cut:=⟨[[0,0,0,0,1,1,1],[0,1,0,0,1,1,1],[2,0,0,1,1,1],[1,0]],[0,45,46],2,⟨[.al 0 0,.st 8,.fd (.int .i64)],[CK.b0,CT.b1]⟩⟩
def Ce.p:Ag:=⟨[(4,Ce.q4)],2,⟨[.al 0 0,.fd (.int .i64)],[CK.b0,CT.b1]⟩,⟨[],[CK.b0,CT.b1]⟩,false,[(2,⟨[(0,true),(1,true),(2,true),(4,true),(5,true),(6,false),(7,false),(8,true),(3,false),(9,false),(10,true)],[11,1000000],[0,1,3,7,0,0,32,112,240,511,1023,2047],false⟩)],[]⟩
theorem Ce.ok:AF Dop.D4 prog 129 Ce.p=true:=by kernel_rfl
abbrev Fx.T:Type:=(((Unit×Int×Unit)×(CK×CT×Unit))->Option (Unit×(CK×CT×Unit)))×Unit
end Go.Proofs.Tryz
set_option maxRecDepth 100000
set_option maxHeartbeats 4000000
namespace Go.Proofs.Tryz
open Go Go.En
def Fy.p:Ag:=⟨[],2,⟨[.al 0 0,.fd .str,.fd (.int .i64),.fd (.int .i64),.fd .bool],[CK.b0,CT.b1]⟩,⟨[.st 9,.fd .bool],[CK.b0,CT.b1]⟩,false,[(2,⟨[(0,true),(1,true),(2,true),(3,false),(4,true),(5,true),(6,true),(7,false),(8,false),(9,true),(10,false),(11,false),(12,true)],[],[0,1,3,7,0,16,48,112,240,496,1023,2047,4095],false⟩),(13,⟨[(0,true),(1,true),(2,true),(3,true),(4,false),(5,true),(6,false),(7,true)],[8,1000017],[0,1,3,7,15,0,32,127,255],false⟩),(18,⟨[(0,false),(1,true),(2,true),(3,true),(4,false),(5,true),(6,false),(7,true)],[1000010],[0,0,2,6,14,30,1,127],false⟩)],[(123,[]),(164,[])]⟩
theorem Fy.ok:AF Dop.D4 prog 130 Fy.p=true:=by kernel_rfl
end Go.Proofs.Tryz
namespace Go.Proofs
open Go Go.En
abbrev CH:Type:=En.Dop.G2×Unit×List (Int)×List (En.Dop.Eh)×List (En.Dop.Nl)×Int×List (En.Dop.AU)×List (List (List UInt8×En.Dop.Da))×List (List UInt8×En.Dop.QF)×Unit×En.Dop.Eh×Int×Unit×Unit×Int×List (List (Int×Int))×Int×Int×Int×Unit
abbrev CH.t (k:CH):En.Dop.G2:=k.1
abbrev CH.num (k:CH):List (Int):=k.2.2.1
abbrev CH.NX (k:CH) (v:List (Int)):CH:=(k.1,k.2.1,v,k.2.2.2)
abbrev CH.funcs (k:CH):List (En.Dop.Eh):=k.2.2.2.1
abbrev CH.globals (k:CH):List (En.Dop.Nl):=k.2.2.2.2.1
abbrev CH.FF (k:CH) (v:List (En.Dop.Nl)):CH:=(k.1,k.2.1,k.2.2.1,k.2.2.2.1,v,k.2.2.2.2.2)
abbrev CH.top (k:CH):Int:=k.2.2.2.2.2.1
abbrev CH.Oc (k:CH) (v:Int):CH:=(k.1,k.2.1,k.2.2.1,k.2.2.2.1,k.2.2.2.2.1,v,k.2.2.2.2.2.2)
abbrev CH.nodes (k:CH):List (En.Dop.AU):=k.2.2.2.2.2.2.1
abbrev CH.names (k:CH):List (List (List UInt8×En.Dop.Da)):=k.2.2.2.2.2.2.2.1
abbrev CH.Ct (k:CH) (v:List (List (List UInt8×En.Dop.Da))):CH:=(k.1,k.2.1,k.2.2.1,k.2.2.2.1,k.2.2.2.2.1,k.2.2.2.2.2.1,k.2.2.2.2.2.2.1,v,k.2.2.2.2.2.2.2.2)
abbrev CH.sigs (k:CH):List (List UInt8×En.Dop.QF):=k.2.2.2.2.2.2.2.2.1
abbrev CH.I8 (k:CH) (v:List (List UInt8×En.Dop.QF)):CH:=(k.1,k.2.1,k.2.2.1,k.2.2.2.1,k.2.2.2.2.1,k.2.2.2.2.2.1,k.2.2.2.2.2.2.1,k.2.2.2.2.2.2.2.1,v,k.2.2.2.2.2.2.2.2.2)
abbrev CH.loops (k:CH):Int:=k.2.2.2.2.2.2.2.2.2.2.2.2.2.2.1
abbrev CH.Rb (k:CH):List (List (Int×Int)):=k.2.2.2.2.2.2.2.2.2.2.2.2.2.2.2.1
abbrev CH.QG (k:CH):Int:=k.2.2.2.2.2.2.2.2.2.2.2.2.2.2.2.2.1
abbrev CH.e (k:CH):Int:=k.2.2.2.2.2.2.2.2.2.2.2.2.2.2.2.2.2.1
abbrev CH.Yj (k:CH) (v:Int):CH:=(k.1,k.2.1,k.2.2.1,k.2.2.2.1,k.2.2.2.2.1,k.2.2.2.2.2.1,k.2.2.2.2.2.2.1,k.2.2.2.2.2.2.2.1,k.2.2.2.2.2.2.2.2.1,k.2.2.2.2.2.2.2.2.2.1,k.2.2.2.2.2.2.2.2.2.2.1,k.2.2.2.2.2.2.2.2.2.2.2.1,k.2.2.2.2.2.2.2.2.2.2.2.2.1,k.2.2.2.2.2.2.2.2.2.2.2.2.2.1,k.2.2.2.2.2.2.2.2.2.2.2.2.2.2.1,k.2.2.2.2.2.2.2.2.2.2.2.2.2.2.2.1,k.2.2.2.2.2.2.2.2.2.2.2.2.2.2.2.2.1,v,k.2.2.2.2.2.2.2.2.2.2.2.2.2.2.2.2.2.2)
abbrev CH.when (k:CH):Int:=k.2.2.2.2.2.2.2.2.2.2.2.2.2.2.2.2.2.2.1
abbrev CH.FR (k:CH) (v:Int):CH:=(k.1,k.2.1,k.2.2.1,k.2.2.2.1,k.2.2.2.2.1,k.2.2.2.2.2.1,k.2.2.2.2.2.2.1,k.2.2.2.2.2.2.2.1,k.2.2.2.2.2.2.2.2.1,k.2.2.2.2.2.2.2.2.2.1,k.2.2.2.2.2.2.2.2.2.2.1,k.2.2.2.2.2.2.2.2.2.2.2.1,k.2.2.2.2.2.2.2.2.2.2.2.2.1,k.2.2.2.2.2.2.2.2.2.2.2.2.2.1,k.2.2.2.2.2.2.2.2.2.2.2.2.2.2.1,k.2.2.2.2.2.2.2.2.2.2.2.2.2.2.2.1,k.2.2.2.2.2.2.2.2.2.2.2.2.2.2.2.2.1,k.2.2.2.2.2.2.2.2.2.2.2.2.2.2.2.2.2.1,v,k.2.2.2.2.2.2.2.2.2.2.2.2.2.2.2.2.2.2.2)
abbrev CH.b0:En.Ga:=⟨0,135,[.st 7,.al 1 0,.own 0 3,.own 11 52,.own 12 32,.st 0,.own 5 56,.mr (.str) 9 true 129,.mp (.str) 15 true,.hm,.st 11,.st 0,.hm,.hm,.st 0,.mr (.int .i64) 0 false 217,.st 0,.fd (.int .i64),.st 0],false⟩
abbrev CH.b1:En.Ga:=⟨1,135,[.st 7,.al 2 0,.own 0 3,.own 11 52,.own 12 32,.st 0,.own 5 56,.mr (.str) 9 true 129,.mp (.str) 15 true,.hm,.st 11,.st 0,.hm,.hm,.st 0,.mr (.int .i64) 0 false 217,.st 0,.fd (.int .i64),.st 0],false⟩
abbrev CH.b2:En.Ga:=⟨2,135,[.st 7,.al 3 0,.own 0 3,.own 11 52,.own 12 32,.st 0,.own 5 56,.mr (.str) 9 true 129,.mp (.str) 15 true,.hm,.st 11,.st 0,.hm,.hm,.st 0,.mr (.int .i64) 0 false 217,.st 0,.fd (.int .i64),.st 0],false⟩
end Go.Proofs
set_option maxRecDepth 100000
set_option maxHeartbeats 4000000
namespace Go.Proofs.Tryz
open Go Go.En
def HE.p:Ag:=⟨[],2,⟨[.al 0 0,.fd (.int .i64)],[CH.b0,CT.b1]⟩,⟨[.st 5],[CH.b0,CT.b1]⟩,false,[],[]⟩
theorem HE.ok:AF Dop.D4 prog 74 HE.p=true:=by kernel_rfl
def Ca.p:Ag:=⟨[],2,⟨[.al 0 0,.fd (.int .i64),.fd (.int .i64)],[CH.b0,CT.b1]⟩,⟨[.st 10],[CH.b0,CT.b1]⟩,false,[],[]⟩
theorem Ca.ok:AF Dop.D4 prog 123 Ca.p=true:=by kernel_rfl
abbrev BN.q2:Cut:=⟨[[0,0,0,0,0,1,0,1],[0,1,0,0,0,1,0,1],[0,1,0,0,1,0,1],[2,0,0,1,0,1],[1,0],[0,1,1]],[0,1,2,7],2,⟨[.al 0 0,.fd (.int .i64),.fd (.int .i64),.fd (.int .i64)],[CH.b0,CT.b1]⟩⟩
abbrev BN.YT:Cut:=⟨[[0,0,0,1,1,1,0,0,1,0,0,1,0,1],[0,1,0,1,1,1,0,0,1,0,0,1,0,1],[0,1,1,1,1,0,0,1,0,0,1,0,1],[1,1],[0,1,1,0,0,1,0,1],[2,0,0,1,0,1],[1,0],[0,1,1]],[0,1,2,7,9,10],2,⟨[.al 0 0,.fd (.int .i64),.fd (.int .i64),.fd (.int .i64),.fd (.int .i64),.fd (.int .i64)],[CH.b0,CT.b1]⟩⟩
def BN.p:Ag:=⟨[(2,BN.q2),(13,BN.YT)],2,⟨[.al 0 0,.fd (.int .i64),.fd (.int .i64)],[CH.b0,CT.b1]⟩,⟨[.fd (.int .i64)],[CH.b0,CT.b1]⟩,false,[(8,⟨[(0,true),(1,true),(2,true),(3,false),(4,true),(5,true),(6,true),(7,false),(8,true),(9,false),(10,false),(11,false),(12,false),(13,true),(14,true),(15,true),(16,true),(17,true)],[2000000],[0,1,3,7,0,16,48,112,0,256,1008,2032,4095,8191,16383,16383,32767,131071],false⟩),(10,⟨[(0,true),(1,true),(2,true),(3,false),(4,true),(5,true),(6,true),(7,false),(8,true),(9,false),(10,false),(11,false),(12,true),(13,false),(14,false),(15,true),(16,true),(17,true),(18,true),(19,true)],[2000000],[0,1,3,7,0,16,48,112,0,256,1008,2032,0,4096,16383,32767,65535,65535,131071,524287],false⟩),(12,⟨[(0,true),(1,true),(2,true),(3,false),(4,true),(5,false),(6,false),(7,true),(8,true),(9,true),(10,true),(11,true)],[2000000],[0,1,3,7,0,16,63,127,255,255,511,2047],false⟩)],[]⟩
theorem BN.ok:AF Dop.D4 prog 121 BN.p=true:=by kernel_rfl
abbrev Hi.q3:Cut:=⟨[[0,0,0,0,1,0,1,1],[0,1,0,0,1,0,1,1],[2,0,0,1,0,1,1],[1,0],[0,1,1,1]],[0,2,4,6,16,17,18],3,⟨[.al 0 0,.fd (.int .i64),.al 2 0,.own 16 171,.own 0 3,.fd (.int .i64),.fd (.int .i64)],[CH.b0,CT.b1,⟨2,56,[.st 5],false⟩]⟩⟩
def Hi.p:Ag:=⟨[(3,Hi.q3)],2,⟨[.al 0 0,.st 5,.fd (.int .i64)],[CH.b0,CT.b1]⟩,⟨[],[CH.b0,CT.b1]⟩,false,[(2,⟨[(0,true),(1,true),(2,true),(3,false),(4,true),(5,false),(6,false),(7,false),(8,true)],[],[0,1,3,7,0,16,63,127,0],true⟩),(8,⟨[(0,true),(1,true),(2,true),(3,false),(4,true),(5,false),(6,true),(7,false),(8,true)],[2000000,9000000],[0,1,3,7,0,16,0,127,255],true⟩)],[]⟩
theorem Hi.ok:AF Dop.D4 prog 75 Hi.p=true:=by kernel_rfl
def Fg.p:Ag:=⟨[],2,⟨[.al 0 0,.fd (.int .i64)],[CH.b0,CT.b1]⟩,⟨[.fd (.int .i64)],[CH.b0,CT.b1]⟩,false,[],[]⟩
theorem Fg.ok:AF Dop.D4 prog 127 Fg.p=true:=by kernel_rfl
def HZ.p:Ag:=⟨[],2,⟨[.al 0 0,.fd (.int .i64)],[CH.b0,CT.b1]⟩,⟨[.fd .bool],[CH.b0,CT.b1]⟩,false,[],[]⟩
theorem HZ.ok:AF Dop.D4 prog 125 HZ.p=true:=by kernel_rfl
abbrev EE.bf:Cut:=⟨[[0,0,1,1,1,1,1,1,1,1],[0,1,1,1,1,1,1,1,1,1]],[0,4,6,7,13],3,⟨[.al 0 0,.al 2 0,.fd (.int .i64),.fd (.int .i64),.fd (.int .i64)],[CH.b0,CT.b1,⟨2,56,[.st 5],false⟩]⟩⟩
def EE.p:Ag:=⟨[(15,EE.bf)],2,⟨[.al 0 0,.st 5,.fd (.int .i64)],[CH.b0,CT.b1]⟩,⟨[],[CH.b0,CT.b1]⟩,false,[(3,⟨[(0,true),(1,true),(2,true),(3,false),(4,false),(5,false),(6,true),(7,false),(8,false),(9,true),(10,true),(11,true),(12,false)],[13,14],[0,1,3,7,15,31,0,64,255,511,1023,1023,0,6143,16383],false⟩),(4,⟨[(0,true),(1,true),(2,true),(3,false),(4,true),(5,false),(6,false),(7,true),(8,true),(9,true),(10,false)],[11,12],[0,1,3,7,0,16,63,127,255,255,0,1535,4095],false⟩),(15,⟨[(0,true),(1,true),(2,true),(3,false),(4,false),(5,false),(6,true),(7,false),(8,true),(9,true),(10,true),(11,true),(12,false),(13,true),(14,true)],[15],[0,1,3,7,15,31,0,64,0,256,768,1792,3840,0,16128,32767],false⟩),(16,⟨[(0,true),(1,true),(2,true),(3,true),(4,true),(5,false),(6,true),(7,false),(8,true),(9,true),(10,true),(11,true),(12,false),(13,true),(14,true),(15,true),(16,false)],[17,18,19,20,21],[0,0,2,6,14,30,0,64,0,256,768,1792,3840,0,0,32704,65472,131070,262143,524287,1048575,2097151],false⟩)],[]⟩
theorem EE.ok:AF Dop.D4 prog 76 EE.p=true:=by kernel_rfl
abbrev DZ.q7:Cut:=⟨[[0,0,0,1,1,1,1,1,1],[0,1,0,1,1,1,1,1,1],[0,1,1,1,1,1,1,1]],[0,2,4,6,11],4,⟨[.al 0 0,.fd (.int .i64),.al 2 0,.al 3 0,.own 0 3],[CH.b0,CT.b1,⟨2,56,[.st 5],false⟩,⟨3,140,[.own 0 3,.fd (.int .i64)],false⟩]⟩⟩
abbrev DZ.VW:Cut:=⟨[[0,0,0,0,1,0,1,1,1,1,1,1,1],[0,1,0,0,1,0,1,1,1,1,1,1,1],[2,0,0,1,0,1,1,1,1,1,1,1],[1,0],[0,1,1,1,1,1,1,1,1]],[0,2,4,6,85,86,87],4,⟨[.al 0 0,.fd (.int .i64),.al 2 0,.al 3 0,.own 0 3,.fd (.int .i64),.fd (.int .i64)],[CH.b0,CT.b1,⟨2,56,[.st 5],false⟩,⟨3,140,[.own 0 3,.fd (.int .i64)],false⟩]⟩⟩
def DZ.p:Ag:=⟨[(7,DZ.q7),(10,DZ.VW)],2,⟨[.al 0 0,.st 5,.fd (.int .i64)],[CH.b0,CT.b1]⟩,⟨[],[CH.b0,CT.b1]⟩,false,[(2,⟨[(0,true),(1,true),(2,true),(3,false),(4,true),(5,false),(6,false),(7,true),(8,true),(9,true),(10,false)],[11,12],[0,1,3,7,0,16,63,127,255,255,0,1535,4095],false⟩),(3,⟨[(0,true),(1,true),(2,true),(3,false),(4,false),(5,false),(6,true),(7,false),(8,false),(9,true),(10,true),(11,true),(12,false)],[13,14],[0,1,3,7,15,31,0,64,255,511,1023,1023,0,6143,16383],false⟩),(4,⟨[(0,true),(1,true),(2,true),(3,false),(4,true),(5,false),(6,false),(7,true)],[],[0,1,3,7,0,16,63,127],true⟩),(17,⟨[(0,true),(1,true),(2,true),(3,false),(4,true),(5,true),(6,true),(7,false),(8,true),(9,true),(10,true),(11,true),(12,true),(13,true),(14,false),(15,true),(16,false),(17,false),(18,true),(19,true)],[2000000],[0,1,3,7,15,31,63,127,255,511,1023,2047,4095,8191,16383,2047,34815,131071,262143,524287],false⟩),(19,⟨[(0,true),(1,true),(2,true),(3,false),(4,true),(5,false),(6,false)],[7],[0,1,3,7,0,16,0,127],false⟩)],[]⟩
theorem DZ.ok:AF Dop.D4 prog 77 DZ.p=true:=by kernel_rfl
end Go.Proofs.Tryz
set_option maxRecDepth 100000
set_option maxHeartbeats 4000000
namespace Go.Proofs.Tryz
open Go Go.En
def Jc.p:Ag:=⟨[],2,⟨[.al 0 0,.fd (.int .i64)],[CK.b0,CT.b1]⟩,⟨[.fd (.int .i64)],[CK.b0,CT.b1]⟩,false,[],[]⟩
theorem Jc.ok:AF Dop.D4 prog 166 Jc.p=true:=by kernel_rfl
def Mt.p:Ag:=⟨[],2,⟨[.al 0 0,.st 5,.fd (.int .i64)],[CK.b0,CT.b1]⟩,⟨[.fd (.int .i64)],[CK.b0,CT.b1]⟩,false,[(6,⟨[(0,true),(1,true),(2,false),(3,true),(4,true),(5,true),(6,false),(7,true),(8,false),(9,false),(10,true)],[1000000],[0,0,0,0,8,24,56,0,254,511,1023],true⟩)],[]⟩
theorem Mt.ok:AF Dop.D4 prog 169 Mt.p=true:=by kernel_rfl
def Jd.p:Ag:=⟨[],2,⟨[.al 0 0,.st 5,.fd (.int .i64)],[CK.b0,CT.b1]⟩,⟨[.fd (.int .i64)],[CK.b0,CT.b1]⟩,false,[(17,⟨[(0,true),(1,true),(2,false),(3,true),(4,false),(5,true),(6,true),(7,false),(8,false),(9,false),(10,true)],[1000000],[0,0,0,0,0,0,0,120,254,511,1023],true⟩)],[]⟩
theorem Jd.ok:AF Dop.D4 prog 173 Jd.p=true:=by kernel_rfl
abbrev Ba.mK:Cut:=⟨[[0,0,0,0,1,1,1,1,1,1,1,1,1,1,1,0,1,0,1,1,1],[0,1,0,0,1,1,1,1,1,1,1,1,1,1,1,0,1,0,1,1,1],[0,1,0,1,1,1,1,1,1,1,1,1,1,1,0,1,0,1,1,1],[1,0],[0,1,1,1,1]],[1,2,5],4,⟨[.fd (.int .i64),.al 2 0,.al 3 0],[CK.b0,CT.b1,⟨2,126,[.al 0 0],false⟩,⟨3,56,[.st 5],false⟩]⟩⟩
abbrev Ba.mL:Cut:=⟨[[0,0,1,1,1,1,1,1,1,1,1,1,1,1,0,1,0,1,1,1],[0,1,1,1,1,1,1,1,1,1,1,1,1,1,0,1,0,1,1,1],[1,0],[0,1,1,1,1]],[1,2,5,27],4,⟨[.fd (.int .i64),.al 2 0,.al 3 0,.fd (.int .i64)],[CK.b0,CT.b1,⟨2,126,[.al 0 0],false⟩,⟨3,56,[.st 5],false⟩]⟩⟩
def Ba.p:Ag:=⟨[(27,Ba.mK),(30,Ba.mL)],2,⟨[.al 0 0,.fd (.int .i64)],[CK.b0,CT.b1]⟩,⟨[.fd (.int .i64)],[CK.b0,CT.b1]⟩,false,[(6,⟨[(0,false),(1,false),(2,true),(3,false),(4,false),(5,false),(6,true)],[2000002],[0,0,0,4,14,31,63],false⟩),(15,⟨[(0,false),(1,true),(2,false),(3,true),(4,false),(5,false),(6,false),(7,true)],[2000002],[0,0,0,0,8,28,63,127],false⟩),(18,⟨[(0,false),(1,false),(2,true),(3,false),(4,false),(5,true),(6,true),(7,false),(8,true)],[2000002],[0,0,0,4,14,30,0,127,255],false⟩),(24,⟨[(0,false),(1,true),(2,true),(3,true),(4,false),(5,true),(6,false),(7,false),(8,false),(9,true)],[2000002],[0,0,0,0,0,0,32,112,255,511],false⟩),(33,⟨[(0,false),(1,true),(2,true),(3,false),(4,true),(5,false),(6,false),(7,true),(8,true),(9,true),(10,true),(11,true)],[],[0,1,3,7,0,16,63,127,255,255,511,2047],false⟩),(35,⟨[(0,false),(1,true),(2,true),(3,false),(4,true),(5,false),(6,true)],[7],[0,1,3,7,0,16,0,127],false⟩),(38,⟨[(0,false),(1,true),(2,true),(3,false),(4,true),(5,false),(6,false),(7,true)],[8],[0,1,3,7,0,16,63,127,255],false⟩),(39,⟨[(0,false),(1,true),(2,true),(3,false),(4,true),(5,false),(6,false),(7,true)],[],[0,1,3,7,0,16,63,127],false⟩),(41,⟨[(0,false),(1,false),(2,true),(3,false),(4,false),(5,true),(6,false),(7,false),(8,true)],[2000002],[0,0,0,4,14,0,32,127,255],false⟩),(44,⟨[(0,false),(1,false),(2,true),(3,true),(4,false),(5,false),(6,false),(7,false),(8,true),(9,true)],[10,2000002],[0,0,2,6,14,0,32,126,255,511,1023],false⟩),(48,⟨[(0,false),(1,false),(2,true),(3,true),(4,false),(5,false),(6,true),(7,true),(8,false),(9,false),(10,true),(11,false),(12,true),(13,true)],[14,2000002],[0,0,2,6,14,0,32,96,224,480,992,2046,4095,8191,16383],false⟩)],[(171,[(3,⟨[(0,true),(1,true),(2,true),(3,true),(4,false),(5,true),(6,true),(7,true),(8,false),(9,false),(10,true)],[11,12,13,14],[0,0,2,6,14,0,32,96,224,480,992,2046,4095,8191,16383],false⟩)])]⟩
theorem Ba.ok:AF Dop.D4 prog 135 Ba.p=true:=by kernel_rfl
def Gp.p:Ag:=⟨[],2,⟨[.al 0 0,.fd (.int .i64)],[CK.b0,CT.b1]⟩,⟨[.fd (.int .i64)],[CK.b0,CT.b1]⟩,false,[],[]⟩
theorem Gp.ok:AF Dop.D4 prog 168 Gp.p=true:=by kernel_rfl
def HA.p:Ag:=⟨[],2,⟨[.al 0 0,.st 5,.fd (.int .i64)],[CK.b0,CT.b1]⟩,⟨[.fd (.int .i64)],[CK.b0,CT.b1]⟩,false,[(6,⟨[(0,true),(1,true),(2,true),(3,false),(4,true),(5,true),(6,true),(7,false),(8,false),(9,true),(10,false),(11,false),(12,true)],[],[0,1,3,7,0,16,48,112,240,496,1023,2047,4095],false⟩),(12,⟨[(0,true),(1,true),(2,false),(3,true),(4,true),(5,false),(6,false),(7,true),(8,false),(9,true)],[1000000],[0,0,2,0,0,16,56,0,255,511],false⟩)],[]⟩
theorem HA.ok:AF Dop.D4 prog 170 HA.p=true:=by kernel_rfl
abbrev C7.q3:Cut:=⟨[[0,0,0,0,1,0,1,1],[0,1,0,0,1,0,1,1],[2,0,0,1,0,1,1],[1,0],[0,1,1,1]],[0,3,12,13,14],4,⟨[.al 0 0,.own 0 3,.own 0 3,.fd (.int .i64),.fd (.int .i64)],[⟨0,126,[.al 1 0],false⟩,CK.b1,CT.b2,⟨3,56,[.st 5],false⟩]⟩⟩
def C7.p:Ag:=⟨[(3,C7.q3)],4,⟨[.al 0 0,.al 3 0],[⟨0,126,[.al 1 0],false⟩,CK.b1,CT.b2,⟨3,56,[.st 5],false⟩]⟩,⟨[.fd (.int .i64)],[⟨0,126,[.al 1 0],false⟩,CK.b1,CT.b2,⟨3,56,[.st 5],false⟩]⟩,false,[(2,⟨[(0,false),(1,true),(2,true),(3,false),(4,true),(5,false),(6,false),(7,false),(8,true)],[],[0,1,3,7,0,16,63,127,0],true⟩),(7,⟨[(0,false),(1,false),(2,true),(3,false),(4,false),(5,true)],[2000000,9000000],[0,0,0,6,15,31],true⟩)],[]⟩
theorem C7.ok:AF Dop.D4 prog 172 C7.p=true:=by kernel_rfl
abbrev CU.T:Type:=(((Unit×Int×Unit)×(CK×CT×Unit))->Option ((Int×Unit)×(CK×CT×Unit)))×(((Unit×Int×Unit)×(CK×CT×Unit))->Option ((Int×Unit)×(CK×CT×Unit)))×(((Unit×Dop.AU×Int×Unit)×(CK×CT×Unit))->Option ((Int×Unit)×(CK×CT×Unit)))×(((Unit×Unit×Unit)×((Unit×Unit)×CK×CT×(Dop.AU×Unit)×Unit))->Option ((Int×Unit)×((Unit×Unit)×CK×CT×(Dop.AU×Unit)×Unit)))×Unit
noncomputable def CU.ct (r:CU.T):List (Bw Dop.D4):=[⟨135,Ba.p.bn,Ba.p.sp,Ba.p.rs,Ba.p.flat,.opt (r.1)⟩,⟨168,Gp.p.bn,Gp.p.sp,Gp.p.rs,Gp.p.flat,.opt (r.2.1)⟩,⟨170,HA.p.bn,HA.p.sp,HA.p.rs,HA.p.flat,.opt (r.2.2.1)⟩,⟨172,C7.p.bn,C7.p.sp,C7.p.rs,C7.p.flat,.opt (r.2.2.2.1)⟩]
end Go.Proofs.Tryz
set_option maxRecDepth 100000
set_option maxHeartbeats 4000000
namespace Go.Proofs.Tryz
open Go Go.En
abbrev Dr.q9:Cut:=⟨[[0,0,0,0,1,0,1,1,1,1,1,1,1,1],[0,1,0,0,1,0,1,1,1,1,1,1,1,1],[2,0,0,1,0,1,1,1,1,1,1,1,1],[1,0],[0,1,1,1,1,1,1,1,1,1]],[0,4,6,89,90,91],3,⟨[.al 0 0,.al 2 0,.own 0 3,.own 0 3,.fd (.int .i64),.fd (.int .i64)],[CK.b0,CT.b1,⟨2,56,[.st 5],false⟩]⟩⟩
abbrev Dr.YU:Cut:=⟨[[0,0,1,1,1,1,1,1,1,1,1,1,1],[0,1,1,1,1,1,1,1,1,1,1,1,1]],[0,6,15],2,⟨[.al 0 0,.own 0 3,.fd (.int .i64)],[CK.b0,CT.b1]⟩⟩
abbrev Dr.Vo:Cut:=⟨[[0,1,1,1,1,1,1,1,1,1,1,1,1,1,1]],[0,6,15],2,⟨[.al 0 0,.own 0 3,.fd (.int .i64)],[CK.b0,CT.b1]⟩⟩
def Dr.p:Ag:=⟨[(9,Dr.q9),(24,Dr.YU),(32,Dr.Vo)],2,⟨[.al 0 0,.st 5,.fd (.int .i64)],[CH.b0,CT.b1]⟩,⟨[],[CK.b0,CT.b1]⟩,false,[(1,⟨[(0,true),(1,true),(2,true),(3,false),(4,true),(5,true),(6,true),(7,true),(8,false),(9,true),(10,false),(11,false),(12,true),(13,true),(14,true)],[15,16,17,18],[0,0,0,4,12,0,32,96,224,0,512,2016,4064,4093,12285,28669,65535,131071,262143],false⟩),(5,⟨[(0,true),(1,true),(2,true),(3,true),(4,false),(5,true),(6,false),(7,false),(8,true),(9,false),(10,true),(11,true),(12,true)],[13],[0,0,2,6,14,0,32,126,254,510,1023,2047,4095,8191],false⟩),(8,⟨[(0,true),(1,true),(2,true),(3,false),(4,true),(5,false),(6,false),(7,false),(8,true)],[],[0,1,3,7,0,16,63,127,0],true⟩),(12,⟨[(0,true),(1,true),(2,true),(3,false),(4,true),(5,false),(6,false),(7,true),(8,true),(9,false),(10,false),(11,true)],[],[0,1,3,7,0,16,63,127,0,511,1023,2047],false⟩),(13,⟨[(0,true),(1,true),(2,true),(3,false),(4,true),(5,false),(6,false),(7,true)],[],[0,1,3,7,0,16,63,127],false⟩),(14,⟨[(0,true),(1,true),(2,true),(3,false),(4,false),(5,false),(6,true),(7,false),(8,false),(9,true),(10,true),(11,true),(12,false)],[13,14],[0,1,3,7,15,31,0,64,255,511,1023,1023,0,6143,16383],false⟩),(17,⟨[(0,true),(1,true),(2,true),(3,false),(4,false),(5,false),(6,true),(7,false),(8,true),(9,true),(10,true)],[11],[0,1,3,7,15,31,0,64,0,0,768,2047],false⟩),(33,⟨[(0,true),(1,true),(2,true),(3,true),(4,true),(5,false),(6,true),(7,true),(8,true),(9,false),(10,false)],[11,12,13,14,15],[0,0,2,6,14,30,0,64,192,448,960,2046,4095,8191,16383,32767],false⟩)],[]⟩
theorem Dr.ok:AF Dop.D4 prog 78 Dr.p=true:=by kernel_rfl
end Go.Proofs.Tryz
