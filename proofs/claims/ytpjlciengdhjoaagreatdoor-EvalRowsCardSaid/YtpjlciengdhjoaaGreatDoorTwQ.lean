/-
 core.list in plain words.
-/
import Derived.Test.YtpjlciengdhjoaaGreatDoorTwK
import Derived.Test.YtpjlciengdhjoaaGreatDoorMm
set_option maxRecDepth 100000
namespace Go.Proofs.Tryz
open Go Go.En
noncomputable section
def Ai.dB {R:Type} (x:Int) (k0:CK) (k1:CT) (out:Int) (f:Int->CK->CT->Option R):Option R:=(BX.k 20 x out (-1) 0 [] k0 k1).bind fun v=>f v.1.1 v.2.1 v.2.2.1
def Ai.ay:List Int->CK->CT->Int->Option ((Int×Unit)×(CK×CT×Unit))
 | [],k0,k1,out=>some ((out,()),(k0,k1,()))
 | x::r,k0,k1,out=>Ai.dB x k0 k1 out fun o p q=>Ai.ay r p q o
def Ai.k (l:List Int) (k0:CK) (k1:CT):Option ((Int×Unit)×(CK×CT×Unit)):=match decide (l.length<9223372036854775807) with
 | true=>Ai.ay l.reverse k0 k1 (-1)
 | false=>none
theorem Ai.YK (x:Int) (k0:CK) (k1:CT) (out:Int):Ai.step x ((),(k0,k1,((),()),(out,()),()))=Ai.dB x k0 k1 out fun o p q=>some ((),(p,q,((),()),(o,()),())):=by kernel_rfl
theorem Ai.NR: ∀ (l:List Int) (k0:CK) (k1:CT) (out:Int),((Ai.go l ((),(k0,k1,((),()),(out,()),()))).bind fun y=>some ((y.2.2.2.2.1.1,()),(y.2.1,y.2.2.1,())))=Ai.ay l k0 k1 out
 | [],k0,k1,out=>rfl
 | x::r,k0,k1,out=>(congrArg (fun z=>(Option.bind z (Ai.go r)).bind fun y=>some ((y.2.2.2.2.1.1,()),(y.2.1,y.2.2.1,()))) (Ai.YK x k0 k1 out)).trans (by
  unfold Ai.dB
  simp only [Option.bind_assoc,Option.bind_some]
  exact congrArg _ (funext fun v=>Ai.NR r v.2.1 v.2.2.1 v.1.1))
theorem Ai.dn (x):Ai.R x=Ai.k x.1.2.1 x.2.1 x.2.2.1:=by
 unfold Ai.R Ai.k
 cases decide (x.1.2.1.length<9223372036854775807) with
 | true=>exact Ai.NR _ _ _ _
 | false=>rfl
def Ai.Kc:BU Dop.D4:=⟨63,Ai.p.bn,Ai.p.sp,Ai.p.rs,Ai.p.flat,.opt fun x=>Ai.k x.1.2.1 x.2.1 x.2.2.1⟩
theorem Ai.Kh:Ai.Kc.Holds prog:=Mx Ai.holds (by unfold Ai.Kc Ai.c;rw [show Ai.R=fun x=>Ai.k x.1.2.1 x.2.1 x.2.2.1 from funext Ai.dn])
end
end Go.Proofs.Tryz
