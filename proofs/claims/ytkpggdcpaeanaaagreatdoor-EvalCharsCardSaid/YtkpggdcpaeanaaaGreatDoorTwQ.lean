/-
 core.list in plain words.
-/
import Derived.Test.YtkpggdcpaeanaaaGreatDoorTwK
import Derived.Test.YtkpggdcpaeanaaaGreatDoorMm
set_option maxRecDepth 100000
namespace Go.Proofs.Tryz
open Go Go.En
noncomputable section
def Aa.dR {R:Type} (x:Int) (k0:CK) (k1:CT) (out:Int) (f:Int->CK->CT->Option R):Option R:=(BU.k 20 x out (-1) 0 [] k0 k1).bind fun v=>f v.1.1 v.2.1 v.2.2.1
def Aa.dQ:List Int->CK->CT->Int->Option ((Int×Unit)×(CK×CT×Unit))
 | [],k0,k1,out=>some ((out,()),(k0,k1,()))
 | x::r,k0,k1,out=>Aa.dR x k0 k1 out fun o p q=>Aa.dQ r p q o
def Aa.k (l:List Int) (k0:CK) (k1:CT):Option ((Int×Unit)×(CK×CT×Unit)):=match decide (l.length<9223372036854775807) with
 | true=>Aa.dQ l.reverse k0 k1 (-1)
 | false=>none
theorem Aa.Xa (x:Int) (k0:CK) (k1:CT) (out:Int):Aa.step x ((),(k0,k1,((),()),(out,()),()))=Aa.dR x k0 k1 out fun o p q=>some ((),(p,q,((),()),(o,()),())):=by kernel_rfl
theorem Aa.Mi: ∀ (l:List Int) (k0:CK) (k1:CT) (out:Int),((Aa.go l ((),(k0,k1,((),()),(out,()),()))).bind fun y=>some ((y.2.2.2.2.1.1,()),(y.2.1,y.2.2.1,())))=Aa.dQ l k0 k1 out
 | [],k0,k1,out=>rfl
 | x::r,k0,k1,out=>(congrArg (fun z=>(Option.bind z (Aa.go r)).bind fun y=>some ((y.2.2.2.2.1.1,()),(y.2.1,y.2.2.1,()))) (Aa.Xa x k0 k1 out)).trans (by
  unfold Aa.dR
  simp only [Option.bind_assoc,Option.bind_some]
  exact congrArg _ (funext fun v=>Aa.Mi r v.2.1 v.2.2.1 v.1.1))
theorem Aa.bz (x):Aa.R x=Aa.k x.1.2.1 x.2.1 x.2.2.1:=by
 unfold Aa.R Aa.k
 cases decide (x.1.2.1.length<9223372036854775807) with
 | true=>exact Aa.Mi _ _ _ _
 | false=>rfl
def Aa.Kc:Bw Dop.D4:=⟨136,Aa.p.bn,Aa.p.sp,Aa.p.rs,Aa.p.flat,.opt fun x=>Aa.k x.1.2.1 x.2.1 x.2.2.1⟩
theorem Aa.Kh:Aa.Kc.Holds prog:=SW Aa.holds (by unfold Aa.Kc Aa.c;rw [show Aa.R=fun x=>Aa.k x.1.2.1 x.2.1 x.2.2.1 from funext Aa.bz])
end
end Go.Proofs.Tryz
