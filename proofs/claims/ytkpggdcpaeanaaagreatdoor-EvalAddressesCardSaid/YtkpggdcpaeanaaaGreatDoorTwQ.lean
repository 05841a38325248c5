/-
 core.list in plain words.
-/
import Derived.Test.YtkpggdcpaeanaaaGreatDoorTwK
import Derived.Test.YtkpggdcpaeanaaaGreatDoorMm
set_option maxRecDepth 100000
namespace Go.Proofs.Tryz
open Go Go.En
noncomputable section
def Aa.cP {R:Type} (x:Int) (k0:CK) (k1:CT) (out:Int) (f:Int->CK->CT->Option R):Option R:=(BO.k 20 x out (-1) 0 [] k0 k1).bind fun v=>f v.1.1 v.2.1 v.2.2.1
def Aa.cO:List Int->CK->CT->Int->Option ((Int×Unit)×(CK×CT×Unit))
 | [],k0,k1,out=>some ((out,()),(k0,k1,()))
 | x::r,k0,k1,out=>Aa.cP x k0 k1 out fun o p q=>Aa.cO r p q o
def Aa.k (l:List Int) (k0:CK) (k1:CT):Option ((Int×Unit)×(CK×CT×Unit)):=match decide (l.length<9223372036854775807) with
 | true=>Aa.cO l.reverse k0 k1 (-1)
 | false=>none
theorem Aa.Wl (x:Int) (k0:CK) (k1:CT) (out:Int):Aa.step x ((),(k0,k1,((),()),(out,()),()))=Aa.cP x k0 k1 out fun o p q=>some ((),(p,q,((),()),(o,()),())):=by kernel_rfl
theorem Aa.MW: ∀ (l:List Int) (k0:CK) (k1:CT) (out:Int),((Aa.go l ((),(k0,k1,((),()),(out,()),()))).bind fun y=>some ((y.2.2.2.2.1.1,()),(y.2.1,y.2.2.1,())))=Aa.cO l k0 k1 out
 | [],k0,k1,out=>rfl
 | x::r,k0,k1,out=>(congrArg (fun z=>(Option.bind z (Aa.go r)).bind fun y=>some ((y.2.2.2.2.1.1,()),(y.2.1,y.2.2.1,()))) (Aa.Wl x k0 k1 out)).trans (by
  unfold Aa.cP
  simp only [Option.bind_assoc,Option.bind_some]
  exact congrArg _ (funext fun v=>Aa.MW r v.2.1 v.2.2.1 v.1.1))
theorem Aa.bA (x):Aa.R x=Aa.k x.1.2.1 x.2.1 x.2.2.1:=by
 unfold Aa.R Aa.k
 cases decide (x.1.2.1.length<9223372036854775807) with
 | true=>exact Aa.MW _ _ _ _
 | false=>rfl
def Aa.Kc:Bp Dop.D4:=⟨136,Aa.p.bn,Aa.p.sp,Aa.p.rs,Aa.p.flat,.opt fun x=>Aa.k x.1.2.1 x.2.1 x.2.2.1⟩
theorem Aa.Kh:Aa.Kc.Holds prog:=R0 Aa.holds (by unfold Aa.Kc Aa.c;rw [show Aa.R=fun x=>Aa.k x.1.2.1 x.2.1 x.2.2.1 from funext Aa.bA])
end
end Go.Proofs.Tryz
