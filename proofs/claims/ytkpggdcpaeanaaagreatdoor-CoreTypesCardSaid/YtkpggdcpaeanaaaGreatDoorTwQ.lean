/-
 core.list in plain words.
-/
import Derived.Test.YtkpggdcpaeanaaaGreatDoorTwK
import Derived.Test.YtkpggdcpaeanaaaGreatDoorMm
set_option maxRecDepth 100000
namespace Go.Proofs.Tryz
open Go Go.En
noncomputable section
def AX.bF {R:Type} (x:Int) (k0:CK) (k1:CT) (out:Int) (f:Int→CK→CT→Option R):Option R:=(BQ.k 20 x out (-1) 0 [] k0 k1).bind fun v=>f v.1.1 v.2.1 v.2.2.1
def AX.bE:List Int→CK→CT→Int→Option ((Int×Unit)×(CK×CT×Unit))
 | [],k0,k1,out=>some ((out,()),(k0,k1,()))
 | x::r,k0,k1,out=>AX.bF x k0 k1 out fun o p q=>AX.bE r p q o
def AX.k (l:List Int) (k0:CK) (k1:CT):Option ((Int×Unit)×(CK×CT×Unit)):=match decide (l.length<9223372036854775807) with
 | true=>AX.bE l.reverse k0 k1 (-1)
 | false=>none
theorem AX.Vc (x:Int) (k0:CK) (k1:CT) (out:Int):AX.step x ((),(k0,k1,((),()),(out,()),()))=AX.bF x k0 k1 out fun o p q=>some ((),(p,q,((),()),(o,()),())):=by kernel_rfl
theorem AX.Lj: ∀ (l:List Int) (k0:CK) (k1:CT) (out:Int),((AX.go l ((),(k0,k1,((),()),(out,()),()))).bind fun y=>some ((y.2.2.2.2.1.1,()),(y.2.1,y.2.2.1,())))=AX.bE l k0 k1 out
 | [],k0,k1,out=>rfl
 | x::r,k0,k1,out=>(congrArg (fun z=>(Option.bind z (AX.go r)).bind fun y=>some ((y.2.2.2.2.1.1,()),(y.2.1,y.2.2.1,()))) (AX.Vc x k0 k1 out)).trans (by
  unfold AX.bF
  simp only [Option.bind_assoc,Option.bind_some]
  exact congrArg _ (funext fun v=>AX.Lj r v.2.1 v.2.2.1 v.1.1))
theorem AX.ZL (x):AX.R x=AX.k x.1.2.1 x.2.1 x.2.2.1:=by
 unfold AX.R AX.k
 cases decide (x.1.2.1.length<9223372036854775807) with
 | true=>exact AX.Lj _ _ _ _
 | false=>rfl
def AX.Kc:Bw Dop.D4:=⟨136,AX.p.bn,AX.p.sp,AX.p.rs,AX.p.flat,.opt fun x=>AX.k x.1.2.1 x.2.1 x.2.2.1⟩
theorem AX.Kh:AX.Kc.Holds prog:=Qz AX.holds (by unfold AX.Kc AX.c;rw [show AX.R=fun x=>AX.k x.1.2.1 x.2.1 x.2.2.1 from funext AX.ZL])
end
end Go.Proofs.Tryz
