/-
 core.list in plain words.
-/
import Derived.Test.YtmgkedikciddlaaGreatDoorTwK
import Derived.Test.YtmgkedikciddlaaGreatDoorMm
set_option maxRecDepth 100000
namespace Go.Proofs.Tryz
open Go Go.En
noncomputable section
def Ae.fI {R:Type} (x:Int) (k0:CK) (k1:CT) (out:Int) (f:Int->CK->CT->Option R):Option R:=(Bd.k 20 x out (-1) 0 [] k0 k1).bind fun v=>f v.1.1 v.2.1 v.2.2.1
def Ae.fH:List Int->CK->CT->Int->Option ((Int×Unit)×(CK×CT×Unit))
 | [],k0,k1,out=>some ((out,()),(k0,k1,()))
 | x::r,k0,k1,out=>Ae.fI x k0 k1 out fun o p q=>Ae.fH r p q o
def Ae.k (l:List Int) (k0:CK) (k1:CT):Option ((Int×Unit)×(CK×CT×Unit)):=match decide (l.length<9223372036854775807) with
 | true=>Ae.fH l.reverse k0 k1 (-1)
 | false=>none
theorem Ae.X5 (x:Int) (k0:CK) (k1:CT) (out:Int):Ae.step x ((),(k0,k1,((),()),(out,()),()))=Ae.fI x k0 k1 out fun o p q=>some ((),(p,q,((),()),(o,()),())):=by kernel_rfl
theorem Ae.M9: ∀ (l:List Int) (k0:CK) (k1:CT) (out:Int),((Ae.go l ((),(k0,k1,((),()),(out,()),()))).bind fun y=>some ((y.2.2.2.2.1.1,()),(y.2.1,y.2.2.1,())))=Ae.fH l k0 k1 out
 | [],k0,k1,out=>rfl
 | x::r,k0,k1,out=>(congrArg (fun z=>(Option.bind z (Ae.go r)).bind fun y=>some ((y.2.2.2.2.1.1,()),(y.2.1,y.2.2.1,()))) (Ae.X5 x k0 k1 out)).trans (by
  unfold Ae.fI
  simp only [Option.bind_assoc,Option.bind_some]
  exact congrArg _ (funext fun v=>Ae.M9 r v.2.1 v.2.2.1 v.1.1))
theorem Ae.dn (x):Ae.R x=Ae.k x.1.2.1 x.2.1 x.2.2.1:=by
 unfold Ae.R Ae.k
 cases decide (x.1.2.1.length<9223372036854775807) with
 | true=>exact Ae.M9 _ _ _ _
 | false=>rfl
def Ae.Kc:B2 Dop.D4:=⟨61,Ae.p.bn,Ae.p.sp,Ae.p.rs,Ae.p.flat,.opt fun x=>Ae.k x.1.2.1 x.2.1 x.2.2.1⟩
theorem Ae.Kh:Ae.Kc.Holds prog:=TB Ae.holds (by unfold Ae.Kc Ae.c;rw [show Ae.R=fun x=>Ae.k x.1.2.1 x.2.1 x.2.2.1 from funext Ae.dn])
end
end Go.Proofs.Tryz
