/-
 core.list in plain words.
-/
import Derived.Test.YtikecakpcfpghaaGreatDoorTwK
import Derived.Test.YtikecakpcfpghaaGreatDoorMm
set_option maxRecDepth 100000
namespace Go.Proofs.Tryz
open Go Go.En
noncomputable section
def Ab.dz {R:Type} (x:Int) (k0:CK) (k1:CT) (out:Int) (f:Int->CK->CT->Option R):Option R:=(Ba.k 20 x out (-1) 0 [] k0 k1).bind fun v=>f v.1.1 v.2.1 v.2.2.1
def Ab.dy:List Int->CK->CT->Int->Option ((Int×Unit)×(CK×CT×Unit))
 | [],k0,k1,out=>some ((out,()),(k0,k1,()))
 | x::r,k0,k1,out=>Ab.dz x k0 k1 out fun o p q=>Ab.dy r p q o
def Ab.k (l:List Int) (k0:CK) (k1:CT):Option ((Int×Unit)×(CK×CT×Unit)):=match decide (l.length<9223372036854775807) with
 | true=>Ab.dy l.reverse k0 k1 (-1)
 | false=>none
theorem Ab.Xu (x:Int) (k0:CK) (k1:CT) (out:Int):Ab.step x ((),(k0,k1,((),()),(out,()),()))=Ab.dz x k0 k1 out fun o p q=>some ((),(p,q,((),()),(o,()),())):=by kernel_rfl
theorem Ab.M3: ∀ (l:List Int) (k0:CK) (k1:CT) (out:Int),((Ab.go l ((),(k0,k1,((),()),(out,()),()))).bind fun y=>some ((y.2.2.2.2.1.1,()),(y.2.1,y.2.2.1,())))=Ab.dy l k0 k1 out
 | [],k0,k1,out=>rfl
 | x::r,k0,k1,out=>(congrArg (fun z=>(Option.bind z (Ab.go r)).bind fun y=>some ((y.2.2.2.2.1.1,()),(y.2.1,y.2.2.1,()))) (Ab.Xu x k0 k1 out)).trans (by
  unfold Ab.dz
  simp only [Option.bind_assoc,Option.bind_some]
  exact congrArg _ (funext fun v=>Ab.M3 r v.2.1 v.2.2.1 v.1.1))
theorem Ab.cr (x):Ab.R x=Ab.k x.1.2.1 x.2.1 x.2.2.1:=by
 unfold Ab.R Ab.k
 cases decide (x.1.2.1.length<9223372036854775807) with
 | true=>exact Ab.M3 _ _ _ _
 | false=>rfl
def Ab.Kc:By Dop.D4:=⟨47,Ab.p.bn,Ab.p.sp,Ab.p.rs,Ab.p.flat,.opt fun x=>Ab.k x.1.2.1 x.2.1 x.2.2.1⟩
theorem Ab.Kh:Ab.Kc.Holds prog:=Sn Ab.holds (by unfold Ab.Kc Ab.c;rw [show Ab.R=fun x=>Ab.k x.1.2.1 x.2.1 x.2.2.1 from funext Ab.cr])
end
end Go.Proofs.Tryz
