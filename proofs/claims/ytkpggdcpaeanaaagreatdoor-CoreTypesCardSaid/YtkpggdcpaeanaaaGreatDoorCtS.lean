/-
 CoreTypes: how runs are told.
-/
import Derived.Test.YtkpggdcpaeanaaaGreatDoorCtB
namespace Go.Proofs.Tryz
open Go Go.En
def Bd (x:Option ((Bool×Unit)×Unit)):Bool:=match x with
 | some ((true,_),_)=>true
 | _=>false
theorem XV {x:Option ((Bool×Unit)×Unit)} (h:Bd x=true):x=some ((true,()),()):=by
 match x,h with
 | some ((true,_),_),_=>rfl
theorem Ao {f:Int→Option ((Bool×Unit)×Unit)} (h:((List.range 8).all fun n=>Bd (f (I n)))=true) {j:Int} (h0:0≤j) (h8:j<8):f j=some ((true,()),()):=by
 have:=List.all_eq_true.1 h j.toNat (List.mem_range.2 (by omega))
 have e:I j.toNat=j:=by simp only [I];omega
 rw [e] at this
 exact XV this
theorem Hx {α:Type} {b:Bool} {x:Option α} (h:b=true):ck b x=x:=by rw [h];rfl
end Go.Proofs.Tryz
