/-
 CoreTypes: the runs whose first variable is of kind 6.
-/
import Derived.Test.YtkpggdcpaeanaaaGreatDoorCtS
set_option maxRecDepth 10000000
set_option maxHeartbeats 0
namespace Go.Proofs.Tryz
open Go Go.En
theorem aP:((List.range 8).all fun n=>Bd (m5.kq (m5.kL 1000000) 6 0 (I n)))=true:=by kernel_rfl
theorem aQ:((List.range 8).all fun n=>Bd (m5.kq (m5.kL 1000000) 6 1 (I n)))=true:=by kernel_rfl
theorem aR:((List.range 8).all fun n=>Bd (m5.kq (m5.kL 1000000) 6 2 (I n)))=true:=by kernel_rfl
theorem aS:((List.range 8).all fun n=>Bd (m5.kq (m5.kL 1000000) 6 3 (I n)))=true:=by kernel_rfl
theorem aT:((List.range 8).all fun n=>Bd (m5.kq (m5.kL 1000000) 6 4 (I n)))=true:=by kernel_rfl
theorem aU:((List.range 8).all fun n=>Bd (m5.kq (m5.kL 1000000) 6 5 (I n)))=true:=by kernel_rfl
theorem aV:((List.range 8).all fun n=>Bd (m5.kq (m5.kL 1000000) 6 6 (I n)))=true:=by kernel_rfl
theorem gK (k j:Int) (h0:0≤k) (h7:k<7) (g0:0≤j) (g8:j<8):m5.kq (m5.kL 1000000) 6 k j=some ((true,()),()):=by
 have hk:k=0∨k=1∨k=2∨k=3∨k=4∨k=5∨k=6:=by omega
 rcases hk with rfl|rfl|rfl|rfl|rfl|rfl|rfl
 ·exact Ao aP g0 g8
 ·exact Ao aQ g0 g8
 ·exact Ao aR g0 g8
 ·exact Ao aS g0 g8
 ·exact Ao aT g0 g8
 ·exact Ao aU g0 g8
 ·exact Ao aV g0 g8
end Go.Proofs.Tryz
