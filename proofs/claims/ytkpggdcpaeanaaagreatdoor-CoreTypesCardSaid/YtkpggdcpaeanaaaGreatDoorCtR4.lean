/-
 CoreTypes: the runs whose first variable is of kind 4.
-/
import Derived.Test.YtkpggdcpaeanaaaGreatDoorCtS
set_option maxRecDepth 10000000
set_option maxHeartbeats 0
namespace Go.Proofs.Tryz
open Go Go.En
theorem aB:((List.range 8).all fun n=>Bd (m5.kq (m5.kL 1000000) 4 0 (I n)))=true:=by kernel_rfl
theorem aC:((List.range 8).all fun n=>Bd (m5.kq (m5.kL 1000000) 4 1 (I n)))=true:=by kernel_rfl
theorem aD:((List.range 8).all fun n=>Bd (m5.kq (m5.kL 1000000) 4 2 (I n)))=true:=by kernel_rfl
theorem aE:((List.range 8).all fun n=>Bd (m5.kq (m5.kL 1000000) 4 3 (I n)))=true:=by kernel_rfl
theorem aF:((List.range 8).all fun n=>Bd (m5.kq (m5.kL 1000000) 4 4 (I n)))=true:=by kernel_rfl
theorem aG:((List.range 8).all fun n=>Bd (m5.kq (m5.kL 1000000) 4 5 (I n)))=true:=by kernel_rfl
theorem aH:((List.range 8).all fun n=>Bd (m5.kq (m5.kL 1000000) 4 6 (I n)))=true:=by kernel_rfl
theorem gI (k j:Int) (h0:0≤k) (h7:k<7) (g0:0≤j) (g8:j<8):m5.kq (m5.kL 1000000) 4 k j=some ((true,()),()):=by
 have hk:k=0∨k=1∨k=2∨k=3∨k=4∨k=5∨k=6:=by omega
 rcases hk with rfl|rfl|rfl|rfl|rfl|rfl|rfl
 ·exact Ao aB g0 g8
 ·exact Ao aC g0 g8
 ·exact Ao aD g0 g8
 ·exact Ao aE g0 g8
 ·exact Ao aF g0 g8
 ·exact Ao aG g0 g8
 ·exact Ao aH g0 g8
end Go.Proofs.Tryz
