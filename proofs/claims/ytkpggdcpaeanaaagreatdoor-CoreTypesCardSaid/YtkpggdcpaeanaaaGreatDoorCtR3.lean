/-
 CoreTypes: the runs whose first variable is of kind 3.
-/
import Derived.Test.YtkpggdcpaeanaaaGreatDoorCtS
set_option maxRecDepth 10000000
set_option maxHeartbeats 0
namespace Go.Proofs.Tryz
open Go Go.En
theorem Z4:((List.range 8).all fun n=>Bd (m5.kq (m5.kL 1000000) 3 0 (I n)))=true:=by kernel_rfl
theorem Z5:((List.range 8).all fun n=>Bd (m5.kq (m5.kL 1000000) 3 1 (I n)))=true:=by kernel_rfl
theorem Z6:((List.range 8).all fun n=>Bd (m5.kq (m5.kL 1000000) 3 2 (I n)))=true:=by kernel_rfl
theorem Z7:((List.range 8).all fun n=>Bd (m5.kq (m5.kL 1000000) 3 3 (I n)))=true:=by kernel_rfl
theorem Z8:((List.range 8).all fun n=>Bd (m5.kq (m5.kL 1000000) 3 4 (I n)))=true:=by kernel_rfl
theorem Z9:((List.range 8).all fun n=>Bd (m5.kq (m5.kL 1000000) 3 5 (I n)))=true:=by kernel_rfl
theorem aA:((List.range 8).all fun n=>Bd (m5.kq (m5.kL 1000000) 3 6 (I n)))=true:=by kernel_rfl
theorem gH (k j:Int) (h0:0≤k) (h7:k<7) (g0:0≤j) (g8:j<8):m5.kq (m5.kL 1000000) 3 k j=some ((true,()),()):=by
 have hk:k=0∨k=1∨k=2∨k=3∨k=4∨k=5∨k=6:=by omega
 rcases hk with rfl|rfl|rfl|rfl|rfl|rfl|rfl
 ·exact Ao Z4 g0 g8
 ·exact Ao Z5 g0 g8
 ·exact Ao Z6 g0 g8
 ·exact Ao Z7 g0 g8
 ·exact Ao Z8 g0 g8
 ·exact Ao Z9 g0 g8
 ·exact Ao aA g0 g8
end Go.Proofs.Tryz
