/-
 CoreTypes: the runs whose first variable is of kind 1.
-/
import Derived.Test.YtkpggdcpaeanaaaGreatDoorCtS
set_option maxRecDepth 10000000
set_option maxHeartbeats 0
namespace Go.Proofs.Tryz
open Go Go.En
theorem Zq:((List.range 8).all fun n=>Bd (m5.kq (m5.kL 1000000) 1 0 (I n)))=true:=by kernel_rfl
theorem Zr:((List.range 8).all fun n=>Bd (m5.kq (m5.kL 1000000) 1 1 (I n)))=true:=by kernel_rfl
theorem Zs:((List.range 8).all fun n=>Bd (m5.kq (m5.kL 1000000) 1 2 (I n)))=true:=by kernel_rfl
theorem Zt:((List.range 8).all fun n=>Bd (m5.kq (m5.kL 1000000) 1 3 (I n)))=true:=by kernel_rfl
theorem Zu:((List.range 8).all fun n=>Bd (m5.kq (m5.kL 1000000) 1 4 (I n)))=true:=by kernel_rfl
theorem Zv:((List.range 8).all fun n=>Bd (m5.kq (m5.kL 1000000) 1 5 (I n)))=true:=by kernel_rfl
theorem Zw:((List.range 8).all fun n=>Bd (m5.kq (m5.kL 1000000) 1 6 (I n)))=true:=by kernel_rfl
theorem gF (k j:Int) (h0:0≤k) (h7:k<7) (g0:0≤j) (g8:j<8):m5.kq (m5.kL 1000000) 1 k j=some ((true,()),()):=by
 have hk:k=0∨k=1∨k=2∨k=3∨k=4∨k=5∨k=6:=by omega
 rcases hk with rfl|rfl|rfl|rfl|rfl|rfl|rfl
 ·exact Ao Zq g0 g8
 ·exact Ao Zr g0 g8
 ·exact Ao Zs g0 g8
 ·exact Ao Zt g0 g8
 ·exact Ao Zu g0 g8
 ·exact Ao Zv g0 g8
 ·exact Ao Zw g0 g8
end Go.Proofs.Tryz
