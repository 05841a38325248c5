/-
 CoreTypes: the runs whose first variable is of kind 0.
-/
import Derived.Test.YtkpggdcpaeanaaaGreatDoorCtS
set_option maxRecDepth 10000000
set_option maxHeartbeats 0
namespace Go.Proofs.Tryz
open Go Go.En
theorem Zi:((List.range 8).all fun n=>Bd (m5.kq (m5.kL 1000000) 0 0 (I n)))=true:=by kernel_rfl
theorem Zj:((List.range 8).all fun n=>Bd (m5.kq (m5.kL 1000000) 0 1 (I n)))=true:=by kernel_rfl
theorem Zk:((List.range 8).all fun n=>Bd (m5.kq (m5.kL 1000000) 0 2 (I n)))=true:=by kernel_rfl
theorem Zl:((List.range 8).all fun n=>Bd (m5.kq (m5.kL 1000000) 0 3 (I n)))=true:=by kernel_rfl
theorem Zm:((List.range 8).all fun n=>Bd (m5.kq (m5.kL 1000000) 0 4 (I n)))=true:=by kernel_rfl
theorem Zn:((List.range 8).all fun n=>Bd (m5.kq (m5.kL 1000000) 0 5 (I n)))=true:=by kernel_rfl
theorem Zp:((List.range 8).all fun n=>Bd (m5.kq (m5.kL 1000000) 0 6 (I n)))=true:=by kernel_rfl
theorem gE (k j:Int) (h0:0≤k) (h7:k<7) (g0:0≤j) (g8:j<8):m5.kq (m5.kL 1000000) 0 k j=some ((true,()),()):=by
 have hk:k=0∨k=1∨k=2∨k=3∨k=4∨k=5∨k=6:=by omega
 rcases hk with rfl|rfl|rfl|rfl|rfl|rfl|rfl
 ·exact Ao Zi g0 g8
 ·exact Ao Zj g0 g8
 ·exact Ao Zk g0 g8
 ·exact Ao Zl g0 g8
 ·exact Ao Zm g0 g8
 ·exact Ao Zn g0 g8
 ·exact Ao Zp g0 g8
end Go.Proofs.Tryz
