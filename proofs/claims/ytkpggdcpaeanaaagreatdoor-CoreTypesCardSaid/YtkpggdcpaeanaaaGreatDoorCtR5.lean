/-
 CoreTypes: the runs whose first variable is of kind 5.
-/
import Derived.Test.YtkpggdcpaeanaaaGreatDoorCtS
set_option maxRecDepth 10000000
set_option maxHeartbeats 0
namespace Go.Proofs.Tryz
open Go Go.En
theorem aI:((List.range 8).all fun n=>Bd (m5.kq (m5.kL 1000000) 5 0 (I n)))=true:=by kernel_rfl
theorem aJ:((List.range 8).all fun n=>Bd (m5.kq (m5.kL 1000000) 5 1 (I n)))=true:=by kernel_rfl
theorem aK:((List.range 8).all fun n=>Bd (m5.kq (m5.kL 1000000) 5 2 (I n)))=true:=by kernel_rfl
theorem aL:((List.range 8).all fun n=>Bd (m5.kq (m5.kL 1000000) 5 3 (I n)))=true:=by kernel_rfl
theorem aM:((List.range 8).all fun n=>Bd (m5.kq (m5.kL 1000000) 5 4 (I n)))=true:=by kernel_rfl
theorem aN:((List.range 8).all fun n=>Bd (m5.kq (m5.kL 1000000) 5 5 (I n)))=true:=by kernel_rfl
theorem aO:((List.range 8).all fun n=>Bd (m5.kq (m5.kL 1000000) 5 6 (I n)))=true:=by kernel_rfl
theorem gJ (k j:Int) (h0:0≤k) (h7:k<7) (g0:0≤j) (g8:j<8):m5.kq (m5.kL 1000000) 5 k j=some ((true,()),()):=by
 have hk:k=0∨k=1∨k=2∨k=3∨k=4∨k=5∨k=6:=by omega
 rcases hk with rfl|rfl|rfl|rfl|rfl|rfl|rfl
 ·exact Ao aI g0 g8
 ·exact Ao aJ g0 g8
 ·exact Ao aK g0 g8
 ·exact Ao aL g0 g8
 ·exact Ao aM g0 g8
 ·exact Ao aN g0 g8
 ·exact Ao aO g0 g8
end Go.Proofs.Tryz
