/-
 EvalLoops: what is told of a tree.
-/
import Derived.Test.YtmgkedikciddlaaGreatDoorMv
set_option maxRecDepth 1000000
set_option maxHeartbeats 1000000
namespace Go.Proofs.Tryz
open Go Go.En
theorem bE:DV YR Rm 0:=fun p=>by kernel_rfl
theorem bF:DV YR Rm 1:=fun p=>by kernel_rfl
theorem bG:DV YR Rm 2:=fun p=>by kernel_rfl
theorem bH:DV YR Rm 3:=fun p=>by kernel_rfl
theorem ju {u:Nat} (hu:u<200):m18.k (P0++(P6++(Lib.decDigits u++Rp)))=HJ (Rm (I u)) 0 0:=
 Ox bE bF bG bH j3 jm (by decide) (fun _ _=>by show 34<8192;decide) hu
end Go.Proofs.Tryz
