/-
 EvalLoops: what is told of a tree.
-/
import Derived.Test.YtmgkedikciddlaaGreatDoorMv
set_option maxRecDepth 1000000
set_option maxHeartbeats 1000000
namespace Go.Proofs.Tryz
open Go Go.En
theorem bQ:DV YU Tl 0:=fun p=>by kernel_rfl
theorem bR:DV YU Tl 1:=fun p=>by kernel_rfl
theorem bS:DV YU Tl 2:=fun p=>by kernel_rfl
theorem bT:DV YU Tl 3:=fun p=>by kernel_rfl
theorem jx {u:Nat} (hu:u<200):m18.k (P3++(P9++(Lib.decDigits u++Rs)))=HJ (Tl (I u)) 0 0:=
 Ox bQ bR bS bT j6 jq (by decide) (fun _ _=>by show 38<8192;decide) hu
end Go.Proofs.Tryz
