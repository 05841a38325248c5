/-
 EvalLoops: what is told of a tree.
-/
import Derived.Test.YtmgkedikciddlaaGreatDoorMv
set_option maxRecDepth 1000000
set_option maxHeartbeats 1000000
namespace Go.Proofs.Tryz
open Go Go.En
theorem bA:DV YQ Rl 0:=fun p=>by kernel_rfl
theorem bB:DV YQ Rl 1:=fun p=>by kernel_rfl
theorem bC:DV YQ Rl 2:=fun p=>by kernel_rfl
theorem bD:DV YQ Rl 3:=fun p=>by kernel_rfl
theorem jt {u:Nat} (hu:u<200):m18.k (Pz++(P5++(Lib.decDigits u++Ro)))=HJ (Rl (I u)) 0 0:=
 Ox bA bB bC bD jz jl (by decide) (fun _ _=>by show 34<8192;decide) hu
end Go.Proofs.Tryz
