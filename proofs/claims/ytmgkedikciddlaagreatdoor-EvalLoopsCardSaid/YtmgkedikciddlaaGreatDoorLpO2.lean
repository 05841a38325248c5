/-
 EvalLoops: what is told of a tree.
-/
import Derived.Test.YtmgkedikciddlaaGreatDoorMv
set_option maxRecDepth 1000000
set_option maxHeartbeats 1000000
namespace Go.Proofs.Tryz
open Go Go.En
theorem bI:DV YS QB 0:=fun p=>by kernel_rfl
theorem bJ:DV YS QB 1:=fun p=>by kernel_rfl
theorem bK:DV YS QB 2:=fun p=>by kernel_rfl
theorem bL:DV YS QB 3:=fun p=>by kernel_rfl
theorem jv {u:Nat} (hu:u<200):m18.k (P1++(P7++(Lib.decDigits u++Rq)))=HJ (QB (I u)) 0 0:=
 Ox bI bJ bK bL j4 jn (by decide) (fun _ _=>by show 43<8192;decide) hu
end Go.Proofs.Tryz
