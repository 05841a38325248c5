/-
 EvalLoops: what is told of a tree.
-/
import Derived.Test.YtmgkedikciddlaaGreatDoorMv
set_option maxRecDepth 1000000
set_option maxHeartbeats 1000000
namespace Go.Proofs
open Go Go.En
theorem bU:DV YV Rn 0:=fun p=>by kernel_rfl
theorem bV:DV YV Rn 1:=fun p=>by kernel_rfl
theorem bW:DV YV Rn 2:=fun p=>by kernel_rfl
theorem bX:DV YV Rn 3:=fun p=>by kernel_rfl
theorem jy {u:Nat} (hu:u<200):Tryz.m18.k (P4++(QA++(Lib.decDigits u++Rt)))=HJ (Rn (I u)) 0 0:=
 Ox bU bV bW bX j7 jr (by decide) (fun _ _=>by show 46<8192;decide) hu
end Go.Proofs
