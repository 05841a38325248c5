/-
 EvalLoops: what is told of a tree.
-/
import Derived.Test.YtmgkedikciddlaaGreatDoorMv
set_option maxRecDepth 1000000
set_option maxHeartbeats 1000000
namespace Go.Proofs.Tryz
open Go Go.En
theorem bM:DV YT Tk 0:=fun p=>by kernel_rfl
theorem bN:DV YT Tk 1:=fun p=>by kernel_rfl
theorem bO:DV YT Tk 2:=fun p=>by kernel_rfl
theorem bP:DV YT Tk 3:=fun p=>by kernel_rfl
theorem jw {u:Nat} (hu:u<200):m18.k (P2++(P8++(Lib.decDigits u++Rr)))=HJ (Tk (I u)) 0 0:=
 Ox bM bN bO bP j5 jo (by decide) (fun _ _=>by show 42<8192;decide) hu
end Go.Proofs.Tryz
