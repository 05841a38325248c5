/-
 EvalRows: a row's text, scanned.
-/
import Derived.Test.YtpjlciengdhjoaaGreatDoorMu
import Derived.Test.YtpjlciengdhjoaaGreatDoorMv
set_option maxRecDepth 1000000
set_option maxHeartbeats 100000000
namespace Go.Proofs
open Go Go.En Tryz
def nI (o:List UInt8):Prop:= ∀ f:Nat->UInt8,((List.range 140).map fun k=>kT 1 (32::(o++32::(List.range k).map f)))=(List.range 140).map fun k=>some ([(1,.mk 4 o 0 0)],32::(List.range k).map f)
theorem n7 {p:List UInt8} (hp:p∈At):nI p:=by
 simp only [At,List.mem_cons,List.not_mem_nil,or_false] at hp
 rcases hp with rfl|rfl|rfl|rfl|rfl|rfl|rfl|rfl|rfl|rfl|rfl|rfl|rfl|rfl|rfl|rfl<;>exact fun f=>by as_aux_lemma=>kernel_rfl
end Go.Proofs
