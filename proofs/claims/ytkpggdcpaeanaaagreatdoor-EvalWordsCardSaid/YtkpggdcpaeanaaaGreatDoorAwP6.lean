/-
 The small program of layer 6 is taken apart.
-/
import Derived.Test.YtkpggdcpaeanaaaGreatDoorMw
set_option maxRecDepth 10000000
set_option maxHeartbeats 0
namespace Go.Proofs.Tryz
open Go Go.En
def aw6.tre : En.Dop.Tre := .mk [.mk 1 (-1) (-1) (-1) (-1) [] 65 0 16,.mk 15 0 (-1) (-1) (-1) [] 0 0 11,.mk 30 1 (-1) (-1) (-1) [] 0 0 11,.mk 1 (-1) (-1) (-1) (-1) [] 7 0 27,.mk 37 3 (-1) (-1) (-1) [] 0 0 20,.mk 20 4 (-1) (-1) (-1) [] 0 0 20,.mk 20 2 5 (-1) (-1) [] 0 0 11,.mk 43 6 (-1) (-1) (-1) [] 0 0 10,.mk 50 (-1) 7 (-1) (-1) [109,97,105,110] 0 1 0,.mk 20 8 (-1) (-1) (-1) [] 0 0 0] [.mk 0 0 0 [],.mk 1 0 0 [],.mk 2 0 0 [],.mk 3 0 0 []] 9
theorem aw6_20.run : m20.KE.runF 3000 1000 m20.p.sp ((aw6.toks,()),()) = some ((aw6.tre,(0 : Int),(0 : Int),()),()) := by kernel_rfl
def aw6_20.c : Ctr En.Dop.D4 := ⟨20,m20.p.bn,m20.p.sp,m20.p.rs,m20.p.flat,.opt (memo (α := (List En.Dop.Tok × Unit) × Unit) (β := (En.Dop.Tre × Int × Int × Unit) × Unit) ((aw6.toks,()),()) ((aw6.tre,(0 : Int),(0 : Int),()),()))⟩
theorem aw6_20.holds : aw6_20.c.Holds prog := ctr_le m20.Kh (memo_le (α := (List En.Dop.Tok × Unit) × Unit) (β := (En.Dop.Tre × Int × Int × Unit) × Unit) aw6_20.run)
end Go.Proofs.Tryz
