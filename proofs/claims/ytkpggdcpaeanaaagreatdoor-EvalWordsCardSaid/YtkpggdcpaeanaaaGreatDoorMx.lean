/- The small program of layer 6 is checked. -/
import Derived.Test.YtkpggdcpaeanaaaGreatDoorAwP6
set_option maxRecDepth 10000000
set_option maxHeartbeats 0
namespace Go.Proofs.Tryz
open Go Go.En
def aw6.prg : En.Dop.Prg := .mk [.mk [109,97,105,110] 0 0 0 9] [] 1 [.mk 1 (-1) (-1) (-1) (-1) [] 65 0 0,.mk 14 0 (-1) (-1) (-1) [] 0 0 0,.mk 30 1 (-1) (-1) (-1) [] 0 0 0,.mk 1 (-1) (-1) (-1) (-1) [] 7 0 0,.mk 37 3 (-1) (-1) (-1) [] 0 0 0,.mk 20 4 (-1) (-1) (-1) [] 0 0 0,.mk 20 2 5 (-1) (-1) [] 0 0 0,.mk 43 6 (-1) (-1) (-1) [] 0 0 0,.mk 20 7 (-1) (-1) (-1) [] 0 0 0,.mk 43 8 (-1) (-1) (-1) [] 0 0 0]
theorem aw6_42.run : m42.KE.runF 3000 1000 m42.p.sp ((aw6.tre,()),()) = some ((aw6.prg,(0 : Int),(0 : Int),()),()) := by kernel_rfl
def aw6_42.c : Ctr En.Dop.D4 := ⟨42,m42.p.bn,m42.p.sp,m42.p.rs,m42.p.flat,.opt (memo (α := (En.Dop.Tre × Unit) × Unit) (β := (En.Dop.Prg × Int × Int × Unit) × Unit) ((aw6.tre,()),()) ((aw6.prg,(0 : Int),(0 : Int),()),()))⟩
theorem aw6_42.holds : aw6_42.c.Holds prog := ctr_le m42.Kh (memo_le (α := (En.Dop.Tre × Unit) × Unit) (β := (En.Dop.Prg × Int × Int × Unit) × Unit) aw6_42.run)
end Go.Proofs.Tryz
/- The awake of layer 6: a contract without a question. -/
set_option maxRecDepth 10000000
set_option maxHeartbeats 0
namespace Go.Proofs.Tryz
open Go Go.En
noncomputable def aw6_41.E : Env En.Dop.D4 := envOf prog 41 tb [aw6_19.c,aw6_20.c] m41.p
theorem aw6_41.run : aw6_41.E.runF 3000 1000 m41.p.sp ((aw6.src,()),()) = some ((aw6.tre,(0 : Int),(0 : Int),()),()) := by kernel_rfl
def aw6_41.c : Ctr En.Dop.D4 := ⟨41,m41.p.bn,m41.p.sp,m41.p.rs,m41.p.flat,.opt (memo (α := (List UInt8 × Unit) × Unit) (β := (En.Dop.Tre × Int × Int × Unit) × Unit) ((aw6.src,()),()) ((aw6.tre,(0 : Int),(0 : Int),()),()))⟩
theorem aw6_41.holds : aw6_41.c.Holds prog := ctr_le (fun_ctrF 3000 1000 tbOk (hct_cons aw6_19.holds (hct_cons aw6_20.holds hct_nil)) m41.ok) (memo_le (α := (List UInt8 × Unit) × Unit) (β := (En.Dop.Tre × Int × Int × Unit) × Unit) aw6_41.run)
noncomputable def aw6_18.E : Env En.Dop.D4 := envOf prog 18 tb [aw6_41.c,aw6_42.c] m18.p
theorem aw6_18.run : aw6_18.E.runF 3000 1000 m18.p.sp ((aw6.src,()),()) = some ((aw6.prg,(0 : Int),(0 : Int),()),()) := by kernel_rfl
def aw6_18.c : Ctr En.Dop.D4 := ⟨18,m18.p.bn,m18.p.sp,m18.p.rs,m18.p.flat,.opt (memo (α := (List UInt8 × Unit) × Unit) (β := (En.Dop.Prg × Int × Int × Unit) × Unit) ((aw6.src,()),()) ((aw6.prg,(0 : Int),(0 : Int),()),()))⟩
theorem aw6_18.holds : aw6_18.c.Holds prog := ctr_le (fun_ctrF 3000 1000 tbOk (hct_cons aw6_41.holds (hct_cons aw6_42.holds hct_nil)) m18.ok) (memo_le (α := (List UInt8 × Unit) × Unit) (β := (En.Dop.Prg × Int × Int × Unit) × Unit) aw6_18.run)
theorem aw6_36.run : m36.KE.runF 3000 1000 m36.p.sp ((aw6.prg,[],(100 : Int),()),()) = some ((En.Dop.Rsl.mk 1 7 [65],()),()) := by kernel_rfl
def aw6_36.c : Ctr En.Dop.D4 := ⟨36,m36.p.bn,m36.p.sp,m36.p.rs,m36.p.flat,.opt (memo (α := (En.Dop.Prg × List Int × Int × Unit) × Unit) (β := (En.Dop.Rsl × Unit) × Unit) ((aw6.prg,[],(100 : Int),()),()) ((En.Dop.Rsl.mk 1 7 [65],()),()))⟩
theorem aw6_36.holds : aw6_36.c.Holds prog := ctr_le m36.Kh (memo_le (α := (En.Dop.Prg × List Int × Int × Unit) × Unit) (β := (En.Dop.Rsl × Unit) × Unit) aw6_36.run)
noncomputable def aw6_30.E : Env En.Dop.D4 := envOf prog 30 tb [aw6_18.c,aw6_36.c] m30.p
theorem aw6_30.run : aw6_30.E.runF 3000 1000 m30.p.sp ((aw6.src,[],(100 : Int),()),()) = some ((En.Dop.Rsl.mk 1 7 [65],(0 : Int),()),()) := by kernel_rfl
def aw6_30.c : Ctr En.Dop.D4 := ⟨30,m30.p.bn,m30.p.sp,m30.p.rs,m30.p.flat,.opt (memo (α := (List UInt8 × List Int × Int × Unit) × Unit) (β := (En.Dop.Rsl × Int × Unit) × Unit) ((aw6.src,[],(100 : Int),()),()) ((En.Dop.Rsl.mk 1 7 [65],(0 : Int),()),()))⟩
theorem aw6_30.holds : aw6_30.c.Holds prog := ctr_le (fun_ctrF 3000 1000 tbOk (hct_cons aw6_18.holds (hct_cons aw6_36.holds hct_nil)) m30.ok) (memo_le (α := (List UInt8 × List Int × Int × Unit) × Unit) (β := (En.Dop.Rsl × Int × Unit) × Unit) aw6_30.run)
noncomputable def aw6.E : Env En.Dop.D4 := envOf prog 29 tb [aw6_30.c] m29.p
theorem aw6.run : aw6.E.runF 3000 1000 m29.p.sp ((),()) = some ((true,()),()) := by kernel_rfl
def awk6.c : Ctr En.Dop.D4 := ⟨29,0,⟨[],[]⟩,⟨[.fd .bool],[]⟩,true,.tot fun _ => ((true,()),())⟩
theorem awk6.holds : awk6.c.Holds prog := ctr_tot (fun_ctrF 3000 1000 tbOk (hct_cons aw6_30.holds hct_nil) m29.ok) fun _ => aw6.run
end Go.Proofs.Tryz
