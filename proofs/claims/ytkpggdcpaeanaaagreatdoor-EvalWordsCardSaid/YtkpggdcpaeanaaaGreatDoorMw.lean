/- A contract that knows one run: what it is given, and what it tells. -/
import Derived.Test.YtkpggdcpaeanaaaGreatDoorMv
namespace Go.En
def memo {α β : Type} [DecidableEq α] (x1 : α) (y1 : β) : α → Option β := fun x => if x = x1 then some y1 else none
theorem memo_le {α β : Type} [DecidableEq α] {x1 : α} {y1 : β} {m : α → Option β} (h : m x1 = some y1) : ∀ x y,memo x1 y1 x = some y → m x = some y := by
 intro x y hxy
 unfold memo at hxy
 split at hxy
 ·rename_i hx; rw [hx,h]; exact hxy
 ·cases hxy
theorem ctr_le {S : Sig} {P : Program} {f bn : Nat} {sp rs : Spec} {flat : Bool} {m q : sp.D S → Option (rs.D S)} (h : Ctr.Holds P ⟨f,bn,sp,rs,flat,.opt m⟩) (hq : ∀ x y,q x = some y → m x = some y) : Ctr.Holds P ⟨f,bn,sp,rs,flat,.opt q⟩ :=
 ⟨h.bodied,h.bound,h.flat,fun x y hxy => h.calls x y (hq x y hxy)⟩
theorem ctr_tot {S : Sig} {P : Program} {f bn : Nat} {sp rs : Spec} {flat : Bool} {m : sp.D S → Option (rs.D S)} {g : sp.D S → rs.D S} (h : Ctr.Holds P ⟨f,bn,sp,rs,flat,.opt m⟩) (hm : ∀ x,m x = some (g x)) : Ctr.Holds P ⟨f,bn,sp,rs,flat,.tot g⟩ :=
 ⟨h.bodied,h.bound,h.flat,fun x y hxy => h.calls x y (by show m x = some y; rw [hm]; exact congrArg some hxy)⟩
end Go.En
/- The small program of layer 6 is scanned. -/
set_option maxRecDepth 10000000
set_option maxHeartbeats 0
namespace Go.Proofs.Tryz
open Go Go.En
def aw6.src : List UInt8 := [105,110,116,32,109,97,105,110,40,41,123,112,117,116,99,40,54,53,41,59,114,101,116,117,114,110,32,55,59,125]
def aw6.toks : List En.Dop.Tok := [.mk 2 [105,110,116] 0 0,.mk 1 [109,97,105,110] 0 4,.mk 4 [40] 0 8,.mk 4 [41] 0 9,.mk 4 [123] 0 10,.mk 2 [112,117,116,99] 0 11,.mk 4 [40] 0 15,.mk 3 [54,53] 65 16,.mk 4 [41] 0 18,.mk 4 [59] 0 19,.mk 2 [114,101,116,117,114,110] 0 20,.mk 3 [55] 7 27,.mk 4 [59] 0 28,.mk 4 [125] 0 29,.mk 0 [] 0 30]
theorem aw6_19.run : m19.KE.runF 3000 1000 m19.p.sp ((aw6.src,()),()) = some ((aw6.toks,(0 : Int),(0 : Int),()),()) := by kernel_rfl
def aw6_19.c : Ctr En.Dop.D4 := ⟨19,m19.p.bn,m19.p.sp,m19.p.rs,m19.p.flat,.opt (memo (α := (List UInt8 × Unit) × Unit) (β := (List En.Dop.Tok × Int × Int × Unit) × Unit) ((aw6.src,()),()) ((aw6.toks,(0 : Int),(0 : Int),()),()))⟩
theorem aw6_19.holds : aw6_19.c.Holds prog := ctr_le m19.Kh (memo_le (α := (List UInt8 × Unit) × Unit) (β := (List En.Dop.Tok × Int × Int × Unit) × Unit) aw6_19.run)
end Go.Proofs.Tryz
