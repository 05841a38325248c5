/- A function's model that the kernel can run: its trees, so many cuts deep (Env.runF); that it is a contract. -/
import Derived.Test.YtkpggdcpaeanaaaGreatDoorMr
import Derived.Test.YtkpggdcpaeanaaaGreatDoorMc
import Derived.Test.YtkpggdcpaeanaaaGreatDoorMi
import Derived.Test.YtkpggdcpaeanaaaGreatDoorMj
import Derived.Test.YtkpggdcpaeanaaaGreatDoorMl
namespace Go.En
open Go.RowKit
section
variable {S : Sig} {P : Program}
def Env.runF (E : Env S) (f0 n : Nat) (sp : Spec) (x : sp.D S) : Option (E.rs.D S) := (start0 E f0 sp x).eval (trun (E.step f0) n)
def Env.runJF (E : Env S) (f0 n : Nat) (J : Jump E) (sp : Spec) (x : sp.D S) : Option (E.rs.D S) := (start0 E f0 sp x).eval (trun (E.stepJ f0 J) n)
theorem fun_ctrF {f : Nat} {tb : List (Nat × TI)} {ct : List (Ctr S)} {p : Pln} (f0 n : Nat) (htb : TabOk S P tb) (hct : ∀ c ∈ ct,c.Holds P) (h : plnOk S P f p = true) :
  Ctr.Holds P ⟨f,p.bn,p.sp,p.rs,p.flat,.opt ((envOf P f tb ct p).runF f0 n p.sp)⟩ := by
 obtain ⟨hE,hb,h3,fn,hf,hbody,hn,hres⟩ := env_ok htb hct h
 simp only [plnOk,Bool.and_eq_true] at h
 obtain ⟨⟨⟨⟨⟨⟨⟨⟨_,h2⟩,_⟩,_⟩,h5⟩,_⟩,_⟩,_⟩,_⟩ := h
 refine ⟨hb,h3,fun hfl => ?_,fun x y hxy w D β vs o m he hg hon _ hiv => ?_⟩
 ·simp only at hfl; rw [hfl] at h5; simpa using h5
 ·exact fun_calls (out := .opt ((envOf P f tb ct p).runF f0 n p.sp)) hE hf hbody hn hres (Nat.le_of_ble_eq_true h2) (trun ((envOf P f tb ct p).step f0)) (fun _ _ => rfl) (fun n k q h x y hy => by simp only [trun,Env.step_mk] at hy; exact hy) (show _ = some y from hxy) he hg hon hiv
theorem fun_ctrJF {f : Nat} {tb : List (Nat × TI)} {ct : List (Ctr S)} {p : Pln} (f0 n : Nat) (htb : TabOk S P tb) (hct : ∀ c ∈ ct,c.Holds P) (h : plnOk S P f p = true) (J : Jump (envOf P f tb ct p)) (hJ : J.Ok P) :
  Ctr.Holds P ⟨f,p.bn,p.sp,p.rs,p.flat,.opt ((envOf P f tb ct p).runJF f0 n J p.sp)⟩ := by
 obtain ⟨hE,hb,h3,fn,hf,hbody,hn,hres⟩ := env_ok htb hct h
 simp only [plnOk,Bool.and_eq_true] at h
 obtain ⟨⟨⟨⟨⟨⟨⟨⟨_,h2⟩,_⟩,_⟩,h5⟩,_⟩,_⟩,_⟩,_⟩ := h
 refine ⟨hb,h3,fun hfl => ?_,fun x y hxy w D β vs o m he hg hon _ hiv => ?_⟩
 ·simp only at hfl; rw [hfl] at h5; simpa using h5
 ·exact fun_callsJ (out := .opt ((envOf P f tb ct p).runJF f0 n J p.sp)) hE hJ hf hbody hn hres (Nat.le_of_ble_eq_true h2) (show _ = some y from hxy) he hg hon hiv
end
end Go.En
/- The parser's smallest functions in plain words, as the kernel runs them quickly. -/
namespace Go.Proofs.Tryz
open Go Go.En Go.En.Dop
abbrev PT : Type := List Dop.Tok × Int × List Dop.Nde × List Dop.Typ × Int × Int × Int × Int × Unit
def PT.at' (p : PT) (a : Int) : PT := (p.1,a,p.2.2)
def ptLast (p : PT) : Option ((Int × Unit) × (PT × Unit)) :=
 if (decide (I p.1.length = (0 : Int))) = true then some (((0 : Int),()),(p,())) else
 if (inR (I p.1.length - (1 : Int))) = true then
 if (decide ((0 : Int) ≤ I p.1.length - (1 : Int) ∧ I p.1.length - (1 : Int) < I p.1.length)) = true then
 if (inR ((@List.getD Dop.Tok p.1 (I p.1.length - (1 : Int)).toNat Dop.d4).at_ + I (@List.getD Dop.Tok p.1 (I p.1.length - (1 : Int)).toNat Dop.d4).text.length)) = true then
 some (((@List.getD Dop.Tok p.1 (I p.1.length - (1 : Int)).toNat Dop.d4).at_ + I (@List.getD Dop.Tok p.1 (I p.1.length - (1 : Int)).toNat Dop.d4).text.length,()),(p,()))
 else none else none else none
def ptNow (p : PT) : Option ((Dop.Tok × Unit) × (PT × Unit)) :=
 if (!decide (p.2.2.2.2.2.2.1 = (0 : Int))) = true then (ptLast p).bind fun y => some ((Dop.Tok.mk (0 : Int) (@List.nil UInt8) (0 : Int) y.1.1,()),(y.2.1,())) else
 if (decide (I p.1.length ≤ p.2.1)) = true then (ptLast p).bind fun y => some ((Dop.Tok.mk (0 : Int) (@List.nil UInt8) (0 : Int) y.1.1,()),(y.2.1,())) else
 if (decide ((0 : Int) ≤ p.2.1 ∧ p.2.1 < I p.1.length)) = true then some ((@List.getD Dop.Tok p.1 p.2.1.toNat Dop.d4,()),(p,())) else none
def ptIs (s : List UInt8) (p : PT) : Option ((Bool × Unit) × (PT × Unit)) := (ptNow p).bind fun y =>
 if (decide (y.1.1.kind = (4 : Int))) = true then some ((decide (y.1.1.text = s),()),(y.2.1,())) else
 if (decide (y.1.1.kind = (2 : Int))) = true then some ((decide (y.1.1.text = s),()),(y.2.1,())) else some ((false,()),(y.2.1,()))
def ptTake (s : List UInt8) (p : PT) : Option ((Bool × Unit) × (PT × Unit)) := (ptIs s p).bind fun y =>
 if (!y.1.1) = true then some ((false,()),(y.2.1,())) else
 if (inR (y.2.1.2.1 + (1 : Int))) = true then some ((true,()),(y.2.1.at' (y.2.1.2.1 + (1 : Int)),())) else none
def ptFail (e : Int) (p : PT) : Option (Unit × (PT × Unit)) :=
 if (decide (p.2.2.2.2.2.2.1 = (0 : Int))) = true then (ptNow p).bind fun y => some ((),((y.2.1.1,y.2.1.2.1,y.2.1.2.2.1,y.2.1.2.2.2.1,y.2.1.2.2.2.2.1,y.2.1.2.2.2.2.2.1,e,y.1.1.at_,()),())) else some ((),(p,()))
def ptMust (s : List UInt8) (p : PT) : Option (Unit × (PT × Unit)) := (ptTake s p).bind fun y =>
 if (!y.1.1) = true then (ptFail (5 : Int) y.2.1).bind fun z => some ((),(z.2.1,())) else some ((),(y.2.1,()))
def ptKind (k : Int) (p : PT) : Option ((Dop.Tok × Unit) × (PT × Unit)) := (ptNow p).bind fun y =>
 if (!decide (y.1.1.kind = k)) = true then (ptFail (5 : Int) y.2.1).bind fun z => some ((Dop.Tok.mk (0 : Int) (@List.nil UInt8) (0 : Int) y.1.1.at_,()),(z.2.1,())) else
 if (!decide (y.2.1.2.2.2.2.2.2.1 = (0 : Int))) = true then (ptFail (5 : Int) y.2.1).bind fun z => some ((Dop.Tok.mk (0 : Int) (@List.nil UInt8) (0 : Int) y.1.1.at_,()),(z.2.1,())) else
 if (inR (y.2.1.2.1 + (1 : Int))) = true then some ((y.1.1,()),(y.2.1.at' (y.2.1.2.1 + (1 : Int)),())) else none
def ptPush (n : Dop.Nde) (p : PT) : Option ((Int × Unit) × (PT × Unit)) :=
 if (!decide (p.2.2.2.2.2.2.1 = (0 : Int))) = true then some (((-1 : Int),()),(p,())) else
 if (andC none (room (80 : Nat) (p.2.2.1.length + (n :: @List.nil Dop.Nde).length))) = true then
 if (inR (I (p.2.2.1 ++ n :: @List.nil Dop.Nde).length - (1 : Int))) = true then
 some ((I (p.2.2.1 ++ n :: @List.nil Dop.Nde).length - (1 : Int),()),((p.1,p.2.1,p.2.2.1 ++ n :: @List.nil Dop.Nde,p.2.2.2),())) else none else none
def ptPut (n : Dop.Nde) (p : PT) : Option ((Int × Unit) × (PT × Unit)) :=
 if (decide (I p.2.2.1.length = (8192 : Int))) = true then (ptFail (4 : Int) p).bind fun y => ptPush n y.2.1 else ptPush n p
def ptNode (kind at_ : Int) : Dop.Nde := Dop.Nde.mk kind (-1 : Int) (-1 : Int) (-1 : Int) (-1 : Int) (@List.nil UInt8) (0 : Int) (0 : Int) at_
end Go.Proofs.Tryz
/- Contracts whose models the kernel can run. Written by a program. -/
set_option maxRecDepth 100000
set_option maxHeartbeats 4000000
namespace Go.Proofs.Tryz
open Go Go.En
noncomputable def m89.Kc : Ctr En.Dop.D4 := ⟨89,m89.p.bn,m89.p.sp,m89.p.rs,m89.p.flat,.opt (fun x => ptLast x.2.1)⟩
theorem m89.Kh : m89.Kc.Holds prog := ctr_eq (fun_ctrF 3000 1000 tbOk hct_nil m89.ok) (by kernel_rfl)
noncomputable def m45.Kc : Ctr En.Dop.D4 := ⟨45,m45.p.bn,m45.p.sp,m45.p.rs,m45.p.flat,.opt (fun x => ptNow x.2.1)⟩
theorem m45.Kh : m45.Kc.Holds prog := ctr_eq (fun_ctrF 3000 1000 tbOk (hct_cons m89.Kh hct_nil) m45.ok) (by kernel_rfl)
noncomputable def m91.Kc : Ctr En.Dop.D4 := ⟨91,m91.p.bn,m91.p.sp,m91.p.rs,m91.p.flat,.opt (fun x => ptIs x.1.2.1 x.2.1)⟩
theorem m91.Kh : m91.Kc.Holds prog := ctr_eq (fun_ctrF 3000 1000 tbOk (hct_cons m45.Kh hct_nil) m91.ok) (by kernel_rfl)
noncomputable def m94.Kc : Ctr En.Dop.D4 := ⟨94,m94.p.bn,m94.p.sp,m94.p.rs,m94.p.flat,.opt (fun x => ptTake x.1.2.1 x.2.1)⟩
theorem m94.Kh : m94.Kc.Holds prog := ctr_eq (fun_ctrF 3000 1000 tbOk (hct_cons m91.Kh hct_nil) m94.ok) (by kernel_rfl)
noncomputable def m142.Kc : Ctr En.Dop.D4 := ⟨142,m142.p.bn,m142.p.sp,m142.p.rs,m142.p.flat,.opt (fun x => ptFail x.1.2.1 x.2.1)⟩
theorem m142.Kh : m142.Kc.Holds prog := ctr_eq (fun_ctrF 3000 1000 tbOk (hct_cons m45.Kh hct_nil) m142.ok) (by kernel_rfl)
noncomputable def m92.Kc : Ctr En.Dop.D4 := ⟨92,m92.p.bn,m92.p.sp,m92.p.rs,m92.p.flat,.opt (fun x => ptMust x.1.2.1 x.2.1)⟩
theorem m92.Kh : m92.Kc.Holds prog := ctr_eq (fun_ctrF 3000 1000 tbOk (hct_cons m94.Kh (hct_cons m142.Kh hct_nil)) m92.ok) (by kernel_rfl)
noncomputable def m93.Kc : Ctr En.Dop.D4 := ⟨93,m93.p.bn,m93.p.sp,m93.p.rs,m93.p.flat,.opt (fun x => ptKind x.1.2.1 x.2.1)⟩
theorem m93.Kh : m93.Kc.Holds prog := ctr_eq (fun_ctrF 3000 1000 tbOk (hct_cons m45.Kh (hct_cons m142.Kh hct_nil)) m93.ok) (by kernel_rfl)
noncomputable def m90.Kc : Ctr En.Dop.D4 := ⟨90,m90.p.bn,m90.p.sp,m90.p.rs,m90.p.flat,.opt (fun x => some ((ptNode x.1.1 x.1.2.1,()),()))⟩
theorem m90.Kh : m90.Kc.Holds prog := ctr_eq (fun_ctrF 3000 1000 tbOk hct_nil m90.ok) (by kernel_rfl)
noncomputable def m179.KE : Env En.Dop.D4 := envOf prog 179 tb [] m179.p
noncomputable def m179.Kc : Ctr En.Dop.D4 := ⟨179,m179.p.bn,m179.p.sp,m179.p.rs,m179.p.flat,.opt (m179.KE.runF 3000 1000 m179.p.sp)⟩
theorem m179.Kh : m179.Kc.Holds prog := fun_ctrF 3000 1000 tbOk hct_nil m179.ok
noncomputable def m144.KE : Env En.Dop.D4 := envOf prog 144 tb [m179.Kc,m142.Kc] m144.p
noncomputable def m144.Kc : Ctr En.Dop.D4 := ⟨144,m144.p.bn,m144.p.sp,m144.p.rs,m144.p.flat,.opt (m144.KE.runF 3000 1000 m144.p.sp)⟩
theorem m144.Kh : m144.Kc.Holds prog := fun_ctrF 3000 1000 tbOk (hct_cons m179.Kh (hct_cons m142.Kh hct_nil)) m144.ok
noncomputable def m143.KE : Env En.Dop.D4 := envOf prog 143 tb [m94.Kc,m92.Kc,m93.Kc,m144.Kc] m143.p
noncomputable def m143.Kc : Ctr En.Dop.D4 := ⟨143,m143.p.bn,m143.p.sp,m143.p.rs,m143.p.flat,.opt (m143.KE.runF 3000 1000 m143.p.sp)⟩
theorem m143.Kh : m143.Kc.Holds prog := fun_ctrF 3000 1000 tbOk (hct_cons m94.Kh (hct_cons m92.Kh (hct_cons m93.Kh (hct_cons m144.Kh hct_nil)))) m143.ok
noncomputable def m95.KE : Env En.Dop.D4 := envOf prog 95 tb [m45.Kc,m90.Kc,m143.Kc,m93.Kc] m95.p
noncomputable def m95.Kc : Ctr En.Dop.D4 := ⟨95,m95.p.bn,m95.p.sp,m95.p.rs,m95.p.flat,.opt (m95.KE.runF 3000 1000 m95.p.sp)⟩
theorem m95.Kh : m95.Kc.Holds prog := fun_ctrF 3000 1000 tbOk (hct_cons m45.Kh (hct_cons m90.Kh (hct_cons m143.Kh (hct_cons m93.Kh hct_nil)))) m95.ok
noncomputable def m96.KE : Env En.Dop.D4 := envOf prog 96 tb [m94.Kc,m93.Kc,m92.Kc,m144.Kc] m96.p
noncomputable def m96.Kc : Ctr En.Dop.D4 := ⟨96,m96.p.bn,m96.p.sp,m96.p.rs,m96.p.flat,.opt (m96.KE.runF 3000 1000 m96.p.sp)⟩
theorem m96.Kh : m96.Kc.Holds prog := fun_ctrF 3000 1000 tbOk (hct_cons m94.Kh (hct_cons m93.Kh (hct_cons m92.Kh (hct_cons m144.Kh hct_nil)))) m96.ok
noncomputable def m97.Kc : Ctr En.Dop.D4 := ⟨97,m97.p.bn,m97.p.sp,m97.p.rs,m97.p.flat,.opt (fun x => ptPut x.1.2.1 x.2.1)⟩
theorem m97.Kh : m97.Kc.Holds prog := ctr_eq (fun_ctrF 3000 1000 tbOk (hct_cons m142.Kh hct_nil) m97.ok) (by kernel_rfl)
noncomputable def m204.KE : Env En.Dop.D4 := envOf prog 204 tb [m91.Kc] m204.p
noncomputable def m204.Kc : Ctr En.Dop.D4 := ⟨204,m204.p.bn,m204.p.sp,m204.p.rs,m204.p.flat,.opt (m204.KE.runF 3000 1000 m204.p.sp)⟩
theorem m204.Kh : m204.Kc.Holds prog := fun_ctrF 3000 1000 tbOk (hct_cons m91.Kh hct_nil) m204.ok
noncomputable def m120.KE : Env En.Dop.D4 := envOf prog 120 tb [] m120.p
noncomputable def m120.Kc : Ctr En.Dop.D4 := ⟨120,m120.p.bn,m120.p.sp,m120.p.rs,m120.p.flat,.opt (m120.KE.runF 3000 1000 m120.p.sp)⟩
theorem m120.Kh : m120.Kc.Holds prog := fun_ctrF 3000 1000 tbOk hct_nil m120.ok
noncomputable def m73.KE : Env En.Dop.D4 := envOf prog 73 tb [m120.Kc] m73.p
noncomputable def m73.Kc : Ctr En.Dop.D4 := ⟨73,m73.p.bn,m73.p.sp,m73.p.rs,m73.p.flat,.opt (m73.KE.runF 3000 1000 m73.p.sp)⟩
theorem m73.Kh : m73.Kc.Holds prog := fun_ctrF 3000 1000 tbOk (hct_cons m120.Kh hct_nil) m73.ok
noncomputable def m262.KE : Env En.Dop.D4 := envOf prog 262 tb [] m262.p
noncomputable def m262.Kc : Ctr En.Dop.D4 := ⟨262,m262.p.bn,m262.p.sp,m262.p.rs,m262.p.flat,.opt (m262.KE.runF 3000 1000 m262.p.sp)⟩
theorem m262.Kh : m262.Kc.Holds prog := fun_ctrF 3000 1000 tbOk hct_nil m262.ok
noncomputable def m43.KE : Env En.Dop.D4 := envOf prog 43 tb [indexByte.c,hasPrefix.c,index.c] m43.p
noncomputable def m43.Kc : Ctr En.Dop.D4 := ⟨43,m43.p.bn,m43.p.sp,m43.p.rs,m43.p.flat,.opt (m43.KE.runF 3000 1000 m43.p.sp)⟩
theorem m43.Kh : m43.Kc.Holds prog := fun_ctrF 3000 1000 tbOk (hct_cons indexByte.holds (hct_cons hasPrefix.holds (hct_cons index.holds hct_nil))) m43.ok
noncomputable def m82.KE : Env En.Dop.D4 := envOf prog 82 tb [] m82.p
noncomputable def m82.Kc : Ctr En.Dop.D4 := ⟨82,m82.p.bn,m82.p.sp,m82.p.rs,m82.p.flat,.opt (m82.KE.runF 3000 1000 m82.p.sp)⟩
theorem m82.Kh : m82.Kc.Holds prog := fun_ctrF 3000 1000 tbOk hct_nil m82.ok
noncomputable def m85.KE : Env En.Dop.D4 := envOf prog 85 tb [] m85.p
noncomputable def m85.Kc : Ctr En.Dop.D4 := ⟨85,m85.p.bn,m85.p.sp,m85.p.rs,m85.p.flat,.opt (m85.KE.runF 3000 1000 m85.p.sp)⟩
theorem m85.Kh : m85.Kc.Holds prog := fun_ctrF 3000 1000 tbOk hct_nil m85.ok
noncomputable def m83.KE : Env En.Dop.D4 := envOf prog 83 tb [m82.Kc,m85.Kc] m83.p
noncomputable def m83.Kc : Ctr En.Dop.D4 := ⟨83,m83.p.bn,m83.p.sp,m83.p.rs,m83.p.flat,.opt (m83.KE.runF 3000 1000 m83.p.sp)⟩
theorem m83.Kh : m83.Kc.Holds prog := fun_ctrF 3000 1000 tbOk (hct_cons m82.Kh (hct_cons m85.Kh hct_nil)) m83.ok
noncomputable def m84.KE : Env En.Dop.D4 := envOf prog 84 tb [contains.c] m84.p
noncomputable def m84.Kc : Ctr En.Dop.D4 := ⟨84,m84.p.bn,m84.p.sp,m84.p.rs,m84.p.flat,.opt (m84.KE.runF 3000 1000 m84.p.sp)⟩
theorem m84.Kh : m84.Kc.Holds prog := fun_ctrF 3000 1000 tbOk (hct_cons contains.holds hct_nil) m84.ok
noncomputable def m81.KE : Env En.Dop.D4 := envOf prog 81 tb [] m81.p
noncomputable def m81.Kc : Ctr En.Dop.D4 := ⟨81,m81.p.bn,m81.p.sp,m81.p.rs,m81.p.flat,.opt (m81.KE.runF 3000 1000 m81.p.sp)⟩
theorem m81.Kh : m81.Kc.Holds prog := fun_ctrF 3000 1000 tbOk hct_nil m81.ok
noncomputable def m86.KE : Env En.Dop.D4 := envOf prog 86 tb [hasPrefix.c,lower.c,indexByte.c] m86.p
noncomputable def m86.Kc : Ctr En.Dop.D4 := ⟨86,m86.p.bn,m86.p.sp,m86.p.rs,m86.p.flat,.opt (m86.KE.runF 3000 1000 m86.p.sp)⟩
theorem m86.Kh : m86.Kc.Holds prog := fun_ctrF 3000 1000 tbOk (hct_cons hasPrefix.holds (hct_cons lower.holds (hct_cons indexByte.holds hct_nil))) m86.ok
noncomputable def m87.KE : Env En.Dop.D4 := envOf prog 87 tb [] m87.p
noncomputable def m87.Kc : Ctr En.Dop.D4 := ⟨87,m87.p.bn,m87.p.sp,m87.p.rs,m87.p.flat,.opt (m87.KE.runF 3000 1000 m87.p.sp)⟩
theorem m87.Kh : m87.Kc.Holds prog := fun_ctrF 3000 1000 tbOk hct_nil m87.ok
noncomputable def m141.KE : Env En.Dop.D4 := envOf prog 141 tb [fields.c] m141.p
noncomputable def m141.Kc : Ctr En.Dop.D4 := ⟨141,m141.p.bn,m141.p.sp,m141.p.rs,m141.p.flat,.opt (m141.KE.runF 3000 1000 m141.p.sp)⟩
theorem m141.Kh : m141.Kc.Holds prog := fun_ctrF 3000 1000 tbOk (hct_cons fields.holds hct_nil) m141.ok
noncomputable def m88.KE : Env En.Dop.D4 := envOf prog 88 tb [m141.Kc,hasPrefix.c] m88.p
noncomputable def m88.Kc : Ctr En.Dop.D4 := ⟨88,m88.p.bn,m88.p.sp,m88.p.rs,m88.p.flat,.opt (m88.KE.runF 3000 1000 m88.p.sp)⟩
theorem m88.Kh : m88.Kc.Holds prog := fun_ctrF 3000 1000 tbOk (hct_cons m141.Kh (hct_cons hasPrefix.holds hct_nil)) m88.ok
noncomputable def m44.KE : Env En.Dop.D4 := envOf prog 44 tb [m82.Kc,m83.Kc,m84.Kc,m81.Kc,m85.Kc,m86.Kc,m87.Kc,m88.Kc] m44.p
noncomputable def m44.Kc : Ctr En.Dop.D4 := ⟨44,m44.p.bn,m44.p.sp,m44.p.rs,m44.p.flat,.opt (m44.KE.runF 3000 1000 m44.p.sp)⟩
theorem m44.Kh : m44.Kc.Holds prog := fun_ctrF 3000 1000 tbOk (hct_cons m82.Kh (hct_cons m83.Kh (hct_cons m84.Kh (hct_cons m81.Kh (hct_cons m85.Kh (hct_cons m86.Kh (hct_cons m87.Kh (hct_cons m88.Kh hct_nil)))))))) m44.ok
noncomputable def m19.KE : Env En.Dop.D4 := envOf prog 19 tb [m43.Kc,m44.Kc] m19.p
noncomputable def m19.Kc : Ctr En.Dop.D4 := ⟨19,m19.p.bn,m19.p.sp,m19.p.rs,m19.p.flat,.opt (m19.KE.runF 3000 1000 m19.p.sp)⟩
theorem m19.Kh : m19.Kc.Holds prog := fun_ctrF 3000 1000 tbOk (hct_cons m43.Kh (hct_cons m44.Kh hct_nil)) m19.ok
noncomputable def m89q.KE : Env En.Dop.D4 := envOf prog 89 tb [] m89q.p
noncomputable def m89q.Kc : Ctr En.Dop.D4 := ⟨89,m89q.p.bn,m89q.p.sp,m89q.p.rs,m89q.p.flat,.opt (m89q.KE.runF 3000 1000 m89q.p.sp)⟩
theorem m89q.Kh : m89q.Kc.Holds prog := fun_ctrF 3000 1000 tbOk hct_nil m89q.ok
noncomputable def m45q.KE : Env En.Dop.D4 := envOf prog 45 tb [m89q.Kc] m45q.p
noncomputable def m45q.Kc : Ctr En.Dop.D4 := ⟨45,m45q.p.bn,m45q.p.sp,m45q.p.rs,m45q.p.flat,.opt (m45q.KE.runF 3000 1000 m45q.p.sp)⟩
theorem m45q.Kh : m45q.Kc.Holds prog := fun_ctrF 3000 1000 tbOk (hct_cons m89q.Kh hct_nil) m45q.ok
noncomputable def m91q.KE : Env En.Dop.D4 := envOf prog 91 tb [m45q.Kc] m91q.p
noncomputable def m91q.Kc : Ctr En.Dop.D4 := ⟨91,m91q.p.bn,m91q.p.sp,m91q.p.rs,m91q.p.flat,.opt (m91q.KE.runF 3000 1000 m91q.p.sp)⟩
theorem m91q.Kh : m91q.Kc.Holds prog := fun_ctrF 3000 1000 tbOk (hct_cons m45q.Kh hct_nil) m91q.ok
noncomputable def m204q.KE : Env En.Dop.D4 := envOf prog 204 tb [m91q.Kc] m204q.p
noncomputable def m204q.Kc : Ctr En.Dop.D4 := ⟨204,m204q.p.bn,m204q.p.sp,m204q.p.rs,m204q.p.flat,.opt (m204q.KE.runF 3000 1000 m204q.p.sp)⟩
theorem m204q.Kh : m204q.Kc.Holds prog := fun_ctrF 3000 1000 tbOk (hct_cons m91q.Kh hct_nil) m204q.ok
end Go.Proofs.Tryz
/- Contracts whose models the kernel can run. Written by a program. -/
set_option maxRecDepth 100000
set_option maxHeartbeats 4000000
namespace Go.Proofs.Tryz
open Go Go.En
noncomputable def g180.Kstep (r : g180.T) : g180.T := ((envOf (S := En.Dop.D4) prog 205 tb (g180.ct r ++ []) m205.p).runF 3000 1000 m205.p.sp,fun x => within r.2.2.1 x.2.1,(envOf (S := En.Dop.D4) prog 234 tb (g180.ct r ++ [fields.c,m45.Kc,m94.Kc,m90.Kc,m97.Kc]) m234.p).runF 3000 1000 m234.p.sp,(envOf (S := En.Dop.D4) prog 254 tb (g180.ct r ++ [m45.Kc,m94.Kc,m90.Kc,m92.Kc,m97.Kc]) m254.p).runF 3000 1000 m254.p.sp,(envOf (S := En.Dop.D4) prog 261 tb (g180.ct r ++ [m262.Kc,fields.c,m45.Kc,m94.Kc,m90.Kc,m97.Kc]) m261.p).runF 3000 1000 m261.p.sp,(envOf (S := En.Dop.D4) prog 263 tb (g180.ct r ++ [m45.Kc,fields.c,m94.Kc,m90.Kc,m97.Kc,m92.Kc,m143.Kc,m96.Kc,m91.Kc,m204q.Kc]) m263.p).runF 3000 1000 m263.p.sp,fun x => within r.2.2.2.2.2.1 x.2.1,(envOf (S := En.Dop.D4) prog 265 tb (g180.ct r ++ [m45.Kc,m90.Kc,m94.Kc,m92.Kc,m97.Kc]) m265.p).runF 3000 1000 m265.p.sp,(envOf (S := En.Dop.D4) prog 266 tb (g180.ct r ++ [m94.Kc,m92.Kc,m47.c]) m266.p).runF 3000 1000 m266.p.sp,(envOf (S := En.Dop.D4) prog 264 tb (g180.ct r ++ [m45.Kc,m90.Kc,m94.Kc,m92.Kc,m93.Kc,m97.Kc]) m264.p).runF 3000 1000 m264.p.sp,fun x => within r.2.2.2.1 x.2.1,())
noncomputable def g180.KR (n : Nat) : g180.T := Nat.rec (motive := fun _ => g180.T) (fun _ => none,fun _ => none,fun _ => none,fun _ => none,fun _ => none,fun _ => none,fun _ => none,fun _ => none,fun _ => none,fun _ => none,fun _ => none,()) (fun _ r => g180.Kstep r) n
noncomputable def m205.KR (n : Nat) : ((Unit × Unit) × ((List (En.Dop.Tok) × Int × List (En.Dop.Nde) × List (En.Dop.Typ) × Int × Int × Int × Int × Unit) × Unit)) → Option ((Int × Unit) × ((List (En.Dop.Tok) × Int × List (En.Dop.Nde) × List (En.Dop.Typ) × Int × Int × Int × Int × Unit) × Unit)) := (g180.KR n).1
noncomputable def m205.Kc (n : Nat) : Ctr En.Dop.D4 := ⟨205,m205.p.bn,m205.p.sp,m205.p.rs,m205.p.flat,.opt (m205.KR n)⟩
noncomputable def m205.Kcf : Ctr En.Dop.D4 := m205.Kc FU
noncomputable def m180_1000234.KR (n : Nat) : ((Unit × Unit × Unit) × ((List (En.Dop.Tok) × Int × List (En.Dop.Nde) × List (En.Dop.Typ) × Int × Int × Int × Int × Unit) × Unit)) → Option ((Int × Unit) × ((List (En.Dop.Tok) × Int × List (En.Dop.Nde) × List (En.Dop.Typ) × Int × Int × Int × Int × Unit) × Unit)) := (g180.KR n).2.1
noncomputable def m180_1000234.Kc (n : Nat) : Ctr En.Dop.D4 := ⟨180,m180_1000234.p.bn,m180_1000234.p.sp,m180_1000234.p.rs,m180_1000234.p.flat,.opt (m180_1000234.KR n)⟩
noncomputable def m234.KR (n : Nat) : ((Unit × Unit) × ((List (En.Dop.Tok) × Int × List (En.Dop.Nde) × List (En.Dop.Typ) × Int × Int × Int × Int × Unit) × Unit)) → Option ((Int × Unit) × ((List (En.Dop.Tok) × Int × List (En.Dop.Nde) × List (En.Dop.Typ) × Int × Int × Int × Int × Unit) × Unit)) := (g180.KR n).2.2.1
noncomputable def m234.Kc (n : Nat) : Ctr En.Dop.D4 := ⟨234,m234.p.bn,m234.p.sp,m234.p.rs,m234.p.flat,.opt (m234.KR n)⟩
noncomputable def m254.KR (n : Nat) : ((Unit × Unit) × ((List (En.Dop.Tok) × Int × List (En.Dop.Nde) × List (En.Dop.Typ) × Int × Int × Int × Int × Unit) × Unit)) → Option ((Int × Unit) × ((List (En.Dop.Tok) × Int × List (En.Dop.Nde) × List (En.Dop.Typ) × Int × Int × Int × Int × Unit) × Unit)) := (g180.KR n).2.2.2.1
noncomputable def m254.Kc (n : Nat) : Ctr En.Dop.D4 := ⟨254,m254.p.bn,m254.p.sp,m254.p.rs,m254.p.flat,.opt (m254.KR n)⟩
noncomputable def m261.KR (n : Nat) : ((Unit × Int × Unit) × ((List (En.Dop.Tok) × Int × List (En.Dop.Nde) × List (En.Dop.Typ) × Int × Int × Int × Int × Unit) × Unit)) → Option ((Int × Unit) × ((List (En.Dop.Tok) × Int × List (En.Dop.Nde) × List (En.Dop.Typ) × Int × Int × Int × Int × Unit) × Unit)) := (g180.KR n).2.2.2.2.1
noncomputable def m261.Kc (n : Nat) : Ctr En.Dop.D4 := ⟨261,m261.p.bn,m261.p.sp,m261.p.rs,m261.p.flat,.opt (m261.KR n)⟩
noncomputable def m263.KR (n : Nat) : ((Unit × Unit) × ((List (En.Dop.Tok) × Int × List (En.Dop.Nde) × List (En.Dop.Typ) × Int × Int × Int × Int × Unit) × Unit)) → Option ((Int × Unit) × ((List (En.Dop.Tok) × Int × List (En.Dop.Nde) × List (En.Dop.Typ) × Int × Int × Int × Int × Unit) × Unit)) := (g180.KR n).2.2.2.2.2.1
noncomputable def m263.Kc (n : Nat) : Ctr En.Dop.D4 := ⟨263,m263.p.bn,m263.p.sp,m263.p.rs,m263.p.flat,.opt (m263.KR n)⟩
noncomputable def m180_1000263.KR (n : Nat) : ((Unit × Unit × Unit) × ((List (En.Dop.Tok) × Int × List (En.Dop.Nde) × List (En.Dop.Typ) × Int × Int × Int × Int × Unit) × Unit)) → Option ((Int × Unit) × ((List (En.Dop.Tok) × Int × List (En.Dop.Nde) × List (En.Dop.Typ) × Int × Int × Int × Int × Unit) × Unit)) := (g180.KR n).2.2.2.2.2.2.1
noncomputable def m180_1000263.Kc (n : Nat) : Ctr En.Dop.D4 := ⟨180,m180_1000263.p.bn,m180_1000263.p.sp,m180_1000263.p.rs,m180_1000263.p.flat,.opt (m180_1000263.KR n)⟩
noncomputable def m265.KR (n : Nat) : ((Unit × Unit) × ((List (En.Dop.Tok) × Int × List (En.Dop.Nde) × List (En.Dop.Typ) × Int × Int × Int × Int × Unit) × Unit)) → Option ((Int × Unit) × ((List (En.Dop.Tok) × Int × List (En.Dop.Nde) × List (En.Dop.Typ) × Int × Int × Int × Int × Unit) × Unit)) := (g180.KR n).2.2.2.2.2.2.2.1
noncomputable def m265.Kc (n : Nat) : Ctr En.Dop.D4 := ⟨265,m265.p.bn,m265.p.sp,m265.p.rs,m265.p.flat,.opt (m265.KR n)⟩
noncomputable def m266.KR (n : Nat) : ((Unit × Unit) × ((List (En.Dop.Tok) × Int × List (En.Dop.Nde) × List (En.Dop.Typ) × Int × Int × Int × Int × Unit) × Unit)) → Option ((Int × Unit) × ((List (En.Dop.Tok) × Int × List (En.Dop.Nde) × List (En.Dop.Typ) × Int × Int × Int × Int × Unit) × Unit)) := (g180.KR n).2.2.2.2.2.2.2.2.1
noncomputable def m266.Kc (n : Nat) : Ctr En.Dop.D4 := ⟨266,m266.p.bn,m266.p.sp,m266.p.rs,m266.p.flat,.opt (m266.KR n)⟩
noncomputable def m264.KR (n : Nat) : ((Unit × Int × Unit) × ((List (En.Dop.Tok) × Int × List (En.Dop.Nde) × List (En.Dop.Typ) × Int × Int × Int × Int × Unit) × Unit)) → Option ((Int × Unit) × ((List (En.Dop.Tok) × Int × List (En.Dop.Nde) × List (En.Dop.Typ) × Int × Int × Int × Int × Unit) × Unit)) := (g180.KR n).2.2.2.2.2.2.2.2.2.1
noncomputable def m264.Kc (n : Nat) : Ctr En.Dop.D4 := ⟨264,m264.p.bn,m264.p.sp,m264.p.rs,m264.p.flat,.opt (m264.KR n)⟩
noncomputable def m180_1000254.KR (n : Nat) : ((Unit × Unit × Unit) × ((List (En.Dop.Tok) × Int × List (En.Dop.Nde) × List (En.Dop.Typ) × Int × Int × Int × Int × Unit) × Unit)) → Option ((Int × Unit) × ((List (En.Dop.Tok) × Int × List (En.Dop.Nde) × List (En.Dop.Typ) × Int × Int × Int × Int × Unit) × Unit)) := (g180.KR n).2.2.2.2.2.2.2.2.2.2.1
noncomputable def m180_1000254.Kc (n : Nat) : Ctr En.Dop.D4 := ⟨180,m180_1000254.p.bn,m180_1000254.p.sp,m180_1000254.p.rs,m180_1000254.p.flat,.opt (m180_1000254.KR n)⟩
noncomputable def g180.Kcs (n : Nat) : List (Ctr En.Dop.D4) := [m205.Kc n,m180_1000234.Kc n,m234.Kc n,m254.Kc n,m261.Kc n,m263.Kc n,m180_1000263.Kc n,m265.Kc n,m266.Kc n,m264.Kc n,m180_1000254.Kc n]
theorem g180.Kall : ∀ n,(m205.Kc n).Holds prog ∧ (m180_1000234.Kc n).Holds prog ∧ (m234.Kc n).Holds prog ∧ (m254.Kc n).Holds prog ∧ (m261.Kc n).Holds prog ∧ (m263.Kc n).Holds prog ∧ (m180_1000263.Kc n).Holds prog ∧ (m265.Kc n).Holds prog ∧ (m266.Kc n).Holds prog ∧ (m264.Kc n).Holds prog ∧ (m180_1000254.Kc n).Holds prog ∧ True
 | 0 => ⟨ctr_none tbOk m205.ok,ctr_none tbOk (by kernel_rfl),ctr_none tbOk m234.ok,ctr_none tbOk m254.ok,ctr_none tbOk m261.ok,ctr_none tbOk m263.ok,ctr_none tbOk (by kernel_rfl),ctr_none tbOk m265.ok,ctr_none tbOk m266.ok,ctr_none tbOk m264.ok,ctr_none tbOk (by kernel_rfl),trivial⟩
 | n + 1 => by
  obtain ⟨h0,h1,h2,h3,h4,h5,h6,h7,h8,h9,h10,_⟩ := g180.Kall n
  have hh : ∀ c ∈ g180.Kcs n,c.Holds prog := (hct_cons h0 (hct_cons h1 (hct_cons h2 (hct_cons h3 (hct_cons h4 (hct_cons h5 (hct_cons h6 (hct_cons h7 (hct_cons h8 (hct_cons h9 (hct_cons h10 hct_nil)))))))))))
  exact ⟨ctr_eq (fun_ctrF 3000 1000 tbOk (hct_app hh hct_nil) m205.ok) (by kernel_rfl),(w234.holds (m := m234.KR n) h2),ctr_eq (fun_ctrF 3000 1000 tbOk (hct_app hh (hct_cons fields.holds (hct_cons m45.Kh (hct_cons m94.Kh (hct_cons m90.Kh (hct_cons m97.Kh hct_nil)))))) m234.ok) (by kernel_rfl),ctr_eq (fun_ctrF 3000 1000 tbOk (hct_app hh (hct_cons m45.Kh (hct_cons m94.Kh (hct_cons m90.Kh (hct_cons m92.Kh (hct_cons m97.Kh hct_nil)))))) m254.ok) (by kernel_rfl),ctr_eq (fun_ctrF 3000 1000 tbOk (hct_app hh (hct_cons m262.Kh (hct_cons fields.holds (hct_cons m45.Kh (hct_cons m94.Kh (hct_cons m90.Kh (hct_cons m97.Kh hct_nil))))))) m261.ok) (by kernel_rfl),ctr_eq (fun_ctrF 3000 1000 tbOk (hct_app hh (hct_cons m45.Kh (hct_cons fields.holds (hct_cons m94.Kh (hct_cons m90.Kh (hct_cons m97.Kh (hct_cons m92.Kh (hct_cons m143.Kh (hct_cons m96.Kh (hct_cons m91.Kh (hct_cons m204q.Kh hct_nil))))))))))) m263.ok) (by kernel_rfl),(w263.holds (m := m263.KR n) h5),ctr_eq (fun_ctrF 3000 1000 tbOk (hct_app hh (hct_cons m45.Kh (hct_cons m90.Kh (hct_cons m94.Kh (hct_cons m92.Kh (hct_cons m97.Kh hct_nil)))))) m265.ok) (by kernel_rfl),ctr_eq (fun_ctrF 3000 1000 tbOk (hct_app hh (hct_cons m94.Kh (hct_cons m92.Kh (hct_cons m47.holds hct_nil)))) m266.ok) (by kernel_rfl),ctr_eq (fun_ctrF 3000 1000 tbOk (hct_app hh (hct_cons m45.Kh (hct_cons m90.Kh (hct_cons m94.Kh (hct_cons m92.Kh (hct_cons m93.Kh (hct_cons m97.Kh hct_nil))))))) m264.ok) (by kernel_rfl),(w254.holds (m := m254.KR n) h3),trivial⟩
theorem m205.Khf : m205.Kcf.Holds prog := (g180.Kall FU).1
noncomputable def m206.KE : Env En.Dop.D4 := envOf prog 206 tb [m92.Kc,m205.Kcf] m206.p
noncomputable def m206.Kc : Ctr En.Dop.D4 := ⟨206,m206.p.bn,m206.p.sp,m206.p.rs,m206.p.flat,.opt (m206.KE.runF 3000 1000 m206.p.sp)⟩
theorem m206.Kh : m206.Kc.Holds prog := fun_ctrF 3000 1000 tbOk (hct_cons m92.Kh (hct_cons m205.Khf hct_nil)) m206.ok
noncomputable def m207.KE : Env En.Dop.D4 := envOf prog 207 tb [m94.Kc,m205.Kcf,m92.Kc] m207.p
noncomputable def m207.Kc : Ctr En.Dop.D4 := ⟨207,m207.p.bn,m207.p.sp,m207.p.rs,m207.p.flat,.opt (m207.KE.runF 3000 1000 m207.p.sp)⟩
theorem m207.Kh : m207.Kc.Holds prog := fun_ctrF 3000 1000 tbOk (hct_cons m94.Kh (hct_cons m205.Khf (hct_cons m92.Kh hct_nil))) m207.ok
noncomputable def m208.KE : Env En.Dop.D4 := envOf prog 208 tb [m45.Kc] m208.p
noncomputable def m208.Kc : Ctr En.Dop.D4 := ⟨208,m208.p.bn,m208.p.sp,m208.p.rs,m208.p.flat,.opt (m208.KE.runF 3000 1000 m208.p.sp)⟩
theorem m208.Kh : m208.Kc.Holds prog := fun_ctrF 3000 1000 tbOk (hct_cons m45.Kh hct_nil) m208.ok
noncomputable def g98.Kstep (r : g98.T) : g98.T := ((envOf (S := En.Dop.D4) prog 98 tb (g98.ct r ++ [m45.Kc,m90.Kc,m92.Kc,m94.Kc,m47.c,m97.Kc]) m98.p).runF 3000 1000 m98.p.sp,(envOf (S := En.Dop.D4) prog 145 tb (g98.ct r ++ []) m145.p).runF 3000 1000 m145.p.sp,fun x => within r.2.2.2.1 x.2.1,(envOf (S := En.Dop.D4) prog 181 tb (g98.ct r ++ [m45.Kc,m90.Kc,m91.Kc,m94.Kc,m204.Kc,m143.Kc,m93.Kc,m96.Kc,m205.Kcf,m92.Kc,m206.Kc,m207.Kc,m208.Kc,m97.Kc]) m181.p).runF 3000 1000 m181.p.sp,())
noncomputable def g98.KR (n : Nat) : g98.T := Nat.rec (motive := fun _ => g98.T) (fun _ => none,fun _ => none,fun _ => none,fun _ => none,()) (fun _ r => g98.Kstep r) n
noncomputable def m98.KR (n : Nat) : ((Unit × Unit) × ((List (En.Dop.Tok) × Int × List (En.Dop.Nde) × List (En.Dop.Typ) × Int × Int × Int × Int × Unit) × Unit)) → Option ((Int × Unit) × ((List (En.Dop.Tok) × Int × List (En.Dop.Nde) × List (En.Dop.Typ) × Int × Int × Int × Int × Unit) × Unit)) := (g98.KR n).1
noncomputable def m98.Kc (n : Nat) : Ctr En.Dop.D4 := ⟨98,m98.p.bn,m98.p.sp,m98.p.rs,m98.p.flat,.opt (m98.KR n)⟩
noncomputable def m98.Kcf : Ctr En.Dop.D4 := m98.Kc FU
noncomputable def m145.KR (n : Nat) : ((Unit × Unit) × ((List (En.Dop.Tok) × Int × List (En.Dop.Nde) × List (En.Dop.Typ) × Int × Int × Int × Int × Unit) × Unit)) → Option ((Int × Unit) × ((List (En.Dop.Tok) × Int × List (En.Dop.Nde) × List (En.Dop.Typ) × Int × Int × Int × Int × Unit) × Unit)) := (g98.KR n).2.1
noncomputable def m145.Kc (n : Nat) : Ctr En.Dop.D4 := ⟨145,m145.p.bn,m145.p.sp,m145.p.rs,m145.p.flat,.opt (m145.KR n)⟩
noncomputable def m180_1000181.KR (n : Nat) : ((Unit × Unit × Unit) × ((List (En.Dop.Tok) × Int × List (En.Dop.Nde) × List (En.Dop.Typ) × Int × Int × Int × Int × Unit) × Unit)) → Option ((Int × Unit) × ((List (En.Dop.Tok) × Int × List (En.Dop.Nde) × List (En.Dop.Typ) × Int × Int × Int × Int × Unit) × Unit)) := (g98.KR n).2.2.1
noncomputable def m180_1000181.Kc (n : Nat) : Ctr En.Dop.D4 := ⟨180,m180_1000181.p.bn,m180_1000181.p.sp,m180_1000181.p.rs,m180_1000181.p.flat,.opt (m180_1000181.KR n)⟩
noncomputable def m181.KR (n : Nat) : ((Unit × Unit) × ((List (En.Dop.Tok) × Int × List (En.Dop.Nde) × List (En.Dop.Typ) × Int × Int × Int × Int × Unit) × Unit)) → Option ((Int × Unit) × ((List (En.Dop.Tok) × Int × List (En.Dop.Nde) × List (En.Dop.Typ) × Int × Int × Int × Int × Unit) × Unit)) := (g98.KR n).2.2.2.1
noncomputable def m181.Kc (n : Nat) : Ctr En.Dop.D4 := ⟨181,m181.p.bn,m181.p.sp,m181.p.rs,m181.p.flat,.opt (m181.KR n)⟩
noncomputable def g98.Kcs (n : Nat) : List (Ctr En.Dop.D4) := [m98.Kc n,m145.Kc n,m180_1000181.Kc n,m181.Kc n]
theorem g98.Kall : ∀ n,(m98.Kc n).Holds prog ∧ (m145.Kc n).Holds prog ∧ (m180_1000181.Kc n).Holds prog ∧ (m181.Kc n).Holds prog ∧ True
 | 0 => ⟨ctr_none tbOk m98.ok,ctr_none tbOk m145.ok,ctr_none tbOk (by kernel_rfl),ctr_none tbOk m181.ok,trivial⟩
 | n + 1 => by
  obtain ⟨h0,h1,h2,h3,_⟩ := g98.Kall n
  have hh : ∀ c ∈ g98.Kcs n,c.Holds prog := (hct_cons h0 (hct_cons h1 (hct_cons h2 (hct_cons h3 hct_nil))))
  exact ⟨ctr_eq (fun_ctrF 3000 1000 tbOk (hct_app hh (hct_cons m45.Kh (hct_cons m90.Kh (hct_cons m92.Kh (hct_cons m94.Kh (hct_cons m47.holds (hct_cons m97.Kh hct_nil))))))) m98.ok) (by kernel_rfl),ctr_eq (fun_ctrF 3000 1000 tbOk (hct_app hh hct_nil) m145.ok) (by kernel_rfl),(w181.holds (m := m181.KR n) h3),ctr_eq (fun_ctrF 3000 1000 tbOk (hct_app hh (hct_cons m45.Kh (hct_cons m90.Kh (hct_cons m91.Kh (hct_cons m94.Kh (hct_cons m204.Kh (hct_cons m143.Kh (hct_cons m93.Kh (hct_cons m96.Kh (hct_cons m205.Khf (hct_cons m92.Kh (hct_cons m206.Kh (hct_cons m207.Kh (hct_cons m208.Kh (hct_cons m97.Kh hct_nil))))))))))))))) m181.ok) (by kernel_rfl),trivial⟩
theorem m98.Khf : m98.Kcf.Holds prog := (g98.Kall FU).1
noncomputable def m46.KE : Env En.Dop.D4 := envOf prog 46 tb [m45.Kc,m90.Kc,m91.Kc,m92.Kc,m93.Kc,m94.Kc,m95.Kc,m96.Kc,m97.Kc,m47.c,m98.Kcf] m46.p
noncomputable def m46.Kc : Ctr En.Dop.D4 := ⟨46,m46.p.bn,m46.p.sp,m46.p.rs,m46.p.flat,.opt (m46.KE.runF 3000 1000 m46.p.sp)⟩
theorem m46.Kh : m46.Kc.Holds prog := fun_ctrF 3000 1000 tbOk (hct_cons m45.Kh (hct_cons m90.Kh (hct_cons m91.Kh (hct_cons m92.Kh (hct_cons m93.Kh (hct_cons m94.Kh (hct_cons m95.Kh (hct_cons m96.Kh (hct_cons m97.Kh (hct_cons m47.holds (hct_cons m98.Khf hct_nil))))))))))) m46.ok
noncomputable def m20.KE : Env En.Dop.D4 := envOf prog 20 tb [m45.Kc,m46.Kc,m47.c] m20.p
noncomputable def m20.Kc : Ctr En.Dop.D4 := ⟨20,m20.p.bn,m20.p.sp,m20.p.rs,m20.p.flat,.opt (m20.KE.runF 3000 1000 m20.p.sp)⟩
theorem m20.Kh : m20.Kc.Holds prog := fun_ctrF 3000 1000 tbOk (hct_cons m45.Kh (hct_cons m46.Kh (hct_cons m47.holds hct_nil))) m20.ok
end Go.Proofs.Tryz
