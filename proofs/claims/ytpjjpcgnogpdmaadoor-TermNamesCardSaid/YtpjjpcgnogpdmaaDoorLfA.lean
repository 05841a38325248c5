/-
  Functions of the seat, lifted: plan, model, contract, equations. Written by a program (Lift) that ran the layer's evaluation; Lean checks each line.
-/
import Derived.Test.YtpjjpcgnogpdmaaDoorLb
import Derived.Test.YtpjjpcgnogpdmaaDoorEnR
import Derived.Test.YtpjjpcgnogpdmaaDoorTab2
set_option maxRecDepth 100000
namespace Go.Proofs
open Go Go.En

def Tryd.m14.p : Pln := ⟨[], 0, ⟨[.fd (.int .i64)], []⟩, ⟨[.fd .bool], []⟩, true, [], []⟩
noncomputable def Tryd.m14.E : Env En.Dop.D17 := envOf Tryd.prog 14 Tryd.tb [] Tryd.m14.p
theorem Tryd.m14.ok : plnOk En.Dop.D17 Tryd.prog 14 Tryd.m14.p = true := by kernel_rfl
noncomputable def Tryd.m14.c : Ctr En.Dop.D17 := ⟨14, Tryd.m14.p.bn, Tryd.m14.p.sp, Tryd.m14.p.rs, Tryd.m14.p.flat, .opt (Tryd.m14.E.run 3000 Tryd.m14.p.sp)⟩
theorem Tryd.m14.holds : Tryd.m14.c.Holds Tryd.prog := fun_ctr 3000 Tryd.tbOk hct_nil Tryd.m14.ok
noncomputable def Tryd.m14 (op : Int) : Option (Spec.D En.Dop.D17 ⟨[.fd .bool], []⟩) := Tryd.m14.E.run 3000 Tryd.m14.p.sp ((op, ()), ())
theorem Tryd.m14_eq (op : Int) : Tryd.m14 op =
  if (decide ((1 : Int) ≤ op)) = true then
   some ((decide (op ≤ (19 : Int)), ()), ())
  else
   some ((false, ()), ()) := by kernel_rfl

def Tryd.m13.p : Pln := ⟨[], 0, ⟨[.fd (.int .i64)], []⟩, ⟨[.fd .bool], []⟩, true, [], []⟩
noncomputable def Tryd.m13.E : Env En.Dop.D17 := envOf Tryd.prog 13 Tryd.tb [] Tryd.m13.p
theorem Tryd.m13.ok : plnOk En.Dop.D17 Tryd.prog 13 Tryd.m13.p = true := by kernel_rfl
noncomputable def Tryd.m13.c : Ctr En.Dop.D17 := ⟨13, Tryd.m13.p.bn, Tryd.m13.p.sp, Tryd.m13.p.rs, Tryd.m13.p.flat, .opt (Tryd.m13.E.run 3000 Tryd.m13.p.sp)⟩
theorem Tryd.m13.holds : Tryd.m13.c.Holds Tryd.prog := fun_ctr 3000 Tryd.tbOk hct_nil Tryd.m13.ok
noncomputable def Tryd.m13 (op : Int) : Option (Spec.D En.Dop.D17 ⟨[.fd .bool], []⟩) := Tryd.m13.E.run 3000 Tryd.m13.p.sp ((op, ()), ())
theorem Tryd.m13_eq (op : Int) : Tryd.m13 op =
  if (decide ((20 : Int) ≤ op)) = true then
   some ((decide (op ≤ (23 : Int)), ()), ())
  else
   some ((false, ()), ()) := by kernel_rfl

def Tryd.m39.p : Pln := ⟨[], 0, ⟨[.fd (.int .i64)], []⟩, ⟨[.fd .str], []⟩, true, [], []⟩
noncomputable def Tryd.m39.E : Env En.Dop.D17 := envOf Tryd.prog 39 Tryd.tb [Tryd.m14.c, Tryd.m13.c, Tryd.fields.c] Tryd.m39.p
theorem Tryd.m39.ok : plnOk En.Dop.D17 Tryd.prog 39 Tryd.m39.p = true := by kernel_rfl
noncomputable def Tryd.m39.c : Ctr En.Dop.D17 := ⟨39, Tryd.m39.p.bn, Tryd.m39.p.sp, Tryd.m39.p.rs, Tryd.m39.p.flat, .opt (Tryd.m39.E.run 3000 Tryd.m39.p.sp)⟩
theorem Tryd.m39.holds : Tryd.m39.c.Holds Tryd.prog := fun_ctr 3000 Tryd.tbOk (hct_cons Tryd.m14.holds (hct_cons Tryd.m13.holds (hct_cons Tryd.fields.holds hct_nil))) Tryd.m39.ok
noncomputable def Tryd.m39 (op : Int) : Option (Spec.D En.Dop.D17 ⟨[.fd .str], []⟩) := Tryd.m39.E.run 3000 Tryd.m39.p.sp ((op, ()), ())
theorem Tryd.m39_eq (op : Int) : Tryd.m39 op =
  (Tryd.m14 (op)).bind fun y2 =>
   if (!y2.fst.fst) = true then
    (Tryd.m13 (op)).bind fun y4 =>
     if (!y4.fst.fst) = true then
      some ((@List.nil UInt8, ()), ())
     else
      if (okL (((97 : UInt8) :: (100 : UInt8) :: (100 : UInt8) :: (32 : UInt8) :: (115 : UInt8) :: (117 : UInt8) :: (98 : UInt8) :: (32 : UInt8) :: (109 : UInt8) :: (117 : UInt8) :: (108 : UInt8) :: (32 : UInt8) :: (100 : UInt8) :: (105 : UInt8) :: (118 : UInt8) :: (32 : UInt8) :: (114 : UInt8) :: (101 : UInt8) :: (109 : UInt8) :: (32 : UInt8) :: (100 : UInt8) :: (105 : UInt8) :: (118 : UInt8) :: (117 : UInt8) :: (32 : UInt8) :: (114 : UInt8) :: (101 : UInt8) :: (109 : UInt8) :: (117 : UInt8) :: (32 : UInt8) :: (97 : UInt8) :: (110 : UInt8) :: (100 : UInt8) :: (32 : UInt8) :: (111 : UInt8) :: (114 : UInt8) :: (32 : UInt8) :: (120 : UInt8) :: (111 : UInt8) :: (114 : UInt8) :: (32 : UInt8) :: (115 : UInt8) :: (104 : UInt8) :: (108 : UInt8) :: (32 : UInt8) :: @List.nil UInt8).append ((115 : UInt8) :: (104 : UInt8) :: (114 : UInt8) :: (32 : UInt8) :: (115 : UInt8) :: (104 : UInt8) :: (114 : UInt8) :: (117 : UInt8) :: (32 : UInt8) :: (101 : UInt8) :: (113 : UInt8) :: (32 : UInt8) :: (110 : UInt8) :: (101 : UInt8) :: (32 : UInt8) :: (108 : UInt8) :: (116 : UInt8) :: (32 : UInt8) :: (108 : UInt8) :: (101 : UInt8) :: (32 : UInt8) :: (108 : UInt8) :: (116 : UInt8) :: (117 : UInt8) :: (32 : UInt8) :: (108 : UInt8) :: (101 : UInt8) :: (117 : UInt8) :: (32 : UInt8) :: (110 : UInt8) :: (101 : UInt8) :: (103 : UInt8) :: (32 : UInt8) :: (110 : UInt8) :: (111 : UInt8) :: (116 : UInt8) :: (32 : UInt8) :: (108 : UInt8) :: (111 : UInt8) :: (119 : UInt8) :: (32 : UInt8) :: (122 : UInt8) :: (101 : UInt8) :: (114 : UInt8) :: (111 : UInt8) :: @List.nil UInt8)) && decide ((Lib.fields (((97 : UInt8) :: (100 : UInt8) :: (100 : UInt8) :: (32 : UInt8) :: (115 : UInt8) :: (117 : UInt8) :: (98 : UInt8) :: (32 : UInt8) :: (109 : UInt8) :: (117 : UInt8) :: (108 : UInt8) :: (32 : UInt8) :: (100 : UInt8) :: (105 : UInt8) :: (118 : UInt8) :: (32 : UInt8) :: (114 : UInt8) :: (101 : UInt8) :: (109 : UInt8) :: (32 : UInt8) :: (100 : UInt8) :: (105 : UInt8) :: (118 : UInt8) :: (117 : UInt8) :: (32 : UInt8) :: (114 : UInt8) :: (101 : UInt8) :: (109 : UInt8) :: (117 : UInt8) :: (32 : UInt8) :: (97 : UInt8) :: (110 : UInt8) :: (100 : UInt8) :: (32 : UInt8) :: (111 : UInt8) :: (114 : UInt8) :: (32 : UInt8) :: (120 : UInt8) :: (111 : UInt8) :: (114 : UInt8) :: (32 : UInt8) :: (115 : UInt8) :: (104 : UInt8) :: (108 : UInt8) :: (32 : UInt8) :: @List.nil UInt8).append ((115 : UInt8) :: (104 : UInt8) :: (114 : UInt8) :: (32 : UInt8) :: (115 : UInt8) :: (104 : UInt8) :: (114 : UInt8) :: (117 : UInt8) :: (32 : UInt8) :: (101 : UInt8) :: (113 : UInt8) :: (32 : UInt8) :: (110 : UInt8) :: (101 : UInt8) :: (32 : UInt8) :: (108 : UInt8) :: (116 : UInt8) :: (32 : UInt8) :: (108 : UInt8) :: (101 : UInt8) :: (32 : UInt8) :: (108 : UInt8) :: (116 : UInt8) :: (117 : UInt8) :: (32 : UInt8) :: (108 : UInt8) :: (101 : UInt8) :: (117 : UInt8) :: (32 : UInt8) :: (110 : UInt8) :: (101 : UInt8) :: (103 : UInt8) :: (32 : UInt8) :: (110 : UInt8) :: (111 : UInt8) :: (116 : UInt8) :: (32 : UInt8) :: (108 : UInt8) :: (111 : UInt8) :: (119 : UInt8) :: (32 : UInt8) :: (122 : UInt8) :: (101 : UInt8) :: (114 : UInt8) :: (111 : UInt8) :: @List.nil UInt8))).length ≤ maxLen)) = true then
      if (inR (op - (1 : Int))) = true then
      if (decide ((0 : Int) ≤ op - (1 : Int) ∧ op - (1 : Int) < I (List.map (fun (a : List UInt8) => a) (Lib.fields (((97 : UInt8) :: (100 : UInt8) :: (100 : UInt8) :: (32 : UInt8) :: (115 : UInt8) :: (117 : UInt8) :: (98 : UInt8) :: (32 : UInt8) :: (109 : UInt8) :: (117 : UInt8) :: (108 : UInt8) :: (32 : UInt8) :: (100 : UInt8) :: (105 : UInt8) :: (118 : UInt8) :: (32 : UInt8) :: (114 : UInt8) :: (101 : UInt8) :: (109 : UInt8) :: (32 : UInt8) :: (100 : UInt8) :: (105 : UInt8) :: (118 : UInt8) :: (117 : UInt8) :: (32 : UInt8) :: (114 : UInt8) :: (101 : UInt8) :: (109 : UInt8) :: (117 : UInt8) :: (32 : UInt8) :: (97 : UInt8) :: (110 : UInt8) :: (100 : UInt8) :: (32 : UInt8) :: (111 : UInt8) :: (114 : UInt8) :: (32 : UInt8) :: (120 : UInt8) :: (111 : UInt8) :: (114 : UInt8) :: (32 : UInt8) :: (115 : UInt8) :: (104 : UInt8) :: (108 : UInt8) :: (32 : UInt8) :: @List.nil UInt8).append ((115 : UInt8) :: (104 : UInt8) :: (114 : UInt8) :: (32 : UInt8) :: (115 : UInt8) :: (104 : UInt8) :: (114 : UInt8) :: (117 : UInt8) :: (32 : UInt8) :: (101 : UInt8) :: (113 : UInt8) :: (32 : UInt8) :: (110 : UInt8) :: (101 : UInt8) :: (32 : UInt8) :: (108 : UInt8) :: (116 : UInt8) :: (32 : UInt8) :: (108 : UInt8) :: (101 : UInt8) :: (32 : UInt8) :: (108 : UInt8) :: (116 : UInt8) :: (117 : UInt8) :: (32 : UInt8) :: (108 : UInt8) :: (101 : UInt8) :: (117 : UInt8) :: (32 : UInt8) :: (110 : UInt8) :: (101 : UInt8) :: (103 : UInt8) :: (32 : UInt8) :: (110 : UInt8) :: (111 : UInt8) :: (116 : UInt8) :: (32 : UInt8) :: (108 : UInt8) :: (111 : UInt8) :: (119 : UInt8) :: (32 : UInt8) :: (122 : UInt8) :: (101 : UInt8) :: (114 : UInt8) :: (111 : UInt8) :: @List.nil UInt8)))).length)) = true then
      if (decide ((op - (1 : Int)).toNat < (List.map (fun (a : List UInt8) => a) (Lib.fields (((97 : UInt8) :: (100 : UInt8) :: (100 : UInt8) :: (32 : UInt8) :: (115 : UInt8) :: (117 : UInt8) :: (98 : UInt8) :: (32 : UInt8) :: (109 : UInt8) :: (117 : UInt8) :: (108 : UInt8) :: (32 : UInt8) :: (100 : UInt8) :: (105 : UInt8) :: (118 : UInt8) :: (32 : UInt8) :: (114 : UInt8) :: (101 : UInt8) :: (109 : UInt8) :: (32 : UInt8) :: (100 : UInt8) :: (105 : UInt8) :: (118 : UInt8) :: (117 : UInt8) :: (32 : UInt8) :: (114 : UInt8) :: (101 : UInt8) :: (109 : UInt8) :: (117 : UInt8) :: (32 : UInt8) :: (97 : UInt8) :: (110 : UInt8) :: (100 : UInt8) :: (32 : UInt8) :: (111 : UInt8) :: (114 : UInt8) :: (32 : UInt8) :: (120 : UInt8) :: (111 : UInt8) :: (114 : UInt8) :: (32 : UInt8) :: (115 : UInt8) :: (104 : UInt8) :: (108 : UInt8) :: (32 : UInt8) :: @List.nil UInt8).append ((115 : UInt8) :: (104 : UInt8) :: (114 : UInt8) :: (32 : UInt8) :: (115 : UInt8) :: (104 : UInt8) :: (114 : UInt8) :: (117 : UInt8) :: (32 : UInt8) :: (101 : UInt8) :: (113 : UInt8) :: (32 : UInt8) :: (110 : UInt8) :: (101 : UInt8) :: (32 : UInt8) :: (108 : UInt8) :: (116 : UInt8) :: (32 : UInt8) :: (108 : UInt8) :: (101 : UInt8) :: (32 : UInt8) :: (108 : UInt8) :: (116 : UInt8) :: (117 : UInt8) :: (32 : UInt8) :: (108 : UInt8) :: (101 : UInt8) :: (117 : UInt8) :: (32 : UInt8) :: (110 : UInt8) :: (101 : UInt8) :: (103 : UInt8) :: (32 : UInt8) :: (110 : UInt8) :: (111 : UInt8) :: (116 : UInt8) :: (32 : UInt8) :: (108 : UInt8) :: (111 : UInt8) :: (119 : UInt8) :: (32 : UInt8) :: (122 : UInt8) :: (101 : UInt8) :: (114 : UInt8) :: (111 : UInt8) :: @List.nil UInt8)))).length)) = true then
      some ((@List.getD (List UInt8) (List.map (fun (a : List UInt8) => a) (Lib.fields (((97 : UInt8) :: (100 : UInt8) :: (100 : UInt8) :: (32 : UInt8) :: (115 : UInt8) :: (117 : UInt8) :: (98 : UInt8) :: (32 : UInt8) :: (109 : UInt8) :: (117 : UInt8) :: (108 : UInt8) :: (32 : UInt8) :: (100 : UInt8) :: (105 : UInt8) :: (118 : UInt8) :: (32 : UInt8) :: (114 : UInt8) :: (101 : UInt8) :: (109 : UInt8) :: (32 : UInt8) :: (100 : UInt8) :: (105 : UInt8) :: (118 : UInt8) :: (117 : UInt8) :: (32 : UInt8) :: (114 : UInt8) :: (101 : UInt8) :: (109 : UInt8) :: (117 : UInt8) :: (32 : UInt8) :: (97 : UInt8) :: (110 : UInt8) :: (100 : UInt8) :: (32 : UInt8) :: (111 : UInt8) :: (114 : UInt8) :: (32 : UInt8) :: (120 : UInt8) :: (111 : UInt8) :: (114 : UInt8) :: (32 : UInt8) :: (115 : UInt8) :: (104 : UInt8) :: (108 : UInt8) :: (32 : UInt8) :: @List.nil UInt8).append ((115 : UInt8) :: (104 : UInt8) :: (114 : UInt8) :: (32 : UInt8) :: (115 : UInt8) :: (104 : UInt8) :: (114 : UInt8) :: (117 : UInt8) :: (32 : UInt8) :: (101 : UInt8) :: (113 : UInt8) :: (32 : UInt8) :: (110 : UInt8) :: (101 : UInt8) :: (32 : UInt8) :: (108 : UInt8) :: (116 : UInt8) :: (32 : UInt8) :: (108 : UInt8) :: (101 : UInt8) :: (32 : UInt8) :: (108 : UInt8) :: (116 : UInt8) :: (117 : UInt8) :: (32 : UInt8) :: (108 : UInt8) :: (101 : UInt8) :: (117 : UInt8) :: (32 : UInt8) :: (110 : UInt8) :: (101 : UInt8) :: (103 : UInt8) :: (32 : UInt8) :: (110 : UInt8) :: (111 : UInt8) :: (116 : UInt8) :: (32 : UInt8) :: (108 : UInt8) :: (111 : UInt8) :: (119 : UInt8) :: (32 : UInt8) :: (122 : UInt8) :: (101 : UInt8) :: (114 : UInt8) :: (111 : UInt8) :: @List.nil UInt8)))) (op - (1 : Int)).toNat (@List.nil UInt8), ()), ())
      else none
      else none
      else none
      else none
   else
    if (okL (((97 : UInt8) :: (100 : UInt8) :: (100 : UInt8) :: (32 : UInt8) :: (115 : UInt8) :: (117 : UInt8) :: (98 : UInt8) :: (32 : UInt8) :: (109 : UInt8) :: (117 : UInt8) :: (108 : UInt8) :: (32 : UInt8) :: (100 : UInt8) :: (105 : UInt8) :: (118 : UInt8) :: (32 : UInt8) :: (114 : UInt8) :: (101 : UInt8) :: (109 : UInt8) :: (32 : UInt8) :: (100 : UInt8) :: (105 : UInt8) :: (118 : UInt8) :: (117 : UInt8) :: (32 : UInt8) :: (114 : UInt8) :: (101 : UInt8) :: (109 : UInt8) :: (117 : UInt8) :: (32 : UInt8) :: (97 : UInt8) :: (110 : UInt8) :: (100 : UInt8) :: (32 : UInt8) :: (111 : UInt8) :: (114 : UInt8) :: (32 : UInt8) :: (120 : UInt8) :: (111 : UInt8) :: (114 : UInt8) :: (32 : UInt8) :: (115 : UInt8) :: (104 : UInt8) :: (108 : UInt8) :: (32 : UInt8) :: @List.nil UInt8).append ((115 : UInt8) :: (104 : UInt8) :: (114 : UInt8) :: (32 : UInt8) :: (115 : UInt8) :: (104 : UInt8) :: (114 : UInt8) :: (117 : UInt8) :: (32 : UInt8) :: (101 : UInt8) :: (113 : UInt8) :: (32 : UInt8) :: (110 : UInt8) :: (101 : UInt8) :: (32 : UInt8) :: (108 : UInt8) :: (116 : UInt8) :: (32 : UInt8) :: (108 : UInt8) :: (101 : UInt8) :: (32 : UInt8) :: (108 : UInt8) :: (116 : UInt8) :: (117 : UInt8) :: (32 : UInt8) :: (108 : UInt8) :: (101 : UInt8) :: (117 : UInt8) :: (32 : UInt8) :: (110 : UInt8) :: (101 : UInt8) :: (103 : UInt8) :: (32 : UInt8) :: (110 : UInt8) :: (111 : UInt8) :: (116 : UInt8) :: (32 : UInt8) :: (108 : UInt8) :: (111 : UInt8) :: (119 : UInt8) :: (32 : UInt8) :: (122 : UInt8) :: (101 : UInt8) :: (114 : UInt8) :: (111 : UInt8) :: @List.nil UInt8)) && decide ((Lib.fields (((97 : UInt8) :: (100 : UInt8) :: (100 : UInt8) :: (32 : UInt8) :: (115 : UInt8) :: (117 : UInt8) :: (98 : UInt8) :: (32 : UInt8) :: (109 : UInt8) :: (117 : UInt8) :: (108 : UInt8) :: (32 : UInt8) :: (100 : UInt8) :: (105 : UInt8) :: (118 : UInt8) :: (32 : UInt8) :: (114 : UInt8) :: (101 : UInt8) :: (109 : UInt8) :: (32 : UInt8) :: (100 : UInt8) :: (105 : UInt8) :: (118 : UInt8) :: (117 : UInt8) :: (32 : UInt8) :: (114 : UInt8) :: (101 : UInt8) :: (109 : UInt8) :: (117 : UInt8) :: (32 : UInt8) :: (97 : UInt8) :: (110 : UInt8) :: (100 : UInt8) :: (32 : UInt8) :: (111 : UInt8) :: (114 : UInt8) :: (32 : UInt8) :: (120 : UInt8) :: (111 : UInt8) :: (114 : UInt8) :: (32 : UInt8) :: (115 : UInt8) :: (104 : UInt8) :: (108 : UInt8) :: (32 : UInt8) :: @List.nil UInt8).append ((115 : UInt8) :: (104 : UInt8) :: (114 : UInt8) :: (32 : UInt8) :: (115 : UInt8) :: (104 : UInt8) :: (114 : UInt8) :: (117 : UInt8) :: (32 : UInt8) :: (101 : UInt8) :: (113 : UInt8) :: (32 : UInt8) :: (110 : UInt8) :: (101 : UInt8) :: (32 : UInt8) :: (108 : UInt8) :: (116 : UInt8) :: (32 : UInt8) :: (108 : UInt8) :: (101 : UInt8) :: (32 : UInt8) :: (108 : UInt8) :: (116 : UInt8) :: (117 : UInt8) :: (32 : UInt8) :: (108 : UInt8) :: (101 : UInt8) :: (117 : UInt8) :: (32 : UInt8) :: (110 : UInt8) :: (101 : UInt8) :: (103 : UInt8) :: (32 : UInt8) :: (110 : UInt8) :: (111 : UInt8) :: (116 : UInt8) :: (32 : UInt8) :: (108 : UInt8) :: (111 : UInt8) :: (119 : UInt8) :: (32 : UInt8) :: (122 : UInt8) :: (101 : UInt8) :: (114 : UInt8) :: (111 : UInt8) :: @List.nil UInt8))).length ≤ maxLen)) = true then
    if (inR (op - (1 : Int))) = true then
    if (decide ((0 : Int) ≤ op - (1 : Int) ∧ op - (1 : Int) < I (List.map (fun (a : List UInt8) => a) (Lib.fields (((97 : UInt8) :: (100 : UInt8) :: (100 : UInt8) :: (32 : UInt8) :: (115 : UInt8) :: (117 : UInt8) :: (98 : UInt8) :: (32 : UInt8) :: (109 : UInt8) :: (117 : UInt8) :: (108 : UInt8) :: (32 : UInt8) :: (100 : UInt8) :: (105 : UInt8) :: (118 : UInt8) :: (32 : UInt8) :: (114 : UInt8) :: (101 : UInt8) :: (109 : UInt8) :: (32 : UInt8) :: (100 : UInt8) :: (105 : UInt8) :: (118 : UInt8) :: (117 : UInt8) :: (32 : UInt8) :: (114 : UInt8) :: (101 : UInt8) :: (109 : UInt8) :: (117 : UInt8) :: (32 : UInt8) :: (97 : UInt8) :: (110 : UInt8) :: (100 : UInt8) :: (32 : UInt8) :: (111 : UInt8) :: (114 : UInt8) :: (32 : UInt8) :: (120 : UInt8) :: (111 : UInt8) :: (114 : UInt8) :: (32 : UInt8) :: (115 : UInt8) :: (104 : UInt8) :: (108 : UInt8) :: (32 : UInt8) :: @List.nil UInt8).append ((115 : UInt8) :: (104 : UInt8) :: (114 : UInt8) :: (32 : UInt8) :: (115 : UInt8) :: (104 : UInt8) :: (114 : UInt8) :: (117 : UInt8) :: (32 : UInt8) :: (101 : UInt8) :: (113 : UInt8) :: (32 : UInt8) :: (110 : UInt8) :: (101 : UInt8) :: (32 : UInt8) :: (108 : UInt8) :: (116 : UInt8) :: (32 : UInt8) :: (108 : UInt8) :: (101 : UInt8) :: (32 : UInt8) :: (108 : UInt8) :: (116 : UInt8) :: (117 : UInt8) :: (32 : UInt8) :: (108 : UInt8) :: (101 : UInt8) :: (117 : UInt8) :: (32 : UInt8) :: (110 : UInt8) :: (101 : UInt8) :: (103 : UInt8) :: (32 : UInt8) :: (110 : UInt8) :: (111 : UInt8) :: (116 : UInt8) :: (32 : UInt8) :: (108 : UInt8) :: (111 : UInt8) :: (119 : UInt8) :: (32 : UInt8) :: (122 : UInt8) :: (101 : UInt8) :: (114 : UInt8) :: (111 : UInt8) :: @List.nil UInt8)))).length)) = true then
    if (decide ((op - (1 : Int)).toNat < (List.map (fun (a : List UInt8) => a) (Lib.fields (((97 : UInt8) :: (100 : UInt8) :: (100 : UInt8) :: (32 : UInt8) :: (115 : UInt8) :: (117 : UInt8) :: (98 : UInt8) :: (32 : UInt8) :: (109 : UInt8) :: (117 : UInt8) :: (108 : UInt8) :: (32 : UInt8) :: (100 : UInt8) :: (105 : UInt8) :: (118 : UInt8) :: (32 : UInt8) :: (114 : UInt8) :: (101 : UInt8) :: (109 : UInt8) :: (32 : UInt8) :: (100 : UInt8) :: (105 : UInt8) :: (118 : UInt8) :: (117 : UInt8) :: (32 : UInt8) :: (114 : UInt8) :: (101 : UInt8) :: (109 : UInt8) :: (117 : UInt8) :: (32 : UInt8) :: (97 : UInt8) :: (110 : UInt8) :: (100 : UInt8) :: (32 : UInt8) :: (111 : UInt8) :: (114 : UInt8) :: (32 : UInt8) :: (120 : UInt8) :: (111 : UInt8) :: (114 : UInt8) :: (32 : UInt8) :: (115 : UInt8) :: (104 : UInt8) :: (108 : UInt8) :: (32 : UInt8) :: @List.nil UInt8).append ((115 : UInt8) :: (104 : UInt8) :: (114 : UInt8) :: (32 : UInt8) :: (115 : UInt8) :: (104 : UInt8) :: (114 : UInt8) :: (117 : UInt8) :: (32 : UInt8) :: (101 : UInt8) :: (113 : UInt8) :: (32 : UInt8) :: (110 : UInt8) :: (101 : UInt8) :: (32 : UInt8) :: (108 : UInt8) :: (116 : UInt8) :: (32 : UInt8) :: (108 : UInt8) :: (101 : UInt8) :: (32 : UInt8) :: (108 : UInt8) :: (116 : UInt8) :: (117 : UInt8) :: (32 : UInt8) :: (108 : UInt8) :: (101 : UInt8) :: (117 : UInt8) :: (32 : UInt8) :: (110 : UInt8) :: (101 : UInt8) :: (103 : UInt8) :: (32 : UInt8) :: (110 : UInt8) :: (111 : UInt8) :: (116 : UInt8) :: (32 : UInt8) :: (108 : UInt8) :: (111 : UInt8) :: (119 : UInt8) :: (32 : UInt8) :: (122 : UInt8) :: (101 : UInt8) :: (114 : UInt8) :: (111 : UInt8) :: @List.nil UInt8)))).length)) = true then
    some ((@List.getD (List UInt8) (List.map (fun (a : List UInt8) => a) (Lib.fields (((97 : UInt8) :: (100 : UInt8) :: (100 : UInt8) :: (32 : UInt8) :: (115 : UInt8) :: (117 : UInt8) :: (98 : UInt8) :: (32 : UInt8) :: (109 : UInt8) :: (117 : UInt8) :: (108 : UInt8) :: (32 : UInt8) :: (100 : UInt8) :: (105 : UInt8) :: (118 : UInt8) :: (32 : UInt8) :: (114 : UInt8) :: (101 : UInt8) :: (109 : UInt8) :: (32 : UInt8) :: (100 : UInt8) :: (105 : UInt8) :: (118 : UInt8) :: (117 : UInt8) :: (32 : UInt8) :: (114 : UInt8) :: (101 : UInt8) :: (109 : UInt8) :: (117 : UInt8) :: (32 : UInt8) :: (97 : UInt8) :: (110 : UInt8) :: (100 : UInt8) :: (32 : UInt8) :: (111 : UInt8) :: (114 : UInt8) :: (32 : UInt8) :: (120 : UInt8) :: (111 : UInt8) :: (114 : UInt8) :: (32 : UInt8) :: (115 : UInt8) :: (104 : UInt8) :: (108 : UInt8) :: (32 : UInt8) :: @List.nil UInt8).append ((115 : UInt8) :: (104 : UInt8) :: (114 : UInt8) :: (32 : UInt8) :: (115 : UInt8) :: (104 : UInt8) :: (114 : UInt8) :: (117 : UInt8) :: (32 : UInt8) :: (101 : UInt8) :: (113 : UInt8) :: (32 : UInt8) :: (110 : UInt8) :: (101 : UInt8) :: (32 : UInt8) :: (108 : UInt8) :: (116 : UInt8) :: (32 : UInt8) :: (108 : UInt8) :: (101 : UInt8) :: (32 : UInt8) :: (108 : UInt8) :: (116 : UInt8) :: (117 : UInt8) :: (32 : UInt8) :: (108 : UInt8) :: (101 : UInt8) :: (117 : UInt8) :: (32 : UInt8) :: (110 : UInt8) :: (101 : UInt8) :: (103 : UInt8) :: (32 : UInt8) :: (110 : UInt8) :: (111 : UInt8) :: (116 : UInt8) :: (32 : UInt8) :: (108 : UInt8) :: (111 : UInt8) :: (119 : UInt8) :: (32 : UInt8) :: (122 : UInt8) :: (101 : UInt8) :: (114 : UInt8) :: (111 : UInt8) :: @List.nil UInt8)))) (op - (1 : Int)).toNat (@List.nil UInt8), ()), ())
    else none
    else none
    else none
    else none := by kernel_rfl

def Tryd.m26.p : Pln := ⟨[(12, ⟨[[0, 0, 0, 0, 1, 0, 1, 1, 1], [0, 1, 0, 0, 1, 0, 1, 1, 1], [2, 0, 0, 1, 0, 1, 1, 1], [1, 1], [0, 1, 1, 1, 1]], [3, 34, 35, 36], 0, ⟨[.fd .str, .fd (.sl 0), .fd (.int .i64), .fd (.int .i64)], []⟩⟩)], 0, ⟨[.st 4], []⟩, ⟨[.fd .str], []⟩, true, [], []⟩
noncomputable def Tryd.m26.E : Env En.Dop.D17 := envOf Tryd.prog 26 Tryd.tb [Tryd.itoa.c, Tryd.m39.c] Tryd.m26.p
theorem Tryd.m26.ok : plnOk En.Dop.D17 Tryd.prog 26 Tryd.m26.p = true := by kernel_rfl
noncomputable def Tryd.m26.c : Ctr En.Dop.D17 := ⟨26, Tryd.m26.p.bn, Tryd.m26.p.sp, Tryd.m26.p.rs, Tryd.m26.p.flat, .opt (Tryd.m26.E.run 3000 Tryd.m26.p.sp)⟩
theorem Tryd.m26.holds : Tryd.m26.c.Holds Tryd.prog := fun_ctr 3000 Tryd.tbOk (hct_cons Tryd.itoa.holds (hct_cons Tryd.m39.holds hct_nil)) Tryd.m26.ok
noncomputable def Tryd.m26 (x : En.Dop.Nod) : Option (Spec.D En.Dop.D17 ⟨[.fd .str], []⟩) := Tryd.m26.E.run 3000 Tryd.m26.p.sp ((x, ()), ())
noncomputable def Tryd.m26_12 (out : List UInt8) (t34 : List (Int)) (t35 : Int) (t36 : Int) : Option (Spec.D En.Dop.D17 ⟨[.fd .str], []⟩) := Tryd.m26.E.cut 3000 12 ((out, t34, t35, t36, ()), ())
theorem Tryd.m26_eq (x : En.Dop.Nod) : Tryd.m26 x =
  if (decide (x.kind = (0 : Int))) = true then
   if (inI x.n) = true then
   if (decide (((35 : UInt8) :: @List.nil UInt8).length + (Law.itoaK x.n).length ≤ (9223372036854775807 : Nat))) = true then
   some (((35 : UInt8) :: @List.nil UInt8 ++ Law.itoaK x.n, ()), ())
   else none
   else none
  else
   if (decide (x.kind = (1 : Int))) = true then
    if (decide (((32 : UInt8) :: @List.nil UInt8).length + x.name.length ≤ (9223372036854775807 : Nat))) = true then
    some (((32 : UInt8) :: @List.nil UInt8 ++ x.name, ()), ())
    else none
   else
    if (decide (x.kind = (2 : Int))) = true then
     if (decide (((40 : UInt8) :: @List.nil UInt8).length + x.name.length ≤ (9223372036854775807 : Nat))) = true then
     some (((40 : UInt8) :: @List.nil UInt8 ++ x.name, ()), ())
     else none
    else
     if (decide (x.kind = (3 : Int))) = true then
      (Tryd.m39 (x.op)).bind fun y6 =>
       some ((y6.fst.fst, ()), ())
     else
      if (inI x.n) = true then
      if (decide (((43 : UInt8) :: @List.nil UInt8).length + (Law.itoaK x.n).length ≤ (9223372036854775807 : Nat))) = true then
      Tryd.m26_12 ((43 : UInt8) :: @List.nil UInt8 ++ Law.itoaK x.n) (x.fact) (I x.fact.length) ((0 : Int))
      else none
      else none := by kernel_rfl
theorem Tryd.m26_12_eq (out : List UInt8) (t34 : List (Int)) (t35 : Int) (t36 : Int) : Tryd.m26_12 out t34 t35 t36 =
  if (decide (t36 < t35)) = true then
   if (decide ((0 : Int) ≤ t36 ∧ t36 < I t34.length)) = true then
   if (inI (@List.getD Int t34 t36.toNat (0 : Int))) = true then
   if (decide (((44 : UInt8) :: @List.nil UInt8).length + (Law.itoaK (@List.getD Int t34 t36.toNat (0 : Int))).length ≤ (9223372036854775807 : Nat))) = true then
   if (decide (out.length + ((44 : UInt8) :: @List.nil UInt8 ++ Law.itoaK (@List.getD Int t34 t36.toNat (0 : Int))).length ≤ (9223372036854775807 : Nat))) = true then
   if (inR (t36 + (1 : Int))) = true then
   Tryd.m26_12 (out ++ ((44 : UInt8) :: @List.nil UInt8 ++ Law.itoaK (@List.getD Int t34 t36.toNat (0 : Int)))) (t34) (t35) (t36 + (1 : Int))
   else none
   else none
   else none
   else none
   else none
  else
   some ((out, ()), ()) := Env.cut_eq' (E := Tryd.m26.E) (f0 := 3000) (c := 12) (q := ⟨[[0, 0, 0, 0, 1, 0, 1, 1, 1], [0, 1, 0, 0, 1, 0, 1, 1, 1], [2, 0, 0, 1, 0, 1, 1, 1], [1, 1], [0, 1, 1, 1, 1]], [3, 34, 35, 36], 0, ⟨[.fd .str, .fd (.sl 0), .fd (.int .i64), .fd (.int .i64)], []⟩⟩) (by kernel_rfl) ((out, t34, t35, t36, ()), ()) (by kernel_rfl) (by kernel_rfl)

def Tryd.m12.p : Pln := ⟨[(3, ⟨[[0, 0, 0, 0, 1, 0, 1, 1], [0, 1, 0, 0, 1, 0, 1, 1], [2, 0, 0, 1, 0, 1, 1], [1, 0], [0, 1, 1, 1]], [0, 3, 5, 14, 15, 16], 2, ⟨[.al 0 0, .al 1 0, .fd .str, .fd (.sl 0), .fd (.int .i64), .fd (.int .i64)], [⟨0, 36, [.own 4 40, .mp (.str) 0 false], false⟩, ⟨1, 40, [.st 4], false⟩]⟩⟩)], 1, ⟨[.al 0 0, .st 4], [⟨0, 36, [.own 4 40, .mp (.str) 0 false], false⟩]⟩, ⟨[.fd (.int .i64)], [⟨0, 36, [.own 4 40, .mp (.str) 0 false], false⟩]⟩, false, [(12, ⟨[(0, true), (1, true), (2, true), (3, true), (4, false), (5, false), (6, false)], [7, 8, 9, 10], [0, 0, 2, 6, 14, 0, 32, 126, 255, 511, 1023], false⟩), (13, ⟨[(0, true), (1, true), (2, true), (3, false), (4, true), (5, true), (6, true), (7, true), (8, false), (9, false), (10, true)], [11], [0, 1, 3, 7, 0, 0, 32, 96, 224, 480, 992, 2047], false⟩)], []⟩
noncomputable def Tryd.m12.E : Env En.Dop.D17 := envOf Tryd.prog 12 Tryd.tb [Tryd.m26.c, Tryd.quote.c, Tryd.itoa.c] Tryd.m12.p
theorem Tryd.m12.ok : plnOk En.Dop.D17 Tryd.prog 12 Tryd.m12.p = true := by kernel_rfl
noncomputable def Tryd.m12.c : Ctr En.Dop.D17 := ⟨12, Tryd.m12.p.bn, Tryd.m12.p.sp, Tryd.m12.p.rs, Tryd.m12.p.flat, .opt (Tryd.m12.E.run 3000 Tryd.m12.p.sp)⟩
theorem Tryd.m12.holds : Tryd.m12.c.Holds Tryd.prog := fun_ctr 3000 Tryd.tbOk (hct_cons Tryd.m26.holds (hct_cons Tryd.quote.holds (hct_cons Tryd.itoa.holds hct_nil))) Tryd.m12.ok
noncomputable def Tryd.m12 (t1 : En.Dop.Nod) (b0_0 : List (En.Dop.Nod)) (b0_1 : List (List UInt8 × Int)) : Option (Spec.D En.Dop.D17 ⟨[.fd (.int .i64)], [⟨0, 36, [.own 4 40, .mp (.str) 0 false], false⟩]⟩) := Tryd.m12.E.run 3000 Tryd.m12.p.sp (((), t1, ()), ((b0_0, b0_1, ()), ()))
noncomputable def Tryd.m12_3 (t5 : List UInt8) (t14 : List (Int)) (t15 : Int) (t16 : Int) (b0_0 : List (En.Dop.Nod)) (b0_1 : List (List UInt8 × Int)) (b1 : En.Dop.Nod) : Option (Spec.D En.Dop.D17 ⟨[.fd (.int .i64)], [⟨0, 36, [.own 4 40, .mp (.str) 0 false], false⟩]⟩) := Tryd.m12.E.cut 3000 3 (((), (), t5, t14, t15, t16, ()), ((b0_0, b0_1, ()), (b1, ()), ()))
theorem Tryd.m12_eq (t1 : En.Dop.Nod) (b0_0 : List (En.Dop.Nod)) (b0_1 : List (List UInt8 × Int)) : Tryd.m12 t1 b0_0 b0_1 =
  (Tryd.m26 (t1)).bind fun y2 =>
   if (okQ y2.fst.fst) = true then
   Tryd.m12_3 (Law.quoteK Lib.goPrintTabs y2.fst.fst) (t1.args) (I t1.args.length) ((0 : Int)) (b0_0) (b0_1) (t1)
   else none := by kernel_rfl
theorem Tryd.m12_3_eq (t5 : List UInt8) (t14 : List (Int)) (t15 : Int) (t16 : Int) (b0_0 : List (En.Dop.Nod)) (b0_1 : List (List UInt8 × Int)) (b1 : En.Dop.Nod) : Tryd.m12_3 t5 t14 t15 t16 b0_0 b0_1 b1 =
  if (decide (t16 < t15)) = true then
   if (decide ((0 : Int) ≤ t16 ∧ t16 < I t14.length)) = true then
   if (inI (@List.getD Int t14 t16.toNat (0 : Int))) = true then
   if (decide (((32 : UInt8) :: @List.nil UInt8).length + (Law.itoaK (@List.getD Int t14 t16.toNat (0 : Int))).length ≤ (9223372036854775807 : Nat))) = true then
   if (decide (t5.length + ((32 : UInt8) :: @List.nil UInt8 ++ Law.itoaK (@List.getD Int t14 t16.toNat (0 : Int))).length ≤ (9223372036854775807 : Nat))) = true then
   if (inR (t16 + (1 : Int))) = true then
   Tryd.m12_3 (t5 ++ ((32 : UInt8) :: @List.nil UInt8 ++ Law.itoaK (@List.getD Int t14 t16.toNat (0 : Int)))) (t14) (t15) (t16 + (1 : Int)) (b0_0) (b0_1) (b1)
   else none
   else none
   else none
   else none
   else none
  else
   if ((mlookS b0_1 t5).isSome) = true then
    some (((mlookS b0_1 t5).getD (0 : Int), ()), ((b0_0, (b0_1, ())), ()))
   else
    if (decide (I b0_0.length = (16384 : Int))) = true then
     some (((-1 : Int), ()), ((b0_0, (b0_1, ())), ()))
    else
     if (andC none (room (88 : Nat) (b0_0.length + (b1 :: @List.nil Dop.Nod).length))) = true then
     if (inR (I (b0_0 ++ b1 :: @List.nil Dop.Nod).length - (1 : Int))) = true then
     if (inR (I (b0_0 ++ b1 :: @List.nil Dop.Nod).length - (1 : Int))) = true then
     some ((I (b0_0 ++ b1 :: @List.nil Dop.Nod).length - (1 : Int), ()), ((b0_0 ++ b1 :: @List.nil Dop.Nod, (mputS b0_1 t5 (I (b0_0 ++ b1 :: @List.nil Dop.Nod).length - (1 : Int)), ())), ()))
     else none
     else none
     else none := Env.cut_eq' (E := Tryd.m12.E) (f0 := 3000) (c := 3) (q := ⟨[[0, 0, 0, 0, 1, 0, 1, 1], [0, 1, 0, 0, 1, 0, 1, 1], [2, 0, 0, 1, 0, 1, 1], [1, 0], [0, 1, 1, 1]], [0, 3, 5, 14, 15, 16], 2, ⟨[.al 0 0, .al 1 0, .fd .str, .fd (.sl 0), .fd (.int .i64), .fd (.int .i64)], [⟨0, 36, [.own 4 40, .mp (.str) 0 false], false⟩, ⟨1, 40, [.st 4], false⟩]⟩⟩) (by kernel_rfl) (((), (), t5, t14, t15, t16, ()), ((b0_0, b0_1, ()), (b1, ()), ())) (by kernel_rfl) (by kernel_rfl)

def Tryd.m6.p : Pln := ⟨[], 1, ⟨[.al 0 0, .fd .str], [⟨0, 36, [.own 4 40, .mp (.str) 0 false], false⟩]⟩, ⟨[.fd (.int .i64)], [⟨0, 36, [.own 4 40, .mp (.str) 0 false], false⟩]⟩, false, [], []⟩
noncomputable def Tryd.m6.E : Env En.Dop.D17 := envOf Tryd.prog 6 Tryd.tb [Tryd.m12.c] Tryd.m6.p
theorem Tryd.m6.ok : plnOk En.Dop.D17 Tryd.prog 6 Tryd.m6.p = true := by kernel_rfl
noncomputable def Tryd.m6.c : Ctr En.Dop.D17 := ⟨6, Tryd.m6.p.bn, Tryd.m6.p.sp, Tryd.m6.p.rs, Tryd.m6.p.flat, .opt (Tryd.m6.E.run 3000 Tryd.m6.p.sp)⟩
theorem Tryd.m6.holds : Tryd.m6.c.Holds Tryd.prog := fun_ctr 3000 Tryd.tbOk (hct_cons Tryd.m12.holds hct_nil) Tryd.m6.ok
noncomputable def Tryd.m6 (name : List UInt8) (b0_0 : List (En.Dop.Nod)) (b0_1 : List (List UInt8 × Int)) : Option (Spec.D En.Dop.D17 ⟨[.fd (.int .i64)], [⟨0, 36, [.own 4 40, .mp (.str) 0 false], false⟩]⟩) := Tryd.m6.E.run 3000 Tryd.m6.p.sp (((), name, ()), ((b0_0, b0_1, ()), ()))
theorem Tryd.m6_eq (name : List UInt8) (b0_0 : List (En.Dop.Nod)) (b0_1 : List (List UInt8 × Int)) : Tryd.m6 name b0_0 b0_1 =
  (Tryd.m12 (Dop.Nod.mk (1 : Int) (0 : Int) (0 : Int) name (@List.nil Int) (@List.nil Int)) (b0_0) (b0_1)).bind fun y2 =>
   some ((y2.fst.fst, ()), ((y2.snd.fst.fst, (y2.snd.fst.snd.fst, ())), ())) := by kernel_rfl

def Tryd.m29.p : Pln := ⟨[], 2, ⟨[.fd (.int .i64), .al 0 0], [⟨0, 22, [.al 1 0], false⟩, ⟨1, 36, [.own 4 40, .mp (.str) 0 false], false⟩]⟩, ⟨[.fd .bool], [⟨0, 22, [.al 1 0], false⟩, ⟨1, 36, [.own 4 40, .mp (.str) 0 false], false⟩]⟩, false, [], []⟩
noncomputable def Tryd.m29.E : Env En.Dop.D17 := envOf Tryd.prog 29 Tryd.tb [] Tryd.m29.p
theorem Tryd.m29.ok : plnOk En.Dop.D17 Tryd.prog 29 Tryd.m29.p = true := by kernel_rfl
noncomputable def Tryd.m29.c : Ctr En.Dop.D17 := ⟨29, Tryd.m29.p.bn, Tryd.m29.p.sp, Tryd.m29.p.rs, Tryd.m29.p.flat, .opt (Tryd.m29.E.run 3000 Tryd.m29.p.sp)⟩
theorem Tryd.m29.holds : Tryd.m29.c.Holds Tryd.prog := fun_ctr 3000 Tryd.tbOk hct_nil Tryd.m29.ok
noncomputable def Tryd.m29 (t : Int) (b1_0 : List (En.Dop.Nod)) (b1_1 : List (List UInt8 × Int)) : Option (Spec.D En.Dop.D17 ⟨[.fd .bool], [⟨0, 22, [.al 1 0], false⟩, ⟨1, 36, [.own 4 40, .mp (.str) 0 false], false⟩]⟩) := Tryd.m29.E.run 3000 Tryd.m29.p.sp ((t, (), ()), (((), ()), (b1_0, b1_1, ()), ()))
theorem Tryd.m29_eq (t : Int) (b1_0 : List (En.Dop.Nod)) (b1_1 : List (List UInt8 × Int)) : Tryd.m29 t b1_0 b1_1 =
  if (decide (t < (0 : Int))) = true then
   some ((true, ()), (((), ()), ((b1_0, (b1_1, ())), ())))
  else
   some ((decide (I b1_0.length ≤ t), ()), (((), ()), ((b1_0, (b1_1, ())), ()))) := by kernel_rfl

def Tryd.m41_29.p : Pln := ⟨[(2, ⟨[[0, 0, 0, 0, 1, 0, 1], [0, 1, 0, 0, 1, 0, 1], [2, 0, 0, 1, 0, 1], [1, 0], [0, 1, 1]], [0, 1, 7, 8], 2, ⟨[.fd (.sl 0), .fn 29 [(0, 0)], .fd (.int .i64), .fd (.int .i64)], [⟨0, 22, [.al 1 0], false⟩, ⟨1, 36, [.own 4 40, .mp (.str) 0 false], false⟩]⟩⟩)], 2, ⟨[.fd (.sl 0), .fn 29 [(0, 0)]], [⟨0, 22, [.al 1 0], false⟩, ⟨1, 36, [.own 4 40, .mp (.str) 0 false], false⟩]⟩, ⟨[.fd (.int .i64)], [⟨0, 22, [.al 1 0], false⟩, ⟨1, 36, [.own 4 40, .mp (.str) 0 false], false⟩]⟩, false, [], []⟩
noncomputable def Tryd.m41_29.E : Env En.Dop.D17 := envOf Tryd.prog 41 Tryd.tb [Tryd.m29.c] Tryd.m41_29.p
theorem Tryd.m41_29.ok : plnOk En.Dop.D17 Tryd.prog 41 Tryd.m41_29.p = true := by kernel_rfl
noncomputable def Tryd.m41_29.c : Ctr En.Dop.D17 := ⟨41, Tryd.m41_29.p.bn, Tryd.m41_29.p.sp, Tryd.m41_29.p.rs, Tryd.m41_29.p.flat, .opt (Tryd.m41_29.E.run 3000 Tryd.m41_29.p.sp)⟩
theorem Tryd.m41_29.holds : Tryd.m41_29.c.Holds Tryd.prog := fun_ctr 3000 Tryd.tbOk (hct_cons Tryd.m29.holds hct_nil) Tryd.m41_29.ok
noncomputable def Tryd.m41_29 (s : List (Int)) (b1_0 : List (En.Dop.Nod)) (b1_1 : List (List UInt8 × Int)) : Option (Spec.D En.Dop.D17 ⟨[.fd (.int .i64)], [⟨0, 22, [.al 1 0], false⟩, ⟨1, 36, [.own 4 40, .mp (.str) 0 false], false⟩]⟩) := Tryd.m41_29.E.run 3000 Tryd.m41_29.p.sp ((s, (), ()), (((), ()), (b1_0, b1_1, ()), ()))
noncomputable def Tryd.m41_29_2 (s : List (Int)) (t7 : Int) (t8 : Int) (b1_0 : List (En.Dop.Nod)) (b1_1 : List (List UInt8 × Int)) : Option (Spec.D En.Dop.D17 ⟨[.fd (.int .i64)], [⟨0, 22, [.al 1 0], false⟩, ⟨1, 36, [.own 4 40, .mp (.str) 0 false], false⟩]⟩) := Tryd.m41_29.E.cut 3000 2 ((s, (), t7, t8, ()), (((), ()), (b1_0, b1_1, ()), ()))
theorem Tryd.m41_29_eq (s : List (Int)) (b1_0 : List (En.Dop.Nod)) (b1_1 : List (List UInt8 × Int)) : Tryd.m41_29 s b1_0 b1_1 =
  Tryd.m41_29_2 (s) (I s.length) ((0 : Int)) (b1_0) (b1_1) := by kernel_rfl
theorem Tryd.m41_29_2_eq (s : List (Int)) (t7 : Int) (t8 : Int) (b1_0 : List (En.Dop.Nod)) (b1_1 : List (List UInt8 × Int)) : Tryd.m41_29_2 s t7 t8 b1_0 b1_1 =
  if (decide (t8 < t7)) = true then
   if (decide ((0 : Int) ≤ t8 ∧ t8 < I s.length)) = true then
   (Tryd.m29 (@List.getD Int s t8.toNat (0 : Int)) (b1_0) (b1_1)).bind fun y3 =>
    if (y3.fst.fst) = true then
     some ((t8, ()), (((), ()), ((y3.snd.snd.fst.fst, (y3.snd.snd.fst.snd.fst, ())), ())))
    else
     if (inR (t8 + (1 : Int))) = true then
     Tryd.m41_29_2 (s) (t7) (t8 + (1 : Int)) (y3.snd.snd.fst.fst) (y3.snd.snd.fst.snd.fst)
     else none
   else none
  else
   some (((-1 : Int), ()), (((), ()), ((b1_0, (b1_1, ())), ()))) := Env.cut_eq' (E := Tryd.m41_29.E) (f0 := 3000) (c := 2) (q := ⟨[[0, 0, 0, 0, 1, 0, 1], [0, 1, 0, 0, 1, 0, 1], [2, 0, 0, 1, 0, 1], [1, 0], [0, 1, 1]], [0, 1, 7, 8], 2, ⟨[.fd (.sl 0), .fn 29 [(0, 0)], .fd (.int .i64), .fd (.int .i64)], [⟨0, 22, [.al 1 0], false⟩, ⟨1, 36, [.own 4 40, .mp (.str) 0 false], false⟩]⟩⟩) (by kernel_rfl) ((s, (), t7, t8, ()), (((), ()), (b1_0, b1_1, ()), ())) (by kernel_rfl) (by kernel_rfl)

def Tryd.m28_29.p : Pln := ⟨[], 2, ⟨[.fd (.sl 0), .fn 29 [(0, 0)]], [⟨0, 22, [.al 1 0], false⟩, ⟨1, 36, [.own 4 40, .mp (.str) 0 false], false⟩]⟩, ⟨[.fd .bool], [⟨0, 22, [.al 1 0], false⟩, ⟨1, 36, [.own 4 40, .mp (.str) 0 false], false⟩]⟩, false, [], []⟩
noncomputable def Tryd.m28_29.E : Env En.Dop.D17 := envOf Tryd.prog 28 Tryd.tb [Tryd.m41_29.c] Tryd.m28_29.p
theorem Tryd.m28_29.ok : plnOk En.Dop.D17 Tryd.prog 28 Tryd.m28_29.p = true := by kernel_rfl
noncomputable def Tryd.m28_29.c : Ctr En.Dop.D17 := ⟨28, Tryd.m28_29.p.bn, Tryd.m28_29.p.sp, Tryd.m28_29.p.rs, Tryd.m28_29.p.flat, .opt (Tryd.m28_29.E.run 3000 Tryd.m28_29.p.sp)⟩
theorem Tryd.m28_29.holds : Tryd.m28_29.c.Holds Tryd.prog := fun_ctr 3000 Tryd.tbOk (hct_cons Tryd.m41_29.holds hct_nil) Tryd.m28_29.ok
noncomputable def Tryd.m28_29 (s : List (Int)) (b1_0 : List (En.Dop.Nod)) (b1_1 : List (List UInt8 × Int)) : Option (Spec.D En.Dop.D17 ⟨[.fd .bool], [⟨0, 22, [.al 1 0], false⟩, ⟨1, 36, [.own 4 40, .mp (.str) 0 false], false⟩]⟩) := Tryd.m28_29.E.run 3000 Tryd.m28_29.p.sp ((s, (), ()), (((), ()), (b1_0, b1_1, ()), ()))
theorem Tryd.m28_29_eq (s : List (Int)) (b1_0 : List (En.Dop.Nod)) (b1_1 : List (List UInt8 × Int)) : Tryd.m28_29 s b1_0 b1_1 =
  (Tryd.m41_29 (s) (b1_0) (b1_1)).bind fun y2 =>
   some ((decide ((0 : Int) ≤ y2.fst.fst), ()), (((), ()), ((y2.snd.snd.fst.fst, (y2.snd.snd.fst.snd.fst, ())), ()))) := by kernel_rfl

def Tryd.m15.p : Pln := ⟨[], 1, ⟨[.al 0 0, .fd (.sl 0)], [⟨0, 36, [.own 4 40, .mp (.str) 0 false], false⟩]⟩, ⟨[.fd .bool], [⟨0, 36, [.own 4 40, .mp (.str) 0 false], false⟩]⟩, false, [], []⟩
noncomputable def Tryd.m15.E : Env En.Dop.D17 := envOf Tryd.prog 15 Tryd.tb [Tryd.m28_29.c] Tryd.m15.p
theorem Tryd.m15.ok : plnOk En.Dop.D17 Tryd.prog 15 Tryd.m15.p = true := by kernel_rfl
noncomputable def Tryd.m15.c : Ctr En.Dop.D17 := ⟨15, Tryd.m15.p.bn, Tryd.m15.p.sp, Tryd.m15.p.rs, Tryd.m15.p.flat, .opt (Tryd.m15.E.run 3000 Tryd.m15.p.sp)⟩
theorem Tryd.m15.holds : Tryd.m15.c.Holds Tryd.prog := fun_ctr 3000 Tryd.tbOk (hct_cons Tryd.m28_29.holds hct_nil) Tryd.m15.ok
noncomputable def Tryd.m15 (l : List (Int)) (b0_0 : List (En.Dop.Nod)) (b0_1 : List (List UInt8 × Int)) : Option (Spec.D En.Dop.D17 ⟨[.fd .bool], [⟨0, 36, [.own 4 40, .mp (.str) 0 false], false⟩]⟩) := Tryd.m15.E.run 3000 Tryd.m15.p.sp (((), l, ()), ((b0_0, b0_1, ()), ()))
theorem Tryd.m15_eq (l : List (Int)) (b0_0 : List (En.Dop.Nod)) (b0_1 : List (List UInt8 × Int)) : Tryd.m15 l b0_0 b0_1 =
  (Tryd.m28_29 (l) (b0_0) (b0_1)).bind fun y2 =>
   some ((!y2.fst.fst, ()), ((y2.snd.snd.fst.fst, (y2.snd.snd.fst.snd.fst, ())), ())) := by kernel_rfl

def Tryd.m16.p : Pln := ⟨[], 1, ⟨[.al 0 0, .fd (.int .i64)], [⟨0, 36, [.own 4 40, .mp (.str) 0 false], false⟩]⟩, ⟨[.fd (.int .i64), .fd .bool], [⟨0, 36, [.own 4 40, .mp (.str) 0 false], false⟩]⟩, false, [], []⟩
noncomputable def Tryd.m16.E : Env En.Dop.D17 := envOf Tryd.prog 16 Tryd.tb [Tryd.m15.c] Tryd.m16.p
theorem Tryd.m16.ok : plnOk En.Dop.D17 Tryd.prog 16 Tryd.m16.p = true := by kernel_rfl
noncomputable def Tryd.m16.c : Ctr En.Dop.D17 := ⟨16, Tryd.m16.p.bn, Tryd.m16.p.sp, Tryd.m16.p.rs, Tryd.m16.p.flat, .opt (Tryd.m16.E.run 3000 Tryd.m16.p.sp)⟩
theorem Tryd.m16.holds : Tryd.m16.c.Holds Tryd.prog := fun_ctr 3000 Tryd.tbOk (hct_cons Tryd.m15.holds hct_nil) Tryd.m16.ok
noncomputable def Tryd.m16 (t : Int) (b0_0 : List (En.Dop.Nod)) (b0_1 : List (List UInt8 × Int)) : Option (Spec.D En.Dop.D17 ⟨[.fd (.int .i64), .fd .bool], [⟨0, 36, [.own 4 40, .mp (.str) 0 false], false⟩]⟩) := Tryd.m16.E.run 3000 Tryd.m16.p.sp (((), t, ()), ((b0_0, b0_1, ()), ()))
theorem Tryd.m16_eq (t : Int) (b0_0 : List (En.Dop.Nod)) (b0_1 : List (List UInt8 × Int)) : Tryd.m16 t b0_0 b0_1 =
  (Tryd.m15 (t :: @List.nil Int) (b0_0) (b0_1)).bind fun y2 =>
   if (!y2.fst.fst) = true then
    some (((0 : Int), (false, ())), ((y2.snd.fst.fst, (y2.snd.fst.snd.fst, ())), ()))
   else
    if (decide ((0 : Int) ≤ t ∧ t < I y2.snd.fst.fst.length)) = true then
    if (decide (t.toNat < y2.snd.fst.fst.length)) = true then
    if (!decide ((@List.getD Dop.Nod y2.snd.fst.fst t.toNat Dop.d4).kind = (0 : Int))) = true then
     some (((0 : Int), (false, ())), ((y2.snd.fst.fst, (y2.snd.fst.snd.fst, ())), ()))
    else
     if (decide ((0 : Int) ≤ t ∧ t < I y2.snd.fst.fst.length)) = true then
     if (decide (t.toNat < y2.snd.fst.fst.length)) = true then
     some (((@List.getD Dop.Nod y2.snd.fst.fst t.toNat Dop.d4).n, (true, ())), ((y2.snd.fst.fst, (y2.snd.fst.snd.fst, ())), ()))
     else none
     else none
    else none
    else none := by kernel_rfl

def Tryd.m21.p : Pln := ⟨[], 0, ⟨[.fd (.int .i64)], []⟩, ⟨[.fd (.int .i64)], []⟩, true, [], []⟩
noncomputable def Tryd.m21.E : Env En.Dop.D17 := envOf Tryd.prog 21 Tryd.tb [] Tryd.m21.p
theorem Tryd.m21.ok : plnOk En.Dop.D17 Tryd.prog 21 Tryd.m21.p = true := by kernel_rfl
noncomputable def Tryd.m21.c : Ctr En.Dop.D17 := ⟨21, Tryd.m21.p.bn, Tryd.m21.p.sp, Tryd.m21.p.rs, Tryd.m21.p.flat, .opt (Tryd.m21.E.run 3000 Tryd.m21.p.sp)⟩
theorem Tryd.m21.holds : Tryd.m21.c.Holds Tryd.prog := fun_ctr 3000 Tryd.tbOk hct_nil Tryd.m21.ok
noncomputable def Tryd.m21 (n : Int) : Option (Spec.D En.Dop.D17 ⟨[.fd (.int .i64)], []⟩) := Tryd.m21.E.run 3000 Tryd.m21.p.sp ((n, ()), ())
theorem Tryd.m21_eq (n : Int) : Tryd.m21 n =
  if (inR (IntKind.i32.wrap (IntKind.u32.wrap n))) = true then
  some ((IntKind.i32.wrap (IntKind.u32.wrap n), ()), ())
  else none := by kernel_rfl

def Tryd.m30.p : Pln := ⟨[], 0, ⟨[.fd (.int .i64)], []⟩, ⟨[.fd (.int .i64), .fd .bool], []⟩, true, [], []⟩
noncomputable def Tryd.m30.E : Env En.Dop.D17 := envOf Tryd.prog 30 Tryd.tb [Tryd.m21.c] Tryd.m30.p
theorem Tryd.m30.ok : plnOk En.Dop.D17 Tryd.prog 30 Tryd.m30.p = true := by kernel_rfl
noncomputable def Tryd.m30.c : Ctr En.Dop.D17 := ⟨30, Tryd.m30.p.bn, Tryd.m30.p.sp, Tryd.m30.p.rs, Tryd.m30.p.flat, .opt (Tryd.m30.E.run 3000 Tryd.m30.p.sp)⟩
theorem Tryd.m30.holds : Tryd.m30.c.Holds Tryd.prog := fun_ctr 3000 Tryd.tbOk (hct_cons Tryd.m21.holds hct_nil) Tryd.m30.ok
noncomputable def Tryd.m30 (n : Int) : Option (Spec.D En.Dop.D17 ⟨[.fd (.int .i64), .fd .bool], []⟩) := Tryd.m30.E.run 3000 Tryd.m30.p.sp ((n, ()), ())
theorem Tryd.m30_eq (n : Int) : Tryd.m30 n =
  (Tryd.m21 (n)).bind fun y2 =>
   some ((y2.fst.fst, (true, ())), ()) := by kernel_rfl

def Tryd.m31.p : Pln := ⟨[(3, ⟨[[0, 0, 1, 2, 0, 1], [0, 1, 1, 2, 0, 1], [3, 0, 1]], [], 0, ⟨[], []⟩⟩)], 0, ⟨[.fd (.int .i64), .fd (.int .i64)], []⟩, ⟨[.fd (.int .i64), .fd (.int .i64), .fd .bool], []⟩, true, [(2, ⟨[(0, true), (1, true), (2, true), (3, true), (4, true), (5, true), (6, true), (7, true), (8, true)], [], [0, 0, 3, 0, 0, 24, 7, 127, 255], false⟩)], []⟩
noncomputable def Tryd.m31.E : Env En.Dop.D17 := envOf Tryd.prog 31 Tryd.tb [] Tryd.m31.p
theorem Tryd.m31.ok : plnOk En.Dop.D17 Tryd.prog 31 Tryd.m31.p = true := by kernel_rfl
noncomputable def Tryd.m31.c : Ctr En.Dop.D17 := ⟨31, Tryd.m31.p.bn, Tryd.m31.p.sp, Tryd.m31.p.rs, Tryd.m31.p.flat, .opt (Tryd.m31.E.run 3000 Tryd.m31.p.sp)⟩
theorem Tryd.m31.holds : Tryd.m31.c.Holds Tryd.prog := fun_ctr 3000 Tryd.tbOk hct_nil Tryd.m31.ok
noncomputable def Tryd.m31 (a : Int) (b : Int) : Option (Spec.D En.Dop.D17 ⟨[.fd (.int .i64), .fd (.int .i64), .fd .bool], []⟩) := Tryd.m31.E.run 3000 Tryd.m31.p.sp ((a, b, ()), ())
noncomputable def Tryd.m31_3 : Option (Spec.D En.Dop.D17 ⟨[.fd (.int .i64), .fd (.int .i64), .fd .bool], []⟩) := Tryd.m31.E.cut 3000 3 ((), ())
theorem Tryd.m31_eq (a : Int) (b : Int) : Tryd.m31 a b =
  if (decide (b = (0 : Int))) = true then
   Tryd.m31_3
  else
   if (decide (b ≠ (0 : Int) ∧ inR (a.tdiv b) = true)) = true then
   if (decide (b ≠ (0 : Int))) = true then
   some ((a.tdiv b, (a.tmod b, (true, ()))), ())
   else none
   else none := by kernel_rfl
theorem Tryd.m31_3_eq : Tryd.m31_3 =
  some (((0 : Int), ((0 : Int), (false, ()))), ()) := Env.cut_eq' (E := Tryd.m31.E) (f0 := 3000) (c := 3) (q := ⟨[[0, 0, 1, 2, 0, 1], [0, 1, 1, 2, 0, 1], [3, 0, 1]], [], 0, ⟨[], []⟩⟩) (by kernel_rfl) ((), ()) (by kernel_rfl) (by kernel_rfl)

def Tryd.m32.p : Pln := ⟨[], 0, ⟨[.fd (.int .i64)], []⟩, ⟨[.fd (.int .i64)], []⟩, true, [], []⟩
noncomputable def Tryd.m32.E : Env En.Dop.D17 := envOf Tryd.prog 32 Tryd.tb [] Tryd.m32.p
theorem Tryd.m32.ok : plnOk En.Dop.D17 Tryd.prog 32 Tryd.m32.p = true := by kernel_rfl
noncomputable def Tryd.m32.c : Ctr En.Dop.D17 := ⟨32, Tryd.m32.p.bn, Tryd.m32.p.sp, Tryd.m32.p.rs, Tryd.m32.p.flat, .opt (Tryd.m32.E.run 3000 Tryd.m32.p.sp)⟩
theorem Tryd.m32.holds : Tryd.m32.c.Holds Tryd.prog := fun_ctr 3000 Tryd.tbOk hct_nil Tryd.m32.ok
noncomputable def Tryd.m32 (n : Int) : Option (Spec.D En.Dop.D17 ⟨[.fd (.int .i64)], []⟩) := Tryd.m32.E.run 3000 Tryd.m32.p.sp ((n, ()), ())
theorem Tryd.m32_eq (n : Int) : Tryd.m32 n =
  if (inR (IntKind.u32.wrap n)) = true then
  some ((IntKind.u32.wrap n, ()), ())
  else none := by kernel_rfl

def Tryd.m33.p : Pln := ⟨[], 0, ⟨[.fd .bool], []⟩, ⟨[.fd (.int .i64)], []⟩, true, [], []⟩
noncomputable def Tryd.m33.E : Env En.Dop.D17 := envOf Tryd.prog 33 Tryd.tb [] Tryd.m33.p
theorem Tryd.m33.ok : plnOk En.Dop.D17 Tryd.prog 33 Tryd.m33.p = true := by kernel_rfl
noncomputable def Tryd.m33.c : Ctr En.Dop.D17 := ⟨33, Tryd.m33.p.bn, Tryd.m33.p.sp, Tryd.m33.p.rs, Tryd.m33.p.flat, .opt (Tryd.m33.E.run 3000 Tryd.m33.p.sp)⟩
theorem Tryd.m33.holds : Tryd.m33.c.Holds Tryd.prog := fun_ctr 3000 Tryd.tbOk hct_nil Tryd.m33.ok
noncomputable def Tryd.m33 (is : Bool) : Option (Spec.D En.Dop.D17 ⟨[.fd (.int .i64)], []⟩) := Tryd.m33.E.run 3000 Tryd.m33.p.sp ((is, ()), ())
theorem Tryd.m33_eq (is : Bool) : Tryd.m33 is =
  if (is) = true then
   some (((1 : Int), ()), ())
  else
   some (((0 : Int), ()), ()) := by kernel_rfl

def Tryd.m17.p : Pln := ⟨[(12, ⟨[[0, 0, 0, 1, 1, 1, 1, 1, 1, 1, 0, 1, 0, 1, 1, 1], [0, 1, 0, 1, 1, 1, 1, 1, 1, 1, 0, 1, 0, 1, 1, 1], [1, 0], [0, 1, 1, 1, 1]], [0, 1, 2], 0, ⟨[.fd (.int .i64), .fd (.int .i64), .fd (.int .i64)], []⟩⟩), (16, ⟨[[0, 0, 0, 1, 1, 1, 1, 1, 1, 1, 1, 0, 1, 0, 1, 1, 1], [0, 1, 0, 1, 1, 1, 1, 1, 1, 1, 1, 0, 1, 0, 1, 1, 1], [0, 1, 1, 1, 1, 1, 1, 1, 1, 1, 0, 1, 0, 1, 1, 1], [1, 0], [0, 1, 1, 1, 1]], [0, 1, 2, 8, 19], 0, ⟨[.fd (.int .i64), .fd (.int .i64), .fd (.int .i64), .fn 30 [], .fd (.int .i64)], []⟩⟩), (15, ⟨[[0, 0, 1, 1, 0, 1, 1, 1, 1, 1, 1, 1, 0, 1, 0, 1, 1, 1], [0, 1, 1, 1, 0, 1, 1, 1, 1, 1, 1, 1, 0, 1, 0, 1, 1, 1], [1, 0], [0, 1, 1, 1, 1]], [9, 11], 0, ⟨[.fd (.int .i64), .fd .bool], []⟩⟩), (18, ⟨[[0, 0, 0, 1, 1, 1, 1, 1, 1, 1, 1, 1, 0, 1, 0, 1, 1, 1], [0, 1, 0, 1, 1, 1, 1, 1, 1, 1, 1, 1, 0, 1, 0, 1, 1, 1], [1, 0], [0, 1, 1, 1, 1]], [0, 1, 2], 0, ⟨[.fd (.int .i64), .fd (.int .i64), .fd (.int .i64)], []⟩⟩), (22, ⟨[[0, 0, 1, 1, 1, 1, 1, 1, 1, 1, 1, 1, 0, 1, 0, 1, 1, 1], [0, 1, 1, 1, 1, 1, 1, 1, 1, 1, 1, 1, 0, 1, 0, 1, 1, 1], [1, 0], [0, 1, 1, 1, 1]], [1, 2, 8, 19], 0, ⟨[.fd (.int .i64), .fd (.int .i64), .fn 30 [], .fd (.int .i64)], []⟩⟩), (21, ⟨[[0, 0, 1, 1, 0, 1, 1, 1, 1, 1, 1, 1, 1, 1, 0, 1, 0, 1, 1, 1], [0, 1, 1, 1, 0, 1, 1, 1, 1, 1, 1, 1, 1, 1, 0, 1, 0, 1, 1, 1], [1, 0], [0, 1, 1, 1, 1]], [12, 14], 0, ⟨[.fd (.int .i64), .fd .bool], []⟩⟩)], 0, ⟨[.fd (.int .i64), .fd (.int .i64), .fd (.int .i64)], []⟩, ⟨[.fd (.int .i64), .fd .bool], []⟩, true, [], []⟩
noncomputable def Tryd.m17.E : Env En.Dop.D17 := envOf Tryd.prog 17 Tryd.tb [Tryd.m21.c, Tryd.m30.c, Tryd.m31.c, Tryd.m32.c, Tryd.m33.c] Tryd.m17.p
theorem Tryd.m17.ok : plnOk En.Dop.D17 Tryd.prog 17 Tryd.m17.p = true := by kernel_rfl
noncomputable def Tryd.m17.c : Ctr En.Dop.D17 := ⟨17, Tryd.m17.p.bn, Tryd.m17.p.sp, Tryd.m17.p.rs, Tryd.m17.p.flat, .opt (Tryd.m17.E.run 3000 Tryd.m17.p.sp)⟩
theorem Tryd.m17.holds : Tryd.m17.c.Holds Tryd.prog := fun_ctr 3000 Tryd.tbOk (hct_cons Tryd.m21.holds (hct_cons Tryd.m30.holds (hct_cons Tryd.m31.holds (hct_cons Tryd.m32.holds (hct_cons Tryd.m33.holds hct_nil))))) Tryd.m17.ok
noncomputable def Tryd.m17 (o : Int) (t1 : Int) (t2 : Int) : Option (Spec.D En.Dop.D17 ⟨[.fd (.int .i64), .fd .bool], []⟩) := Tryd.m17.E.run 3000 Tryd.m17.p.sp ((o, t1, t2, ()), ())
noncomputable def Tryd.m17_12 (o : Int) (t1 : Int) (t2 : Int) : Option (Spec.D En.Dop.D17 ⟨[.fd (.int .i64), .fd .bool], []⟩) := Tryd.m17.E.cut 3000 12 ((o, t1, t2, ()), ())
noncomputable def Tryd.m17_16 (o : Int) (t1 : Int) (t2 : Int) (t19 : Int) : Option (Spec.D En.Dop.D17 ⟨[.fd (.int .i64), .fd .bool], []⟩) := Tryd.m17.E.cut 3000 16 ((o, t1, t2, (), t19, ()), ())
noncomputable def Tryd.m17_15 (t9 : Int) (t11 : Bool) : Option (Spec.D En.Dop.D17 ⟨[.fd (.int .i64), .fd .bool], []⟩) := Tryd.m17.E.cut 3000 15 ((t9, t11, ()), ())
noncomputable def Tryd.m17_18 (o : Int) (t1 : Int) (t2 : Int) : Option (Spec.D En.Dop.D17 ⟨[.fd (.int .i64), .fd .bool], []⟩) := Tryd.m17.E.cut 3000 18 ((o, t1, t2, ()), ())
noncomputable def Tryd.m17_22 (t1 : Int) (t2 : Int) (t19 : Int) : Option (Spec.D En.Dop.D17 ⟨[.fd (.int .i64), .fd .bool], []⟩) := Tryd.m17.E.cut 3000 22 ((t1, t2, (), t19, ()), ())
noncomputable def Tryd.m17_21 (t12 : Int) (t14 : Bool) : Option (Spec.D En.Dop.D17 ⟨[.fd (.int .i64), .fd .bool], []⟩) := Tryd.m17.E.cut 3000 21 ((t12, t14, ()), ())
theorem Tryd.m17_eq (o : Int) (t1 : Int) (t2 : Int) : Tryd.m17 o t1 t2 =
  (Tryd.m21 (t1)).bind fun y2 =>
   (Tryd.m21 (t2)).bind fun y3 =>
    if (decide (o = (1 : Int))) = true then
     if (inR (y2.fst.fst + y3.fst.fst)) = true then
     (Tryd.m30 (y2.fst.fst + y3.fst.fst)).bind fun y5 =>
      some ((y5.fst.fst, (y5.fst.snd.fst, ())), ())
     else none
    else
     if (decide (o = (2 : Int))) = true then
      if (inR (y2.fst.fst - y3.fst.fst)) = true then
      (Tryd.m30 (y2.fst.fst - y3.fst.fst)).bind fun y6 =>
       some ((y6.fst.fst, (y6.fst.snd.fst, ())), ())
      else none
     else
      if (decide (o = (3 : Int))) = true then
       if (inR (y2.fst.fst * y3.fst.fst)) = true then
       (Tryd.m30 (y2.fst.fst * y3.fst.fst)).bind fun y7 =>
        some ((y7.fst.fst, (y7.fst.snd.fst, ())), ())
       else none
      else
       if (decide (o = (4 : Int))) = true then
        if (decide (o = (4 : Int))) = true then
         Tryd.m17_12 (o) (y2.fst.fst) (y3.fst.fst)
        else
         Tryd.m17_16 (o) (y2.fst.fst) (y3.fst.fst) (o)
       else
        if (decide (o = (5 : Int))) = true then
         Tryd.m17_12 (o) (y2.fst.fst) (y3.fst.fst)
        else
         Tryd.m17_16 (o) (y2.fst.fst) (y3.fst.fst) (o) := by kernel_rfl
theorem Tryd.m17_12_eq (o : Int) (t1 : Int) (t2 : Int) : Tryd.m17_12 o t1 t2 =
  (Tryd.m31 (t1) (t2)).bind fun y2 =>
   if (decide (o = (5 : Int))) = true then
    Tryd.m17_15 (y2.fst.snd.fst) (y2.fst.snd.snd.fst)
   else
    Tryd.m17_15 (y2.fst.fst) (y2.fst.snd.snd.fst) := Env.cut_eq' (E := Tryd.m17.E) (f0 := 3000) (c := 12) (q := ⟨[[0, 0, 0, 1, 1, 1, 1, 1, 1, 1, 0, 1, 0, 1, 1, 1], [0, 1, 0, 1, 1, 1, 1, 1, 1, 1, 0, 1, 0, 1, 1, 1], [1, 0], [0, 1, 1, 1, 1]], [0, 1, 2], 0, ⟨[.fd (.int .i64), .fd (.int .i64), .fd (.int .i64)], []⟩⟩) (by kernel_rfl) ((o, t1, t2, ()), ()) (by kernel_rfl) (by kernel_rfl)
theorem Tryd.m17_16_eq (o : Int) (t1 : Int) (t2 : Int) (t19 : Int) : Tryd.m17_16 o t1 t2 t19 =
  if (decide (t19 = (6 : Int))) = true then
   if (decide (t19 = (6 : Int))) = true then
    Tryd.m17_18 (o) (t1) (t2)
   else
    Tryd.m17_22 (t1) (t2) (t19)
  else
   if (decide (t19 = (7 : Int))) = true then
    Tryd.m17_18 (o) (t1) (t2)
   else
    Tryd.m17_22 (t1) (t2) (t19) := Env.cut_eq' (E := Tryd.m17.E) (f0 := 3000) (c := 16) (q := ⟨[[0, 0, 0, 1, 1, 1, 1, 1, 1, 1, 1, 0, 1, 0, 1, 1, 1], [0, 1, 0, 1, 1, 1, 1, 1, 1, 1, 1, 0, 1, 0, 1, 1, 1], [0, 1, 1, 1, 1, 1, 1, 1, 1, 1, 0, 1, 0, 1, 1, 1], [1, 0], [0, 1, 1, 1, 1]], [0, 1, 2, 8, 19], 0, ⟨[.fd (.int .i64), .fd (.int .i64), .fd (.int .i64), .fn 30 [], .fd (.int .i64)], []⟩⟩) (by kernel_rfl) ((o, t1, t2, (), t19, ()), ()) (by kernel_rfl) (by kernel_rfl)
theorem Tryd.m17_15_eq (t9 : Int) (t11 : Bool) : Tryd.m17_15 t9 t11 =
  (Tryd.m21 (t9)).bind fun y2 =>
   some ((y2.fst.fst, (t11, ())), ()) := Env.cut_eq' (E := Tryd.m17.E) (f0 := 3000) (c := 15) (q := ⟨[[0, 0, 1, 1, 0, 1, 1, 1, 1, 1, 1, 1, 0, 1, 0, 1, 1, 1], [0, 1, 1, 1, 0, 1, 1, 1, 1, 1, 1, 1, 0, 1, 0, 1, 1, 1], [1, 0], [0, 1, 1, 1, 1]], [9, 11], 0, ⟨[.fd (.int .i64), .fd .bool], []⟩⟩) (by kernel_rfl) ((t9, t11, ()), ()) (by kernel_rfl) (by kernel_rfl)
theorem Tryd.m17_18_eq (o : Int) (t1 : Int) (t2 : Int) : Tryd.m17_18 o t1 t2 =
  (Tryd.m32 (t1)).bind fun y2 =>
   (Tryd.m32 (t2)).bind fun y3 =>
    (Tryd.m31 (y2.fst.fst) (y3.fst.fst)).bind fun y4 =>
     if (decide (o = (7 : Int))) = true then
      Tryd.m17_21 (y4.fst.snd.fst) (y4.fst.snd.snd.fst)
     else
      Tryd.m17_21 (y4.fst.fst) (y4.fst.snd.snd.fst) := Env.cut_eq' (E := Tryd.m17.E) (f0 := 3000) (c := 18) (q := ⟨[[0, 0, 0, 1, 1, 1, 1, 1, 1, 1, 1, 1, 0, 1, 0, 1, 1, 1], [0, 1, 0, 1, 1, 1, 1, 1, 1, 1, 1, 1, 0, 1, 0, 1, 1, 1], [1, 0], [0, 1, 1, 1, 1]], [0, 1, 2], 0, ⟨[.fd (.int .i64), .fd (.int .i64), .fd (.int .i64)], []⟩⟩) (by kernel_rfl) ((o, t1, t2, ()), ()) (by kernel_rfl) (by kernel_rfl)
theorem Tryd.m17_22_eq (t1 : Int) (t2 : Int) (t19 : Int) : Tryd.m17_22 t1 t2 t19 =
  if (decide (t19 = (8 : Int))) = true then
   (Tryd.m30 (bits BinOp.and IntKind.i64 t1 t2)).bind fun y3 =>
    some ((y3.fst.fst, (y3.fst.snd.fst, ())), ())
  else
   if (decide (t19 = (9 : Int))) = true then
    (Tryd.m30 (bits BinOp.or IntKind.i64 t1 t2)).bind fun y4 =>
     some ((y4.fst.fst, (y4.fst.snd.fst, ())), ())
   else
    if (decide (t19 = (10 : Int))) = true then
     (Tryd.m30 (bits BinOp.xor IntKind.i64 t1 t2)).bind fun y5 =>
      some ((y5.fst.fst, (y5.fst.snd.fst, ())), ())
    else
     if (decide (t19 = (11 : Int))) = true then
      if (decide ((0 : Int) ≤ bits BinOp.and IntKind.i64 t2 (31 : Int) ∧ bits BinOp.and IntKind.i64 t2 (31 : Int) ≤ I IntKind.i64.bits)) = true then
      (Tryd.m30 (IntKind.i64.wrap (t1 * (2 : Int) ^ (bits BinOp.and IntKind.i64 t2 (31 : Int)).toNat))).bind fun y6 =>
       some ((y6.fst.fst, (y6.fst.snd.fst, ())), ())
      else none
     else
      if (decide (t19 = (12 : Int))) = true then
       if (decide ((0 : Int) ≤ bits BinOp.and IntKind.i64 t2 (31 : Int) ∧ bits BinOp.and IntKind.i64 t2 (31 : Int) ≤ I IntKind.i64.bits)) = true then
       (Tryd.m30 (t1 / (2 : Int) ^ (bits BinOp.and IntKind.i64 t2 (31 : Int)).toNat)).bind fun y7 =>
        some ((y7.fst.fst, (y7.fst.snd.fst, ())), ())
       else none
      else
       if (decide (t19 = (13 : Int))) = true then
        (Tryd.m32 (t1)).bind fun y8 =>
         if (decide ((0 : Int) ≤ bits BinOp.and IntKind.i64 t2 (31 : Int) ∧ bits BinOp.and IntKind.i64 t2 (31 : Int) ≤ I IntKind.i64.bits)) = true then
         (Tryd.m30 (y8.fst.fst / (2 : Int) ^ (bits BinOp.and IntKind.i64 t2 (31 : Int)).toNat)).bind fun y9 =>
          some ((y9.fst.fst, (y9.fst.snd.fst, ())), ())
         else none
       else
        if (decide (t19 = (14 : Int))) = true then
         (Tryd.m33 (decide (t1 = t2))).bind fun y9 =>
          (Tryd.m30 (y9.fst.fst)).bind fun y10 =>
           some ((y10.fst.fst, (y10.fst.snd.fst, ())), ())
        else
         if (decide (t19 = (15 : Int))) = true then
          (Tryd.m33 (!decide (t1 = t2))).bind fun y10 =>
           (Tryd.m30 (y10.fst.fst)).bind fun y11 =>
            some ((y11.fst.fst, (y11.fst.snd.fst, ())), ())
         else
          if (decide (t19 = (16 : Int))) = true then
           (Tryd.m33 (decide (t1 < t2))).bind fun y11 =>
            (Tryd.m30 (y11.fst.fst)).bind fun y12 =>
             some ((y12.fst.fst, (y12.fst.snd.fst, ())), ())
          else
           if (decide (t19 = (17 : Int))) = true then
            (Tryd.m33 (decide (t1 ≤ t2))).bind fun y12 =>
             (Tryd.m30 (y12.fst.fst)).bind fun y13 =>
              some ((y13.fst.fst, (y13.fst.snd.fst, ())), ())
           else
            if (decide (t19 = (18 : Int))) = true then
             (Tryd.m32 (t1)).bind fun y13 =>
              (Tryd.m32 (t2)).bind fun y14 =>
               (Tryd.m33 (decide (y13.fst.fst < y14.fst.fst))).bind fun y15 =>
                (Tryd.m30 (y15.fst.fst)).bind fun y16 =>
                 some ((y16.fst.fst, (y16.fst.snd.fst, ())), ())
            else
             if (decide (t19 = (19 : Int))) = true then
              (Tryd.m32 (t1)).bind fun y14 =>
               (Tryd.m32 (t2)).bind fun y15 =>
                (Tryd.m33 (decide (y14.fst.fst ≤ y15.fst.fst))).bind fun y16 =>
                 (Tryd.m30 (y16.fst.fst)).bind fun y17 =>
                  some ((y17.fst.fst, (y17.fst.snd.fst, ())), ())
             else
              if (decide (t19 = (20 : Int))) = true then
               if (inR (-t1)) = true then
               (Tryd.m30 (-t1)).bind fun y15 =>
                some ((y15.fst.fst, (y15.fst.snd.fst, ())), ())
               else none
              else
               if (decide (t19 = (21 : Int))) = true then
                (Tryd.m30 (bits BinOp.xor IntKind.i64 (-1 : Int) t1)).bind fun y16 =>
                 some ((y16.fst.fst, (y16.fst.snd.fst, ())), ())
               else
                if (decide (t19 = (22 : Int))) = true then
                 (Tryd.m30 (bits BinOp.and IntKind.i64 t1 (255 : Int))).bind fun y17 =>
                  some ((y17.fst.fst, (y17.fst.snd.fst, ())), ())
                else
                 if (decide (t19 = (23 : Int))) = true then
                  (Tryd.m33 (decide (t1 = (0 : Int)))).bind fun y18 =>
                   (Tryd.m30 (y18.fst.fst)).bind fun y19 =>
                    some ((y19.fst.fst, (y19.fst.snd.fst, ())), ())
                 else
                  some (((0 : Int), (false, ())), ()) := Env.cut_eq' (E := Tryd.m17.E) (f0 := 3000) (c := 22) (q := ⟨[[0, 0, 1, 1, 1, 1, 1, 1, 1, 1, 1, 1, 0, 1, 0, 1, 1, 1], [0, 1, 1, 1, 1, 1, 1, 1, 1, 1, 1, 1, 0, 1, 0, 1, 1, 1], [1, 0], [0, 1, 1, 1, 1]], [1, 2, 8, 19], 0, ⟨[.fd (.int .i64), .fd (.int .i64), .fn 30 [], .fd (.int .i64)], []⟩⟩) (by kernel_rfl) ((t1, t2, (), t19, ()), ()) (by kernel_rfl) (by kernel_rfl)
theorem Tryd.m17_21_eq (t12 : Int) (t14 : Bool) : Tryd.m17_21 t12 t14 =
  (Tryd.m21 (t12)).bind fun y2 =>
   some ((y2.fst.fst, (t14, ())), ()) := Env.cut_eq' (E := Tryd.m17.E) (f0 := 3000) (c := 21) (q := ⟨[[0, 0, 1, 1, 0, 1, 1, 1, 1, 1, 1, 1, 1, 1, 0, 1, 0, 1, 1, 1], [0, 1, 1, 1, 0, 1, 1, 1, 1, 1, 1, 1, 1, 1, 0, 1, 0, 1, 1, 1], [1, 0], [0, 1, 1, 1, 1]], [12, 14], 0, ⟨[.fd (.int .i64), .fd .bool], []⟩⟩) (by kernel_rfl) ((t12, t14, ()), ()) (by kernel_rfl) (by kernel_rfl)

def Tryd.m8.p : Pln := ⟨[], 1, ⟨[.al 0 0, .fd (.int .i64)], [⟨0, 36, [.own 4 40, .mp (.str) 0 false], false⟩]⟩, ⟨[.fd (.int .i64)], [⟨0, 36, [.own 4 40, .mp (.str) 0 false], false⟩]⟩, false, [], []⟩
noncomputable def Tryd.m8.E : Env En.Dop.D17 := envOf Tryd.prog 8 Tryd.tb [Tryd.m21.c, Tryd.m12.c] Tryd.m8.p
theorem Tryd.m8.ok : plnOk En.Dop.D17 Tryd.prog 8 Tryd.m8.p = true := by kernel_rfl
noncomputable def Tryd.m8.c : Ctr En.Dop.D17 := ⟨8, Tryd.m8.p.bn, Tryd.m8.p.sp, Tryd.m8.p.rs, Tryd.m8.p.flat, .opt (Tryd.m8.E.run 3000 Tryd.m8.p.sp)⟩
theorem Tryd.m8.holds : Tryd.m8.c.Holds Tryd.prog := fun_ctr 3000 Tryd.tbOk (hct_cons Tryd.m21.holds (hct_cons Tryd.m12.holds hct_nil)) Tryd.m8.ok
noncomputable def Tryd.m8 (n : Int) (b0_0 : List (En.Dop.Nod)) (b0_1 : List (List UInt8 × Int)) : Option (Spec.D En.Dop.D17 ⟨[.fd (.int .i64)], [⟨0, 36, [.own 4 40, .mp (.str) 0 false], false⟩]⟩) := Tryd.m8.E.run 3000 Tryd.m8.p.sp (((), n, ()), ((b0_0, b0_1, ()), ()))
theorem Tryd.m8_eq (n : Int) (b0_0 : List (En.Dop.Nod)) (b0_1 : List (List UInt8 × Int)) : Tryd.m8 n b0_0 b0_1 =
  (Tryd.m21 (n)).bind fun y2 =>
   (Tryd.m12 (Dop.Nod.mk (0 : Int) (0 : Int) y2.fst.fst (@List.nil UInt8) (@List.nil Int) (@List.nil Int)) (b0_0) (b0_1)).bind fun y3 =>
    some ((y3.fst.fst, ()), ((y3.snd.fst.fst, (y3.snd.fst.snd.fst, ())), ())) := by kernel_rfl

def Tryd.m18.p : Pln := ⟨[], 1, ⟨[.al 0 0, .fd (.int .i64)], [⟨0, 36, [.own 4 40, .mp (.str) 0 false], false⟩]⟩, ⟨[.st 4], [⟨0, 36, [.own 4 40, .mp (.str) 0 false], false⟩]⟩, false, [], []⟩
noncomputable def Tryd.m18.E : Env En.Dop.D17 := envOf Tryd.prog 18 Tryd.tb [] Tryd.m18.p
theorem Tryd.m18.ok : plnOk En.Dop.D17 Tryd.prog 18 Tryd.m18.p = true := by kernel_rfl
noncomputable def Tryd.m18.c : Ctr En.Dop.D17 := ⟨18, Tryd.m18.p.bn, Tryd.m18.p.sp, Tryd.m18.p.rs, Tryd.m18.p.flat, .opt (Tryd.m18.E.run 3000 Tryd.m18.p.sp)⟩
theorem Tryd.m18.holds : Tryd.m18.c.Holds Tryd.prog := fun_ctr 3000 Tryd.tbOk hct_nil Tryd.m18.ok
noncomputable def Tryd.m18 (t : Int) (b0_0 : List (En.Dop.Nod)) (b0_1 : List (List UInt8 × Int)) : Option (Spec.D En.Dop.D17 ⟨[.st 4], [⟨0, 36, [.own 4 40, .mp (.str) 0 false], false⟩]⟩) := Tryd.m18.E.run 3000 Tryd.m18.p.sp (((), t, ()), ((b0_0, b0_1, ()), ()))
theorem Tryd.m18_eq (t : Int) (b0_0 : List (En.Dop.Nod)) (b0_1 : List (List UInt8 × Int)) : Tryd.m18 t b0_0 b0_1 =
  if (decide ((0 : Int) ≤ t ∧ t < I b0_0.length)) = true then
  if (decide (t.toNat < b0_0.length)) = true then
  if (decide ((@List.getD Dop.Nod b0_0 t.toNat Dop.d4).kind = (0 : Int))) = true then
   some ((Dop.Nod.mk (4 : Int) (0 : Int) (@List.getD Dop.Nod b0_0 t.toNat Dop.d4).n (@List.nil UInt8) (@List.nil Int) (@List.nil Int), ()), ((b0_0, (b0_1, ())), ()))
  else
   if (decide ((@List.getD Dop.Nod b0_0 t.toNat Dop.d4).kind = (4 : Int))) = true then
    some ((@List.getD Dop.Nod b0_0 t.toNat Dop.d4, ()), ((b0_0, (b0_1, ())), ()))
   else
    some ((Dop.Nod.mk (4 : Int) (0 : Int) (0 : Int) (@List.nil UInt8) (t :: @List.nil Int) ((1 : Int) :: @List.nil Int), ()), ((b0_0, (b0_1, ())), ()))
  else none
  else none := by kernel_rfl

def Tryd.m34.p : Pln := ⟨[(2, ⟨[[0, 0, 0, 0, 1, 1], [0, 1, 0, 0, 1, 1], [2, 0, 0, 1, 1], [1, 0]], [1, 2, 3, 4, 11, 12, 13], 3, ⟨[.fd (.int .i64), .al 0 0, .al 1 0, .al 2 0, .fd (.sl 0), .fd (.int .i64), .fd (.int .i64)], [⟨0, 57, [.mp (.int .i64) 0 false], false⟩, ⟨1, 38, [.own 0 3], false⟩, ⟨2, 40, [.st 4], false⟩]⟩⟩)], 2, ⟨[.st 4, .fd (.int .i64), .al 0 0, .al 1 0], [⟨0, 57, [.mp (.int .i64) 0 false], false⟩, ⟨1, 38, [.own 0 3], false⟩]⟩, ⟨[], [⟨0, 57, [.mp (.int .i64) 0 false], false⟩, ⟨1, 38, [.own 0 3], false⟩]⟩, true, [(7, ⟨[(0, false), (1, true), (2, false), (3, true), (4, false), (5, true), (6, false), (7, true), (8, false), (9, false), (10, true), (11, true), (12, false), (13, true), (14, false)], [15], [0, 0, 0, 0, 12, 0, 32, 0, 224, 480, 0, 2016, 4064, 8188, 16380, 32767], false⟩)], []⟩
noncomputable def Tryd.m34.E : Env En.Dop.D17 := envOf Tryd.prog 34 Tryd.tb [Tryd.m21.c] Tryd.m34.p
theorem Tryd.m34.ok : plnOk En.Dop.D17 Tryd.prog 34 Tryd.m34.p = true := by kernel_rfl
noncomputable def Tryd.m34.c : Ctr En.Dop.D17 := ⟨34, Tryd.m34.p.bn, Tryd.m34.p.sp, Tryd.m34.p.rs, Tryd.m34.p.flat, .opt (Tryd.m34.E.run 3000 Tryd.m34.p.sp)⟩
theorem Tryd.m34.holds : Tryd.m34.c.Holds Tryd.prog := fun_ctr 3000 Tryd.tbOk (hct_cons Tryd.m21.holds hct_nil) Tryd.m34.ok
noncomputable def Tryd.m34 (x : En.Dop.Nod) (by_ : Int) (b0 : List (Int × Int)) (b1 : List (Int)) : Option (Spec.D En.Dop.D17 ⟨[], [⟨0, 57, [.mp (.int .i64) 0 false], false⟩, ⟨1, 38, [.own 0 3], false⟩]⟩) := Tryd.m34.E.run 3000 Tryd.m34.p.sp ((x, by_, (), (), ()), ((b0, ()), (b1, ()), ()))
noncomputable def Tryd.m34_2 (by_ : Int) (t11 : List (Int)) (t12 : Int) (t13 : Int) (b0 : List (Int × Int)) (b1 : List (Int)) (b2 : En.Dop.Nod) : Option (Spec.D En.Dop.D17 ⟨[], [⟨0, 57, [.mp (.int .i64) 0 false], false⟩, ⟨1, 38, [.own 0 3], false⟩]⟩) := Tryd.m34.E.cut 3000 2 ((by_, (), (), (), t11, t12, t13, ()), ((b0, ()), (b1, ()), (b2, ()), ()))
theorem Tryd.m34_eq (x : En.Dop.Nod) (by_ : Int) (b0 : List (Int × Int)) (b1 : List (Int)) : Tryd.m34 x by_ b0 b1 =
  Tryd.m34_2 (by_) (x.args) (I x.args.length) ((0 : Int)) (b0) (b1) (x) := by kernel_rfl
theorem Tryd.m34_2_eq (by_ : Int) (t11 : List (Int)) (t12 : Int) (t13 : Int) (b0 : List (Int × Int)) (b1 : List (Int)) (b2 : En.Dop.Nod) : Tryd.m34_2 by_ t11 t12 t13 b0 b1 b2 =
  if (decide (t13 < t12)) = true then
   if (decide ((0 : Int) ≤ t13 ∧ t13 < I t11.length)) = true then
   if (!(mlookI b0 (@List.getD Int t11 t13.toNat (0 : Int))).isSome) = true then
    if (andC none (room (8 : Nat) (b1.length + (@List.getD Int t11 t13.toNat (0 : Int) :: @List.nil Int).length))) = true then
    if (decide ((0 : Int) ≤ t13 ∧ t13 < I b2.fact.length)) = true then
    if (inR (@List.getD Int b2.fact t13.toNat (0 : Int) * by_)) = true then
    (Tryd.m21 (@List.getD Int b2.fact t13.toNat (0 : Int) * by_)).bind fun y4 =>
     if (inR ((mlookI b0 (@List.getD Int t11 t13.toNat (0 : Int))).getD (0 : Int) + y4.fst.fst)) = true then
     (Tryd.m21 ((mlookI b0 (@List.getD Int t11 t13.toNat (0 : Int))).getD (0 : Int) + y4.fst.fst)).bind fun y5 =>
      if (inR (t13 + (1 : Int))) = true then
      Tryd.m34_2 (by_) (t11) (t12) (t13 + (1 : Int)) (mputI b0 (@List.getD Int t11 t13.toNat (0 : Int)) y5.fst.fst) (b1 ++ @List.getD Int t11 t13.toNat (0 : Int) :: @List.nil Int) (b2)
      else none
     else none
    else none
    else none
    else none
   else
    if (decide ((0 : Int) ≤ t13 ∧ t13 < I b2.fact.length)) = true then
    if (inR (@List.getD Int b2.fact t13.toNat (0 : Int) * by_)) = true then
    (Tryd.m21 (@List.getD Int b2.fact t13.toNat (0 : Int) * by_)).bind fun y4 =>
     if (inR ((mlookI b0 (@List.getD Int t11 t13.toNat (0 : Int))).getD (0 : Int) + y4.fst.fst)) = true then
     (Tryd.m21 ((mlookI b0 (@List.getD Int t11 t13.toNat (0 : Int))).getD (0 : Int) + y4.fst.fst)).bind fun y5 =>
      if (inR (t13 + (1 : Int))) = true then
      Tryd.m34_2 (by_) (t11) (t12) (t13 + (1 : Int)) (mputI b0 (@List.getD Int t11 t13.toNat (0 : Int)) y5.fst.fst) (b1) (b2)
      else none
     else none
    else none
    else none
   else none
  else
   some ((), ((b0, ()), ((b1, ()), ()))) := Env.cut_eq' (E := Tryd.m34.E) (f0 := 3000) (c := 2) (q := ⟨[[0, 0, 0, 0, 1, 1], [0, 1, 0, 0, 1, 1], [2, 0, 0, 1, 1], [1, 0]], [1, 2, 3, 4, 11, 12, 13], 3, ⟨[.fd (.int .i64), .al 0 0, .al 1 0, .al 2 0, .fd (.sl 0), .fd (.int .i64), .fd (.int .i64)], [⟨0, 57, [.mp (.int .i64) 0 false], false⟩, ⟨1, 38, [.own 0 3], false⟩, ⟨2, 40, [.st 4], false⟩]⟩⟩) (by kernel_rfl) ((by_, (), (), (), t11, t12, t13, ()), ((b0, ()), (b1, ()), (b2, ()), ())) (by kernel_rfl) (by kernel_rfl)

def Tryd.m20.p : Pln := ⟨[(9, ⟨[[0, 0, 0, 0, 1, 0, 1, 1, 1, 1, 1, 1, 1, 1], [0, 1, 0, 0, 1, 0, 1, 1, 1, 1, 1, 1, 1, 1], [2, 0, 0, 1, 0, 1, 1, 1, 1, 1, 1, 1, 1], [1, 0], [0, 1, 1, 1, 1, 1, 1, 1, 1, 1]], [6, 7, 8, 34, 35, 36], 3, ⟨[.al 0 0, .al 1 0, .al 2 0, .own 0 3, .fd (.int .i64), .fd (.int .i64)], [⟨0, 40, [.fd (.int .i64), .fd (.int .i64), .fd (.int .i64), .fd .str, .own 0 3, .own 0 3], false⟩, ⟨1, 40, [.fd (.int .i64), .fd (.int .i64), .fd (.int .i64), .fd .str, .own 0 3, .own 0 3], false⟩, ⟨2, 57, [.mp (.int .i64) 0 false], false⟩]⟩⟩)], 0, ⟨[.st 4, .st 4, .fd (.int .i64)], []⟩, ⟨[.st 4], []⟩, false, [(1, ⟨[(0, true), (1, false), (2, true), (3, false), (4, true), (5, true), (6, false), (7, true), (8, false), (9, true), (10, false)], [11], [0, 1, 0, 4, 0, 28, 60, 127, 255, 511, 0, 2047], false⟩), (12, ⟨[(0, true), (1, false), (2, true), (3, false), (4, false), (5, true), (6, false), (7, false), (8, true), (9, false), (10, false), (11, false), (12, true)], [13, 14, 15], [0, 1, 0, 4, 15, 0, 32, 0, 0, 384, 896, 2047, 127, 8191, 16383, 32767], false⟩)], []⟩
noncomputable def Tryd.m20.E : Env En.Dop.D17 := envOf Tryd.prog 20 Tryd.tb [Tryd.m21.c, Tryd.m34.c, Tryd.sort.c] Tryd.m20.p
theorem Tryd.m20.ok : plnOk En.Dop.D17 Tryd.prog 20 Tryd.m20.p = true := by kernel_rfl
noncomputable def Tryd.m20.c : Ctr En.Dop.D17 := ⟨20, Tryd.m20.p.bn, Tryd.m20.p.sp, Tryd.m20.p.rs, Tryd.m20.p.flat, .opt (Tryd.m20.E.run 3000 Tryd.m20.p.sp)⟩
theorem Tryd.m20.holds : Tryd.m20.c.Holds Tryd.prog := fun_ctr 3000 Tryd.tbOk (hct_cons Tryd.m21.holds (hct_cons Tryd.m34.holds (hct_cons Tryd.sort.holds hct_nil))) Tryd.m20.ok
noncomputable def Tryd.m20 (a : En.Dop.Nod) (b : En.Dop.Nod) (by_ : Int) : Option (Spec.D En.Dop.D17 ⟨[.st 4], []⟩) := Tryd.m20.E.run 3000 Tryd.m20.p.sp ((a, b, by_, ()), ())
noncomputable def Tryd.m20_9 (t34 : List (Int)) (t35 : Int) (t36 : Int) (b0_0 : Int) (b0_1 : Int) (b0_2 : Int) (b0_3 : List UInt8) (b0_4 : List (Int)) (b0_5 : List (Int)) (b1_0 : Int) (b1_1 : Int) (b1_2 : Int) (b1_3 : List UInt8) (b1_4 : List (Int)) (b1_5 : List (Int)) (b2 : List (Int × Int)) : Option (Spec.D En.Dop.D17 ⟨[.st 4], []⟩) := Tryd.m20.E.cut 3000 9 (((), (), (), t34, t35, t36, ()), ((b0_0, b0_1, b0_2, b0_3, b0_4, b0_5, ()), (b1_0, b1_1, b1_2, b1_3, b1_4, b1_5, ()), (b2, ()), ()))
theorem Tryd.m20_eq (a : En.Dop.Nod) (b : En.Dop.Nod) (by_ : Int) : Tryd.m20 a b by_ =
  if (inR (b.n * by_)) = true then
  (Tryd.m21 (b.n * by_)).bind fun y2 =>
   if (inR (a.n + y2.fst.fst)) = true then
   (Tryd.m21 (a.n + y2.fst.fst)).bind fun y3 =>
    (Tryd.m34 (a) ((1 : Int)) (@List.nil (Int × Int)) (@List.nil Int)).bind fun y4 =>
     (Tryd.m34 (b) (by_) (y4.snd.fst.fst) (y4.snd.snd.fst.fst)).bind fun y5 =>
      if (okSort y5.snd.snd.fst.fst) = true then
      Tryd.m20_9 (List.map (fun (a : Int) => a) (isort (List.map (fun (a : Int) => a) y5.snd.snd.fst.fst))) (I (List.map (fun (a : Int) => a) (isort (List.map (fun (a : Int) => a) y5.snd.snd.fst.fst))).length) ((0 : Int)) ((0 : Int)) ((0 : Int)) ((0 : Int)) (@List.nil UInt8) (@List.nil Int) (@List.nil Int) ((4 : Int)) ((0 : Int)) (y3.fst.fst) (@List.nil UInt8) (@List.nil Int) (@List.nil Int) (y5.snd.fst.fst)
      else none
   else none
  else none := by kernel_rfl
theorem Tryd.m20_9_eq (t34 : List (Int)) (t35 : Int) (t36 : Int) (b0_0 : Int) (b0_1 : Int) (b0_2 : Int) (b0_3 : List UInt8) (b0_4 : List (Int)) (b0_5 : List (Int)) (b1_0 : Int) (b1_1 : Int) (b1_2 : Int) (b1_3 : List UInt8) (b1_4 : List (Int)) (b1_5 : List (Int)) (b2 : List (Int × Int)) : Tryd.m20_9 t34 t35 t36 b0_0 b0_1 b0_2 b0_3 b0_4 b0_5 b1_0 b1_1 b1_2 b1_3 b1_4 b1_5 b2 =
  if (decide (t36 < t35)) = true then
   if (decide ((0 : Int) ≤ t36 ∧ t36 < I t34.length)) = true then
   if (decide (t36.toNat < t34.length)) = true then
   if (!decide ((mlookI b2 (@List.getD Int t34 t36.toNat (0 : Int))).getD (0 : Int) = (0 : Int))) = true then
    if (andC none (room (8 : Nat) (b1_4.length + (@List.getD Int t34 t36.toNat (0 : Int) :: @List.nil Int).length))) = true then
    if (andC none (room (8 : Nat) (b1_5.length + ((mlookI b2 (@List.getD Int t34 t36.toNat (0 : Int))).getD (0 : Int) :: @List.nil Int).length))) = true then
    if (inR (t36 + (1 : Int))) = true then
    Tryd.m20_9 (t34) (t35) (t36 + (1 : Int)) (b0_0) (b0_1) (b0_2) (b0_3) (b0_4) (b0_5) (b1_0) (b1_1) (b1_2) (b1_3) (b1_4 ++ @List.getD Int t34 t36.toNat (0 : Int) :: @List.nil Int) (b1_5 ++ (mlookI b2 (@List.getD Int t34 t36.toNat (0 : Int))).getD (0 : Int) :: @List.nil Int) (b2)
    else none
    else none
    else none
   else
    if (inR (t36 + (1 : Int))) = true then
    Tryd.m20_9 (t34) (t35) (t36 + (1 : Int)) (b0_0) (b0_1) (b0_2) (b0_3) (b0_4) (b0_5) (b1_0) (b1_1) (b1_2) (b1_3) (b1_4) (b1_5) (b2)
    else none
   else none
   else none
  else
   some ((Dop.Nod.mk b1_0 b1_1 b1_2 b1_3 b1_4 b1_5, ()), ()) := Env.cut_eq' (E := Tryd.m20.E) (f0 := 3000) (c := 9) (q := ⟨[[0, 0, 0, 0, 1, 0, 1, 1, 1, 1, 1, 1, 1, 1], [0, 1, 0, 0, 1, 0, 1, 1, 1, 1, 1, 1, 1, 1], [2, 0, 0, 1, 0, 1, 1, 1, 1, 1, 1, 1, 1], [1, 0], [0, 1, 1, 1, 1, 1, 1, 1, 1, 1]], [6, 7, 8, 34, 35, 36], 3, ⟨[.al 0 0, .al 1 0, .al 2 0, .own 0 3, .fd (.int .i64), .fd (.int .i64)], [⟨0, 40, [.fd (.int .i64), .fd (.int .i64), .fd (.int .i64), .fd .str, .own 0 3, .own 0 3], false⟩, ⟨1, 40, [.fd (.int .i64), .fd (.int .i64), .fd (.int .i64), .fd .str, .own 0 3, .own 0 3], false⟩, ⟨2, 57, [.mp (.int .i64) 0 false], false⟩]⟩⟩) (by kernel_rfl) (((), (), (), t34, t35, t36, ()), ((b0_0, b0_1, b0_2, b0_3, b0_4, b0_5, ()), (b1_0, b1_1, b1_2, b1_3, b1_4, b1_5, ()), (b2, ()), ())) (by kernel_rfl) (by kernel_rfl)

def Tryd.m19.p : Pln := ⟨[], 1, ⟨[.al 0 0, .st 4], [⟨0, 36, [.own 4 40, .mp (.str) 0 false], false⟩]⟩, ⟨[.fd (.int .i64)], [⟨0, 36, [.own 4 40, .mp (.str) 0 false], false⟩]⟩, false, [], []⟩
noncomputable def Tryd.m19.E : Env En.Dop.D17 := envOf Tryd.prog 19 Tryd.tb [Tryd.m8.c, Tryd.m12.c] Tryd.m19.p
theorem Tryd.m19.ok : plnOk En.Dop.D17 Tryd.prog 19 Tryd.m19.p = true := by kernel_rfl
noncomputable def Tryd.m19.c : Ctr En.Dop.D17 := ⟨19, Tryd.m19.p.bn, Tryd.m19.p.sp, Tryd.m19.p.rs, Tryd.m19.p.flat, .opt (Tryd.m19.E.run 3000 Tryd.m19.p.sp)⟩
theorem Tryd.m19.holds : Tryd.m19.c.Holds Tryd.prog := fun_ctr 3000 Tryd.tbOk (hct_cons Tryd.m8.holds (hct_cons Tryd.m12.holds hct_nil)) Tryd.m19.ok
noncomputable def Tryd.m19 (x : En.Dop.Nod) (b0_0 : List (En.Dop.Nod)) (b0_1 : List (List UInt8 × Int)) : Option (Spec.D En.Dop.D17 ⟨[.fd (.int .i64)], [⟨0, 36, [.own 4 40, .mp (.str) 0 false], false⟩]⟩) := Tryd.m19.E.run 3000 Tryd.m19.p.sp (((), x, ()), ((b0_0, b0_1, ()), ()))
theorem Tryd.m19_eq (x : En.Dop.Nod) (b0_0 : List (En.Dop.Nod)) (b0_1 : List (List UInt8 × Int)) : Tryd.m19 x b0_0 b0_1 =
  if (decide (I x.args.length = (0 : Int))) = true then
   (Tryd.m8 (x.n) (b0_0) (b0_1)).bind fun y3 =>
    some ((y3.fst.fst, ()), ((y3.snd.fst.fst, (y3.snd.fst.snd.fst, ())), ()))
  else
   if (decide (I x.args.length = (1 : Int))) = true then
    if (decide (x.n = (0 : Int))) = true then
     if (decide ((0 : Int) ≤ (0 : Int) ∧ (0 : Int) < I x.fact.length)) = true then
     if (decide (@List.getD Int x.fact (Int.toNat (0 : Int)) (0 : Int) = (1 : Int))) = true then
      if (decide ((0 : Int) ≤ (0 : Int) ∧ (0 : Int) < I x.args.length)) = true then
      some ((@List.getD Int x.args (Int.toNat (0 : Int)) (0 : Int), ()), ((b0_0, (b0_1, ())), ()))
      else none
     else
      (Tryd.m12 (x) (b0_0) (b0_1)).bind fun y6 =>
       some ((y6.fst.fst, ()), ((y6.snd.fst.fst, (y6.snd.fst.snd.fst, ())), ()))
     else none
    else
     (Tryd.m12 (x) (b0_0) (b0_1)).bind fun y5 =>
      some ((y5.fst.fst, ()), ((y5.snd.fst.fst, (y5.snd.fst.snd.fst, ())), ()))
   else
    (Tryd.m12 (x) (b0_0) (b0_1)).bind fun y4 =>
     some ((y4.fst.fst, ()), ((y4.snd.fst.fst, (y4.snd.fst.snd.fst, ())), ())) := by kernel_rfl

def Tryd.m36.p : Pln := ⟨[], 1, ⟨[.al 0 0, .fd (.int .i64)], [⟨0, 36, [.own 4 40, .mp (.str) 0 false], false⟩]⟩, ⟨[.fd .bool], [⟨0, 36, [.own 4 40, .mp (.str) 0 false], false⟩]⟩, false, [], []⟩
noncomputable def Tryd.m36.E : Env En.Dop.D17 := envOf Tryd.prog 36 Tryd.tb [] Tryd.m36.p
theorem Tryd.m36.ok : plnOk En.Dop.D17 Tryd.prog 36 Tryd.m36.p = true := by kernel_rfl
noncomputable def Tryd.m36.c : Ctr En.Dop.D17 := ⟨36, Tryd.m36.p.bn, Tryd.m36.p.sp, Tryd.m36.p.rs, Tryd.m36.p.flat, .opt (Tryd.m36.E.run 3000 Tryd.m36.p.sp)⟩
theorem Tryd.m36.holds : Tryd.m36.c.Holds Tryd.prog := fun_ctr 3000 Tryd.tbOk hct_nil Tryd.m36.ok
noncomputable def Tryd.m36 (t : Int) (b0_0 : List (En.Dop.Nod)) (b0_1 : List (List UInt8 × Int)) : Option (Spec.D En.Dop.D17 ⟨[.fd .bool], [⟨0, 36, [.own 4 40, .mp (.str) 0 false], false⟩]⟩) := Tryd.m36.E.run 3000 Tryd.m36.p.sp (((), t, ()), ((b0_0, b0_1, ()), ()))
theorem Tryd.m36_eq (t : Int) (b0_0 : List (En.Dop.Nod)) (b0_1 : List (List UInt8 × Int)) : Tryd.m36 t b0_0 b0_1 =
  if (decide ((0 : Int) ≤ t ∧ t < I b0_0.length)) = true then
  if (decide (t.toNat < b0_0.length)) = true then
  if (decide ((@List.getD Dop.Nod b0_0 t.toNat Dop.d4).kind = (3 : Int))) = true then
   if (decide ((@List.getD Dop.Nod b0_0 t.toNat Dop.d4).op = (14 : Int))) = true then
    some ((true, ()), ((b0_0, (b0_1, ())), ()))
   else
    if (decide ((@List.getD Dop.Nod b0_0 t.toNat Dop.d4).op = (16 : Int))) = true then
     some ((true, ()), ((b0_0, (b0_1, ())), ()))
    else
     some ((decide ((@List.getD Dop.Nod b0_0 t.toNat Dop.d4).op = (18 : Int)), ()), ((b0_0, (b0_1, ())), ()))
  else
   some ((false, ()), ((b0_0, (b0_1, ())), ()))
  else none
  else none := by kernel_rfl

def Tryd.m23.p : Pln := ⟨[], 1, ⟨[.al 0 0, .fd (.int .i64)], [⟨0, 36, [.own 4 40, .mp (.str) 0 false], false⟩]⟩, ⟨[.fd (.int .i64)], [⟨0, 36, [.own 4 40, .mp (.str) 0 false], false⟩]⟩, false, [], []⟩
noncomputable def Tryd.m23.E : Env En.Dop.D17 := envOf Tryd.prog 23 Tryd.tb [Tryd.m18.c, Tryd.m20.c, Tryd.m19.c] Tryd.m23.p
theorem Tryd.m23.ok : plnOk En.Dop.D17 Tryd.prog 23 Tryd.m23.p = true := by kernel_rfl
noncomputable def Tryd.m23.c : Ctr En.Dop.D17 := ⟨23, Tryd.m23.p.bn, Tryd.m23.p.sp, Tryd.m23.p.rs, Tryd.m23.p.flat, .opt (Tryd.m23.E.run 3000 Tryd.m23.p.sp)⟩
theorem Tryd.m23.holds : Tryd.m23.c.Holds Tryd.prog := fun_ctr 3000 Tryd.tbOk (hct_cons Tryd.m18.holds (hct_cons Tryd.m20.holds (hct_cons Tryd.m19.holds hct_nil))) Tryd.m23.ok
noncomputable def Tryd.m23 (t : Int) (b0_0 : List (En.Dop.Nod)) (b0_1 : List (List UInt8 × Int)) : Option (Spec.D En.Dop.D17 ⟨[.fd (.int .i64)], [⟨0, 36, [.own 4 40, .mp (.str) 0 false], false⟩]⟩) := Tryd.m23.E.run 3000 Tryd.m23.p.sp (((), t, ()), ((b0_0, b0_1, ()), ()))
theorem Tryd.m23_eq (t : Int) (b0_0 : List (En.Dop.Nod)) (b0_1 : List (List UInt8 × Int)) : Tryd.m23 t b0_0 b0_1 =
  if (decide (t < (0 : Int))) = true then
   some (((-1 : Int), ()), ((b0_0, (b0_1, ())), ()))
  else
   (Tryd.m18 (t) (b0_0) (b0_1)).bind fun y3 =>
    (Tryd.m20 (Dop.Nod.mk (4 : Int) (0 : Int) (1 : Int) (@List.nil UInt8) (@List.nil Int) (@List.nil Int)) (y3.fst.fst) ((-1 : Int))).bind fun y4 =>
     (Tryd.m19 (y4.fst.fst) (y3.snd.fst.fst) (y3.snd.fst.snd.fst)).bind fun y5 =>
      some ((y5.fst.fst, ()), ((y5.snd.fst.fst, (y5.snd.fst.snd.fst, ())), ())) := by kernel_rfl

def Tryd.m59.p : Pln := ⟨[], 0, ⟨[.fd (.int .i64)], []⟩, ⟨[.fd .bool], []⟩, true, [], []⟩
noncomputable def Tryd.m59.E : Env En.Dop.D17 := envOf Tryd.prog 59 Tryd.tb [] Tryd.m59.p
theorem Tryd.m59.ok : plnOk En.Dop.D17 Tryd.prog 59 Tryd.m59.p = true := by kernel_rfl
noncomputable def Tryd.m59.c : Ctr En.Dop.D17 := ⟨59, Tryd.m59.p.bn, Tryd.m59.p.sp, Tryd.m59.p.rs, Tryd.m59.p.flat, .opt (Tryd.m59.E.run 3000 Tryd.m59.p.sp)⟩
theorem Tryd.m59.holds : Tryd.m59.c.Holds Tryd.prog := fun_ctr 3000 Tryd.tbOk hct_nil Tryd.m59.ok
noncomputable def Tryd.m59 (x : Int) : Option (Spec.D En.Dop.D17 ⟨[.fd .bool], []⟩) := Tryd.m59.E.run 3000 Tryd.m59.p.sp ((x, ()), ())
theorem Tryd.m59_eq (x : Int) : Tryd.m59 x =
  some ((!decide (x = x), ()), ()) := by kernel_rfl

def Tryd.m44.p : Pln := ⟨[], 0, ⟨[.fd (.int .i64), .fd (.int .i64)], []⟩, ⟨[.fd (.int .i64)], []⟩, true, [], []⟩
noncomputable def Tryd.m44.E : Env En.Dop.D17 := envOf Tryd.prog 44 Tryd.tb [Tryd.m59.c] Tryd.m44.p
theorem Tryd.m44.ok : plnOk En.Dop.D17 Tryd.prog 44 Tryd.m44.p = true := by kernel_rfl
noncomputable def Tryd.m44.c : Ctr En.Dop.D17 := ⟨44, Tryd.m44.p.bn, Tryd.m44.p.sp, Tryd.m44.p.rs, Tryd.m44.p.flat, .opt (Tryd.m44.E.run 3000 Tryd.m44.p.sp)⟩
theorem Tryd.m44.holds : Tryd.m44.c.Holds Tryd.prog := fun_ctr 3000 Tryd.tbOk (hct_cons Tryd.m59.holds hct_nil) Tryd.m44.ok
noncomputable def Tryd.m44 (x : Int) (y : Int) : Option (Spec.D En.Dop.D17 ⟨[.fd (.int .i64)], []⟩) := Tryd.m44.E.run 3000 Tryd.m44.p.sp ((x, y, ()), ())
theorem Tryd.m44_eq (x : Int) (y : Int) : Tryd.m44 x y =
  (Tryd.m59 (x)).bind fun y2 =>
   (Tryd.m59 (y)).bind fun y3 =>
    if (y2.fst.fst) = true then
     if (y3.fst.fst) = true then
      some (((0 : Int), ()), ())
     else
      some (((-1 : Int), ()), ())
    else
     if (y3.fst.fst) = true then
      some (((1 : Int), ()), ())
     else
      if (decide (x < y)) = true then
       some (((-1 : Int), ()), ())
      else
       if (decide (y < x)) = true then
        some (((1 : Int), ()), ())
       else
        some (((0 : Int), ()), ()) := by kernel_rfl

def Tryd.m37.p : Pln := ⟨[(2, ⟨[[0, 0, 0, 0, 1, 0, 1], [0, 1, 0, 0, 1, 0, 1], [2, 0, 0, 1, 0, 1], [1, 0], [0, 1, 1]], [0, 1, 9, 10, 11], 0, ⟨[.fd (.sl 0), .fd (.sl 0), .fd (.sl 0), .fd (.int .i64), .fd (.int .i64)], []⟩⟩)], 0, ⟨[.fd (.sl 0), .fd (.sl 0)], []⟩, ⟨[.fd (.int .i64)], []⟩, true, [], []⟩
noncomputable def Tryd.m37.E : Env En.Dop.D17 := envOf Tryd.prog 37 Tryd.tb [Tryd.m44.c] Tryd.m37.p
theorem Tryd.m37.ok : plnOk En.Dop.D17 Tryd.prog 37 Tryd.m37.p = true := by kernel_rfl
noncomputable def Tryd.m37.c : Ctr En.Dop.D17 := ⟨37, Tryd.m37.p.bn, Tryd.m37.p.sp, Tryd.m37.p.rs, Tryd.m37.p.flat, .opt (Tryd.m37.E.run 3000 Tryd.m37.p.sp)⟩
theorem Tryd.m37.holds : Tryd.m37.c.Holds Tryd.prog := fun_ctr 3000 Tryd.tbOk (hct_cons Tryd.m44.holds hct_nil) Tryd.m37.ok
noncomputable def Tryd.m37 (s1 : List (Int)) (s2 : List (Int)) : Option (Spec.D En.Dop.D17 ⟨[.fd (.int .i64)], []⟩) := Tryd.m37.E.run 3000 Tryd.m37.p.sp ((s1, s2, ()), ())
noncomputable def Tryd.m37_2 (s1 : List (Int)) (s2 : List (Int)) (t9 : List (Int)) (t10 : Int) (t11 : Int) : Option (Spec.D En.Dop.D17 ⟨[.fd (.int .i64)], []⟩) := Tryd.m37.E.cut 3000 2 ((s1, s2, t9, t10, t11, ()), ())
theorem Tryd.m37_eq (s1 : List (Int)) (s2 : List (Int)) : Tryd.m37 s1 s2 =
  Tryd.m37_2 (s1) (s2) (s1) (I s1.length) ((0 : Int)) := by kernel_rfl
theorem Tryd.m37_2_eq (s1 : List (Int)) (s2 : List (Int)) (t9 : List (Int)) (t10 : Int) (t11 : Int) : Tryd.m37_2 s1 s2 t9 t10 t11 =
  if (decide (t11 < t10)) = true then
   if (decide ((0 : Int) ≤ t11 ∧ t11 < I t9.length)) = true then
   if (decide (I s2.length ≤ t11)) = true then
    some (((1 : Int), ()), ())
   else
    if (decide ((0 : Int) ≤ t11 ∧ t11 < I s2.length)) = true then
    (Tryd.m44 (@List.getD Int t9 t11.toNat (0 : Int)) (@List.getD Int s2 t11.toNat (0 : Int))).bind fun y4 =>
     if (!decide (y4.fst.fst = (0 : Int))) = true then
      some ((y4.fst.fst, ()), ())
     else
      if (inR (t11 + (1 : Int))) = true then
      Tryd.m37_2 (s1) (s2) (t9) (t10) (t11 + (1 : Int))
      else none
    else none
   else none
  else
   if (decide (I s1.length < I s2.length)) = true then
    some (((-1 : Int), ()), ())
   else
    some (((0 : Int), ()), ()) := Env.cut_eq' (E := Tryd.m37.E) (f0 := 3000) (c := 2) (q := ⟨[[0, 0, 0, 0, 1, 0, 1], [0, 1, 0, 0, 1, 0, 1], [2, 0, 0, 1, 0, 1], [1, 0], [0, 1, 1]], [0, 1, 9, 10, 11], 0, ⟨[.fd (.sl 0), .fd (.sl 0), .fd (.sl 0), .fd (.int .i64), .fd (.int .i64)], []⟩⟩) (by kernel_rfl) ((s1, s2, t9, t10, t11, ()), ()) (by kernel_rfl) (by kernel_rfl)

def Tryd.m22.p : Pln := ⟨[(10, ⟨[[0, 0, 0, 1, 1, 1], [0, 1, 0, 1, 1, 1], [0, 1, 1, 1, 1]], [0, 3], 2, ⟨[.al 0 0, .al 1 0], [⟨0, 36, [.own 4 40, .mp (.str) 0 false], false⟩, ⟨1, 40, [.st 4], false⟩]⟩⟩)], 1, ⟨[.al 0 0, .st 4], [⟨0, 36, [.own 4 40, .mp (.str) 0 false], false⟩]⟩, ⟨[.fd (.int .i64)], [⟨0, 36, [.own 4 40, .mp (.str) 0 false], false⟩]⟩, false, [(5, ⟨[(0, true), (1, false), (2, false), (3, true), (4, true), (5, true), (6, true), (7, false), (8, false), (9, false), (10, false), (11, true), (12, true), (13, true), (14, false), (15, false), (16, false), (17, true), (18, false), (19, false), (20, false), (21, true), (22, true), (23, true), (24, true)], [1000000], [0, 1, 3, 7, 15, 31, 31, 95, 223, 479, 1023, 2047, 4095, 8191, 16383, 32767, 65535, 8191, 139263, 401407, 925695, 1974271, 4194303, 8388607, 16777215], false⟩), (8, ⟨[(0, true), (1, false), (2, true), (3, false), (4, false), (5, false), (6, true), (7, true), (8, true)], [], [0, 1, 0, 4, 12, 28, 60, 127, 255], false⟩), (11, ⟨[(0, true), (1, false), (2, false), (3, true), (4, false), (5, false), (6, false), (7, true), (8, false), (9, false), (10, true), (11, false), (12, false), (13, false), (14, false), (15, true)], [], [0, 1, 3, 0, 8, 24, 63, 0, 128, 511, 0, 1024, 3072, 8191, 16383, 32767], false⟩)], []⟩
noncomputable def Tryd.m22.E : Env En.Dop.D17 := envOf Tryd.prog 22 Tryd.tb [Tryd.m8.c, Tryd.m36.c, Tryd.m23.c, Tryd.m20.c, Tryd.clone.c, Tryd.m37.c, Tryd.m19.c, Tryd.m12.c] Tryd.m22.p
theorem Tryd.m22.ok : plnOk En.Dop.D17 Tryd.prog 22 Tryd.m22.p = true := by kernel_rfl
noncomputable def Tryd.m22.c : Ctr En.Dop.D17 := ⟨22, Tryd.m22.p.bn, Tryd.m22.p.sp, Tryd.m22.p.rs, Tryd.m22.p.flat, .opt (Tryd.m22.E.run 3000 Tryd.m22.p.sp)⟩
theorem Tryd.m22.holds : Tryd.m22.c.Holds Tryd.prog := fun_ctr 3000 Tryd.tbOk (hct_cons Tryd.m8.holds (hct_cons Tryd.m36.holds (hct_cons Tryd.m23.holds (hct_cons Tryd.m20.holds (hct_cons Tryd.clone.holds (hct_cons Tryd.m37.holds (hct_cons Tryd.m19.holds (hct_cons Tryd.m12.holds hct_nil)))))))) Tryd.m22.ok
noncomputable def Tryd.m22 (t1 : En.Dop.Nod) (b0_0 : List (En.Dop.Nod)) (b0_1 : List (List UInt8 × Int)) : Option (Spec.D En.Dop.D17 ⟨[.fd (.int .i64)], [⟨0, 36, [.own 4 40, .mp (.str) 0 false], false⟩]⟩) := Tryd.m22.E.run 3000 Tryd.m22.p.sp (((), t1, ()), ((b0_0, b0_1, ()), ()))
noncomputable def Tryd.m22_10 (b0_0 : List (En.Dop.Nod)) (b0_1 : List (List UInt8 × Int)) (b1 : En.Dop.Nod) : Option (Spec.D En.Dop.D17 ⟨[.fd (.int .i64)], [⟨0, 36, [.own 4 40, .mp (.str) 0 false], false⟩]⟩) := Tryd.m22.E.cut 3000 10 (((), (), ()), ((b0_0, b0_1, ()), (b1, ()), ()))
theorem Tryd.m22_eq (t1 : En.Dop.Nod) (b0_0 : List (En.Dop.Nod)) (b0_1 : List (List UInt8 × Int)) : Tryd.m22 t1 b0_0 b0_1 =
  if (decide (I t1.args.length = (0 : Int))) = true then
   if (decide (t1.n = (0 : Int))) = true then
    (Tryd.m8 ((1 : Int)) (b0_0) (b0_1)).bind fun y4 =>
     some ((y4.fst.fst, ()), ((y4.snd.fst.fst, (y4.snd.fst.snd.fst, ())), ()))
   else
    (Tryd.m8 ((0 : Int)) (b0_0) (b0_1)).bind fun y4 =>
     some ((y4.fst.fst, ()), ((y4.snd.fst.fst, (y4.snd.fst.snd.fst, ())), ()))
  else
   if (decide (I t1.args.length = (1 : Int))) = true then
    if (decide ((0 : Int) ≤ (0 : Int) ∧ (0 : Int) < I t1.args.length)) = true then
    (Tryd.m36 (@List.getD Int t1.args (Int.toNat (0 : Int)) (0 : Int)) (b0_0) (b0_1)).bind fun y4 =>
     if (y4.fst.fst) = true then
      if (decide ((0 : Int) ≤ (0 : Int) ∧ (0 : Int) < I t1.fact.length)) = true then
      if (decide ((0 : Int) ≤ (0 : Int) ∧ (0 : Int) < I t1.fact.length)) = true then
      if (inR (-@List.getD Int t1.fact (Int.toNat (0 : Int)) (0 : Int))) = true then
      if (decide ((if @List.getD Int t1.fact (Int.toNat (0 : Int)) (0 : Int) < -@List.getD Int t1.fact (Int.toNat (0 : Int)) (0 : Int) then -@List.getD Int t1.fact (Int.toNat (0 : Int)) (0 : Int) else @List.getD Int t1.fact (Int.toNat (0 : Int)) (0 : Int)) = (1 : Int))) = true then
       if (decide (t1.n = (0 : Int))) = true then
        if (decide ((0 : Int) ≤ (0 : Int) ∧ (0 : Int) < I t1.args.length)) = true then
        (Tryd.m23 (@List.getD Int t1.args (Int.toNat (0 : Int)) (0 : Int)) (y4.snd.fst.fst) (y4.snd.fst.snd.fst)).bind fun y8 =>
         some ((y8.fst.fst, ()), ((y8.snd.fst.fst, (y8.snd.fst.snd.fst, ())), ()))
        else none
       else
        if (decide ((0 : Int) ≤ (0 : Int) ∧ (0 : Int) < I t1.fact.length)) = true then
        if (inR (-@List.getD Int t1.fact (Int.toNat (0 : Int)) (0 : Int))) = true then
        if (decide (t1.n = -@List.getD Int t1.fact (Int.toNat (0 : Int)) (0 : Int))) = true then
         if (decide ((0 : Int) ≤ (0 : Int) ∧ (0 : Int) < I t1.args.length)) = true then
         some ((@List.getD Int t1.args (Int.toNat (0 : Int)) (0 : Int), ()), ((y4.snd.fst.fst, (y4.snd.fst.snd.fst, ())), ()))
         else none
        else
         Tryd.m22_10 (y4.snd.fst.fst) (y4.snd.fst.snd.fst) (t1)
        else none
        else none
      else
       Tryd.m22_10 (y4.snd.fst.fst) (y4.snd.fst.snd.fst) (t1)
      else none
      else none
      else none
     else
      Tryd.m22_10 (y4.snd.fst.fst) (y4.snd.fst.snd.fst) (t1)
    else none
   else
    Tryd.m22_10 (b0_0) (b0_1) (t1) := by kernel_rfl
theorem Tryd.m22_10_eq (b0_0 : List (En.Dop.Nod)) (b0_1 : List (List UInt8 × Int)) (b1 : En.Dop.Nod) : Tryd.m22_10 b0_0 b0_1 b1 =
  (Tryd.m20 (Dop.Nod.mk (4 : Int) (0 : Int) (0 : Int) (@List.nil UInt8) (@List.nil Int) (@List.nil Int)) (b1) ((-1 : Int))).bind fun y2 =>
   if (decide (y2.fst.fst.fact.length * (8 : Nat) ≤ (140737488355328 : Nat))) = true then
   if (andC none (room (8 : Nat) (y2.fst.fst.fact.length + (y2.fst.fst.n :: @List.nil Int).length))) = true then
   if (decide (b1.fact.length * (8 : Nat) ≤ (140737488355328 : Nat))) = true then
   if (andC none (room (8 : Nat) (b1.fact.length + (b1.n :: @List.nil Int).length))) = true then
   (Tryd.m37 (y2.fst.fst.fact ++ y2.fst.fst.n :: @List.nil Int) (b1.fact ++ b1.n :: @List.nil Int)).bind fun y3 =>
    if (decide ((0 : Int) < y3.fst.fst)) = true then
     (Tryd.m19 (y2.fst.fst) (b0_0) (b0_1)).bind fun y5 =>
      (Tryd.m8 ((0 : Int)) (y5.snd.fst.fst) (y5.snd.fst.snd.fst)).bind fun y6 =>
       if (decide (y5.fst.fst < (0 : Int))) = true then
        some (((-1 : Int), ()), ((y6.snd.fst.fst, (y6.snd.fst.snd.fst, ())), ()))
       else
        if (decide (y6.fst.fst < (0 : Int))) = true then
         some (((-1 : Int), ()), ((y6.snd.fst.fst, (y6.snd.fst.snd.fst, ())), ()))
        else
         (Tryd.m12 (Dop.Nod.mk (3 : Int) (14 : Int) (0 : Int) (@List.nil UInt8) (y5.fst.fst :: y6.fst.fst :: @List.nil Int) (@List.nil Int)) (y6.snd.fst.fst) (y6.snd.fst.snd.fst)).bind fun y9 =>
          some ((y9.fst.fst, ()), ((y9.snd.fst.fst, (y9.snd.fst.snd.fst, ())), ()))
    else
     (Tryd.m19 (b1) (b0_0) (b0_1)).bind fun y5 =>
      (Tryd.m8 ((0 : Int)) (y5.snd.fst.fst) (y5.snd.fst.snd.fst)).bind fun y6 =>
       if (decide (y5.fst.fst < (0 : Int))) = true then
        some (((-1 : Int), ()), ((y6.snd.fst.fst, (y6.snd.fst.snd.fst, ())), ()))
       else
        if (decide (y6.fst.fst < (0 : Int))) = true then
         some (((-1 : Int), ()), ((y6.snd.fst.fst, (y6.snd.fst.snd.fst, ())), ()))
        else
         (Tryd.m12 (Dop.Nod.mk (3 : Int) (14 : Int) (0 : Int) (@List.nil UInt8) (y5.fst.fst :: y6.fst.fst :: @List.nil Int) (@List.nil Int)) (y6.snd.fst.fst) (y6.snd.fst.snd.fst)).bind fun y9 =>
          some ((y9.fst.fst, ()), ((y9.snd.fst.fst, (y9.snd.fst.snd.fst, ())), ()))
   else none
   else none
   else none
   else none := Env.cut_eq' (E := Tryd.m22.E) (f0 := 3000) (c := 10) (q := ⟨[[0, 0, 0, 1, 1, 1], [0, 1, 0, 1, 1, 1], [0, 1, 1, 1, 1]], [0, 3], 2, ⟨[.al 0 0, .al 1 0], [⟨0, 36, [.own 4 40, .mp (.str) 0 false], false⟩, ⟨1, 40, [.st 4], false⟩]⟩⟩) (by kernel_rfl) (((), (), ()), ((b0_0, b0_1, ()), (b1, ()), ())) (by kernel_rfl) (by kernel_rfl)

def Tryd.m7.p : Pln := ⟨[(3, ⟨[[0, 0, 0, 1, 1], [0, 1, 0, 1, 1], [0, 1, 1, 1]], [0, 1, 2, 3], 1, ⟨[.al 0 0, .fd (.int .i64), .fd (.int .i64), .fd (.int .i64)], [⟨0, 36, [.own 4 40, .mp (.str) 0 false], false⟩]⟩⟩), (10, ⟨[[0, 0, 1, 0, 1, 0, 1, 1, 1, 1, 1], [0, 1, 1, 0, 1, 0, 1, 1, 1, 1, 1], [0, 1, 1, 1, 1, 1, 1]], [0, 1, 2, 3, 9, 10, 11, 12], 1, ⟨[.al 0 0, .fd (.int .i64), .fd (.int .i64), .fd (.int .i64), .fd (.int .i64), .fd .bool, .fd (.int .i64), .fd .bool], [⟨0, 36, [.own 4 40, .mp (.str) 0 false], false⟩]⟩⟩), (13, ⟨[[0, 0, 1, 1, 1, 1, 1, 1], [0, 1, 1, 1, 1, 1, 1, 1]], [0, 1, 2, 3, 9, 10, 11, 12], 1, ⟨[.al 0 0, .fd (.int .i64), .fd (.int .i64), .fd (.int .i64), .fd (.int .i64), .fd .bool, .fd (.int .i64), .fd .bool], [⟨0, 36, [.own 4 40, .mp (.str) 0 false], false⟩]⟩⟩), (50, ⟨[[0, 0, 1, 1, 1, 1, 1, 1, 1, 1, 1], [0, 1, 1, 1, 1, 1, 1, 1, 1, 1, 1]], [0, 1, 2, 3], 1, ⟨[.al 0 0, .fd (.int .i64), .fd (.int .i64), .fd (.int .i64)], [⟨0, 36, [.own 4 40, .mp (.str) 0 false], false⟩]⟩⟩), (44, ⟨[[0, 0, 0, 1, 1, 1, 1, 1, 1, 1, 1, 1, 1, 1, 1, 1, 1, 1, 1, 1, 1, 1, 1, 1, 1, 1, 0, 1, 0, 1, 1, 1, 1, 1, 1, 1, 1], [0, 1, 0, 1, 1, 1, 1, 1, 1, 1, 1, 1, 1, 1, 1, 1, 1, 1, 1, 1, 1, 1, 1, 1, 1, 1, 0, 1, 0, 1, 1, 1, 1, 1, 1, 1, 1], [1, 0], [0, 1, 1, 1, 1, 1, 1, 1, 1, 1]], [0, 1, 2, 3], 1, ⟨[.al 0 0, .fd (.int .i64), .fd (.int .i64), .fd (.int .i64)], [⟨0, 36, [.own 4 40, .mp (.str) 0 false], false⟩]⟩⟩), (46, ⟨[[0, 0, 0, 1, 1, 1, 1, 1, 1, 1, 1, 1, 1, 1, 1, 1, 1, 1, 1, 1, 1, 1, 1, 1, 1, 1, 1, 0, 1, 0, 1, 1, 1, 1, 1, 1, 1, 1], [0, 1, 0, 1, 1, 1, 1, 1, 1, 1, 1, 1, 1, 1, 1, 1, 1, 1, 1, 1, 1, 1, 1, 1, 1, 1, 1, 0, 1, 0, 1, 1, 1, 1, 1, 1, 1, 1], [0, 1, 1, 1, 1, 1, 1, 1, 1, 1, 1, 1, 1, 1, 1, 1, 1, 1, 1, 1, 1, 1, 1, 1, 1, 1, 0, 1, 0, 1, 1, 1, 1, 1, 1, 1, 1], [1, 0], [0, 1, 1, 1, 1, 1, 1, 1, 1, 1]], [0, 1, 2, 3, 74], 1, ⟨[.al 0 0, .fd (.int .i64), .fd (.int .i64), .fd (.int .i64), .fd (.int .i64)], [⟨0, 36, [.own 4 40, .mp (.str) 0 false], false⟩]⟩⟩), (53, ⟨[[0, 0, 1, 1, 1, 1, 1, 1, 1, 1, 1, 1, 1], [0, 1, 1, 1, 1, 1, 1, 1, 1, 1, 1, 1, 1]], [0, 1, 18], 1, ⟨[.al 0 0, .fd (.int .i64), .own 0 3], [⟨0, 36, [.own 4 40, .mp (.str) 0 false], false⟩]⟩⟩), (49, ⟨[[0, 0, 1, 1, 1, 1, 1, 1, 1, 1, 1, 1, 1, 1, 1, 1, 1, 1, 1, 1, 1, 1, 1, 1, 1, 1, 1, 0, 1, 0, 1, 1, 1, 1, 1, 1, 1, 1], [1, 0], [0, 1, 1, 1, 1, 1, 1, 1, 1, 1]], [0, 1, 2, 3], 1, ⟨[.al 0 0, .fd (.int .i64), .fd (.int .i64), .fd (.int .i64)], [⟨0, 36, [.own 4 40, .mp (.str) 0 false], false⟩]⟩⟩)], 1, ⟨[.al 0 0, .fd (.int .i64), .fd (.int .i64), .fd (.int .i64)], [⟨0, 36, [.own 4 40, .mp (.str) 0 false], false⟩]⟩, ⟨[.fd (.int .i64)], [⟨0, 36, [.own 4 40, .mp (.str) 0 false], false⟩]⟩, false, [(31, ⟨[(0, true), (1, false), (2, false), (3, true), (4, true), (5, true), (6, false), (7, false), (8, false), (9, true)], [1000000], [0, 0, 0, 0, 8, 24, 56, 126, 255, 511], true⟩)], []⟩
theorem Tryd.m7.ok : plnOk En.Dop.D17 Tryd.prog 7 Tryd.m7.p = true := by kernel_rfl
@[reducible] def Tryd.g7.T : Type := (Spec.D En.Dop.D17 ⟨[.al 0 0, .fd (.int .i64), .fd (.int .i64), .fd (.int .i64)], [⟨0, 36, [.own 4 40, .mp (.str) 0 false], false⟩]⟩ → Option (Spec.D En.Dop.D17 ⟨[.fd (.int .i64)], [⟨0, 36, [.own 4 40, .mp (.str) 0 false], false⟩]⟩)) × Unit
noncomputable def Tryd.g7.step (r : Tryd.g7.T) : Tryd.g7.T := ((envOf Tryd.prog 7 Tryd.tb ([⟨7, Tryd.m7.p.bn, Tryd.m7.p.sp, Tryd.m7.p.rs, Tryd.m7.p.flat, .opt (r.1)⟩] ++ [Tryd.m13.c, Tryd.m14.c, Tryd.m15.c, Tryd.m16.c, Tryd.m17.c, Tryd.m8.c, Tryd.m18.c, Tryd.m20.c, Tryd.m19.c, Tryd.m21.c, Tryd.m22.c, Tryd.m23.c, Tryd.m12.c]) Tryd.m7.p).run 3000 Tryd.m7.p.sp, ())
noncomputable def Tryd.g7.R (n : Nat) : Tryd.g7.T := Nat.rec (motive := fun _ => Tryd.g7.T) (fun _ => none, ()) (fun _ r => Tryd.g7.step r) n
noncomputable def Tryd.m7.R (n : Nat) : Spec.D En.Dop.D17 ⟨[.al 0 0, .fd (.int .i64), .fd (.int .i64), .fd (.int .i64)], [⟨0, 36, [.own 4 40, .mp (.str) 0 false], false⟩]⟩ → Option (Spec.D En.Dop.D17 ⟨[.fd (.int .i64)], [⟨0, 36, [.own 4 40, .mp (.str) 0 false], false⟩]⟩) := (Tryd.g7.R n).1
noncomputable def Tryd.m7.c (n : Nat) : Ctr En.Dop.D17 := ⟨7, Tryd.m7.p.bn, Tryd.m7.p.sp, Tryd.m7.p.rs, Tryd.m7.p.flat, .opt (Tryd.m7.R n)⟩
noncomputable def Tryd.m7.cf : Ctr En.Dop.D17 := Tryd.m7.c FU
noncomputable def Tryd.m7.E (n : Nat) : Env En.Dop.D17 := envOf Tryd.prog 7 Tryd.tb ([Tryd.m7.c n] ++ [Tryd.m13.c, Tryd.m14.c, Tryd.m15.c, Tryd.m16.c, Tryd.m17.c, Tryd.m8.c, Tryd.m18.c, Tryd.m20.c, Tryd.m19.c, Tryd.m21.c, Tryd.m22.c, Tryd.m23.c, Tryd.m12.c]) Tryd.m7.p
theorem Tryd.g7.all : ∀ n, (Tryd.m7.c n).Holds Tryd.prog ∧ True
  | 0 => ⟨ctr_none Tryd.tbOk Tryd.m7.ok, trivial⟩
  | n + 1 => by
    obtain ⟨h0, _⟩ := Tryd.g7.all n
    exact ⟨fun_ctr 3000 Tryd.tbOk (hct_app (hct_cons h0 hct_nil) (hct_cons Tryd.m13.holds (hct_cons Tryd.m14.holds (hct_cons Tryd.m15.holds (hct_cons Tryd.m16.holds (hct_cons Tryd.m17.holds (hct_cons Tryd.m8.holds (hct_cons Tryd.m18.holds (hct_cons Tryd.m20.holds (hct_cons Tryd.m19.holds (hct_cons Tryd.m21.holds (hct_cons Tryd.m22.holds (hct_cons Tryd.m23.holds (hct_cons Tryd.m12.holds hct_nil)))))))))))))) Tryd.m7.ok, trivial⟩
theorem Tryd.m7.holdsf : Tryd.m7.cf.Holds Tryd.prog := (Tryd.g7.all FU).1
noncomputable def Tryd.m7 (n : Nat) (t1 : Int) (t2 : Int) (t3 : Int) (b0_0 : List (En.Dop.Nod)) (b0_1 : List (List UInt8 × Int)) : Option (Spec.D En.Dop.D17 ⟨[.fd (.int .i64)], [⟨0, 36, [.own 4 40, .mp (.str) 0 false], false⟩]⟩) := Tryd.m7.R n (((), t1, t2, t3, ()), ((b0_0, b0_1, ()), ()))
noncomputable def Tryd.m7_3 (n : Nat) (t1 : Int) (t2 : Int) (t3 : Int) (b0_0 : List (En.Dop.Nod)) (b0_1 : List (List UInt8 × Int)) : Option (Spec.D En.Dop.D17 ⟨[.fd (.int .i64)], [⟨0, 36, [.own 4 40, .mp (.str) 0 false], false⟩]⟩) := (Tryd.m7.E n).cut 3000 3 (((), t1, t2, t3, ()), ((b0_0, b0_1, ()), ()))
noncomputable def Tryd.m7_10 (n : Nat) (t1 : Int) (t2 : Int) (t3 : Int) (t9 : Int) (t10 : Bool) (t11 : Int) (t12 : Bool) (b0_0 : List (En.Dop.Nod)) (b0_1 : List (List UInt8 × Int)) : Option (Spec.D En.Dop.D17 ⟨[.fd (.int .i64)], [⟨0, 36, [.own 4 40, .mp (.str) 0 false], false⟩]⟩) := (Tryd.m7.E n).cut 3000 10 (((), t1, t2, t3, t9, t10, t11, t12, ()), ((b0_0, b0_1, ()), ()))
noncomputable def Tryd.m7_13 (n : Nat) (t1 : Int) (t2 : Int) (t3 : Int) (t9 : Int) (t10 : Bool) (t11 : Int) (t12 : Bool) (b0_0 : List (En.Dop.Nod)) (b0_1 : List (List UInt8 × Int)) : Option (Spec.D En.Dop.D17 ⟨[.fd (.int .i64)], [⟨0, 36, [.own 4 40, .mp (.str) 0 false], false⟩]⟩) := (Tryd.m7.E n).cut 3000 13 (((), t1, t2, t3, t9, t10, t11, t12, ()), ((b0_0, b0_1, ()), ()))
noncomputable def Tryd.m7_50 (n : Nat) (t1 : Int) (t2 : Int) (t3 : Int) (b0_0 : List (En.Dop.Nod)) (b0_1 : List (List UInt8 × Int)) : Option (Spec.D En.Dop.D17 ⟨[.fd (.int .i64)], [⟨0, 36, [.own 4 40, .mp (.str) 0 false], false⟩]⟩) := (Tryd.m7.E n).cut 3000 50 (((), t1, t2, t3, ()), ((b0_0, b0_1, ()), ()))
noncomputable def Tryd.m7_44 (n : Nat) (t1 : Int) (t2 : Int) (t3 : Int) (b0_0 : List (En.Dop.Nod)) (b0_1 : List (List UInt8 × Int)) : Option (Spec.D En.Dop.D17 ⟨[.fd (.int .i64)], [⟨0, 36, [.own 4 40, .mp (.str) 0 false], false⟩]⟩) := (Tryd.m7.E n).cut 3000 44 (((), t1, t2, t3, ()), ((b0_0, b0_1, ()), ()))
noncomputable def Tryd.m7_46 (n : Nat) (t1 : Int) (t2 : Int) (t3 : Int) (t74 : Int) (b0_0 : List (En.Dop.Nod)) (b0_1 : List (List UInt8 × Int)) : Option (Spec.D En.Dop.D17 ⟨[.fd (.int .i64)], [⟨0, 36, [.own 4 40, .mp (.str) 0 false], false⟩]⟩) := (Tryd.m7.E n).cut 3000 46 (((), t1, t2, t3, t74, ()), ((b0_0, b0_1, ()), ()))
noncomputable def Tryd.m7_53 (n : Nat) (t1 : Int) (t18 : List (Int)) (b0_0 : List (En.Dop.Nod)) (b0_1 : List (List UInt8 × Int)) : Option (Spec.D En.Dop.D17 ⟨[.fd (.int .i64)], [⟨0, 36, [.own 4 40, .mp (.str) 0 false], false⟩]⟩) := (Tryd.m7.E n).cut 3000 53 (((), t1, t18, ()), ((b0_0, b0_1, ()), ()))
noncomputable def Tryd.m7_49 (n : Nat) (t1 : Int) (t2 : Int) (t3 : Int) (b0_0 : List (En.Dop.Nod)) (b0_1 : List (List UInt8 × Int)) : Option (Spec.D En.Dop.D17 ⟨[.fd (.int .i64)], [⟨0, 36, [.own 4 40, .mp (.str) 0 false], false⟩]⟩) := (Tryd.m7.E n).cut 3000 49 (((), t1, t2, t3, ()), ((b0_0, b0_1, ()), ()))
theorem Tryd.m7_eq (n : Nat) (t1 : Int) (t2 : Int) (t3 : Int) (b0_0 : List (En.Dop.Nod)) (b0_1 : List (List UInt8 × Int)) : Tryd.m7 (n + 1) t1 t2 t3 b0_0 b0_1 =
  (Tryd.m13 (t1)).bind fun y2 =>
   if (y2.fst.fst) = true then
    Tryd.m7_3 n (t1) (t2) (t2) (b0_0) (b0_1)
   else
    Tryd.m7_3 n (t1) (t2) (t3) (b0_0) (b0_1) := by kernel_rfl
theorem Tryd.m7_3_eq (n : Nat) (t1 : Int) (t2 : Int) (t3 : Int) (b0_0 : List (En.Dop.Nod)) (b0_1 : List (List UInt8 × Int)) : Tryd.m7_3 n t1 t2 t3 b0_0 b0_1 =
  (Tryd.m14 (t1)).bind fun y2 =>
   if (!y2.fst.fst) = true then
    (Tryd.m13 (t1)).bind fun y4 =>
     if (!y4.fst.fst) = true then
      some (((-1 : Int), ()), ((b0_0, (b0_1, ())), ()))
     else
      (Tryd.m15 (t2 :: t3 :: @List.nil Int) (b0_0) (b0_1)).bind fun y6 =>
       if (!y6.fst.fst) = true then
        some (((-1 : Int), ()), ((y6.snd.fst.fst, (y6.snd.fst.snd.fst, ())), ()))
       else
        (Tryd.m16 (t2) (y6.snd.fst.fst) (y6.snd.fst.snd.fst)).bind fun y8 =>
         (Tryd.m16 (t3) (y8.snd.fst.fst) (y8.snd.fst.snd.fst)).bind fun y9 =>
          if (y8.fst.snd.fst) = true then
           if (y9.fst.snd.fst) = true then
            (Tryd.m13 (t1)).bind fun y12 =>
             if (y12.fst.fst) = true then
              Tryd.m7_10 n (t1) (t2) (t3) (y8.fst.fst) (y8.fst.snd.fst) ((0 : Int)) (y9.fst.snd.fst) (y9.snd.fst.fst) (y9.snd.fst.snd.fst)
             else
              Tryd.m7_10 n (t1) (t2) (t3) (y8.fst.fst) (y8.fst.snd.fst) (y9.fst.fst) (y9.fst.snd.fst) (y9.snd.fst.fst) (y9.snd.fst.snd.fst)
           else
            Tryd.m7_13 n (t1) (t2) (t3) (y8.fst.fst) (y8.fst.snd.fst) (y9.fst.fst) (y9.fst.snd.fst) (y9.snd.fst.fst) (y9.snd.fst.snd.fst)
          else
           Tryd.m7_13 n (t1) (t2) (t3) (y8.fst.fst) (y8.fst.snd.fst) (y9.fst.fst) (y9.fst.snd.fst) (y9.snd.fst.fst) (y9.snd.fst.snd.fst)
   else
    (Tryd.m15 (t2 :: t3 :: @List.nil Int) (b0_0) (b0_1)).bind fun y4 =>
     if (!y4.fst.fst) = true then
      some (((-1 : Int), ()), ((y4.snd.fst.fst, (y4.snd.fst.snd.fst, ())), ()))
     else
      (Tryd.m16 (t2) (y4.snd.fst.fst) (y4.snd.fst.snd.fst)).bind fun y6 =>
       (Tryd.m16 (t3) (y6.snd.fst.fst) (y6.snd.fst.snd.fst)).bind fun y7 =>
        if (y6.fst.snd.fst) = true then
         if (y7.fst.snd.fst) = true then
          (Tryd.m13 (t1)).bind fun y10 =>
           if (y10.fst.fst) = true then
            Tryd.m7_10 n (t1) (t2) (t3) (y6.fst.fst) (y6.fst.snd.fst) ((0 : Int)) (y7.fst.snd.fst) (y7.snd.fst.fst) (y7.snd.fst.snd.fst)
           else
            Tryd.m7_10 n (t1) (t2) (t3) (y6.fst.fst) (y6.fst.snd.fst) (y7.fst.fst) (y7.fst.snd.fst) (y7.snd.fst.fst) (y7.snd.fst.snd.fst)
         else
          Tryd.m7_13 n (t1) (t2) (t3) (y6.fst.fst) (y6.fst.snd.fst) (y7.fst.fst) (y7.fst.snd.fst) (y7.snd.fst.fst) (y7.snd.fst.snd.fst)
        else
         Tryd.m7_13 n (t1) (t2) (t3) (y6.fst.fst) (y6.fst.snd.fst) (y7.fst.fst) (y7.fst.snd.fst) (y7.snd.fst.fst) (y7.snd.fst.snd.fst) := Env.cut_eq' (E := Tryd.m7.E n) (f0 := 3000) (c := 3) (q := ⟨[[0, 0, 0, 1, 1], [0, 1, 0, 1, 1], [0, 1, 1, 1]], [0, 1, 2, 3], 1, ⟨[.al 0 0, .fd (.int .i64), .fd (.int .i64), .fd (.int .i64)], [⟨0, 36, [.own 4 40, .mp (.str) 0 false], false⟩]⟩⟩) (by kernel_rfl) (((), t1, t2, t3, ()), ((b0_0, b0_1, ()), ())) (by kernel_rfl) (by kernel_rfl)
theorem Tryd.m7_10_eq (n : Nat) (t1 : Int) (t2 : Int) (t3 : Int) (t9 : Int) (t10 : Bool) (t11 : Int) (t12 : Bool) (b0_0 : List (En.Dop.Nod)) (b0_1 : List (List UInt8 × Int)) : Tryd.m7_10 n t1 t2 t3 t9 t10 t11 t12 b0_0 b0_1 =
  (Tryd.m17 (t1) (t9) (t11)).bind fun y2 =>
   if (y2.fst.snd.fst) = true then
    (Tryd.m8 (y2.fst.fst) (b0_0) (b0_1)).bind fun y4 =>
     some ((y4.fst.fst, ()), ((y4.snd.fst.fst, (y4.snd.fst.snd.fst, ())), ()))
   else
    Tryd.m7_13 n (t1) (t2) (t3) (t9) (t10) (t11) (t12) (b0_0) (b0_1) := Env.cut_eq' (E := Tryd.m7.E n) (f0 := 3000) (c := 10) (q := ⟨[[0, 0, 1, 0, 1, 0, 1, 1, 1, 1, 1], [0, 1, 1, 0, 1, 0, 1, 1, 1, 1, 1], [0, 1, 1, 1, 1, 1, 1]], [0, 1, 2, 3, 9, 10, 11, 12], 1, ⟨[.al 0 0, .fd (.int .i64), .fd (.int .i64), .fd (.int .i64), .fd (.int .i64), .fd .bool, .fd (.int .i64), .fd .bool], [⟨0, 36, [.own 4 40, .mp (.str) 0 false], false⟩]⟩⟩) (by kernel_rfl) (((), t1, t2, t3, t9, t10, t11, t12, ()), ((b0_0, b0_1, ()), ())) (by kernel_rfl) (by kernel_rfl)
theorem Tryd.m7_13_eq (n : Nat) (t1 : Int) (t2 : Int) (t3 : Int) (t9 : Int) (t10 : Bool) (t11 : Int) (t12 : Bool) (b0_0 : List (En.Dop.Nod)) (b0_1 : List (List UInt8 × Int)) : Tryd.m7_13 n t1 t2 t3 t9 t10 t11 t12 b0_0 b0_1 =
  (Tryd.m18 (t2) (b0_0) (b0_1)).bind fun y2 =>
   (Tryd.m18 (t3) (y2.snd.fst.fst) (y2.snd.fst.snd.fst)).bind fun y3 =>
    if (decide (t1 = (1 : Int))) = true then
     (Tryd.m20 (y2.fst.fst) (y3.fst.fst) ((1 : Int))).bind fun y5 =>
      (Tryd.m19 (y5.fst.fst) (y3.snd.fst.fst) (y3.snd.fst.snd.fst)).bind fun y6 =>
       some ((y6.fst.fst, ()), ((y6.snd.fst.fst, (y6.snd.fst.snd.fst, ())), ()))
    else
     if (decide (t1 = (2 : Int))) = true then
      (Tryd.m20 (y2.fst.fst) (y3.fst.fst) ((-1 : Int))).bind fun y6 =>
       (Tryd.m19 (y6.fst.fst) (y3.snd.fst.fst) (y3.snd.fst.snd.fst)).bind fun y7 =>
        some ((y7.fst.fst, ()), ((y7.snd.fst.fst, (y7.snd.fst.snd.fst, ())), ()))
     else
      if (decide (t1 = (20 : Int))) = true then
       (Tryd.m20 (Dop.Nod.mk (4 : Int) (0 : Int) (0 : Int) (@List.nil UInt8) (@List.nil Int) (@List.nil Int)) (y2.fst.fst) ((-1 : Int))).bind fun y7 =>
        (Tryd.m19 (y7.fst.fst) (y3.snd.fst.fst) (y3.snd.fst.snd.fst)).bind fun y8 =>
         some ((y8.fst.fst, ()), ((y8.snd.fst.fst, (y8.snd.fst.snd.fst, ())), ()))
      else
       if (decide (t1 = (21 : Int))) = true then
        (Tryd.m20 (Dop.Nod.mk (4 : Int) (0 : Int) (-1 : Int) (@List.nil UInt8) (@List.nil Int) (@List.nil Int)) (y2.fst.fst) ((-1 : Int))).bind fun y8 =>
         (Tryd.m19 (y8.fst.fst) (y3.snd.fst.fst) (y3.snd.fst.snd.fst)).bind fun y9 =>
          some ((y9.fst.fst, ()), ((y9.snd.fst.fst, (y9.snd.fst.snd.fst, ())), ()))
       else
        if (decide (t1 = (3 : Int))) = true then
         if (t10) = true then
          (Tryd.m20 (Dop.Nod.mk (4 : Int) (0 : Int) (0 : Int) (@List.nil UInt8) (@List.nil Int) (@List.nil Int)) (y3.fst.fst) (t9)).bind fun y10 =>
           (Tryd.m19 (y10.fst.fst) (y3.snd.fst.fst) (y3.snd.fst.snd.fst)).bind fun y11 =>
            some ((y11.fst.fst, ()), ((y11.snd.fst.fst, (y11.snd.fst.snd.fst, ())), ()))
         else
          if (t12) = true then
           (Tryd.m20 (Dop.Nod.mk (4 : Int) (0 : Int) (0 : Int) (@List.nil UInt8) (@List.nil Int) (@List.nil Int)) (y2.fst.fst) (t11)).bind fun y11 =>
            (Tryd.m19 (y11.fst.fst) (y3.snd.fst.fst) (y3.snd.fst.snd.fst)).bind fun y12 =>
             some ((y12.fst.fst, ()), ((y12.snd.fst.fst, (y12.snd.fst.snd.fst, ())), ()))
          else
           Tryd.m7_50 n (t1) (t2) (t3) (y3.snd.fst.fst) (y3.snd.fst.snd.fst)
        else
         if (decide (t1 = (11 : Int))) = true then
          if (t12) = true then
           if (decide ((0 : Int) ≤ bits BinOp.and IntKind.i64 t11 (31 : Int) ∧ bits BinOp.and IntKind.i64 t11 (31 : Int) ≤ I IntKind.i64.bits)) = true then
           (Tryd.m21 (IntKind.i64.wrap ((1 : Int) * (2 : Int) ^ (bits BinOp.and IntKind.i64 t11 (31 : Int)).toNat))).bind fun y11 =>
            (Tryd.m20 (Dop.Nod.mk (4 : Int) (0 : Int) (0 : Int) (@List.nil UInt8) (@List.nil Int) (@List.nil Int)) (y2.fst.fst) (y11.fst.fst)).bind fun y12 =>
             (Tryd.m19 (y12.fst.fst) (y3.snd.fst.fst) (y3.snd.fst.snd.fst)).bind fun y13 =>
              some ((y13.fst.fst, ()), ((y13.snd.fst.fst, (y13.snd.fst.snd.fst, ())), ()))
           else none
          else
           Tryd.m7_50 n (t1) (t2) (t3) (y3.snd.fst.fst) (y3.snd.fst.snd.fst)
         else
          if (decide (t1 = (14 : Int))) = true then
           (Tryd.m20 (y2.fst.fst) (y3.fst.fst) ((-1 : Int))).bind fun y11 =>
            (Tryd.m22 (y11.fst.fst) (y3.snd.fst.fst) (y3.snd.fst.snd.fst)).bind fun y12 =>
             some ((y12.fst.fst, ()), ((y12.snd.fst.fst, (y12.snd.fst.snd.fst, ())), ()))
          else
           if (decide (t1 = (15 : Int))) = true then
            (Tryd.m20 (y2.fst.fst) (y3.fst.fst) ((-1 : Int))).bind fun y12 =>
             (Tryd.m22 (y12.fst.fst) (y3.snd.fst.fst) (y3.snd.fst.snd.fst)).bind fun y13 =>
              (Tryd.m23 (y13.fst.fst) (y13.snd.fst.fst) (y13.snd.fst.snd.fst)).bind fun y14 =>
               some ((y14.fst.fst, ()), ((y14.snd.fst.fst, (y14.snd.fst.snd.fst, ())), ()))
           else
            if (decide (t1 = (23 : Int))) = true then
             (Tryd.m22 (y2.fst.fst) (y3.snd.fst.fst) (y3.snd.fst.snd.fst)).bind fun y13 =>
              some ((y13.fst.fst, ()), ((y13.snd.fst.fst, (y13.snd.fst.snd.fst, ())), ()))
            else
             if (decide (t1 = (17 : Int))) = true then
              (Tryd.m7 (n) ((16 : Int)) (t3) (t2) (y3.snd.fst.fst) (y3.snd.fst.snd.fst)).bind fun y14 =>
               (Tryd.m23 (y14.fst.fst) (y14.snd.fst.fst) (y14.snd.fst.snd.fst)).bind fun y15 =>
                some ((y15.fst.fst, ()), ((y15.snd.fst.fst, (y15.snd.fst.snd.fst, ())), ()))
             else
              if (decide (t1 = (19 : Int))) = true then
               (Tryd.m7 (n) ((18 : Int)) (t3) (t2) (y3.snd.fst.fst) (y3.snd.fst.snd.fst)).bind fun y15 =>
                (Tryd.m23 (y15.fst.fst) (y15.snd.fst.fst) (y15.snd.fst.snd.fst)).bind fun y16 =>
                 some ((y16.fst.fst, ()), ((y16.snd.fst.fst, (y16.snd.fst.snd.fst, ())), ()))
              else
               if (decide (t1 = (16 : Int))) = true then
                if (decide (t1 = (16 : Int))) = true then
                 Tryd.m7_44 n (t1) (t2) (t3) (y3.snd.fst.fst) (y3.snd.fst.snd.fst)
                else
                 Tryd.m7_46 n (t1) (t2) (t3) (t1) (y3.snd.fst.fst) (y3.snd.fst.snd.fst)
               else
                if (decide (t1 = (18 : Int))) = true then
                 Tryd.m7_44 n (t1) (t2) (t3) (y3.snd.fst.fst) (y3.snd.fst.snd.fst)
                else
                 Tryd.m7_46 n (t1) (t2) (t3) (t1) (y3.snd.fst.fst) (y3.snd.fst.snd.fst) := Env.cut_eq' (E := Tryd.m7.E n) (f0 := 3000) (c := 13) (q := ⟨[[0, 0, 1, 1, 1, 1, 1, 1], [0, 1, 1, 1, 1, 1, 1, 1]], [0, 1, 2, 3, 9, 10, 11, 12], 1, ⟨[.al 0 0, .fd (.int .i64), .fd (.int .i64), .fd (.int .i64), .fd (.int .i64), .fd .bool, .fd (.int .i64), .fd .bool], [⟨0, 36, [.own 4 40, .mp (.str) 0 false], false⟩]⟩⟩) (by kernel_rfl) (((), t1, t2, t3, t9, t10, t11, t12, ()), ((b0_0, b0_1, ()), ())) (by kernel_rfl) (by kernel_rfl)
theorem Tryd.m7_50_eq (n : Nat) (t1 : Int) (t2 : Int) (t3 : Int) (b0_0 : List (En.Dop.Nod)) (b0_1 : List (List UInt8 × Int)) : Tryd.m7_50 n t1 t2 t3 b0_0 b0_1 =
  (Tryd.m13 (t1)).bind fun y2 =>
   if (y2.fst.fst) = true then
    if (decide ((0 : Int) ≤ (1 : Int) ∧ (1 : Int) ≤ I (t2 :: t3 :: @List.nil Int).length)) = true then
    Tryd.m7_53 n (t1) (List.take (Int.toNat (1 : Int)) (t2 :: t3 :: @List.nil Int)) (b0_0) (b0_1)
    else none
   else
    Tryd.m7_53 n (t1) (t2 :: t3 :: @List.nil Int) (b0_0) (b0_1) := Env.cut_eq' (E := Tryd.m7.E n) (f0 := 3000) (c := 50) (q := ⟨[[0, 0, 1, 1, 1, 1, 1, 1, 1, 1, 1], [0, 1, 1, 1, 1, 1, 1, 1, 1, 1, 1]], [0, 1, 2, 3], 1, ⟨[.al 0 0, .fd (.int .i64), .fd (.int .i64), .fd (.int .i64)], [⟨0, 36, [.own 4 40, .mp (.str) 0 false], false⟩]⟩⟩) (by kernel_rfl) (((), t1, t2, t3, ()), ((b0_0, b0_1, ()), ())) (by kernel_rfl) (by kernel_rfl)
theorem Tryd.m7_44_eq (n : Nat) (t1 : Int) (t2 : Int) (t3 : Int) (b0_0 : List (En.Dop.Nod)) (b0_1 : List (List UInt8 × Int)) : Tryd.m7_44 n t1 t2 t3 b0_0 b0_1 =
  if (decide (t2 = t3)) = true then
   (Tryd.m8 ((0 : Int)) (b0_0) (b0_1)).bind fun y3 =>
    some ((y3.fst.fst, ()), ((y3.snd.fst.fst, (y3.snd.fst.snd.fst, ())), ()))
  else
   Tryd.m7_50 n (t1) (t2) (t3) (b0_0) (b0_1) := Env.cut_eq' (E := Tryd.m7.E n) (f0 := 3000) (c := 44) (q := ⟨[[0, 0, 0, 1, 1, 1, 1, 1, 1, 1, 1, 1, 1, 1, 1, 1, 1, 1, 1, 1, 1, 1, 1, 1, 1, 1, 0, 1, 0, 1, 1, 1, 1, 1, 1, 1, 1], [0, 1, 0, 1, 1, 1, 1, 1, 1, 1, 1, 1, 1, 1, 1, 1, 1, 1, 1, 1, 1, 1, 1, 1, 1, 1, 0, 1, 0, 1, 1, 1, 1, 1, 1, 1, 1], [1, 0], [0, 1, 1, 1, 1, 1, 1, 1, 1, 1]], [0, 1, 2, 3], 1, ⟨[.al 0 0, .fd (.int .i64), .fd (.int .i64), .fd (.int .i64)], [⟨0, 36, [.own 4 40, .mp (.str) 0 false], false⟩]⟩⟩) (by kernel_rfl) (((), t1, t2, t3, ()), ((b0_0, b0_1, ()), ())) (by kernel_rfl) (by kernel_rfl)
theorem Tryd.m7_46_eq (n : Nat) (t1 : Int) (t2 : Int) (t3 : Int) (t74 : Int) (b0_0 : List (En.Dop.Nod)) (b0_1 : List (List UInt8 × Int)) : Tryd.m7_46 n t1 t2 t3 t74 b0_0 b0_1 =
  if (decide (t74 = (8 : Int))) = true then
   if (decide (t74 = (8 : Int))) = true then
    Tryd.m7_49 n (t1) (t2) (t3) (b0_0) (b0_1)
   else
    Tryd.m7_50 n (t1) (t2) (t3) (b0_0) (b0_1)
  else
   if (decide (t74 = (9 : Int))) = true then
    if (decide (t74 = (9 : Int))) = true then
     Tryd.m7_49 n (t1) (t2) (t3) (b0_0) (b0_1)
    else
     Tryd.m7_50 n (t1) (t2) (t3) (b0_0) (b0_1)
   else
    if (decide (t74 = (10 : Int))) = true then
     Tryd.m7_49 n (t1) (t2) (t3) (b0_0) (b0_1)
    else
     Tryd.m7_50 n (t1) (t2) (t3) (b0_0) (b0_1) := Env.cut_eq' (E := Tryd.m7.E n) (f0 := 3000) (c := 46) (q := ⟨[[0, 0, 0, 1, 1, 1, 1, 1, 1, 1, 1, 1, 1, 1, 1, 1, 1, 1, 1, 1, 1, 1, 1, 1, 1, 1, 1, 0, 1, 0, 1, 1, 1, 1, 1, 1, 1, 1], [0, 1, 0, 1, 1, 1, 1, 1, 1, 1, 1, 1, 1, 1, 1, 1, 1, 1, 1, 1, 1, 1, 1, 1, 1, 1, 1, 0, 1, 0, 1, 1, 1, 1, 1, 1, 1, 1], [0, 1, 1, 1, 1, 1, 1, 1, 1, 1, 1, 1, 1, 1, 1, 1, 1, 1, 1, 1, 1, 1, 1, 1, 1, 1, 0, 1, 0, 1, 1, 1, 1, 1, 1, 1, 1], [1, 0], [0, 1, 1, 1, 1, 1, 1, 1, 1, 1]], [0, 1, 2, 3, 74], 1, ⟨[.al 0 0, .fd (.int .i64), .fd (.int .i64), .fd (.int .i64), .fd (.int .i64)], [⟨0, 36, [.own 4 40, .mp (.str) 0 false], false⟩]⟩⟩) (by kernel_rfl) (((), t1, t2, t3, t74, ()), ((b0_0, b0_1, ()), ())) (by kernel_rfl) (by kernel_rfl)
theorem Tryd.m7_53_eq (n : Nat) (t1 : Int) (t18 : List (Int)) (b0_0 : List (En.Dop.Nod)) (b0_1 : List (List UInt8 × Int)) : Tryd.m7_53 n t1 t18 b0_0 b0_1 =
  (Tryd.m12 (Dop.Nod.mk (3 : Int) t1 (0 : Int) (@List.nil UInt8) t18 (@List.nil Int)) (b0_0) (b0_1)).bind fun y2 =>
   some ((y2.fst.fst, ()), ((y2.snd.fst.fst, (y2.snd.fst.snd.fst, ())), ())) := Env.cut_eq' (E := Tryd.m7.E n) (f0 := 3000) (c := 53) (q := ⟨[[0, 0, 1, 1, 1, 1, 1, 1, 1, 1, 1, 1, 1], [0, 1, 1, 1, 1, 1, 1, 1, 1, 1, 1, 1, 1]], [0, 1, 18], 1, ⟨[.al 0 0, .fd (.int .i64), .own 0 3], [⟨0, 36, [.own 4 40, .mp (.str) 0 false], false⟩]⟩⟩) (by kernel_rfl) (((), t1, t18, ()), ((b0_0, b0_1, ()), ())) (by kernel_rfl) (by kernel_rfl)
theorem Tryd.m7_49_eq (n : Nat) (t1 : Int) (t2 : Int) (t3 : Int) (b0_0 : List (En.Dop.Nod)) (b0_1 : List (List UInt8 × Int)) : Tryd.m7_49 n t1 t2 t3 b0_0 b0_1 =
  Tryd.m7_50 n (t1) (if t3 < t2 then t3 else t2) (if t2 < t3 then t3 else t2) (b0_0) (b0_1) := Env.cut_eq' (E := Tryd.m7.E n) (f0 := 3000) (c := 49) (q := ⟨[[0, 0, 1, 1, 1, 1, 1, 1, 1, 1, 1, 1, 1, 1, 1, 1, 1, 1, 1, 1, 1, 1, 1, 1, 1, 1, 1, 0, 1, 0, 1, 1, 1, 1, 1, 1, 1, 1], [1, 0], [0, 1, 1, 1, 1, 1, 1, 1, 1, 1]], [0, 1, 2, 3], 1, ⟨[.al 0 0, .fd (.int .i64), .fd (.int .i64), .fd (.int .i64)], [⟨0, 36, [.own 4 40, .mp (.str) 0 false], false⟩]⟩⟩) (by kernel_rfl) (((), t1, t2, t3, ()), ((b0_0, b0_1, ()), ())) (by kernel_rfl) (by kernel_rfl)

def Tryd.m10.p : Pln := ⟨[], 0, ⟨[], []⟩, ⟨[.fd .bool], []⟩, true, [], [(5, [])]⟩
noncomputable def Tryd.m10.E : Env En.Dop.D17 := envOf Tryd.prog 10 Tryd.tb [Tryd.m6.c, Tryd.m7.cf, Tryd.m8.c, Tryd.m16.c] Tryd.m10.p
theorem Tryd.m10.ok : plnOk En.Dop.D17 Tryd.prog 10 Tryd.m10.p = true := by kernel_rfl
noncomputable def Tryd.m10.c : Ctr En.Dop.D17 := ⟨10, Tryd.m10.p.bn, Tryd.m10.p.sp, Tryd.m10.p.rs, Tryd.m10.p.flat, .opt (Tryd.m10.E.run 3000 Tryd.m10.p.sp)⟩
theorem Tryd.m10.holds : Tryd.m10.c.Holds Tryd.prog := fun_ctr 3000 Tryd.tbOk (hct_cons Tryd.m6.holds (hct_cons Tryd.m7.holdsf (hct_cons Tryd.m8.holds (hct_cons Tryd.m16.holds hct_nil)))) Tryd.m10.ok
noncomputable def Tryd.m10 : Option (Spec.D En.Dop.D17 ⟨[.fd .bool], []⟩) := Tryd.m10.E.run 3000 Tryd.m10.p.sp ((), ())
theorem Tryd.m10_eq : Tryd.m10 =
  (Tryd.m6 ((120 : UInt8) :: @List.nil UInt8) (@List.nil Dop.Nod) (@List.nil (List UInt8 × Int))).bind fun y2 =>
   (Tryd.m6 ((121 : UInt8) :: @List.nil UInt8) (y2.snd.fst.fst) (y2.snd.fst.snd.fst)).bind fun y3 =>
    (Tryd.m7 (FU) ((1 : Int)) (y2.fst.fst) (y3.fst.fst) (y3.snd.fst.fst) (y3.snd.fst.snd.fst)).bind fun y4 =>
     (Tryd.m7 (FU) ((2 : Int)) (y4.fst.fst) (y2.fst.fst) (y4.snd.fst.fst) (y4.snd.fst.snd.fst)).bind fun y5 =>
      (Tryd.m8 ((2 : Int)) (y5.snd.fst.fst) (y5.snd.fst.snd.fst)).bind fun y6 =>
       (Tryd.m8 ((1 : Int)) (y6.snd.fst.fst) (y6.snd.fst.snd.fst)).bind fun y7 =>
        (Tryd.m7 (FU) ((1 : Int)) (y2.fst.fst) (y7.fst.fst) (y7.snd.fst.fst) (y7.snd.fst.snd.fst)).bind fun y8 =>
         (Tryd.m7 (FU) ((3 : Int)) (y6.fst.fst) (y8.fst.fst) (y8.snd.fst.fst) (y8.snd.fst.snd.fst)).bind fun y9 =>
          (Tryd.m8 ((2 : Int)) (y9.snd.fst.fst) (y9.snd.fst.snd.fst)).bind fun y10 =>
           (Tryd.m7 (FU) ((3 : Int)) (y2.fst.fst) (y10.fst.fst) (y10.snd.fst.fst) (y10.snd.fst.snd.fst)).bind fun y11 =>
            (Tryd.m7 (FU) ((2 : Int)) (y9.fst.fst) (y11.fst.fst) (y11.snd.fst.fst) (y11.snd.fst.snd.fst)).bind fun y12 =>
             (Tryd.m16 (y12.fst.fst) (y12.snd.fst.fst) (y12.snd.fst.snd.fst)).bind fun y13 =>
              if (decide (y5.fst.fst = y3.fst.fst)) = true then
               if (decide (y13.fst.fst = (2 : Int))) = true then
                some ((y13.fst.snd.fst, ()), ())
               else
                some ((false, ()), ())
              else
               some ((false, ()), ()) := by kernel_rfl

def Tryd.m11.p : Pln := ⟨[], 1, ⟨[.al 0 0, .fd .str, .fd (.sl 0)], [⟨0, 36, [.own 4 40, .mp (.str) 0 false], false⟩]⟩, ⟨[.fd (.int .i64)], [⟨0, 36, [.own 4 40, .mp (.str) 0 false], false⟩]⟩, false, [], []⟩
noncomputable def Tryd.m11.E : Env En.Dop.D17 := envOf Tryd.prog 11 Tryd.tb [Tryd.m15.c, Tryd.clone.c, Tryd.m12.c] Tryd.m11.p
theorem Tryd.m11.ok : plnOk En.Dop.D17 Tryd.prog 11 Tryd.m11.p = true := by kernel_rfl
noncomputable def Tryd.m11.c : Ctr En.Dop.D17 := ⟨11, Tryd.m11.p.bn, Tryd.m11.p.sp, Tryd.m11.p.rs, Tryd.m11.p.flat, .opt (Tryd.m11.E.run 3000 Tryd.m11.p.sp)⟩
theorem Tryd.m11.holds : Tryd.m11.c.Holds Tryd.prog := fun_ctr 3000 Tryd.tbOk (hct_cons Tryd.m15.holds (hct_cons Tryd.clone.holds (hct_cons Tryd.m12.holds hct_nil))) Tryd.m11.ok
noncomputable def Tryd.m11 (name : List UInt8) (args : List (Int)) (b0_0 : List (En.Dop.Nod)) (b0_1 : List (List UInt8 × Int)) : Option (Spec.D En.Dop.D17 ⟨[.fd (.int .i64)], [⟨0, 36, [.own 4 40, .mp (.str) 0 false], false⟩]⟩) := Tryd.m11.E.run 3000 Tryd.m11.p.sp (((), name, args, ()), ((b0_0, b0_1, ()), ()))
theorem Tryd.m11_eq (name : List UInt8) (args : List (Int)) (b0_0 : List (En.Dop.Nod)) (b0_1 : List (List UInt8 × Int)) : Tryd.m11 name args b0_0 b0_1 =
  (Tryd.m15 (args) (b0_0) (b0_1)).bind fun y2 =>
   if (!y2.fst.fst) = true then
    some (((-1 : Int), ()), ((y2.snd.fst.fst, (y2.snd.fst.snd.fst, ())), ()))
   else
    if (decide (args.length * (8 : Nat) ≤ (140737488355328 : Nat))) = true then
    (Tryd.m12 (Dop.Nod.mk (2 : Int) (0 : Int) (0 : Int) name args (@List.nil Int)) (y2.snd.fst.fst) (y2.snd.fst.snd.fst)).bind fun y4 =>
     some ((y4.fst.fst, ()), ((y4.snd.fst.fst, (y4.snd.fst.snd.fst, ())), ()))
    else none := by kernel_rfl

def Tryd.m4.p : Pln := ⟨[], 0, ⟨[.fd .str, .fd .str, .fd (.int .i64)], []⟩, ⟨[.fd .bool], []⟩, true, [], [(5, [])]⟩
noncomputable def Tryd.m4.E : Env En.Dop.D17 := envOf Tryd.prog 4 Tryd.tb [Tryd.m10.c, Tryd.m6.c, Tryd.m8.c, Tryd.m11.c] Tryd.m4.p
theorem Tryd.m4.ok : plnOk En.Dop.D17 Tryd.prog 4 Tryd.m4.p = true := by kernel_rfl
noncomputable def Tryd.m4.c : Ctr En.Dop.D17 := ⟨4, Tryd.m4.p.bn, Tryd.m4.p.sp, Tryd.m4.p.rs, Tryd.m4.p.flat, .opt (Tryd.m4.E.run 3000 Tryd.m4.p.sp)⟩
theorem Tryd.m4.holds : Tryd.m4.c.Holds Tryd.prog := fun_ctr 3000 Tryd.tbOk (hct_cons Tryd.m10.holds (hct_cons Tryd.m6.holds (hct_cons Tryd.m8.holds (hct_cons Tryd.m11.holds hct_nil)))) Tryd.m4.ok
noncomputable def Tryd.m4 (o : List UInt8) (t1 : List UInt8) (t2 : Int) : Option (Spec.D En.Dop.D17 ⟨[.fd .bool], []⟩) := Tryd.m4.E.run 3000 Tryd.m4.p.sp ((o, t1, t2, ()), ())
theorem Tryd.m4_eq (o : List UInt8) (t1 : List UInt8) (t2 : Int) : Tryd.m4 o t1 t2 =
  if (decide ((20 : Int) < I o.length)) = true then
   (Tryd.m10).bind fun y3 =>
    some ((y3.fst.fst, ()), ())
  else
   if (decide ((20 : Int) < I t1.length)) = true then
    (Tryd.m10).bind fun y4 =>
     some ((y4.fst.fst, ()), ())
   else
    (Tryd.m6 (o) (@List.nil Dop.Nod) (@List.nil (List UInt8 × Int))).bind fun y4 =>
     (Tryd.m6 (t1) (y4.snd.fst.fst) (y4.snd.fst.snd.fst)).bind fun y5 =>
      (Tryd.m8 (t2) (y5.snd.fst.fst) (y5.snd.fst.snd.fst)).bind fun y6 =>
       (Tryd.m11 (o) (@List.nil Int) (y6.snd.fst.fst) (y6.snd.fst.snd.fst)).bind fun y7 =>
        if (decide (y4.fst.fst = y5.fst.fst) == decide (o = t1)) = true then
         if (!decide (y4.fst.fst = y6.fst.fst)) = true then
          if (!decide (y4.fst.fst = y7.fst.fst)) = true then
           if (!decide (y6.fst.fst = y7.fst.fst)) = true then
            (Tryd.m11 (t1) (@List.nil Int) (y7.snd.fst.fst) (y7.snd.fst.snd.fst)).bind fun y12 =>
             (Tryd.m11 (t1) (@List.nil Int) (y12.snd.fst.fst) (y12.snd.fst.snd.fst)).bind fun y13 =>
              if (decide (y12.fst.fst = y13.fst.fst)) = true then
               (Tryd.m11 (o) (@List.nil Int) (y13.snd.fst.fst) (y13.snd.fst.snd.fst)).bind fun y15 =>
                (Tryd.m11 (t1) (@List.nil Int) (y15.snd.fst.fst) (y15.snd.fst.snd.fst)).bind fun y16 =>
                 if (decide (y15.fst.fst = y16.fst.fst) == decide (o = t1)) = true then
                  (Tryd.m10).bind fun y18 =>
                   some ((y18.fst.fst, ()), ())
                 else
                  some ((false, ()), ())
              else
               some ((false, ()), ())
           else
            some ((false, ()), ())
          else
           some ((false, ()), ())
         else
          some ((false, ()), ())
        else
         some ((false, ()), ()) := by kernel_rfl

def Tryd.m9.p : Pln := ⟨[], 2, ⟨[.fd (.int .i64), .al 0 0], [⟨0, 22, [.al 1 0], false⟩, ⟨1, 36, [.own 4 40, .mp (.str) 0 false], false⟩]⟩, ⟨[.fd (.int .i64)], [⟨0, 22, [.al 1 0], false⟩, ⟨1, 36, [.own 4 40, .mp (.str) 0 false], false⟩]⟩, false, [], []⟩
noncomputable def Tryd.m9.E : Env En.Dop.D17 := envOf Tryd.prog 9 Tryd.tb [Tryd.m7.cf] Tryd.m9.p
theorem Tryd.m9.ok : plnOk En.Dop.D17 Tryd.prog 9 Tryd.m9.p = true := by kernel_rfl
noncomputable def Tryd.m9.c : Ctr En.Dop.D17 := ⟨9, Tryd.m9.p.bn, Tryd.m9.p.sp, Tryd.m9.p.rs, Tryd.m9.p.flat, .opt (Tryd.m9.E.run 3000 Tryd.m9.p.sp)⟩
theorem Tryd.m9.holds : Tryd.m9.c.Holds Tryd.prog := fun_ctr 3000 Tryd.tbOk (hct_cons Tryd.m7.holdsf hct_nil) Tryd.m9.ok
noncomputable def Tryd.m9 (a : Int) (b1_0 : List (En.Dop.Nod)) (b1_1 : List (List UInt8 × Int)) : Option (Spec.D En.Dop.D17 ⟨[.fd (.int .i64)], [⟨0, 22, [.al 1 0], false⟩, ⟨1, 36, [.own 4 40, .mp (.str) 0 false], false⟩]⟩) := Tryd.m9.E.run 3000 Tryd.m9.p.sp ((a, (), ()), (((), ()), (b1_0, b1_1, ()), ()))
theorem Tryd.m9_eq (a : Int) (b1_0 : List (En.Dop.Nod)) (b1_1 : List (List UInt8 × Int)) : Tryd.m9 a b1_0 b1_1 =
  (Tryd.m7 (FU) ((23 : Int)) (a) (a) (b1_0) (b1_1)).bind fun y2 =>
   some ((y2.fst.fst, ()), (((), ()), ((y2.snd.fst.fst, (y2.snd.fst.snd.fst, ())), ()))) := by kernel_rfl

def Tryd.m3.p : Pln := ⟨[], 0, ⟨[.fd (.int .i64), .fd (.int .u8)], []⟩, ⟨[.fd .bool], []⟩, true, [(2, ⟨[(0, false), (1, false), (2, false), (3, false), (4, false), (5, false), (6, true), (7, false), (8, false), (9, true), (10, true)], [2000005], [0, 1, 0, 0, 11, 0, 0, 123, 255, 511, 1023], false⟩), (3, ⟨[(0, false), (1, false), (2, true), (3, true), (4, false), (5, false), (6, true), (7, true), (8, false), (9, true)], [2000005], [0, 0, 0, 4, 14, 30, 0, 0, 255, 511], false⟩), (5, ⟨[(0, true), (1, true), (2, true), (3, true), (4, true), (5, true), (6, false), (7, false), (8, true), (9, true), (10, true), (11, true), (12, true), (13, true), (14, false), (15, true), (16, true), (17, true), (18, true), (19, false), (20, true), (21, true), (22, false), (23, true), (24, false), (25, true), (26, true), (27, false), (28, false), (29, true), (30, true), (31, true), (32, false), (33, true), (34, true), (35, false), (36, true), (37, false), (38, true), (39, true), (40, false), (41, false), (42, true), (43, true), (44, true), (45, false), (46, true), (47, true), (48, false), (49, true), (50, false), (51, true), (52, true), (53, false), (54, false), (55, true), (56, true), (57, true), (58, false), (59, true), (60, true)], [2000009, 2000005], [0, 1, 3, 7, 7, 7, 55, 127, 7, 511, 1023, 2047, 4095, 4095, 16383, 4095, 65535, 131071, 262143, 524287, 524287, 524287, 4194303, 524287, 524287, 524287, 524287, 125829119, 268435455, 536870911, 1073741823, 2147483647, 4294967295, 4294967295, 4294967295, 34359738367, 4294967295, 4294967295, 4294967295, 4294967295, 1030792151039, 2199023255551, 4398046511103, 8796093022207, 17592186044415, 35184372088831, 35184372088831, 35184372088831, 281474976710655, 35184372088831, 35184372088831, 35184372088831, 35184372088831, 8444249301319679, 18014398509481983, 36028797018963967, 72057594037927935, 144115188075855871, 288230376151711743, 576460752303423487, 1152921504606846975], false⟩)], [(5, [])]⟩
noncomputable def Tryd.m3.E : Env En.Dop.D17 := envOf Tryd.prog 3 Tryd.tb [Tryd.m6.c, Tryd.m8.c, Tryd.m7.cf, Tryd.m9.c, Tryd.m10.c] Tryd.m3.p
theorem Tryd.m3.ok : plnOk En.Dop.D17 Tryd.prog 3 Tryd.m3.p = true := by kernel_rfl
noncomputable def Tryd.m3.c : Ctr En.Dop.D17 := ⟨3, Tryd.m3.p.bn, Tryd.m3.p.sp, Tryd.m3.p.rs, Tryd.m3.p.flat, .opt (Tryd.m3.E.run 3000 Tryd.m3.p.sp)⟩
theorem Tryd.m3.holds : Tryd.m3.c.Holds Tryd.prog := fun_ctr 3000 Tryd.tbOk (hct_cons Tryd.m6.holds (hct_cons Tryd.m8.holds (hct_cons Tryd.m7.holdsf (hct_cons Tryd.m9.holds (hct_cons Tryd.m10.holds hct_nil))))) Tryd.m3.ok
noncomputable def Tryd.m3 (o : Int) (t1 : Int) : Option (Spec.D En.Dop.D17 ⟨[.fd .bool], []⟩) := Tryd.m3.E.run 3000 Tryd.m3.p.sp ((o, t1, ()), ())
theorem Tryd.m3_eq (o : Int) (t1 : Int) : Tryd.m3 o t1 =
  (Tryd.m6 ((120 : UInt8) :: @List.nil UInt8) (@List.nil Dop.Nod) (@List.nil (List UInt8 × Int))).bind fun y2 =>
   (Tryd.m6 ((121 : UInt8) :: @List.nil UInt8) (y2.snd.fst.fst) (y2.snd.fst.snd.fst)).bind fun y3 =>
    (Tryd.m8 (o) (y3.snd.fst.fst) (y3.snd.fst.snd.fst)).bind fun y4 =>
     (Tryd.m7 (FU) ((1 : Int)) (y3.fst.fst) (y4.fst.fst) (y4.snd.fst.fst) (y4.snd.fst.snd.fst)).bind fun y5 =>
      if (decide ((7 : Int) ≠ (0 : Int))) = true then
      if (decide ((0 : Int) ≤ t1.tmod (7 : Int) ∧ t1.tmod (7 : Int) < I ((14 : Int) :: (16 : Int) :: (18 : Int) :: (15 : Int) :: (17 : Int) :: (19 : Int) :: (23 : Int) :: @List.nil Int).length)) = true then
      if (decide ((t1.tmod (7 : Int)).toNat < ((14 : Int) :: (16 : Int) :: (18 : Int) :: (15 : Int) :: (17 : Int) :: (19 : Int) :: (23 : Int) :: @List.nil Int).length)) = true then
      (Tryd.m7 (FU) (((14 : Int) :: (16 : Int) :: (18 : Int) :: (15 : Int) :: (17 : Int) :: (19 : Int) :: (23 : Int) :: @List.nil Int).getD (t1.tmod (7 : Int)).toNat (0 : Int)) (y2.fst.fst) (y5.fst.fst) (y5.snd.fst.fst) (y5.snd.fst.snd.fst)).bind fun y6 =>
       if (decide ((0 : Int) ≤ y6.fst.fst)) = true then
        (Tryd.m9 (y6.fst.fst) (y6.snd.fst.fst) (y6.snd.fst.snd.fst)).bind fun y8 =>
         (Tryd.m9 (y8.fst.fst) (y8.snd.snd.fst.fst) (y8.snd.snd.fst.snd.fst)).bind fun y9 =>
          if (decide (y9.fst.fst = y6.fst.fst)) = true then
           (Tryd.m9 (y6.fst.fst) (y9.snd.snd.fst.fst) (y9.snd.snd.fst.snd.fst)).bind fun y11 =>
            if (!decide (y11.fst.fst = y6.fst.fst)) = true then
             (Tryd.m7 (FU) ((16 : Int)) (y2.fst.fst) (y5.fst.fst) (y11.snd.snd.fst.fst) (y11.snd.snd.fst.snd.fst)).bind fun y13 =>
              (Tryd.m7 (FU) ((17 : Int)) (y5.fst.fst) (y2.fst.fst) (y13.snd.fst.fst) (y13.snd.fst.snd.fst)).bind fun y14 =>
               (Tryd.m9 (y14.fst.fst) (y14.snd.fst.fst) (y14.snd.fst.snd.fst)).bind fun y15 =>
                if (decide (y13.fst.fst = y15.fst.fst)) = true then
                 (Tryd.m7 (FU) ((18 : Int)) (y2.fst.fst) (y5.fst.fst) (y15.snd.snd.fst.fst) (y15.snd.snd.fst.snd.fst)).bind fun y17 =>
                  (Tryd.m7 (FU) ((19 : Int)) (y5.fst.fst) (y2.fst.fst) (y17.snd.fst.fst) (y17.snd.fst.snd.fst)).bind fun y18 =>
                   (Tryd.m9 (y18.fst.fst) (y18.snd.fst.fst) (y18.snd.fst.snd.fst)).bind fun y19 =>
                    if (decide (y17.fst.fst = y19.fst.fst)) = true then
                     (Tryd.m7 (FU) ((15 : Int)) (y2.fst.fst) (y5.fst.fst) (y19.snd.snd.fst.fst) (y19.snd.snd.fst.snd.fst)).bind fun y21 =>
                      (Tryd.m7 (FU) ((14 : Int)) (y5.fst.fst) (y2.fst.fst) (y21.snd.fst.fst) (y21.snd.fst.snd.fst)).bind fun y22 =>
                       (Tryd.m9 (y22.fst.fst) (y22.snd.fst.fst) (y22.snd.fst.snd.fst)).bind fun y23 =>
                        if (decide (y21.fst.fst = y23.fst.fst)) = true then
                         (Tryd.m10).bind fun y25 =>
                          some ((y25.fst.fst, ()), ())
                        else
                         some ((false, ()), ())
                    else
                     some ((false, ()), ())
                else
                 some ((false, ()), ())
            else
             some ((false, ()), ())
          else
           some ((false, ()), ())
       else
        some ((false, ()), ())
      else none
      else none
      else none := by kernel_rfl
end Go.Proofs
