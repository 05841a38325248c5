/- Functions of the seat, lifted: plan, model, contract, equations. Written by a program (Lift) that ran the layer's evaluation; Lean checks each line. -/
import Derived.Test.YtkpggdcpaeanaaaGreatDoorMp
import Derived.Test.YtkpggdcpaeanaaaGreatDoorMo
import Derived.Test.YtkpggdcpaeanaaaGreatDoorMm
set_option maxRecDepth 100000
set_option maxHeartbeats 4000000
namespace Go.Proofs.Tryz
open Go Go.En
def m74s.p : Pln := ⟨[],5,⟨[.al 0 0,.fd (.int .i64)],[⟨0,135,[.st 7,.al 1 0,.own 0 3,.own 11 52,.own 12 32,.st 0,.own 5 56,.mr (.str) 9 true 129,.mp (.str) 15 true,.rm 2,.st 11,.st 0,.rm 3,.rm 4,.st 0,.mr (.int .i64) 0 false 217,.st 0,.fd (.int .i64),.st 0],false⟩,CT.b1]⟩,⟨[.st 5],[⟨0,135,[.fd (.sl 5),.fd (.sl 6),.fd (.int .i64),.al 1 0,.own 0 3,.own 11 52,.own 12 32,.fd (.int .i64),.own 5 56,.mr (.str) 9 true 129,.mp (.str) 15 true,.rm 2,.fd .str,.fd (.int .i64),.fd (.int .i64),.fd (.int .i64),.fd (.int .i64),.fd (.int .i64),.rm 3,.rm 4,.fd (.int .i64),.mr (.int .i64) 0 false 217,.fd (.int .i64),.fd (.int .i64),.fd (.int .i64)],false⟩,CT.b1]⟩,false,[],[]⟩
noncomputable def m74s.E : Env En.Dop.D4 := envOf prog 74 tb [] m74s.p
theorem m74s.ok : plnOk En.Dop.D4 prog 74 m74s.p = true := by kernel_rfl
noncomputable def m74s.c : Ctr En.Dop.D4 := ⟨74,m74s.p.bn,m74s.p.sp,m74s.p.rs,m74s.p.flat,.opt (m74s.E.run 3000 m74s.p.sp)⟩
theorem m74s.holds : m74s.c.Holds prog := fun_ctr 3000 tbOk hct_nil m74s.ok
noncomputable def m74s (n : Int) (b0_0 : En.Dop.Tre) (b0_2 : List (Int)) (b0_3 : List (En.Dop.Fun)) (b0_4 : List (En.Dop.Glb)) (b0_5 : Int) (b0_6 : List (En.Dop.Nde)) (b0_7 : List (List (List UInt8 × En.Dop.Plc))) (b0_8 : List (List UInt8 × En.Dop.Sgn)) (b0_10 : En.Dop.Fun) (b0_11 : Int) (b0_14 : Int) (b0_15 : List (List (Int × Int))) (b0_16 : Int) (b0_17 : Int) (b0_18 : Int) (k1 : CT) : Option ((En.Dop.Nde × Unit) × ((List (En.Dop.Nde) × List (En.Dop.Typ) × Int × Unit × List (Int) × List (En.Dop.Fun) × List (En.Dop.Glb) × Int × List (En.Dop.Nde) × List (List (List UInt8 × En.Dop.Plc)) × List (List UInt8 × En.Dop.Sgn) × Unit × List UInt8 × Int × Int × Int × Int × Int × Unit × Unit × Int × List (List (Int × Int)) × Int × Int × Int × Unit) × CT × Unit)) := m74s.E.run 3000 m74s.p.sp (((),n,()),((b0_0,(),b0_2,b0_3,b0_4,b0_5,b0_6,b0_7,b0_8,(),b0_10,b0_11,(),(),b0_14,b0_15,b0_16,b0_17,b0_18,()),k1,()))
theorem m74s_eq (n : Int) (b0_0 : En.Dop.Tre) (b0_2 : List (Int)) (b0_3 : List (En.Dop.Fun)) (b0_4 : List (En.Dop.Glb)) (b0_5 : Int) (b0_6 : List (En.Dop.Nde)) (b0_7 : List (List (List UInt8 × En.Dop.Plc))) (b0_8 : List (List UInt8 × En.Dop.Sgn)) (b0_10 : En.Dop.Fun) (b0_11 : Int) (b0_14 : Int) (b0_15 : List (List (Int × Int))) (b0_16 : Int) (b0_17 : Int) (b0_18 : Int) (k1 : CT) : m74s n b0_0 b0_2 b0_3 b0_4 b0_5 b0_6 b0_7 b0_8 b0_10 b0_11 b0_14 b0_15 b0_16 b0_17 b0_18 k1 =
 if (decide (n < (0 : Int))) = true then
  some ((Dop.Nde.mk (0 : Int) (-1 : Int) (-1 : Int) (-1 : Int) (-1 : Int) (@List.nil UInt8) (0 : Int) (0 : Int) (0 : Int),()),((b0_0.nodes,(b0_0.types,(b0_0.top,((),(b0_2,(b0_3,(b0_4,(b0_5,(b0_6,(b0_7,(b0_8,((),(b0_10.name,(b0_10.params,(b0_10.regs,(b0_10.frame,(b0_10.body,(b0_11,((),((),(b0_14,(b0_15,(b0_16,(b0_17,(b0_18,()))))))))))))))))))))))))),(k1,())))
 else
  if (decide (I b0_0.nodes.length ≤ n)) = true then
  some ((Dop.Nde.mk (0 : Int) (-1 : Int) (-1 : Int) (-1 : Int) (-1 : Int) (@List.nil UInt8) (0 : Int) (0 : Int) (0 : Int),()),((b0_0.nodes,(b0_0.types,(b0_0.top,((),(b0_2,(b0_3,(b0_4,(b0_5,(b0_6,(b0_7,(b0_8,((),(b0_10.name,(b0_10.params,(b0_10.regs,(b0_10.frame,(b0_10.body,(b0_11,((),((),(b0_14,(b0_15,(b0_16,(b0_17,(b0_18,()))))))))))))))))))))))))),(k1,())))
  else
  if (decide ((0 : Int) ≤ n ∧ n < I b0_0.nodes.length)) = true then
  some ((@List.getD Dop.Nde b0_0.nodes n.toNat Dop.d5,()),((b0_0.nodes,(b0_0.types,(b0_0.top,((),(b0_2,(b0_3,(b0_4,(b0_5,(b0_6,(b0_7,(b0_8,((),(b0_10.name,(b0_10.params,(b0_10.regs,(b0_10.frame,(b0_10.body,(b0_11,((),((),(b0_14,(b0_15,(b0_16,(b0_17,(b0_18,()))))))))))))))))))))))))),(k1,())))
  else none := by kernel_rfl
end Go.Proofs.Tryz
/- Functions of the seat, lifted: plan, model, contract, equations. Written by a program (Lift) that ran the layer's evaluation; Lean checks each line. -/
set_option maxRecDepth 100000
set_option maxHeartbeats 4000000
namespace Go.Proofs.Tryz
open Go Go.En
def m74n.p : Pln := ⟨[],3,⟨[.al 0 0,.fd (.int .i64)],[⟨0,135,[.st 7,.al 1 0,.own 0 3,.own 11 52,.own 12 32,.st 0,.own 5 56,.rw 2,.mp (.str) 15 true,.mp (.str) 0 false,.st 11,.st 0,.mp (.str) 0 false,.mp (.str) 0 false,.st 0,.mr (.int .i64) 0 false 217,.st 0,.fd (.int .i64),.st 0],false⟩,CT.b1,⟨2,130,[.mr (.str) 9 true 129],true⟩]⟩,⟨[.st 5],[⟨0,135,[.fd (.sl 5),.fd (.sl 6),.fd (.int .i64),.al 1 0,.own 0 3,.own 11 52,.own 12 32,.fd (.int .i64),.own 5 56,.rw 2,.mp (.str) 15 true,.mp (.str) 0 false,.fd .str,.fd (.int .i64),.fd (.int .i64),.fd (.int .i64),.fd (.int .i64),.fd (.int .i64),.mp (.str) 0 false,.mp (.str) 0 false,.fd (.int .i64),.mr (.int .i64) 0 false 217,.fd (.int .i64),.fd (.int .i64),.fd (.int .i64)],false⟩,CT.b1,⟨2,0,[.mr (.str) 9 true 129],true⟩]⟩,false,[],[]⟩
theorem m74n.ok : plnOk En.Dop.D4 prog 74 m74n.p = true := by kernel_rfl
end Go.Proofs.Tryz
/- Functions of the seat, lifted: plan, model, contract, equations. Written by a program (Lift) that ran the layer's evaluation; Lean checks each line. -/
set_option maxRecDepth 100000
set_option maxHeartbeats 4000000
namespace Go.Proofs.Tryz
open Go Go.En
def m130.p : Pln := ⟨[],2,⟨[.al 0 0,.fd .str,.fd (.int .i64),.fd (.int .i64),.fd .bool],[CK.b0,CT.b1]⟩,⟨[.st 9,.fd .bool],[CK.b0,CT.b1]⟩,false,[(2,⟨[(0,true),(1,true),(2,true),(3,false),(4,true),(5,true),(6,true),(7,false),(8,false),(9,true),(10,false),(11,false),(12,true)],[],[0,1,3,7,0,16,48,112,240,496,1023,2047,4095],false⟩),(13,⟨[(0,true),(1,true),(2,true),(3,true),(4,false),(5,true),(6,false),(7,true)],[8,1000017],[0,1,3,7,15,0,32,127,255],false⟩),(18,⟨[(0,false),(1,true),(2,true),(3,true),(4,false),(5,true),(6,false),(7,true)],[1000010],[0,0,2,6,14,30,1,127],false⟩)],[(123,[]),(164,[])]⟩
theorem m130.ok : plnOk En.Dop.D4 prog 130 m130.p = true := by kernel_rfl
end Go.Proofs.Tryz
/- What the checker holds in its first phase (three maps are nil). Written by a program. -/
namespace Go.Proofs
open Go Go.En
@[reducible] def CH.b0 : En.Box := ⟨0,135,[.st 7,.al 1 0,.own 0 3,.own 11 52,.own 12 32,.st 0,.own 5 56,.mr (.str) 9 true 129,.mp (.str) 15 true,.hm,.st 11,.st 0,.hm,.hm,.st 0,.mr (.int .i64) 0 false 217,.st 0,.fd (.int .i64),.st 0],false⟩
@[reducible] def CH.b1 : En.Box := ⟨1,135,[.st 7,.al 2 0,.own 0 3,.own 11 52,.own 12 32,.st 0,.own 5 56,.mr (.str) 9 true 129,.mp (.str) 15 true,.hm,.st 11,.st 0,.hm,.hm,.st 0,.mr (.int .i64) 0 false 217,.st 0,.fd (.int .i64),.st 0],false⟩
@[reducible] def CH.b2 : En.Box := ⟨2,135,[.st 7,.al 3 0,.own 0 3,.own 11 52,.own 12 32,.st 0,.own 5 56,.mr (.str) 9 true 129,.mp (.str) 15 true,.hm,.st 11,.st 0,.hm,.hm,.st 0,.mr (.int .i64) 0 false 217,.st 0,.fd (.int .i64),.st 0],false⟩
end Go.Proofs
/- Functions of the seat, lifted: plan, model, contract, equations. Written by a program (Lift) that ran the layer's evaluation; Lean checks each line. -/
set_option maxRecDepth 100000
set_option maxHeartbeats 4000000
namespace Go.Proofs.Tryz
open Go Go.En
def m74h.p : Pln := ⟨[],2,⟨[.al 0 0,.fd (.int .i64)],[CH.b0,CT.b1]⟩,⟨[.st 5],[CH.b0,CT.b1]⟩,false,[],[]⟩
theorem m74h.ok : plnOk En.Dop.D4 prog 74 m74h.p = true := by kernel_rfl
def m123h.p : Pln := ⟨[],2,⟨[.al 0 0,.fd (.int .i64),.fd (.int .i64)],[CH.b0,CT.b1]⟩,⟨[.st 10],[CH.b0,CT.b1]⟩,false,[],[]⟩
theorem m123h.ok : plnOk En.Dop.D4 prog 123 m123h.p = true := by kernel_rfl
@[reducible] def m121h.q2 : Cut := ⟨[[0,0,0,0,0,1,0,1],[0,1,0,0,0,1,0,1],[0,1,0,0,1,0,1],[2,0,0,1,0,1],[1,0],[0,1,1]],[0,1,2,7],2,⟨[.al 0 0,.fd (.int .i64),.fd (.int .i64),.fd (.int .i64)],[CH.b0,CT.b1]⟩⟩
@[reducible] def m121h.q13 : Cut := ⟨[[0,0,0,1,1,1,0,0,1,0,0,1,0,1],[0,1,0,1,1,1,0,0,1,0,0,1,0,1],[0,1,1,1,1,0,0,1,0,0,1,0,1],[1,1],[0,1,1,0,0,1,0,1],[2,0,0,1,0,1],[1,0],[0,1,1]],[0,1,2,7,9,10],2,⟨[.al 0 0,.fd (.int .i64),.fd (.int .i64),.fd (.int .i64),.fd (.int .i64),.fd (.int .i64)],[CH.b0,CT.b1]⟩⟩
def m121h.p : Pln := ⟨[(2,m121h.q2),(13,m121h.q13)],2,⟨[.al 0 0,.fd (.int .i64),.fd (.int .i64)],[CH.b0,CT.b1]⟩,⟨[.fd (.int .i64)],[CH.b0,CT.b1]⟩,false,[(8,⟨[(0,true),(1,true),(2,true),(3,false),(4,true),(5,true),(6,true),(7,false),(8,true),(9,false),(10,false),(11,false),(12,false),(13,true),(14,true),(15,true),(16,true),(17,true)],[2000000],[0,1,3,7,0,16,48,112,0,256,1008,2032,4095,8191,16383,16383,32767,131071],false⟩),(10,⟨[(0,true),(1,true),(2,true),(3,false),(4,true),(5,true),(6,true),(7,false),(8,true),(9,false),(10,false),(11,false),(12,true),(13,false),(14,false),(15,true),(16,true),(17,true),(18,true),(19,true)],[2000000],[0,1,3,7,0,16,48,112,0,256,1008,2032,0,4096,16383,32767,65535,65535,131071,524287],false⟩),(12,⟨[(0,true),(1,true),(2,true),(3,false),(4,true),(5,false),(6,false),(7,true),(8,true),(9,true),(10,true),(11,true)],[2000000],[0,1,3,7,0,16,63,127,255,255,511,2047],false⟩)],[]⟩
theorem m121h.ok : plnOk En.Dop.D4 prog 121 m121h.p = true := by kernel_rfl
@[reducible] def m75h.q3 : Cut := ⟨[[0,0,0,0,1,0,1,1],[0,1,0,0,1,0,1,1],[2,0,0,1,0,1,1],[1,0],[0,1,1,1]],[0,2,4,6,16,17,18],3,⟨[.al 0 0,.fd (.int .i64),.al 2 0,.own 16 171,.own 0 3,.fd (.int .i64),.fd (.int .i64)],[CH.b0,CT.b1,⟨2,56,[.st 5],false⟩]⟩⟩
def m75h.p : Pln := ⟨[(3,m75h.q3)],2,⟨[.al 0 0,.st 5,.fd (.int .i64)],[CH.b0,CT.b1]⟩,⟨[],[CH.b0,CT.b1]⟩,false,[(2,⟨[(0,true),(1,true),(2,true),(3,false),(4,true),(5,false),(6,false),(7,false),(8,true)],[],[0,1,3,7,0,16,63,127,0],true⟩),(8,⟨[(0,true),(1,true),(2,true),(3,false),(4,true),(5,false),(6,true),(7,false),(8,true)],[2000000,9000000],[0,1,3,7,0,16,0,127,255],true⟩)],[]⟩
theorem m75h.ok : plnOk En.Dop.D4 prog 75 m75h.p = true := by kernel_rfl
def m127h.p : Pln := ⟨[],2,⟨[.al 0 0,.fd (.int .i64)],[CH.b0,CT.b1]⟩,⟨[.fd (.int .i64)],[CH.b0,CT.b1]⟩,false,[],[]⟩
theorem m127h.ok : plnOk En.Dop.D4 prog 127 m127h.p = true := by kernel_rfl
def m125h.p : Pln := ⟨[],2,⟨[.al 0 0,.fd (.int .i64)],[CH.b0,CT.b1]⟩,⟨[.fd .bool],[CH.b0,CT.b1]⟩,false,[],[]⟩
theorem m125h.ok : plnOk En.Dop.D4 prog 125 m125h.p = true := by kernel_rfl
@[reducible] def m76h.q15 : Cut := ⟨[[0,0,1,1,1,1,1,1,1,1],[0,1,1,1,1,1,1,1,1,1]],[0,4,6,7,13],3,⟨[.al 0 0,.al 2 0,.fd (.int .i64),.fd (.int .i64),.fd (.int .i64)],[CH.b0,CT.b1,⟨2,56,[.st 5],false⟩]⟩⟩
def m76h.p : Pln := ⟨[(15,m76h.q15)],2,⟨[.al 0 0,.st 5,.fd (.int .i64)],[CH.b0,CT.b1]⟩,⟨[],[CH.b0,CT.b1]⟩,false,[(3,⟨[(0,true),(1,true),(2,true),(3,false),(4,false),(5,false),(6,true),(7,false),(8,false),(9,true),(10,true),(11,true),(12,false)],[13,14],[0,1,3,7,15,31,0,64,255,511,1023,1023,0,6143,16383],false⟩),(4,⟨[(0,true),(1,true),(2,true),(3,false),(4,true),(5,false),(6,false),(7,true),(8,true),(9,true),(10,false)],[11,12],[0,1,3,7,0,16,63,127,255,255,0,1535,4095],false⟩),(15,⟨[(0,true),(1,true),(2,true),(3,false),(4,false),(5,false),(6,true),(7,false),(8,true),(9,true),(10,true),(11,true),(12,false),(13,true),(14,true)],[15],[0,1,3,7,15,31,0,64,0,256,768,1792,3840,0,16128,32767],false⟩),(16,⟨[(0,true),(1,true),(2,true),(3,true),(4,true),(5,false),(6,true),(7,false),(8,true),(9,true),(10,true),(11,true),(12,false),(13,true),(14,true),(15,true),(16,false)],[17,18,19,20,21],[0,0,2,6,14,30,0,64,0,256,768,1792,3840,0,0,32704,65472,131070,262143,524287,1048575,2097151],false⟩)],[]⟩
theorem m76h.ok : plnOk En.Dop.D4 prog 76 m76h.p = true := by kernel_rfl
@[reducible] def m77h.q7 : Cut := ⟨[[0,0,0,1,1,1,1,1,1],[0,1,0,1,1,1,1,1,1],[0,1,1,1,1,1,1,1]],[0,2,4,6,11],4,⟨[.al 0 0,.fd (.int .i64),.al 2 0,.al 3 0,.own 0 3],[CH.b0,CT.b1,⟨2,56,[.st 5],false⟩,⟨3,140,[.own 0 3,.fd (.int .i64)],false⟩]⟩⟩
@[reducible] def m77h.q10 : Cut := ⟨[[0,0,0,0,1,0,1,1,1,1,1,1,1],[0,1,0,0,1,0,1,1,1,1,1,1,1],[2,0,0,1,0,1,1,1,1,1,1,1],[1,0],[0,1,1,1,1,1,1,1,1]],[0,2,4,6,85,86,87],4,⟨[.al 0 0,.fd (.int .i64),.al 2 0,.al 3 0,.own 0 3,.fd (.int .i64),.fd (.int .i64)],[CH.b0,CT.b1,⟨2,56,[.st 5],false⟩,⟨3,140,[.own 0 3,.fd (.int .i64)],false⟩]⟩⟩
def m77h.p : Pln := ⟨[(7,m77h.q7),(10,m77h.q10)],2,⟨[.al 0 0,.st 5,.fd (.int .i64)],[CH.b0,CT.b1]⟩,⟨[],[CH.b0,CT.b1]⟩,false,[(2,⟨[(0,true),(1,true),(2,true),(3,false),(4,true),(5,false),(6,false),(7,true),(8,true),(9,true),(10,false)],[11,12],[0,1,3,7,0,16,63,127,255,255,0,1535,4095],false⟩),(3,⟨[(0,true),(1,true),(2,true),(3,false),(4,false),(5,false),(6,true),(7,false),(8,false),(9,true),(10,true),(11,true),(12,false)],[13,14],[0,1,3,7,15,31,0,64,255,511,1023,1023,0,6143,16383],false⟩),(4,⟨[(0,true),(1,true),(2,true),(3,false),(4,true),(5,false),(6,false),(7,true)],[],[0,1,3,7,0,16,63,127],true⟩),(17,⟨[(0,true),(1,true),(2,true),(3,false),(4,true),(5,true),(6,true),(7,false),(8,true),(9,true),(10,true),(11,true),(12,true),(13,true),(14,false),(15,true),(16,false),(17,false),(18,true),(19,true)],[2000000],[0,1,3,7,15,31,63,127,255,511,1023,2047,4095,8191,16383,2047,34815,131071,262143,524287],false⟩),(19,⟨[(0,true),(1,true),(2,true),(3,false),(4,true),(5,false),(6,false)],[7],[0,1,3,7,0,16,0,127],false⟩)],[]⟩
theorem m77h.ok : plnOk En.Dop.D4 prog 77 m77h.p = true := by kernel_rfl
end Go.Proofs.Tryz
/- Functions of the seat, lifted: plan, model, contract, equations. Written by a program (Lift) that ran the layer's evaluation; Lean checks each line. -/
set_option maxRecDepth 100000
set_option maxHeartbeats 4000000
namespace Go.Proofs.Tryz
open Go Go.En
def m166.p : Pln := ⟨[],2,⟨[.al 0 0,.fd (.int .i64)],[CK.b0,CT.b1]⟩,⟨[.fd (.int .i64)],[CK.b0,CT.b1]⟩,false,[],[]⟩
theorem m166.ok : plnOk En.Dop.D4 prog 166 m166.p = true := by kernel_rfl
def m169.p : Pln := ⟨[],2,⟨[.al 0 0,.st 5,.fd (.int .i64)],[CK.b0,CT.b1]⟩,⟨[.fd (.int .i64)],[CK.b0,CT.b1]⟩,false,[(6,⟨[(0,true),(1,true),(2,false),(3,true),(4,true),(5,true),(6,false),(7,true),(8,false),(9,false),(10,true)],[1000000],[0,0,0,0,8,24,56,0,254,511,1023],true⟩)],[]⟩
theorem m169.ok : plnOk En.Dop.D4 prog 169 m169.p = true := by kernel_rfl
def m173.p : Pln := ⟨[],2,⟨[.al 0 0,.st 5,.fd (.int .i64)],[CK.b0,CT.b1]⟩,⟨[.fd (.int .i64)],[CK.b0,CT.b1]⟩,false,[(17,⟨[(0,true),(1,true),(2,false),(3,true),(4,false),(5,true),(6,true),(7,false),(8,false),(9,false),(10,true)],[1000000],[0,0,0,0,0,0,0,120,254,511,1023],true⟩)],[]⟩
theorem m173.ok : plnOk En.Dop.D4 prog 173 m173.p = true := by kernel_rfl
@[reducible] def m135.q27 : Cut := ⟨[[0,0,0,0,1,1,1,1,1,1,1,1,1,1,1,0,1,0,1,1,1],[0,1,0,0,1,1,1,1,1,1,1,1,1,1,1,0,1,0,1,1,1],[0,1,0,1,1,1,1,1,1,1,1,1,1,1,0,1,0,1,1,1],[1,0],[0,1,1,1,1]],[1,2,5],4,⟨[.fd (.int .i64),.al 2 0,.al 3 0],[CK.b0,CT.b1,⟨2,126,[.al 0 0],false⟩,⟨3,56,[.st 5],false⟩]⟩⟩
@[reducible] def m135.q30 : Cut := ⟨[[0,0,1,1,1,1,1,1,1,1,1,1,1,1,0,1,0,1,1,1],[0,1,1,1,1,1,1,1,1,1,1,1,1,1,0,1,0,1,1,1],[1,0],[0,1,1,1,1]],[1,2,5,27],4,⟨[.fd (.int .i64),.al 2 0,.al 3 0,.fd (.int .i64)],[CK.b0,CT.b1,⟨2,126,[.al 0 0],false⟩,⟨3,56,[.st 5],false⟩]⟩⟩
def m135.p : Pln := ⟨[(27,m135.q27),(30,m135.q30)],2,⟨[.al 0 0,.fd (.int .i64)],[CK.b0,CT.b1]⟩,⟨[.fd (.int .i64)],[CK.b0,CT.b1]⟩,false,[(6,⟨[(0,false),(1,false),(2,true),(3,false),(4,false),(5,false),(6,true)],[2000002],[0,0,0,4,14,31,63],false⟩),(15,⟨[(0,false),(1,true),(2,false),(3,true),(4,false),(5,false),(6,false),(7,true)],[2000002],[0,0,0,0,8,28,63,127],false⟩),(18,⟨[(0,false),(1,false),(2,true),(3,false),(4,false),(5,true),(6,true),(7,false),(8,true)],[2000002],[0,0,0,4,14,30,0,127,255],false⟩),(24,⟨[(0,false),(1,true),(2,true),(3,true),(4,false),(5,true),(6,false),(7,false),(8,false),(9,true)],[2000002],[0,0,0,0,0,0,32,112,255,511],false⟩),(33,⟨[(0,false),(1,true),(2,true),(3,false),(4,true),(5,false),(6,false),(7,true),(8,true),(9,true),(10,true),(11,true)],[],[0,1,3,7,0,16,63,127,255,255,511,2047],false⟩),(35,⟨[(0,false),(1,true),(2,true),(3,false),(4,true),(5,false),(6,true)],[7],[0,1,3,7,0,16,0,127],false⟩),(38,⟨[(0,false),(1,true),(2,true),(3,false),(4,true),(5,false),(6,false),(7,true)],[8],[0,1,3,7,0,16,63,127,255],false⟩),(39,⟨[(0,false),(1,true),(2,true),(3,false),(4,true),(5,false),(6,false),(7,true)],[],[0,1,3,7,0,16,63,127],false⟩),(41,⟨[(0,false),(1,false),(2,true),(3,false),(4,false),(5,true),(6,false),(7,false),(8,true)],[2000002],[0,0,0,4,14,0,32,127,255],false⟩),(44,⟨[(0,false),(1,false),(2,true),(3,true),(4,false),(5,false),(6,false),(7,false),(8,true),(9,true)],[10,2000002],[0,0,2,6,14,0,32,126,255,511,1023],false⟩),(48,⟨[(0,false),(1,false),(2,true),(3,true),(4,false),(5,false),(6,true),(7,true),(8,false),(9,false),(10,true),(11,false),(12,true),(13,true)],[14,2000002],[0,0,2,6,14,0,32,96,224,480,992,2046,4095,8191,16383],false⟩)],[(171,[(3,⟨[(0,true),(1,true),(2,true),(3,true),(4,false),(5,true),(6,true),(7,true),(8,false),(9,false),(10,true)],[11,12,13,14],[0,0,2,6,14,0,32,96,224,480,992,2046,4095,8191,16383],false⟩)])]⟩
theorem m135.ok : plnOk En.Dop.D4 prog 135 m135.p = true := by kernel_rfl
def m168.p : Pln := ⟨[],2,⟨[.al 0 0,.fd (.int .i64)],[CK.b0,CT.b1]⟩,⟨[.fd (.int .i64)],[CK.b0,CT.b1]⟩,false,[],[]⟩
theorem m168.ok : plnOk En.Dop.D4 prog 168 m168.p = true := by kernel_rfl
def m170.p : Pln := ⟨[],2,⟨[.al 0 0,.st 5,.fd (.int .i64)],[CK.b0,CT.b1]⟩,⟨[.fd (.int .i64)],[CK.b0,CT.b1]⟩,false,[(6,⟨[(0,true),(1,true),(2,true),(3,false),(4,true),(5,true),(6,true),(7,false),(8,false),(9,true),(10,false),(11,false),(12,true)],[],[0,1,3,7,0,16,48,112,240,496,1023,2047,4095],false⟩),(12,⟨[(0,true),(1,true),(2,false),(3,true),(4,true),(5,false),(6,false),(7,true),(8,false),(9,true)],[1000000],[0,0,2,0,0,16,56,0,255,511],false⟩)],[]⟩
theorem m170.ok : plnOk En.Dop.D4 prog 170 m170.p = true := by kernel_rfl
@[reducible] def m172.q3 : Cut := ⟨[[0,0,0,0,1,0,1,1],[0,1,0,0,1,0,1,1],[2,0,0,1,0,1,1],[1,0],[0,1,1,1]],[0,3,12,13,14],4,⟨[.al 0 0,.own 0 3,.own 0 3,.fd (.int .i64),.fd (.int .i64)],[⟨0,126,[.al 1 0],false⟩,CK.b1,CT.b2,⟨3,56,[.st 5],false⟩]⟩⟩
def m172.p : Pln := ⟨[(3,m172.q3)],4,⟨[.al 0 0,.al 3 0],[⟨0,126,[.al 1 0],false⟩,CK.b1,CT.b2,⟨3,56,[.st 5],false⟩]⟩,⟨[.fd (.int .i64)],[⟨0,126,[.al 1 0],false⟩,CK.b1,CT.b2,⟨3,56,[.st 5],false⟩]⟩,false,[(2,⟨[(0,false),(1,true),(2,true),(3,false),(4,true),(5,false),(6,false),(7,false),(8,true)],[],[0,1,3,7,0,16,63,127,0],true⟩),(7,⟨[(0,false),(1,false),(2,true),(3,false),(4,false),(5,true)],[2000000,9000000],[0,0,0,6,15,31],true⟩)],[]⟩
theorem m172.ok : plnOk En.Dop.D4 prog 172 m172.p = true := by kernel_rfl
@[reducible] def g135.T : Type := (((Unit × Int × Unit) × (CK × CT × Unit)) → Option ((Int × Unit) × (CK × CT × Unit))) × (((Unit × Int × Unit) × (CK × CT × Unit)) → Option ((Int × Unit) × (CK × CT × Unit))) × (((Unit × En.Dop.Nde × Int × Unit) × (CK × CT × Unit)) → Option ((Int × Unit) × (CK × CT × Unit))) × (((Unit × Unit × Unit) × ((Unit × Unit) × CK × CT × (En.Dop.Nde × Unit) × Unit)) → Option ((Int × Unit) × ((Unit × Unit) × CK × CT × (En.Dop.Nde × Unit) × Unit))) × Unit
noncomputable def g135.ct (r : g135.T) : List (Ctr En.Dop.D4) := [⟨135,m135.p.bn,m135.p.sp,m135.p.rs,m135.p.flat,.opt (r.1)⟩,⟨168,m168.p.bn,m168.p.sp,m168.p.rs,m168.p.flat,.opt (r.2.1)⟩,⟨170,m170.p.bn,m170.p.sp,m170.p.rs,m170.p.flat,.opt (r.2.2.1)⟩,⟨172,m172.p.bn,m172.p.sp,m172.p.rs,m172.p.flat,.opt (r.2.2.2.1)⟩]
end Go.Proofs.Tryz
/- Functions of the seat, lifted: plan, model, contract, equations. Written by a program (Lift) that ran the layer's evaluation; Lean checks each line. -/
set_option maxRecDepth 100000
set_option maxHeartbeats 4000000
namespace Go.Proofs.Tryz
open Go Go.En
@[reducible] def m129.q4 : Cut := ⟨[[0,0,0,0,1,1,1],[0,1,0,0,1,1,1],[2,0,0,1,1,1],[1,0]],[0,45,46],2,⟨[.al 0 0,.st 8,.fd (.int .i64)],[CK.b0,CT.b1]⟩⟩
def m129.p : Pln := ⟨[(4,m129.q4)],2,⟨[.al 0 0,.fd (.int .i64)],[CK.b0,CT.b1]⟩,⟨[],[CK.b0,CT.b1]⟩,false,[(2,⟨[(0,true),(1,true),(2,true),(4,true),(5,true),(6,false),(7,false),(8,true),(3,false),(9,false),(10,true)],[11,1000000],[0,1,3,7,0,0,32,112,240,511,1023,2047],false⟩)],[]⟩
theorem m129.ok : plnOk En.Dop.D4 prog 129 m129.p = true := by kernel_rfl
@[reducible] def g129.T : Type := (((Unit × Int × Unit) × (CK × CT × Unit)) → Option (Unit × (CK × CT × Unit))) × Unit
noncomputable def g129.ct (r : g129.T) : List (Ctr En.Dop.D4) := [⟨129,m129.p.bn,m129.p.sp,m129.p.rs,m129.p.flat,.opt (r.1)⟩]
end Go.Proofs.Tryz
