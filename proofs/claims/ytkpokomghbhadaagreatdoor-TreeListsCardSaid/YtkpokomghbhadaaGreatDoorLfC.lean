/-
 Functions of the seat, lifted: plan, model, contract, equations. Written by a program (Lift) that ran the layer's evaluation; Lean checks each line.
-/
import Derived.Test.YtkpokomghbhadaaGreatDoorWt
set_option maxRecDepth 100000
set_option maxHeartbeats 4000000
namespace Go.Proofs
open Go Go.En
open Tryz
def Tryz.m118.p : Pln := ⟨[],1,⟨[.al 0 0],[bxA]⟩,⟨[.fd (.int .i64)],[bxA]⟩,false,[],[]⟩
theorem Tryz.m118.ok : plnOk En.Dop.D4 Tryz.prog 118 Tryz.m118.p = true := by kernel_rfl
def Tryz.m102_1000125.p : Pln := ⟨[],1,⟨[.al 0 0,.fn 1000125 [(0,0)]],[bxA]⟩,⟨[.fd (.int .i64)],[bxA]⟩,false,[],[]⟩
def Tryz.m125.p : Pln := ⟨[(3,⟨[[0,0,0,0,1,0,1,1],[0,1,0,0,1,0,1,1],[2,0,0,1,0,1,1],[1,0],[0,1,1,1]],[0,3,10,11,12],1,⟨[.al 0 0,.fd (.int .i64),.own 1 9,.fd (.int .i64),.fd (.int .i64)],[bxB]⟩⟩)],1,⟨[.al 0 0],[bxA]⟩,⟨[.fd (.int .i64)],[bxA]⟩,false,[],[]⟩
theorem Tryz.m125.ok : plnOk En.Dop.D4 Tryz.prog 125 Tryz.m125.p = true := by kernel_rfl
def Tryz.m131.p : Pln := ⟨[],1,⟨[.al 0 0],[bxA]⟩,⟨[.fd (.int .i64)],[bxA]⟩,false,[],[]⟩
theorem Tryz.m131.ok : plnOk En.Dop.D4 Tryz.prog 131 Tryz.m131.p = true := by kernel_rfl
def Tryz.m132.p : Pln := ⟨[(4,⟨[[0,0,0,0,0,0,1,1,1,0,1],[0,1,0,0,0,0,1,1,1,0,1],[0,1,0,0,0,1,1,1,0,1],[1,1],[2,0,0,1,1,1,0,1],[1,0],[3,0,1]],[0,1,5],1,⟨[.al 0 0,.fd (.int .i64),.fd (.int .i64)],[bxB]⟩⟩),(5,⟨[[0,0,0,0,1,0,0,0,0,1,1,1,0,1],[0,1,0,0,1,0,0,0,0,1,1,1,0,1],[2,0,0,1,0,0,0,0,1,1,1,0,1],[1,2],[0,1,0,0,0,1,1,1,0,1],[1,1],[2,0,0,1,1,1,0,1],[1,0],[3,0,1]],[0,1,5,24,25,26],1,⟨[.al 0 0,.fd (.int .i64),.fd (.int .i64),.own 1 9,.fd (.int .i64),.fd (.int .i64)],[bxB]⟩⟩)],1,⟨[.al 0 0,.fd (.int .i64)],[bxA]⟩,⟨[.fd (.int .i64)],[bxA]⟩,false,[],[]⟩
theorem Tryz.m132.ok : plnOk En.Dop.D4 Tryz.prog 132 Tryz.m132.p = true := by kernel_rfl
def Tryz.m134.p : Pln := ⟨[(3,⟨[[0,0,0,0,1,0,1,1],[0,1,0,0,1,0,1,1],[2,0,0,1,0,1,1],[1,0],[0,1,1,1]],[0,3,13,14,15],1,⟨[.al 0 0,.fd (.int .i64),.own 1 9,.fd (.int .i64),.fd (.int .i64)],[bxB]⟩⟩)],1,⟨[.al 0 0],[bxA]⟩,⟨[.fd (.int .i64)],[bxA]⟩,false,[(19,⟨[(0,true),(1,false),(2,true),(3,true),(4,true),(5,true),(6,false),(7,true),(8,true),(9,true),(10,true),(11,false),(12,false),(13,true),(14,true)],[1000000],[0,1,3,7,15,31,63,127,7,263,775,1799,3847,8191,16383],false⟩)],[]⟩
theorem Tryz.m134.ok : plnOk En.Dop.D4 Tryz.prog 134 Tryz.m134.p = true := by kernel_rfl
def Tryz.m102_1000134.p : Pln := ⟨[],1,⟨[.al 0 0,.fn 1000134 [(0,0)]],[bxA]⟩,⟨[.fd (.int .i64)],[bxA]⟩,false,[],[]⟩
def Tryz.m136.p : Pln := ⟨[],1,⟨[.al 0 0],[bxA]⟩,⟨[.fd (.int .i64)],[bxA]⟩,false,[(13,⟨[(0,true),(1,false),(2,true),(3,false),(4,true)],[5,1000004],[0,1,0,4,15,31],false⟩)],[]⟩
theorem Tryz.m136.ok : plnOk En.Dop.D4 Tryz.prog 136 Tryz.m136.p = true := by kernel_rfl
def Tryz.m137.p : Pln := ⟨[(2,⟨[[0,0,0,0,0,0,1,1],[0,1,0,0,0,0,1,1],[0,1,0,0,0,1,1],[2,0,0,0,1,1],[1,0],[0,1,1,1]],[0,3],1,⟨[.al 0 0,.own 0 3],[bxB]⟩⟩)],1,⟨[.al 0 0],[bxA]⟩,⟨[.fd (.int .i64)],[bxA]⟩,false,[],[]⟩
theorem Tryz.m137.ok : plnOk En.Dop.D4 Tryz.prog 137 Tryz.m137.p = true := by kernel_rfl
def Tryz.m135.p : Pln := ⟨[(1,⟨[[0,0,0,0,0,0,1],[0,1,0,0,0,0,1],[0,1,0,0,0,1],[2,0,0,0,1],[1,0],[0,1,1]],[0,1],1,⟨[.al 0 0,.fd (.int .i64)],[bxB]⟩⟩)],1,⟨[.al 0 0,.fd (.int .i64)],[bxA]⟩,⟨[.fd (.int .i64)],[bxA]⟩,false,[(12,⟨[(0,true),(1,true),(2,true),(3,false),(4,true),(5,true),(6,true),(7,false),(8,true),(9,false),(10,false),(11,false),(12,true)],[],[0,1,3,7,0,16,48,112,240,511,1023,2047,4095],false⟩),(17,⟨[(0,true),(1,true),(2,true),(3,false),(4,true),(5,true),(6,true),(7,false),(8,true),(9,false),(10,false),(11,false),(12,true),(13,false),(14,true)],[15,1000006],[0,1,3,7,0,16,48,112,240,511,1023,2047,0,4096,16383,32767],false⟩)],[]⟩
theorem Tryz.m135.ok : plnOk En.Dop.D4 Tryz.prog 135 Tryz.m135.p = true := by kernel_rfl
def Tryz.m102_1000131.p : Pln := ⟨[],1,⟨[.al 0 0,.fn 1000131 [(0,0)]],[bxA]⟩,⟨[.fd (.int .i64)],[bxA]⟩,false,[],[]⟩
@[reducible] def Tryz.g102.T : Type := (Spec.D En.Dop.D4 ⟨[.al 0 0],[bxA]⟩ → Option (Spec.D En.Dop.D4 ⟨[.fd (.int .i64)],[bxA]⟩)) × (Spec.D En.Dop.D4 ⟨[.al 0 0,.fn 1000125 [(0,0)]],[bxA]⟩ → Option (Spec.D En.Dop.D4 ⟨[.fd (.int .i64)],[bxA]⟩)) × (Spec.D En.Dop.D4 ⟨[.al 0 0],[bxA]⟩ → Option (Spec.D En.Dop.D4 ⟨[.fd (.int .i64)],[bxA]⟩)) × (Spec.D En.Dop.D4 ⟨[.al 0 0],[bxA]⟩ → Option (Spec.D En.Dop.D4 ⟨[.fd (.int .i64)],[bxA]⟩)) × (Spec.D En.Dop.D4 ⟨[.al 0 0,.fd (.int .i64)],[bxA]⟩ → Option (Spec.D En.Dop.D4 ⟨[.fd (.int .i64)],[bxA]⟩)) × (Spec.D En.Dop.D4 ⟨[.al 0 0],[bxA]⟩ → Option (Spec.D En.Dop.D4 ⟨[.fd (.int .i64)],[bxA]⟩)) × (Spec.D En.Dop.D4 ⟨[.al 0 0,.fn 1000134 [(0,0)]],[bxA]⟩ → Option (Spec.D En.Dop.D4 ⟨[.fd (.int .i64)],[bxA]⟩)) × (Spec.D En.Dop.D4 ⟨[.al 0 0],[bxA]⟩ → Option (Spec.D En.Dop.D4 ⟨[.fd (.int .i64)],[bxA]⟩)) × (Spec.D En.Dop.D4 ⟨[.al 0 0],[bxA]⟩ → Option (Spec.D En.Dop.D4 ⟨[.fd (.int .i64)],[bxA]⟩)) × (Spec.D En.Dop.D4 ⟨[.al 0 0,.fd (.int .i64)],[bxA]⟩ → Option (Spec.D En.Dop.D4 ⟨[.fd (.int .i64)],[bxA]⟩)) × (Spec.D En.Dop.D4 ⟨[.al 0 0,.fn 1000131 [(0,0)]],[bxA]⟩ → Option (Spec.D En.Dop.D4 ⟨[.fd (.int .i64)],[bxA]⟩)) × Unit
noncomputable def Tryz.g102.step (r : Tryz.g102.T) : Tryz.g102.T := ((envOf Tryz.prog 118 Tryz.tb ([⟨118,Tryz.m118.p.bn,Tryz.m118.p.sp,Tryz.m118.p.rs,Tryz.m118.p.flat,.opt (r.1)⟩,⟨102,Tryz.m102_1000125.p.bn,Tryz.m102_1000125.p.sp,Tryz.m102_1000125.p.rs,Tryz.m102_1000125.p.flat,.opt (r.2.1)⟩,⟨125,Tryz.m125.p.bn,Tryz.m125.p.sp,Tryz.m125.p.rs,Tryz.m125.p.flat,.opt (r.2.2.1)⟩,⟨131,Tryz.m131.p.bn,Tryz.m131.p.sp,Tryz.m131.p.rs,Tryz.m131.p.flat,.opt (r.2.2.2.1)⟩,⟨132,Tryz.m132.p.bn,Tryz.m132.p.sp,Tryz.m132.p.rs,Tryz.m132.p.flat,.opt (r.2.2.2.2.1)⟩,⟨134,Tryz.m134.p.bn,Tryz.m134.p.sp,Tryz.m134.p.rs,Tryz.m134.p.flat,.opt (r.2.2.2.2.2.1)⟩,⟨102,Tryz.m102_1000134.p.bn,Tryz.m102_1000134.p.sp,Tryz.m102_1000134.p.rs,Tryz.m102_1000134.p.flat,.opt (r.2.2.2.2.2.2.1)⟩,⟨136,Tryz.m136.p.bn,Tryz.m136.p.sp,Tryz.m136.p.rs,Tryz.m136.p.flat,.opt (r.2.2.2.2.2.2.2.1)⟩,⟨137,Tryz.m137.p.bn,Tryz.m137.p.sp,Tryz.m137.p.rs,Tryz.m137.p.flat,.opt (r.2.2.2.2.2.2.2.2.1)⟩,⟨135,Tryz.m135.p.bn,Tryz.m135.p.sp,Tryz.m135.p.rs,Tryz.m135.p.flat,.opt (r.2.2.2.2.2.2.2.2.2.1)⟩,⟨102,Tryz.m102_1000131.p.bn,Tryz.m102_1000131.p.sp,Tryz.m102_1000131.p.rs,Tryz.m102_1000131.p.flat,.opt (r.2.2.2.2.2.2.2.2.2.2.1)⟩] ++ []) Tryz.m118.p).run 3000 Tryz.m118.p.sp,fun x => Tryz.within r.2.2.1 x.2.1,(envOf Tryz.prog 125 Tryz.tb ([⟨118,Tryz.m118.p.bn,Tryz.m118.p.sp,Tryz.m118.p.rs,Tryz.m118.p.flat,.opt (r.1)⟩,⟨102,Tryz.m102_1000125.p.bn,Tryz.m102_1000125.p.sp,Tryz.m102_1000125.p.rs,Tryz.m102_1000125.p.flat,.opt (r.2.1)⟩,⟨125,Tryz.m125.p.bn,Tryz.m125.p.sp,Tryz.m125.p.rs,Tryz.m125.p.flat,.opt (r.2.2.1)⟩,⟨131,Tryz.m131.p.bn,Tryz.m131.p.sp,Tryz.m131.p.rs,Tryz.m131.p.flat,.opt (r.2.2.2.1)⟩,⟨132,Tryz.m132.p.bn,Tryz.m132.p.sp,Tryz.m132.p.rs,Tryz.m132.p.flat,.opt (r.2.2.2.2.1)⟩,⟨134,Tryz.m134.p.bn,Tryz.m134.p.sp,Tryz.m134.p.rs,Tryz.m134.p.flat,.opt (r.2.2.2.2.2.1)⟩,⟨102,Tryz.m102_1000134.p.bn,Tryz.m102_1000134.p.sp,Tryz.m102_1000134.p.rs,Tryz.m102_1000134.p.flat,.opt (r.2.2.2.2.2.2.1)⟩,⟨136,Tryz.m136.p.bn,Tryz.m136.p.sp,Tryz.m136.p.rs,Tryz.m136.p.flat,.opt (r.2.2.2.2.2.2.2.1)⟩,⟨137,Tryz.m137.p.bn,Tryz.m137.p.sp,Tryz.m137.p.rs,Tryz.m137.p.flat,.opt (r.2.2.2.2.2.2.2.2.1)⟩,⟨135,Tryz.m135.p.bn,Tryz.m135.p.sp,Tryz.m135.p.rs,Tryz.m135.p.flat,.opt (r.2.2.2.2.2.2.2.2.2.1)⟩,⟨102,Tryz.m102_1000131.p.bn,Tryz.m102_1000131.p.sp,Tryz.m102_1000131.p.rs,Tryz.m102_1000131.p.flat,.opt (r.2.2.2.2.2.2.2.2.2.2.1)⟩] ++ [Tryz.fields.c,Tryz.m32.c,Tryz.m61.c,Tryz.m57.c,Tryz.m64.c]) Tryz.m125.p).run 3000 Tryz.m125.p.sp,(envOf Tryz.prog 131 Tryz.tb ([⟨118,Tryz.m118.p.bn,Tryz.m118.p.sp,Tryz.m118.p.rs,Tryz.m118.p.flat,.opt (r.1)⟩,⟨102,Tryz.m102_1000125.p.bn,Tryz.m102_1000125.p.sp,Tryz.m102_1000125.p.rs,Tryz.m102_1000125.p.flat,.opt (r.2.1)⟩,⟨125,Tryz.m125.p.bn,Tryz.m125.p.sp,Tryz.m125.p.rs,Tryz.m125.p.flat,.opt (r.2.2.1)⟩,⟨131,Tryz.m131.p.bn,Tryz.m131.p.sp,Tryz.m131.p.rs,Tryz.m131.p.flat,.opt (r.2.2.2.1)⟩,⟨132,Tryz.m132.p.bn,Tryz.m132.p.sp,Tryz.m132.p.rs,Tryz.m132.p.flat,.opt (r.2.2.2.2.1)⟩,⟨134,Tryz.m134.p.bn,Tryz.m134.p.sp,Tryz.m134.p.rs,Tryz.m134.p.flat,.opt (r.2.2.2.2.2.1)⟩,⟨102,Tryz.m102_1000134.p.bn,Tryz.m102_1000134.p.sp,Tryz.m102_1000134.p.rs,Tryz.m102_1000134.p.flat,.opt (r.2.2.2.2.2.2.1)⟩,⟨136,Tryz.m136.p.bn,Tryz.m136.p.sp,Tryz.m136.p.rs,Tryz.m136.p.flat,.opt (r.2.2.2.2.2.2.2.1)⟩,⟨137,Tryz.m137.p.bn,Tryz.m137.p.sp,Tryz.m137.p.rs,Tryz.m137.p.flat,.opt (r.2.2.2.2.2.2.2.2.1)⟩,⟨135,Tryz.m135.p.bn,Tryz.m135.p.sp,Tryz.m135.p.rs,Tryz.m135.p.flat,.opt (r.2.2.2.2.2.2.2.2.2.1)⟩,⟨102,Tryz.m102_1000131.p.bn,Tryz.m102_1000131.p.sp,Tryz.m102_1000131.p.rs,Tryz.m102_1000131.p.flat,.opt (r.2.2.2.2.2.2.2.2.2.2.1)⟩] ++ [Tryz.m32.c,Tryz.m61.c,Tryz.m57.c,Tryz.m59.c,Tryz.m64.c]) Tryz.m131.p).run 3000 Tryz.m131.p.sp,(envOf Tryz.prog 132 Tryz.tb ([⟨118,Tryz.m118.p.bn,Tryz.m118.p.sp,Tryz.m118.p.rs,Tryz.m118.p.flat,.opt (r.1)⟩,⟨102,Tryz.m102_1000125.p.bn,Tryz.m102_1000125.p.sp,Tryz.m102_1000125.p.rs,Tryz.m102_1000125.p.flat,.opt (r.2.1)⟩,⟨125,Tryz.m125.p.bn,Tryz.m125.p.sp,Tryz.m125.p.rs,Tryz.m125.p.flat,.opt (r.2.2.1)⟩,⟨131,Tryz.m131.p.bn,Tryz.m131.p.sp,Tryz.m131.p.rs,Tryz.m131.p.flat,.opt (r.2.2.2.1)⟩,⟨132,Tryz.m132.p.bn,Tryz.m132.p.sp,Tryz.m132.p.rs,Tryz.m132.p.flat,.opt (r.2.2.2.2.1)⟩,⟨134,Tryz.m134.p.bn,Tryz.m134.p.sp,Tryz.m134.p.rs,Tryz.m134.p.flat,.opt (r.2.2.2.2.2.1)⟩,⟨102,Tryz.m102_1000134.p.bn,Tryz.m102_1000134.p.sp,Tryz.m102_1000134.p.rs,Tryz.m102_1000134.p.flat,.opt (r.2.2.2.2.2.2.1)⟩,⟨136,Tryz.m136.p.bn,Tryz.m136.p.sp,Tryz.m136.p.rs,Tryz.m136.p.flat,.opt (r.2.2.2.2.2.2.2.1)⟩,⟨137,Tryz.m137.p.bn,Tryz.m137.p.sp,Tryz.m137.p.rs,Tryz.m137.p.flat,.opt (r.2.2.2.2.2.2.2.2.1)⟩,⟨135,Tryz.m135.p.bn,Tryz.m135.p.sp,Tryz.m135.p.rs,Tryz.m135.p.flat,.opt (r.2.2.2.2.2.2.2.2.2.1)⟩,⟨102,Tryz.m102_1000131.p.bn,Tryz.m102_1000131.p.sp,Tryz.m102_1000131.p.rs,Tryz.m102_1000131.p.flat,.opt (r.2.2.2.2.2.2.2.2.2.2.1)⟩] ++ [Tryz.m133.c,Tryz.fields.c,Tryz.m32.c,Tryz.m61.c,Tryz.m57.c,Tryz.m64.c]) Tryz.m132.p).run 3000 Tryz.m132.p.sp,(envOf Tryz.prog 134 Tryz.tb ([⟨118,Tryz.m118.p.bn,Tryz.m118.p.sp,Tryz.m118.p.rs,Tryz.m118.p.flat,.opt (r.1)⟩,⟨102,Tryz.m102_1000125.p.bn,Tryz.m102_1000125.p.sp,Tryz.m102_1000125.p.rs,Tryz.m102_1000125.p.flat,.opt (r.2.1)⟩,⟨125,Tryz.m125.p.bn,Tryz.m125.p.sp,Tryz.m125.p.rs,Tryz.m125.p.flat,.opt (r.2.2.1)⟩,⟨131,Tryz.m131.p.bn,Tryz.m131.p.sp,Tryz.m131.p.rs,Tryz.m131.p.flat,.opt (r.2.2.2.1)⟩,⟨132,Tryz.m132.p.bn,Tryz.m132.p.sp,Tryz.m132.p.rs,Tryz.m132.p.flat,.opt (r.2.2.2.2.1)⟩,⟨134,Tryz.m134.p.bn,Tryz.m134.p.sp,Tryz.m134.p.rs,Tryz.m134.p.flat,.opt (r.2.2.2.2.2.1)⟩,⟨102,Tryz.m102_1000134.p.bn,Tryz.m102_1000134.p.sp,Tryz.m102_1000134.p.rs,Tryz.m102_1000134.p.flat,.opt (r.2.2.2.2.2.2.1)⟩,⟨136,Tryz.m136.p.bn,Tryz.m136.p.sp,Tryz.m136.p.rs,Tryz.m136.p.flat,.opt (r.2.2.2.2.2.2.2.1)⟩,⟨137,Tryz.m137.p.bn,Tryz.m137.p.sp,Tryz.m137.p.rs,Tryz.m137.p.flat,.opt (r.2.2.2.2.2.2.2.2.1)⟩,⟨135,Tryz.m135.p.bn,Tryz.m135.p.sp,Tryz.m135.p.rs,Tryz.m135.p.flat,.opt (r.2.2.2.2.2.2.2.2.2.1)⟩,⟨102,Tryz.m102_1000131.p.bn,Tryz.m102_1000131.p.sp,Tryz.m102_1000131.p.rs,Tryz.m102_1000131.p.flat,.opt (r.2.2.2.2.2.2.2.2.2.2.1)⟩] ++ [Tryz.m32.c,Tryz.fields.c,Tryz.m61.c,Tryz.m57.c,Tryz.m64.c,Tryz.m59.c,Tryz.m82.c,Tryz.m63.c,Tryz.m58.c,Tryz.m117q.c]) Tryz.m134.p).run 3000 Tryz.m134.p.sp,fun x => Tryz.within r.2.2.2.2.2.1 x.2.1,(envOf Tryz.prog 136 Tryz.tb ([⟨118,Tryz.m118.p.bn,Tryz.m118.p.sp,Tryz.m118.p.rs,Tryz.m118.p.flat,.opt (r.1)⟩,⟨102,Tryz.m102_1000125.p.bn,Tryz.m102_1000125.p.sp,Tryz.m102_1000125.p.rs,Tryz.m102_1000125.p.flat,.opt (r.2.1)⟩,⟨125,Tryz.m125.p.bn,Tryz.m125.p.sp,Tryz.m125.p.rs,Tryz.m125.p.flat,.opt (r.2.2.1)⟩,⟨131,Tryz.m131.p.bn,Tryz.m131.p.sp,Tryz.m131.p.rs,Tryz.m131.p.flat,.opt (r.2.2.2.1)⟩,⟨132,Tryz.m132.p.bn,Tryz.m132.p.sp,Tryz.m132.p.rs,Tryz.m132.p.flat,.opt (r.2.2.2.2.1)⟩,⟨134,Tryz.m134.p.bn,Tryz.m134.p.sp,Tryz.m134.p.rs,Tryz.m134.p.flat,.opt (r.2.2.2.2.2.1)⟩,⟨102,Tryz.m102_1000134.p.bn,Tryz.m102_1000134.p.sp,Tryz.m102_1000134.p.rs,Tryz.m102_1000134.p.flat,.opt (r.2.2.2.2.2.2.1)⟩,⟨136,Tryz.m136.p.bn,Tryz.m136.p.sp,Tryz.m136.p.rs,Tryz.m136.p.flat,.opt (r.2.2.2.2.2.2.2.1)⟩,⟨137,Tryz.m137.p.bn,Tryz.m137.p.sp,Tryz.m137.p.rs,Tryz.m137.p.flat,.opt (r.2.2.2.2.2.2.2.2.1)⟩,⟨135,Tryz.m135.p.bn,Tryz.m135.p.sp,Tryz.m135.p.rs,Tryz.m135.p.flat,.opt (r.2.2.2.2.2.2.2.2.2.1)⟩,⟨102,Tryz.m102_1000131.p.bn,Tryz.m102_1000131.p.sp,Tryz.m102_1000131.p.rs,Tryz.m102_1000131.p.flat,.opt (r.2.2.2.2.2.2.2.2.2.2.1)⟩] ++ [Tryz.m32.c,Tryz.m57.c,Tryz.m61.c,Tryz.m59.c,Tryz.m64.c]) Tryz.m136.p).run 3000 Tryz.m136.p.sp,(envOf Tryz.prog 137 Tryz.tb ([⟨118,Tryz.m118.p.bn,Tryz.m118.p.sp,Tryz.m118.p.rs,Tryz.m118.p.flat,.opt (r.1)⟩,⟨102,Tryz.m102_1000125.p.bn,Tryz.m102_1000125.p.sp,Tryz.m102_1000125.p.rs,Tryz.m102_1000125.p.flat,.opt (r.2.1)⟩,⟨125,Tryz.m125.p.bn,Tryz.m125.p.sp,Tryz.m125.p.rs,Tryz.m125.p.flat,.opt (r.2.2.1)⟩,⟨131,Tryz.m131.p.bn,Tryz.m131.p.sp,Tryz.m131.p.rs,Tryz.m131.p.flat,.opt (r.2.2.2.1)⟩,⟨132,Tryz.m132.p.bn,Tryz.m132.p.sp,Tryz.m132.p.rs,Tryz.m132.p.flat,.opt (r.2.2.2.2.1)⟩,⟨134,Tryz.m134.p.bn,Tryz.m134.p.sp,Tryz.m134.p.rs,Tryz.m134.p.flat,.opt (r.2.2.2.2.2.1)⟩,⟨102,Tryz.m102_1000134.p.bn,Tryz.m102_1000134.p.sp,Tryz.m102_1000134.p.rs,Tryz.m102_1000134.p.flat,.opt (r.2.2.2.2.2.2.1)⟩,⟨136,Tryz.m136.p.bn,Tryz.m136.p.sp,Tryz.m136.p.rs,Tryz.m136.p.flat,.opt (r.2.2.2.2.2.2.2.1)⟩,⟨137,Tryz.m137.p.bn,Tryz.m137.p.sp,Tryz.m137.p.rs,Tryz.m137.p.flat,.opt (r.2.2.2.2.2.2.2.2.1)⟩,⟨135,Tryz.m135.p.bn,Tryz.m135.p.sp,Tryz.m135.p.rs,Tryz.m135.p.flat,.opt (r.2.2.2.2.2.2.2.2.2.1)⟩,⟨102,Tryz.m102_1000131.p.bn,Tryz.m102_1000131.p.sp,Tryz.m102_1000131.p.rs,Tryz.m102_1000131.p.flat,.opt (r.2.2.2.2.2.2.2.2.2.2.1)⟩] ++ [Tryz.m61.c,Tryz.m59.c,Tryz.m34.c]) Tryz.m137.p).run 3000 Tryz.m137.p.sp,(envOf Tryz.prog 135 Tryz.tb ([⟨118,Tryz.m118.p.bn,Tryz.m118.p.sp,Tryz.m118.p.rs,Tryz.m118.p.flat,.opt (r.1)⟩,⟨102,Tryz.m102_1000125.p.bn,Tryz.m102_1000125.p.sp,Tryz.m102_1000125.p.rs,Tryz.m102_1000125.p.flat,.opt (r.2.1)⟩,⟨125,Tryz.m125.p.bn,Tryz.m125.p.sp,Tryz.m125.p.rs,Tryz.m125.p.flat,.opt (r.2.2.1)⟩,⟨131,Tryz.m131.p.bn,Tryz.m131.p.sp,Tryz.m131.p.rs,Tryz.m131.p.flat,.opt (r.2.2.2.1)⟩,⟨132,Tryz.m132.p.bn,Tryz.m132.p.sp,Tryz.m132.p.rs,Tryz.m132.p.flat,.opt (r.2.2.2.2.1)⟩,⟨134,Tryz.m134.p.bn,Tryz.m134.p.sp,Tryz.m134.p.rs,Tryz.m134.p.flat,.opt (r.2.2.2.2.2.1)⟩,⟨102,Tryz.m102_1000134.p.bn,Tryz.m102_1000134.p.sp,Tryz.m102_1000134.p.rs,Tryz.m102_1000134.p.flat,.opt (r.2.2.2.2.2.2.1)⟩,⟨136,Tryz.m136.p.bn,Tryz.m136.p.sp,Tryz.m136.p.rs,Tryz.m136.p.flat,.opt (r.2.2.2.2.2.2.2.1)⟩,⟨137,Tryz.m137.p.bn,Tryz.m137.p.sp,Tryz.m137.p.rs,Tryz.m137.p.flat,.opt (r.2.2.2.2.2.2.2.2.1)⟩,⟨135,Tryz.m135.p.bn,Tryz.m135.p.sp,Tryz.m135.p.rs,Tryz.m135.p.flat,.opt (r.2.2.2.2.2.2.2.2.2.1)⟩,⟨102,Tryz.m102_1000131.p.bn,Tryz.m102_1000131.p.sp,Tryz.m102_1000131.p.rs,Tryz.m102_1000131.p.flat,.opt (r.2.2.2.2.2.2.2.2.2.2.1)⟩] ++ [Tryz.m32.c,Tryz.m57.c,Tryz.m61.c,Tryz.m59.c,Tryz.m60.c,Tryz.m64.c]) Tryz.m135.p).run 3000 Tryz.m135.p.sp,fun x => Tryz.within r.2.2.2.1 x.2.1,())
noncomputable def Tryz.g102.R (n : Nat) : Tryz.g102.T := Nat.rec (motive := fun _ => Tryz.g102.T) (fun _ => none,fun _ => none,fun _ => none,fun _ => none,fun _ => none,fun _ => none,fun _ => none,fun _ => none,fun _ => none,fun _ => none,fun _ => none,()) (fun _ r => Tryz.g102.step r) n
noncomputable def Tryz.m118.R (n : Nat) : Spec.D En.Dop.D4 ⟨[.al 0 0],[bxA]⟩ → Option (Spec.D En.Dop.D4 ⟨[.fd (.int .i64)],[bxA]⟩) := (Tryz.g102.R n).1
noncomputable def Tryz.m118.c (n : Nat) : Ctr En.Dop.D4 := ⟨118,Tryz.m118.p.bn,Tryz.m118.p.sp,Tryz.m118.p.rs,Tryz.m118.p.flat,.opt (Tryz.m118.R n)⟩
noncomputable def Tryz.m118.cf : Ctr En.Dop.D4 := Tryz.m118.c FU
noncomputable def Tryz.m102_1000125.R (n : Nat) : Spec.D En.Dop.D4 ⟨[.al 0 0,.fn 1000125 [(0,0)]],[bxA]⟩ → Option (Spec.D En.Dop.D4 ⟨[.fd (.int .i64)],[bxA]⟩) := (Tryz.g102.R n).2.1
noncomputable def Tryz.m102_1000125.c (n : Nat) : Ctr En.Dop.D4 := ⟨102,Tryz.m102_1000125.p.bn,Tryz.m102_1000125.p.sp,Tryz.m102_1000125.p.rs,Tryz.m102_1000125.p.flat,.opt (Tryz.m102_1000125.R n)⟩
noncomputable def Tryz.m125.R (n : Nat) : Spec.D En.Dop.D4 ⟨[.al 0 0],[bxA]⟩ → Option (Spec.D En.Dop.D4 ⟨[.fd (.int .i64)],[bxA]⟩) := (Tryz.g102.R n).2.2.1
noncomputable def Tryz.m125.c (n : Nat) : Ctr En.Dop.D4 := ⟨125,Tryz.m125.p.bn,Tryz.m125.p.sp,Tryz.m125.p.rs,Tryz.m125.p.flat,.opt (Tryz.m125.R n)⟩
noncomputable def Tryz.m131.R (n : Nat) : Spec.D En.Dop.D4 ⟨[.al 0 0],[bxA]⟩ → Option (Spec.D En.Dop.D4 ⟨[.fd (.int .i64)],[bxA]⟩) := (Tryz.g102.R n).2.2.2.1
noncomputable def Tryz.m131.c (n : Nat) : Ctr En.Dop.D4 := ⟨131,Tryz.m131.p.bn,Tryz.m131.p.sp,Tryz.m131.p.rs,Tryz.m131.p.flat,.opt (Tryz.m131.R n)⟩
noncomputable def Tryz.m132.R (n : Nat) : Spec.D En.Dop.D4 ⟨[.al 0 0,.fd (.int .i64)],[bxA]⟩ → Option (Spec.D En.Dop.D4 ⟨[.fd (.int .i64)],[bxA]⟩) := (Tryz.g102.R n).2.2.2.2.1
noncomputable def Tryz.m132.c (n : Nat) : Ctr En.Dop.D4 := ⟨132,Tryz.m132.p.bn,Tryz.m132.p.sp,Tryz.m132.p.rs,Tryz.m132.p.flat,.opt (Tryz.m132.R n)⟩
noncomputable def Tryz.m134.R (n : Nat) : Spec.D En.Dop.D4 ⟨[.al 0 0],[bxA]⟩ → Option (Spec.D En.Dop.D4 ⟨[.fd (.int .i64)],[bxA]⟩) := (Tryz.g102.R n).2.2.2.2.2.1
noncomputable def Tryz.m134.c (n : Nat) : Ctr En.Dop.D4 := ⟨134,Tryz.m134.p.bn,Tryz.m134.p.sp,Tryz.m134.p.rs,Tryz.m134.p.flat,.opt (Tryz.m134.R n)⟩
noncomputable def Tryz.m102_1000134.R (n : Nat) : Spec.D En.Dop.D4 ⟨[.al 0 0,.fn 1000134 [(0,0)]],[bxA]⟩ → Option (Spec.D En.Dop.D4 ⟨[.fd (.int .i64)],[bxA]⟩) := (Tryz.g102.R n).2.2.2.2.2.2.1
noncomputable def Tryz.m102_1000134.c (n : Nat) : Ctr En.Dop.D4 := ⟨102,Tryz.m102_1000134.p.bn,Tryz.m102_1000134.p.sp,Tryz.m102_1000134.p.rs,Tryz.m102_1000134.p.flat,.opt (Tryz.m102_1000134.R n)⟩
noncomputable def Tryz.m136.R (n : Nat) : Spec.D En.Dop.D4 ⟨[.al 0 0],[bxA]⟩ → Option (Spec.D En.Dop.D4 ⟨[.fd (.int .i64)],[bxA]⟩) := (Tryz.g102.R n).2.2.2.2.2.2.2.1
noncomputable def Tryz.m136.c (n : Nat) : Ctr En.Dop.D4 := ⟨136,Tryz.m136.p.bn,Tryz.m136.p.sp,Tryz.m136.p.rs,Tryz.m136.p.flat,.opt (Tryz.m136.R n)⟩
noncomputable def Tryz.m137.R (n : Nat) : Spec.D En.Dop.D4 ⟨[.al 0 0],[bxA]⟩ → Option (Spec.D En.Dop.D4 ⟨[.fd (.int .i64)],[bxA]⟩) := (Tryz.g102.R n).2.2.2.2.2.2.2.2.1
noncomputable def Tryz.m137.c (n : Nat) : Ctr En.Dop.D4 := ⟨137,Tryz.m137.p.bn,Tryz.m137.p.sp,Tryz.m137.p.rs,Tryz.m137.p.flat,.opt (Tryz.m137.R n)⟩
noncomputable def Tryz.m135.R (n : Nat) : Spec.D En.Dop.D4 ⟨[.al 0 0,.fd (.int .i64)],[bxA]⟩ → Option (Spec.D En.Dop.D4 ⟨[.fd (.int .i64)],[bxA]⟩) := (Tryz.g102.R n).2.2.2.2.2.2.2.2.2.1
noncomputable def Tryz.m135.c (n : Nat) : Ctr En.Dop.D4 := ⟨135,Tryz.m135.p.bn,Tryz.m135.p.sp,Tryz.m135.p.rs,Tryz.m135.p.flat,.opt (Tryz.m135.R n)⟩
noncomputable def Tryz.m102_1000131.R (n : Nat) : Spec.D En.Dop.D4 ⟨[.al 0 0,.fn 1000131 [(0,0)]],[bxA]⟩ → Option (Spec.D En.Dop.D4 ⟨[.fd (.int .i64)],[bxA]⟩) := (Tryz.g102.R n).2.2.2.2.2.2.2.2.2.2.1
noncomputable def Tryz.m102_1000131.c (n : Nat) : Ctr En.Dop.D4 := ⟨102,Tryz.m102_1000131.p.bn,Tryz.m102_1000131.p.sp,Tryz.m102_1000131.p.rs,Tryz.m102_1000131.p.flat,.opt (Tryz.m102_1000131.R n)⟩
noncomputable def Tryz.m125.E (n : Nat) : Env En.Dop.D4 := envOf Tryz.prog 125 Tryz.tb ([Tryz.m118.c n,Tryz.m102_1000125.c n,Tryz.m125.c n,Tryz.m131.c n,Tryz.m132.c n,Tryz.m134.c n,Tryz.m102_1000134.c n,Tryz.m136.c n,Tryz.m137.c n,Tryz.m135.c n,Tryz.m102_1000131.c n] ++ [Tryz.fields.c,Tryz.m32.c,Tryz.m61.c,Tryz.m57.c,Tryz.m64.c]) Tryz.m125.p
noncomputable def Tryz.m132.E (n : Nat) : Env En.Dop.D4 := envOf Tryz.prog 132 Tryz.tb ([Tryz.m118.c n,Tryz.m102_1000125.c n,Tryz.m125.c n,Tryz.m131.c n,Tryz.m132.c n,Tryz.m134.c n,Tryz.m102_1000134.c n,Tryz.m136.c n,Tryz.m137.c n,Tryz.m135.c n,Tryz.m102_1000131.c n] ++ [Tryz.m133.c,Tryz.fields.c,Tryz.m32.c,Tryz.m61.c,Tryz.m57.c,Tryz.m64.c]) Tryz.m132.p
noncomputable def Tryz.m134.E (n : Nat) : Env En.Dop.D4 := envOf Tryz.prog 134 Tryz.tb ([Tryz.m118.c n,Tryz.m102_1000125.c n,Tryz.m125.c n,Tryz.m131.c n,Tryz.m132.c n,Tryz.m134.c n,Tryz.m102_1000134.c n,Tryz.m136.c n,Tryz.m137.c n,Tryz.m135.c n,Tryz.m102_1000131.c n] ++ [Tryz.m32.c,Tryz.fields.c,Tryz.m61.c,Tryz.m57.c,Tryz.m64.c,Tryz.m59.c,Tryz.m82.c,Tryz.m63.c,Tryz.m58.c,Tryz.m117q.c]) Tryz.m134.p
noncomputable def Tryz.m137.E (n : Nat) : Env En.Dop.D4 := envOf Tryz.prog 137 Tryz.tb ([Tryz.m118.c n,Tryz.m102_1000125.c n,Tryz.m125.c n,Tryz.m131.c n,Tryz.m132.c n,Tryz.m134.c n,Tryz.m102_1000134.c n,Tryz.m136.c n,Tryz.m137.c n,Tryz.m135.c n,Tryz.m102_1000131.c n] ++ [Tryz.m61.c,Tryz.m59.c,Tryz.m34.c]) Tryz.m137.p
noncomputable def Tryz.m135.E (n : Nat) : Env En.Dop.D4 := envOf Tryz.prog 135 Tryz.tb ([Tryz.m118.c n,Tryz.m102_1000125.c n,Tryz.m125.c n,Tryz.m131.c n,Tryz.m132.c n,Tryz.m134.c n,Tryz.m102_1000134.c n,Tryz.m136.c n,Tryz.m137.c n,Tryz.m135.c n,Tryz.m102_1000131.c n] ++ [Tryz.m32.c,Tryz.m57.c,Tryz.m61.c,Tryz.m59.c,Tryz.m60.c,Tryz.m64.c]) Tryz.m135.p
theorem Tryz.g102.all : ∀ n,(Tryz.m118.c n).Holds Tryz.prog ∧ (Tryz.m102_1000125.c n).Holds Tryz.prog ∧ (Tryz.m125.c n).Holds Tryz.prog ∧ (Tryz.m131.c n).Holds Tryz.prog ∧ (Tryz.m132.c n).Holds Tryz.prog ∧ (Tryz.m134.c n).Holds Tryz.prog ∧ (Tryz.m102_1000134.c n).Holds Tryz.prog ∧ (Tryz.m136.c n).Holds Tryz.prog ∧ (Tryz.m137.c n).Holds Tryz.prog ∧ (Tryz.m135.c n).Holds Tryz.prog ∧ (Tryz.m102_1000131.c n).Holds Tryz.prog ∧ True
 | 0 => ⟨ctr_none Tryz.tbOk Tryz.m118.ok,ctr_none Tryz.tbOk (by kernel_rfl),ctr_none Tryz.tbOk Tryz.m125.ok,ctr_none Tryz.tbOk Tryz.m131.ok,ctr_none Tryz.tbOk Tryz.m132.ok,ctr_none Tryz.tbOk Tryz.m134.ok,ctr_none Tryz.tbOk (by kernel_rfl),ctr_none Tryz.tbOk Tryz.m136.ok,ctr_none Tryz.tbOk Tryz.m137.ok,ctr_none Tryz.tbOk Tryz.m135.ok,ctr_none Tryz.tbOk (by kernel_rfl),trivial⟩
 | n + 1 => by
  obtain ⟨h0,h1,h2,h3,h4,h5,h6,h7,h8,h9,h10,_⟩ := Tryz.g102.all n
  exact ⟨fun_ctr 3000 Tryz.tbOk (hct_app (hct_cons h0 (hct_cons h1 (hct_cons h2 (hct_cons h3 (hct_cons h4 (hct_cons h5 (hct_cons h6 (hct_cons h7 (hct_cons h8 (hct_cons h9 (hct_cons h10 hct_nil))))))))))) hct_nil) Tryz.m118.ok,(w125.holds (m := Tryz.m125.R n) h2),fun_ctr 3000 Tryz.tbOk (hct_app (hct_cons h0 (hct_cons h1 (hct_cons h2 (hct_cons h3 (hct_cons h4 (hct_cons h5 (hct_cons h6 (hct_cons h7 (hct_cons h8 (hct_cons h9 (hct_cons h10 hct_nil))))))))))) (hct_cons Tryz.fields.holds (hct_cons Tryz.m32.holds (hct_cons Tryz.m61.holds (hct_cons Tryz.m57.holds (hct_cons Tryz.m64.holds hct_nil)))))) Tryz.m125.ok,fun_ctr 3000 Tryz.tbOk (hct_app (hct_cons h0 (hct_cons h1 (hct_cons h2 (hct_cons h3 (hct_cons h4 (hct_cons h5 (hct_cons h6 (hct_cons h7 (hct_cons h8 (hct_cons h9 (hct_cons h10 hct_nil))))))))))) (hct_cons Tryz.m32.holds (hct_cons Tryz.m61.holds (hct_cons Tryz.m57.holds (hct_cons Tryz.m59.holds (hct_cons Tryz.m64.holds hct_nil)))))) Tryz.m131.ok,fun_ctr 3000 Tryz.tbOk (hct_app (hct_cons h0 (hct_cons h1 (hct_cons h2 (hct_cons h3 (hct_cons h4 (hct_cons h5 (hct_cons h6 (hct_cons h7 (hct_cons h8 (hct_cons h9 (hct_cons h10 hct_nil))))))))))) (hct_cons Tryz.m133.holds (hct_cons Tryz.fields.holds (hct_cons Tryz.m32.holds (hct_cons Tryz.m61.holds (hct_cons Tryz.m57.holds (hct_cons Tryz.m64.holds hct_nil))))))) Tryz.m132.ok,fun_ctr 3000 Tryz.tbOk (hct_app (hct_cons h0 (hct_cons h1 (hct_cons h2 (hct_cons h3 (hct_cons h4 (hct_cons h5 (hct_cons h6 (hct_cons h7 (hct_cons h8 (hct_cons h9 (hct_cons h10 hct_nil))))))))))) (hct_cons Tryz.m32.holds (hct_cons Tryz.fields.holds (hct_cons Tryz.m61.holds (hct_cons Tryz.m57.holds (hct_cons Tryz.m64.holds (hct_cons Tryz.m59.holds (hct_cons Tryz.m82.holds (hct_cons Tryz.m63.holds (hct_cons Tryz.m58.holds (hct_cons Tryz.m117q.holds hct_nil))))))))))) Tryz.m134.ok,(w134.holds (m := Tryz.m134.R n) h5),fun_ctr 3000 Tryz.tbOk (hct_app (hct_cons h0 (hct_cons h1 (hct_cons h2 (hct_cons h3 (hct_cons h4 (hct_cons h5 (hct_cons h6 (hct_cons h7 (hct_cons h8 (hct_cons h9 (hct_cons h10 hct_nil))))))))))) (hct_cons Tryz.m32.holds (hct_cons Tryz.m57.holds (hct_cons Tryz.m61.holds (hct_cons Tryz.m59.holds (hct_cons Tryz.m64.holds hct_nil)))))) Tryz.m136.ok,fun_ctr 3000 Tryz.tbOk (hct_app (hct_cons h0 (hct_cons h1 (hct_cons h2 (hct_cons h3 (hct_cons h4 (hct_cons h5 (hct_cons h6 (hct_cons h7 (hct_cons h8 (hct_cons h9 (hct_cons h10 hct_nil))))))))))) (hct_cons Tryz.m61.holds (hct_cons Tryz.m59.holds (hct_cons Tryz.m34.holds hct_nil)))) Tryz.m137.ok,fun_ctr 3000 Tryz.tbOk (hct_app (hct_cons h0 (hct_cons h1 (hct_cons h2 (hct_cons h3 (hct_cons h4 (hct_cons h5 (hct_cons h6 (hct_cons h7 (hct_cons h8 (hct_cons h9 (hct_cons h10 hct_nil))))))))))) (hct_cons Tryz.m32.holds (hct_cons Tryz.m57.holds (hct_cons Tryz.m61.holds (hct_cons Tryz.m59.holds (hct_cons Tryz.m60.holds (hct_cons Tryz.m64.holds hct_nil))))))) Tryz.m135.ok,(w131.holds (m := Tryz.m131.R n) h3),trivial⟩
theorem Tryz.m118.holdsf : Tryz.m118.cf.Holds Tryz.prog := (Tryz.g102.all FU).1
noncomputable def Tryz.m118 (n : Nat) (c0 : List Dop.Tok) (c1 : Int) (c2 : List Dop.Nde) (c3 : List Dop.Typ) (c4 c5 c6 c7 : Int) : Option (Spec.D En.Dop.D4 ⟨[.fd (.int .i64)],[bxA]⟩) := Tryz.m118.R n (((),()),((c0,c1,c2,c3,c4,c5,c6,c7,()),()))
noncomputable def Tryz.m102_1000125 (n : Nat) (c0 : List Dop.Tok) (c1 : Int) (c2 : List Dop.Nde) (c3 : List Dop.Typ) (c4 c5 c6 c7 : Int) : Option (Spec.D En.Dop.D4 ⟨[.fd (.int .i64)],[bxA]⟩) := Tryz.m102_1000125.R n (((),(),()),((c0,c1,c2,c3,c4,c5,c6,c7,()),()))
noncomputable def Tryz.m125 (n : Nat) (c0 : List Dop.Tok) (c1 : Int) (c2 : List Dop.Nde) (c3 : List Dop.Typ) (c4 c5 c6 c7 : Int) : Option (Spec.D En.Dop.D4 ⟨[.fd (.int .i64)],[bxA]⟩) := Tryz.m125.R n (((),()),((c0,c1,c2,c3,c4,c5,c6,c7,()),()))
noncomputable def Tryz.m125_3 (n : Nat) (a : Int) (t10 : List (List UInt8)) (t11 : Int) (t12 : Int) (c0 : List Dop.Tok) (c1 : Int) (c2 : List Dop.Nde) (c3 : List Dop.Typ) (c4 c5 c6 c7 : Int) : Option (Spec.D En.Dop.D4 ⟨[.fd (.int .i64)],[bxA]⟩) := (Tryz.m125.E n).cut 3000 3 (((),a,t10,t11,t12,()),((c0,c1,c2,c3,c4,c5,c6,c7,()),()))
noncomputable def Tryz.m131 (n : Nat) (c0 : List Dop.Tok) (c1 : Int) (c2 : List Dop.Nde) (c3 : List Dop.Typ) (c4 c5 c6 c7 : Int) : Option (Spec.D En.Dop.D4 ⟨[.fd (.int .i64)],[bxA]⟩) := Tryz.m131.R n (((),()),((c0,c1,c2,c3,c4,c5,c6,c7,()),()))
noncomputable def Tryz.m132 (n : Nat) (k : Int) (c0 : List Dop.Tok) (c1 : Int) (c2 : List Dop.Nde) (c3 : List Dop.Typ) (c4 c5 c6 c7 : Int) : Option (Spec.D En.Dop.D4 ⟨[.fd (.int .i64)],[bxA]⟩) := Tryz.m132.R n (((),k,()),((c0,c1,c2,c3,c4,c5,c6,c7,()),()))
noncomputable def Tryz.m132_4 (n : Nat) (k : Int) (a : Int) (c0 : List Dop.Tok) (c1 : Int) (c2 : List Dop.Nde) (c3 : List Dop.Typ) (c4 c5 c6 c7 : Int) : Option (Spec.D En.Dop.D4 ⟨[.fd (.int .i64)],[bxA]⟩) := (Tryz.m132.E n).cut 3000 4 (((),k,a,()),((c0,c1,c2,c3,c4,c5,c6,c7,()),()))
noncomputable def Tryz.m132_5 (n : Nat) (k : Int) (a : Int) (t24 : List (List UInt8)) (t25 : Int) (t26 : Int) (c0 : List Dop.Tok) (c1 : Int) (c2 : List Dop.Nde) (c3 : List Dop.Typ) (c4 c5 c6 c7 : Int) : Option (Spec.D En.Dop.D4 ⟨[.fd (.int .i64)],[bxA]⟩) := (Tryz.m132.E n).cut 3000 5 (((),k,a,t24,t25,t26,()),((c0,c1,c2,c3,c4,c5,c6,c7,()),()))
noncomputable def Tryz.m134 (n : Nat) (c0 : List Dop.Tok) (c1 : Int) (c2 : List Dop.Nde) (c3 : List Dop.Typ) (c4 c5 c6 c7 : Int) : Option (Spec.D En.Dop.D4 ⟨[.fd (.int .i64)],[bxA]⟩) := Tryz.m134.R n (((),()),((c0,c1,c2,c3,c4,c5,c6,c7,()),()))
noncomputable def Tryz.m134_3 (n : Nat) (t3 : Int) (t13 : List (List UInt8)) (t14 : Int) (t15 : Int) (c0 : List Dop.Tok) (c1 : Int) (c2 : List Dop.Nde) (c3 : List Dop.Typ) (c4 c5 c6 c7 : Int) : Option (Spec.D En.Dop.D4 ⟨[.fd (.int .i64)],[bxA]⟩) := (Tryz.m134.E n).cut 3000 3 (((),t3,t13,t14,t15,()),((c0,c1,c2,c3,c4,c5,c6,c7,()),()))
noncomputable def Tryz.m102_1000134 (n : Nat) (c0 : List Dop.Tok) (c1 : Int) (c2 : List Dop.Nde) (c3 : List Dop.Typ) (c4 c5 c6 c7 : Int) : Option (Spec.D En.Dop.D4 ⟨[.fd (.int .i64)],[bxA]⟩) := Tryz.m102_1000134.R n (((),(),()),((c0,c1,c2,c3,c4,c5,c6,c7,()),()))
noncomputable def Tryz.m136 (n : Nat) (c0 : List Dop.Tok) (c1 : Int) (c2 : List Dop.Nde) (c3 : List Dop.Typ) (c4 c5 c6 c7 : Int) : Option (Spec.D En.Dop.D4 ⟨[.fd (.int .i64)],[bxA]⟩) := Tryz.m136.R n (((),()),((c0,c1,c2,c3,c4,c5,c6,c7,()),()))
noncomputable def Tryz.m137 (n : Nat) (c0 : List Dop.Tok) (c1 : Int) (c2 : List Dop.Nde) (c3 : List Dop.Typ) (c4 c5 c6 c7 : Int) : Option (Spec.D En.Dop.D4 ⟨[.fd (.int .i64)],[bxA]⟩) := Tryz.m137.R n (((),()),((c0,c1,c2,c3,c4,c5,c6,c7,()),()))
noncomputable def Tryz.m137_2 (n : Nat) (l : List (Int)) (c0 : List Dop.Tok) (c1 : Int) (c2 : List Dop.Nde) (c3 : List Dop.Typ) (c4 c5 c6 c7 : Int) : Option (Spec.D En.Dop.D4 ⟨[.fd (.int .i64)],[bxA]⟩) := (Tryz.m137.E n).cut 3000 2 (((),l,()),((c0,c1,c2,c3,c4,c5,c6,c7,()),()))
noncomputable def Tryz.m135 (n : Nat) (t1 : Int) (c0 : List Dop.Tok) (c1 : Int) (c2 : List Dop.Nde) (c3 : List Dop.Typ) (c4 c5 c6 c7 : Int) : Option (Spec.D En.Dop.D4 ⟨[.fd (.int .i64)],[bxA]⟩) := Tryz.m135.R n (((),t1,()),((c0,c1,c2,c3,c4,c5,c6,c7,()),()))
noncomputable def Tryz.m135_1 (n : Nat) (t1 : Int) (c0 : List Dop.Tok) (c1 : Int) (c2 : List Dop.Nde) (c3 : List Dop.Typ) (c4 c5 c6 c7 : Int) : Option (Spec.D En.Dop.D4 ⟨[.fd (.int .i64)],[bxA]⟩) := (Tryz.m135.E n).cut 3000 1 (((),t1,()),((c0,c1,c2,c3,c4,c5,c6,c7,()),()))
noncomputable def Tryz.m102_1000131 (n : Nat) (c0 : List Dop.Tok) (c1 : Int) (c2 : List Dop.Nde) (c3 : List Dop.Typ) (c4 c5 c6 c7 : Int) : Option (Spec.D En.Dop.D4 ⟨[.fd (.int .i64)],[bxA]⟩) := Tryz.m102_1000131.R n (((),(),()),((c0,c1,c2,c3,c4,c5,c6,c7,()),()))
theorem Tryz.m118_eq (n : Nat) (c0 : List Dop.Tok) (c1 : Int) (c2 : List Dop.Nde) (c3 : List Dop.Typ) (c4 c5 c6 c7 : Int) : m118 (n + 1) c0 c1 c2 c3 c4 c5 c6 c7 =
 (m102_1000125 (n) c0 c1 c2 c3 c4 c5 c6 c7).bind fun y2 =>
 some ((y2.1.1,()),((y2.2.1.1,(y2.2.1.2.1,(y2.2.1.2.2.1,(y2.2.1.2.2.2.1,(y2.2.1.2.2.2.2.1,(y2.2.1.2.2.2.2.2.1,(y2.2.1.2.2.2.2.2.2.1,(y2.2.1.2.2.2.2.2.2.2.1,())))))))),())) := by kernel_rfl
theorem Tryz.m125_eq (n : Nat) (c0 : List Dop.Tok) (c1 : Int) (c2 : List Dop.Nde) (c3 : List Dop.Typ) (c4 c5 c6 c7 : Int) : m125 (n + 1) c0 c1 c2 c3 c4 c5 c6 c7 =
 (m131 (n) c0 c1 c2 c3 c4 c5 c6 c7).bind fun y2 =>
 if (okL ([61,32,43,61,32,45,61,32,42,61,32,47,61,32,37,61,32,38,61,32,124,61,32,94,61,32,60,60,61,32,62,62,61] : List UInt8) && decide ((Lib.fields ([61,32,43,61,32,45,61,32,42,61,32,47,61,32,37,61,32,38,61,32,124,61,32,94,61,32,60,60,61,32,62,62,61] : List UInt8)).length ≤ maxLen)) = true then
  m125_3 n y2.1.1 (List.map (fun (a : List UInt8) => a) (Lib.fields ([61,32,43,61,32,45,61,32,42,61,32,47,61,32,37,61,32,38,61,32,124,61,32,94,61,32,60,60,61,32,62,62,61] : List UInt8))) (I (List.map (fun (a : List UInt8) => a) (Lib.fields ([61,32,43,61,32,45,61,32,42,61,32,47,61,32,37,61,32,38,61,32,124,61,32,94,61,32,60,60,61,32,62,62,61] : List UInt8))).length) ((0 : Int)) y2.2.1.1 y2.2.1.2.1 y2.2.1.2.2.1 y2.2.1.2.2.2.1 y2.2.1.2.2.2.2.1 y2.2.1.2.2.2.2.2.1 y2.2.1.2.2.2.2.2.2.1 y2.2.1.2.2.2.2.2.2.2.1
 else none := by kernel_rfl
theorem Tryz.m125_3_eq (n : Nat) (a : Int) (t10 : List (List UInt8)) (t11 : Int) (t12 : Int) (c0 : List Dop.Tok) (c1 : Int) (c2 : List Dop.Nde) (c3 : List Dop.Typ) (c4 c5 c6 c7 : Int) : m125_3 n a t10 t11 t12 c0 c1 c2 c3 c4 c5 c6 c7 =
 if (decide (t12 < t11)) = true then
 if (decide ((0 : Int) ≤ t12 ∧ t12 < I t10.length)) = true then
 if (decide (t12.toNat < t10.length)) = true then
  (m32 c0 c1 c2 c3 c4 c5 c6 c7).bind fun y3 =>
  (m61 (@List.getD (List UInt8) t10 t12.toNat (@List.nil UInt8)) y3.2.1.1 y3.2.1.2.1 y3.2.1.2.2.1 y3.2.1.2.2.2.1 y3.2.1.2.2.2.2.1 y3.2.1.2.2.2.2.2.1 y3.2.1.2.2.2.2.2.2.1 y3.2.1.2.2.2.2.2.2.2.1).bind fun y4 =>
 if y4.1.1 = true then
   (m57 ((5 : Int)) (y3.1.1.at_)).bind fun y6 =>
    (m118 (n) y4.2.1.1 y4.2.1.2.1 y4.2.1.2.2.1 y4.2.1.2.2.2.1 y4.2.1.2.2.2.2.1 y4.2.1.2.2.2.2.2.1 y4.2.1.2.2.2.2.2.2.1 y4.2.1.2.2.2.2.2.2.2.1).bind fun y7 =>
    (m64 (Dop.Nde.mk y6.1.1.kind a y7.1.1 y6.1.1.c y6.1.1.d (@List.getD (List UInt8) t10 t12.toNat (@List.nil UInt8)) y6.1.1.n y6.1.1.type_ y6.1.1.at_) y7.2.1.1 y7.2.1.2.1 y7.2.1.2.2.1 y7.2.1.2.2.2.1 y7.2.1.2.2.2.2.1 y7.2.1.2.2.2.2.2.1 y7.2.1.2.2.2.2.2.2.1 y7.2.1.2.2.2.2.2.2.2.1).bind fun y8 =>
 some ((y8.1.1,()),((y8.2.1.1,(y8.2.1.2.1,(y8.2.1.2.2.1,(y8.2.1.2.2.2.1,(y8.2.1.2.2.2.2.1,(y8.2.1.2.2.2.2.2.1,(y8.2.1.2.2.2.2.2.2.1,(y8.2.1.2.2.2.2.2.2.2.1,())))))))),()))
 else
 if (inR (t12 + (1 : Int))) = true then
   m125_3 n (a) (t10) (t11) (t12 + (1 : Int)) y4.2.1.1 y4.2.1.2.1 y4.2.1.2.2.1 y4.2.1.2.2.2.1 y4.2.1.2.2.2.2.1 y4.2.1.2.2.2.2.2.1 y4.2.1.2.2.2.2.2.2.1 y4.2.1.2.2.2.2.2.2.2.1
 else none
 else none
 else none
 else
 some ((a,()),((c0,(c1,(c2,(c3,(c4,(c5,(c6,(c7,())))))))),())) := Env.cut_eq' (E := Tryz.m125.E n) (f0 := 3000) (c := 3) (q := ⟨[[0,0,0,0,1,0,1,1],[0,1,0,0,1,0,1,1],[2,0,0,1,0,1,1],[1,0],[0,1,1,1]],[0,3,10,11,12],1,⟨[.al 0 0,.fd (.int .i64),.own 1 9,.fd (.int .i64),.fd (.int .i64)],[bxB]⟩⟩) (by kernel_rfl) (((),a,t10,t11,t12,()),((c0,c1,c2,c3,c4,c5,c6,c7,()),())) (by kernel_rfl) (by kernel_rfl)
theorem Tryz.m131_eq (n : Nat) (c0 : List Dop.Tok) (c1 : Int) (c2 : List Dop.Nde) (c3 : List Dop.Typ) (c4 c5 c6 c7 : Int) : m131 (n + 1) c0 c1 c2 c3 c4 c5 c6 c7 =
 (m132 (n) ((0 : Int)) c0 c1 c2 c3 c4 c5 c6 c7).bind fun y2 =>
  (m32 y2.2.1.1 y2.2.1.2.1 y2.2.1.2.2.1 y2.2.1.2.2.2.1 y2.2.1.2.2.2.2.1 y2.2.1.2.2.2.2.2.1 y2.2.1.2.2.2.2.2.2.1 y2.2.1.2.2.2.2.2.2.2.1).bind fun y3 =>
  (m61 ([63] : List UInt8) y3.2.1.1 y3.2.1.2.1 y3.2.1.2.2.1 y3.2.1.2.2.2.1 y3.2.1.2.2.2.2.1 y3.2.1.2.2.2.2.2.1 y3.2.1.2.2.2.2.2.2.1 y3.2.1.2.2.2.2.2.2.2.1).bind fun y4 =>
 if (!y4.1.1) = true then
 some ((y2.1.1,()),((y4.2.1.1,(y4.2.1.2.1,(y4.2.1.2.2.1,(y4.2.1.2.2.2.1,(y4.2.1.2.2.2.2.1,(y4.2.1.2.2.2.2.2.1,(y4.2.1.2.2.2.2.2.2.1,(y4.2.1.2.2.2.2.2.2.2.1,())))))))),()))
 else
   (m57 ((6 : Int)) (y3.1.1.at_)).bind fun y6 =>
    (m118 (n) y4.2.1.1 y4.2.1.2.1 y4.2.1.2.2.1 y4.2.1.2.2.2.1 y4.2.1.2.2.2.2.1 y4.2.1.2.2.2.2.2.1 y4.2.1.2.2.2.2.2.2.1 y4.2.1.2.2.2.2.2.2.2.1).bind fun y7 =>
    (m59 ([58] : List UInt8) y7.2.1.1 y7.2.1.2.1 y7.2.1.2.2.1 y7.2.1.2.2.2.1 y7.2.1.2.2.2.2.1 y7.2.1.2.2.2.2.2.1 y7.2.1.2.2.2.2.2.2.1 y7.2.1.2.2.2.2.2.2.2.1).bind fun y8 =>
     (m102_1000131 (n) y8.2.1.1 y8.2.1.2.1 y8.2.1.2.2.1 y8.2.1.2.2.2.1 y8.2.1.2.2.2.2.1 y8.2.1.2.2.2.2.2.1 y8.2.1.2.2.2.2.2.2.1 y8.2.1.2.2.2.2.2.2.2.1).bind fun y9 =>
     (m64 (Dop.Nde.mk y6.1.1.kind y2.1.1 y7.1.1 y9.1.1 y6.1.1.d y6.1.1.text y6.1.1.n y6.1.1.type_ y6.1.1.at_) y9.2.1.1 y9.2.1.2.1 y9.2.1.2.2.1 y9.2.1.2.2.2.1 y9.2.1.2.2.2.2.1 y9.2.1.2.2.2.2.2.1 y9.2.1.2.2.2.2.2.2.1 y9.2.1.2.2.2.2.2.2.2.1).bind fun y10 =>
 some ((y10.1.1,()),((y10.2.1.1,(y10.2.1.2.1,(y10.2.1.2.2.1,(y10.2.1.2.2.2.1,(y10.2.1.2.2.2.2.1,(y10.2.1.2.2.2.2.2.1,(y10.2.1.2.2.2.2.2.2.1,(y10.2.1.2.2.2.2.2.2.2.1,())))))))),())) := by kernel_rfl
theorem Tryz.m132_eq (n : Nat) (k : Int) (c0 : List Dop.Tok) (c1 : Int) (c2 : List Dop.Nde) (c3 : List Dop.Typ) (c4 c5 c6 c7 : Int) : m132 (n + 1) k c0 c1 c2 c3 c4 c5 c6 c7 =
 (m133).bind fun y2 =>
 if (decide (k = I y2.1.1.length)) = true then
  (m134 (n) c0 c1 c2 c3 c4 c5 c6 c7).bind fun y4 =>
 some ((y4.1.1,()),((y4.2.1.1,(y4.2.1.2.1,(y4.2.1.2.2.1,(y4.2.1.2.2.2.1,(y4.2.1.2.2.2.2.1,(y4.2.1.2.2.2.2.2.1,(y4.2.1.2.2.2.2.2.2.1,(y4.2.1.2.2.2.2.2.2.2.1,())))))))),()))
 else
 if (inR (k + (1 : Int))) = true then
  (m132 (n) (k + (1 : Int)) c0 c1 c2 c3 c4 c5 c6 c7).bind fun y4 =>
   m132_4 n (k) y4.1.1 y4.2.1.1 y4.2.1.2.1 y4.2.1.2.2.1 y4.2.1.2.2.2.1 y4.2.1.2.2.2.2.1 y4.2.1.2.2.2.2.2.1 y4.2.1.2.2.2.2.2.2.1 y4.2.1.2.2.2.2.2.2.2.1
 else none := by kernel_rfl
theorem Tryz.m132_4_eq (n : Nat) (k : Int) (a : Int) (c0 : List Dop.Tok) (c1 : Int) (c2 : List Dop.Nde) (c3 : List Dop.Typ) (c4 c5 c6 c7 : Int) : m132_4 n k a c0 c1 c2 c3 c4 c5 c6 c7 =
 (m133).bind fun y2 =>
 if (decide ((0 : Int) ≤ k ∧ k < I y2.1.1.length)) = true then
 if (decide (k.toNat < y2.1.1.length)) = true then
 if (okL (@List.getD (List UInt8) y2.1.1 k.toNat (@List.nil UInt8)) && decide ((Lib.fields (@List.getD (List UInt8) y2.1.1 k.toNat (@List.nil UInt8))).length ≤ maxLen)) = true then
  m132_5 n (k) (a) (List.map (fun (a : List UInt8) => a) (Lib.fields (@List.getD (List UInt8) y2.1.1 k.toNat (@List.nil UInt8)))) (I (List.map (fun (a : List UInt8) => a) (Lib.fields (@List.getD (List UInt8) y2.1.1 k.toNat (@List.nil UInt8)))).length) ((0 : Int)) c0 c1 c2 c3 c4 c5 c6 c7
 else none
 else none
 else none := Env.cut_eq' (E := Tryz.m132.E n) (f0 := 3000) (c := 4) (q := ⟨[[0,0,0,0,0,0,1,1,1,0,1],[0,1,0,0,0,0,1,1,1,0,1],[0,1,0,0,0,1,1,1,0,1],[1,1],[2,0,0,1,1,1,0,1],[1,0],[3,0,1]],[0,1,5],1,⟨[.al 0 0,.fd (.int .i64),.fd (.int .i64)],[bxB]⟩⟩) (by kernel_rfl) (((),k,a,()),((c0,c1,c2,c3,c4,c5,c6,c7,()),())) (by kernel_rfl) (by kernel_rfl)
theorem Tryz.m132_5_eq (n : Nat) (k : Int) (a : Int) (t24 : List (List UInt8)) (t25 : Int) (t26 : Int) (c0 : List Dop.Tok) (c1 : Int) (c2 : List Dop.Nde) (c3 : List Dop.Typ) (c4 c5 c6 c7 : Int) : m132_5 n k a t24 t25 t26 c0 c1 c2 c3 c4 c5 c6 c7 =
 if (decide (t26 < t25)) = true then
 if (decide ((0 : Int) ≤ t26 ∧ t26 < I t24.length)) = true then
 if (decide (t26.toNat < t24.length)) = true then
  (m32 c0 c1 c2 c3 c4 c5 c6 c7).bind fun y3 =>
  (m61 (@List.getD (List UInt8) t24 t26.toNat (@List.nil UInt8)) y3.2.1.1 y3.2.1.2.1 y3.2.1.2.2.1 y3.2.1.2.2.2.1 y3.2.1.2.2.2.2.1 y3.2.1.2.2.2.2.2.1 y3.2.1.2.2.2.2.2.2.1 y3.2.1.2.2.2.2.2.2.2.1).bind fun y4 =>
 if y4.1.1 = true then
   (m57 ((4 : Int)) (y3.1.1.at_)).bind fun y6 =>
 if (inR (k + (1 : Int))) = true then
    (m132 (n) (k + (1 : Int)) y4.2.1.1 y4.2.1.2.1 y4.2.1.2.2.1 y4.2.1.2.2.2.1 y4.2.1.2.2.2.2.1 y4.2.1.2.2.2.2.2.1 y4.2.1.2.2.2.2.2.2.1 y4.2.1.2.2.2.2.2.2.2.1).bind fun y7 =>
    (m64 (Dop.Nde.mk y6.1.1.kind a y7.1.1 y6.1.1.c y6.1.1.d (@List.getD (List UInt8) t24 t26.toNat (@List.nil UInt8)) y6.1.1.n y6.1.1.type_ y6.1.1.at_) y7.2.1.1 y7.2.1.2.1 y7.2.1.2.2.1 y7.2.1.2.2.2.1 y7.2.1.2.2.2.2.1 y7.2.1.2.2.2.2.2.1 y7.2.1.2.2.2.2.2.2.1 y7.2.1.2.2.2.2.2.2.2.1).bind fun y8 =>
     m132_4 n (k) y8.1.1 y8.2.1.1 y8.2.1.2.1 y8.2.1.2.2.1 y8.2.1.2.2.2.1 y8.2.1.2.2.2.2.1 y8.2.1.2.2.2.2.2.1 y8.2.1.2.2.2.2.2.2.1 y8.2.1.2.2.2.2.2.2.2.1
 else none
 else
 if (inR (t26 + (1 : Int))) = true then
   m132_5 n (k) (a) (t24) (t25) (t26 + (1 : Int)) y4.2.1.1 y4.2.1.2.1 y4.2.1.2.2.1 y4.2.1.2.2.2.1 y4.2.1.2.2.2.2.1 y4.2.1.2.2.2.2.2.1 y4.2.1.2.2.2.2.2.2.1 y4.2.1.2.2.2.2.2.2.2.1
 else none
 else none
 else none
 else
 some ((a,()),((c0,(c1,(c2,(c3,(c4,(c5,(c6,(c7,())))))))),())) := Env.cut_eq' (E := Tryz.m132.E n) (f0 := 3000) (c := 5) (q := ⟨[[0,0,0,0,1,0,0,0,0,1,1,1,0,1],[0,1,0,0,1,0,0,0,0,1,1,1,0,1],[2,0,0,1,0,0,0,0,1,1,1,0,1],[1,2],[0,1,0,0,0,1,1,1,0,1],[1,1],[2,0,0,1,1,1,0,1],[1,0],[3,0,1]],[0,1,5,24,25,26],1,⟨[.al 0 0,.fd (.int .i64),.fd (.int .i64),.own 1 9,.fd (.int .i64),.fd (.int .i64)],[bxB]⟩⟩) (by kernel_rfl) (((),k,a,t24,t25,t26,()),((c0,c1,c2,c3,c4,c5,c6,c7,()),())) (by kernel_rfl) (by kernel_rfl)
theorem Tryz.m134_eq (n : Nat) (c0 : List Dop.Tok) (c1 : Int) (c2 : List Dop.Nde) (c3 : List Dop.Typ) (c4 c5 c6 c7 : Int) : m134 (n + 1) c0 c1 c2 c3 c4 c5 c6 c7 =
 (m32 c0 c1 c2 c3 c4 c5 c6 c7).bind fun y2 =>
 if (okL ([43,43,32,45,45,32,45,32,33,32,126,32,42,32,38] : List UInt8) && decide ((Lib.fields ([43,43,32,45,45,32,45,32,33,32,126,32,42,32,38] : List UInt8)).length ≤ maxLen)) = true then
  m134_3 n (y2.1.1.at_) (List.map (fun (a : List UInt8) => a) (Lib.fields ([43,43,32,45,45,32,45,32,33,32,126,32,42,32,38] : List UInt8))) (I (List.map (fun (a : List UInt8) => a) (Lib.fields ([43,43,32,45,45,32,45,32,33,32,126,32,42,32,38] : List UInt8))).length) ((0 : Int)) y2.2.1.1 y2.2.1.2.1 y2.2.1.2.2.1 y2.2.1.2.2.2.1 y2.2.1.2.2.2.2.1 y2.2.1.2.2.2.2.2.1 y2.2.1.2.2.2.2.2.2.1 y2.2.1.2.2.2.2.2.2.2.1
 else none := by kernel_rfl
theorem Tryz.m134_3_eq (n : Nat) (t3 : Int) (t13 : List (List UInt8)) (t14 : Int) (t15 : Int) (c0 : List Dop.Tok) (c1 : Int) (c2 : List Dop.Nde) (c3 : List Dop.Typ) (c4 c5 c6 c7 : Int) : m134_3 n t3 t13 t14 t15 c0 c1 c2 c3 c4 c5 c6 c7 =
 if (decide (t15 < t14)) = true then
 if (decide ((0 : Int) ≤ t15 ∧ t15 < I t13.length)) = true then
 if (decide (t15.toNat < t13.length)) = true then
  (m61 (@List.getD (List UInt8) t13 t15.toNat (@List.nil UInt8)) c0 c1 c2 c3 c4 c5 c6 c7).bind fun y3 =>
 if y3.1.1 = true then
   (m57 ((3 : Int)) (t3)).bind fun y5 =>
 if (decide (I (@List.getD (List UInt8) t13 t15.toNat (@List.nil UInt8)).length = (2 : Int))) = true then
    (m102_1000134 (n) y3.2.1.1 y3.2.1.2.1 y3.2.1.2.2.1 y3.2.1.2.2.2.1 y3.2.1.2.2.2.2.1 y3.2.1.2.2.2.2.2.1 y3.2.1.2.2.2.2.2.2.1 y3.2.1.2.2.2.2.2.2.2.1).bind fun y7 =>
    (m64 (Dop.Nde.mk (12 : Int) y7.1.1 y5.1.1.b y5.1.1.c y5.1.1.d (@List.getD (List UInt8) t13 t15.toNat (@List.nil UInt8)) y5.1.1.n y5.1.1.type_ y5.1.1.at_) y7.2.1.1 y7.2.1.2.1 y7.2.1.2.2.1 y7.2.1.2.2.2.1 y7.2.1.2.2.2.2.1 y7.2.1.2.2.2.2.2.1 y7.2.1.2.2.2.2.2.2.1 y7.2.1.2.2.2.2.2.2.2.1).bind fun y8 =>
 some ((y8.1.1,()),((y8.2.1.1,(y8.2.1.2.1,(y8.2.1.2.2.1,(y8.2.1.2.2.2.1,(y8.2.1.2.2.2.2.1,(y8.2.1.2.2.2.2.2.1,(y8.2.1.2.2.2.2.2.2.1,(y8.2.1.2.2.2.2.2.2.2.1,())))))))),()))
 else
    (m102_1000134 (n) y3.2.1.1 y3.2.1.2.1 y3.2.1.2.2.1 y3.2.1.2.2.2.1 y3.2.1.2.2.2.2.1 y3.2.1.2.2.2.2.2.1 y3.2.1.2.2.2.2.2.2.1 y3.2.1.2.2.2.2.2.2.2.1).bind fun y7 =>
    (m64 (Dop.Nde.mk y5.1.1.kind y7.1.1 y5.1.1.b y5.1.1.c y5.1.1.d (@List.getD (List UInt8) t13 t15.toNat (@List.nil UInt8)) y5.1.1.n y5.1.1.type_ y5.1.1.at_) y7.2.1.1 y7.2.1.2.1 y7.2.1.2.2.1 y7.2.1.2.2.2.1 y7.2.1.2.2.2.2.1 y7.2.1.2.2.2.2.2.1 y7.2.1.2.2.2.2.2.2.1 y7.2.1.2.2.2.2.2.2.2.1).bind fun y8 =>
 some ((y8.1.1,()),((y8.2.1.1,(y8.2.1.2.1,(y8.2.1.2.2.1,(y8.2.1.2.2.2.1,(y8.2.1.2.2.2.2.1,(y8.2.1.2.2.2.2.2.1,(y8.2.1.2.2.2.2.2.2.1,(y8.2.1.2.2.2.2.2.2.2.1,())))))))),()))
 else
 if (inR (t15 + (1 : Int))) = true then
   m134_3 n (t3) (t13) (t14) (t15 + (1 : Int)) y3.2.1.1 y3.2.1.2.1 y3.2.1.2.2.1 y3.2.1.2.2.2.1 y3.2.1.2.2.2.2.1 y3.2.1.2.2.2.2.2.1 y3.2.1.2.2.2.2.2.2.1 y3.2.1.2.2.2.2.2.2.2.1
 else none
 else none
 else none
 else
  (m61 ([115,105,122,101,111,102] : List UInt8) c0 c1 c2 c3 c4 c5 c6 c7).bind fun y3 =>
 if y3.1.1 = true then
   (m57 ((11 : Int)) (t3)).bind fun y5 =>
   (m59 ([40] : List UInt8) y3.2.1.1 y3.2.1.2.1 y3.2.1.2.2.1 y3.2.1.2.2.2.1 y3.2.1.2.2.2.2.1 y3.2.1.2.2.2.2.2.1 y3.2.1.2.2.2.2.2.2.1 y3.2.1.2.2.2.2.2.2.2.1).bind fun y6 =>
    (m82 y6.2.1.1 y6.2.1.2.1 y6.2.1.2.2.1 y6.2.1.2.2.2.1 y6.2.1.2.2.2.2.1 y6.2.1.2.2.2.2.2.1 y6.2.1.2.2.2.2.2.2.1 y6.2.1.2.2.2.2.2.2.2.1).bind fun y7 =>
    (m63 y7.1.1 y7.2.1.1 y7.2.1.2.1 y7.2.1.2.2.1 y7.2.1.2.2.2.1 y7.2.1.2.2.2.2.1 y7.2.1.2.2.2.2.2.1 y7.2.1.2.2.2.2.2.2.1 y7.2.1.2.2.2.2.2.2.2.1).bind fun y8 =>
     (m59 ([41] : List UInt8) y8.2.1.1 y8.2.1.2.1 y8.2.1.2.2.1 y8.2.1.2.2.2.1 y8.2.1.2.2.2.2.1 y8.2.1.2.2.2.2.2.1 y8.2.1.2.2.2.2.2.2.1 y8.2.1.2.2.2.2.2.2.2.1).bind fun y9 =>
     (m64 (Dop.Nde.mk y5.1.1.kind y5.1.1.a y5.1.1.b y5.1.1.c y5.1.1.d y5.1.1.text y5.1.1.n y8.1.1 y5.1.1.at_) y9.2.1.1 y9.2.1.2.1 y9.2.1.2.2.1 y9.2.1.2.2.2.1 y9.2.1.2.2.2.2.1 y9.2.1.2.2.2.2.2.1 y9.2.1.2.2.2.2.2.2.1 y9.2.1.2.2.2.2.2.2.2.1).bind fun y10 =>
 some ((y10.1.1,()),((y10.2.1.1,(y10.2.1.2.1,(y10.2.1.2.2.1,(y10.2.1.2.2.2.1,(y10.2.1.2.2.2.2.1,(y10.2.1.2.2.2.2.2.1,(y10.2.1.2.2.2.2.2.2.1,(y10.2.1.2.2.2.2.2.2.2.1,())))))))),()))
 else
   (m58 ([40] : List UInt8) y3.2.1.1 y3.2.1.2.1 y3.2.1.2.2.1 y3.2.1.2.2.2.1 y3.2.1.2.2.2.2.1 y3.2.1.2.2.2.2.2.1 y3.2.1.2.2.2.2.2.2.1 y3.2.1.2.2.2.2.2.2.2.1).bind fun y5 =>
 if y5.1.1 = true then
 if (inR (y5.2.1.2.1 + (1 : Int))) = true then
 if (decide (y5.2.1.2.1 + (1 : Int) < I y5.2.1.1.length)) = true then
 if (inR (y5.2.1.2.1 + (1 : Int))) = true then
    (m117q y5.2.1.1 (y5.2.1.2.1 + (1 : Int)) y5.2.1.2.2.2.2.1 y5.2.1.2.2.2.2.2.1 y5.2.1.2.2.2.2.2.2.1 y5.2.1.2.2.2.2.2.2.2.1).bind fun y8 =>
 if y8.1.1 = true then
     (m57 ((10 : Int)) (t3)).bind fun y10 =>
      (m59 ([40] : List UInt8) y5.2.1.1 y5.2.1.2.1 y5.2.1.2.2.1 y5.2.1.2.2.2.1 y5.2.1.2.2.2.2.1 y5.2.1.2.2.2.2.2.1 y5.2.1.2.2.2.2.2.2.1 y5.2.1.2.2.2.2.2.2.2.1).bind fun y11 =>
      (m82 y11.2.1.1 y11.2.1.2.1 y11.2.1.2.2.1 y11.2.1.2.2.2.1 y11.2.1.2.2.2.2.1 y11.2.1.2.2.2.2.2.1 y11.2.1.2.2.2.2.2.2.1 y11.2.1.2.2.2.2.2.2.2.1).bind fun y12 =>
       (m59 ([41] : List UInt8) y12.2.1.1 y12.2.1.2.1 y12.2.1.2.2.1 y12.2.1.2.2.2.1 y12.2.1.2.2.2.2.1 y12.2.1.2.2.2.2.2.1 y12.2.1.2.2.2.2.2.2.1 y12.2.1.2.2.2.2.2.2.2.1).bind fun y13 =>
       (m102_1000134 (n) y13.2.1.1 y13.2.1.2.1 y13.2.1.2.2.1 y13.2.1.2.2.2.1 y13.2.1.2.2.2.2.1 y13.2.1.2.2.2.2.2.1 y13.2.1.2.2.2.2.2.2.1 y13.2.1.2.2.2.2.2.2.2.1).bind fun y14 =>
        (m64 (Dop.Nde.mk y10.1.1.kind y14.1.1 y10.1.1.b y10.1.1.c y10.1.1.d y10.1.1.text y10.1.1.n y12.1.1 y10.1.1.at_) y14.2.1.1 y14.2.1.2.1 y14.2.1.2.2.1 y14.2.1.2.2.2.1 y14.2.1.2.2.2.2.1 y14.2.1.2.2.2.2.2.1 y14.2.1.2.2.2.2.2.2.1 y14.2.1.2.2.2.2.2.2.2.1).bind fun y15 =>
 some ((y15.1.1,()),((y15.2.1.1,(y15.2.1.2.1,(y15.2.1.2.2.1,(y15.2.1.2.2.2.1,(y15.2.1.2.2.2.2.1,(y15.2.1.2.2.2.2.2.1,(y15.2.1.2.2.2.2.2.2.1,(y15.2.1.2.2.2.2.2.2.2.1,())))))))),()))
 else
     (m136 (n) y5.2.1.1 y5.2.1.2.1 y5.2.1.2.2.1 y5.2.1.2.2.2.1 y5.2.1.2.2.2.2.1 y5.2.1.2.2.2.2.2.1 y5.2.1.2.2.2.2.2.2.1 y5.2.1.2.2.2.2.2.2.2.1).bind fun y10 =>
      (m135 (n) y10.1.1 y10.2.1.1 y10.2.1.2.1 y10.2.1.2.2.1 y10.2.1.2.2.2.1 y10.2.1.2.2.2.2.1 y10.2.1.2.2.2.2.2.1 y10.2.1.2.2.2.2.2.2.1 y10.2.1.2.2.2.2.2.2.2.1).bind fun y11 =>
 some ((y11.1.1,()),((y11.2.1.1,(y11.2.1.2.1,(y11.2.1.2.2.1,(y11.2.1.2.2.2.1,(y11.2.1.2.2.2.2.1,(y11.2.1.2.2.2.2.2.1,(y11.2.1.2.2.2.2.2.2.1,(y11.2.1.2.2.2.2.2.2.2.1,())))))))),()))
 else none
 else
    (m136 (n) y5.2.1.1 y5.2.1.2.1 y5.2.1.2.2.1 y5.2.1.2.2.2.1 y5.2.1.2.2.2.2.1 y5.2.1.2.2.2.2.2.1 y5.2.1.2.2.2.2.2.2.1 y5.2.1.2.2.2.2.2.2.2.1).bind fun y8 =>
     (m135 (n) y8.1.1 y8.2.1.1 y8.2.1.2.1 y8.2.1.2.2.1 y8.2.1.2.2.2.1 y8.2.1.2.2.2.2.1 y8.2.1.2.2.2.2.2.1 y8.2.1.2.2.2.2.2.2.1 y8.2.1.2.2.2.2.2.2.2.1).bind fun y9 =>
 some ((y9.1.1,()),((y9.2.1.1,(y9.2.1.2.1,(y9.2.1.2.2.1,(y9.2.1.2.2.2.1,(y9.2.1.2.2.2.2.1,(y9.2.1.2.2.2.2.2.1,(y9.2.1.2.2.2.2.2.2.1,(y9.2.1.2.2.2.2.2.2.2.1,())))))))),()))
 else none
 else
    (m136 (n) y5.2.1.1 y5.2.1.2.1 y5.2.1.2.2.1 y5.2.1.2.2.2.1 y5.2.1.2.2.2.2.1 y5.2.1.2.2.2.2.2.1 y5.2.1.2.2.2.2.2.2.1 y5.2.1.2.2.2.2.2.2.2.1).bind fun y7 =>
    (m135 (n) y7.1.1 y7.2.1.1 y7.2.1.2.1 y7.2.1.2.2.1 y7.2.1.2.2.2.1 y7.2.1.2.2.2.2.1 y7.2.1.2.2.2.2.2.1 y7.2.1.2.2.2.2.2.2.1 y7.2.1.2.2.2.2.2.2.2.1).bind fun y8 =>
 some ((y8.1.1,()),((y8.2.1.1,(y8.2.1.2.1,(y8.2.1.2.2.1,(y8.2.1.2.2.2.1,(y8.2.1.2.2.2.2.1,(y8.2.1.2.2.2.2.2.1,(y8.2.1.2.2.2.2.2.2.1,(y8.2.1.2.2.2.2.2.2.2.1,())))))))),())) := Env.cut_eq' (E := Tryz.m134.E n) (f0 := 3000) (c := 3) (q := ⟨[[0,0,0,0,1,0,1,1],[0,1,0,0,1,0,1,1],[2,0,0,1,0,1,1],[1,0],[0,1,1,1]],[0,3,13,14,15],1,⟨[.al 0 0,.fd (.int .i64),.own 1 9,.fd (.int .i64),.fd (.int .i64)],[bxB]⟩⟩) (by kernel_rfl) (((),t3,t13,t14,t15,()),((c0,c1,c2,c3,c4,c5,c6,c7,()),())) (by kernel_rfl) (by kernel_rfl)
theorem Tryz.m136_eq (n : Nat) (c0 : List Dop.Tok) (c1 : Int) (c2 : List Dop.Nde) (c3 : List Dop.Typ) (c4 c5 c6 c7 : Int) : m136 (n + 1) c0 c1 c2 c3 c4 c5 c6 c7 =
 (m32 c0 c1 c2 c3 c4 c5 c6 c7).bind fun y2 =>
  (m57 ((1 : Int)) (y2.1.1.at_)).bind fun y3 =>
 if (decide (y2.1.1.kind = (3 : Int))) = true then
 if (inR (y2.2.1.2.1 + (1 : Int))) = true then
   (m64 (Dop.Nde.mk y3.1.1.kind y3.1.1.a y3.1.1.b y3.1.1.c y3.1.1.d y3.1.1.text y2.1.1.n y3.1.1.type_ y3.1.1.at_) y2.2.1.1 (y2.2.1.2.1 + (1 : Int)) y2.2.1.2.2.1 y2.2.1.2.2.2.1 y2.2.1.2.2.2.2.1 y2.2.1.2.2.2.2.2.1 y2.2.1.2.2.2.2.2.2.1 y2.2.1.2.2.2.2.2.2.2.1).bind fun y5 =>
 some ((y5.1.1,()),((y5.2.1.1,(y5.2.1.2.1,(y5.2.1.2.2.1,(y5.2.1.2.2.2.1,(y5.2.1.2.2.2.2.1,(y5.2.1.2.2.2.2.2.1,(y5.2.1.2.2.2.2.2.2.1,(y5.2.1.2.2.2.2.2.2.2.1,())))))))),()))
 else none
 else
 if (decide (y2.1.1.kind = (1 : Int))) = true then
 if (inR (y2.2.1.2.1 + (1 : Int))) = true then
   (m61 ([40] : List UInt8) y2.2.1.1 (y2.2.1.2.1 + (1 : Int)) y2.2.1.2.2.1 y2.2.1.2.2.2.1 y2.2.1.2.2.2.2.1 y2.2.1.2.2.2.2.2.1 y2.2.1.2.2.2.2.2.2.1 y2.2.1.2.2.2.2.2.2.2.1).bind fun y6 =>
 if y6.1.1 = true then
    (m137 (n) y6.2.1.1 y6.2.1.2.1 y6.2.1.2.2.1 y6.2.1.2.2.2.1 y6.2.1.2.2.2.2.1 y6.2.1.2.2.2.2.2.1 y6.2.1.2.2.2.2.2.2.1 y6.2.1.2.2.2.2.2.2.2.1).bind fun y8 =>
     (m64 (Dop.Nde.mk (9 : Int) y8.1.1 y3.1.1.b y3.1.1.c y3.1.1.d y2.1.1.text y3.1.1.n y3.1.1.type_ y3.1.1.at_) y8.2.1.1 y8.2.1.2.1 y8.2.1.2.2.1 y8.2.1.2.2.2.1 y8.2.1.2.2.2.2.1 y8.2.1.2.2.2.2.2.1 y8.2.1.2.2.2.2.2.2.1 y8.2.1.2.2.2.2.2.2.2.1).bind fun y9 =>
 some ((y9.1.1,()),((y9.2.1.1,(y9.2.1.2.1,(y9.2.1.2.2.1,(y9.2.1.2.2.2.1,(y9.2.1.2.2.2.2.1,(y9.2.1.2.2.2.2.2.1,(y9.2.1.2.2.2.2.2.2.1,(y9.2.1.2.2.2.2.2.2.2.1,())))))))),()))
 else
    (m64 (Dop.Nde.mk (2 : Int) y3.1.1.a y3.1.1.b y3.1.1.c y3.1.1.d y2.1.1.text y3.1.1.n y3.1.1.type_ y3.1.1.at_) y6.2.1.1 y6.2.1.2.1 y6.2.1.2.2.1 y6.2.1.2.2.2.1 y6.2.1.2.2.2.2.1 y6.2.1.2.2.2.2.2.1 y6.2.1.2.2.2.2.2.2.1 y6.2.1.2.2.2.2.2.2.2.1).bind fun y8 =>
 some ((y8.1.1,()),((y8.2.1.1,(y8.2.1.2.1,(y8.2.1.2.2.1,(y8.2.1.2.2.2.1,(y8.2.1.2.2.2.2.1,(y8.2.1.2.2.2.2.2.1,(y8.2.1.2.2.2.2.2.2.1,(y8.2.1.2.2.2.2.2.2.2.1,())))))))),()))
 else none
 else
   (m61 ([40] : List UInt8) y2.2.1.1 y2.2.1.2.1 y2.2.1.2.2.1 y2.2.1.2.2.2.1 y2.2.1.2.2.2.2.1 y2.2.1.2.2.2.2.2.1 y2.2.1.2.2.2.2.2.2.1 y2.2.1.2.2.2.2.2.2.2.1).bind fun y6 =>
 if y6.1.1 = true then
    (m118 (n) y6.2.1.1 y6.2.1.2.1 y6.2.1.2.2.1 y6.2.1.2.2.2.1 y6.2.1.2.2.2.2.1 y6.2.1.2.2.2.2.2.1 y6.2.1.2.2.2.2.2.2.1 y6.2.1.2.2.2.2.2.2.2.1).bind fun y8 =>
     (m59 ([41] : List UInt8) y8.2.1.1 y8.2.1.2.1 y8.2.1.2.2.1 y8.2.1.2.2.2.1 y8.2.1.2.2.2.2.1 y8.2.1.2.2.2.2.2.1 y8.2.1.2.2.2.2.2.2.1 y8.2.1.2.2.2.2.2.2.2.1).bind fun y9 =>
 some ((y8.1.1,()),((y9.2.1.1,(y9.2.1.2.1,(y9.2.1.2.2.1,(y9.2.1.2.2.2.1,(y9.2.1.2.2.2.2.1,(y9.2.1.2.2.2.2.2.1,(y9.2.1.2.2.2.2.2.2.1,(y9.2.1.2.2.2.2.2.2.2.1,())))))))),()))
 else
    (m61 ([103,101,116,99] : List UInt8) y6.2.1.1 y6.2.1.2.1 y6.2.1.2.2.1 y6.2.1.2.2.2.1 y6.2.1.2.2.2.2.1 y6.2.1.2.2.2.2.2.1 y6.2.1.2.2.2.2.2.2.1 y6.2.1.2.2.2.2.2.2.2.1).bind fun y8 =>
 if y8.1.1 = true then
     (m59 ([40] : List UInt8) y8.2.1.1 y8.2.1.2.1 y8.2.1.2.2.1 y8.2.1.2.2.2.1 y8.2.1.2.2.2.2.1 y8.2.1.2.2.2.2.2.1 y8.2.1.2.2.2.2.2.2.1 y8.2.1.2.2.2.2.2.2.2.1).bind fun y10 =>
      (m59 ([41] : List UInt8) y10.2.1.1 y10.2.1.2.1 y10.2.1.2.2.1 y10.2.1.2.2.2.1 y10.2.1.2.2.2.2.1 y10.2.1.2.2.2.2.2.1 y10.2.1.2.2.2.2.2.2.1 y10.2.1.2.2.2.2.2.2.2.1).bind fun y11 =>
      (m64 (Dop.Nde.mk (14 : Int) y3.1.1.a y3.1.1.b y3.1.1.c y3.1.1.d y3.1.1.text y3.1.1.n y3.1.1.type_ y3.1.1.at_) y11.2.1.1 y11.2.1.2.1 y11.2.1.2.2.1 y11.2.1.2.2.2.1 y11.2.1.2.2.2.2.1 y11.2.1.2.2.2.2.2.1 y11.2.1.2.2.2.2.2.2.1 y11.2.1.2.2.2.2.2.2.2.1).bind fun y12 =>
 some ((y12.1.1,()),((y12.2.1.1,(y12.2.1.2.1,(y12.2.1.2.2.1,(y12.2.1.2.2.2.1,(y12.2.1.2.2.2.2.1,(y12.2.1.2.2.2.2.2.1,(y12.2.1.2.2.2.2.2.2.1,(y12.2.1.2.2.2.2.2.2.2.1,())))))))),()))
 else
     (m59 ([112,117,116,99] : List UInt8) y8.2.1.1 y8.2.1.2.1 y8.2.1.2.2.1 y8.2.1.2.2.2.1 y8.2.1.2.2.2.2.1 y8.2.1.2.2.2.2.2.1 y8.2.1.2.2.2.2.2.2.1 y8.2.1.2.2.2.2.2.2.2.1).bind fun y10 =>
      (m59 ([40] : List UInt8) y10.2.1.1 y10.2.1.2.1 y10.2.1.2.2.1 y10.2.1.2.2.2.1 y10.2.1.2.2.2.2.1 y10.2.1.2.2.2.2.2.1 y10.2.1.2.2.2.2.2.2.1 y10.2.1.2.2.2.2.2.2.2.1).bind fun y11 =>
      (m118 (n) y11.2.1.1 y11.2.1.2.1 y11.2.1.2.2.1 y11.2.1.2.2.2.1 y11.2.1.2.2.2.2.1 y11.2.1.2.2.2.2.2.1 y11.2.1.2.2.2.2.2.2.1 y11.2.1.2.2.2.2.2.2.2.1).bind fun y12 =>
       (m59 ([41] : List UInt8) y12.2.1.1 y12.2.1.2.1 y12.2.1.2.2.1 y12.2.1.2.2.2.1 y12.2.1.2.2.2.2.1 y12.2.1.2.2.2.2.2.1 y12.2.1.2.2.2.2.2.2.1 y12.2.1.2.2.2.2.2.2.2.1).bind fun y13 =>
       (m64 (Dop.Nde.mk (15 : Int) y12.1.1 y3.1.1.b y3.1.1.c y3.1.1.d y3.1.1.text y3.1.1.n y3.1.1.type_ y3.1.1.at_) y13.2.1.1 y13.2.1.2.1 y13.2.1.2.2.1 y13.2.1.2.2.2.1 y13.2.1.2.2.2.2.1 y13.2.1.2.2.2.2.2.1 y13.2.1.2.2.2.2.2.2.1 y13.2.1.2.2.2.2.2.2.2.1).bind fun y14 =>
 some ((y14.1.1,()),((y14.2.1.1,(y14.2.1.2.1,(y14.2.1.2.2.1,(y14.2.1.2.2.2.1,(y14.2.1.2.2.2.2.1,(y14.2.1.2.2.2.2.2.1,(y14.2.1.2.2.2.2.2.2.1,(y14.2.1.2.2.2.2.2.2.2.1,())))))))),())) := by kernel_rfl
theorem Tryz.m137_eq (n : Nat) (c0 : List Dop.Tok) (c1 : Int) (c2 : List Dop.Nde) (c3 : List Dop.Typ) (c4 c5 c6 c7 : Int) : m137 (n + 1) c0 c1 c2 c3 c4 c5 c6 c7 =
 m137_2 n (@List.nil Int) c0 c1 c2 c3 c4 c5 c6 c7 := by kernel_rfl
theorem Tryz.m137_2_eq (n : Nat) (l : List (Int)) (c0 : List Dop.Tok) (c1 : Int) (c2 : List Dop.Nde) (c3 : List Dop.Typ) (c4 c5 c6 c7 : Int) : m137_2 n l c0 c1 c2 c3 c4 c5 c6 c7 =
 (m61 ([41] : List UInt8) c0 c1 c2 c3 c4 c5 c6 c7).bind fun y2 =>
 if (!y2.1.1) = true then
 if (decide (y2.2.1.2.2.2.2.2.2.1 = (0 : Int))) = true then
 if (decide ((0 : Int) < I l.length)) = true then
   (m59 ([44] : List UInt8) y2.2.1.1 y2.2.1.2.1 y2.2.1.2.2.1 y2.2.1.2.2.2.1 y2.2.1.2.2.2.2.1 y2.2.1.2.2.2.2.2.1 y2.2.1.2.2.2.2.2.2.1 y2.2.1.2.2.2.2.2.2.2.1).bind fun y6 =>
    (m118 (n) y6.2.1.1 y6.2.1.2.1 y6.2.1.2.2.1 y6.2.1.2.2.2.1 y6.2.1.2.2.2.2.1 y6.2.1.2.2.2.2.2.1 y6.2.1.2.2.2.2.2.2.1 y6.2.1.2.2.2.2.2.2.2.1).bind fun y7 =>
 if (andC none (room (8 : Nat) (l.length + (y7.1.1 :: @List.nil Int).length))) = true then
    m137_2 n (l ++ y7.1.1 :: @List.nil Int) y7.2.1.1 y7.2.1.2.1 y7.2.1.2.2.1 y7.2.1.2.2.2.1 y7.2.1.2.2.2.2.1 y7.2.1.2.2.2.2.2.1 y7.2.1.2.2.2.2.2.2.1 y7.2.1.2.2.2.2.2.2.2.1
 else none
 else
   (m118 (n) y2.2.1.1 y2.2.1.2.1 y2.2.1.2.2.1 y2.2.1.2.2.2.1 y2.2.1.2.2.2.2.1 y2.2.1.2.2.2.2.2.1 y2.2.1.2.2.2.2.2.2.1 y2.2.1.2.2.2.2.2.2.2.1).bind fun y6 =>
 if (andC none (room (8 : Nat) (l.length + (y6.1.1 :: @List.nil Int).length))) = true then
    m137_2 n (l ++ y6.1.1 :: @List.nil Int) y6.2.1.1 y6.2.1.2.1 y6.2.1.2.2.1 y6.2.1.2.2.2.1 y6.2.1.2.2.2.2.1 y6.2.1.2.2.2.2.2.1 y6.2.1.2.2.2.2.2.2.1 y6.2.1.2.2.2.2.2.2.2.1
 else none
 else
   (Tryz.m34.R (((),l,()),(y2.2.1.1,y2.2.1.2.1,y2.2.1.2.2.1,y2.2.1.2.2.2.1,y2.2.1.2.2.2.2.1,y2.2.1.2.2.2.2.2.1,y2.2.1.2.2.2.2.2.2.1,y2.2.1.2.2.2.2.2.2.2.1,()),())).bind fun y5 =>
 some ((y5.1.1,()),((y5.2.1.1,(y5.2.1.2.1,(y5.2.1.2.2.1,(y5.2.1.2.2.2.1,(y5.2.1.2.2.2.2.1,(y5.2.1.2.2.2.2.2.1,(y5.2.1.2.2.2.2.2.2.1,(y5.2.1.2.2.2.2.2.2.2.1,())))))))),()))
 else
  (Tryz.m34.R (((),l,()),(y2.2.1.1,y2.2.1.2.1,y2.2.1.2.2.1,y2.2.1.2.2.2.1,y2.2.1.2.2.2.2.1,y2.2.1.2.2.2.2.2.1,y2.2.1.2.2.2.2.2.2.1,y2.2.1.2.2.2.2.2.2.2.1,()),())).bind fun y4 =>
 some ((y4.1.1,()),((y4.2.1.1,(y4.2.1.2.1,(y4.2.1.2.2.1,(y4.2.1.2.2.2.1,(y4.2.1.2.2.2.2.1,(y4.2.1.2.2.2.2.2.1,(y4.2.1.2.2.2.2.2.2.1,(y4.2.1.2.2.2.2.2.2.2.1,())))))))),())) := Env.cut_eq' (E := Tryz.m137.E n) (f0 := 3000) (c := 2) (q := ⟨[[0,0,0,0,0,0,1,1],[0,1,0,0,0,0,1,1],[0,1,0,0,0,1,1],[2,0,0,0,1,1],[1,0],[0,1,1,1]],[0,3],1,⟨[.al 0 0,.own 0 3],[bxB]⟩⟩) (by kernel_rfl) (((),l,()),((c0,c1,c2,c3,c4,c5,c6,c7,()),())) (by kernel_rfl) (by kernel_rfl)
theorem Tryz.m135_eq (n : Nat) (t1 : Int) (c0 : List Dop.Tok) (c1 : Int) (c2 : List Dop.Nde) (c3 : List Dop.Typ) (c4 c5 c6 c7 : Int) : m135 (n + 1) t1 c0 c1 c2 c3 c4 c5 c6 c7 =
 m135_1 n (t1) c0 c1 c2 c3 c4 c5 c6 c7 := by kernel_rfl
theorem Tryz.m135_1_eq (n : Nat) (t1 : Int) (c0 : List Dop.Tok) (c1 : Int) (c2 : List Dop.Nde) (c3 : List Dop.Typ) (c4 c5 c6 c7 : Int) : m135_1 n t1 c0 c1 c2 c3 c4 c5 c6 c7 =
 if (decide (c6 = (0 : Int))) = true then
  (m32 c0 c1 c2 c3 c4 c5 c6 c7).bind fun y3 =>
  (m57 ((7 : Int)) (y3.1.1.at_)).bind fun y4 =>
   (m61 ([91] : List UInt8) y3.2.1.1 y3.2.1.2.1 y3.2.1.2.2.1 y3.2.1.2.2.2.1 y3.2.1.2.2.2.2.1 y3.2.1.2.2.2.2.2.1 y3.2.1.2.2.2.2.2.2.1 y3.2.1.2.2.2.2.2.2.2.1).bind fun y5 =>
 if y5.1.1 = true then
    (m118 (n) y5.2.1.1 y5.2.1.2.1 y5.2.1.2.2.1 y5.2.1.2.2.2.1 y5.2.1.2.2.2.2.1 y5.2.1.2.2.2.2.2.1 y5.2.1.2.2.2.2.2.2.1 y5.2.1.2.2.2.2.2.2.2.1).bind fun y7 =>
    (m59 ([93] : List UInt8) y7.2.1.1 y7.2.1.2.1 y7.2.1.2.2.1 y7.2.1.2.2.2.1 y7.2.1.2.2.2.2.1 y7.2.1.2.2.2.2.2.1 y7.2.1.2.2.2.2.2.2.1 y7.2.1.2.2.2.2.2.2.2.1).bind fun y8 =>
     (m64 (Dop.Nde.mk y4.1.1.kind t1 y7.1.1 y4.1.1.c y4.1.1.d y4.1.1.text y4.1.1.n y4.1.1.type_ y4.1.1.at_) y8.2.1.1 y8.2.1.2.1 y8.2.1.2.2.1 y8.2.1.2.2.2.1 y8.2.1.2.2.2.2.1 y8.2.1.2.2.2.2.2.1 y8.2.1.2.2.2.2.2.2.1 y8.2.1.2.2.2.2.2.2.2.1).bind fun y9 =>
     m135_1 n y9.1.1 y9.2.1.1 y9.2.1.2.1 y9.2.1.2.2.1 y9.2.1.2.2.2.1 y9.2.1.2.2.2.2.1 y9.2.1.2.2.2.2.2.1 y9.2.1.2.2.2.2.2.2.1 y9.2.1.2.2.2.2.2.2.2.1
 else
    (m61 ([46] : List UInt8) y5.2.1.1 y5.2.1.2.1 y5.2.1.2.2.1 y5.2.1.2.2.2.1 y5.2.1.2.2.2.2.1 y5.2.1.2.2.2.2.2.1 y5.2.1.2.2.2.2.2.2.1 y5.2.1.2.2.2.2.2.2.2.1).bind fun y7 =>
 if y7.1.1 = true then
 if y7.1.1 = true then
 if (inR (y7.2.1.2.1 - (1 : Int))) = true then
 if (decide ((0 : Int) ≤ y7.2.1.2.1 - (1 : Int) ∧ y7.2.1.2.1 - (1 : Int) < I y7.2.1.1.length)) = true then
 if (decide ((@List.getD Dop.Tok y7.2.1.1 (y7.2.1.2.1 - (1 : Int)).toNat Dop.d4).text = (45 : UInt8) :: (62 : UInt8) :: @List.nil UInt8)) = true then
      (m60 ((1 : Int)) y7.2.1.1 y7.2.1.2.1 y7.2.1.2.2.1 y7.2.1.2.2.2.1 y7.2.1.2.2.2.2.1 y7.2.1.2.2.2.2.2.1 y7.2.1.2.2.2.2.2.2.1 y7.2.1.2.2.2.2.2.2.2.1).bind fun y11 =>
      (m64 (Dop.Nde.mk (8 : Int) t1 y4.1.1.b y4.1.1.c y4.1.1.d y11.1.1.text (1 : Int) y4.1.1.type_ y4.1.1.at_) y11.2.1.1 y11.2.1.2.1 y11.2.1.2.2.1 y11.2.1.2.2.2.1 y11.2.1.2.2.2.2.1 y11.2.1.2.2.2.2.2.1 y11.2.1.2.2.2.2.2.2.1 y11.2.1.2.2.2.2.2.2.2.1).bind fun y12 =>
       m135_1 n y12.1.1 y12.2.1.1 y12.2.1.2.1 y12.2.1.2.2.1 y12.2.1.2.2.2.1 y12.2.1.2.2.2.2.1 y12.2.1.2.2.2.2.2.1 y12.2.1.2.2.2.2.2.2.1 y12.2.1.2.2.2.2.2.2.2.1
 else
      (m60 ((1 : Int)) y7.2.1.1 y7.2.1.2.1 y7.2.1.2.2.1 y7.2.1.2.2.2.1 y7.2.1.2.2.2.2.1 y7.2.1.2.2.2.2.2.1 y7.2.1.2.2.2.2.2.2.1 y7.2.1.2.2.2.2.2.2.2.1).bind fun y11 =>
      (m64 (Dop.Nde.mk (8 : Int) t1 y4.1.1.b y4.1.1.c y4.1.1.d y11.1.1.text y4.1.1.n y4.1.1.type_ y4.1.1.at_) y11.2.1.1 y11.2.1.2.1 y11.2.1.2.2.1 y11.2.1.2.2.2.1 y11.2.1.2.2.2.2.1 y11.2.1.2.2.2.2.2.1 y11.2.1.2.2.2.2.2.2.1 y11.2.1.2.2.2.2.2.2.2.1).bind fun y12 =>
       m135_1 n y12.1.1 y12.2.1.1 y12.2.1.2.1 y12.2.1.2.2.1 y12.2.1.2.2.2.1 y12.2.1.2.2.2.2.1 y12.2.1.2.2.2.2.2.1 y12.2.1.2.2.2.2.2.2.1 y12.2.1.2.2.2.2.2.2.2.1
 else none
 else none
 else
     (m61 ([43,43] : List UInt8) y7.2.1.1 y7.2.1.2.1 y7.2.1.2.2.1 y7.2.1.2.2.2.1 y7.2.1.2.2.2.2.1 y7.2.1.2.2.2.2.2.1 y7.2.1.2.2.2.2.2.2.1 y7.2.1.2.2.2.2.2.2.2.1).bind fun y10 =>
 if y10.1.1 = true then
 if y10.1.1 = true then
 if (inR (y10.2.1.2.1 - (1 : Int))) = true then
 if (decide ((0 : Int) ≤ y10.2.1.2.1 - (1 : Int) ∧ y10.2.1.2.1 - (1 : Int) < I y10.2.1.1.length)) = true then
       (m64 (Dop.Nde.mk (13 : Int) t1 y4.1.1.b y4.1.1.c y4.1.1.d (@List.getD Dop.Tok y10.2.1.1 (y10.2.1.2.1 - (1 : Int)).toNat Dop.d4).text y4.1.1.n y4.1.1.type_ y4.1.1.at_) y10.2.1.1 y10.2.1.2.1 y10.2.1.2.2.1 y10.2.1.2.2.2.1 y10.2.1.2.2.2.2.1 y10.2.1.2.2.2.2.2.1 y10.2.1.2.2.2.2.2.2.1 y10.2.1.2.2.2.2.2.2.2.1).bind fun y13 =>
       m135_1 n y13.1.1 y13.2.1.1 y13.2.1.2.1 y13.2.1.2.2.1 y13.2.1.2.2.2.1 y13.2.1.2.2.2.2.1 y13.2.1.2.2.2.2.2.1 y13.2.1.2.2.2.2.2.2.1 y13.2.1.2.2.2.2.2.2.2.1
 else none
 else none
 else
 some ((t1,()),((y10.2.1.1,(y10.2.1.2.1,(y10.2.1.2.2.1,(y10.2.1.2.2.2.1,(y10.2.1.2.2.2.2.1,(y10.2.1.2.2.2.2.2.1,(y10.2.1.2.2.2.2.2.2.1,(y10.2.1.2.2.2.2.2.2.2.1,())))))))),()))
 else
      (m61 ([45,45] : List UInt8) y10.2.1.1 y10.2.1.2.1 y10.2.1.2.2.1 y10.2.1.2.2.2.1 y10.2.1.2.2.2.2.1 y10.2.1.2.2.2.2.2.1 y10.2.1.2.2.2.2.2.2.1 y10.2.1.2.2.2.2.2.2.2.1).bind fun y12 =>
 if y12.1.1 = true then
 if (inR (y12.2.1.2.1 - (1 : Int))) = true then
 if (decide ((0 : Int) ≤ y12.2.1.2.1 - (1 : Int) ∧ y12.2.1.2.1 - (1 : Int) < I y12.2.1.1.length)) = true then
       (m64 (Dop.Nde.mk (13 : Int) t1 y4.1.1.b y4.1.1.c y4.1.1.d (@List.getD Dop.Tok y12.2.1.1 (y12.2.1.2.1 - (1 : Int)).toNat Dop.d4).text y4.1.1.n y4.1.1.type_ y4.1.1.at_) y12.2.1.1 y12.2.1.2.1 y12.2.1.2.2.1 y12.2.1.2.2.2.1 y12.2.1.2.2.2.2.1 y12.2.1.2.2.2.2.2.1 y12.2.1.2.2.2.2.2.2.1 y12.2.1.2.2.2.2.2.2.2.1).bind fun y14 =>
        m135_1 n y14.1.1 y14.2.1.1 y14.2.1.2.1 y14.2.1.2.2.1 y14.2.1.2.2.2.1 y14.2.1.2.2.2.2.1 y14.2.1.2.2.2.2.2.1 y14.2.1.2.2.2.2.2.2.1 y14.2.1.2.2.2.2.2.2.2.1
 else none
 else none
 else
 some ((t1,()),((y12.2.1.1,(y12.2.1.2.1,(y12.2.1.2.2.1,(y12.2.1.2.2.2.1,(y12.2.1.2.2.2.2.1,(y12.2.1.2.2.2.2.2.1,(y12.2.1.2.2.2.2.2.2.1,(y12.2.1.2.2.2.2.2.2.2.1,())))))))),()))
 else
     (m61 ([45,62] : List UInt8) y7.2.1.1 y7.2.1.2.1 y7.2.1.2.2.1 y7.2.1.2.2.2.1 y7.2.1.2.2.2.2.1 y7.2.1.2.2.2.2.2.1 y7.2.1.2.2.2.2.2.2.1 y7.2.1.2.2.2.2.2.2.2.1).bind fun y9 =>
 if y9.1.1 = true then
 if (inR (y9.2.1.2.1 - (1 : Int))) = true then
 if (decide ((0 : Int) ≤ y9.2.1.2.1 - (1 : Int) ∧ y9.2.1.2.1 - (1 : Int) < I y9.2.1.1.length)) = true then
 if (decide ((@List.getD Dop.Tok y9.2.1.1 (y9.2.1.2.1 - (1 : Int)).toNat Dop.d4).text = (45 : UInt8) :: (62 : UInt8) :: @List.nil UInt8)) = true then
      (m60 ((1 : Int)) y9.2.1.1 y9.2.1.2.1 y9.2.1.2.2.1 y9.2.1.2.2.2.1 y9.2.1.2.2.2.2.1 y9.2.1.2.2.2.2.2.1 y9.2.1.2.2.2.2.2.2.1 y9.2.1.2.2.2.2.2.2.2.1).bind fun y12 =>
       (m64 (Dop.Nde.mk (8 : Int) t1 y4.1.1.b y4.1.1.c y4.1.1.d y12.1.1.text (1 : Int) y4.1.1.type_ y4.1.1.at_) y12.2.1.1 y12.2.1.2.1 y12.2.1.2.2.1 y12.2.1.2.2.2.1 y12.2.1.2.2.2.2.1 y12.2.1.2.2.2.2.2.1 y12.2.1.2.2.2.2.2.2.1 y12.2.1.2.2.2.2.2.2.2.1).bind fun y13 =>
       m135_1 n y13.1.1 y13.2.1.1 y13.2.1.2.1 y13.2.1.2.2.1 y13.2.1.2.2.2.1 y13.2.1.2.2.2.2.1 y13.2.1.2.2.2.2.2.1 y13.2.1.2.2.2.2.2.2.1 y13.2.1.2.2.2.2.2.2.2.1
 else
      (m60 ((1 : Int)) y9.2.1.1 y9.2.1.2.1 y9.2.1.2.2.1 y9.2.1.2.2.2.1 y9.2.1.2.2.2.2.1 y9.2.1.2.2.2.2.2.1 y9.2.1.2.2.2.2.2.2.1 y9.2.1.2.2.2.2.2.2.2.1).bind fun y12 =>
       (m64 (Dop.Nde.mk (8 : Int) t1 y4.1.1.b y4.1.1.c y4.1.1.d y12.1.1.text y4.1.1.n y4.1.1.type_ y4.1.1.at_) y12.2.1.1 y12.2.1.2.1 y12.2.1.2.2.1 y12.2.1.2.2.2.1 y12.2.1.2.2.2.2.1 y12.2.1.2.2.2.2.2.1 y12.2.1.2.2.2.2.2.2.1 y12.2.1.2.2.2.2.2.2.2.1).bind fun y13 =>
       m135_1 n y13.1.1 y13.2.1.1 y13.2.1.2.1 y13.2.1.2.2.1 y13.2.1.2.2.2.1 y13.2.1.2.2.2.2.1 y13.2.1.2.2.2.2.2.1 y13.2.1.2.2.2.2.2.2.1 y13.2.1.2.2.2.2.2.2.2.1
 else none
 else none
 else
      (m61 ([43,43] : List UInt8) y9.2.1.1 y9.2.1.2.1 y9.2.1.2.2.1 y9.2.1.2.2.2.1 y9.2.1.2.2.2.2.1 y9.2.1.2.2.2.2.2.1 y9.2.1.2.2.2.2.2.2.1 y9.2.1.2.2.2.2.2.2.2.1).bind fun y11 =>
 if y11.1.1 = true then
 if y11.1.1 = true then
 if (inR (y11.2.1.2.1 - (1 : Int))) = true then
 if (decide ((0 : Int) ≤ y11.2.1.2.1 - (1 : Int) ∧ y11.2.1.2.1 - (1 : Int) < I y11.2.1.1.length)) = true then
       (m64 (Dop.Nde.mk (13 : Int) t1 y4.1.1.b y4.1.1.c y4.1.1.d (@List.getD Dop.Tok y11.2.1.1 (y11.2.1.2.1 - (1 : Int)).toNat Dop.d4).text y4.1.1.n y4.1.1.type_ y4.1.1.at_) y11.2.1.1 y11.2.1.2.1 y11.2.1.2.2.1 y11.2.1.2.2.2.1 y11.2.1.2.2.2.2.1 y11.2.1.2.2.2.2.2.1 y11.2.1.2.2.2.2.2.2.1 y11.2.1.2.2.2.2.2.2.2.1).bind fun y14 =>
        m135_1 n y14.1.1 y14.2.1.1 y14.2.1.2.1 y14.2.1.2.2.1 y14.2.1.2.2.2.1 y14.2.1.2.2.2.2.1 y14.2.1.2.2.2.2.2.1 y14.2.1.2.2.2.2.2.2.1 y14.2.1.2.2.2.2.2.2.2.1
 else none
 else none
 else
 some ((t1,()),((y11.2.1.1,(y11.2.1.2.1,(y11.2.1.2.2.1,(y11.2.1.2.2.2.1,(y11.2.1.2.2.2.2.1,(y11.2.1.2.2.2.2.2.1,(y11.2.1.2.2.2.2.2.2.1,(y11.2.1.2.2.2.2.2.2.2.1,())))))))),()))
 else
       (m61 ([45,45] : List UInt8) y11.2.1.1 y11.2.1.2.1 y11.2.1.2.2.1 y11.2.1.2.2.2.1 y11.2.1.2.2.2.2.1 y11.2.1.2.2.2.2.2.1 y11.2.1.2.2.2.2.2.2.1 y11.2.1.2.2.2.2.2.2.2.1).bind fun y13 =>
 if y13.1.1 = true then
 if (inR (y13.2.1.2.1 - (1 : Int))) = true then
 if (decide ((0 : Int) ≤ y13.2.1.2.1 - (1 : Int) ∧ y13.2.1.2.1 - (1 : Int) < I y13.2.1.1.length)) = true then
        (m64 (Dop.Nde.mk (13 : Int) t1 y4.1.1.b y4.1.1.c y4.1.1.d (@List.getD Dop.Tok y13.2.1.1 (y13.2.1.2.1 - (1 : Int)).toNat Dop.d4).text y4.1.1.n y4.1.1.type_ y4.1.1.at_) y13.2.1.1 y13.2.1.2.1 y13.2.1.2.2.1 y13.2.1.2.2.2.1 y13.2.1.2.2.2.2.1 y13.2.1.2.2.2.2.2.1 y13.2.1.2.2.2.2.2.2.1 y13.2.1.2.2.2.2.2.2.2.1).bind fun y15 =>
        m135_1 n y15.1.1 y15.2.1.1 y15.2.1.2.1 y15.2.1.2.2.1 y15.2.1.2.2.2.1 y15.2.1.2.2.2.2.1 y15.2.1.2.2.2.2.2.1 y15.2.1.2.2.2.2.2.2.1 y15.2.1.2.2.2.2.2.2.2.1
 else none
 else none
 else
 some ((t1,()),((y13.2.1.1,(y13.2.1.2.1,(y13.2.1.2.2.1,(y13.2.1.2.2.2.1,(y13.2.1.2.2.2.2.1,(y13.2.1.2.2.2.2.2.1,(y13.2.1.2.2.2.2.2.2.1,(y13.2.1.2.2.2.2.2.2.2.1,())))))))),()))
 else
 some (((-1 : Int),()),((c0,(c1,(c2,(c3,(c4,(c5,(c6,(c7,())))))))),())) := Env.cut_eq' (E := Tryz.m135.E n) (f0 := 3000) (c := 1) (q := ⟨[[0,0,0,0,0,0,1],[0,1,0,0,0,0,1],[0,1,0,0,0,1],[2,0,0,0,1],[1,0],[0,1,1]],[0,1],1,⟨[.al 0 0,.fd (.int .i64)],[bxB]⟩⟩) (by kernel_rfl) (((),t1,()),((c0,c1,c2,c3,c4,c5,c6,c7,()),())) (by kernel_rfl) (by kernel_rfl)
end Go.Proofs
