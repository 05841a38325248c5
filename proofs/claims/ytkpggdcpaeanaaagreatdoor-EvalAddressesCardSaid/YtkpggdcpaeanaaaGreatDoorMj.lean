/- What the boxes of some types hold: as one, with names of the parts. Written by a program. -/
import Derived.Test.YtkpggdcpaeanaaaGreatDoorMi
import Derived.Test.YtkpggdcpaeanaaaGreatDoorLb
import Derived.Test.YtkpggdcpaeanaaaGreatDoorMh
set_option linter.all false
namespace Go.Proofs
open Go Go.En
abbrev PS:Type:=List (En.Dop.Tok)×Int×List (En.Dop.AU)×List (En.Dop.G4)×Int×Int×Int×Int×Unit
abbrev PS.l (k:PS):List (En.Dop.Tok):=k.1
abbrev PS.at_ (k:PS):Int:=k.2.1
abbrev PS.T9 (k:PS) (v:Int):PS:=(k.1,v,k.2.2)
abbrev PS.nodes (k:PS):List (En.Dop.AU):=k.2.2.1
abbrev PS.Dx (k:PS) (v:List (En.Dop.AU)):PS:=(k.1,k.2.1,v,k.2.2.2)
abbrev PS.types (k:PS):List (En.Dop.G4):=k.2.2.2.1
abbrev PS.UA (k:PS) (v:List (En.Dop.G4)):PS:=(k.1,k.2.1,k.2.2.1,v,k.2.2.2.2)
abbrev PS.top (k:PS):Int:=k.2.2.2.2.1
abbrev PS.deep (k:PS):Int:=k.2.2.2.2.2.1
abbrev PS.e (k:PS):Int:=k.2.2.2.2.2.2.1
abbrev PS.X5 (k:PS) (v:Int):PS:=(k.1,k.2.1,k.2.2.1,k.2.2.2.1,k.2.2.2.2.1,k.2.2.2.2.2.1,v,k.2.2.2.2.2.2.2)
abbrev PS.when (k:PS):Int:=k.2.2.2.2.2.2.2.1
abbrev PS.FE (k:PS) (v:Int):PS:=(k.1,k.2.1,k.2.2.1,k.2.2.2.1,k.2.2.2.2.1,k.2.2.2.2.2.1,k.2.2.2.2.2.2.1,v,k.2.2.2.2.2.2.2.2)
abbrev PS.b0:En.GK:=⟨0,91,[.fd (.sl 4),.st 0,.own 5 56,.own 6 93,.st 0,.st 0,.fd (.int .i64),.st 0],false⟩
abbrev PS.b1:En.GK:=⟨1,91,[.fd (.sl 4),.st 0,.own 5 56,.own 6 93,.st 0,.st 0,.fd (.int .i64),.st 0],false⟩
end Go.Proofs
/- Functions of the seat, lifted: plan, model, contract, equations. Written by a program (Lift) that ran the layer's evaluation; Lean checks each line. -/
set_option maxRecDepth 100000
set_option maxHeartbeats 4000000
namespace Go.Proofs.Tryz
open Go Go.En
def Ko.p:Af:=⟨[],1,⟨[.al 0 0],[PS.b0]⟩,⟨[.fd (.int .i64)],[PS.b0]⟩,false,[(3,⟨[(0,true),(1,true),(2,true),(3,false),(4,true),(5,true),(6,true),(7,false),(8,false),(9,true),(10,false),(11,false),(12,false)],[13],[0,1,3,7,0,16,48,112,240,496,1023,2047,0,8191],false⟩)],[]⟩
noncomputable def Ko.E:Env Dop.D4:=Ae prog 89 tb [] Ko.p
theorem Ko.ok:AG Dop.D4 prog 89 Ko.p=true:=by kernel_rfl
noncomputable def Ko.c:Bp Dop.D4:=⟨89,Ko.p.bn,Ko.p.sp,Ko.p.rs,Ko.p.flat,.opt (Ko.E.run 3000 Ko.p.sp)⟩
theorem Ko.holds:Ko.c.Holds prog:=Ek 3000 AH B7 Ko.ok
def ET.p:Af:=⟨[],1,⟨[.al 0 0],[PS.b0]⟩,⟨[.st 4],[PS.b0]⟩,false,[(1,⟨[(0,true),(1,true),(2,true),(3,false),(4,true),(5,true),(6,true),(7,true),(8,true),(9,false),(10,true),(11,true),(12,true),(13,false),(14,false),(15,true),(16,true)],[],[0,1,3,7,15,31,63,127,255,511,63,1087,3135,7231,15423,32767,65535],false⟩),(3,⟨[(0,true),(1,true),(2,true),(3,false),(4,true),(5,true),(6,true),(7,false),(8,false),(9,false)],[10],[0,1,3,7,0,16,48,112,255,511,1023],false⟩)],[]⟩
noncomputable def ET.E:Env Dop.D4:=Ae prog 45 tb [Ko.c] ET.p
theorem ET.ok:AG Dop.D4 prog 45 ET.p=true:=by kernel_rfl
noncomputable def ET.c:Bp Dop.D4:=⟨45,ET.p.bn,ET.p.sp,ET.p.rs,ET.p.flat,.opt (ET.E.run 3000 ET.p.sp)⟩
theorem ET.holds:ET.c.Holds prog:=Ek 3000 AH (Az Ko.holds B7) ET.ok
def FJ.p:Af:=⟨[],0,⟨[.fd (.int .i64),.fd (.int .i64)],[]⟩,⟨[.st 5],[]⟩,true,[],[]⟩
noncomputable def FJ.E:Env Dop.D4:=Ae prog 90 tb [] FJ.p
theorem FJ.ok:AG Dop.D4 prog 90 FJ.p=true:=by kernel_rfl
noncomputable def FJ.c:Bp Dop.D4:=⟨90,FJ.p.bn,FJ.p.sp,FJ.p.rs,FJ.p.flat,.opt (FJ.E.run 3000 FJ.p.sp)⟩
theorem FJ.holds:FJ.c.Holds prog:=Ek 3000 AH B7 FJ.ok
def Mq.p:Af:=⟨[],1,⟨[.al 0 0,.fd .str],[PS.b0]⟩,⟨[.fd .bool],[PS.b0]⟩,false,[],[]⟩
theorem Mq.ok:AG Dop.D4 prog 91 Mq.p=true:=by kernel_rfl
def Cm.p:Af:=⟨[],1,⟨[.al 0 0,.fd .str],[PS.b0]⟩,⟨[.fd .bool],[PS.b0]⟩,false,[],[]⟩
theorem Cm.ok:AG Dop.D4 prog 94 Cm.p=true:=by kernel_rfl
def CV.p:Af:=⟨[],1,⟨[.al 0 0,.fd (.int .i64)],[PS.b0]⟩,⟨[],[PS.b0]⟩,false,[],[]⟩
noncomputable def CV.E:Env Dop.D4:=Ae prog 142 tb [ET.c] CV.p
theorem CV.ok:AG Dop.D4 prog 142 CV.p=true:=by kernel_rfl
noncomputable def CV.c:Bp Dop.D4:=⟨142,CV.p.bn,CV.p.sp,CV.p.rs,CV.p.flat,.opt (CV.E.run 3000 CV.p.sp)⟩
theorem CV.holds:CV.c.Holds prog:=Ek 3000 AH (Az ET.holds B7) CV.ok
noncomputable def CV (e:Int) (k0:PS):Option (Unit×(PS×Unit)):=CV.E.run 3000 CV.p.sp (((),e,()),(k0,()))
def DG.p:Af:=⟨[],1,⟨[.al 0 0,.fd .str],[PS.b0]⟩,⟨[],[PS.b0]⟩,false,[],[]⟩
theorem DG.ok:AG Dop.D4 prog 92 DG.p=true:=by kernel_rfl
def IB.p:Af:=⟨[],1,⟨[.al 0 0,.fd (.int .i64)],[PS.b0]⟩,⟨[.st 4],[PS.b0]⟩,false,[],[]⟩
theorem IB.ok:AG Dop.D4 prog 93 IB.p=true:=by kernel_rfl
abbrev De.q2:Cut:=⟨[[0,0,0,0,1,0,1],[0,1,0,0,1,0,1],[2,0,0,1,0,1],[1,0],[0,1,1]],[0,3,7,8],1,⟨[.fd (.sl 6),.al 0 0,.fd (.int .i64),.fd (.int .i64)],[⟨0,93,[.st 6],false⟩]⟩⟩
def De.p:Af:=⟨[(2,De.q2)],0,⟨[.fd (.sl 6),.st 6],[]⟩,⟨[.fd (.int .i64)],[]⟩,true,[(4,⟨[(0,false),(1,true),(2,true),(3,false),(4,false),(5,true)],[],[0,0,0,6,14,31],false⟩)],[]⟩
theorem De.ok:AG Dop.D4 prog 179 De.p=true:=by kernel_rfl
def JW.p:Af:=⟨[],1,⟨[.al 0 0,.st 6],[PS.b0]⟩,⟨[.fd (.int .i64)],[PS.b0]⟩,false,[(1,⟨[(0,true),(1,true),(2,true),(3,true),(4,false),(5,false),(6,false),(7,true)],[],[0,1,3,7,15,0,63,127],true⟩),(7,⟨[(0,true),(1,true),(2,true),(3,true),(4,true),(5,false),(6,false),(7,false)],[8,9,10,11,12],[0,0,2,6,14,30,0,64,254,511,1023,2047,4095],false⟩)],[]⟩
theorem JW.ok:AG Dop.D4 prog 144 JW.p=true:=by kernel_rfl
abbrev DE.c9:Cut:=⟨[[0,0,0,0,0,0,1,1,1],[0,1,0,0,0,0,1,1,1],[0,1,0,0,0,1,1,1],[2,0,0,0,1,1,1],[1,1],[0,1,1,1,1]],[0,3],1,⟨[.al 0 0,.fd (.int .i64)],[PS.b0]⟩⟩
def DE.p:Af:=⟨[(11,DE.c9)],1,⟨[.al 0 0],[PS.b0]⟩,⟨[.fd (.int .i64)],[PS.b0]⟩,false,[],[]⟩
theorem DE.ok:AG Dop.D4 prog 143 DE.p=true:=by kernel_rfl
def Qm.p:Af:=⟨[],1,⟨[.al 0 0],[PS.b0]⟩,⟨[.st 5],[PS.b0]⟩,false,[],[]⟩
theorem Qm.ok:AG Dop.D4 prog 95 Qm.p=true:=by kernel_rfl
def PZ.p:Af:=⟨[],1,⟨[.al 0 0,.fd (.int .i64)],[PS.b0]⟩,⟨[.fd (.int .i64)],[PS.b0]⟩,false,[],[]⟩
theorem PZ.ok:AG Dop.D4 prog 96 PZ.p=true:=by kernel_rfl
def Cn.p:Af:=⟨[],1,⟨[.al 0 0,.st 5],[PS.b0]⟩,⟨[.fd (.int .i64)],[PS.b0]⟩,false,[(5,⟨[(0,true),(1,true),(2,true),(3,true),(4,true),(5,false),(6,false),(7,false)],[8,9,10,11,12],[0,0,2,6,14,30,0,64,254,511,1023,2047,4095],false⟩)],[]⟩
noncomputable def Cn.E:Env Dop.D4:=Ae prog 97 tb [CV.c] Cn.p
theorem Cn.ok:AG Dop.D4 prog 97 Cn.p=true:=by kernel_rfl
noncomputable def Cn.c:Bp Dop.D4:=⟨97,Cn.p.bn,Cn.p.sp,Cn.p.rs,Cn.p.flat,.opt (Cn.E.run 3000 Cn.p.sp)⟩
theorem Cn.holds:Cn.c.Holds prog:=Ek 3000 AH (Az CV.holds B7) Cn.ok
def Gt.p:Af:=⟨[],1,⟨[.al 0 0,.fd (.int .i64)],[PS.b0]⟩,⟨[.fd (.int .i64)],[PS.b0]⟩,false,[],[]⟩
noncomputable def Gt.E:Env Dop.D4:=Ae prog 100 tb [] Gt.p
theorem Gt.ok:AG Dop.D4 prog 100 Gt.p=true:=by kernel_rfl
noncomputable def Gt.c:Bp Dop.D4:=⟨100,Gt.p.bn,Gt.p.sp,Gt.p.rs,Gt.p.flat,.opt (Gt.E.run 3000 Gt.p.sp)⟩
theorem Gt.holds:Gt.c.Holds prog:=Ek 3000 AH B7 Gt.ok
def Mc.p:Af:=⟨[],0,⟨[.st 7,.fd (.int .i64)],[]⟩,⟨[.st 5],[]⟩,true,[],[]⟩
theorem Mc.ok:AG Dop.D4 prog 120 Mc.p=true:=by kernel_rfl
abbrev GG.q3:Cut:=⟨[[0,0,0,0,1,0,1,1],[0,1,0,0,1,0,1,1],[2,0,0,1,0,1,1],[1,0],[0,1,1,1]],[1,2,5,9,10],1,⟨[.fd (.int .i64),.al 0 0,.own 0 3,.fd (.int .i64),.fd (.int .i64)],[⟨0,41,[.st 7],false⟩]⟩⟩
def GG.p:Af:=⟨[(3,GG.q3)],0,⟨[.st 7,.fd (.int .i64)],[]⟩,⟨[.own 0 3],[]⟩,true,[],[]⟩
theorem GG.ok:AG Dop.D4 prog 73 GG.p=true:=by kernel_rfl
def Mg.p:Af:=⟨[],1,⟨[.al 0 0],[PS.b0]⟩,⟨[.fd .bool],[PS.b0]⟩,false,[],[]⟩
theorem Mg.ok:AG Dop.D4 prog 204 Mg.p=true:=by kernel_rfl
abbrev HU.q2:Cut:=⟨[[0,0,0,0,0,0,1,1,0,1],[0,1,0,0,0,0,1,1,0,1],[0,1,0,0,0,1,1,0,1],[2,0,0,0,1,1,0,1],[1,0],[0,1,1,1,0,1],[3,0,1]],[0,4],0,⟨[.fd .str,.fd (.int .i64)],[]⟩⟩
def HU.p:Af:=⟨[(2,HU.q2)],0,⟨[.fd .str],[]⟩,⟨[.fd (.int .i64),.fd .bool],[]⟩,true,[],[]⟩
theorem HU.ok:AG Dop.D4 prog 43 HU.p=true:=by kernel_rfl
def Sb.p:Af:=⟨[],0,⟨[.fd (.int .u8)],[]⟩,⟨[.fd .bool],[]⟩,true,[],[]⟩
theorem Sb.ok:AG Dop.D4 prog 82 Sb.p=true:=by kernel_rfl
def Sc.p:Af:=⟨[],0,⟨[.fd (.int .u8)],[]⟩,⟨[.fd .bool],[]⟩,true,[],[]⟩
theorem Sc.ok:AG Dop.D4 prog 85 Sc.p=true:=by kernel_rfl
abbrev Hz.q2:Cut:=⟨[[0,0,0,0,0,0,1,1],[0,1,0,0,0,0,1,1],[0,1,0,0,0,1,1],[2,0,0,0,1,1],[1,0],[0,1,1,1]],[0,3],0,⟨[.fd .str,.fd (.int .i64)],[]⟩⟩
def Hz.p:Af:=⟨[(2,Hz.q2)],0,⟨[.fd .str],[]⟩,⟨[.fd (.int .i64)],[]⟩,true,[],[]⟩
theorem Hz.ok:AG Dop.D4 prog 83 Hz.p=true:=by kernel_rfl
def XK.p:Af:=⟨[],0,⟨[.fd .str],[]⟩,⟨[.fd .bool],[]⟩,true,[],[]⟩
theorem XK.ok:AG Dop.D4 prog 84 XK.p=true:=by kernel_rfl
def Ql.p:Af:=⟨[],1,⟨[.fd (.int .i64),.fd (.int .i64),.fd (.int .i64),.al 0 0],[⟨0,9,[.st 1],false⟩]⟩,⟨[.st 4,.fd (.int .i64)],[⟨0,9,[.fd .str],false⟩]⟩,true,[],[]⟩
theorem Ql.ok:AG Dop.D4 prog 81 Ql.p=true:=by kernel_rfl
abbrev Gc.q9:Cut:=⟨[[0,0,0,0,1,0,1,1,1,1,1],[0,1,0,0,1,0,1,1,1,1,1],[2,0,0,1,0,1,1,1,1,1],[1,0],[0,1,1,1,1,1,1]],[0,5,6,34,35],0,⟨[.fd .str,.fd (.int .i64),.fd (.int .i64),.fd (.int .i64),.fd (.int .i64)],[]⟩⟩
def Gc.p:Af:=⟨[(9,Gc.q9)],0,⟨[.fd .str],[]⟩,⟨[.fd (.int .i64),.fd .bool],[]⟩,true,[(6,⟨[(0,true),(2,true)],[1,3],[0,1,0,7],false⟩)],[]⟩
theorem Gc.ok:AG Dop.D4 prog 86 Gc.p=true:=by kernel_rfl
def Sd.p:Af:=⟨[],0,⟨[.fd .str],[]⟩,⟨[.fd (.int .i64),.fd (.int .i64)],[]⟩,true,[],[]⟩
theorem Sd.ok:AG Dop.D4 prog 87 Sd.p=true:=by kernel_rfl
def Md.p:Af:=⟨[],0,⟨[],[]⟩,⟨[.own 1 9],[]⟩,true,[],[]⟩
theorem Md.ok:AG Dop.D4 prog 141 Md.p=true:=by kernel_rfl
abbrev Jt.q2:Cut:=⟨[[0,0,0,0,1,0,1],[0,1,0,0,1,0,1],[2,0,0,1,0,1],[1,0],[0,1,1]],[0,5,6,7],0,⟨[.fd .str,.own 1 9,.fd (.int .i64),.fd (.int .i64)],[]⟩⟩
def Jt.p:Af:=⟨[(2,Jt.q2)],0,⟨[.fd .str],[]⟩,⟨[.fd .str],[]⟩,true,[],[]⟩
theorem Jt.ok:AG Dop.D4 prog 88 Jt.p=true:=by kernel_rfl
def Sa.p:Af:=⟨[],0,⟨[.fd .str],[]⟩,⟨[.st 4,.fd (.int .i64)],[]⟩,true,[],[]⟩
theorem Sa.ok:AG Dop.D4 prog 44 Sa.p=true:=by kernel_rfl
abbrev m19.q5:Cut:=⟨[[0,0,0,0,0,1,1,1,1],[0,1,0,0,0,1,1,1,1],[1,1],[2,0,0,1,1,1,1],[1,0]],[0,5,6],0,⟨[.fd .str,.own 4 38,.fd (.int .i64)],[]⟩⟩
def m19.p:Af:=⟨[(5,m19.q5)],0,⟨[.fd .str],[]⟩,⟨[.own 4 38,.fd (.int .i64),.fd (.int .i64)],[]⟩,true,[],[]⟩
theorem m19.ok:AG Dop.D4 prog 19 m19.p=true:=by kernel_rfl
end Go.Proofs.Tryz
/- Functions of the seat, lifted: plan, model, contract, equations. Written by a program (Lift) that ran the layer's evaluation; Lean checks each line. -/
set_option maxRecDepth 100000
set_option maxHeartbeats 4000000
namespace Go.Proofs.Tryz
open Go Go.En
def Mp.p:Af:=⟨[],1,⟨[.al 0 0],[⟨0,91,[.fd (.sl 4),.st 0,.hd,.hd,.st 0,.st 0,.fd (.int .i64),.st 0],false⟩]⟩,⟨[.fd (.int .i64)],[⟨0,91,[.fd (.sl 4),.fd (.int .i64),.hd,.hd,.fd (.int .i64),.fd (.int .i64),.fd (.int .i64),.fd (.int .i64)],false⟩]⟩,false,[(3,⟨[(0,true),(1,true),(2,true),(3,false),(4,true),(5,true),(6,true),(7,false),(8,false),(9,true),(10,false),(11,false),(12,false)],[13],[0,1,3,7,0,16,48,112,240,496,1023,2047,0,8191],false⟩)],[]⟩
theorem Mp.ok:AG Dop.D4 prog 89 Mp.p=true:=by kernel_rfl
def Mm.p:Af:=⟨[],1,⟨[.al 0 0],[⟨0,91,[.fd (.sl 4),.st 0,.hd,.hd,.st 0,.st 0,.fd (.int .i64),.st 0],false⟩]⟩,⟨[.st 4],[⟨0,91,[.fd (.sl 4),.fd (.int .i64),.hd,.hd,.fd (.int .i64),.fd (.int .i64),.fd (.int .i64),.fd (.int .i64)],false⟩]⟩,false,[(1,⟨[(0,true),(1,true),(2,true),(3,false),(4,true),(5,true),(6,true),(7,true),(8,true),(9,false),(10,true),(11,true),(12,true),(13,false),(14,false),(15,true),(16,true)],[],[0,1,3,7,15,31,63,127,255,511,63,1087,3135,7231,15423,32767,65535],false⟩),(3,⟨[(0,true),(1,true),(2,true),(3,false),(4,true),(5,true),(6,true),(7,false),(8,false),(9,false)],[10],[0,1,3,7,0,16,48,112,255,511,1023],false⟩)],[]⟩
theorem Mm.ok:AG Dop.D4 prog 45 Mm.p=true:=by kernel_rfl
def Ip.p:Af:=⟨[],1,⟨[.al 0 0,.fd .str],[⟨0,91,[.fd (.sl 4),.st 0,.hd,.hd,.st 0,.st 0,.fd (.int .i64),.st 0],false⟩]⟩,⟨[.fd .bool],[⟨0,91,[.fd (.sl 4),.fd (.int .i64),.hd,.hd,.fd (.int .i64),.fd (.int .i64),.fd (.int .i64),.fd (.int .i64)],false⟩]⟩,false,[],[]⟩
theorem Ip.ok:AG Dop.D4 prog 91 Ip.p=true:=by kernel_rfl
def HO.p:Af:=⟨[],1,⟨[.al 0 0],[⟨0,91,[.fd (.sl 4),.st 0,.hd,.hd,.st 0,.st 0,.fd (.int .i64),.st 0],false⟩]⟩,⟨[.fd .bool],[⟨0,91,[.fd (.sl 4),.fd (.int .i64),.hd,.hd,.fd (.int .i64),.fd (.int .i64),.fd (.int .i64),.fd (.int .i64)],false⟩]⟩,false,[],[]⟩
theorem HO.ok:AG Dop.D4 prog 204 HO.p=true:=by kernel_rfl
end Go.Proofs.Tryz
/- parser.list: a range over slices.Backward, as a contract. -/
set_option maxRecDepth 100000
namespace Go.Proofs
open Go Go.En Go.RowKit
abbrev Sq:GK:=⟨0,91,[.fd (.sl 4),.fd (.int .i64),.own 5 56,.own 6 93,.fd (.int .i64),.fd (.int .i64),.fd (.int .i64),.fd (.int .i64)],false⟩
def Tryz.Bg.p:Af:=⟨[],1,⟨[.al 0 0,.fd (.sl 0)],[Sq]⟩,⟨[.fd (.int .i64)],[Sq]⟩,false,[(5,⟨[(0,true),(1,false),(2,true),(3,false),(4,true)],[5,1000008],[0,0,1,5,15,31],false⟩)],[(99,[])]⟩
noncomputable def Tryz.Bg.E:Env En.Dop.D4:=Ae Tryz.prog 47 Tryz.tb [Tryz.Gt.c,Tryz.FJ.c,Tryz.Cn.c] Tryz.Bg.p
theorem Tryz.Bg.ok:AG En.Dop.D4 Tryz.prog 47 Tryz.Bg.p=true:=by kernel_rfl
noncomputable def BB (body:Code) (a:List Nat):Code:=match G2 body a with
 | some c=>c
 | none=>.skip
abbrev I3:En.Spec:=⟨[],[Sq,⟨1,89,[.al 0 0],false⟩,⟨2,3,[.fd (.int .i64)],false⟩]⟩
abbrev ix:En.Spec:=⟨[.al 1 0,.al 2 0,.fd (.int .i64)],[Sq,⟨1,89,[.al 0 0],false⟩,⟨2,3,[.fd (.int .i64)],false⟩]⟩
noncomputable def Tryz.Bg.step (x:Int) (y:En.Spec.D En.Dop.D4 I3):Option (En.Spec.D En.Dop.D4 I3):=
 (TF Tryz.Bg.E 3000 [1,0,1,0,1,1] (BB (AR Tryz.prog 47) [1,0,1,0,1,1]) ix I3 [2,5,7] 3 (((),(),x,()),y.2)).eval (fun _ _=>none)
noncomputable abbrev jA:Code:=BB (AR Tryz.prog 47) [0,0,1,0,1,1]
noncomputable abbrev jf:Code:=BB (AR Tryz.prog 47) [1,0,1,0,1,1]
noncomputable abbrev jB:Code:=BB (AR Tryz.prog 47) [1,1,1]
noncomputable def Tryz.Bg.go:List Int->En.Spec.D En.Dop.D4 I3->Option (En.Spec.D En.Dop.D4 I3)
 | [],y=>some y
 | x::r,y=>(Tryz.Bg.step x y).bind (Tryz.Bg.go r)
theorem Tryz.Bg.Ia: ∀ (l r:List Int) (y:En.Spec.D En.Dop.D4 I3),Tryz.Bg.go (l++r) y=(Tryz.Bg.go l y).bind (Tryz.Bg.go r)
 | [],r,y=>rfl
 | x::l,r,y=>by
  simp only [List.cons_append,Tryz.Bg.go]
  cases Tryz.Bg.step x y with
  | none=>rfl
  | some z=>exact Tryz.Bg.Ia l r z
noncomputable def Tryz.Bg.R (x:En.Spec.D En.Dop.D4 Tryz.Bg.p.sp):Option (En.Spec.D En.Dop.D4 Tryz.Bg.p.rs):=
 match decide (x.1.2.1.length<9223372036854775807) with
 | true=>(Tryz.Bg.go x.1.2.1.reverse ((),(x.2.1,((),()),(-1,()),()))).bind fun y=>some ((y.2.2.2.1.1,()),(y.2.1,()))
 | false=>none
noncomputable def Tryz.Bg.c:Bp En.Dop.D4:=⟨47,Tryz.Bg.p.bn,Tryz.Bg.p.sp,Tryz.Bg.p.rs,Tryz.Bg.p.flat,.opt Tryz.Bg.R⟩
noncomputable def gM (l:List Int) (x:En.Spec.D En.Dop.D4 ⟨[],[Sq]⟩):St En.Dop.D4:=match En.Spec.enc (S:=En.Dop.D4) ⟨[.al 0 0,.fd (.sl 0)],[Sq]⟩ (((),l,()),x.2) 1 with
 | (_,o,_)=>⟨[(0,.ptr 0 0),(1,.h 1),(2,.ptr 5 0),(4,.v (.int .i64 0)),(5,.ptr 6 0),(9,.h 1),(10,.fn 146 [.ptr 7 0])],(7,.AQ 66 [.h 1])::(6,.AQ 3 [.v (.int .i64 (-1))])::(5,.AQ 89 [.ptr 0 0])::o,8,25⟩
theorem Tryz.Bg.part (l:List Int) (x:En.Spec.D En.Dop.D4 ⟨[],[Sq]⟩) (vs:List SV) (o:List (Nat×En.Own En.Dop.D4)) (n:Nat) (h:En.Spec.enc (S:=En.Dop.D4) ⟨[.al 0 0,.fd (.sl 0)],[Sq]⟩ (((),l,()),x.2) 1=(vs,o,n)):
  OG Tryz.Bg.E 3000 [.code [] (AR Tryz.prog 47)] ⟨BY 0 vs,o,n,25⟩=.ret ([.code [0,1,0,1,1] (.rangeFunc (.tmp 10) #[11,12] jA jf),.AQ 0,.code [1,1,1] jB],gM l x):=by
 cases h
 kernel_rfl
noncomputable def Xz:Oper:=match jA with
 | .region _ ⟨o::_⟩ _=>o
 | _=>default
theorem dI:jA=.region 3 #[Xz] false:=by kernel_rfl
theorem T7:Xz.op=.assign (.tmp 12):=by kernel_rfl
theorem ND:Xz.dst=some 7:=by kernel_rfl
theorem Su:Xz.guard=none:=by kernel_rfl
noncomputable def X0:Array Oper:=match jB with
 | .seq (.region _ o _) _=>o
 | _=>#[]
theorem dK:jB=.seq (.region 7 X0 false) .ret:=by kernel_rfl
theorem dJ:G2 (AR Tryz.prog 47) [1,0,1,0,1,1]=some jf:=by kernel_rfl
theorem ga:M0 (AR Tryz.prog 47)=true:=by kernel_rfl
theorem TH (l:List Int):(bwd l).map Prod.snd=l.reverse:=by
 apply List.ext_getElem
 ·simp [bwd,upto]
 ·intro i h1 h2
  have h3:i<l.length:=by simpa using h2
  simp [bwd,upto,List.getElem_reverse,List.getElem?_eq_getElem (show l.length -1 -i<l.length by omega)]
theorem Vx (l:List Int):En.Dop.D4.flat 0 l=l.map fun n=>FC.int .i64 n:=by
 induction l with
 | nil=>rfl
 | cons x r ih=>exact congrArg (FC.int .i64 x::·) ih
theorem Q4 {w:World} {D:Nat->Prop} {l:List Int} {v:Value} (h:Am En.Dop.D4 w D (.sl 0 l) v):(l=[]/\ ∃ a c,v=.slice a 0 c)\/ ∃ b off cap,v=.slice (some ⟨b,off,none⟩) l.length cap/\D b/\ ∀ j,j<l.length->w.cell? ⟨b,off+j,none⟩=some (.int .i64 (l[j]?.getD 0)):=by
 cases h with
 | nil σ a c=>exact .inl ⟨rfl,a,c,rfl⟩
 | sl σ l b off c vs hb hlc hc hv=>
  refine .inr ⟨b,off,c,rfl,hb,fun j hj=>?_⟩
  have hf:(En.Dop.D4.flat 0 l)[j]?=some (.int .i64 l[j]):=by rw [Vx];simp [hj]
  rw [hc j _ hf]
  have:=hv j _ hf
  cases hvj:vs j<;>rw [hvj] at this<;>cases this
  simp [hj]
theorem XH (l:List Int) (x:En.Spec.D En.Dop.D4 ⟨[],[Sq]⟩): ∃ ps,En.Spec.parse (S:=En.Dop.D4) ⟨[.al 1 0,.al 2 0],I3.bx⟩ true [.ptr 5 0,.ptr 6 0] (gM l x).o (QS 1) 3=some ((((),(),()),(x.2.1,((),()),(-1,()),())),ps)/\lk ps.o 7=some (.AQ 66 [.h 1])/\ps.bl=[]/\lk ps.m 1=some 5/\lk ps.m 2=some 6/\lk ps.m 0=some 0:=
 ⟨⟨(7,.AQ 66 [.h 1])::(2,.sl 4 x.2.1.1)::(1,.sl 0 l)::[],[(2,6),(1,5),(0,0)],[],3⟩,by kernel_rfl,by kernel_rfl,by kernel_rfl,by kernel_rfl,by kernel_rfl,by kernel_rfl⟩
theorem cZ (y:En.Spec.D En.Dop.D4 I3):OG Tryz.Bg.E 3000 [.ops X0 X0.toList] ⟨[(2,.ptr 1 0),(5,.ptr 2 0)],(I3.enc (S:=En.Dop.D4) y 3).2.1,(I3.enc (S:=En.Dop.D4) y 3).2.2,25⟩=
  .ret ([],⟨[(2,.ptr 1 0),(5,.ptr 2 0),(24,.v (.int .i64 y.2.2.2.1.1)),(4,.v (.int .i64 y.2.2.2.1.1))],(I3.enc (S:=En.Dop.D4) y 3).2.1,(I3.enc (S:=En.Dop.D4) y 3).2.2,25⟩):=by kernel_rfl
theorem cb (y:En.Spec.D En.Dop.D4 I3): ∃ ps,En.Spec.parse (S:=En.Dop.D4) ⟨[.fd (.int .i64)],[Sq]⟩ true [.v (.int .i64 y.2.2.2.1.1)] (I3.enc (S:=En.Dop.D4) y 3).2.1 (QS 1) 1=some (((y.2.2.2.1.1,()),(y.2.1,())),ps)/\lk ps.m 0=some 0:=
 ⟨⟨(2,.AQ 3 [.v (.int .i64 y.2.2.2.1.1)])::(1,.AQ 89 [.ptr 0 0])::(3,.sl 4 y.2.1.1)::[],[(0,0)],[],1⟩,by kernel_rfl,by kernel_rfl⟩
end Go.Proofs
/- parser.list: its contract holds. -/
set_option maxRecDepth 100000
namespace Go.Proofs
open Go Go.En Go.RowKit
theorem jZ:(Tryz.Bg.E).Ok Tryz.prog/\Bh Tryz.prog 47=true/\Tryz.Bg.p.sp.okB Tryz.Bg.p.bn=true/\ ∃ fn,Tryz.prog.funcs[47]?=some fn/\fn.body=some (AR Tryz.prog 47)/\fn.ntmps=25/\fn.results=#[.tmp 4]:=by
 obtain ⟨h1,h2,h3,fn,h4,h5,h6,h7⟩:=GO (p:=Tryz.Bg.p) Tryz.AH (Az Tryz.Gt.holds (Az Tryz.FJ.holds (Az Tryz.Cn.holds B7))) Tryz.Bg.ok
 have e1:Cd Tryz.prog 47=25:=by kernel_rfl
 have e2:Du Tryz.prog 47=[.tmp 4]:=by kernel_rfl
 refine ⟨h1,h2,h3,fn,h4,h5,h6.trans e1,?_⟩
 rw [e2] at h7
 rw [<-h7]
theorem Um {l:Nat} {x:Int×Int} {W:World} {a:Act} {K:Act->World->Prop} (hsz:a.tmps.size=25)
  (h: ∀ a':Act,a'.defers=[]->a'.tmps.size=25->(∀ t,t≠7->t≠11->t≠12->a'.tmps.getD t undef=a.tmps.getD t undef)->a'.tmps.getD 7 undef=.int .i64 x.2->K a' W):
  jA.wpIn (Fence.wide.inRound l) 0 Tryz.prog (Exit.then K (fun _ _ _=>False)) { tmps:=(#[11,12].zip #[Value.int .i64 x.1,Value.int .i64 x.2]).foldl (fun t (p,v)=>t.setIfInBounds p v) a.tmps,defers:=[] } W:=by
 rw [dI]
 refine Ex (.inr ⟨⟨l,rfl⟩,fun ⟨_,_,h⟩=>h,fun j o ho=>?_⟩) ?_
 ·cases j with
  | zero=>simp at ho;subst ho;unfold Ec;rw [T7]
  | succ j=>simp at ho
 ·show wpList _ _ _ [Xz] _ _
  unfold wpList
  rw [if_pos (by simp [Region.wanted,Su])]
  refine .inl (Ai (v:=.int .i64 x.2) (w':=W) ?_ ?_)
  ·simp [execOp,T7,Act.eval,hsz]
  ·refine h _ rfl (by simp [Act.put,ND,hsz]) (fun t h1 h2 h3=>?_) ?_
   ·simp [Act.put,ND,Array.getD_eq_getD_getElem?,Array.getElem?_setIfInBounds,Ne.symm h1,Ne.symm h2,Ne.symm h3]
   ·simp [Act.put,ND,Array.getD_eq_getD_getElem?,Array.getElem?_setIfInBounds,hsz]
def ja (w0 W:World) (F D0 K:Nat->Prop) (β2:Nat->Nm) (y0:En.Spec.D En.Dop.D4 I3) (pre:List (Int×Int)) (W':World):Prop:=
 ∃ y,Tryz.Bg.go (pre.map Prod.snd) y0=some y/\Nd w0 W F D0 K I3 3 β2 W.heap.size y W'
theorem ZU {w0 W W':World} {F D0 K:Nat->Prop} {β2:Nat->Nm} {y0 yq:En.Spec.D En.Dop.D4 I3} (hkp:Bq En.Dop.D4 w0 F D0) {xs pre rest:List (Int×Int)} {x:Int×Int} (hgo:Tryz.Bg.go (xs.map Prod.snd) y0=some yq) (hxs:xs=pre++x::rest) (hI:ja w0 W F D0 K β2 y0 pre W')
  {a':Act} (hd:a'.defers=[]) (hsz:a'.tmps.size=25) (h2:a'.tmps.getD 2 undef=.pointer (some ⟨(β2 1).AQ,0,none⟩)) (h5:a'.tmps.getD 5 undef=.pointer (some ⟨(β2 2).AQ,0,none⟩)) (h7:a'.tmps.getD 7 undef=.int .i64 x.2) (l:Nat):
  jf.wpIn (Fence.wide.inRound l) 0 Tryz.prog (Lo W.heap.size (ja w0 W F D0 K β2 y0) (fun _ _ _=>False) (pre++[x]) W') a' W':=by
 obtain ⟨y,hy,D,β,vs,o,n,e1,e2,e3,e4,e5,e6,e7,e8,e9⟩:=hI
 obtain ⟨hE,_,_,_⟩:=jZ
 have hst: ∃ y',Tryz.Bg.step x.2 y=some y':=by
  rw [hxs,List.map_append,Tryz.Bg.Ia,hy] at hgo
  simp only [Option.bind_some,List.map_cons,Tryz.Bg.go] at hgo
  cases hs:Tryz.Bg.step x.2 y with
  | none=>rw [hs] at hgo;cases hgo
  | some y'=>exact ⟨y',rfl⟩
 obtain ⟨y',hy'⟩:=hst
 have he:ix.enc (S:=En.Dop.D4) (((),(),x.2,()),y.2) 3=([.ptr 1 0,.ptr 2 0,.v (.int .i64 x.2)],o,n):=by
  have h:ix.enc (S:=En.Dop.D4) (((),(),x.2,()),y.2) 3=([.ptr 1 0,.ptr 2 0,.v (.int .i64 x.2)],(I3.enc (S:=En.Dop.D4) y 3).2.1,(I3.enc (S:=En.Dop.D4) y 3).2.2):=by kernel_rfl
  rw [h,e1]
 refine TG hE (f0:=3000) (adr:=[1,0,1,0,1,1]) dJ ga (sp:=ix) (qe:=I3) (ts:=[2,5,7]) (bn:=3) (by kernel_rfl) (x:=(((),(),x.2,()),y.2)) (y:=y') hy' he e3.base ?_ e4 (e3.inv hkp) hd hsz ?_ (fun _ _ _ h=>h) (fun ⟨_,_,h⟩=>h) ?_ l
 ·simp only [BH,SV.on,and_true]
  omega
 ·intro j t v hj hv
  match j with
  | 0=>
   simp only [List.getElem?_cons_zero,Option.some.injEq] at hj hv;subst hj;subst hv
   exact ⟨by show 2<25;omega,by rw [h2,<- e2 1 (by omega)];simp only [SV.den]⟩
  | 1=>
   simp only [List.getElem?_cons_succ,List.getElem?_cons_zero,Option.some.injEq] at hj hv;subst hj;subst hv
   exact ⟨by show 5<25;omega,by rw [h5,<- e2 2 (by omega)];simp only [SV.den]⟩
  | 2=>
   simp only [List.getElem?_cons_succ,List.getElem?_cons_zero,Option.some.injEq] at hj hv;subst hj;subst hv
   exact ⟨by show 7<25;omega,by rw [h7];simp only [SV.den]⟩
  | j+3=>simp at hj
 ·intro a'' W'' D' β' vs' o' n' f1 f2 f3 f4
  obtain ⟨g1,g2⟩:=Nd.next e3 e2 e5 e6 e7 e8 e9 f1 f2 f3 f4
  refine ⟨g1,y',?_,g2⟩
  rw [List.map_append,Tryz.Bg.Ia,hy]
  simp only [Option.bind_some,List.map_cons,List.map_nil,Tryz.Bg.go,hy']
theorem ZV {w:World} {D:Nat->Prop} {β:Nat->Nm} {o0:List (Nat×En.Own En.Dop.D4)} (hkp:Bq En.Dop.D4 w (AJ o0 β) D) {fn:Func} (hres:fn.results=#[.tmp 4]) {W W':World} {K:Nat->Prop} {β2:Nat->Nm} {yq:En.Spec.D En.Dop.D4 I3} (hβ:β2 0=β 0) (hm:Nd w W (AJ o0 β) D K I3 3 β2 W.heap.size yq W')
  {a:Act} (hd:a.defers=[]) (hsz:a.tmps.size=25) (h2:a.tmps.getD 2 undef=.pointer (some ⟨(β2 1).AQ,0,none⟩)) (h5:a.tmps.getD 5 undef=.pointer (some ⟨(β2 2).AQ,0,none⟩)) (hK:W'.heap[W.heap.size]?=some (.deferred (some []))):
  jB.wpIn Fence.wide 0 Tryz.prog (K1 (bodyPostM Fence.wide 2 Tryz.prog fn (DZ (S:=En.Dop.D4) Tryz.Bg.c ((yq.2.2.2.1.1,()),(yq.2.1,())) w D β o0))) { a with defers:={ target:=.collected W.heap.size,args:=#[] }::a.defers } W':=by
 obtain ⟨D',β',vs,o,n,e1,e2,e3,e4,e5,e6,e7,e8,e9⟩:=hm
 obtain ⟨hE,_,_,_⟩:=jZ
 refine wpIn_wide.2 ?_
 rw [dK]
 refine wp_seq (wp_region_list ?_)
 have hkp':=e3.keeps hkp
 have ho:o=(I3.enc (S:=En.Dop.D4) yq 3).2.1:=by rw [e1]
 have hn:n=(I3.enc (S:=En.Dop.D4) yq 3).2.2:=by rw [e1]
 have hv:=Jj hE (w0:=W') (F:=AJ o β') (D0:=D') (bn:=3) (β0:=β') (f0:=3000) (k0:=[.ops X0 X0.toList]) (s0:=⟨[(2,.ptr 1 0),(5,.ptr 2 0)],o,n,25⟩)
  (Q:=fun e a' w'=>match e with
   | .normal=>a'.defers=[]/\a'.tmps.getD 4 undef=.int .i64 yq.2.2.2.1.1/\ ∃ D2 β3,(∀ i,i<3->β3 i=β' i)/\GH W' (AJ o β') D' D2 o (· <n) β3 w'
   | _=>False) hkp' (fun _ _ _ _ _ h=>h) e4 rfl (fun z hz=>by
    simp only [List.mem_cons,List.not_mem_nil,or_false] at hz
    subst hz;trivial) (by
   subst ho;subst hn
   rw [cZ]
   intro _ _ D2 β3 a' w' hag hg
   refine ⟨hg.defers,by rw [hg.tmps 4 (.v (.int .i64 yq.2.2.2.1.1)) rfl];simp only [SV.den],D2,β3,hag,hg.gh⟩)
 have hl:=hv D' β' { a with defers:=[] } W' (fun _ _=>rfl) ⟨rfl,hsz,fun t x hx=>?_,fun t x hx=>?_,e3.base⟩
 ·simp only [List.map_cons,List.map_nil,BS.it,after] at hl
  have hl2:=C7 (ds:=[{ target:=.collected W.heap.size,args:=#[] }]) (Q':=Exit.then (Code.ret.wp Tryz.prog (K1 (bodyPostM Fence.wide 2 Tryz.prog fn (DZ (S:=En.Dop.D4) Tryz.Bg.c ((yq.2.2.2.1.1,()),(yq.2.1,())) w D β o0)))) (K1 (bodyPostM Fence.wide 2 Tryz.prog fn (DZ (S:=En.Dop.D4) Tryz.Bg.c ((yq.2.2.2.1.1,()),(yq.2.1,())) w D β o0)))) ?_ (fun _ _ _ h=>h.elim) (fun ⟨_,_,h⟩=>h) hl
  ·rw [hd];exact hl2
  ·rintro a' w' ⟨hd',hr,D2,β3,hag,hgh⟩
   refine wp_ret ?_
   obtain ⟨g1,g2⟩:=Nd.next e3 e2 e5 e6 e7 e8 e9 e1 hag hgh e4
   have hK':=(g1 W.heap.size (.inl rfl)).trans hK
   show LeavesInM _ _ _ _ _ _ _ _ _
   rw [hd']
   refine ⟨by simp,.inl ⟨_,_,rfl,run_takeDeferred hK',?_⟩⟩
   refine ⟨.int .i64 yq.2.2.2.1.1,by rw [<-hr];exact results_tmp hres _ _ _,?_⟩
   obtain ⟨D4,β4,vs4,o4,n4,f1,f2,f3,f4,_⟩:=g2.UC (.deferred none)
   rcases he:En.Spec.enc (S:=En.Dop.D4) ⟨[.fd (.int .i64)],[Sq]⟩ ((yq.2.2.2.1.1,()),(yq.2.1,())) 1 with ⟨rs,o5,n5⟩
   have ho4:o4=(I3.enc (S:=En.Dop.D4) yq 3).2.1:=by rw [f1]
   obtain ⟨ps,hps,hm0⟩:=cb yq
   rw [<-ho4] at hps
   obtain ⟨β5,b1,b2,b3,b4,b5,_⟩:=En.Spec.Bw f3 hps (by kernel_rfl) he
   have hrs:rs=[.v (.int .i64 yq.2.2.2.1.1)]:=by
    have h:En.Spec.enc (S:=En.Dop.D4) ⟨[.fd (.int .i64)],[Sq]⟩ ((yq.2.2.2.1.1,()),(yq.2.1,())) 1=([.v (.int .i64 yq.2.2.2.1.1)],(En.Spec.enc (S:=En.Dop.D4) ⟨[.fd (.int .i64)],[Sq]⟩ ((yq.2.2.2.1.1,()),(yq.2.1,())) 1).2.1,(En.Spec.enc (S:=En.Dop.D4) ⟨[.fd (.int .i64)],[Sq]⟩ ((yq.2.2.2.1.1,()),(yq.2.1,())) 1).2.2):=by kernel_rfl
    rw [he] at h
    exact (Prod.mk.inj h).1
   refine ⟨_,β5,rs,o5,n5,he,?_,fun i hi=>?_,b2,b4,b5⟩
   ·rw [hrs];simp only [Ap,SV.den]
   ·have hi0:i=0:=by have:i<1:=hi;omega
    subst hi0
    rw [b1 0 (by omega) 0 hm0,f2 0 (by omega),hβ]
 all_goals
  simp only [AI] at hx
  split at hx
  ·rename_i he;subst he;cases hx
   first
    | (refine ⟨by show 2<25;omega,?_⟩;simp only [SV.on];omega)
    | (rw [show ({ a with defers:=[] }:Act).tmps.getD 2 undef=a.tmps.getD 2 undef from rfl,h2,<- e2 1 (by omega)];simp only [SV.den])
  ·split at hx
   ·rename_i he;subst he;cases hx
    first
     | (refine ⟨by show 5<25;omega,?_⟩;simp only [SV.on];omega)
     | (rw [show ({ a with defers:=[] }:Act).tmps.getD 5 undef=a.tmps.getD 5 undef from rfl,h5,<- e2 2 (by omega)];simp only [SV.den])
   ·simp [AO] at hx
theorem Rt (args:Array Value) (w:World):(callFunc 146 args).run Tryz.prog w=.ok (.enter 146 args) w:=Cc (by kernel_rfl)
theorem Tryz.Bg.holds:Tryz.Bg.c.Holds Tryz.prog:=by
 obtain ⟨hE,hbod,hokB,fn,hf,hb,hn',hres⟩:=jZ
 refine ⟨hbod,hokB,fun h=>(by cases h),fun x y hxy w D β vs o n he hg hon hn hiv=>?_⟩
 have hxy:Tryz.Bg.R x=some y:=hxy
 unfold Tryz.Bg.R at hxy
 split at hxy
 case h_2=>cases hxy
 rename_i hl
 have hl:=of_decide_eq_true hl
 obtain ⟨yq,hgo,hy⟩:=Option.bind_eq_some_iff.1 hxy
 cases hy
 have hkp:Bq En.Dop.D4 w (AJ o β) D:=⟨hiv,fun k hk=>⟨hg.Cy k hk,fun ⟨i,b,hi,hik⟩=>hg.off i b k hi hik hk⟩⟩
 have hx:x=(((),x.1.2.1,()),x.2):=rfl
 have he':En.Spec.enc (S:=En.Dop.D4) ⟨[.al 0 0,.fd (.sl 0)],[Sq]⟩ (((),x.1.2.1,()),x.2) 1=(vs,o,n):=he
 have hlen:vs.length=2:=En.Spec.AZ he
 refine VC.R7 (M:=0+3000) (bn:=1) hf hb hn' (by omega) hon hg ?_
 refine Jj hE hkp (fun _ _ _ _ _ h=>h) (k0:=[.code [] (AR Tryz.prog 47)]) (s0:=⟨BY 0 vs,o,n,25⟩) hn rfl (fun z hz=>by
  simp only [List.mem_cons,List.not_mem_nil,or_false] at hz
  subst hz;rfl) ?_
 rw [Tryz.Bg.part x.1.2.1 ((),x.2) vs o n he']
 intro _ _ D1 β1 a W hβ1 hg1
 simp only [List.map_cons,List.map_nil,BS.it,after]
 obtain ⟨ps,hps,hp7,hpbl,hm1,hm2,hm0⟩:=XH x.1.2.1 ((),x.2)
 rcases hq:I3.enc (S:=En.Dop.D4) ((),(x.2.1,((),()),(-1,()),())) 3 with ⟨vq,o2,n2⟩
 have he2:En.Spec.enc (S:=En.Dop.D4) ⟨[.al 1 0,.al 2 0],I3.bx⟩ (((),(),()),(x.2.1,((),()),(-1,()),())) 3=([.ptr 1 0,.ptr 2 0],o2,n2):=by
  have h:En.Spec.enc (S:=En.Dop.D4) ⟨[.al 1 0,.al 2 0],I3.bx⟩ (((),(),()),(x.2.1,((),()),(-1,()),())) 3=([.ptr 1 0,.ptr 2 0],(I3.enc (S:=En.Dop.D4) ((),(x.2.1,((),()),(-1,()),())) 3).2.1,(I3.enc (S:=En.Dop.D4) ((),(x.2.1,((),()),(-1,()),())) 3).2.2):=by kernel_rfl
  rw [h,hq]
 obtain ⟨β2,b1,b2,_,_,b5,b6,b7,_,_⟩:=En.Spec.Bw hg1.gh hps (by kernel_rfl) he2
 have r1:=b1 1 (by omega) 5 hm1
 have r2:=b1 2 (by omega) 6 hm2
 have r0:=b1 0 (by omega) 0 hm0
 obtain ⟨Bs,hBs,hBh⟩:=hg1.gh.own 7 _ (show lk (gM x.1.2.1 ((),x.2)).o 7=some (.AQ 66 [.h 1]) from rfl)
 obtain ⟨_,hrow⟩:=hg1.gh.own 1 _ (show lk (gM x.1.2.1 ((),x.2)).o 1=some (.sl 0 x.1.2.1) by kernel_rfl)
 have At:(β1 7).AQ=Bs:=by unfold Nm.AQ;rw [hBs];rfl
 have hBs':Bs<W.heap.size:=(Array.getElem?_eq_some_iff.1 hBh).1
 have hgd:=b2.fD (r:=Bs) (fun i b hi hk=>b6 7 _ i b Bs hp7 (by rw [hpbl];simp) hi (Nm.Ee hBs) hk) hBs' (hg1.gh.fresh 7 _ Bs (show lk (gM x.1.2.1 ((),x.2)).o 7=some (.AQ 66 [.h 1]) from rfl) (Nm.Ee hBs))
 have hrd: ∀ W':World,(∀ k,(E0 D1 β1 ps.bl k\/k=Bs)->W'.heap[k]?=W.heap[k]?)->au Bs x.1.2.1 W':=fun W' hs=>by
  have hc:W'.cell? ⟨Bs,0,none⟩=some ((β1 1).sl):=by
   rw [World.cell?_of_block (w:=W) (hs Bs (.inr rfl))]
   unfold World.cell?
   rw [hBh]
   simp [AA,SV.den]
  rcases Q4 hrow with ⟨h1,a',c,h2⟩|⟨b,off,cap,h2,h3,h4⟩
  ·exact .inl ⟨h1,a',c,by rw [hc,h2]⟩
  ·exact .inr ⟨b,off,cap,by rw [hc,h2],fun j hj=>by rw [World.cell?_of_block (w:=W) (hs b (.inl (.inl h3)))];exact h4 j hj⟩
 have t2:a.tmps.getD 2 undef=.pointer (some ⟨(β2 1).AQ,0,none⟩):=by rw [hg1.tmps 2 (.ptr 5 0) rfl,r1];simp only [SV.den]
 have t5:a.tmps.getD 5 undef=.pointer (some ⟨(β2 2).AQ,0,none⟩):=by rw [hg1.tmps 5 (.ptr 6 0) rfl,r2];simp only [SV.den]
 have hsz:a.tmps.size=25:=hg1.size
 have hgo':Tryz.Bg.go ((bwd x.1.2.1).map Prod.snd) ((),(x.2.1,((),()),(-1,()),()))=some yq:=by rw [TH];exact hgo
 refine wpIn_wide.2 (wpIn_wide.1 (KL (gf:=146) (lb:=#[.pointer (some ⟨Bs,0,none⟩)]) ?_ Rt (Tryz.TC Bs x.1.2.1 hl) (fun _=>rfl)
  (ja w W (AJ o β) D (fun k=>E0 D1 β1 ps.bl k\/k=Bs) β2 ((),(x.2.1,((),()),(-1,()),()))) (fun _ _ _=>False) (fun pre W' ob ⟨y,h1,h2⟩ hlt=>⟨y,h1,Nd.YG y W' ob h2 hlt⟩) (fun _ _ _ _ h _=>h)
  (fun pre W' ⟨_,_,_,_,_,_,_,_,_,_,_,_,_,_,_,h9⟩=>hrd W' h9) (fun ob ob'=>⟨_,rfl,Nd.first hq hgd b5 (fun _ h=>h) ob ob'⟩)
  (fun x' a'=>a'.defers=[]/\a'.tmps.size=25/\a'.tmps.getD 2 undef=.pointer (some ⟨(β2 1).AQ,0,none⟩)/\a'.tmps.getD 5 undef=.pointer (some ⟨(β2 2).AQ,0,none⟩)/\a'.tmps.getD 7 undef=.int .i64 x'.2) ?_ ?_ ?_ ?_))
 ·rw [show a.eval (.tmp 10)=a.tmps.getD 10 undef from rfl,hg1.tmps 10 (.fn 146 [.ptr 7 0]) rfl]
  simp only [SV.den,AA,ED (show Nat.ble 1000000 146=false from rfl),At]
 ·intro l x' W' K hK
  exact Um hsz fun a' h1 h2 h3 h4=>hK a' ⟨h1,h2,by rw [h3 2 (by decide) (by decide) (by decide)];exact t2,by rw [h3 5 (by decide) (by decide) (by decide)];exact t5,h4⟩
 ·rintro pre x' rest a' W' hxs _ hI ⟨h1,h2,h3,h4,h5⟩
  exact ZU hkp hgo' hxs hI h1 h2 h3 h4 h5 _
 ·rintro W' ⟨y,h1,h2⟩ hK
  rw [hgo'] at h1
  cases h1
  simp only [after,Exit.inBlock]
  exact ZV hkp hres (by rw [r0];exact hβ1 0 (by omega)) h2 hg1.defers hsz t2 t5 hK
 ·exact fun _ _ _ _ h=>h.elim
end Go.Proofs
/- parser.within (a deferred call), at each of the functions that it is called with: contracts. -/
set_option maxRecDepth 100000
namespace Go.Proofs
open Go Go.En Go.RowKit
abbrev Nb:GK:=⟨0,91,[.fd (.sl 4),.st 0,.own 5 56,.own 6 93,.st 0,.st 0,.fd (.int .i64),.st 0],false⟩
abbrev IQ:List GK:=[Nb,⟨1,89,[.al 0 0],false⟩]
abbrev Rb:Type:=List En.Dop.Tok×Int×List En.Dop.AU×List En.Dop.G4×Int×Int×Int×Int×Unit
def sD (s:Rb) (d:Int):Rb:=(s.1,s.2.1,s.2.2.1,s.2.2.2.1,s.2.2.2.2.1,d,s.2.2.2.2.2.2.1,s.2.2.2.2.2.2.2.1,())
abbrev MT:Type:=En.Spec.D En.Dop.D4 ⟨[.al 0 0],[Nb]⟩->Option (En.Spec.D En.Dop.D4 ⟨[.fd (.int .i64)],[Nb]⟩)
def Z7 (r:Int) (s:Rb):Option (En.Spec.D En.Dop.D4 ⟨[.fd (.int .i64)],[Nb]⟩):=
 if Au (s.2.2.2.2.2.1 -1)=true then some ((r,()),(sD s (s.2.2.2.2.2.1 -1),())) else none
def RQ (m:MT) (s:Rb):Option (En.Spec.D En.Dop.D4 ⟨[.fd (.int .i64)],[Nb]⟩):=
 if (!decide (s.2.2.2.2.2.2.1=0))=true then Z7 (-1) s else (m (((),()),(s,()))).bind fun v=>Z7 v.1.1 v.2.1
noncomputable def Tryz.within (m:MT) (s:Rb):Option (En.Spec.D En.Dop.D4 ⟨[.fd (.int .i64)],[Nb]⟩):=
 if Au (s.2.2.2.2.2.1+1)=true then
  if decide (100<s.2.2.2.2.2.1+1)=true then
   (Tryz.CV 6 (s.1,s.2.1,s.2.2.1,s.2.2.2.1,s.2.2.2.2.1,s.2.2.2.2.2.1+1,s.2.2.2.2.2.2)).bind fun y=>RQ m y.2.1
  else RQ m (sD s (s.2.2.2.2.2.1+1))
 else none
noncomputable abbrev w4:Code:=BB (AR Tryz.prog 180) [0,1,1,1]
noncomputable abbrev w5:Code:=BB (AR Tryz.prog 180) [1,1,1,1]
noncomputable def Is (c:Code):Array Oper:=match c with
 | .region _ o _=>o
 | _=>#[]
noncomputable def jE:Array Oper:=Is w4
noncomputable def kY:Array Oper:=Is (BB w5 [0,0])
noncomputable def kZ:Array Oper:=Is (BB w5 [0,0,1,0])
noncomputable def ka:Array Oper:=Is (BB w5 [0,1])
noncomputable def iW:Array Oper:=Is (AR Tryz.prog 203)
theorem iT:w4=.region 4 jE false:=by kernel_rfl
theorem iV:w5=.seq (.seq (.region 5 kY false) (.cond (.tmp 24) (.seq (.region 6 kZ false) .ret) .skip)) (.seq (.region 7 ka false) .ret):=by kernel_rfl
theorem eT:AR Tryz.prog 203=.region 0 iW false:=by kernel_rfl
noncomputable def er:Oper:=(jE.getD 0 default)
noncomputable def iU:Oper:=(jE.getD 1 default)
theorem eS:jE.toList=[er,iU]:=by kernel_rfl
theorem eP:er.op=.makeFunc (.func 203) #[] #[.tmp 2]/\er.dst=some 19/\er.guard=none:=⟨by kernel_rfl,by kernel_rfl,by kernel_rfl⟩
theorem eQ:iU.op=.defer { callee:=.value (.tmp 19),args:=#[],argTypes:=#[] }/\iU.dst=none/\iU.guard=none:=⟨by kernel_rfl,by kernel_rfl,by kernel_rfl⟩
def Z6.p:Af:=⟨[],2,⟨[.al 1 0],IQ⟩,⟨[],IQ⟩,false,[],[]⟩
noncomputable def Z6.E:Env En.Dop.D4:=Ae Tryz.prog 203 Tryz.tb [] Z6.p
theorem Z6.ok:AG En.Dop.D4 Tryz.prog 203 Z6.p=true:=by kernel_rfl
theorem Z6.jD (s:Rb):(NK Z6.E 3000 iW ⟨[.al 1 0],IQ⟩ ⟨[],IQ⟩ [0] [] 2 (((),()),(s,((),()),()))).eval (fun _ _=>none)=
  if Au (s.2.2.2.2.2.1 -1)=true then some ((),(sD s (s.2.2.2.2.2.1 -1),((),()),())) else none:=by kernel_rfl
theorem Ru (args:Array Value) (w:World):(callFunc 203 args).run Tryz.prog w=.ok (.enter 203 args) w:=Cc (by kernel_rfl)
theorem Z8 (r:Int) (s:Rb): ∃ ps,En.Spec.parse (S:=En.Dop.D4) ⟨[.fd (.int .i64)],[Nb]⟩ true [.v (.int .i64 r)] (En.Spec.enc (S:=En.Dop.D4) ⟨[],IQ⟩ ((),(s,((),()),())) 2).2.1 (QS 1) 1=some (((r,()),(s,())),ps)/\lk ps.m 0=some 0:=
 ⟨⟨(1,.AQ 89 [.ptr 0 0])::(2,.sl 4 s.1)::[],[(0,0)],[],1⟩,by kernel_rfl,by kernel_rfl⟩
theorem ar {f:Nat} {sp:En.Spec} {out:Out (sp.D En.Dop.D4) (En.Spec.D En.Dop.D4 ⟨[.fd (.int .i64)],[Nb]⟩)} {w:World} {D:Nat->Prop} {β:Nat->Nm} {o0:List (Nat×En.Own En.Dop.D4)} (hkp:Bq En.Dop.D4 w (AJ o0 β) D) {fn:Func} (hres:fn.results=#[.tmp 4]) {β2:Nat->Nm} (hβ:β2 0=β 0)
  {r:Int} {s:Rb} (hd:Au (s.2.2.2.2.2.1 -1)=true) {a:Act} {W:World}
  (hh:Lu En.Dop.D4 w (AJ o0 β) D ⟨[.fd (.int .i64)],IQ⟩ [4] 2 β2 27 ((r,()),(s,((),()),())) a W):
  Leaves Tryz.prog fn a.tmps (DZ (S:=En.Dop.D4) ⟨f,1,sp,⟨[.fd (.int .i64)],[Nb]⟩,false,out⟩ ((r,()),(sD s (s.2.2.2.2.2.1 -1),())) w D β o0) [{ target:=.fn (.func 203) #[.pointer (some ⟨(β2 1).AQ,0,none⟩)],args:=#[] }] .returning W:=by
 obtain ⟨hE,_,_,fn7,hf7,hb7,hn7,hr7⟩:=GO (p:=Z6.p) (ct:=[]) Tryz.AH B7 Z6.ok
 have hn7:fn7.ntmps=8:=hn7
 obtain ⟨⟨D1,β1,vs,o,n,he,h1,h2,h3,h4,h5⟩,hsz⟩:=hh
 have hr:a.tmps.getD 4 undef=.int .i64 r:=by
  have hvs:vs=[.v (.int .i64 r)]:=by
   have h:En.Spec.enc (S:=En.Dop.D4) ⟨[.fd (.int .i64)],IQ⟩ ((r,()),(s,((),()),())) 2=([.v (.int .i64 r)],(En.Spec.enc (S:=En.Dop.D4) ⟨[.fd (.int .i64)],IQ⟩ ((r,()),(s,((),()),())) 2).2.1,(En.Spec.enc (S:=En.Dop.D4) ⟨[.fd (.int .i64)],IQ⟩ ((r,()),(s,((),()),())) 2).2.2):=by kernel_rfl
   rw [he] at h
   exact (Prod.mk.inj h).1
  subst hvs
  have:=(h5 0 4 _ rfl rfl).2
  rw [this];simp only [SV.den]
 have he7:En.Spec.enc (S:=En.Dop.D4) ⟨[.al 1 0],IQ⟩ (((),()),(s,((),()),())) 2=([.ptr 1 0],o,n):=by
  have h:En.Spec.enc (S:=En.Dop.D4) ⟨[.al 1 0],IQ⟩ (((),()),(s,((),()),())) 2=([.ptr 1 0],(En.Spec.enc (S:=En.Dop.D4) ⟨[.fd (.int .i64)],IQ⟩ ((r,()),(s,((),()),())) 2).2.1,(En.Spec.enc (S:=En.Dop.D4) ⟨[.fd (.int .i64)],IQ⟩ ((r,()),(s,((),()),())) 2).2.2):=by kernel_rfl
  rw [h,he]
 have hseg:=Z6.jD s
 rw [if_pos hd] at hseg
 refine leaves_cons (by simp) (by rw [invoke];exact Ru _ _) ?_
 refine (callsD_of_wp (R:=fun e w'=>(∃ v,e=.returned v)/\ ∃ a',Lu En.Dop.D4 w (AJ o0 β) D ⟨[],IQ⟩ [] 2 β2 8 ((),(sD s (s.2.2.2.2.2.1 -1),((),()),())) a' w') hf7 hb7 ?_).mono ?_
 ·rw [eT]
  refine wp_region_list (NM hE (by kernel_rfl) rfl hseg hkp ⟨⟨D1,β1,_,o,n,he7,h1,h2,?_,h4,?_⟩,?_⟩ ?_)
  ·simp only [BH,SV.on,and_true];omega
  ·intro j t v hj hv
   cases j with
   | zero=>
    simp only [List.getElem?_cons_zero,Option.some.injEq] at hj hv;subst hj;subst hv
    refine ⟨by show 0<8;omega,?_⟩
    rw [Array.getD_eq_getD_getElem?,Array.getElem?_append_left (by simp)]
    simp [SV.den,h1 1 (by omega)]
   | succ j=>simp at hj
  ·simp [hn7];rfl
  ·intro a' W' hd' hh'
   refine ⟨hd',.tuple #[],results_none (by rw [<-Array.toList_inj];rw [hr7];kernel_rfl) _ _ _,⟨_,rfl⟩,a',hh'⟩
 ·rintro e u w' ⟨rfl,⟨v,rfl⟩,a',⟨D2,β3,vs2,o2,n2,k1,k2,k3,k4,k5,_⟩,_⟩
  show ∃ v,(results fn a.tmps).run Tryz.prog w'=.ok v w'/\_
  refine ⟨.int .i64 r,by rw [<-hr];exact results_tmp hres _ _ _,?_⟩
  rcases he8:En.Spec.enc (S:=En.Dop.D4) ⟨[.fd (.int .i64)],[Nb]⟩ ((r,()),(sD s (s.2.2.2.2.2.1 -1),())) 1 with ⟨rs,o5,n5⟩
  obtain ⟨ps,hps,hm0⟩:=Z8 r (sD s (s.2.2.2.2.2.1 -1))
  have ho2:o2=(En.Spec.enc (S:=En.Dop.D4) ⟨[],IQ⟩ ((),(sD s (s.2.2.2.2.2.1 -1),((),()),())) 2).2.1:=by rw [k1]
  rw [<-ho2] at hps
  obtain ⟨β5,b1,b2,b3,b4,b5,_⟩:=En.Spec.Bw k3 hps (by kernel_rfl) he8
  have hrs:rs=[.v (.int .i64 r)]:=by
   have h: ∀ s':Rb,En.Spec.enc (S:=En.Dop.D4) ⟨[.fd (.int .i64)],[Nb]⟩ ((r,()),(s',())) 1=([.v (.int .i64 r)],(En.Spec.enc (S:=En.Dop.D4) ⟨[.fd (.int .i64)],[Nb]⟩ ((r,()),(s',())) 1).2.1,(En.Spec.enc (S:=En.Dop.D4) ⟨[.fd (.int .i64)],[Nb]⟩ ((r,()),(s',())) 1).2.2):=fun s'=>by kernel_rfl
   have h:=h (sD s (s.2.2.2.2.2.1 -1))
   rw [he8] at h
   exact (Prod.mk.inj h).1
  refine ⟨_,β5,rs,o5,n5,he8,?_,fun i hi=>?_,b2,b4,b5⟩
  ·rw [hrs];simp only [Ap,SV.den]
  ·have hi0:i=0:=by have:i<1:=hi;omega
   subst hi0
   rw [b1 0 (by omega) 0 hm0,k2 0 (by omega),hβ]
abbrev Z9 (g:Nat):List Ch:=[.fn g [(0,0)],.al 1 0]
abbrev eu (g:Nat):List Ch:=[.fn g [(0,0)],.al 1 0,.fd .bool]
def jx (g:Nat):Af:=⟨[(999998,⟨[[0,0,1,1,1],[0,1,1,1,1]],[1,2],2,⟨(Z9 g),IQ⟩⟩)],1,⟨[.al 0 0,.fn g [(0,0)]],[Nb]⟩,⟨[.fd (.int .i64)],[Nb]⟩,false,[],[]⟩
noncomputable def wk (f:Nat) (m:MT):Bp En.Dop.D4:=⟨f,1,⟨[.al 0 0],[Nb]⟩,⟨[.fd (.int .i64)],[Nb]⟩,false,.opt m⟩
noncomputable def wE (f g:Nat) (m:MT):Env En.Dop.D4:=Ae Tryz.prog 180 Tryz.tb [Tryz.CV.c,wk f m] (jx g)
noncomputable def wc (g:Nat) (m:MT):Bp En.Dop.D4:=⟨180,1,⟨[.al 0 0,.fn g [(0,0)]],[Nb]⟩,⟨[.fd (.int .i64)],[Nb]⟩,false,.opt fun x=>Tryz.within m x.2.1⟩
def W5 (f g:Nat):Prop:= ∀ (m:MT) (s:Rb),(NK (wE f g m) 3000 kY ⟨(Z9 g),IQ⟩ ⟨(eu g),IQ⟩ [1,2] [1,2,24] 2 (((),(),()),(s,((),()),()))).eval (fun _ _=>none)=some (((),(),(!decide (s.2.2.2.2.2.2.1=0)),()),(s,((),()),()))
theorem s6 (f g:Nat) (m:MT) (s:Rb) (b:Bool):(NK (wE f g m) 3000 kZ ⟨(eu g),IQ⟩ ⟨[.fd (.int .i64)],IQ⟩ [1,2,24] [4] 2 (((),(),b,()),(s,((),()),()))).eval (fun _ _=>none)=some ((-1,()),(s,((),()),())):=by kernel_rfl
def W7 (f g:Nat):Prop:= ∀ (m:MT) (s:Rb) (b:Bool),(NK (wE f g m) 3000 ka ⟨(eu g),IQ⟩ ⟨[.fd (.int .i64)],IQ⟩ [1,2,24] [4] 2 (((),(),b,()),(s,((),()),()))).eval (fun _ _=>none)=(m (((),()),(s,()))).bind fun v=>some ((v.1.1,()),(v.2.1,((),()),()))
def W0 (f g:Nat):Prop:= ∀ (m:MT) (s:Rb) (vs:List SV) (o:List (Nat×En.Own En.Dop.D4)) (n:Nat) (h:En.Spec.enc (S:=En.Dop.D4) ⟨[.al 0 0,.fn g [(0,0)]],[Nb]⟩ (((),(),()),(s,())) 1=(vs,o,n)),
  (jr (wE f g m) 3000 ⟨(Z9 g),IQ⟩ [1,2] 1 2 999998 [[0,0,1,1,1],[0,1,1,1,1]] [.code [] (AR Tryz.prog 180)] ⟨BY 0 vs,o,n,27⟩).eval (fun _ _=>none)=
  if Au (s.2.2.2.2.2.1+1)=true then
   if decide (100<s.2.2.2.2.2.1+1)=true then
    (Tryz.CV 6 (s.1,s.2.1,s.2.2.1,s.2.2.2.1,s.2.2.2.2.1,s.2.2.2.2.2.1+1,s.2.2.2.2.2.2)).bind fun y=>some (((),(),()),(y.2.1,((),()),()))
   else some (((),(),()),(sD s (s.2.2.2.2.2.1+1),((),()),()))
  else none
theorem eU {f g:Nat} (h5:W5 f g) (h7:W7 f g) {m:MT} (hE:(wE f g m).Ok Tryz.prog) {x:En.Spec.D En.Dop.D4 ⟨[.al 0 0,.fn g [(0,0)]],[Nb]⟩} {y:En.Spec.D En.Dop.D4 ⟨[.fd (.int .i64)],[Nb]⟩} {w:World} {D:Nat->Prop} {β:Nat->Nm} {o0:List (Nat×En.Own En.Dop.D4)} (hkp:Bq En.Dop.D4 w (AJ o0 β) D) {fn:Func} (hres:fn.results=#[.tmp 4]) {β2:Nat->Nm} (hβ:β2 0=β 0) {s:Rb} (hy:RQ m s=some y)
  {a:Act} {W:World} (hd:a.defers=[]) (hh:Lu En.Dop.D4 w (AJ o0 β) D ⟨(Z9 g),IQ⟩ [1,2] 2 β2 27 (((),(),()),(s,((),()),())) a W):
  w4.wpIn Fence.wide 0 Tryz.prog (after Fence.wide Tryz.prog 0 [.code w5] (K1 (bodyPostD Tryz.prog fn (DZ (S:=En.Dop.D4) (wc g m) y w D β o0)))) a W:=by
 have ht2:a.tmps.getD 2 undef=.pointer (some ⟨(β2 1).AQ,0,none⟩):=by
  obtain ⟨⟨D1,β1,vs,o,n,he,h1,h2,h3,h4,h5⟩,hsz⟩:=hh
  have hvs:vs=[.fn g [.ptr 0 0],.ptr 1 0]:=by
   have h:En.Spec.enc (S:=En.Dop.D4) ⟨(Z9 g),IQ⟩ (((),(),()),(s,((),()),())) 2=([.fn g [.ptr 0 0],.ptr 1 0],(En.Spec.enc (S:=En.Dop.D4) ⟨(Z9 g),IQ⟩ (((),(),()),(s,((),()),())) 2).2.1,(En.Spec.enc (S:=En.Dop.D4) ⟨(Z9 g),IQ⟩ (((),(),()),(s,((),()),())) 2).2.2):=by kernel_rfl
   rw [he] at h
   exact (Prod.mk.inj h).1
  subst hvs
  rw [(h5 1 2 _ rfl rfl).2,<- h1 1 (by omega)]
  simp only [SV.den]
 obtain ⟨a1,a2,a3⟩:=eP
 obtain ⟨b1,b2,b3⟩:=eQ
 have hsz:=hh.sz
 rw [iT]
 refine Ex (.inl rfl) ?_
 rw [eS]
 unfold wpList
 rw [if_pos (by simp [Region.wanted,a3])]
 refine .inl (Ai (v:=.func (.func 203) #[] #[.pointer (some ⟨(β2 1).AQ,0,none⟩)]) (w':=W) ?_ ?_)
 ·simp [execOp,a1,Instr.makeFunc,Act.eval,<- ht2]
 unfold wpList
 rw [if_pos (by simp [Region.wanted,b3])]
 refine .inl ?_
 have hex:(execOp (a.put er.dst (.func (.func 203) #[] #[.pointer (some ⟨(β2 1).AQ,0,none⟩)])).eval iU).run Tryz.prog W=.ok (.defer { target:=.fn (.func 203) #[.pointer (some ⟨(β2 1).AQ,0,none⟩)],args:=#[] }) W:=by
  have hev:(a.put er.dst (.func (.func 203) #[] #[.pointer (some ⟨(β2 1).AQ,0,none⟩)])).eval (.tmp 19)=.func (.func 203) #[] #[.pointer (some ⟨(β2 1).AQ,0,none⟩)]:=by
   simp [Act.eval,Act.put,a2,Array.getD_eq_getD_getElem?,Array.getElem?_setIfInBounds,hsz]
  simp [execOp,b1,resolve,hev,Deferred.ofValue]
 unfold Oper.wp
 rw [hex,Oper.upon_defer,b2]
 simp only [wpList,after,Act.put,a2,hd]
 refine wpIn_wide.2 ?_
 rw [iV]
 have hh2:Lu En.Dop.D4 w (AJ o0 β) D ⟨(Z9 g),IQ⟩ [1,2] 2 β2 27 (((),(),()),(s,((),()),())) { a.put (some 19) (.func (.func 203) #[] #[.pointer (some ⟨(β2 1).AQ,0,none⟩)]) with defers:=[{ target:=.fn (.func 203) #[.pointer (some ⟨(β2 1).AQ,0,none⟩)],args:=#[] }] } W:=hh.put (by decide)
 refine wp_seq (wp_seq (wp_region_list (NM hE (by kernel_rfl) rfl (h5 m s) hkp hh2 fun a3 W3 hd3 hh3=>?_)))
 have ht24:a3.eval (.tmp 24)=.bool (!decide (s.2.2.2.2.2.2.1=0)):=by
  obtain ⟨⟨D1,β1,vs,o,n,he,h1,h2,h3,h4,h5⟩,hsz⟩:=hh3
  have hvs: ∀ b:Bool,En.Spec.enc (S:=En.Dop.D4) ⟨(eu g),IQ⟩ (((),(),b,()),(s,((),()),())) 2=([.fn g [.ptr 0 0],.ptr 1 0,.b b],(En.Spec.enc (S:=En.Dop.D4) ⟨(eu g),IQ⟩ (((),(),b,()),(s,((),()),())) 2).2.1,(En.Spec.enc (S:=En.Dop.D4) ⟨(eu g),IQ⟩ (((),(),b,()),(s,((),()),())) 2).2.2):=fun b=>by kernel_rfl
  have h:=hvs (!decide (s.2.2.2.2.2.2.1=0))
  rw [he] at h
  have h:=(Prod.mk.inj h).1
  subst h
  rw [show a3.eval (.tmp 24)=a3.tmps.getD 24 undef from rfl,(h5 2 24 _ rfl rfl).2]
  simp only [SV.den]
 unfold RQ at hy
 split at hy
 ·rename_i hb
  unfold Z7 at hy
  split at hy
  case isFalse=>cases hy
  rename_i hin
  cases hy
  refine wp_cond_true (by rw [ht24,hb]) (wp_seq (wp_region_list (NM hE (by kernel_rfl) rfl ((s6 f g) m s _) hkp hh3 fun a4 W4 hd4 hh4=>wp_ret ?_)))
  show Leaves _ _ _ _ _ _ _
  rw [hd4,hd3]
  exact ar hkp hres hβ hin hh4
 ·rename_i hb
  have hb:(!decide (s.2.2.2.2.2.2.1=0))=false:=by simpa using hb
  obtain ⟨v,hv,hy⟩:=Option.bind_eq_some_iff.1 hy
  unfold Z7 at hy
  split at hy
  case isFalse=>cases hy
  rename_i hin
  cases hy
  refine wp_cond_false (by rw [ht24,hb]) (wp_skip ?_)
  have h7:=h7 m s (!decide (s.2.2.2.2.2.2.1=0))
  rw [hv] at h7
  refine wp_seq (wp_region_list (NM hE (by kernel_rfl) rfl h7 hkp hh3 fun a4 W4 hd4 hh4=>wp_ret ?_))
  show Leaves _ _ _ _ _ _ _
  rw [hd4,hd3]
  exact ar hkp hres hβ hin hh4
theorem Lr {f g:Nat} (hs5:W5 f g) (h0:W0 f g) (h7:W7 f g) (ok:AG En.Dop.D4 Tryz.prog 180 (jx g)=true) {m:MT} (hm:(wk f m).Holds Tryz.prog):(wc g m).Holds Tryz.prog:=by
 obtain ⟨hE,hbod,hokB,fn,hf,hb,hn,hr⟩:=GO (p:=(jx g)) (ct:=[Tryz.CV.c,wk f m]) Tryz.AH (Az Tryz.CV.holds (Az hm B7)) ok
 have e1:Cd Tryz.prog 180=27:=by kernel_rfl
 have e2:Du Tryz.prog 180=[.tmp 4]:=by kernel_rfl
 have hres:fn.results=#[.tmp 4]:=by rw [e2] at hr;rw [<-hr]
 refine ⟨hbod,hokB,fun h=>(by cases h),fun x y hxy w D β vs o n he hg hon hn' hiv=>?_⟩
 have hxy:Tryz.within m x.2.1=some y:=hxy
 have hkp:Bq En.Dop.D4 w (AJ o β) D:=⟨hiv,fun k hk=>⟨hg.Cy k hk,fun ⟨i,b,hi,hik⟩=>hg.off i b k hi hik hk⟩⟩
 have hlen:vs.length=2:=En.Spec.AZ he
 have hs0:=h0 m x.2.1 vs o n he
 have key: ∀ s:Rb,RQ m s=some y->(jr (wE f g m) 3000 ⟨(Z9 g),IQ⟩ [1,2] 1 2 999998 [[0,0,1,1,1],[0,1,1,1,1]] [.code [] (AR Tryz.prog 180)] ⟨BY 0 vs,o,n,27⟩).eval (fun _ _=>none)=some (((),(),()),(s,((),()),()))->Calls Tryz.prog 180 (AA β vs).toArray w (DZ (wc g m) y w D β o):=fun s hs hev=>
  VC.br (M:=0+3000) (bn:=1) hf hb (hn.trans e1) (by omega) hon hg (iQ hE (k1:=[.code [0,1,1,1] w4,.code [1,1,1,1] w5]) (by kernel_rfl) (by kernel_rfl) (by omega) (k0:=[.code [] (AR Tryz.prog 180)]) hev hkp (fun _ _ _ _ _ h=>h) hn' rfl (fun z hz=>by
   simp only [List.mem_cons,List.not_mem_nil,or_false] at hz
   subst hz;rfl) fun β2 a W hag hd hh=>eU hs5 h7 (x:=x) hE hkp hres (hag 0 (by omega)) hs hd hh)
 unfold Tryz.within at hxy
 split at hxy
 case isFalse=>cases hxy
 rename_i h1
 rw [if_pos h1] at hs0
 split at hxy
 ·rename_i h2
  rw [if_pos h2] at hs0
  obtain ⟨z,hz,hy⟩:=Option.bind_eq_some_iff.1 hxy
  rw [hz] at hs0
  exact key _ hy hs0
 ·rename_i h2
  rw [if_neg h2] at hs0
  exact key _ hxy hs0
theorem ju.holds {m:MT} (hm:(wk 234 m).Holds Tryz.prog):(wc 1000234 m).Holds Tryz.prog:=Lr (f:=234) (g:=1000234) (fun _ _=>by kernel_rfl) (fun _ _ _ _ _ h=>by cases h;kernel_rfl) (fun _ _ _=>by kernel_rfl) (by kernel_rfl) hm
theorem jv.holds {m:MT} (hm:(wk 254 m).Holds Tryz.prog):(wc 1000254 m).Holds Tryz.prog:=Lr (f:=254) (g:=1000254) (fun _ _=>by kernel_rfl) (fun _ _ _ _ _ h=>by cases h;kernel_rfl) (fun _ _ _=>by kernel_rfl) (by kernel_rfl) hm
theorem jw.holds {m:MT} (hm:(wk 263 m).Holds Tryz.prog):(wc 1000263 m).Holds Tryz.prog:=Lr (f:=263) (g:=1000263) (fun _ _=>by kernel_rfl) (fun _ _ _ _ _ h=>by cases h;kernel_rfl) (fun _ _ _=>by kernel_rfl) (by kernel_rfl) hm
theorem jt.holds {m:MT} (hm:(wk 181 m).Holds Tryz.prog):(wc 1000181 m).Holds Tryz.prog:=Lr (f:=181) (g:=1000181) (fun _ _=>by kernel_rfl) (fun _ _ _ _ _ h=>by cases h;kernel_rfl) (fun _ _ _=>by kernel_rfl) (by kernel_rfl) hm
end Go.Proofs
/- Functions of the seat, lifted: plan, model, contract, equations. Written by a program (Lift) that ran the layer's evaluation; Lean checks each line. -/
set_option maxRecDepth 100000
set_option maxHeartbeats 4000000
namespace Go.Proofs.Tryz
open Go Go.En
def K0.p:Af:=⟨[],0,⟨[],[]⟩,⟨[.own 1 9],[]⟩,true,[],[]⟩
theorem K0.ok:AG Dop.D4 prog 262 K0.p=true:=by kernel_rfl
def DV.p:Af:=⟨[],1,⟨[.al 0 0],[PS.b0]⟩,⟨[.fd (.int .i64)],[PS.b0]⟩,false,[],[]⟩
theorem DV.ok:AG Dop.D4 prog 205 DV.p=true:=by kernel_rfl
def C2.p:Af:=⟨[],1,⟨[.al 0 0,.fn 1000234 [(0,0)]],[PS.b0]⟩,⟨[.fd (.int .i64)],[PS.b0]⟩,false,[],[]⟩
abbrev Dm.q3:Cut:=⟨[[0,0,0,0,1,0,1,1],[0,1,0,0,1,0,1,1],[2,0,0,1,0,1,1],[1,0],[0,1,1,1]],[0,3,10,11,12],1,⟨[.al 0 0,.fd (.int .i64),.own 1 9,.fd (.int .i64),.fd (.int .i64)],[PS.b0]⟩⟩
def Dm.p:Af:=⟨[(3,Dm.q3)],1,⟨[.al 0 0],[PS.b0]⟩,⟨[.fd (.int .i64)],[PS.b0]⟩,false,[],[]⟩
theorem Dm.ok:AG Dop.D4 prog 234 Dm.p=true:=by kernel_rfl
def Jd.p:Af:=⟨[],1,⟨[.al 0 0],[PS.b0]⟩,⟨[.fd (.int .i64)],[PS.b0]⟩,false,[],[]⟩
theorem Jd.ok:AG Dop.D4 prog 254 Jd.p=true:=by kernel_rfl
abbrev Cu.q4:Cut:=⟨[[0,0,0,0,0,0,1,1,1,0,1],[0,1,0,0,0,0,1,1,1,0,1],[0,1,0,0,0,1,1,1,0,1],[1,1],[2,0,0,1,1,1,0,1],[1,0],[3,0,1]],[0,1,5],1,⟨[.al 0 0,.fd (.int .i64),.fd (.int .i64)],[PS.b0]⟩⟩
abbrev Cu.q5:Cut:=⟨[[0,0,0,0,1,0,0,0,0,1,1,1,0,1],[0,1,0,0,1,0,0,0,0,1,1,1,0,1],[2,0,0,1,0,0,0,0,1,1,1,0,1],[1,2],[0,1,0,0,0,1,1,1,0,1],[1,1],[2,0,0,1,1,1,0,1],[1,0],[3,0,1]],[0,1,5,24,25,26],1,⟨[.al 0 0,.fd (.int .i64),.fd (.int .i64),.own 1 9,.fd (.int .i64),.fd (.int .i64)],[PS.b0]⟩⟩
def Cu.p:Af:=⟨[(4,Cu.q4),(5,Cu.q5)],1,⟨[.al 0 0,.fd (.int .i64)],[PS.b0]⟩,⟨[.fd (.int .i64)],[PS.b0]⟩,false,[],[]⟩
theorem Cu.ok:AG Dop.D4 prog 261 Cu.p=true:=by kernel_rfl
abbrev DW.q3:Cut:=⟨[[0,0,0,0,1,0,1,1],[0,1,0,0,1,0,1,1],[2,0,0,1,0,1,1],[1,0],[0,1,1,1]],[0,3,13,14,15],1,⟨[.al 0 0,.fd (.int .i64),.own 1 9,.fd (.int .i64),.fd (.int .i64)],[PS.b0]⟩⟩
def DW.p:Af:=⟨[(3,DW.q3)],1,⟨[.al 0 0],[PS.b0]⟩,⟨[.fd (.int .i64)],[PS.b0]⟩,false,[(19,⟨[(0,true),(1,false),(2,true),(3,true),(4,true),(5,true),(6,false),(7,true),(8,true),(9,true),(10,true),(11,false),(12,false),(13,true),(14,true)],[1000000],[0,1,3,7,15,31,63,127,7,263,775,1799,3847,8191,16383],false⟩)],[]⟩
theorem DW.ok:AG Dop.D4 prog 263 DW.p=true:=by kernel_rfl
def CA.p:Af:=⟨[],1,⟨[.al 0 0,.fn 1000263 [(0,0)]],[PS.b0]⟩,⟨[.fd (.int .i64)],[PS.b0]⟩,false,[],[]⟩
def Je.p:Af:=⟨[],1,⟨[.al 0 0],[PS.b0]⟩,⟨[.fd (.int .i64)],[PS.b0]⟩,false,[(13,⟨[(0,true),(1,false),(2,true),(3,false),(4,true)],[5,1000004],[0,1,0,4,15,31],false⟩)],[]⟩
theorem Je.ok:AG Dop.D4 prog 265 Je.p=true:=by kernel_rfl
abbrev Dq.q2:Cut:=⟨[[0,0,0,0,0,0,1,1],[0,1,0,0,0,0,1,1],[0,1,0,0,0,1,1],[2,0,0,0,1,1],[1,0],[0,1,1,1]],[0,3],1,⟨[.al 0 0,.own 0 3],[PS.b0]⟩⟩
def Dq.p:Af:=⟨[(2,Dq.q2)],1,⟨[.al 0 0],[PS.b0]⟩,⟨[.fd (.int .i64)],[PS.b0]⟩,false,[],[]⟩
theorem Dq.ok:AG Dop.D4 prog 266 Dq.p=true:=by kernel_rfl
abbrev DX.q1:Cut:=⟨[[0,0,0,0,0,0,1],[0,1,0,0,0,0,1],[0,1,0,0,0,1],[2,0,0,0,1],[1,0],[0,1,1]],[0,1],1,⟨[.al 0 0,.fd (.int .i64)],[PS.b0]⟩⟩
def DX.p:Af:=⟨[(1,DX.q1)],1,⟨[.al 0 0,.fd (.int .i64)],[PS.b0]⟩,⟨[.fd (.int .i64)],[PS.b0]⟩,false,[(12,⟨[(0,true),(1,true),(2,true),(3,false),(4,true),(5,true),(6,true),(7,false),(8,true),(9,false),(10,false),(11,false),(12,true)],[],[0,1,3,7,0,16,48,112,240,511,1023,2047,4095],false⟩),(17,⟨[(0,true),(1,true),(2,true),(3,false),(4,true),(5,true),(6,true),(7,false),(8,true),(9,false),(10,false),(11,false),(12,true),(13,false),(14,true)],[15,1000006],[0,1,3,7,0,16,48,112,240,511,1023,2047,0,4096,16383,32767],false⟩)],[]⟩
theorem DX.ok:AG Dop.D4 prog 264 DX.p=true:=by kernel_rfl
def C3.p:Af:=⟨[],1,⟨[.al 0 0,.fn 1000254 [(0,0)]],[PS.b0]⟩,⟨[.fd (.int .i64)],[PS.b0]⟩,false,[],[]⟩
abbrev An.T:Type:=(((Unit×Unit)×(PS×Unit))->Option ((Int×Unit)×(PS×Unit)))×(((Unit×Unit×Unit)×(PS×Unit))->Option ((Int×Unit)×(PS×Unit)))×(((Unit×Unit)×(PS×Unit))->Option ((Int×Unit)×(PS×Unit)))×(((Unit×Unit)×(PS×Unit))->Option ((Int×Unit)×(PS×Unit)))×(((Unit×Int×Unit)×(PS×Unit))->Option ((Int×Unit)×(PS×Unit)))×(((Unit×Unit)×(PS×Unit))->Option ((Int×Unit)×(PS×Unit)))×(((Unit×Unit×Unit)×(PS×Unit))->Option ((Int×Unit)×(PS×Unit)))×(((Unit×Unit)×(PS×Unit))->Option ((Int×Unit)×(PS×Unit)))×(((Unit×Unit)×(PS×Unit))->Option ((Int×Unit)×(PS×Unit)))×(((Unit×Int×Unit)×(PS×Unit))->Option ((Int×Unit)×(PS×Unit)))×(((Unit×Unit×Unit)×(PS×Unit))->Option ((Int×Unit)×(PS×Unit)))×Unit
end Go.Proofs.Tryz
/- Functions of the seat, lifted: plan, model, contract, equations. Written by a program (Lift) that ran the layer's evaluation; Lean checks each line. -/
set_option maxRecDepth 100000
set_option maxHeartbeats 4000000
namespace Go.Proofs.Tryz
open Go Go.En
def JZ.p:Af:=⟨[],1,⟨[.al 0 0],[PS.b0]⟩,⟨[.fd (.int .i64)],[PS.b0]⟩,false,[],[]⟩
theorem JZ.ok:AG Dop.D4 prog 206 JZ.p=true:=by kernel_rfl
def Ja.p:Af:=⟨[],1,⟨[.al 0 0,.fd .str],[PS.b0]⟩,⟨[.fd (.int .i64)],[PS.b0]⟩,false,[],[]⟩
theorem Ja.ok:AG Dop.D4 prog 207 Ja.p=true:=by kernel_rfl
def Mh.p:Af:=⟨[],1,⟨[.al 0 0],[PS.b0]⟩,⟨[.fd .bool],[PS.b0]⟩,false,[(1,⟨[(0,true),(1,false),(2,true),(3,true),(4,true),(5,true),(6,true),(7,true),(8,false),(9,true),(10,true),(11,true),(12,true),(13,false),(14,false),(15,true),(16,true),(17,true),(18,true),(19,true),(20,true),(21,false),(22,true),(23,true),(24,true),(25,false),(26,true),(27,false),(28,false),(29,false),(30,true),(31,true),(32,true)],[1000000],[0,1,3,7,15,31,63,127,255,511,31,1055,3103,7199,15391,32767,65535,131071,262143,524287,1048575,2097151,262143,4456447,12845055,29622271,63176703,134217727,268435455,536870911,1073741823,2147483647,4294967295],false⟩)],[]⟩
theorem Mh.ok:AG Dop.D4 prog 208 Mh.p=true:=by kernel_rfl
abbrev Ge.q4:Cut:=⟨[[0,0,0,0,0,0,1,1,1,1],[0,1,0,0,0,0,1,1,1,1],[0,1,0,0,0,1,1,1,1],[2,0,0,0,1,1,1,1],[1,0],[0,1,1,1,1,1]],[0,3,4],2,⟨[.al 0 0,.al 1 0,.own 0 3],[PS.b0,⟨1,56,[.st 5],false⟩]⟩⟩
def Ge.p:Af:=⟨[(4,Ge.q4)],1,⟨[.al 0 0],[PS.b0]⟩,⟨[.fd (.int .i64)],[PS.b0]⟩,false,[],[]⟩
theorem Ge.ok:AG Dop.D4 prog 98 Ge.p=true:=by kernel_rfl
def F3.p:Af:=⟨[],1,⟨[.al 0 0],[PS.b0]⟩,⟨[.fd (.int .i64)],[PS.b0]⟩,false,[],[]⟩
theorem F3.ok:AG Dop.D4 prog 145 F3.p=true:=by kernel_rfl
def C1.p:Af:=⟨[],1,⟨[.al 0 0,.fn 1000181 [(0,0)]],[PS.b0]⟩,⟨[.fd (.int .i64)],[PS.b0]⟩,false,[],[]⟩
abbrev Ck.kT:Cut:=⟨[[0,0,1,1,1],[0,1,1,1,1]],[0,3],2,⟨[.al 0 0,.al 1 0],[PS.b0,⟨1,56,[.st 5],false⟩]⟩⟩
abbrev Ck.YU:Cut:=⟨[[0,1,1,1,1,0,1,1,1,1,1,0,0,1,1],[1,0],[0,1,1,1]],[0,3],2,⟨[.al 0 0,.al 1 0],[PS.b0,⟨1,56,[.st 5],false⟩]⟩⟩
abbrev Ck.kQ:Cut:=⟨[[0,0,1,1,1,0,1,1,1,1,1,1,1,1,1,1,1,1,1,1,1,1,1,1,1,1,1,1,1,1,1,0,0,1,1],[0,1,1,1,1,0,1,1,1,1,1,1,1,1,1,1,1,1,1,1,1,1,1,1,1,1,1,1,1,1,1,0,0,1,1],[1,0],[0,1,1,1]],[0,3,4],2,⟨[.al 0 0,.al 1 0,.fd (.int .i64)],[PS.b0,⟨1,56,[.st 5],false⟩]⟩⟩
def Ck.p:Af:=⟨[(64,Ck.kT),(13,Ck.YU),(53,Ck.kQ)],1,⟨[.al 0 0],[PS.b0]⟩,⟨[.fd (.int .i64)],[PS.b0]⟩,false,[],[]⟩
theorem Ck.ok:AG Dop.D4 prog 181 Ck.p=true:=by kernel_rfl
abbrev Gs.T:Type:=(((Unit×Unit)×(PS×Unit))->Option ((Int×Unit)×(PS×Unit)))×(((Unit×Unit)×(PS×Unit))->Option ((Int×Unit)×(PS×Unit)))×(((Unit×Unit×Unit)×(PS×Unit))->Option ((Int×Unit)×(PS×Unit)))×(((Unit×Unit)×(PS×Unit))->Option ((Int×Unit)×(PS×Unit)))×Unit
abbrev IH.q7:Cut:=⟨[[0,0,0,0,0,0,1,1,1,1,0,1,0,1,1],[0,1,0,0,0,0,1,1,1,1,0,1,0,1,1],[0,1,0,0,0,1,1,1,1,0,1,0,1,1],[2,0,0,0,1,1,1,1,0,1,0,1,1],[1,0],[0,1,1,1,1,1,0,1,0,1,1],[0,1,1,1]],[0,3,4],2,⟨[.al 0 0,.al 1 0,.own 0 3],[PS.b0,⟨1,56,[.st 5],false⟩]⟩⟩
abbrev IH.gV:Cut:=⟨[[0,0,0,0,0,0,1,0,1,0,1,1,1,1,1],[0,1,0,0,0,0,1,0,1,0,1,1,1,1,1],[0,1,0,0,0,1,0,1,0,1,1,1,1,1],[2,0,0,0,1,0,1,0,1,1,1,1,1],[1,2],[0,1,1,0,1,0,1,1,1,1,1],[0,1,1,1,1,1,1]],[0,3,7],2,⟨[.al 0 0,.al 1 0,.own 0 3],[PS.b0,⟨1,56,[.st 5],false⟩]⟩⟩
def IH.p:Af:=⟨[(7,IH.q7),(21,IH.gV)],1,⟨[.al 0 0],[PS.b0]⟩,⟨[.fd (.int .i64)],[PS.b0]⟩,false,[(2,⟨[(0,true),(1,false),(2,true),(3,true),(4,true),(5,true),(6,false),(7,true),(8,true),(9,true),(10,true),(11,false),(12,false),(13,true),(14,true),(15,true),(16,true),(17,true),(18,true),(19,false),(20,true),(21,true),(22,true),(23,false),(24,true),(25,false),(26,false),(27,false),(28,true),(29,true)],[1000000],[0,1,3,7,15,31,63,127,7,263,775,1799,3847,8191,16383,32767,65535,131071,262143,524287,65535,1114111,3211263,7405567,15794175,33554431,67108863,134217727,268435455,536870911],false⟩),(18,⟨[(0,true),(1,false),(2,true),(3,false),(4,true),(5,false),(6,true),(7,false),(8,true)],[9,1000003],[0,1,0,4,0,16,51,115,255,511],false⟩)],[]⟩
theorem IH.ok:AG Dop.D4 prog 46 IH.p=true:=by kernel_rfl
abbrev m20.q3:Cut:=⟨[[0,0,0,0,0,1,0,1,1],[0,1,0,0,0,1,0,1,1],[0,1,0,0,1,0,1,1],[2,0,0,1,0,1,1],[1,0],[0,1,1,1]],[2,5,6],2,⟨[.al 0 0,.al 1 0,.fd (.int .i64)],[⟨0,41,[.own 5 56,.own 6 93,.fd (.int .i64)],false⟩,PS.b1]⟩⟩
abbrev m20.q7:Cut:=⟨[[0,0,0,0,0,0,1,1,1,1],[0,1,0,0,0,0,1,1,1,1],[0,1,0,0,0,1,1,1,1],[2,0,0,0,1,1,1,1],[1,2],[0,1,1,1,1,1]],[2,5,7],2,⟨[.al 0 0,.al 1 0,.own 0 3],[⟨0,41,[.own 5 56,.own 6 93,.fd (.int .i64)],false⟩,PS.b1]⟩⟩
def m20.p:Af:=⟨[(3,m20.q3),(7,m20.q7)],0,⟨[.fd (.sl 4)],[]⟩,⟨[.st 7,.fd (.int .i64),.fd (.int .i64)],[]⟩,false,[(11,⟨[(0,true),(1,true),(2,true),(3,true),(4,false),(5,true),(6,true),(7,true),(8,false),(9,false),(10,true),(11,true)],[1000002],[0,0,2,6,14,0,32,96,224,1,543,2047],false⟩)],[]⟩
theorem m20.ok:AG Dop.D4 prog 20 m20.p=true:=by kernel_rfl
def Up.p:Af:=⟨[],0,⟨[.fd .str],[]⟩,⟨[.st 7,.fd (.int .i64),.fd (.int .i64)],[]⟩,false,[],[]⟩
theorem Up.ok:AG Dop.D4 prog 41 Up.p=true:=by kernel_rfl
end Go.Proofs.Tryz
