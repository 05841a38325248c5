/- What the boxes of some types hold: as one, with names of the parts. Written by a program. -/
import Derived.Test.YtkpggdcpaeanaaaGreatDoorMi
import Derived.Test.YtkpggdcpaeanaaaGreatDoorLb
import Derived.Test.YtkpggdcpaeanaaaGreatDoorMh
set_option linter.all false
namespace Go.Proofs
open Go Go.En
abbrev PS:Type:=List (En.Dop.Tok)×Int×List (En.Dop.AU)×List (En.Dop.HH)×Int×Int×Int×Int×Unit
abbrev PS.l (k:PS):List (En.Dop.Tok):=k.1
abbrev PS.at_ (k:PS):Int:=k.2.1
abbrev PS.Uc (k:PS) (v:Int):PS:=(k.1,v,k.2.2)
abbrev PS.nodes (k:PS):List (En.Dop.AU):=k.2.2.1
abbrev PS.EY (k:PS) (v:List (En.Dop.AU)):PS:=(k.1,k.2.1,v,k.2.2.2)
abbrev PS.types (k:PS):List (En.Dop.HH):=k.2.2.2.1
abbrev PS.Ud (k:PS) (v:List (En.Dop.HH)):PS:=(k.1,k.2.1,k.2.2.1,v,k.2.2.2.2)
abbrev PS.top (k:PS):Int:=k.2.2.2.2.1
abbrev PS.deep (k:PS):Int:=k.2.2.2.2.2.1
abbrev PS.e (k:PS):Int:=k.2.2.2.2.2.2.1
abbrev PS.Yj (k:PS) (v:Int):PS:=(k.1,k.2.1,k.2.2.1,k.2.2.2.1,k.2.2.2.2.1,k.2.2.2.2.2.1,v,k.2.2.2.2.2.2.2)
abbrev PS.when (k:PS):Int:=k.2.2.2.2.2.2.2.1
abbrev PS.FR (k:PS) (v:Int):PS:=(k.1,k.2.1,k.2.2.1,k.2.2.2.1,k.2.2.2.2.1,k.2.2.2.2.2.1,k.2.2.2.2.2.2.1,v,k.2.2.2.2.2.2.2.2)
abbrev PS.b0:En.Ga:=⟨0,91,[.fd (.sl 4),.st 0,.own 5 56,.own 6 93,.st 0,.st 0,.fd (.int .i64),.st 0],false⟩
abbrev PS.b1:En.Ga:=⟨1,91,[.fd (.sl 4),.st 0,.own 5 56,.own 6 93,.st 0,.st 0,.fd (.int .i64),.st 0],false⟩
end Go.Proofs
set_option maxRecDepth 100000
set_option maxHeartbeats 4000000
namespace Go.Proofs.Tryz
open Go Go.En
def K0.p:Ag:=⟨[],1,⟨[.al 0 0],[PS.b0]⟩,⟨[.fd (.int .i64)],[PS.b0]⟩,false,[(3,⟨[(0,true),(1,true),(2,true),(3,false),(4,true),(5,true),(6,true),(7,false),(8,false),(9,true),(10,false),(11,false),(12,false)],[13],[0,1,3,7,0,16,48,112,240,496,1023,2047,0,8191],false⟩)],[]⟩
noncomputable def K0.E:Env Dop.D4:=Ac prog 89 tb [] K0.p
theorem K0.ok:AF Dop.D4 prog 89 K0.p=true:=by kernel_rfl
noncomputable def K0.c:Bw Dop.D4:=⟨89,K0.p.bn,K0.p.sp,K0.p.rs,K0.p.flat,.opt (K0.E.run 3000 K0.p.sp)⟩
theorem K0.holds:K0.c.Holds prog:=Ev 3000 AH CC K0.ok
def Ee.p:Ag:=⟨[],1,⟨[.al 0 0],[PS.b0]⟩,⟨[.st 4],[PS.b0]⟩,false,[(1,⟨[(0,true),(1,true),(2,true),(3,false),(4,true),(5,true),(6,true),(7,true),(8,true),(9,false),(10,true),(11,true),(12,true),(13,false),(14,false),(15,true),(16,true)],[],[0,1,3,7,15,31,63,127,255,511,63,1087,3135,7231,15423,32767,65535],false⟩),(3,⟨[(0,true),(1,true),(2,true),(3,false),(4,true),(5,true),(6,true),(7,false),(8,false),(9,false)],[10],[0,1,3,7,0,16,48,112,255,511,1023],false⟩)],[]⟩
noncomputable def Ee.E:Env Dop.D4:=Ac prog 45 tb [K0.c] Ee.p
theorem Ee.ok:AF Dop.D4 prog 45 Ee.p=true:=by kernel_rfl
noncomputable def Ee.c:Bw Dop.D4:=⟨45,Ee.p.bn,Ee.p.sp,Ee.p.rs,Ee.p.flat,.opt (Ee.E.run 3000 Ee.p.sp)⟩
theorem Ee.holds:Ee.c.Holds prog:=Ev 3000 AH (A7 K0.holds CC) Ee.ok
def FW.p:Ag:=⟨[],0,⟨[.fd (.int .i64),.fd (.int .i64)],[]⟩,⟨[.st 5],[]⟩,true,[],[]⟩
noncomputable def FW.E:Env Dop.D4:=Ac prog 90 tb [] FW.p
theorem FW.ok:AF Dop.D4 prog 90 FW.p=true:=by kernel_rfl
noncomputable def FW.c:Bw Dop.D4:=⟨90,FW.p.bn,FW.p.sp,FW.p.rs,FW.p.flat,.opt (FW.E.run 3000 FW.p.sp)⟩
theorem FW.holds:FW.c.Holds prog:=Ev 3000 AH CC FW.ok
def M3.p:Ag:=⟨[],1,⟨[.al 0 0,.fd .str],[PS.b0]⟩,⟨[.fd .bool],[PS.b0]⟩,false,[],[]⟩
theorem M3.ok:AF Dop.D4 prog 91 M3.p=true:=by kernel_rfl
def Cq.p:Ag:=⟨[],1,⟨[.al 0 0,.fd .str],[PS.b0]⟩,⟨[.fd .bool],[PS.b0]⟩,false,[],[]⟩
theorem Cq.ok:AF Dop.D4 prog 94 Cq.p=true:=by kernel_rfl
def CZ.p:Ag:=⟨[],1,⟨[.al 0 0,.fd (.int .i64)],[PS.b0]⟩,⟨[],[PS.b0]⟩,false,[],[]⟩
noncomputable def CZ.E:Env Dop.D4:=Ac prog 142 tb [Ee.c] CZ.p
theorem CZ.ok:AF Dop.D4 prog 142 CZ.p=true:=by kernel_rfl
noncomputable def CZ.c:Bw Dop.D4:=⟨142,CZ.p.bn,CZ.p.sp,CZ.p.rs,CZ.p.flat,.opt (CZ.E.run 3000 CZ.p.sp)⟩
theorem CZ.holds:CZ.c.Holds prog:=Ev 3000 AH (A7 Ee.holds CC) CZ.ok
noncomputable def CZ (e:Int) (k0:PS):Option (Unit×(PS×Unit)):=CZ.E.run 3000 CZ.p.sp (((),e,()),(k0,()))
def DN.p:Ag:=⟨[],1,⟨[.al 0 0,.fd .str],[PS.b0]⟩,⟨[],[PS.b0]⟩,false,[],[]⟩
theorem DN.ok:AF Dop.D4 prog 92 DN.p=true:=by kernel_rfl
def IL.p:Ag:=⟨[],1,⟨[.al 0 0,.fd (.int .i64)],[PS.b0]⟩,⟨[.st 4],[PS.b0]⟩,false,[],[]⟩
theorem IL.ok:AF Dop.D4 prog 93 IL.p=true:=by kernel_rfl
abbrev Dp.q2:Cut:=⟨[[0,0,0,0,1,0,1],[0,1,0,0,1,0,1],[2,0,0,1,0,1],[1,0],[0,1,1]],[0,3,7,8],1,⟨[.fd (.sl 6),.al 0 0,.fd (.int .i64),.fd (.int .i64)],[⟨0,93,[.st 6],false⟩]⟩⟩
def Dp.p:Ag:=⟨[(2,Dp.q2)],0,⟨[.fd (.sl 6),.st 6],[]⟩,⟨[.fd (.int .i64)],[]⟩,true,[(4,⟨[(0,false),(1,true),(2,true),(3,false),(4,false),(5,true)],[],[0,0,0,6,14,31],false⟩)],[]⟩
theorem Dp.ok:AF Dop.D4 prog 179 Dp.p=true:=by kernel_rfl
def Jb.p:Ag:=⟨[],1,⟨[.al 0 0,.st 6],[PS.b0]⟩,⟨[.fd (.int .i64)],[PS.b0]⟩,false,[(1,⟨[(0,true),(1,true),(2,true),(3,true),(4,false),(5,false),(6,false),(7,true)],[],[0,1,3,7,15,0,63,127],true⟩),(7,⟨[(0,true),(1,true),(2,true),(3,true),(4,true),(5,false),(6,false),(7,false)],[8,9,10,11,12],[0,0,2,6,14,30,0,64,254,511,1023,2047,4095],false⟩)],[]⟩
theorem Jb.ok:AF Dop.D4 prog 144 Jb.p=true:=by kernel_rfl
abbrev DL.eD:Cut:=⟨[[0,0,0,0,0,0,1,1,1],[0,1,0,0,0,0,1,1,1],[0,1,0,0,0,1,1,1],[2,0,0,0,1,1,1],[1,1],[0,1,1,1,1]],[0,3],1,⟨[.al 0 0,.fd (.int .i64)],[PS.b0]⟩⟩
def DL.p:Ag:=⟨[(11,DL.eD)],1,⟨[.al 0 0],[PS.b0]⟩,⟨[.fd (.int .i64)],[PS.b0]⟩,false,[],[]⟩
theorem DL.ok:AF Dop.D4 prog 143 DL.p=true:=by kernel_rfl
def Q9.p:Ag:=⟨[],1,⟨[.al 0 0],[PS.b0]⟩,⟨[.st 5],[PS.b0]⟩,false,[],[]⟩
theorem Q9.ok:AF Dop.D4 prog 95 Q9.p=true:=by kernel_rfl
def Pu.p:Ag:=⟨[],1,⟨[.al 0 0,.fd (.int .i64)],[PS.b0]⟩,⟨[.fd (.int .i64)],[PS.b0]⟩,false,[],[]⟩
theorem Pu.ok:AF Dop.D4 prog 96 Pu.p=true:=by kernel_rfl
def Cr.p:Ag:=⟨[],1,⟨[.al 0 0,.st 5],[PS.b0]⟩,⟨[.fd (.int .i64)],[PS.b0]⟩,false,[(5,⟨[(0,true),(1,true),(2,true),(3,true),(4,true),(5,false),(6,false),(7,false)],[8,9,10,11,12],[0,0,2,6,14,30,0,64,254,511,1023,2047,4095],false⟩)],[]⟩
noncomputable def Cr.E:Env Dop.D4:=Ac prog 97 tb [CZ.c] Cr.p
theorem Cr.ok:AF Dop.D4 prog 97 Cr.p=true:=by kernel_rfl
noncomputable def Cr.c:Bw Dop.D4:=⟨97,Cr.p.bn,Cr.p.sp,Cr.p.rs,Cr.p.flat,.opt (Cr.E.run 3000 Cr.p.sp)⟩
theorem Cr.holds:Cr.c.Holds prog:=Ev 3000 AH (A7 CZ.holds CC) Cr.ok
def G9.p:Ag:=⟨[],1,⟨[.al 0 0,.fd (.int .i64)],[PS.b0]⟩,⟨[.fd (.int .i64)],[PS.b0]⟩,false,[],[]⟩
noncomputable def G9.E:Env Dop.D4:=Ac prog 100 tb [] G9.p
theorem G9.ok:AF Dop.D4 prog 100 G9.p=true:=by kernel_rfl
noncomputable def G9.c:Bw Dop.D4:=⟨100,G9.p.bn,G9.p.sp,G9.p.rs,G9.p.flat,.opt (G9.E.run 3000 G9.p.sp)⟩
theorem G9.holds:G9.c.Holds prog:=Ev 3000 AH CC G9.ok
def Mp.p:Ag:=⟨[],0,⟨[.st 7,.fd (.int .i64)],[]⟩,⟨[.st 5],[]⟩,true,[],[]⟩
theorem Mp.ok:AF Dop.D4 prog 120 Mp.p=true:=by kernel_rfl
abbrev GX.q3:Cut:=⟨[[0,0,0,0,1,0,1,1],[0,1,0,0,1,0,1,1],[2,0,0,1,0,1,1],[1,0],[0,1,1,1]],[1,2,5,9,10],1,⟨[.fd (.int .i64),.al 0 0,.own 0 3,.fd (.int .i64),.fd (.int .i64)],[⟨0,41,[.st 7],false⟩]⟩⟩
def GX.p:Ag:=⟨[(3,GX.q3)],0,⟨[.st 7,.fd (.int .i64)],[]⟩,⟨[.own 0 3],[]⟩,true,[],[]⟩
theorem GX.ok:AF Dop.D4 prog 73 GX.p=true:=by kernel_rfl
def Mu.p:Ag:=⟨[],1,⟨[.al 0 0],[PS.b0]⟩,⟨[.fd .bool],[PS.b0]⟩,false,[],[]⟩
theorem Mu.ok:AF Dop.D4 prog 204 Mu.p=true:=by kernel_rfl
abbrev Hh.q2:Cut:=⟨[[0,0,0,0,0,0,1,1,0,1],[0,1,0,0,0,0,1,1,0,1],[0,1,0,0,0,1,1,0,1],[2,0,0,0,1,1,0,1],[1,0],[0,1,1,1,0,1],[3,0,1]],[0,4],0,⟨[.fd .str,.fd (.int .i64)],[]⟩⟩
def Hh.p:Ag:=⟨[(2,Hh.q2)],0,⟨[.fd .str],[]⟩,⟨[.fd (.int .i64),.fd .bool],[]⟩,true,[],[]⟩
theorem Hh.ok:AF Dop.D4 prog 43 Hh.p=true:=by kernel_rfl
def S7.p:Ag:=⟨[],0,⟨[.fd (.int .u8)],[]⟩,⟨[.fd .bool],[]⟩,true,[],[]⟩
theorem S7.ok:AF Dop.D4 prog 82 S7.p=true:=by kernel_rfl
def S8.p:Ag:=⟨[],0,⟨[.fd (.int .u8)],[]⟩,⟨[.fd .bool],[]⟩,true,[],[]⟩
theorem S8.ok:AF Dop.D4 prog 85 S8.p=true:=by kernel_rfl
abbrev IB.q2:Cut:=⟨[[0,0,0,0,0,0,1,1],[0,1,0,0,0,0,1,1],[0,1,0,0,0,1,1],[2,0,0,0,1,1],[1,0],[0,1,1,1]],[0,3],0,⟨[.fd .str,.fd (.int .i64)],[]⟩⟩
def IB.p:Ag:=⟨[(2,IB.q2)],0,⟨[.fd .str],[]⟩,⟨[.fd (.int .i64)],[]⟩,true,[],[]⟩
theorem IB.ok:AF Dop.D4 prog 83 IB.p=true:=by kernel_rfl
def Xy.p:Ag:=⟨[],0,⟨[.fd .str],[]⟩,⟨[.fd .bool],[]⟩,true,[],[]⟩
theorem Xy.ok:AF Dop.D4 prog 84 Xy.p=true:=by kernel_rfl
def Q8.p:Ag:=⟨[],1,⟨[.fd (.int .i64),.fd (.int .i64),.fd (.int .i64),.al 0 0],[⟨0,9,[.st 1],false⟩]⟩,⟨[.st 4,.fd (.int .i64)],[⟨0,9,[.fd .str],false⟩]⟩,true,[],[]⟩
theorem Q8.ok:AF Dop.D4 prog 81 Q8.p=true:=by kernel_rfl
abbrev Gt.q9:Cut:=⟨[[0,0,0,0,1,0,1,1,1,1,1],[0,1,0,0,1,0,1,1,1,1,1],[2,0,0,1,0,1,1,1,1,1],[1,0],[0,1,1,1,1,1,1]],[0,5,6,34,35],0,⟨[.fd .str,.fd (.int .i64),.fd (.int .i64),.fd (.int .i64),.fd (.int .i64)],[]⟩⟩
def Gt.p:Ag:=⟨[(9,Gt.q9)],0,⟨[.fd .str],[]⟩,⟨[.fd (.int .i64),.fd .bool],[]⟩,true,[(6,⟨[(0,true),(2,true)],[1,3],[0,1,0,7],false⟩)],[]⟩
theorem Gt.ok:AF Dop.D4 prog 86 Gt.p=true:=by kernel_rfl
def S9.p:Ag:=⟨[],0,⟨[.fd .str],[]⟩,⟨[.fd (.int .i64),.fd (.int .i64)],[]⟩,true,[],[]⟩
theorem S9.ok:AF Dop.D4 prog 87 S9.p=true:=by kernel_rfl
def Mq.p:Ag:=⟨[],0,⟨[],[]⟩,⟨[.own 1 9],[]⟩,true,[],[]⟩
theorem Mq.ok:AF Dop.D4 prog 141 Mq.p=true:=by kernel_rfl
abbrev J1.q2:Cut:=⟨[[0,0,0,0,1,0,1],[0,1,0,0,1,0,1],[2,0,0,1,0,1],[1,0],[0,1,1]],[0,5,6,7],0,⟨[.fd .str,.own 1 9,.fd (.int .i64),.fd (.int .i64)],[]⟩⟩
def J1.p:Ag:=⟨[(2,J1.q2)],0,⟨[.fd .str],[]⟩,⟨[.fd .str],[]⟩,true,[],[]⟩
theorem J1.ok:AF Dop.D4 prog 88 J1.p=true:=by kernel_rfl
def S4.p:Ag:=⟨[],0,⟨[.fd .str],[]⟩,⟨[.st 4,.fd (.int .i64)],[]⟩,true,[],[]⟩
theorem S4.ok:AF Dop.D4 prog 44 S4.p=true:=by kernel_rfl
abbrev m19.q5:Cut:=⟨[[0,0,0,0,0,1,1,1,1],[0,1,0,0,0,1,1,1,1],[1,1],[2,0,0,1,1,1,1],[1,0]],[0,5,6],0,⟨[.fd .str,.own 4 38,.fd (.int .i64)],[]⟩⟩
def m19.p:Ag:=⟨[(5,m19.q5)],0,⟨[.fd .str],[]⟩,⟨[.own 4 38,.fd (.int .i64),.fd (.int .i64)],[]⟩,true,[],[]⟩
theorem m19.ok:AF Dop.D4 prog 19 m19.p=true:=by kernel_rfl
end Go.Proofs.Tryz
set_option maxRecDepth 100000
set_option maxHeartbeats 4000000
namespace Go.Proofs.Tryz
open Go Go.En
def M1.p:Ag:=⟨[],1,⟨[.al 0 0],[⟨0,91,[.fd (.sl 4),.st 0,.hd,.hd,.st 0,.st 0,.fd (.int .i64),.st 0],false⟩]⟩,⟨[.fd (.int .i64)],[⟨0,91,[.fd (.sl 4),.fd (.int .i64),.hd,.hd,.fd (.int .i64),.fd (.int .i64),.fd (.int .i64),.fd (.int .i64)],false⟩]⟩,false,[(3,⟨[(0,true),(1,true),(2,true),(3,false),(4,true),(5,true),(6,true),(7,false),(8,false),(9,true),(10,false),(11,false),(12,false)],[13],[0,1,3,7,0,16,48,112,240,496,1023,2047,0,8191],false⟩)],[]⟩
theorem M1.ok:AF Dop.D4 prog 89 M1.p=true:=by kernel_rfl
def My.p:Ag:=⟨[],1,⟨[.al 0 0],[⟨0,91,[.fd (.sl 4),.st 0,.hd,.hd,.st 0,.st 0,.fd (.int .i64),.st 0],false⟩]⟩,⟨[.st 4],[⟨0,91,[.fd (.sl 4),.fd (.int .i64),.hd,.hd,.fd (.int .i64),.fd (.int .i64),.fd (.int .i64),.fd (.int .i64)],false⟩]⟩,false,[(1,⟨[(0,true),(1,true),(2,true),(3,false),(4,true),(5,true),(6,true),(7,true),(8,true),(9,false),(10,true),(11,true),(12,true),(13,false),(14,false),(15,true),(16,true)],[],[0,1,3,7,15,31,63,127,255,511,63,1087,3135,7231,15423,32767,65535],false⟩),(3,⟨[(0,true),(1,true),(2,true),(3,false),(4,true),(5,true),(6,true),(7,false),(8,false),(9,false)],[10],[0,1,3,7,0,16,48,112,255,511,1023],false⟩)],[]⟩
theorem My.ok:AF Dop.D4 prog 45 My.p=true:=by kernel_rfl
def I1.p:Ag:=⟨[],1,⟨[.al 0 0,.fd .str],[⟨0,91,[.fd (.sl 4),.st 0,.hd,.hd,.st 0,.st 0,.fd (.int .i64),.st 0],false⟩]⟩,⟨[.fd .bool],[⟨0,91,[.fd (.sl 4),.fd (.int .i64),.hd,.hd,.fd (.int .i64),.fd (.int .i64),.fd (.int .i64),.fd (.int .i64)],false⟩]⟩,false,[],[]⟩
theorem I1.ok:AF Dop.D4 prog 91 I1.p=true:=by kernel_rfl
def Hb.p:Ag:=⟨[],1,⟨[.al 0 0],[⟨0,91,[.fd (.sl 4),.st 0,.hd,.hd,.st 0,.st 0,.fd (.int .i64),.st 0],false⟩]⟩,⟨[.fd .bool],[⟨0,91,[.fd (.sl 4),.fd (.int .i64),.hd,.hd,.fd (.int .i64),.fd (.int .i64),.fd (.int .i64),.fd (.int .i64)],false⟩]⟩,false,[],[]⟩
theorem Hb.ok:AF Dop.D4 prog 204 Hb.p=true:=by kernel_rfl
end Go.Proofs.Tryz
set_option maxRecDepth 100000
namespace Go.Proofs
open Go Go.En Go.RowKit
abbrev TN:Ga:=⟨0,91,[.fd (.sl 4),.fd (.int .i64),.own 5 56,.own 6 93,.fd (.int .i64),.fd (.int .i64),.fd (.int .i64),.fd (.int .i64)],false⟩
def Tryz.Bl.p:Ag:=⟨[],1,⟨[.al 0 0,.fd (.sl 0)],[TN]⟩,⟨[.fd (.int .i64)],[TN]⟩,false,[(5,⟨[(0,true),(1,false),(2,true),(3,false),(4,true)],[5,1000008],[0,0,1,5,15,31],false⟩)],[(99,[])]⟩
noncomputable def Tryz.Bl.E:Env En.Dop.D4:=Ac Tryz.prog 47 Tryz.tb [Tryz.G9.c,Tryz.FW.c,Tryz.Cr.c] Tryz.Bl.p
theorem Tryz.Bl.ok:AF En.Dop.D4 Tryz.prog 47 Tryz.Bl.p=true:=by kernel_rfl
noncomputable def BF (body:Code) (a:List Nat):Code:=match HI body a with
 | some c=>c
 | none=>.skip
abbrev JD:En.Spec:=⟨[],[TN,⟨1,89,[.al 0 0],false⟩,⟨2,3,[.fd (.int .i64)],false⟩]⟩
abbrev ka:En.Spec:=⟨[.al 1 0,.al 2 0,.fd (.int .i64)],[TN,⟨1,89,[.al 0 0],false⟩,⟨2,3,[.fd (.int .i64)],false⟩]⟩
noncomputable def Tryz.Bl.step (x:Int) (y:En.Spec.D En.Dop.D4 JD):Option (En.Spec.D En.Dop.D4 JD):=
 (Tk Tryz.Bl.E 3000 [1,0,1,0,1,1] (BF (AR Tryz.prog 47) [1,0,1,0,1,1]) ka JD [2,5,7] 3 (((),(),x,()),y.2)).eval (fun _ _=>none)
noncomputable abbrev kg:Code:=BF (AR Tryz.prog 47) [0,0,1,0,1,1]
noncomputable abbrev lV:Code:=BF (AR Tryz.prog 47) [1,0,1,0,1,1]
noncomputable abbrev ki:Code:=BF (AR Tryz.prog 47) [1,1,1]
noncomputable def Tryz.Bl.go:List Int->En.Spec.D En.Dop.D4 JD->Option (En.Spec.D En.Dop.D4 JD)
 | [],y=>some y
 | x::r,y=>(Tryz.Bl.step x y).bind (Tryz.Bl.go r)
theorem Tryz.Bl.Im: ∀ (l r:List Int) (y:En.Spec.D En.Dop.D4 JD),Tryz.Bl.go (l++r) y=(Tryz.Bl.go l y).bind (Tryz.Bl.go r)
 | [],r,y=>rfl
 | x::l,r,y=>by
  simp only [List.cons_append,Tryz.Bl.go]
  cases Tryz.Bl.step x y with
  | none=>rfl
  | some z=>exact Tryz.Bl.Im l r z
noncomputable def Tryz.Bl.R (x:En.Spec.D En.Dop.D4 Tryz.Bl.p.sp):Option (En.Spec.D En.Dop.D4 Tryz.Bl.p.rs):=
 match decide (x.1.2.1.length<9223372036854775807) with
 | true=>(Tryz.Bl.go x.1.2.1.reverse ((),(x.2.1,((),()),(-1,()),()))).bind fun y=>some ((y.2.2.2.1.1,()),(y.2.1,()))
 | false=>none
noncomputable def Tryz.Bl.c:Bw En.Dop.D4:=⟨47,Tryz.Bl.p.bn,Tryz.Bl.p.sp,Tryz.Bl.p.rs,Tryz.Bl.p.flat,.opt Tryz.Bl.R⟩
noncomputable def iw (l:List Int) (x:En.Spec.D En.Dop.D4 ⟨[],[TN]⟩):St En.Dop.D4:=match En.Spec.enc (S:=En.Dop.D4) ⟨[.al 0 0,.fd (.sl 0)],[TN]⟩ (((),l,()),x.2) 1 with
 | (_,o,_)=>⟨[(0,.ptr 0 0),(1,.h 1),(2,.ptr 5 0),(4,.v (.int .i64 0)),(5,.ptr 6 0),(9,.h 1),(10,.fn 146 [.ptr 7 0])],(7,.AQ 66 [.h 1])::(6,.AQ 3 [.v (.int .i64 (-1))])::(5,.AQ 89 [.ptr 0 0])::o,8,25⟩
theorem Tryz.Bl.part (l:List Int) (x:En.Spec.D En.Dop.D4 ⟨[],[TN]⟩) (vs:List SV) (o:List (Nat×En.Own En.Dop.D4)) (n:Nat) (h:En.Spec.enc (S:=En.Dop.D4) ⟨[.al 0 0,.fd (.sl 0)],[TN]⟩ (((),l,()),x.2) 1=(vs,o,n)):
  OY Tryz.Bl.E 3000 [.code [] (AR Tryz.prog 47)] ⟨Be 0 vs,o,n,25⟩=.ret ([.code [0,1,0,1,1] (.rangeFunc (.tmp 10) #[11,12] kg lV),.AQ 0,.code [1,1,1] ki],iw l x):=by
 cases h
 kernel_rfl
noncomputable def Yd:Oper:=match kg with
 | .region _ ⟨o::_⟩ _=>o
 | _=>default
theorem eM:kg=.region 3 #[Yd] false:=by kernel_rfl
theorem Ua:Yd.op=.assign (.tmp 12):=by kernel_rfl
theorem NS:Yd.dst=some 7:=by kernel_rfl
theorem TQ:Yd.guard=none:=by kernel_rfl
noncomputable def Ye:Array Oper:=match ki with
 | .seq (.region _ o _) _=>o
 | _=>#[]
theorem eO:ki=.seq (.region 7 Ye false) .ret:=by kernel_rfl
theorem eN:HI (AR Tryz.prog 47) [1,0,1,0,1,1]=some lV:=by kernel_rfl
theorem jL:ND (AR Tryz.prog 47)=true:=by kernel_rfl
theorem Tm (l:List Int):(bwd l).map Prod.snd=l.reverse:=by
 apply List.ext_getElem
 ·simp [bwd,upto]
 ·intro i h1 h2
  have h3:i<l.length:=by simpa using h2
  simp [bwd,upto,List.getElem_reverse,List.getElem?_eq_getElem (show l.length -1 -i<l.length by omega)]
theorem Wb (l:List Int):En.Dop.D4.flat 0 l=l.map fun n=>FC.int .i64 n:=by
 induction l with
 | nil=>rfl
 | cons x r ih=>exact congrArg (FC.int .i64 x::·) ih
theorem RS {w:World} {D:Nat->Prop} {l:List Int} {v:Value} (h:Aq En.Dop.D4 w D (.sl 0 l) v):(l=[]/\ ∃ a c,v=.slice a 0 c)\/ ∃ b off cap,v=.slice (some ⟨b,off,none⟩) l.length cap/\D b/\ ∀ j,j<l.length->w.cell? ⟨b,off+j,none⟩=some (.int .i64 (l[j]?.getD 0)):=by
 cases h with
 | nil σ a c=>exact .inl ⟨rfl,a,c,rfl⟩
 | sl σ l b off c vs hb hlc hc hv=>
  refine .inr ⟨b,off,c,rfl,hb,fun j hj=>?_⟩
  have hf:(En.Dop.D4.flat 0 l)[j]?=some (.int .i64 l[j]):=by rw [Wb];simp [hj]
  rw [hc j _ hf]
  have:=hv j _ hf
  cases hvj:vs j<;>rw [hvj] at this<;>cases this
  simp [hj]
theorem Xv (l:List Int) (x:En.Spec.D En.Dop.D4 ⟨[],[TN]⟩): ∃ ps,En.Spec.parse (S:=En.Dop.D4) ⟨[.al 1 0,.al 2 0],JD.bx⟩ true [.ptr 5 0,.ptr 6 0] (iw l x).o (Qn 1) 3=some ((((),(),()),(x.2.1,((),()),(-1,()),())),ps)/\lk ps.o 7=some (.AQ 66 [.h 1])/\ps.bl=[]/\lk ps.m 1=some 5/\lk ps.m 2=some 6/\lk ps.m 0=some 0:=
 ⟨⟨(7,.AQ 66 [.h 1])::(2,.sl 4 x.2.1.1)::(1,.sl 0 l)::[],[(2,6),(1,5),(0,0)],[],3⟩,by kernel_rfl,by kernel_rfl,by kernel_rfl,by kernel_rfl,by kernel_rfl,by kernel_rfl⟩
theorem db (y:En.Spec.D En.Dop.D4 JD):OY Tryz.Bl.E 3000 [.ops Ye Ye.toList] ⟨[(2,.ptr 1 0),(5,.ptr 2 0)],(JD.enc (S:=En.Dop.D4) y 3).2.1,(JD.enc (S:=En.Dop.D4) y 3).2.2,25⟩=
  .ret ([],⟨[(2,.ptr 1 0),(5,.ptr 2 0),(24,.v (.int .i64 y.2.2.2.1.1)),(4,.v (.int .i64 y.2.2.2.1.1))],(JD.enc (S:=En.Dop.D4) y 3).2.1,(JD.enc (S:=En.Dop.D4) y 3).2.2,25⟩):=by kernel_rfl
theorem dc (y:En.Spec.D En.Dop.D4 JD): ∃ ps,En.Spec.parse (S:=En.Dop.D4) ⟨[.fd (.int .i64)],[TN]⟩ true [.v (.int .i64 y.2.2.2.1.1)] (JD.enc (S:=En.Dop.D4) y 3).2.1 (Qn 1) 1=some (((y.2.2.2.1.1,()),(y.2.1,())),ps)/\lk ps.m 0=some 0:=
 ⟨⟨(2,.AQ 3 [.v (.int .i64 y.2.2.2.1.1)])::(1,.AQ 89 [.ptr 0 0])::(3,.sl 4 y.2.1.1)::[],[(0,0)],[],1⟩,by kernel_rfl,by kernel_rfl⟩
end Go.Proofs
set_option maxRecDepth 100000
namespace Go.Proofs
open Go Go.En Go.RowKit
theorem lO:(Tryz.Bl.E).Ok Tryz.prog/\Bm Tryz.prog 47=true/\Tryz.Bl.p.sp.okB Tryz.Bl.p.bn=true/\ ∃ fn,Tryz.prog.funcs[47]?=some fn/\fn.body=some (AR Tryz.prog 47)/\fn.ntmps=25/\fn.results=#[.tmp 4]:=by
 obtain ⟨h1,h2,h3,fn,h4,h5,h6,h7⟩:=Gf (p:=Tryz.Bl.p) Tryz.AH (A7 Tryz.G9.holds (A7 Tryz.FW.holds (A7 Tryz.Cr.holds CC))) Tryz.Bl.ok
 have e1:Cg Tryz.prog 47=25:=by kernel_rfl
 have e2:D6 Tryz.prog 47=[.tmp 4]:=by kernel_rfl
 refine ⟨h1,h2,h3,fn,h4,h5,h6.trans e1,?_⟩
 rw [e2] at h7
 rw [<-h7]
theorem VJ {l:Nat} {x:Int×Int} {W:World} {a:Act} {K:Act->World->Prop} (hsz:a.tmps.size=25)
  (h: ∀ a':Act,a'.defers=[]->a'.tmps.size=25->(∀ t,t≠7->t≠11->t≠12->a'.tmps.getD t undef=a.tmps.getD t undef)->a'.tmps.getD 7 undef=.int .i64 x.2->K a' W):
  kg.wpIn (Fence.wide.inRound l) 0 Tryz.prog (Exit.then K (fun _ _ _=>False)) { tmps:=(#[11,12].zip #[Value.int .i64 x.1,Value.int .i64 x.2]).foldl (fun t (p,v)=>t.setIfInBounds p v) a.tmps,defers:=[] } W:=by
 rw [eM]
 refine FE (.inr ⟨⟨l,rfl⟩,fun ⟨_,_,h⟩=>h,fun j o ho=>?_⟩) ?_
 ·cases j with
  | zero=>simp at ho;subst ho;unfold Em;rw [Ua]
  | succ j=>simp at ho
 ·show wpList _ _ _ [Yd] _ _
  unfold wpList
  rw [if_pos (by simp [Region.wanted,TQ])]
  refine .inl (Al (v:=.int .i64 x.2) (w':=W) ?_ ?_)
  ·simp [execOp,Ua,Act.eval,hsz]
  ·refine h _ rfl (by simp [Act.put,NS,hsz]) (fun t h1 h2 h3=>?_) ?_
   ·simp [Act.put,NS,Array.getD_eq_getD_getElem?,Array.getElem?_setIfInBounds,Ne.symm h1,Ne.symm h2,Ne.symm h3]
   ·simp [Act.put,NS,Array.getD_eq_getD_getElem?,Array.getElem?_setIfInBounds,hsz]
def lP (w0 W:World) (F D0 K:Nat->Prop) (β2:Nat->Nm) (y0:En.Spec.D En.Dop.D4 JD) (pre:List (Int×Int)) (W':World):Prop:=
 ∃ y,Tryz.Bl.go (pre.map Prod.snd) y0=some y/\Nt w0 W F D0 K JD 3 β2 W.heap.size y W'
theorem aB {w0 W W':World} {F D0 K:Nat->Prop} {β2:Nat->Nm} {y0 yq:En.Spec.D En.Dop.D4 JD} (hkp:Bx En.Dop.D4 w0 F D0) {xs pre rest:List (Int×Int)} {x:Int×Int} (hgo:Tryz.Bl.go (xs.map Prod.snd) y0=some yq) (hxs:xs=pre++x::rest) (hI:lP w0 W F D0 K β2 y0 pre W')
  {a':Act} (hd:a'.defers=[]) (hsz:a'.tmps.size=25) (h2:a'.tmps.getD 2 undef=.pointer (some ⟨(β2 1).AQ,0,none⟩)) (h5:a'.tmps.getD 5 undef=.pointer (some ⟨(β2 2).AQ,0,none⟩)) (h7:a'.tmps.getD 7 undef=.int .i64 x.2) (l:Nat):
  lV.wpIn (Fence.wide.inRound l) 0 Tryz.prog (L2 W.heap.size (lP w0 W F D0 K β2 y0) (fun _ _ _=>False) (pre++[x]) W') a' W':=by
 obtain ⟨y,hy,D,β,vs,o,n,e1,e2,e3,e4,e5,e6,e7,e8,e9⟩:=hI
 obtain ⟨hE,_,_,_⟩:=lO
 have hst: ∃ y',Tryz.Bl.step x.2 y=some y':=by
  rw [hxs,List.map_append,Tryz.Bl.Im,hy] at hgo
  simp only [Option.bind_some,List.map_cons,Tryz.Bl.go] at hgo
  cases hs:Tryz.Bl.step x.2 y with
  | none=>rw [hs] at hgo;cases hgo
  | some y'=>exact ⟨y',rfl⟩
 obtain ⟨y',hy'⟩:=hst
 have he:ka.enc (S:=En.Dop.D4) (((),(),x.2,()),y.2) 3=([.ptr 1 0,.ptr 2 0,.v (.int .i64 x.2)],o,n):=by
  have h:ka.enc (S:=En.Dop.D4) (((),(),x.2,()),y.2) 3=([.ptr 1 0,.ptr 2 0,.v (.int .i64 x.2)],(JD.enc (S:=En.Dop.D4) y 3).2.1,(JD.enc (S:=En.Dop.D4) y 3).2.2):=by kernel_rfl
  rw [h,e1]
 refine Tl hE (f0:=3000) (adr:=[1,0,1,0,1,1]) eN jL (sp:=ka) (qe:=JD) (ts:=[2,5,7]) (bn:=3) (by kernel_rfl) (x:=(((),(),x.2,()),y.2)) (y:=y') hy' he e3.base ?_ e4 (e3.inv hkp) hd hsz ?_ (fun _ _ _ h=>h) (fun ⟨_,_,h⟩=>h) ?_ l
 ·simp only [BM,SV.on,and_true]
  omega
 ·intro j t v hj hv
  match j with
  | 0=>
   simp only [List.getElem?_cons_zero,Option.some.injEq] at hj hv;subst hj;subst hv
   exact ⟨by show 2<25;omega,by rw [h2,<- e2 1 (by omega)];simp only [SV.den]⟩
  | 1=>
   simp only [List.getElem?_cons_succ,List.getElem?_cons_zero,Option.some.injEq] at hj hv;subst hj;subst hv
   exact ⟨by show 5<25;omega,by rw [h5,<- e2 2 (by omega)];simp only [SV.den]⟩
  | 2=>
   simp only [List.getElem?_cons_succ,List.getElem?_cons_zero,Option.some.injEq] at hj hv;subst hj;subst hv
   exact ⟨by show 7<25;omega,by rw [h7];simp only [SV.den]⟩
  | j+3=>simp at hj
 ·intro a'' W'' D' β' vs' o' n' f1 f2 f3 f4
  obtain ⟨g1,g2⟩:=Nt.next e3 e2 e5 e6 e7 e8 e9 f1 f2 f3 f4
  refine ⟨g1,y',?_,g2⟩
  rw [List.map_append,Tryz.Bl.Im,hy]
  simp only [Option.bind_some,List.map_cons,List.map_nil,Tryz.Bl.go,hy']
theorem aC {w:World} {D:Nat->Prop} {β:Nat->Nm} {o0:List (Nat×En.Own En.Dop.D4)} (hkp:Bx En.Dop.D4 w (AJ o0 β) D) {fn:Func} (hres:fn.results=#[.tmp 4]) {W W':World} {K:Nat->Prop} {β2:Nat->Nm} {yq:En.Spec.D En.Dop.D4 JD} (hβ:β2 0=β 0) (hm:Nt w W (AJ o0 β) D K JD 3 β2 W.heap.size yq W')
  {a:Act} (hd:a.defers=[]) (hsz:a.tmps.size=25) (h2:a.tmps.getD 2 undef=.pointer (some ⟨(β2 1).AQ,0,none⟩)) (h5:a.tmps.getD 5 undef=.pointer (some ⟨(β2 2).AQ,0,none⟩)) (hK:W'.heap[W.heap.size]?=some (.deferred (some []))):
  ki.wpIn Fence.wide 0 Tryz.prog (LC (bodyPostM Fence.wide 2 Tryz.prog fn (Dk (S:=En.Dop.D4) Tryz.Bl.c ((yq.2.2.2.1.1,()),(yq.2.1,())) w D β o0))) { a with defers:={ target:=.collected W.heap.size,args:=#[] }::a.defers } W':=by
 obtain ⟨D',β',vs,o,n,e1,e2,e3,e4,e5,e6,e7,e8,e9⟩:=hm
 obtain ⟨hE,_,_,_⟩:=lO
 refine wpIn_wide.2 ?_
 rw [eO]
 refine wp_seq (wp_region_list ?_)
 have hkp':=e3.keeps hkp
 have ho:o=(JD.enc (S:=En.Dop.D4) yq 3).2.1:=by rw [e1]
 have hn:n=(JD.enc (S:=En.Dop.D4) yq 3).2.2:=by rw [e1]
 have hv:=Jp hE (w0:=W') (F:=AJ o β') (D0:=D') (bn:=3) (β0:=β') (f0:=3000) (k0:=[.ops Ye Ye.toList]) (s0:=⟨[(2,.ptr 1 0),(5,.ptr 2 0)],o,n,25⟩)
  (Q:=fun e a' w'=>match e with
   | .normal=>a'.defers=[]/\a'.tmps.getD 4 undef=.int .i64 yq.2.2.2.1.1/\ ∃ D2 β3,(∀ i,i<3->β3 i=β' i)/\GH W' (AJ o β') D' D2 o (· <n) β3 w'
   | _=>False) hkp' (fun _ _ _ _ _ h=>h) e4 rfl (fun z hz=>by
    simp only [List.mem_cons,List.not_mem_nil,or_false] at hz
    subst hz;trivial) (by
   subst ho;subst hn
   rw [db]
   intro _ _ D2 β3 a' w' hag hg
   refine ⟨hg.defers,by rw [hg.tmps 4 (.v (.int .i64 yq.2.2.2.1.1)) rfl];simp only [SV.den],D2,β3,hag,hg.gh⟩)
 have hl:=hv D' β' { a with defers:=[] } W' (fun _ _=>rfl) ⟨rfl,hsz,fun t x hx=>?_,fun t x hx=>?_,e3.base⟩
 ·simp only [List.map_cons,List.map_nil,BY.it,after] at hl
  have hl2:=DE (ds:=[{ target:=.collected W.heap.size,args:=#[] }]) (Q':=Exit.then (Code.ret.wp Tryz.prog (LC (bodyPostM Fence.wide 2 Tryz.prog fn (Dk (S:=En.Dop.D4) Tryz.Bl.c ((yq.2.2.2.1.1,()),(yq.2.1,())) w D β o0)))) (LC (bodyPostM Fence.wide 2 Tryz.prog fn (Dk (S:=En.Dop.D4) Tryz.Bl.c ((yq.2.2.2.1.1,()),(yq.2.1,())) w D β o0)))) ?_ (fun _ _ _ h=>h.elim) (fun ⟨_,_,h⟩=>h) hl
  ·rw [hd];exact hl2
  ·rintro a' w' ⟨hd',hr,D2,β3,hag,hgh⟩
   refine wp_ret ?_
   obtain ⟨g1,g2⟩:=Nt.next e3 e2 e5 e6 e7 e8 e9 e1 hag hgh e4
   have hK':=(g1 W.heap.size (.inl rfl)).trans hK
   show LeavesInM _ _ _ _ _ _ _ _ _
   rw [hd']
   refine ⟨by simp,.inl ⟨_,_,rfl,run_takeDeferred hK',?_⟩⟩
   refine ⟨.int .i64 yq.2.2.2.1.1,by rw [<-hr];exact results_tmp hres _ _ _,?_⟩
   obtain ⟨D4,β4,vs4,o4,n4,f1,f2,f3,f4,_⟩:=g2.Uf (.deferred none)
   rcases he:En.Spec.enc (S:=En.Dop.D4) ⟨[.fd (.int .i64)],[TN]⟩ ((yq.2.2.2.1.1,()),(yq.2.1,())) 1 with ⟨rs,o5,n5⟩
   have ho4:o4=(JD.enc (S:=En.Dop.D4) yq 3).2.1:=by rw [f1]
   obtain ⟨ps,hps,hm0⟩:=dc yq
   rw [<-ho4] at hps
   obtain ⟨β5,b1,b2,b3,b4,b5,_⟩:=En.Spec.B2 f3 hps (by kernel_rfl) he
   have hrs:rs=[.v (.int .i64 yq.2.2.2.1.1)]:=by
    have h:En.Spec.enc (S:=En.Dop.D4) ⟨[.fd (.int .i64)],[TN]⟩ ((yq.2.2.2.1.1,()),(yq.2.1,())) 1=([.v (.int .i64 yq.2.2.2.1.1)],(En.Spec.enc (S:=En.Dop.D4) ⟨[.fd (.int .i64)],[TN]⟩ ((yq.2.2.2.1.1,()),(yq.2.1,())) 1).2.1,(En.Spec.enc (S:=En.Dop.D4) ⟨[.fd (.int .i64)],[TN]⟩ ((yq.2.2.2.1.1,()),(yq.2.1,())) 1).2.2):=by kernel_rfl
    rw [he] at h
    exact (Prod.mk.inj h).1
   refine ⟨_,β5,rs,o5,n5,he,?_,fun i hi=>?_,b2,b4,b5⟩
   ·rw [hrs];simp only [As,SV.den]
   ·have hi0:i=0:=by have:i<1:=hi;omega
    subst hi0
    rw [b1 0 (by omega) 0 hm0,f2 0 (by omega),hβ]
 all_goals
  simp only [AI] at hx
  split at hx
  ·rename_i he;subst he;cases hx
   first
    | (refine ⟨by show 2<25;omega,?_⟩;simp only [SV.on];omega)
    | (rw [show ({ a with defers:=[] }:Act).tmps.getD 2 undef=a.tmps.getD 2 undef from rfl,h2,<- e2 1 (by omega)];simp only [SV.den])
  ·split at hx
   ·rename_i he;subst he;cases hx
    first
     | (refine ⟨by show 5<25;omega,?_⟩;simp only [SV.on];omega)
     | (rw [show ({ a with defers:=[] }:Act).tmps.getD 5 undef=a.tmps.getD 5 undef from rfl,h5,<- e2 2 (by omega)];simp only [SV.den])
   ·simp [AP] at hx
theorem SJ (args:Array Value) (w:World):(callFunc 146 args).run Tryz.prog w=.ok (.enter 146 args) w:=Cf (by kernel_rfl)
theorem Tryz.Bl.holds:Tryz.Bl.c.Holds Tryz.prog:=by
 obtain ⟨hE,hbod,hokB,fn,hf,hb,hn',hres⟩:=lO
 refine ⟨hbod,hokB,fun h=>(by cases h),fun x y hxy w D β vs o n he hg hon hn hiv=>?_⟩
 have hxy:Tryz.Bl.R x=some y:=hxy
 unfold Tryz.Bl.R at hxy
 split at hxy
 case h_2=>cases hxy
 rename_i hl
 have hl:=of_decide_eq_true hl
 obtain ⟨yq,hgo,hy⟩:=Option.bind_eq_some_iff.1 hxy
 cases hy
 have hkp:Bx En.Dop.D4 w (AJ o β) D:=⟨hiv,fun k hk=>⟨hg.C5 k hk,fun ⟨i,b,hi,hik⟩=>hg.off i b k hi hik hk⟩⟩
 have hx:x=(((),x.1.2.1,()),x.2):=rfl
 have he':En.Spec.enc (S:=En.Dop.D4) ⟨[.al 0 0,.fd (.sl 0)],[TN]⟩ (((),x.1.2.1,()),x.2) 1=(vs,o,n):=he
 have hlen:vs.length=2:=En.Spec.AZ he
 refine VC.Sb (M:=0+3000) (bn:=1) hf hb hn' (by omega) hon hg ?_
 refine Jp hE hkp (fun _ _ _ _ _ h=>h) (k0:=[.code [] (AR Tryz.prog 47)]) (s0:=⟨Be 0 vs,o,n,25⟩) hn rfl (fun z hz=>by
  simp only [List.mem_cons,List.not_mem_nil,or_false] at hz
  subst hz;rfl) ?_
 rw [Tryz.Bl.part x.1.2.1 ((),x.2) vs o n he']
 intro _ _ D1 β1 a W hβ1 hg1
 simp only [List.map_cons,List.map_nil,BY.it,after]
 obtain ⟨ps,hps,hp7,hpbl,hm1,hm2,hm0⟩:=Xv x.1.2.1 ((),x.2)
 rcases hq:JD.enc (S:=En.Dop.D4) ((),(x.2.1,((),()),(-1,()),())) 3 with ⟨vq,o2,n2⟩
 have he2:En.Spec.enc (S:=En.Dop.D4) ⟨[.al 1 0,.al 2 0],JD.bx⟩ (((),(),()),(x.2.1,((),()),(-1,()),())) 3=([.ptr 1 0,.ptr 2 0],o2,n2):=by
  have h:En.Spec.enc (S:=En.Dop.D4) ⟨[.al 1 0,.al 2 0],JD.bx⟩ (((),(),()),(x.2.1,((),()),(-1,()),())) 3=([.ptr 1 0,.ptr 2 0],(JD.enc (S:=En.Dop.D4) ((),(x.2.1,((),()),(-1,()),())) 3).2.1,(JD.enc (S:=En.Dop.D4) ((),(x.2.1,((),()),(-1,()),())) 3).2.2):=by kernel_rfl
  rw [h,hq]
 obtain ⟨β2,b1,b2,_,_,b5,b6,b7,_,_⟩:=En.Spec.B2 hg1.gh hps (by kernel_rfl) he2
 have r1:=b1 1 (by omega) 5 hm1
 have r2:=b1 2 (by omega) 6 hm2
 have r0:=b1 0 (by omega) 0 hm0
 obtain ⟨Bs,hBs,hBh⟩:=hg1.gh.own 7 _ (show lk (iw x.1.2.1 ((),x.2)).o 7=some (.AQ 66 [.h 1]) from rfl)
 obtain ⟨_,hrow⟩:=hg1.gh.own 1 _ (show lk (iw x.1.2.1 ((),x.2)).o 1=some (.sl 0 x.1.2.1) by kernel_rfl)
 have A0:(β1 7).AQ=Bs:=by unfold Nm.AQ;rw [hBs];rfl
 have hBs':Bs<W.heap.size:=(Array.getElem?_eq_some_iff.1 hBh).1
 have hgd:=b2.gJ (r:=Bs) (fun i b hi hk=>b6 7 _ i b Bs hp7 (by rw [hpbl];simp) hi (Nm.Eo hBs) hk) hBs' (hg1.gh.fresh 7 _ Bs (show lk (iw x.1.2.1 ((),x.2)).o 7=some (.AQ 66 [.h 1]) from rfl) (Nm.Eo hBs))
 have hrd: ∀ W':World,(∀ k,(FH D1 β1 ps.bl k\/k=Bs)->W'.heap[k]?=W.heap[k]?)->bp Bs x.1.2.1 W':=fun W' hs=>by
  have hc:W'.cell? ⟨Bs,0,none⟩=some ((β1 1).sl):=by
   rw [World.cell?_of_block (w:=W) (hs Bs (.inr rfl))]
   unfold World.cell?
   rw [hBh]
   simp [AA,SV.den]
  rcases RS hrow with ⟨h1,a',c,h2⟩|⟨b,off,cap,h2,h3,h4⟩
  ·exact .inl ⟨h1,a',c,by rw [hc,h2]⟩
  ·exact .inr ⟨b,off,cap,by rw [hc,h2],fun j hj=>by rw [World.cell?_of_block (w:=W) (hs b (.inl (.inl h3)))];exact h4 j hj⟩
 have t2:a.tmps.getD 2 undef=.pointer (some ⟨(β2 1).AQ,0,none⟩):=by rw [hg1.tmps 2 (.ptr 5 0) rfl,r1];simp only [SV.den]
 have t5:a.tmps.getD 5 undef=.pointer (some ⟨(β2 2).AQ,0,none⟩):=by rw [hg1.tmps 5 (.ptr 6 0) rfl,r2];simp only [SV.den]
 have hsz:a.tmps.size=25:=hg1.size
 have hgo':Tryz.Bl.go ((bwd x.1.2.1).map Prod.snd) ((),(x.2.1,((),()),(-1,()),()))=some yq:=by rw [Tm];exact hgo
 refine wpIn_wide.2 (wpIn_wide.1 (KU (gf:=146) (lb:=#[.pointer (some ⟨Bs,0,none⟩)]) ?_ SJ (Tryz.Ti Bs x.1.2.1 hl) (fun _=>rfl)
  (lP w W (AJ o β) D (fun k=>FH D1 β1 ps.bl k\/k=Bs) β2 ((),(x.2.1,((),()),(-1,()),()))) (fun _ _ _=>False) (fun pre W' ob ⟨y,h1,h2⟩ hlt=>⟨y,h1,Nt.Yu y W' ob h2 hlt⟩) (fun _ _ _ _ h _=>h)
  (fun pre W' ⟨_,_,_,_,_,_,_,_,_,_,_,_,_,_,_,h9⟩=>hrd W' h9) (fun ob ob'=>⟨_,rfl,Nt.first hq hgd b5 (fun _ h=>h) ob ob'⟩)
  (fun x' a'=>a'.defers=[]/\a'.tmps.size=25/\a'.tmps.getD 2 undef=.pointer (some ⟨(β2 1).AQ,0,none⟩)/\a'.tmps.getD 5 undef=.pointer (some ⟨(β2 2).AQ,0,none⟩)/\a'.tmps.getD 7 undef=.int .i64 x'.2) ?_ ?_ ?_ ?_))
 ·rw [show a.eval (.tmp 10)=a.tmps.getD 10 undef from rfl,hg1.tmps 10 (.fn 146 [.ptr 7 0]) rfl]
  simp only [SV.den,AA,EM (show Nat.ble 1000000 146=false from rfl),A0]
 ·intro l x' W' K hK
  exact VJ hsz fun a' h1 h2 h3 h4=>hK a' ⟨h1,h2,by rw [h3 2 (by decide) (by decide) (by decide)];exact t2,by rw [h3 5 (by decide) (by decide) (by decide)];exact t5,h4⟩
 ·rintro pre x' rest a' W' hxs _ hI ⟨h1,h2,h3,h4,h5⟩
  exact aB hkp hgo' hxs hI h1 h2 h3 h4 h5 _
 ·rintro W' ⟨y,h1,h2⟩ hK
  rw [hgo'] at h1
  cases h1
  simp only [after,Exit.inBlock]
  exact aC hkp hres (by rw [r0];exact hβ1 0 (by omega)) h2 hg1.defers hsz t2 t5 hK
 ·exact fun _ _ _ _ h=>h.elim
end Go.Proofs
set_option maxRecDepth 100000
namespace Go.Proofs
open Go Go.En Go.RowKit
abbrev Nr:Ga:=⟨0,91,[.fd (.sl 4),.st 0,.own 5 56,.own 6 93,.st 0,.st 0,.fd (.int .i64),.st 0],false⟩
abbrev Ib:List Ga:=[Nr,⟨1,89,[.al 0 0],false⟩]
abbrev R3:Type:=List En.Dop.Tok×Int×List En.Dop.AU×List En.Dop.HH×Int×Int×Int×Int×Unit
def sD (s:R3) (d:Int):R3:=(s.1,s.2.1,s.2.2.1,s.2.2.2.1,s.2.2.2.2.1,d,s.2.2.2.2.2.2.1,s.2.2.2.2.2.2.2.1,())
abbrev MT:Type:=En.Spec.D En.Dop.D4 ⟨[.al 0 0],[Nr]⟩->Option (En.Spec.D En.Dop.D4 ⟨[.fd (.int .i64)],[Nr]⟩)
def ax (r:Int) (s:R3):Option (En.Spec.D En.Dop.D4 ⟨[.fd (.int .i64)],[Nr]⟩):=
 if Az (s.2.2.2.2.2.1 -1)=true then some ((r,()),(sD s (s.2.2.2.2.2.1 -1),())) else none
def Rp (m:MT) (s:R3):Option (En.Spec.D En.Dop.D4 ⟨[.fd (.int .i64)],[Nr]⟩):=
 if (!decide (s.2.2.2.2.2.2.1=0))=true then ax (-1) s else (m (((),()),(s,()))).bind fun v=>ax v.1.1 v.2.1
noncomputable def Tryz.within (m:MT) (s:R3):Option (En.Spec.D En.Dop.D4 ⟨[.fd (.int .i64)],[Nr]⟩):=
 if Az (s.2.2.2.2.2.1+1)=true then
  if decide (100<s.2.2.2.2.2.1+1)=true then
   (Tryz.CZ 6 (s.1,s.2.1,s.2.2.1,s.2.2.2.1,s.2.2.2.2.1,s.2.2.2.2.2.1+1,s.2.2.2.2.2.2)).bind fun y=>Rp m y.2.1
  else Rp m (sD s (s.2.2.2.2.2.1+1))
 else none
noncomputable abbrev w4:Code:=BF (AR Tryz.prog 180) [0,1,1,1]
noncomputable abbrev w5:Code:=BF (AR Tryz.prog 180) [1,1,1,1]
noncomputable def I4 (c:Code):Array Oper:=match c with
 | .region _ o _=>o
 | _=>#[]
noncomputable def ko:Array Oper:=I4 w4
noncomputable def mZ:Array Oper:=I4 (BF w5 [0,0])
noncomputable def ma:Array Oper:=I4 (BF w5 [0,0,1,0])
noncomputable def mb:Array Oper:=I4 (BF w5 [0,1])
noncomputable def kF:Array Oper:=I4 (AR Tryz.prog 203)
theorem kC:w4=.region 4 ko false:=by kernel_rfl
theorem kE:w5=.seq (.seq (.region 5 mZ false) (.cond (.tmp 24) (.seq (.region 6 ma false) .ret) .skip)) (.seq (.region 7 mb false) .ret):=by kernel_rfl
theorem ff:AR Tryz.prog 203=.region 0 kF false:=by kernel_rfl
noncomputable def gC:Oper:=(ko.getD 0 default)
noncomputable def kD:Oper:=(ko.getD 1 default)
theorem fe:ko.toList=[gC,kD]:=by kernel_rfl
theorem fZ:gC.op=.makeFunc (.func 203) #[] #[.tmp 2]/\gC.dst=some 19/\gC.guard=none:=⟨by kernel_rfl,by kernel_rfl,by kernel_rfl⟩
theorem fa:kD.op=.defer { callee:=.value (.tmp 19),args:=#[],argTypes:=#[] }/\kD.dst=none/\kD.guard=none:=⟨by kernel_rfl,by kernel_rfl,by kernel_rfl⟩
def aw.p:Ag:=⟨[],2,⟨[.al 1 0],Ib⟩,⟨[],Ib⟩,false,[],[]⟩
noncomputable def aw.E:Env En.Dop.D4:=Ac Tryz.prog 203 Tryz.tb [] aw.p
theorem aw.ok:AF En.Dop.D4 Tryz.prog 203 aw.p=true:=by kernel_rfl
theorem aw.kk (s:R3):(NY aw.E 3000 kF ⟨[.al 1 0],Ib⟩ ⟨[],Ib⟩ [0] [] 2 (((),()),(s,((),()),()))).eval (fun _ _=>none)=
  if Az (s.2.2.2.2.2.1 -1)=true then some ((),(sD s (s.2.2.2.2.2.1 -1),((),()),())) else none:=by kernel_rfl
theorem SK (args:Array Value) (w:World):(callFunc 203 args).run Tryz.prog w=.ok (.enter 203 args) w:=Cf (by kernel_rfl)
theorem ay (r:Int) (s:R3): ∃ ps,En.Spec.parse (S:=En.Dop.D4) ⟨[.fd (.int .i64)],[Nr]⟩ true [.v (.int .i64 r)] (En.Spec.enc (S:=En.Dop.D4) ⟨[],Ib⟩ ((),(s,((),()),())) 2).2.1 (Qn 1) 1=some (((r,()),(s,())),ps)/\lk ps.m 0=some 0:=
 ⟨⟨(1,.AQ 89 [.ptr 0 0])::(2,.sl 4 s.1)::[],[(0,0)],[],1⟩,by kernel_rfl,by kernel_rfl⟩
theorem bo {f:Nat} {sp:En.Spec} {out:Out (sp.D En.Dop.D4) (En.Spec.D En.Dop.D4 ⟨[.fd (.int .i64)],[Nr]⟩)} {w:World} {D:Nat->Prop} {β:Nat->Nm} {o0:List (Nat×En.Own En.Dop.D4)} (hkp:Bx En.Dop.D4 w (AJ o0 β) D) {fn:Func} (hres:fn.results=#[.tmp 4]) {β2:Nat->Nm} (hβ:β2 0=β 0)
  {r:Int} {s:R3} (hd:Az (s.2.2.2.2.2.1 -1)=true) {a:Act} {W:World}
  (hh:L8 En.Dop.D4 w (AJ o0 β) D ⟨[.fd (.int .i64)],Ib⟩ [4] 2 β2 27 ((r,()),(s,((),()),())) a W):
  Leaves Tryz.prog fn a.tmps (Dk (S:=En.Dop.D4) ⟨f,1,sp,⟨[.fd (.int .i64)],[Nr]⟩,false,out⟩ ((r,()),(sD s (s.2.2.2.2.2.1 -1),())) w D β o0) [{ target:=.fn (.func 203) #[.pointer (some ⟨(β2 1).AQ,0,none⟩)],args:=#[] }] .returning W:=by
 obtain ⟨hE,_,_,fn7,hf7,hb7,hn7,hr7⟩:=Gf (p:=aw.p) (ct:=[]) Tryz.AH CC aw.ok
 have hn7:fn7.ntmps=8:=hn7
 obtain ⟨⟨D1,β1,vs,o,n,he,h1,h2,h3,h4,h5⟩,hsz⟩:=hh
 have hr:a.tmps.getD 4 undef=.int .i64 r:=by
  have hvs:vs=[.v (.int .i64 r)]:=by
   have h:En.Spec.enc (S:=En.Dop.D4) ⟨[.fd (.int .i64)],Ib⟩ ((r,()),(s,((),()),())) 2=([.v (.int .i64 r)],(En.Spec.enc (S:=En.Dop.D4) ⟨[.fd (.int .i64)],Ib⟩ ((r,()),(s,((),()),())) 2).2.1,(En.Spec.enc (S:=En.Dop.D4) ⟨[.fd (.int .i64)],Ib⟩ ((r,()),(s,((),()),())) 2).2.2):=by kernel_rfl
   rw [he] at h
   exact (Prod.mk.inj h).1
  subst hvs
  have:=(h5 0 4 _ rfl rfl).2
  rw [this];simp only [SV.den]
 have he7:En.Spec.enc (S:=En.Dop.D4) ⟨[.al 1 0],Ib⟩ (((),()),(s,((),()),())) 2=([.ptr 1 0],o,n):=by
  have h:En.Spec.enc (S:=En.Dop.D4) ⟨[.al 1 0],Ib⟩ (((),()),(s,((),()),())) 2=([.ptr 1 0],(En.Spec.enc (S:=En.Dop.D4) ⟨[.fd (.int .i64)],Ib⟩ ((r,()),(s,((),()),())) 2).2.1,(En.Spec.enc (S:=En.Dop.D4) ⟨[.fd (.int .i64)],Ib⟩ ((r,()),(s,((),()),())) 2).2.2):=by kernel_rfl
  rw [h,he]
 have hseg:=aw.kk s
 rw [if_pos hd] at hseg
 refine leaves_cons (by simp) (by rw [invoke];exact SK _ _) ?_
 refine (callsD_of_wp (R:=fun e w'=>(∃ v,e=.returned v)/\ ∃ a',L8 En.Dop.D4 w (AJ o0 β) D ⟨[],Ib⟩ [] 2 β2 8 ((),(sD s (s.2.2.2.2.2.1 -1),((),()),())) a' w') hf7 hb7 ?_).mono ?_
 ·rw [ff]
  refine wp_region_list (NZ hE (by kernel_rfl) rfl hseg hkp ⟨⟨D1,β1,_,o,n,he7,h1,h2,?_,h4,?_⟩,?_⟩ ?_)
  ·simp only [BM,SV.on,and_true];omega
  ·intro j t v hj hv
   cases j with
   | zero=>
    simp only [List.getElem?_cons_zero,Option.some.injEq] at hj hv;subst hj;subst hv
    refine ⟨by show 0<8;omega,?_⟩
    rw [Array.getD_eq_getD_getElem?,Array.getElem?_append_left (by simp)]
    simp [SV.den,h1 1 (by omega)]
   | succ j=>simp at hj
  ·simp [hn7];rfl
  ·intro a' W' hd' hh'
   refine ⟨hd',.tuple #[],results_none (by rw [<-Array.toList_inj];rw [hr7];kernel_rfl) _ _ _,⟨_,rfl⟩,a',hh'⟩
 ·rintro e u w' ⟨rfl,⟨v,rfl⟩,a',⟨D2,β3,vs2,o2,n2,k1,k2,k3,k4,k5,_⟩,_⟩
  show ∃ v,(results fn a.tmps).run Tryz.prog w'=.ok v w'/\_
  refine ⟨.int .i64 r,by rw [<-hr];exact results_tmp hres _ _ _,?_⟩
  rcases he8:En.Spec.enc (S:=En.Dop.D4) ⟨[.fd (.int .i64)],[Nr]⟩ ((r,()),(sD s (s.2.2.2.2.2.1 -1),())) 1 with ⟨rs,o5,n5⟩
  obtain ⟨ps,hps,hm0⟩:=ay r (sD s (s.2.2.2.2.2.1 -1))
  have ho2:o2=(En.Spec.enc (S:=En.Dop.D4) ⟨[],Ib⟩ ((),(sD s (s.2.2.2.2.2.1 -1),((),()),())) 2).2.1:=by rw [k1]
  rw [<-ho2] at hps
  obtain ⟨β5,b1,b2,b3,b4,b5,_⟩:=En.Spec.B2 k3 hps (by kernel_rfl) he8
  have hrs:rs=[.v (.int .i64 r)]:=by
   have h: ∀ s':R3,En.Spec.enc (S:=En.Dop.D4) ⟨[.fd (.int .i64)],[Nr]⟩ ((r,()),(s',())) 1=([.v (.int .i64 r)],(En.Spec.enc (S:=En.Dop.D4) ⟨[.fd (.int .i64)],[Nr]⟩ ((r,()),(s',())) 1).2.1,(En.Spec.enc (S:=En.Dop.D4) ⟨[.fd (.int .i64)],[Nr]⟩ ((r,()),(s',())) 1).2.2):=fun s'=>by kernel_rfl
   have h:=h (sD s (s.2.2.2.2.2.1 -1))
   rw [he8] at h
   exact (Prod.mk.inj h).1
  refine ⟨_,β5,rs,o5,n5,he8,?_,fun i hi=>?_,b2,b4,b5⟩
  ·rw [hrs];simp only [As,SV.den]
  ·have hi0:i=0:=by have:i<1:=hi;omega
   subst hi0
   rw [b1 0 (by omega) 0 hm0,k2 0 (by omega),hβ]
abbrev az (g:Nat):List Cl:=[.fn g [(0,0)],.al 1 0]
abbrev gD (g:Nat):List Cl:=[.fn g [(0,0)],.al 1 0,.fd .bool]
def lz (g:Nat):Ag:=⟨[(999998,⟨[[0,0,1,1,1],[0,1,1,1,1]],[1,2],2,⟨(az g),Ib⟩⟩)],1,⟨[.al 0 0,.fn g [(0,0)]],[Nr]⟩,⟨[.fd (.int .i64)],[Nr]⟩,false,[],[]⟩
noncomputable def wk (f:Nat) (m:MT):Bw En.Dop.D4:=⟨f,1,⟨[.al 0 0],[Nr]⟩,⟨[.fd (.int .i64)],[Nr]⟩,false,.opt m⟩
noncomputable def wE (f g:Nat) (m:MT):Env En.Dop.D4:=Ac Tryz.prog 180 Tryz.tb [Tryz.CZ.c,wk f m] (lz g)
noncomputable def wc (g:Nat) (m:MT):Bw En.Dop.D4:=⟨180,1,⟨[.al 0 0,.fn g [(0,0)]],[Nr]⟩,⟨[.fd (.int .i64)],[Nr]⟩,false,.opt fun x=>Tryz.within m x.2.1⟩
def W5 (f g:Nat):Prop:= ∀ (m:MT) (s:R3),(NY (wE f g m) 3000 mZ ⟨(az g),Ib⟩ ⟨(gD g),Ib⟩ [1,2] [1,2,24] 2 (((),(),()),(s,((),()),()))).eval (fun _ _=>none)=some (((),(),(!decide (s.2.2.2.2.2.2.1=0)),()),(s,((),()),()))
theorem s6 (f g:Nat) (m:MT) (s:R3) (b:Bool):(NY (wE f g m) 3000 ma ⟨(gD g),Ib⟩ ⟨[.fd (.int .i64)],Ib⟩ [1,2,24] [4] 2 (((),(),b,()),(s,((),()),()))).eval (fun _ _=>none)=some ((-1,()),(s,((),()),())):=by kernel_rfl
def W7 (f g:Nat):Prop:= ∀ (m:MT) (s:R3) (b:Bool),(NY (wE f g m) 3000 mb ⟨(gD g),Ib⟩ ⟨[.fd (.int .i64)],Ib⟩ [1,2,24] [4] 2 (((),(),b,()),(s,((),()),()))).eval (fun _ _=>none)=(m (((),()),(s,()))).bind fun v=>some ((v.1.1,()),(v.2.1,((),()),()))
def W0 (f g:Nat):Prop:= ∀ (m:MT) (s:R3) (vs:List SV) (o:List (Nat×En.Own En.Dop.D4)) (n:Nat) (h:En.Spec.enc (S:=En.Dop.D4) ⟨[.al 0 0,.fn g [(0,0)]],[Nr]⟩ (((),(),()),(s,())) 1=(vs,o,n)),
  (lr (wE f g m) 3000 ⟨(az g),Ib⟩ [1,2] 1 2 999998 [[0,0,1,1,1],[0,1,1,1,1]] [.code [] (AR Tryz.prog 180)] ⟨Be 0 vs,o,n,27⟩).eval (fun _ _=>none)=
  if Az (s.2.2.2.2.2.1+1)=true then
   if decide (100<s.2.2.2.2.2.1+1)=true then
    (Tryz.CZ 6 (s.1,s.2.1,s.2.2.1,s.2.2.2.1,s.2.2.2.2.1,s.2.2.2.2.2.1+1,s.2.2.2.2.2.2)).bind fun y=>some (((),(),()),(y.2.1,((),()),()))
   else some (((),(),()),(sD s (s.2.2.2.2.2.1+1),((),()),()))
  else none
theorem fg {f g:Nat} (h5:W5 f g) (h7:W7 f g) {m:MT} (hE:(wE f g m).Ok Tryz.prog) {x:En.Spec.D En.Dop.D4 ⟨[.al 0 0,.fn g [(0,0)]],[Nr]⟩} {y:En.Spec.D En.Dop.D4 ⟨[.fd (.int .i64)],[Nr]⟩} {w:World} {D:Nat->Prop} {β:Nat->Nm} {o0:List (Nat×En.Own En.Dop.D4)} (hkp:Bx En.Dop.D4 w (AJ o0 β) D) {fn:Func} (hres:fn.results=#[.tmp 4]) {β2:Nat->Nm} (hβ:β2 0=β 0) {s:R3} (hy:Rp m s=some y)
  {a:Act} {W:World} (hd:a.defers=[]) (hh:L8 En.Dop.D4 w (AJ o0 β) D ⟨(az g),Ib⟩ [1,2] 2 β2 27 (((),(),()),(s,((),()),())) a W):
  w4.wpIn Fence.wide 0 Tryz.prog (after Fence.wide Tryz.prog 0 [.code w5] (LC (bodyPostD Tryz.prog fn (Dk (S:=En.Dop.D4) (wc g m) y w D β o0)))) a W:=by
 have ht2:a.tmps.getD 2 undef=.pointer (some ⟨(β2 1).AQ,0,none⟩):=by
  obtain ⟨⟨D1,β1,vs,o,n,he,h1,h2,h3,h4,h5⟩,hsz⟩:=hh
  have hvs:vs=[.fn g [.ptr 0 0],.ptr 1 0]:=by
   have h:En.Spec.enc (S:=En.Dop.D4) ⟨(az g),Ib⟩ (((),(),()),(s,((),()),())) 2=([.fn g [.ptr 0 0],.ptr 1 0],(En.Spec.enc (S:=En.Dop.D4) ⟨(az g),Ib⟩ (((),(),()),(s,((),()),())) 2).2.1,(En.Spec.enc (S:=En.Dop.D4) ⟨(az g),Ib⟩ (((),(),()),(s,((),()),())) 2).2.2):=by kernel_rfl
   rw [he] at h
   exact (Prod.mk.inj h).1
  subst hvs
  rw [(h5 1 2 _ rfl rfl).2,<- h1 1 (by omega)]
  simp only [SV.den]
 obtain ⟨a1,a2,a3⟩:=fZ
 obtain ⟨b1,b2,b3⟩:=fa
 have hsz:=hh.sz
 rw [kC]
 refine FE (.inl rfl) ?_
 rw [fe]
 unfold wpList
 rw [if_pos (by simp [Region.wanted,a3])]
 refine .inl (Al (v:=.func (.func 203) #[] #[.pointer (some ⟨(β2 1).AQ,0,none⟩)]) (w':=W) ?_ ?_)
 ·simp [execOp,a1,Instr.makeFunc,Act.eval,<- ht2]
 unfold wpList
 rw [if_pos (by simp [Region.wanted,b3])]
 refine .inl ?_
 have hex:(execOp (a.put gC.dst (.func (.func 203) #[] #[.pointer (some ⟨(β2 1).AQ,0,none⟩)])).eval kD).run Tryz.prog W=.ok (.defer { target:=.fn (.func 203) #[.pointer (some ⟨(β2 1).AQ,0,none⟩)],args:=#[] }) W:=by
  have hev:(a.put gC.dst (.func (.func 203) #[] #[.pointer (some ⟨(β2 1).AQ,0,none⟩)])).eval (.tmp 19)=.func (.func 203) #[] #[.pointer (some ⟨(β2 1).AQ,0,none⟩)]:=by
   simp [Act.eval,Act.put,a2,Array.getD_eq_getD_getElem?,Array.getElem?_setIfInBounds,hsz]
  simp [execOp,b1,resolve,hev,Deferred.ofValue]
 unfold Oper.wp
 rw [hex,Oper.upon_defer,b2]
 simp only [wpList,after,Act.put,a2,hd]
 refine wpIn_wide.2 ?_
 rw [kE]
 have hh2:L8 En.Dop.D4 w (AJ o0 β) D ⟨(az g),Ib⟩ [1,2] 2 β2 27 (((),(),()),(s,((),()),())) { a.put (some 19) (.func (.func 203) #[] #[.pointer (some ⟨(β2 1).AQ,0,none⟩)]) with defers:=[{ target:=.fn (.func 203) #[.pointer (some ⟨(β2 1).AQ,0,none⟩)],args:=#[] }] } W:=hh.put (by decide)
 refine wp_seq (wp_seq (wp_region_list (NZ hE (by kernel_rfl) rfl (h5 m s) hkp hh2 fun a3 W3 hd3 hh3=>?_)))
 have ht24:a3.eval (.tmp 24)=.bool (!decide (s.2.2.2.2.2.2.1=0)):=by
  obtain ⟨⟨D1,β1,vs,o,n,he,h1,h2,h3,h4,h5⟩,hsz⟩:=hh3
  have hvs: ∀ b:Bool,En.Spec.enc (S:=En.Dop.D4) ⟨(gD g),Ib⟩ (((),(),b,()),(s,((),()),())) 2=([.fn g [.ptr 0 0],.ptr 1 0,.b b],(En.Spec.enc (S:=En.Dop.D4) ⟨(gD g),Ib⟩ (((),(),b,()),(s,((),()),())) 2).2.1,(En.Spec.enc (S:=En.Dop.D4) ⟨(gD g),Ib⟩ (((),(),b,()),(s,((),()),())) 2).2.2):=fun b=>by kernel_rfl
  have h:=hvs (!decide (s.2.2.2.2.2.2.1=0))
  rw [he] at h
  have h:=(Prod.mk.inj h).1
  subst h
  rw [show a3.eval (.tmp 24)=a3.tmps.getD 24 undef from rfl,(h5 2 24 _ rfl rfl).2]
  simp only [SV.den]
 unfold Rp at hy
 split at hy
 ·rename_i hb
  unfold ax at hy
  split at hy
  case isFalse=>cases hy
  rename_i hin
  cases hy
  refine wp_cond_true (by rw [ht24,hb]) (wp_seq (wp_region_list (NZ hE (by kernel_rfl) rfl ((s6 f g) m s _) hkp hh3 fun a4 W4 hd4 hh4=>wp_ret ?_)))
  show Leaves _ _ _ _ _ _ _
  rw [hd4,hd3]
  exact bo hkp hres hβ hin hh4
 ·rename_i hb
  have hb:(!decide (s.2.2.2.2.2.2.1=0))=false:=by simpa using hb
  obtain ⟨v,hv,hy⟩:=Option.bind_eq_some_iff.1 hy
  unfold ax at hy
  split at hy
  case isFalse=>cases hy
  rename_i hin
  cases hy
  refine wp_cond_false (by rw [ht24,hb]) (wp_skip ?_)
  have h7:=h7 m s (!decide (s.2.2.2.2.2.2.1=0))
  rw [hv] at h7
  refine wp_seq (wp_region_list (NZ hE (by kernel_rfl) rfl h7 hkp hh3 fun a4 W4 hd4 hh4=>wp_ret ?_))
  show Leaves _ _ _ _ _ _ _
  rw [hd4,hd3]
  exact bo hkp hres hβ hin hh4
theorem L5 {f g:Nat} (hs5:W5 f g) (h0:W0 f g) (h7:W7 f g) (ok:AF En.Dop.D4 Tryz.prog 180 (lz g)=true) {m:MT} (hm:(wk f m).Holds Tryz.prog):(wc g m).Holds Tryz.prog:=by
 obtain ⟨hE,hbod,hokB,fn,hf,hb,hn,hr⟩:=Gf (p:=(lz g)) (ct:=[Tryz.CZ.c,wk f m]) Tryz.AH (A7 Tryz.CZ.holds (A7 hm CC)) ok
 have e1:Cg Tryz.prog 180=27:=by kernel_rfl
 have e2:D6 Tryz.prog 180=[.tmp 4]:=by kernel_rfl
 have hres:fn.results=#[.tmp 4]:=by rw [e2] at hr;rw [<-hr]
 refine ⟨hbod,hokB,fun h=>(by cases h),fun x y hxy w D β vs o n he hg hon hn' hiv=>?_⟩
 have hxy:Tryz.within m x.2.1=some y:=hxy
 have hkp:Bx En.Dop.D4 w (AJ o β) D:=⟨hiv,fun k hk=>⟨hg.C5 k hk,fun ⟨i,b,hi,hik⟩=>hg.off i b k hi hik hk⟩⟩
 have hlen:vs.length=2:=En.Spec.AZ he
 have hs0:=h0 m x.2.1 vs o n he
 have key: ∀ s:R3,Rp m s=some y->(lr (wE f g m) 3000 ⟨(az g),Ib⟩ [1,2] 1 2 999998 [[0,0,1,1,1],[0,1,1,1,1]] [.code [] (AR Tryz.prog 180)] ⟨Be 0 vs,o,n,27⟩).eval (fun _ _=>none)=some (((),(),()),(s,((),()),()))->Calls Tryz.prog 180 (AA β vs).toArray w (Dk (wc g m) y w D β o):=fun s hs hev=>
  VC.c6 (M:=0+3000) (bn:=1) hf hb (hn.trans e1) (by omega) hon hg (j8 hE (k1:=[.code [0,1,1,1] w4,.code [1,1,1,1] w5]) (by kernel_rfl) (by kernel_rfl) (by omega) (k0:=[.code [] (AR Tryz.prog 180)]) hev hkp (fun _ _ _ _ _ h=>h) hn' rfl (fun z hz=>by
   simp only [List.mem_cons,List.not_mem_nil,or_false] at hz
   subst hz;rfl) fun β2 a W hag hd hh=>fg hs5 h7 (x:=x) hE hkp hres (hag 0 (by omega)) hs hd hh)
 unfold Tryz.within at hxy
 split at hxy
 case isFalse=>cases hxy
 rename_i h1
 rw [if_pos h1] at hs0
 split at hxy
 ·rename_i h2
  rw [if_pos h2] at hs0
  obtain ⟨z,hz,hy⟩:=Option.bind_eq_some_iff.1 hxy
  rw [hz] at hs0
  exact key _ hy hs0
 ·rename_i h2
  rw [if_neg h2] at hs0
  exact key _ hxy hs0
theorem lv.holds {m:MT} (hm:(wk 234 m).Holds Tryz.prog):(wc 1000234 m).Holds Tryz.prog:=L5 (f:=234) (g:=1000234) (fun _ _=>by kernel_rfl) (fun _ _ _ _ _ h=>by cases h;kernel_rfl) (fun _ _ _=>by kernel_rfl) (by kernel_rfl) hm
theorem lx.holds {m:MT} (hm:(wk 254 m).Holds Tryz.prog):(wc 1000254 m).Holds Tryz.prog:=L5 (f:=254) (g:=1000254) (fun _ _=>by kernel_rfl) (fun _ _ _ _ _ h=>by cases h;kernel_rfl) (fun _ _ _=>by kernel_rfl) (by kernel_rfl) hm
theorem ly.holds {m:MT} (hm:(wk 263 m).Holds Tryz.prog):(wc 1000263 m).Holds Tryz.prog:=L5 (f:=263) (g:=1000263) (fun _ _=>by kernel_rfl) (fun _ _ _ _ _ h=>by cases h;kernel_rfl) (fun _ _ _=>by kernel_rfl) (by kernel_rfl) hm
theorem lu.holds {m:MT} (hm:(wk 181 m).Holds Tryz.prog):(wc 1000181 m).Holds Tryz.prog:=L5 (f:=181) (g:=1000181) (fun _ _=>by kernel_rfl) (fun _ _ _ _ _ h=>by cases h;kernel_rfl) (fun _ _ _=>by kernel_rfl) (by kernel_rfl) hm
end Go.Proofs
set_option maxRecDepth 100000
set_option maxHeartbeats 4000000
namespace Go.Proofs.Tryz
open Go Go.En
def LB.p:Ag:=⟨[],0,⟨[],[]⟩,⟨[.own 1 9],[]⟩,true,[],[]⟩
theorem LB.ok:AF Dop.D4 prog 262 LB.p=true:=by kernel_rfl
def Df.p:Ag:=⟨[],1,⟨[.al 0 0],[PS.b0]⟩,⟨[.fd (.int .i64)],[PS.b0]⟩,false,[],[]⟩
theorem Df.ok:AF Dop.D4 prog 205 Df.p=true:=by kernel_rfl
def C9.p:Ag:=⟨[],1,⟨[.al 0 0,.fn 1000234 [(0,0)]],[PS.b0]⟩,⟨[.fd (.int .i64)],[PS.b0]⟩,false,[],[]⟩
abbrev Dw.q3:Cut:=⟨[[0,0,0,0,1,0,1,1],[0,1,0,0,1,0,1,1],[2,0,0,1,0,1,1],[1,0],[0,1,1,1]],[0,3,10,11,12],1,⟨[.al 0 0,.fd (.int .i64),.own 1 9,.fd (.int .i64),.fd (.int .i64)],[PS.b0]⟩⟩
def Dw.p:Ag:=⟨[(3,Dw.q3)],1,⟨[.al 0 0],[PS.b0]⟩,⟨[.fd (.int .i64)],[PS.b0]⟩,false,[],[]⟩
theorem Dw.ok:AF Dop.D4 prog 234 Dw.p=true:=by kernel_rfl
def Jj.p:Ag:=⟨[],1,⟨[.al 0 0],[PS.b0]⟩,⟨[.fd (.int .i64)],[PS.b0]⟩,false,[],[]⟩
theorem Jj.ok:AF Dop.D4 prog 254 Jj.p=true:=by kernel_rfl
abbrev C1.q4:Cut:=⟨[[0,0,0,0,0,0,1,1,1,0,1],[0,1,0,0,0,0,1,1,1,0,1],[0,1,0,0,0,1,1,1,0,1],[1,1],[2,0,0,1,1,1,0,1],[1,0],[3,0,1]],[0,1,5],1,⟨[.al 0 0,.fd (.int .i64),.fd (.int .i64)],[PS.b0]⟩⟩
abbrev C1.q5:Cut:=⟨[[0,0,0,0,1,0,0,0,0,1,1,1,0,1],[0,1,0,0,1,0,0,0,0,1,1,1,0,1],[2,0,0,1,0,0,0,0,1,1,1,0,1],[1,2],[0,1,0,0,0,1,1,1,0,1],[1,1],[2,0,0,1,1,1,0,1],[1,0],[3,0,1]],[0,1,5,24,25,26],1,⟨[.al 0 0,.fd (.int .i64),.fd (.int .i64),.own 1 9,.fd (.int .i64),.fd (.int .i64)],[PS.b0]⟩⟩
def C1.p:Ag:=⟨[(4,C1.q4),(5,C1.q5)],1,⟨[.al 0 0,.fd (.int .i64)],[PS.b0]⟩,⟨[.fd (.int .i64)],[PS.b0]⟩,false,[],[]⟩
theorem C1.ok:AF Dop.D4 prog 261 C1.p=true:=by kernel_rfl
abbrev Dh.q3:Cut:=⟨[[0,0,0,0,1,0,1,1],[0,1,0,0,1,0,1,1],[2,0,0,1,0,1,1],[1,0],[0,1,1,1]],[0,3,13,14,15],1,⟨[.al 0 0,.fd (.int .i64),.own 1 9,.fd (.int .i64),.fd (.int .i64)],[PS.b0]⟩⟩
def Dh.p:Ag:=⟨[(3,Dh.q3)],1,⟨[.al 0 0],[PS.b0]⟩,⟨[.fd (.int .i64)],[PS.b0]⟩,false,[(19,⟨[(0,true),(1,false),(2,true),(3,true),(4,true),(5,true),(6,false),(7,true),(8,true),(9,true),(10,true),(11,false),(12,false),(13,true),(14,true)],[1000000],[0,1,3,7,15,31,63,127,7,263,775,1799,3847,8191,16383],false⟩)],[]⟩
theorem Dh.ok:AF Dop.D4 prog 263 Dh.p=true:=by kernel_rfl
def CF.p:Ag:=⟨[],1,⟨[.al 0 0,.fn 1000263 [(0,0)]],[PS.b0]⟩,⟨[.fd (.int .i64)],[PS.b0]⟩,false,[],[]⟩
def Jk.p:Ag:=⟨[],1,⟨[.al 0 0],[PS.b0]⟩,⟨[.fd (.int .i64)],[PS.b0]⟩,false,[(13,⟨[(0,true),(1,false),(2,true),(3,false),(4,true)],[5,1000004],[0,1,0,4,15,31],false⟩)],[]⟩
theorem Jk.ok:AF Dop.D4 prog 265 Jk.p=true:=by kernel_rfl
abbrev Dx.q2:Cut:=⟨[[0,0,0,0,0,0,1,1],[0,1,0,0,0,0,1,1],[0,1,0,0,0,1,1],[2,0,0,0,1,1],[1,0],[0,1,1,1]],[0,3],1,⟨[.al 0 0,.own 0 3],[PS.b0]⟩⟩
def Dx.p:Ag:=⟨[(2,Dx.q2)],1,⟨[.al 0 0],[PS.b0]⟩,⟨[.fd (.int .i64)],[PS.b0]⟩,false,[],[]⟩
theorem Dx.ok:AF Dop.D4 prog 266 Dx.p=true:=by kernel_rfl
abbrev Di.q1:Cut:=⟨[[0,0,0,0,0,0,1],[0,1,0,0,0,0,1],[0,1,0,0,0,1],[2,0,0,0,1],[1,0],[0,1,1]],[0,1],1,⟨[.al 0 0,.fd (.int .i64)],[PS.b0]⟩⟩
def Di.p:Ag:=⟨[(1,Di.q1)],1,⟨[.al 0 0,.fd (.int .i64)],[PS.b0]⟩,⟨[.fd (.int .i64)],[PS.b0]⟩,false,[(12,⟨[(0,true),(1,true),(2,true),(3,false),(4,true),(5,true),(6,true),(7,false),(8,true),(9,false),(10,false),(11,false),(12,true)],[],[0,1,3,7,0,16,48,112,240,511,1023,2047,4095],false⟩),(17,⟨[(0,true),(1,true),(2,true),(3,false),(4,true),(5,true),(6,true),(7,false),(8,true),(9,false),(10,false),(11,false),(12,true),(13,false),(14,true)],[15,1000006],[0,1,3,7,0,16,48,112,240,511,1023,2047,0,4096,16383,32767],false⟩)],[]⟩
theorem Di.ok:AF Dop.D4 prog 264 Di.p=true:=by kernel_rfl
def DA.p:Ag:=⟨[],1,⟨[.al 0 0,.fn 1000254 [(0,0)]],[PS.b0]⟩,⟨[.fd (.int .i64)],[PS.b0]⟩,false,[],[]⟩
abbrev Ar.T:Type:=(((Unit×Unit)×(PS×Unit))->Option ((Int×Unit)×(PS×Unit)))×(((Unit×Unit×Unit)×(PS×Unit))->Option ((Int×Unit)×(PS×Unit)))×(((Unit×Unit)×(PS×Unit))->Option ((Int×Unit)×(PS×Unit)))×(((Unit×Unit)×(PS×Unit))->Option ((Int×Unit)×(PS×Unit)))×(((Unit×Int×Unit)×(PS×Unit))->Option ((Int×Unit)×(PS×Unit)))×(((Unit×Unit)×(PS×Unit))->Option ((Int×Unit)×(PS×Unit)))×(((Unit×Unit×Unit)×(PS×Unit))->Option ((Int×Unit)×(PS×Unit)))×(((Unit×Unit)×(PS×Unit))->Option ((Int×Unit)×(PS×Unit)))×(((Unit×Unit)×(PS×Unit))->Option ((Int×Unit)×(PS×Unit)))×(((Unit×Int×Unit)×(PS×Unit))->Option ((Int×Unit)×(PS×Unit)))×(((Unit×Unit×Unit)×(PS×Unit))->Option ((Int×Unit)×(PS×Unit)))×Unit
end Go.Proofs.Tryz
set_option maxRecDepth 100000
set_option maxHeartbeats 4000000
namespace Go.Proofs.Tryz
open Go Go.En
def Je.p:Ag:=⟨[],1,⟨[.al 0 0],[PS.b0]⟩,⟨[.fd (.int .i64)],[PS.b0]⟩,false,[],[]⟩
theorem Je.ok:AF Dop.D4 prog 206 Je.p=true:=by kernel_rfl
def Jf.p:Ag:=⟨[],1,⟨[.al 0 0,.fd .str],[PS.b0]⟩,⟨[.fd (.int .i64)],[PS.b0]⟩,false,[],[]⟩
theorem Jf.ok:AF Dop.D4 prog 207 Jf.p=true:=by kernel_rfl
def Mv.p:Ag:=⟨[],1,⟨[.al 0 0],[PS.b0]⟩,⟨[.fd .bool],[PS.b0]⟩,false,[(1,⟨[(0,true),(1,false),(2,true),(3,true),(4,true),(5,true),(6,true),(7,true),(8,false),(9,true),(10,true),(11,true),(12,true),(13,false),(14,false),(15,true),(16,true),(17,true),(18,true),(19,true),(20,true),(21,false),(22,true),(23,true),(24,true),(25,false),(26,true),(27,false),(28,false),(29,false),(30,true),(31,true),(32,true)],[1000000],[0,1,3,7,15,31,63,127,255,511,31,1055,3103,7199,15391,32767,65535,131071,262143,524287,1048575,2097151,262143,4456447,12845055,29622271,63176703,134217727,268435455,536870911,1073741823,2147483647,4294967295],false⟩)],[]⟩
theorem Mv.ok:AF Dop.D4 prog 208 Mv.p=true:=by kernel_rfl
abbrev Gu.q4:Cut:=⟨[[0,0,0,0,0,0,1,1,1,1],[0,1,0,0,0,0,1,1,1,1],[0,1,0,0,0,1,1,1,1],[2,0,0,0,1,1,1,1],[1,0],[0,1,1,1,1,1]],[0,3,4],2,⟨[.al 0 0,.al 1 0,.own 0 3],[PS.b0,⟨1,56,[.st 5],false⟩]⟩⟩
def Gu.p:Ag:=⟨[(4,Gu.q4)],1,⟨[.al 0 0],[PS.b0]⟩,⟨[.fd (.int .i64)],[PS.b0]⟩,false,[],[]⟩
theorem Gu.ok:AF Dop.D4 prog 98 Gu.p=true:=by kernel_rfl
def GL.p:Ag:=⟨[],1,⟨[.al 0 0],[PS.b0]⟩,⟨[.fd (.int .i64)],[PS.b0]⟩,false,[],[]⟩
theorem GL.ok:AF Dop.D4 prog 145 GL.p=true:=by kernel_rfl
def C8.p:Ag:=⟨[],1,⟨[.al 0 0,.fn 1000181 [(0,0)]],[PS.b0]⟩,⟨[.fd (.int .i64)],[PS.b0]⟩,false,[],[]⟩
abbrev Co.mU:Cut:=⟨[[0,0,1,1,1],[0,1,1,1,1]],[0,3],2,⟨[.al 0 0,.al 1 0],[PS.b0,⟨1,56,[.st 5],false⟩]⟩⟩
abbrev Co.YT:Cut:=⟨[[0,1,1,1,1,0,1,1,1,1,1,0,0,1,1],[1,0],[0,1,1,1]],[0,3],2,⟨[.al 0 0,.al 1 0],[PS.b0,⟨1,56,[.st 5],false⟩]⟩⟩
abbrev Co.mT:Cut:=⟨[[0,0,1,1,1,0,1,1,1,1,1,1,1,1,1,1,1,1,1,1,1,1,1,1,1,1,1,1,1,1,1,0,0,1,1],[0,1,1,1,1,0,1,1,1,1,1,1,1,1,1,1,1,1,1,1,1,1,1,1,1,1,1,1,1,1,1,0,0,1,1],[1,0],[0,1,1,1]],[0,3,4],2,⟨[.al 0 0,.al 1 0,.fd (.int .i64)],[PS.b0,⟨1,56,[.st 5],false⟩]⟩⟩
def Co.p:Ag:=⟨[(64,Co.mU),(13,Co.YT),(53,Co.mT)],1,⟨[.al 0 0],[PS.b0]⟩,⟨[.fd (.int .i64)],[PS.b0]⟩,false,[],[]⟩
theorem Co.ok:AF Dop.D4 prog 181 Co.p=true:=by kernel_rfl
abbrev G8.T:Type:=(((Unit×Unit)×(PS×Unit))->Option ((Int×Unit)×(PS×Unit)))×(((Unit×Unit)×(PS×Unit))->Option ((Int×Unit)×(PS×Unit)))×(((Unit×Unit×Unit)×(PS×Unit))->Option ((Int×Unit)×(PS×Unit)))×(((Unit×Unit)×(PS×Unit))->Option ((Int×Unit)×(PS×Unit)))×Unit
abbrev IT.q7:Cut:=⟨[[0,0,0,0,0,0,1,1,1,1,0,1,0,1,1],[0,1,0,0,0,0,1,1,1,1,0,1,0,1,1],[0,1,0,0,0,1,1,1,1,0,1,0,1,1],[2,0,0,0,1,1,1,1,0,1,0,1,1],[1,0],[0,1,1,1,1,1,0,1,0,1,1],[0,1,1,1]],[0,3,4],2,⟨[.al 0 0,.al 1 0,.own 0 3],[PS.b0,⟨1,56,[.st 5],false⟩]⟩⟩
abbrev IT.jF:Cut:=⟨[[0,0,0,0,0,0,1,0,1,0,1,1,1,1,1],[0,1,0,0,0,0,1,0,1,0,1,1,1,1,1],[0,1,0,0,0,1,0,1,0,1,1,1,1,1],[2,0,0,0,1,0,1,0,1,1,1,1,1],[1,2],[0,1,1,0,1,0,1,1,1,1,1],[0,1,1,1,1,1,1]],[0,3,7],2,⟨[.al 0 0,.al 1 0,.own 0 3],[PS.b0,⟨1,56,[.st 5],false⟩]⟩⟩
def IT.p:Ag:=⟨[(7,IT.q7),(21,IT.jF)],1,⟨[.al 0 0],[PS.b0]⟩,⟨[.fd (.int .i64)],[PS.b0]⟩,false,[(2,⟨[(0,true),(1,false),(2,true),(3,true),(4,true),(5,true),(6,false),(7,true),(8,true),(9,true),(10,true),(11,false),(12,false),(13,true),(14,true),(15,true),(16,true),(17,true),(18,true),(19,false),(20,true),(21,true),(22,true),(23,false),(24,true),(25,false),(26,false),(27,false),(28,true),(29,true)],[1000000],[0,1,3,7,15,31,63,127,7,263,775,1799,3847,8191,16383,32767,65535,131071,262143,524287,65535,1114111,3211263,7405567,15794175,33554431,67108863,134217727,268435455,536870911],false⟩),(18,⟨[(0,true),(1,false),(2,true),(3,false),(4,true),(5,false),(6,true),(7,false),(8,true)],[9,1000003],[0,1,0,4,0,16,51,115,255,511],false⟩)],[]⟩
theorem IT.ok:AF Dop.D4 prog 46 IT.p=true:=by kernel_rfl
abbrev m20.q3:Cut:=⟨[[0,0,0,0,0,1,0,1,1],[0,1,0,0,0,1,0,1,1],[0,1,0,0,1,0,1,1],[2,0,0,1,0,1,1],[1,0],[0,1,1,1]],[2,5,6],2,⟨[.al 0 0,.al 1 0,.fd (.int .i64)],[⟨0,41,[.own 5 56,.own 6 93,.fd (.int .i64)],false⟩,PS.b1]⟩⟩
abbrev m20.q7:Cut:=⟨[[0,0,0,0,0,0,1,1,1,1],[0,1,0,0,0,0,1,1,1,1],[0,1,0,0,0,1,1,1,1],[2,0,0,0,1,1,1,1],[1,2],[0,1,1,1,1,1]],[2,5,7],2,⟨[.al 0 0,.al 1 0,.own 0 3],[⟨0,41,[.own 5 56,.own 6 93,.fd (.int .i64)],false⟩,PS.b1]⟩⟩
def m20.p:Ag:=⟨[(3,m20.q3),(7,m20.q7)],0,⟨[.fd (.sl 4)],[]⟩,⟨[.st 7,.fd (.int .i64),.fd (.int .i64)],[]⟩,false,[(11,⟨[(0,true),(1,true),(2,true),(3,true),(4,false),(5,true),(6,true),(7,true),(8,false),(9,false),(10,true),(11,true)],[1000002],[0,0,2,6,14,0,32,96,224,1,543,2047],false⟩)],[]⟩
theorem m20.ok:AF Dop.D4 prog 20 m20.p=true:=by kernel_rfl
def VL.p:Ag:=⟨[],0,⟨[.fd .str],[]⟩,⟨[.st 7,.fd (.int .i64),.fd (.int .i64)],[]⟩,false,[],[]⟩
theorem VL.ok:AF Dop.D4 prog 41 VL.p=true:=by kernel_rfl
end Go.Proofs.Tryz
