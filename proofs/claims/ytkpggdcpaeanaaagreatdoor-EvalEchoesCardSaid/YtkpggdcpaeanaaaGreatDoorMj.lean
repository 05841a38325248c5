/- What the boxes of some types hold: as one, with names of the parts. Written by a program. -/
import Derived.Test.YtkpggdcpaeanaaaGreatDoorMi
import Derived.Test.YtkpggdcpaeanaaaGreatDoorLb
import Derived.Test.YtkpggdcpaeanaaaGreatDoorMh
set_option linter.all false
namespace Go.Proofs
open Go Go.En
abbrev PS:Type:=List (En.Dop.Tok)×Int×List (En.Dop.AR)×List (En.Dop.HN)×Int×Int×Int×Int×Unit
abbrev PS.l (k:PS):List (En.Dop.Tok):=k.1
abbrev PS.at_ (k:PS):Int:=k.2.1
abbrev PS.UG (k:PS) (v:Int):PS:=(k.1,v,k.2.2)
abbrev PS.nodes (k:PS):List (En.Dop.AR):=k.2.2.1
abbrev PS.E9 (k:PS) (v:List (En.Dop.AR)):PS:=(k.1,k.2.1,v,k.2.2.2)
abbrev PS.types (k:PS):List (En.Dop.HN):=k.2.2.2.1
abbrev PS.UI (k:PS) (v:List (En.Dop.HN)):PS:=(k.1,k.2.1,k.2.2.1,v,k.2.2.2.2)
abbrev PS.top (k:PS):Int:=k.2.2.2.2.1
abbrev PS.deep (k:PS):Int:=k.2.2.2.2.2.1
abbrev PS.e (k:PS):Int:=k.2.2.2.2.2.2.1
abbrev PS.X8 (k:PS) (v:Int):PS:=(k.1,k.2.1,k.2.2.1,k.2.2.2.1,k.2.2.2.2.1,k.2.2.2.2.2.1,v,k.2.2.2.2.2.2.2)
abbrev PS.when (k:PS):Int:=k.2.2.2.2.2.2.2.1
abbrev PS.FY (k:PS) (v:Int):PS:=(k.1,k.2.1,k.2.2.1,k.2.2.2.1,k.2.2.2.2.1,k.2.2.2.2.2.1,k.2.2.2.2.2.2.1,v,k.2.2.2.2.2.2.2.2)
abbrev PS.b0:En.Ge:=⟨0,91,[.fd (.sl 4),.st 0,.own 5 56,.own 6 93,.st 0,.st 0,.fd (.int .i64),.st 0],false⟩
abbrev PS.b1:En.Ge:=⟨1,91,[.fd (.sl 4),.st 0,.own 5 56,.own 6 93,.st 0,.st 0,.fd (.int .i64),.st 0],false⟩
end Go.Proofs
/- Functions of the seat, lifted: plan, model, contract, equations. Written by a program (Lift) that ran the layer's evaluation; Lean checks each line. -/
set_option maxRecDepth 100000
set_option maxHeartbeats 4000000
namespace Go.Proofs.Tryz
open Go Go.En
def Kv.p:Ai:=⟨[],1,⟨[.al 0 0],[PS.b0]⟩,⟨[.fd (.int .i64)],[PS.b0]⟩,false,[(3,⟨[(0,true),(1,true),(2,true),(3,false),(4,true),(5,true),(6,true),(7,false),(8,false),(9,true),(10,false),(11,false),(12,false)],[13],[0,1,3,7,0,16,48,112,240,496,1023,2047,0,8191],false⟩)],[]⟩
noncomputable def Kv.E:Env Dop.D4:=BC prog 89 tb [] Kv.p
theorem Kv.ok:AG Dop.D4 prog 89 Kv.p=true:=by kernel_rfl
noncomputable def Kv.c:CC Dop.D4:=⟨89,Kv.p.bn,Kv.p.sp,Kv.p.rs,Kv.p.flat,.opt (Kv.E.run 3000 Kv.p.sp)⟩
theorem Kv.holds:Kv.c.Holds prog:=E4 3000 AH CJ Kv.ok
def Eo.p:Ai:=⟨[],1,⟨[.al 0 0],[PS.b0]⟩,⟨[.st 4],[PS.b0]⟩,false,[(1,⟨[(0,true),(1,true),(2,true),(3,false),(4,true),(5,true),(6,true),(7,true),(8,true),(9,false),(10,true),(11,true),(12,true),(13,false),(14,false),(15,true),(16,true)],[],[0,1,3,7,15,31,63,127,255,511,63,1087,3135,7231,15423,32767,65535],false⟩),(3,⟨[(0,true),(1,true),(2,true),(3,false),(4,true),(5,true),(6,true),(7,false),(8,false),(9,false)],[10],[0,1,3,7,0,16,48,112,255,511,1023],false⟩)],[]⟩
noncomputable def Eo.E:Env Dop.D4:=BC prog 45 tb [Kv.c] Eo.p
theorem Eo.ok:AG Dop.D4 prog 45 Eo.p=true:=by kernel_rfl
noncomputable def Eo.c:CC Dop.D4:=⟨45,Eo.p.bn,Eo.p.sp,Eo.p.rs,Eo.p.flat,.opt (Eo.E.run 3000 Eo.p.sp)⟩
theorem Eo.holds:Eo.c.Holds prog:=E4 3000 AH (A6 Kv.holds CJ) Eo.ok
def Fc.p:Ai:=⟨[],0,⟨[.fd (.int .i64),.fd (.int .i64)],[]⟩,⟨[.st 5],[]⟩,true,[],[]⟩
noncomputable def Fc.E:Env Dop.D4:=BC prog 90 tb [] Fc.p
theorem Fc.ok:AG Dop.D4 prog 90 Fc.p=true:=by kernel_rfl
noncomputable def Fc.c:CC Dop.D4:=⟨90,Fc.p.bn,Fc.p.sp,Fc.p.rs,Fc.p.flat,.opt (Fc.E.run 3000 Fc.p.sp)⟩
theorem Fc.holds:Fc.c.Holds prog:=E4 3000 AH CJ Fc.ok
def Mz.p:Ai:=⟨[],1,⟨[.al 0 0,.fd .str],[PS.b0]⟩,⟨[.fd .bool],[PS.b0]⟩,false,[],[]⟩
theorem Mz.ok:AG Dop.D4 prog 91 Mz.p=true:=by kernel_rfl
def Cx.p:Ai:=⟨[],1,⟨[.al 0 0,.fd .str],[PS.b0]⟩,⟨[.fd .bool],[PS.b0]⟩,false,[],[]⟩
theorem Cx.ok:AG Dop.D4 prog 94 Cx.p=true:=by kernel_rfl
def Cd.p:Ai:=⟨[],1,⟨[.al 0 0,.fd (.int .i64)],[PS.b0]⟩,⟨[],[PS.b0]⟩,false,[],[]⟩
noncomputable def Cd.E:Env Dop.D4:=BC prog 142 tb [Eo.c] Cd.p
theorem Cd.ok:AG Dop.D4 prog 142 Cd.p=true:=by kernel_rfl
noncomputable def Cd.c:CC Dop.D4:=⟨142,Cd.p.bn,Cd.p.sp,Cd.p.rs,Cd.p.flat,.opt (Cd.E.run 3000 Cd.p.sp)⟩
theorem Cd.holds:Cd.c.Holds prog:=E4 3000 AH (A6 Eo.holds CJ) Cd.ok
noncomputable def Cd (e:Int) (k0:PS):Option (Unit×(PS×Unit)):=Cd.E.run 3000 Cd.p.sp (((),e,()),(k0,()))
def DN.p:Ai:=⟨[],1,⟨[.al 0 0,.fd .str],[PS.b0]⟩,⟨[],[PS.b0]⟩,false,[],[]⟩
theorem DN.ok:AG Dop.D4 prog 92 DN.p=true:=by kernel_rfl
def IJ.p:Ai:=⟨[],1,⟨[.al 0 0,.fd (.int .i64)],[PS.b0]⟩,⟨[.st 4],[PS.b0]⟩,false,[],[]⟩
theorem IJ.ok:AG Dop.D4 prog 93 IJ.p=true:=by kernel_rfl
abbrev Dq.q2:Cut:=⟨[[0,0,0,0,1,0,1],[0,1,0,0,1,0,1],[2,0,0,1,0,1],[1,0],[0,1,1]],[0,3,7,8],1,⟨[.fd (.sl 6),.al 0 0,.fd (.int .i64),.fd (.int .i64)],[⟨0,93,[.st 6],false⟩]⟩⟩
def Dq.p:Ai:=⟨[(2,Dq.q2)],0,⟨[.fd (.sl 6),.st 6],[]⟩,⟨[.fd (.int .i64)],[]⟩,true,[(4,⟨[(0,false),(1,true),(2,true),(3,false),(4,false),(5,true)],[],[0,0,0,6,14,31],false⟩)],[]⟩
theorem Dq.ok:AG Dop.D4 prog 179 Dq.p=true:=by kernel_rfl
def Jb.p:Ai:=⟨[],1,⟨[.al 0 0,.st 6],[PS.b0]⟩,⟨[.fd (.int .i64)],[PS.b0]⟩,false,[(1,⟨[(0,true),(1,true),(2,true),(3,true),(4,false),(5,false),(6,false),(7,true)],[],[0,1,3,7,15,0,63,127],true⟩),(7,⟨[(0,true),(1,true),(2,true),(3,true),(4,true),(5,false),(6,false),(7,false)],[8,9,10,11,12],[0,0,2,6,14,30,0,64,254,511,1023,2047,4095],false⟩)],[]⟩
theorem Jb.ok:AG Dop.D4 prog 144 Jb.p=true:=by kernel_rfl
abbrev DM.aV:Cut:=⟨[[0,0,0,0,0,0,1,1,1],[0,1,0,0,0,0,1,1,1],[0,1,0,0,0,1,1,1],[2,0,0,0,1,1,1],[1,1],[0,1,1,1,1]],[0,3],1,⟨[.al 0 0,.fd (.int .i64)],[PS.b0]⟩⟩
def DM.p:Ai:=⟨[(11,DM.aV)],1,⟨[.al 0 0],[PS.b0]⟩,⟨[.fd (.int .i64)],[PS.b0]⟩,false,[],[]⟩
theorem DM.ok:AG Dop.D4 prog 143 DM.p=true:=by kernel_rfl
def Qw.p:Ai:=⟨[],1,⟨[.al 0 0],[PS.b0]⟩,⟨[.st 5],[PS.b0]⟩,false,[],[]⟩
theorem Qw.ok:AG Dop.D4 prog 95 Qw.p=true:=by kernel_rfl
def Pn.p:Ai:=⟨[],1,⟨[.al 0 0,.fd (.int .i64)],[PS.b0]⟩,⟨[.fd (.int .i64)],[PS.b0]⟩,false,[],[]⟩
theorem Pn.ok:AG Dop.D4 prog 96 Pn.p=true:=by kernel_rfl
def Cy.p:Ai:=⟨[],1,⟨[.al 0 0,.st 5],[PS.b0]⟩,⟨[.fd (.int .i64)],[PS.b0]⟩,false,[(5,⟨[(0,true),(1,true),(2,true),(3,true),(4,true),(5,false),(6,false),(7,false)],[8,9,10,11,12],[0,0,2,6,14,30,0,64,254,511,1023,2047,4095],false⟩)],[]⟩
noncomputable def Cy.E:Env Dop.D4:=BC prog 97 tb [Cd.c] Cy.p
theorem Cy.ok:AG Dop.D4 prog 97 Cy.p=true:=by kernel_rfl
noncomputable def Cy.c:CC Dop.D4:=⟨97,Cy.p.bn,Cy.p.sp,Cy.p.rs,Cy.p.flat,.opt (Cy.E.run 3000 Cy.p.sp)⟩
theorem Cy.holds:Cy.c.Holds prog:=E4 3000 AH (A6 Cd.holds CJ) Cy.ok
def HH.p:Ai:=⟨[],1,⟨[.al 0 0,.fd (.int .i64)],[PS.b0]⟩,⟨[.fd (.int .i64)],[PS.b0]⟩,false,[],[]⟩
noncomputable def HH.E:Env Dop.D4:=BC prog 100 tb [] HH.p
theorem HH.ok:AG Dop.D4 prog 100 HH.p=true:=by kernel_rfl
noncomputable def HH.c:CC Dop.D4:=⟨100,HH.p.bn,HH.p.sp,HH.p.rs,HH.p.flat,.opt (HH.E.run 3000 HH.p.sp)⟩
theorem HH.holds:HH.c.Holds prog:=E4 3000 AH CJ HH.ok
def Mm.p:Ai:=⟨[],0,⟨[.st 7,.fd (.int .i64)],[]⟩,⟨[.st 5],[]⟩,true,[],[]⟩
theorem Mm.ok:AG Dop.D4 prog 120 Mm.p=true:=by kernel_rfl
abbrev Ga.q3:Cut:=⟨[[0,0,0,0,1,0,1,1],[0,1,0,0,1,0,1,1],[2,0,0,1,0,1,1],[1,0],[0,1,1,1]],[1,2,5,9,10],1,⟨[.fd (.int .i64),.al 0 0,.own 0 3,.fd (.int .i64),.fd (.int .i64)],[⟨0,41,[.st 7],false⟩]⟩⟩
def Ga.p:Ai:=⟨[(3,Ga.q3)],0,⟨[.st 7,.fd (.int .i64)],[]⟩,⟨[.own 0 3],[]⟩,true,[],[]⟩
theorem Ga.ok:AG Dop.D4 prog 73 Ga.p=true:=by kernel_rfl
def Mt.p:Ai:=⟨[],1,⟨[.al 0 0],[PS.b0]⟩,⟨[.fd .bool],[PS.b0]⟩,false,[],[]⟩
theorem Mt.ok:AG Dop.D4 prog 204 Mt.p=true:=by kernel_rfl
abbrev J0.q2:Cut:=⟨[[0,0,0,0,0,0,1,1,0,1],[0,1,0,0,0,0,1,1,0,1],[0,1,0,0,0,1,1,0,1],[2,0,0,0,1,1,0,1],[1,0],[0,1,1,1,0,1],[3,0,1]],[0,4],0,⟨[.fd .str,.fd (.int .i64)],[]⟩⟩
def J0.p:Ai:=⟨[(2,J0.q2)],0,⟨[.fd .str],[]⟩,⟨[.fd (.int .i64),.fd .bool],[]⟩,true,[],[]⟩
theorem J0.ok:AG Dop.D4 prog 43 J0.p=true:=by kernel_rfl
def Uw.p:Ai:=⟨[],0,⟨[.fd (.int .u8)],[]⟩,⟨[.fd .bool],[]⟩,true,[],[]⟩
theorem Uw.ok:AG Dop.D4 prog 82 Uw.p=true:=by kernel_rfl
def Ux.p:Ai:=⟨[],0,⟨[.fd (.int .u8)],[]⟩,⟨[.fd .bool],[]⟩,true,[],[]⟩
theorem Ux.ok:AG Dop.D4 prog 85 Ux.p=true:=by kernel_rfl
abbrev Jk.q2:Cut:=⟨[[0,0,0,0,0,0,1,1],[0,1,0,0,0,0,1,1],[0,1,0,0,0,1,1],[2,0,0,0,1,1],[1,0],[0,1,1,1]],[0,3],0,⟨[.fd .str,.fd (.int .i64)],[]⟩⟩
def Jk.p:Ai:=⟨[(2,Jk.q2)],0,⟨[.fd .str],[]⟩,⟨[.fd (.int .i64)],[]⟩,true,[],[]⟩
theorem Jk.ok:AG Dop.D4 prog 83 Jk.p=true:=by kernel_rfl
def XK.p:Ai:=⟨[],0,⟨[.fd .str],[]⟩,⟨[.fd .bool],[]⟩,true,[],[]⟩
theorem XK.ok:AG Dop.D4 prog 84 XK.p=true:=by kernel_rfl
def Se.p:Ai:=⟨[],1,⟨[.fd (.int .i64),.fd (.int .i64),.fd (.int .i64),.al 0 0],[⟨0,9,[.st 1],false⟩]⟩,⟨[.st 4,.fd (.int .i64)],[⟨0,9,[.fd .str],false⟩]⟩,true,[],[]⟩
theorem Se.ok:AG Dop.D4 prog 81 Se.p=true:=by kernel_rfl
abbrev J2.q9:Cut:=⟨[[0,0,0,0,1,0,1,1,1,1,1],[0,1,0,0,1,0,1,1,1,1,1],[2,0,0,1,0,1,1,1,1,1],[1,0],[0,1,1,1,1,1,1]],[0,5,6,34,35],0,⟨[.fd .str,.fd (.int .i64),.fd (.int .i64),.fd (.int .i64),.fd (.int .i64)],[]⟩⟩
def J2.p:Ai:=⟨[(9,J2.q9)],0,⟨[.fd .str],[]⟩,⟨[.fd (.int .i64),.fd .bool],[]⟩,true,[(6,⟨[(0,true),(2,true)],[1,3],[0,1,0,7],false⟩)],[]⟩
theorem J2.ok:AG Dop.D4 prog 86 J2.p=true:=by kernel_rfl
def XL.p:Ai:=⟨[],0,⟨[.fd .str],[]⟩,⟨[.fd (.int .i64),.fd (.int .i64)],[]⟩,true,[],[]⟩
theorem XL.ok:AG Dop.D4 prog 87 XL.p=true:=by kernel_rfl
def Mn.p:Ai:=⟨[],0,⟨[],[]⟩,⟨[.own 1 9],[]⟩,true,[],[]⟩
theorem Mn.ok:AG Dop.D4 prog 141 Mn.p=true:=by kernel_rfl
abbrev J3.q2:Cut:=⟨[[0,0,0,0,1,0,1],[0,1,0,0,1,0,1],[2,0,0,1,0,1],[1,0],[0,1,1]],[0,5,6,7],0,⟨[.fd .str,.own 1 9,.fd (.int .i64),.fd (.int .i64)],[]⟩⟩
def J3.p:Ai:=⟨[(2,J3.q2)],0,⟨[.fd .str],[]⟩,⟨[.fd .str],[]⟩,true,[],[]⟩
theorem J3.ok:AG Dop.D4 prog 88 J3.p=true:=by kernel_rfl
def XI.p:Ai:=⟨[],0,⟨[.fd .str],[]⟩,⟨[.st 4,.fd (.int .i64)],[]⟩,true,[],[]⟩
theorem XI.ok:AG Dop.D4 prog 44 XI.p=true:=by kernel_rfl
abbrev m19.q5:Cut:=⟨[[0,0,0,0,0,1,1,1,1],[0,1,0,0,0,1,1,1,1],[1,1],[2,0,0,1,1,1,1],[1,0]],[0,5,6],0,⟨[.fd .str,.own 4 38,.fd (.int .i64)],[]⟩⟩
def m19.p:Ai:=⟨[(5,m19.q5)],0,⟨[.fd .str],[]⟩,⟨[.own 4 38,.fd (.int .i64),.fd (.int .i64)],[]⟩,true,[],[]⟩
theorem m19.ok:AG Dop.D4 prog 19 m19.p=true:=by kernel_rfl
end Go.Proofs.Tryz
/- Functions of the seat, lifted: plan, model, contract, equations. Written by a program (Lift) that ran the layer's evaluation; Lean checks each line. -/
set_option maxRecDepth 100000
set_option maxHeartbeats 4000000
namespace Go.Proofs.Tryz
open Go Go.En
def My.p:Ai:=⟨[],1,⟨[.al 0 0],[⟨0,91,[.fd (.sl 4),.st 0,.hd,.hd,.st 0,.st 0,.fd (.int .i64),.st 0],false⟩]⟩,⟨[.fd (.int .i64)],[⟨0,91,[.fd (.sl 4),.fd (.int .i64),.hd,.hd,.fd (.int .i64),.fd (.int .i64),.fd (.int .i64),.fd (.int .i64)],false⟩]⟩,false,[(3,⟨[(0,true),(1,true),(2,true),(3,false),(4,true),(5,true),(6,true),(7,false),(8,false),(9,true),(10,false),(11,false),(12,false)],[13],[0,1,3,7,0,16,48,112,240,496,1023,2047,0,8191],false⟩)],[]⟩
theorem My.ok:AG Dop.D4 prog 89 My.p=true:=by kernel_rfl
def Mw.p:Ai:=⟨[],1,⟨[.al 0 0],[⟨0,91,[.fd (.sl 4),.st 0,.hd,.hd,.st 0,.st 0,.fd (.int .i64),.st 0],false⟩]⟩,⟨[.st 4],[⟨0,91,[.fd (.sl 4),.fd (.int .i64),.hd,.hd,.fd (.int .i64),.fd (.int .i64),.fd (.int .i64),.fd (.int .i64)],false⟩]⟩,false,[(1,⟨[(0,true),(1,true),(2,true),(3,false),(4,true),(5,true),(6,true),(7,true),(8,true),(9,false),(10,true),(11,true),(12,true),(13,false),(14,false),(15,true),(16,true)],[],[0,1,3,7,15,31,63,127,255,511,63,1087,3135,7231,15423,32767,65535],false⟩),(3,⟨[(0,true),(1,true),(2,true),(3,false),(4,true),(5,true),(6,true),(7,false),(8,false),(9,false)],[10],[0,1,3,7,0,16,48,112,255,511,1023],false⟩)],[]⟩
theorem Mw.ok:AG Dop.D4 prog 45 Mw.p=true:=by kernel_rfl
def Iy.p:Ai:=⟨[],1,⟨[.al 0 0,.fd .str],[⟨0,91,[.fd (.sl 4),.st 0,.hd,.hd,.st 0,.st 0,.fd (.int .i64),.st 0],false⟩]⟩,⟨[.fd .bool],[⟨0,91,[.fd (.sl 4),.fd (.int .i64),.hd,.hd,.fd (.int .i64),.fd (.int .i64),.fd (.int .i64),.fd (.int .i64)],false⟩]⟩,false,[],[]⟩
theorem Iy.ok:AG Dop.D4 prog 91 Iy.p=true:=by kernel_rfl
def He.p:Ai:=⟨[],1,⟨[.al 0 0],[⟨0,91,[.fd (.sl 4),.st 0,.hd,.hd,.st 0,.st 0,.fd (.int .i64),.st 0],false⟩]⟩,⟨[.fd .bool],[⟨0,91,[.fd (.sl 4),.fd (.int .i64),.hd,.hd,.fd (.int .i64),.fd (.int .i64),.fd (.int .i64),.fd (.int .i64)],false⟩]⟩,false,[],[]⟩
theorem He.ok:AG Dop.D4 prog 204 He.p=true:=by kernel_rfl
end Go.Proofs.Tryz
/- parser.list: a range over slices.Backward, as a contract. -/
set_option maxRecDepth 100000
namespace Go.Proofs
open Go Go.En Go.RowKit
abbrev Sr:Ge:=⟨0,91,[.fd (.sl 4),.fd (.int .i64),.own 5 56,.own 6 93,.fd (.int .i64),.fd (.int .i64),.fd (.int .i64),.fd (.int .i64)],false⟩
def Tryz.Bq.p:Ai:=⟨[],1,⟨[.al 0 0,.fd (.sl 0)],[Sr]⟩,⟨[.fd (.int .i64)],[Sr]⟩,false,[(5,⟨[(0,true),(1,false),(2,true),(3,false),(4,true)],[5,1000008],[0,0,1,5,15,31],false⟩)],[(99,[])]⟩
noncomputable def Tryz.Bq.E:Env En.Dop.D4:=BC Tryz.prog 47 Tryz.tb [Tryz.HH.c,Tryz.Fc.c,Tryz.Cy.c] Tryz.Bq.p
theorem Tryz.Bq.ok:AG En.Dop.D4 Tryz.prog 47 Tryz.Bq.p=true:=by kernel_rfl
noncomputable def BG (body:Code) (a:List Nat):Code:=match HL body a with
 | some c=>c
 | none=>.skip
abbrev JB:En.Spec:=⟨[],[Sr,⟨1,89,[.al 0 0],false⟩,⟨2,3,[.fd (.int .i64)],false⟩]⟩
abbrev jF:En.Spec:=⟨[.al 1 0,.al 2 0,.fd (.int .i64)],[Sr,⟨1,89,[.al 0 0],false⟩,⟨2,3,[.fd (.int .i64)],false⟩]⟩
noncomputable def Tryz.Bq.step (x:Int) (y:En.Spec.D En.Dop.D4 JB):Option (En.Spec.D En.Dop.D4 JB):=
 (TH Tryz.Bq.E 3000 [1,0,1,0,1,1] (BG (AQ Tryz.prog 47) [1,0,1,0,1,1]) jF JB [2,5,7] 3 (((),(),x,()),y.2)).eval (fun _ _=>none)
noncomputable abbrev jH:Code:=BG (AQ Tryz.prog 47) [0,0,1,0,1,1]
noncomputable abbrev jo:Code:=BG (AQ Tryz.prog 47) [1,0,1,0,1,1]
noncomputable abbrev jI:Code:=BG (AQ Tryz.prog 47) [1,1,1]
noncomputable def Tryz.Bq.go:List Int->En.Spec.D En.Dop.D4 JB->Option (En.Spec.D En.Dop.D4 JB)
 | [],y=>some y
 | x::r,y=>(Tryz.Bq.step x y).bind (Tryz.Bq.go r)
theorem Tryz.Bq.Ik: ∀ (l r:List Int) (y:En.Spec.D En.Dop.D4 JB),Tryz.Bq.go (l++r) y=(Tryz.Bq.go l y).bind (Tryz.Bq.go r)
 | [],r,y=>rfl
 | x::l,r,y=>by
  simp only [List.cons_append,Tryz.Bq.go]
  cases Tryz.Bq.step x y with
  | none=>rfl
  | some z=>exact Tryz.Bq.Ik l r z
noncomputable def Tryz.Bq.R (x:En.Spec.D En.Dop.D4 Tryz.Bq.p.sp):Option (En.Spec.D En.Dop.D4 Tryz.Bq.p.rs):=
 match decide (x.1.2.1.length<9223372036854775807) with
 | true=>(Tryz.Bq.go x.1.2.1.reverse ((),(x.2.1,((),()),(-1,()),()))).bind fun y=>some ((y.2.2.2.1.1,()),(y.2.1,()))
 | false=>none
noncomputable def Tryz.Bq.c:CC En.Dop.D4:=⟨47,Tryz.Bq.p.bn,Tryz.Bq.p.sp,Tryz.Bq.p.rs,Tryz.Bq.p.flat,.opt Tryz.Bq.R⟩
noncomputable def ga (l:List Int) (x:En.Spec.D En.Dop.D4 ⟨[],[Sr]⟩):St En.Dop.D4:=match En.Spec.enc (S:=En.Dop.D4) ⟨[.al 0 0,.fd (.sl 0)],[Sr]⟩ (((),l,()),x.2) 1 with
 | (_,o,_)=>⟨[(0,.ptr 0 0),(1,.h 1),(2,.ptr 5 0),(4,.v (.int .i64 0)),(5,.ptr 6 0),(9,.h 1),(10,.fn 146 [.ptr 7 0])],(7,.AP 66 [.h 1])::(6,.AP 3 [.v (.int .i64 (-1))])::(5,.AP 89 [.ptr 0 0])::o,8,25⟩
theorem Tryz.Bq.part (l:List Int) (x:En.Spec.D En.Dop.D4 ⟨[],[Sr]⟩) (vs:List SV) (o:List (Nat×En.Own En.Dop.D4)) (n:Nat) (h:En.Spec.enc (S:=En.Dop.D4) ⟨[.al 0 0,.fd (.sl 0)],[Sr]⟩ (((),l,()),x.2) 1=(vs,o,n)):
  OR Tryz.Bq.E 3000 [.code [] (AQ Tryz.prog 47)] ⟨Bj 0 vs,o,n,25⟩=.ret ([.code [0,1,0,1,1] (.rangeFunc (.tmp 10) #[11,12] jH jo),.AP 0,.code [1,1,1] jI],ga l x):=by
 cases h
 kernel_rfl
noncomputable def X2:Oper:=match jH with
 | .region _ ⟨o::_⟩ _=>o
 | _=>default
theorem dQ:jH=.region 3 #[X2] false:=by kernel_rfl
theorem UE:X2.op=.assign (.tmp 12):=by kernel_rfl
theorem NP:X2.dst=some 7:=by kernel_rfl
theorem Sv:X2.guard=none:=by kernel_rfl
noncomputable def X3:Array Oper:=match jI with
 | .seq (.region _ o _) _=>o
 | _=>#[]
theorem dS:jI=.seq (.region 7 X3 false) .ret:=by kernel_rfl
theorem dR:HL (AQ Tryz.prog 47) [1,0,1,0,1,1]=some jo:=by kernel_rfl
theorem gw:NA (AQ Tryz.prog 47)=true:=by kernel_rfl
theorem TK (l:List Int):(bwd l).map Prod.snd=l.reverse:=by
 apply List.ext_getElem
 ·simp [bwd,upto]
 ·intro i h1 h2
  have h3:i<l.length:=by simpa using h2
  simp [bwd,upto,List.getElem_reverse,List.getElem?_eq_getElem (show l.length -1 -i<l.length by omega)]
theorem Vv (l:List Int):En.Dop.D4.flat 0 l=l.map fun n=>FC.int .i64 n:=by
 induction l with
 | nil=>rfl
 | cons x r ih=>exact congrArg (FC.int .i64 x::·) ih
theorem RE {w:World} {D:Nat->Prop} {l:List Int} {v:Value} (h:Ar En.Dop.D4 w D (.sl 0 l) v):(l=[]/\ ∃ a c,v=.slice a 0 c)\/ ∃ b off cap,v=.slice (some ⟨b,off,none⟩) l.length cap/\D b/\ ∀ j,j<l.length->w.cell? ⟨b,off+j,none⟩=some (.int .i64 (l[j]?.getD 0)):=by
 cases h with
 | nil σ a c=>exact .inl ⟨rfl,a,c,rfl⟩
 | sl σ l b off c vs hb hlc hc hv=>
  refine .inr ⟨b,off,c,rfl,hb,fun j hj=>?_⟩
  have hf:(En.Dop.D4.flat 0 l)[j]?=some (.int .i64 l[j]):=by rw [Vv];simp [hj]
  rw [hc j _ hf]
  have:=hv j _ hf
  cases hvj:vs j<;>rw [hvj] at this<;>cases this
  simp [hj]
theorem XE (l:List Int) (x:En.Spec.D En.Dop.D4 ⟨[],[Sr]⟩): ∃ ps,En.Spec.parse (S:=En.Dop.D4) ⟨[.al 1 0,.al 2 0],JB.bx⟩ true [.ptr 5 0,.ptr 6 0] (ga l x).o (Qd 1) 3=some ((((),(),()),(x.2.1,((),()),(-1,()),())),ps)/\lk ps.o 7=some (.AP 66 [.h 1])/\ps.bl=[]/\lk ps.m 1=some 5/\lk ps.m 2=some 6/\lk ps.m 0=some 0:=
 ⟨⟨(7,.AP 66 [.h 1])::(2,.sl 4 x.2.1.1)::(1,.sl 0 l)::[],[(2,6),(1,5),(0,0)],[],3⟩,by kernel_rfl,by kernel_rfl,by kernel_rfl,by kernel_rfl,by kernel_rfl,by kernel_rfl⟩
theorem cu (y:En.Spec.D En.Dop.D4 JB):OR Tryz.Bq.E 3000 [.ops X3 X3.toList] ⟨[(2,.ptr 1 0),(5,.ptr 2 0)],(JB.enc (S:=En.Dop.D4) y 3).2.1,(JB.enc (S:=En.Dop.D4) y 3).2.2,25⟩=
  .ret ([],⟨[(2,.ptr 1 0),(5,.ptr 2 0),(24,.v (.int .i64 y.2.2.2.1.1)),(4,.v (.int .i64 y.2.2.2.1.1))],(JB.enc (S:=En.Dop.D4) y 3).2.1,(JB.enc (S:=En.Dop.D4) y 3).2.2,25⟩):=by kernel_rfl
theorem cv (y:En.Spec.D En.Dop.D4 JB): ∃ ps,En.Spec.parse (S:=En.Dop.D4) ⟨[.fd (.int .i64)],[Sr]⟩ true [.v (.int .i64 y.2.2.2.1.1)] (JB.enc (S:=En.Dop.D4) y 3).2.1 (Qd 1) 1=some (((y.2.2.2.1.1,()),(y.2.1,())),ps)/\lk ps.m 0=some 0:=
 ⟨⟨(2,.AP 3 [.v (.int .i64 y.2.2.2.1.1)])::(1,.AP 89 [.ptr 0 0])::(3,.sl 4 y.2.1.1)::[],[(0,0)],[],1⟩,by kernel_rfl,by kernel_rfl⟩
end Go.Proofs
/- parser.list: its contract holds. -/
set_option maxRecDepth 100000
namespace Go.Proofs
open Go Go.En Go.RowKit
theorem jh:(Tryz.Bq.E).Ok Tryz.prog/\Br Tryz.prog 47=true/\Tryz.Bq.p.sp.okB Tryz.Bq.p.bn=true/\ ∃ fn,Tryz.prog.funcs[47]?=some fn/\fn.body=some (AQ Tryz.prog 47)/\fn.ntmps=25/\fn.results=#[.tmp 4]:=by
 obtain ⟨h1,h2,h3,fn,h4,h5,h6,h7⟩:=Gj (p:=Tryz.Bq.p) Tryz.AH (A6 Tryz.HH.holds (A6 Tryz.Fc.holds (A6 Tryz.Cy.holds CJ))) Tryz.Bq.ok
 have e1:Cl Tryz.prog 47=25:=by kernel_rfl
 have e2:EE Tryz.prog 47=[.tmp 4]:=by kernel_rfl
 refine ⟨h1,h2,h3,fn,h4,h5,h6.trans e1,?_⟩
 rw [e2] at h7
 rw [<-h7]
theorem Uv {l:Nat} {x:Int×Int} {W:World} {a:Act} {K:Act->World->Prop} (hsz:a.tmps.size=25)
  (h: ∀ a':Act,a'.defers=[]->a'.tmps.size=25->(∀ t,t≠7->t≠11->t≠12->a'.tmps.getD t undef=a.tmps.getD t undef)->a'.tmps.getD 7 undef=.int .i64 x.2->K a' W):
  jH.wpIn (Fence.wide.inRound l) 0 Tryz.prog (Exit.then K (fun _ _ _=>False)) { tmps:=(#[11,12].zip #[Value.int .i64 x.1,Value.int .i64 x.2]).foldl (fun t (p,v)=>t.setIfInBounds p v) a.tmps,defers:=[] } W:=by
 rw [dQ]
 refine FK (.inr ⟨⟨l,rfl⟩,fun ⟨_,_,h⟩=>h,fun j o ho=>?_⟩) ?_
 ·cases j with
  | zero=>simp at ho;subst ho;unfold Ev;rw [UE]
  | succ j=>simp at ho
 ·show wpList _ _ _ [X2] _ _
  unfold wpList
  rw [if_pos (by simp [Region.wanted,Sv])]
  refine .inl (An (v:=.int .i64 x.2) (w':=W) ?_ ?_)
  ·simp [execOp,UE,Act.eval,hsz]
  ·refine h _ rfl (by simp [Act.put,NP,hsz]) (fun t h1 h2 h3=>?_) ?_
   ·simp [Act.put,NP,Array.getD_eq_getD_getElem?,Array.getElem?_setIfInBounds,Ne.symm h1,Ne.symm h2,Ne.symm h3]
   ·simp [Act.put,NP,Array.getD_eq_getD_getElem?,Array.getElem?_setIfInBounds,hsz]
def ji (w0 W:World) (F D0 K:Nat->Prop) (β2:Nat->Nm) (y0:En.Spec.D En.Dop.D4 JB) (pre:List (Int×Int)) (W':World):Prop:=
 ∃ y,Tryz.Bq.go (pre.map Prod.snd) y0=some y/\Nq w0 W F D0 K JB 3 β2 W.heap.size y W'
theorem ZQ {w0 W W':World} {F D0 K:Nat->Prop} {β2:Nat->Nm} {y0 yq:En.Spec.D En.Dop.D4 JB} (hkp:Bz En.Dop.D4 w0 F D0) {xs pre rest:List (Int×Int)} {x:Int×Int} (hgo:Tryz.Bq.go (xs.map Prod.snd) y0=some yq) (hxs:xs=pre++x::rest) (hI:ji w0 W F D0 K β2 y0 pre W')
  {a':Act} (hd:a'.defers=[]) (hsz:a'.tmps.size=25) (h2:a'.tmps.getD 2 undef=.pointer (some ⟨(β2 1).AP,0,none⟩)) (h5:a'.tmps.getD 5 undef=.pointer (some ⟨(β2 2).AP,0,none⟩)) (h7:a'.tmps.getD 7 undef=.int .i64 x.2) (l:Nat):
  jo.wpIn (Fence.wide.inRound l) 0 Tryz.prog (L0 W.heap.size (ji w0 W F D0 K β2 y0) (fun _ _ _=>False) (pre++[x]) W') a' W':=by
 obtain ⟨y,hy,D,β,vs,o,n,e1,e2,e3,e4,e5,e6,e7,e8,e9⟩:=hI
 obtain ⟨hE,_,_,_⟩:=jh
 have hst: ∃ y',Tryz.Bq.step x.2 y=some y':=by
  rw [hxs,List.map_append,Tryz.Bq.Ik,hy] at hgo
  simp only [Option.bind_some,List.map_cons,Tryz.Bq.go] at hgo
  cases hs:Tryz.Bq.step x.2 y with
  | none=>rw [hs] at hgo;cases hgo
  | some y'=>exact ⟨y',rfl⟩
 obtain ⟨y',hy'⟩:=hst
 have he:jF.enc (S:=En.Dop.D4) (((),(),x.2,()),y.2) 3=([.ptr 1 0,.ptr 2 0,.v (.int .i64 x.2)],o,n):=by
  have h:jF.enc (S:=En.Dop.D4) (((),(),x.2,()),y.2) 3=([.ptr 1 0,.ptr 2 0,.v (.int .i64 x.2)],(JB.enc (S:=En.Dop.D4) y 3).2.1,(JB.enc (S:=En.Dop.D4) y 3).2.2):=by kernel_rfl
  rw [h,e1]
 refine TJ hE (f0:=3000) (adr:=[1,0,1,0,1,1]) dR gw (sp:=jF) (qe:=JB) (ts:=[2,5,7]) (bn:=3) (by kernel_rfl) (x:=(((),(),x.2,()),y.2)) (y:=y') hy' he e3.base ?_ e4 (e3.inv hkp) hd hsz ?_ (fun _ _ _ h=>h) (fun ⟨_,_,h⟩=>h) ?_ l
 ·simp only [BR,SV.on,and_true]
  omega
 ·intro j t v hj hv
  match j with
  | 0=>
   simp only [List.getElem?_cons_zero,Option.some.injEq] at hj hv;subst hj;subst hv
   exact ⟨by show 2<25;omega,by rw [h2,<- e2 1 (by omega)];simp only [SV.den]⟩
  | 1=>
   simp only [List.getElem?_cons_succ,List.getElem?_cons_zero,Option.some.injEq] at hj hv;subst hj;subst hv
   exact ⟨by show 5<25;omega,by rw [h5,<- e2 2 (by omega)];simp only [SV.den]⟩
  | 2=>
   simp only [List.getElem?_cons_succ,List.getElem?_cons_zero,Option.some.injEq] at hj hv;subst hj;subst hv
   exact ⟨by show 7<25;omega,by rw [h7];simp only [SV.den]⟩
  | j+3=>simp at hj
 ·intro a'' W'' D' β' vs' o' n' f1 f2 f3 f4
  obtain ⟨g1,g2⟩:=Nq.next e3 e2 e5 e6 e7 e8 e9 f1 f2 f3 f4
  refine ⟨g1,y',?_,g2⟩
  rw [List.map_append,Tryz.Bq.Ik,hy]
  simp only [Option.bind_some,List.map_cons,List.map_nil,Tryz.Bq.go,hy']
theorem ZR {w:World} {D:Nat->Prop} {β:Nat->Nm} {o0:List (Nat×En.Own En.Dop.D4)} (hkp:Bz En.Dop.D4 w (AJ o0 β) D) {fn:Func} (hres:fn.results=#[.tmp 4]) {W W':World} {K:Nat->Prop} {β2:Nat->Nm} {yq:En.Spec.D En.Dop.D4 JB} (hβ:β2 0=β 0) (hm:Nq w W (AJ o0 β) D K JB 3 β2 W.heap.size yq W')
  {a:Act} (hd:a.defers=[]) (hsz:a.tmps.size=25) (h2:a.tmps.getD 2 undef=.pointer (some ⟨(β2 1).AP,0,none⟩)) (h5:a.tmps.getD 5 undef=.pointer (some ⟨(β2 2).AP,0,none⟩)) (hK:W'.heap[W.heap.size]?=some (.deferred (some []))):
  jI.wpIn Fence.wide 0 Tryz.prog (LD (bodyPostM Fence.wide 2 Tryz.prog fn (Dk (S:=En.Dop.D4) Tryz.Bq.c ((yq.2.2.2.1.1,()),(yq.2.1,())) w D β o0))) { a with defers:={ target:=.collected W.heap.size,args:=#[] }::a.defers } W':=by
 obtain ⟨D',β',vs,o,n,e1,e2,e3,e4,e5,e6,e7,e8,e9⟩:=hm
 obtain ⟨hE,_,_,_⟩:=jh
 refine wpIn_wide.2 ?_
 rw [dS]
 refine wp_seq (wp_region_list ?_)
 have hkp':=e3.keeps hkp
 have ho:o=(JB.enc (S:=En.Dop.D4) yq 3).2.1:=by rw [e1]
 have hn:n=(JB.enc (S:=En.Dop.D4) yq 3).2.2:=by rw [e1]
 have hv:=Jp hE (w0:=W') (F:=AJ o β') (D0:=D') (bn:=3) (β0:=β') (f0:=3000) (k0:=[.ops X3 X3.toList]) (s0:=⟨[(2,.ptr 1 0),(5,.ptr 2 0)],o,n,25⟩)
  (Q:=fun e a' w'=>match e with
   | .normal=>a'.defers=[]/\a'.tmps.getD 4 undef=.int .i64 yq.2.2.2.1.1/\ ∃ D2 β3,(∀ i,i<3->β3 i=β' i)/\GH W' (AJ o β') D' D2 o (· <n) β3 w'
   | _=>False) hkp' (fun _ _ _ _ _ h=>h) e4 rfl (fun z hz=>by
    simp only [List.mem_cons,List.not_mem_nil,or_false] at hz
    subst hz;trivial) (by
   subst ho;subst hn
   rw [cu]
   intro _ _ D2 β3 a' w' hag hg
   refine ⟨hg.defers,by rw [hg.tmps 4 (.v (.int .i64 yq.2.2.2.1.1)) rfl];simp only [SV.den],D2,β3,hag,hg.gh⟩)
 have hl:=hv D' β' { a with defers:=[] } W' (fun _ _=>rfl) ⟨rfl,hsz,fun t x hx=>?_,fun t x hx=>?_,e3.base⟩
 ·simp only [List.map_cons,List.map_nil,Bd.it,after] at hl
  have hl2:=DG (ds:=[{ target:=.collected W.heap.size,args:=#[] }]) (Q':=Exit.then (Code.ret.wp Tryz.prog (LD (bodyPostM Fence.wide 2 Tryz.prog fn (Dk (S:=En.Dop.D4) Tryz.Bq.c ((yq.2.2.2.1.1,()),(yq.2.1,())) w D β o0)))) (LD (bodyPostM Fence.wide 2 Tryz.prog fn (Dk (S:=En.Dop.D4) Tryz.Bq.c ((yq.2.2.2.1.1,()),(yq.2.1,())) w D β o0)))) ?_ (fun _ _ _ h=>h.elim) (fun ⟨_,_,h⟩=>h) hl
  ·rw [hd];exact hl2
  ·rintro a' w' ⟨hd',hr,D2,β3,hag,hgh⟩
   refine wp_ret ?_
   obtain ⟨g1,g2⟩:=Nq.next e3 e2 e5 e6 e7 e8 e9 e1 hag hgh e4
   have hK':=(g1 W.heap.size (.inl rfl)).trans hK
   show LeavesInM _ _ _ _ _ _ _ _ _
   rw [hd']
   refine ⟨by simp,.inl ⟨_,_,rfl,run_takeDeferred hK',?_⟩⟩
   refine ⟨.int .i64 yq.2.2.2.1.1,by rw [<-hr];exact results_tmp hres _ _ _,?_⟩
   obtain ⟨D4,β4,vs4,o4,n4,f1,f2,f3,f4,_⟩:=g2.UK (.deferred none)
   rcases he:En.Spec.enc (S:=En.Dop.D4) ⟨[.fd (.int .i64)],[Sr]⟩ ((yq.2.2.2.1.1,()),(yq.2.1,())) 1 with ⟨rs,o5,n5⟩
   have ho4:o4=(JB.enc (S:=En.Dop.D4) yq 3).2.1:=by rw [f1]
   obtain ⟨ps,hps,hm0⟩:=cv yq
   rw [<-ho4] at hps
   obtain ⟨β5,b1,b2,b3,b4,b5,_⟩:=En.Spec.B4 f3 hps (by kernel_rfl) he
   have hrs:rs=[.v (.int .i64 yq.2.2.2.1.1)]:=by
    have h:En.Spec.enc (S:=En.Dop.D4) ⟨[.fd (.int .i64)],[Sr]⟩ ((yq.2.2.2.1.1,()),(yq.2.1,())) 1=([.v (.int .i64 yq.2.2.2.1.1)],(En.Spec.enc (S:=En.Dop.D4) ⟨[.fd (.int .i64)],[Sr]⟩ ((yq.2.2.2.1.1,()),(yq.2.1,())) 1).2.1,(En.Spec.enc (S:=En.Dop.D4) ⟨[.fd (.int .i64)],[Sr]⟩ ((yq.2.2.2.1.1,()),(yq.2.1,())) 1).2.2):=by kernel_rfl
    rw [he] at h
    exact (Prod.mk.inj h).1
   refine ⟨_,β5,rs,o5,n5,he,?_,fun i hi=>?_,b2,b4,b5⟩
   ·rw [hrs];simp only [At,SV.den]
   ·have hi0:i=0:=by have:i<1:=hi;omega
    subst hi0
    rw [b1 0 (by omega) 0 hm0,f2 0 (by omega),hβ]
 all_goals
  simp only [AI] at hx
  split at hx
  ·rename_i he;subst he;cases hx
   first
    | (refine ⟨by show 2<25;omega,?_⟩;simp only [SV.on];omega)
    | (rw [show ({ a with defers:=[] }:Act).tmps.getD 2 undef=a.tmps.getD 2 undef from rfl,h2,<- e2 1 (by omega)];simp only [SV.den])
  ·split at hx
   ·rename_i he;subst he;cases hx
    first
     | (refine ⟨by show 5<25;omega,?_⟩;simp only [SV.on];omega)
     | (rw [show ({ a with defers:=[] }:Act).tmps.getD 5 undef=a.tmps.getD 5 undef from rfl,h5,<- e2 2 (by omega)];simp only [SV.den])
   ·simp [AO] at hx
theorem Ry (args:Array Value) (w:World):(callFunc 146 args).run Tryz.prog w=.ok (.enter 146 args) w:=Ck (by kernel_rfl)
theorem Tryz.Bq.holds:Tryz.Bq.c.Holds Tryz.prog:=by
 obtain ⟨hE,hbod,hokB,fn,hf,hb,hn',hres⟩:=jh
 refine ⟨hbod,hokB,fun h=>(by cases h),fun x y hxy w D β vs o n he hg hon hn hiv=>?_⟩
 have hxy:Tryz.Bq.R x=some y:=hxy
 unfold Tryz.Bq.R at hxy
 split at hxy
 case h_2=>cases hxy
 rename_i hl
 have hl:=of_decide_eq_true hl
 obtain ⟨yq,hgo,hy⟩:=Option.bind_eq_some_iff.1 hxy
 cases hy
 have hkp:Bz En.Dop.D4 w (AJ o β) D:=⟨hiv,fun k hk=>⟨hg.C8 k hk,fun ⟨i,b,hi,hik⟩=>hg.off i b k hi hik hk⟩⟩
 have hx:x=(((),x.1.2.1,()),x.2):=rfl
 have he':En.Spec.enc (S:=En.Dop.D4) ⟨[.al 0 0,.fd (.sl 0)],[Sr]⟩ (((),x.1.2.1,()),x.2) 1=(vs,o,n):=he
 have hlen:vs.length=2:=En.Spec.Aa he
 refine VC.SD (M:=0+3000) (bn:=1) hf hb hn' (by omega) hon hg ?_
 refine Jp hE hkp (fun _ _ _ _ _ h=>h) (k0:=[.code [] (AQ Tryz.prog 47)]) (s0:=⟨Bj 0 vs,o,n,25⟩) hn rfl (fun z hz=>by
  simp only [List.mem_cons,List.not_mem_nil,or_false] at hz
  subst hz;rfl) ?_
 rw [Tryz.Bq.part x.1.2.1 ((),x.2) vs o n he']
 intro _ _ D1 β1 a W hβ1 hg1
 simp only [List.map_cons,List.map_nil,Bd.it,after]
 obtain ⟨ps,hps,hp7,hpbl,hm1,hm2,hm0⟩:=XE x.1.2.1 ((),x.2)
 rcases hq:JB.enc (S:=En.Dop.D4) ((),(x.2.1,((),()),(-1,()),())) 3 with ⟨vq,o2,n2⟩
 have he2:En.Spec.enc (S:=En.Dop.D4) ⟨[.al 1 0,.al 2 0],JB.bx⟩ (((),(),()),(x.2.1,((),()),(-1,()),())) 3=([.ptr 1 0,.ptr 2 0],o2,n2):=by
  have h:En.Spec.enc (S:=En.Dop.D4) ⟨[.al 1 0,.al 2 0],JB.bx⟩ (((),(),()),(x.2.1,((),()),(-1,()),())) 3=([.ptr 1 0,.ptr 2 0],(JB.enc (S:=En.Dop.D4) ((),(x.2.1,((),()),(-1,()),())) 3).2.1,(JB.enc (S:=En.Dop.D4) ((),(x.2.1,((),()),(-1,()),())) 3).2.2):=by kernel_rfl
  rw [h,hq]
 obtain ⟨β2,b1,b2,_,_,b5,b6,b7,_,_⟩:=En.Spec.B4 hg1.gh hps (by kernel_rfl) he2
 have r1:=b1 1 (by omega) 5 hm1
 have r2:=b1 2 (by omega) 6 hm2
 have r0:=b1 0 (by omega) 0 hm0
 obtain ⟨Bs,hBs,hBh⟩:=hg1.gh.own 7 _ (show lk (ga x.1.2.1 ((),x.2)).o 7=some (.AP 66 [.h 1]) from rfl)
 obtain ⟨_,hrow⟩:=hg1.gh.own 1 _ (show lk (ga x.1.2.1 ((),x.2)).o 1=some (.sl 0 x.1.2.1) by kernel_rfl)
 have Az:(β1 7).AP=Bs:=by unfold Nm.AP;rw [hBs];rfl
 have hBs':Bs<W.heap.size:=(Array.getElem?_eq_some_iff.1 hBh).1
 have hgd:=b2.fI (r:=Bs) (fun i b hi hk=>b6 7 _ i b Bs hp7 (by rw [hpbl];simp) hi (Nm.Ew hBs) hk) hBs' (hg1.gh.fresh 7 _ Bs (show lk (ga x.1.2.1 ((),x.2)).o 7=some (.AP 66 [.h 1]) from rfl) (Nm.Ew hBs))
 have hrd: ∀ W':World,(∀ k,(FN D1 β1 ps.bl k\/k=Bs)->W'.heap[k]?=W.heap[k]?)->af Bs x.1.2.1 W':=fun W' hs=>by
  have hc:W'.cell? ⟨Bs,0,none⟩=some ((β1 1).sl):=by
   rw [World.cell?_of_block (w:=W) (hs Bs (.inr rfl))]
   unfold World.cell?
   rw [hBh]
   simp [AA,SV.den]
  rcases RE hrow with ⟨h1,a',c,h2⟩|⟨b,off,cap,h2,h3,h4⟩
  ·exact .inl ⟨h1,a',c,by rw [hc,h2]⟩
  ·exact .inr ⟨b,off,cap,by rw [hc,h2],fun j hj=>by rw [World.cell?_of_block (w:=W) (hs b (.inl (.inl h3)))];exact h4 j hj⟩
 have t2:a.tmps.getD 2 undef=.pointer (some ⟨(β2 1).AP,0,none⟩):=by rw [hg1.tmps 2 (.ptr 5 0) rfl,r1];simp only [SV.den]
 have t5:a.tmps.getD 5 undef=.pointer (some ⟨(β2 2).AP,0,none⟩):=by rw [hg1.tmps 5 (.ptr 6 0) rfl,r2];simp only [SV.den]
 have hsz:a.tmps.size=25:=hg1.size
 have hgo':Tryz.Bq.go ((bwd x.1.2.1).map Prod.snd) ((),(x.2.1,((),()),(-1,()),()))=some yq:=by rw [TK];exact hgo
 refine wpIn_wide.2 (wpIn_wide.1 (KW (gf:=146) (lb:=#[.pointer (some ⟨Bs,0,none⟩)]) ?_ Ry (Tryz.TF Bs x.1.2.1 hl) (fun _=>rfl)
  (ji w W (AJ o β) D (fun k=>FN D1 β1 ps.bl k\/k=Bs) β2 ((),(x.2.1,((),()),(-1,()),()))) (fun _ _ _=>False) (fun pre W' ob ⟨y,h1,h2⟩ hlt=>⟨y,h1,Nq.YJ y W' ob h2 hlt⟩) (fun _ _ _ _ h _=>h)
  (fun pre W' ⟨_,_,_,_,_,_,_,_,_,_,_,_,_,_,_,h9⟩=>hrd W' h9) (fun ob ob'=>⟨_,rfl,Nq.first hq hgd b5 (fun _ h=>h) ob ob'⟩)
  (fun x' a'=>a'.defers=[]/\a'.tmps.size=25/\a'.tmps.getD 2 undef=.pointer (some ⟨(β2 1).AP,0,none⟩)/\a'.tmps.getD 5 undef=.pointer (some ⟨(β2 2).AP,0,none⟩)/\a'.tmps.getD 7 undef=.int .i64 x'.2) ?_ ?_ ?_ ?_))
 ·rw [show a.eval (.tmp 10)=a.tmps.getD 10 undef from rfl,hg1.tmps 10 (.fn 146 [.ptr 7 0]) rfl]
  simp only [SV.den,AA,EY (show Nat.ble 1000000 146=false from rfl),Az]
 ·intro l x' W' K hK
  exact Uv hsz fun a' h1 h2 h3 h4=>hK a' ⟨h1,h2,by rw [h3 2 (by decide) (by decide) (by decide)];exact t2,by rw [h3 5 (by decide) (by decide) (by decide)];exact t5,h4⟩
 ·rintro pre x' rest a' W' hxs _ hI ⟨h1,h2,h3,h4,h5⟩
  exact ZQ hkp hgo' hxs hI h1 h2 h3 h4 h5 _
 ·rintro W' ⟨y,h1,h2⟩ hK
  rw [hgo'] at h1
  cases h1
  simp only [after,Exit.inBlock]
  exact ZR hkp hres (by rw [r0];exact hβ1 0 (by omega)) h2 hg1.defers hsz t2 t5 hK
 ·exact fun _ _ _ _ h=>h.elim
end Go.Proofs
/- parser.within (a deferred call), at each of the functions that it is called with: contracts. -/
set_option maxRecDepth 100000
namespace Go.Proofs
open Go Go.En Go.RowKit
abbrev Nl:Ge:=⟨0,91,[.fd (.sl 4),.st 0,.own 5 56,.own 6 93,.st 0,.st 0,.fd (.int .i64),.st 0],false⟩
abbrev IZ:List Ge:=[Nl,⟨1,89,[.al 0 0],false⟩]
abbrev Ri:Type:=List En.Dop.Tok×Int×List En.Dop.AR×List En.Dop.HN×Int×Int×Int×Int×Unit
def sD (s:Ri) (d:Int):Ri:=(s.1,s.2.1,s.2.2.1,s.2.2.2.1,s.2.2.2.2.1,d,s.2.2.2.2.2.2.1,s.2.2.2.2.2.2.2.1,())
abbrev MT:Type:=En.Spec.D En.Dop.D4 ⟨[.al 0 0],[Nl]⟩->Option (En.Spec.D En.Dop.D4 ⟨[.fd (.int .i64)],[Nl]⟩)
def Z0 (r:Int) (s:Ri):Option (En.Spec.D En.Dop.D4 ⟨[.fd (.int .i64)],[Nl]⟩):=
 if Ap (s.2.2.2.2.2.1 -1)=true then some ((r,()),(sD s (s.2.2.2.2.2.1 -1),())) else none
def RX (m:MT) (s:Ri):Option (En.Spec.D En.Dop.D4 ⟨[.fd (.int .i64)],[Nl]⟩):=
 if (!decide (s.2.2.2.2.2.2.1=0))=true then Z0 (-1) s else (m (((),()),(s,()))).bind fun v=>Z0 v.1.1 v.2.1
noncomputable def Tryz.within (m:MT) (s:Ri):Option (En.Spec.D En.Dop.D4 ⟨[.fd (.int .i64)],[Nl]⟩):=
 if Ap (s.2.2.2.2.2.1+1)=true then
  if decide (100<s.2.2.2.2.2.1+1)=true then
   (Tryz.Cd 6 (s.1,s.2.1,s.2.2.1,s.2.2.2.1,s.2.2.2.2.1,s.2.2.2.2.2.1+1,s.2.2.2.2.2.2)).bind fun y=>RX m y.2.1
  else RX m (sD s (s.2.2.2.2.2.1+1))
 else none
noncomputable abbrev w4:Code:=BG (AQ Tryz.prog 180) [0,1,1,1]
noncomputable abbrev w5:Code:=BG (AQ Tryz.prog 180) [1,1,1,1]
noncomputable def I2 (c:Code):Array Oper:=match c with
 | .region _ o _=>o
 | _=>#[]
noncomputable def jL:Array Oper:=I2 w4
noncomputable def kx:Array Oper:=I2 (BG w5 [0,0])
noncomputable def ky:Array Oper:=I2 (BG w5 [0,0,1,0])
noncomputable def kz:Array Oper:=I2 (BG w5 [0,1])
noncomputable def im:Array Oper:=I2 (AQ Tryz.prog 203)
theorem ij:w4=.region 4 jL false:=by kernel_rfl
theorem il:w5=.seq (.seq (.region 5 kx false) (.cond (.tmp 24) (.seq (.region 6 ky false) .ret) .skip)) (.seq (.region 7 kz false) .ret):=by kernel_rfl
theorem eY:AQ Tryz.prog 203=.region 0 im false:=by kernel_rfl
noncomputable def fB:Oper:=(jL.getD 0 default)
noncomputable def ik:Oper:=(jL.getD 1 default)
theorem eX:jL.toList=[fB,ik]:=by kernel_rfl
theorem eV:fB.op=.makeFunc (.func 203) #[] #[.tmp 2]/\fB.dst=some 19/\fB.guard=none:=⟨by kernel_rfl,by kernel_rfl,by kernel_rfl⟩
theorem eW:ik.op=.defer { callee:=.value (.tmp 19),args:=#[],argTypes:=#[] }/\ik.dst=none/\ik.guard=none:=⟨by kernel_rfl,by kernel_rfl,by kernel_rfl⟩
def Zz.p:Ai:=⟨[],2,⟨[.al 1 0],IZ⟩,⟨[],IZ⟩,false,[],[]⟩
noncomputable def Zz.E:Env En.Dop.D4:=BC Tryz.prog 203 Tryz.tb [] Zz.p
theorem Zz.ok:AG En.Dop.D4 Tryz.prog 203 Zz.p=true:=by kernel_rfl
theorem Zz.jK (s:Ri):(NV Zz.E 3000 im ⟨[.al 1 0],IZ⟩ ⟨[],IZ⟩ [0] [] 2 (((),()),(s,((),()),()))).eval (fun _ _=>none)=
  if Ap (s.2.2.2.2.2.1 -1)=true then some ((),(sD s (s.2.2.2.2.2.1 -1),((),()),())) else none:=by kernel_rfl
theorem Rz (args:Array Value) (w:World):(callFunc 203 args).run Tryz.prog w=.ok (.enter 203 args) w:=Ck (by kernel_rfl)
theorem Z1 (r:Int) (s:Ri): ∃ ps,En.Spec.parse (S:=En.Dop.D4) ⟨[.fd (.int .i64)],[Nl]⟩ true [.v (.int .i64 r)] (En.Spec.enc (S:=En.Dop.D4) ⟨[],IZ⟩ ((),(s,((),()),())) 2).2.1 (Qd 1) 1=some (((r,()),(s,())),ps)/\lk ps.m 0=some 0:=
 ⟨⟨(1,.AP 89 [.ptr 0 0])::(2,.sl 4 s.1)::[],[(0,0)],[],1⟩,by kernel_rfl,by kernel_rfl⟩
theorem ab {f:Nat} {sp:En.Spec} {out:Out (sp.D En.Dop.D4) (En.Spec.D En.Dop.D4 ⟨[.fd (.int .i64)],[Nl]⟩)} {w:World} {D:Nat->Prop} {β:Nat->Nm} {o0:List (Nat×En.Own En.Dop.D4)} (hkp:Bz En.Dop.D4 w (AJ o0 β) D) {fn:Func} (hres:fn.results=#[.tmp 4]) {β2:Nat->Nm} (hβ:β2 0=β 0)
  {r:Int} {s:Ri} (hd:Ap (s.2.2.2.2.2.1 -1)=true) {a:Act} {W:World}
  (hh:L6 En.Dop.D4 w (AJ o0 β) D ⟨[.fd (.int .i64)],IZ⟩ [4] 2 β2 27 ((r,()),(s,((),()),())) a W):
  Leaves Tryz.prog fn a.tmps (Dk (S:=En.Dop.D4) ⟨f,1,sp,⟨[.fd (.int .i64)],[Nl]⟩,false,out⟩ ((r,()),(sD s (s.2.2.2.2.2.1 -1),())) w D β o0) [{ target:=.fn (.func 203) #[.pointer (some ⟨(β2 1).AP,0,none⟩)],args:=#[] }] .returning W:=by
 obtain ⟨hE,_,_,fn7,hf7,hb7,hn7,hr7⟩:=Gj (p:=Zz.p) (ct:=[]) Tryz.AH CJ Zz.ok
 have hn7:fn7.ntmps=8:=hn7
 obtain ⟨⟨D1,β1,vs,o,n,he,h1,h2,h3,h4,h5⟩,hsz⟩:=hh
 have hr:a.tmps.getD 4 undef=.int .i64 r:=by
  have hvs:vs=[.v (.int .i64 r)]:=by
   have h:En.Spec.enc (S:=En.Dop.D4) ⟨[.fd (.int .i64)],IZ⟩ ((r,()),(s,((),()),())) 2=([.v (.int .i64 r)],(En.Spec.enc (S:=En.Dop.D4) ⟨[.fd (.int .i64)],IZ⟩ ((r,()),(s,((),()),())) 2).2.1,(En.Spec.enc (S:=En.Dop.D4) ⟨[.fd (.int .i64)],IZ⟩ ((r,()),(s,((),()),())) 2).2.2):=by kernel_rfl
   rw [he] at h
   exact (Prod.mk.inj h).1
  subst hvs
  have:=(h5 0 4 _ rfl rfl).2
  rw [this];simp only [SV.den]
 have he7:En.Spec.enc (S:=En.Dop.D4) ⟨[.al 1 0],IZ⟩ (((),()),(s,((),()),())) 2=([.ptr 1 0],o,n):=by
  have h:En.Spec.enc (S:=En.Dop.D4) ⟨[.al 1 0],IZ⟩ (((),()),(s,((),()),())) 2=([.ptr 1 0],(En.Spec.enc (S:=En.Dop.D4) ⟨[.fd (.int .i64)],IZ⟩ ((r,()),(s,((),()),())) 2).2.1,(En.Spec.enc (S:=En.Dop.D4) ⟨[.fd (.int .i64)],IZ⟩ ((r,()),(s,((),()),())) 2).2.2):=by kernel_rfl
  rw [h,he]
 have hseg:=Zz.jK s
 rw [if_pos hd] at hseg
 refine leaves_cons (by simp) (by rw [invoke];exact Rz _ _) ?_
 refine (callsD_of_wp (R:=fun e w'=>(∃ v,e=.returned v)/\ ∃ a',L6 En.Dop.D4 w (AJ o0 β) D ⟨[],IZ⟩ [] 2 β2 8 ((),(sD s (s.2.2.2.2.2.1 -1),((),()),())) a' w') hf7 hb7 ?_).mono ?_
 ·rw [eY]
  refine wp_region_list (NW hE (by kernel_rfl) rfl hseg hkp ⟨⟨D1,β1,_,o,n,he7,h1,h2,?_,h4,?_⟩,?_⟩ ?_)
  ·simp only [BR,SV.on,and_true];omega
  ·intro j t v hj hv
   cases j with
   | zero=>
    simp only [List.getElem?_cons_zero,Option.some.injEq] at hj hv;subst hj;subst hv
    refine ⟨by show 0<8;omega,?_⟩
    rw [Array.getD_eq_getD_getElem?,Array.getElem?_append_left (by simp)]
    simp [SV.den,h1 1 (by omega)]
   | succ j=>simp at hj
  ·simp [hn7];rfl
  ·intro a' W' hd' hh'
   refine ⟨hd',.tuple #[],results_none (by rw [<-Array.toList_inj];rw [hr7];kernel_rfl) _ _ _,⟨_,rfl⟩,a',hh'⟩
 ·rintro e u w' ⟨rfl,⟨v,rfl⟩,a',⟨D2,β3,vs2,o2,n2,k1,k2,k3,k4,k5,_⟩,_⟩
  show ∃ v,(results fn a.tmps).run Tryz.prog w'=.ok v w'/\_
  refine ⟨.int .i64 r,by rw [<-hr];exact results_tmp hres _ _ _,?_⟩
  rcases he8:En.Spec.enc (S:=En.Dop.D4) ⟨[.fd (.int .i64)],[Nl]⟩ ((r,()),(sD s (s.2.2.2.2.2.1 -1),())) 1 with ⟨rs,o5,n5⟩
  obtain ⟨ps,hps,hm0⟩:=Z1 r (sD s (s.2.2.2.2.2.1 -1))
  have ho2:o2=(En.Spec.enc (S:=En.Dop.D4) ⟨[],IZ⟩ ((),(sD s (s.2.2.2.2.2.1 -1),((),()),())) 2).2.1:=by rw [k1]
  rw [<-ho2] at hps
  obtain ⟨β5,b1,b2,b3,b4,b5,_⟩:=En.Spec.B4 k3 hps (by kernel_rfl) he8
  have hrs:rs=[.v (.int .i64 r)]:=by
   have h: ∀ s':Ri,En.Spec.enc (S:=En.Dop.D4) ⟨[.fd (.int .i64)],[Nl]⟩ ((r,()),(s',())) 1=([.v (.int .i64 r)],(En.Spec.enc (S:=En.Dop.D4) ⟨[.fd (.int .i64)],[Nl]⟩ ((r,()),(s',())) 1).2.1,(En.Spec.enc (S:=En.Dop.D4) ⟨[.fd (.int .i64)],[Nl]⟩ ((r,()),(s',())) 1).2.2):=fun s'=>by kernel_rfl
   have h:=h (sD s (s.2.2.2.2.2.1 -1))
   rw [he8] at h
   exact (Prod.mk.inj h).1
  refine ⟨_,β5,rs,o5,n5,he8,?_,fun i hi=>?_,b2,b4,b5⟩
  ·rw [hrs];simp only [At,SV.den]
  ·have hi0:i=0:=by have:i<1:=hi;omega
   subst hi0
   rw [b1 0 (by omega) 0 hm0,k2 0 (by omega),hβ]
abbrev Z2 (g:Nat):List Cq:=[.fn g [(0,0)],.al 1 0]
abbrev fC (g:Nat):List Cq:=[.fn g [(0,0)],.al 1 0,.fd .bool]
def kA (g:Nat):Ai:=⟨[(999998,⟨[[0,0,1,1,1],[0,1,1,1,1]],[1,2],2,⟨(Z2 g),IZ⟩⟩)],1,⟨[.al 0 0,.fn g [(0,0)]],[Nl]⟩,⟨[.fd (.int .i64)],[Nl]⟩,false,[],[]⟩
noncomputable def wk (f:Nat) (m:MT):CC En.Dop.D4:=⟨f,1,⟨[.al 0 0],[Nl]⟩,⟨[.fd (.int .i64)],[Nl]⟩,false,.opt m⟩
noncomputable def wE (f g:Nat) (m:MT):Env En.Dop.D4:=BC Tryz.prog 180 Tryz.tb [Tryz.Cd.c,wk f m] (kA g)
noncomputable def wc (g:Nat) (m:MT):CC En.Dop.D4:=⟨180,1,⟨[.al 0 0,.fn g [(0,0)]],[Nl]⟩,⟨[.fd (.int .i64)],[Nl]⟩,false,.opt fun x=>Tryz.within m x.2.1⟩
def W5 (f g:Nat):Prop:= ∀ (m:MT) (s:Ri),(NV (wE f g m) 3000 kx ⟨(Z2 g),IZ⟩ ⟨(fC g),IZ⟩ [1,2] [1,2,24] 2 (((),(),()),(s,((),()),()))).eval (fun _ _=>none)=some (((),(),(!decide (s.2.2.2.2.2.2.1=0)),()),(s,((),()),()))
theorem s6 (f g:Nat) (m:MT) (s:Ri) (b:Bool):(NV (wE f g m) 3000 ky ⟨(fC g),IZ⟩ ⟨[.fd (.int .i64)],IZ⟩ [1,2,24] [4] 2 (((),(),b,()),(s,((),()),()))).eval (fun _ _=>none)=some ((-1,()),(s,((),()),())):=by kernel_rfl
def W7 (f g:Nat):Prop:= ∀ (m:MT) (s:Ri) (b:Bool),(NV (wE f g m) 3000 kz ⟨(fC g),IZ⟩ ⟨[.fd (.int .i64)],IZ⟩ [1,2,24] [4] 2 (((),(),b,()),(s,((),()),()))).eval (fun _ _=>none)=(m (((),()),(s,()))).bind fun v=>some ((v.1.1,()),(v.2.1,((),()),()))
def W0 (f g:Nat):Prop:= ∀ (m:MT) (s:Ri) (vs:List SV) (o:List (Nat×En.Own En.Dop.D4)) (n:Nat) (h:En.Spec.enc (S:=En.Dop.D4) ⟨[.al 0 0,.fn g [(0,0)]],[Nl]⟩ (((),(),()),(s,())) 1=(vs,o,n)),
  (j5 (wE f g m) 3000 ⟨(Z2 g),IZ⟩ [1,2] 1 2 999998 [[0,0,1,1,1],[0,1,1,1,1]] [.code [] (AQ Tryz.prog 180)] ⟨Bj 0 vs,o,n,27⟩).eval (fun _ _=>none)=
  if Ap (s.2.2.2.2.2.1+1)=true then
   if decide (100<s.2.2.2.2.2.1+1)=true then
    (Tryz.Cd 6 (s.1,s.2.1,s.2.2.1,s.2.2.2.1,s.2.2.2.2.1,s.2.2.2.2.2.1+1,s.2.2.2.2.2.2)).bind fun y=>some (((),(),()),(y.2.1,((),()),()))
   else some (((),(),()),(sD s (s.2.2.2.2.2.1+1),((),()),()))
  else none
theorem eZ {f g:Nat} (h5:W5 f g) (h7:W7 f g) {m:MT} (hE:(wE f g m).Ok Tryz.prog) {x:En.Spec.D En.Dop.D4 ⟨[.al 0 0,.fn g [(0,0)]],[Nl]⟩} {y:En.Spec.D En.Dop.D4 ⟨[.fd (.int .i64)],[Nl]⟩} {w:World} {D:Nat->Prop} {β:Nat->Nm} {o0:List (Nat×En.Own En.Dop.D4)} (hkp:Bz En.Dop.D4 w (AJ o0 β) D) {fn:Func} (hres:fn.results=#[.tmp 4]) {β2:Nat->Nm} (hβ:β2 0=β 0) {s:Ri} (hy:RX m s=some y)
  {a:Act} {W:World} (hd:a.defers=[]) (hh:L6 En.Dop.D4 w (AJ o0 β) D ⟨(Z2 g),IZ⟩ [1,2] 2 β2 27 (((),(),()),(s,((),()),())) a W):
  w4.wpIn Fence.wide 0 Tryz.prog (after Fence.wide Tryz.prog 0 [.code w5] (LD (bodyPostD Tryz.prog fn (Dk (S:=En.Dop.D4) (wc g m) y w D β o0)))) a W:=by
 have ht2:a.tmps.getD 2 undef=.pointer (some ⟨(β2 1).AP,0,none⟩):=by
  obtain ⟨⟨D1,β1,vs,o,n,he,h1,h2,h3,h4,h5⟩,hsz⟩:=hh
  have hvs:vs=[.fn g [.ptr 0 0],.ptr 1 0]:=by
   have h:En.Spec.enc (S:=En.Dop.D4) ⟨(Z2 g),IZ⟩ (((),(),()),(s,((),()),())) 2=([.fn g [.ptr 0 0],.ptr 1 0],(En.Spec.enc (S:=En.Dop.D4) ⟨(Z2 g),IZ⟩ (((),(),()),(s,((),()),())) 2).2.1,(En.Spec.enc (S:=En.Dop.D4) ⟨(Z2 g),IZ⟩ (((),(),()),(s,((),()),())) 2).2.2):=by kernel_rfl
   rw [he] at h
   exact (Prod.mk.inj h).1
  subst hvs
  rw [(h5 1 2 _ rfl rfl).2,<- h1 1 (by omega)]
  simp only [SV.den]
 obtain ⟨a1,a2,a3⟩:=eV
 obtain ⟨b1,b2,b3⟩:=eW
 have hsz:=hh.sz
 rw [ij]
 refine FK (.inl rfl) ?_
 rw [eX]
 unfold wpList
 rw [if_pos (by simp [Region.wanted,a3])]
 refine .inl (An (v:=.func (.func 203) #[] #[.pointer (some ⟨(β2 1).AP,0,none⟩)]) (w':=W) ?_ ?_)
 ·simp [execOp,a1,Instr.makeFunc,Act.eval,<- ht2]
 unfold wpList
 rw [if_pos (by simp [Region.wanted,b3])]
 refine .inl ?_
 have hex:(execOp (a.put fB.dst (.func (.func 203) #[] #[.pointer (some ⟨(β2 1).AP,0,none⟩)])).eval ik).run Tryz.prog W=.ok (.defer { target:=.fn (.func 203) #[.pointer (some ⟨(β2 1).AP,0,none⟩)],args:=#[] }) W:=by
  have hev:(a.put fB.dst (.func (.func 203) #[] #[.pointer (some ⟨(β2 1).AP,0,none⟩)])).eval (.tmp 19)=.func (.func 203) #[] #[.pointer (some ⟨(β2 1).AP,0,none⟩)]:=by
   simp [Act.eval,Act.put,a2,Array.getD_eq_getD_getElem?,Array.getElem?_setIfInBounds,hsz]
  simp [execOp,b1,resolve,hev,Deferred.ofValue]
 unfold Oper.wp
 rw [hex,Oper.upon_defer,b2]
 simp only [wpList,after,Act.put,a2,hd]
 refine wpIn_wide.2 ?_
 rw [il]
 have hh2:L6 En.Dop.D4 w (AJ o0 β) D ⟨(Z2 g),IZ⟩ [1,2] 2 β2 27 (((),(),()),(s,((),()),())) { a.put (some 19) (.func (.func 203) #[] #[.pointer (some ⟨(β2 1).AP,0,none⟩)]) with defers:=[{ target:=.fn (.func 203) #[.pointer (some ⟨(β2 1).AP,0,none⟩)],args:=#[] }] } W:=hh.put (by decide)
 refine wp_seq (wp_seq (wp_region_list (NW hE (by kernel_rfl) rfl (h5 m s) hkp hh2 fun a3 W3 hd3 hh3=>?_)))
 have ht24:a3.eval (.tmp 24)=.bool (!decide (s.2.2.2.2.2.2.1=0)):=by
  obtain ⟨⟨D1,β1,vs,o,n,he,h1,h2,h3,h4,h5⟩,hsz⟩:=hh3
  have hvs: ∀ b:Bool,En.Spec.enc (S:=En.Dop.D4) ⟨(fC g),IZ⟩ (((),(),b,()),(s,((),()),())) 2=([.fn g [.ptr 0 0],.ptr 1 0,.b b],(En.Spec.enc (S:=En.Dop.D4) ⟨(fC g),IZ⟩ (((),(),b,()),(s,((),()),())) 2).2.1,(En.Spec.enc (S:=En.Dop.D4) ⟨(fC g),IZ⟩ (((),(),b,()),(s,((),()),())) 2).2.2):=fun b=>by kernel_rfl
  have h:=hvs (!decide (s.2.2.2.2.2.2.1=0))
  rw [he] at h
  have h:=(Prod.mk.inj h).1
  subst h
  rw [show a3.eval (.tmp 24)=a3.tmps.getD 24 undef from rfl,(h5 2 24 _ rfl rfl).2]
  simp only [SV.den]
 unfold RX at hy
 split at hy
 ·rename_i hb
  unfold Z0 at hy
  split at hy
  case isFalse=>cases hy
  rename_i hin
  cases hy
  refine wp_cond_true (by rw [ht24,hb]) (wp_seq (wp_region_list (NW hE (by kernel_rfl) rfl ((s6 f g) m s _) hkp hh3 fun a4 W4 hd4 hh4=>wp_ret ?_)))
  show Leaves _ _ _ _ _ _ _
  rw [hd4,hd3]
  exact ab hkp hres hβ hin hh4
 ·rename_i hb
  have hb:(!decide (s.2.2.2.2.2.2.1=0))=false:=by simpa using hb
  obtain ⟨v,hv,hy⟩:=Option.bind_eq_some_iff.1 hy
  unfold Z0 at hy
  split at hy
  case isFalse=>cases hy
  rename_i hin
  cases hy
  refine wp_cond_false (by rw [ht24,hb]) (wp_skip ?_)
  have h7:=h7 m s (!decide (s.2.2.2.2.2.2.1=0))
  rw [hv] at h7
  refine wp_seq (wp_region_list (NW hE (by kernel_rfl) rfl h7 hkp hh3 fun a4 W4 hd4 hh4=>wp_ret ?_))
  show Leaves _ _ _ _ _ _ _
  rw [hd4,hd3]
  exact ab hkp hres hβ hin hh4
theorem L3 {f g:Nat} (hs5:W5 f g) (h0:W0 f g) (h7:W7 f g) (ok:AG En.Dop.D4 Tryz.prog 180 (kA g)=true) {m:MT} (hm:(wk f m).Holds Tryz.prog):(wc g m).Holds Tryz.prog:=by
 obtain ⟨hE,hbod,hokB,fn,hf,hb,hn,hr⟩:=Gj (p:=(kA g)) (ct:=[Tryz.Cd.c,wk f m]) Tryz.AH (A6 Tryz.Cd.holds (A6 hm CJ)) ok
 have e1:Cl Tryz.prog 180=27:=by kernel_rfl
 have e2:EE Tryz.prog 180=[.tmp 4]:=by kernel_rfl
 have hres:fn.results=#[.tmp 4]:=by rw [e2] at hr;rw [<-hr]
 refine ⟨hbod,hokB,fun h=>(by cases h),fun x y hxy w D β vs o n he hg hon hn' hiv=>?_⟩
 have hxy:Tryz.within m x.2.1=some y:=hxy
 have hkp:Bz En.Dop.D4 w (AJ o β) D:=⟨hiv,fun k hk=>⟨hg.C8 k hk,fun ⟨i,b,hi,hik⟩=>hg.off i b k hi hik hk⟩⟩
 have hlen:vs.length=2:=En.Spec.Aa he
 have hs0:=h0 m x.2.1 vs o n he
 have key: ∀ s:Ri,RX m s=some y->(j5 (wE f g m) 3000 ⟨(Z2 g),IZ⟩ [1,2] 1 2 999998 [[0,0,1,1,1],[0,1,1,1,1]] [.code [] (AQ Tryz.prog 180)] ⟨Bj 0 vs,o,n,27⟩).eval (fun _ _=>none)=some (((),(),()),(s,((),()),()))->Calls Tryz.prog 180 (AA β vs).toArray w (Dk (wc g m) y w D β o):=fun s hs hev=>
  VC.cE (M:=0+3000) (bn:=1) hf hb (hn.trans e1) (by omega) hon hg (ig hE (k1:=[.code [0,1,1,1] w4,.code [1,1,1,1] w5]) (by kernel_rfl) (by kernel_rfl) (by omega) (k0:=[.code [] (AQ Tryz.prog 180)]) hev hkp (fun _ _ _ _ _ h=>h) hn' rfl (fun z hz=>by
   simp only [List.mem_cons,List.not_mem_nil,or_false] at hz
   subst hz;rfl) fun β2 a W hag hd hh=>eZ hs5 h7 (x:=x) hE hkp hres (hag 0 (by omega)) hs hd hh)
 unfold Tryz.within at hxy
 split at hxy
 case isFalse=>cases hxy
 rename_i h1
 rw [if_pos h1] at hs0
 split at hxy
 ·rename_i h2
  rw [if_pos h2] at hs0
  obtain ⟨z,hz,hy⟩:=Option.bind_eq_some_iff.1 hxy
  rw [hz] at hs0
  exact key _ hy hs0
 ·rename_i h2
  rw [if_neg h2] at hs0
  exact key _ hxy hs0
theorem j7.holds {m:MT} (hm:(wk 234 m).Holds Tryz.prog):(wc 1000234 m).Holds Tryz.prog:=L3 (f:=234) (g:=1000234) (fun _ _=>by kernel_rfl) (fun _ _ _ _ _ h=>by cases h;kernel_rfl) (fun _ _ _=>by kernel_rfl) (by kernel_rfl) hm
theorem j8.holds {m:MT} (hm:(wk 254 m).Holds Tryz.prog):(wc 1000254 m).Holds Tryz.prog:=L3 (f:=254) (g:=1000254) (fun _ _=>by kernel_rfl) (fun _ _ _ _ _ h=>by cases h;kernel_rfl) (fun _ _ _=>by kernel_rfl) (by kernel_rfl) hm
theorem j9.holds {m:MT} (hm:(wk 263 m).Holds Tryz.prog):(wc 1000263 m).Holds Tryz.prog:=L3 (f:=263) (g:=1000263) (fun _ _=>by kernel_rfl) (fun _ _ _ _ _ h=>by cases h;kernel_rfl) (fun _ _ _=>by kernel_rfl) (by kernel_rfl) hm
theorem j6.holds {m:MT} (hm:(wk 181 m).Holds Tryz.prog):(wc 1000181 m).Holds Tryz.prog:=L3 (f:=181) (g:=1000181) (fun _ _=>by kernel_rfl) (fun _ _ _ _ _ h=>by cases h;kernel_rfl) (fun _ _ _=>by kernel_rfl) (by kernel_rfl) hm
end Go.Proofs
/- Functions of the seat, lifted: plan, model, contract, equations. Written by a program (Lift) that ran the layer's evaluation; Lean checks each line. -/
set_option maxRecDepth 100000
set_option maxHeartbeats 4000000
namespace Go.Proofs.Tryz
open Go Go.En
def LC.p:Ai:=⟨[],0,⟨[],[]⟩,⟨[.own 1 9],[]⟩,true,[],[]⟩
theorem LC.ok:AG Dop.D4 prog 262 LC.p=true:=by kernel_rfl
def Dg.p:Ai:=⟨[],1,⟨[.al 0 0],[PS.b0]⟩,⟨[.fd (.int .i64)],[PS.b0]⟩,false,[],[]⟩
theorem Dg.ok:AG Dop.D4 prog 205 Dg.p=true:=by kernel_rfl
def DB.p:Ai:=⟨[],1,⟨[.al 0 0,.fn 1000234 [(0,0)]],[PS.b0]⟩,⟨[.fd (.int .i64)],[PS.b0]⟩,false,[],[]⟩
abbrev Dz.q3:Cut:=⟨[[0,0,0,0,1,0,1,1],[0,1,0,0,1,0,1,1],[2,0,0,1,0,1,1],[1,0],[0,1,1,1]],[0,3,10,11,12],1,⟨[.al 0 0,.fd (.int .i64),.own 1 9,.fd (.int .i64),.fd (.int .i64)],[PS.b0]⟩⟩
def Dz.p:Ai:=⟨[(3,Dz.q3)],1,⟨[.al 0 0],[PS.b0]⟩,⟨[.fd (.int .i64)],[PS.b0]⟩,false,[],[]⟩
theorem Dz.ok:AG Dop.D4 prog 234 Dz.p=true:=by kernel_rfl
def Jh.p:Ai:=⟨[],1,⟨[.al 0 0],[PS.b0]⟩,⟨[.fd (.int .i64)],[PS.b0]⟩,false,[],[]⟩
theorem Jh.ok:AG Dop.D4 prog 254 Jh.p=true:=by kernel_rfl
abbrev C4.q4:Cut:=⟨[[0,0,0,0,0,0,1,1,1,0,1],[0,1,0,0,0,0,1,1,1,0,1],[0,1,0,0,0,1,1,1,0,1],[1,1],[2,0,0,1,1,1,0,1],[1,0],[3,0,1]],[0,1,5],1,⟨[.al 0 0,.fd (.int .i64),.fd (.int .i64)],[PS.b0]⟩⟩
abbrev C4.q5:Cut:=⟨[[0,0,0,0,1,0,0,0,0,1,1,1,0,1],[0,1,0,0,1,0,0,0,0,1,1,1,0,1],[2,0,0,1,0,0,0,0,1,1,1,0,1],[1,2],[0,1,0,0,0,1,1,1,0,1],[1,1],[2,0,0,1,1,1,0,1],[1,0],[3,0,1]],[0,1,5,24,25,26],1,⟨[.al 0 0,.fd (.int .i64),.fd (.int .i64),.own 1 9,.fd (.int .i64),.fd (.int .i64)],[PS.b0]⟩⟩
def C4.p:Ai:=⟨[(4,C4.q4),(5,C4.q5)],1,⟨[.al 0 0,.fd (.int .i64)],[PS.b0]⟩,⟨[.fd (.int .i64)],[PS.b0]⟩,false,[],[]⟩
theorem C4.ok:AG Dop.D4 prog 261 C4.p=true:=by kernel_rfl
abbrev Dh.q3:Cut:=⟨[[0,0,0,0,1,0,1,1],[0,1,0,0,1,0,1,1],[2,0,0,1,0,1,1],[1,0],[0,1,1,1]],[0,3,13,14,15],1,⟨[.al 0 0,.fd (.int .i64),.own 1 9,.fd (.int .i64),.fd (.int .i64)],[PS.b0]⟩⟩
def Dh.p:Ai:=⟨[(3,Dh.q3)],1,⟨[.al 0 0],[PS.b0]⟩,⟨[.fd (.int .i64)],[PS.b0]⟩,false,[(19,⟨[(0,true),(1,false),(2,true),(3,true),(4,true),(5,true),(6,false),(7,true),(8,true),(9,true),(10,true),(11,false),(12,false),(13,true),(14,true)],[1000000],[0,1,3,7,15,31,63,127,7,263,775,1799,3847,8191,16383],false⟩)],[]⟩
theorem Dh.ok:AG Dop.D4 prog 263 Dh.p=true:=by kernel_rfl
def CN.p:Ai:=⟨[],1,⟨[.al 0 0,.fn 1000263 [(0,0)]],[PS.b0]⟩,⟨[.fd (.int .i64)],[PS.b0]⟩,false,[],[]⟩
def Ji.p:Ai:=⟨[],1,⟨[.al 0 0],[PS.b0]⟩,⟨[.fd (.int .i64)],[PS.b0]⟩,false,[(13,⟨[(0,true),(1,false),(2,true),(3,false),(4,true)],[5,1000004],[0,1,0,4,15,31],false⟩)],[]⟩
theorem Ji.ok:AG Dop.D4 prog 265 Ji.p=true:=by kernel_rfl
abbrev D8.q2:Cut:=⟨[[0,0,0,0,0,0,1,1],[0,1,0,0,0,0,1,1],[0,1,0,0,0,1,1],[2,0,0,0,1,1],[1,0],[0,1,1,1]],[0,3],1,⟨[.al 0 0,.own 0 3],[PS.b0]⟩⟩
def D8.p:Ai:=⟨[(2,D8.q2)],1,⟨[.al 0 0],[PS.b0]⟩,⟨[.fd (.int .i64)],[PS.b0]⟩,false,[],[]⟩
theorem D8.ok:AG Dop.D4 prog 266 D8.p=true:=by kernel_rfl
abbrev Di.q1:Cut:=⟨[[0,0,0,0,0,0,1],[0,1,0,0,0,0,1],[0,1,0,0,0,1],[2,0,0,0,1],[1,0],[0,1,1]],[0,1],1,⟨[.al 0 0,.fd (.int .i64)],[PS.b0]⟩⟩
def Di.p:Ai:=⟨[(1,Di.q1)],1,⟨[.al 0 0,.fd (.int .i64)],[PS.b0]⟩,⟨[.fd (.int .i64)],[PS.b0]⟩,false,[(12,⟨[(0,true),(1,true),(2,true),(3,false),(4,true),(5,true),(6,true),(7,false),(8,true),(9,false),(10,false),(11,false),(12,true)],[],[0,1,3,7,0,16,48,112,240,511,1023,2047,4095],false⟩),(17,⟨[(0,true),(1,true),(2,true),(3,false),(4,true),(5,true),(6,true),(7,false),(8,true),(9,false),(10,false),(11,false),(12,true),(13,false),(14,true)],[15,1000006],[0,1,3,7,0,16,48,112,240,511,1023,2047,0,4096,16383,32767],false⟩)],[]⟩
theorem Di.ok:AG Dop.D4 prog 264 Di.p=true:=by kernel_rfl
def DC.p:Ai:=⟨[],1,⟨[.al 0 0,.fn 1000254 [(0,0)]],[PS.b0]⟩,⟨[.fd (.int .i64)],[PS.b0]⟩,false,[],[]⟩
abbrev As.T:Type:=(((Unit×Unit)×(PS×Unit))->Option ((Int×Unit)×(PS×Unit)))×(((Unit×Unit×Unit)×(PS×Unit))->Option ((Int×Unit)×(PS×Unit)))×(((Unit×Unit)×(PS×Unit))->Option ((Int×Unit)×(PS×Unit)))×(((Unit×Unit)×(PS×Unit))->Option ((Int×Unit)×(PS×Unit)))×(((Unit×Int×Unit)×(PS×Unit))->Option ((Int×Unit)×(PS×Unit)))×(((Unit×Unit)×(PS×Unit))->Option ((Int×Unit)×(PS×Unit)))×(((Unit×Unit×Unit)×(PS×Unit))->Option ((Int×Unit)×(PS×Unit)))×(((Unit×Unit)×(PS×Unit))->Option ((Int×Unit)×(PS×Unit)))×(((Unit×Unit)×(PS×Unit))->Option ((Int×Unit)×(PS×Unit)))×(((Unit×Int×Unit)×(PS×Unit))->Option ((Int×Unit)×(PS×Unit)))×(((Unit×Unit×Unit)×(PS×Unit))->Option ((Int×Unit)×(PS×Unit)))×Unit
end Go.Proofs.Tryz
/- Functions of the seat, lifted: plan, model, contract, equations. Written by a program (Lift) that ran the layer's evaluation; Lean checks each line. -/
set_option maxRecDepth 100000
set_option maxHeartbeats 4000000
namespace Go.Proofs.Tryz
open Go Go.En
def Jd.p:Ai:=⟨[],1,⟨[.al 0 0],[PS.b0]⟩,⟨[.fd (.int .i64)],[PS.b0]⟩,false,[],[]⟩
theorem Jd.ok:AG Dop.D4 prog 206 Jd.p=true:=by kernel_rfl
def Je.p:Ai:=⟨[],1,⟨[.al 0 0,.fd .str],[PS.b0]⟩,⟨[.fd (.int .i64)],[PS.b0]⟩,false,[],[]⟩
theorem Je.ok:AG Dop.D4 prog 207 Je.p=true:=by kernel_rfl
def Mu.p:Ai:=⟨[],1,⟨[.al 0 0],[PS.b0]⟩,⟨[.fd .bool],[PS.b0]⟩,false,[(1,⟨[(0,true),(1,false),(2,true),(3,true),(4,true),(5,true),(6,true),(7,true),(8,false),(9,true),(10,true),(11,true),(12,true),(13,false),(14,false),(15,true),(16,true),(17,true),(18,true),(19,true),(20,true),(21,false),(22,true),(23,true),(24,true),(25,false),(26,true),(27,false),(28,false),(29,false),(30,true),(31,true),(32,true)],[1000000],[0,1,3,7,15,31,63,127,255,511,31,1055,3103,7199,15391,32767,65535,131071,262143,524287,1048575,2097151,262143,4456447,12845055,29622271,63176703,134217727,268435455,536870911,1073741823,2147483647,4294967295],false⟩)],[]⟩
theorem Mu.ok:AG Dop.D4 prog 208 Mu.p=true:=by kernel_rfl
abbrev G0.q4:Cut:=⟨[[0,0,0,0,0,0,1,1,1,1],[0,1,0,0,0,0,1,1,1,1],[0,1,0,0,0,1,1,1,1],[2,0,0,0,1,1,1,1],[1,0],[0,1,1,1,1,1]],[0,3,4],2,⟨[.al 0 0,.al 1 0,.own 0 3],[PS.b0,⟨1,56,[.st 5],false⟩]⟩⟩
def G0.p:Ai:=⟨[(4,G0.q4)],1,⟨[.al 0 0],[PS.b0]⟩,⟨[.fd (.int .i64)],[PS.b0]⟩,false,[],[]⟩
theorem G0.ok:AG Dop.D4 prog 98 G0.p=true:=by kernel_rfl
def GO.p:Ai:=⟨[],1,⟨[.al 0 0],[PS.b0]⟩,⟨[.fd (.int .i64)],[PS.b0]⟩,false,[],[]⟩
theorem GO.ok:AG Dop.D4 prog 145 GO.p=true:=by kernel_rfl
def DA.p:Ai:=⟨[],1,⟨[.al 0 0,.fn 1000181 [(0,0)]],[PS.b0]⟩,⟨[.fd (.int .i64)],[PS.b0]⟩,false,[],[]⟩
abbrev Cu.kj:Cut:=⟨[[0,0,1,1,1],[0,1,1,1,1]],[0,3],2,⟨[.al 0 0,.al 1 0],[PS.b0,⟨1,56,[.st 5],false⟩]⟩⟩
abbrev Cu.Xq:Cut:=⟨[[0,1,1,1,1,0,1,1,1,1,1,0,0,1,1],[1,0],[0,1,1,1]],[0,3],2,⟨[.al 0 0,.al 1 0],[PS.b0,⟨1,56,[.st 5],false⟩]⟩⟩
abbrev Cu.ki:Cut:=⟨[[0,0,1,1,1,0,1,1,1,1,1,1,1,1,1,1,1,1,1,1,1,1,1,1,1,1,1,1,1,1,1,0,0,1,1],[0,1,1,1,1,0,1,1,1,1,1,1,1,1,1,1,1,1,1,1,1,1,1,1,1,1,1,1,1,1,1,0,0,1,1],[1,0],[0,1,1,1]],[0,3,4],2,⟨[.al 0 0,.al 1 0,.fd (.int .i64)],[PS.b0,⟨1,56,[.st 5],false⟩]⟩⟩
def Cu.p:Ai:=⟨[(64,Cu.kj),(13,Cu.Xq),(53,Cu.ki)],1,⟨[.al 0 0],[PS.b0]⟩,⟨[.fd (.int .i64)],[PS.b0]⟩,false,[],[]⟩
theorem Cu.ok:AG Dop.D4 prog 181 Cu.p=true:=by kernel_rfl
abbrev HG.T:Type:=(((Unit×Unit)×(PS×Unit))->Option ((Int×Unit)×(PS×Unit)))×(((Unit×Unit)×(PS×Unit))->Option ((Int×Unit)×(PS×Unit)))×(((Unit×Unit×Unit)×(PS×Unit))->Option ((Int×Unit)×(PS×Unit)))×(((Unit×Unit)×(PS×Unit))->Option ((Int×Unit)×(PS×Unit)))×Unit
abbrev IQ.q7:Cut:=⟨[[0,0,0,0,0,0,1,1,1,1,0,1,0,1,1],[0,1,0,0,0,0,1,1,1,1,0,1,0,1,1],[0,1,0,0,0,1,1,1,1,0,1,0,1,1],[2,0,0,0,1,1,1,1,0,1,0,1,1],[1,0],[0,1,1,1,1,1,0,1,0,1,1],[0,1,1,1]],[0,3,4],2,⟨[.al 0 0,.al 1 0,.own 0 3],[PS.b0,⟨1,56,[.st 5],false⟩]⟩⟩
abbrev IQ.gn:Cut:=⟨[[0,0,0,0,0,0,1,0,1,0,1,1,1,1,1],[0,1,0,0,0,0,1,0,1,0,1,1,1,1,1],[0,1,0,0,0,1,0,1,0,1,1,1,1,1],[2,0,0,0,1,0,1,0,1,1,1,1,1],[1,2],[0,1,1,0,1,0,1,1,1,1,1],[0,1,1,1,1,1,1]],[0,3,7],2,⟨[.al 0 0,.al 1 0,.own 0 3],[PS.b0,⟨1,56,[.st 5],false⟩]⟩⟩
def IQ.p:Ai:=⟨[(7,IQ.q7),(21,IQ.gn)],1,⟨[.al 0 0],[PS.b0]⟩,⟨[.fd (.int .i64)],[PS.b0]⟩,false,[(2,⟨[(0,true),(1,false),(2,true),(3,true),(4,true),(5,true),(6,false),(7,true),(8,true),(9,true),(10,true),(11,false),(12,false),(13,true),(14,true),(15,true),(16,true),(17,true),(18,true),(19,false),(20,true),(21,true),(22,true),(23,false),(24,true),(25,false),(26,false),(27,false),(28,true),(29,true)],[1000000],[0,1,3,7,15,31,63,127,7,263,775,1799,3847,8191,16383,32767,65535,131071,262143,524287,65535,1114111,3211263,7405567,15794175,33554431,67108863,134217727,268435455,536870911],false⟩),(18,⟨[(0,true),(1,false),(2,true),(3,false),(4,true),(5,false),(6,true),(7,false),(8,true)],[9,1000003],[0,1,0,4,0,16,51,115,255,511],false⟩)],[]⟩
theorem IQ.ok:AG Dop.D4 prog 46 IQ.p=true:=by kernel_rfl
abbrev m20.q3:Cut:=⟨[[0,0,0,0,0,1,0,1,1],[0,1,0,0,0,1,0,1,1],[0,1,0,0,1,0,1,1],[2,0,0,1,0,1,1],[1,0],[0,1,1,1]],[2,5,6],2,⟨[.al 0 0,.al 1 0,.fd (.int .i64)],[⟨0,41,[.own 5 56,.own 6 93,.fd (.int .i64)],false⟩,PS.b1]⟩⟩
abbrev m20.q7:Cut:=⟨[[0,0,0,0,0,0,1,1,1,1],[0,1,0,0,0,0,1,1,1,1],[0,1,0,0,0,1,1,1,1],[2,0,0,0,1,1,1,1],[1,2],[0,1,1,1,1,1]],[2,5,7],2,⟨[.al 0 0,.al 1 0,.own 0 3],[⟨0,41,[.own 5 56,.own 6 93,.fd (.int .i64)],false⟩,PS.b1]⟩⟩
def m20.p:Ai:=⟨[(3,m20.q3),(7,m20.q7)],0,⟨[.fd (.sl 4)],[]⟩,⟨[.st 7,.fd (.int .i64),.fd (.int .i64)],[]⟩,false,[(11,⟨[(0,true),(1,true),(2,true),(3,true),(4,false),(5,true),(6,true),(7,true),(8,false),(9,false),(10,true),(11,true)],[1000002],[0,0,2,6,14,0,32,96,224,1,543,2047],false⟩)],[]⟩
theorem m20.ok:AG Dop.D4 prog 20 m20.p=true:=by kernel_rfl
def XH.p:Ai:=⟨[],0,⟨[.fd .str],[]⟩,⟨[.st 7,.fd (.int .i64),.fd (.int .i64)],[]⟩,false,[],[]⟩
theorem XH.ok:AG Dop.D4 prog 41 XH.p=true:=by kernel_rfl
end Go.Proofs.Tryz
