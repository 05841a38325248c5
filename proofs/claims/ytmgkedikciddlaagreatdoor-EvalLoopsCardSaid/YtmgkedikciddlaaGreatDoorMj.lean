/- What the boxes of some types hold: as one, with names of the parts. Written by a program. -/
import Derived.Test.YtmgkedikciddlaaGreatDoorMi
import Derived.Test.YtmgkedikciddlaaGreatDoorLb
import Derived.Test.YtmgkedikciddlaaGreatDoorMh
set_option linter.all false
namespace Go.Proofs
open Go Go.En
abbrev PS:Type:=List (En.Dop.Tok)×Int×List (En.Dop.Ab)×List (En.Dop.HM)×Int×Int×Int×Int×Unit
abbrev PS.l (k:PS):List (En.Dop.Tok):=k.1
abbrev PS.at_ (k:PS):Int:=k.2.1
abbrev PS.VK (k:PS) (v:Int):PS:=(k.1,v,k.2.2)
abbrev PS.nodes (k:PS):List (En.Dop.Ab):=k.2.2.1
abbrev PS.FK (k:PS) (v:List (En.Dop.Ab)):PS:=(k.1,k.2.1,v,k.2.2.2)
abbrev PS.types (k:PS):List (En.Dop.HM):=k.2.2.2.1
abbrev PS.VM (k:PS) (v:List (En.Dop.HM)):PS:=(k.1,k.2.1,k.2.2.1,v,k.2.2.2.2)
abbrev PS.top (k:PS):Int:=k.2.2.2.2.1
abbrev PS.deep (k:PS):Int:=k.2.2.2.2.2.1
abbrev PS.e (k:PS):Int:=k.2.2.2.2.2.2.1
abbrev PS.ZU (k:PS) (v:Int):PS:=(k.1,k.2.1,k.2.2.1,k.2.2.2.1,k.2.2.2.2.1,k.2.2.2.2.2.1,v,k.2.2.2.2.2.2.2)
abbrev PS.when (k:PS):Int:=k.2.2.2.2.2.2.2.1
abbrev PS.Fj (k:PS) (v:Int):PS:=(k.1,k.2.1,k.2.2.1,k.2.2.2.1,k.2.2.2.2.1,k.2.2.2.2.2.1,k.2.2.2.2.2.2.1,v,k.2.2.2.2.2.2.2.2)
abbrev PS.b0:En.Gt:=⟨0,111,[.fd (.sl 4),.st 0,.own 5 83,.own 6 113,.st 0,.st 0,.fd (.int .i64),.st 0],false⟩
abbrev PS.b1:En.Gt:=⟨1,111,[.fd (.sl 4),.st 0,.own 5 83,.own 6 113,.st 0,.st 0,.fd (.int .i64),.st 0],false⟩
end Go.Proofs
set_option maxRecDepth 100000
set_option maxHeartbeats 4000000
namespace Go.Proofs.Tryz
open Go Go.En
def LQ.p:Ak:=⟨[],1,⟨[.al 0 0],[PS.b0]⟩,⟨[.fd (.int .i64)],[PS.b0]⟩,false,[(3,⟨[(0,true),(1,true),(2,true),(3,false),(4,true),(5,true),(6,true),(7,false),(8,false),(9,true),(10,false),(11,false),(12,false)],[13],[0,1,3,7,0,16,48,112,240,496,1023,2047,0,8191],false⟩)],[]⟩
noncomputable def LQ.E:Env Dop.D4:=Au prog 77 tb [] LQ.p
theorem LQ.ok:AH Dop.D4 prog 77 LQ.p=true:=by kernel_rfl
noncomputable def LQ.c:B2 Dop.D4:=⟨77,LQ.p.bn,LQ.p.sp,LQ.p.rs,LQ.p.flat,.opt (LQ.E.run 3000 LQ.p.sp)⟩
theorem LQ.holds:LQ.c.Holds prog:=FE 3000 AI CS LQ.ok
def Es.p:Ak:=⟨[],1,⟨[.al 0 0],[PS.b0]⟩,⟨[.st 4],[PS.b0]⟩,false,[(1,⟨[(0,true),(1,true),(2,true),(3,false),(4,true),(5,true),(6,true),(7,true),(8,true),(9,false),(10,true),(11,true),(12,true),(13,false),(14,false),(15,true),(16,true)],[],[0,1,3,7,15,31,63,127,255,511,63,1087,3135,7231,15423,32767,65535],false⟩),(3,⟨[(0,true),(1,true),(2,true),(3,false),(4,true),(5,true),(6,true),(7,false),(8,false),(9,false)],[10],[0,1,3,7,0,16,48,112,255,511,1023],false⟩)],[]⟩
noncomputable def Es.E:Env Dop.D4:=Au prog 42 tb [LQ.c] Es.p
theorem Es.ok:AH Dop.D4 prog 42 Es.p=true:=by kernel_rfl
noncomputable def Es.c:B2 Dop.D4:=⟨42,Es.p.bn,Es.p.sp,Es.p.rs,Es.p.flat,.opt (Es.E.run 3000 Es.p.sp)⟩
theorem Es.holds:Es.c.Holds prog:=FE 3000 AI (BG LQ.holds CS) Es.ok
def Fm.p:Ak:=⟨[],0,⟨[.fd (.int .i64),.fd (.int .i64)],[]⟩,⟨[.st 5],[]⟩,true,[],[]⟩
noncomputable def Fm.E:Env Dop.D4:=Au prog 78 tb [] Fm.p
theorem Fm.ok:AH Dop.D4 prog 78 Fm.p=true:=by kernel_rfl
noncomputable def Fm.c:B2 Dop.D4:=⟨78,Fm.p.bn,Fm.p.sp,Fm.p.rs,Fm.p.flat,.opt (Fm.E.run 3000 Fm.p.sp)⟩
theorem Fm.holds:Fm.c.Holds prog:=FE 3000 AI CS Fm.ok
def NW.p:Ak:=⟨[],1,⟨[.al 0 0,.fd .str],[PS.b0]⟩,⟨[.fd .bool],[PS.b0]⟩,false,[],[]⟩
theorem NW.ok:AH Dop.D4 prog 79 NW.p=true:=by kernel_rfl
def FA.p:Ak:=⟨[],1,⟨[.al 0 0,.fd .str],[PS.b0]⟩,⟨[.fd .bool],[PS.b0]⟩,false,[],[]⟩
theorem FA.ok:AH Dop.D4 prog 82 FA.p=true:=by kernel_rfl
def Cj.p:Ak:=⟨[],1,⟨[.al 0 0,.fd (.int .i64)],[PS.b0]⟩,⟨[],[PS.b0]⟩,false,[],[]⟩
noncomputable def Cj.E:Env Dop.D4:=Au prog 116 tb [Es.c] Cj.p
theorem Cj.ok:AH Dop.D4 prog 116 Cj.p=true:=by kernel_rfl
noncomputable def Cj.c:B2 Dop.D4:=⟨116,Cj.p.bn,Cj.p.sp,Cj.p.rs,Cj.p.flat,.opt (Cj.E.run 3000 Cj.p.sp)⟩
theorem Cj.holds:Cj.c.Holds prog:=FE 3000 AI (BG Es.holds CS) Cj.ok
noncomputable def Cj (e:Int) (k0:PS):Option (Unit×(PS×Unit)):=Cj.E.run 3000 Cj.p.sp (((),e,()),(k0,()))
def GN.p:Ak:=⟨[],1,⟨[.al 0 0,.fd .str],[PS.b0]⟩,⟨[],[PS.b0]⟩,false,[],[]⟩
theorem GN.ok:AH Dop.D4 prog 80 GN.p=true:=by kernel_rfl
def MK.p:Ak:=⟨[],1,⟨[.al 0 0,.fd (.int .i64)],[PS.b0]⟩,⟨[.st 4],[PS.b0]⟩,false,[],[]⟩
theorem MK.ok:AH Dop.D4 prog 81 MK.p=true:=by kernel_rfl
abbrev Dy.q2:Cut:=⟨[[0,0,0,0,1,0,1],[0,1,0,0,1,0,1],[2,0,0,1,0,1],[1,0],[0,1,1]],[0,3,7,8],1,⟨[.fd (.sl 6),.al 0 0,.fd (.int .i64),.fd (.int .i64)],[⟨0,113,[.st 6],false⟩]⟩⟩
def Dy.p:Ak:=⟨[(2,Dy.q2)],0,⟨[.fd (.sl 6),.st 6],[]⟩,⟨[.fd (.int .i64)],[]⟩,true,[(4,⟨[(0,false),(1,true),(2,true),(3,false),(4,false),(5,true)],[],[0,0,0,6,14,31],false⟩)],[]⟩
theorem Dy.ok:AH Dop.D4 prog 142 Dy.p=true:=by kernel_rfl
def J5.p:Ak:=⟨[],1,⟨[.al 0 0,.st 6],[PS.b0]⟩,⟨[.fd (.int .i64)],[PS.b0]⟩,false,[(1,⟨[(0,true),(1,true),(2,true),(3,true),(4,false),(5,false),(6,false),(7,true)],[],[0,1,3,7,15,0,63,127],true⟩),(7,⟨[(0,true),(1,true),(2,true),(3,true),(4,true),(5,false),(6,false),(7,false)],[8,9,10,11,12],[0,0,2,6,14,30,0,64,254,511,1023,2047,4095],false⟩)],[]⟩
theorem J5.ok:AH Dop.D4 prog 118 J5.p=true:=by kernel_rfl
abbrev DW.da:Cut:=⟨[[0,0,0,0,0,0,1,1,1],[0,1,0,0,0,0,1,1,1],[0,1,0,0,0,1,1,1],[2,0,0,0,1,1,1],[1,1],[0,1,1,1,1]],[0,3],1,⟨[.al 0 0,.fd (.int .i64)],[PS.b0]⟩⟩
def DW.p:Ak:=⟨[(11,DW.da)],1,⟨[.al 0 0],[PS.b0]⟩,⟨[.fd (.int .i64)],[PS.b0]⟩,false,[],[]⟩
theorem DW.ok:AH Dop.D4 prog 117 DW.p=true:=by kernel_rfl
def Yd.p:Ak:=⟨[],1,⟨[.al 0 0],[PS.b0]⟩,⟨[.st 5],[PS.b0]⟩,false,[],[]⟩
theorem Yd.ok:AH Dop.D4 prog 83 Yd.p=true:=by kernel_rfl
def Tq.p:Ak:=⟨[],1,⟨[.al 0 0,.fd (.int .i64)],[PS.b0]⟩,⟨[.fd (.int .i64)],[PS.b0]⟩,false,[],[]⟩
theorem Tq.ok:AH Dop.D4 prog 84 Tq.p=true:=by kernel_rfl
def ES.p:Ak:=⟨[],1,⟨[.al 0 0,.st 5],[PS.b0]⟩,⟨[.fd (.int .i64)],[PS.b0]⟩,false,[(5,⟨[(0,true),(1,true),(2,true),(3,true),(4,true),(5,false),(6,false),(7,false)],[8,9,10,11,12],[0,0,2,6,14,30,0,64,254,511,1023,2047,4095],false⟩)],[]⟩
noncomputable def ES.E:Env Dop.D4:=Au prog 85 tb [Cj.c] ES.p
theorem ES.ok:AH Dop.D4 prog 85 ES.p=true:=by kernel_rfl
noncomputable def ES.c:B2 Dop.D4:=⟨85,ES.p.bn,ES.p.sp,ES.p.rs,ES.p.flat,.opt (ES.E.run 3000 ES.p.sp)⟩
theorem ES.holds:ES.c.Holds prog:=FE 3000 AI (BG Cj.holds CS) ES.ok
def HU.p:Ak:=⟨[],1,⟨[.al 0 0,.fd (.int .i64)],[PS.b0]⟩,⟨[.fd (.int .i64)],[PS.b0]⟩,false,[],[]⟩
noncomputable def HU.E:Env Dop.D4:=Au prog 88 tb [] HU.p
theorem HU.ok:AH Dop.D4 prog 88 HU.p=true:=by kernel_rfl
noncomputable def HU.c:B2 Dop.D4:=⟨88,HU.p.bn,HU.p.sp,HU.p.rs,HU.p.flat,.opt (HU.E.run 3000 HU.p.sp)⟩
theorem HU.holds:HU.c.Holds prog:=FE 3000 AI CS HU.ok
def NG.p:Ak:=⟨[],0,⟨[.st 7,.fd (.int .i64)],[]⟩,⟨[.st 5],[]⟩,true,[],[]⟩
theorem NG.ok:AH Dop.D4 prog 45 NG.p=true:=by kernel_rfl
abbrev Gq.q3:Cut:=⟨[[0,0,0,0,1,0,1,1],[0,1,0,0,1,0,1,1],[2,0,0,1,0,1,1],[1,0],[0,1,1,1]],[1,2,5,9,10],1,⟨[.fd (.int .i64),.al 0 0,.own 0 3,.fd (.int .i64),.fd (.int .i64)],[⟨0,45,[.st 7],false⟩]⟩⟩
def Gq.p:Ak:=⟨[(3,Gq.q3)],0,⟨[.st 7,.fd (.int .i64)],[]⟩,⟨[.own 0 3],[]⟩,true,[],[]⟩
theorem Gq.ok:AH Dop.D4 prog 25 Gq.p=true:=by kernel_rfl
def NO.p:Ak:=⟨[],1,⟨[.al 0 0],[PS.b0]⟩,⟨[.fd .bool],[PS.b0]⟩,false,[],[]⟩
theorem NO.ok:AH Dop.D4 prog 173 NO.p=true:=by kernel_rfl
abbrev Hz.q2:Cut:=⟨[[0,0,0,0,0,0,1,1,0,1],[0,1,0,0,0,0,1,1,0,1],[0,1,0,0,0,1,1,0,1],[2,0,0,0,1,1,0,1],[1,0],[0,1,1,1,0,1],[3,0,1]],[0,4],0,⟨[.fd .str,.fd (.int .i64)],[]⟩⟩
def Hz.p:Ak:=⟨[(2,Hz.q2)],0,⟨[.fd .str],[]⟩,⟨[.fd (.int .i64),.fd .bool],[]⟩,true,[],[]⟩
theorem Hz.ok:AH Dop.D4 prog 40 Hz.p=true:=by kernel_rfl
def Tn.p:Ak:=⟨[],0,⟨[.fd (.int .u8)],[]⟩,⟨[.fd .bool],[]⟩,true,[],[]⟩
theorem Tn.ok:AH Dop.D4 prog 70 Tn.p=true:=by kernel_rfl
def To.p:Ak:=⟨[],0,⟨[.fd (.int .u8)],[]⟩,⟨[.fd .bool],[]⟩,true,[],[]⟩
theorem To.ok:AH Dop.D4 prog 73 To.p=true:=by kernel_rfl
abbrev Ib.q2:Cut:=⟨[[0,0,0,0,0,0,1,1],[0,1,0,0,0,0,1,1],[0,1,0,0,0,1,1],[2,0,0,0,1,1],[1,0],[0,1,1,1]],[0,3],0,⟨[.fd .str,.fd (.int .i64)],[]⟩⟩
def Ib.p:Ak:=⟨[(2,Ib.q2)],0,⟨[.fd .str],[]⟩,⟨[.fd (.int .i64)],[]⟩,true,[],[]⟩
theorem Ib.ok:AH Dop.D4 prog 71 Ib.p=true:=by kernel_rfl
def Yc.p:Ak:=⟨[],0,⟨[.fd .str],[]⟩,⟨[.fd .bool],[]⟩,true,[],[]⟩
theorem Yc.ok:AH Dop.D4 prog 72 Yc.p=true:=by kernel_rfl
def Ru.p:Ak:=⟨[],1,⟨[.fd (.int .i64),.fd (.int .i64),.fd (.int .i64),.al 0 0],[⟨0,9,[.st 1],false⟩]⟩,⟨[.st 4,.fd (.int .i64)],[⟨0,9,[.fd .str],false⟩]⟩,true,[],[]⟩
theorem Ru.ok:AH Dop.D4 prog 69 Ru.p=true:=by kernel_rfl
abbrev He.q9:Cut:=⟨[[0,0,0,0,1,0,1,1,1,1,1],[0,1,0,0,1,0,1,1,1,1,1],[2,0,0,1,0,1,1,1,1,1],[1,0],[0,1,1,1,1,1,1]],[0,5,6,34,35],0,⟨[.fd .str,.fd (.int .i64),.fd (.int .i64),.fd (.int .i64),.fd (.int .i64)],[]⟩⟩
def He.p:Ak:=⟨[(9,He.q9)],0,⟨[.fd .str],[]⟩,⟨[.fd (.int .i64),.fd .bool],[]⟩,true,[(6,⟨[(0,true),(2,true)],[1,3],[0,1,0,7],false⟩)],[]⟩
theorem He.ok:AH Dop.D4 prog 74 He.p=true:=by kernel_rfl
def Tp.p:Ak:=⟨[],0,⟨[.fd .str],[]⟩,⟨[.fd (.int .i64),.fd (.int .i64)],[]⟩,true,[],[]⟩
theorem Tp.ok:AH Dop.D4 prog 75 Tp.p=true:=by kernel_rfl
def NH.p:Ak:=⟨[],0,⟨[],[]⟩,⟨[.own 1 9],[]⟩,true,[],[]⟩
theorem NH.ok:AH Dop.D4 prog 115 NH.p=true:=by kernel_rfl
abbrev KS.q2:Cut:=⟨[[0,0,0,0,1,0,1],[0,1,0,0,1,0,1],[2,0,0,1,0,1],[1,0],[0,1,1]],[0,5,6,7],0,⟨[.fd .str,.own 1 9,.fd (.int .i64),.fd (.int .i64)],[]⟩⟩
def KS.p:Ak:=⟨[(2,KS.q2)],0,⟨[.fd .str],[]⟩,⟨[.fd .str],[]⟩,true,[],[]⟩
theorem KS.ok:AH Dop.D4 prog 76 KS.p=true:=by kernel_rfl
def Tm.p:Ak:=⟨[],0,⟨[.fd .str],[]⟩,⟨[.st 4,.fd (.int .i64)],[]⟩,true,[],[]⟩
theorem Tm.ok:AH Dop.D4 prog 41 Tm.p=true:=by kernel_rfl
abbrev m19.q5:Cut:=⟨[[0,0,0,0,0,1,1,1,1],[0,1,0,0,0,1,1,1,1],[1,1],[2,0,0,1,1,1,1],[1,0]],[0,5,6],0,⟨[.fd .str,.own 4 106,.fd (.int .i64)],[]⟩⟩
def m19.p:Ak:=⟨[(5,m19.q5)],0,⟨[.fd .str],[]⟩,⟨[.own 4 106,.fd (.int .i64),.fd (.int .i64)],[]⟩,true,[],[]⟩
theorem m19.ok:AH Dop.D4 prog 22 m19.p=true:=by kernel_rfl
def NV.p:Ak:=⟨[],1,⟨[.al 0 0],[⟨0,111,[.fd (.sl 4),.st 0,.hd,.hd,.st 0,.st 0,.fd (.int .i64),.st 0],false⟩]⟩,⟨[.fd (.int .i64)],[⟨0,111,[.fd (.sl 4),.fd (.int .i64),.hd,.hd,.fd (.int .i64),.fd (.int .i64),.fd (.int .i64),.fd (.int .i64)],false⟩]⟩,false,[(3,⟨[(0,true),(1,true),(2,true),(3,false),(4,true),(5,true),(6,true),(7,false),(8,false),(9,true),(10,false),(11,false),(12,false)],[13],[0,1,3,7,0,16,48,112,240,496,1023,2047,0,8191],false⟩)],[]⟩
theorem NV.ok:AH Dop.D4 prog 77 NV.p=true:=by kernel_rfl
def NT.p:Ak:=⟨[],1,⟨[.al 0 0],[⟨0,111,[.fd (.sl 4),.st 0,.hd,.hd,.st 0,.st 0,.fd (.int .i64),.st 0],false⟩]⟩,⟨[.st 4],[⟨0,111,[.fd (.sl 4),.fd (.int .i64),.hd,.hd,.fd (.int .i64),.fd (.int .i64),.fd (.int .i64),.fd (.int .i64)],false⟩]⟩,false,[(1,⟨[(0,true),(1,true),(2,true),(3,false),(4,true),(5,true),(6,true),(7,true),(8,true),(9,false),(10,true),(11,true),(12,true),(13,false),(14,false),(15,true),(16,true)],[],[0,1,3,7,15,31,63,127,255,511,63,1087,3135,7231,15423,32767,65535],false⟩),(3,⟨[(0,true),(1,true),(2,true),(3,false),(4,true),(5,true),(6,true),(7,false),(8,false),(9,false)],[10],[0,1,3,7,0,16,48,112,255,511,1023],false⟩)],[]⟩
theorem NT.ok:AH Dop.D4 prog 42 NT.p=true:=by kernel_rfl
def JQ.p:Ak:=⟨[],1,⟨[.al 0 0,.fd .str],[⟨0,111,[.fd (.sl 4),.st 0,.hd,.hd,.st 0,.st 0,.fd (.int .i64),.st 0],false⟩]⟩,⟨[.fd .bool],[⟨0,111,[.fd (.sl 4),.fd (.int .i64),.hd,.hd,.fd (.int .i64),.fd (.int .i64),.fd (.int .i64),.fd (.int .i64)],false⟩]⟩,false,[],[]⟩
theorem JQ.ok:AH Dop.D4 prog 79 JQ.p=true:=by kernel_rfl
def Hu.p:Ak:=⟨[],1,⟨[.al 0 0],[⟨0,111,[.fd (.sl 4),.st 0,.hd,.hd,.st 0,.st 0,.fd (.int .i64),.st 0],false⟩]⟩,⟨[.fd .bool],[⟨0,111,[.fd (.sl 4),.fd (.int .i64),.hd,.hd,.fd (.int .i64),.fd (.int .i64),.fd (.int .i64),.fd (.int .i64)],false⟩]⟩,false,[],[]⟩
theorem Hu.ok:AH Dop.D4 prog 173 Hu.p=true:=by kernel_rfl
end Go.Proofs.Tryz
namespace Go.Proofs
open Go Go.En Go.RowKit
abbrev T3:Gt:=⟨0,111,[.fd (.sl 4),.fd (.int .i64),.own 5 83,.own 6 113,.fd (.int .i64),.fd (.int .i64),.fd (.int .i64),.fd (.int .i64)],false⟩
def Tryz.Bv.p:Ak:=⟨[],1,⟨[.al 0 0,.fd (.sl 0)],[T3]⟩,⟨[.fd (.int .i64)],[T3]⟩,false,[(5,⟨[(0,true),(1,false),(2,true),(3,false),(4,true)],[5,1000008],[0,0,1,5,15,31],false⟩)],[(87,[])]⟩
noncomputable def Tryz.Bv.E:Env En.Dop.D4:=Au Tryz.prog 44 Tryz.tb [Tryz.HU.c,Tryz.Fm.c,Tryz.ES.c] Tryz.Bv.p
theorem Tryz.Bv.ok:AH En.Dop.D4 Tryz.prog 44 Tryz.Bv.p=true:=by kernel_rfl
noncomputable def BO (body:Code) (a:List Nat):Code:=match Hd body a with
 | some c=>c
 | none=>.skip
abbrev Jf:En.Spec:=⟨[],[T3,⟨1,109,[.al 0 0],false⟩,⟨2,3,[.fd (.int .i64)],false⟩]⟩
abbrev l8:En.Spec:=⟨[.al 1 0,.al 2 0,.fd (.int .i64)],[T3,⟨1,109,[.al 0 0],false⟩,⟨2,3,[.fd (.int .i64)],false⟩]⟩
noncomputable def Tryz.Bv.step (x:Int) (y:En.Spec.D En.Dop.D4 Jf):Option (En.Spec.D En.Dop.D4 Jf):=
 (US Tryz.Bv.E 3000 [1,0,1,0,1,1] (BO (AT Tryz.prog 44) [1,0,1,0,1,1]) l8 Jf [2,5,7] 3 (((),(),x,()),y.2)).eval (fun _ _=>none)
noncomputable abbrev mB:Code:=BO (AT Tryz.prog 44) [0,0,1,0,1,1]
noncomputable abbrev nI:Code:=BO (AT Tryz.prog 44) [1,0,1,0,1,1]
noncomputable abbrev mC:Code:=BO (AT Tryz.prog 44) [1,1,1]
noncomputable def Tryz.Bv.go:List Int->En.Spec.D En.Dop.D4 Jf->Option (En.Spec.D En.Dop.D4 Jf)
 | [],y=>some y
 | x::r,y=>(Tryz.Bv.step x y).bind (Tryz.Bv.go r)
theorem Tryz.Bv.JE: ∀ (l r:List Int) (y:En.Spec.D En.Dop.D4 Jf),Tryz.Bv.go (l++r) y=(Tryz.Bv.go l y).bind (Tryz.Bv.go r)
 | [],r,y=>rfl
 | x::l,r,y=>by
  simp only [List.cons_append,Tryz.Bv.go]
  cases Tryz.Bv.step x y with
  | none=>rfl
  | some z=>exact Tryz.Bv.JE l r z
noncomputable def Tryz.Bv.R (x:En.Spec.D En.Dop.D4 Tryz.Bv.p.sp):Option (En.Spec.D En.Dop.D4 Tryz.Bv.p.rs):=
 match decide (x.1.2.1.length<9223372036854775807) with
 | true=>(Tryz.Bv.go x.1.2.1.reverse ((),(x.2.1,((),()),(-1,()),()))).bind fun y=>some ((y.2.2.2.1.1,()),(y.2.1,()))
 | false=>none
noncomputable def Tryz.Bv.c:B2 En.Dop.D4:=⟨44,Tryz.Bv.p.bn,Tryz.Bv.p.sp,Tryz.Bv.p.rs,Tryz.Bv.p.flat,.opt Tryz.Bv.R⟩
noncomputable def j8 (l:List Int) (x:En.Spec.D En.Dop.D4 ⟨[],[T3]⟩):St En.Dop.D4:=match En.Spec.enc (S:=En.Dop.D4) ⟨[.al 0 0,.fd (.sl 0)],[T3]⟩ (((),l,()),x.2) 1 with
 | (_,o,_)=>⟨[(0,.ptr 0 0),(1,.h 1),(2,.ptr 5 0),(4,.v (.int .i64 0)),(5,.ptr 6 0),(9,.h 1),(10,.fn 120 [.ptr 7 0])],(7,.AS 50 [.h 1])::(6,.AS 3 [.v (.int .i64 (-1))])::(5,.AS 109 [.ptr 0 0])::o,8,25⟩
theorem Tryz.Bv.part (l:List Int) (x:En.Spec.D En.Dop.D4 ⟨[],[T3]⟩) (vs:List SV) (o:List (Nat×En.Own En.Dop.D4)) (n:Nat) (h:En.Spec.enc (S:=En.Dop.D4) ⟨[.al 0 0,.fd (.sl 0)],[T3]⟩ (((),l,()),x.2) 1=(vs,o,n)):
  O5 Tryz.Bv.E 3000 [.code [] (AT Tryz.prog 44)] ⟨Bm 0 vs,o,n,25⟩=.ret ([.code [0,1,0,1,1] (.rangeFunc (.tmp 10) #[11,12] mB nI),.AS 0,.code [1,1,1] mC],j8 l x):=by
 cases h
 kernel_rfl
noncomputable def ZN:Oper:=match mB with
 | .region _ ⟨o::_⟩ _=>o
 | _=>default
theorem gG:mB=.region 3 #[ZN] false:=by kernel_rfl
theorem VI:ZN.op=.assign (.tmp 12):=by kernel_rfl
theorem Nx:ZN.dst=some 7:=by kernel_rfl
theorem T6:ZN.guard=none:=by kernel_rfl
noncomputable def ZO:Array Oper:=match mC with
 | .seq (.region _ o _) _=>o
 | _=>#[]
theorem gI:mC=.seq (.region 7 ZO false) .ret:=by kernel_rfl
theorem gH:Hd (AT Tryz.prog 44) [1,0,1,0,1,1]=some nI:=by kernel_rfl
theorem kO:Nh (AT Tryz.prog 44)=true:=by kernel_rfl
theorem UU (l:List Int):(bwd l).map Prod.snd=l.reverse:=by
 apply List.ext_getElem
 ·simp [bwd,upto]
 ·intro i h1 h2
  have h3:i<l.length:=by simpa using h2
  simp [bwd,upto,List.getElem_reverse,List.getElem?_eq_getElem (show l.length -1 -i<l.length by omega)]
theorem XI (l:List Int):En.Dop.D4.flat 0 l=l.map fun n=>FC.int .i64 n:=by
 induction l with
 | nil=>rfl
 | cons x r ih=>exact congrArg (FC.int .i64 x::·) ih
theorem SF {w:World} {D:Nat->Prop} {l:List Int} {v:Value} (h:Aw En.Dop.D4 w D (.sl 0 l) v):(l=[]/\ ∃ a c,v=.slice a 0 c)\/ ∃ b off cap,v=.slice (some ⟨b,off,none⟩) l.length cap/\D b/\ ∀ j,j<l.length->w.cell? ⟨b,off+j,none⟩=some (.int .i64 (l[j]?.getD 0)):=by
 cases h with
 | nil σ a c=>exact .inl ⟨rfl,a,c,rfl⟩
 | sl σ l b off c vs hb hlc hc hv=>
  refine .inr ⟨b,off,c,rfl,hb,fun j hj=>?_⟩
  have hf:(En.Dop.D4.flat 0 l)[j]?=some (.int .i64 l[j]):=by rw [XI];simp [hj]
  rw [hc j _ hf]
  have:=hv j _ hf
  cases hvj:vs j<;>rw [hvj] at this<;>cases this
  simp [hj]
theorem YZ (l:List Int) (x:En.Spec.D En.Dop.D4 ⟨[],[T3]⟩): ∃ ps,En.Spec.parse (S:=En.Dop.D4) ⟨[.al 1 0,.al 2 0],Jf.bx⟩ true [.ptr 5 0,.ptr 6 0] (j8 l x).o (RO 1) 3=some ((((),(),()),(x.2.1,((),()),(-1,()),())),ps)/\lk ps.o 7=some (.AS 50 [.h 1])/\ps.bl=[]/\lk ps.m 1=some 5/\lk ps.m 2=some 6/\lk ps.m 0=some 0:=
 ⟨⟨(7,.AS 50 [.h 1])::(2,.sl 4 x.2.1.1)::(1,.sl 0 l)::[],[(2,6),(1,5),(0,0)],[],3⟩,by kernel_rfl,by kernel_rfl,by kernel_rfl,by kernel_rfl,by kernel_rfl,by kernel_rfl⟩
theorem fT (y:En.Spec.D En.Dop.D4 Jf):O5 Tryz.Bv.E 3000 [.ops ZO ZO.toList] ⟨[(2,.ptr 1 0),(5,.ptr 2 0)],(Jf.enc (S:=En.Dop.D4) y 3).2.1,(Jf.enc (S:=En.Dop.D4) y 3).2.2,25⟩=
  .ret ([],⟨[(2,.ptr 1 0),(5,.ptr 2 0),(24,.v (.int .i64 y.2.2.2.1.1)),(4,.v (.int .i64 y.2.2.2.1.1))],(Jf.enc (S:=En.Dop.D4) y 3).2.1,(Jf.enc (S:=En.Dop.D4) y 3).2.2,25⟩):=by kernel_rfl
theorem fU (y:En.Spec.D En.Dop.D4 Jf): ∃ ps,En.Spec.parse (S:=En.Dop.D4) ⟨[.fd (.int .i64)],[T3]⟩ true [.v (.int .i64 y.2.2.2.1.1)] (Jf.enc (S:=En.Dop.D4) y 3).2.1 (RO 1) 1=some (((y.2.2.2.1.1,()),(y.2.1,())),ps)/\lk ps.m 0=some 0:=
 ⟨⟨(2,.AS 3 [.v (.int .i64 y.2.2.2.1.1)])::(1,.AS 109 [.ptr 0 0])::(3,.sl 4 y.2.1.1)::[],[(0,0)],[],1⟩,by kernel_rfl,by kernel_rfl⟩
theorem nC:(Tryz.Bv.E).Ok Tryz.prog/\Bu Tryz.prog 44=true/\Tryz.Bv.p.sp.okB Tryz.Bv.p.bn=true/\ ∃ fn,Tryz.prog.funcs[44]?=some fn/\fn.body=some (AT Tryz.prog 44)/\fn.ntmps=25/\fn.results=#[.tmp 4]:=by
 obtain ⟨h1,h2,h3,fn,h4,h5,h6,h7⟩:=Gy (p:=Tryz.Bv.p) Tryz.AI (BG Tryz.HU.holds (BG Tryz.Fm.holds (BG Tryz.ES.holds CS))) Tryz.Bv.ok
 have e1:Cq Tryz.prog 44=25:=by kernel_rfl
 have e2:EK Tryz.prog 44=[.tmp 4]:=by kernel_rfl
 refine ⟨h1,h2,h3,fn,h4,h5,h6.trans e1,?_⟩
 rw [e2] at h7
 rw [<-h7]
theorem V0 {l:Nat} {x:Int×Int} {W:World} {a:Act} {K:Act->World->Prop} (hsz:a.tmps.size=25)
  (h: ∀ a':Act,a'.defers=[]->a'.tmps.size=25->(∀ t,t≠7->t≠11->t≠12->a'.tmps.getD t undef=a.tmps.getD t undef)->a'.tmps.getD 7 undef=.int .i64 x.2->K a' W):
  mB.wpIn (Fence.wide.inRound l) 0 Tryz.prog (Exit.then K (fun _ _ _=>False)) { tmps:=(#[11,12].zip #[Value.int .i64 x.1,Value.int .i64 x.2]).foldl (fun t (p,v)=>t.setIfInBounds p v) a.tmps,defers:=[] } W:=by
 rw [gG]
 refine FX (.inr ⟨⟨l,rfl⟩,fun ⟨_,_,h⟩=>h,fun j o ho=>?_⟩) ?_
 ·cases j with
  | zero=>simp at ho;subst ho;unfold Ez;rw [VI]
  | succ j=>simp at ho
 ·show wpList _ _ _ [ZN] _ _
  unfold wpList
  rw [if_pos (by simp [Region.wanted,T6])]
  refine .inl (As (v:=.int .i64 x.2) (w':=W) ?_ ?_)
  ·simp [execOp,VI,Act.eval,hsz]
  ·refine h _ rfl (by simp [Act.put,Nx,hsz]) (fun t h1 h2 h3=>?_) ?_
   ·simp [Act.put,Nx,Array.getD_eq_getD_getElem?,Array.getElem?_setIfInBounds,Ne.symm h1,Ne.symm h2,Ne.symm h3]
   ·simp [Act.put,Nx,Array.getD_eq_getD_getElem?,Array.getElem?_setIfInBounds,hsz]
def nD (w0 W:World) (F D0 K:Nat->Prop) (β2:Nat->Nm) (y0:En.Spec.D En.Dop.D4 Jf) (pre:List (Int×Int)) (W':World):Prop:=
 ∃ y,Tryz.Bv.go (pre.map Prod.snd) y0=some y/\ON w0 W F D0 K Jf 3 β2 W.heap.size y W'
theorem bf {w0 W W':World} {F D0 K:Nat->Prop} {β2:Nat->Nm} {y0 yq:En.Spec.D En.Dop.D4 Jf} (hkp:B3 En.Dop.D4 w0 F D0) {xs pre rest:List (Int×Int)} {x:Int×Int} (hgo:Tryz.Bv.go (xs.map Prod.snd) y0=some yq) (hxs:xs=pre++x::rest) (hI:nD w0 W F D0 K β2 y0 pre W')
  {a':Act} (hd:a'.defers=[]) (hsz:a'.tmps.size=25) (h2:a'.tmps.getD 2 undef=.pointer (some ⟨(β2 1).AS,0,none⟩)) (h5:a'.tmps.getD 5 undef=.pointer (some ⟨(β2 2).AS,0,none⟩)) (h7:a'.tmps.getD 7 undef=.int .i64 x.2) (l:Nat):
  nI.wpIn (Fence.wide.inRound l) 0 Tryz.prog (MO W.heap.size (nD w0 W F D0 K β2 y0) (fun _ _ _=>False) (pre++[x]) W') a' W':=by
 obtain ⟨y,hy,D,β,vs,o,n,e1,e2,e3,e4,e5,e6,e7,e8,e9⟩:=hI
 obtain ⟨hE,_,_,_⟩:=nC
 have hst: ∃ y',Tryz.Bv.step x.2 y=some y':=by
  rw [hxs,List.map_append,Tryz.Bv.JE,hy] at hgo
  simp only [Option.bind_some,List.map_cons,Tryz.Bv.go] at hgo
  cases hs:Tryz.Bv.step x.2 y with
  | none=>rw [hs] at hgo;cases hgo
  | some y'=>exact ⟨y',rfl⟩
 obtain ⟨y',hy'⟩:=hst
 have he:l8.enc (S:=En.Dop.D4) (((),(),x.2,()),y.2) 3=([.ptr 1 0,.ptr 2 0,.v (.int .i64 x.2)],o,n):=by
  have h:l8.enc (S:=En.Dop.D4) (((),(),x.2,()),y.2) 3=([.ptr 1 0,.ptr 2 0,.v (.int .i64 x.2)],(Jf.enc (S:=En.Dop.D4) y 3).2.1,(Jf.enc (S:=En.Dop.D4) y 3).2.2):=by kernel_rfl
  rw [h,e1]
 refine UT hE (f0:=3000) (adr:=[1,0,1,0,1,1]) gH kO (sp:=l8) (qe:=Jf) (ts:=[2,5,7]) (bn:=3) (by kernel_rfl) (x:=(((),(),x.2,()),y.2)) (y:=y') hy' he e3.base ?_ e4 (e3.inv hkp) hd hsz ?_ (fun _ _ _ h=>h) (fun ⟨_,_,h⟩=>h) ?_ l
 ·simp only [BW,SV.on,and_true]
  omega
 ·intro j t v hj hv
  match j with
  | 0=>
   simp only [List.getElem?_cons_zero,Option.some.injEq] at hj hv;subst hj;subst hv
   exact ⟨by show 2<25;omega,by rw [h2,<- e2 1 (by omega)];simp only [SV.den]⟩
  | 1=>
   simp only [List.getElem?_cons_succ,List.getElem?_cons_zero,Option.some.injEq] at hj hv;subst hj;subst hv
   exact ⟨by show 5<25;omega,by rw [h5,<- e2 2 (by omega)];simp only [SV.den]⟩
  | 2=>
   simp only [List.getElem?_cons_succ,List.getElem?_cons_zero,Option.some.injEq] at hj hv;subst hj;subst hv
   exact ⟨by show 7<25;omega,by rw [h7];simp only [SV.den]⟩
  | j+3=>simp at hj
 ·intro a'' W'' D' β' vs' o' n' f1 f2 f3 f4
  obtain ⟨g1,g2⟩:=ON.next e3 e2 e5 e6 e7 e8 e9 f1 f2 f3 f4
  refine ⟨g1,y',?_,g2⟩
  rw [List.map_append,Tryz.Bv.JE,hy]
  simp only [Option.bind_some,List.map_cons,List.map_nil,Tryz.Bv.go,hy']
theorem bg {w:World} {D:Nat->Prop} {β:Nat->Nm} {o0:List (Nat×En.Own En.Dop.D4)} (hkp:B3 En.Dop.D4 w (AK o0 β) D) {fn:Func} (hres:fn.results=#[.tmp 4]) {W W':World} {K:Nat->Prop} {β2:Nat->Nm} {yq:En.Spec.D En.Dop.D4 Jf} (hβ:β2 0=β 0) (hm:ON w W (AK o0 β) D K Jf 3 β2 W.heap.size yq W')
  {a:Act} (hd:a.defers=[]) (hsz:a.tmps.size=25) (h2:a.tmps.getD 2 undef=.pointer (some ⟨(β2 1).AS,0,none⟩)) (h5:a.tmps.getD 5 undef=.pointer (some ⟨(β2 2).AS,0,none⟩)) (hK:W'.heap[W.heap.size]?=some (.deferred (some []))):
  mC.wpIn Fence.wide 0 Tryz.prog (Li (bodyPostM Fence.wide 2 Tryz.prog fn (Dr (S:=En.Dop.D4) Tryz.Bv.c ((yq.2.2.2.1.1,()),(yq.2.1,())) w D β o0))) { a with defers:={ target:=.collected W.heap.size,args:=#[] }::a.defers } W':=by
 obtain ⟨D',β',vs,o,n,e1,e2,e3,e4,e5,e6,e7,e8,e9⟩:=hm
 obtain ⟨hE,_,_,_⟩:=nC
 refine wpIn_wide.2 ?_
 rw [gI]
 refine wp_seq (wp_region_list ?_)
 have hkp':=e3.keeps hkp
 have ho:o=(Jf.enc (S:=En.Dop.D4) yq 3).2.1:=by rw [e1]
 have hn:n=(Jf.enc (S:=En.Dop.D4) yq 3).2.2:=by rw [e1]
 have hv:=KG hE (w0:=W') (F:=AK o β') (D0:=D') (bn:=3) (β0:=β') (f0:=3000) (k0:=[.ops ZO ZO.toList]) (s0:=⟨[(2,.ptr 1 0),(5,.ptr 2 0)],o,n,25⟩)
  (Q:=fun e a' w'=>match e with
   | .normal=>a'.defers=[]/\a'.tmps.getD 4 undef=.int .i64 yq.2.2.2.1.1/\ ∃ D2 β3,(∀ i,i<3->β3 i=β' i)/\GH W' (AK o β') D' D2 o (· <n) β3 w'
   | _=>False) hkp' (fun _ _ _ _ _ h=>h) e4 rfl (fun z hz=>by
    simp only [List.mem_cons,List.not_mem_nil,or_false] at hz
    subst hz;trivial) (by
   subst ho;subst hn
   rw [fT]
   intro _ _ D2 β3 a' w' hag hg
   refine ⟨hg.defers,by rw [hg.tmps 4 (.v (.int .i64 yq.2.2.2.1.1)) rfl];simp only [SV.den],D2,β3,hag,hg.gh⟩)
 have hl:=hv D' β' { a with defers:=[] } W' (fun _ _=>rfl) ⟨rfl,hsz,fun t x hx=>?_,fun t x hx=>?_,e3.base⟩
 ·simp only [List.map_cons,List.map_nil,Bg.it,after] at hl
  have hl2:=DN (ds:=[{ target:=.collected W.heap.size,args:=#[] }]) (Q':=Exit.then (Code.ret.wp Tryz.prog (Li (bodyPostM Fence.wide 2 Tryz.prog fn (Dr (S:=En.Dop.D4) Tryz.Bv.c ((yq.2.2.2.1.1,()),(yq.2.1,())) w D β o0)))) (Li (bodyPostM Fence.wide 2 Tryz.prog fn (Dr (S:=En.Dop.D4) Tryz.Bv.c ((yq.2.2.2.1.1,()),(yq.2.1,())) w D β o0)))) ?_ (fun _ _ _ h=>h.elim) (fun ⟨_,_,h⟩=>h) hl
  ·rw [hd];exact hl2
  ·rintro a' w' ⟨hd',hr,D2,β3,hag,hgh⟩
   refine wp_ret ?_
   obtain ⟨g1,g2⟩:=ON.next e3 e2 e5 e6 e7 e8 e9 e1 hag hgh e4
   have hK':=(g1 W.heap.size (.inl rfl)).trans hK
   show LeavesInM _ _ _ _ _ _ _ _ _
   rw [hd']
   refine ⟨by simp,.inl ⟨_,_,rfl,run_takeDeferred hK',?_⟩⟩
   refine ⟨.int .i64 yq.2.2.2.1.1,by rw [<-hr];exact results_tmp hres _ _ _,?_⟩
   obtain ⟨D4,β4,vs4,o4,n4,f1,f2,f3,f4,_⟩:=g2.VO (.deferred none)
   rcases he:En.Spec.enc (S:=En.Dop.D4) ⟨[.fd (.int .i64)],[T3]⟩ ((yq.2.2.2.1.1,()),(yq.2.1,())) 1 with ⟨rs,o5,n5⟩
   have ho4:o4=(Jf.enc (S:=En.Dop.D4) yq 3).2.1:=by rw [f1]
   obtain ⟨ps,hps,hm0⟩:=fU yq
   rw [<-ho4] at hps
   obtain ⟨β5,b1,b2,b3,b4,b5,_⟩:=En.Spec.CA f3 hps (by kernel_rfl) he
   have hrs:rs=[.v (.int .i64 yq.2.2.2.1.1)]:=by
    have h:En.Spec.enc (S:=En.Dop.D4) ⟨[.fd (.int .i64)],[T3]⟩ ((yq.2.2.2.1.1,()),(yq.2.1,())) 1=([.v (.int .i64 yq.2.2.2.1.1)],(En.Spec.enc (S:=En.Dop.D4) ⟨[.fd (.int .i64)],[T3]⟩ ((yq.2.2.2.1.1,()),(yq.2.1,())) 1).2.1,(En.Spec.enc (S:=En.Dop.D4) ⟨[.fd (.int .i64)],[T3]⟩ ((yq.2.2.2.1.1,()),(yq.2.1,())) 1).2.2):=by kernel_rfl
    rw [he] at h
    exact (Prod.mk.inj h).1
   refine ⟨_,β5,rs,o5,n5,he,?_,fun i hi=>?_,b2,b4,b5⟩
   ·rw [hrs];simp only [A5,SV.den]
   ·have hi0:i=0:=by have:i<1:=hi;omega
    subst hi0
    rw [b1 0 (by omega) 0 hm0,f2 0 (by omega),hβ]
 all_goals
  simp only [AJ] at hx
  split at hx
  ·rename_i he;subst he;cases hx
   first
    | (refine ⟨by show 2<25;omega,?_⟩;simp only [SV.on];omega)
    | (rw [show ({ a with defers:=[] }:Act).tmps.getD 2 undef=a.tmps.getD 2 undef from rfl,h2,<- e2 1 (by omega)];simp only [SV.den])
  ·split at hx
   ·rename_i he;subst he;cases hx
    first
     | (refine ⟨by show 5<25;omega,?_⟩;simp only [SV.on];omega)
     | (rw [show ({ a with defers:=[] }:Act).tmps.getD 5 undef=a.tmps.getD 5 undef from rfl,h5,<- e2 2 (by omega)];simp only [SV.den])
   ·simp [AQ] at hx
theorem S3 (args:Array Value) (w:World):(callFunc 120 args).run Tryz.prog w=.ok (.enter 120 args) w:=Cp (by kernel_rfl)
theorem Tryz.Bv.holds:Tryz.Bv.c.Holds Tryz.prog:=by
 obtain ⟨hE,hbod,hokB,fn,hf,hb,hn',hres⟩:=nC
 refine ⟨hbod,hokB,fun h=>(by cases h),fun x y hxy w D β vs o n he hg hon hn hiv=>?_⟩
 have hxy:Tryz.Bv.R x=some y:=hxy
 unfold Tryz.Bv.R at hxy
 split at hxy
 case h_2=>cases hxy
 rename_i hl
 have hl:=of_decide_eq_true hl
 obtain ⟨yq,hgo,hy⟩:=Option.bind_eq_some_iff.1 hxy
 cases hy
 have hkp:B3 En.Dop.D4 w (AK o β) D:=⟨hiv,fun k hk=>⟨hg.DF k hk,fun ⟨i,b,hi,hik⟩=>hg.off i b k hi hik hk⟩⟩
 have hx:x=(((),x.1.2.1,()),x.2):=rfl
 have he':En.Spec.enc (S:=En.Dop.D4) ⟨[.al 0 0,.fd (.sl 0)],[T3]⟩ (((),x.1.2.1,()),x.2) 1=(vs,o,n):=he
 have hlen:vs.length=2:=En.Spec.Ad he
 refine VC.TH (M:=0+3000) (bn:=1) hf hb hn' (by omega) hon hg ?_
 refine KG hE hkp (fun _ _ _ _ _ h=>h) (k0:=[.code [] (AT Tryz.prog 44)]) (s0:=⟨Bm 0 vs,o,n,25⟩) hn rfl (fun z hz=>by
  simp only [List.mem_cons,List.not_mem_nil,or_false] at hz
  subst hz;rfl) ?_
 rw [Tryz.Bv.part x.1.2.1 ((),x.2) vs o n he']
 intro _ _ D1 β1 a W hβ1 hg1
 simp only [List.map_cons,List.map_nil,Bg.it,after]
 obtain ⟨ps,hps,hp7,hpbl,hm1,hm2,hm0⟩:=YZ x.1.2.1 ((),x.2)
 rcases hq:Jf.enc (S:=En.Dop.D4) ((),(x.2.1,((),()),(-1,()),())) 3 with ⟨vq,o2,n2⟩
 have he2:En.Spec.enc (S:=En.Dop.D4) ⟨[.al 1 0,.al 2 0],Jf.bx⟩ (((),(),()),(x.2.1,((),()),(-1,()),())) 3=([.ptr 1 0,.ptr 2 0],o2,n2):=by
  have h:En.Spec.enc (S:=En.Dop.D4) ⟨[.al 1 0,.al 2 0],Jf.bx⟩ (((),(),()),(x.2.1,((),()),(-1,()),())) 3=([.ptr 1 0,.ptr 2 0],(Jf.enc (S:=En.Dop.D4) ((),(x.2.1,((),()),(-1,()),())) 3).2.1,(Jf.enc (S:=En.Dop.D4) ((),(x.2.1,((),()),(-1,()),())) 3).2.2):=by kernel_rfl
  rw [h,hq]
 obtain ⟨β2,b1,b2,_,_,b5,b6,b7,_,_⟩:=En.Spec.CA hg1.gh hps (by kernel_rfl) he2
 have r1:=b1 1 (by omega) 5 hm1
 have r2:=b1 2 (by omega) 6 hm2
 have r0:=b1 0 (by omega) 0 hm0
 obtain ⟨Bs,hBs,hBh⟩:=hg1.gh.own 7 _ (show lk (j8 x.1.2.1 ((),x.2)).o 7=some (.AS 50 [.h 1]) from rfl)
 obtain ⟨_,hrow⟩:=hg1.gh.own 1 _ (show lk (j8 x.1.2.1 ((),x.2)).o 1=some (.sl 0 x.1.2.1) by kernel_rfl)
 have BC:(β1 7).AS=Bs:=by unfold Nm.AS;rw [hBs];rfl
 have hBs':Bs<W.heap.size:=(Array.getElem?_eq_some_iff.1 hBh).1
 have hgd:=b2.iW (r:=Bs) (fun i b hi hk=>b6 7 _ i b Bs hp7 (by rw [hpbl];simp) hi (Nm.E0 hBs) hk) hBs' (hg1.gh.fresh 7 _ Bs (show lk (j8 x.1.2.1 ((),x.2)).o 7=some (.AS 50 [.h 1]) from rfl) (Nm.E0 hBs))
 have hrd: ∀ W':World,(∀ k,(FZ D1 β1 ps.bl k\/k=Bs)->W'.heap[k]?=W.heap[k]?)->de Bs x.1.2.1 W':=fun W' hs=>by
  have hc:W'.cell? ⟨Bs,0,none⟩=some ((β1 1).sl):=by
   rw [World.cell?_of_block (w:=W) (hs Bs (.inr rfl))]
   unfold World.cell?
   rw [hBh]
   simp [AB,SV.den]
  rcases SF hrow with ⟨h1,a',c,h2⟩|⟨b,off,cap,h2,h3,h4⟩
  ·exact .inl ⟨h1,a',c,by rw [hc,h2]⟩
  ·exact .inr ⟨b,off,cap,by rw [hc,h2],fun j hj=>by rw [World.cell?_of_block (w:=W) (hs b (.inl (.inl h3)))];exact h4 j hj⟩
 have t2:a.tmps.getD 2 undef=.pointer (some ⟨(β2 1).AS,0,none⟩):=by rw [hg1.tmps 2 (.ptr 5 0) rfl,r1];simp only [SV.den]
 have t5:a.tmps.getD 5 undef=.pointer (some ⟨(β2 2).AS,0,none⟩):=by rw [hg1.tmps 5 (.ptr 6 0) rfl,r2];simp only [SV.den]
 have hsz:a.tmps.size=25:=hg1.size
 have hgo':Tryz.Bv.go ((bwd x.1.2.1).map Prod.snd) ((),(x.2.1,((),()),(-1,()),()))=some yq:=by rw [UU];exact hgo
 refine wpIn_wide.2 (wpIn_wide.1 (Kx (gf:=120) (lb:=#[.pointer (some ⟨Bs,0,none⟩)]) ?_ S3 (Tryz.UQ Bs x.1.2.1 hl) (fun _=>rfl)
  (nD w W (AK o β) D (fun k=>FZ D1 β1 ps.bl k\/k=Bs) β2 ((),(x.2.1,((),()),(-1,()),()))) (fun _ _ _=>False) (fun pre W' ob ⟨y,h1,h2⟩ hlt=>⟨y,h1,ON.Zc y W' ob h2 hlt⟩) (fun _ _ _ _ h _=>h)
  (fun pre W' ⟨_,_,_,_,_,_,_,_,_,_,_,_,_,_,_,h9⟩=>hrd W' h9) (fun ob ob'=>⟨_,rfl,ON.first hq hgd b5 (fun _ h=>h) ob ob'⟩)
  (fun x' a'=>a'.defers=[]/\a'.tmps.size=25/\a'.tmps.getD 2 undef=.pointer (some ⟨(β2 1).AS,0,none⟩)/\a'.tmps.getD 5 undef=.pointer (some ⟨(β2 2).AS,0,none⟩)/\a'.tmps.getD 7 undef=.int .i64 x'.2) ?_ ?_ ?_ ?_))
 ·rw [show a.eval (.tmp 10)=a.tmps.getD 10 undef from rfl,hg1.tmps 10 (.fn 120 [.ptr 7 0]) rfl]
  simp only [SV.den,AB,Ec (show Nat.ble 1000000 120=false from rfl),BC]
 ·intro l x' W' K hK
  exact V0 hsz fun a' h1 h2 h3 h4=>hK a' ⟨h1,h2,by rw [h3 2 (by decide) (by decide) (by decide)];exact t2,by rw [h3 5 (by decide) (by decide) (by decide)];exact t5,h4⟩
 ·rintro pre x' rest a' W' hxs _ hI ⟨h1,h2,h3,h4,h5⟩
  exact bf hkp hgo' hxs hI h1 h2 h3 h4 h5 _
 ·rintro W' ⟨y,h1,h2⟩ hK
  rw [hgo'] at h1
  cases h1
  simp only [after,Exit.inBlock]
  exact bg hkp hres (by rw [r0];exact hβ1 0 (by omega)) h2 hg1.defers hsz t2 t5 hK
 ·exact fun _ _ _ _ h=>h.elim
abbrev OL:Gt:=⟨0,111,[.fd (.sl 4),.st 0,.own 5 83,.own 6 113,.st 0,.st 0,.fd (.int .i64),.st 0],false⟩
abbrev I4:List Gt:=[OL,⟨1,109,[.al 0 0],false⟩]
abbrev Sl:Type:=List En.Dop.Tok×Int×List En.Dop.Ab×List En.Dop.HM×Int×Int×Int×Int×Unit
def sD (s:Sl) (d:Int):Sl:=(s.1,s.2.1,s.2.2.1,s.2.2.2.1,s.2.2.2.2.1,d,s.2.2.2.2.2.2.1,s.2.2.2.2.2.2.2.1,())
abbrev MT:Type:=En.Spec.D En.Dop.D4 ⟨[.al 0 0],[OL]⟩->Option (En.Spec.D En.Dop.D4 ⟨[.fd (.int .i64)],[OL]⟩)
def cd (r:Int) (s:Sl):Option (En.Spec.D En.Dop.D4 ⟨[.fd (.int .i64)],[OL]⟩):=
 if BI (s.2.2.2.2.2.1 -1)=true then some ((r,()),(sD s (s.2.2.2.2.2.1 -1),())) else none
def Sb (m:MT) (s:Sl):Option (En.Spec.D En.Dop.D4 ⟨[.fd (.int .i64)],[OL]⟩):=
 if (!decide (s.2.2.2.2.2.2.1=0))=true then cd (-1) s else (m (((),()),(s,()))).bind fun v=>cd v.1.1 v.2.1
noncomputable def Tryz.within (m:MT) (s:Sl):Option (En.Spec.D En.Dop.D4 ⟨[.fd (.int .i64)],[OL]⟩):=
 if BI (s.2.2.2.2.2.1+1)=true then
  if decide (100<s.2.2.2.2.2.1+1)=true then
   (Tryz.Cj 6 (s.1,s.2.1,s.2.2.1,s.2.2.2.1,s.2.2.2.2.1,s.2.2.2.2.2.1+1,s.2.2.2.2.2.2)).bind fun y=>Sb m y.2.1
  else Sb m (sD s (s.2.2.2.2.2.1+1))
 else none
noncomputable abbrev w4:Code:=BO (AT Tryz.prog 143) [0,1,1,1]
noncomputable abbrev w5:Code:=BO (AT Tryz.prog 143) [1,1,1,1]
noncomputable def JT (c:Code):Array Oper:=match c with
 | .region _ o _=>o
 | _=>#[]
noncomputable def mF:Array Oper:=JT w4
noncomputable def oM:Array Oper:=JT (BO w5 [0,0])
noncomputable def oN:Array Oper:=JT (BO w5 [0,0,1,0])
noncomputable def oO:Array Oper:=JT (BO w5 [0,1])
noncomputable def lh:Array Oper:=JT (AT Tryz.prog 172)
theorem la:w4=.region 4 mF false:=by kernel_rfl
theorem lg:w5=.seq (.seq (.region 5 oM false) (.cond (.tmp 24) (.seq (.region 6 oN false) .ret) .skip)) (.seq (.region 7 oO false) .ret):=by kernel_rfl
theorem hZ:AT Tryz.prog 172=.region 0 lh false:=by kernel_rfl
noncomputable def iP:Oper:=(mF.getD 0 default)
noncomputable def lf:Oper:=(mF.getD 1 default)
theorem hU:mF.toList=[iP,lf]:=by kernel_rfl
theorem hP:iP.op=.makeFunc (.func 172) #[] #[.tmp 2]/\iP.dst=some 19/\iP.guard=none:=⟨by kernel_rfl,by kernel_rfl,by kernel_rfl⟩
theorem hS:lf.op=.defer { callee:=.value (.tmp 19),args:=#[],argTypes:=#[] }/\lf.dst=none/\lf.guard=none:=⟨by kernel_rfl,by kernel_rfl,by kernel_rfl⟩
def cb.p:Ak:=⟨[],2,⟨[.al 1 0],I4⟩,⟨[],I4⟩,false,[],[]⟩
noncomputable def cb.E:Env En.Dop.D4:=Au Tryz.prog 172 Tryz.tb [] cb.p
theorem cb.ok:AH En.Dop.D4 Tryz.prog 172 cb.p=true:=by kernel_rfl
theorem cb.mE (s:Sl):(N3 cb.E 3000 lh ⟨[.al 1 0],I4⟩ ⟨[],I4⟩ [0] [] 2 (((),()),(s,((),()),()))).eval (fun _ _=>none)=
  if BI (s.2.2.2.2.2.1 -1)=true then some ((),(sD s (s.2.2.2.2.2.1 -1),((),()),())) else none:=by kernel_rfl
theorem S4 (args:Array Value) (w:World):(callFunc 172 args).run Tryz.prog w=.ok (.enter 172 args) w:=Cp (by kernel_rfl)
theorem cg (r:Int) (s:Sl): ∃ ps,En.Spec.parse (S:=En.Dop.D4) ⟨[.fd (.int .i64)],[OL]⟩ true [.v (.int .i64 r)] (En.Spec.enc (S:=En.Dop.D4) ⟨[],I4⟩ ((),(s,((),()),())) 2).2.1 (RO 1) 1=some (((r,()),(s,())),ps)/\lk ps.m 0=some 0:=
 ⟨⟨(1,.AS 109 [.ptr 0 0])::(2,.sl 4 s.1)::[],[(0,0)],[],1⟩,by kernel_rfl,by kernel_rfl⟩
theorem dd {f:Nat} {sp:En.Spec} {out:Out (sp.D En.Dop.D4) (En.Spec.D En.Dop.D4 ⟨[.fd (.int .i64)],[OL]⟩)} {w:World} {D:Nat->Prop} {β:Nat->Nm} {o0:List (Nat×En.Own En.Dop.D4)} (hkp:B3 En.Dop.D4 w (AK o0 β) D) {fn:Func} (hres:fn.results=#[.tmp 4]) {β2:Nat->Nm} (hβ:β2 0=β 0)
  {r:Int} {s:Sl} (hd:BI (s.2.2.2.2.2.1 -1)=true) {a:Act} {W:World}
  (hh:MX En.Dop.D4 w (AK o0 β) D ⟨[.fd (.int .i64)],I4⟩ [4] 2 β2 27 ((r,()),(s,((),()),())) a W):
  Leaves Tryz.prog fn a.tmps (Dr (S:=En.Dop.D4) ⟨f,1,sp,⟨[.fd (.int .i64)],[OL]⟩,false,out⟩ ((r,()),(sD s (s.2.2.2.2.2.1 -1),())) w D β o0) [{ target:=.fn (.func 172) #[.pointer (some ⟨(β2 1).AS,0,none⟩)],args:=#[] }] .returning W:=by
 obtain ⟨hE,_,_,fn7,hf7,hb7,hn7,hr7⟩:=Gy (p:=cb.p) (ct:=[]) Tryz.AI CS cb.ok
 have hn7:fn7.ntmps=8:=hn7
 obtain ⟨⟨D1,β1,vs,o,n,he,h1,h2,h3,h4,h5⟩,hsz⟩:=hh
 have hr:a.tmps.getD 4 undef=.int .i64 r:=by
  have hvs:vs=[.v (.int .i64 r)]:=by
   have h:En.Spec.enc (S:=En.Dop.D4) ⟨[.fd (.int .i64)],I4⟩ ((r,()),(s,((),()),())) 2=([.v (.int .i64 r)],(En.Spec.enc (S:=En.Dop.D4) ⟨[.fd (.int .i64)],I4⟩ ((r,()),(s,((),()),())) 2).2.1,(En.Spec.enc (S:=En.Dop.D4) ⟨[.fd (.int .i64)],I4⟩ ((r,()),(s,((),()),())) 2).2.2):=by kernel_rfl
   rw [he] at h
   exact (Prod.mk.inj h).1
  subst hvs
  have:=(h5 0 4 _ rfl rfl).2
  rw [this];simp only [SV.den]
 have he7:En.Spec.enc (S:=En.Dop.D4) ⟨[.al 1 0],I4⟩ (((),()),(s,((),()),())) 2=([.ptr 1 0],o,n):=by
  have h:En.Spec.enc (S:=En.Dop.D4) ⟨[.al 1 0],I4⟩ (((),()),(s,((),()),())) 2=([.ptr 1 0],(En.Spec.enc (S:=En.Dop.D4) ⟨[.fd (.int .i64)],I4⟩ ((r,()),(s,((),()),())) 2).2.1,(En.Spec.enc (S:=En.Dop.D4) ⟨[.fd (.int .i64)],I4⟩ ((r,()),(s,((),()),())) 2).2.2):=by kernel_rfl
  rw [h,he]
 have hseg:=cb.mE s
 rw [if_pos hd] at hseg
 refine leaves_cons (by simp) (by rw [invoke];exact S4 _ _) ?_
 refine (callsD_of_wp (R:=fun e w'=>(∃ v,e=.returned v)/\ ∃ a',MX En.Dop.D4 w (AK o0 β) D ⟨[],I4⟩ [] 2 β2 8 ((),(sD s (s.2.2.2.2.2.1 -1),((),()),())) a' w') hf7 hb7 ?_).mono ?_
 ·rw [hZ]
  refine wp_region_list (N4 hE (by kernel_rfl) rfl hseg hkp ⟨⟨D1,β1,_,o,n,he7,h1,h2,?_,h4,?_⟩,?_⟩ ?_)
  ·simp only [BW,SV.on,and_true];omega
  ·intro j t v hj hv
   cases j with
   | zero=>
    simp only [List.getElem?_cons_zero,Option.some.injEq] at hj hv;subst hj;subst hv
    refine ⟨by show 0<8;omega,?_⟩
    rw [Array.getD_eq_getD_getElem?,Array.getElem?_append_left (by simp)]
    simp [SV.den,h1 1 (by omega)]
   | succ j=>simp at hj
  ·simp [hn7];rfl
  ·intro a' W' hd' hh'
   refine ⟨hd',.tuple #[],results_none (by rw [<-Array.toList_inj];rw [hr7];kernel_rfl) _ _ _,⟨_,rfl⟩,a',hh'⟩
 ·rintro e u w' ⟨rfl,⟨v,rfl⟩,a',⟨D2,β3,vs2,o2,n2,k1,k2,k3,k4,k5,_⟩,_⟩
  show ∃ v,(results fn a.tmps).run Tryz.prog w'=.ok v w'/\_
  refine ⟨.int .i64 r,by rw [<-hr];exact results_tmp hres _ _ _,?_⟩
  rcases he8:En.Spec.enc (S:=En.Dop.D4) ⟨[.fd (.int .i64)],[OL]⟩ ((r,()),(sD s (s.2.2.2.2.2.1 -1),())) 1 with ⟨rs,o5,n5⟩
  obtain ⟨ps,hps,hm0⟩:=cg r (sD s (s.2.2.2.2.2.1 -1))
  have ho2:o2=(En.Spec.enc (S:=En.Dop.D4) ⟨[],I4⟩ ((),(sD s (s.2.2.2.2.2.1 -1),((),()),())) 2).2.1:=by rw [k1]
  rw [<-ho2] at hps
  obtain ⟨β5,b1,b2,b3,b4,b5,_⟩:=En.Spec.CA k3 hps (by kernel_rfl) he8
  have hrs:rs=[.v (.int .i64 r)]:=by
   have h: ∀ s':Sl,En.Spec.enc (S:=En.Dop.D4) ⟨[.fd (.int .i64)],[OL]⟩ ((r,()),(s',())) 1=([.v (.int .i64 r)],(En.Spec.enc (S:=En.Dop.D4) ⟨[.fd (.int .i64)],[OL]⟩ ((r,()),(s',())) 1).2.1,(En.Spec.enc (S:=En.Dop.D4) ⟨[.fd (.int .i64)],[OL]⟩ ((r,()),(s',())) 1).2.2):=fun s'=>by kernel_rfl
   have h:=h (sD s (s.2.2.2.2.2.1 -1))
   rw [he8] at h
   exact (Prod.mk.inj h).1
  refine ⟨_,β5,rs,o5,n5,he8,?_,fun i hi=>?_,b2,b4,b5⟩
  ·rw [hrs];simp only [A5,SV.den]
  ·have hi0:i=0:=by have:i<1:=hi;omega
   subst hi0
   rw [b1 0 (by omega) 0 hm0,k2 0 (by omega),hβ]
abbrev cj (g:Nat):List Cw:=[.fn g [(0,0)],.al 1 0]
abbrev iQ (g:Nat):List Cw:=[.fn g [(0,0)],.al 1 0,.fd .bool]
def nc (g:Nat):Ak:=⟨[(999998,⟨[[0,0,1,1,1],[0,1,1,1,1]],[1,2],2,⟨(cj g),I4⟩⟩)],1,⟨[.al 0 0,.fn g [(0,0)]],[OL]⟩,⟨[.fd (.int .i64)],[OL]⟩,false,[],[]⟩
noncomputable def wk (f:Nat) (m:MT):B2 En.Dop.D4:=⟨f,1,⟨[.al 0 0],[OL]⟩,⟨[.fd (.int .i64)],[OL]⟩,false,.opt m⟩
noncomputable def wE (f g:Nat) (m:MT):Env En.Dop.D4:=Au Tryz.prog 143 Tryz.tb [Tryz.Cj.c,wk f m] (nc g)
noncomputable def wc (g:Nat) (m:MT):B2 En.Dop.D4:=⟨143,1,⟨[.al 0 0,.fn g [(0,0)]],[OL]⟩,⟨[.fd (.int .i64)],[OL]⟩,false,.opt fun x=>Tryz.within m x.2.1⟩
def W5 (f g:Nat):Prop:= ∀ (m:MT) (s:Sl),(N3 (wE f g m) 3000 oM ⟨(cj g),I4⟩ ⟨(iQ g),I4⟩ [1,2] [1,2,24] 2 (((),(),()),(s,((),()),()))).eval (fun _ _=>none)=some (((),(),(!decide (s.2.2.2.2.2.2.1=0)),()),(s,((),()),()))
theorem s6 (f g:Nat) (m:MT) (s:Sl) (b:Bool):(N3 (wE f g m) 3000 oN ⟨(iQ g),I4⟩ ⟨[.fd (.int .i64)],I4⟩ [1,2,24] [4] 2 (((),(),b,()),(s,((),()),()))).eval (fun _ _=>none)=some ((-1,()),(s,((),()),())):=by kernel_rfl
def W7 (f g:Nat):Prop:= ∀ (m:MT) (s:Sl) (b:Bool),(N3 (wE f g m) 3000 oO ⟨(iQ g),I4⟩ ⟨[.fd (.int .i64)],I4⟩ [1,2,24] [4] 2 (((),(),b,()),(s,((),()),()))).eval (fun _ _=>none)=(m (((),()),(s,()))).bind fun v=>some ((v.1.1,()),(v.2.1,((),()),()))
def W0 (f g:Nat):Prop:= ∀ (m:MT) (s:Sl) (vs:List SV) (o:List (Nat×En.Own En.Dop.D4)) (n:Nat) (h:En.Spec.enc (S:=En.Dop.D4) ⟨[.al 0 0,.fn g [(0,0)]],[OL]⟩ (((),(),()),(s,())) 1=(vs,o,n)),
  (nX (wE f g m) 3000 ⟨(cj g),I4⟩ [1,2] 1 2 999998 [[0,0,1,1,1],[0,1,1,1,1]] [.code [] (AT Tryz.prog 143)] ⟨Bm 0 vs,o,n,27⟩).eval (fun _ _=>none)=
  if BI (s.2.2.2.2.2.1+1)=true then
   if decide (100<s.2.2.2.2.2.1+1)=true then
    (Tryz.Cj 6 (s.1,s.2.1,s.2.2.1,s.2.2.2.1,s.2.2.2.2.1,s.2.2.2.2.2.1+1,s.2.2.2.2.2.2)).bind fun y=>some (((),(),()),(y.2.1,((),()),()))
   else some (((),(),()),(sD s (s.2.2.2.2.2.1+1),((),()),()))
  else none
theorem iA {f g:Nat} (h5:W5 f g) (h7:W7 f g) {m:MT} (hE:(wE f g m).Ok Tryz.prog) {x:En.Spec.D En.Dop.D4 ⟨[.al 0 0,.fn g [(0,0)]],[OL]⟩} {y:En.Spec.D En.Dop.D4 ⟨[.fd (.int .i64)],[OL]⟩} {w:World} {D:Nat->Prop} {β:Nat->Nm} {o0:List (Nat×En.Own En.Dop.D4)} (hkp:B3 En.Dop.D4 w (AK o0 β) D) {fn:Func} (hres:fn.results=#[.tmp 4]) {β2:Nat->Nm} (hβ:β2 0=β 0) {s:Sl} (hy:Sb m s=some y)
  {a:Act} {W:World} (hd:a.defers=[]) (hh:MX En.Dop.D4 w (AK o0 β) D ⟨(cj g),I4⟩ [1,2] 2 β2 27 (((),(),()),(s,((),()),())) a W):
  w4.wpIn Fence.wide 0 Tryz.prog (after Fence.wide Tryz.prog 0 [.code w5] (Li (bodyPostD Tryz.prog fn (Dr (S:=En.Dop.D4) (wc g m) y w D β o0)))) a W:=by
 have ht2:a.tmps.getD 2 undef=.pointer (some ⟨(β2 1).AS,0,none⟩):=by
  obtain ⟨⟨D1,β1,vs,o,n,he,h1,h2,h3,h4,h5⟩,hsz⟩:=hh
  have hvs:vs=[.fn g [.ptr 0 0],.ptr 1 0]:=by
   have h:En.Spec.enc (S:=En.Dop.D4) ⟨(cj g),I4⟩ (((),(),()),(s,((),()),())) 2=([.fn g [.ptr 0 0],.ptr 1 0],(En.Spec.enc (S:=En.Dop.D4) ⟨(cj g),I4⟩ (((),(),()),(s,((),()),())) 2).2.1,(En.Spec.enc (S:=En.Dop.D4) ⟨(cj g),I4⟩ (((),(),()),(s,((),()),())) 2).2.2):=by kernel_rfl
   rw [he] at h
   exact (Prod.mk.inj h).1
  subst hvs
  rw [(h5 1 2 _ rfl rfl).2,<- h1 1 (by omega)]
  simp only [SV.den]
 obtain ⟨a1,a2,a3⟩:=hP
 obtain ⟨b1,b2,b3⟩:=hS
 have hsz:=hh.sz
 rw [la]
 refine FX (.inl rfl) ?_
 rw [hU]
 unfold wpList
 rw [if_pos (by simp [Region.wanted,a3])]
 refine .inl (As (v:=.func (.func 172) #[] #[.pointer (some ⟨(β2 1).AS,0,none⟩)]) (w':=W) ?_ ?_)
 ·simp [execOp,a1,Instr.makeFunc,Act.eval,<- ht2]
 unfold wpList
 rw [if_pos (by simp [Region.wanted,b3])]
 refine .inl ?_
 have hex:(execOp (a.put iP.dst (.func (.func 172) #[] #[.pointer (some ⟨(β2 1).AS,0,none⟩)])).eval lf).run Tryz.prog W=.ok (.defer { target:=.fn (.func 172) #[.pointer (some ⟨(β2 1).AS,0,none⟩)],args:=#[] }) W:=by
  have hev:(a.put iP.dst (.func (.func 172) #[] #[.pointer (some ⟨(β2 1).AS,0,none⟩)])).eval (.tmp 19)=.func (.func 172) #[] #[.pointer (some ⟨(β2 1).AS,0,none⟩)]:=by
   simp [Act.eval,Act.put,a2,Array.getD_eq_getD_getElem?,Array.getElem?_setIfInBounds,hsz]
  simp [execOp,b1,resolve,hev,Deferred.ofValue]
 unfold Oper.wp
 rw [hex,Oper.upon_defer,b2]
 simp only [wpList,after,Act.put,a2,hd]
 refine wpIn_wide.2 ?_
 rw [lg]
 have hh2:MX En.Dop.D4 w (AK o0 β) D ⟨(cj g),I4⟩ [1,2] 2 β2 27 (((),(),()),(s,((),()),())) { a.put (some 19) (.func (.func 172) #[] #[.pointer (some ⟨(β2 1).AS,0,none⟩)]) with defers:=[{ target:=.fn (.func 172) #[.pointer (some ⟨(β2 1).AS,0,none⟩)],args:=#[] }] } W:=hh.put (by decide)
 refine wp_seq (wp_seq (wp_region_list (N4 hE (by kernel_rfl) rfl (h5 m s) hkp hh2 fun a3 W3 hd3 hh3=>?_)))
 have ht24:a3.eval (.tmp 24)=.bool (!decide (s.2.2.2.2.2.2.1=0)):=by
  obtain ⟨⟨D1,β1,vs,o,n,he,h1,h2,h3,h4,h5⟩,hsz⟩:=hh3
  have hvs: ∀ b:Bool,En.Spec.enc (S:=En.Dop.D4) ⟨(iQ g),I4⟩ (((),(),b,()),(s,((),()),())) 2=([.fn g [.ptr 0 0],.ptr 1 0,.b b],(En.Spec.enc (S:=En.Dop.D4) ⟨(iQ g),I4⟩ (((),(),b,()),(s,((),()),())) 2).2.1,(En.Spec.enc (S:=En.Dop.D4) ⟨(iQ g),I4⟩ (((),(),b,()),(s,((),()),())) 2).2.2):=fun b=>by kernel_rfl
  have h:=hvs (!decide (s.2.2.2.2.2.2.1=0))
  rw [he] at h
  have h:=(Prod.mk.inj h).1
  subst h
  rw [show a3.eval (.tmp 24)=a3.tmps.getD 24 undef from rfl,(h5 2 24 _ rfl rfl).2]
  simp only [SV.den]
 unfold Sb at hy
 split at hy
 ·rename_i hb
  unfold cd at hy
  split at hy
  case isFalse=>cases hy
  rename_i hin
  cases hy
  refine wp_cond_true (by rw [ht24,hb]) (wp_seq (wp_region_list (N4 hE (by kernel_rfl) rfl ((s6 f g) m s _) hkp hh3 fun a4 W4 hd4 hh4=>wp_ret ?_)))
  show Leaves _ _ _ _ _ _ _
  rw [hd4,hd3]
  exact dd hkp hres hβ hin hh4
 ·rename_i hb
  have hb:(!decide (s.2.2.2.2.2.2.1=0))=false:=by simpa using hb
  obtain ⟨v,hv,hy⟩:=Option.bind_eq_some_iff.1 hy
  unfold cd at hy
  split at hy
  case isFalse=>cases hy
  rename_i hin
  cases hy
  refine wp_cond_false (by rw [ht24,hb]) (wp_skip ?_)
  have h7:=h7 m s (!decide (s.2.2.2.2.2.2.1=0))
  rw [hv] at h7
  refine wp_seq (wp_region_list (N4 hE (by kernel_rfl) rfl h7 hkp hh3 fun a4 W4 hd4 hh4=>wp_ret ?_))
  show Leaves _ _ _ _ _ _ _
  rw [hd4,hd3]
  exact dd hkp hres hβ hin hh4
theorem MS {f g:Nat} (hs5:W5 f g) (h0:W0 f g) (h7:W7 f g) (ok:AH En.Dop.D4 Tryz.prog 143 (nc g)=true) {m:MT} (hm:(wk f m).Holds Tryz.prog):(wc g m).Holds Tryz.prog:=by
 obtain ⟨hE,hbod,hokB,fn,hf,hb,hn,hr⟩:=Gy (p:=(nc g)) (ct:=[Tryz.Cj.c,wk f m]) Tryz.AI (BG Tryz.Cj.holds (BG hm CS)) ok
 have e1:Cq Tryz.prog 143=27:=by kernel_rfl
 have e2:EK Tryz.prog 143=[.tmp 4]:=by kernel_rfl
 have hres:fn.results=#[.tmp 4]:=by rw [e2] at hr;rw [<-hr]
 refine ⟨hbod,hokB,fun h=>(by cases h),fun x y hxy w D β vs o n he hg hon hn' hiv=>?_⟩
 have hxy:Tryz.within m x.2.1=some y:=hxy
 have hkp:B3 En.Dop.D4 w (AK o β) D:=⟨hiv,fun k hk=>⟨hg.DF k hk,fun ⟨i,b,hi,hik⟩=>hg.off i b k hi hik hk⟩⟩
 have hlen:vs.length=2:=En.Spec.Ad he
 have hs0:=h0 m x.2.1 vs o n he
 have key: ∀ s:Sl,Sb m s=some y->(nX (wE f g m) 3000 ⟨(cj g),I4⟩ [1,2] 1 2 999998 [[0,0,1,1,1],[0,1,1,1,1]] [.code [] (AT Tryz.prog 143)] ⟨Bm 0 vs,o,n,27⟩).eval (fun _ _=>none)=some (((),(),()),(s,((),()),()))->Calls Tryz.prog 143 (AB β vs).toArray w (Dr (wc g m) y w D β o):=fun s hs hev=>
  VC.eb (M:=0+3000) (bn:=1) hf hb (hn.trans e1) (by omega) hon hg (lX hE (k1:=[.code [0,1,1,1] w4,.code [1,1,1,1] w5]) (by kernel_rfl) (by kernel_rfl) (by omega) (k0:=[.code [] (AT Tryz.prog 143)]) hev hkp (fun _ _ _ _ _ h=>h) hn' rfl (fun z hz=>by
   simp only [List.mem_cons,List.not_mem_nil,or_false] at hz
   subst hz;rfl) fun β2 a W hag hd hh=>iA hs5 h7 (x:=x) hE hkp hres (hag 0 (by omega)) hs hd hh)
 unfold Tryz.within at hxy
 split at hxy
 case isFalse=>cases hxy
 rename_i h1
 rw [if_pos h1] at hs0
 split at hxy
 ·rename_i h2
  rw [if_pos h2] at hs0
  obtain ⟨z,hz,hy⟩:=Option.bind_eq_some_iff.1 hxy
  rw [hz] at hs0
  exact key _ hy hs0
 ·rename_i h2
  rw [if_neg h2] at hs0
  exact key _ hxy hs0
theorem nZ.holds {m:MT} (hm:(wk 200 m).Holds Tryz.prog):(wc 1000200 m).Holds Tryz.prog:=MS (f:=200) (g:=1000200) (fun _ _=>by kernel_rfl) (fun _ _ _ _ _ h=>by cases h;kernel_rfl) (fun _ _ _=>by kernel_rfl) (by kernel_rfl) hm
theorem na.holds {m:MT} (hm:(wk 208 m).Holds Tryz.prog):(wc 1000208 m).Holds Tryz.prog:=MS (f:=208) (g:=1000208) (fun _ _=>by kernel_rfl) (fun _ _ _ _ _ h=>by cases h;kernel_rfl) (fun _ _ _=>by kernel_rfl) (by kernel_rfl) hm
theorem nb.holds {m:MT} (hm:(wk 211 m).Holds Tryz.prog):(wc 1000211 m).Holds Tryz.prog:=MS (f:=211) (g:=1000211) (fun _ _=>by kernel_rfl) (fun _ _ _ _ _ h=>by cases h;kernel_rfl) (fun _ _ _=>by kernel_rfl) (by kernel_rfl) hm
theorem nY.holds {m:MT} (hm:(wk 144 m).Holds Tryz.prog):(wc 1000144 m).Holds Tryz.prog:=MS (f:=144) (g:=1000144) (fun _ _=>by kernel_rfl) (fun _ _ _ _ _ h=>by cases h;kernel_rfl) (fun _ _ _=>by kernel_rfl) (by kernel_rfl) hm
end Go.Proofs
namespace Go.Proofs.Tryz
open Go Go.En
def Lh.p:Ak:=⟨[],0,⟨[],[]⟩,⟨[.own 1 9],[]⟩,true,[],[]⟩
theorem Lh.ok:AH Dop.D4 prog 210 Lh.p=true:=by kernel_rfl
def Dz.p:Ak:=⟨[],1,⟨[.al 0 0],[PS.b0]⟩,⟨[.fd (.int .i64)],[PS.b0]⟩,false,[],[]⟩
theorem Dz.ok:AH Dop.D4 prog 174 Dz.p=true:=by kernel_rfl
def DI.p:Ak:=⟨[],1,⟨[.al 0 0,.fn 1000200 [(0,0)]],[PS.b0]⟩,⟨[.fd (.int .i64)],[PS.b0]⟩,false,[],[]⟩
abbrev EB.q3:Cut:=⟨[[0,0,0,0,1,0,1,1],[0,1,0,0,1,0,1,1],[2,0,0,1,0,1,1],[1,0],[0,1,1,1]],[0,3,10,11,12],1,⟨[.al 0 0,.fd (.int .i64),.own 1 9,.fd (.int .i64),.fd (.int .i64)],[PS.b0]⟩⟩
def EB.p:Ak:=⟨[(3,EB.q3)],1,⟨[.al 0 0],[PS.b0]⟩,⟨[.fd (.int .i64)],[PS.b0]⟩,false,[],[]⟩
theorem EB.ok:AH Dop.D4 prog 200 EB.p=true:=by kernel_rfl
def J9.p:Ak:=⟨[],1,⟨[.al 0 0],[PS.b0]⟩,⟨[.fd (.int .i64)],[PS.b0]⟩,false,[],[]⟩
theorem J9.ok:AH Dop.D4 prog 208 J9.p=true:=by kernel_rfl
abbrev C8.q4:Cut:=⟨[[0,0,0,0,0,0,1,1,1,0,1],[0,1,0,0,0,0,1,1,1,0,1],[0,1,0,0,0,1,1,1,0,1],[1,1],[2,0,0,1,1,1,0,1],[1,0],[3,0,1]],[0,1,5],1,⟨[.al 0 0,.fd (.int .i64),.fd (.int .i64)],[PS.b0]⟩⟩
abbrev C8.q5:Cut:=⟨[[0,0,0,0,1,0,0,0,0,1,1,1,0,1],[0,1,0,0,1,0,0,0,0,1,1,1,0,1],[2,0,0,1,0,0,0,0,1,1,1,0,1],[1,2],[0,1,0,0,0,1,1,1,0,1],[1,1],[2,0,0,1,1,1,0,1],[1,0],[3,0,1]],[0,1,5,24,25,26],1,⟨[.al 0 0,.fd (.int .i64),.fd (.int .i64),.own 1 9,.fd (.int .i64),.fd (.int .i64)],[PS.b0]⟩⟩
def C8.p:Ak:=⟨[(4,C8.q4),(5,C8.q5)],1,⟨[.al 0 0,.fd (.int .i64)],[PS.b0]⟩,⟨[.fd (.int .i64)],[PS.b0]⟩,false,[],[]⟩
theorem C8.ok:AH Dop.D4 prog 209 C8.p=true:=by kernel_rfl
abbrev Dn.q3:Cut:=⟨[[0,0,0,0,1,0,1,1],[0,1,0,0,1,0,1,1],[2,0,0,1,0,1,1],[1,0],[0,1,1,1]],[0,3,13,14,15],1,⟨[.al 0 0,.fd (.int .i64),.own 1 9,.fd (.int .i64),.fd (.int .i64)],[PS.b0]⟩⟩
def Dn.p:Ak:=⟨[(3,Dn.q3)],1,⟨[.al 0 0],[PS.b0]⟩,⟨[.fd (.int .i64)],[PS.b0]⟩,false,[(19,⟨[(0,true),(1,false),(2,true),(3,true),(4,true),(5,true),(6,false),(7,true),(8,true),(9,true),(10,true),(11,false),(12,false),(13,true),(14,true)],[1000000],[0,1,3,7,15,31,63,127,7,263,775,1799,3847,8191,16383],false⟩)],[]⟩
theorem Dn.ok:AH Dop.D4 prog 211 Dn.p=true:=by kernel_rfl
def CV.p:Ak:=⟨[],1,⟨[.al 0 0,.fn 1000211 [(0,0)]],[PS.b0]⟩,⟨[.fd (.int .i64)],[PS.b0]⟩,false,[],[]⟩
def KA.p:Ak:=⟨[],1,⟨[.al 0 0],[PS.b0]⟩,⟨[.fd (.int .i64)],[PS.b0]⟩,false,[(13,⟨[(0,true),(1,false),(2,true),(3,false),(4,true)],[5,1000004],[0,1,0,4,15,31],false⟩)],[]⟩
theorem KA.ok:AH Dop.D4 prog 213 KA.p=true:=by kernel_rfl
abbrev ED.q2:Cut:=⟨[[0,0,0,0,0,0,1,1],[0,1,0,0,0,0,1,1],[0,1,0,0,0,1,1],[2,0,0,0,1,1],[1,0],[0,1,1,1]],[0,3],1,⟨[.al 0 0,.own 0 3],[PS.b0]⟩⟩
def ED.p:Ak:=⟨[(2,ED.q2)],1,⟨[.al 0 0],[PS.b0]⟩,⟨[.fd (.int .i64)],[PS.b0]⟩,false,[],[]⟩
theorem ED.ok:AH Dop.D4 prog 214 ED.p=true:=by kernel_rfl
abbrev Dp.q1:Cut:=⟨[[0,0,0,0,0,0,1],[0,1,0,0,0,0,1],[0,1,0,0,0,1],[2,0,0,0,1],[1,0],[0,1,1]],[0,1],1,⟨[.al 0 0,.fd (.int .i64)],[PS.b0]⟩⟩
def Dp.p:Ak:=⟨[(1,Dp.q1)],1,⟨[.al 0 0,.fd (.int .i64)],[PS.b0]⟩,⟨[.fd (.int .i64)],[PS.b0]⟩,false,[(12,⟨[(0,true),(1,true),(2,true),(3,false),(4,true),(5,true),(6,true),(7,false),(8,true),(9,false),(10,false),(11,false),(12,true)],[],[0,1,3,7,0,16,48,112,240,511,1023,2047,4095],false⟩),(17,⟨[(0,true),(1,true),(2,true),(3,false),(4,true),(5,true),(6,true),(7,false),(8,true),(9,false),(10,false),(11,false),(12,true),(13,false),(14,true)],[15,1000006],[0,1,3,7,0,16,48,112,240,511,1023,2047,0,4096,16383,32767],false⟩)],[]⟩
theorem Dp.ok:AH Dop.D4 prog 212 Dp.p=true:=by kernel_rfl
def DJ.p:Ak:=⟨[],1,⟨[.al 0 0,.fn 1000208 [(0,0)]],[PS.b0]⟩,⟨[.fd (.int .i64)],[PS.b0]⟩,false,[],[]⟩
abbrev Ay.T:Type:=(((Unit×Unit)×(PS×Unit))->Option ((Int×Unit)×(PS×Unit)))×(((Unit×Unit×Unit)×(PS×Unit))->Option ((Int×Unit)×(PS×Unit)))×(((Unit×Unit)×(PS×Unit))->Option ((Int×Unit)×(PS×Unit)))×(((Unit×Unit)×(PS×Unit))->Option ((Int×Unit)×(PS×Unit)))×(((Unit×Int×Unit)×(PS×Unit))->Option ((Int×Unit)×(PS×Unit)))×(((Unit×Unit)×(PS×Unit))->Option ((Int×Unit)×(PS×Unit)))×(((Unit×Unit×Unit)×(PS×Unit))->Option ((Int×Unit)×(PS×Unit)))×(((Unit×Unit)×(PS×Unit))->Option ((Int×Unit)×(PS×Unit)))×(((Unit×Unit)×(PS×Unit))->Option ((Int×Unit)×(PS×Unit)))×(((Unit×Int×Unit)×(PS×Unit))->Option ((Int×Unit)×(PS×Unit)))×(((Unit×Unit×Unit)×(PS×Unit))->Option ((Int×Unit)×(PS×Unit)))×Unit
def NP.p:Ak:=⟨[],1,⟨[.al 0 0],[PS.b0]⟩,⟨[.fd (.int .i64)],[PS.b0]⟩,false,[],[]⟩
theorem NP.ok:AH Dop.D4 prog 175 NP.p=true:=by kernel_rfl
def NQ.p:Ak:=⟨[],1,⟨[.al 0 0,.fd .str],[PS.b0]⟩,⟨[.fd (.int .i64)],[PS.b0]⟩,false,[],[]⟩
theorem NQ.ok:AH Dop.D4 prog 176 NQ.p=true:=by kernel_rfl
def NR.p:Ak:=⟨[],1,⟨[.al 0 0],[PS.b0]⟩,⟨[.fd .bool],[PS.b0]⟩,false,[(1,⟨[(0,true),(1,false),(2,true),(3,true),(4,true),(5,true),(6,true),(7,true),(8,false),(9,true),(10,true),(11,true),(12,true),(13,false),(14,false),(15,true),(16,true),(17,true),(18,true),(19,true),(20,true),(21,false),(22,true),(23,true),(24,true),(25,false),(26,true),(27,false),(28,false),(29,false),(30,true),(31,true),(32,true)],[1000000],[0,1,3,7,15,31,63,127,255,511,31,1055,3103,7199,15391,32767,65535,131071,262143,524287,1048575,2097151,262143,4456447,12845055,29622271,63176703,134217727,268435455,536870911,1073741823,2147483647,4294967295],false⟩)],[]⟩
theorem NR.ok:AH Dop.D4 prog 177 NR.p=true:=by kernel_rfl
abbrev Ha.q4:Cut:=⟨[[0,0,0,0,0,0,1,1,1,1],[0,1,0,0,0,0,1,1,1,1],[0,1,0,0,0,1,1,1,1],[2,0,0,0,1,1,1,1],[1,0],[0,1,1,1,1,1]],[0,3,4],2,⟨[.al 0 0,.al 1 0,.own 0 3],[PS.b0,⟨1,83,[.st 5],false⟩]⟩⟩
def Ha.p:Ak:=⟨[(4,Ha.q4)],1,⟨[.al 0 0],[PS.b0]⟩,⟨[.fd (.int .i64)],[PS.b0]⟩,false,[],[]⟩
theorem Ha.ok:AH Dop.D4 prog 86 Ha.p=true:=by kernel_rfl
def Il.p:Ak:=⟨[],1,⟨[.al 0 0],[PS.b0]⟩,⟨[.fd (.int .i64)],[PS.b0]⟩,false,[],[]⟩
theorem Il.ok:AH Dop.D4 prog 119 Il.p=true:=by kernel_rfl
def Be.p:Ak:=⟨[],1,⟨[.al 0 0,.fn 1000144 [(0,0)]],[PS.b0]⟩,⟨[.fd (.int .i64)],[PS.b0]⟩,false,[],[]⟩
abbrev FH.oa:Cut:=⟨[[0,0,1,1,1],[0,1,1,1,1]],[0,3],2,⟨[.al 0 0,.al 1 0],[PS.b0,⟨1,83,[.st 5],false⟩]⟩⟩
abbrev FH.Zu:Cut:=⟨[[0,1,1,1,1,0,1,1,1,1,1,0,0,1,1],[1,0],[0,1,1,1]],[0,3],2,⟨[.al 0 0,.al 1 0],[PS.b0,⟨1,83,[.st 5],false⟩]⟩⟩
abbrev FH.oZ:Cut:=⟨[[0,0,1,1,1,0,1,1,1,1,1,1,1,1,1,1,1,1,1,1,1,1,1,1,1,1,1,1,1,1,1,0,0,1,1],[0,1,1,1,1,0,1,1,1,1,1,1,1,1,1,1,1,1,1,1,1,1,1,1,1,1,1,1,1,1,1,0,0,1,1],[1,0],[0,1,1,1]],[0,3,4],2,⟨[.al 0 0,.al 1 0,.fd (.int .i64)],[PS.b0,⟨1,83,[.st 5],false⟩]⟩⟩
def FH.p:Ak:=⟨[(64,FH.oa),(13,FH.Zu),(53,FH.oZ)],1,⟨[.al 0 0],[PS.b0]⟩,⟨[.fd (.int .i64)],[PS.b0]⟩,false,[],[]⟩
theorem FH.ok:AH Dop.D4 prog 144 FH.p=true:=by kernel_rfl
abbrev Je.T:Type:=(((Unit×Unit)×(PS×Unit))->Option ((Int×Unit)×(PS×Unit)))×(((Unit×Unit)×(PS×Unit))->Option ((Int×Unit)×(PS×Unit)))×(((Unit×Unit×Unit)×(PS×Unit))->Option ((Int×Unit)×(PS×Unit)))×(((Unit×Unit)×(PS×Unit))->Option ((Int×Unit)×(PS×Unit)))×Unit
noncomputable def Je.ct (r:Je.T):List (B2 Dop.D4):=[⟨86,Ha.p.bn,Ha.p.sp,Ha.p.rs,Ha.p.flat,.opt (r.1)⟩,⟨119,Il.p.bn,Il.p.sp,Il.p.rs,Il.p.flat,.opt (r.2.1)⟩,⟨143,Be.p.bn,Be.p.sp,Be.p.rs,Be.p.flat,.opt (r.2.2.1)⟩,⟨144,FH.p.bn,FH.p.sp,FH.p.rs,FH.p.flat,.opt (r.2.2.2.1)⟩]
abbrev QW.q7:Cut:=⟨[[0,0,0,0,0,0,1,1,1,1,0,1,0,1,1],[0,1,0,0,0,0,1,1,1,1,0,1,0,1,1],[0,1,0,0,0,1,1,1,1,0,1,0,1,1],[2,0,0,0,1,1,1,1,0,1,0,1,1],[1,0],[0,1,1,1,1,1,0,1,0,1,1],[0,1,1,1]],[0,3,4],2,⟨[.al 0 0,.al 1 0,.own 0 3],[PS.b0,⟨1,83,[.st 5],false⟩]⟩⟩
abbrev QW.mA:Cut:=⟨[[0,0,0,0,0,0,1,0,1,0,1,1,1,1,1],[0,1,0,0,0,0,1,0,1,0,1,1,1,1,1],[0,1,0,0,0,1,0,1,0,1,1,1,1,1],[2,0,0,0,1,0,1,0,1,1,1,1,1],[1,2],[0,1,1,0,1,0,1,1,1,1,1],[0,1,1,1,1,1,1]],[0,3,7],2,⟨[.al 0 0,.al 1 0,.own 0 3],[PS.b0,⟨1,83,[.st 5],false⟩]⟩⟩
def QW.p:Ak:=⟨[(7,QW.q7),(21,QW.mA)],1,⟨[.al 0 0],[PS.b0]⟩,⟨[.fd (.int .i64)],[PS.b0]⟩,false,[(2,⟨[(0,true),(1,false),(2,true),(3,true),(4,true),(5,true),(6,false),(7,true),(8,true),(9,true),(10,true),(11,false),(12,false),(13,true),(14,true),(15,true),(16,true),(17,true),(18,true),(19,false),(20,true),(21,true),(22,true),(23,false),(24,true),(25,false),(26,false),(27,false),(28,true),(29,true)],[1000000],[0,1,3,7,15,31,63,127,7,263,775,1799,3847,8191,16383,32767,65535,131071,262143,524287,65535,1114111,3211263,7405567,15794175,33554431,67108863,134217727,268435455,536870911],false⟩),(18,⟨[(0,true),(1,false),(2,true),(3,false),(4,true),(5,false),(6,true),(7,false),(8,true)],[9,1000003],[0,1,0,4,0,16,51,115,255,511],false⟩)],[]⟩
theorem QW.ok:AH Dop.D4 prog 43 QW.p=true:=by kernel_rfl
abbrev m20.q3:Cut:=⟨[[0,0,0,0,0,1,0,1,1],[0,1,0,0,0,1,0,1,1],[0,1,0,0,1,0,1,1],[2,0,0,1,0,1,1],[1,0],[0,1,1,1]],[2,5,6],2,⟨[.al 0 0,.al 1 0,.fd (.int .i64)],[⟨0,45,[.own 5 83,.own 6 113,.fd (.int .i64)],false⟩,PS.b1]⟩⟩
abbrev m20.q7:Cut:=⟨[[0,0,0,0,0,0,1,1,1,1],[0,1,0,0,0,0,1,1,1,1],[0,1,0,0,0,1,1,1,1],[2,0,0,0,1,1,1,1],[1,2],[0,1,1,1,1,1]],[2,5,7],2,⟨[.al 0 0,.al 1 0,.own 0 3],[⟨0,45,[.own 5 83,.own 6 113,.fd (.int .i64)],false⟩,PS.b1]⟩⟩
def m20.p:Ak:=⟨[(3,m20.q3),(7,m20.q7)],0,⟨[.fd (.sl 4)],[]⟩,⟨[.st 7,.fd (.int .i64),.fd (.int .i64)],[]⟩,false,[(11,⟨[(0,true),(1,true),(2,true),(3,true),(4,false),(5,true),(6,true),(7,true),(8,false),(9,false),(10,true),(11,true)],[1000002],[0,0,2,6,14,0,32,96,224,1,543,2047],false⟩)],[]⟩
theorem m20.ok:AH Dop.D4 prog 23 m20.p=true:=by kernel_rfl
def V2.p:Ak:=⟨[],0,⟨[.fd .str],[]⟩,⟨[.st 7,.fd (.int .i64),.fd (.int .i64)],[]⟩,false,[],[]⟩
theorem V2.ok:AH Dop.D4 prog 13 V2.p=true:=by kernel_rfl
end Go.Proofs.Tryz
