/- What the boxes of some types hold: as one, with names of the parts. Written by a program. -/
import Derived.Test.YtikecakpcfpghaaGreatDoorMi
import Derived.Test.YtikecakpcfpghaaGreatDoorLb
import Derived.Test.YtikecakpcfpghaaGreatDoorMh
set_option linter.all false
namespace Go.Proofs
open Go Go.En
abbrev PS:Type:=List (En.Dop.Tok)×Int×List (En.Dop.AZ)×List (En.Dop.HC)×Int×Int×Int×Int×Unit
abbrev PS.l (k:PS):List (En.Dop.Tok):=k.1
abbrev PS.at_ (k:PS):Int:=k.2.1
abbrev PS.Uy (k:PS) (v:Int):PS:=(k.1,v,k.2.2)
abbrev PS.nodes (k:PS):List (En.Dop.AZ):=k.2.2.1
abbrev PS.FA (k:PS) (v:List (En.Dop.AZ)):PS:=(k.1,k.2.1,v,k.2.2.2)
abbrev PS.types (k:PS):List (En.Dop.HC):=k.2.2.2.1
abbrev PS.U1 (k:PS) (v:List (En.Dop.HC)):PS:=(k.1,k.2.1,k.2.2.1,v,k.2.2.2.2)
abbrev PS.top (k:PS):Int:=k.2.2.2.2.1
abbrev PS.deep (k:PS):Int:=k.2.2.2.2.2.1
abbrev PS.e (k:PS):Int:=k.2.2.2.2.2.2.1
abbrev PS.Y8 (k:PS) (v:Int):PS:=(k.1,k.2.1,k.2.2.1,k.2.2.2.1,k.2.2.2.2.1,k.2.2.2.2.2.1,v,k.2.2.2.2.2.2.2)
abbrev PS.when (k:PS):Int:=k.2.2.2.2.2.2.2.1
abbrev PS.FX (k:PS) (v:Int):PS:=(k.1,k.2.1,k.2.2.1,k.2.2.2.1,k.2.2.2.2.1,k.2.2.2.2.2.1,k.2.2.2.2.2.2.1,v,k.2.2.2.2.2.2.2.2)
abbrev PS.b0:En.Gh:=⟨0,93,[.fd (.sl 4),.st 0,.own 5 73,.own 6 95,.st 0,.st 0,.fd (.int .i64),.st 0],false⟩
abbrev PS.b1:En.Gh:=⟨1,93,[.fd (.sl 4),.st 0,.own 5 73,.own 6 95,.st 0,.st 0,.fd (.int .i64),.st 0],false⟩
end Go.Proofs
set_option maxRecDepth 100000
set_option maxHeartbeats 4000000
namespace Go.Proofs.Tryz
open Go Go.En
def LF.p:Ai:=⟨[],1,⟨[.al 0 0],[PS.b0]⟩,⟨[.fd (.int .i64)],[PS.b0]⟩,false,[(3,⟨[(0,true),(1,true),(2,true),(3,false),(4,true),(5,true),(6,true),(7,false),(8,false),(9,true),(10,false),(11,false),(12,false)],[13],[0,1,3,7,0,16,48,112,240,496,1023,2047,0,8191],false⟩)],[]⟩
noncomputable def LF.E:Env Dop.D4:=Aj prog 61 tb [] LF.p
theorem LF.ok:AG Dop.D4 prog 61 LF.p=true:=by kernel_rfl
noncomputable def LF.c:By Dop.D4:=⟨61,LF.p.bn,LF.p.sp,LF.p.rs,LF.p.flat,.opt (LF.E.run 3000 LF.p.sp)⟩
theorem LF.holds:LF.c.Holds prog:=E6 3000 AH Br LF.ok
def Ei.p:Ai:=⟨[],1,⟨[.al 0 0],[PS.b0]⟩,⟨[.st 4],[PS.b0]⟩,false,[(1,⟨[(0,true),(1,true),(2,true),(3,false),(4,true),(5,true),(6,true),(7,true),(8,true),(9,false),(10,true),(11,true),(12,true),(13,false),(14,false),(15,true),(16,true)],[],[0,1,3,7,15,31,63,127,255,511,63,1087,3135,7231,15423,32767,65535],false⟩),(3,⟨[(0,true),(1,true),(2,true),(3,false),(4,true),(5,true),(6,true),(7,false),(8,false),(9,false)],[10],[0,1,3,7,0,16,48,112,255,511,1023],false⟩)],[]⟩
noncomputable def Ei.E:Env Dop.D4:=Aj prog 28 tb [LF.c] Ei.p
theorem Ei.ok:AG Dop.D4 prog 28 Ei.p=true:=by kernel_rfl
noncomputable def Ei.c:By Dop.D4:=⟨28,Ei.p.bn,Ei.p.sp,Ei.p.rs,Ei.p.flat,.opt (Ei.E.run 3000 Ei.p.sp)⟩
theorem Ei.holds:Ei.c.Holds prog:=E6 3000 AH (Ao LF.holds Br) Ei.ok
def Fb.p:Ai:=⟨[],0,⟨[.fd (.int .i64),.fd (.int .i64)],[]⟩,⟨[.st 5],[]⟩,true,[],[]⟩
noncomputable def Fb.E:Env Dop.D4:=Aj prog 62 tb [] Fb.p
theorem Fb.ok:AG Dop.D4 prog 62 Fb.p=true:=by kernel_rfl
noncomputable def Fb.c:By Dop.D4:=⟨62,Fb.p.bn,Fb.p.sp,Fb.p.rs,Fb.p.flat,.opt (Fb.E.run 3000 Fb.p.sp)⟩
theorem Fb.holds:Fb.c.Holds prog:=E6 3000 AH Br Fb.ok
def NR.p:Ai:=⟨[],1,⟨[.al 0 0,.fd .str],[PS.b0]⟩,⟨[.fd .bool],[PS.b0]⟩,false,[],[]⟩
theorem NR.ok:AG Dop.D4 prog 63 NR.p=true:=by kernel_rfl
def Ex.p:Ai:=⟨[],1,⟨[.al 0 0,.fd .str],[PS.b0]⟩,⟨[.fd .bool],[PS.b0]⟩,false,[],[]⟩
theorem Ex.ok:AG Dop.D4 prog 66 Ex.p=true:=by kernel_rfl
def Ce.p:Ai:=⟨[],1,⟨[.al 0 0,.fd (.int .i64)],[PS.b0]⟩,⟨[],[PS.b0]⟩,false,[],[]⟩
noncomputable def Ce.E:Env Dop.D4:=Aj prog 100 tb [Ei.c] Ce.p
theorem Ce.ok:AG Dop.D4 prog 100 Ce.p=true:=by kernel_rfl
noncomputable def Ce.c:By Dop.D4:=⟨100,Ce.p.bn,Ce.p.sp,Ce.p.rs,Ce.p.flat,.opt (Ce.E.run 3000 Ce.p.sp)⟩
theorem Ce.holds:Ce.c.Holds prog:=E6 3000 AH (Ao Ei.holds Br) Ce.ok
noncomputable def Ce (e:Int) (k0:PS):Option (Unit×(PS×Unit)):=Ce.E.run 3000 Ce.p.sp (((),e,()),(k0,()))
def GC.p:Ai:=⟨[],1,⟨[.al 0 0,.fd .str],[PS.b0]⟩,⟨[],[PS.b0]⟩,false,[],[]⟩
theorem GC.ok:AG Dop.D4 prog 64 GC.p=true:=by kernel_rfl
def MA.p:Ai:=⟨[],1,⟨[.al 0 0,.fd (.int .i64)],[PS.b0]⟩,⟨[.st 4],[PS.b0]⟩,false,[],[]⟩
theorem MA.ok:AG Dop.D4 prog 65 MA.p=true:=by kernel_rfl
abbrev Du.q2:Cut:=⟨[[0,0,0,0,1,0,1],[0,1,0,0,1,0,1],[2,0,0,1,0,1],[1,0],[0,1,1]],[0,3,7,8],1,⟨[.fd (.sl 6),.al 0 0,.fd (.int .i64),.fd (.int .i64)],[⟨0,95,[.st 6],false⟩]⟩⟩
def Du.p:Ai:=⟨[(2,Du.q2)],0,⟨[.fd (.sl 6),.st 6],[]⟩,⟨[.fd (.int .i64)],[]⟩,true,[(4,⟨[(0,false),(1,true),(2,true),(3,false),(4,false),(5,true)],[],[0,0,0,6,14,31],false⟩)],[]⟩
theorem Du.ok:AG Dop.D4 prog 126 Du.p=true:=by kernel_rfl
def Jr.p:Ai:=⟨[],1,⟨[.al 0 0,.st 6],[PS.b0]⟩,⟨[.fd (.int .i64)],[PS.b0]⟩,false,[(1,⟨[(0,true),(1,true),(2,true),(3,true),(4,false),(5,false),(6,false),(7,true)],[],[0,1,3,7,15,0,63,127],true⟩),(7,⟨[(0,true),(1,true),(2,true),(3,true),(4,true),(5,false),(6,false),(7,false)],[8,9,10,11,12],[0,0,2,6,14,30,0,64,254,511,1023,2047,4095],false⟩)],[]⟩
theorem Jr.ok:AG Dop.D4 prog 102 Jr.p=true:=by kernel_rfl
abbrev DN.cR:Cut:=⟨[[0,0,0,0,0,0,1,1,1],[0,1,0,0,0,0,1,1,1],[0,1,0,0,0,1,1,1],[2,0,0,0,1,1,1],[1,1],[0,1,1,1,1]],[0,3],1,⟨[.al 0 0,.fd (.int .i64)],[PS.b0]⟩⟩
def DN.p:Ai:=⟨[(11,DN.cR)],1,⟨[.al 0 0],[PS.b0]⟩,⟨[.fd (.int .i64)],[PS.b0]⟩,false,[],[]⟩
theorem DN.ok:AG Dop.D4 prog 101 DN.p=true:=by kernel_rfl
def YJ.p:Ai:=⟨[],1,⟨[.al 0 0],[PS.b0]⟩,⟨[.st 5],[PS.b0]⟩,false,[],[]⟩
theorem YJ.ok:AG Dop.D4 prog 67 YJ.p=true:=by kernel_rfl
def TL.p:Ai:=⟨[],1,⟨[.al 0 0,.fd (.int .i64)],[PS.b0]⟩,⟨[.fd (.int .i64)],[PS.b0]⟩,false,[],[]⟩
theorem TL.ok:AG Dop.D4 prog 68 TL.p=true:=by kernel_rfl
def EJ.p:Ai:=⟨[],1,⟨[.al 0 0,.st 5],[PS.b0]⟩,⟨[.fd (.int .i64)],[PS.b0]⟩,false,[(5,⟨[(0,true),(1,true),(2,true),(3,true),(4,true),(5,false),(6,false),(7,false)],[8,9,10,11,12],[0,0,2,6,14,30,0,64,254,511,1023,2047,4095],false⟩)],[]⟩
noncomputable def EJ.E:Env Dop.D4:=Aj prog 69 tb [Ce.c] EJ.p
theorem EJ.ok:AG Dop.D4 prog 69 EJ.p=true:=by kernel_rfl
noncomputable def EJ.c:By Dop.D4:=⟨69,EJ.p.bn,EJ.p.sp,EJ.p.rs,EJ.p.flat,.opt (EJ.E.run 3000 EJ.p.sp)⟩
theorem EJ.holds:EJ.c.Holds prog:=E6 3000 AH (Ao Ce.holds Br) EJ.ok
def HL.p:Ai:=⟨[],1,⟨[.al 0 0,.fd (.int .i64)],[PS.b0]⟩,⟨[.fd (.int .i64)],[PS.b0]⟩,false,[],[]⟩
noncomputable def HL.E:Env Dop.D4:=Aj prog 72 tb [] HL.p
theorem HL.ok:AG Dop.D4 prog 72 HL.p=true:=by kernel_rfl
noncomputable def HL.c:By Dop.D4:=⟨72,HL.p.bn,HL.p.sp,HL.p.rs,HL.p.flat,.opt (HL.E.run 3000 HL.p.sp)⟩
theorem HL.holds:HL.c.Holds prog:=E6 3000 AH Br HL.ok
def NA.p:Ai:=⟨[],0,⟨[.st 7,.fd (.int .i64)],[]⟩,⟨[.st 5],[]⟩,true,[],[]⟩
theorem NA.ok:AG Dop.D4 prog 31 NA.p=true:=by kernel_rfl
abbrev Gf.q3:Cut:=⟨[[0,0,0,0,1,0,1,1],[0,1,0,0,1,0,1,1],[2,0,0,1,0,1,1],[1,0],[0,1,1,1]],[1,2,5,9,10],1,⟨[.fd (.int .i64),.al 0 0,.own 0 3,.fd (.int .i64),.fd (.int .i64)],[⟨0,41,[.st 7],false⟩]⟩⟩
def Gf.p:Ai:=⟨[(3,Gf.q3)],0,⟨[.st 7,.fd (.int .i64)],[]⟩,⟨[.own 0 3],[]⟩,true,[],[]⟩
theorem Gf.ok:AG Dop.D4 prog 16 Gf.p=true:=by kernel_rfl
def NH.p:Ai:=⟨[],1,⟨[.al 0 0],[PS.b0]⟩,⟨[.fd .bool],[PS.b0]⟩,false,[],[]⟩
theorem NH.ok:AG Dop.D4 prog 157 NH.p=true:=by kernel_rfl
abbrev KK.q2:Cut:=⟨[[0,0,0,0,0,0,1,1,0,1],[0,1,0,0,0,0,1,1,0,1],[0,1,0,0,0,1,1,0,1],[2,0,0,0,1,1,0,1],[1,0],[0,1,1,1,0,1],[3,0,1]],[0,4],0,⟨[.fd .str,.fd (.int .i64)],[]⟩⟩
def KK.p:Ai:=⟨[(2,KK.q2)],0,⟨[.fd .str],[]⟩,⟨[.fd (.int .i64),.fd .bool],[]⟩,true,[],[]⟩
theorem KK.ok:AG Dop.D4 prog 26 KK.p=true:=by kernel_rfl
def Vp.p:Ai:=⟨[],0,⟨[.fd (.int .u8)],[]⟩,⟨[.fd .bool],[]⟩,true,[],[]⟩
theorem Vp.ok:AG Dop.D4 prog 54 Vp.p=true:=by kernel_rfl
def Vq.p:Ai:=⟨[],0,⟨[.fd (.int .u8)],[]⟩,⟨[.fd .bool],[]⟩,true,[],[]⟩
theorem Vq.ok:AG Dop.D4 prog 57 Vq.p=true:=by kernel_rfl
abbrev Jz.q2:Cut:=⟨[[0,0,0,0,0,0,1,1],[0,1,0,0,0,0,1,1],[0,1,0,0,0,1,1],[2,0,0,0,1,1],[1,0],[0,1,1,1]],[0,3],0,⟨[.fd .str,.fd (.int .i64)],[]⟩⟩
def Jz.p:Ai:=⟨[(2,Jz.q2)],0,⟨[.fd .str],[]⟩,⟨[.fd (.int .i64)],[]⟩,true,[],[]⟩
theorem Jz.ok:AG Dop.D4 prog 55 Jz.p=true:=by kernel_rfl
def YI.p:Ai:=⟨[],0,⟨[.fd .str],[]⟩,⟨[.fd .bool],[]⟩,true,[],[]⟩
theorem YI.ok:AG Dop.D4 prog 56 YI.p=true:=by kernel_rfl
def TJ.p:Ai:=⟨[],1,⟨[.fd (.int .i64),.fd (.int .i64),.fd (.int .i64),.al 0 0],[⟨0,9,[.st 1],false⟩]⟩,⟨[.st 4,.fd (.int .i64)],[⟨0,9,[.fd .str],false⟩]⟩,true,[],[]⟩
theorem TJ.ok:AG Dop.D4 prog 53 TJ.p=true:=by kernel_rfl
abbrev KM.q9:Cut:=⟨[[0,0,0,0,1,0,1,1,1,1,1],[0,1,0,0,1,0,1,1,1,1,1],[2,0,0,1,0,1,1,1,1,1],[1,0],[0,1,1,1,1,1,1]],[0,5,6,34,35],0,⟨[.fd .str,.fd (.int .i64),.fd (.int .i64),.fd (.int .i64),.fd (.int .i64)],[]⟩⟩
def KM.p:Ai:=⟨[(9,KM.q9)],0,⟨[.fd .str],[]⟩,⟨[.fd (.int .i64),.fd .bool],[]⟩,true,[(6,⟨[(0,true),(2,true)],[1,3],[0,1,0,7],false⟩)],[]⟩
theorem KM.ok:AG Dop.D4 prog 58 KM.p=true:=by kernel_rfl
def TK.p:Ai:=⟨[],0,⟨[.fd .str],[]⟩,⟨[.fd (.int .i64),.fd (.int .i64)],[]⟩,true,[],[]⟩
theorem TK.ok:AG Dop.D4 prog 59 TK.p=true:=by kernel_rfl
def NB.p:Ai:=⟨[],0,⟨[],[]⟩,⟨[.own 1 9],[]⟩,true,[],[]⟩
theorem NB.ok:AG Dop.D4 prog 99 NB.p=true:=by kernel_rfl
abbrev KN.q2:Cut:=⟨[[0,0,0,0,1,0,1],[0,1,0,0,1,0,1],[2,0,0,1,0,1],[1,0],[0,1,1]],[0,5,6,7],0,⟨[.fd .str,.own 1 9,.fd (.int .i64),.fd (.int .i64)],[]⟩⟩
def KN.p:Ai:=⟨[(2,KN.q2)],0,⟨[.fd .str],[]⟩,⟨[.fd .str],[]⟩,true,[],[]⟩
theorem KN.ok:AG Dop.D4 prog 60 KN.p=true:=by kernel_rfl
def YG.p:Ai:=⟨[],0,⟨[.fd .str],[]⟩,⟨[.st 4,.fd (.int .i64)],[]⟩,true,[],[]⟩
theorem YG.ok:AG Dop.D4 prog 27 YG.p=true:=by kernel_rfl
abbrev m19.q5:Cut:=⟨[[0,0,0,0,0,1,1,1,1],[0,1,0,0,0,1,1,1,1],[1,1],[2,0,0,1,1,1,1],[1,0]],[0,5,6],0,⟨[.fd .str,.own 4 88,.fd (.int .i64)],[]⟩⟩
def m19.p:Ai:=⟨[(5,m19.q5)],0,⟨[.fd .str],[]⟩,⟨[.own 4 88,.fd (.int .i64),.fd (.int .i64)],[]⟩,true,[],[]⟩
theorem m19.ok:AG Dop.D4 prog 13 m19.p=true:=by kernel_rfl
def NQ.p:Ai:=⟨[],1,⟨[.al 0 0],[⟨0,93,[.fd (.sl 4),.st 0,.hd,.hd,.st 0,.st 0,.fd (.int .i64),.st 0],false⟩]⟩,⟨[.fd (.int .i64)],[⟨0,93,[.fd (.sl 4),.fd (.int .i64),.hd,.hd,.fd (.int .i64),.fd (.int .i64),.fd (.int .i64),.fd (.int .i64)],false⟩]⟩,false,[(3,⟨[(0,true),(1,true),(2,true),(3,false),(4,true),(5,true),(6,true),(7,false),(8,false),(9,true),(10,false),(11,false),(12,false)],[13],[0,1,3,7,0,16,48,112,240,496,1023,2047,0,8191],false⟩)],[]⟩
theorem NQ.ok:AG Dop.D4 prog 61 NQ.p=true:=by kernel_rfl
def NO.p:Ai:=⟨[],1,⟨[.al 0 0],[⟨0,93,[.fd (.sl 4),.st 0,.hd,.hd,.st 0,.st 0,.fd (.int .i64),.st 0],false⟩]⟩,⟨[.st 4],[⟨0,93,[.fd (.sl 4),.fd (.int .i64),.hd,.hd,.fd (.int .i64),.fd (.int .i64),.fd (.int .i64),.fd (.int .i64)],false⟩]⟩,false,[(1,⟨[(0,true),(1,true),(2,true),(3,false),(4,true),(5,true),(6,true),(7,true),(8,true),(9,false),(10,true),(11,true),(12,true),(13,false),(14,false),(15,true),(16,true)],[],[0,1,3,7,15,31,63,127,255,511,63,1087,3135,7231,15423,32767,65535],false⟩),(3,⟨[(0,true),(1,true),(2,true),(3,false),(4,true),(5,true),(6,true),(7,false),(8,false),(9,false)],[10],[0,1,3,7,0,16,48,112,255,511,1023],false⟩)],[]⟩
theorem NO.ok:AG Dop.D4 prog 28 NO.p=true:=by kernel_rfl
def JC.p:Ai:=⟨[],1,⟨[.al 0 0,.fd .str],[⟨0,93,[.fd (.sl 4),.st 0,.hd,.hd,.st 0,.st 0,.fd (.int .i64),.st 0],false⟩]⟩,⟨[.fd .bool],[⟨0,93,[.fd (.sl 4),.fd (.int .i64),.hd,.hd,.fd (.int .i64),.fd (.int .i64),.fd (.int .i64),.fd (.int .i64)],false⟩]⟩,false,[],[]⟩
theorem JC.ok:AG Dop.D4 prog 63 JC.p=true:=by kernel_rfl
def Hj.p:Ai:=⟨[],1,⟨[.al 0 0],[⟨0,93,[.fd (.sl 4),.st 0,.hd,.hd,.st 0,.st 0,.fd (.int .i64),.st 0],false⟩]⟩,⟨[.fd .bool],[⟨0,93,[.fd (.sl 4),.fd (.int .i64),.hd,.hd,.fd (.int .i64),.fd (.int .i64),.fd (.int .i64),.fd (.int .i64)],false⟩]⟩,false,[],[]⟩
theorem Hj.ok:AG Dop.D4 prog 157 Hj.p=true:=by kernel_rfl
end Go.Proofs.Tryz
namespace Go.Proofs
open Go Go.En Go.RowKit
abbrev TX:Gh:=⟨0,93,[.fd (.sl 4),.fd (.int .i64),.own 5 73,.own 6 95,.fd (.int .i64),.fd (.int .i64),.fd (.int .i64),.fd (.int .i64)],false⟩
def Tryz.Bt.p:Ai:=⟨[],1,⟨[.al 0 0,.fd (.sl 0)],[TX]⟩,⟨[.fd (.int .i64)],[TX]⟩,false,[(5,⟨[(0,true),(1,false),(2,true),(3,false),(4,true)],[5,1000008],[0,0,1,5,15,31],false⟩)],[(71,[])]⟩
noncomputable def Tryz.Bt.E:Env En.Dop.D4:=Aj Tryz.prog 30 Tryz.tb [Tryz.HL.c,Tryz.Fb.c,Tryz.EJ.c] Tryz.Bt.p
theorem Tryz.Bt.ok:AG En.Dop.D4 Tryz.prog 30 Tryz.Bt.p=true:=by kernel_rfl
noncomputable def As (body:Code) (a:List Nat):Code:=match HJ body a with
 | some c=>c
 | none=>.skip
abbrev JO:En.Spec:=⟨[],[TX,⟨1,91,[.al 0 0],false⟩,⟨2,3,[.fd (.int .i64)],false⟩]⟩
abbrev lU:En.Spec:=⟨[.al 1 0,.al 2 0,.fd (.int .i64)],[TX,⟨1,91,[.al 0 0],false⟩,⟨2,3,[.fd (.int .i64)],false⟩]⟩
noncomputable def Tryz.Bt.step (x:Int) (y:En.Spec.D En.Dop.D4 JO):Option (En.Spec.D En.Dop.D4 JO):=
 (Tz Tryz.Bt.E 3000 [1,0,1,0,1,1] (As (AP Tryz.prog 30) [1,0,1,0,1,1]) lU JO [2,5,7] 3 (((),(),x,()),y.2)).eval (fun _ _=>none)
noncomputable abbrev lW:Code:=As (AP Tryz.prog 30) [0,0,1,0,1,1]
noncomputable abbrev mL:Code:=As (AP Tryz.prog 30) [1,0,1,0,1,1]
noncomputable abbrev lX:Code:=As (AP Tryz.prog 30) [1,1,1]
noncomputable def Tryz.Bt.go:List Int->En.Spec.D En.Dop.D4 JO->Option (En.Spec.D En.Dop.D4 JO)
 | [],y=>some y
 | x::r,y=>(Tryz.Bt.step x y).bind (Tryz.Bt.go r)
theorem Tryz.Bt.I1: ∀ (l r:List Int) (y:En.Spec.D En.Dop.D4 JO),Tryz.Bt.go (l++r) y=(Tryz.Bt.go l y).bind (Tryz.Bt.go r)
 | [],r,y=>rfl
 | x::l,r,y=>by
  simp only [List.cons_append,Tryz.Bt.go]
  cases Tryz.Bt.step x y with
  | none=>rfl
  | some z=>exact Tryz.Bt.I1 l r z
noncomputable def Tryz.Bt.R (x:En.Spec.D En.Dop.D4 Tryz.Bt.p.sp):Option (En.Spec.D En.Dop.D4 Tryz.Bt.p.rs):=
 match decide (x.1.2.1.length<9223372036854775807) with
 | true=>(Tryz.Bt.go x.1.2.1.reverse ((),(x.2.1,((),()),(-1,()),()))).bind fun y=>some ((y.2.2.2.1.1,()),(y.2.1,()))
 | false=>none
noncomputable def Tryz.Bt.c:By En.Dop.D4:=⟨30,Tryz.Bt.p.bn,Tryz.Bt.p.sp,Tryz.Bt.p.rs,Tryz.Bt.p.flat,.opt Tryz.Bt.R⟩
noncomputable def jQ (l:List Int) (x:En.Spec.D En.Dop.D4 ⟨[],[TX]⟩):St En.Dop.D4:=match En.Spec.enc (S:=En.Dop.D4) ⟨[.al 0 0,.fd (.sl 0)],[TX]⟩ (((),l,()),x.2) 1 with
 | (_,o,_)=>⟨[(0,.ptr 0 0),(1,.h 1),(2,.ptr 5 0),(4,.v (.int .i64 0)),(5,.ptr 6 0),(9,.h 1),(10,.fn 104 [.ptr 7 0])],(7,.AN 46 [.h 1])::(6,.AN 3 [.v (.int .i64 (-1))])::(5,.AN 91 [.ptr 0 0])::o,8,25⟩
theorem Tryz.Bt.part (l:List Int) (x:En.Spec.D En.Dop.D4 ⟨[],[TX]⟩) (vs:List SV) (o:List (Nat×En.Own En.Dop.D4)) (n:Nat) (h:En.Spec.enc (S:=En.Dop.D4) ⟨[.al 0 0,.fd (.sl 0)],[TX]⟩ (((),l,()),x.2) 1=(vs,o,n)):
  Ou Tryz.Bt.E 3000 [.code [] (AP Tryz.prog 30)] ⟨Bj 0 vs,o,n,25⟩=.ret ([.code [0,1,0,1,1] (.rangeFunc (.tmp 10) #[11,12] lW mL),.AN 0,.code [1,1,1] lX],jQ l x):=by
 cases h
 kernel_rfl
noncomputable def Y0:Oper:=match lW with
 | .region _ ⟨o::_⟩ _=>o
 | _=>default
theorem fE:lW=.region 3 #[Y0] false:=by kernel_rfl
theorem Uw:Y0.op=.assign (.tmp 12):=by kernel_rfl
theorem Np:Y0.dst=some 7:=by kernel_rfl
theorem Tb:Y0.guard=none:=by kernel_rfl
noncomputable def Y3:Array Oper:=match lX with
 | .seq (.region _ o _) _=>o
 | _=>#[]
theorem fG:lX=.seq (.region 7 Y3 false) .ret:=by kernel_rfl
theorem fF:HJ (AP Tryz.prog 30) [1,0,1,0,1,1]=some mL:=by kernel_rfl
theorem jg:Nb (AP Tryz.prog 30)=true:=by kernel_rfl
theorem T1 (l:List Int):(bwd l).map Prod.snd=l.reverse:=by
 apply List.ext_getElem
 ·simp [bwd,upto]
 ·intro i h1 h2
  have h3:i<l.length:=by simpa using h2
  simp [bwd,upto,List.getElem_reverse,List.getElem?_eq_getElem (show l.length -1 -i<l.length by omega)]
theorem Ww (l:List Int):En.Dop.D4.flat 0 l=l.map fun n=>FC.int .i64 n:=by
 induction l with
 | nil=>rfl
 | cons x r ih=>exact congrArg (FC.int .i64 x::·) ih
theorem Rn {w:World} {D:Nat->Prop} {l:List Int} {v:Value} (h:Au En.Dop.D4 w D (.sl 0 l) v):(l=[]/\ ∃ a c,v=.slice a 0 c)\/ ∃ b off cap,v=.slice (some ⟨b,off,none⟩) l.length cap/\D b/\ ∀ j,j<l.length->w.cell? ⟨b,off+j,none⟩=some (.int .i64 (l[j]?.getD 0)):=by
 cases h with
 | nil σ a c=>exact .inl ⟨rfl,a,c,rfl⟩
 | sl σ l b off c vs hb hlc hc hv=>
  refine .inr ⟨b,off,c,rfl,hb,fun j hj=>?_⟩
  have hf:(En.Dop.D4.flat 0 l)[j]?=some (.int .i64 l[j]):=by rw [Ww];simp [hj]
  rw [hc j _ hf]
  have:=hv j _ hf
  cases hvj:vs j<;>rw [hvj] at this<;>cases this
  simp [hj]
theorem YD (l:List Int) (x:En.Spec.D En.Dop.D4 ⟨[],[TX]⟩): ∃ ps,En.Spec.parse (S:=En.Dop.D4) ⟨[.al 1 0,.al 2 0],JO.bx⟩ true [.ptr 5 0,.ptr 6 0] (jQ l x).o (Q3 1) 3=some ((((),(),()),(x.2.1,((),()),(-1,()),())),ps)/\lk ps.o 7=some (.AN 46 [.h 1])/\ps.bl=[]/\lk ps.m 1=some 5/\lk ps.m 2=some 6/\lk ps.m 0=some 0:=
 ⟨⟨(7,.AN 46 [.h 1])::(2,.sl 4 x.2.1.1)::(1,.sl 0 l)::[],[(2,6),(1,5),(0,0)],[],3⟩,by kernel_rfl,by kernel_rfl,by kernel_rfl,by kernel_rfl,by kernel_rfl,by kernel_rfl⟩
theorem eJ (y:En.Spec.D En.Dop.D4 JO):Ou Tryz.Bt.E 3000 [.ops Y3 Y3.toList] ⟨[(2,.ptr 1 0),(5,.ptr 2 0)],(JO.enc (S:=En.Dop.D4) y 3).2.1,(JO.enc (S:=En.Dop.D4) y 3).2.2,25⟩=
  .ret ([],⟨[(2,.ptr 1 0),(5,.ptr 2 0),(24,.v (.int .i64 y.2.2.2.1.1)),(4,.v (.int .i64 y.2.2.2.1.1))],(JO.enc (S:=En.Dop.D4) y 3).2.1,(JO.enc (S:=En.Dop.D4) y 3).2.2,25⟩):=by kernel_rfl
theorem eK (y:En.Spec.D En.Dop.D4 JO): ∃ ps,En.Spec.parse (S:=En.Dop.D4) ⟨[.fd (.int .i64)],[TX]⟩ true [.v (.int .i64 y.2.2.2.1.1)] (JO.enc (S:=En.Dop.D4) y 3).2.1 (Q3 1) 1=some (((y.2.2.2.1.1,()),(y.2.1,())),ps)/\lk ps.m 0=some 0:=
 ⟨⟨(2,.AN 3 [.v (.int .i64 y.2.2.2.1.1)])::(1,.AN 91 [.ptr 0 0])::(3,.sl 4 y.2.1.1)::[],[(0,0)],[],1⟩,by kernel_rfl,by kernel_rfl⟩
theorem mD:(Tryz.Bt.E).Ok Tryz.prog/\Bq Tryz.prog 30=true/\Tryz.Bt.p.sp.okB Tryz.Bt.p.bn=true/\ ∃ fn,Tryz.prog.funcs[30]?=some fn/\fn.body=some (AP Tryz.prog 30)/\fn.ntmps=25/\fn.results=#[.tmp 4]:=by
 obtain ⟨h1,h2,h3,fn,h4,h5,h6,h7⟩:=FP (p:=Tryz.Bt.p) Tryz.AH (Ao Tryz.HL.holds (Ao Tryz.Fb.holds (Ao Tryz.EJ.holds Br))) Tryz.Bt.ok
 have e1:Cl Tryz.prog 30=25:=by kernel_rfl
 have e2:ED Tryz.prog 30=[.tmp 4]:=by kernel_rfl
 refine ⟨h1,h2,h3,fn,h4,h5,h6.trans e1,?_⟩
 rw [e2] at h7
 rw [<-h7]
theorem Vo {l:Nat} {x:Int×Int} {W:World} {a:Act} {K:Act->World->Prop} (hsz:a.tmps.size=25)
  (h: ∀ a':Act,a'.defers=[]->a'.tmps.size=25->(∀ t,t≠7->t≠11->t≠12->a'.tmps.getD t undef=a.tmps.getD t undef)->a'.tmps.getD 7 undef=.int .i64 x.2->K a' W):
  lW.wpIn (Fence.wide.inRound l) 0 Tryz.prog (Exit.then K (fun _ _ _=>False)) { tmps:=(#[11,12].zip #[Value.int .i64 x.1,Value.int .i64 x.2]).foldl (fun t (p,v)=>t.setIfInBounds p v) a.tmps,defers:=[] } W:=by
 rw [fE]
 refine FL (.inr ⟨⟨l,rfl⟩,fun ⟨_,_,h⟩=>h,fun j o ho=>?_⟩) ?_
 ·cases j with
  | zero=>simp at ho;subst ho;unfold Er;rw [Uw]
  | succ j=>simp at ho
 ·show wpList _ _ _ [Y0] _ _
  unfold wpList
  rw [if_pos (by simp [Region.wanted,Tb])]
  refine .inl (An (v:=.int .i64 x.2) (w':=W) ?_ ?_)
  ·simp [execOp,Uw,Act.eval,hsz]
  ·refine h _ rfl (by simp [Act.put,Np,hsz]) (fun t h1 h2 h3=>?_) ?_
   ·simp [Act.put,Np,Array.getD_eq_getD_getElem?,Array.getElem?_setIfInBounds,Ne.symm h1,Ne.symm h2,Ne.symm h3]
   ·simp [Act.put,Np,Array.getD_eq_getD_getElem?,Array.getElem?_setIfInBounds,hsz]
def mE (w0 W:World) (F D0 K:Nat->Prop) (β2:Nat->Nm) (y0:En.Spec.D En.Dop.D4 JO) (pre:List (Int×Int)) (W':World):Prop:=
 ∃ y,Tryz.Bt.go (pre.map Prod.snd) y0=some y/\OD w0 W F D0 K JO 3 β2 W.heap.size y W'
theorem aU {w0 W W':World} {F D0 K:Nat->Prop} {β2:Nat->Nm} {y0 yq:En.Spec.D En.Dop.D4 JO} (hkp:BS En.Dop.D4 w0 F D0) {xs pre rest:List (Int×Int)} {x:Int×Int} (hgo:Tryz.Bt.go (xs.map Prod.snd) y0=some yq) (hxs:xs=pre++x::rest) (hI:mE w0 W F D0 K β2 y0 pre W')
  {a':Act} (hd:a'.defers=[]) (hsz:a'.tmps.size=25) (h2:a'.tmps.getD 2 undef=.pointer (some ⟨(β2 1).AN,0,none⟩)) (h5:a'.tmps.getD 5 undef=.pointer (some ⟨(β2 2).AN,0,none⟩)) (h7:a'.tmps.getD 7 undef=.int .i64 x.2) (l:Nat):
  mL.wpIn (Fence.wide.inRound l) 0 Tryz.prog (ME W.heap.size (mE w0 W F D0 K β2 y0) (fun _ _ _=>False) (pre++[x]) W') a' W':=by
 obtain ⟨y,hy,D,β,vs,o,n,e1,e2,e3,e4,e5,e6,e7,e8,e9⟩:=hI
 obtain ⟨hE,_,_,_⟩:=mD
 have hst: ∃ y',Tryz.Bt.step x.2 y=some y':=by
  rw [hxs,List.map_append,Tryz.Bt.I1,hy] at hgo
  simp only [Option.bind_some,List.map_cons,Tryz.Bt.go] at hgo
  cases hs:Tryz.Bt.step x.2 y with
  | none=>rw [hs] at hgo;cases hgo
  | some y'=>exact ⟨y',rfl⟩
 obtain ⟨y',hy'⟩:=hst
 have he:lU.enc (S:=En.Dop.D4) (((),(),x.2,()),y.2) 3=([.ptr 1 0,.ptr 2 0,.v (.int .i64 x.2)],o,n):=by
  have h:lU.enc (S:=En.Dop.D4) (((),(),x.2,()),y.2) 3=([.ptr 1 0,.ptr 2 0,.v (.int .i64 x.2)],(JO.enc (S:=En.Dop.D4) y 3).2.1,(JO.enc (S:=En.Dop.D4) y 3).2.2):=by kernel_rfl
  rw [h,e1]
 refine T0 hE (f0:=3000) (adr:=[1,0,1,0,1,1]) fF jg (sp:=lU) (qe:=JO) (ts:=[2,5,7]) (bn:=3) (by kernel_rfl) (x:=(((),(),x.2,()),y.2)) (y:=y') hy' he e3.base ?_ e4 (e3.inv hkp) hd hsz ?_ (fun _ _ _ h=>h) (fun ⟨_,_,h⟩=>h) ?_ l
 ·simp only [BR,SV.on,and_true]
  omega
 ·intro j t v hj hv
  match j with
  | 0=>
   simp only [List.getElem?_cons_zero,Option.some.injEq] at hj hv;subst hj;subst hv
   exact ⟨by show 2<25;omega,by rw [h2,<- e2 1 (by omega)];simp only [SV.den]⟩
  | 1=>
   simp only [List.getElem?_cons_succ,List.getElem?_cons_zero,Option.some.injEq] at hj hv;subst hj;subst hv
   exact ⟨by show 5<25;omega,by rw [h5,<- e2 2 (by omega)];simp only [SV.den]⟩
  | 2=>
   simp only [List.getElem?_cons_succ,List.getElem?_cons_zero,Option.some.injEq] at hj hv;subst hj;subst hv
   exact ⟨by show 7<25;omega,by rw [h7];simp only [SV.den]⟩
  | j+3=>simp at hj
 ·intro a'' W'' D' β' vs' o' n' f1 f2 f3 f4
  obtain ⟨g1,g2⟩:=OD.next e3 e2 e5 e6 e7 e8 e9 f1 f2 f3 f4
  refine ⟨g1,y',?_,g2⟩
  rw [List.map_append,Tryz.Bt.I1,hy]
  simp only [Option.bind_some,List.map_cons,List.map_nil,Tryz.Bt.go,hy']
theorem aV {w:World} {D:Nat->Prop} {β:Nat->Nm} {o0:List (Nat×En.Own En.Dop.D4)} (hkp:BS En.Dop.D4 w (AK o0 β) D) {fn:Func} (hres:fn.results=#[.tmp 4]) {W W':World} {K:Nat->Prop} {β2:Nat->Nm} {yq:En.Spec.D En.Dop.D4 JO} (hβ:β2 0=β 0) (hm:OD w W (AK o0 β) D K JO 3 β2 W.heap.size yq W')
  {a:Act} (hd:a.defers=[]) (hsz:a.tmps.size=25) (h2:a.tmps.getD 2 undef=.pointer (some ⟨(β2 1).AN,0,none⟩)) (h5:a.tmps.getD 5 undef=.pointer (some ⟨(β2 2).AN,0,none⟩)) (hK:W'.heap[W.heap.size]?=some (.deferred (some []))):
  lX.wpIn Fence.wide 0 Tryz.prog (LZ (bodyPostM Fence.wide 2 Tryz.prog fn (Dm (S:=En.Dop.D4) Tryz.Bt.c ((yq.2.2.2.1.1,()),(yq.2.1,())) w D β o0))) { a with defers:={ target:=.collected W.heap.size,args:=#[] }::a.defers } W':=by
 obtain ⟨D',β',vs,o,n,e1,e2,e3,e4,e5,e6,e7,e8,e9⟩:=hm
 obtain ⟨hE,_,_,_⟩:=mD
 refine wpIn_wide.2 ?_
 rw [fG]
 refine wp_seq (wp_region_list ?_)
 have hkp':=e3.keeps hkp
 have ho:o=(JO.enc (S:=En.Dop.D4) yq 3).2.1:=by rw [e1]
 have hn:n=(JO.enc (S:=En.Dop.D4) yq 3).2.2:=by rw [e1]
 have hv:=J3 hE (w0:=W') (F:=AK o β') (D0:=D') (bn:=3) (β0:=β') (f0:=3000) (k0:=[.ops Y3 Y3.toList]) (s0:=⟨[(2,.ptr 1 0),(5,.ptr 2 0)],o,n,25⟩)
  (Q:=fun e a' w'=>match e with
   | .normal=>a'.defers=[]/\a'.tmps.getD 4 undef=.int .i64 yq.2.2.2.1.1/\ ∃ D2 β3,(∀ i,i<3->β3 i=β' i)/\GH W' (AK o β') D' D2 o (· <n) β3 w'
   | _=>False) hkp' (fun _ _ _ _ _ h=>h) e4 rfl (fun z hz=>by
    simp only [List.mem_cons,List.not_mem_nil,or_false] at hz
    subst hz;trivial) (by
   subst ho;subst hn
   rw [eJ]
   intro _ _ D2 β3 a' w' hag hg
   refine ⟨hg.defers,by rw [hg.tmps 4 (.v (.int .i64 yq.2.2.2.1.1)) rfl];simp only [SV.den],D2,β3,hag,hg.gh⟩)
 have hl:=hv D' β' { a with defers:=[] } W' (fun _ _=>rfl) ⟨rfl,hsz,fun t x hx=>?_,fun t x hx=>?_,e3.base⟩
 ·simp only [List.map_cons,List.map_nil,Be.it,after] at hl
  have hl2:=DE (ds:=[{ target:=.collected W.heap.size,args:=#[] }]) (Q':=Exit.then (Code.ret.wp Tryz.prog (LZ (bodyPostM Fence.wide 2 Tryz.prog fn (Dm (S:=En.Dop.D4) Tryz.Bt.c ((yq.2.2.2.1.1,()),(yq.2.1,())) w D β o0)))) (LZ (bodyPostM Fence.wide 2 Tryz.prog fn (Dm (S:=En.Dop.D4) Tryz.Bt.c ((yq.2.2.2.1.1,()),(yq.2.1,())) w D β o0)))) ?_ (fun _ _ _ h=>h.elim) (fun ⟨_,_,h⟩=>h) hl
  ·rw [hd];exact hl2
  ·rintro a' w' ⟨hd',hr,D2,β3,hag,hgh⟩
   refine wp_ret ?_
   obtain ⟨g1,g2⟩:=OD.next e3 e2 e5 e6 e7 e8 e9 e1 hag hgh e4
   have hK':=(g1 W.heap.size (.inl rfl)).trans hK
   show LeavesInM _ _ _ _ _ _ _ _ _
   rw [hd']
   refine ⟨by simp,.inl ⟨_,_,rfl,run_takeDeferred hK',?_⟩⟩
   refine ⟨.int .i64 yq.2.2.2.1.1,by rw [<-hr];exact results_tmp hres _ _ _,?_⟩
   obtain ⟨D4,β4,vs4,o4,n4,f1,f2,f3,f4,_⟩:=g2.U8 (.deferred none)
   rcases he:En.Spec.enc (S:=En.Dop.D4) ⟨[.fd (.int .i64)],[TX]⟩ ((yq.2.2.2.1.1,()),(yq.2.1,())) 1 with ⟨rs,o5,n5⟩
   have ho4:o4=(JO.enc (S:=En.Dop.D4) yq 3).2.1:=by rw [f1]
   obtain ⟨ps,hps,hm0⟩:=eK yq
   rw [<-ho4] at hps
   obtain ⟨β5,b1,b2,b3,b4,b5,_⟩:=En.Spec.B5 f3 hps (by kernel_rfl) he
   have hrs:rs=[.v (.int .i64 yq.2.2.2.1.1)]:=by
    have h:En.Spec.enc (S:=En.Dop.D4) ⟨[.fd (.int .i64)],[TX]⟩ ((yq.2.2.2.1.1,()),(yq.2.1,())) 1=([.v (.int .i64 yq.2.2.2.1.1)],(En.Spec.enc (S:=En.Dop.D4) ⟨[.fd (.int .i64)],[TX]⟩ ((yq.2.2.2.1.1,()),(yq.2.1,())) 1).2.1,(En.Spec.enc (S:=En.Dop.D4) ⟨[.fd (.int .i64)],[TX]⟩ ((yq.2.2.2.1.1,()),(yq.2.1,())) 1).2.2):=by kernel_rfl
    rw [he] at h
    exact (Prod.mk.inj h).1
   refine ⟨_,β5,rs,o5,n5,he,?_,fun i hi=>?_,b2,b4,b5⟩
   ·rw [hrs];simp only [Az,SV.den]
   ·have hi0:i=0:=by have:i<1:=hi;omega
    subst hi0
    rw [b1 0 (by omega) 0 hm0,f2 0 (by omega),hβ]
 all_goals
  simp only [AI] at hx
  split at hx
  ·rename_i he;subst he;cases hx
   first
    | (refine ⟨by show 2<25;omega,?_⟩;simp only [SV.on];omega)
    | (rw [show ({ a with defers:=[] }:Act).tmps.getD 2 undef=a.tmps.getD 2 undef from rfl,h2,<- e2 1 (by omega)];simp only [SV.den])
  ·split at hx
   ·rename_i he;subst he;cases hx
    first
     | (refine ⟨by show 5<25;omega,?_⟩;simp only [SV.on];omega)
     | (rw [show ({ a with defers:=[] }:Act).tmps.getD 5 undef=a.tmps.getD 5 undef from rfl,h5,<- e2 2 (by omega)];simp only [SV.den])
   ·simp [AS] at hx
theorem Sg (args:Array Value) (w:World):(callFunc 104 args).run Tryz.prog w=.ok (.enter 104 args) w:=Ck (by kernel_rfl)
theorem Tryz.Bt.holds:Tryz.Bt.c.Holds Tryz.prog:=by
 obtain ⟨hE,hbod,hokB,fn,hf,hb,hn',hres⟩:=mD
 refine ⟨hbod,hokB,fun h=>(by cases h),fun x y hxy w D β vs o n he hg hon hn hiv=>?_⟩
 have hxy:Tryz.Bt.R x=some y:=hxy
 unfold Tryz.Bt.R at hxy
 split at hxy
 case h_2=>cases hxy
 rename_i hl
 have hl:=of_decide_eq_true hl
 obtain ⟨yq,hgo,hy⟩:=Option.bind_eq_some_iff.1 hxy
 cases hy
 have hkp:BS En.Dop.D4 w (AK o β) D:=⟨hiv,fun k hk=>⟨hg.C0 k hk,fun ⟨i,b,hi,hik⟩=>hg.off i b k hi hik hk⟩⟩
 have hx:x=(((),x.1.2.1,()),x.2):=rfl
 have he':En.Spec.enc (S:=En.Dop.D4) ⟨[.al 0 0,.fd (.sl 0)],[TX]⟩ (((),x.1.2.1,()),x.2) 1=(vs,o,n):=he
 have hlen:vs.length=2:=En.Spec.Aa he
 refine VC.Ss (M:=0+3000) (bn:=1) hf hb hn' (by omega) hon hg ?_
 refine J3 hE hkp (fun _ _ _ _ _ h=>h) (k0:=[.code [] (AP Tryz.prog 30)]) (s0:=⟨Bj 0 vs,o,n,25⟩) hn rfl (fun z hz=>by
  simp only [List.mem_cons,List.not_mem_nil,or_false] at hz
  subst hz;rfl) ?_
 rw [Tryz.Bt.part x.1.2.1 ((),x.2) vs o n he']
 intro _ _ D1 β1 a W hβ1 hg1
 simp only [List.map_cons,List.map_nil,Be.it,after]
 obtain ⟨ps,hps,hp7,hpbl,hm1,hm2,hm0⟩:=YD x.1.2.1 ((),x.2)
 rcases hq:JO.enc (S:=En.Dop.D4) ((),(x.2.1,((),()),(-1,()),())) 3 with ⟨vq,o2,n2⟩
 have he2:En.Spec.enc (S:=En.Dop.D4) ⟨[.al 1 0,.al 2 0],JO.bx⟩ (((),(),()),(x.2.1,((),()),(-1,()),())) 3=([.ptr 1 0,.ptr 2 0],o2,n2):=by
  have h:En.Spec.enc (S:=En.Dop.D4) ⟨[.al 1 0,.al 2 0],JO.bx⟩ (((),(),()),(x.2.1,((),()),(-1,()),())) 3=([.ptr 1 0,.ptr 2 0],(JO.enc (S:=En.Dop.D4) ((),(x.2.1,((),()),(-1,()),())) 3).2.1,(JO.enc (S:=En.Dop.D4) ((),(x.2.1,((),()),(-1,()),())) 3).2.2):=by kernel_rfl
  rw [h,hq]
 obtain ⟨β2,b1,b2,_,_,b5,b6,b7,_,_⟩:=En.Spec.B5 hg1.gh hps (by kernel_rfl) he2
 have r1:=b1 1 (by omega) 5 hm1
 have r2:=b1 2 (by omega) 6 hm2
 have r0:=b1 0 (by omega) 0 hm0
 obtain ⟨Bs,hBs,hBh⟩:=hg1.gh.own 7 _ (show lk (jQ x.1.2.1 ((),x.2)).o 7=some (.AN 46 [.h 1]) from rfl)
 obtain ⟨_,hrow⟩:=hg1.gh.own 1 _ (show lk (jQ x.1.2.1 ((),x.2)).o 1=some (.sl 0 x.1.2.1) by kernel_rfl)
 have A6:(β1 7).AN=Bs:=by unfold Nm.AN;rw [hBs];rfl
 have hBs':Bs<W.heap.size:=(Array.getElem?_eq_some_iff.1 hBh).1
 have hgd:=b2.iK (r:=Bs) (fun i b hi hk=>b6 7 _ i b Bs hp7 (by rw [hpbl];simp) hi (Nm.Es hBs) hk) hBs' (hg1.gh.fresh 7 _ Bs (show lk (jQ x.1.2.1 ((),x.2)).o 7=some (.AN 46 [.h 1]) from rfl) (Nm.Es hBs))
 have hrd: ∀ W':World,(∀ k,(FN D1 β1 ps.bl k\/k=Bs)->W'.heap[k]?=W.heap[k]?)->cd Bs x.1.2.1 W':=fun W' hs=>by
  have hc:W'.cell? ⟨Bs,0,none⟩=some ((β1 1).sl):=by
   rw [World.cell?_of_block (w:=W) (hs Bs (.inr rfl))]
   unfold World.cell?
   rw [hBh]
   simp [AA,SV.den]
  rcases Rn hrow with ⟨h1,a',c,h2⟩|⟨b,off,cap,h2,h3,h4⟩
  ·exact .inl ⟨h1,a',c,by rw [hc,h2]⟩
  ·exact .inr ⟨b,off,cap,by rw [hc,h2],fun j hj=>by rw [World.cell?_of_block (w:=W) (hs b (.inl (.inl h3)))];exact h4 j hj⟩
 have t2:a.tmps.getD 2 undef=.pointer (some ⟨(β2 1).AN,0,none⟩):=by rw [hg1.tmps 2 (.ptr 5 0) rfl,r1];simp only [SV.den]
 have t5:a.tmps.getD 5 undef=.pointer (some ⟨(β2 2).AN,0,none⟩):=by rw [hg1.tmps 5 (.ptr 6 0) rfl,r2];simp only [SV.den]
 have hsz:a.tmps.size=25:=hg1.size
 have hgo':Tryz.Bt.go ((bwd x.1.2.1).map Prod.snd) ((),(x.2.1,((),()),(-1,()),()))=some yq:=by rw [T1];exact hgo
 refine wpIn_wide.2 (wpIn_wide.1 (Kq (gf:=104) (lb:=#[.pointer (some ⟨Bs,0,none⟩)]) ?_ Sg (Tryz.Tx Bs x.1.2.1 hl) (fun _=>rfl)
  (mE w W (AK o β) D (fun k=>FN D1 β1 ps.bl k\/k=Bs) β2 ((),(x.2.1,((),()),(-1,()),()))) (fun _ _ _=>False) (fun pre W' ob ⟨y,h1,h2⟩ hlt=>⟨y,h1,OD.ZS y W' ob h2 hlt⟩) (fun _ _ _ _ h _=>h)
  (fun pre W' ⟨_,_,_,_,_,_,_,_,_,_,_,_,_,_,_,h9⟩=>hrd W' h9) (fun ob ob'=>⟨_,rfl,OD.first hq hgd b5 (fun _ h=>h) ob ob'⟩)
  (fun x' a'=>a'.defers=[]/\a'.tmps.size=25/\a'.tmps.getD 2 undef=.pointer (some ⟨(β2 1).AN,0,none⟩)/\a'.tmps.getD 5 undef=.pointer (some ⟨(β2 2).AN,0,none⟩)/\a'.tmps.getD 7 undef=.int .i64 x'.2) ?_ ?_ ?_ ?_))
 ·rw [show a.eval (.tmp 10)=a.tmps.getD 10 undef from rfl,hg1.tmps 10 (.fn 104 [.ptr 7 0]) rfl]
  simp only [SV.den,AA,ET (show Nat.ble 1000000 104=false from rfl),A6]
 ·intro l x' W' K hK
  exact Vo hsz fun a' h1 h2 h3 h4=>hK a' ⟨h1,h2,by rw [h3 2 (by decide) (by decide) (by decide)];exact t2,by rw [h3 5 (by decide) (by decide) (by decide)];exact t5,h4⟩
 ·rintro pre x' rest a' W' hxs _ hI ⟨h1,h2,h3,h4,h5⟩
  exact aU hkp hgo' hxs hI h1 h2 h3 h4 h5 _
 ·rintro W' ⟨y,h1,h2⟩ hK
  rw [hgo'] at h1
  cases h1
  simp only [after,Exit.inBlock]
  exact aV hkp hres (by rw [r0];exact hβ1 0 (by omega)) h2 hg1.defers hsz t2 t5 hK
 ·exact fun _ _ _ _ h=>h.elim
abbrev OB:Gh:=⟨0,93,[.fd (.sl 4),.st 0,.own 5 73,.own 6 95,.st 0,.st 0,.fd (.int .i64),.st 0],false⟩
abbrev Iq:List Gh:=[OB,⟨1,91,[.al 0 0],false⟩]
abbrev SN:Type:=List En.Dop.Tok×Int×List En.Dop.AZ×List En.Dop.HC×Int×Int×Int×Int×Unit
def sD (s:SN) (d:Int):SN:=(s.1,s.2.1,s.2.2.1,s.2.2.2.1,s.2.2.2.2.1,d,s.2.2.2.2.2.2.1,s.2.2.2.2.2.2.2.1,())
abbrev MT:Type:=En.Spec.D En.Dop.D4 ⟨[.al 0 0],[OB]⟩->Option (En.Spec.D En.Dop.D4 ⟨[.fd (.int .i64)],[OB]⟩)
def bX (r:Int) (s:SN):Option (En.Spec.D En.Dop.D4 ⟨[.fd (.int .i64)],[OB]⟩):=
 if BD (s.2.2.2.2.2.1 -1)=true then some ((r,()),(sD s (s.2.2.2.2.2.1 -1),())) else none
def SF (m:MT) (s:SN):Option (En.Spec.D En.Dop.D4 ⟨[.fd (.int .i64)],[OB]⟩):=
 if (!decide (s.2.2.2.2.2.2.1=0))=true then bX (-1) s else (m (((),()),(s,()))).bind fun v=>bX v.1.1 v.2.1
noncomputable def Tryz.within (m:MT) (s:SN):Option (En.Spec.D En.Dop.D4 ⟨[.fd (.int .i64)],[OB]⟩):=
 if BD (s.2.2.2.2.2.1+1)=true then
  if decide (100<s.2.2.2.2.2.1+1)=true then
   (Tryz.Ce 6 (s.1,s.2.1,s.2.2.1,s.2.2.2.1,s.2.2.2.2.1,s.2.2.2.2.2.1+1,s.2.2.2.2.2.2)).bind fun y=>SF m y.2.1
  else SF m (sD s (s.2.2.2.2.2.1+1))
 else none
noncomputable abbrev w4:Code:=As (AP Tryz.prog 127) [0,1,1,1]
noncomputable abbrev w5:Code:=As (AP Tryz.prog 127) [1,1,1,1]
noncomputable def Ib (c:Code):Array Oper:=match c with
 | .region _ o _=>o
 | _=>#[]
noncomputable def la:Array Oper:=Ib w4
noncomputable def nU:Array Oper:=Ib (As w5 [0,0])
noncomputable def nV:Array Oper:=Ib (As w5 [0,0,1,0])
noncomputable def nW:Array Oper:=Ib (As w5 [0,1])
noncomputable def lH:Array Oper:=Ib (AP Tryz.prog 156)
theorem lE:w4=.region 4 la false:=by kernel_rfl
theorem lG:w5=.seq (.seq (.region 5 nU false) (.cond (.tmp 24) (.seq (.region 6 nV false) .ret) .skip)) (.seq (.region 7 nW false) .ret):=by kernel_rfl
theorem gp:AP Tryz.prog 156=.region 0 lH false:=by kernel_rfl
noncomputable def iD:Oper:=(la.getD 0 default)
noncomputable def lF:Oper:=(la.getD 1 default)
theorem gn:la.toList=[iD,lF]:=by kernel_rfl
theorem gl:iD.op=.makeFunc (.func 156) #[] #[.tmp 2]/\iD.dst=some 19/\iD.guard=none:=⟨by kernel_rfl,by kernel_rfl,by kernel_rfl⟩
theorem gm:lF.op=.defer { callee:=.value (.tmp 19),args:=#[],argTypes:=#[] }/\lF.dst=none/\lF.guard=none:=⟨by kernel_rfl,by kernel_rfl,by kernel_rfl⟩
def bW.p:Ai:=⟨[],2,⟨[.al 1 0],Iq⟩,⟨[],Iq⟩,false,[],[]⟩
noncomputable def bW.E:Env En.Dop.D4:=Aj Tryz.prog 156 Tryz.tb [] bW.p
theorem bW.ok:AG En.Dop.D4 Tryz.prog 156 bW.p=true:=by kernel_rfl
theorem bW.lZ (s:SN):(Nv bW.E 3000 lH ⟨[.al 1 0],Iq⟩ ⟨[],Iq⟩ [0] [] 2 (((),()),(s,((),()),()))).eval (fun _ _=>none)=
  if BD (s.2.2.2.2.2.1 -1)=true then some ((),(sD s (s.2.2.2.2.2.1 -1),((),()),())) else none:=by kernel_rfl
theorem Sh (args:Array Value) (w:World):(callFunc 156 args).run Tryz.prog w=.ok (.enter 156 args) w:=Ck (by kernel_rfl)
theorem bY (r:Int) (s:SN): ∃ ps,En.Spec.parse (S:=En.Dop.D4) ⟨[.fd (.int .i64)],[OB]⟩ true [.v (.int .i64 r)] (En.Spec.enc (S:=En.Dop.D4) ⟨[],Iq⟩ ((),(s,((),()),())) 2).2.1 (Q3 1) 1=some (((r,()),(s,())),ps)/\lk ps.m 0=some 0:=
 ⟨⟨(1,.AN 91 [.ptr 0 0])::(2,.sl 4 s.1)::[],[(0,0)],[],1⟩,by kernel_rfl,by kernel_rfl⟩
theorem cZ {f:Nat} {sp:En.Spec} {out:Out (sp.D En.Dop.D4) (En.Spec.D En.Dop.D4 ⟨[.fd (.int .i64)],[OB]⟩)} {w:World} {D:Nat->Prop} {β:Nat->Nm} {o0:List (Nat×En.Own En.Dop.D4)} (hkp:BS En.Dop.D4 w (AK o0 β) D) {fn:Func} (hres:fn.results=#[.tmp 4]) {β2:Nat->Nm} (hβ:β2 0=β 0)
  {r:Int} {s:SN} (hd:BD (s.2.2.2.2.2.1 -1)=true) {a:Act} {W:World}
  (hh:MM En.Dop.D4 w (AK o0 β) D ⟨[.fd (.int .i64)],Iq⟩ [4] 2 β2 27 ((r,()),(s,((),()),())) a W):
  Leaves Tryz.prog fn a.tmps (Dm (S:=En.Dop.D4) ⟨f,1,sp,⟨[.fd (.int .i64)],[OB]⟩,false,out⟩ ((r,()),(sD s (s.2.2.2.2.2.1 -1),())) w D β o0) [{ target:=.fn (.func 156) #[.pointer (some ⟨(β2 1).AN,0,none⟩)],args:=#[] }] .returning W:=by
 obtain ⟨hE,_,_,fn7,hf7,hb7,hn7,hr7⟩:=FP (p:=bW.p) (ct:=[]) Tryz.AH Br bW.ok
 have hn7:fn7.ntmps=8:=hn7
 obtain ⟨⟨D1,β1,vs,o,n,he,h1,h2,h3,h4,h5⟩,hsz⟩:=hh
 have hr:a.tmps.getD 4 undef=.int .i64 r:=by
  have hvs:vs=[.v (.int .i64 r)]:=by
   have h:En.Spec.enc (S:=En.Dop.D4) ⟨[.fd (.int .i64)],Iq⟩ ((r,()),(s,((),()),())) 2=([.v (.int .i64 r)],(En.Spec.enc (S:=En.Dop.D4) ⟨[.fd (.int .i64)],Iq⟩ ((r,()),(s,((),()),())) 2).2.1,(En.Spec.enc (S:=En.Dop.D4) ⟨[.fd (.int .i64)],Iq⟩ ((r,()),(s,((),()),())) 2).2.2):=by kernel_rfl
   rw [he] at h
   exact (Prod.mk.inj h).1
  subst hvs
  have:=(h5 0 4 _ rfl rfl).2
  rw [this];simp only [SV.den]
 have he7:En.Spec.enc (S:=En.Dop.D4) ⟨[.al 1 0],Iq⟩ (((),()),(s,((),()),())) 2=([.ptr 1 0],o,n):=by
  have h:En.Spec.enc (S:=En.Dop.D4) ⟨[.al 1 0],Iq⟩ (((),()),(s,((),()),())) 2=([.ptr 1 0],(En.Spec.enc (S:=En.Dop.D4) ⟨[.fd (.int .i64)],Iq⟩ ((r,()),(s,((),()),())) 2).2.1,(En.Spec.enc (S:=En.Dop.D4) ⟨[.fd (.int .i64)],Iq⟩ ((r,()),(s,((),()),())) 2).2.2):=by kernel_rfl
  rw [h,he]
 have hseg:=bW.lZ s
 rw [if_pos hd] at hseg
 refine leaves_cons (by simp) (by rw [invoke];exact Sh _ _) ?_
 refine (callsD_of_wp (R:=fun e w'=>(∃ v,e=.returned v)/\ ∃ a',MM En.Dop.D4 w (AK o0 β) D ⟨[],Iq⟩ [] 2 β2 8 ((),(sD s (s.2.2.2.2.2.1 -1),((),()),())) a' w') hf7 hb7 ?_).mono ?_
 ·rw [gp]
  refine wp_region_list (Nw hE (by kernel_rfl) rfl hseg hkp ⟨⟨D1,β1,_,o,n,he7,h1,h2,?_,h4,?_⟩,?_⟩ ?_)
  ·simp only [BR,SV.on,and_true];omega
  ·intro j t v hj hv
   cases j with
   | zero=>
    simp only [List.getElem?_cons_zero,Option.some.injEq] at hj hv;subst hj;subst hv
    refine ⟨by show 0<8;omega,?_⟩
    rw [Array.getD_eq_getD_getElem?,Array.getElem?_append_left (by simp)]
    simp [SV.den,h1 1 (by omega)]
   | succ j=>simp at hj
  ·simp [hn7];rfl
  ·intro a' W' hd' hh'
   refine ⟨hd',.tuple #[],results_none (by rw [<-Array.toList_inj];rw [hr7];kernel_rfl) _ _ _,⟨_,rfl⟩,a',hh'⟩
 ·rintro e u w' ⟨rfl,⟨v,rfl⟩,a',⟨D2,β3,vs2,o2,n2,k1,k2,k3,k4,k5,_⟩,_⟩
  show ∃ v,(results fn a.tmps).run Tryz.prog w'=.ok v w'/\_
  refine ⟨.int .i64 r,by rw [<-hr];exact results_tmp hres _ _ _,?_⟩
  rcases he8:En.Spec.enc (S:=En.Dop.D4) ⟨[.fd (.int .i64)],[OB]⟩ ((r,()),(sD s (s.2.2.2.2.2.1 -1),())) 1 with ⟨rs,o5,n5⟩
  obtain ⟨ps,hps,hm0⟩:=bY r (sD s (s.2.2.2.2.2.1 -1))
  have ho2:o2=(En.Spec.enc (S:=En.Dop.D4) ⟨[],Iq⟩ ((),(sD s (s.2.2.2.2.2.1 -1),((),()),())) 2).2.1:=by rw [k1]
  rw [<-ho2] at hps
  obtain ⟨β5,b1,b2,b3,b4,b5,_⟩:=En.Spec.B5 k3 hps (by kernel_rfl) he8
  have hrs:rs=[.v (.int .i64 r)]:=by
   have h: ∀ s':SN,En.Spec.enc (S:=En.Dop.D4) ⟨[.fd (.int .i64)],[OB]⟩ ((r,()),(s',())) 1=([.v (.int .i64 r)],(En.Spec.enc (S:=En.Dop.D4) ⟨[.fd (.int .i64)],[OB]⟩ ((r,()),(s',())) 1).2.1,(En.Spec.enc (S:=En.Dop.D4) ⟨[.fd (.int .i64)],[OB]⟩ ((r,()),(s',())) 1).2.2):=fun s'=>by kernel_rfl
   have h:=h (sD s (s.2.2.2.2.2.1 -1))
   rw [he8] at h
   exact (Prod.mk.inj h).1
  refine ⟨_,β5,rs,o5,n5,he8,?_,fun i hi=>?_,b2,b4,b5⟩
  ·rw [hrs];simp only [Az,SV.den]
  ·have hi0:i=0:=by have:i<1:=hi;omega
   subst hi0
   rw [b1 0 (by omega) 0 hm0,k2 0 (by omega),hβ]
abbrev bZ (g:Nat):List Cr:=[.fn g [(0,0)],.al 1 0]
abbrev iE (g:Nat):List Cr:=[.fn g [(0,0)],.al 1 0,.fd .bool]
def mm (g:Nat):Ai:=⟨[(999998,⟨[[0,0,1,1,1],[0,1,1,1,1]],[1,2],2,⟨(bZ g),Iq⟩⟩)],1,⟨[.al 0 0,.fn g [(0,0)]],[OB]⟩,⟨[.fd (.int .i64)],[OB]⟩,false,[],[]⟩
noncomputable def wk (f:Nat) (m:MT):By En.Dop.D4:=⟨f,1,⟨[.al 0 0],[OB]⟩,⟨[.fd (.int .i64)],[OB]⟩,false,.opt m⟩
noncomputable def wE (f g:Nat) (m:MT):Env En.Dop.D4:=Aj Tryz.prog 127 Tryz.tb [Tryz.Ce.c,wk f m] (mm g)
noncomputable def wc (g:Nat) (m:MT):By En.Dop.D4:=⟨127,1,⟨[.al 0 0,.fn g [(0,0)]],[OB]⟩,⟨[.fd (.int .i64)],[OB]⟩,false,.opt fun x=>Tryz.within m x.2.1⟩
def W5 (f g:Nat):Prop:= ∀ (m:MT) (s:SN),(Nv (wE f g m) 3000 nU ⟨(bZ g),Iq⟩ ⟨(iE g),Iq⟩ [1,2] [1,2,24] 2 (((),(),()),(s,((),()),()))).eval (fun _ _=>none)=some (((),(),(!decide (s.2.2.2.2.2.2.1=0)),()),(s,((),()),()))
theorem s6 (f g:Nat) (m:MT) (s:SN) (b:Bool):(Nv (wE f g m) 3000 nV ⟨(iE g),Iq⟩ ⟨[.fd (.int .i64)],Iq⟩ [1,2,24] [4] 2 (((),(),b,()),(s,((),()),()))).eval (fun _ _=>none)=some ((-1,()),(s,((),()),())):=by kernel_rfl
def W7 (f g:Nat):Prop:= ∀ (m:MT) (s:SN) (b:Bool),(Nv (wE f g m) 3000 nW ⟨(iE g),Iq⟩ ⟨[.fd (.int .i64)],Iq⟩ [1,2,24] [4] 2 (((),(),b,()),(s,((),()),()))).eval (fun _ _=>none)=(m (((),()),(s,()))).bind fun v=>some ((v.1.1,()),(v.2.1,((),()),()))
def W0 (f g:Nat):Prop:= ∀ (m:MT) (s:SN) (vs:List SV) (o:List (Nat×En.Own En.Dop.D4)) (n:Nat) (h:En.Spec.enc (S:=En.Dop.D4) ⟨[.al 0 0,.fn g [(0,0)]],[OB]⟩ (((),(),()),(s,())) 1=(vs,o,n)),
  (mg (wE f g m) 3000 ⟨(bZ g),Iq⟩ [1,2] 1 2 999998 [[0,0,1,1,1],[0,1,1,1,1]] [.code [] (AP Tryz.prog 127)] ⟨Bj 0 vs,o,n,27⟩).eval (fun _ _=>none)=
  if BD (s.2.2.2.2.2.1+1)=true then
   if decide (100<s.2.2.2.2.2.1+1)=true then
    (Tryz.Ce 6 (s.1,s.2.1,s.2.2.1,s.2.2.2.1,s.2.2.2.2.1,s.2.2.2.2.2.1+1,s.2.2.2.2.2.2)).bind fun y=>some (((),(),()),(y.2.1,((),()),()))
   else some (((),(),()),(sD s (s.2.2.2.2.2.1+1),((),()),()))
  else none
theorem gq {f g:Nat} (h5:W5 f g) (h7:W7 f g) {m:MT} (hE:(wE f g m).Ok Tryz.prog) {x:En.Spec.D En.Dop.D4 ⟨[.al 0 0,.fn g [(0,0)]],[OB]⟩} {y:En.Spec.D En.Dop.D4 ⟨[.fd (.int .i64)],[OB]⟩} {w:World} {D:Nat->Prop} {β:Nat->Nm} {o0:List (Nat×En.Own En.Dop.D4)} (hkp:BS En.Dop.D4 w (AK o0 β) D) {fn:Func} (hres:fn.results=#[.tmp 4]) {β2:Nat->Nm} (hβ:β2 0=β 0) {s:SN} (hy:SF m s=some y)
  {a:Act} {W:World} (hd:a.defers=[]) (hh:MM En.Dop.D4 w (AK o0 β) D ⟨(bZ g),Iq⟩ [1,2] 2 β2 27 (((),(),()),(s,((),()),())) a W):
  w4.wpIn Fence.wide 0 Tryz.prog (after Fence.wide Tryz.prog 0 [.code w5] (LZ (bodyPostD Tryz.prog fn (Dm (S:=En.Dop.D4) (wc g m) y w D β o0)))) a W:=by
 have ht2:a.tmps.getD 2 undef=.pointer (some ⟨(β2 1).AN,0,none⟩):=by
  obtain ⟨⟨D1,β1,vs,o,n,he,h1,h2,h3,h4,h5⟩,hsz⟩:=hh
  have hvs:vs=[.fn g [.ptr 0 0],.ptr 1 0]:=by
   have h:En.Spec.enc (S:=En.Dop.D4) ⟨(bZ g),Iq⟩ (((),(),()),(s,((),()),())) 2=([.fn g [.ptr 0 0],.ptr 1 0],(En.Spec.enc (S:=En.Dop.D4) ⟨(bZ g),Iq⟩ (((),(),()),(s,((),()),())) 2).2.1,(En.Spec.enc (S:=En.Dop.D4) ⟨(bZ g),Iq⟩ (((),(),()),(s,((),()),())) 2).2.2):=by kernel_rfl
   rw [he] at h
   exact (Prod.mk.inj h).1
  subst hvs
  rw [(h5 1 2 _ rfl rfl).2,<- h1 1 (by omega)]
  simp only [SV.den]
 obtain ⟨a1,a2,a3⟩:=gl
 obtain ⟨b1,b2,b3⟩:=gm
 have hsz:=hh.sz
 rw [lE]
 refine FL (.inl rfl) ?_
 rw [gn]
 unfold wpList
 rw [if_pos (by simp [Region.wanted,a3])]
 refine .inl (An (v:=.func (.func 156) #[] #[.pointer (some ⟨(β2 1).AN,0,none⟩)]) (w':=W) ?_ ?_)
 ·simp [execOp,a1,Instr.makeFunc,Act.eval,<- ht2]
 unfold wpList
 rw [if_pos (by simp [Region.wanted,b3])]
 refine .inl ?_
 have hex:(execOp (a.put iD.dst (.func (.func 156) #[] #[.pointer (some ⟨(β2 1).AN,0,none⟩)])).eval lF).run Tryz.prog W=.ok (.defer { target:=.fn (.func 156) #[.pointer (some ⟨(β2 1).AN,0,none⟩)],args:=#[] }) W:=by
  have hev:(a.put iD.dst (.func (.func 156) #[] #[.pointer (some ⟨(β2 1).AN,0,none⟩)])).eval (.tmp 19)=.func (.func 156) #[] #[.pointer (some ⟨(β2 1).AN,0,none⟩)]:=by
   simp [Act.eval,Act.put,a2,Array.getD_eq_getD_getElem?,Array.getElem?_setIfInBounds,hsz]
  simp [execOp,b1,resolve,hev,Deferred.ofValue]
 unfold Oper.wp
 rw [hex,Oper.upon_defer,b2]
 simp only [wpList,after,Act.put,a2,hd]
 refine wpIn_wide.2 ?_
 rw [lG]
 have hh2:MM En.Dop.D4 w (AK o0 β) D ⟨(bZ g),Iq⟩ [1,2] 2 β2 27 (((),(),()),(s,((),()),())) { a.put (some 19) (.func (.func 156) #[] #[.pointer (some ⟨(β2 1).AN,0,none⟩)]) with defers:=[{ target:=.fn (.func 156) #[.pointer (some ⟨(β2 1).AN,0,none⟩)],args:=#[] }] } W:=hh.put (by decide)
 refine wp_seq (wp_seq (wp_region_list (Nw hE (by kernel_rfl) rfl (h5 m s) hkp hh2 fun a3 W3 hd3 hh3=>?_)))
 have ht24:a3.eval (.tmp 24)=.bool (!decide (s.2.2.2.2.2.2.1=0)):=by
  obtain ⟨⟨D1,β1,vs,o,n,he,h1,h2,h3,h4,h5⟩,hsz⟩:=hh3
  have hvs: ∀ b:Bool,En.Spec.enc (S:=En.Dop.D4) ⟨(iE g),Iq⟩ (((),(),b,()),(s,((),()),())) 2=([.fn g [.ptr 0 0],.ptr 1 0,.b b],(En.Spec.enc (S:=En.Dop.D4) ⟨(iE g),Iq⟩ (((),(),b,()),(s,((),()),())) 2).2.1,(En.Spec.enc (S:=En.Dop.D4) ⟨(iE g),Iq⟩ (((),(),b,()),(s,((),()),())) 2).2.2):=fun b=>by kernel_rfl
  have h:=hvs (!decide (s.2.2.2.2.2.2.1=0))
  rw [he] at h
  have h:=(Prod.mk.inj h).1
  subst h
  rw [show a3.eval (.tmp 24)=a3.tmps.getD 24 undef from rfl,(h5 2 24 _ rfl rfl).2]
  simp only [SV.den]
 unfold SF at hy
 split at hy
 ·rename_i hb
  unfold bX at hy
  split at hy
  case isFalse=>cases hy
  rename_i hin
  cases hy
  refine wp_cond_true (by rw [ht24,hb]) (wp_seq (wp_region_list (Nw hE (by kernel_rfl) rfl ((s6 f g) m s _) hkp hh3 fun a4 W4 hd4 hh4=>wp_ret ?_)))
  show Leaves _ _ _ _ _ _ _
  rw [hd4,hd3]
  exact cZ hkp hres hβ hin hh4
 ·rename_i hb
  have hb:(!decide (s.2.2.2.2.2.2.1=0))=false:=by simpa using hb
  obtain ⟨v,hv,hy⟩:=Option.bind_eq_some_iff.1 hy
  unfold bX at hy
  split at hy
  case isFalse=>cases hy
  rename_i hin
  cases hy
  refine wp_cond_false (by rw [ht24,hb]) (wp_skip ?_)
  have h7:=h7 m s (!decide (s.2.2.2.2.2.2.1=0))
  rw [hv] at h7
  refine wp_seq (wp_region_list (Nw hE (by kernel_rfl) rfl h7 hkp hh3 fun a4 W4 hd4 hh4=>wp_ret ?_))
  show Leaves _ _ _ _ _ _ _
  rw [hd4,hd3]
  exact cZ hkp hres hβ hin hh4
theorem MI {f g:Nat} (hs5:W5 f g) (h0:W0 f g) (h7:W7 f g) (ok:AG En.Dop.D4 Tryz.prog 127 (mm g)=true) {m:MT} (hm:(wk f m).Holds Tryz.prog):(wc g m).Holds Tryz.prog:=by
 obtain ⟨hE,hbod,hokB,fn,hf,hb,hn,hr⟩:=FP (p:=(mm g)) (ct:=[Tryz.Ce.c,wk f m]) Tryz.AH (Ao Tryz.Ce.holds (Ao hm Br)) ok
 have e1:Cl Tryz.prog 127=27:=by kernel_rfl
 have e2:ED Tryz.prog 127=[.tmp 4]:=by kernel_rfl
 have hres:fn.results=#[.tmp 4]:=by rw [e2] at hr;rw [<-hr]
 refine ⟨hbod,hokB,fun h=>(by cases h),fun x y hxy w D β vs o n he hg hon hn' hiv=>?_⟩
 have hxy:Tryz.within m x.2.1=some y:=hxy
 have hkp:BS En.Dop.D4 w (AK o β) D:=⟨hiv,fun k hk=>⟨hg.C0 k hk,fun ⟨i,b,hi,hik⟩=>hg.off i b k hi hik hk⟩⟩
 have hlen:vs.length=2:=En.Spec.Aa he
 have hs0:=h0 m x.2.1 vs o n he
 have key: ∀ s:SN,SF m s=some y->(mg (wE f g m) 3000 ⟨(bZ g),Iq⟩ [1,2] 1 2 999998 [[0,0,1,1,1],[0,1,1,1,1]] [.code [] (AP Tryz.prog 127)] ⟨Bj 0 vs,o,n,27⟩).eval (fun _ _=>none)=some (((),(),()),(s,((),()),()))->Calls Tryz.prog 127 (AA β vs).toArray w (Dm (wc g m) y w D β o):=fun s hs hev=>
  VC.dV (M:=0+3000) (bn:=1) hf hb (hn.trans e1) (by omega) hon hg (lD hE (k1:=[.code [0,1,1,1] w4,.code [1,1,1,1] w5]) (by kernel_rfl) (by kernel_rfl) (by omega) (k0:=[.code [] (AP Tryz.prog 127)]) hev hkp (fun _ _ _ _ _ h=>h) hn' rfl (fun z hz=>by
   simp only [List.mem_cons,List.not_mem_nil,or_false] at hz
   subst hz;rfl) fun β2 a W hag hd hh=>gq hs5 h7 (x:=x) hE hkp hres (hag 0 (by omega)) hs hd hh)
 unfold Tryz.within at hxy
 split at hxy
 case isFalse=>cases hxy
 rename_i h1
 rw [if_pos h1] at hs0
 split at hxy
 ·rename_i h2
  rw [if_pos h2] at hs0
  obtain ⟨z,hz,hy⟩:=Option.bind_eq_some_iff.1 hxy
  rw [hz] at hs0
  exact key _ hy hs0
 ·rename_i h2
  rw [if_neg h2] at hs0
  exact key _ hxy hs0
theorem mi.holds {m:MT} (hm:(wk 184 m).Holds Tryz.prog):(wc 1000184 m).Holds Tryz.prog:=MI (f:=184) (g:=1000184) (fun _ _=>by kernel_rfl) (fun _ _ _ _ _ h=>by cases h;kernel_rfl) (fun _ _ _=>by kernel_rfl) (by kernel_rfl) hm
theorem mj.holds {m:MT} (hm:(wk 192 m).Holds Tryz.prog):(wc 1000192 m).Holds Tryz.prog:=MI (f:=192) (g:=1000192) (fun _ _=>by kernel_rfl) (fun _ _ _ _ _ h=>by cases h;kernel_rfl) (fun _ _ _=>by kernel_rfl) (by kernel_rfl) hm
theorem ml.holds {m:MT} (hm:(wk 195 m).Holds Tryz.prog):(wc 1000195 m).Holds Tryz.prog:=MI (f:=195) (g:=1000195) (fun _ _=>by kernel_rfl) (fun _ _ _ _ _ h=>by cases h;kernel_rfl) (fun _ _ _=>by kernel_rfl) (by kernel_rfl) hm
theorem mh.holds {m:MT} (hm:(wk 128 m).Holds Tryz.prog):(wc 1000128 m).Holds Tryz.prog:=MI (f:=128) (g:=1000128) (fun _ _=>by kernel_rfl) (fun _ _ _ _ _ h=>by cases h;kernel_rfl) (fun _ _ _=>by kernel_rfl) (by kernel_rfl) hm
end Go.Proofs
namespace Go.Proofs.Tryz
open Go Go.En
def LY.p:Ai:=⟨[],0,⟨[],[]⟩,⟨[.own 1 9],[]⟩,true,[],[]⟩
theorem LY.ok:AG Dop.D4 prog 194 LY.p=true:=by kernel_rfl
def Dv.p:Ai:=⟨[],1,⟨[.al 0 0],[PS.b0]⟩,⟨[.fd (.int .i64)],[PS.b0]⟩,false,[],[]⟩
theorem Dv.ok:AG Dop.D4 prog 158 Dv.p=true:=by kernel_rfl
def C8.p:Ai:=⟨[],1,⟨[.al 0 0,.fn 1000184 [(0,0)]],[PS.b0]⟩,⟨[.fd (.int .i64)],[PS.b0]⟩,false,[],[]⟩
abbrev D7.q3:Cut:=⟨[[0,0,0,0,1,0,1,1],[0,1,0,0,1,0,1,1],[2,0,0,1,0,1,1],[1,0],[0,1,1,1]],[0,3,10,11,12],1,⟨[.al 0 0,.fd (.int .i64),.own 1 9,.fd (.int .i64),.fd (.int .i64)],[PS.b0]⟩⟩
def D7.p:Ai:=⟨[(3,D7.q3)],1,⟨[.al 0 0],[PS.b0]⟩,⟨[.fd (.int .i64)],[PS.b0]⟩,false,[],[]⟩
theorem D7.ok:AG Dop.D4 prog 184 D7.p=true:=by kernel_rfl
def Jv.p:Ai:=⟨[],1,⟨[.al 0 0],[PS.b0]⟩,⟨[.fd (.int .i64)],[PS.b0]⟩,false,[],[]⟩
theorem Jv.ok:AG Dop.D4 prog 192 Jv.p=true:=by kernel_rfl
abbrev C2.q4:Cut:=⟨[[0,0,0,0,0,0,1,1,1,0,1],[0,1,0,0,0,0,1,1,1,0,1],[0,1,0,0,0,1,1,1,0,1],[1,1],[2,0,0,1,1,1,0,1],[1,0],[3,0,1]],[0,1,5],1,⟨[.al 0 0,.fd (.int .i64),.fd (.int .i64)],[PS.b0]⟩⟩
abbrev C2.q5:Cut:=⟨[[0,0,0,0,1,0,0,0,0,1,1,1,0,1],[0,1,0,0,1,0,0,0,0,1,1,1,0,1],[2,0,0,1,0,0,0,0,1,1,1,0,1],[1,2],[0,1,0,0,0,1,1,1,0,1],[1,1],[2,0,0,1,1,1,0,1],[1,0],[3,0,1]],[0,1,5,24,25,26],1,⟨[.al 0 0,.fd (.int .i64),.fd (.int .i64),.own 1 9,.fd (.int .i64),.fd (.int .i64)],[PS.b0]⟩⟩
def C2.p:Ai:=⟨[(4,C2.q4),(5,C2.q5)],1,⟨[.al 0 0,.fd (.int .i64)],[PS.b0]⟩,⟨[.fd (.int .i64)],[PS.b0]⟩,false,[],[]⟩
theorem C2.ok:AG Dop.D4 prog 193 C2.p=true:=by kernel_rfl
abbrev Dj.q3:Cut:=⟨[[0,0,0,0,1,0,1,1],[0,1,0,0,1,0,1,1],[2,0,0,1,0,1,1],[1,0],[0,1,1,1]],[0,3,13,14,15],1,⟨[.al 0 0,.fd (.int .i64),.own 1 9,.fd (.int .i64),.fd (.int .i64)],[PS.b0]⟩⟩
def Dj.p:Ai:=⟨[(3,Dj.q3)],1,⟨[.al 0 0],[PS.b0]⟩,⟨[.fd (.int .i64)],[PS.b0]⟩,false,[(19,⟨[(0,true),(1,false),(2,true),(3,true),(4,true),(5,true),(6,false),(7,true),(8,true),(9,true),(10,true),(11,false),(12,false),(13,true),(14,true)],[1000000],[0,1,3,7,15,31,63,127,7,263,775,1799,3847,8191,16383],false⟩)],[]⟩
theorem Dj.ok:AG Dop.D4 prog 195 Dj.p=true:=by kernel_rfl
def CO.p:Ai:=⟨[],1,⟨[.al 0 0,.fn 1000195 [(0,0)]],[PS.b0]⟩,⟨[.fd (.int .i64)],[PS.b0]⟩,false,[],[]⟩
def Jw.p:Ai:=⟨[],1,⟨[.al 0 0],[PS.b0]⟩,⟨[.fd (.int .i64)],[PS.b0]⟩,false,[(13,⟨[(0,true),(1,false),(2,true),(3,false),(4,true)],[5,1000004],[0,1,0,4,15,31],false⟩)],[]⟩
theorem Jw.ok:AG Dop.D4 prog 197 Jw.p=true:=by kernel_rfl
abbrev D9.q2:Cut:=⟨[[0,0,0,0,0,0,1,1],[0,1,0,0,0,0,1,1],[0,1,0,0,0,1,1],[2,0,0,0,1,1],[1,0],[0,1,1,1]],[0,3],1,⟨[.al 0 0,.own 0 3],[PS.b0]⟩⟩
def D9.p:Ai:=⟨[(2,D9.q2)],1,⟨[.al 0 0],[PS.b0]⟩,⟨[.fd (.int .i64)],[PS.b0]⟩,false,[],[]⟩
theorem D9.ok:AG Dop.D4 prog 198 D9.p=true:=by kernel_rfl
abbrev Dk.q1:Cut:=⟨[[0,0,0,0,0,0,1],[0,1,0,0,0,0,1],[0,1,0,0,0,1],[2,0,0,0,1],[1,0],[0,1,1]],[0,1],1,⟨[.al 0 0,.fd (.int .i64)],[PS.b0]⟩⟩
def Dk.p:Ai:=⟨[(1,Dk.q1)],1,⟨[.al 0 0,.fd (.int .i64)],[PS.b0]⟩,⟨[.fd (.int .i64)],[PS.b0]⟩,false,[(12,⟨[(0,true),(1,true),(2,true),(3,false),(4,true),(5,true),(6,true),(7,false),(8,true),(9,false),(10,false),(11,false),(12,true)],[],[0,1,3,7,0,16,48,112,240,511,1023,2047,4095],false⟩),(17,⟨[(0,true),(1,true),(2,true),(3,false),(4,true),(5,true),(6,true),(7,false),(8,true),(9,false),(10,false),(11,false),(12,true),(13,false),(14,true)],[15,1000006],[0,1,3,7,0,16,48,112,240,511,1023,2047,0,4096,16383,32767],false⟩)],[]⟩
theorem Dk.ok:AG Dop.D4 prog 196 Dk.p=true:=by kernel_rfl
def C9.p:Ai:=⟨[],1,⟨[.al 0 0,.fn 1000192 [(0,0)]],[PS.b0]⟩,⟨[.fd (.int .i64)],[PS.b0]⟩,false,[],[]⟩
abbrev Av.T:Type:=(((Unit×Unit)×(PS×Unit))->Option ((Int×Unit)×(PS×Unit)))×(((Unit×Unit×Unit)×(PS×Unit))->Option ((Int×Unit)×(PS×Unit)))×(((Unit×Unit)×(PS×Unit))->Option ((Int×Unit)×(PS×Unit)))×(((Unit×Unit)×(PS×Unit))->Option ((Int×Unit)×(PS×Unit)))×(((Unit×Int×Unit)×(PS×Unit))->Option ((Int×Unit)×(PS×Unit)))×(((Unit×Unit)×(PS×Unit))->Option ((Int×Unit)×(PS×Unit)))×(((Unit×Unit×Unit)×(PS×Unit))->Option ((Int×Unit)×(PS×Unit)))×(((Unit×Unit)×(PS×Unit))->Option ((Int×Unit)×(PS×Unit)))×(((Unit×Unit)×(PS×Unit))->Option ((Int×Unit)×(PS×Unit)))×(((Unit×Int×Unit)×(PS×Unit))->Option ((Int×Unit)×(PS×Unit)))×(((Unit×Unit×Unit)×(PS×Unit))->Option ((Int×Unit)×(PS×Unit)))×Unit
def NI.p:Ai:=⟨[],1,⟨[.al 0 0],[PS.b0]⟩,⟨[.fd (.int .i64)],[PS.b0]⟩,false,[],[]⟩
theorem NI.ok:AG Dop.D4 prog 159 NI.p=true:=by kernel_rfl
def NJ.p:Ai:=⟨[],1,⟨[.al 0 0,.fd .str],[PS.b0]⟩,⟨[.fd (.int .i64)],[PS.b0]⟩,false,[],[]⟩
theorem NJ.ok:AG Dop.D4 prog 160 NJ.p=true:=by kernel_rfl
def NK.p:Ai:=⟨[],1,⟨[.al 0 0],[PS.b0]⟩,⟨[.fd .bool],[PS.b0]⟩,false,[(1,⟨[(0,true),(1,false),(2,true),(3,true),(4,true),(5,true),(6,true),(7,true),(8,false),(9,true),(10,true),(11,true),(12,true),(13,false),(14,false),(15,true),(16,true),(17,true),(18,true),(19,true),(20,true),(21,false),(22,true),(23,true),(24,true),(25,false),(26,true),(27,false),(28,false),(29,false),(30,true),(31,true),(32,true)],[1000000],[0,1,3,7,15,31,63,127,255,511,31,1055,3103,7199,15391,32767,65535,131071,262143,524287,1048575,2097151,262143,4456447,12845055,29622271,63176703,134217727,268435455,536870911,1073741823,2147483647,4294967295],false⟩)],[]⟩
theorem NK.ok:AG Dop.D4 prog 161 NK.p=true:=by kernel_rfl
abbrev HQ.q4:Cut:=⟨[[0,0,0,0,0,0,1,1,1,1],[0,1,0,0,0,0,1,1,1,1],[0,1,0,0,0,1,1,1,1],[2,0,0,0,1,1,1,1],[1,0],[0,1,1,1,1,1]],[0,3,4],2,⟨[.al 0 0,.al 1 0,.own 0 3],[PS.b0,⟨1,73,[.st 5],false⟩]⟩⟩
def HQ.p:Ai:=⟨[(4,HQ.q4)],1,⟨[.al 0 0],[PS.b0]⟩,⟨[.fd (.int .i64)],[PS.b0]⟩,false,[],[]⟩
theorem HQ.ok:AG Dop.D4 prog 70 HQ.p=true:=by kernel_rfl
def IZ.p:Ai:=⟨[],1,⟨[.al 0 0],[PS.b0]⟩,⟨[.fd (.int .i64)],[PS.b0]⟩,false,[],[]⟩
theorem IZ.ok:AG Dop.D4 prog 103 IZ.p=true:=by kernel_rfl
def Bb.p:Ai:=⟨[],1,⟨[.al 0 0,.fn 1000128 [(0,0)]],[PS.b0]⟩,⟨[.fd (.int .i64)],[PS.b0]⟩,false,[],[]⟩
abbrev E9.nt:Cut:=⟨[[0,0,1,1,1],[0,1,1,1,1]],[0,3],2,⟨[.al 0 0,.al 1 0],[PS.b0,⟨1,73,[.st 5],false⟩]⟩⟩
abbrev E9.Zd:Cut:=⟨[[0,1,1,1,1,0,1,1,1,1,1,0,0,1,1],[1,0],[0,1,1,1]],[0,3],2,⟨[.al 0 0,.al 1 0],[PS.b0,⟨1,73,[.st 5],false⟩]⟩⟩
abbrev E9.ns:Cut:=⟨[[0,0,1,1,1,0,1,1,1,1,1,1,1,1,1,1,1,1,1,1,1,1,1,1,1,1,1,1,1,1,1,0,0,1,1],[0,1,1,1,1,0,1,1,1,1,1,1,1,1,1,1,1,1,1,1,1,1,1,1,1,1,1,1,1,1,1,0,0,1,1],[1,0],[0,1,1,1]],[0,3,4],2,⟨[.al 0 0,.al 1 0,.fd (.int .i64)],[PS.b0,⟨1,73,[.st 5],false⟩]⟩⟩
def E9.p:Ai:=⟨[(64,E9.nt),(13,E9.Zd),(53,E9.ns)],1,⟨[.al 0 0],[PS.b0]⟩,⟨[.fd (.int .i64)],[PS.b0]⟩,false,[],[]⟩
theorem E9.ok:AG Dop.D4 prog 128 E9.p=true:=by kernel_rfl
abbrev JN.T:Type:=(((Unit×Unit)×(PS×Unit))->Option ((Int×Unit)×(PS×Unit)))×(((Unit×Unit)×(PS×Unit))->Option ((Int×Unit)×(PS×Unit)))×(((Unit×Unit×Unit)×(PS×Unit))->Option ((Int×Unit)×(PS×Unit)))×(((Unit×Unit)×(PS×Unit))->Option ((Int×Unit)×(PS×Unit)))×Unit
noncomputable def JN.ct (r:JN.T):List (By Dop.D4):=[⟨70,HQ.p.bn,HQ.p.sp,HQ.p.rs,HQ.p.flat,.opt (r.1)⟩,⟨103,IZ.p.bn,IZ.p.sp,IZ.p.rs,IZ.p.flat,.opt (r.2.1)⟩,⟨127,Bb.p.bn,Bb.p.sp,Bb.p.rs,Bb.p.flat,.opt (r.2.2.1)⟩,⟨128,E9.p.bn,E9.p.sp,E9.p.rs,E9.p.flat,.opt (r.2.2.2.1)⟩]
abbrev P5.q7:Cut:=⟨[[0,0,0,0,0,0,1,1,1,1,0,1,0,1,1],[0,1,0,0,0,0,1,1,1,1,0,1,0,1,1],[0,1,0,0,0,1,1,1,1,0,1,0,1,1],[2,0,0,0,1,1,1,1,0,1,0,1,1],[1,0],[0,1,1,1,1,1,0,1,0,1,1],[0,1,1,1]],[0,3,4],2,⟨[.al 0 0,.al 1 0,.own 0 3],[PS.b0,⟨1,73,[.st 5],false⟩]⟩⟩
abbrev P5.lV:Cut:=⟨[[0,0,0,0,0,0,1,0,1,0,1,1,1,1,1],[0,1,0,0,0,0,1,0,1,0,1,1,1,1,1],[0,1,0,0,0,1,0,1,0,1,1,1,1,1],[2,0,0,0,1,0,1,0,1,1,1,1,1],[1,2],[0,1,1,0,1,0,1,1,1,1,1],[0,1,1,1,1,1,1]],[0,3,7],2,⟨[.al 0 0,.al 1 0,.own 0 3],[PS.b0,⟨1,73,[.st 5],false⟩]⟩⟩
def P5.p:Ai:=⟨[(7,P5.q7),(21,P5.lV)],1,⟨[.al 0 0],[PS.b0]⟩,⟨[.fd (.int .i64)],[PS.b0]⟩,false,[(2,⟨[(0,true),(1,false),(2,true),(3,true),(4,true),(5,true),(6,false),(7,true),(8,true),(9,true),(10,true),(11,false),(12,false),(13,true),(14,true),(15,true),(16,true),(17,true),(18,true),(19,false),(20,true),(21,true),(22,true),(23,false),(24,true),(25,false),(26,false),(27,false),(28,true),(29,true)],[1000000],[0,1,3,7,15,31,63,127,7,263,775,1799,3847,8191,16383,32767,65535,131071,262143,524287,65535,1114111,3211263,7405567,15794175,33554431,67108863,134217727,268435455,536870911],false⟩),(18,⟨[(0,true),(1,false),(2,true),(3,false),(4,true),(5,false),(6,true),(7,false),(8,true)],[9,1000003],[0,1,0,4,0,16,51,115,255,511],false⟩)],[]⟩
theorem P5.ok:AG Dop.D4 prog 29 P5.p=true:=by kernel_rfl
abbrev m20.q3:Cut:=⟨[[0,0,0,0,0,1,0,1,1],[0,1,0,0,0,1,0,1,1],[0,1,0,0,1,0,1,1],[2,0,0,1,0,1,1],[1,0],[0,1,1,1]],[2,5,6],2,⟨[.al 0 0,.al 1 0,.fd (.int .i64)],[⟨0,41,[.own 5 73,.own 6 95,.fd (.int .i64)],false⟩,PS.b1]⟩⟩
abbrev m20.q7:Cut:=⟨[[0,0,0,0,0,0,1,1,1,1],[0,1,0,0,0,0,1,1,1,1],[0,1,0,0,0,1,1,1,1],[2,0,0,0,1,1,1,1],[1,2],[0,1,1,1,1,1]],[2,5,7],2,⟨[.al 0 0,.al 1 0,.own 0 3],[⟨0,41,[.own 5 73,.own 6 95,.fd (.int .i64)],false⟩,PS.b1]⟩⟩
def m20.p:Ai:=⟨[(3,m20.q3),(7,m20.q7)],0,⟨[.fd (.sl 4)],[]⟩,⟨[.st 7,.fd (.int .i64),.fd (.int .i64)],[]⟩,false,[(11,⟨[(0,true),(1,true),(2,true),(3,true),(4,false),(5,true),(6,true),(7,true),(8,false),(9,false),(10,true),(11,true)],[1000002],[0,0,2,6,14,0,32,96,224,1,543,2047],false⟩)],[]⟩
theorem m20.ok:AG Dop.D4 prog 14 m20.p=true:=by kernel_rfl
def YF.p:Ai:=⟨[],0,⟨[.fd .str],[]⟩,⟨[.st 7,.fd (.int .i64),.fd (.int .i64)],[]⟩,false,[],[]⟩
theorem YF.ok:AG Dop.D4 prog 8 YF.p=true:=by kernel_rfl
end Go.Proofs.Tryz
