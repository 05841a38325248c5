/- What the boxes of some types hold: as one, with names of the parts. Written by a program. -/
import Derived.Test.YtpjlciengdhjoaaGreatDoorMi
import Derived.Test.YtpjlciengdhjoaaGreatDoorLb
import Derived.Test.YtpjlciengdhjoaaGreatDoorMh
namespace Go.Proofs
open Go Go.En
abbrev PS:Type:=List (En.Dop.Tok)×Int×List (En.Dop.AV)×List (En.Dop.Fp)×Int×Int×Int×Int×Unit
abbrev PS.l (k:PS):List (En.Dop.Tok):=k.1
abbrev PS.at_ (k:PS):Int:=k.2.1
abbrev PS.VT (k:PS) (v:Int):PS:=(k.1,v,k.2.2)
abbrev PS.nodes (k:PS):List (En.Dop.AV):=k.2.2.1
abbrev PS.Eo (k:PS) (v:List (En.Dop.AV)):PS:=(k.1,k.2.1,v,k.2.2.2)
abbrev PS.types (k:PS):List (En.Dop.Fp):=k.2.2.2.1
abbrev PS.VV (k:PS) (v:List (En.Dop.Fp)):PS:=(k.1,k.2.1,k.2.2.1,v,k.2.2.2.2)
abbrev PS.top (k:PS):Int:=k.2.2.2.2.1
abbrev PS.deep (k:PS):Int:=k.2.2.2.2.2.1
abbrev PS.e (k:PS):Int:=k.2.2.2.2.2.2.1
abbrev PS.Wi (k:PS) (v:Int):PS:=(k.1,k.2.1,k.2.2.1,k.2.2.2.1,k.2.2.2.2.1,k.2.2.2.2.2.1,v,k.2.2.2.2.2.2.2)
abbrev PS.when (k:PS):Int:=k.2.2.2.2.2.2.2.1
abbrev PS.Fi (k:PS) (v:Int):PS:=(k.1,k.2.1,k.2.2.1,k.2.2.2.1,k.2.2.2.2.1,k.2.2.2.2.2.1,k.2.2.2.2.2.2.1,v,k.2.2.2.2.2.2.2.2)
abbrev PS.b0:En.Gx:=⟨0,109,[.fd (.sl 4),.st 0,.own 5 89,.own 6 111,.st 0,.st 0,.fd (.int .i64),.st 0],false⟩
abbrev PS.b1:En.Gx:=⟨1,109,[.fd (.sl 4),.st 0,.own 5 89,.own 6 111,.st 0,.st 0,.fd (.int .i64),.st 0],false⟩
end Go.Proofs
set_option maxRecDepth 100000
set_option maxHeartbeats 4000000
namespace Go.Proofs.Tryz
open Go Go.En
def Lj.p:Aj:=⟨[],1,⟨[.al 0 0],[PS.b0]⟩,⟨[.fd (.int .i64)],[PS.b0]⟩,false,[(3,⟨[(0,true),(1,true),(2,true),(3,false),(4,true),(5,true),(6,true),(7,false),(8,false),(9,true),(10,false),(11,false),(12,false)],[13],[0,1,3,7,0,16,48,112,240,496,1023,2047,0,8191],false⟩)],[]⟩
noncomputable def Lj.E:Env Dop.D4:=AU prog 77 tb [] Lj.p
theorem Lj.ok:AH Dop.D4 prog 77 Lj.p=true:=by kernel_rfl
noncomputable def Lj.c:BU Dop.D4:=⟨77,Lj.p.bn,Lj.p.sp,Lj.p.rs,Lj.p.flat,.opt (Lj.E.run 3000 Lj.p.sp)⟩
theorem Lj.holds:Lj.c.Holds prog:=BP 3000 AJ Am Lj.ok
def Ef.p:Aj:=⟨[],1,⟨[.al 0 0],[PS.b0]⟩,⟨[.st 4],[PS.b0]⟩,false,[(1,⟨[(0,true),(1,true),(2,true),(3,false),(4,true),(5,true),(6,true),(7,true),(8,true),(9,false),(10,true),(11,true),(12,true),(13,false),(14,false),(15,true),(16,true)],[],[0,1,3,7,15,31,63,127,255,511,63,1087,3135,7231,15423,32767,65535],false⟩),(3,⟨[(0,true),(1,true),(2,true),(3,false),(4,true),(5,true),(6,true),(7,false),(8,false),(9,false)],[10],[0,1,3,7,0,16,48,112,255,511,1023],false⟩)],[]⟩
noncomputable def Ef.E:Env Dop.D4:=AU prog 44 tb [Lj.c] Ef.p
theorem Ef.ok:AH Dop.D4 prog 44 Ef.p=true:=by kernel_rfl
noncomputable def Ef.c:BU Dop.D4:=⟨44,Ef.p.bn,Ef.p.sp,Ef.p.rs,Ef.p.flat,.opt (Ef.E.run 3000 Ef.p.sp)⟩
theorem Ef.holds:Ef.c.Holds prog:=BP 3000 AJ (AS Lj.holds Am) Ef.ok
def FD.p:Aj:=⟨[],0,⟨[.fd (.int .i64),.fd (.int .i64)],[]⟩,⟨[.st 5],[]⟩,true,[],[]⟩
noncomputable def FD.E:Env Dop.D4:=AU prog 78 tb [] FD.p
theorem FD.ok:AH Dop.D4 prog 78 FD.p=true:=by kernel_rfl
noncomputable def FD.c:BU Dop.D4:=⟨78,FD.p.bn,FD.p.sp,FD.p.rs,FD.p.flat,.opt (FD.E.run 3000 FD.p.sp)⟩
theorem FD.holds:FD.c.Holds prog:=BP 3000 AJ Am FD.ok
def Oi.p:Aj:=⟨[],1,⟨[.al 0 0,.fd .str],[PS.b0]⟩,⟨[.fd .bool],[PS.b0]⟩,false,[],[]⟩
theorem Oi.ok:AH Dop.D4 prog 79 Oi.p=true:=by kernel_rfl
def Em.p:Aj:=⟨[],1,⟨[.al 0 0,.fd .str],[PS.b0]⟩,⟨[.fd .bool],[PS.b0]⟩,false,[],[]⟩
theorem Em.ok:AH Dop.D4 prog 82 Em.p=true:=by kernel_rfl
def Cs.p:Aj:=⟨[],1,⟨[.al 0 0,.fd (.int .i64)],[PS.b0]⟩,⟨[],[PS.b0]⟩,false,[],[]⟩
noncomputable def Cs.E:Env Dop.D4:=AU prog 116 tb [Ef.c] Cs.p
theorem Cs.ok:AH Dop.D4 prog 116 Cs.p=true:=by kernel_rfl
noncomputable def Cs.c:BU Dop.D4:=⟨116,Cs.p.bn,Cs.p.sp,Cs.p.rs,Cs.p.flat,.opt (Cs.E.run 3000 Cs.p.sp)⟩
theorem Cs.holds:Cs.c.Holds prog:=BP 3000 AJ (AS Ef.holds Am) Cs.ok
noncomputable def Cs (e:Int) (k0:PS):Option (Unit×(PS×Unit)):=Cs.E.run 3000 Cs.p.sp (((),e,()),(k0,()))
def Fw.p:Aj:=⟨[],1,⟨[.al 0 0,.fd .str],[PS.b0]⟩,⟨[],[PS.b0]⟩,false,[],[]⟩
theorem Fw.ok:AH Dop.D4 prog 80 Fw.p=true:=by kernel_rfl
def Ma.p:Aj:=⟨[],1,⟨[.al 0 0,.fd (.int .i64)],[PS.b0]⟩,⟨[.st 4],[PS.b0]⟩,false,[],[]⟩
theorem Ma.ok:AH Dop.D4 prog 81 Ma.p=true:=by kernel_rfl
abbrev D6.q2:Cut:=⟨[[0,0,0,0,1,0,1],[0,1,0,0,1,0,1],[2,0,0,1,0,1],[1,0],[0,1,1]],[0,3,7,8],1,⟨[.fd (.sl 6),.al 0 0,.fd (.int .i64),.fd (.int .i64)],[⟨0,111,[.st 6],false⟩]⟩⟩
def D6.p:Aj:=⟨[(2,D6.q2)],0,⟨[.fd (.sl 6),.st 6],[]⟩,⟨[.fd (.int .i64)],[]⟩,true,[(4,⟨[(0,false),(1,true),(2,true),(3,false),(4,false),(5,true)],[],[0,0,0,6,14,31],false⟩)],[]⟩
theorem D6.ok:AH Dop.D4 prog 142 D6.p=true:=by kernel_rfl
def KC.p:Aj:=⟨[],1,⟨[.al 0 0,.st 6],[PS.b0]⟩,⟨[.fd (.int .i64)],[PS.b0]⟩,false,[(1,⟨[(0,true),(1,true),(2,true),(3,true),(4,false),(5,false),(6,false),(7,true)],[],[0,1,3,7,15,0,63,127],true⟩),(7,⟨[(0,true),(1,true),(2,true),(3,true),(4,true),(5,false),(6,false),(7,false)],[8,9,10,11,12],[0,0,2,6,14,30,0,64,254,511,1023,2047,4095],false⟩)],[]⟩
theorem KC.ok:AH Dop.D4 prog 118 KC.p=true:=by kernel_rfl
abbrev DZ.gA:Cut:=⟨[[0,0,0,0,0,0,1,1,1],[0,1,0,0,0,0,1,1,1],[0,1,0,0,0,1,1,1],[2,0,0,0,1,1,1],[1,1],[0,1,1,1,1]],[0,3],1,⟨[.al 0 0,.fd (.int .i64)],[PS.b0]⟩⟩
def DZ.p:Aj:=⟨[(11,DZ.gA)],1,⟨[.al 0 0],[PS.b0]⟩,⟨[.fd (.int .i64)],[PS.b0]⟩,false,[],[]⟩
theorem DZ.ok:AH Dop.D4 prog 117 DZ.p=true:=by kernel_rfl
def Yi.p:Aj:=⟨[],1,⟨[.al 0 0],[PS.b0]⟩,⟨[.st 5],[PS.b0]⟩,false,[],[]⟩
theorem Yi.ok:AH Dop.D4 prog 83 Yi.p=true:=by kernel_rfl
def Tn.p:Aj:=⟨[],1,⟨[.al 0 0,.fd (.int .i64)],[PS.b0]⟩,⟨[.fd (.int .i64)],[PS.b0]⟩,false,[],[]⟩
theorem Tn.ok:AH Dop.D4 prog 84 Tn.p=true:=by kernel_rfl
def Dj.p:Aj:=⟨[],1,⟨[.al 0 0,.st 5],[PS.b0]⟩,⟨[.fd (.int .i64)],[PS.b0]⟩,false,[(5,⟨[(0,true),(1,true),(2,true),(3,true),(4,true),(5,false),(6,false),(7,false)],[8,9,10,11,12],[0,0,2,6,14,30,0,64,254,511,1023,2047,4095],false⟩)],[]⟩
noncomputable def Dj.E:Env Dop.D4:=AU prog 85 tb [Cs.c] Dj.p
theorem Dj.ok:AH Dop.D4 prog 85 Dj.p=true:=by kernel_rfl
noncomputable def Dj.c:BU Dop.D4:=⟨85,Dj.p.bn,Dj.p.sp,Dj.p.rs,Dj.p.flat,.opt (Dj.E.run 3000 Dj.p.sp)⟩
theorem Dj.holds:Dj.c.Holds prog:=BP 3000 AJ (AS Cs.holds Am) Dj.ok
def GY.p:Aj:=⟨[],1,⟨[.al 0 0,.fd (.int .i64)],[PS.b0]⟩,⟨[.fd (.int .i64)],[PS.b0]⟩,false,[],[]⟩
noncomputable def GY.E:Env Dop.D4:=AU prog 88 tb [] GY.p
theorem GY.ok:AH Dop.D4 prog 88 GY.p=true:=by kernel_rfl
noncomputable def GY.c:BU Dop.D4:=⟨88,GY.p.bn,GY.p.sp,GY.p.rs,GY.p.flat,.opt (GY.E.run 3000 GY.p.sp)⟩
theorem GY.holds:GY.c.Holds prog:=BP 3000 AJ Am GY.ok
def NX.p:Aj:=⟨[],0,⟨[.st 7,.fd (.int .i64)],[]⟩,⟨[.st 5],[]⟩,true,[],[]⟩
theorem NX.ok:AH Dop.D4 prog 47 NX.p=true:=by kernel_rfl
abbrev Gu.q3:Cut:=⟨[[0,0,0,0,1,0,1,1],[0,1,0,0,1,0,1,1],[2,0,0,1,0,1,1],[1,0],[0,1,1,1]],[1,2,5,9,10],1,⟨[.fd (.int .i64),.al 0 0,.own 0 3,.fd (.int .i64),.fd (.int .i64)],[⟨0,54,[.st 7],false⟩]⟩⟩
def Gu.p:Aj:=⟨[(3,Gu.q3)],0,⟨[.st 7,.fd (.int .i64)],[]⟩,⟨[.own 0 3],[]⟩,true,[],[]⟩
theorem Gu.ok:AH Dop.D4 prog 31 Gu.p=true:=by kernel_rfl
def JW.p:Aj:=⟨[],1,⟨[.al 0 0],[PS.b0]⟩,⟨[.fd .bool],[PS.b0]⟩,false,[],[]⟩
theorem JW.ok:AH Dop.D4 prog 173 JW.p=true:=by kernel_rfl
abbrev Gt.q2:Cut:=⟨[[0,0,0,0,0,0,1,1,0,1],[0,1,0,0,0,0,1,1,0,1],[0,1,0,0,0,1,1,0,1],[2,0,0,0,1,1,0,1],[1,0],[0,1,1,1,0,1],[3,0,1]],[0,4],0,⟨[.fd .str,.fd (.int .i64)],[]⟩⟩
def Gt.p:Aj:=⟨[(2,Gt.q2)],0,⟨[.fd .str],[]⟩,⟨[.fd (.int .i64),.fd .bool],[]⟩,true,[],[]⟩
theorem Gt.ok:AH Dop.D4 prog 42 Gt.p=true:=by kernel_rfl
def Tk.p:Aj:=⟨[],0,⟨[.fd (.int .u8)],[]⟩,⟨[.fd .bool],[]⟩,true,[],[]⟩
theorem Tk.ok:AH Dop.D4 prog 70 Tk.p=true:=by kernel_rfl
def Tl.p:Aj:=⟨[],0,⟨[.fd (.int .u8)],[]⟩,⟨[.fd .bool],[]⟩,true,[],[]⟩
theorem Tl.ok:AH Dop.D4 prog 73 Tl.p=true:=by kernel_rfl
abbrev Il.q2:Cut:=⟨[[0,0,0,0,0,0,1,1],[0,1,0,0,0,0,1,1],[0,1,0,0,0,1,1],[2,0,0,0,1,1],[1,0],[0,1,1,1]],[0,3],0,⟨[.fd .str,.fd (.int .i64)],[]⟩⟩
def Il.p:Aj:=⟨[(2,Il.q2)],0,⟨[.fd .str],[]⟩,⟨[.fd (.int .i64)],[]⟩,true,[],[]⟩
theorem Il.ok:AH Dop.D4 prog 71 Il.p=true:=by kernel_rfl
def Yh.p:Aj:=⟨[],0,⟨[.fd .str],[]⟩,⟨[.fd .bool],[]⟩,true,[],[]⟩
theorem Yh.ok:AH Dop.D4 prog 72 Yh.p=true:=by kernel_rfl
def Rn.p:Aj:=⟨[],1,⟨[.fd (.int .i64),.fd (.int .i64),.fd (.int .i64),.al 0 0],[⟨0,9,[.st 1],false⟩]⟩,⟨[.st 4,.fd (.int .i64)],[⟨0,9,[.fd .str],false⟩]⟩,true,[],[]⟩
theorem Rn.ok:AH Dop.D4 prog 69 Rn.p=true:=by kernel_rfl
abbrev Hl.q9:Cut:=⟨[[0,0,0,0,1,0,1,1,1,1,1],[0,1,0,0,1,0,1,1,1,1,1],[2,0,0,1,0,1,1,1,1,1],[1,0],[0,1,1,1,1,1,1]],[0,5,6,34,35],0,⟨[.fd .str,.fd (.int .i64),.fd (.int .i64),.fd (.int .i64),.fd (.int .i64)],[]⟩⟩
def Hl.p:Aj:=⟨[(9,Hl.q9)],0,⟨[.fd .str],[]⟩,⟨[.fd (.int .i64),.fd .bool],[]⟩,true,[(6,⟨[(0,true),(2,true)],[1,3],[0,1,0,7],false⟩)],[]⟩
theorem Hl.ok:AH Dop.D4 prog 74 Hl.p=true:=by kernel_rfl
def Tm.p:Aj:=⟨[],0,⟨[.fd .str],[]⟩,⟨[.fd (.int .i64),.fd (.int .i64)],[]⟩,true,[],[]⟩
theorem Tm.ok:AH Dop.D4 prog 75 Tm.p=true:=by kernel_rfl
def NY.p:Aj:=⟨[],0,⟨[],[]⟩,⟨[.own 1 9],[]⟩,true,[],[]⟩
theorem NY.ok:AH Dop.D4 prog 115 NY.p=true:=by kernel_rfl
abbrev Kb.q2:Cut:=⟨[[0,0,0,0,1,0,1],[0,1,0,0,1,0,1],[2,0,0,1,0,1],[1,0],[0,1,1]],[0,5,6,7],0,⟨[.fd .str,.own 1 9,.fd (.int .i64),.fd (.int .i64)],[]⟩⟩
def Kb.p:Aj:=⟨[(2,Kb.q2)],0,⟨[.fd .str],[]⟩,⟨[.fd .str],[]⟩,true,[],[]⟩
theorem Kb.ok:AH Dop.D4 prog 76 Kb.p=true:=by kernel_rfl
def Tj.p:Aj:=⟨[],0,⟨[.fd .str],[]⟩,⟨[.st 4,.fd (.int .i64)],[]⟩,true,[],[]⟩
theorem Tj.ok:AH Dop.D4 prog 43 Tj.p=true:=by kernel_rfl
abbrev m19.q5:Cut:=⟨[[0,0,0,0,0,1,1,1,1],[0,1,0,0,0,1,1,1,1],[1,1],[2,0,0,1,1,1,1],[1,0]],[0,5,6],0,⟨[.fd .str,.own 4 104,.fd (.int .i64)],[]⟩⟩
def m19.p:Aj:=⟨[(5,m19.q5)],0,⟨[.fd .str],[]⟩,⟨[.own 4 104,.fd (.int .i64),.fd (.int .i64)],[]⟩,true,[],[]⟩
theorem m19.ok:AH Dop.D4 prog 28 m19.p=true:=by kernel_rfl
def Nj.p:Aj:=⟨[],1,⟨[.al 0 0],[⟨0,109,[.fd (.sl 4),.st 0,.hd,.hd,.st 0,.st 0,.fd (.int .i64),.st 0],false⟩]⟩,⟨[.fd (.int .i64)],[⟨0,109,[.fd (.sl 4),.fd (.int .i64),.hd,.hd,.fd (.int .i64),.fd (.int .i64),.fd (.int .i64),.fd (.int .i64)],false⟩]⟩,false,[(3,⟨[(0,true),(1,true),(2,true),(3,false),(4,true),(5,true),(6,true),(7,false),(8,false),(9,true),(10,false),(11,false),(12,false)],[13],[0,1,3,7,0,16,48,112,240,496,1023,2047,0,8191],false⟩)],[]⟩
theorem Nj.ok:AH Dop.D4 prog 77 Nj.p=true:=by kernel_rfl
def Nh.p:Aj:=⟨[],1,⟨[.al 0 0],[⟨0,109,[.fd (.sl 4),.st 0,.hd,.hd,.st 0,.st 0,.fd (.int .i64),.st 0],false⟩]⟩,⟨[.st 4],[⟨0,109,[.fd (.sl 4),.fd (.int .i64),.hd,.hd,.fd (.int .i64),.fd (.int .i64),.fd (.int .i64),.fd (.int .i64)],false⟩]⟩,false,[(1,⟨[(0,true),(1,true),(2,true),(3,false),(4,true),(5,true),(6,true),(7,true),(8,true),(9,false),(10,true),(11,true),(12,true),(13,false),(14,false),(15,true),(16,true)],[],[0,1,3,7,15,31,63,127,255,511,63,1087,3135,7231,15423,32767,65535],false⟩),(3,⟨[(0,true),(1,true),(2,true),(3,false),(4,true),(5,true),(6,true),(7,false),(8,false),(9,false)],[10],[0,1,3,7,0,16,48,112,255,511,1023],false⟩)],[]⟩
theorem Nh.ok:AH Dop.D4 prog 44 Nh.p=true:=by kernel_rfl
def Ja.p:Aj:=⟨[],1,⟨[.al 0 0,.fd .str],[⟨0,109,[.fd (.sl 4),.st 0,.hd,.hd,.st 0,.st 0,.fd (.int .i64),.st 0],false⟩]⟩,⟨[.fd .bool],[⟨0,109,[.fd (.sl 4),.fd (.int .i64),.hd,.hd,.fd (.int .i64),.fd (.int .i64),.fd (.int .i64),.fd (.int .i64)],false⟩]⟩,false,[],[]⟩
theorem Ja.ok:AH Dop.D4 prog 79 Ja.p=true:=by kernel_rfl
def H3.p:Aj:=⟨[],1,⟨[.al 0 0],[⟨0,109,[.fd (.sl 4),.st 0,.hd,.hd,.st 0,.st 0,.fd (.int .i64),.st 0],false⟩]⟩,⟨[.fd .bool],[⟨0,109,[.fd (.sl 4),.fd (.int .i64),.hd,.hd,.fd (.int .i64),.fd (.int .i64),.fd (.int .i64),.fd (.int .i64)],false⟩]⟩,false,[],[]⟩
theorem H3.ok:AH Dop.D4 prog 173 H3.p=true:=by kernel_rfl
end Go.Proofs.Tryz
namespace Go.Proofs
open Go Go.En Go.RowKit
abbrev T0:Gx:=⟨0,109,[.fd (.sl 4),.fd (.int .i64),.own 5 89,.own 6 111,.fd (.int .i64),.fd (.int .i64),.fd (.int .i64),.fd (.int .i64)],false⟩
def Tryz.B6.p:Aj:=⟨[],1,⟨[.al 0 0,.fd (.sl 0)],[T0]⟩,⟨[.fd (.int .i64)],[T0]⟩,false,[(5,⟨[(0,true),(1,false),(2,true),(3,false),(4,true)],[5,1000008],[0,0,1,5,15,31],false⟩)],[(87,[])]⟩
noncomputable def Tryz.B6.E:Env En.Dop.D4:=AU Tryz.prog 46 Tryz.tb [Tryz.GY.c,Tryz.FD.c,Tryz.Dj.c] Tryz.B6.p
theorem Tryz.B6.ok:AH En.Dop.D4 Tryz.prog 46 Tryz.B6.p=true:=by kernel_rfl
noncomputable def BJ (body:Code) (a:List Nat):Code:=match Hk body a with
 | some c=>c
 | none=>.skip
abbrev Jn:En.Spec:=⟨[],[T0,⟨1,107,[.al 0 0],false⟩,⟨2,3,[.fd (.int .i64)],false⟩]⟩
abbrev ml:En.Spec:=⟨[.al 1 0,.al 2 0,.fd (.int .i64)],[T0,⟨1,107,[.al 0 0],false⟩,⟨2,3,[.fd (.int .i64)],false⟩]⟩
noncomputable def Tryz.B6.step (x:Int) (y:En.Spec.D En.Dop.D4 Jn):Option (En.Spec.D En.Dop.D4 Jn):=
 (UU Tryz.B6.E 3000 [1,0,1,0,1,1] (BJ (AY Tryz.prog 46) [1,0,1,0,1,1]) ml Jn [2,5,7] 3 (((),(),x,()),y.2)).eval (fun _ _=>none)
noncomputable abbrev mq:Code:=BJ (AY Tryz.prog 46) [0,0,1,0,1,1]
noncomputable abbrev nu:Code:=BJ (AY Tryz.prog 46) [1,0,1,0,1,1]
noncomputable abbrev mu:Code:=BJ (AY Tryz.prog 46) [1,1,1]
noncomputable def Tryz.B6.go:List Int->En.Spec.D En.Dop.D4 Jn->Option (En.Spec.D En.Dop.D4 Jn)
 | [],y=>some y
 | x::r,y=>(Tryz.B6.step x y).bind (Tryz.B6.go r)
theorem Tryz.B6.JM: ∀ (l r:List Int) (y:En.Spec.D En.Dop.D4 Jn),Tryz.B6.go (l++r) y=(Tryz.B6.go l y).bind (Tryz.B6.go r)
 | [],r,y=>rfl
 | x::l,r,y=>by
  simp only [List.cons_append,Tryz.B6.go]
  cases Tryz.B6.step x y with
  | none=>rfl
  | some z=>exact Tryz.B6.JM l r z
noncomputable def Tryz.B6.R (x:En.Spec.D En.Dop.D4 Tryz.B6.p.sp):Option (En.Spec.D En.Dop.D4 Tryz.B6.p.rs):=
 match decide (x.1.2.1.length<9223372036854775807) with
 | true=>(Tryz.B6.go x.1.2.1.reverse ((),(x.2.1,((),()),(-1,()),()))).bind fun y=>some ((y.2.2.2.1.1,()),(y.2.1,()))
 | false=>none
noncomputable def Tryz.B6.c:BU En.Dop.D4:=⟨46,Tryz.B6.p.bn,Tryz.B6.p.sp,Tryz.B6.p.rs,Tryz.B6.p.flat,.opt Tryz.B6.R⟩
noncomputable def kQ (l:List Int) (x:En.Spec.D En.Dop.D4 ⟨[],[T0]⟩):St En.Dop.D4:=match En.Spec.enc (S:=En.Dop.D4) ⟨[.al 0 0,.fd (.sl 0)],[T0]⟩ (((),l,()),x.2) 1 with
 | (_,o,_)=>⟨[(0,.ptr 0 0),(1,.h 1),(2,.ptr 5 0),(4,.v (.int .i64 0)),(5,.ptr 6 0),(9,.h 1),(10,.fn 120 [.ptr 7 0])],(7,.AX 22 [.h 1])::(6,.AX 3 [.v (.int .i64 (-1))])::(5,.AX 107 [.ptr 0 0])::o,8,25⟩
theorem Tryz.B6.part (l:List Int) (x:En.Spec.D En.Dop.D4 ⟨[],[T0]⟩) (vs:List SV) (o:List (Nat×En.Own En.Dop.D4)) (n:Nat) (h:En.Spec.enc (S:=En.Dop.D4) ⟨[.al 0 0,.fd (.sl 0)],[T0]⟩ (((),l,()),x.2) 1=(vs,o,n)):
  PG Tryz.B6.E 3000 [.code [] (AY Tryz.prog 46)] ⟨Bx 0 vs,o,n,25⟩=.ret ([.code [0,1,0,1,1] (.rangeFunc (.tmp 10) #[11,12] mq nu),.AX 0,.code [1,1,1] mu],kQ l x):=by
 cases h
 kernel_rfl
noncomputable def ZQ:Oper:=match mq with
 | .region _ ⟨o::_⟩ _=>o
 | _=>default
theorem gK:mq=.region 3 #[ZQ] false:=by kernel_rfl
theorem VI:ZQ.op=.assign (.tmp 12):=by kernel_rfl
theorem N7:ZQ.dst=some 7:=by kernel_rfl
theorem T4:ZQ.guard=none:=by kernel_rfl
noncomputable def ZR:Array Oper:=match mu with
 | .seq (.region _ o _) _=>o
 | _=>#[]
theorem gM:mu=.seq (.region 7 ZR false) .ret:=by kernel_rfl
theorem gL:Hk (AY Tryz.prog 46) [1,0,1,0,1,1]=some nu:=by kernel_rfl
theorem ku:Nv (AY Tryz.prog 46)=true:=by kernel_rfl
theorem UX (l:List Int):(bwd l).map Prod.snd=l.reverse:=by
 apply List.ext_getElem
 ·simp [bwd,upto]
 ·intro i h1 h2
  have h3:i<l.length:=by simpa using h2
  simp [bwd,upto,List.getElem_reverse,co (show l.length -1 -i<l.length by omega)]
theorem XY (l:List Int):En.Dop.D4.flat 0 l=l.map fun n=>FC.int .i64 n:=by
 induction l with
 | nil=>rfl
 | cons x r ih=>exact congrArg (FC.int .i64 x::·) ih
theorem SD {w:World} {D:Nat->Prop} {l:List Int} {v:Value} (h:Av En.Dop.D4 w D (.sl 0 l) v):(l=[]/\ ∃ a c,v=.slice a 0 c)\/ ∃ b off cap,v=.slice (some ⟨b,off,none⟩) l.length cap/\D b/\ ∀ j,j<l.length->w.cell? ⟨b,off+j,none⟩=some (.int .i64 (l[j]?.getD 0)):=by
 cases h with
 | nil σ a c=>exact .inl ⟨rfl,a,c,rfl⟩
 | sl σ l b off c vs hb hlc hc hv=>
  refine .inr ⟨b,off,c,rfl,hb,fun j hj=>?_⟩
  have hf:(En.Dop.D4.flat 0 l)[j]?=some (.int .i64 l[j]):=by rw [XY];simp [hj]
  rw [hc j _ hf]
  have:=hv j _ hf
  cases hvj:vs j<;>rw [hvj] at this<;>cases this
  simp [hj]
theorem Ye (l:List Int) (x:En.Spec.D En.Dop.D4 ⟨[],[T0]⟩): ∃ ps,En.Spec.parse (S:=En.Dop.D4) ⟨[.al 1 0,.al 2 0],Jn.bx⟩ true [.ptr 5 0,.ptr 6 0] (kQ l x).o (RQ 1) 3=some ((((),(),()),(x.2.1,((),()),(-1,()),())),ps)/\lk ps.o 7=some (.AX 22 [.h 1])/\ps.bl=[]/\lk ps.m 1=some 5/\lk ps.m 2=some 6/\lk ps.m 0=some 0:=
 ⟨⟨(7,.AX 22 [.h 1])::(2,.sl 4 x.2.1.1)::(1,.sl 0 l)::[],[(2,6),(1,5),(0,0)],[],3⟩,by kernel_rfl,by kernel_rfl,by kernel_rfl,by kernel_rfl,by kernel_rfl,by kernel_rfl⟩
theorem fV (y:En.Spec.D En.Dop.D4 Jn):PG Tryz.B6.E 3000 [.ops ZR ZR.toList] ⟨[(2,.ptr 1 0),(5,.ptr 2 0)],(Jn.enc (S:=En.Dop.D4) y 3).2.1,(Jn.enc (S:=En.Dop.D4) y 3).2.2,25⟩=
  .ret ([],⟨[(2,.ptr 1 0),(5,.ptr 2 0),(24,.v (.int .i64 y.2.2.2.1.1)),(4,.v (.int .i64 y.2.2.2.1.1))],(Jn.enc (S:=En.Dop.D4) y 3).2.1,(Jn.enc (S:=En.Dop.D4) y 3).2.2,25⟩):=by kernel_rfl
theorem fW (y:En.Spec.D En.Dop.D4 Jn): ∃ ps,En.Spec.parse (S:=En.Dop.D4) ⟨[.fd (.int .i64)],[T0]⟩ true [.v (.int .i64 y.2.2.2.1.1)] (Jn.enc (S:=En.Dop.D4) y 3).2.1 (RQ 1) 1=some (((y.2.2.2.1.1,()),(y.2.1,())),ps)/\lk ps.m 0=some 0:=
 ⟨⟨(2,.AX 3 [.v (.int .i64 y.2.2.2.1.1)])::(1,.AX 107 [.ptr 0 0])::(3,.sl 4 y.2.1.1)::[],[(0,0)],[],1⟩,by kernel_rfl,by kernel_rfl⟩
theorem nh:(Tryz.B6.E).Ok Tryz.prog/\B9 Tryz.prog 46=true/\Tryz.B6.p.sp.okB Tryz.B6.p.bn=true/\ ∃ fn,Tryz.prog.funcs[46]?=some fn/\fn.body=some (AY Tryz.prog 46)/\fn.ntmps=25/\fn.results=#[.tmp 4]:=by
 obtain ⟨h1,h2,h3,fn,h4,h5,h6,h7⟩:=G1 (p:=Tryz.B6.p) Tryz.AJ (AS Tryz.GY.holds (AS Tryz.FD.holds (AS Tryz.Dj.holds Am))) Tryz.B6.ok
 have e1:Cw Tryz.prog 46=25:=by kernel_rfl
 have e2:EL Tryz.prog 46=[.tmp 4]:=by kernel_rfl
 refine ⟨h1,h2,h3,fn,h4,h5,h6.trans e1,?_⟩
 rw [e2] at h7
 rw [<-h7]
theorem V6 {l:Nat} {x:Int×Int} {W:World} {a:Act} {K:Act->World->Prop} (hsz:a.tmps.size=25)
  (h: ∀ a':Act,a'.defers=[]->a'.tmps.size=25->(∀ t,t≠7->t≠11->t≠12->a'.tmps.getD t undef=a.tmps.getD t undef)->a'.tmps.getD 7 undef=.int .i64 x.2->K a' W):
  mq.wpIn (Fence.wide.inRound l) 0 Tryz.prog (Exit.then K (fun _ _ _=>False)) { tmps:=(#[11,12].zip #[Value.int .i64 x.1,Value.int .i64 x.2]).foldl (fun t (p,v)=>t.setIfInBounds p v) a.tmps,defers:=[] } W:=by
 rw [gK]
 refine FT (.inr ⟨⟨l,rfl⟩,fun ⟨_,_,h⟩=>h,fun j o ho=>?_⟩) ?_
 ·cases j with
  | zero=>simp at ho;subst ho;unfold E5;rw [VI]
  | succ j=>simp at ho
 ·show wpList _ _ _ [ZQ] _ _
  unfold wpList
  rw [if_pos (by simp [Region.wanted,T4])]
  refine .inl (Aq (v:=.int .i64 x.2) (w':=W) ?_ ?_)
  ·simp [execOp,VI,Act.eval,hsz]
  ·refine h _ rfl (by simp [Act.put,N7,hsz]) (fun t h1 h2 h3=>?_) ?_
   ·simp [Act.put,N7,lm,ge,Ne.symm h1,Ne.symm h2,Ne.symm h3]
   ·simp [Act.put,N7,lm,ge,hsz]
def ni (w0 W:World) (F D0 K:Nat->Prop) (β2:Nat->Nm) (y0:En.Spec.D En.Dop.D4 Jn) (pre:List (Int×Int)) (W':World):Prop:=
 ∃ y,Tryz.B6.go (pre.map Prod.snd) y0=some y/\OY w0 W F D0 K Jn 3 β2 W.heap.size y W'
theorem bM {w0 W W':World} {F D0 K:Nat->Prop} {β2:Nat->Nm} {y0 yq:En.Spec.D En.Dop.D4 Jn} (hkp:CF En.Dop.D4 w0 F D0) {xs pre rest:List (Int×Int)} {x:Int×Int} (hgo:Tryz.B6.go (xs.map Prod.snd) y0=some yq) (hxs:xs=pre++x::rest) (hI:ni w0 W F D0 K β2 y0 pre W')
  {a':Act} (hd:a'.defers=[]) (hsz:a'.tmps.size=25) (h2:a'.tmps.getD 2 undef=.pointer (some ⟨(β2 1).AX,0,none⟩)) (h5:a'.tmps.getD 5 undef=.pointer (some ⟨(β2 2).AX,0,none⟩)) (h7:a'.tmps.getD 7 undef=.int .i64 x.2) (l:Nat):
  nu.wpIn (Fence.wide.inRound l) 0 Tryz.prog (Mc W.heap.size (ni w0 W F D0 K β2 y0) (fun _ _ _=>False) (pre++[x]) W') a' W':=by
 obtain ⟨y,hy,D,β,vs,o,n,e1,e2,e3,e4,e5,e6,e7,e8,e9⟩:=hI
 obtain ⟨hE,_,_,_⟩:=nh
 have hst: ∃ y',Tryz.B6.step x.2 y=some y':=by
  rw [hxs,List.map_append,Tryz.B6.JM,hy] at hgo
  simp only [Option.bind_some,List.map_cons,Tryz.B6.go] at hgo
  cases hs:Tryz.B6.step x.2 y with
  | none=>rw [hs] at hgo;cases hgo
  | some y'=>exact ⟨y',rfl⟩
 obtain ⟨y',hy'⟩:=hst
 have he:ml.enc (S:=En.Dop.D4) (((),(),x.2,()),y.2) 3=([.ptr 1 0,.ptr 2 0,.v (.int .i64 x.2)],o,n):=by
  have h:ml.enc (S:=En.Dop.D4) (((),(),x.2,()),y.2) 3=([.ptr 1 0,.ptr 2 0,.v (.int .i64 x.2)],(Jn.enc (S:=En.Dop.D4) y 3).2.1,(Jn.enc (S:=En.Dop.D4) y 3).2.2):=by kernel_rfl
  rw [h,e1]
 refine UW hE (f0:=3000) (adr:=[1,0,1,0,1,1]) gL ku (sp:=ml) (qe:=Jn) (ts:=[2,5,7]) (bn:=3) (by kernel_rfl) (x:=(((),(),x.2,()),y.2)) (y:=y') hy' he e3.base ?_ e4 (e3.inv hkp) hd hsz ?_ (fun _ _ _ h=>h) (fun ⟨_,_,h⟩=>h) ?_ l
 ·simp only [BZ,SV.on,and_true]
  omega
 ·intro j t v hj hv
  match j with
  | 0=>
   simp only [List.getElem?_cons_zero,am] at hj hv;subst hj;subst hv
   exact ⟨by show 2<25;omega,by rw [h2,<- e2 1 (by omega)];simp only [SV.den]⟩
  | 1=>
   simp only [List.getElem?_cons_succ,List.getElem?_cons_zero,am] at hj hv;subst hj;subst hv
   exact ⟨by show 5<25;omega,by rw [h5,<- e2 2 (by omega)];simp only [SV.den]⟩
  | 2=>
   simp only [List.getElem?_cons_succ,List.getElem?_cons_zero,am] at hj hv;subst hj;subst hv
   exact ⟨by show 7<25;omega,by rw [h7];simp only [SV.den]⟩
  | j+3=>simp at hj
 ·intro a'' W'' D' β' vs' o' n' f1 f2 f3 f4
  obtain ⟨g1,g2⟩:=OY.next e3 e2 e5 e6 e7 e8 e9 f1 f2 f3 f4
  refine ⟨g1,y',?_,g2⟩
  rw [List.map_append,Tryz.B6.JM,hy]
  simp only [Option.bind_some,List.map_cons,List.map_nil,Tryz.B6.go,hy']
theorem bN {w:World} {D:Nat->Prop} {β:Nat->Nm} {o0:List (Nat×En.Own En.Dop.D4)} (hkp:CF En.Dop.D4 w (AL o0 β) D) {fn:Func} (hres:fn.results=#[.tmp 4]) {W W':World} {K:Nat->Prop} {β2:Nat->Nm} {yq:En.Spec.D En.Dop.D4 Jn} (hβ:β2 0=β 0) (hm:OY w W (AL o0 β) D K Jn 3 β2 W.heap.size yq W')
  {a:Act} (hd:a.defers=[]) (hsz:a.tmps.size=25) (h2:a.tmps.getD 2 undef=.pointer (some ⟨(β2 1).AX,0,none⟩)) (h5:a.tmps.getD 5 undef=.pointer (some ⟨(β2 2).AX,0,none⟩)) (hK:W'.heap[W.heap.size]?=some (.deferred (some []))):
  mu.wpIn Fence.wide 0 Tryz.prog (Lv (bodyPostM Fence.wide 2 Tryz.prog fn (Ds (S:=En.Dop.D4) Tryz.B6.c ((yq.2.2.2.1.1,()),(yq.2.1,())) w D β o0))) { a with defers:={ target:=.collected W.heap.size,args:=#[] }::a.defers } W':=by
 obtain ⟨D',β',vs,o,n,e1,e2,e3,e4,e5,e6,e7,e8,e9⟩:=hm
 obtain ⟨hE,_,_,_⟩:=nh
 refine wpIn_wide.2 ?_
 rw [gM]
 refine wp_seq (wp_region_list ?_)
 have hkp':=e3.keeps hkp
 have ho:o=(Jn.enc (S:=En.Dop.D4) yq 3).2.1:=by rw [e1]
 have hn:n=(Jn.enc (S:=En.Dop.D4) yq 3).2.2:=by rw [e1]
 have hv:=KQ hE (w0:=W') (F:=AL o β') (D0:=D') (bn:=3) (β0:=β') (f0:=3000) (k0:=[.ops ZR ZR.toList]) (s0:=⟨[(2,.ptr 1 0),(5,.ptr 2 0)],o,n,25⟩)
  (Q:=fun e a' w'=>match e with
   | .normal=>a'.defers=[]/\a'.tmps.getD 4 undef=.int .i64 yq.2.2.2.1.1/\ ∃ D2 β3,(∀ i,i<3->β3 i=β' i)/\GH W' (AL o β') D' D2 o (· <n) β3 w'
   | _=>False) hkp' (fun _ _ _ _ _ h=>h) e4 rfl (fun z hz=>by
    simp only [List.mem_cons,List.not_mem_nil,or_false] at hz
    subst hz;trivial) (by
   subst ho;subst hn
   rw [fV]
   intro _ _ D2 β3 a' w' hag hg
   refine ⟨hg.defers,by rw [hg.tmps 4 (.v (.int .i64 yq.2.2.2.1.1)) rfl];simp only [SV.den],D2,β3,hag,hg.gh⟩)
 have hl:=hv D' β' { a with defers:=[] } W' (fun _ _=>rfl) ⟨rfl,hsz,fun t x hx=>?_,fun t x hx=>?_,e3.base⟩
 ·simp only [List.map_cons,List.map_nil,Bp.it,after] at hl
  have hl2:=DU (ds:=[{ target:=.collected W.heap.size,args:=#[] }]) (Q':=Exit.then (Code.ret.wp Tryz.prog (Lv (bodyPostM Fence.wide 2 Tryz.prog fn (Ds (S:=En.Dop.D4) Tryz.B6.c ((yq.2.2.2.1.1,()),(yq.2.1,())) w D β o0)))) (Lv (bodyPostM Fence.wide 2 Tryz.prog fn (Ds (S:=En.Dop.D4) Tryz.B6.c ((yq.2.2.2.1.1,()),(yq.2.1,())) w D β o0)))) ?_ (fun _ _ _ h=>h.elim) (fun ⟨_,_,h⟩=>h) hl
  ·rw [hd];exact hl2
  ·rintro a' w' ⟨hd',hr,D2,β3,hag,hgh⟩
   refine wp_ret ?_
   obtain ⟨g1,g2⟩:=OY.next e3 e2 e5 e6 e7 e8 e9 e1 hag hgh e4
   have hK':=(g1 W.heap.size (.inl rfl)).trans hK
   show LeavesInM _ _ _ _ _ _ _ _ _
   rw [hd']
   refine ⟨by simp,.inl ⟨_,_,rfl,run_takeDeferred hK',?_⟩⟩
   refine ⟨.int .i64 yq.2.2.2.1.1,by rw [<-hr];exact results_tmp hres _ _ _,?_⟩
   obtain ⟨D4,β4,vs4,o4,n4,f1,f2,f3,f4,_⟩:=g2.VX (.deferred none)
   rcases he:En.Spec.enc (S:=En.Dop.D4) ⟨[.fd (.int .i64)],[T0]⟩ ((yq.2.2.2.1.1,()),(yq.2.1,())) 1 with ⟨rs,o5,n5⟩
   have ho4:o4=(Jn.enc (S:=En.Dop.D4) yq 3).2.1:=by rw [f1]
   obtain ⟨ps,hps,hm0⟩:=fW yq
   rw [<-ho4] at hps
   obtain ⟨β5,b1,b2,b3,b4,b5,_⟩:=En.Spec.CO f3 hps (by kernel_rfl) he
   have hrs:rs=[.v (.int .i64 yq.2.2.2.1.1)]:=by
    have h:En.Spec.enc (S:=En.Dop.D4) ⟨[.fd (.int .i64)],[T0]⟩ ((yq.2.2.2.1.1,()),(yq.2.1,())) 1=([.v (.int .i64 yq.2.2.2.1.1)],(En.Spec.enc (S:=En.Dop.D4) ⟨[.fd (.int .i64)],[T0]⟩ ((yq.2.2.2.1.1,()),(yq.2.1,())) 1).2.1,(En.Spec.enc (S:=En.Dop.D4) ⟨[.fd (.int .i64)],[T0]⟩ ((yq.2.2.2.1.1,()),(yq.2.1,())) 1).2.2):=by kernel_rfl
    rw [he] at h
    exact (Prod.mk.inj h).1
   refine ⟨_,β5,rs,o5,n5,he,?_,fun i hi=>?_,b2,b4,b5⟩
   ·rw [hrs];simp only [Ay,SV.den]
   ·have hi0:i=0:=by have:i<1:=hi;omega
    subst hi0
    rw [b1 0 (by omega) 0 hm0,f2 0 (by omega),hβ]
 all_goals
  simp only [AK] at hx
  split at hx
  ·rename_i he;subst he;cases hx
   first
    | (refine ⟨by show 2<25;omega,?_⟩;simp only [SV.on];omega)
    | (rw [show ({ a with defers:=[] }:Act).tmps.getD 2 undef=a.tmps.getD 2 undef from rfl,h2,<- e2 1 (by omega)];simp only [SV.den])
  ·split at hx
   ·rename_i he;subst he;cases hx
    first
     | (refine ⟨by show 5<25;omega,?_⟩;simp only [SV.on];omega)
     | (rw [show ({ a with defers:=[] }:Act).tmps.getD 5 undef=a.tmps.getD 5 undef from rfl,h5,<- e2 2 (by omega)];simp only [SV.den])
   ·simp [AW] at hx
theorem S1 (args:Array Value) (w:World):(callFunc 120 args).run Tryz.prog w=.ok (.enter 120 args) w:=Cv (by kernel_rfl)
theorem Tryz.B6.holds:Tryz.B6.c.Holds Tryz.prog:=by
 obtain ⟨hE,hbod,hokB,fn,hf,hb,hn',hres⟩:=nh
 refine ⟨hbod,hokB,fun h=>(by cases h),fun x y hxy w D β vs o n he hg hon hn hiv=>?_⟩
 have hxy:Tryz.B6.R x=some y:=hxy
 unfold Tryz.B6.R at hxy
 split at hxy
 case h_2=>cases hxy
 rename_i hl
 have hl:=ip hl
 obtain ⟨yq,hgo,hy⟩:=Option.bind_eq_some_iff.1 hxy
 cases hy
 have hkp:CF En.Dop.D4 w (AL o β) D:=⟨hiv,fun k hk=>⟨hg.DL k hk,fun ⟨i,b,hi,hik⟩=>hg.off i b k hi hik hk⟩⟩
 have hx:x=(((),x.1.2.1,()),x.2):=rfl
 have he':En.Spec.enc (S:=En.Dop.D4) ⟨[.al 0 0,.fd (.sl 0)],[T0]⟩ (((),x.1.2.1,()),x.2) 1=(vs,o,n):=he
 have hlen:vs.length=2:=En.Spec.Ah he
 refine VC.TC (M:=0+3000) (bn:=1) hf hb hn' (by omega) hon hg ?_
 refine KQ hE hkp (fun _ _ _ _ _ h=>h) (k0:=[.code [] (AY Tryz.prog 46)]) (s0:=⟨Bx 0 vs,o,n,25⟩) hn rfl (fun z hz=>by
  simp only [List.mem_cons,List.not_mem_nil,or_false] at hz
  subst hz;rfl) ?_
 rw [Tryz.B6.part x.1.2.1 ((),x.2) vs o n he']
 intro _ _ D1 β1 a W hβ1 hg1
 simp only [List.map_cons,List.map_nil,Bp.it,after]
 obtain ⟨ps,hps,hp7,hpbl,hm1,hm2,hm0⟩:=Ye x.1.2.1 ((),x.2)
 rcases hq:Jn.enc (S:=En.Dop.D4) ((),(x.2.1,((),()),(-1,()),())) 3 with ⟨vq,o2,n2⟩
 have he2:En.Spec.enc (S:=En.Dop.D4) ⟨[.al 1 0,.al 2 0],Jn.bx⟩ (((),(),()),(x.2.1,((),()),(-1,()),())) 3=([.ptr 1 0,.ptr 2 0],o2,n2):=by
  have h:En.Spec.enc (S:=En.Dop.D4) ⟨[.al 1 0,.al 2 0],Jn.bx⟩ (((),(),()),(x.2.1,((),()),(-1,()),())) 3=([.ptr 1 0,.ptr 2 0],(Jn.enc (S:=En.Dop.D4) ((),(x.2.1,((),()),(-1,()),())) 3).2.1,(Jn.enc (S:=En.Dop.D4) ((),(x.2.1,((),()),(-1,()),())) 3).2.2):=by kernel_rfl
  rw [h,hq]
 obtain ⟨β2,b1,b2,_,_,b5,b6,b7,_,_⟩:=En.Spec.CO hg1.gh hps (by kernel_rfl) he2
 have r1:=b1 1 (by omega) 5 hm1
 have r2:=b1 2 (by omega) 6 hm2
 have r0:=b1 0 (by omega) 0 hm0
 obtain ⟨Bs,hBs,hBh⟩:=hg1.gh.own 7 _ (show lk (kQ x.1.2.1 ((),x.2)).o 7=some (.AX 22 [.h 1]) from rfl)
 obtain ⟨_,hrow⟩:=hg1.gh.own 1 _ (show lk (kQ x.1.2.1 ((),x.2)).o 1=some (.sl 0 x.1.2.1) by kernel_rfl)
 have A5:(β1 7).AX=Bs:=by unfold Nm.AX;rw [hBs];rfl
 have hBs':Bs<W.heap.size:=(Array.getElem?_eq_some_iff.1 hBh).1
 have hgd:=b2.jI (r:=Bs) (fun i b hi hk=>b6 7 _ i b Bs hp7 (by rw [hpbl];simp) hi (Nm.E7 hBs) hk) hBs' (hg1.gh.fresh 7 _ Bs (show lk (kQ x.1.2.1 ((),x.2)).o 7=some (.AX 22 [.h 1]) from rfl) (Nm.E7 hBs))
 have hrd: ∀ W':World,(∀ k,(FW D1 β1 ps.bl k\/k=Bs)->W'.heap[k]?=W.heap[k]?)->de Bs x.1.2.1 W':=fun W' hs=>by
  have hc:W'.cell? ⟨Bs,0,none⟩=some ((β1 1).sl):=by
   rw [World.cell?_of_block (w:=W) (hs Bs (.inr rfl))]
   unfold World.cell?
   rw [hBh]
   simp [AD,SV.den]
  rcases SD hrow with ⟨h1,a',c,h2⟩|⟨b,off,cap,h2,h3,h4⟩
  ·exact .inl ⟨h1,a',c,by rw [hc,h2]⟩
  ·exact .inr ⟨b,off,cap,by rw [hc,h2],fun j hj=>by rw [World.cell?_of_block (w:=W) (hs b (.inl (.inl h3)))];exact h4 j hj⟩
 have t2:a.tmps.getD 2 undef=.pointer (some ⟨(β2 1).AX,0,none⟩):=by rw [hg1.tmps 2 (.ptr 5 0) rfl,r1];simp only [SV.den]
 have t5:a.tmps.getD 5 undef=.pointer (some ⟨(β2 2).AX,0,none⟩):=by rw [hg1.tmps 5 (.ptr 6 0) rfl,r2];simp only [SV.den]
 have hsz:a.tmps.size=25:=hg1.size
 have hgo':Tryz.B6.go ((bwd x.1.2.1).map Prod.snd) ((),(x.2.1,((),()),(-1,()),()))=some yq:=by rw [UX];exact hgo
 refine wpIn_wide.2 (wpIn_wide.1 (LA (gf:=120) (lb:=#[.pointer (some ⟨Bs,0,none⟩)]) ?_ S1 (Tryz.US Bs x.1.2.1 hl) (fun _=>rfl)
  (ni w W (AL o β) D (fun k=>FW D1 β1 ps.bl k\/k=Bs) β2 ((),(x.2.1,((),()),(-1,()),()))) (fun _ _ _=>False) (fun pre W' ob ⟨y,h1,h2⟩ hlt=>⟨y,h1,OY.Zs y W' ob h2 hlt⟩) (fun _ _ _ _ h _=>h)
  (fun pre W' ⟨_,_,_,_,_,_,_,_,_,_,_,_,_,_,_,h9⟩=>hrd W' h9) (fun ob ob'=>⟨_,rfl,OY.first hq hgd b5 (fun _ h=>h) ob ob'⟩)
  (fun x' a'=>a'.defers=[]/\a'.tmps.size=25/\a'.tmps.getD 2 undef=.pointer (some ⟨(β2 1).AX,0,none⟩)/\a'.tmps.getD 5 undef=.pointer (some ⟨(β2 2).AX,0,none⟩)/\a'.tmps.getD 7 undef=.int .i64 x'.2) ?_ ?_ ?_ ?_))
 ·rw [show a.eval (.tmp 10)=a.tmps.getD 10 undef from rfl,hg1.tmps 10 (.fn 120 [.ptr 7 0]) rfl]
  simp only [SV.den,AD,Eb (show Nat.ble 1000000 120=false from rfl),A5]
 ·intro l x' W' K hK
  exact V6 hsz fun a' h1 h2 h3 h4=>hK a' ⟨h1,h2,by rw [h3 2 (by decide) (by decide) (by decide)];exact t2,by rw [h3 5 (by decide) (by decide) (by decide)];exact t5,h4⟩
 ·rintro pre x' rest a' W' hxs _ hI ⟨h1,h2,h3,h4,h5⟩
  exact bM hkp hgo' hxs hI h1 h2 h3 h4 h5 _
 ·rintro W' ⟨y,h1,h2⟩ hK
  rw [hgo'] at h1
  cases h1
  simp only [after,Exit.inBlock]
  exact bN hkp hres (by rw [r0];exact hβ1 0 (by omega)) h2 hg1.defers hsz t2 t5 hK
 ·exact fun _ _ _ _ h=>h.elim
abbrev OV:Gx:=⟨0,109,[.fd (.sl 4),.st 0,.own 5 89,.own 6 111,.st 0,.st 0,.fd (.int .i64),.st 0],false⟩
abbrev JC:List Gx:=[OV,⟨1,107,[.al 0 0],false⟩]
abbrev Si:Type:=List En.Dop.Tok×Int×List En.Dop.AV×List En.Dop.Fp×Int×Int×Int×Int×Unit
def sD (s:Si) (d:Int):Si:=(s.1,s.2.1,s.2.2.1,s.2.2.2.1,s.2.2.2.2.1,d,s.2.2.2.2.2.2.1,s.2.2.2.2.2.2.2.1,())
abbrev MT:Type:=En.Spec.D En.Dop.D4 ⟨[.al 0 0],[OV]⟩->Option (En.Spec.D En.Dop.D4 ⟨[.fd (.int .i64)],[OV]⟩)
def Z1 (r:Int) (s:Si):Option (En.Spec.D En.Dop.D4 ⟨[.fd (.int .i64)],[OV]⟩):=
 if Al (s.2.2.2.2.2.1 -1)=true then some ((r,()),(sD s (s.2.2.2.2.2.1 -1),())) else none
def PU (m:MT) (s:Si):Option (En.Spec.D En.Dop.D4 ⟨[.fd (.int .i64)],[OV]⟩):=
 if (!decide (s.2.2.2.2.2.2.1=0))=true then Z1 (-1) s else (m (((),()),(s,()))).bind fun v=>Z1 v.1.1 v.2.1
noncomputable def Tryz.within (m:MT) (s:Si):Option (En.Spec.D En.Dop.D4 ⟨[.fd (.int .i64)],[OV]⟩):=
 if Al (s.2.2.2.2.2.1+1)=true then
  if decide (100<s.2.2.2.2.2.1+1)=true then
   (Tryz.Cs 6 (s.1,s.2.1,s.2.2.1,s.2.2.2.1,s.2.2.2.2.1,s.2.2.2.2.2.1+1,s.2.2.2.2.2.2)).bind fun y=>PU m y.2.1
  else PU m (sD s (s.2.2.2.2.2.1+1))
 else none
noncomputable abbrev w4:Code:=BJ (AY Tryz.prog 143) [0,1,1,1]
noncomputable abbrev w5:Code:=BJ (AY Tryz.prog 143) [1,1,1,1]
noncomputable def Jd (c:Code):Array Oper:=match c with
 | .region _ o _=>o
 | _=>#[]
noncomputable def nA:Array Oper:=Jd w4
noncomputable def pU:Array Oper:=Jd (BJ w5 [0,0])
noncomputable def pV:Array Oper:=Jd (BJ w5 [0,0,1,0])
noncomputable def pW:Array Oper:=Jd (BJ w5 [0,1])
noncomputable def mM:Array Oper:=Jd (AY Tryz.prog 172)
theorem mJ:w4=.region 4 nA false:=by kernel_rfl
theorem mL:w5=.seq (.seq (.region 5 pU false) (.cond (.tmp 24) (.seq (.region 6 pV false) .ret) .skip)) (.seq (.region 7 pW false) .ret):=by kernel_rfl
theorem iW:AY Tryz.prog 172=.region 0 mM false:=by kernel_rfl
noncomputable def ix:Oper:=(nA.getD 0 default)
noncomputable def mK:Oper:=(nA.getD 1 default)
theorem iV:nA.toList=[ix,mK]:=by kernel_rfl
theorem iT:ix.op=.makeFunc (.func 172) #[] #[.tmp 2]/\ix.dst=some 19/\ix.guard=none:=⟨by kernel_rfl,by kernel_rfl,by kernel_rfl⟩
theorem iU:mK.op=.defer { callee:=.value (.tmp 19),args:=#[],argTypes:=#[] }/\mK.dst=none/\mK.guard=none:=⟨by kernel_rfl,by kernel_rfl,by kernel_rfl⟩
def cQ.p:Aj:=⟨[],2,⟨[.al 1 0],JC⟩,⟨[],JC⟩,false,[],[]⟩
noncomputable def cQ.E:Env En.Dop.D4:=AU Tryz.prog 172 Tryz.tb [] cQ.p
theorem cQ.ok:AH En.Dop.D4 Tryz.prog 172 cQ.p=true:=by kernel_rfl
theorem cQ.mw (s:Si):(OH cQ.E 3000 mM ⟨[.al 1 0],JC⟩ ⟨[],JC⟩ [0] [] 2 (((),()),(s,((),()),()))).eval (fun _ _=>none)=
  if Al (s.2.2.2.2.2.1 -1)=true then some ((),(sD s (s.2.2.2.2.2.1 -1),((),()),())) else none:=by kernel_rfl
theorem S2 (args:Array Value) (w:World):(callFunc 172 args).run Tryz.prog w=.ok (.enter 172 args) w:=Cv (by kernel_rfl)
theorem cR (r:Int) (s:Si): ∃ ps,En.Spec.parse (S:=En.Dop.D4) ⟨[.fd (.int .i64)],[OV]⟩ true [.v (.int .i64 r)] (En.Spec.enc (S:=En.Dop.D4) ⟨[],JC⟩ ((),(s,((),()),())) 2).2.1 (RQ 1) 1=some (((r,()),(s,())),ps)/\lk ps.m 0=some 0:=
 ⟨⟨(1,.AX 107 [.ptr 0 0])::(2,.sl 4 s.1)::[],[(0,0)],[],1⟩,by kernel_rfl,by kernel_rfl⟩
theorem db {f:Nat} {sp:En.Spec} {out:Out (sp.D En.Dop.D4) (En.Spec.D En.Dop.D4 ⟨[.fd (.int .i64)],[OV]⟩)} {w:World} {D:Nat->Prop} {β:Nat->Nm} {o0:List (Nat×En.Own En.Dop.D4)} (hkp:CF En.Dop.D4 w (AL o0 β) D) {fn:Func} (hres:fn.results=#[.tmp 4]) {β2:Nat->Nm} (hβ:β2 0=β 0)
  {r:Int} {s:Si} (hd:Al (s.2.2.2.2.2.1 -1)=true) {a:Act} {W:World}
  (hh:Mk En.Dop.D4 w (AL o0 β) D ⟨[.fd (.int .i64)],JC⟩ [4] 2 β2 27 ((r,()),(s,((),()),())) a W):
  Leaves Tryz.prog fn a.tmps (Ds (S:=En.Dop.D4) ⟨f,1,sp,⟨[.fd (.int .i64)],[OV]⟩,false,out⟩ ((r,()),(sD s (s.2.2.2.2.2.1 -1),())) w D β o0) [{ target:=.fn (.func 172) #[.pointer (some ⟨(β2 1).AX,0,none⟩)],args:=#[] }] .returning W:=by
 obtain ⟨hE,_,_,fn7,hf7,hb7,hn7,hr7⟩:=G1 (p:=cQ.p) (ct:=[]) Tryz.AJ Am cQ.ok
 have hn7:fn7.ntmps=8:=hn7
 obtain ⟨⟨D1,β1,vs,o,n,he,h1,h2,h3,h4,h5⟩,hsz⟩:=hh
 have hr:a.tmps.getD 4 undef=.int .i64 r:=by
  have hvs:vs=[.v (.int .i64 r)]:=by
   have h:En.Spec.enc (S:=En.Dop.D4) ⟨[.fd (.int .i64)],JC⟩ ((r,()),(s,((),()),())) 2=([.v (.int .i64 r)],(En.Spec.enc (S:=En.Dop.D4) ⟨[.fd (.int .i64)],JC⟩ ((r,()),(s,((),()),())) 2).2.1,(En.Spec.enc (S:=En.Dop.D4) ⟨[.fd (.int .i64)],JC⟩ ((r,()),(s,((),()),())) 2).2.2):=by kernel_rfl
   rw [he] at h
   exact (Prod.mk.inj h).1
  subst hvs
  have:=(h5 0 4 _ rfl rfl).2
  rw [this];simp only [SV.den]
 have he7:En.Spec.enc (S:=En.Dop.D4) ⟨[.al 1 0],JC⟩ (((),()),(s,((),()),())) 2=([.ptr 1 0],o,n):=by
  have h:En.Spec.enc (S:=En.Dop.D4) ⟨[.al 1 0],JC⟩ (((),()),(s,((),()),())) 2=([.ptr 1 0],(En.Spec.enc (S:=En.Dop.D4) ⟨[.fd (.int .i64)],JC⟩ ((r,()),(s,((),()),())) 2).2.1,(En.Spec.enc (S:=En.Dop.D4) ⟨[.fd (.int .i64)],JC⟩ ((r,()),(s,((),()),())) 2).2.2):=by kernel_rfl
  rw [h,he]
 have hseg:=cQ.mw s
 rw [if_pos hd] at hseg
 refine leaves_cons (by simp) (by rw [invoke];exact S2 _ _) ?_
 refine (callsD_of_wp (R:=fun e w'=>(∃ v,e=.returned v)/\ ∃ a',Mk En.Dop.D4 w (AL o0 β) D ⟨[],JC⟩ [] 2 β2 8 ((),(sD s (s.2.2.2.2.2.1 -1),((),()),())) a' w') hf7 hb7 ?_).mono ?_
 ·rw [iW]
  refine wp_region_list (OI hE (by kernel_rfl) rfl hseg hkp ⟨⟨D1,β1,_,o,n,he7,h1,h2,?_,h4,?_⟩,?_⟩ ?_)
  ·simp only [BZ,SV.on,and_true];omega
  ·intro j t v hj hv
   cases j with
   | zero=>
    simp only [List.getElem?_cons_zero,am] at hj hv;subst hj;subst hv
    refine ⟨by show 0<8;omega,?_⟩
    rw [lm,Array.getElem?_append_left (by simp)]
    simp [SV.den,h1 1 (by omega)]
   | succ j=>simp at hj
  ·simp [hn7];rfl
  ·intro a' W' hd' hh'
   refine ⟨hd',.tuple #[],results_none (by rw [<-Array.toList_inj];rw [hr7];kernel_rfl) _ _ _,⟨_,rfl⟩,a',hh'⟩
 ·rintro e u w' ⟨rfl,⟨v,rfl⟩,a',⟨D2,β3,vs2,o2,n2,k1,k2,k3,k4,k5,_⟩,_⟩
  show ∃ v,(results fn a.tmps).run Tryz.prog w'=.ok v w'/\_
  refine ⟨.int .i64 r,by rw [<-hr];exact results_tmp hres _ _ _,?_⟩
  rcases he8:En.Spec.enc (S:=En.Dop.D4) ⟨[.fd (.int .i64)],[OV]⟩ ((r,()),(sD s (s.2.2.2.2.2.1 -1),())) 1 with ⟨rs,o5,n5⟩
  obtain ⟨ps,hps,hm0⟩:=cR r (sD s (s.2.2.2.2.2.1 -1))
  have ho2:o2=(En.Spec.enc (S:=En.Dop.D4) ⟨[],JC⟩ ((),(sD s (s.2.2.2.2.2.1 -1),((),()),())) 2).2.1:=by rw [k1]
  rw [<-ho2] at hps
  obtain ⟨β5,b1,b2,b3,b4,b5,_⟩:=En.Spec.CO k3 hps (by kernel_rfl) he8
  have hrs:rs=[.v (.int .i64 r)]:=by
   have h: ∀ s':Si,En.Spec.enc (S:=En.Dop.D4) ⟨[.fd (.int .i64)],[OV]⟩ ((r,()),(s',())) 1=([.v (.int .i64 r)],(En.Spec.enc (S:=En.Dop.D4) ⟨[.fd (.int .i64)],[OV]⟩ ((r,()),(s',())) 1).2.1,(En.Spec.enc (S:=En.Dop.D4) ⟨[.fd (.int .i64)],[OV]⟩ ((r,()),(s',())) 1).2.2):=fun s'=>by kernel_rfl
   have h:=h (sD s (s.2.2.2.2.2.1 -1))
   rw [he8] at h
   exact (Prod.mk.inj h).1
  refine ⟨_,β5,rs,o5,n5,he8,?_,fun i hi=>?_,b2,b4,b5⟩
  ·rw [hrs];simp only [Ay,SV.den]
  ·have hi0:i=0:=by have:i<1:=hi;omega
   subst hi0
   rw [b1 0 (by omega) 0 hm0,k2 0 (by omega),hβ]
abbrev cS (g:Nat):List C0:=[.fn g [(0,0)],.al 1 0]
abbrev iy (g:Nat):List C0:=[.fn g [(0,0)],.al 1 0,.fd .bool]
def oV (g:Nat):Aj:=⟨[(999998,⟨[[0,0,1,1,1],[0,1,1,1,1]],[1,2],2,⟨(cS g),JC⟩⟩)],1,⟨[.al 0 0,.fn g [(0,0)]],[OV]⟩,⟨[.fd (.int .i64)],[OV]⟩,false,[],[]⟩
noncomputable def wk (f:Nat) (m:MT):BU En.Dop.D4:=⟨f,1,⟨[.al 0 0],[OV]⟩,⟨[.fd (.int .i64)],[OV]⟩,false,.opt m⟩
noncomputable def wE (f g:Nat) (m:MT):Env En.Dop.D4:=AU Tryz.prog 143 Tryz.tb [Tryz.Cs.c,wk f m] (oV g)
noncomputable def wc (g:Nat) (m:MT):BU En.Dop.D4:=⟨143,1,⟨[.al 0 0,.fn g [(0,0)]],[OV]⟩,⟨[.fd (.int .i64)],[OV]⟩,false,.opt fun x=>Tryz.within m x.2.1⟩
def W5 (f g:Nat):Prop:= ∀ (m:MT) (s:Si),(OH (wE f g m) 3000 pU ⟨(cS g),JC⟩ ⟨(iy g),JC⟩ [1,2] [1,2,24] 2 (((),(),()),(s,((),()),()))).eval (fun _ _=>none)=some (((),(),(!decide (s.2.2.2.2.2.2.1=0)),()),(s,((),()),()))
theorem s6 (f g:Nat) (m:MT) (s:Si) (b:Bool):(OH (wE f g m) 3000 pV ⟨(iy g),JC⟩ ⟨[.fd (.int .i64)],JC⟩ [1,2,24] [4] 2 (((),(),b,()),(s,((),()),()))).eval (fun _ _=>none)=some ((-1,()),(s,((),()),())):=by kernel_rfl
def W7 (f g:Nat):Prop:= ∀ (m:MT) (s:Si) (b:Bool),(OH (wE f g m) 3000 pW ⟨(iy g),JC⟩ ⟨[.fd (.int .i64)],JC⟩ [1,2,24] [4] 2 (((),(),b,()),(s,((),()),()))).eval (fun _ _=>none)=(m (((),()),(s,()))).bind fun v=>some ((v.1.1,()),(v.2.1,((),()),()))
def W0 (f g:Nat):Prop:= ∀ (m:MT) (s:Si) (vs:List SV) (o:List (Nat×En.Own En.Dop.D4)) (n:Nat) (h:En.Spec.enc (S:=En.Dop.D4) ⟨[.al 0 0,.fn g [(0,0)]],[OV]⟩ (((),(),()),(s,())) 1=(vs,o,n)),
  (oP (wE f g m) 3000 ⟨(cS g),JC⟩ [1,2] 1 2 999998 [[0,0,1,1,1],[0,1,1,1,1]] [.code [] (AY Tryz.prog 143)] ⟨Bx 0 vs,o,n,27⟩).eval (fun _ _=>none)=
  if Al (s.2.2.2.2.2.1+1)=true then
   if decide (100<s.2.2.2.2.2.1+1)=true then
    (Tryz.Cs 6 (s.1,s.2.1,s.2.2.1,s.2.2.2.1,s.2.2.2.2.1,s.2.2.2.2.2.1+1,s.2.2.2.2.2.2)).bind fun y=>some (((),(),()),(y.2.1,((),()),()))
   else some (((),(),()),(sD s (s.2.2.2.2.2.1+1),((),()),()))
  else none
theorem iX {f g:Nat} (h5:W5 f g) (h7:W7 f g) {m:MT} (hE:(wE f g m).Ok Tryz.prog) {x:En.Spec.D En.Dop.D4 ⟨[.al 0 0,.fn g [(0,0)]],[OV]⟩} {y:En.Spec.D En.Dop.D4 ⟨[.fd (.int .i64)],[OV]⟩} {w:World} {D:Nat->Prop} {β:Nat->Nm} {o0:List (Nat×En.Own En.Dop.D4)} (hkp:CF En.Dop.D4 w (AL o0 β) D) {fn:Func} (hres:fn.results=#[.tmp 4]) {β2:Nat->Nm} (hβ:β2 0=β 0) {s:Si} (hy:PU m s=some y)
  {a:Act} {W:World} (hd:a.defers=[]) (hh:Mk En.Dop.D4 w (AL o0 β) D ⟨(cS g),JC⟩ [1,2] 2 β2 27 (((),(),()),(s,((),()),())) a W):
  w4.wpIn Fence.wide 0 Tryz.prog (after Fence.wide Tryz.prog 0 [.code w5] (Lv (bodyPostD Tryz.prog fn (Ds (S:=En.Dop.D4) (wc g m) y w D β o0)))) a W:=by
 have ht2:a.tmps.getD 2 undef=.pointer (some ⟨(β2 1).AX,0,none⟩):=by
  obtain ⟨⟨D1,β1,vs,o,n,he,h1,h2,h3,h4,h5⟩,hsz⟩:=hh
  have hvs:vs=[.fn g [.ptr 0 0],.ptr 1 0]:=by
   have h:En.Spec.enc (S:=En.Dop.D4) ⟨(cS g),JC⟩ (((),(),()),(s,((),()),())) 2=([.fn g [.ptr 0 0],.ptr 1 0],(En.Spec.enc (S:=En.Dop.D4) ⟨(cS g),JC⟩ (((),(),()),(s,((),()),())) 2).2.1,(En.Spec.enc (S:=En.Dop.D4) ⟨(cS g),JC⟩ (((),(),()),(s,((),()),())) 2).2.2):=by kernel_rfl
   rw [he] at h
   exact (Prod.mk.inj h).1
  subst hvs
  rw [(h5 1 2 _ rfl rfl).2,<- h1 1 (by omega)]
  simp only [SV.den]
 obtain ⟨a1,a2,a3⟩:=iT
 obtain ⟨b1,b2,b3⟩:=iU
 have hsz:=hh.sz
 rw [mJ]
 refine FT (.inl rfl) ?_
 rw [iV]
 unfold wpList
 rw [if_pos (by simp [Region.wanted,a3])]
 refine .inl (Aq (v:=.func (.func 172) #[] #[.pointer (some ⟨(β2 1).AX,0,none⟩)]) (w':=W) ?_ ?_)
 ·simp [execOp,a1,Instr.makeFunc,Act.eval,<- ht2]
 unfold wpList
 rw [if_pos (by simp [Region.wanted,b3])]
 refine .inl ?_
 have hex:(execOp (a.put ix.dst (.func (.func 172) #[] #[.pointer (some ⟨(β2 1).AX,0,none⟩)])).eval mK).run Tryz.prog W=.ok (.defer { target:=.fn (.func 172) #[.pointer (some ⟨(β2 1).AX,0,none⟩)],args:=#[] }) W:=by
  have hev:(a.put ix.dst (.func (.func 172) #[] #[.pointer (some ⟨(β2 1).AX,0,none⟩)])).eval (.tmp 19)=.func (.func 172) #[] #[.pointer (some ⟨(β2 1).AX,0,none⟩)]:=by
   simp [Act.eval,Act.put,a2,lm,ge,hsz]
  simp [execOp,b1,resolve,hev,Deferred.ofValue]
 unfold Oper.wp
 rw [hex,Oper.upon_defer,b2]
 simp only [wpList,after,Act.put,a2,hd]
 refine wpIn_wide.2 ?_
 rw [mL]
 have hh2:Mk En.Dop.D4 w (AL o0 β) D ⟨(cS g),JC⟩ [1,2] 2 β2 27 (((),(),()),(s,((),()),())) { a.put (some 19) (.func (.func 172) #[] #[.pointer (some ⟨(β2 1).AX,0,none⟩)]) with defers:=[{ target:=.fn (.func 172) #[.pointer (some ⟨(β2 1).AX,0,none⟩)],args:=#[] }] } W:=hh.put (by decide)
 refine wp_seq (wp_seq (wp_region_list (OI hE (by kernel_rfl) rfl (h5 m s) hkp hh2 fun a3 W3 hd3 hh3=>?_)))
 have ht24:a3.eval (.tmp 24)=.bool (!decide (s.2.2.2.2.2.2.1=0)):=by
  obtain ⟨⟨D1,β1,vs,o,n,he,h1,h2,h3,h4,h5⟩,hsz⟩:=hh3
  have hvs: ∀ b:Bool,En.Spec.enc (S:=En.Dop.D4) ⟨(iy g),JC⟩ (((),(),b,()),(s,((),()),())) 2=([.fn g [.ptr 0 0],.ptr 1 0,.b b],(En.Spec.enc (S:=En.Dop.D4) ⟨(iy g),JC⟩ (((),(),b,()),(s,((),()),())) 2).2.1,(En.Spec.enc (S:=En.Dop.D4) ⟨(iy g),JC⟩ (((),(),b,()),(s,((),()),())) 2).2.2):=fun b=>by kernel_rfl
  have h:=hvs (!decide (s.2.2.2.2.2.2.1=0))
  rw [he] at h
  have h:=(Prod.mk.inj h).1
  subst h
  rw [show a3.eval (.tmp 24)=a3.tmps.getD 24 undef from rfl,(h5 2 24 _ rfl rfl).2]
  simp only [SV.den]
 unfold PU at hy
 split at hy
 ·rename_i hb
  unfold Z1 at hy
  split at hy
  case isFalse=>cases hy
  rename_i hin
  cases hy
  refine wp_cond_true (by rw [ht24,hb]) (wp_seq (wp_region_list (OI hE (by kernel_rfl) rfl ((s6 f g) m s _) hkp hh3 fun a4 W4 hd4 hh4=>wp_ret ?_)))
  show Leaves _ _ _ _ _ _ _
  rw [hd4,hd3]
  exact db hkp hres hβ hin hh4
 ·rename_i hb
  have hb:(!decide (s.2.2.2.2.2.2.1=0))=false:=by simpa using hb
  obtain ⟨v,hv,hy⟩:=Option.bind_eq_some_iff.1 hy
  unfold Z1 at hy
  split at hy
  case isFalse=>cases hy
  rename_i hin
  cases hy
  refine wp_cond_false (by rw [ht24,hb]) (wp_skip ?_)
  have h7:=h7 m s (!decide (s.2.2.2.2.2.2.1=0))
  rw [hv] at h7
  refine wp_seq (wp_region_list (OI hE (by kernel_rfl) rfl h7 hkp hh3 fun a4 W4 hd4 hh4=>wp_ret ?_))
  show Leaves _ _ _ _ _ _ _
  rw [hd4,hd3]
  exact db hkp hres hβ hin hh4
theorem Mh {f g:Nat} (hs5:W5 f g) (h0:W0 f g) (h7:W7 f g) (ok:AH En.Dop.D4 Tryz.prog 143 (oV g)=true) {m:MT} (hm:(wk f m).Holds Tryz.prog):(wc g m).Holds Tryz.prog:=by
 obtain ⟨hE,hbod,hokB,fn,hf,hb,hn,hr⟩:=G1 (p:=(oV g)) (ct:=[Tryz.Cs.c,wk f m]) Tryz.AJ (AS Tryz.Cs.holds (AS hm Am)) ok
 have e1:Cw Tryz.prog 143=27:=by kernel_rfl
 have e2:EL Tryz.prog 143=[.tmp 4]:=by kernel_rfl
 have hres:fn.results=#[.tmp 4]:=by rw [e2] at hr;rw [<-hr]
 refine ⟨hbod,hokB,fun h=>(by cases h),fun x y hxy w D β vs o n he hg hon hn' hiv=>?_⟩
 have hxy:Tryz.within m x.2.1=some y:=hxy
 have hkp:CF En.Dop.D4 w (AL o β) D:=⟨hiv,fun k hk=>⟨hg.DL k hk,fun ⟨i,b,hi,hik⟩=>hg.off i b k hi hik hk⟩⟩
 have hlen:vs.length=2:=En.Spec.Ah he
 have hs0:=h0 m x.2.1 vs o n he
 have key: ∀ s:Si,PU m s=some y->(oP (wE f g m) 3000 ⟨(cS g),JC⟩ [1,2] 1 2 999998 [[0,0,1,1,1],[0,1,1,1,1]] [.code [] (AY Tryz.prog 143)] ⟨Bx 0 vs,o,n,27⟩).eval (fun _ _=>none)=some (((),(),()),(s,((),()),()))->Calls Tryz.prog 143 (AD β vs).toArray w (Ds (wc g m) y w D β o):=fun s hs hev=>
  VC.ed (M:=0+3000) (bn:=1) hf hb (hn.trans e1) (by omega) hon hg (mG hE (k1:=[.code [0,1,1,1] w4,.code [1,1,1,1] w5]) (by kernel_rfl) (by kernel_rfl) (by omega) (k0:=[.code [] (AY Tryz.prog 143)]) hev hkp (fun _ _ _ _ _ h=>h) hn' rfl (fun z hz=>by
   simp only [List.mem_cons,List.not_mem_nil,or_false] at hz
   subst hz;rfl) fun β2 a W hag hd hh=>iX hs5 h7 (x:=x) hE hkp hres (hag 0 (by omega)) hs hd hh)
 unfold Tryz.within at hxy
 split at hxy
 case isFalse=>cases hxy
 rename_i h1
 rw [if_pos h1] at hs0
 split at hxy
 ·rename_i h2
  rw [if_pos h2] at hs0
  obtain ⟨z,hz,hy⟩:=Option.bind_eq_some_iff.1 hxy
  rw [hz] at hs0
  exact key _ hy hs0
 ·rename_i h2
  rw [if_neg h2] at hs0
  exact key _ hxy hs0
theorem oR.holds {m:MT} (hm:(wk 200 m).Holds Tryz.prog):(wc 1000200 m).Holds Tryz.prog:=Mh (f:=200) (g:=1000200) (fun _ _=>by kernel_rfl) (fun _ _ _ _ _ h=>by cases h;kernel_rfl) (fun _ _ _=>by kernel_rfl) (by kernel_rfl) hm
theorem oS.holds {m:MT} (hm:(wk 208 m).Holds Tryz.prog):(wc 1000208 m).Holds Tryz.prog:=Mh (f:=208) (g:=1000208) (fun _ _=>by kernel_rfl) (fun _ _ _ _ _ h=>by cases h;kernel_rfl) (fun _ _ _=>by kernel_rfl) (by kernel_rfl) hm
theorem oT.holds {m:MT} (hm:(wk 211 m).Holds Tryz.prog):(wc 1000211 m).Holds Tryz.prog:=Mh (f:=211) (g:=1000211) (fun _ _=>by kernel_rfl) (fun _ _ _ _ _ h=>by cases h;kernel_rfl) (fun _ _ _=>by kernel_rfl) (by kernel_rfl) hm
theorem oQ.holds {m:MT} (hm:(wk 144 m).Holds Tryz.prog):(wc 1000144 m).Holds Tryz.prog:=Mh (f:=144) (g:=1000144) (fun _ _=>by kernel_rfl) (fun _ _ _ _ _ h=>by cases h;kernel_rfl) (fun _ _ _=>by kernel_rfl) (by kernel_rfl) hm
end Go.Proofs
namespace Go.Proofs.Tryz
open Go Go.En
def KK.p:Aj:=⟨[],0,⟨[],[]⟩,⟨[.own 1 9],[]⟩,true,[],[]⟩
theorem KK.ok:AH Dop.D4 prog 210 KK.p=true:=by kernel_rfl
def C2.p:Aj:=⟨[],1,⟨[.al 0 0],[PS.b0]⟩,⟨[.fd (.int .i64)],[PS.b0]⟩,false,[],[]⟩
theorem C2.ok:AH Dop.D4 prog 174 C2.p=true:=by kernel_rfl
def BR.p:Aj:=⟨[],1,⟨[.al 0 0,.fn 1000200 [(0,0)]],[PS.b0]⟩,⟨[.fd (.int .i64)],[PS.b0]⟩,false,[],[]⟩
abbrev Ct.q3:Cut:=⟨[[0,0,0,0,1,0,1,1],[0,1,0,0,1,0,1,1],[2,0,0,1,0,1,1],[1,0],[0,1,1,1]],[0,3,10,11,12],1,⟨[.al 0 0,.fd (.int .i64),.own 1 9,.fd (.int .i64),.fd (.int .i64)],[PS.b0]⟩⟩
def Ct.p:Aj:=⟨[(3,Ct.q3)],1,⟨[.al 0 0],[PS.b0]⟩,⟨[.fd (.int .i64)],[PS.b0]⟩,false,[],[]⟩
theorem Ct.ok:AH Dop.D4 prog 200 Ct.p=true:=by kernel_rfl
def Fo.p:Aj:=⟨[],1,⟨[.al 0 0],[PS.b0]⟩,⟨[.fd (.int .i64)],[PS.b0]⟩,false,[],[]⟩
theorem Fo.ok:AH Dop.D4 prog 208 Fo.p=true:=by kernel_rfl
abbrev Bg.q4:Cut:=⟨[[0,0,0,0,0,0,1,1,1,0,1],[0,1,0,0,0,0,1,1,1,0,1],[0,1,0,0,0,1,1,1,0,1],[1,1],[2,0,0,1,1,1,0,1],[1,0],[3,0,1]],[0,1,5],1,⟨[.al 0 0,.fd (.int .i64),.fd (.int .i64)],[PS.b0]⟩⟩
abbrev Bg.q5:Cut:=⟨[[0,0,0,0,1,0,0,0,0,1,1,1,0,1],[0,1,0,0,1,0,0,0,0,1,1,1,0,1],[2,0,0,1,0,0,0,0,1,1,1,0,1],[1,2],[0,1,0,0,0,1,1,1,0,1],[1,1],[2,0,0,1,1,1,0,1],[1,0],[3,0,1]],[0,1,5,24,25,26],1,⟨[.al 0 0,.fd (.int .i64),.fd (.int .i64),.own 1 9,.fd (.int .i64),.fd (.int .i64)],[PS.b0]⟩⟩
def Bg.p:Aj:=⟨[(4,Bg.q4),(5,Bg.q5)],1,⟨[.al 0 0,.fd (.int .i64)],[PS.b0]⟩,⟨[.fd (.int .i64)],[PS.b0]⟩,false,[],[]⟩
theorem Bg.ok:AH Dop.D4 prog 209 Bg.p=true:=by kernel_rfl
abbrev Cc.q3:Cut:=⟨[[0,0,0,0,1,0,1,1],[0,1,0,0,1,0,1,1],[2,0,0,1,0,1,1],[1,0],[0,1,1,1]],[0,3,13,14,15],1,⟨[.al 0 0,.fd (.int .i64),.own 1 9,.fd (.int .i64),.fd (.int .i64)],[PS.b0]⟩⟩
def Cc.p:Aj:=⟨[(3,Cc.q3)],1,⟨[.al 0 0],[PS.b0]⟩,⟨[.fd (.int .i64)],[PS.b0]⟩,false,[(19,⟨[(0,true),(1,false),(2,true),(3,true),(4,true),(5,true),(6,false),(7,true),(8,true),(9,true),(10,true),(11,false),(12,false),(13,true),(14,true)],[1000000],[0,1,3,7,15,31,63,127,7,263,775,1799,3847,8191,16383],false⟩)],[]⟩
theorem Cc.ok:AH Dop.D4 prog 211 Cc.p=true:=by kernel_rfl
def BD.p:Aj:=⟨[],1,⟨[.al 0 0,.fn 1000211 [(0,0)]],[PS.b0]⟩,⟨[.fd (.int .i64)],[PS.b0]⟩,false,[],[]⟩
def Gf.p:Aj:=⟨[],1,⟨[.al 0 0],[PS.b0]⟩,⟨[.fd (.int .i64)],[PS.b0]⟩,false,[(13,⟨[(0,true),(1,false),(2,true),(3,false),(4,true)],[5,1000004],[0,1,0,4,15,31],false⟩)],[]⟩
theorem Gf.ok:AH Dop.D4 prog 213 Gf.p=true:=by kernel_rfl
abbrev Gg.q2:Cut:=⟨[[0,0,0,0,0,0,1,1],[0,1,0,0,0,0,1,1],[0,1,0,0,0,1,1],[2,0,0,0,1,1],[1,0],[0,1,1,1]],[0,3],1,⟨[.al 0 0,.own 0 3],[PS.b0]⟩⟩
def Gg.p:Aj:=⟨[(2,Gg.q2)],1,⟨[.al 0 0],[PS.b0]⟩,⟨[.fd (.int .i64)],[PS.b0]⟩,false,[],[]⟩
theorem Gg.ok:AH Dop.D4 prog 214 Gg.p=true:=by kernel_rfl
abbrev Cu.q1:Cut:=⟨[[0,0,0,0,0,0,1],[0,1,0,0,0,0,1],[0,1,0,0,0,1],[2,0,0,0,1],[1,0],[0,1,1]],[0,1],1,⟨[.al 0 0,.fd (.int .i64)],[PS.b0]⟩⟩
def Cu.p:Aj:=⟨[(1,Cu.q1)],1,⟨[.al 0 0,.fd (.int .i64)],[PS.b0]⟩,⟨[.fd (.int .i64)],[PS.b0]⟩,false,[(12,⟨[(0,true),(1,true),(2,true),(3,false),(4,true),(5,true),(6,true),(7,false),(8,true),(9,false),(10,false),(11,false),(12,true)],[],[0,1,3,7,0,16,48,112,240,511,1023,2047,4095],false⟩),(17,⟨[(0,true),(1,true),(2,true),(3,false),(4,true),(5,true),(6,true),(7,false),(8,true),(9,false),(10,false),(11,false),(12,true),(13,false),(14,true)],[15,1000006],[0,1,3,7,0,16,48,112,240,511,1023,2047,0,4096,16383,32767],false⟩)],[]⟩
theorem Cu.ok:AH Dop.D4 prog 212 Cu.p=true:=by kernel_rfl
def Bj.p:Aj:=⟨[],1,⟨[.al 0 0,.fn 1000208 [(0,0)]],[PS.b0]⟩,⟨[.fd (.int .i64)],[PS.b0]⟩,false,[],[]⟩
abbrev Ab.T:Type:=(((Unit×Unit)×(PS×Unit))->Option ((Int×Unit)×(PS×Unit)))×(((Unit×Unit×Unit)×(PS×Unit))->Option ((Int×Unit)×(PS×Unit)))×(((Unit×Unit)×(PS×Unit))->Option ((Int×Unit)×(PS×Unit)))×(((Unit×Unit)×(PS×Unit))->Option ((Int×Unit)×(PS×Unit)))×(((Unit×Int×Unit)×(PS×Unit))->Option ((Int×Unit)×(PS×Unit)))×(((Unit×Unit)×(PS×Unit))->Option ((Int×Unit)×(PS×Unit)))×(((Unit×Unit×Unit)×(PS×Unit))->Option ((Int×Unit)×(PS×Unit)))×(((Unit×Unit)×(PS×Unit))->Option ((Int×Unit)×(PS×Unit)))×(((Unit×Unit)×(PS×Unit))->Option ((Int×Unit)×(PS×Unit)))×(((Unit×Int×Unit)×(PS×Unit))->Option ((Int×Unit)×(PS×Unit)))×(((Unit×Unit×Unit)×(PS×Unit))->Option ((Int×Unit)×(PS×Unit)))×Unit
noncomputable def Ab.ct (r:Ab.T):List (BU Dop.D4):=[⟨174,C2.p.bn,C2.p.sp,C2.p.rs,C2.p.flat,.opt (r.1)⟩,⟨143,BR.p.bn,BR.p.sp,BR.p.rs,BR.p.flat,.opt (r.2.1)⟩,⟨200,Ct.p.bn,Ct.p.sp,Ct.p.rs,Ct.p.flat,.opt (r.2.2.1)⟩,⟨208,Fo.p.bn,Fo.p.sp,Fo.p.rs,Fo.p.flat,.opt (r.2.2.2.1)⟩,⟨209,Bg.p.bn,Bg.p.sp,Bg.p.rs,Bg.p.flat,.opt (r.2.2.2.2.1)⟩,⟨211,Cc.p.bn,Cc.p.sp,Cc.p.rs,Cc.p.flat,.opt (r.2.2.2.2.2.1)⟩,⟨143,BD.p.bn,BD.p.sp,BD.p.rs,BD.p.flat,.opt (r.2.2.2.2.2.2.1)⟩,⟨213,Gf.p.bn,Gf.p.sp,Gf.p.rs,Gf.p.flat,.opt (r.2.2.2.2.2.2.2.1)⟩,⟨214,Gg.p.bn,Gg.p.sp,Gg.p.rs,Gg.p.flat,.opt (r.2.2.2.2.2.2.2.2.1)⟩,⟨212,Cu.p.bn,Cu.p.sp,Cu.p.rs,Cu.p.flat,.opt (r.2.2.2.2.2.2.2.2.2.1)⟩,⟨143,Bj.p.bn,Bj.p.sp,Bj.p.rs,Bj.p.flat,.opt (r.2.2.2.2.2.2.2.2.2.2.1)⟩]
def Nb.p:Aj:=⟨[],1,⟨[.al 0 0],[PS.b0]⟩,⟨[.fd (.int .i64)],[PS.b0]⟩,false,[],[]⟩
theorem Nb.ok:AH Dop.D4 prog 175 Nb.p=true:=by kernel_rfl
def KG.p:Aj:=⟨[],1,⟨[.al 0 0,.fd .str],[PS.b0]⟩,⟨[.fd (.int .i64)],[PS.b0]⟩,false,[],[]⟩
theorem KG.ok:AH Dop.D4 prog 176 KG.p=true:=by kernel_rfl
def Nc.p:Aj:=⟨[],1,⟨[.al 0 0],[PS.b0]⟩,⟨[.fd .bool],[PS.b0]⟩,false,[(1,⟨[(0,true),(1,false),(2,true),(3,true),(4,true),(5,true),(6,true),(7,true),(8,false),(9,true),(10,true),(11,true),(12,true),(13,false),(14,false),(15,true),(16,true),(17,true),(18,true),(19,true),(20,true),(21,false),(22,true),(23,true),(24,true),(25,false),(26,true),(27,false),(28,false),(29,false),(30,true),(31,true),(32,true)],[1000000],[0,1,3,7,15,31,63,127,255,511,31,1055,3103,7199,15391,32767,65535,131071,262143,524287,1048575,2097151,262143,4456447,12845055,29622271,63176703,134217727,268435455,536870911,1073741823,2147483647,4294967295],false⟩)],[]⟩
theorem Nc.ok:AH Dop.D4 prog 177 Nc.p=true:=by kernel_rfl
abbrev FE.q4:Cut:=⟨[[0,0,0,0,0,0,1,1,1,1],[0,1,0,0,0,0,1,1,1,1],[0,1,0,0,0,1,1,1,1],[2,0,0,0,1,1,1,1],[1,0],[0,1,1,1,1,1]],[0,3,4],2,⟨[.al 0 0,.al 1 0,.own 0 3],[PS.b0,⟨1,89,[.st 5],false⟩]⟩⟩
def FE.p:Aj:=⟨[(4,FE.q4)],1,⟨[.al 0 0],[PS.b0]⟩,⟨[.fd (.int .i64)],[PS.b0]⟩,false,[],[]⟩
theorem FE.ok:AH Dop.D4 prog 86 FE.p=true:=by kernel_rfl
def Ga.p:Aj:=⟨[],1,⟨[.al 0 0],[PS.b0]⟩,⟨[.fd (.int .i64)],[PS.b0]⟩,false,[],[]⟩
theorem Ga.ok:AH Dop.D4 prog 119 Ga.p=true:=by kernel_rfl
def BQ.p:Aj:=⟨[],1,⟨[.al 0 0,.fn 1000144 [(0,0)]],[PS.b0]⟩,⟨[.fd (.int .i64)],[PS.b0]⟩,false,[],[]⟩
abbrev Ee.p7:Cut:=⟨[[0,0,1,1,1],[0,1,1,1,1]],[0,3],2,⟨[.al 0 0,.al 1 0],[PS.b0,⟨1,89,[.st 5],false⟩]⟩⟩
abbrev Ee.aB:Cut:=⟨[[0,1,1,1,1,0,1,1,1,1,1,0,0,1,1],[1,0],[0,1,1,1]],[0,3],2,⟨[.al 0 0,.al 1 0],[PS.b0,⟨1,89,[.st 5],false⟩]⟩⟩
abbrev Ee.p6:Cut:=⟨[[0,0,1,1,1,0,1,1,1,1,1,1,1,1,1,1,1,1,1,1,1,1,1,1,1,1,1,1,1,1,1,0,0,1,1],[0,1,1,1,1,0,1,1,1,1,1,1,1,1,1,1,1,1,1,1,1,1,1,1,1,1,1,1,1,1,1,0,0,1,1],[1,0],[0,1,1,1]],[0,3,4],2,⟨[.al 0 0,.al 1 0,.fd (.int .i64)],[PS.b0,⟨1,89,[.st 5],false⟩]⟩⟩
def Ee.p:Aj:=⟨[(64,Ee.p7),(13,Ee.aB),(53,Ee.p6)],1,⟨[.al 0 0],[PS.b0]⟩,⟨[.fd (.int .i64)],[PS.b0]⟩,false,[],[]⟩
theorem Ee.ok:AH Dop.D4 prog 144 Ee.p=true:=by kernel_rfl
abbrev FY.T:Type:=(((Unit×Unit)×(PS×Unit))->Option ((Int×Unit)×(PS×Unit)))×(((Unit×Unit)×(PS×Unit))->Option ((Int×Unit)×(PS×Unit)))×(((Unit×Unit×Unit)×(PS×Unit))->Option ((Int×Unit)×(PS×Unit)))×(((Unit×Unit)×(PS×Unit))->Option ((Int×Unit)×(PS×Unit)))×Unit
noncomputable def FY.ct (r:FY.T):List (BU Dop.D4):=[⟨86,FE.p.bn,FE.p.sp,FE.p.rs,FE.p.flat,.opt (r.1)⟩,⟨119,Ga.p.bn,Ga.p.sp,Ga.p.rs,Ga.p.flat,.opt (r.2.1)⟩,⟨143,BQ.p.bn,BQ.p.sp,BQ.p.rs,BQ.p.flat,.opt (r.2.2.1)⟩,⟨144,Ee.p.bn,Ee.p.sp,Ee.p.rs,Ee.p.flat,.opt (r.2.2.2.1)⟩]
abbrev Oh.q7:Cut:=⟨[[0,0,0,0,0,0,1,1,1,1,0,1,0,1,1],[0,1,0,0,0,0,1,1,1,1,0,1,0,1,1],[0,1,0,0,0,1,1,1,1,0,1,0,1,1],[2,0,0,0,1,1,1,1,0,1,0,1,1],[1,0],[0,1,1,1,1,1,0,1,0,1,1],[0,1,1,1]],[0,3,4],2,⟨[.al 0 0,.al 1 0,.own 0 3],[PS.b0,⟨1,89,[.st 5],false⟩]⟩⟩
abbrev Oh.mm:Cut:=⟨[[0,0,0,0,0,0,1,0,1,0,1,1,1,1,1],[0,1,0,0,0,0,1,0,1,0,1,1,1,1,1],[0,1,0,0,0,1,0,1,0,1,1,1,1,1],[2,0,0,0,1,0,1,0,1,1,1,1,1],[1,2],[0,1,1,0,1,0,1,1,1,1,1],[0,1,1,1,1,1,1]],[0,3,7],2,⟨[.al 0 0,.al 1 0,.own 0 3],[PS.b0,⟨1,89,[.st 5],false⟩]⟩⟩
def Oh.p:Aj:=⟨[(7,Oh.q7),(21,Oh.mm)],1,⟨[.al 0 0],[PS.b0]⟩,⟨[.fd (.int .i64)],[PS.b0]⟩,false,[(2,⟨[(0,true),(1,false),(2,true),(3,true),(4,true),(5,true),(6,false),(7,true),(8,true),(9,true),(10,true),(11,false),(12,false),(13,true),(14,true),(15,true),(16,true),(17,true),(18,true),(19,false),(20,true),(21,true),(22,true),(23,false),(24,true),(25,false),(26,false),(27,false),(28,true),(29,true)],[1000000],[0,1,3,7,15,31,63,127,7,263,775,1799,3847,8191,16383,32767,65535,131071,262143,524287,65535,1114111,3211263,7405567,15794175,33554431,67108863,134217727,268435455,536870911],false⟩),(18,⟨[(0,true),(1,false),(2,true),(3,false),(4,true),(5,false),(6,true),(7,false),(8,true)],[9,1000003],[0,1,0,4,0,16,51,115,255,511],false⟩)],[]⟩
theorem Oh.ok:AH Dop.D4 prog 45 Oh.p=true:=by kernel_rfl
abbrev m20.q3:Cut:=⟨[[0,0,0,0,0,1,0,1,1],[0,1,0,0,0,1,0,1,1],[0,1,0,0,1,0,1,1],[2,0,0,1,0,1,1],[1,0],[0,1,1,1]],[2,5,6],2,⟨[.al 0 0,.al 1 0,.fd (.int .i64)],[⟨0,54,[.own 5 89,.own 6 111,.fd (.int .i64)],false⟩,PS.b1]⟩⟩
abbrev m20.q7:Cut:=⟨[[0,0,0,0,0,0,1,1,1,1],[0,1,0,0,0,0,1,1,1,1],[0,1,0,0,0,1,1,1,1],[2,0,0,0,1,1,1,1],[1,2],[0,1,1,1,1,1]],[2,5,7],2,⟨[.al 0 0,.al 1 0,.own 0 3],[⟨0,54,[.own 5 89,.own 6 111,.fd (.int .i64)],false⟩,PS.b1]⟩⟩
def m20.p:Aj:=⟨[(3,m20.q3),(7,m20.q7)],0,⟨[.fd (.sl 4)],[]⟩,⟨[.st 7,.fd (.int .i64),.fd (.int .i64)],[]⟩,false,[(11,⟨[(0,true),(1,true),(2,true),(3,true),(4,false),(5,true),(6,true),(7,true),(8,false),(9,false),(10,true),(11,true)],[1000002],[0,0,2,6,14,0,32,96,224,1,543,2047],false⟩)],[]⟩
theorem m20.ok:AH Dop.D4 prog 29 m20.p=true:=by kernel_rfl
def V7.p:Aj:=⟨[],0,⟨[.fd .str],[]⟩,⟨[.st 7,.fd (.int .i64),.fd (.int .i64)],[]⟩,false,[],[]⟩
theorem V7.ok:AH Dop.D4 prog 16 V7.p=true:=by kernel_rfl
end Go.Proofs.Tryz
