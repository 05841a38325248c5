/- What the boxes of some types hold: as one, with names of the parts. Written by a program. -/
import Derived.Test.YtkpggdcpaeanaaaGreatDoorMi
import Derived.Test.YtkpggdcpaeanaaaGreatDoorLb
import Derived.Test.YtkpggdcpaeanaaaGreatDoorMh
namespace Go.Proofs
open Go Go.En
abbrev PS:Type:=List (En.Dop.Tok)×Int×List (En.Dop.Aa)×List (En.Dop.Gr)×Int×Int×Int×Int×Unit
@[reducible] def PS.l (k:PS):List (En.Dop.Tok):=k.1
@[reducible] def PS.at_ (k:PS):Int:=k.2.1
@[reducible] def PS.S5 (k:PS) (v:Int):PS:=(k.1,v,k.2.2)
@[reducible] def PS.nodes (k:PS):List (En.Dop.Aa):=k.2.2.1
@[reducible] def PS.Ei (k:PS) (v:List (En.Dop.Aa)):PS:=(k.1,k.2.1,v,k.2.2.2)
@[reducible] def PS.types (k:PS):List (En.Dop.Gr):=k.2.2.2.1
@[reducible] def PS.S6 (k:PS) (v:List (En.Dop.Gr)):PS:=(k.1,k.2.1,k.2.2.1,v,k.2.2.2.2)
@[reducible] def PS.top (k:PS):Int:=k.2.2.2.2.1
@[reducible] def PS.deep (k:PS):Int:=k.2.2.2.2.2.1
@[reducible] def PS.e (k:PS):Int:=k.2.2.2.2.2.2.1
@[reducible] def PS.Wr (k:PS) (v:Int):PS:=(k.1,k.2.1,k.2.2.1,k.2.2.2.1,k.2.2.2.2.1,k.2.2.2.2.2.1,v,k.2.2.2.2.2.2.2)
@[reducible] def PS.when (k:PS):Int:=k.2.2.2.2.2.2.2.1
@[reducible] def PS.E7 (k:PS) (v:Int):PS:=(k.1,k.2.1,k.2.2.1,k.2.2.2.1,k.2.2.2.2.1,k.2.2.2.2.2.1,k.2.2.2.2.2.2.1,v,k.2.2.2.2.2.2.2.2)
@[reducible] def PS.b0:En.HO:=⟨0,91,[.fd (.sl 4),.st 0,.own 5 56,.own 6 93,.st 0,.st 0,.fd (.int .i64),.st 0],false⟩
@[reducible] def PS.b1:En.HO:=⟨1,91,[.fd (.sl 4),.st 0,.own 5 56,.own 6 93,.st 0,.st 0,.fd (.int .i64),.st 0],false⟩
end Go.Proofs
/- Functions of the seat, lifted: plan, model, contract, equations. Written by a program (Lift) that ran the layer's evaluation; Lean checks each line. -/
set_option maxRecDepth 100000
set_option maxHeartbeats 4000000
namespace Go.Proofs.Tryz
open Go Go.En
def KB.p:Ak:=⟨[],1,⟨[.al 0 0],[PS.b0]⟩,⟨[.fd (.int .i64)],[PS.b0]⟩,false,[(3,⟨[(0,true),(1,true),(2,true),(3,false),(4,true),(5,true),(6,true),(7,false),(8,false),(9,true),(10,false),(11,false),(12,false)],[13],[0,1,3,7,0,16,48,112,240,496,1023,2047,0,8191],false⟩)],[]⟩
noncomputable def KB.E:Env Dop.D4:=Az prog 89 tb [] KB.p
theorem KB.ok:AH Dop.D4 prog 89 KB.p=true:=by kernel_rfl
noncomputable def KB.c:Bw Dop.D4:=⟨89,KB.p.bn,KB.p.sp,KB.p.rs,KB.p.flat,.opt (KB.E.run 3000 KB.p.sp)⟩
theorem KB.holds:KB.c.Holds prog:=Ef 3000 AJ Bb KB.ok
def ES.p:Ak:=⟨[],1,⟨[.al 0 0],[PS.b0]⟩,⟨[.st 4],[PS.b0]⟩,false,[(1,⟨[(0,true),(1,true),(2,true),(3,false),(4,true),(5,true),(6,true),(7,true),(8,true),(9,false),(10,true),(11,true),(12,true),(13,false),(14,false),(15,true),(16,true)],[],[0,1,3,7,15,31,63,127,255,511,63,1087,3135,7231,15423,32767,65535],false⟩),(3,⟨[(0,true),(1,true),(2,true),(3,false),(4,true),(5,true),(6,true),(7,false),(8,false),(9,false)],[10],[0,1,3,7,0,16,48,112,255,511,1023],false⟩)],[]⟩
noncomputable def ES.E:Env Dop.D4:=Az prog 45 tb [KB.c] ES.p
theorem ES.ok:AH Dop.D4 prog 45 ES.p=true:=by kernel_rfl
noncomputable def ES.c:Bw Dop.D4:=⟨45,ES.p.bn,ES.p.sp,ES.p.rs,ES.p.flat,.opt (ES.E.run 3000 ES.p.sp)⟩
theorem ES.holds:ES.c.Holds prog:=Ef 3000 AJ (Af KB.holds Bb) ES.ok
def FA.p:Ak:=⟨[],0,⟨[.fd (.int .i64),.fd (.int .i64)],[]⟩,⟨[.st 5],[]⟩,true,[],[]⟩
noncomputable def FA.E:Env Dop.D4:=Az prog 90 tb [] FA.p
theorem FA.ok:AH Dop.D4 prog 90 FA.p=true:=by kernel_rfl
noncomputable def FA.c:Bw Dop.D4:=⟨90,FA.p.bn,FA.p.sp,FA.p.rs,FA.p.flat,.opt (FA.E.run 3000 FA.p.sp)⟩
theorem FA.holds:FA.c.Holds prog:=Ef 3000 AJ Bb FA.ok
def Lz.p:Ak:=⟨[],1,⟨[.al 0 0,.fd .str],[PS.b0]⟩,⟨[.fd .bool],[PS.b0]⟩,false,[],[]⟩
theorem Lz.ok:AH Dop.D4 prog 91 Lz.p=true:=by kernel_rfl
def Cn.p:Ak:=⟨[],1,⟨[.al 0 0,.fd .str],[PS.b0]⟩,⟨[.fd .bool],[PS.b0]⟩,false,[],[]⟩
theorem Cn.ok:AH Dop.D4 prog 94 Cn.p=true:=by kernel_rfl
def BY.p:Ak:=⟨[],1,⟨[.al 0 0,.fd (.int .i64)],[PS.b0]⟩,⟨[],[PS.b0]⟩,false,[],[]⟩
noncomputable def BY.E:Env Dop.D4:=Az prog 142 tb [ES.c] BY.p
theorem BY.ok:AH Dop.D4 prog 142 BY.p=true:=by kernel_rfl
noncomputable def BY.c:Bw Dop.D4:=⟨142,BY.p.bn,BY.p.sp,BY.p.rs,BY.p.flat,.opt (BY.E.run 3000 BY.p.sp)⟩
theorem BY.holds:BY.c.Holds prog:=Ef 3000 AJ (Af ES.holds Bb) BY.ok
noncomputable def BY (e:Int) (k0:PS):Option (Unit×(PS×Unit)):=BY.E.run 3000 BY.p.sp (((),e,()),(k0,()))
def DE.p:Ak:=⟨[],1,⟨[.al 0 0,.fd .str],[PS.b0]⟩,⟨[],[PS.b0]⟩,false,[],[]⟩
theorem DE.ok:AH Dop.D4 prog 92 DE.p=true:=by kernel_rfl
def Hk.p:Ak:=⟨[],1,⟨[.al 0 0,.fd (.int .i64)],[PS.b0]⟩,⟨[.st 4],[PS.b0]⟩,false,[],[]⟩
theorem Hk.ok:AH Dop.D4 prog 93 Hk.p=true:=by kernel_rfl
@[reducible] def Dd.q2:Cut:=⟨[[0,0,0,0,1,0,1],[0,1,0,0,1,0,1],[2,0,0,1,0,1],[1,0],[0,1,1]],[0,3,7,8],1,⟨[.fd (.sl 6),.al 0 0,.fd (.int .i64),.fd (.int .i64)],[⟨0,93,[.st 6],false⟩]⟩⟩
def Dd.p:Ak:=⟨[(2,Dd.q2)],0,⟨[.fd (.sl 6),.st 6],[]⟩,⟨[.fd (.int .i64)],[]⟩,true,[(4,⟨[(0,false),(1,true),(2,true),(3,false),(4,false),(5,true)],[],[0,0,0,6,14,31],false⟩)],[]⟩
theorem Dd.ok:AH Dop.D4 prog 179 Dd.p=true:=by kernel_rfl
def Iz.p:Ak:=⟨[],1,⟨[.al 0 0,.st 6],[PS.b0]⟩,⟨[.fd (.int .i64)],[PS.b0]⟩,false,[(1,⟨[(0,true),(1,true),(2,true),(3,true),(4,false),(5,false),(6,false),(7,true)],[],[0,1,3,7,15,0,63,127],true⟩),(7,⟨[(0,true),(1,true),(2,true),(3,true),(4,true),(5,false),(6,false),(7,false)],[8,9,10,11,12],[0,0,2,6,14,30,0,64,254,511,1023,2047,4095],false⟩)],[]⟩
theorem Iz.ok:AH Dop.D4 prog 144 Iz.p=true:=by kernel_rfl
@[reducible] def DD.ZD:Cut:=⟨[[0,0,0,0,0,0,1,1,1],[0,1,0,0,0,0,1,1,1],[0,1,0,0,0,1,1,1],[2,0,0,0,1,1,1],[1,1],[0,1,1,1,1]],[0,3],1,⟨[.al 0 0,.fd (.int .i64)],[PS.b0]⟩⟩
def DD.p:Ak:=⟨[(11,DD.ZD)],1,⟨[.al 0 0],[PS.b0]⟩,⟨[.fd (.int .i64)],[PS.b0]⟩,false,[],[]⟩
theorem DD.ok:AH Dop.D4 prog 143 DD.p=true:=by kernel_rfl
def Pt.p:Ak:=⟨[],1,⟨[.al 0 0],[PS.b0]⟩,⟨[.st 5],[PS.b0]⟩,false,[],[]⟩
theorem Pt.ok:AH Dop.D4 prog 95 Pt.p=true:=by kernel_rfl
def OZ.p:Ak:=⟨[],1,⟨[.al 0 0,.fd (.int .i64)],[PS.b0]⟩,⟨[.fd (.int .i64)],[PS.b0]⟩,false,[],[]⟩
theorem OZ.ok:AH Dop.D4 prog 96 OZ.p=true:=by kernel_rfl
def Co.p:Ak:=⟨[],1,⟨[.al 0 0,.st 5],[PS.b0]⟩,⟨[.fd (.int .i64)],[PS.b0]⟩,false,[(5,⟨[(0,true),(1,true),(2,true),(3,true),(4,true),(5,false),(6,false),(7,false)],[8,9,10,11,12],[0,0,2,6,14,30,0,64,254,511,1023,2047,4095],false⟩)],[]⟩
noncomputable def Co.E:Env Dop.D4:=Az prog 97 tb [BY.c] Co.p
theorem Co.ok:AH Dop.D4 prog 97 Co.p=true:=by kernel_rfl
noncomputable def Co.c:Bw Dop.D4:=⟨97,Co.p.bn,Co.p.sp,Co.p.rs,Co.p.flat,.opt (Co.E.run 3000 Co.p.sp)⟩
theorem Co.holds:Co.c.Holds prog:=Ef 3000 AJ (Af BY.holds Bb) Co.ok
def Gk.p:Ak:=⟨[],1,⟨[.al 0 0,.fd (.int .i64)],[PS.b0]⟩,⟨[.fd (.int .i64)],[PS.b0]⟩,false,[],[]⟩
noncomputable def Gk.E:Env Dop.D4:=Az prog 100 tb [] Gk.p
theorem Gk.ok:AH Dop.D4 prog 100 Gk.p=true:=by kernel_rfl
noncomputable def Gk.c:Bw Dop.D4:=⟨100,Gk.p.bn,Gk.p.sp,Gk.p.rs,Gk.p.flat,.opt (Gk.E.run 3000 Gk.p.sp)⟩
theorem Gk.holds:Gk.c.Holds prog:=Ef 3000 AJ Bb Gk.ok
def Lp.p:Ak:=⟨[],0,⟨[.st 7,.fd (.int .i64)],[]⟩,⟨[.st 5],[]⟩,true,[],[]⟩
theorem Lp.ok:AH Dop.D4 prog 120 Lp.p=true:=by kernel_rfl
@[reducible] def F5.q3:Cut:=⟨[[0,0,0,0,1,0,1,1],[0,1,0,0,1,0,1,1],[2,0,0,1,0,1,1],[1,0],[0,1,1,1]],[1,2,5,9,10],1,⟨[.fd (.int .i64),.al 0 0,.own 0 3,.fd (.int .i64),.fd (.int .i64)],[⟨0,41,[.st 7],false⟩]⟩⟩
def F5.p:Ak:=⟨[(3,F5.q3)],0,⟨[.st 7,.fd (.int .i64)],[]⟩,⟨[.own 0 3],[]⟩,true,[],[]⟩
theorem F5.ok:AH Dop.D4 prog 73 F5.p=true:=by kernel_rfl
def Lu.p:Ak:=⟨[],1,⟨[.al 0 0],[PS.b0]⟩,⟨[.fd .bool],[PS.b0]⟩,false,[],[]⟩
theorem Lu.ok:AH Dop.D4 prog 204 Lu.p=true:=by kernel_rfl
@[reducible] def JL.q2:Cut:=⟨[[0,0,0,0,0,0,1,1,0,1],[0,1,0,0,0,0,1,1,0,1],[0,1,0,0,0,1,1,0,1],[2,0,0,0,1,1,0,1],[1,0],[0,1,1,1,0,1],[3,0,1]],[0,4],0,⟨[.fd .str,.fd (.int .i64)],[]⟩⟩
def JL.p:Ak:=⟨[(2,JL.q2)],0,⟨[.fd .str],[]⟩,⟨[.fd (.int .i64),.fd .bool],[]⟩,true,[],[]⟩
theorem JL.ok:AH Dop.D4 prog 43 JL.p=true:=by kernel_rfl
def To.p:Ak:=⟨[],0,⟨[.fd (.int .u8)],[]⟩,⟨[.fd .bool],[]⟩,true,[],[]⟩
theorem To.ok:AH Dop.D4 prog 82 To.p=true:=by kernel_rfl
def Tp.p:Ak:=⟨[],0,⟨[.fd (.int .u8)],[]⟩,⟨[.fd .bool],[]⟩,true,[],[]⟩
theorem Tp.ok:AH Dop.D4 prog 85 Tp.p=true:=by kernel_rfl
@[reducible] def I7.q2:Cut:=⟨[[0,0,0,0,0,0,1,1],[0,1,0,0,0,0,1,1],[0,1,0,0,0,1,1],[2,0,0,0,1,1],[1,0],[0,1,1,1]],[0,3],0,⟨[.fd .str,.fd (.int .i64)],[]⟩⟩
def I7.p:Ak:=⟨[(2,I7.q2)],0,⟨[.fd .str],[]⟩,⟨[.fd (.int .i64)],[]⟩,true,[],[]⟩
theorem I7.ok:AH Dop.D4 prog 83 I7.p=true:=by kernel_rfl
def V0.p:Ak:=⟨[],0,⟨[.fd .str],[]⟩,⟨[.fd .bool],[]⟩,true,[],[]⟩
theorem V0.ok:AH Dop.D4 prog 84 V0.p=true:=by kernel_rfl
def RV.p:Ak:=⟨[],1,⟨[.fd (.int .i64),.fd (.int .i64),.fd (.int .i64),.al 0 0],[⟨0,9,[.st 1],false⟩]⟩,⟨[.st 4,.fd (.int .i64)],[⟨0,9,[.fd .str],false⟩]⟩,true,[],[]⟩
theorem RV.ok:AH Dop.D4 prog 81 RV.p=true:=by kernel_rfl
@[reducible] def JN.q9:Cut:=⟨[[0,0,0,0,1,0,1,1,1,1,1],[0,1,0,0,1,0,1,1,1,1,1],[2,0,0,1,0,1,1,1,1,1],[1,0],[0,1,1,1,1,1,1]],[0,5,6,34,35],0,⟨[.fd .str,.fd (.int .i64),.fd (.int .i64),.fd (.int .i64),.fd (.int .i64)],[]⟩⟩
def JN.p:Ak:=⟨[(9,JN.q9)],0,⟨[.fd .str],[]⟩,⟨[.fd (.int .i64),.fd .bool],[]⟩,true,[(6,⟨[(0,true),(2,true)],[1,3],[0,1,0,7],false⟩)],[]⟩
theorem JN.ok:AH Dop.D4 prog 86 JN.p=true:=by kernel_rfl
def V1.p:Ak:=⟨[],0,⟨[.fd .str],[]⟩,⟨[.fd (.int .i64),.fd (.int .i64)],[]⟩,true,[],[]⟩
theorem V1.ok:AH Dop.D4 prog 87 V1.p=true:=by kernel_rfl
def Lq.p:Ak:=⟨[],0,⟨[],[]⟩,⟨[.own 1 9],[]⟩,true,[],[]⟩
theorem Lq.ok:AH Dop.D4 prog 141 Lq.p=true:=by kernel_rfl
@[reducible] def JO.q2:Cut:=⟨[[0,0,0,0,1,0,1],[0,1,0,0,1,0,1],[2,0,0,1,0,1],[1,0],[0,1,1]],[0,5,6,7],0,⟨[.fd .str,.own 1 9,.fd (.int .i64),.fd (.int .i64)],[]⟩⟩
def JO.p:Ak:=⟨[(2,JO.q2)],0,⟨[.fd .str],[]⟩,⟨[.fd .str],[]⟩,true,[],[]⟩
theorem JO.ok:AH Dop.D4 prog 88 JO.p=true:=by kernel_rfl
def Vy.p:Ak:=⟨[],0,⟨[.fd .str],[]⟩,⟨[.st 4,.fd (.int .i64)],[]⟩,true,[],[]⟩
theorem Vy.ok:AH Dop.D4 prog 44 Vy.p=true:=by kernel_rfl
@[reducible] def m19.q5:Cut:=⟨[[0,0,0,0,0,1,1,1,1],[0,1,0,0,0,1,1,1,1],[1,1],[2,0,0,1,1,1,1],[1,0]],[0,5,6],0,⟨[.fd .str,.own 4 38,.fd (.int .i64)],[]⟩⟩
def m19.p:Ak:=⟨[(5,m19.q5)],0,⟨[.fd .str],[]⟩,⟨[.own 4 38,.fd (.int .i64),.fd (.int .i64)],[]⟩,true,[],[]⟩
theorem m19.ok:AH Dop.D4 prog 19 m19.p=true:=by kernel_rfl
end Go.Proofs.Tryz
/- Functions of the seat, lifted: plan, model, contract, equations. Written by a program (Lift) that ran the layer's evaluation; Lean checks each line. -/
set_option maxRecDepth 100000
set_option maxHeartbeats 4000000
namespace Go.Proofs.Tryz
open Go Go.En
def Ly.p:Ak:=⟨[],1,⟨[.al 0 0],[⟨0,91,[.fd (.sl 4),.st 0,.hd,.hd,.st 0,.st 0,.fd (.int .i64),.st 0],false⟩]⟩,⟨[.fd (.int .i64)],[⟨0,91,[.fd (.sl 4),.fd (.int .i64),.hd,.hd,.fd (.int .i64),.fd (.int .i64),.fd (.int .i64),.fd (.int .i64)],false⟩]⟩,false,[(3,⟨[(0,true),(1,true),(2,true),(3,false),(4,true),(5,true),(6,true),(7,false),(8,false),(9,true),(10,false),(11,false),(12,false)],[13],[0,1,3,7,0,16,48,112,240,496,1023,2047,0,8191],false⟩)],[]⟩
theorem Ly.ok:AH Dop.D4 prog 89 Ly.p=true:=by kernel_rfl
def Lx.p:Ak:=⟨[],1,⟨[.al 0 0],[⟨0,91,[.fd (.sl 4),.st 0,.hd,.hd,.st 0,.st 0,.fd (.int .i64),.st 0],false⟩]⟩,⟨[.st 4],[⟨0,91,[.fd (.sl 4),.fd (.int .i64),.hd,.hd,.fd (.int .i64),.fd (.int .i64),.fd (.int .i64),.fd (.int .i64)],false⟩]⟩,false,[(1,⟨[(0,true),(1,true),(2,true),(3,false),(4,true),(5,true),(6,true),(7,true),(8,true),(9,false),(10,true),(11,true),(12,true),(13,false),(14,false),(15,true),(16,true)],[],[0,1,3,7,15,31,63,127,255,511,63,1087,3135,7231,15423,32767,65535],false⟩),(3,⟨[(0,true),(1,true),(2,true),(3,false),(4,true),(5,true),(6,true),(7,false),(8,false),(9,false)],[10],[0,1,3,7,0,16,48,112,255,511,1023],false⟩)],[]⟩
theorem Lx.ok:AH Dop.D4 prog 45 Lx.p=true:=by kernel_rfl
def IH.p:Ak:=⟨[],1,⟨[.al 0 0,.fd .str],[⟨0,91,[.fd (.sl 4),.st 0,.hd,.hd,.st 0,.st 0,.fd (.int .i64),.st 0],false⟩]⟩,⟨[.fd .bool],[⟨0,91,[.fd (.sl 4),.fd (.int .i64),.hd,.hd,.fd (.int .i64),.fd (.int .i64),.fd (.int .i64),.fd (.int .i64)],false⟩]⟩,false,[],[]⟩
theorem IH.ok:AH Dop.D4 prog 91 IH.p=true:=by kernel_rfl
def G6.p:Ak:=⟨[],1,⟨[.al 0 0],[⟨0,91,[.fd (.sl 4),.st 0,.hd,.hd,.st 0,.st 0,.fd (.int .i64),.st 0],false⟩]⟩,⟨[.fd .bool],[⟨0,91,[.fd (.sl 4),.fd (.int .i64),.hd,.hd,.fd (.int .i64),.fd (.int .i64),.fd (.int .i64),.fd (.int .i64)],false⟩]⟩,false,[],[]⟩
theorem G6.ok:AH Dop.D4 prog 204 G6.p=true:=by kernel_rfl
end Go.Proofs.Tryz
/- parser.list: a range over slices.Backward, as a contract. -/
set_option maxRecDepth 100000
namespace Go.Proofs
open Go Go.En Go.RowKit
@[reducible] def Rj:HO:=⟨0,91,[.fd (.sl 4),.fd (.int .i64),.own 5 56,.own 6 93,.fd (.int .i64),.fd (.int .i64),.fd (.int .i64),.fd (.int .i64)],false⟩
def Tryz.Bj.p:Ak:=⟨[],1,⟨[.al 0 0,.fd (.sl 0)],[Rj]⟩,⟨[.fd (.int .i64)],[Rj]⟩,false,[(5,⟨[(0,true),(1,false),(2,true),(3,false),(4,true)],[5,1000008],[0,0,1,5,15,31],false⟩)],[(99,[])]⟩
noncomputable def Tryz.Bj.E:Env En.Dop.D4:=Az Tryz.prog 47 Tryz.tb [Tryz.Gk.c,Tryz.FA.c,Tryz.Co.c] Tryz.Bj.p
theorem Tryz.Bj.ok:AH En.Dop.D4 Tryz.prog 47 Tryz.Bj.p=true:=by kernel_rfl
noncomputable def BB (body:Code) (a:List Nat):Code:=match Gn body a with
 | some c=>c
 | none=>.skip
@[reducible] def IW:En.Spec:=⟨[],[Rj,⟨1,89,[.al 0 0],false⟩,⟨2,3,[.fd (.int .i64)],false⟩]⟩
@[reducible] def fm:En.Spec:=⟨[.al 1 0,.al 2 0,.fd (.int .i64)],[Rj,⟨1,89,[.al 0 0],false⟩,⟨2,3,[.fd (.int .i64)],false⟩]⟩
noncomputable def Tryz.Bj.step (x:Int) (y:En.Spec.D En.Dop.D4 IW):Option (En.Spec.D En.Dop.D4 IW):=
 (SA Tryz.Bj.E 3000 [1,0,1,0,1,1] (BB (AM Tryz.prog 47) [1,0,1,0,1,1]) fm IW [2,5,7] 3 (((),(),x,()),y.2)).eval (fun _ _=>none)
@[reducible] noncomputable def fp:Code:=BB (AM Tryz.prog 47) [0,0,1,0,1,1]
@[reducible] noncomputable def gd:Code:=BB (AM Tryz.prog 47) [1,0,1,0,1,1]
@[reducible] noncomputable def fq:Code:=BB (AM Tryz.prog 47) [1,1,1]
noncomputable def Tryz.Bj.go:List Int→En.Spec.D En.Dop.D4 IW→Option (En.Spec.D En.Dop.D4 IW)
 | [],y=>some y
 | x::r,y=>(Tryz.Bj.step x y).bind (Tryz.Bj.go r)
theorem Tryz.Bj.H6: ∀ (l r:List Int) (y:En.Spec.D En.Dop.D4 IW),Tryz.Bj.go (l++r) y=(Tryz.Bj.go l y).bind (Tryz.Bj.go r)
 | [],r,y=>rfl
 | x::l,r,y=>by
  simp only [List.cons_append,Tryz.Bj.go]
  cases Tryz.Bj.step x y with
  | none=>rfl
  | some z=>exact Tryz.Bj.H6 l r z
noncomputable def Tryz.Bj.R (x:En.Spec.D En.Dop.D4 Tryz.Bj.p.sp):Option (En.Spec.D En.Dop.D4 Tryz.Bj.p.rs):=
 match decide (x.1.2.1.length<9223372036854775807) with
 | true=>(Tryz.Bj.go x.1.2.1.reverse ((),(x.2.1,((),()),(-1,()),()))).bind fun y=>some ((y.2.2.2.1.1,()),(y.2.1,()))
 | false=>none
noncomputable def Tryz.Bj.c:Bw En.Dop.D4:=⟨47,Tryz.Bj.p.bn,Tryz.Bj.p.sp,Tryz.Bj.p.rs,Tryz.Bj.p.flat,.opt Tryz.Bj.R⟩
noncomputable def eK (l:List Int) (x:En.Spec.D En.Dop.D4 ⟨[],[Rj]⟩):St En.Dop.D4:=match En.Spec.enc (S:=En.Dop.D4) ⟨[.al 0 0,.fd (.sl 0)],[Rj]⟩ (((),l,()),x.2) 1 with
 | (_,o,_)=>⟨[(0,.ptr 0 0),(1,.h 1),(2,.ptr 5 0),(4,.v (.int .i64 0)),(5,.ptr 6 0),(9,.h 1),(10,.fn 146 [.ptr 7 0])],(7,.AN 66 [.h 1])::(6,.AN 3 [.v (.int .i64 (-1))])::(5,.AN 89 [.ptr 0 0])::o,8,25⟩
theorem Tryz.Bj.part (l:List Int) (x:En.Spec.D En.Dop.D4 ⟨[],[Rj]⟩) (vs:List SV) (o:List (Nat×En.Own En.Dop.D4)) (n:Nat) (h:En.Spec.enc (S:=En.Dop.D4) ⟨[.al 0 0,.fd (.sl 0)],[Rj]⟩ (((),l,()),x.2) 1=(vs,o,n)):
  NP Tryz.Bj.E 3000 [.code [] (AM Tryz.prog 47)] ⟨A0 0 vs,o,n,25⟩=.ret ([.code [0,1,0,1,1] (.rangeFunc (.tmp 10) #[11,12] fp gd),.AN 0,.code [1,1,1] fq],eK l x):=by
 cases h
 kernel_rfl
noncomputable def Wk:Oper:=match fp with
 | .region _ ⟨o::_⟩ _=>o
 | _=>default
theorem bz:fp=.region 3 #[Wk] false:=by kernel_rfl
theorem S3:Wk.op=.assign (.tmp 12):=by kernel_rfl
theorem ML:Wk.dst=some 7:=by kernel_rfl
theorem Rm:Wk.guard=none:=by kernel_rfl
noncomputable def Wl:Array Oper:=match fq with
 | .seq (.region _ o _) _=>o
 | _=>#[]
theorem cA:fq=.seq (.region 7 Wl false) .ret:=by kernel_rfl
theorem b9:Gn (AM Tryz.prog 47) [1,0,1,0,1,1]=some gd:=by kernel_rfl
theorem eW:L9 (AM Tryz.prog 47)=true:=by kernel_rfl
theorem SC (l:List Int):(bwd l).map Prod.snd=l.reverse:=by
 apply List.ext_getElem
 ·simp [bwd,upto]
 ·intro i h1 h2
  have h3:i<l.length:=by simpa using h2
  simp [bwd,upto,List.getElem_reverse,List.getElem?_eq_getElem (show l.length -1 -i<l.length by omega)]
theorem Uq (l:List Int):En.Dop.D4.flat 0 l=l.map fun n=>FC.int .i64 n:=by
 induction l with
 | nil=>rfl
 | cons x r ih=>exact congrArg (FC.int .i64 x::·) ih
theorem QC {w:World} {D:Nat→Prop} {l:List Int} {v:Value} (h:Am En.Dop.D4 w D (.sl 0 l) v):(l=[]∧ ∃ a c,v=.slice a 0 c)∨ ∃ b off cap,v=.slice (some ⟨b,off,none⟩) l.length cap∧D b∧ ∀ j,j<l.length→w.cell? ⟨b,off+j,none⟩=some (.int .i64 (l[j]?.getD 0)):=by
 cases h with
 | nil σ a c=>exact .inl ⟨rfl,a,c,rfl⟩
 | sl σ l b off c vs hb hlc hc hv=>
  refine .inr ⟨b,off,c,rfl,hb,fun j hj=>?_⟩
  have hf:(En.Dop.D4.flat 0 l)[j]?=some (.int .i64 l[j]):=by rw [Uq];simp [hj]
  rw [hc j _ hf]
  have:=hv j _ hf
  cases hvj:vs j<;>rw [hvj] at this<;>cases this
  simp [hj]
theorem Vv (l:List Int) (x:En.Spec.D En.Dop.D4 ⟨[],[Rj]⟩): ∃ ps,En.Spec.parse (S:=En.Dop.D4) ⟨[.al 1 0,.al 2 0],IW.bx⟩ true [.ptr 5 0,.ptr 6 0] (eK l x).o (PX 1) 3=some ((((),(),()),(x.2.1,((),()),(-1,()),())),ps)∧lk ps.o 7=some (.AN 66 [.h 1])∧ps.bl=[]∧lk ps.m 1=some 5∧lk ps.m 2=some 6∧lk ps.m 0=some 0:=
 ⟨⟨(7,.AN 66 [.h 1])::(2,.sl 4 x.2.1.1)::(1,.sl 0 l)::[],[(2,6),(1,5),(0,0)],[],3⟩,by kernel_rfl,by kernel_rfl,by kernel_rfl,by kernel_rfl,by kernel_rfl,by kernel_rfl⟩
theorem bP (y:En.Spec.D En.Dop.D4 IW):NP Tryz.Bj.E 3000 [.ops Wl Wl.toList] ⟨[(2,.ptr 1 0),(5,.ptr 2 0)],(IW.enc (S:=En.Dop.D4) y 3).2.1,(IW.enc (S:=En.Dop.D4) y 3).2.2,25⟩=
  .ret ([],⟨[(2,.ptr 1 0),(5,.ptr 2 0),(24,.v (.int .i64 y.2.2.2.1.1)),(4,.v (.int .i64 y.2.2.2.1.1))],(IW.enc (S:=En.Dop.D4) y 3).2.1,(IW.enc (S:=En.Dop.D4) y 3).2.2,25⟩):=by kernel_rfl
theorem bQ (y:En.Spec.D En.Dop.D4 IW): ∃ ps,En.Spec.parse (S:=En.Dop.D4) ⟨[.fd (.int .i64)],[Rj]⟩ true [.v (.int .i64 y.2.2.2.1.1)] (IW.enc (S:=En.Dop.D4) y 3).2.1 (PX 1) 1=some (((y.2.2.2.1.1,()),(y.2.1,())),ps)∧lk ps.m 0=some 0:=
 ⟨⟨(2,.AN 3 [.v (.int .i64 y.2.2.2.1.1)])::(1,.AN 89 [.ptr 0 0])::(3,.sl 4 y.2.1.1)::[],[(0,0)],[],1⟩,by kernel_rfl,by kernel_rfl⟩
end Go.Proofs
/- parser.list: its contract holds. -/
set_option maxRecDepth 100000
namespace Go.Proofs
open Go Go.En Go.RowKit
theorem gW:(Tryz.Bj.E).Ok Tryz.prog∧Bk Tryz.prog 47=true∧Tryz.Bj.p.sp.okB Tryz.Bj.p.bn=true∧ ∃ fn,Tryz.prog.funcs[47]?=some fn∧fn.body=some (AM Tryz.prog 47)∧fn.ntmps=25∧fn.results=#[.tmp 4]:=by
 obtain ⟨h1,h2,h3,fn,h4,h5,h6,h7⟩:=EZ (p:=Tryz.Bj.p) Tryz.AJ (Af Tryz.Gk.holds (Af Tryz.FA.holds (Af Tryz.Co.holds Bb))) Tryz.Bj.ok
 have e1:B6 Tryz.prog 47=25:=by kernel_rfl
 have e2:Cy Tryz.prog 47=[.tmp 4]:=by kernel_rfl
 refine ⟨h1,h2,h3,fn,h4,h5,h6.trans e1,?_⟩
 rw [e2] at h7
 rw [←h7]
theorem Tn {l:Nat} {x:Int×Int} {W:World} {a:Act} {K:Act→World→Prop} (hsz:a.tmps.size=25)
  (h: ∀ a':Act,a'.defers=[]→a'.tmps.size=25→(∀ t,t≠7→t≠11→t≠12→a'.tmps.getD t undef=a.tmps.getD t undef)→a'.tmps.getD 7 undef=.int .i64 x.2→K a' W):
  fp.wpIn (Fence.wide.inRound l) 0 Tryz.prog (Exit.then K (fun _ _ _=>False)) { tmps:=(#[11,12].zip #[Value.int .i64 x.1,Value.int .i64 x.2]).foldl (fun t (p,v)=>t.setIfInBounds p v) a.tmps,defers:=[] } W:=by
 rw [bz]
 refine C5 (.inr ⟨⟨l,rfl⟩,fun ⟨_,_,h⟩=>h,fun j o ho=>?_⟩) ?_
 ·cases j with
  | zero=>simp at ho;subst ho;unfold EY;rw [S3]
  | succ j=>simp at ho
 ·show wpList _ _ _ [Wk] _ _
  unfold wpList
  rw [if_pos (by simp [Region.wanted,Rm])]
  refine .inl (Ad (v:=.int .i64 x.2) (w':=W) ?_ ?_)
  ·simp [execOp,S3,Act.eval,hsz]
  ·refine h _ rfl (by simp [Act.put,ML,hsz]) (fun t h1 h2 h3=>?_) ?_
   ·simp [Act.put,ML,Array.getD_eq_getD_getElem?,Array.getElem?_setIfInBounds,Ne.symm h1,Ne.symm h2,Ne.symm h3]
   ·simp [Act.put,ML,Array.getD_eq_getD_getElem?,Array.getElem?_setIfInBounds,hsz]
def gX (w0 W:World) (F D0 K:Nat→Prop) (β2:Nat→Nm) (y0:En.Spec.D En.Dop.D4 IW) (pre:List (Int×Int)) (W':World):Prop:=
 ∃ y,Tryz.Bj.go (pre.map Prod.snd) y0=some y∧Mi w0 W F D0 K IW 3 β2 W.heap.size y W'
theorem YA {w0 W W':World} {F D0 K:Nat→Prop} {β2:Nat→Nm} {y0 yq:En.Spec.D En.Dop.D4 IW} (hkp:BJ En.Dop.D4 w0 F D0) {xs pre rest:List (Int×Int)} {x:Int×Int} (hgo:Tryz.Bj.go (xs.map Prod.snd) y0=some yq) (hxs:xs=pre++x::rest) (hI:gX w0 W F D0 K β2 y0 pre W')
  {a':Act} (hd:a'.defers=[]) (hsz:a'.tmps.size=25) (h2:a'.tmps.getD 2 undef=.pointer (some ⟨(β2 1).AN,0,none⟩)) (h5:a'.tmps.getD 5 undef=.pointer (some ⟨(β2 2).AN,0,none⟩)) (h7:a'.tmps.getD 7 undef=.int .i64 x.2) (l:Nat):
  gd.wpIn (Fence.wide.inRound l) 0 Tryz.prog (K3 W.heap.size (gX w0 W F D0 K β2 y0) (fun _ _ _=>False) (pre++[x]) W') a' W':=by
 obtain ⟨y,hy,D,β,vs,o,n,e1,e2,e3,e4,e5,e6,e7,e8,e9⟩:=hI
 obtain ⟨hE,_,_,_⟩:=gW
 have hst: ∃ y',Tryz.Bj.step x.2 y=some y':=by
  rw [hxs,List.map_append,Tryz.Bj.H6,hy] at hgo
  simp only [Option.bind_some,List.map_cons,Tryz.Bj.go] at hgo
  cases hs:Tryz.Bj.step x.2 y with
  | none=>rw [hs] at hgo;cases hgo
  | some y'=>exact ⟨y',rfl⟩
 obtain ⟨y',hy'⟩:=hst
 have he:fm.enc (S:=En.Dop.D4) (((),(),x.2,()),y.2) 3=([.ptr 1 0,.ptr 2 0,.v (.int .i64 x.2)],o,n):=by
  have h:fm.enc (S:=En.Dop.D4) (((),(),x.2,()),y.2) 3=([.ptr 1 0,.ptr 2 0,.v (.int .i64 x.2)],(IW.enc (S:=En.Dop.D4) y 3).2.1,(IW.enc (S:=En.Dop.D4) y 3).2.2):=by kernel_rfl
  rw [h,e1]
 refine SB hE (f0:=3000) (adr:=[1,0,1,0,1,1]) b9 eW (sp:=fm) (qe:=IW) (ts:=[2,5,7]) (bn:=3) (by kernel_rfl) (x:=(((),(),x.2,()),y.2)) (y:=y') hy' he e3.base ?_ e4 (e3.inv hkp) hd hsz ?_ (fun _ _ _ h=>h) (fun ⟨_,_,h⟩=>h) ?_ l
 ·simp only [BI,SV.on,and_true]
  omega
 ·intro j t v hj hv
  match j with
  | 0=>
   simp only [List.getElem?_cons_zero,Option.some.injEq] at hj hv;subst hj;subst hv
   exact ⟨by show 2<25;omega,by rw [h2,← e2 1 (by omega)];simp only [SV.den]⟩
  | 1=>
   simp only [List.getElem?_cons_succ,List.getElem?_cons_zero,Option.some.injEq] at hj hv;subst hj;subst hv
   exact ⟨by show 5<25;omega,by rw [h5,← e2 2 (by omega)];simp only [SV.den]⟩
  | 2=>
   simp only [List.getElem?_cons_succ,List.getElem?_cons_zero,Option.some.injEq] at hj hv;subst hj;subst hv
   exact ⟨by show 7<25;omega,by rw [h7];simp only [SV.den]⟩
  | j+3=>simp at hj
 ·intro a'' W'' D' β' vs' o' n' f1 f2 f3 f4
  obtain ⟨g1,g2⟩:=Mi.next e3 e2 e5 e6 e7 e8 e9 f1 f2 f3 f4
  refine ⟨g1,y',?_,g2⟩
  rw [List.map_append,Tryz.Bj.H6,hy]
  simp only [Option.bind_some,List.map_cons,List.map_nil,Tryz.Bj.go,hy']
theorem YB {w:World} {D:Nat→Prop} {β:Nat→Nm} {o0:List (Nat×En.Own En.Dop.D4)} (hkp:BJ En.Dop.D4 w (AG o0 β) D) {fn:Func} (hres:fn.results=#[.tmp 4]) {W W':World} {K:Nat→Prop} {β2:Nat→Nm} {yq:En.Spec.D En.Dop.D4 IW} (hβ:β2 0=β 0) (hm:Mi w W (AG o0 β) D K IW 3 β2 W.heap.size yq W')
  {a:Act} (hd:a.defers=[]) (hsz:a.tmps.size=25) (h2:a.tmps.getD 2 undef=.pointer (some ⟨(β2 1).AN,0,none⟩)) (h5:a.tmps.getD 5 undef=.pointer (some ⟨(β2 2).AN,0,none⟩)) (hK:W'.heap[W.heap.size]?=some (.deferred (some []))):
  fq.wpIn Fence.wide 0 Tryz.prog (II (bodyPostM Fence.wide 2 Tryz.prog fn (CX (S:=En.Dop.D4) Tryz.Bj.c ((yq.2.2.2.1.1,()),(yq.2.1,())) w D β o0))) { a with defers:={ target:=.collected W.heap.size,args:=#[] }::a.defers } W':=by
 obtain ⟨D',β',vs,o,n,e1,e2,e3,e4,e5,e6,e7,e8,e9⟩:=hm
 obtain ⟨hE,_,_,_⟩:=gW
 refine wpIn_wide.2 ?_
 rw [cA]
 refine wp_seq (wp_region_list ?_)
 have hkp':=e3.keeps hkp
 have ho:o=(IW.enc (S:=En.Dop.D4) yq 3).2.1:=by rw [e1]
 have hn:n=(IW.enc (S:=En.Dop.D4) yq 3).2.2:=by rw [e1]
 have hv:=JC hE (w0:=W') (F:=AG o β') (D0:=D') (bn:=3) (β0:=β') (f0:=3000) (k0:=[.ops Wl Wl.toList]) (s0:=⟨[(2,.ptr 1 0),(5,.ptr 2 0)],o,n,25⟩)
  (Q:=fun e a' w'=>match e with
   | .normal=>a'.defers=[]∧a'.tmps.getD 4 undef=.int .i64 yq.2.2.2.1.1∧ ∃ D2 β3,(∀ i,i<3→β3 i=β' i)∧GH W' (AG o β') D' D2 o (· <n) β3 w'
   | _=>False) hkp' (fun _ _ _ _ _ h=>h) e4 rfl (fun z hz=>by
    simp only [List.mem_cons,List.not_mem_nil,or_false] at hz
    subst hz;trivial) (by
   subst ho;subst hn
   rw [bP]
   intro _ _ D2 β3 a' w' hag hg
   refine ⟨hg.defers,by rw [hg.tmps 4 (.v (.int .i64 yq.2.2.2.1.1)) rfl];simp only [SV.den],D2,β3,hag,hg.gh⟩)
 have hl:=hv D' β' { a with defers:=[] } W' (fun _ _=>rfl) ⟨rfl,hsz,fun t x hx=>?_,fun t x hx=>?_,e3.base⟩
 ·simp only [List.map_cons,List.map_nil,BV.it,after] at hl
  have hl2:=C8 (ds:=[{ target:=.collected W.heap.size,args:=#[] }]) (Q':=Exit.then (Code.ret.wp Tryz.prog (II (bodyPostM Fence.wide 2 Tryz.prog fn (CX (S:=En.Dop.D4) Tryz.Bj.c ((yq.2.2.2.1.1,()),(yq.2.1,())) w D β o0)))) (II (bodyPostM Fence.wide 2 Tryz.prog fn (CX (S:=En.Dop.D4) Tryz.Bj.c ((yq.2.2.2.1.1,()),(yq.2.1,())) w D β o0)))) ?_ (fun _ _ _ h=>h.elim) (fun ⟨_,_,h⟩=>h) hl
  ·rw [hd];exact hl2
  ·rintro a' w' ⟨hd',hr,D2,β3,hag,hgh⟩
   refine wp_ret ?_
   obtain ⟨g1,g2⟩:=Mi.next e3 e2 e5 e6 e7 e8 e9 e1 hag hgh e4
   have hK':=(g1 W.heap.size (.inl rfl)).trans hK
   show LeavesInM _ _ _ _ _ _ _ _ _
   rw [hd']
   refine ⟨by simp,.inl ⟨_,_,rfl,run_takeDeferred hK',?_⟩⟩
   refine ⟨.int .i64 yq.2.2.2.1.1,by rw [←hr];exact results_tmp hres _ _ _,?_⟩
   obtain ⟨D4,β4,vs4,o4,n4,f1,f2,f3,f4,_⟩:=g2.S8 (.deferred none)
   rcases he:En.Spec.enc (S:=En.Dop.D4) ⟨[.fd (.int .i64)],[Rj]⟩ ((yq.2.2.2.1.1,()),(yq.2.1,())) 1 with ⟨rs,o5,n5⟩
   have ho4:o4=(IW.enc (S:=En.Dop.D4) yq 3).2.1:=by rw [f1]
   obtain ⟨ps,hps,hm0⟩:=bQ yq
   rw [←ho4] at hps
   obtain ⟨β5,b1,b2,b3,b4,b5,_⟩:=En.Spec.B1 f3 hps (by kernel_rfl) he
   have hrs:rs=[.v (.int .i64 yq.2.2.2.1.1)]:=by
    have h:En.Spec.enc (S:=En.Dop.D4) ⟨[.fd (.int .i64)],[Rj]⟩ ((yq.2.2.2.1.1,()),(yq.2.1,())) 1=([.v (.int .i64 yq.2.2.2.1.1)],(En.Spec.enc (S:=En.Dop.D4) ⟨[.fd (.int .i64)],[Rj]⟩ ((yq.2.2.2.1.1,()),(yq.2.1,())) 1).2.1,(En.Spec.enc (S:=En.Dop.D4) ⟨[.fd (.int .i64)],[Rj]⟩ ((yq.2.2.2.1.1,()),(yq.2.1,())) 1).2.2):=by kernel_rfl
    rw [he] at h
    exact (Prod.mk.inj h).1
   refine ⟨_,β5,rs,o5,n5,he,?_,fun i hi=>?_,b2,b4,b5⟩
   ·rw [hrs];simp only [Ap,SV.den]
   ·have hi0:i=0:=by have:i<1:=hi;omega
    subst hi0
    rw [b1 0 (by omega) 0 hm0,f2 0 (by omega),hβ]
 all_goals
  simp only [AI] at hx
  split at hx
  ·rename_i he;subst he;cases hx
   first
    | (refine ⟨by show 2<25;omega,?_⟩;simp only [SV.on];omega)
    | (rw [show ({ a with defers:=[] }:Act).tmps.getD 2 undef=a.tmps.getD 2 undef from rfl,h2,← e2 1 (by omega)];simp only [SV.den])
  ·split at hx
   ·rename_i he;subst he;cases hx
    first
     | (refine ⟨by show 5<25;omega,?_⟩;simp only [SV.on];omega)
     | (rw [show ({ a with defers:=[] }:Act).tmps.getD 5 undef=a.tmps.getD 5 undef from rfl,h5,← e2 2 (by omega)];simp only [SV.den])
   ·simp [AO] at hx
theorem Qs (args:Array Value) (w:World):(callFunc 146 args).run Tryz.prog w=.ok (.enter 146 args) w:=Ce (by kernel_rfl)
theorem Tryz.Bj.holds:Tryz.Bj.c.Holds Tryz.prog:=by
 obtain ⟨hE,hbod,hokB,fn,hf,hb,hn',hres⟩:=gW
 refine ⟨hbod,hokB,fun h=>(by cases h),fun x y hxy w D β vs o n he hg hon hn hiv=>?_⟩
 have hxy:Tryz.Bj.R x=some y:=hxy
 unfold Tryz.Bj.R at hxy
 split at hxy
 case h_2=>cases hxy
 rename_i hl
 have hl:=of_decide_eq_true hl
 obtain ⟨yq,hgo,hy⟩:=Option.bind_eq_some_iff.1 hxy
 cases hy
 have hkp:BJ En.Dop.D4 w (AG o β) D:=⟨hiv,fun k hk=>⟨hg.Cq k hk,fun ⟨i,b,hi,hik⟩=>hg.off i b k hi hik hk⟩⟩
 have hx:x=(((),x.1.2.1,()),x.2):=rfl
 have he':En.Spec.enc (S:=En.Dop.D4) ⟨[.al 0 0,.fd (.sl 0)],[Rj]⟩ (((),x.1.2.1,()),x.2) 1=(vs,o,n):=he
 have hlen:vs.length=2:=En.Spec.AR he
 refine VC.Q4 (M:=0+3000) (bn:=1) hf hb hn' (by omega) hon hg ?_
 refine JC hE hkp (fun _ _ _ _ _ h=>h) (k0:=[.code [] (AM Tryz.prog 47)]) (s0:=⟨A0 0 vs,o,n,25⟩) hn rfl (fun z hz=>by
  simp only [List.mem_cons,List.not_mem_nil,or_false] at hz
  subst hz;rfl) ?_
 rw [Tryz.Bj.part x.1.2.1 ((),x.2) vs o n he']
 intro _ _ D1 β1 a W hβ1 hg1
 simp only [List.map_cons,List.map_nil,BV.it,after]
 obtain ⟨ps,hps,hp7,hpbl,hm1,hm2,hm0⟩:=Vv x.1.2.1 ((),x.2)
 rcases hq:IW.enc (S:=En.Dop.D4) ((),(x.2.1,((),()),(-1,()),())) 3 with ⟨vq,o2,n2⟩
 have he2:En.Spec.enc (S:=En.Dop.D4) ⟨[.al 1 0,.al 2 0],IW.bx⟩ (((),(),()),(x.2.1,((),()),(-1,()),())) 3=([.ptr 1 0,.ptr 2 0],o2,n2):=by
  have h:En.Spec.enc (S:=En.Dop.D4) ⟨[.al 1 0,.al 2 0],IW.bx⟩ (((),(),()),(x.2.1,((),()),(-1,()),())) 3=([.ptr 1 0,.ptr 2 0],(IW.enc (S:=En.Dop.D4) ((),(x.2.1,((),()),(-1,()),())) 3).2.1,(IW.enc (S:=En.Dop.D4) ((),(x.2.1,((),()),(-1,()),())) 3).2.2):=by kernel_rfl
  rw [h,hq]
 obtain ⟨β2,b1,b2,_,_,b5,b6,b7,_,_⟩:=En.Spec.B1 hg1.gh hps (by kernel_rfl) he2
 have r1:=b1 1 (by omega) 5 hm1
 have r2:=b1 2 (by omega) 6 hm2
 have r0:=b1 0 (by omega) 0 hm0
 obtain ⟨Bs,hBs,hBh⟩:=hg1.gh.own 7 _ (show lk (eK x.1.2.1 ((),x.2)).o 7=some (.AN 66 [.h 1]) from rfl)
 obtain ⟨_,hrow⟩:=hg1.gh.own 1 _ (show lk (eK x.1.2.1 ((),x.2)).o 1=some (.sl 0 x.1.2.1) by kernel_rfl)
 have Au:(β1 7).AN=Bs:=by unfold Nm.AN;rw [hBs];rfl
 have hBs':Bs<W.heap.size:=(Array.getElem?_eq_some_iff.1 hBh).1
 have hgd:=b2.dM (r:=Bs) (fun i b hi hk=>b6 7 _ i b Bs hp7 (by rw [hpbl];simp) hi (Nm.Ea hBs) hk) hBs' (hg1.gh.fresh 7 _ Bs (show lk (eK x.1.2.1 ((),x.2)).o 7=some (.AN 66 [.h 1]) from rfl) (Nm.Ea hBs))
 have hrd: ∀ W':World,(∀ k,(Ex D1 β1 ps.bl k∨k=Bs)→W'.heap[k]?=W.heap[k]?)→ZG Bs x.1.2.1 W':=fun W' hs=>by
  have hc:W'.cell? ⟨Bs,0,none⟩=some ((β1 1).sl):=by
   rw [World.cell?_of_block (w:=W) (hs Bs (.inr rfl))]
   unfold World.cell?
   rw [hBh]
   simp [AA,SV.den]
  rcases QC hrow with ⟨h1,a',c,h2⟩|⟨b,off,cap,h2,h3,h4⟩
  ·exact .inl ⟨h1,a',c,by rw [hc,h2]⟩
  ·exact .inr ⟨b,off,cap,by rw [hc,h2],fun j hj=>by rw [World.cell?_of_block (w:=W) (hs b (.inl (.inl h3)))];exact h4 j hj⟩
 have t2:a.tmps.getD 2 undef=.pointer (some ⟨(β2 1).AN,0,none⟩):=by rw [hg1.tmps 2 (.ptr 5 0) rfl,r1];simp only [SV.den]
 have t5:a.tmps.getD 5 undef=.pointer (some ⟨(β2 2).AN,0,none⟩):=by rw [hg1.tmps 5 (.ptr 6 0) rfl,r2];simp only [SV.den]
 have hsz:a.tmps.size=25:=hg1.size
 have hgo':Tryz.Bj.go ((bwd x.1.2.1).map Prod.snd) ((),(x.2.1,((),()),(-1,()),()))=some yq:=by rw [SC];exact hgo
 refine wpIn_wide.2 (wpIn_wide.1 (Jo (gf:=146) (lb:=#[.pointer (some ⟨Bs,0,none⟩)]) ?_ Qs (Tryz.R8 Bs x.1.2.1 hl) (fun _=>rfl)
  (gX w W (AG o β) D (fun k=>Ex D1 β1 ps.bl k∨k=Bs) β2 ((),(x.2.1,((),()),(-1,()),()))) (fun _ _ _=>False) (fun pre W' ob ⟨y,h1,h2⟩ hlt=>⟨y,h1,Mi.Wy y W' ob h2 hlt⟩) (fun _ _ _ _ h _=>h)
  (fun pre W' ⟨_,_,_,_,_,_,_,_,_,_,_,_,_,_,_,h9⟩=>hrd W' h9) (fun ob ob'=>⟨_,rfl,Mi.first hq hgd b5 (fun _ h=>h) ob ob'⟩)
  (fun x' a'=>a'.defers=[]∧a'.tmps.size=25∧a'.tmps.getD 2 undef=.pointer (some ⟨(β2 1).AN,0,none⟩)∧a'.tmps.getD 5 undef=.pointer (some ⟨(β2 2).AN,0,none⟩)∧a'.tmps.getD 7 undef=.int .i64 x'.2) ?_ ?_ ?_ ?_))
 ·rw [show a.eval (.tmp 10)=a.tmps.getD 10 undef from rfl,hg1.tmps 10 (.fn 146 [.ptr 7 0]) rfl]
  simp only [SV.den,AA,ED (show Nat.ble 1000000 146=false from rfl),Au]
 ·intro l x' W' K hK
  exact Tn hsz fun a' h1 h2 h3 h4=>hK a' ⟨h1,h2,by rw [h3 2 (by decide) (by decide) (by decide)];exact t2,by rw [h3 5 (by decide) (by decide) (by decide)];exact t5,h4⟩
 ·rintro pre x' rest a' W' hxs _ hI ⟨h1,h2,h3,h4,h5⟩
  exact YA hkp hgo' hxs hI h1 h2 h3 h4 h5 _
 ·rintro W' ⟨y,h1,h2⟩ hK
  rw [hgo'] at h1
  cases h1
  simp only [after,Exit.inBlock]
  exact YB hkp hres (by rw [r0];exact hβ1 0 (by omega)) h2 hg1.defers hsz t2 t5 hK
 ·exact fun _ _ _ _ h=>h.elim
end Go.Proofs
/- parser.within (a deferred call), at each of the functions that it is called with: contracts. -/
set_option maxRecDepth 100000
namespace Go.Proofs
open Go Go.En Go.RowKit
@[reducible] def Eh:HO:=⟨0,91,[.fd (.sl 4),.st 0,.own 5 56,.own 6 93,.st 0,.st 0,.fd (.int .i64),.st 0],false⟩
@[reducible] def CV:List HO:=[Eh,⟨1,89,[.al 0 0],false⟩]
abbrev Hf:Type:=List En.Dop.Tok×Int×List En.Dop.Aa×List En.Dop.Gr×Int×Int×Int×Int×Unit
def sD (s:Hf) (d:Int):Hf:=(s.1,s.2.1,s.2.2.1,s.2.2.2.1,s.2.2.2.2.1,d,s.2.2.2.2.2.2.1,s.2.2.2.2.2.2.2.1,())
abbrev MT:Type:=En.Spec.D En.Dop.D4 ⟨[.al 0 0],[Eh]⟩→Option (En.Spec.D En.Dop.D4 ⟨[.fd (.int .i64)],[Eh]⟩)
def Mx (r:Int) (s:Hf):Option (En.Spec.D En.Dop.D4 ⟨[.fd (.int .i64)],[Eh]⟩):=
 if Av (s.2.2.2.2.2.1 -1)=true then some ((r,()),(sD s (s.2.2.2.2.2.1 -1),())) else none
def FR (m:MT) (s:Hf):Option (En.Spec.D En.Dop.D4 ⟨[.fd (.int .i64)],[Eh]⟩):=
 if (!decide (s.2.2.2.2.2.2.1=0))=true then Mx (-1) s else (m (((),()),(s,()))).bind fun v=>Mx v.1.1 v.2.1
noncomputable def Tryz.within (m:MT) (s:Hf):Option (En.Spec.D En.Dop.D4 ⟨[.fd (.int .i64)],[Eh]⟩):=
 if Av (s.2.2.2.2.2.1+1)=true then
  if decide (100<s.2.2.2.2.2.1+1)=true then
   (Tryz.BY 6 (s.1,s.2.1,s.2.2.1,s.2.2.2.1,s.2.2.2.2.1,s.2.2.2.2.2.1+1,s.2.2.2.2.2.2)).bind fun y=>FR m y.2.1
  else FR m (sD s (s.2.2.2.2.2.1+1))
 else none
@[reducible] noncomputable def w4:Code:=BB (AM Tryz.prog 180) [0,1,1,1]
@[reducible] noncomputable def w5:Code:=BB (AM Tryz.prog 180) [1,1,1,1]
noncomputable def IL (c:Code):Array Oper:=match c with
 | .region _ o _=>o
 | _=>#[]
noncomputable def fw:Array Oper:=IL w4
noncomputable def fT:Array Oper:=IL (BB w5 [0,0])
noncomputable def fU:Array Oper:=IL (BB w5 [0,0,1,0])
noncomputable def fW:Array Oper:=IL (BB w5 [0,1])
noncomputable def fV:Array Oper:=IL (AM Tryz.prog 203)
theorem TE:w4=.region 4 fw false:=by kernel_rfl
theorem TF:w5=.seq (.seq (.region 5 fT false) (.cond (.tmp 24) (.seq (.region 6 fU false) .ret) .skip)) (.seq (.region 7 fW false) .ret):=by kernel_rfl
theorem cv:AM Tryz.prog 203=.region 0 fV false:=by kernel_rfl
noncomputable def UH:Oper:=(fw.getD 0 default)
noncomputable def ZF:Oper:=(fw.getD 1 default)
theorem Oy:fw.toList=[UH,ZF]:=by kernel_rfl
theorem Ow:UH.op=.makeFunc (.func 203) #[] #[.tmp 2]∧UH.dst=some 19∧UH.guard=none:=⟨by kernel_rfl,by kernel_rfl,by kernel_rfl⟩
theorem Ox:ZF.op=.defer { callee:=.value (.tmp 19),args:=#[],argTypes:=#[] }∧ZF.dst=none∧ZF.guard=none:=⟨by kernel_rfl,by kernel_rfl,by kernel_rfl⟩
def Yk.p:Ak:=⟨[],2,⟨[.al 1 0],CV⟩,⟨[],CV⟩,false,[],[]⟩
noncomputable def Yk.E:Env En.Dop.D4:=Az Tryz.prog 203 Tryz.tb [] Yk.p
theorem Yk.ok:AH En.Dop.D4 Tryz.prog 203 Yk.p=true:=by kernel_rfl
theorem Yk.fv (s:Hf):(F0 Yk.E 3000 fV ⟨[.al 1 0],CV⟩ ⟨[],CV⟩ [0] [] 2 (((),()),(s,((),()),()))).eval (fun _ _=>none)=
  if Av (s.2.2.2.2.2.1 -1)=true then some ((),(sD s (s.2.2.2.2.2.1 -1),((),()),())) else none:=by kernel_rfl
theorem Qt (args:Array Value) (w:World):(callFunc 203 args).run Tryz.prog w=.ok (.enter 203 args) w:=Ce (by kernel_rfl)
theorem Yl (r:Int) (s:Hf): ∃ ps,En.Spec.parse (S:=En.Dop.D4) ⟨[.fd (.int .i64)],[Eh]⟩ true [.v (.int .i64 r)] (En.Spec.enc (S:=En.Dop.D4) ⟨[],CV⟩ ((),(s,((),()),())) 2).2.1 (PX 1) 1=some (((r,()),(s,())),ps)∧lk ps.m 0=some 0:=
 ⟨⟨(1,.AN 89 [.ptr 0 0])::(2,.sl 4 s.1)::[],[(0,0)],[],1⟩,by kernel_rfl,by kernel_rfl⟩
theorem KJ {f:Nat} {sp:En.Spec} {out:Out (sp.D En.Dop.D4) (En.Spec.D En.Dop.D4 ⟨[.fd (.int .i64)],[Eh]⟩)} {w:World} {D:Nat→Prop} {β:Nat→Nm} {o0:List (Nat×En.Own En.Dop.D4)} (hkp:BJ En.Dop.D4 w (AG o0 β) D) {fn:Func} (hres:fn.results=#[.tmp 4]) {β2:Nat→Nm} (hβ:β2 0=β 0)
  {r:Int} {s:Hf} (hd:Av (s.2.2.2.2.2.1 -1)=true) {a:Act} {W:World}
  (hh:Gq En.Dop.D4 w (AG o0 β) D ⟨[.fd (.int .i64)],CV⟩ [4] 2 β2 27 ((r,()),(s,((),()),())) a W):
  Leaves Tryz.prog fn a.tmps (CX (S:=En.Dop.D4) ⟨f,1,sp,⟨[.fd (.int .i64)],[Eh]⟩,false,out⟩ ((r,()),(sD s (s.2.2.2.2.2.1 -1),())) w D β o0) [{ target:=.fn (.func 203) #[.pointer (some ⟨(β2 1).AN,0,none⟩)],args:=#[] }] .returning W:=by
 obtain ⟨hE,_,_,fn7,hf7,hb7,hn7,hr7⟩:=EZ (p:=Yk.p) (ct:=[]) Tryz.AJ Bb Yk.ok
 have hn7:fn7.ntmps=8:=hn7
 obtain ⟨⟨D1,β1,vs,o,n,he,h1,h2,h3,h4,h5⟩,hsz⟩:=hh
 have hr:a.tmps.getD 4 undef=.int .i64 r:=by
  have hvs:vs=[.v (.int .i64 r)]:=by
   have h:En.Spec.enc (S:=En.Dop.D4) ⟨[.fd (.int .i64)],CV⟩ ((r,()),(s,((),()),())) 2=([.v (.int .i64 r)],(En.Spec.enc (S:=En.Dop.D4) ⟨[.fd (.int .i64)],CV⟩ ((r,()),(s,((),()),())) 2).2.1,(En.Spec.enc (S:=En.Dop.D4) ⟨[.fd (.int .i64)],CV⟩ ((r,()),(s,((),()),())) 2).2.2):=by kernel_rfl
   rw [he] at h
   exact (Prod.mk.inj h).1
  subst hvs
  have:=(h5 0 4 _ rfl rfl).2
  rw [this];simp only [SV.den]
 have he7:En.Spec.enc (S:=En.Dop.D4) ⟨[.al 1 0],CV⟩ (((),()),(s,((),()),())) 2=([.ptr 1 0],o,n):=by
  have h:En.Spec.enc (S:=En.Dop.D4) ⟨[.al 1 0],CV⟩ (((),()),(s,((),()),())) 2=([.ptr 1 0],(En.Spec.enc (S:=En.Dop.D4) ⟨[.fd (.int .i64)],CV⟩ ((r,()),(s,((),()),())) 2).2.1,(En.Spec.enc (S:=En.Dop.D4) ⟨[.fd (.int .i64)],CV⟩ ((r,()),(s,((),()),())) 2).2.2):=by kernel_rfl
  rw [h,he]
 have hseg:=Yk.fv s
 rw [if_pos hd] at hseg
 refine leaves_cons (by simp) (by rw [invoke];exact Qt _ _) ?_
 refine (callsD_of_wp (R:=fun e w'=>(∃ v,e=.returned v)∧ ∃ a',Gq En.Dop.D4 w (AG o0 β) D ⟨[],CV⟩ [] 2 β2 8 ((),(sD s (s.2.2.2.2.2.1 -1),((),()),())) a' w') hf7 hb7 ?_).mono ?_
 ·rw [cv]
  refine wp_region_list (Dv hE (by kernel_rfl) rfl hseg hkp ⟨⟨D1,β1,_,o,n,he7,h1,h2,?_,h4,?_⟩,?_⟩ ?_)
  ·simp only [BI,SV.on,and_true];omega
  ·intro j t v hj hv
   cases j with
   | zero=>
    simp only [List.getElem?_cons_zero,Option.some.injEq] at hj hv;subst hj;subst hv
    refine ⟨by show 0<8;omega,?_⟩
    rw [Array.getD_eq_getD_getElem?,Array.getElem?_append_left (by simp)]
    simp [SV.den,h1 1 (by omega)]
   | succ j=>simp at hj
  ·simp [hn7];rfl
  ·intro a' W' hd' hh'
   refine ⟨hd',.tuple #[],results_none (by rw [←Array.toList_inj];rw [hr7];kernel_rfl) _ _ _,⟨_,rfl⟩,a',hh'⟩
 ·rintro e u w' ⟨rfl,⟨v,rfl⟩,a',⟨D2,β3,vs2,o2,n2,k1,k2,k3,k4,k5,_⟩,_⟩
  show ∃ v,(results fn a.tmps).run Tryz.prog w'=.ok v w'∧_
  refine ⟨.int .i64 r,by rw [←hr];exact results_tmp hres _ _ _,?_⟩
  rcases he8:En.Spec.enc (S:=En.Dop.D4) ⟨[.fd (.int .i64)],[Eh]⟩ ((r,()),(sD s (s.2.2.2.2.2.1 -1),())) 1 with ⟨rs,o5,n5⟩
  obtain ⟨ps,hps,hm0⟩:=Yl r (sD s (s.2.2.2.2.2.1 -1))
  have ho2:o2=(En.Spec.enc (S:=En.Dop.D4) ⟨[],CV⟩ ((),(sD s (s.2.2.2.2.2.1 -1),((),()),())) 2).2.1:=by rw [k1]
  rw [←ho2] at hps
  obtain ⟨β5,b1,b2,b3,b4,b5,_⟩:=En.Spec.B1 k3 hps (by kernel_rfl) he8
  have hrs:rs=[.v (.int .i64 r)]:=by
   have h: ∀ s':Hf,En.Spec.enc (S:=En.Dop.D4) ⟨[.fd (.int .i64)],[Eh]⟩ ((r,()),(s',())) 1=([.v (.int .i64 r)],(En.Spec.enc (S:=En.Dop.D4) ⟨[.fd (.int .i64)],[Eh]⟩ ((r,()),(s',())) 1).2.1,(En.Spec.enc (S:=En.Dop.D4) ⟨[.fd (.int .i64)],[Eh]⟩ ((r,()),(s',())) 1).2.2):=fun s'=>by kernel_rfl
   have h:=h (sD s (s.2.2.2.2.2.1 -1))
   rw [he8] at h
   exact (Prod.mk.inj h).1
  refine ⟨_,β5,rs,o5,n5,he8,?_,fun i hi=>?_,b2,b4,b5⟩
  ·rw [hrs];simp only [Ap,SV.den]
  ·have hi0:i=0:=by have:i<1:=hi;omega
   subst hi0
   rw [b1 0 (by omega) 0 hm0,k2 0 (by omega),hβ]
@[reducible] def Bm.as:List CW:=[.fn 1000234 [(0,0)],.al 1 0]
@[reducible] def Bm.bs:List CW:=[.fn 1000234 [(0,0)],.al 1 0,.fd .bool]
def Bm.p:Ak:=⟨[(999998,⟨[[0,0,1,1,1],[0,1,1,1,1]],[1,2],2,⟨Bm.as,CV⟩⟩)],1,⟨[.al 0 0,.fn 1000234 [(0,0)]],[Eh]⟩,⟨[.fd (.int .i64)],[Eh]⟩,false,[],[]⟩
theorem Bm.ok:AH En.Dop.D4 Tryz.prog 180 Bm.p=true:=by kernel_rfl
noncomputable def Bm.k (m:MT):Bw En.Dop.D4:=⟨234,1,⟨[.al 0 0],[Eh]⟩,⟨[.fd (.int .i64)],[Eh]⟩,false,.opt m⟩
noncomputable def Bm.E (m:MT):Env En.Dop.D4:=Az Tryz.prog 180 Tryz.tb [Tryz.BY.c,Bm.k m] Bm.p
noncomputable def Bm.c (m:MT):Bw En.Dop.D4:=⟨180,1,⟨[.al 0 0,.fn 1000234 [(0,0)]],[Eh]⟩,⟨[.fd (.int .i64)],[Eh]⟩,false,.opt fun x=>Tryz.within m x.2.1⟩
theorem Bm.s5 (m:MT) (s:Hf):(F0 (Bm.E m) 3000 fT ⟨Bm.as,CV⟩ ⟨Bm.bs,CV⟩ [1,2] [1,2,24] 2 (((),(),()),(s,((),()),()))).eval (fun _ _=>none)=some (((),(),(!decide (s.2.2.2.2.2.2.1=0)),()),(s,((),()),())):=by kernel_rfl
theorem Bm.s6 (m:MT) (s:Hf) (b:Bool):(F0 (Bm.E m) 3000 fU ⟨Bm.bs,CV⟩ ⟨[.fd (.int .i64)],CV⟩ [1,2,24] [4] 2 (((),(),b,()),(s,((),()),()))).eval (fun _ _=>none)=some ((-1,()),(s,((),()),())):=by kernel_rfl
theorem Bm.s7 (m:MT) (s:Hf) (b:Bool):(F0 (Bm.E m) 3000 fW ⟨Bm.bs,CV⟩ ⟨[.fd (.int .i64)],CV⟩ [1,2,24] [4] 2 (((),(),b,()),(s,((),()),()))).eval (fun _ _=>none)=(m (((),()),(s,()))).bind fun v=>some ((v.1.1,()),(v.2.1,((),()),())):=by kernel_rfl
theorem Bm.s0 (m:MT) (s:Hf) (vs:List SV) (o:List (Nat×En.Own En.Dop.D4)) (n:Nat) (h:En.Spec.enc (S:=En.Dop.D4) ⟨[.al 0 0,.fn 1000234 [(0,0)]],[Eh]⟩ (((),(),()),(s,())) 1=(vs,o,n)):
  (Yh (Bm.E m) 3000 ⟨Bm.as,CV⟩ [1,2] 1 2 999998 [[0,0,1,1,1],[0,1,1,1,1]] [.code [] (AM Tryz.prog 180)] ⟨A0 0 vs,o,n,27⟩).eval (fun _ _=>none)=
  if Av (s.2.2.2.2.2.1+1)=true then
   if decide (100<s.2.2.2.2.2.1+1)=true then
    (Tryz.BY 6 (s.1,s.2.1,s.2.2.1,s.2.2.2.1,s.2.2.2.2.1,s.2.2.2.2.2.1+1,s.2.2.2.2.2.2)).bind fun y=>some (((),(),()),(y.2.1,((),()),()))
   else some (((),(),()),(sD s (s.2.2.2.2.2.1+1),((),()),()))
  else none:=by
 cases h
 kernel_rfl
theorem Bm.tail {m:MT} (hE:(Bm.E m).Ok Tryz.prog) {x:En.Spec.D En.Dop.D4 ⟨[.al 0 0,.fn 1000234 [(0,0)]],[Eh]⟩} {y:En.Spec.D En.Dop.D4 ⟨[.fd (.int .i64)],[Eh]⟩} {w:World} {D:Nat→Prop} {β:Nat→Nm} {o0:List (Nat×En.Own En.Dop.D4)} (hkp:BJ En.Dop.D4 w (AG o0 β) D) {fn:Func} (hres:fn.results=#[.tmp 4]) {β2:Nat→Nm} (hβ:β2 0=β 0) {s:Hf} (hy:FR m s=some y)
  {a:Act} {W:World} (hd:a.defers=[]) (hh:Gq En.Dop.D4 w (AG o0 β) D ⟨Bm.as,CV⟩ [1,2] 2 β2 27 (((),(),()),(s,((),()),())) a W):
  w4.wpIn Fence.wide 0 Tryz.prog (after Fence.wide Tryz.prog 0 [.code w5] (II (bodyPostD Tryz.prog fn (CX (S:=En.Dop.D4) (Bm.c m) y w D β o0)))) a W:=by
 have ht2:a.tmps.getD 2 undef=.pointer (some ⟨(β2 1).AN,0,none⟩):=by
  obtain ⟨⟨D1,β1,vs,o,n,he,h1,h2,h3,h4,h5⟩,hsz⟩:=hh
  have hvs:vs=[.fn 1000234 [.ptr 0 0],.ptr 1 0]:=by
   have h:En.Spec.enc (S:=En.Dop.D4) ⟨Bm.as,CV⟩ (((),(),()),(s,((),()),())) 2=([.fn 1000234 [.ptr 0 0],.ptr 1 0],(En.Spec.enc (S:=En.Dop.D4) ⟨Bm.as,CV⟩ (((),(),()),(s,((),()),())) 2).2.1,(En.Spec.enc (S:=En.Dop.D4) ⟨Bm.as,CV⟩ (((),(),()),(s,((),()),())) 2).2.2):=by kernel_rfl
   rw [he] at h
   exact (Prod.mk.inj h).1
  subst hvs
  rw [(h5 1 2 _ rfl rfl).2,← h1 1 (by omega)]
  simp only [SV.den]
 obtain ⟨a1,a2,a3⟩:=Ow
 obtain ⟨b1,b2,b3⟩:=Ox
 have hsz:=hh.sz
 rw [TE]
 refine C5 (.inl rfl) ?_
 rw [Oy]
 unfold wpList
 rw [if_pos (by simp [Region.wanted,a3])]
 refine .inl (Ad (v:=.func (.func 203) #[] #[.pointer (some ⟨(β2 1).AN,0,none⟩)]) (w':=W) ?_ ?_)
 ·simp [execOp,a1,Instr.makeFunc,Act.eval,← ht2]
 unfold wpList
 rw [if_pos (by simp [Region.wanted,b3])]
 refine .inl ?_
 have hex:(execOp (a.put UH.dst (.func (.func 203) #[] #[.pointer (some ⟨(β2 1).AN,0,none⟩)])).eval ZF).run Tryz.prog W=.ok (.defer { target:=.fn (.func 203) #[.pointer (some ⟨(β2 1).AN,0,none⟩)],args:=#[] }) W:=by
  have hev:(a.put UH.dst (.func (.func 203) #[] #[.pointer (some ⟨(β2 1).AN,0,none⟩)])).eval (.tmp 19)=.func (.func 203) #[] #[.pointer (some ⟨(β2 1).AN,0,none⟩)]:=by
   simp [Act.eval,Act.put,a2,Array.getD_eq_getD_getElem?,Array.getElem?_setIfInBounds,hsz]
  simp [execOp,b1,resolve,hev,Deferred.ofValue]
 unfold Oper.wp
 rw [hex,Oper.upon_defer,b2]
 simp only [wpList,after,Act.put,a2,hd]
 refine wpIn_wide.2 ?_
 rw [TF]
 have hh2:Gq En.Dop.D4 w (AG o0 β) D ⟨Bm.as,CV⟩ [1,2] 2 β2 27 (((),(),()),(s,((),()),())) { a.put (some 19) (.func (.func 203) #[] #[.pointer (some ⟨(β2 1).AN,0,none⟩)]) with defers:=[{ target:=.fn (.func 203) #[.pointer (some ⟨(β2 1).AN,0,none⟩)],args:=#[] }] } W:=hh.put (by decide)
 refine wp_seq (wp_seq (wp_region_list (Dv hE (by kernel_rfl) rfl (Bm.s5 m s) hkp hh2 fun a3 W3 hd3 hh3=>?_)))
 have ht24:a3.eval (.tmp 24)=.bool (!decide (s.2.2.2.2.2.2.1=0)):=by
  obtain ⟨⟨D1,β1,vs,o,n,he,h1,h2,h3,h4,h5⟩,hsz⟩:=hh3
  have hvs: ∀ b:Bool,En.Spec.enc (S:=En.Dop.D4) ⟨Bm.bs,CV⟩ (((),(),b,()),(s,((),()),())) 2=([.fn 1000234 [.ptr 0 0],.ptr 1 0,.b b],(En.Spec.enc (S:=En.Dop.D4) ⟨Bm.bs,CV⟩ (((),(),b,()),(s,((),()),())) 2).2.1,(En.Spec.enc (S:=En.Dop.D4) ⟨Bm.bs,CV⟩ (((),(),b,()),(s,((),()),())) 2).2.2):=fun b=>by kernel_rfl
  have h:=hvs (!decide (s.2.2.2.2.2.2.1=0))
  rw [he] at h
  have h:=(Prod.mk.inj h).1
  subst h
  rw [show a3.eval (.tmp 24)=a3.tmps.getD 24 undef from rfl,(h5 2 24 _ rfl rfl).2]
  simp only [SV.den]
 unfold FR at hy
 split at hy
 ·rename_i hb
  unfold Mx at hy
  split at hy
  case isFalse=>cases hy
  rename_i hin
  cases hy
  refine wp_cond_true (by rw [ht24,hb]) (wp_seq (wp_region_list (Dv hE (by kernel_rfl) rfl (Bm.s6 m s _) hkp hh3 fun a4 W4 hd4 hh4=>wp_ret ?_)))
  show Leaves _ _ _ _ _ _ _
  rw [hd4,hd3]
  exact KJ hkp hres hβ hin hh4
 ·rename_i hb
  have hb:(!decide (s.2.2.2.2.2.2.1=0))=false:=by simpa using hb
  obtain ⟨v,hv,hy⟩:=Option.bind_eq_some_iff.1 hy
  unfold Mx at hy
  split at hy
  case isFalse=>cases hy
  rename_i hin
  cases hy
  refine wp_cond_false (by rw [ht24,hb]) (wp_skip ?_)
  have h7:=Bm.s7 m s (!decide (s.2.2.2.2.2.2.1=0))
  rw [hv] at h7
  refine wp_seq (wp_region_list (Dv hE (by kernel_rfl) rfl h7 hkp hh3 fun a4 W4 hd4 hh4=>wp_ret ?_))
  show Leaves _ _ _ _ _ _ _
  rw [hd4,hd3]
  exact KJ hkp hres hβ hin hh4
theorem Bm.holds {m:MT} (hm:(Bm.k m).Holds Tryz.prog):(Bm.c m).Holds Tryz.prog:=by
 obtain ⟨hE,hbod,hokB,fn,hf,hb,hn,hr⟩:=EZ (p:=Bm.p) (ct:=[Tryz.BY.c,Bm.k m]) Tryz.AJ (Af Tryz.BY.holds (Af hm Bb)) Bm.ok
 have e1:B6 Tryz.prog 180=27:=by kernel_rfl
 have e2:Cy Tryz.prog 180=[.tmp 4]:=by kernel_rfl
 have hres:fn.results=#[.tmp 4]:=by rw [e2] at hr;rw [←hr]
 refine ⟨hbod,hokB,fun h=>(by cases h),fun x y hxy w D β vs o n he hg hon hn' hiv=>?_⟩
 have hxy:Tryz.within m x.2.1=some y:=hxy
 have hkp:BJ En.Dop.D4 w (AG o β) D:=⟨hiv,fun k hk=>⟨hg.Cq k hk,fun ⟨i,b,hi,hik⟩=>hg.off i b k hi hik hk⟩⟩
 have hlen:vs.length=2:=En.Spec.AR he
 have hs0:=Bm.s0 m x.2.1 vs o n he
 have key: ∀ s:Hf,FR m s=some y→(Yh (Bm.E m) 3000 ⟨Bm.as,CV⟩ [1,2] 1 2 999998 [[0,0,1,1,1],[0,1,1,1,1]] [.code [] (AM Tryz.prog 180)] ⟨A0 0 vs,o,n,27⟩).eval (fun _ _=>none)=some (((),(),()),(s,((),()),()))→Calls Tryz.prog 180 (AA β vs).toArray w (CX (Bm.c m) y w D β o):=fun s hs hev=>
  VC.Nk (M:=0+3000) (bn:=1) hf hb (hn.trans e1) (by omega) hon hg (TC hE (k1:=[.code [0,1,1,1] w4,.code [1,1,1,1] w5]) (by kernel_rfl) (by kernel_rfl) (by omega) (k0:=[.code [] (AM Tryz.prog 180)]) hev hkp (fun _ _ _ _ _ h=>h) hn' rfl (fun z hz=>by
   simp only [List.mem_cons,List.not_mem_nil,or_false] at hz
   subst hz;rfl) fun β2 a W hag hd hh=>Bm.tail (x:=x) hE hkp hres (hag 0 (by omega)) hs hd hh)
 unfold Tryz.within at hxy
 split at hxy
 case isFalse=>cases hxy
 rename_i h1
 rw [if_pos h1] at hs0
 split at hxy
 ·rename_i h2
  rw [if_pos h2] at hs0
  obtain ⟨z,hz,hy⟩:=Option.bind_eq_some_iff.1 hxy
  rw [hz] at hs0
  exact key _ hy hs0
 ·rename_i h2
  rw [if_neg h2] at hs0
  exact key _ hxy hs0
@[reducible] def Bn.as:List CW:=[.fn 1000254 [(0,0)],.al 1 0]
@[reducible] def Bn.bs:List CW:=[.fn 1000254 [(0,0)],.al 1 0,.fd .bool]
def Bn.p:Ak:=⟨[(999998,⟨[[0,0,1,1,1],[0,1,1,1,1]],[1,2],2,⟨Bn.as,CV⟩⟩)],1,⟨[.al 0 0,.fn 1000254 [(0,0)]],[Eh]⟩,⟨[.fd (.int .i64)],[Eh]⟩,false,[],[]⟩
theorem Bn.ok:AH En.Dop.D4 Tryz.prog 180 Bn.p=true:=by kernel_rfl
noncomputable def Bn.k (m:MT):Bw En.Dop.D4:=⟨254,1,⟨[.al 0 0],[Eh]⟩,⟨[.fd (.int .i64)],[Eh]⟩,false,.opt m⟩
noncomputable def Bn.E (m:MT):Env En.Dop.D4:=Az Tryz.prog 180 Tryz.tb [Tryz.BY.c,Bn.k m] Bn.p
noncomputable def Bn.c (m:MT):Bw En.Dop.D4:=⟨180,1,⟨[.al 0 0,.fn 1000254 [(0,0)]],[Eh]⟩,⟨[.fd (.int .i64)],[Eh]⟩,false,.opt fun x=>Tryz.within m x.2.1⟩
theorem Bn.s5 (m:MT) (s:Hf):(F0 (Bn.E m) 3000 fT ⟨Bn.as,CV⟩ ⟨Bn.bs,CV⟩ [1,2] [1,2,24] 2 (((),(),()),(s,((),()),()))).eval (fun _ _=>none)=some (((),(),(!decide (s.2.2.2.2.2.2.1=0)),()),(s,((),()),())):=by kernel_rfl
theorem Bn.s6 (m:MT) (s:Hf) (b:Bool):(F0 (Bn.E m) 3000 fU ⟨Bn.bs,CV⟩ ⟨[.fd (.int .i64)],CV⟩ [1,2,24] [4] 2 (((),(),b,()),(s,((),()),()))).eval (fun _ _=>none)=some ((-1,()),(s,((),()),())):=by kernel_rfl
theorem Bn.s7 (m:MT) (s:Hf) (b:Bool):(F0 (Bn.E m) 3000 fW ⟨Bn.bs,CV⟩ ⟨[.fd (.int .i64)],CV⟩ [1,2,24] [4] 2 (((),(),b,()),(s,((),()),()))).eval (fun _ _=>none)=(m (((),()),(s,()))).bind fun v=>some ((v.1.1,()),(v.2.1,((),()),())):=by kernel_rfl
theorem Bn.s0 (m:MT) (s:Hf) (vs:List SV) (o:List (Nat×En.Own En.Dop.D4)) (n:Nat) (h:En.Spec.enc (S:=En.Dop.D4) ⟨[.al 0 0,.fn 1000254 [(0,0)]],[Eh]⟩ (((),(),()),(s,())) 1=(vs,o,n)):
  (Yh (Bn.E m) 3000 ⟨Bn.as,CV⟩ [1,2] 1 2 999998 [[0,0,1,1,1],[0,1,1,1,1]] [.code [] (AM Tryz.prog 180)] ⟨A0 0 vs,o,n,27⟩).eval (fun _ _=>none)=
  if Av (s.2.2.2.2.2.1+1)=true then
   if decide (100<s.2.2.2.2.2.1+1)=true then
    (Tryz.BY 6 (s.1,s.2.1,s.2.2.1,s.2.2.2.1,s.2.2.2.2.1,s.2.2.2.2.2.1+1,s.2.2.2.2.2.2)).bind fun y=>some (((),(),()),(y.2.1,((),()),()))
   else some (((),(),()),(sD s (s.2.2.2.2.2.1+1),((),()),()))
  else none:=by
 cases h
 kernel_rfl
theorem Bn.tail {m:MT} (hE:(Bn.E m).Ok Tryz.prog) {x:En.Spec.D En.Dop.D4 ⟨[.al 0 0,.fn 1000254 [(0,0)]],[Eh]⟩} {y:En.Spec.D En.Dop.D4 ⟨[.fd (.int .i64)],[Eh]⟩} {w:World} {D:Nat→Prop} {β:Nat→Nm} {o0:List (Nat×En.Own En.Dop.D4)} (hkp:BJ En.Dop.D4 w (AG o0 β) D) {fn:Func} (hres:fn.results=#[.tmp 4]) {β2:Nat→Nm} (hβ:β2 0=β 0) {s:Hf} (hy:FR m s=some y)
  {a:Act} {W:World} (hd:a.defers=[]) (hh:Gq En.Dop.D4 w (AG o0 β) D ⟨Bn.as,CV⟩ [1,2] 2 β2 27 (((),(),()),(s,((),()),())) a W):
  w4.wpIn Fence.wide 0 Tryz.prog (after Fence.wide Tryz.prog 0 [.code w5] (II (bodyPostD Tryz.prog fn (CX (S:=En.Dop.D4) (Bn.c m) y w D β o0)))) a W:=by
 have ht2:a.tmps.getD 2 undef=.pointer (some ⟨(β2 1).AN,0,none⟩):=by
  obtain ⟨⟨D1,β1,vs,o,n,he,h1,h2,h3,h4,h5⟩,hsz⟩:=hh
  have hvs:vs=[.fn 1000254 [.ptr 0 0],.ptr 1 0]:=by
   have h:En.Spec.enc (S:=En.Dop.D4) ⟨Bn.as,CV⟩ (((),(),()),(s,((),()),())) 2=([.fn 1000254 [.ptr 0 0],.ptr 1 0],(En.Spec.enc (S:=En.Dop.D4) ⟨Bn.as,CV⟩ (((),(),()),(s,((),()),())) 2).2.1,(En.Spec.enc (S:=En.Dop.D4) ⟨Bn.as,CV⟩ (((),(),()),(s,((),()),())) 2).2.2):=by kernel_rfl
   rw [he] at h
   exact (Prod.mk.inj h).1
  subst hvs
  rw [(h5 1 2 _ rfl rfl).2,← h1 1 (by omega)]
  simp only [SV.den]
 obtain ⟨a1,a2,a3⟩:=Ow
 obtain ⟨b1,b2,b3⟩:=Ox
 have hsz:=hh.sz
 rw [TE]
 refine C5 (.inl rfl) ?_
 rw [Oy]
 unfold wpList
 rw [if_pos (by simp [Region.wanted,a3])]
 refine .inl (Ad (v:=.func (.func 203) #[] #[.pointer (some ⟨(β2 1).AN,0,none⟩)]) (w':=W) ?_ ?_)
 ·simp [execOp,a1,Instr.makeFunc,Act.eval,← ht2]
 unfold wpList
 rw [if_pos (by simp [Region.wanted,b3])]
 refine .inl ?_
 have hex:(execOp (a.put UH.dst (.func (.func 203) #[] #[.pointer (some ⟨(β2 1).AN,0,none⟩)])).eval ZF).run Tryz.prog W=.ok (.defer { target:=.fn (.func 203) #[.pointer (some ⟨(β2 1).AN,0,none⟩)],args:=#[] }) W:=by
  have hev:(a.put UH.dst (.func (.func 203) #[] #[.pointer (some ⟨(β2 1).AN,0,none⟩)])).eval (.tmp 19)=.func (.func 203) #[] #[.pointer (some ⟨(β2 1).AN,0,none⟩)]:=by
   simp [Act.eval,Act.put,a2,Array.getD_eq_getD_getElem?,Array.getElem?_setIfInBounds,hsz]
  simp [execOp,b1,resolve,hev,Deferred.ofValue]
 unfold Oper.wp
 rw [hex,Oper.upon_defer,b2]
 simp only [wpList,after,Act.put,a2,hd]
 refine wpIn_wide.2 ?_
 rw [TF]
 have hh2:Gq En.Dop.D4 w (AG o0 β) D ⟨Bn.as,CV⟩ [1,2] 2 β2 27 (((),(),()),(s,((),()),())) { a.put (some 19) (.func (.func 203) #[] #[.pointer (some ⟨(β2 1).AN,0,none⟩)]) with defers:=[{ target:=.fn (.func 203) #[.pointer (some ⟨(β2 1).AN,0,none⟩)],args:=#[] }] } W:=hh.put (by decide)
 refine wp_seq (wp_seq (wp_region_list (Dv hE (by kernel_rfl) rfl (Bn.s5 m s) hkp hh2 fun a3 W3 hd3 hh3=>?_)))
 have ht24:a3.eval (.tmp 24)=.bool (!decide (s.2.2.2.2.2.2.1=0)):=by
  obtain ⟨⟨D1,β1,vs,o,n,he,h1,h2,h3,h4,h5⟩,hsz⟩:=hh3
  have hvs: ∀ b:Bool,En.Spec.enc (S:=En.Dop.D4) ⟨Bn.bs,CV⟩ (((),(),b,()),(s,((),()),())) 2=([.fn 1000254 [.ptr 0 0],.ptr 1 0,.b b],(En.Spec.enc (S:=En.Dop.D4) ⟨Bn.bs,CV⟩ (((),(),b,()),(s,((),()),())) 2).2.1,(En.Spec.enc (S:=En.Dop.D4) ⟨Bn.bs,CV⟩ (((),(),b,()),(s,((),()),())) 2).2.2):=fun b=>by kernel_rfl
  have h:=hvs (!decide (s.2.2.2.2.2.2.1=0))
  rw [he] at h
  have h:=(Prod.mk.inj h).1
  subst h
  rw [show a3.eval (.tmp 24)=a3.tmps.getD 24 undef from rfl,(h5 2 24 _ rfl rfl).2]
  simp only [SV.den]
 unfold FR at hy
 split at hy
 ·rename_i hb
  unfold Mx at hy
  split at hy
  case isFalse=>cases hy
  rename_i hin
  cases hy
  refine wp_cond_true (by rw [ht24,hb]) (wp_seq (wp_region_list (Dv hE (by kernel_rfl) rfl (Bn.s6 m s _) hkp hh3 fun a4 W4 hd4 hh4=>wp_ret ?_)))
  show Leaves _ _ _ _ _ _ _
  rw [hd4,hd3]
  exact KJ hkp hres hβ hin hh4
 ·rename_i hb
  have hb:(!decide (s.2.2.2.2.2.2.1=0))=false:=by simpa using hb
  obtain ⟨v,hv,hy⟩:=Option.bind_eq_some_iff.1 hy
  unfold Mx at hy
  split at hy
  case isFalse=>cases hy
  rename_i hin
  cases hy
  refine wp_cond_false (by rw [ht24,hb]) (wp_skip ?_)
  have h7:=Bn.s7 m s (!decide (s.2.2.2.2.2.2.1=0))
  rw [hv] at h7
  refine wp_seq (wp_region_list (Dv hE (by kernel_rfl) rfl h7 hkp hh3 fun a4 W4 hd4 hh4=>wp_ret ?_))
  show Leaves _ _ _ _ _ _ _
  rw [hd4,hd3]
  exact KJ hkp hres hβ hin hh4
theorem Bn.holds {m:MT} (hm:(Bn.k m).Holds Tryz.prog):(Bn.c m).Holds Tryz.prog:=by
 obtain ⟨hE,hbod,hokB,fn,hf,hb,hn,hr⟩:=EZ (p:=Bn.p) (ct:=[Tryz.BY.c,Bn.k m]) Tryz.AJ (Af Tryz.BY.holds (Af hm Bb)) Bn.ok
 have e1:B6 Tryz.prog 180=27:=by kernel_rfl
 have e2:Cy Tryz.prog 180=[.tmp 4]:=by kernel_rfl
 have hres:fn.results=#[.tmp 4]:=by rw [e2] at hr;rw [←hr]
 refine ⟨hbod,hokB,fun h=>(by cases h),fun x y hxy w D β vs o n he hg hon hn' hiv=>?_⟩
 have hxy:Tryz.within m x.2.1=some y:=hxy
 have hkp:BJ En.Dop.D4 w (AG o β) D:=⟨hiv,fun k hk=>⟨hg.Cq k hk,fun ⟨i,b,hi,hik⟩=>hg.off i b k hi hik hk⟩⟩
 have hlen:vs.length=2:=En.Spec.AR he
 have hs0:=Bn.s0 m x.2.1 vs o n he
 have key: ∀ s:Hf,FR m s=some y→(Yh (Bn.E m) 3000 ⟨Bn.as,CV⟩ [1,2] 1 2 999998 [[0,0,1,1,1],[0,1,1,1,1]] [.code [] (AM Tryz.prog 180)] ⟨A0 0 vs,o,n,27⟩).eval (fun _ _=>none)=some (((),(),()),(s,((),()),()))→Calls Tryz.prog 180 (AA β vs).toArray w (CX (Bn.c m) y w D β o):=fun s hs hev=>
  VC.Nk (M:=0+3000) (bn:=1) hf hb (hn.trans e1) (by omega) hon hg (TC hE (k1:=[.code [0,1,1,1] w4,.code [1,1,1,1] w5]) (by kernel_rfl) (by kernel_rfl) (by omega) (k0:=[.code [] (AM Tryz.prog 180)]) hev hkp (fun _ _ _ _ _ h=>h) hn' rfl (fun z hz=>by
   simp only [List.mem_cons,List.not_mem_nil,or_false] at hz
   subst hz;rfl) fun β2 a W hag hd hh=>Bn.tail (x:=x) hE hkp hres (hag 0 (by omega)) hs hd hh)
 unfold Tryz.within at hxy
 split at hxy
 case isFalse=>cases hxy
 rename_i h1
 rw [if_pos h1] at hs0
 split at hxy
 ·rename_i h2
  rw [if_pos h2] at hs0
  obtain ⟨z,hz,hy⟩:=Option.bind_eq_some_iff.1 hxy
  rw [hz] at hs0
  exact key _ hy hs0
 ·rename_i h2
  rw [if_neg h2] at hs0
  exact key _ hxy hs0
@[reducible] def Bo.as:List CW:=[.fn 1000263 [(0,0)],.al 1 0]
@[reducible] def Bo.bs:List CW:=[.fn 1000263 [(0,0)],.al 1 0,.fd .bool]
def Bo.p:Ak:=⟨[(999998,⟨[[0,0,1,1,1],[0,1,1,1,1]],[1,2],2,⟨Bo.as,CV⟩⟩)],1,⟨[.al 0 0,.fn 1000263 [(0,0)]],[Eh]⟩,⟨[.fd (.int .i64)],[Eh]⟩,false,[],[]⟩
theorem Bo.ok:AH En.Dop.D4 Tryz.prog 180 Bo.p=true:=by kernel_rfl
noncomputable def Bo.k (m:MT):Bw En.Dop.D4:=⟨263,1,⟨[.al 0 0],[Eh]⟩,⟨[.fd (.int .i64)],[Eh]⟩,false,.opt m⟩
noncomputable def Bo.E (m:MT):Env En.Dop.D4:=Az Tryz.prog 180 Tryz.tb [Tryz.BY.c,Bo.k m] Bo.p
noncomputable def Bo.c (m:MT):Bw En.Dop.D4:=⟨180,1,⟨[.al 0 0,.fn 1000263 [(0,0)]],[Eh]⟩,⟨[.fd (.int .i64)],[Eh]⟩,false,.opt fun x=>Tryz.within m x.2.1⟩
theorem Bo.s5 (m:MT) (s:Hf):(F0 (Bo.E m) 3000 fT ⟨Bo.as,CV⟩ ⟨Bo.bs,CV⟩ [1,2] [1,2,24] 2 (((),(),()),(s,((),()),()))).eval (fun _ _=>none)=some (((),(),(!decide (s.2.2.2.2.2.2.1=0)),()),(s,((),()),())):=by kernel_rfl
theorem Bo.s6 (m:MT) (s:Hf) (b:Bool):(F0 (Bo.E m) 3000 fU ⟨Bo.bs,CV⟩ ⟨[.fd (.int .i64)],CV⟩ [1,2,24] [4] 2 (((),(),b,()),(s,((),()),()))).eval (fun _ _=>none)=some ((-1,()),(s,((),()),())):=by kernel_rfl
theorem Bo.s7 (m:MT) (s:Hf) (b:Bool):(F0 (Bo.E m) 3000 fW ⟨Bo.bs,CV⟩ ⟨[.fd (.int .i64)],CV⟩ [1,2,24] [4] 2 (((),(),b,()),(s,((),()),()))).eval (fun _ _=>none)=(m (((),()),(s,()))).bind fun v=>some ((v.1.1,()),(v.2.1,((),()),())):=by kernel_rfl
theorem Bo.s0 (m:MT) (s:Hf) (vs:List SV) (o:List (Nat×En.Own En.Dop.D4)) (n:Nat) (h:En.Spec.enc (S:=En.Dop.D4) ⟨[.al 0 0,.fn 1000263 [(0,0)]],[Eh]⟩ (((),(),()),(s,())) 1=(vs,o,n)):
  (Yh (Bo.E m) 3000 ⟨Bo.as,CV⟩ [1,2] 1 2 999998 [[0,0,1,1,1],[0,1,1,1,1]] [.code [] (AM Tryz.prog 180)] ⟨A0 0 vs,o,n,27⟩).eval (fun _ _=>none)=
  if Av (s.2.2.2.2.2.1+1)=true then
   if decide (100<s.2.2.2.2.2.1+1)=true then
    (Tryz.BY 6 (s.1,s.2.1,s.2.2.1,s.2.2.2.1,s.2.2.2.2.1,s.2.2.2.2.2.1+1,s.2.2.2.2.2.2)).bind fun y=>some (((),(),()),(y.2.1,((),()),()))
   else some (((),(),()),(sD s (s.2.2.2.2.2.1+1),((),()),()))
  else none:=by
 cases h
 kernel_rfl
theorem Bo.tail {m:MT} (hE:(Bo.E m).Ok Tryz.prog) {x:En.Spec.D En.Dop.D4 ⟨[.al 0 0,.fn 1000263 [(0,0)]],[Eh]⟩} {y:En.Spec.D En.Dop.D4 ⟨[.fd (.int .i64)],[Eh]⟩} {w:World} {D:Nat→Prop} {β:Nat→Nm} {o0:List (Nat×En.Own En.Dop.D4)} (hkp:BJ En.Dop.D4 w (AG o0 β) D) {fn:Func} (hres:fn.results=#[.tmp 4]) {β2:Nat→Nm} (hβ:β2 0=β 0) {s:Hf} (hy:FR m s=some y)
  {a:Act} {W:World} (hd:a.defers=[]) (hh:Gq En.Dop.D4 w (AG o0 β) D ⟨Bo.as,CV⟩ [1,2] 2 β2 27 (((),(),()),(s,((),()),())) a W):
  w4.wpIn Fence.wide 0 Tryz.prog (after Fence.wide Tryz.prog 0 [.code w5] (II (bodyPostD Tryz.prog fn (CX (S:=En.Dop.D4) (Bo.c m) y w D β o0)))) a W:=by
 have ht2:a.tmps.getD 2 undef=.pointer (some ⟨(β2 1).AN,0,none⟩):=by
  obtain ⟨⟨D1,β1,vs,o,n,he,h1,h2,h3,h4,h5⟩,hsz⟩:=hh
  have hvs:vs=[.fn 1000263 [.ptr 0 0],.ptr 1 0]:=by
   have h:En.Spec.enc (S:=En.Dop.D4) ⟨Bo.as,CV⟩ (((),(),()),(s,((),()),())) 2=([.fn 1000263 [.ptr 0 0],.ptr 1 0],(En.Spec.enc (S:=En.Dop.D4) ⟨Bo.as,CV⟩ (((),(),()),(s,((),()),())) 2).2.1,(En.Spec.enc (S:=En.Dop.D4) ⟨Bo.as,CV⟩ (((),(),()),(s,((),()),())) 2).2.2):=by kernel_rfl
   rw [he] at h
   exact (Prod.mk.inj h).1
  subst hvs
  rw [(h5 1 2 _ rfl rfl).2,← h1 1 (by omega)]
  simp only [SV.den]
 obtain ⟨a1,a2,a3⟩:=Ow
 obtain ⟨b1,b2,b3⟩:=Ox
 have hsz:=hh.sz
 rw [TE]
 refine C5 (.inl rfl) ?_
 rw [Oy]
 unfold wpList
 rw [if_pos (by simp [Region.wanted,a3])]
 refine .inl (Ad (v:=.func (.func 203) #[] #[.pointer (some ⟨(β2 1).AN,0,none⟩)]) (w':=W) ?_ ?_)
 ·simp [execOp,a1,Instr.makeFunc,Act.eval,← ht2]
 unfold wpList
 rw [if_pos (by simp [Region.wanted,b3])]
 refine .inl ?_
 have hex:(execOp (a.put UH.dst (.func (.func 203) #[] #[.pointer (some ⟨(β2 1).AN,0,none⟩)])).eval ZF).run Tryz.prog W=.ok (.defer { target:=.fn (.func 203) #[.pointer (some ⟨(β2 1).AN,0,none⟩)],args:=#[] }) W:=by
  have hev:(a.put UH.dst (.func (.func 203) #[] #[.pointer (some ⟨(β2 1).AN,0,none⟩)])).eval (.tmp 19)=.func (.func 203) #[] #[.pointer (some ⟨(β2 1).AN,0,none⟩)]:=by
   simp [Act.eval,Act.put,a2,Array.getD_eq_getD_getElem?,Array.getElem?_setIfInBounds,hsz]
  simp [execOp,b1,resolve,hev,Deferred.ofValue]
 unfold Oper.wp
 rw [hex,Oper.upon_defer,b2]
 simp only [wpList,after,Act.put,a2,hd]
 refine wpIn_wide.2 ?_
 rw [TF]
 have hh2:Gq En.Dop.D4 w (AG o0 β) D ⟨Bo.as,CV⟩ [1,2] 2 β2 27 (((),(),()),(s,((),()),())) { a.put (some 19) (.func (.func 203) #[] #[.pointer (some ⟨(β2 1).AN,0,none⟩)]) with defers:=[{ target:=.fn (.func 203) #[.pointer (some ⟨(β2 1).AN,0,none⟩)],args:=#[] }] } W:=hh.put (by decide)
 refine wp_seq (wp_seq (wp_region_list (Dv hE (by kernel_rfl) rfl (Bo.s5 m s) hkp hh2 fun a3 W3 hd3 hh3=>?_)))
 have ht24:a3.eval (.tmp 24)=.bool (!decide (s.2.2.2.2.2.2.1=0)):=by
  obtain ⟨⟨D1,β1,vs,o,n,he,h1,h2,h3,h4,h5⟩,hsz⟩:=hh3
  have hvs: ∀ b:Bool,En.Spec.enc (S:=En.Dop.D4) ⟨Bo.bs,CV⟩ (((),(),b,()),(s,((),()),())) 2=([.fn 1000263 [.ptr 0 0],.ptr 1 0,.b b],(En.Spec.enc (S:=En.Dop.D4) ⟨Bo.bs,CV⟩ (((),(),b,()),(s,((),()),())) 2).2.1,(En.Spec.enc (S:=En.Dop.D4) ⟨Bo.bs,CV⟩ (((),(),b,()),(s,((),()),())) 2).2.2):=fun b=>by kernel_rfl
  have h:=hvs (!decide (s.2.2.2.2.2.2.1=0))
  rw [he] at h
  have h:=(Prod.mk.inj h).1
  subst h
  rw [show a3.eval (.tmp 24)=a3.tmps.getD 24 undef from rfl,(h5 2 24 _ rfl rfl).2]
  simp only [SV.den]
 unfold FR at hy
 split at hy
 ·rename_i hb
  unfold Mx at hy
  split at hy
  case isFalse=>cases hy
  rename_i hin
  cases hy
  refine wp_cond_true (by rw [ht24,hb]) (wp_seq (wp_region_list (Dv hE (by kernel_rfl) rfl (Bo.s6 m s _) hkp hh3 fun a4 W4 hd4 hh4=>wp_ret ?_)))
  show Leaves _ _ _ _ _ _ _
  rw [hd4,hd3]
  exact KJ hkp hres hβ hin hh4
 ·rename_i hb
  have hb:(!decide (s.2.2.2.2.2.2.1=0))=false:=by simpa using hb
  obtain ⟨v,hv,hy⟩:=Option.bind_eq_some_iff.1 hy
  unfold Mx at hy
  split at hy
  case isFalse=>cases hy
  rename_i hin
  cases hy
  refine wp_cond_false (by rw [ht24,hb]) (wp_skip ?_)
  have h7:=Bo.s7 m s (!decide (s.2.2.2.2.2.2.1=0))
  rw [hv] at h7
  refine wp_seq (wp_region_list (Dv hE (by kernel_rfl) rfl h7 hkp hh3 fun a4 W4 hd4 hh4=>wp_ret ?_))
  show Leaves _ _ _ _ _ _ _
  rw [hd4,hd3]
  exact KJ hkp hres hβ hin hh4
theorem Bo.holds {m:MT} (hm:(Bo.k m).Holds Tryz.prog):(Bo.c m).Holds Tryz.prog:=by
 obtain ⟨hE,hbod,hokB,fn,hf,hb,hn,hr⟩:=EZ (p:=Bo.p) (ct:=[Tryz.BY.c,Bo.k m]) Tryz.AJ (Af Tryz.BY.holds (Af hm Bb)) Bo.ok
 have e1:B6 Tryz.prog 180=27:=by kernel_rfl
 have e2:Cy Tryz.prog 180=[.tmp 4]:=by kernel_rfl
 have hres:fn.results=#[.tmp 4]:=by rw [e2] at hr;rw [←hr]
 refine ⟨hbod,hokB,fun h=>(by cases h),fun x y hxy w D β vs o n he hg hon hn' hiv=>?_⟩
 have hxy:Tryz.within m x.2.1=some y:=hxy
 have hkp:BJ En.Dop.D4 w (AG o β) D:=⟨hiv,fun k hk=>⟨hg.Cq k hk,fun ⟨i,b,hi,hik⟩=>hg.off i b k hi hik hk⟩⟩
 have hlen:vs.length=2:=En.Spec.AR he
 have hs0:=Bo.s0 m x.2.1 vs o n he
 have key: ∀ s:Hf,FR m s=some y→(Yh (Bo.E m) 3000 ⟨Bo.as,CV⟩ [1,2] 1 2 999998 [[0,0,1,1,1],[0,1,1,1,1]] [.code [] (AM Tryz.prog 180)] ⟨A0 0 vs,o,n,27⟩).eval (fun _ _=>none)=some (((),(),()),(s,((),()),()))→Calls Tryz.prog 180 (AA β vs).toArray w (CX (Bo.c m) y w D β o):=fun s hs hev=>
  VC.Nk (M:=0+3000) (bn:=1) hf hb (hn.trans e1) (by omega) hon hg (TC hE (k1:=[.code [0,1,1,1] w4,.code [1,1,1,1] w5]) (by kernel_rfl) (by kernel_rfl) (by omega) (k0:=[.code [] (AM Tryz.prog 180)]) hev hkp (fun _ _ _ _ _ h=>h) hn' rfl (fun z hz=>by
   simp only [List.mem_cons,List.not_mem_nil,or_false] at hz
   subst hz;rfl) fun β2 a W hag hd hh=>Bo.tail (x:=x) hE hkp hres (hag 0 (by omega)) hs hd hh)
 unfold Tryz.within at hxy
 split at hxy
 case isFalse=>cases hxy
 rename_i h1
 rw [if_pos h1] at hs0
 split at hxy
 ·rename_i h2
  rw [if_pos h2] at hs0
  obtain ⟨z,hz,hy⟩:=Option.bind_eq_some_iff.1 hxy
  rw [hz] at hs0
  exact key _ hy hs0
 ·rename_i h2
  rw [if_neg h2] at hs0
  exact key _ hxy hs0
@[reducible] def Bl.as:List CW:=[.fn 1000181 [(0,0)],.al 1 0]
@[reducible] def Bl.bs:List CW:=[.fn 1000181 [(0,0)],.al 1 0,.fd .bool]
def Bl.p:Ak:=⟨[(999998,⟨[[0,0,1,1,1],[0,1,1,1,1]],[1,2],2,⟨Bl.as,CV⟩⟩)],1,⟨[.al 0 0,.fn 1000181 [(0,0)]],[Eh]⟩,⟨[.fd (.int .i64)],[Eh]⟩,false,[],[]⟩
theorem Bl.ok:AH En.Dop.D4 Tryz.prog 180 Bl.p=true:=by kernel_rfl
noncomputable def Bl.k (m:MT):Bw En.Dop.D4:=⟨181,1,⟨[.al 0 0],[Eh]⟩,⟨[.fd (.int .i64)],[Eh]⟩,false,.opt m⟩
noncomputable def Bl.E (m:MT):Env En.Dop.D4:=Az Tryz.prog 180 Tryz.tb [Tryz.BY.c,Bl.k m] Bl.p
noncomputable def Bl.c (m:MT):Bw En.Dop.D4:=⟨180,1,⟨[.al 0 0,.fn 1000181 [(0,0)]],[Eh]⟩,⟨[.fd (.int .i64)],[Eh]⟩,false,.opt fun x=>Tryz.within m x.2.1⟩
theorem Bl.s5 (m:MT) (s:Hf):(F0 (Bl.E m) 3000 fT ⟨Bl.as,CV⟩ ⟨Bl.bs,CV⟩ [1,2] [1,2,24] 2 (((),(),()),(s,((),()),()))).eval (fun _ _=>none)=some (((),(),(!decide (s.2.2.2.2.2.2.1=0)),()),(s,((),()),())):=by kernel_rfl
theorem Bl.s6 (m:MT) (s:Hf) (b:Bool):(F0 (Bl.E m) 3000 fU ⟨Bl.bs,CV⟩ ⟨[.fd (.int .i64)],CV⟩ [1,2,24] [4] 2 (((),(),b,()),(s,((),()),()))).eval (fun _ _=>none)=some ((-1,()),(s,((),()),())):=by kernel_rfl
theorem Bl.s7 (m:MT) (s:Hf) (b:Bool):(F0 (Bl.E m) 3000 fW ⟨Bl.bs,CV⟩ ⟨[.fd (.int .i64)],CV⟩ [1,2,24] [4] 2 (((),(),b,()),(s,((),()),()))).eval (fun _ _=>none)=(m (((),()),(s,()))).bind fun v=>some ((v.1.1,()),(v.2.1,((),()),())):=by kernel_rfl
theorem Bl.s0 (m:MT) (s:Hf) (vs:List SV) (o:List (Nat×En.Own En.Dop.D4)) (n:Nat) (h:En.Spec.enc (S:=En.Dop.D4) ⟨[.al 0 0,.fn 1000181 [(0,0)]],[Eh]⟩ (((),(),()),(s,())) 1=(vs,o,n)):
  (Yh (Bl.E m) 3000 ⟨Bl.as,CV⟩ [1,2] 1 2 999998 [[0,0,1,1,1],[0,1,1,1,1]] [.code [] (AM Tryz.prog 180)] ⟨A0 0 vs,o,n,27⟩).eval (fun _ _=>none)=
  if Av (s.2.2.2.2.2.1+1)=true then
   if decide (100<s.2.2.2.2.2.1+1)=true then
    (Tryz.BY 6 (s.1,s.2.1,s.2.2.1,s.2.2.2.1,s.2.2.2.2.1,s.2.2.2.2.2.1+1,s.2.2.2.2.2.2)).bind fun y=>some (((),(),()),(y.2.1,((),()),()))
   else some (((),(),()),(sD s (s.2.2.2.2.2.1+1),((),()),()))
  else none:=by
 cases h
 kernel_rfl
theorem Bl.tail {m:MT} (hE:(Bl.E m).Ok Tryz.prog) {x:En.Spec.D En.Dop.D4 ⟨[.al 0 0,.fn 1000181 [(0,0)]],[Eh]⟩} {y:En.Spec.D En.Dop.D4 ⟨[.fd (.int .i64)],[Eh]⟩} {w:World} {D:Nat→Prop} {β:Nat→Nm} {o0:List (Nat×En.Own En.Dop.D4)} (hkp:BJ En.Dop.D4 w (AG o0 β) D) {fn:Func} (hres:fn.results=#[.tmp 4]) {β2:Nat→Nm} (hβ:β2 0=β 0) {s:Hf} (hy:FR m s=some y)
  {a:Act} {W:World} (hd:a.defers=[]) (hh:Gq En.Dop.D4 w (AG o0 β) D ⟨Bl.as,CV⟩ [1,2] 2 β2 27 (((),(),()),(s,((),()),())) a W):
  w4.wpIn Fence.wide 0 Tryz.prog (after Fence.wide Tryz.prog 0 [.code w5] (II (bodyPostD Tryz.prog fn (CX (S:=En.Dop.D4) (Bl.c m) y w D β o0)))) a W:=by
 have ht2:a.tmps.getD 2 undef=.pointer (some ⟨(β2 1).AN,0,none⟩):=by
  obtain ⟨⟨D1,β1,vs,o,n,he,h1,h2,h3,h4,h5⟩,hsz⟩:=hh
  have hvs:vs=[.fn 1000181 [.ptr 0 0],.ptr 1 0]:=by
   have h:En.Spec.enc (S:=En.Dop.D4) ⟨Bl.as,CV⟩ (((),(),()),(s,((),()),())) 2=([.fn 1000181 [.ptr 0 0],.ptr 1 0],(En.Spec.enc (S:=En.Dop.D4) ⟨Bl.as,CV⟩ (((),(),()),(s,((),()),())) 2).2.1,(En.Spec.enc (S:=En.Dop.D4) ⟨Bl.as,CV⟩ (((),(),()),(s,((),()),())) 2).2.2):=by kernel_rfl
   rw [he] at h
   exact (Prod.mk.inj h).1
  subst hvs
  rw [(h5 1 2 _ rfl rfl).2,← h1 1 (by omega)]
  simp only [SV.den]
 obtain ⟨a1,a2,a3⟩:=Ow
 obtain ⟨b1,b2,b3⟩:=Ox
 have hsz:=hh.sz
 rw [TE]
 refine C5 (.inl rfl) ?_
 rw [Oy]
 unfold wpList
 rw [if_pos (by simp [Region.wanted,a3])]
 refine .inl (Ad (v:=.func (.func 203) #[] #[.pointer (some ⟨(β2 1).AN,0,none⟩)]) (w':=W) ?_ ?_)
 ·simp [execOp,a1,Instr.makeFunc,Act.eval,← ht2]
 unfold wpList
 rw [if_pos (by simp [Region.wanted,b3])]
 refine .inl ?_
 have hex:(execOp (a.put UH.dst (.func (.func 203) #[] #[.pointer (some ⟨(β2 1).AN,0,none⟩)])).eval ZF).run Tryz.prog W=.ok (.defer { target:=.fn (.func 203) #[.pointer (some ⟨(β2 1).AN,0,none⟩)],args:=#[] }) W:=by
  have hev:(a.put UH.dst (.func (.func 203) #[] #[.pointer (some ⟨(β2 1).AN,0,none⟩)])).eval (.tmp 19)=.func (.func 203) #[] #[.pointer (some ⟨(β2 1).AN,0,none⟩)]:=by
   simp [Act.eval,Act.put,a2,Array.getD_eq_getD_getElem?,Array.getElem?_setIfInBounds,hsz]
  simp [execOp,b1,resolve,hev,Deferred.ofValue]
 unfold Oper.wp
 rw [hex,Oper.upon_defer,b2]
 simp only [wpList,after,Act.put,a2,hd]
 refine wpIn_wide.2 ?_
 rw [TF]
 have hh2:Gq En.Dop.D4 w (AG o0 β) D ⟨Bl.as,CV⟩ [1,2] 2 β2 27 (((),(),()),(s,((),()),())) { a.put (some 19) (.func (.func 203) #[] #[.pointer (some ⟨(β2 1).AN,0,none⟩)]) with defers:=[{ target:=.fn (.func 203) #[.pointer (some ⟨(β2 1).AN,0,none⟩)],args:=#[] }] } W:=hh.put (by decide)
 refine wp_seq (wp_seq (wp_region_list (Dv hE (by kernel_rfl) rfl (Bl.s5 m s) hkp hh2 fun a3 W3 hd3 hh3=>?_)))
 have ht24:a3.eval (.tmp 24)=.bool (!decide (s.2.2.2.2.2.2.1=0)):=by
  obtain ⟨⟨D1,β1,vs,o,n,he,h1,h2,h3,h4,h5⟩,hsz⟩:=hh3
  have hvs: ∀ b:Bool,En.Spec.enc (S:=En.Dop.D4) ⟨Bl.bs,CV⟩ (((),(),b,()),(s,((),()),())) 2=([.fn 1000181 [.ptr 0 0],.ptr 1 0,.b b],(En.Spec.enc (S:=En.Dop.D4) ⟨Bl.bs,CV⟩ (((),(),b,()),(s,((),()),())) 2).2.1,(En.Spec.enc (S:=En.Dop.D4) ⟨Bl.bs,CV⟩ (((),(),b,()),(s,((),()),())) 2).2.2):=fun b=>by kernel_rfl
  have h:=hvs (!decide (s.2.2.2.2.2.2.1=0))
  rw [he] at h
  have h:=(Prod.mk.inj h).1
  subst h
  rw [show a3.eval (.tmp 24)=a3.tmps.getD 24 undef from rfl,(h5 2 24 _ rfl rfl).2]
  simp only [SV.den]
 unfold FR at hy
 split at hy
 ·rename_i hb
  unfold Mx at hy
  split at hy
  case isFalse=>cases hy
  rename_i hin
  cases hy
  refine wp_cond_true (by rw [ht24,hb]) (wp_seq (wp_region_list (Dv hE (by kernel_rfl) rfl (Bl.s6 m s _) hkp hh3 fun a4 W4 hd4 hh4=>wp_ret ?_)))
  show Leaves _ _ _ _ _ _ _
  rw [hd4,hd3]
  exact KJ hkp hres hβ hin hh4
 ·rename_i hb
  have hb:(!decide (s.2.2.2.2.2.2.1=0))=false:=by simpa using hb
  obtain ⟨v,hv,hy⟩:=Option.bind_eq_some_iff.1 hy
  unfold Mx at hy
  split at hy
  case isFalse=>cases hy
  rename_i hin
  cases hy
  refine wp_cond_false (by rw [ht24,hb]) (wp_skip ?_)
  have h7:=Bl.s7 m s (!decide (s.2.2.2.2.2.2.1=0))
  rw [hv] at h7
  refine wp_seq (wp_region_list (Dv hE (by kernel_rfl) rfl h7 hkp hh3 fun a4 W4 hd4 hh4=>wp_ret ?_))
  show Leaves _ _ _ _ _ _ _
  rw [hd4,hd3]
  exact KJ hkp hres hβ hin hh4
theorem Bl.holds {m:MT} (hm:(Bl.k m).Holds Tryz.prog):(Bl.c m).Holds Tryz.prog:=by
 obtain ⟨hE,hbod,hokB,fn,hf,hb,hn,hr⟩:=EZ (p:=Bl.p) (ct:=[Tryz.BY.c,Bl.k m]) Tryz.AJ (Af Tryz.BY.holds (Af hm Bb)) Bl.ok
 have e1:B6 Tryz.prog 180=27:=by kernel_rfl
 have e2:Cy Tryz.prog 180=[.tmp 4]:=by kernel_rfl
 have hres:fn.results=#[.tmp 4]:=by rw [e2] at hr;rw [←hr]
 refine ⟨hbod,hokB,fun h=>(by cases h),fun x y hxy w D β vs o n he hg hon hn' hiv=>?_⟩
 have hxy:Tryz.within m x.2.1=some y:=hxy
 have hkp:BJ En.Dop.D4 w (AG o β) D:=⟨hiv,fun k hk=>⟨hg.Cq k hk,fun ⟨i,b,hi,hik⟩=>hg.off i b k hi hik hk⟩⟩
 have hlen:vs.length=2:=En.Spec.AR he
 have hs0:=Bl.s0 m x.2.1 vs o n he
 have key: ∀ s:Hf,FR m s=some y→(Yh (Bl.E m) 3000 ⟨Bl.as,CV⟩ [1,2] 1 2 999998 [[0,0,1,1,1],[0,1,1,1,1]] [.code [] (AM Tryz.prog 180)] ⟨A0 0 vs,o,n,27⟩).eval (fun _ _=>none)=some (((),(),()),(s,((),()),()))→Calls Tryz.prog 180 (AA β vs).toArray w (CX (Bl.c m) y w D β o):=fun s hs hev=>
  VC.Nk (M:=0+3000) (bn:=1) hf hb (hn.trans e1) (by omega) hon hg (TC hE (k1:=[.code [0,1,1,1] w4,.code [1,1,1,1] w5]) (by kernel_rfl) (by kernel_rfl) (by omega) (k0:=[.code [] (AM Tryz.prog 180)]) hev hkp (fun _ _ _ _ _ h=>h) hn' rfl (fun z hz=>by
   simp only [List.mem_cons,List.not_mem_nil,or_false] at hz
   subst hz;rfl) fun β2 a W hag hd hh=>Bl.tail (x:=x) hE hkp hres (hag 0 (by omega)) hs hd hh)
 unfold Tryz.within at hxy
 split at hxy
 case isFalse=>cases hxy
 rename_i h1
 rw [if_pos h1] at hs0
 split at hxy
 ·rename_i h2
  rw [if_pos h2] at hs0
  obtain ⟨z,hz,hy⟩:=Option.bind_eq_some_iff.1 hxy
  rw [hz] at hs0
  exact key _ hy hs0
 ·rename_i h2
  rw [if_neg h2] at hs0
  exact key _ hxy hs0
end Go.Proofs
/- Functions of the seat, lifted: plan, model, contract, equations. Written by a program (Lift) that ran the layer's evaluation; Lean checks each line. -/
set_option maxRecDepth 100000
set_option maxHeartbeats 4000000
namespace Go.Proofs.Tryz
open Go Go.En
def KS.p:Ak:=⟨[],0,⟨[],[]⟩,⟨[.own 1 9],[]⟩,true,[],[]⟩
theorem KS.ok:AH Dop.D4 prog 262 KS.p=true:=by kernel_rfl
def DU.p:Ak:=⟨[],1,⟨[.al 0 0],[PS.b0]⟩,⟨[.fd (.int .i64)],[PS.b0]⟩,false,[],[]⟩
theorem DU.ok:AH Dop.D4 prog 205 DU.p=true:=by kernel_rfl
def C2.p:Ak:=⟨[],1,⟨[.al 0 0,.fn 1000234 [(0,0)]],[PS.b0]⟩,⟨[.fd (.int .i64)],[PS.b0]⟩,false,[],[]⟩
@[reducible] def Dl.q3:Cut:=⟨[[0,0,0,0,1,0,1,1],[0,1,0,0,1,0,1,1],[2,0,0,1,0,1,1],[1,0],[0,1,1,1]],[0,3,10,11,12],1,⟨[.al 0 0,.fd (.int .i64),.own 1 9,.fd (.int .i64),.fd (.int .i64)],[PS.b0]⟩⟩
def Dl.p:Ak:=⟨[(3,Dl.q3)],1,⟨[.al 0 0],[PS.b0]⟩,⟨[.fd (.int .i64)],[PS.b0]⟩,false,[],[]⟩
theorem Dl.ok:AH Dop.D4 prog 234 Dl.p=true:=by kernel_rfl
def I4.p:Ak:=⟨[],1,⟨[.al 0 0],[PS.b0]⟩,⟨[.fd (.int .i64)],[PS.b0]⟩,false,[],[]⟩
theorem I4.ok:AH Dop.D4 prog 254 I4.p=true:=by kernel_rfl
@[reducible] def Cv.q4:Cut:=⟨[[0,0,0,0,0,0,1,1,1,0,1],[0,1,0,0,0,0,1,1,1,0,1],[0,1,0,0,0,1,1,1,0,1],[1,1],[2,0,0,1,1,1,0,1],[1,0],[3,0,1]],[0,1,5],1,⟨[.al 0 0,.fd (.int .i64),.fd (.int .i64)],[PS.b0]⟩⟩
@[reducible] def Cv.q5:Cut:=⟨[[0,0,0,0,1,0,0,0,0,1,1,1,0,1],[0,1,0,0,1,0,0,0,0,1,1,1,0,1],[2,0,0,1,0,0,0,0,1,1,1,0,1],[1,2],[0,1,0,0,0,1,1,1,0,1],[1,1],[2,0,0,1,1,1,0,1],[1,0],[3,0,1]],[0,1,5,24,25,26],1,⟨[.al 0 0,.fd (.int .i64),.fd (.int .i64),.own 1 9,.fd (.int .i64),.fd (.int .i64)],[PS.b0]⟩⟩
def Cv.p:Ak:=⟨[(4,Cv.q4),(5,Cv.q5)],1,⟨[.al 0 0,.fd (.int .i64)],[PS.b0]⟩,⟨[.fd (.int .i64)],[PS.b0]⟩,false,[],[]⟩
theorem Cv.ok:AH Dop.D4 prog 261 Cv.p=true:=by kernel_rfl
@[reducible] def DV.q3:Cut:=⟨[[0,0,0,0,1,0,1,1],[0,1,0,0,1,0,1,1],[2,0,0,1,0,1,1],[1,0],[0,1,1,1]],[0,3,13,14,15],1,⟨[.al 0 0,.fd (.int .i64),.own 1 9,.fd (.int .i64),.fd (.int .i64)],[PS.b0]⟩⟩
def DV.p:Ak:=⟨[(3,DV.q3)],1,⟨[.al 0 0],[PS.b0]⟩,⟨[.fd (.int .i64)],[PS.b0]⟩,false,[(19,⟨[(0,true),(1,false),(2,true),(3,true),(4,true),(5,true),(6,false),(7,true),(8,true),(9,true),(10,true),(11,false),(12,false),(13,true),(14,true)],[1000000],[0,1,3,7,15,31,63,127,7,263,775,1799,3847,8191,16383],false⟩)],[]⟩
theorem DV.ok:AH Dop.D4 prog 263 DV.p=true:=by kernel_rfl
def CF.p:Ak:=⟨[],1,⟨[.al 0 0,.fn 1000263 [(0,0)]],[PS.b0]⟩,⟨[.fd (.int .i64)],[PS.b0]⟩,false,[],[]⟩
def I5.p:Ak:=⟨[],1,⟨[.al 0 0],[PS.b0]⟩,⟨[.fd (.int .i64)],[PS.b0]⟩,false,[(13,⟨[(0,true),(1,false),(2,true),(3,false),(4,true)],[5,1000004],[0,1,0,4,15,31],false⟩)],[]⟩
theorem I5.ok:AH Dop.D4 prog 265 I5.p=true:=by kernel_rfl
@[reducible] def Dn.q2:Cut:=⟨[[0,0,0,0,0,0,1,1],[0,1,0,0,0,0,1,1],[0,1,0,0,0,1,1],[2,0,0,0,1,1],[1,0],[0,1,1,1]],[0,3],1,⟨[.al 0 0,.own 0 3],[PS.b0]⟩⟩
def Dn.p:Ak:=⟨[(2,Dn.q2)],1,⟨[.al 0 0],[PS.b0]⟩,⟨[.fd (.int .i64)],[PS.b0]⟩,false,[],[]⟩
theorem Dn.ok:AH Dop.D4 prog 266 Dn.p=true:=by kernel_rfl
@[reducible] def DW.q1:Cut:=⟨[[0,0,0,0,0,0,1],[0,1,0,0,0,0,1],[0,1,0,0,0,1],[2,0,0,0,1],[1,0],[0,1,1]],[0,1],1,⟨[.al 0 0,.fd (.int .i64)],[PS.b0]⟩⟩
def DW.p:Ak:=⟨[(1,DW.q1)],1,⟨[.al 0 0,.fd (.int .i64)],[PS.b0]⟩,⟨[.fd (.int .i64)],[PS.b0]⟩,false,[(12,⟨[(0,true),(1,true),(2,true),(3,false),(4,true),(5,true),(6,true),(7,false),(8,true),(9,false),(10,false),(11,false),(12,true)],[],[0,1,3,7,0,16,48,112,240,511,1023,2047,4095],false⟩),(17,⟨[(0,true),(1,true),(2,true),(3,false),(4,true),(5,true),(6,true),(7,false),(8,true),(9,false),(10,false),(11,false),(12,true),(13,false),(14,true)],[15,1000006],[0,1,3,7,0,16,48,112,240,511,1023,2047,0,4096,16383,32767],false⟩)],[]⟩
theorem DW.ok:AH Dop.D4 prog 264 DW.p=true:=by kernel_rfl
def C3.p:Ak:=⟨[],1,⟨[.al 0 0,.fn 1000254 [(0,0)]],[PS.b0]⟩,⟨[.fd (.int .i64)],[PS.b0]⟩,false,[],[]⟩
@[reducible] def An.T:Type:=(((Unit×Unit)×(PS×Unit))→Option ((Int×Unit)×(PS×Unit)))×(((Unit×Unit×Unit)×(PS×Unit))→Option ((Int×Unit)×(PS×Unit)))×(((Unit×Unit)×(PS×Unit))→Option ((Int×Unit)×(PS×Unit)))×(((Unit×Unit)×(PS×Unit))→Option ((Int×Unit)×(PS×Unit)))×(((Unit×Int×Unit)×(PS×Unit))→Option ((Int×Unit)×(PS×Unit)))×(((Unit×Unit)×(PS×Unit))→Option ((Int×Unit)×(PS×Unit)))×(((Unit×Unit×Unit)×(PS×Unit))→Option ((Int×Unit)×(PS×Unit)))×(((Unit×Unit)×(PS×Unit))→Option ((Int×Unit)×(PS×Unit)))×(((Unit×Unit)×(PS×Unit))→Option ((Int×Unit)×(PS×Unit)))×(((Unit×Int×Unit)×(PS×Unit))→Option ((Int×Unit)×(PS×Unit)))×(((Unit×Unit×Unit)×(PS×Unit))→Option ((Int×Unit)×(PS×Unit)))×Unit
end Go.Proofs.Tryz
/- Functions of the seat, lifted: plan, model, contract, equations. Written by a program (Lift) that ran the layer's evaluation; Lean checks each line. -/
set_option maxRecDepth 100000
set_option maxHeartbeats 4000000
namespace Go.Proofs.Tryz
open Go Go.En
def I1.p:Ak:=⟨[],1,⟨[.al 0 0],[PS.b0]⟩,⟨[.fd (.int .i64)],[PS.b0]⟩,false,[],[]⟩
theorem I1.ok:AH Dop.D4 prog 206 I1.p=true:=by kernel_rfl
def I2.p:Ak:=⟨[],1,⟨[.al 0 0,.fd .str],[PS.b0]⟩,⟨[.fd (.int .i64)],[PS.b0]⟩,false,[],[]⟩
theorem I2.ok:AH Dop.D4 prog 207 I2.p=true:=by kernel_rfl
def Lv.p:Ak:=⟨[],1,⟨[.al 0 0],[PS.b0]⟩,⟨[.fd .bool],[PS.b0]⟩,false,[(1,⟨[(0,true),(1,false),(2,true),(3,true),(4,true),(5,true),(6,true),(7,true),(8,false),(9,true),(10,true),(11,true),(12,true),(13,false),(14,false),(15,true),(16,true),(17,true),(18,true),(19,true),(20,true),(21,false),(22,true),(23,true),(24,true),(25,false),(26,true),(27,false),(28,false),(29,false),(30,true),(31,true),(32,true)],[1000000],[0,1,3,7,15,31,63,127,255,511,31,1055,3103,7199,15391,32767,65535,131071,262143,524287,1048575,2097151,262143,4456447,12845055,29622271,63176703,134217727,268435455,536870911,1073741823,2147483647,4294967295],false⟩)],[]⟩
theorem Lv.ok:AH Dop.D4 prog 208 Lv.p=true:=by kernel_rfl
@[reducible] def GR.q4:Cut:=⟨[[0,0,0,0,0,0,1,1,1,1],[0,1,0,0,0,0,1,1,1,1],[0,1,0,0,0,1,1,1,1],[2,0,0,0,1,1,1,1],[1,0],[0,1,1,1,1,1]],[0,3,4],2,⟨[.al 0 0,.al 1 0,.own 0 3],[PS.b0,⟨1,56,[.st 5],false⟩]⟩⟩
def GR.p:Ak:=⟨[(4,GR.q4)],1,⟨[.al 0 0],[PS.b0]⟩,⟨[.fd (.int .i64)],[PS.b0]⟩,false,[],[]⟩
theorem GR.ok:AH Dop.D4 prog 98 GR.p=true:=by kernel_rfl
def Fu.p:Ak:=⟨[],1,⟨[.al 0 0],[PS.b0]⟩,⟨[.fd (.int .i64)],[PS.b0]⟩,false,[],[]⟩
theorem Fu.ok:AH Dop.D4 prog 145 Fu.p=true:=by kernel_rfl
def C1.p:Ak:=⟨[],1,⟨[.al 0 0,.fn 1000181 [(0,0)]],[PS.b0]⟩,⟨[.fd (.int .i64)],[PS.b0]⟩,false,[],[]⟩
@[reducible] def Cl.iH:Cut:=⟨[[0,0,1,1,1],[0,1,1,1,1]],[0,3],2,⟨[.al 0 0,.al 1 0],[PS.b0,⟨1,56,[.st 5],false⟩]⟩⟩
@[reducible] def Cl.WY:Cut:=⟨[[0,1,1,1,1,0,1,1,1,1,1,0,0,1,1],[1,0],[0,1,1,1]],[0,3],2,⟨[.al 0 0,.al 1 0],[PS.b0,⟨1,56,[.st 5],false⟩]⟩⟩
@[reducible] def Cl.iG:Cut:=⟨[[0,0,1,1,1,0,1,1,1,1,1,1,1,1,1,1,1,1,1,1,1,1,1,1,1,1,1,1,1,1,1,0,0,1,1],[0,1,1,1,1,0,1,1,1,1,1,1,1,1,1,1,1,1,1,1,1,1,1,1,1,1,1,1,1,1,1,0,0,1,1],[1,0],[0,1,1,1]],[0,3,4],2,⟨[.al 0 0,.al 1 0,.fd (.int .i64)],[PS.b0,⟨1,56,[.st 5],false⟩]⟩⟩
def Cl.p:Ak:=⟨[(64,Cl.iH),(13,Cl.WY),(53,Cl.iG)],1,⟨[.al 0 0],[PS.b0]⟩,⟨[.fd (.int .i64)],[PS.b0]⟩,false,[],[]⟩
theorem Cl.ok:AH Dop.D4 prog 181 Cl.p=true:=by kernel_rfl
@[reducible] def Gj.T:Type:=(((Unit×Unit)×(PS×Unit))→Option ((Int×Unit)×(PS×Unit)))×(((Unit×Unit)×(PS×Unit))→Option ((Int×Unit)×(PS×Unit)))×(((Unit×Unit×Unit)×(PS×Unit))→Option ((Int×Unit)×(PS×Unit)))×(((Unit×Unit)×(PS×Unit))→Option ((Int×Unit)×(PS×Unit)))×Unit
@[reducible] def Hp.q7:Cut:=⟨[[0,0,0,0,0,0,1,1,1,1,0,1,0,1,1],[0,1,0,0,0,0,1,1,1,1,0,1,0,1,1],[0,1,0,0,0,1,1,1,1,0,1,0,1,1],[2,0,0,0,1,1,1,1,0,1,0,1,1],[1,0],[0,1,1,1,1,1,0,1,0,1,1],[0,1,1,1]],[0,3,4],2,⟨[.al 0 0,.al 1 0,.own 0 3],[PS.b0,⟨1,56,[.st 5],false⟩]⟩⟩
@[reducible] def Hp.hU:Cut:=⟨[[0,0,0,0,0,0,1,0,1,0,1,1,1,1,1],[0,1,0,0,0,0,1,0,1,0,1,1,1,1,1],[0,1,0,0,0,1,0,1,0,1,1,1,1,1],[2,0,0,0,1,0,1,0,1,1,1,1,1],[1,2],[0,1,1,0,1,0,1,1,1,1,1],[0,1,1,1,1,1,1]],[0,3,7],2,⟨[.al 0 0,.al 1 0,.own 0 3],[PS.b0,⟨1,56,[.st 5],false⟩]⟩⟩
def Hp.p:Ak:=⟨[(7,Hp.q7),(21,Hp.hU)],1,⟨[.al 0 0],[PS.b0]⟩,⟨[.fd (.int .i64)],[PS.b0]⟩,false,[(2,⟨[(0,true),(1,false),(2,true),(3,true),(4,true),(5,true),(6,false),(7,true),(8,true),(9,true),(10,true),(11,false),(12,false),(13,true),(14,true),(15,true),(16,true),(17,true),(18,true),(19,false),(20,true),(21,true),(22,true),(23,false),(24,true),(25,false),(26,false),(27,false),(28,true),(29,true)],[1000000],[0,1,3,7,15,31,63,127,7,263,775,1799,3847,8191,16383,32767,65535,131071,262143,524287,65535,1114111,3211263,7405567,15794175,33554431,67108863,134217727,268435455,536870911],false⟩),(18,⟨[(0,true),(1,false),(2,true),(3,false),(4,true),(5,false),(6,true),(7,false),(8,true)],[9,1000003],[0,1,0,4,0,16,51,115,255,511],false⟩)],[]⟩
theorem Hp.ok:AH Dop.D4 prog 46 Hp.p=true:=by kernel_rfl
@[reducible] def m20.q3:Cut:=⟨[[0,0,0,0,0,1,0,1,1],[0,1,0,0,0,1,0,1,1],[0,1,0,0,1,0,1,1],[2,0,0,1,0,1,1],[1,0],[0,1,1,1]],[2,5,6],2,⟨[.al 0 0,.al 1 0,.fd (.int .i64)],[⟨0,41,[.own 5 56,.own 6 93,.fd (.int .i64)],false⟩,PS.b1]⟩⟩
@[reducible] def m20.q7:Cut:=⟨[[0,0,0,0,0,0,1,1,1,1],[0,1,0,0,0,0,1,1,1,1],[0,1,0,0,0,1,1,1,1],[2,0,0,0,1,1,1,1],[1,2],[0,1,1,1,1,1]],[2,5,7],2,⟨[.al 0 0,.al 1 0,.own 0 3],[⟨0,41,[.own 5 56,.own 6 93,.fd (.int .i64)],false⟩,PS.b1]⟩⟩
def m20.p:Ak:=⟨[(3,m20.q3),(7,m20.q7)],0,⟨[.fd (.sl 4)],[]⟩,⟨[.st 7,.fd (.int .i64),.fd (.int .i64)],[]⟩,false,[(11,⟨[(0,true),(1,true),(2,true),(3,true),(4,false),(5,true),(6,true),(7,true),(8,false),(9,false),(10,true),(11,true)],[1000002],[0,0,2,6,14,0,32,96,224,1,543,2047],false⟩)],[]⟩
theorem m20.ok:AH Dop.D4 prog 20 m20.p=true:=by kernel_rfl
def Vx.p:Ak:=⟨[],0,⟨[.fd .str],[]⟩,⟨[.st 7,.fd (.int .i64),.fd (.int .i64)],[]⟩,false,[],[]⟩
theorem Vx.ok:AH Dop.D4 prog 41 Vx.p=true:=by kernel_rfl
end Go.Proofs.Tryz
