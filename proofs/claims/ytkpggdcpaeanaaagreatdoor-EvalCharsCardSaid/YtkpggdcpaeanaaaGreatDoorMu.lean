/- The awakes of layers 5 and 6, run by the kernel: contracts without a question. -/
import Derived.Test.YtkpggdcpaeanaaaGreatDoorTwE
import Derived.IntWalk
import Derived.Lib.ItoaMem
set_option linter.all false
set_option maxRecDepth 10000000
namespace Go.En
theorem ZW {S:Am} {P:Program} {f bn:Nat} {sp rs:Spec} {flat:Bool} {m:sp.D S->Option (rs.D S)} {g:sp.D S->rs.D S} (h:Bw.Holds P ⟨f,bn,sp,rs,flat,.opt m⟩) (hm: ∀ x,m x=some (g x)):Bw.Holds P ⟨f,bn,sp,rs,flat,.Kb g⟩:=
 ⟨h.Bm,h.bound,h.flat,fun x y hxy=>h.calls x y (by show m x=some y;rw [hm];exact congrArg some hxy)⟩
end Go.En
namespace Go.Proofs
open Go Go.En
theorem Tryz.V2.run:Tryz.Xw.k=some ((true,()),()):=by kernel_rfl
def Tryz.V2.c:Bw En.Dop.D4:=⟨29,0,⟨[],[]⟩,⟨[.fd .bool],[]⟩,true,.Kb fun _=>((true,()),())⟩
theorem Tryz.V2.holds:Tryz.V2.c.Holds Tryz.prog:=ZW Tryz.Xw.Kh fun _=>Tryz.V2.run
end Go.Proofs
set_option maxRecDepth 100000
set_option maxHeartbeats 4000000
namespace Go.Proofs.Tryz
open Go Go.En
def QH.p:Ag:=⟨[],0,⟨[.fd (.int .i64)],[]⟩,⟨[.fd (.int .i64)],[]⟩,true,[],[]⟩
theorem QH.ok:AF Dop.D4 prog 67 QH.p=true:=by kernel_rfl
def N4.p:Ag:=⟨[],0,⟨[.fd (.int .i64)],[]⟩,⟨[.fd (.int .i64)],[]⟩,true,[],[]⟩
theorem N4.ok:AF Dop.D4 prog 39 N4.p=true:=by kernel_rfl
abbrev IK.q3:Cut:=⟨[[0,0,0,0,0,1,0,1,1],[0,1,0,0,0,1,0,1,1],[0,1,0,0,1,0,1,1],[2,0,0,1,0,1,1],[1,0],[0,1,1,1]],[0,3,4],0,⟨[.fd (.int .i64),.fd (.int .i64),.fd (.int .i64)],[]⟩⟩
def IK.p:Ag:=⟨[(3,IK.q3)],0,⟨[.fd (.int .i64)],[]⟩,⟨[.fd (.int .i64)],[]⟩,true,[],[]⟩
theorem IK.ok:AF Dop.D4 prog 68 IK.p=true:=by kernel_rfl
abbrev HY.q3:Cut:=⟨[[0,0,0,0,0,1,0,1,1],[0,1,0,0,0,1,0,1,1],[0,1,0,0,1,0,1,1],[2,0,0,1,0,1,1],[1,0],[0,1,1,1]],[1,5,6],0,⟨[.fd (.int .i64),.fd (.int .i64),.fd (.int .i64)],[]⟩⟩
def HY.p:Ag:=⟨[(3,HY.q3)],0,⟨[.fd (.int .i64),.fd (.int .i64)],[]⟩,⟨[.fd (.int .i64)],[]⟩,true,[],[]⟩
theorem HY.ok:AF Dop.D4 prog 119 HY.p=true:=by kernel_rfl
abbrev Q7.q3:Cut:=⟨[[0,0,0,0,0,1,0,1,1],[0,1,0,0,0,1,0,1,1],[0,1,0,0,1,0,1,1],[2,0,0,1,0,1,1],[1,0],[0,1,1,1]],[0,1,2,7,8],0,⟨[.fd (.int .i64),.fd (.int .i64),.fd (.int .i64),.fd (.int .i64),.fd (.int .i64)],[]⟩⟩
def Q7.p:Ag:=⟨[(3,Q7.q3)],0,⟨[.fd (.int .i64),.fd (.int .i64),.fd (.int .i64)],[]⟩,⟨[.fd (.int .i64)],[]⟩,true,[],[]⟩
theorem Q7.ok:AF Dop.D4 prog 69 Q7.p=true:=by kernel_rfl
def S5.p:Ag:=⟨[],0,⟨[.fd (.int .i64),.fd (.int .i64)],[]⟩,⟨[.fd (.int .i64)],[]⟩,true,[],[]⟩
theorem S5.ok:AF Dop.D4 prog 70 S5.p=true:=by kernel_rfl
def S6.p:Ag:=⟨[],0,⟨[.fd .bool],[]⟩,⟨[.fd (.int .i64)],[]⟩,true,[],[]⟩
theorem S6.ok:AF Dop.D4 prog 71 S6.p=true:=by kernel_rfl
abbrev Pm.mu:Cut:=⟨[[0,0,1,1,1,1,1,1,1],[0,1,1,1,1,1,1,1,1]],[11],0,⟨[.fd (.int .i64)],[]⟩⟩
def Pm.p:Ag:=⟨[(48,Pm.mu)],0,⟨[.fd (.int .i64),.fd (.int .i64),.fd (.int .i64)],[]⟩,⟨[.fd (.int .i64),.fd .bool],[]⟩,true,[(20,⟨[(0,true),(1,false),(2,true),(3,false),(4,true),(5,false),(6,true),(7,true),(8,false),(9,true),(10,true),(11,true)],[],[0,1,0,7,0,31,63,0,191,511,1023,2047],false⟩)],[]⟩
theorem Pm.ok:AF Dop.D4 prog 40 Pm.p=true:=by kernel_rfl
def m16.p:Ag:=⟨[],0,⟨[.fd (.int .i64),.fd (.int .i64)],[]⟩,⟨[.fd .bool],[]⟩,true,[],[]⟩
theorem m16.ok:AF Dop.D4 prog 16 m16.p=true:=by kernel_rfl
end Go.Proofs.Tryz
set_option maxHeartbeats 1000000
namespace Go.Proofs.Tryz
open Go Go.En
theorem dk {p:Prop} [Decidable p] (h:decide p=true):p:=of_decide_eq_true h
theorem AK {α:Type} {b:Bool} {x:Option α} (h:b=true):ck b x=x:=by rw [h];rfl
theorem Ai {α:Type} {b:Bool} {x y:α} (h:b=true):ci b x y=x:=by rw [h];rfl
theorem AL {α:Type} {b:Bool} {x y:α} (h:b=false):ci b x y=y:=by rw [h];rfl
theorem Ae {α β:Type} {a:α} {k:(α×Unit)×Unit->Option β}:Option.bind (CO a) k=k ((a,()),()):=rfl
theorem F9 {α δ β:Type} {a:α} {x:δ} {k:(α×Unit)×(δ×Unit)->Option β}:Option.bind (CR a x) k=k ((a,()),(x,())):=rfl
theorem Cy {α δ β:Type} {a:α} {x:δ} {k:(α×δ×Unit)×Unit->Option β}:Option.bind (GP a x) k=k ((a,x,()),()):=rfl
theorem Cx {α δ ε β:Type} {a:α} {x:δ} {y:ε} {k:(α×Unit)×(δ×ε×Unit)->Option β}:Option.bind (Ah a x y) k=k ((a,()),(x,y,())):=rfl
abbrev st (p:Dop.IF) (mem:List Int) (sp:Int) (inp out:List Int) (fu:Int):ER:=(p,mem,sp,inp,out,fu,0,0,0,(),())
def nd (p:Dop.IF) (i:Int):Dop.AU:=List.getD p.nodes i.toNat Dop.d5
abbrev XI (p:Dop.IF) (i:Int):Prop:=0<=i/\i<I p.nodes.length
def EX (d:Nat) (i:Int) (s:ER) (f:EF) (v:Int) (s':ER) (f':EF):Prop:= ∀ n,BD.kr (Bd.kR (n+d)) i s f=Ah v s' f'
def ST (d:Nat) (i:Int) (s:ER) (f:EF) (h:Int) (s':ER) (f':EF):Prop:= ∀ n,Cn.kr (Bd.kR (n+d)) i s f=Ah h s' f'
theorem ST.mono {d e:Nat} {i v:Int} {s s':ER} {f f':EF} (h:ST d i s f v s' f') (hd:d<=e):ST e i s f v s' f':=fun n=>by
 have:=h (n+(e -d));rwa [show n+(e -d)+d=n+e by omega] at this
theorem Qp (n:Nat):Bd.kR (n+1)=Bd.kS (Bd.kR n):=rfl
section
variable {p:Dop.IF} {mem:List Int} {sp:Int} {inp out:List Int} {fu:Int} {fr:EF} {i:Int} {d:Nat}
theorem V6 (h0:0<fu) (h1:fu<=1000000):FK.k (st p mem sp inp out fu)=CR true (st p mem sp inp out (fu -1)):=by
 unfold FK.k
 rw [AL (by rfl),AL (decide_eq_false (show ¬ fu=0 by omega)),AK (Av.2 (show -9223372036854775808<=fu -1/\fu -1<=9223372036854775807 by omega))]
end
theorem jI {α:Type} [NN α] (f:α->α):Cw f 1000000=f (Cw f 999999):=rfl
section
variable (r:Bd.T) (i:Int) (x:Dop.AU) (s:ER) (f:EF)
theorem OR:BD.kr (Bd.kS r) i s f=BD.kf r i s f:=rfl
theorem ib:ES.kr (Bd.kS r) i s f=ES.kf r i s f:=rfl
theorem XZ:Fz.kr (Bd.kS r) x s f=Fz.kf r x s f:=rfl
theorem bS:Cn.kr (Bd.kS r) i s f=Cn.kf r i s f:=rfl
theorem XY:BH.kr (Bd.kS r) x s f=BH.kf r x s f:=rfl
theorem ic (l:List Int):m64.kr (Bd.kS r) i l s=m64.kf r i l s:=rfl
theorem Zv {p:Dop.IF} {mem:List Int} {sp:Int} {inp out:List Int} {fu:Int} (h0:0<fu) (h1:fu<=1000000) (hi:XI p i) (hk:5<(nd p i).kind):
  BD.kf r i (st p mem sp inp out fu) f=Ex.kB r (BD.kL r 999999) (nd p i).kind (st p mem sp inp out (fu -1)) f (nd p i):=by
 unfold BD.kf BD.k0
 rw [V6 h0 h1,F9]
 dsimp only
 rw [show List.getD (ER.p (st p mem sp inp out (fu -1))).nodes i.toNat Dop.d5=nd p i from rfl,AL (by rfl),AK (decide_eq_true hi),AL (decide_eq_false (by omega)),AL (decide_eq_false (by omega)),AL (decide_eq_false (by omega)),AL (decide_eq_false (by omega)),AL (decide_eq_false (by omega))]
 unfold BD.kL
 rw [jI]
 rfl
end
section
variable {p:Dop.IF} {mem:List Int} {sp:Int} {inp out:List Int} {fu:Int} {fr:EF} {i:Int} {d:Nat}
theorem EX.num (h0:0<fu) (h1:fu<=1000000) (hi:XI p i) (hk:(nd p i).kind=1):EX 1 i (st p mem sp inp out fu) fr (nd p i).n (st p mem sp inp out (fu -1)) fr:=fun n=>by
 rw [Qp,OR]
 unfold BD.kf BD.k0
 rw [V6 h0 h1,F9]
 dsimp only
 unfold nd at hk ⊢
 rw [AL (by rfl),AK (decide_eq_true hi),Ai (decide_eq_true hk)]
theorem EX.lU (h0:0<fu) (h1:fu<=1000000) (hi:XI p i) (hk:(nd p i).kind=2) (hr:0<=(nd p i).n/\(nd p i).n<I fr.An.length):EX 1 i (st p mem sp inp out fu) fr (fr.An.getD (nd p i).n.toNat 0) (st p mem sp inp out (fu -1)) fr:=fun n=>by
 rw [Qp,OR]
 unfold BD.kf BD.k0
 rw [V6 h0 h1,F9]
 dsimp only
 unfold nd at hk hr ⊢
 rw [AL (by rfl),AK (decide_eq_true hi),AL (by rw [hk];rfl),Ai (decide_eq_true hk),AK (decide_eq_true hr),AK (decide_eq_true (show (List.getD p.nodes i.toNat Dop.d5).n.toNat<fr.An.length by simp only [I] at hr;omega))]
variable {v w:Int} {m1:List Int} {sp1:Int} {i1 o1:List Int} {u1:Int} {f1:EF} {m2:List Int} {sp2:Int} {i2 o2:List Int} {u2:Int} {f2 fr':EF}
theorem sub {n:Nat} {s s':ER} (ha:EX d i s fr v s' f1):ES.kr (Bd.kR (n+d+1)) i s fr=some ((v,()),(((),()),(s',(((),()),(f1,()))))):=by
 rw [Qp,ib]
 unfold ES.kf
 rw [ha n,Cx]
theorem EX.eW (h0:0<fu) (h1:fu<=1000000) (hi:XI p i) (hk:(nd p i).kind=6) (ha:EX d (nd p i).a (st p mem sp inp out (fu -1)) fr v (st p m1 sp1 i1 o1 u1) f1) (hr:0<=(nd p i).n/\(nd p i).n<I f1.An.length):
  EX (d+2) i (st p mem sp inp out fu) fr v (st p m1 sp1 i1 o1 u1) (EF.Ym f1 (f1.An.set (nd p i).n.toNat v)):=fun n=>by
 rw [show n+(d+2)=n+d+1+1 from rfl,Qp,OR,Zv _ _ _ h0 h1 hi (by omega)]
 unfold Ex.kB
 dsimp only
 rw [Ai (decide_eq_true hk),sub ha,Option.bind_some]
 dsimp only
 rw [Ai (show decide ((st p m1 sp1 i1 o1 u1).end_=0)=true from rfl),AK (decide_eq_true hr),AK (decide_eq_true (show (nd p i).n.toNat<f1.An.length by simp only [I] at hr;omega))]
theorem EX.one (h0:0<fu) (h1:fu<=1000000) (hi:XI p i) (hk:(nd p i).kind=7) (ha:EX d (nd p i).a (st p mem sp inp out (fu -1)) fr v (st p m1 sp1 i1 o1 u1) f1) (ho:BJ.k (nd p i).n v 0=GP w true):
  EX (d+2) i (st p mem sp inp out fu) fr w (st p m1 sp1 i1 o1 u1) f1:=fun n=>by
 rw [show n+(d+2)=n+d+1+1 from rfl,Qp,OR,Zv _ _ _ h0 h1 hi (by omega)]
 unfold Ex.kB
 dsimp only
 rw [AL (decide_eq_false (by omega)),Ai (decide_eq_true hk),Ai (decide_eq_true hk),Qp,XZ]
 unfold Fz.kf
 rw [ha n,Cx]
 dsimp only
 rw [AL (decide_eq_false (by omega)),AL (show (!decide ((st p _ _ _ _ _).end_=0))=false from rfl),ho,Cy]
 rfl
theorem EX.two (h0:0<fu) (h1:fu<=1000000) (hi:XI p i) (hk:(nd p i).kind=8) {x:Int} (ha:EX d (nd p i).a (st p mem sp inp out (fu -1)) fr v (st p m1 sp1 i1 o1 u1) f1) (hb:EX d (nd p i).b (st p m1 sp1 i1 o1 u1) f1 w (st p m2 sp2 i2 o2 u2) f2) (ho:BJ.k (nd p i).n v w=GP x true):
  EX (d+2) i (st p mem sp inp out fu) fr x (st p m2 sp2 i2 o2 u2) f2:=fun n=>by
 rw [show n+(d+2)=n+d+1+1 from rfl,Qp,OR,Zv _ _ _ h0 h1 hi (by omega)]
 unfold Ex.kB
 dsimp only
 rw [AL (decide_eq_false (by omega)),AL (decide_eq_false (by omega)),Ai (decide_eq_true hk),Qp,XZ]
 unfold Fz.kf
 rw [ha n,Cx]
 dsimp only
 rw [Ai (decide_eq_true hk),hb n,Cx]
 dsimp only
 rw [AL (show (!decide ((st p _ _ _ _ _).end_=0))=false from rfl),ho,Cy]
 rfl
variable {h:Int} {s s' s1 s2:ER} {x:Dop.AU} {l:List Int} {j c:Nat}
def DO (d:Nat) (x:Dop.AU) (s:ER) (f:EF) (h:Int) (s':ER) (f':EF):Prop:= ∀ n,BH.kr (Bd.kR (n+d)) x s f=Ah h s' f'
theorem ST.of (h0:0<fu) (h1:fu<=1000000) (hi:XI p i) (hs:EF.KX fr=0) (hd:DO d (nd p i) (st p mem sp inp out (fu -1)) fr h (st p m1 sp1 i1 o1 u1) f1):ST (d+1) i (st p mem sp inp out fu) fr h (st p m1 sp1 i1 o1 u1) f1:=fun n=>by
 rw [show n+(d+1)=n+d+1 from rfl,Qp,bS]
 unfold Cn.kf
 rw [AL (by rw [hs];rfl),Ai (decide_eq_true hs),V6 h0 h1,F9]
 dsimp only
 rw [show List.getD (ER.p (st p mem sp inp out (fu -1))).nodes i.toNat Dop.d5=nd p i from rfl,AL (by rfl),AK (decide_eq_true hi),hd n]
 rfl
theorem DO.expr (hk:x.kind=30) (ha:0<=x.a) (he:EX d x.a s fr v s' f1):DO (d+1) x s fr 0 s' f1:=fun n=>by
 rw [show n+(d+1)=n+d+1 from rfl,Qp,XY]
 unfold BH.kf BH.k0
 dsimp only
 rw [Ai (decide_eq_true hk),Ai (decide_eq_true ha),he n]
 rfl
theorem ia (r:Bd.T) (hk:34<x.kind):BH.kf r x s fr=Gn.kB r (BH.kL r 999999) x.kind s fr x:=by
 unfold BH.kf BH.k0
 dsimp only
 rw [AL (decide_eq_false (by omega)),AL (decide_eq_false (by omega)),AL (decide_eq_false (by omega)),AL (decide_eq_false (by omega)),AL (decide_eq_false (by omega))]
 rfl
theorem DO.Ec (hk:x.kind=37) (ha:0<=x.a) (he:EX d x.a s fr v s' f1):DO (d+1) x s fr 3 s' (EF.Yo f1 v):=fun n=>by
 rw [show n+(d+1)=n+d+1 from rfl,Qp,XY,ia _ (by omega)]
 unfold Gn.kB
 dsimp only
 rw [AL (decide_eq_false (by omega)),AL (decide_eq_false (by omega)),Ai (decide_eq_true hk),Ai (decide_eq_true ha),he n]
 rfl
def BL (d c:Nat) (l:List Int) (j:Nat) (s:ER) (f:EF) (h:Int) (s':ER) (f':EF):Prop:= ∀ n N,(Cw (BH.kS (Bd.kR (n+d))) (N+c)).2.2.2.1 l (I l.length) (I j) s f=Ah h s' f'
theorem BL.cons (hj:j<l.length) (hl:l.length<1000000) (hd:ST d (l.getD j 0) s fr 0 s1 f1) (hr:BL d c l (j+1) s1 f1 h s' f2):BL d (c+1) l j s fr h s' f2:=fun n N=>by
 show Fh.kB (Bd.kR (n+d)) (Cw (BH.kS (Bd.kR (n+d))) (N+c)) l (I l.length) (I j) s fr=_
 unfold Fh.kB
 rw [Ai (decide_eq_true (by simp only [I];omega)),AK (decide_eq_true (by simp only [I];omega)),AK (decide_eq_true (by simp only [I];omega)),show (I j).toNat=j from rfl,hd n,Cx]
 dsimp only
 rw [AL (show (!decide ((0:Int)=0))=false from rfl),AK (Av.2 (by simp only [I];omega))]
 exact hr n N
theorem BL.exit (hj:j<l.length) (hd:ST d (l.getD j 0) s fr h s1 f1) (hh:h≠0):BL d (c+1) l j s fr h s1 f1:=fun n N=>by
 show Fh.kB (Bd.kR (n+d)) (Cw (BH.kS (Bd.kR (n+d))) (N+c)) l (I l.length) (I j) s fr=_
 unfold Fh.kB
 rw [Ai (decide_eq_true (by simp only [I];omega)),AK (decide_eq_true (by simp only [I];omega)),AK (decide_eq_true (by simp only [I];omega)),show (I j).toNat=j from rfl,hd n,Cx]
 dsimp only
 rw [Ai (by rw [decide_eq_false hh];rfl)]
theorem DO.block (hk:x.kind=43) (hl:DK.k (ER.p s) x.a=CO l) (hb:BL d c l 0 s fr h s' f1) (hc:c<=999998):DO (d+1) x s fr h s' f1:=fun n=>by
 rw [show n+(d+1)=n+d+1 from rfl,Qp,XY,ia _ (by omega)]
 unfold Gn.kB
 dsimp only
 rw [AL (decide_eq_false (by omega)),AL (decide_eq_false (by omega)),AL (decide_eq_false (by omega)),AL (decide_eq_false (by omega)),AL (decide_eq_false (by omega)),AL (decide_eq_false (by omega)),AL (decide_eq_false (by omega))]
 show IA.kB (Bd.kR (n+d)) (Cw (BH.kS (Bd.kR (n+d))) 999998) x.kind s fr x=_
 unfold IA.kB
 rw [AL (decide_eq_false (by omega)),Ai (decide_eq_true hk),hl,Ae]
 have:=hb n (999998 -c)
 rw [show 999998 -c+c=999998 by omega] at this
 exact this
def CL (d:Nat) (k:Int) (args:List Int) (s:ER) (v:Int) (s':ER):Prop:= ∀ n,m64.kr (Bd.kR (n+d)) k args s=CR v s'
abbrev kY (g:Dop.Eh) (args:List Int) (b:Int):EF:=(g,List.take (List.replicate g.An.toNat (0:Int)).length args++List.drop args.length (List.replicate g.An.toNat (0:Int)),b,0,[],0,0,())
theorem CL.of {k:Int} {args:List Int} {g:Dop.Eh} (hk:0<=k/\k<I p.funcs.length) (hg:List.getD p.funcs k.toNat Dop.d11=g) (hm:sp+g.frame<=I mem.length) (hr:0<=g.An/\g.An<=1000000) (hs:0<=sp/\sp<=1000000) (hf:0<=g.frame/\g.frame<=1000000)
  (hd:ST d g.body (st p mem (sp+g.frame) inp out fu) (kY g args sp) h (st p m1 (sp+g.frame) i1 o1 u1) f1) (hh:h≠4):CL (d+1) k args (st p mem sp inp out fu) (EF.told f1) (st p m1 sp i1 o1 u1):=fun n=>by
 rw [show n+(d+1)=n+d+1 from rfl,Qp,ic]
 unfold m64.kf m64.k0
 dsimp only
 rw [show List.getD (ER.p (st p mem sp inp out fu)).funcs k.toNat Dop.d11=g from hg,AL (show (!decide ((st p mem sp inp out fu).end_=0))=false from rfl),AL (decide_eq_false (by omega)),AK (decide_eq_true hk),AK (Av.2 (show -9223372036854775808<=sp+g.frame/\sp+g.frame<=9223372036854775807 by omega)),AL (decide_eq_false (show ¬ I mem.length<sp+g.frame by omega)),
  AK (decide_eq_true (show 0<=g.An/\g.An<=g.An/\g.An*(I 8+1)<=140737488355328 by simp only [I];omega)),AK (Av.2 (show -9223372036854775808<=sp+g.frame/\sp+g.frame<=9223372036854775807 by omega))]
 show Kx.kB (Bd.kR (n+d)) _ (st p mem (sp+g.frame) inp out fu) g (kY g args sp)=_
 unfold Kx.kB
 rw [hd n,Cx]
 dsimp only
 rw [AL (decide_eq_false hh),AK (Av.2 (show -9223372036854775808<=sp+g.frame -g.frame/\sp+g.frame -g.frame<=9223372036854775807 by omega))]
 show CR _ (st p m1 (sp+g.frame -g.frame) i1 o1 u1)=_
 rw [show sp+g.frame -g.frame=sp by omega]
theorem jM {k:Int} (hg:p.globals=[]) (hm:S3.k p ([109,97,105,110]:List UInt8)=CO k) (hf:0<=fu/\fu<=1000000) (hc:CL d k [] (st p (List.replicate 4096 0) p.top inp [] fu) v (st p m1 sp1 i1 o1 u1)) (hd:d<=1000000000):Gr.k p inp fu=CO (Dop.QE.mk 1 v o1):=by
 unfold Gr.k Gr.k0
 rw [AK (by decide),hg,if_neg (show ¬ fu<0 by omega),if_neg (show ¬ 1000000<fu by omega)]
 show Kv.kB (Gr.kL 999999) [] (I 0) 0 p 0 0 [] (st p (List.replicate 4096 0) p.top inp [] fu)=_
 unfold Kv.kB
 dsimp only
 rw [AL (by rfl),hm,Ae]
 have:=hc (1000000000 -d)
 rw [show 1000000000 -d+d=1000000000 by omega] at this
 show Option.bind (m64.kr (Bd.kR 1000000000) k [] (st p (List.replicate 4096 0) p.top inp [] fu)) _=_
 rw [this]
 rfl
end
theorem Tu (l:List Int) (hl:l.length<1000000): ∀ (k j N:Nat),j+k=l.length->(Cw IU.kS (N+k+1)).1 l l (I l.length) (I j)=CO true
 | 0,j,N,h=>by
  show Kw.kB _ l l (I l.length) (I j)=_
  unfold Kw.kB
  rw [AL (decide_eq_false (by simp only [I];omega))]
 | k+1,j,N,h=>by
  show Kw.kB (Cw IU.kS (N+k+1)) l l (I l.length) (I j)=_
  unfold Kw.kB
  rw [Ai (decide_eq_true (by simp only [I];omega)),AK (decide_eq_true (by simp only [I];omega)),AK (decide_eq_true (by simp only [I];omega)),AL (by simp),AK (Av.2 (by simp only [I];omega))]
  exact Tu l hl k (j+1) N (by omega)
theorem same (a b:Int) (l:List Int) (hl:l.length<1000000):Ru.k (.mk a b l) (.mk a b l)=CO true:=by
 unfold Ru.k
 dsimp only
 rw [Ai (decide_eq_true rfl),Ai (decide_eq_true rfl)]
 unfold IU.k IU.k0
 rw [AL (by simp)]
 have:=Tu l hl l.length 0 (999999 -l.length) (by omega)
 rw [show 999999 -l.length+l.length+1=1000000 by omega] at this
 exact (congrArg (fun z=>Option.bind z _) this).trans rfl
abbrev iV (a:Int):Prop:= -2147483648<=a/\a<=2147483647
theorem Uj {a:Int} (h:iV a):IntKind.i32.wrap (IntKind.u32.wrap a)=a:=by rw [IntKind.wrap_i32,IntKind.wrap_u32];omega
theorem Uk (a:Int):iV (IntKind.i32.wrap (IntKind.u32.wrap a)):=by rw [IntKind.wrap_i32,IntKind.wrap_u32];omega
theorem bA (a:Int):EC.k a=CO (IntKind.i32.wrap (IntKind.u32.wrap a)):=by
 have:=Uk a
 unfold EC.k
 exact AK (Av.2 (by omega))
end Go.Proofs.Tryz
set_option maxHeartbeats 1000000
namespace Go.Proofs.Tryz
open Go Go.En
def PH (c:Nat):Bool:=(97<=c && c<=122) || (65<=c && c<=90) || c == 95
def Nw (c:Nat):Bool:=48<=c && c<=57
theorem ij: ∀ c:Fin 256,S7.k (I c)=CO (PH c):=by decide+kernel
theorem hU: ∀ c:Fin 256,S8.k (I c)=CO (Nw c):=by decide+kernel
theorem Xf (c:UInt8):S7.k ((c.toNat:Nat):Int)=CO (PH c.toNat):=ij ⟨c.toNat,c.toNat_lt⟩
theorem WV (c:UInt8):S8.k ((c.toNat:Nat):Int)=CO (Nw c.toNat):=hU ⟨c.toNat,c.toNat_lt⟩
abbrev Vm (c:UInt8):Bool:=PH c.toNat || Nw c.toNat
theorem gM (s:List UInt8) (j:Nat):Ck s (I j)=(((s.getD j 0).toNat:Nat):Int):=rfl
theorem RT (s:List UInt8) (k:Nat) (hk:k<=s.length) (hs:s.length<1000000) (ha: ∀ j,j<k->Vm (s.getD j 0)=true) (he:k=s.length\/Vm (s.getD k 0)=false):
  ∀ (m j N:Nat),j+m=k->(Cw IB.kS (N+m+1)).1 s (I j)=CO (I k)
 | 0,j,N,h=>by
  obtain rfl:j=k:=by omega
  show Ky.kB (Cw IB.kS N) s (I j)=_
  unfold Ky.kB
  by_cases hl:j=s.length
  ·rw [AL (decide_eq_false (by simp only [I];omega))]
  ·have hj:0<=I j/\I j<I s.length:=by simp only [I];omega
   have h2:=he.resolve_left hl
   simp only [Bool.or_eq_false_iff] at h2
   rw [Ai (decide_eq_true hj.2),AK (decide_eq_true hj),gM,Xf,Ae]
   dsimp only
   rw [h2.1,AL rfl,AK (decide_eq_true hj),WV,Ae]
   dsimp only
   rw [h2.2,AL rfl]
 | m+1,j,N,h=>by
  have hj:0<=I j/\I j<I s.length:=by simp only [I];omega
  have h2:(PH (s.getD j 0).toNat || Nw (s.getD j 0).toNat)=true:=ha j (by omega)
  have hi:=RT s k hk hs ha he m (j+1) N (by omega)
  show Ky.kB (Cw IB.kS (N+m+1)) s (I j)=_
  unfold Ky.kB
  rw [Ai (decide_eq_true hj.2),AK (decide_eq_true hj),gM,Xf,Ae]
  dsimp only
  by_cases h3:PH (s.getD j 0).toNat=true
  ·rw [h3,Ai rfl,AK (Av.2 (by simp only [I];omega))];exact hi
  ·rw [Bool.not_eq_true] at h3
   rw [h3,AL rfl,AK (decide_eq_true hj),WV,Ae]
   dsimp only
   rw [h3,Bool.false_or] at h2
   rw [h2,Ai rfl,AK (Av.2 (by simp only [I];omega))];exact hi
theorem jO (s:List UInt8) (k:Nat) (hk:k<=s.length) (hs:s.length<1000000) (ha: ∀ j,j<k->Vm (s.getD j 0)=true) (he:k=s.length\/Vm (s.getD k 0)=false):IB.k s=CO (I k):=by
 have:=RT s k hk hs ha he k 0 (999999 -k) (by omega)
 rw [show 999999 -k+k+1=1000000 by omega] at this
 exact this
abbrev Rs (c:UInt8):Prop:=48<=c.toNat/\c.toNat<=57
def dv (c:UInt8):Int:=(c.toNat:Int) -48
def fv (l:List UInt8) (n:Int):Int:=l.foldl (fun n c=>n*10+dv c) n
theorem cu: ∀ c:Fin 256,48<=c.val->c.val<=57->Lib.toLowerA [UInt8.ofNat c]=[UInt8.ofNat c]/\Lib.indexByte ([48,49,50,51,52,53,54,55,56,57,97,98,99,100,101,102]:List UInt8) (Ck [UInt8.ofNat c] 0).toNat.toUInt8=(c.val:Int) -48/\ZB [UInt8.ofNat c]=true:=by decide+kernel
theorem cr {c:UInt8} (h:Rs c):Lib.toLowerA [c]=[c]/\Lib.indexByte ([48,49,50,51,52,53,54,55,56,57,97,98,99,100,101,102]:List UInt8) (Ck [c] 0).toNat.toUInt8=dv c/\ZB [c]=true:=by
 have:=cu ⟨c.toNat,c.toNat_lt⟩ h.1 h.2
 rwa [show UInt8.ofNat (⟨c.toNat,c.toNat_lt⟩:Fin 256).val=c from UInt8.ofNat_toNat] at this
theorem T4: ∀ (l:List UInt8) (n:Int),0<=n->(∀ c∈l,Rs c)->n<=fv l n
 | [],n,_,_=>Int.le_refl n
 | c::l,n,h,hd=>by
  have h1:=hd c List.mem_cons_self
  have h2:0<=dv c:=by unfold dv;omega
  have:=T4 l (n*10+dv c) (by omega) fun x hx=>hd x (List.mem_cons_of_mem _ hx)
  show n<=fv l (n*10+dv c)
  omega
theorem Sv (l m:List UInt8) (n:Int):fv (l++m) n=fv m (fv l n):=List.foldl_append
theorem Rn (s:List UInt8) (hs:s.length<1000000) (h0:s≠[]) (hd: ∀ c∈s,Rs c) (hv:fv s 0<=4294967295):
  ∀ (m j N:Nat),j+m=s.length->(Cw Gt.kS (N+m+1)).1 s 10 (fv (s.take j) 0) (I s.length) (I j)=GP (fv s 0) true
 | 0,j,N,h=>by
  obtain rfl:j=s.length:=by omega
  show Kz.kB (Cw Gt.kS N) s 10 _ (I s.length) (I s.length)=_
  unfold Kz.kB
  dsimp only
  rw [AL (decide_eq_false (by omega)),List.take_length,decide_eq_false h0]
  rfl
 | m+1,j,N,h=>by
  have hj:j<s.length:=by omega
  obtain ⟨c,hc⟩: ∃ c,s[j]?=some c:=⟨s[j],List.getElem?_eq_getElem hj⟩
  have hcs:=List.mem_of_getElem? hc
  have ht:List.drop (I j).toNat (List.take (I j+1).toNat s)=[c]:=by
   rw [show (I j+1).toNat=j+1 by simp only [I];omega,show (I j).toNat=j from rfl,List.take_add_one,hc,List.drop_append]
   simp [List.length_take,Nat.min_eq_left (Nat.le_of_lt hj)]
  have hk:fv (s.take (j+1)) 0=fv (s.take j) 0*10+dv c:=by rw [List.take_add_one,hc,Sv];rfl
  have hp:0<=fv (s.take j) 0:=T4 _ 0 (by omega) fun x hx=>hd x (List.mem_of_mem_take hx)
  have hle:fv (s.take (j+1)) 0<=fv s 0:=by
   have e:=Sv (s.take (j+1)) (s.drop (j+1)) 0
   rw [List.take_append_drop] at e
   rw [e]
   exact T4 _ _ (T4 _ 0 (by omega) fun x hx=>hd x (List.mem_of_mem_take hx)) fun x hx=>hd x (List.mem_of_mem_drop hx)
  have hi:=Rn s hs h0 hd hv m (j+1) N (by omega)
  obtain ⟨e1,e2,e3⟩:=cr (hd c hcs)
  have hdc:0<=dv c/\dv c<=9:=by have:=hd c hcs;unfold dv;omega
  show Kz.kB (Cw Gt.kS (N+m+1)) s 10 _ (I s.length) (I j)=_
  unfold Kz.kB
  dsimp only
  rw [ht,e1,Ai (decide_eq_true (by simp only [I];omega)),AK (Av.2 (by simp only [I];omega)),AK (decide_eq_true (by simp only [I];omega)),AK e3,AK (decide_eq_true (show (0:Int)<=0/\0<I [c].length by simp [I])),AK rfl,e2,
   AL (decide_eq_false (by omega)),AL (decide_eq_false (by omega)),AK (Av.2 (by omega)),AK (Av.2 (by omega)),AL (decide_eq_false (by omega)),AK (Av.2 (by simp only [I];omega)),<- hk]
  exact hi
theorem bj (s:List UInt8) (hs:s.length<1000000) (h0:s≠[]) (hd: ∀ c∈s,Rs c) (hv:fv s 0<=4294967295):(Gt.kL 1000000).1 s 10 0 (I s.length) 0=GP (fv s 0) true:=by
 have:=Rn s hs h0 hd hv s.length 0 (999999 -s.length) (by omega)
 rw [show 999999 -s.length+s.length+1=1000000 by omega] at this
 exact this
theorem aG {s t:List UInt8} (hd: ∀ c∈s,Rs c) (h0:s≠[]) {x:UInt8} (hx:¬ Rs x) (ht: ∀ c r,t=c::r->c≠x):Lib.hasPrefix (s++t) [48,x]=false:=by
 unfold Lib.hasPrefix
 match s,h0 with
 | [c],_=>
  cases t with
  | nil=>simp [List.isPrefixOf]
  | cons d r=>have:=ht d r rfl;simp [List.isPrefixOf];intro _;exact fun e=>this e.symm
 | c::d::r,_=>
  have:=hd d (by simp)
  simp [List.isPrefixOf]
  intro _ e
  exact hx (e▸this)
theorem j9 {s:List UInt8} (hs:s.length<1000000) (h0:s≠[]) (hd: ∀ c∈s,Rs c) (hv:fv s 0<=4294967295):Gt.k s=GP (fv s 0) true:=by
 have hl:0<s.length:=List.length_pos_iff.2 h0
 have hc:=hd _ (List.getLast_mem h0)
 have e:Ck s (I s.length -1)=(((s.getLast h0).toNat:Nat):Int):=by
  unfold Ck
  rw [show (I s.length -1).toNat=s.length -1 by simp only [I];omega,List.getLast_eq_getElem,List.getD_eq_getElem?_getD,List.getElem?_eq_getElem (by omega)]
  rfl
 have p1:=aG (t:=[]) (x:=120) hd h0 (by decide) (fun _ _ h=>by cases h)
 have p2:=aG (t:=[]) (x:=88) hd h0 (by decide) (fun _ _ h=>by cases h)
 rw [List.append_nil] at p1 p2
 have hb:0<=I s.length -1/\I s.length -1<I s.length:=by simp only [I];omega
 unfold Gt.k Gt.k0
 dsimp only
 rw [AK (Av.2 (by simp only [I];omega)),AK (decide_eq_true hb),e,AL (decide_eq_false (by omega)),AK (decide_eq_true hb),AL (decide_eq_false (by omega)),AK rfl,p1,AL rfl,AK rfl,p2,AL rfl]
 exact bj s hs h0 hd hv
theorem kA {s:List UInt8} (hs:s.length<1000000) (h0:s≠[]) (hd: ∀ c∈s,Rs c) (hv:fv s 0<=4294967295):Gt.k (s++[117])=GP (fv s 0) true:=by
 have hl:(s++[(117:UInt8)]).length=s.length+1:=by simp
 have e:Ck (s++[117]) (I (s++[(117:UInt8)]).length -1)=117:=by
  unfold Ck
  rw [show (I (s++[(117:UInt8)]).length -1).toNat=s.length by rw [hl];simp only [I];omega]
  simp [List.getD_eq_getElem?_getD]
 have hb:0<=I (s++[(117:UInt8)]).length -1/\I (s++[(117:UInt8)]).length -1<I (s++[(117:UInt8)]).length:=by rw [hl];simp only [I];omega
 have ht:List.drop (Int.toNat 0) (List.take (I (s++[(117:UInt8)]).length -1).toNat (s++[117]))=s:=by
  rw [show (I (s++[(117:UInt8)]).length -1).toNat=s.length by rw [hl];simp only [I];omega]
  simp
 have p1:=aG (t:=[]) (x:=120) hd h0 (by decide) (fun _ _ h=>by cases h)
 have p2:=aG (t:=[]) (x:=88) hd h0 (by decide) (fun _ _ h=>by cases h)
 rw [List.append_nil] at p1 p2
 unfold Gt.k Gt.k0
 dsimp only
 rw [AK (Av.2 (by rw [hl];simp only [I];omega)),AK (decide_eq_true hb),e,Ai (by rfl),ht,AK (decide_eq_true (by rw [hl];simp only [I];omega)),AK rfl,p1,AL rfl,AK rfl,p2,AL rfl]
 exact bj s hs h0 hd hv
theorem UM {c:UInt8} {w t:List UInt8} {v:Int} (hl:(c::w++t).length<1000000) (hc:Rs c) (hw: ∀ x∈w,Vm x=true) (ht: ∀ d r,t=d::r->Vm d=false) (hv:Gt.k (c::w)=GP v true):S4.k (c::w++t)=GP (Dop.Tok.mk 3 (c::w) v 0) 0:=by
 have hlen:(c::w++t).length=(c::w).length+t.length:=List.length_append
 have h1:Nw c.toNat=true:=by unfold Nw;simp;exact hc
 have h2:PH c.toNat=false:=by unfold PH;simp;omega
 have hb:(0:Int)<=0/\0<I (c::w++t).length:=by rw [hlen];simp only [I,List.length_cons];omega
 have hr:IB.k (c::w++t)=CO (I (c::w).length):=jO _ _ (by omega) hl (fun j hj=>by
  rw [List.getD_eq_getElem?_getD,List.getElem?_append_left hj,List.getElem?_eq_getElem hj]
  rcases List.mem_cons.1 (List.getElem_mem hj) with h|h
  ·show Vm (c::w)[j]=true
   rw [h];show (PH c.toNat || Nw c.toNat)=true;rw [h1,Bool.or_true]
  ·exact hw _ h) (by
  cases t with
  | nil=>left;simp
  | cons d r=>
   right
   rw [List.getD_eq_getElem?_getD,List.getElem?_append_right (Nat.le_refl _),Nat.sub_self]
   exact ht d r rfl)
 have htk:List.drop (Int.toNat 0) (List.take (I (c::w).length).toNat (c::w++t))=c::w:=by
  rw [show (I (c::w).length).toNat=(c::w).length from rfl,List.take_left];rfl
 have h0:Ck (c::w++t) 0=((c.toNat:Nat):Int):=rfl
 have hk:(0:Int)<=0/\0<=I (c::w).length/\I (c::w).length<=I (c::w++t).length:=by rw [hlen];simp only [I];omega
 have h81:Q8.k 3 v (I (c::w).length) (c::w++t)=OZ (Dop.Tok.mk 3 (c::w) v 0) 0 (c::w++t,()):=by
  unfold Q8.k
  rw [AK (decide_eq_true hk),htk]
 unfold S4.k
 rw [AK (decide_eq_true hb),h0,Xf,h2,Ae]
 dsimp only
 rw [AL rfl,AK (decide_eq_true hb),WV,h1,Ae]
 dsimp only
 rw [Ai rfl,hr,Ae]
 dsimp only
 rw [AK (decide_eq_true hk),htk,hv,Cy]
 dsimp only
 rw [AL (by rfl),h81]
 rfl
theorem WU: ∀ u:Nat,fv (Lib.decDigits u) 0=u/\(∀ c∈Lib.decDigits u,Rs c)/\Lib.decDigits u≠[]:=fun u=>by
 induction u using Nat.strongRecOn with
 | ind u ih=>
  have hd: ∀ k,k<10->(UInt8.ofNat (48+k)).toNat=48+k:=fun k hk=>by simp [UInt8.toNat_ofNat];omega
  rw [Lib.decDigits]
  by_cases h:u<10
  ·rw [dif_pos h]
   refine ⟨?_,fun c hc=>?_,by simp⟩
   ·show 0*10+dv (UInt8.ofNat (48+u))=u
    unfold dv;rw [hd u h];omega
   ·rw [List.mem_singleton] at hc;subst hc;unfold Rs;rw [hd u h];omega
  ·rw [dif_neg h]
   obtain ⟨h1,h2,h3⟩:=ih (u / 10) (by omega)
   refine ⟨?_,fun c hc=>?_,by simp⟩
   ·rw [Sv,h1]
    show ((u / 10:Nat):Int)*10+dv (UInt8.ofNat (48+u % 10))=u
    unfold dv;rw [hd _ (by omega)];omega
   ·rcases List.mem_append.1 hc with hc|hc
    ·exact h2 c hc
    ·rw [List.mem_singleton] at hc;subst hc;unfold Rs;rw [hd _ (by omega)];omega
end Go.Proofs.Tryz
set_option maxHeartbeats 1000000
namespace Go.Proofs.Tryz
open Go Go.En
def LX:List UInt8->List (Nat×Dop.Tok)->List UInt8->Prop
 | r,[],r'=>r=r'
 | r,(n,t)::l,r'=>Hh.k r=GP (I n) true/\S4.k (r.drop n)=GP t 0/\n+t.text.length<=r.length/\n<r.length/\LX (r.drop (n+t.text.length)) l r'
theorem LX.app: ∀ {l m:List (Nat×Dop.Tok)} {r r1 r2:List UInt8},LX r l r1->LX r1 m r2->LX r (l++m) r2
 | [],m,r,r1,r2,h,k=>by cases h;exact k
 | (n,t)::l,m,r,r1,r2,h,k=>⟨h.1,h.2.1,h.2.2.1,h.2.2.2.1,LX.app h.2.2.2.2 k⟩
noncomputable def VK:Nat->List UInt8->Option (List (Nat×Dop.Tok)×List UInt8)
 | 0,r=>some ([],r)
 | k+1,r=>match Hh.k r with
  | some ((n,true,()),())=>match n with
   | .ofNat n=>match S4.k (r.drop n) with
    | some ((t,e,()),())=>match decide (e=0),Nat.ble (n+t.text.length) r.length,Nat.blt n r.length with
     | true,true,true=>match VK k (r.drop (n+t.text.length)) with
      | some (l,r')=>some ((n,t)::l,r')
      | none=>none
     | _,_,_=>none
    | none=>none
   | _=>none
  | _=>none
theorem Ir: ∀ {k:Nat} {r r':List UInt8} {l:List (Nat×Dop.Tok)},VK k r=some (l,r')->LX r l r'
 | 0,r,r',l,h=>by cases h;rfl
 | k+1,r,r',l,h=>by
  unfold VK at h
  split at h
  ·rename_i n h1
   split at h
   ·rename_i n
    split at h
    ·rename_i t e h2
     split at h
     ·rename_i e1 e2 e3
      split at h
      ·rename_i l2 r2 h3
       cases h
       have e0:=of_decide_eq_true e1
       subst e0
       exact ⟨h1,h2,Nat.le_of_ble_eq_true e2,Nat.le_of_ble_eq_true e3,Ir h3⟩
      ·cases h
     ·cases h
    ·cases h
   ·cases h
  ·cases h
def Kb:List (Nat×Dop.Tok)->Nat
 | []=>0
 | (n,t)::l=>n+t.text.length+Kb l
def pl (a:Nat):List (Nat×Dop.Tok)->List Dop.Tok
 | []=>[]
 | (n,t)::l=>.mk t.kind t.text t.n (I (a+n))::pl (a+n+t.text.length) l
theorem Vs {s:List UInt8} (hs:s.length<=32768): ∀ (l:List (Nat×Dop.Tok)) (r r':List UInt8) (a N:Nat) (out:List Dop.Tok),s.drop a=r->a<=s.length->LX r l r'->out.length+l.length<8192->
  (Cw m19.kS (N+l.length)).1 s out (I a)=(Cw m19.kS N).1 s (out++pl a l) (I (a+Kb l))/\s.drop (a+Kb l)=r'/\a+Kb l<=s.length
 | [],r,r',a,N,out,h,ha,hl,_=>by
  cases hl
  refine ⟨?_,h,ha⟩
  rw [show pl a []=[] from rfl,List.append_nil];rfl
 | (n,t)::l,r,r',a,N,out,h,ha,⟨h1,h2,h3,h4,h5⟩,ho=>by
  have hr:r.length=s.length -a:=by rw [<-h,List.length_drop]
  have hd: ∀ k,s.drop (a+k)=r.drop k:=fun k=>by rw [<-h,List.drop_drop]
  obtain ⟨e1,e2,e3⟩:=Vs hs l (r.drop (n+t.text.length)) r' (a+(n+t.text.length)) N (out++[.mk t.kind t.text t.n (I (a+n))]) (hd _) (by omega) h5 (by simp only [List.length_append,List.length_cons,List.length_nil] at ho ⊢; omega)
  refine ⟨?_,by rw [show Kb ((n,t)::l)=n+t.text.length+Kb l from rfl,<- Nat.add_assoc];exact e2,by rw [show Kb ((n,t)::l)=n+t.text.length+Kb l from rfl,<- Nat.add_assoc];exact e3⟩
  rw [show pl a ((n,t)::l)=.mk t.kind t.text t.n (I (a+n))::pl (a+n+t.text.length) l from rfl,show Kb ((n,t)::l)=n+t.text.length+Kb l from rfl]
  rw [List.append_assoc,List.singleton_append,show a+(n+t.text.length)=a+n+t.text.length by omega] at e1
  rw [show a+(n+t.text.length+Kb l)=a+n+t.text.length+Kb l by omega,<- e1]
  show Ku.kB (Cw m19.kS (N+l.length)) s out (I a)=_
  unfold Ku.kB
  dsimp only
  have hI:(I a:Int)+I n=I (a+n):=by simp only [I];omega
  have hb:0<=I a/\I a<=I s.length/\I s.length<=I s.length:=by simp only [I];omega
  have hb2:0<=I (a+n)/\I (a+n)<=I s.length/\I s.length<=I s.length:=by simp only [I];omega
  rw [show List.take (I s.length).toNat s=s from List.take_length,AK (decide_eq_true hb),show (I a).toNat=a from rfl,h,h1,Cy]
  dsimp only
  rw [hI,AK (Av.2 (by simp only [I];omega)),AL (b:=!true) rfl,AL (decide_eq_false (by simp only [I];omega)),AK (decide_eq_true hb2),show (I (a+n)).toNat=a+n from rfl,hd,h2,Cy]
  dsimp only
  rw [AL (by rfl),AL (decide_eq_false (by simp only [I,List.length_cons] at ho ⊢; omega)),AK (by show room 40 _=true;unfold room;refine decide_eq_true ?_;simp only [List.length_cons,List.length_nil] at ho ⊢; omega),AK (Av.2 (by simp only [I];omega))]
  rw [show (I (a+n):Int)+I t.text.length=I (a+n+t.text.length) by simp only [I];omega]
theorem ai {s:List UInt8} {l:List (Nat×Dop.Tok)} (hs:s.length<=32768) (h:LX s l []) (hl:l.length<8192):m19.k s=Js (pl 0 l++[.mk 0 [] 0 (I (Kb l))]) 0 0:=by
 obtain ⟨e1,e2,e3⟩:=Vs hs l s [] 0 (1000000 -l.length) [] rfl (by omega) h (by simpa using hl)
 rw [show 1000000 -l.length+l.length=1000000 by omega,Nat.zero_add,List.nil_append] at e1
 rw [Nat.zero_add] at e2 e3
 have ht:Kb l=s.length:=by have:=congrArg List.length e2;rw [List.length_drop,List.length_nil] at this;omega
 unfold m19.k m19.k0
 rw [AL (decide_eq_false (by simp only [I];omega))]
 refine Eq.trans e1 ?_
 obtain ⟨M,hM⟩: ∃ M,1000000 -l.length=M+1:=⟨1000000 -l.length -1,by omega⟩
 rw [hM]
 show Ku.kB (Cw m19.kS M) s (pl 0 l) (I (Kb l))=_
 have hp:(pl 0 l).length<8192:=by
  have: ∀ (l:List (Nat×Dop.Tok)) (a:Nat),(pl a l).length=l.length:=fun l=>by
   induction l with
   | nil=>intro a;rfl
   | cons x l ih=>intro a;show (pl _ l).length+1=_;rw [ih];rfl
  rw [this];exact hl
 unfold Ku.kB
 dsimp only
 rw [show List.take (I s.length).toNat s=s from List.take_length,AK (decide_eq_true (by simp only [I];omega)),show (I (Kb l)).toNat=Kb l from rfl,e2,show Hh.k []=GP 0 true by kernel_rfl,Cy]
 dsimp only
 rw [Int.add_zero,AK (Av.2 (by simp only [I];omega)),AL (b:=!true) rfl,Ai (decide_eq_true (by rw [ht])),AK (by show room 40 _=true;unfold room;refine decide_eq_true ?_;simp only [List.length_cons,List.length_nil];omega)]
theorem jS: ∀ c:Fin 256,48<=c.val->c.val<=57->Lib.indexByte ([32,9,10,13]:List UInt8) (UInt8.ofNat c)= -1:=by decide+kernel
theorem Ys {c:UInt8} (h:Rs c) (t:List UInt8):Hh.k (c::t)=GP 0 true:=by
 have h1:=jS ⟨c.toNat,c.toNat_lt⟩ h.1 h.2
 rw [show UInt8.ofNat (⟨c.toNat,c.toNat_lt⟩:Fin 256).val=c from UInt8.ofNat_toNat] at h1
 have hne:(c == 47)=false:=by
  rw [beq_eq_false_iff_ne];intro e;subst e;exact absurd h.1 (by decide)
 have hne':((47:UInt8) == c)=false:=by rw [beq_eq_false_iff_ne];intro e;subst e;exact absurd h.1 (by decide)
 unfold Hh.k Hh.k0
 show OS.kB (Hh.kL 999999) (c::t) 0=_
 unfold OS.kB
 dsimp only
 have hl:(0:Int)<I (c::t).length:=by simp only [I,List.length_cons];omega
 have hd:List.drop (Int.toNat 0) (List.take (I (c::t).length).toNat (c::t))=c::t:=by
  rw [show (I (c::t).length).toNat=(c::t).length from rfl,List.take_length];rfl
 have hs:(Ck (c::t) 0).toNat.toUInt8=c:=by
  show ((c.toNat:Int)).toNat.toUInt8=c
  rw [Int.toNat_natCast];exact UInt8.ofNat_toNat
 rw [Ai (decide_eq_true hl),AK (decide_eq_true (by omega)),AK (decide_eq_true (by omega)),AK rfl,hs,h1,AL (by rfl),AK rfl,hd]
 rw [show Lib.hasPrefix (c::t) [47,47]=false by simp [Lib.hasPrefix,List.isPrefixOf,hne'],AL rfl,AK rfl,show Lib.hasPrefix (c::t) [47,42]=false by simp [Lib.hasPrefix,List.isPrefixOf,hne'],AL rfl]
theorem Vr {n:Nat} (hn:n<=4294967295) {t:List UInt8} (ht: ∀ d r,t=d::r->Vm d=false) (hl:(Lib.decDigits n++t).length<100000):
  LX (Lib.decDigits n++t) [(0,.mk 3 (Lib.decDigits n) n 0)] t/\LX (Lib.decDigits n++117::t) [(0,.mk 3 (Lib.decDigits n++[117]) n 0)] t:=by
 obtain ⟨h1,h2,h3⟩:=WU n
 have hlen:(Lib.decDigits n).length<100000:=by rw [List.length_append] at hl;omega
 have v1:=j9 (by omega) h3 h2 (by rw [h1];omega)
 have v2:=kA (by omega) h3 h2 (by rw [h1];omega)
 rw [h1] at v1 v2
 have ha: ∀ x,Rs x->Vm x=true:=fun x hx=>by
  show (PH x.toNat || Nw x.toNat)=true
  rw [show Nw x.toNat=true by unfold Nw;simp;exact hx,Bool.or_true]
 generalize Lib.decDigits n=w at*
 obtain ⟨c,w,rfl⟩: ∃ c r,w=c::r:=by cases w with|nil=>exact absurd rfl h3|cons c r=>exact ⟨c,r,rfl⟩
 have hc:=h2 c List.mem_cons_self
 refine ⟨⟨Ys hc _,?_,?_,?_,?_⟩,⟨Ys hc _,?_,?_,?_,?_⟩⟩
 ·exact UM (by omega) hc (fun x hx=>ha x (h2 x (List.mem_cons_of_mem _ hx))) ht v1
 ·simp only [List.length_append,List.length_cons];omega
 ·simp only [List.length_append,List.length_cons];omega
 ·show List.drop (0+(c::w).length) (c::w++t)=t
  rw [Nat.zero_add,List.drop_left]
 ·have:=UM (c:=c) (w:=w++[117]) (t:=t) (by simp only [List.length_append,List.length_cons,List.length_nil] at hl ⊢; omega) hc (fun x hx=>by
   rcases List.mem_append.1 hx with hx|hx
   ·exact ha x (h2 x (List.mem_cons_of_mem _ hx))
   ·rw [List.mem_singleton] at hx;subst hx;decide) ht (by rw [<-List.cons_append];exact v2)
  rw [show c::(w++[117])++t=c::w++117::t by simp] at this
  exact this
 ·simp only [List.length_append,List.length_cons,List.length_nil];omega
 ·simp only [List.length_append,List.length_cons];omega
 ·show List.drop (0+(c::w++[117]).length) (c::w++117::t)=t
  rw [Nat.zero_add,show c::w++117::t=(c::w++[117])++t by simp,List.drop_left]
end Go.Proofs.Tryz
set_option maxRecDepth 100000
set_option maxHeartbeats 4000000
namespace Go.Proofs.Tryz
open Go Go.En
noncomputable section
def QH.k (n:Int):Ei Int:=
 let A2:=n.tmod (4294967296:Int)+4294967296
 let A1:=n.tmod (4294967296:Int) -4294967296
 ck ((4294967296:Int)≠0)<|
 ci (2147483648<=n.tmod 4294967296) (ck (Az A1)<|
 CO A1)<|
 ci (n.tmod 4294967296<(-2147483648)) (ck (Az A2)<|
 CO A2)<|
 CO (n.tmod 4294967296)
def QH.Kc:=kd 67 QH.p fun x=>QH.k x.1.1
theorem QH.Kh:QH.Kc.Holds prog:=kh AH hn QH.ok (by kernel_rfl)
def N4.k (n:Int):Ei Int:=
 (QH.k n).bind fun y2=>
 ci (y2.1.1<0) (ck (Az (y2.1.1+4294967296))<|
 CO (y2.1.1+4294967296))<|
 CO y2.1.1
def N4.Kc:=kd 39 N4.p fun x=>N4.k x.1.1
theorem N4.Kh:N4.Kc.Holds prog:=kh AH (hc QH.Kh hn) N4.ok (by kernel_rfl)
abbrev UD.T:Type:=Int->Int->Int->Ei Int
abbrev IK.KT:Type:=UD.T×Unit
def UD.kB (tK:IK.KT):UD.T:=fun k p i=>
 ci (i<k) (ck (Az (p*2))<|
 ck (Az (i+1))<|
 tK.1 k (p*2) (i+1))<|
 CO p
def IK.kS (tK:IK.KT):IK.KT:=(UD.kB tK,())
def IK.kL (n:Nat):IK.KT:=Cw IK.kS n
def IK.k0 (tK:IK.KT) (k:Int):Ei Int:=
 tK.1 k 1 0
def IK.k (k:Int):Ei Int:=IK.k0 (IK.kL 1000000) k
def IK.Kc:=kd 68 IK.p fun x=>IK.k x.1.1
theorem IK.Kh:IK.Kc.Holds prog:=F4 AH hn IK.ok (fun t x=>IK.k0 t x.1.1) (fun c=>(fun k p i=>c 3 IK.q3 rfl ((k,p,i,()),()),())) IK.kS (by kernel_rfl)
def HY.KE:Env Dop.D4:=Ac prog 119 tb [N4.Kc] HY.p
def HY.k (n k:Int):Ei Int:=HY.KE.Ez 3000 1000000 HY.p.sp ((n,k,()),())
def HY.Kc:=kd 119 HY.p fun x=>HY.k x.1.1 x.1.2.1
theorem HY.Kh:HY.Kc.Holds prog:=kh AH (hc N4.Kh hn) HY.ok (by kernel_rfl)
def Q7.KE:Env Dop.D4:=Ac prog 69 tb [HY.Kc,IK.Kc] Q7.p
def Q7.k (a b kind:Int):Ei Int:=Q7.KE.Ez 3000 1000000 Q7.p.sp ((a,b,kind,()),())
def Q7.Kc:=kd 69 Q7.p fun x=>Q7.k x.1.1 x.1.2.1 x.1.2.2.1
theorem Q7.Kh:Q7.Kc.Holds prog:=kh AH (hc HY.Kh (hc IK.Kh hn)) Q7.ok (by kernel_rfl)
def S5.KE:Env Dop.D4:=Ac prog 70 tb [] S5.p
def S5.k (a by_:Int):Ei Int:=S5.KE.Ez 3000 1000000 S5.p.sp ((a,by_,()),())
def S5.Kc:=kd 70 S5.p fun x=>S5.k x.1.1 x.1.2.1
theorem S5.Kh:S5.Kc.Holds prog:=kh AH hn S5.ok (by kernel_rfl)
def S6.KE:Env Dop.D4:=Ac prog 71 tb [] S6.p
def S6.k (is:Bool):Ei Int:=S6.KE.Ez 3000 1000000 S6.p.sp ((is,()),())
def S6.Kc:=kd 71 S6.p fun x=>S6.k x.1.1
theorem S6.Kh:S6.Kc.Holds prog:=kh AH hn S6.ok (by kernel_rfl)
def Pm.KE:Env Dop.D4:=Ac prog 40 tb [QH.Kc,N4.Kc,IK.Kc,Q7.Kc,S5.Kc,S6.Kc] Pm.p
def Pm.k (o t1 t2:Int):LH Int Bool:=Pm.KE.Ez 3000 1000000 Pm.p.sp ((o,t1,t2,()),())
def Pm.Kc:=kd 40 Pm.p fun x=>Pm.k x.1.1 x.1.2.1 x.1.2.2.1
theorem Pm.Kh:Pm.Kc.Holds prog:=kh AH (hc QH.Kh (hc N4.Kh (hc IK.Kh (hc Q7.Kh (hc S5.Kh (hc S6.Kh hn)))))) Pm.ok (by kernel_rfl)
def m16.k (o t1:Int):Ei Bool:=
 (N4.k o).bind fun y2=>
 (N4.k t1).bind fun y3=>
 ck (dM y2.1.1)<|
 ck (([105,110,116,32,109,97,105,110,40,41,123,99,104,97,114,32,99,61]:List UInt8).length+(Lib.itoa y2.1.1).length<=9223372036854775807)<|
 ck (((105:UInt8)::(110:UInt8)::(116:UInt8)::(32:UInt8)::(109:UInt8)::(97:UInt8)::(105:UInt8)::(110:UInt8)::(40:UInt8)::(41:UInt8)::(123:UInt8)::(99:UInt8)::(104:UInt8)::(97:UInt8)::(114:UInt8)::(32:UInt8)::(99:UInt8)::(61:UInt8)::[]++Lib.itoa y2.1.1).length+([117,59,114,101,116,117,114,110,32,99,59,125]:List UInt8).length<=9223372036854775807)<|
 (Rt.k ((105:UInt8)::(110:UInt8)::(116:UInt8)::(32:UInt8)::(109:UInt8)::(97:UInt8)::(105:UInt8)::(110:UInt8)::(40:UInt8)::(41:UInt8)::(123:UInt8)::(99:UInt8)::(104:UInt8)::(97:UInt8)::(114:UInt8)::(32:UInt8)::(99:UInt8)::(61:UInt8)::[]++Lib.itoa y2.1.1++(117:UInt8)::(59:UInt8)::(114:UInt8)::(101:UInt8)::(116:UInt8)::(117:UInt8)::(114:UInt8)::(110:UInt8)::(32:UInt8)::(99:UInt8)::(59:UInt8)::(125:UInt8)::[]) [] 1000).bind fun y4=>
 ck (dM y2.1.1)<|
 ck (([105,110,116,32,109,97,105,110,40,41,123,117,110,115,105,103,110,101,100,32,97,61]:List UInt8).length+(Lib.itoa y2.1.1).length<=9223372036854775807)<|
 ck (((105:UInt8)::(110:UInt8)::(116:UInt8)::(32:UInt8)::(109:UInt8)::(97:UInt8)::(105:UInt8)::(110:UInt8)::(40:UInt8)::(41:UInt8)::(123:UInt8)::(117:UInt8)::(110:UInt8)::(115:UInt8)::(105:UInt8)::(103:UInt8)::(110:UInt8)::(101:UInt8)::(100:UInt8)::(32:UInt8)::(97:UInt8)::(61:UInt8)::[]++Lib.itoa y2.1.1).length+([117,59,105,110,116,32,98,61,40,105,110,116,41]:List UInt8).length<=9223372036854775807)<|
 ck (dM y3.1.1)<|
 ck (((105:UInt8)::(110:UInt8)::(116:UInt8)::(32:UInt8)::(109:UInt8)::(97:UInt8)::(105:UInt8)::(110:UInt8)::(40:UInt8)::(41:UInt8)::(123:UInt8)::(117:UInt8)::(110:UInt8)::(115:UInt8)::(105:UInt8)::(103:UInt8)::(110:UInt8)::(101:UInt8)::(100:UInt8)::(32:UInt8)::(97:UInt8)::(61:UInt8)::[]++Lib.itoa y2.1.1++(117:UInt8)::(59:UInt8)::(105:UInt8)::(110:UInt8)::(116:UInt8)::(32:UInt8)::(98:UInt8)::(61:UInt8)::(40:UInt8)::(105:UInt8)::(110:UInt8)::(116:UInt8)::(41:UInt8)::[]).length+(Lib.itoa y3.1.1).length<=9223372036854775807)<|
 ck (((105:UInt8)::(110:UInt8)::(116:UInt8)::(32:UInt8)::(109:UInt8)::(97:UInt8)::(105:UInt8)::(110:UInt8)::(40:UInt8)::(41:UInt8)::(123:UInt8)::(117:UInt8)::(110:UInt8)::(115:UInt8)::(105:UInt8)::(103:UInt8)::(110:UInt8)::(101:UInt8)::(100:UInt8)::(32:UInt8)::(97:UInt8)::(61:UInt8)::[]++Lib.itoa y2.1.1++(117:UInt8)::(59:UInt8)::(105:UInt8)::(110:UInt8)::(116:UInt8)::(32:UInt8)::(98:UInt8)::(61:UInt8)::(40:UInt8)::(105:UInt8)::(110:UInt8)::(116:UInt8)::(41:UInt8)::[]++Lib.itoa y3.1.1).length+([117,59,114,101,116,117,114,110,32,40,105,110,116,41,40,97,47,98,41,59,125]:List UInt8).length<=9223372036854775807)<|
 (Rt.k ((105:UInt8)::(110:UInt8)::(116:UInt8)::(32:UInt8)::(109:UInt8)::(97:UInt8)::(105:UInt8)::(110:UInt8)::(40:UInt8)::(41:UInt8)::(123:UInt8)::(117:UInt8)::(110:UInt8)::(115:UInt8)::(105:UInt8)::(103:UInt8)::(110:UInt8)::(101:UInt8)::(100:UInt8)::(32:UInt8)::(97:UInt8)::(61:UInt8)::[]++Lib.itoa y2.1.1++(117:UInt8)::(59:UInt8)::(105:UInt8)::(110:UInt8)::(116:UInt8)::(32:UInt8)::(98:UInt8)::(61:UInt8)::(40:UInt8)::(105:UInt8)::(110:UInt8)::(116:UInt8)::(41:UInt8)::[]++Lib.itoa y3.1.1++(117:UInt8)::(59:UInt8)::(114:UInt8)::(101:UInt8)::(116:UInt8)::(117:UInt8)::(114:UInt8)::(110:UInt8)::(32:UInt8)::(40:UInt8)::(105:UInt8)::(110:UInt8)::(116:UInt8)::(41:UInt8)::(40:UInt8)::(97:UInt8)::(47:UInt8)::(98:UInt8)::(41:UInt8)::(59:UInt8)::(125:UInt8)::[]) [] 1000).bind fun y5=>
 (Pm.k 6 y2.1.1 y3.1.1).bind fun y6=>
 ci (!y6.1.2.1) (ci (y4.1.2.1=0) (ci (y5.1.2.1=0) (ck ((256:Int)≠0)<|
 (Ru.k y4.1.1 (Dop.QE.mk 1 (y2.1.1.tmod 256) [])).bind fun y10=>
 ci y10.1.1 ((Ru.k y5.1.1 (Dop.QE.mk 2 2 [])).bind fun y12=>
 ci y12.1.1 (CO true)<|
 CO false)<|
 CO false)<|
 CO false)<|
 CO false)<|
 ci (y4.1.2.1=0) (ci (y5.1.2.1=0) (ck ((256:Int)≠0)<|
 (Ru.k y4.1.1 (Dop.QE.mk 1 (y2.1.1.tmod 256) [])).bind fun y10=>
 ci y10.1.1 ((Ru.k y5.1.1 (Dop.QE.mk 1 y6.1.1 [])).bind fun y12=>
 ci y12.1.1 (CO true)<|
 CO false)<|
 CO false)<|
 CO false)<|
 CO false
def m16.Kc:=kd 16 m16.p fun x=>m16.k x.1.1 x.1.2.1
theorem m16.Kh:m16.Kc.Holds prog:=kh AH (hc N4.Kh (hc itoa.holds (hc Rt.Kh (hc Pm.Kh (hc Ru.Kh (hc V2.holds hn)))))) m16.ok (by kernel_rfl)
end
end Go.Proofs.Tryz
