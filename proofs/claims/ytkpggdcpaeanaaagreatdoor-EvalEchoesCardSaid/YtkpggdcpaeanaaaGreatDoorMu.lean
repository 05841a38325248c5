/- The awakes of layers 5 and 6, run by the kernel: contracts without a question. -/
import Derived.Test.YtkpggdcpaeanaaaGreatDoorTwE
import Derived.IntWalk
set_option linter.all false
set_option maxRecDepth 10000000
namespace Go.En
theorem Yi {S:Ao} {P:Program} {f bn:Nat} {sp rs:Spec} {flat:Bool} {m:sp.D S->Option (rs.D S)} {g:sp.D S->rs.D S} (h:CC.Holds P ⟨f,bn,sp,rs,flat,.opt m⟩) (hm: ∀ x,m x=some (g x)):CC.Holds P ⟨f,bn,sp,rs,flat,.fA g⟩:=
 ⟨h.Br,h.bound,h.flat,fun x y hxy=>h.calls x y (by show m x=some y;rw [hm];exact congrArg some hxy)⟩
end Go.En
namespace Go.Proofs
open Go Go.En
theorem Tryz.VZ.run:Tryz.XF.k=some ((true,()),()):=by kernel_rfl
def Tryz.VZ.c:CC En.Dop.D4:=⟨29,0,⟨[],[]⟩,⟨[.fd .bool],[]⟩,true,.fA fun _=>((true,()),())⟩
theorem Tryz.VZ.holds:Tryz.VZ.c.Holds Tryz.prog:=Yi Tryz.XF.Kh fun _=>Tryz.VZ.run
end Go.Proofs
/- Functions of the seat, lifted: plan, model, contract, equations. Written by a program (Lift) that ran the layer's evaluation; Lean checks each line. -/
set_option maxRecDepth 100000
set_option maxHeartbeats 4000000
namespace Go.Proofs.Tryz
open Go Go.En
def m13.p:Ai:=⟨[],0,⟨[.fd (.sl 3),.fd (.int .u8)],[]⟩,⟨[.fd .bool],[]⟩,true,[],[]⟩
theorem m13.ok:AG Dop.D4 prog 13 m13.p=true:=by kernel_rfl
end Go.Proofs.Tryz
/- The evaluator by rules: what an expression or a statement does in a run that has not ended. -/
set_option maxHeartbeats 1000000
namespace Go.Proofs.Tryz
open Go Go.En
theorem dk {p:Prop} [Decidable p] (h:decide p=true):p:=of_decide_eq_true h
theorem A9 {α:Type} {b:Bool} {x:Option α} (h:b=true):ck b x=x:=by rw [h];rfl
theorem A8 {α:Type} {b:Bool} {x y:α} (h:b=true):ci b x y=x:=by rw [h];rfl
theorem AM {α:Type} {b:Bool} {x y:α} (h:b=false):ci b x y=y:=by rw [h];rfl
theorem JF {α β:Type} {a:α} {k:(α×Unit)×Unit->Option β}:Option.bind (ED a) k=k ((a,()),()):=rfl
theorem JG {α δ β:Type} {a:α} {x:δ} {k:(α×Unit)×(δ×Unit)->Option β}:Option.bind (CS a x) k=k ((a,()),(x,())):=rfl
theorem QH {α δ β:Type} {a:α} {x:δ} {k:(α×δ×Unit)×Unit->Option β}:Option.bind (I0 a x) k=k ((a,x,()),()):=rfl
theorem DS {α δ ε β:Type} {a:α} {x:δ} {y:ε} {k:(α×Unit)×(δ×ε×Unit)->Option β}:Option.bind (AV a x y) k=k ((a,()),(x,y,())):=rfl
abbrev st (p:Dop.Jy) (mem:List Int) (sp:Int) (inp out:List Int) (fu:Int):ER:=(p,mem,sp,inp,out,fu,0,0,0,(),())
def nd (p:Dop.Jy) (i:Int):Dop.AR:=List.getD p.nodes i.toNat Dop.d5
abbrev VM (p:Dop.Jy) (i:Int):Prop:=0<=i/\i<I p.nodes.length
def EX (d:Nat) (i:Int) (s:ER) (f:EF) (v:Int) (s':ER) (f':EF):Prop:= ∀ n,BI.kr (BQ.kR (n+d)) i s f=AV v s' f'
def ST (d:Nat) (i:Int) (s:ER) (f:EF) (h:Int) (s':ER) (f':EF):Prop:= ∀ n,C3.kr (BQ.kR (n+d)) i s f=AV h s' f'
theorem ST.mono {d e:Nat} {i v:Int} {s s':ER} {f f':EF} (h:ST d i s f v s' f') (hd:d<=e):ST e i s f v s' f':=fun n=>by
 have:=h (n+(e -d));rwa [show n+(e -d)+d=n+e by omega] at this
theorem P8 (n:Nat):BQ.kR (n+1)=BQ.kS (BQ.kR n):=rfl
section
variable {p:Dop.Jy} {mem:List Int} {sp:Int} {inp out:List Int} {fu:Int} {fr:EF} {i:Int} {d:Nat}
theorem Ya (h0:0<fu) (h1:fu<=1000000):FQ.k (st p mem sp inp out fu)=CS true (st p mem sp inp out (fu -1)):=by
 unfold FQ.k
 rw [AM (by rfl),AM (decide_eq_false (show ¬ fu=0 by omega)),A9 (Ef.2 (show -9223372036854775808<=fu -1/\fu -1<=9223372036854775807 by omega))]
end
theorem gr {α:Type} [NN α] (f:α->α):Cv f 1000000=f (Cv f 999999):=rfl
theorem au (v:Int) (hv:0<=v/\v<=255):bits BinOp.and IntKind.i64 v 255=v:=by
 have h31:(BitVec.ofInt 64 255).toNat=2 ^ 8 -1:=by decide
 have key:(BitVec.ofInt 64 v &&& BitVec.ofInt 64 255).toNat=(v % ((2 ^ 64:Nat):Int)).toNat % 2 ^ 8:=by
  rw [BitVec.toNat_and,BitVec.toNat_ofInt,h31,Nat.and_two_pow_sub_one_eq_mod]
 show IntKind.i64.wrap ((BitVec.ofInt 64 v &&& BitVec.ofInt 64 255).toNat:Nat)=v
 rw [key,IntKind.wrap_i64]
 omega
section
variable (r:BQ.T) (i:Int) (x:Dop.AR) (s:ER) (f:EF)
theorem Ks:BI.kr (BQ.kS r) i s f=BI.kf r i s f:=rfl
theorem gR:FR.kr (BQ.kS r) i s f=FR.kf r i s f:=rfl
theorem aI:IH.kr (BQ.kS r) x s f=IH.kf r x s f:=rfl
theorem gP:C3.kr (BQ.kS r) i s f=C3.kf r i s f:=rfl
theorem Tg:BM.kr (BQ.kS r) x s f=BM.kf r x s f:=rfl
theorem gQ:BJ.kr (BQ.kS r) x s f=BJ.kf r x s f:=rfl
theorem je (l:List Int):m64.kr (BQ.kS r) i l s=m64.kf r i l s:=rfl
theorem ZA {p:Dop.Jy} {mem:List Int} {sp:Int} {inp out:List Int} {fu:Int} (h0:0<fu) (h1:fu<=1000000) (hi:VM p i) (hk:5<(nd p i).kind):
  BI.kf r i (st p mem sp inp out fu) f=E8.kB r (BI.kL r 999999) (nd p i).kind (st p mem sp inp out (fu -1)) f (nd p i):=by
 unfold BI.kf BI.k0
 rw [Ya h0 h1,JG]
 dsimp only
 rw [show List.getD (ER.p (st p mem sp inp out (fu -1))).nodes i.toNat Dop.d5=nd p i from rfl,AM (by rfl),A9 (decide_eq_true hi),AM (decide_eq_false (by omega)),AM (decide_eq_false (by omega)),AM (decide_eq_false (by omega)),AM (decide_eq_false (by omega)),AM (decide_eq_false (by omega))]
 unfold BI.kL
 rw [gr]
 rfl
theorem Wf {p:Dop.Jy} {mem:List Int} {sp:Int} {inp out:List Int} {fu:Int} (h0:0<fu) (h1:fu<=1000000) (hi:VM p i) (hk:8<(nd p i).kind):
  BI.kf r i (st p mem sp inp out fu) f=Fo.kB r (BI.kL r 999998) (nd p i).kind (st p mem sp inp out (fu -1)) f (nd p i):=by
 rw [ZA r i f h0 h1 hi (by omega)]
 unfold E8.kB
 dsimp only
 rw [AM (decide_eq_false (by omega)),AM (decide_eq_false (by omega)),AM (decide_eq_false (by omega))]
 rfl
end
section
variable {p:Dop.Jy} {mem:List Int} {sp:Int} {inp out:List Int} {fu:Int} {fr:EF} {i:Int} {d:Nat}
theorem EX.num (h0:0<fu) (h1:fu<=1000000) (hi:VM p i) (hk:(nd p i).kind=1):EX 1 i (st p mem sp inp out fu) fr (nd p i).n (st p mem sp inp out (fu -1)) fr:=fun n=>by
 rw [P8,Ks]
 unfold BI.kf BI.k0
 rw [Ya h0 h1,JG]
 dsimp only
 unfold nd at hk ⊢
 rw [AM (by rfl),A9 (decide_eq_true hi),A8 (decide_eq_true hk)]
theorem EX.lH (h0:0<fu) (h1:fu<=1000000) (hi:VM p i) (hk:(nd p i).kind=2) (hr:0<=(nd p i).n/\(nd p i).n<I fr.Al.length):EX 1 i (st p mem sp inp out fu) fr (fr.Al.getD (nd p i).n.toNat 0) (st p mem sp inp out (fu -1)) fr:=fun n=>by
 rw [P8,Ks]
 unfold BI.kf BI.k0
 rw [Ya h0 h1,JG]
 dsimp only
 unfold nd at hk hr ⊢
 rw [AM (by rfl),A9 (decide_eq_true hi),AM (by rw [hk];rfl),A8 (decide_eq_true hk),A9 (decide_eq_true hr),A9 (decide_eq_true (show (List.getD p.nodes i.toNat Dop.d5).n.toNat<fr.Al.length by simp only [I] at hr;omega))]
variable {v w:Int} {m1:List Int} {sp1:Int} {i1 o1:List Int} {u1:Int} {f1:EF} {m2:List Int} {sp2:Int} {i2 o2:List Int} {u2:Int} {f2 fr':EF}
theorem sub {n:Nat} {s s':ER} (ha:EX d i s fr v s' f1):FR.kr (BQ.kR (n+d+1)) i s fr=some ((v,()),(((),()),(s',(((),()),(f1,()))))):=by
 rw [P8,gR]
 unfold FR.kf
 rw [ha n,DS]
theorem EX.gz (h0:0<fu) (h1:fu<=1000000) (hi:VM p i) (hk:(nd p i).kind=6) (ha:EX d (nd p i).a (st p mem sp inp out (fu -1)) fr v (st p m1 sp1 i1 o1 u1) f1) (hr:0<=(nd p i).n/\(nd p i).n<I f1.Al.length):
  EX (d+2) i (st p mem sp inp out fu) fr v (st p m1 sp1 i1 o1 u1) (EF.YC f1 (f1.Al.set (nd p i).n.toNat v)):=fun n=>by
 rw [show n+(d+2)=n+d+1+1 from rfl,P8,Ks,ZA _ _ _ h0 h1 hi (by omega)]
 unfold E8.kB
 dsimp only
 rw [A8 (decide_eq_true hk),sub ha,Option.bind_some]
 dsimp only
 rw [A8 (show decide ((st p m1 sp1 i1 o1 u1).end_=0)=true from rfl),A9 (decide_eq_true hr),A9 (decide_eq_true (show (nd p i).n.toNat<f1.Al.length by simp only [I] at hr;omega))]
theorem EX.one (h0:0<fu) (h1:fu<=1000000) (hi:VM p i) (hk:(nd p i).kind=7) (ha:EX d (nd p i).a (st p mem sp inp out (fu -1)) fr v (st p m1 sp1 i1 o1 u1) f1) (ho:Ba.k (nd p i).n v 0=I0 w true):
  EX (d+2) i (st p mem sp inp out fu) fr w (st p m1 sp1 i1 o1 u1) f1:=fun n=>by
 rw [show n+(d+2)=n+d+1+1 from rfl,P8,Ks,ZA _ _ _ h0 h1 hi (by omega)]
 unfold E8.kB
 dsimp only
 rw [AM (decide_eq_false (by omega)),A8 (decide_eq_true hk),A8 (decide_eq_true hk),P8,aI]
 unfold IH.kf
 rw [ha n,DS]
 dsimp only
 rw [AM (decide_eq_false (by omega)),AM (show (!decide ((st p _ _ _ _ _).end_=0))=false from rfl),ho,QH]
 rfl
theorem EX.two (h0:0<fu) (h1:fu<=1000000) (hi:VM p i) (hk:(nd p i).kind=8) {x:Int} (ha:EX d (nd p i).a (st p mem sp inp out (fu -1)) fr v (st p m1 sp1 i1 o1 u1) f1) (hb:EX d (nd p i).b (st p m1 sp1 i1 o1 u1) f1 w (st p m2 sp2 i2 o2 u2) f2) (ho:Ba.k (nd p i).n v w=I0 x true):
  EX (d+2) i (st p mem sp inp out fu) fr x (st p m2 sp2 i2 o2 u2) f2:=fun n=>by
 rw [show n+(d+2)=n+d+1+1 from rfl,P8,Ks,ZA _ _ _ h0 h1 hi (by omega)]
 unfold E8.kB
 dsimp only
 rw [AM (decide_eq_false (by omega)),AM (decide_eq_false (by omega)),A8 (decide_eq_true hk),P8,aI]
 unfold IH.kf
 rw [ha n,DS]
 dsimp only
 rw [A8 (decide_eq_true hk),hb n,DS]
 dsimp only
 rw [AM (show (!decide ((st p _ _ _ _ _).end_=0))=false from rfl),ho,QH]
 rfl
theorem EX.k9 (h0:0<fu) (h1:fu<=1000000) (hi:VM p i) (hk:(nd p i).kind=13):EX 1 i (st p mem sp [] out fu) fr (-1) (st p mem sp [] out (fu -1)) fr:=fun n=>by
 rw [P8,Ks,Wf _ _ _ h0 h1 hi (by omega)]
 unfold Fo.kB
 dsimp only
 rw [AM (decide_eq_false (by omega)),AM (decide_eq_false (by omega)),AM (decide_eq_false (by omega)),AM (decide_eq_false (by omega)),A8 (decide_eq_true hk)]
 rfl
theorem EX.lA (h0:0<fu) (h1:fu<=1000000) (hi:VM p i) (hk:(nd p i).kind=13) {c:Int} {cs:List Int} (hc:0<=c/\c<=255):EX 1 i (st p mem sp (c::cs) out fu) fr c (st p mem sp cs out (fu -1)) fr:=fun n=>by
 rw [P8,Ks,Wf _ _ _ h0 h1 hi (by omega)]
 unfold Fo.kB
 dsimp only
 rw [AM (decide_eq_false (by omega)),AM (decide_eq_false (by omega)),AM (decide_eq_false (by omega)),AM (decide_eq_false (by omega)),A8 (decide_eq_true hk)]
 have h1:(0:Int)<I (c::cs).length:=by simp only [I,List.length_cons];omega
 rw [AM (decide_eq_false (show ¬ I (c::cs).length=0 by omega)),A9 (decide_eq_true (show (0:Int)<=0/\0<I (c::cs).length by omega)),A9 (decide_eq_true (show (0:Int)<=1/\1<=I (c::cs).length/\I (c::cs).length<=I (c::cs).length by omega))]
 refine (A9 (show Ap c=true from Ef.2 (by omega))).trans ?_
 show AV c (ER.UH _ (List.drop 1 (List.take (c::cs).length (c::cs)))) fr=_
 rw [List.take_length]
 rfl
theorem EX.jm (h0:0<fu) (h1:fu<=1000000) (hi:VM p i) (hk:(nd p i).kind=14) (ha:EX d (nd p i).a (st p mem sp inp out (fu -1)) fr v (st p m1 sp1 i1 o1 u1) f1) (hv:0<=v/\v<=255) (ho:o1.length<1000000):
  EX (d+2) i (st p mem sp inp out fu) fr v (st p m1 sp1 i1 (o1++[v]) u1) f1:=fun n=>by
 rw [show n+(d+2)=n+d+1+1 from rfl,P8,Ks,Wf _ _ _ h0 h1 hi (by omega)]
 unfold Fo.kB
 dsimp only
 rw [AM (decide_eq_false (by omega)),AM (decide_eq_false (by omega)),AM (decide_eq_false (by omega)),AM (decide_eq_false (by omega)),AM (decide_eq_false (by omega)),A8 (decide_eq_true hk),sub ha,Option.bind_some]
 dsimp only
 have e:=au v hv
 rw [A8 (show decide ((st p m1 sp1 i1 o1 u1).end_=0)=true from rfl),e,IntWalk.u8_in v hv]
 exact A9 (show room 1 (o1.length+1)=true by unfold room;exact decide_eq_true (by omega))
variable {h:Int} {s s' s1 s2:ER} {x:Dop.AR} {l:List Int} {j c:Nat}
def DO (d:Nat) (x:Dop.AR) (s:ER) (f:EF) (h:Int) (s':ER) (f':EF):Prop:= ∀ n,BM.kr (BQ.kR (n+d)) x s f=AV h s' f'
theorem ST.of (h0:0<fu) (h1:fu<=1000000) (hi:VM p i) (hs:EF.GV fr=0) (hd:DO d (nd p i) (st p mem sp inp out (fu -1)) fr h (st p m1 sp1 i1 o1 u1) f1):ST (d+1) i (st p mem sp inp out fu) fr h (st p m1 sp1 i1 o1 u1) f1:=fun n=>by
 rw [show n+(d+1)=n+d+1 from rfl,P8,gP]
 unfold C3.kf
 rw [AM (by rw [hs];rfl),A8 (decide_eq_true hs),Ya h0 h1,JG]
 dsimp only
 rw [show List.getD (ER.p (st p mem sp inp out (fu -1))).nodes i.toNat Dop.d5=nd p i from rfl,AM (by rfl),A9 (decide_eq_true hi),hd n]
 rfl
theorem DO.expr (hk:x.kind=30) (ha:0<=x.a) (he:EX d x.a s fr v s' f1):DO (d+1) x s fr 0 s' f1:=fun n=>by
 rw [show n+(d+1)=n+d+1 from rfl,P8,Tg]
 unfold BM.kf BM.k0
 dsimp only
 rw [A8 (decide_eq_true hk),A8 (decide_eq_true ha),he n]
 rfl
theorem gO (r:BQ.T) (hk:34<x.kind):BM.kf r x s fr=Gs.kB r (BM.kL r 999999) x.kind s fr x:=by
 unfold BM.kf BM.k0
 dsimp only
 rw [AM (decide_eq_false (by omega)),AM (decide_eq_false (by omega)),AM (decide_eq_false (by omega)),AM (decide_eq_false (by omega)),AM (decide_eq_false (by omega))]
 rfl
theorem DO.E5 (hk:x.kind=37) (ha:0<=x.a) (he:EX d x.a s fr v s' f1):DO (d+1) x s fr 3 s' (EF.YE f1 v):=fun n=>by
 rw [show n+(d+1)=n+d+1 from rfl,P8,Tg,gO _ (by omega)]
 unfold Gs.kB
 dsimp only
 rw [AM (decide_eq_false (by omega)),AM (decide_eq_false (by omega)),A8 (decide_eq_true hk),A8 (decide_eq_true ha),he n]
 rfl
def BL (d c:Nat) (l:List Int) (j:Nat) (s:ER) (f:EF) (h:Int) (s':ER) (f':EF):Prop:= ∀ n N,(Cv (BM.kS (BQ.kR (n+d))) (N+c)).2.2.2.1 l (I l.length) (I j) s f=AV h s' f'
theorem BL.cons (hj:j<l.length) (hl:l.length<1000000) (hd:ST d (l.getD j 0) s fr 0 s1 f1) (hr:BL d c l (j+1) s1 f1 h s' f2):BL d (c+1) l j s fr h s' f2:=fun n N=>by
 show Fm.kB (BQ.kR (n+d)) (Cv (BM.kS (BQ.kR (n+d))) (N+c)) l (I l.length) (I j) s fr=_
 unfold Fm.kB
 rw [A8 (decide_eq_true (by simp only [I];omega)),A9 (decide_eq_true (by simp only [I];omega)),A9 (decide_eq_true (by simp only [I];omega)),show (I j).toNat=j from rfl,hd n,DS]
 dsimp only
 rw [AM (show (!decide ((0:Int)=0))=false from rfl),A9 (Ef.2 (by simp only [I];omega))]
 exact hr n N
theorem BL.exit (hj:j<l.length) (hd:ST d (l.getD j 0) s fr h s1 f1) (hh:h≠0):BL d (c+1) l j s fr h s1 f1:=fun n N=>by
 show Fm.kB (BQ.kR (n+d)) (Cv (BM.kS (BQ.kR (n+d))) (N+c)) l (I l.length) (I j) s fr=_
 unfold Fm.kB
 rw [A8 (decide_eq_true (by simp only [I];omega)),A9 (decide_eq_true (by simp only [I];omega)),A9 (decide_eq_true (by simp only [I];omega)),show (I j).toNat=j from rfl,hd n,DS]
 dsimp only
 rw [A8 (by rw [decide_eq_false hh];rfl)]
theorem DO.block (hk:x.kind=43) (hl:DL.k (ER.p s) x.a=ED l) (hb:BL d c l 0 s fr h s' f1) (hc:c<=999998):DO (d+1) x s fr h s' f1:=fun n=>by
 rw [show n+(d+1)=n+d+1 from rfl,P8,Tg,gO _ (by omega)]
 unfold Gs.kB
 dsimp only
 rw [AM (decide_eq_false (by omega)),AM (decide_eq_false (by omega)),AM (decide_eq_false (by omega)),AM (decide_eq_false (by omega)),AM (decide_eq_false (by omega)),AM (decide_eq_false (by omega)),AM (decide_eq_false (by omega))]
 show H8.kB (BQ.kR (n+d)) (Cv (BM.kS (BQ.kR (n+d))) 999998) x.kind s fr x=_
 unfold H8.kB
 rw [AM (decide_eq_false (by omega)),A8 (decide_eq_true hk),hl,JF]
 have:=hb n (999998 -c)
 rw [show 999998 -c+c=999998 by omega] at this
 exact this
def WH (d c:Nat) (b t:Int) (x:Dop.AR) (s:ER) (f:EF) (h:Int) (s':ER) (f':EF):Prop:= ∀ n N,(Cv (BJ.kS (BQ.kR (n+d))) (N+c)).2.2.1 b false t s f x=AV h s' f'
theorem WH.stop {b t:Int} (ht:0<=t) (he:EX d t s fr 0 s' f1):WH d (c+1) b t x s fr 0 s' f1:=fun n N=>by
 show Fp.kB (BQ.kR (n+d)) _ b false t s fr x=_
 unfold Fp.kB
 dsimp only
 rw [A8 (b:=!false) rfl,A8 (decide_eq_true ht),he n,DS]
 rfl
theorem WH.round {b t:Int} (ht:0<=t) (hk:x.kind=32) (hx:x.a=t) (he:EX d t s fr v s1 f1) (hv:v≠0) (hd:ST d b s1 f1 h (st p m2 sp2 i2 o2 u2) f2) (hh:h=0\/h=2) (hr:WH d c b t x (st p m2 sp2 i2 o2 u2) f2 w s' fr'):WH d (c+4) b t x s fr w s' fr':=fun n N=>by
 show Fp.kB (BQ.kR (n+d)) (Cv (BJ.kS (BQ.kR (n+d))) (N+c+3)) b false t s fr x=_
 unfold Fp.kB
 dsimp only
 rw [A8 (b:=!false) rfl,A8 (decide_eq_true ht),he n,DS]
 dsimp only
 rw [AM (decide_eq_false hv),A8 (b:=!false) rfl,AM (decide_eq_false (by omega)),hd n,DS]
 dsimp only
 have e:H9.kB (BQ.kR (n+d)) (Cv (BJ.kS (BQ.kR (n+d))) (N+c+2)) b false (st p m2 sp2 i2 o2 u2) f2 x=AV w s' fr':=by
  unfold H9.kB
  rw [AM (decide_eq_false (by omega))]
  show IA.kB (BQ.kR (n+d)) (Cv (BJ.kS (BQ.kR (n+d))) (N+c+1)) b false (st p m2 sp2 i2 o2 u2) f2 x=AV w s' fr'
  unfold IA.kB
  rw [AM (show (!decide ((st p m2 sp2 i2 o2 u2).end_=0))=false from rfl)]
  show Hd.kB (BQ.kR (n+d)) (Cv (BJ.kS (BQ.kR (n+d))) (N+c)) b false (st p m2 sp2 i2 o2 u2) f2 x=AV w s' fr'
  unfold Hd.kB
  rw [AM (decide_eq_false (by omega)),hx]
  exact hr n N
 rcases hh with rfl|rfl<;>exact e
theorem DO.iq (hk:x.kind=32) (hs:EF.GV fr=0) (hw:WH d c x.b x.a x s fr h s' f1) (hc:c<=999998):DO (d+2) x s fr h s' f1:=fun n=>by
 rw [show n+(d+2)=n+d+1+1 from rfl,P8,Tg]
 unfold BM.kf BM.k0
 dsimp only
 rw [AM (decide_eq_false (by omega)),AM (decide_eq_false (by omega)),A8 (decide_eq_true hk),A8 (decide_eq_true hk),P8,gQ]
 unfold BJ.kf BJ.k0
 rw [AM (decide_eq_false (by omega))]
 show Option.bind (KP.kB (BQ.kR (n+d)) (Cv (BJ.kS (BQ.kR (n+d))) 999999) x.b s fr x) A7=_
 unfold KP.kB
 rw [AM (by rw [hs];rfl)]
 show Option.bind (Hd.kB (BQ.kR (n+d)) (Cv (BJ.kS (BQ.kR (n+d))) 999998) x.b (decide (x.kind=33)) s fr x) A7=_
 unfold Hd.kB
 rw [AM (decide_eq_false (by omega)),decide_eq_false (show ¬ x.kind=33 by omega)]
 have:=hw n (999998 -c)
 rw [show 999998 -c+c=999998 by omega] at this
 exact (congrArg (fun z=>Option.bind z A7) this).trans rfl
def CL (d:Nat) (k:Int) (args:List Int) (s:ER) (v:Int) (s':ER):Prop:= ∀ n,m64.kr (BQ.kR (n+d)) k args s=CS v s'
abbrev kI (g:Dop.DR) (args:List Int) (b:Int):EF:=(g,List.take (List.replicate g.Al.toNat (0:Int)).length args++List.drop args.length (List.replicate g.Al.toNat (0:Int)),b,0,[],0,0,())
theorem CL.of {k:Int} {args:List Int} {g:Dop.DR} (hk:0<=k/\k<I p.funcs.length) (hg:List.getD p.funcs k.toNat Dop.d11=g) (hm:sp+g.frame<=I mem.length) (hr:0<=g.Al/\g.Al<=1000000) (hs:0<=sp/\sp<=1000000) (hf:0<=g.frame/\g.frame<=1000000)
  (hd:ST d g.body (st p mem (sp+g.frame) inp out fu) (kI g args sp) h (st p m1 (sp+g.frame) i1 o1 u1) f1) (hh:h≠4):CL (d+1) k args (st p mem sp inp out fu) (EF.told f1) (st p m1 sp i1 o1 u1):=fun n=>by
 rw [show n+(d+1)=n+d+1 from rfl,P8,je]
 unfold m64.kf m64.k0
 dsimp only
 rw [show List.getD (ER.p (st p mem sp inp out fu)).funcs k.toNat Dop.d11=g from hg,AM (show (!decide ((st p mem sp inp out fu).end_=0))=false from rfl),AM (decide_eq_false (by omega)),A9 (decide_eq_true hk),A9 (Ef.2 (show -9223372036854775808<=sp+g.frame/\sp+g.frame<=9223372036854775807 by omega)),AM (decide_eq_false (show ¬ I mem.length<sp+g.frame by omega)),
  A9 (decide_eq_true (show 0<=g.Al/\g.Al<=g.Al/\g.Al*(I 8+1)<=140737488355328 by simp only [I];omega)),A9 (Ef.2 (show -9223372036854775808<=sp+g.frame/\sp+g.frame<=9223372036854775807 by omega))]
 show OL.kB (BQ.kR (n+d)) _ (st p mem (sp+g.frame) inp out fu) g (kI g args sp)=_
 unfold OL.kB
 rw [hd n,DS]
 dsimp only
 rw [AM (decide_eq_false hh),A9 (Ef.2 (show -9223372036854775808<=sp+g.frame -g.frame/\sp+g.frame -g.frame<=9223372036854775807 by omega))]
 show CS _ (st p m1 (sp+g.frame -g.frame) i1 o1 u1)=_
 rw [show sp+g.frame -g.frame=sp by omega]
theorem jq {k:Int} (hg:p.globals=[]) (hm:Tl.k p ([109,97,105,110]:List UInt8)=ED k) (hf:0<=fu/\fu<=1000000) (hc:CL d k [] (st p (List.replicate 4096 0) p.top inp [] fu) v (st p m1 sp1 i1 o1 u1)) (hd:d<=1000000000):IB.k p inp fu=ED (Dop.UQ.mk 1 v o1):=by
 unfold IB.k IB.k0
 rw [A9 (by decide),hg,if_neg (show ¬ fu<0 by omega),if_neg (show ¬ 1000000<fu by omega)]
 show OK.kB (IB.kL 999999) [] (I 0) 0 p 0 0 [] (st p (List.replicate 4096 0) p.top inp [] fu)=_
 unfold OK.kB
 dsimp only
 rw [AM (by rfl),hm,JF]
 have:=hc (1000000000 -d)
 rw [show 1000000000 -d+d=1000000000 by omega] at this
 show Option.bind (m64.kr (BQ.kR 1000000000) k [] (st p (List.replicate 4096 0) p.top inp [] fu)) _=_
 rw [this]
 rfl
end
theorem TT (l:List Int) (hl:l.length<1000000): ∀ (k j N:Nat),j+k=l.length->(Cv IS.kS (N+k+1)).1 l l (I l.length) (I j)=ED true
 | 0,j,N,h=>by
  show Ku.kB _ l l (I l.length) (I j)=_
  unfold Ku.kB
  rw [AM (decide_eq_false (by simp only [I];omega))]
 | k+1,j,N,h=>by
  show Ku.kB (Cv IS.kS (N+k+1)) l l (I l.length) (I j)=_
  unfold Ku.kB
  rw [A8 (decide_eq_true (by simp only [I];omega)),A9 (decide_eq_true (by simp only [I];omega)),A9 (decide_eq_true (by simp only [I];omega)),AM (by simp),A9 (Ef.2 (by simp only [I];omega))]
  exact TT l hl k (j+1) N (by omega)
theorem same (a b:Int) (l:List Int) (hl:l.length<1000000):Tm.k (.mk a b l) (.mk a b l)=ED true:=by
 unfold Tm.k
 dsimp only
 rw [A8 (decide_eq_true rfl),A8 (decide_eq_true rfl)]
 unfold IS.k IS.k0
 rw [AM (by simp)]
 have:=TT l hl l.length 0 (999999 -l.length) (by omega)
 rw [show 999999 -l.length+l.length+1=1000000 by omega] at this
 exact (congrArg (fun z=>Option.bind z _) this).trans rfl
abbrev gJ (a:Int):Prop:= -2147483648<=a/\a<=2147483647
theorem ae {a:Int} (h:gJ a):IntKind.i32.wrap (IntKind.u32.wrap a)=a:=by rw [IntKind.wrap_i32,IntKind.wrap_u32];omega
theorem iu (a:Int):gJ (IntKind.i32.wrap (IntKind.u32.wrap a)):=by rw [IntKind.wrap_i32,IntKind.wrap_u32];omega
theorem k6 (a:Int):Ea.k a=ED (IntKind.i32.wrap (IntKind.u32.wrap a)):=by
 have:=iu a
 unfold Ea.k
 exact A9 (Ef.2 (by omega))
theorem gi {a b:Int} (ha:gJ a) (hb:gJ b):Ba.k 15 a b=I0 (if a=b then 0 else 1) true:=by
 unfold Ba.k Ba.k0
 rw [k6,k6,JF,JF]
 dsimp only
 rw [ae ha,ae hb]
 show Option.bind (HI.k (!decide (a=b))) _=_
 by_cases h:a=b
 ·rw [decide_eq_true h,if_pos h];rfl
 ·rw [decide_eq_false h,if_neg h];rfl
end Go.Proofs.Tryz
/- Functions in plain words (what their equations say), and their contracts. Written by a program. -/
set_option maxRecDepth 100000
set_option maxHeartbeats 4000000
namespace Go.Proofs.Tryz
open Go Go.En
noncomputable section
def m13.k (input:List Int) (code:Int):F8 Bool:=
 ci (200<I input.length) (ED true)<|
 ck (Ap code)<|
 ck (ja code)<|
 ck (([105,110,116,32,109,97,105,110,40,41,123,105,110,116,32,99,59,119,104,105,108,101,40,40,99,61,103,101,116,99,40,41,41,33,61,45,49,41,112,117,116,99,40,99,41,59,114,101,116,117,114,110,32]:List UInt8).length+(Lib.itoa code).length<=9223372036854775807)<|
 ck (((105:UInt8)::(110:UInt8)::(116:UInt8)::(32:UInt8)::(109:UInt8)::(97:UInt8)::(105:UInt8)::(110:UInt8)::(40:UInt8)::(41:UInt8)::(123:UInt8)::(105:UInt8)::(110:UInt8)::(116:UInt8)::(32:UInt8)::(99:UInt8)::(59:UInt8)::(119:UInt8)::(104:UInt8)::(105:UInt8)::(108:UInt8)::(101:UInt8)::(40:UInt8)::(40:UInt8)::(99:UInt8)::(61:UInt8)::(103:UInt8)::(101:UInt8)::(116:UInt8)::(99:UInt8)::(40:UInt8)::(41:UInt8)::(41:UInt8)::(33:UInt8)::(61:UInt8)::(45:UInt8)::(49:UInt8)::(41:UInt8)::(112:UInt8)::(117:UInt8)::(116:UInt8)::(99:UInt8)::(40:UInt8)::(99:UInt8)::(41:UInt8)::(59:UInt8)::(114:UInt8)::(101:UInt8)::(116:UInt8)::(117:UInt8)::(114:UInt8)::(110:UInt8)::(32:UInt8)::[]++Lib.itoa code).length+([59,125]:List UInt8).length<=9223372036854775807)<|
 (RZ.k ((105:UInt8)::(110:UInt8)::(116:UInt8)::(32:UInt8)::(109:UInt8)::(97:UInt8)::(105:UInt8)::(110:UInt8)::(40:UInt8)::(41:UInt8)::(123:UInt8)::(105:UInt8)::(110:UInt8)::(116:UInt8)::(32:UInt8)::(99:UInt8)::(59:UInt8)::(119:UInt8)::(104:UInt8)::(105:UInt8)::(108:UInt8)::(101:UInt8)::(40:UInt8)::(40:UInt8)::(99:UInt8)::(61:UInt8)::(103:UInt8)::(101:UInt8)::(116:UInt8)::(99:UInt8)::(40:UInt8)::(41:UInt8)::(41:UInt8)::(33:UInt8)::(61:UInt8)::(45:UInt8)::(49:UInt8)::(41:UInt8)::(112:UInt8)::(117:UInt8)::(116:UInt8)::(99:UInt8)::(40:UInt8)::(99:UInt8)::(41:UInt8)::(59:UInt8)::(114:UInt8)::(101:UInt8)::(116:UInt8)::(117:UInt8)::(114:UInt8)::(110:UInt8)::(32:UInt8)::[]++Lib.itoa code++(59:UInt8)::(125:UInt8)::[]) input 20000).bind fun y3=>
 ci (y3.1.2.1=0) ((Tm.k y3.1.1 (Dop.UQ.mk 1 code input)).bind fun y5=>
 ci y5.1.1 (ED true)<|
 ED false)<|
 ED false
def m13.Kc:=kd 13 m13.p fun x=>m13.k x.1.1 x.1.2.1
theorem m13.Kh:m13.Kc.Holds prog:=kh AH (hc VZ.holds (hc itoa.holds (hc RZ.Kh (hc Tm.Kh hn)))) m13.ok (by kernel_rfl)
end
end Go.Proofs.Tryz
/- EvalEchoes: the source, and its program. -/
namespace Go.Proofs.Tryz
open Go Go.En
def Fb (n:Int):List UInt8:=([105,110,116,32,109,97,105,110,40,41,123,105,110,116,32,99,59,119,104,105,108,101,40,40,99,61,103,101,116,99,40,41,41,33,61,45,49,41,112,117,116,99,40,99,41,59,114,101,116,117,114,110,32]:List UInt8)++Lib.itoa n++([59,125]:List UInt8)
def CD (n:Int):Dop.Jy:=.mk [.mk [109,97,105,110] 0 1 0 20] [] 1 [.mk 1 (-1) (-1) (-1) (-1) [] 0 0 0,.mk 6 0 (-1) (-1) (-1) [] 0 0 0,.mk 30 1 (-1) (-1) (-1) [] 0 0 0,.mk 2 (-1) (-1) (-1) (-1) [] 0 0 0,.mk 13 (-1) (-1) (-1) (-1) [] 0 0 0,.mk 6 4 (-1) (-1) (-1) [] 0 0 0,.mk 1 (-1) (-1) (-1) (-1) [] 1 0 0,.mk 7 6 (-1) (-1) (-1) [] 20 0 0,.mk 8 5 7 (-1) (-1) [] 15 0 0,.mk 2 (-1) (-1) (-1) (-1) [] 0 0 0,.mk 14 9 (-1) (-1) (-1) [] 0 0 0,.mk 30 10 (-1) (-1) (-1) [] 0 0 0,.mk 32 8 11 (-1) (-1) [] 0 0 0,.mk 1 (-1) (-1) (-1) (-1) [] n 0 0,.mk 37 13 (-1) (-1) (-1) [] 0 0 0,.mk 20 14 (-1) (-1) (-1) [] 0 0 0,.mk 20 12 15 (-1) (-1) [] 0 0 0,.mk 20 2 16 (-1) (-1) [] 0 0 0,.mk 43 17 (-1) (-1) (-1) [] 0 0 0,.mk 20 18 (-1) (-1) (-1) [] 0 0 0,.mk 43 19 (-1) (-1) (-1) [] 0 0 0]
theorem Bt {a b:Nat} (h:((List.range b).map fun n=>m18.k (Fb (I (a+n))))=(List.range b).map fun n=>Ds (CD (I (a+n))) 0 0) (n:Nat) (h0:a<=n) (h1:n<a+b):m18.k (Fb (I n))=Ds (CD (I n)) 0 0:=by
 have:=List.map_inj_left.1 h (n -a) (List.mem_range.2 (by omega))
 rwa [show a+(n -a)=n by omega] at this
end Go.Proofs.Tryz
