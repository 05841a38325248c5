/- The awakes of layers 5 and 6, run by the kernel: contracts without a question. -/
import Derived.Test.YtikecakpcfpghaaGreatDoorTwE
import Derived.IntWalk
import Derived.Test.YtikecakpcfpghaaGreatDoorMt
set_option linter.all false
set_option maxRecDepth 10000000
namespace Go.En
theorem Zr {S:Aq} {P:Program} {f bn:Nat} {sp rs:Spec} {flat:Bool} {m:sp.D S->Option (rs.D S)} {g:sp.D S->rs.D S} (h:By.Holds P ⟨f,bn,sp,rs,flat,.opt m⟩) (hm: ∀ x,m x=some (g x)):By.Holds P ⟨f,bn,sp,rs,flat,.iC g⟩:=
 ⟨h.Bq,h.bound,h.flat,fun x y hxy=>h.calls x y (by show m x=some y;rw [hm];exact congrArg some hxy)⟩
end Go.En
namespace Go.Proofs
open Go Go.En
theorem Tryz.SY.run:Tryz.YE.k=some ((true,()),()):=by kernel_rfl
def Tryz.SY.c:By En.Dop.D4:=⟨4,0,⟨[],[]⟩,⟨[.fd .bool],[]⟩,true,.iC fun _=>((true,()),())⟩
theorem Tryz.SY.holds:Tryz.SY.c.Holds Tryz.prog:=Zr Tryz.YE.Kh fun _=>Tryz.SY.run
end Go.Proofs
set_option maxHeartbeats 1000000
namespace Go.Proofs.Tryz
open Go Go.En
theorem dk {p:Prop} [Decidable p] (h:decide p=true):p:=of_decide_eq_true h
theorem Ar {α:Type} {b:Bool} {x:Option α} (h:b=true):ck b x=x:=by rw [h];rfl
theorem Ag {α:Type} {b:Bool} {x y:α} (h:b=true):ci b x y=x:=by rw [h];rfl
theorem AJ {α:Type} {b:Bool} {x y:α} (h:b=false):ci b x y=y:=by rw [h];rfl
theorem CX {α β:Type} {a:α} {k:(α×Unit)×Unit->Option β}:Option.bind (Ez a) k=k ((a,()),()):=rfl
theorem GI {α δ β:Type} {a:α} {x:δ} {k:(α×Unit)×(δ×Unit)->Option β}:Option.bind (Cn a x) k=k ((a,()),(x,())):=rfl
theorem Qe {α δ β:Type} {a:α} {x:δ} {k:(α×δ×Unit)×Unit->Option β}:Option.bind (JE a x) k=k ((a,x,()),()):=rfl
theorem CI {α δ ε β:Type} {a:α} {x:δ} {y:ε} {k:(α×Unit)×(δ×ε×Unit)->Option β}:Option.bind (Ac a x y) k=k ((a,()),(x,y,())):=rfl
abbrev st (p:Dop.JM) (mem:List Int) (sp:Int) (inp out:List Int) (fu:Int):ER:=(p,mem,sp,inp,out,fu,0,0,0,(),())
def nd (p:Dop.JM) (i:Int):Dop.AZ:=List.getD p.nodes i.toNat Dop.d5
abbrev KJ (p:Dop.JM) (i:Int):Prop:=0<=i/\i<I p.nodes.length
def EX (d:Nat) (i:Int) (s:ER) (f:EF) (v:Int) (s':ER) (f':EF):Prop:= ∀ n,BA.kr (BJ.kR (n+d)) i s f=Ac v s' f'
def ST (d:Nat) (i:Int) (s:ER) (f:EF) (h:Int) (s':ER) (f':EF):Prop:= ∀ n,Cy.kr (BJ.kR (n+d)) i s f=Ac h s' f'
theorem EX.mono {d e:Nat} {i v:Int} {s s':ER} {f f':EF} (h:EX d i s f v s' f') (hd:d<=e):EX e i s f v s' f':=fun n=>by
 have:=h (n+(e -d));rwa [show n+(e -d)+d=n+e by omega] at this
theorem ST.mono {d e:Nat} {i v:Int} {s s':ER} {f f':EF} (h:ST d i s f v s' f') (hd:d<=e):ST e i s f v s' f':=fun n=>by
 have:=h (n+(e -d));rwa [show n+(e -d)+d=n+e by omega] at this
theorem LV (n:Nat):BJ.kR (n+1)=BJ.kS (BJ.kR n):=rfl
section
variable {p:Dop.JM} {mem:List Int} {sp:Int} {inp out:List Int} {fu:Int} {fr:EF} {i:Int} {d:Nat}
theorem VM (h0:0<fu) (h1:fu<=1000000):FR.k (st p mem sp inp out fu)=Cn true (st p mem sp inp out (fu -1)):=by
 unfold FR.k
 rw [AJ (by rfl),AJ (decide_eq_false (show ¬ fu=0 by omega)),Ar (Ch.2 (show -9223372036854775808<=fu -1/\fu -1<=9223372036854775807 by omega))]
end
theorem jd {α:Type} [NN α] (f:α->α):C5 f 1000000=f (C5 f 999999):=rfl
theorem cy (v:Int) (hv:0<=v/\v<=255):bits BinOp.and IntKind.i64 v 255=v:=by
 have h31:(BitVec.ofInt 64 255).toNat=2 ^ 8 -1:=by decide
 have key:(BitVec.ofInt 64 v &&& BitVec.ofInt 64 255).toNat=(v % ((2 ^ 64:Nat):Int)).toNat % 2 ^ 8:=by
  rw [BitVec.toNat_and,BitVec.toNat_ofInt,h31,Nat.and_two_pow_sub_one_eq_mod]
 show IntKind.i64.wrap ((BitVec.ofInt 64 v &&& BitVec.ofInt 64 255).toNat:Nat)=v
 rw [key,IntKind.wrap_i64]
 omega
section
variable (r:BJ.T) (i:Int) (x:Dop.AZ) (s:ER) (f:EF)
theorem HD:BA.kr (BJ.kS r) i s f=BA.kf r i s f:=rfl
theorem jH:EV.kr (BJ.kS r) i s f=EV.kf r i s f:=rfl
theorem jI:Gx.kr (BJ.kS r) x s f=Gx.kf r x s f:=rfl
theorem cB:GS.kr (BJ.kS r) x s f=GS.kf r x s f:=rfl
theorem jG:Cy.kr (BJ.kS r) i s f=Cy.kf r i s f:=rfl
theorem RA:BF.kr (BJ.kS r) x s f=BF.kf r x s f:=rfl
theorem cA:A7.kr (BJ.kS r) x s f=A7.kf r x s f:=rfl
theorem mA (l:List Int):m64.kr (BJ.kS r) i l s=m64.kf r i l s:=rfl
theorem dx {p:Dop.JM} {mem:List Int} {sp:Int} {inp out:List Int} {fu:Int} (h0:0<fu) (h1:fu<=1000000) (hi:KJ p i) (hk:5<(nd p i).kind):
  BA.kf r i (st p mem sp inp out fu) f=Fm.kB r (BA.kL r 999999) (nd p i).kind (st p mem sp inp out (fu -1)) f (nd p i):=by
 unfold BA.kf BA.k0
 rw [VM h0 h1,GI]
 dsimp only
 rw [show List.getD (ER.p (st p mem sp inp out (fu -1))).nodes i.toNat Dop.d5=nd p i from rfl,AJ (by rfl),Ar (decide_eq_true hi),AJ (decide_eq_false (by omega)),AJ (decide_eq_false (by omega)),AJ (decide_eq_false (by omega)),AJ (decide_eq_false (by omega)),AJ (decide_eq_false (by omega))]
 unfold BA.kL
 rw [jd]
 rfl
theorem Oh {p:Dop.JM} {mem:List Int} {sp:Int} {inp out:List Int} {fu:Int} (h0:0<fu) (h1:fu<=1000000) (hi:KJ p i) (hk:8<(nd p i).kind):
  BA.kf r i (st p mem sp inp out fu) f=D6.kB r (BA.kL r 999998) (nd p i).kind (st p mem sp inp out (fu -1)) f (nd p i):=by
 rw [dx r i f h0 h1 hi (by omega)]
 unfold Fm.kB
 dsimp only
 rw [AJ (decide_eq_false (by omega)),AJ (decide_eq_false (by omega)),AJ (decide_eq_false (by omega))]
 rfl
end
section
variable {p:Dop.JM} {mem:List Int} {sp:Int} {inp out:List Int} {fu:Int} {fr:EF} {i:Int} {d:Nat}
theorem EX.num (h0:0<fu) (h1:fu<=1000000) (hi:KJ p i) (hk:(nd p i).kind=1):EX 1 i (st p mem sp inp out fu) fr (nd p i).n (st p mem sp inp out (fu -1)) fr:=fun n=>by
 rw [LV,HD]
 unfold BA.kf BA.k0
 rw [VM h0 h1,GI]
 dsimp only
 unfold nd at hk ⊢
 rw [AJ (by rfl),Ar (decide_eq_true hi),Ag (decide_eq_true hk)]
theorem EX.nv (h0:0<fu) (h1:fu<=1000000) (hi:KJ p i) (hk:(nd p i).kind=2) (hr:0<=(nd p i).n/\(nd p i).n<I fr.Al.length):EX 1 i (st p mem sp inp out fu) fr (fr.Al.getD (nd p i).n.toNat 0) (st p mem sp inp out (fu -1)) fr:=fun n=>by
 rw [LV,HD]
 unfold BA.kf BA.k0
 rw [VM h0 h1,GI]
 dsimp only
 unfold nd at hk hr ⊢
 rw [AJ (by rfl),Ar (decide_eq_true hi),AJ (by rw [hk];rfl),Ag (decide_eq_true hk),Ar (decide_eq_true hr),Ar (decide_eq_true (show (List.getD p.nodes i.toNat Dop.d5).n.toNat<fr.Al.length by simp only [I] at hr;omega))]
variable {v w:Int} {m1:List Int} {sp1:Int} {i1 o1:List Int} {u1:Int} {f1:EF} {m2:List Int} {sp2:Int} {i2 o2:List Int} {u2:Int} {f2 fr':EF}
theorem sub {n:Nat} {s s':ER} (ha:EX d i s fr v s' f1):EV.kr (BJ.kR (n+d+1)) i s fr=some ((v,()),(((),()),(s',(((),()),(f1,()))))):=by
 rw [LV,jH]
 unfold EV.kf
 rw [ha n,CI]
theorem EX.mN (h0:0<fu) (h1:fu<=1000000) (hi:KJ p i) (hk:(nd p i).kind=6) (ha:EX d (nd p i).a (st p mem sp inp out (fu -1)) fr v (st p m1 sp1 i1 o1 u1) f1) (hr:0<=(nd p i).n/\(nd p i).n<I f1.Al.length):
  EX (d+2) i (st p mem sp inp out fu) fr v (st p m1 sp1 i1 o1 u1) (EF.Te f1 (f1.Al.set (nd p i).n.toNat v)):=fun n=>by
 rw [show n+(d+2)=n+d+1+1 from rfl,LV,HD,dx _ _ _ h0 h1 hi (by omega)]
 unfold Fm.kB
 dsimp only
 rw [Ag (decide_eq_true hk),sub ha,Option.bind_some]
 dsimp only
 rw [Ag (show decide ((st p m1 sp1 i1 o1 u1).end_=0)=true from rfl),Ar (decide_eq_true hr),Ar (decide_eq_true (show (nd p i).n.toNat<f1.Al.length by simp only [I] at hr;omega))]
theorem EX.two (h0:0<fu) (h1:fu<=1000000) (hi:KJ p i) (hk:(nd p i).kind=8) {x:Int} (ha:EX d (nd p i).a (st p mem sp inp out (fu -1)) fr v (st p m1 sp1 i1 o1 u1) f1) (hb:EX d (nd p i).b (st p m1 sp1 i1 o1 u1) f1 w (st p m2 sp2 i2 o2 u2) f2) (ho:BC.k (nd p i).n v w=JE x true):
  EX (d+2) i (st p mem sp inp out fu) fr x (st p m2 sp2 i2 o2 u2) f2:=fun n=>by
 rw [show n+(d+2)=n+d+1+1 from rfl,LV,HD,dx _ _ _ h0 h1 hi (by omega)]
 unfold Fm.kB
 dsimp only
 rw [AJ (decide_eq_false (by omega)),AJ (decide_eq_false (by omega)),Ag (decide_eq_true hk),LV,jI]
 unfold Gx.kf
 rw [ha n,CI]
 dsimp only
 rw [Ag (decide_eq_true hk),hb n,CI]
 dsimp only
 rw [AJ (show (!decide ((st p _ _ _ _ _).end_=0))=false from rfl),ho,Qe]
 rfl
theorem EX.na (h0:0<fu) (h1:fu<=1000000) (hi:KJ p i) (hk:(nd p i).kind=13):EX 1 i (st p mem sp [] out fu) fr (-1) (st p mem sp [] out (fu -1)) fr:=fun n=>by
 rw [LV,HD,Oh _ _ _ h0 h1 hi (by omega)]
 unfold D6.kB
 dsimp only
 rw [AJ (decide_eq_false (by omega)),AJ (decide_eq_false (by omega)),AJ (decide_eq_false (by omega)),AJ (decide_eq_false (by omega)),Ag (decide_eq_true hk)]
 rfl
theorem EX.nb (h0:0<fu) (h1:fu<=1000000) (hi:KJ p i) (hk:(nd p i).kind=13) {c:Int} {cs:List Int} (hc:0<=c/\c<=255):EX 1 i (st p mem sp (c::cs) out fu) fr c (st p mem sp cs out (fu -1)) fr:=fun n=>by
 rw [LV,HD,Oh _ _ _ h0 h1 hi (by omega)]
 unfold D6.kB
 dsimp only
 rw [AJ (decide_eq_false (by omega)),AJ (decide_eq_false (by omega)),AJ (decide_eq_false (by omega)),AJ (decide_eq_false (by omega)),Ag (decide_eq_true hk)]
 have h1:(0:Int)<I (c::cs).length:=by simp only [I,List.length_cons];omega
 rw [AJ (decide_eq_false (show ¬ I (c::cs).length=0 by omega)),Ar (decide_eq_true (show (0:Int)<=0/\0<I (c::cs).length by omega)),Ar (decide_eq_true (show (0:Int)<=1/\1<=I (c::cs).length/\I (c::cs).length<=I (c::cs).length by omega))]
 refine (Ar (show BD c=true from Ch.2 (by omega))).trans ?_
 show Ac c (ER.Uz _ (List.drop 1 (List.take (c::cs).length (c::cs)))) fr=_
 rw [List.take_length]
 rfl
theorem EX.mJ (h0:0<fu) (h1:fu<=1000000) (hi:KJ p i) (hk:(nd p i).kind=14) (ha:EX d (nd p i).a (st p mem sp inp out (fu -1)) fr v (st p m1 sp1 i1 o1 u1) f1) (hv:0<=v/\v<=255) (ho:o1.length<1000000):
  EX (d+2) i (st p mem sp inp out fu) fr v (st p m1 sp1 i1 (o1++[v]) u1) f1:=fun n=>by
 rw [show n+(d+2)=n+d+1+1 from rfl,LV,HD,Oh _ _ _ h0 h1 hi (by omega)]
 unfold D6.kB
 dsimp only
 rw [AJ (decide_eq_false (by omega)),AJ (decide_eq_false (by omega)),AJ (decide_eq_false (by omega)),AJ (decide_eq_false (by omega)),AJ (decide_eq_false (by omega)),Ag (decide_eq_true hk),sub ha,Option.bind_some]
 dsimp only
 have e:=cy v hv
 rw [Ag (show decide ((st p m1 sp1 i1 o1 u1).end_=0)=true from rfl),e,IntWalk.u8_in v hv]
 exact Ar (show room 1 (o1.length+1)=true by unfold room;exact decide_eq_true (by omega))
variable {h:Int} {s s' s1 s2:ER} {x:Dop.AZ} {l:List Int} {j c:Nat}
def DO (d:Nat) (x:Dop.AZ) (s:ER) (f:EF) (h:Int) (s':ER) (f':EF):Prop:= ∀ n,BF.kr (BJ.kR (n+d)) x s f=Ac h s' f'
theorem ST.of (h0:0<fu) (h1:fu<=1000000) (hi:KJ p i) (hs:EF.FY fr=0) (hd:DO d (nd p i) (st p mem sp inp out (fu -1)) fr h (st p m1 sp1 i1 o1 u1) f1):ST (d+1) i (st p mem sp inp out fu) fr h (st p m1 sp1 i1 o1 u1) f1:=fun n=>by
 rw [show n+(d+1)=n+d+1 from rfl,LV,jG]
 unfold Cy.kf
 rw [AJ (by rw [hs];rfl),Ag (decide_eq_true hs),VM h0 h1,GI]
 dsimp only
 rw [show List.getD (ER.p (st p mem sp inp out (fu -1))).nodes i.toNat Dop.d5=nd p i from rfl,AJ (by rfl),Ar (decide_eq_true hi),hd n]
 rfl
theorem DO.expr (hk:x.kind=30) (ha:0<=x.a) (he:EX d x.a s fr v s' f1):DO (d+1) x s fr 0 s' f1:=fun n=>by
 rw [show n+(d+1)=n+d+1 from rfl,LV,RA]
 unfold BF.kf BF.k0
 dsimp only
 rw [Ag (decide_eq_true hk),Ag (decide_eq_true ha),he n]
 rfl
theorem jF (r:BJ.T) (hk:34<x.kind):BF.kf r x s fr=Gu.kB r (BF.kL r 999999) x.kind s fr x:=by
 unfold BF.kf BF.k0
 dsimp only
 rw [AJ (decide_eq_false (by omega)),AJ (decide_eq_false (by omega)),AJ (decide_eq_false (by omega)),AJ (decide_eq_false (by omega)),AJ (decide_eq_false (by omega))]
 rfl
theorem DO.E7 (hk:x.kind=37) (ha:0<=x.a) (he:EX d x.a s fr v s' f1):DO (d+1) x s fr 3 s' (EF.Tf f1 v):=fun n=>by
 rw [show n+(d+1)=n+d+1 from rfl,LV,RA,jF _ (by omega)]
 unfold Gu.kB
 dsimp only
 rw [AJ (decide_eq_false (by omega)),AJ (decide_eq_false (by omega)),Ag (decide_eq_true hk),Ag (decide_eq_true ha),he n]
 rfl
def BL (d c:Nat) (l:List Int) (j:Nat) (s:ER) (f:EF) (h:Int) (s':ER) (f':EF):Prop:= ∀ n N,(C5 (BF.kS (BJ.kR (n+d))) (N+c)).2.2.2.1 l (I l.length) (I j) s f=Ac h s' f'
theorem BL.nil (hj:l.length=j):BL d (c+1) l j s fr 0 s fr:=fun n N=>by
 show Eb.kB _ _ l (I l.length) (I j) s fr=_
 unfold Eb.kB
 rw [AJ (decide_eq_false (by simp only [I];omega))]
theorem BL.cons (hj:j<l.length) (hl:l.length<1000000) (hd:ST d (l.getD j 0) s fr 0 s1 f1) (hr:BL d c l (j+1) s1 f1 h s' f2):BL d (c+1) l j s fr h s' f2:=fun n N=>by
 show Eb.kB (BJ.kR (n+d)) (C5 (BF.kS (BJ.kR (n+d))) (N+c)) l (I l.length) (I j) s fr=_
 unfold Eb.kB
 rw [Ag (decide_eq_true (by simp only [I];omega)),Ar (decide_eq_true (by simp only [I];omega)),Ar (decide_eq_true (by simp only [I];omega)),show (I j).toNat=j from rfl,hd n,CI]
 dsimp only
 rw [AJ (show (!decide ((0:Int)=0))=false from rfl),Ar (Ch.2 (by simp only [I];omega))]
 exact hr n N
theorem BL.exit (hj:j<l.length) (hd:ST d (l.getD j 0) s fr h s1 f1) (hh:h≠0):BL d (c+1) l j s fr h s1 f1:=fun n N=>by
 show Eb.kB (BJ.kR (n+d)) (C5 (BF.kS (BJ.kR (n+d))) (N+c)) l (I l.length) (I j) s fr=_
 unfold Eb.kB
 rw [Ag (decide_eq_true (by simp only [I];omega)),Ar (decide_eq_true (by simp only [I];omega)),Ar (decide_eq_true (by simp only [I];omega)),show (I j).toNat=j from rfl,hd n,CI]
 dsimp only
 rw [Ag (by rw [decide_eq_false hh];rfl)]
theorem DO.block (hk:x.kind=43) (hl:C6.k (ER.p s) x.a=Ez l) (hb:BL d c l 0 s fr h s' f1) (hc:c<=999998):DO (d+1) x s fr h s' f1:=fun n=>by
 rw [show n+(d+1)=n+d+1 from rfl,LV,RA,jF _ (by omega)]
 unfold Gu.kB
 dsimp only
 rw [AJ (decide_eq_false (by omega)),AJ (decide_eq_false (by omega)),AJ (decide_eq_false (by omega)),AJ (decide_eq_false (by omega)),AJ (decide_eq_false (by omega)),AJ (decide_eq_false (by omega)),AJ (decide_eq_false (by omega))]
 show IN.kB (BJ.kR (n+d)) (C5 (BF.kS (BJ.kR (n+d))) 999998) x.kind s fr x=_
 unfold IN.kB
 rw [AJ (decide_eq_false (by omega)),Ag (decide_eq_true hk),hl,CX]
 have:=hb n (999998 -c)
 rw [show 999998 -c+c=999998 by omega] at this
 exact this
def WH (d c:Nat) (b t:Int) (x:Dop.AZ) (s:ER) (f:EF) (h:Int) (s':ER) (f':EF):Prop:= ∀ n N,(C5 (A7.kS (BJ.kR (n+d))) (N+c)).2.2.1 b false t s f x=Ac h s' f'
theorem WH.stop {b t:Int} (ht:0<=t) (he:EX d t s fr 0 s' f1):WH d (c+1) b t x s fr 0 s' f1:=fun n N=>by
 show Fo.kB (BJ.kR (n+d)) _ b false t s fr x=_
 unfold Fo.kB
 dsimp only
 rw [Ag (b:=!false) rfl,Ag (decide_eq_true ht),he n,CI]
 rfl
theorem DO.cb (hk:x.kind=32) (hs:EF.FY fr=0) (hw:WH d c x.b x.a x s fr h s' f1) (hc:c<=999998):DO (d+2) x s fr h s' f1:=fun n=>by
 rw [show n+(d+2)=n+d+1+1 from rfl,LV,RA]
 unfold BF.kf BF.k0
 dsimp only
 rw [AJ (decide_eq_false (by omega)),AJ (decide_eq_false (by omega)),Ag (decide_eq_true hk),Ag (decide_eq_true hk),LV,cA]
 unfold A7.kf A7.k0
 rw [AJ (decide_eq_false (by omega))]
 show Option.bind (Hi.kB (BJ.kR (n+d)) (C5 (A7.kS (BJ.kR (n+d))) 999999) x.b s fr x) BP=_
 unfold Hi.kB
 rw [AJ (by rw [hs];rfl)]
 show Option.bind (F7.kB (BJ.kR (n+d)) (C5 (A7.kS (BJ.kR (n+d))) 999998) x.b (decide (x.kind=33)) s fr x) BP=_
 unfold F7.kB
 rw [AJ (decide_eq_false (by omega)),decide_eq_false (show ¬ x.kind=33 by omega)]
 have:=hw n (999998 -c)
 rw [show 999998 -c+c=999998 by omega] at this
 exact (congrArg (fun z=>Option.bind z BP) this).trans rfl
def CL (d:Nat) (k:Int) (args:List Int) (s:ER) (v:Int) (s':ER):Prop:= ∀ n,m64.kr (BJ.kR (n+d)) k args s=Cn v s'
abbrev l6 (g:Dop.Dc) (args:List Int) (b:Int):EF:=(g,List.take (List.replicate g.Al.toNat (0:Int)).length args++List.drop args.length (List.replicate g.Al.toNat (0:Int)),b,0,[],0,0,())
theorem CL.of {k:Int} {args:List Int} {g:Dop.Dc} (hk:0<=k/\k<I p.funcs.length) (hg:List.getD p.funcs k.toNat Dop.d11=g) (hm:sp+g.frame<=I mem.length) (hr:0<=g.Al/\g.Al<=1000000) (hs:0<=sp/\sp<=1000000) (hf:0<=g.frame/\g.frame<=1000000)
  (hd:ST d g.body (st p mem (sp+g.frame) inp out fu) (l6 g args sp) h (st p m1 (sp+g.frame) i1 o1 u1) f1) (hh:h≠4):CL (d+1) k args (st p mem sp inp out fu) (EF.told f1) (st p m1 sp i1 o1 u1):=fun n=>by
 rw [show n+(d+1)=n+d+1 from rfl,LV,mA]
 unfold m64.kf m64.k0
 dsimp only
 rw [show List.getD (ER.p (st p mem sp inp out fu)).funcs k.toNat Dop.d11=g from hg,AJ (show (!decide ((st p mem sp inp out fu).end_=0))=false from rfl),AJ (decide_eq_false (by omega)),Ar (decide_eq_true hk),Ar (Ch.2 (show -9223372036854775808<=sp+g.frame/\sp+g.frame<=9223372036854775807 by omega)),AJ (decide_eq_false (show ¬ I mem.length<sp+g.frame by omega)),
  Ar (decide_eq_true (show 0<=g.Al/\g.Al<=g.Al/\g.Al*(I 8+1)<=140737488355328 by simp only [I];omega)),Ar (Ch.2 (show -9223372036854775808<=sp+g.frame/\sp+g.frame<=9223372036854775807 by omega))]
 show Ol.kB (BJ.kR (n+d)) _ (st p mem (sp+g.frame) inp out fu) g (l6 g args sp)=_
 unfold Ol.kB
 rw [hd n,CI]
 dsimp only
 rw [AJ (decide_eq_false hh),Ar (Ch.2 (show -9223372036854775808<=sp+g.frame -g.frame/\sp+g.frame -g.frame<=9223372036854775807 by omega))]
 show Cn _ (st p m1 (sp+g.frame -g.frame) i1 o1 u1)=_
 rw [show sp+g.frame -g.frame=sp by omega]
end
abbrev du (a:Int):Prop:= -2147483648<=a/\a<=2147483647
theorem KI {a:Int} (h:du a):IntKind.i32.wrap (IntKind.u32.wrap a)=a:=by rw [IntKind.wrap_i32,IntKind.wrap_u32];omega
theorem lJ (a:Int):du (IntKind.i32.wrap (IntKind.u32.wrap a)):=by rw [IntKind.wrap_i32,IntKind.wrap_u32];omega
theorem bc (a:Int):Eh.k a=Ez (IntKind.i32.wrap (IntKind.u32.wrap a)):=by
 have:=lJ a
 unfold Eh.k
 exact Ar (Ch.2 (by omega))
end Go.Proofs.Tryz
namespace Go.Proofs.Tryz
open Go Go.En
theorem cQ {v:Int} (h:0<=v/\v<=2147483647):Ff.k v=Ez v:=by
 unfold Ff.k
 have e:IntKind.u32.wrap v=v:=by rw [IntKind.wrap_u32];omega
 rw [e]
 exact Ar (Ch.2 (by omega))
section
variable {p:Dop.JM} {mem:List Int} {sp:Int} {inp out:List Int} {fu:Int} {fr:EF} {i:Int} {d:Nat}
variable {v w:Int} {m1:List Int} {sp1:Int} {i1 o1:List Int} {u1:Int} {f1:EF} {m2:List Int} {sp2:Int} {i2 o2:List Int} {u2:Int} {f2 fr':EF} {m3:List Int} {sp3:Int} {i3 o3:List Int} {u3:Int} {f3:EF}
variable {h:Int} {s s' s1 s2:ER} {x:Dop.AZ} {l:List Int} {j c:Nat}
theorem EX.fe {u u':Int} (a:EX d i s fr v (st p m1 sp1 i1 o1 u) f1) (e:u=u':=by omega):EX d i s fr v (st p m1 sp1 i1 o1 u') f1:=e▸a
theorem ST.fe {u u':Int} (a:ST d i s fr h (st p m1 sp1 i1 o1 u) f1) (e:u=u':=by omega):ST d i s fr h (st p m1 sp1 i1 o1 u') f1:=e▸a
theorem ST.o (hd:DO d (nd p i) (st p mem sp inp out (fu -1)) fr h (st p m1 sp1 i1 o1 u1) f1) (H:0<fu/\fu<=1000000:=by omega) (hi:decide (KJ p i)=true:=by rfl) (hs:EF.FY fr=0:=by rfl):ST (d+1) i (st p mem sp inp out fu) fr h (st p m1 sp1 i1 o1 u1) f1:=ST.of H.1 H.2 (dk hi) hs hd
theorem ST.at {fv:Int} (hd:DO d (nd p i) (st p mem sp inp out fv) fr h (st p m1 sp1 i1 o1 u1) f1) (H:(0<fu/\fu<=1000000)/\fu -1=fv:=by omega) (hi:decide (KJ p i)=true:=by rfl) (hs:EF.FY fr=0:=by rfl):ST (d+1) i (st p mem sp inp out fu) fr h (st p m1 sp1 i1 o1 u1) f1:=ST.of H.1.1 H.1.2 (dk hi) hs (H.2▸hd)
theorem EX.mo {e:Nat} (a:EX d i s fr v s' f1) (hd:d<=e:=by omega):EX e i s fr v s' f1:=a.mono hd
theorem ST.mo {e:Nat} (a:ST d i s fr h s' f1) (hd:d<=e:=by omega):ST e i s fr h s' f1:=a.mono hd
theorem DO.xp (he:EX d x.a s fr v s' f1) (hq:decide (x.kind=30/\0<=x.a)=true:=by rfl):DO (d+1) x s fr 0 s' f1:=DO.expr (dk hq).1 (dk hq).2 he
theorem DO.gi (v:Int) (f1:EF) (he:EX d x.a s fr v s' f1) (hq:decide (x.kind=37/\0<=x.a)=true:=by rfl):DO (d+1) x s fr 3 s' (EF.Tf f1 v):=DO.E7 (dk hq).1 (dk hq).2 he
theorem DO.bl (l:List Int) (c:Nat) (hb:BL d c l 0 s fr h s' f1) (hl:C6.k (ER.p s) x.a=Ez l:=by kernel_rfl) (hq:decide (x.kind=43/\c<=999998)=true:=by rfl):DO (d+1) x s fr h s' f1:=DO.block (dk hq).1 hl hb (dk hq).2
theorem BL.ni (hj:l.length=j:=by rfl):BL d (c+1) l j s fr 0 s fr:=BL.nil hj
theorem BL.co (hd:ST d (l.getD j 0) s fr 0 s1 f1) (hr:BL d c l (j+1) s1 f1 h s' f2) (hq:decide (j<l.length/\l.length<1000000)=true:=by rfl):BL d (c+1) l j s fr h s' f2:=BL.cons (dk hq).1 (dk hq).2 hd hr
theorem BL.ex (hd:ST d (l.getD j 0) s fr h s1 f1) (hq:decide (j<l.length/\h≠0)=true:=by rfl):BL d (c+1) l j s fr h s1 f1:=BL.exit (dk hq).1 hd (dk hq).2
theorem EX.nu (H:0<fu/\fu<=1000000:=by omega) (hq:decide (KJ p i/\(nd p i).kind=1)=true:=by rfl):EX 1 i (st p mem sp inp out fu) fr (nd p i).n (st p mem sp inp out (fu -1)) fr:=EX.num H.1 H.2 (dk hq).1 (dk hq).2
theorem EX.re (H:0<fu/\fu<=1000000:=by omega) (hq:decide ((KJ p i/\(nd p i).kind=2)/\0<=(nd p i).n/\(nd p i).n<I fr.Al.length)=true:=by rfl):EX 1 i (st p mem sp inp out fu) fr (fr.Al.getD (nd p i).n.toNat 0) (st p mem sp inp out (fu -1)) fr:=EX.nv H.1 H.2 (dk hq).1.1 (dk hq).1.2 (dk hq).2
theorem EX.se (f1:EF) (v:Int) (ha:EX d (nd p i).a (st p mem sp inp out (fu -1)) fr v (st p m1 sp1 i1 o1 u1) f1) (H:0<fu/\fu<=1000000:=by omega) (hq:decide ((KJ p i/\(nd p i).kind=6)/\0<=(nd p i).n/\(nd p i).n<I f1.Al.length)=true:=by rfl):
  EX (d+2) i (st p mem sp inp out fu) fr v (st p m1 sp1 i1 o1 u1) (EF.Te f1 (f1.Al.set (nd p i).n.toNat v)):=EX.mN H.1 H.2 (dk hq).1.1 (dk hq).1.2 ha (dk hq).2
theorem EX.tw {x:Int} (ha:EX d (nd p i).a (st p mem sp inp out (fu -1)) fr v (st p m1 sp1 i1 o1 u1) f1) (hb:EX d (nd p i).b (st p m1 sp1 i1 o1 u1) f1 w (st p m2 sp2 i2 o2 u2) f2) (ho:BC.k (nd p i).n v w=JE x true) (H:0<fu/\fu<=1000000:=by omega) (hq:decide (KJ p i/\(nd p i).kind=8)=true:=by rfl):
  EX (d+2) i (st p mem sp inp out fu) fr x (st p m2 sp2 i2 o2 u2) f2:=EX.two H.1 H.2 (dk hq).1 (dk hq).2 ha hb ho
theorem EX.load (ha:EX d (nd p i).a (st p mem sp inp out (fu -1)) fr v (st p m1 sp1 i1 o1 u1) f1) (hv:1<=v/\v<I m1.length) (hl:m1.length<=4096) (H:0<fu/\fu<=1000000:=by omega) (hq:decide (KJ p i/\(nd p i).kind=4)=true:=by rfl):
  EX (d+2) i (st p mem sp inp out fu) fr (m1.getD v.toNat 0) (st p m1 sp1 i1 o1 u1) f1:=fun n=>by
 obtain ⟨h0,h1⟩:=H
 obtain ⟨hi,hk⟩:=dk hq
 have hI:I m1.length<=4096:=by simp only [I];omega
 rw [show n+(d+2)=n+d+1+1 from rfl,LV,HD]
 unfold BA.kf BA.k0
 rw [VM h0 h1,GI]
 dsimp only
 rw [show List.getD (ER.p (st p mem sp inp out (fu -1))).nodes i.toNat Dop.d5=nd p i from rfl,AJ (by rfl),Ar (decide_eq_true hi),AJ (decide_eq_false (by omega)),AJ (decide_eq_false (by omega)),AJ (decide_eq_false (by omega)),Ag (decide_eq_true hk),Ag (decide_eq_true hk),LV,cB]
 unfold GS.kf
 rw [ha n,CI]
 dsimp only
 rw [AJ (decide_eq_false (by omega)),AJ (show (!decide ((st p _ _ _ _ _).end_=0))=false from rfl),cQ ⟨by omega,by omega⟩,CX]
 dsimp only
 rw [AJ (decide_eq_false (by omega)),AJ (decide_eq_false (show ¬ I m1.length<=v by omega)),Ar (decide_eq_true (show 0<=v/\v<I m1.length by omega)),Ag (decide_eq_true hk),Ar (decide_eq_true (show v.toNat<m1.length by simp only [I] at hv;omega))]
 rfl
theorem EX.store (ha:EX d (nd p i).a (st p mem sp inp out (fu -1)) fr v (st p m1 sp1 i1 o1 u1) f1) (hb:EX d (nd p i).b (st p m1 sp1 i1 o1 u1) f1 w (st p m2 sp2 i2 o2 u2) f2) (hv:1<=v/\v<I m2.length) (hl:m2.length<=4096) (H:0<fu/\fu<=1000000:=by omega) (hq:decide (KJ p i/\(nd p i).kind=5)=true:=by rfl):
  EX (d+2) i (st p mem sp inp out fu) fr w (st p (m2.set v.toNat w) sp2 i2 o2 u2) f2:=fun n=>by
 obtain ⟨h0,h1⟩:=H
 obtain ⟨hi,hk⟩:=dk hq
 have hI:I m2.length<=4096:=by simp only [I];omega
 rw [show n+(d+2)=n+d+1+1 from rfl,LV,HD]
 unfold BA.kf BA.k0
 rw [VM h0 h1,GI]
 dsimp only
 rw [show List.getD (ER.p (st p mem sp inp out (fu -1))).nodes i.toNat Dop.d5=nd p i from rfl,AJ (by rfl),Ar (decide_eq_true hi),AJ (decide_eq_false (by omega)),AJ (decide_eq_false (by omega)),AJ (decide_eq_false (by omega)),AJ (decide_eq_false (by omega)),Ag (decide_eq_true hk),LV,cB]
 unfold GS.kf
 rw [ha n,CI]
 dsimp only
 rw [Ag (decide_eq_true hk),hb n,CI]
 dsimp only
 rw [AJ (show (!decide ((st p _ _ _ _ _).end_=0))=false from rfl),cQ ⟨by omega,by omega⟩,CX]
 dsimp only
 rw [AJ (decide_eq_false (by omega)),AJ (decide_eq_false (show ¬ I m2.length<=v by omega)),Ar (decide_eq_true (show 0<=v/\v<I m2.length by omega)),AJ (decide_eq_false (by omega)),Ar (decide_eq_true (show v.toNat<m2.length by simp only [I] at hv;omega))]
 rfl
theorem EX.comma (ha:EX d (nd p i).a (st p mem sp inp out (fu -1)) fr v s1 f1) (hb:EX d (nd p i).b s1 f1 w s' f2) (H:0<fu/\fu<=1000000:=by omega) (hq:decide (KJ p i/\(nd p i).kind=15)=true:=by rfl):
  EX (d+2) i (st p mem sp inp out fu) fr w s' f2:=fun n=>by
 obtain ⟨h0,h1⟩:=H
 obtain ⟨hi,hk⟩:=dk hq
 rw [show n+(d+2)=n+d+1+1 from rfl,LV,HD,Oh _ _ _ h0 h1 hi (by omega)]
 unfold D6.kB
 dsimp only
 rw [AJ (decide_eq_false (by omega)),AJ (decide_eq_false (by omega)),AJ (decide_eq_false (by omega)),AJ (decide_eq_false (by omega)),AJ (decide_eq_false (by omega)),AJ (decide_eq_false (by omega)),sub ha,Option.bind_some]
 dsimp only
 rw [sub hb,Option.bind_some]
theorem bb {b t:Int} (e:x.kind=34/\0<=x.c/\EX d x.c (st p m2 sp2 i2 o2 u2) f2 v (st p m3 sp3 i3 o3 u3) f3\/(x.kind=34/\x.c<0\/x.kind=32\/x.kind=33)/\st p m2 sp2 i2 o2 u2=st p m3 sp3 i3 o3 u3/\f2=f3) (hx:x.kind=34/\x.b=t\/(x.kind=32\/x.kind=33)/\x.a=t)
  (hr:WH d c b t x (st p m3 sp3 i3 o3 u3) f3 w s' fr') (n N:Nat):(C5 (A7.kS (BJ.kR (n+d))) (N+c+3)).2.2.2.2.1 b false (st p m2 sp2 i2 o2 u2) f2 x=Ac w s' fr':=by
 have e25:(C5 (A7.kS (BJ.kR (n+d))) (N+c+2)).2.2.2.2.2.1 b false (st p m3 sp3 i3 o3 u3) f3 x=Ac w s' fr':=by
  show IQ.kB (BJ.kR (n+d)) (C5 (A7.kS (BJ.kR (n+d))) (N+c+1)) b false (st p m3 sp3 i3 o3 u3) f3 x=Ac w s' fr'
  unfold IQ.kB
  rw [AJ (show (!decide ((st p m3 sp3 i3 o3 u3).end_=0))=false from rfl)]
  show F7.kB (BJ.kR (n+d)) (C5 (A7.kS (BJ.kR (n+d))) (N+c)) b false (st p m3 sp3 i3 o3 u3) f3 x=Ac w s' fr'
  unfold F7.kB
  rcases hx with ⟨hk,hx⟩|⟨hk,hx⟩
  ·rw [Ag (decide_eq_true hk),hx]
   exact hr n N
  ·rw [AJ (decide_eq_false (by omega)),hx]
   exact hr n N
 show IP.kB (BJ.kR (n+d)) (C5 (A7.kS (BJ.kR (n+d))) (N+c+2)) b false (st p m2 sp2 i2 o2 u2) f2 x=Ac w s' fr'
 unfold IP.kB
 rcases e with ⟨hk,hc,he⟩|⟨hk,es,ef⟩
 ·rw [Ag (decide_eq_true hk),Ag (decide_eq_true hc),he n,CI]
  exact e25
 ·rw [es,ef]
  rcases hk with ⟨hk,hc⟩|hk
  ·rw [Ag (decide_eq_true hk),AJ (decide_eq_false (by omega))]
   exact e25
  ·rw [AJ (decide_eq_false (by omega))]
   exact e25
theorem WH.go {b t:Int} (ht:0<=t) (he:EX d t s fr h s1 f1) (hv:h≠0) {g:Int} (hd:ST d b s1 f1 g (st p m2 sp2 i2 o2 u2) f2) (hh:g=0\/g=2)
  (e:x.kind=34/\0<=x.c/\EX d x.c (st p m2 sp2 i2 o2 u2) f2 v (st p m3 sp3 i3 o3 u3) f3\/(x.kind=34/\x.c<0\/x.kind=32\/x.kind=33)/\st p m2 sp2 i2 o2 u2=st p m3 sp3 i3 o3 u3/\f2=f3) (hx:x.kind=34/\x.b=t\/(x.kind=32\/x.kind=33)/\x.a=t)
  (hr:WH d c b t x (st p m3 sp3 i3 o3 u3) f3 w s' fr'):WH d (c+4) b t x s fr w s' fr':=fun n N=>by
 have:=bb (c:=c) e hx hr n N
 show Fo.kB (BJ.kR (n+d)) (C5 (A7.kS (BJ.kR (n+d))) (N+c+3)) b false t s fr x=_
 unfold Fo.kB
 dsimp only
 rw [Ag (b:=!false) rfl,Ag (decide_eq_true ht),he n,CI]
 dsimp only
 rw [AJ (decide_eq_false hv),Ag (b:=!false) rfl,AJ (decide_eq_false (by omega)),hd n,CI]
 dsimp only
 rcases hh with rfl|rfl<;>exact this
theorem DO.for (hk:x.kind=34) (hs:EF.FY fr=0) (hs1:EF.FY f1=0) (ha:0<=x.a) (he:EX d x.a s fr v s1 f1) (hw:WH d c x.d x.b x s1 f1 h s' f2) (hc:c<=999998):DO (d+2) x s fr h s' f2:=fun n=>by
 rw [show n+(d+2)=n+d+1+1 from rfl,LV,RA]
 unfold BF.kf BF.k0
 dsimp only
 rw [AJ (decide_eq_false (by omega)),AJ (decide_eq_false (by omega)),AJ (decide_eq_false (by omega)),AJ (decide_eq_false (by omega)),Ag (decide_eq_true hk),LV,cA]
 unfold A7.kf A7.k0
 rw [Ag (decide_eq_true hk),Ag (decide_eq_true hs),Ag (decide_eq_true ha),he n,CI]
 show Option.bind (Hi.kB (BJ.kR (n+d)) (C5 (A7.kS (BJ.kR (n+d))) 999999) x.d s1 f1 x) BP=_
 unfold Hi.kB
 rw [AJ (by rw [hs1];rfl)]
 show Option.bind (F7.kB (BJ.kR (n+d)) (C5 (A7.kS (BJ.kR (n+d))) 999998) x.d (decide (x.kind=33)) s1 f1 x) BP=_
 unfold F7.kB
 rw [Ag (decide_eq_true hk),decide_eq_false (show ¬ x.kind=33 by omega)]
 have:=hw n (999998 -c)
 rw [show 999998 -c+c=999998 by omega] at this
 exact (congrArg (fun z=>Option.bind z BP) this).trans rfl
theorem WH.fe {b t:Int} {u u':Int} (a:WH d c b t x s fr h (st p m1 sp1 i1 o1 u) f1) (e:u=u':=by omega):WH d c b t x s fr h (st p m1 sp1 i1 o1 u') f1:=e▸a
theorem WH.cm {b t:Int} (a:WH d c b t x s fr h s' f1) (j:Nat):WH d (c+j) b t x s fr h s' f1:=fun n N=>by
 have:=a n (N+j)
 rwa [show N+j+c=N+(c+j) by omega] at this
theorem CL.nh {k:Int} {args:List Int} {g:Dop.Dc} (hv:EF.told f1=v) (hk:0<=k/\k<I p.funcs.length) (hg:List.getD p.funcs k.toNat Dop.d11=g) (hm:sp+g.frame<=I mem.length) (hr:0<=g.Al/\g.Al<=1000000) (hs:0<=sp/\sp<=1000000) (hf:0<=g.frame/\g.frame<=1000000)
  (hd:ST d g.body (st p mem (sp+g.frame) inp out fu) (l6 g args sp) h (st p m1 (sp+g.frame) i1 o1 u1) f1) (hh:h≠4):CL (d+1) k args (st p mem sp inp out fu) v (st p m1 sp i1 o1 u1):=hv▸CL.of hk hg hm hr hs hf hd hh
theorem mM {k:Int} {g:Dop.ML} (hg:p.globals=[g]) (ha:0<=g.at_/\g.at_<4096) (hm:US.k p ([109,97,105,110]:List UInt8)=Ez k) (hf:0<=fu/\fu<=1000000) (hc:CL d k [] (st p ((List.replicate 4096 0).set g.at_.toNat g.Q4) p.top inp [] fu) v (st p m1 sp1 i1 o1 u1)) (hd:d<=1000000000):Ho.k p inp fu=Ez (Dop.SO.mk 1 v o1):=by
 have hL:I (List.replicate 4096 (0:Int)).length=4096:=by unfold I;rw [List.length_replicate];rfl
 unfold Ho.k Ho.k0
 rw [Ar (by decide),hg,if_neg (show ¬ fu<0 by omega),if_neg (show ¬ 1000000<fu by omega)]
 show LD.kB (Ho.kL 999999) [g] (I 1) 0 p 0 0 [] (st p (List.replicate 4096 0) p.top inp [] fu)=_
 unfold LD.kB
 dsimp only
 refine Eq.trans (Ag rfl) ?_
 refine Eq.trans (Ar rfl) ?_
 refine Eq.trans (Ar (decide_eq_true (show 0<=g.at_/\g.at_<I (List.replicate 4096 (0:Int)).length by rw [hL];exact ha))) ?_
 refine Eq.trans (Ar (decide_eq_true (show g.at_.toNat<(List.replicate 4096 (0:Int)).length by rw [List.length_replicate];omega))) ?_
 refine Eq.trans (Ar rfl) ?_
 show LD.kB (Ho.kL 999998) [g] (I 1) 1 p 0 0 [] (st p ((List.replicate 4096 0).set g.at_.toNat g.Q4) p.top inp [] fu)=_
 unfold LD.kB
 dsimp only
 rw [AJ (by rfl),hm,CX]
 have:=hc (1000000000 -d)
 rw [show 1000000000 -d+d=1000000000 by omega] at this
 show Option.bind (m64.kr (BJ.kR 1000000000) k [] (st p ((List.replicate 4096 0).set g.at_.toNat g.Q4) p.top inp [] fu)) _=_
 rw [this]
 rfl
end
section
variable {a b:Int}
theorem jV (h:du a):Di.k a=JE a true:=by
 unfold Di.k
 rw [bc,CX]
 dsimp only
 rw [KI h]
theorem Hv (h:(-2147483648<=a/\a<=2147483647)/\(-2147483648<=b/\b<=2147483647)/\(-2147483648<=(a+b)/\(a+b)<=2147483647):=by omega):BC.k 1 a b=JE (a+b) true:=by
 obtain ⟨ha,hb,hc⟩:=h
 unfold BC.k BC.k0
 rw [bc,bc,CX,CX]
 dsimp only
 rw [KI ha,KI hb,Ag (decide_eq_true rfl),Ar (Ch.2 (by omega)),jV hc]
 rfl
theorem QG (h:(-2147483648<=a/\a<=2147483647)/\(-2147483648<=b/\b<=2147483647)/\(-2147483648<=(a -b)/\(a -b)<=2147483647):=by omega):BC.k 2 a b=JE (a -b) true:=by
 obtain ⟨ha,hb,hc⟩:=h
 unfold BC.k BC.k0
 rw [bc,bc,CX,CX]
 dsimp only
 rw [KI ha,KI hb,AJ (decide_eq_false (by decide)),Ag (decide_eq_true rfl),Ar (Ch.2 (by omega)),jV hc]
 rfl
theorem cL (ha:du a) (hb:du b):BC.k 16 a b=JE (if a<b then 1 else 0) true:=by
 unfold BC.k BC.k0
 rw [bc,bc,CX,CX]
 dsimp only
 rw [KI ha,KI hb]
 show Option.bind (G1.k (decide (a<b))) _=_
 by_cases h:a<b
 ·rw [decide_eq_true h,if_pos h];rfl
 ·rw [decide_eq_false h,if_neg h];rfl
theorem cK (ha:du a) (hb:du b):BC.k 17 a b=JE (if a<=b then 1 else 0) true:=by
 unfold BC.k BC.k0
 rw [bc,bc,CX,CX]
 dsimp only
 rw [KI ha,KI hb]
 show Option.bind (G1.k (decide (a<=b))) _=_
 by_cases h:a<=b
 ·rw [decide_eq_true h,if_pos h];rfl
 ·rw [decide_eq_false h,if_neg h];rfl
theorem QE (h:(-2147483648<=a/\a<=2147483647)/\(-2147483648<=b/\b<=2147483647)/\a<b:=by omega):BC.k 16 a b=JE 1 true:=by rw [cL h.1 h.2.1,if_pos h.2.2]
theorem TR (h:(-2147483648<=a/\a<=2147483647)/\(-2147483648<=b/\b<=2147483647)/\¬ a<b:=by omega):BC.k 16 a b=JE 0 true:=by rw [cL h.1 h.2.1,if_neg h.2.2]
theorem eS (h:(-2147483648<=a/\a<=2147483647)/\(-2147483648<=b/\b<=2147483647)/\a<=b:=by omega):BC.k 17 a b=JE 1 true:=by rw [cK h.1 h.2.1,if_pos h.2.2]
theorem eQ (h:(-2147483648<=a/\a<=2147483647)/\(-2147483648<=b/\b<=2147483647)/\¬ a<=b:=by omega):BC.k 17 a b=JE 0 true:=by rw [cK h.1 h.2.1,if_neg h.2.2]
end
end Go.Proofs.Tryz
namespace Go.Proofs.Tryz
open Go Go.En
section
variable {p:Dop.JM} {mem:List Int} {sp:Int} {inp out:List Int} {fu:Int} {fr:EF} {i:Int} {d:Nat}
variable {v w:Int} {m1:List Int} {sp1:Int} {i1 o1:List Int} {u1:Int} {f1:EF} {m2:List Int} {sp2:Int} {i2 o2:List Int} {u2:Int} {f2:EF}
variable {s' s1:ER}
theorem EX.ln (ha:EX d (nd p i).a (st p mem sp inp out (fu -1)) fr 0 s' f1) (H:0<fu/\fu<=1000000:=by omega) (hq:decide (KJ p i/\(nd p i).kind=10)=true:=by rfl):EX (d+2) i (st p mem sp inp out fu) fr 0 s' f1:=fun n=>by
 obtain ⟨h0,h1⟩:=H
 obtain ⟨hi,hk⟩:=dk hq
 rw [show n+(d+2)=n+d+1+1 from rfl,LV,HD,Oh _ _ _ h0 h1 hi (by omega)]
 unfold D6.kB
 dsimp only
 rw [AJ (decide_eq_false (by omega)),Ag (decide_eq_true hk),sub ha,Option.bind_some]
 dsimp only
 rw [AJ (by rfl)]
 rfl
theorem EX.iM (ha:EX d (nd p i).a (st p mem sp inp out (fu -1)) fr v s1 f1) (hb:EX d (nd p i).b s1 f1 w s' f2) (hv:v≠0:=by omega) (H:0<fu/\fu<=1000000:=by omega) (hq:decide (KJ p i/\(nd p i).kind=10)=true:=by rfl):EX (d+2) i (st p mem sp inp out fu) fr (if w=0 then 0 else 1) s' f2:=fun n=>by
 obtain ⟨h0,h1⟩:=H
 obtain ⟨hi,hk⟩:=dk hq
 rw [show n+(d+2)=n+d+1+1 from rfl,LV,HD,Oh _ _ _ h0 h1 hi (by omega)]
 unfold D6.kB
 dsimp only
 rw [AJ (decide_eq_false (by omega)),Ag (decide_eq_true hk),sub ha,Option.bind_some]
 dsimp only
 rw [Ag (by rw [decide_eq_false hv];rfl),sub hb,Option.bind_some]
 dsimp only
 by_cases h:w=0
 ·rw [if_pos h,decide_eq_true h];rfl
 ·rw [if_neg h,decide_eq_false h];rfl
theorem EX.iO (ha:EX d (nd p i).a (st p mem sp inp out (fu -1)) fr v s1 f1) (hb:EX d (nd p i).b s1 f1 1 s' f2) (hv:v≠0:=by omega) (H:0<fu/\fu<=1000000:=by omega) (hq:decide (KJ p i/\(nd p i).kind=10)=true:=by rfl):EX (d+2) i (st p mem sp inp out fu) fr 1 s' f2:=EX.iM ha hb hv H hq
theorem EX.iN (ha:EX d (nd p i).a (st p mem sp inp out (fu -1)) fr v s1 f1) (hb:EX d (nd p i).b s1 f1 0 s' f2) (hv:v≠0:=by omega) (H:0<fu/\fu<=1000000:=by omega) (hq:decide (KJ p i/\(nd p i).kind=10)=true:=by rfl):EX (d+2) i (st p mem sp inp out fu) fr 0 s' f2:=EX.iM ha hb hv H hq
theorem EX.fs {u u':Int} (a:EX d i (st p mem sp inp out u) fr v s' f1) (e:u=u':=by omega):EX d i (st p mem sp inp out u') fr v s' f1:=e▸a
theorem EX.ld (v w:Int) (ha:EX d (nd p i).a (st p mem sp inp out (fu -1)) fr v (st p m1 sp1 i1 o1 u1) f1) (hg:m1.getD v.toNat 0=w) (hv:1<=v/\v<I m1.length) (hl:m1.length<=4096) (H:0<fu/\fu<=1000000:=by omega) (hq:decide (KJ p i/\(nd p i).kind=4)=true:=by rfl):
  EX (d+2) i (st p mem sp inp out fu) fr w (st p m1 sp1 i1 o1 u1) f1:=hg▸EX.load ha hv hl H hq
theorem EX.nR (v:Int) (f2:EF) (ha:EX d (nd p i).a (st p mem sp inp out (fu -1)) fr v (st p m1 sp1 i1 o1 u1) f1) (hb:EX d (nd p i).b (st p m1 sp1 i1 o1 u1) f1 w (st p m2 sp2 i2 o2 u2) f2) {m3:List Int} (hs:m2.set v.toNat w=m3) (hv:1<=v/\v<I m2.length) (hl:m2.length<=4096) (H:0<fu/\fu<=1000000:=by omega) (hq:decide (KJ p i/\(nd p i).kind=5)=true:=by rfl):
  EX (d+2) i (st p mem sp inp out fu) fr w (st p m3 sp2 i2 o2 u2) f2:=hs▸EX.store ha hb hv hl H hq
theorem EX.g0 (H:0<fu/\fu<=1000000:=by omega) (hq:decide (KJ p i/\(nd p i).kind=13)=true:=by rfl):EX 1 i (st p mem sp [] out fu) fr (-1) (st p mem sp [] out (fu -1)) fr:=EX.na H.1 H.2 (dk hq).1 (dk hq).2
theorem EX.g1 {c:Int} {cs:List Int} (hc:0<=c/\c<=255:=by omega) (H:0<fu/\fu<=1000000:=by omega) (hq:decide (KJ p i/\(nd p i).kind=13)=true:=by rfl):EX 1 i (st p mem sp (c::cs) out fu) fr c (st p mem sp cs out (fu -1)) fr:=EX.nb H.1 H.2 (dk hq).1 (dk hq).2 hc
theorem EX.pu (ha:EX d (nd p i).a (st p mem sp inp out (fu -1)) fr v (st p m1 sp1 i1 o1 u1) f1) (hv:0<=v/\v<=255) (ho:o1.length<1000000) (H:0<fu/\fu<=1000000:=by omega) (hq:decide (KJ p i/\(nd p i).kind=14)=true:=by rfl):
  EX (d+2) i (st p mem sp inp out fu) fr v (st p m1 sp1 i1 (o1++[v]) u1) f1:=EX.mJ H.1 H.2 (dk hq).1 (dk hq).2 ha hv ho
end
def mH (l:List Int) (j:Nat) (x:Int) (z:List Int):List Int:=0::(l.take j++x::(l.drop j++z))
theorem P9 (l:List Int) (j:Nat) (x:Int) (z:List Int) (h:j<=l.length):(mH l j x z).length=l.length+z.length+2:=by
 unfold mH
 simp only [List.length_cons,List.length_append,List.length_take,List.length_drop]
 omega
theorem YK (l:List Int) (j:Nat) (x v:Int) (z:List Int) (h:j<=l.length):(mH l j x z).set (j+1) v=mH l j v z:=by
 unfold mH
 rw [List.set_cons_succ,List.set_append_right _ _ (by rw [List.length_take];omega),List.length_take,show j -min j l.length=0 by omega,List.set_cons_zero]
theorem eM (l:List Int) (j:Nat) (x:Int) (z:List Int) (h:j<l.length):(mH l (j+1) x z).getD (j+1) 0=l.getD j 0:=by
 unfold mH
 rw [List.getD_cons_succ,List.getD_eq_getElem?_getD,List.getElem?_append_left (by rw [List.length_take];omega),List.getElem?_take,if_pos (by omega),List.getD_eq_getElem?_getD]
theorem jS (l:List Int) (j:Nat) (z:List Int) (h:j<l.length):mH l (j+1) (l.getD j 0) z=mH l j (l.getD j 0) z:=by
 have e:l.getD j 0=l[j]:=by rw [List.getD_eq_getElem?_getD,List.getElem?_eq_getElem h];rfl
 have e2:l.drop j=l[j]::l.drop (j+1):=List.drop_eq_getElem_cons h
 unfold mH
 rw [e,List.take_succ_eq_append_getElem h,List.append_assoc,List.singleton_append,e2,List.cons_append]
theorem Ud (l:List Int) (x:Int) (z:List Int):mH l l.length x z=0::(l++x::z):=by
 unfold mH
 rw [List.take_length,List.drop_length,List.nil_append]
def BY (c:Int) (l:List Int):Nat->Nat
 | 0=>0
 | j+1=>if c<l.getD j 0 then BY c l j else j+1
theorem Jk (c:Int) (l:List Int): ∀ j,BY c l j<=j
 | 0=>Nat.le_refl _
 | j+1=>by
  unfold BY
  split
  ·exact Nat.le_succ_of_le (Jk c l j)
  ·exact Nat.le_refl _
end Go.Proofs.Tryz
set_option maxRecDepth 1000000
namespace Go.Proofs.Tryz
open Go Go.En
def z0 (k n:Int):Dop.AZ:=.mk k (-1) (-1) (-1) (-1) [] n 0 0
def z1 (k a n:Int):Dop.AZ:=.mk k a (-1) (-1) (-1) [] n 0 0
def z2 (k a b n:Int):Dop.AZ:=.mk k a b (-1) (-1) [] n 0 0
def e0 (k:Int) (t:List UInt8) (n p:Int):Dop.AZ:=.mk k (-1) (-1) (-1) (-1) t n 0 p
def e1 (k a:Int) (t:List UInt8) (p:Int):Dop.AZ:=.mk k a (-1) (-1) (-1) t 0 0 p
def e2 (k a b:Int) (t:List UInt8) (p:Int):Dop.AZ:=.mk k a b (-1) (-1) t 0 0 p
def bF:Dop.JM:=.mk [.mk [109,97,105,110] 0 6 0 111] [.mk [97] 1 40 0] 41 [z0 1 0,z1 6 0 0,z1 30 1 0,z0 1 0,z1 6 3 1,z1 30 4 0,z0 1 0,z1 6 6 2,z1 30 7 0,z0 2 2,z0 13 0,z1 6 10 2,z0 1 0,z2 8 12 11 17,z0 2 1,z0 2 0,z0 2 0,z1 6 16 3,z0 2 3,z0 1 1,z2 8 18 19 1,z1 6 20 0,z0 2 3,z2 15 21 22 0,z2 15 17 23 0,z1 6 24 1,z1 30 25 0,z0 2 1,z0 1 0,z2 8 28 27 16,z0 1 1,z0 2 1,z0 1 1,z2 8 31 32 2,z2 8 30 33 1,z1 4 34 0,z0 2 2,z2 8 36 35 16,z2 10 29 37 0,z0 1 1,z0 2 1,z2 8 39 40 1,z1 4 41 0,z0 1 1,z0 2 1,z0 1 1,z2 8 44 45 2,z2 8 43 46 1,z1 4 47 0,z2 5 41 48 0,z1 30 49 0,z0 2 1,z0 2 1,z1 6 52 4,z0 2 4,z0 1 1,z2 8 54 55 2,z1 6 56 1,z0 2 4,z2 15 57 58 0,z2 15 53 59 0,z1 30 60 0,z1 20 61 0,z2 20 50 62 0,z1 43 63 0,z2 32 38 64 0,z0 1 1,z0 2 1,z2 8 66 67 1,z1 4 68 0,z0 2 2,z2 5 68 70 0,z1 30 71 0,z1 20 72 0,z2 20 65 73 0,z2 20 26 74 0,z1 43 75 0,z2 32 13 76 0,z0 2 1,z0 1 0,z1 6 79 1,z0 2 1,z0 2 0,z2 8 81 82 16,z0 2 1,z0 2 1,z1 6 85 5,z0 2 5,z0 1 1,z2 8 87 88 1,z1 6 89 1,z0 2 5,z2 15 90 91 0,z2 15 86 92 0,z0 1 1,z0 2 1,z2 8 94 95 1,z1 4 96 0,z1 14 97 0,z1 30 98 0,.mk 34 80 83 93 99 [] 0 0 0,z0 2 0,z1 37 101 0,z1 20 102 0,z2 20 100 103 0,z2 20 77 104 0,z2 20 8 105 0,z2 20 5 106 0,z2 20 2 107 0,z1 43 108 0,z1 20 109 0,z1 43 110 0]
abbrev DS (m inp out:List Int) (u:Int):ER:=st bF m 41 inp out u
abbrev Cf (n i c x3 x4 x5 w:Int):EF:=(.mk [109,97,105,110] 0 6 0 111,[n,i,c,x3,x4,x5],41,w,[],0,0,())
theorem cW (c n:Int) (hc:0<=c/\c<=255) (l z inp out:List Int) (hl: ∀ k,k<l.length->0<=l.getD k 0/\l.getD k 0<=255) (hz:l.length+z.length+2=4096) (h30:l.length<=100): ∀ (j:Nat) (i x x3 x4 x5 fu:Int),i=j->j<=l.length->34*(j:Int)+17<=fu->fu<=1000000-> ∃ u x' t4,(fu -34*j -12<=u/\u<=fu)/\
  WH 13 (4*j+1) 64 38 (nd bF 65) (DS (mH l j x z) inp out fu) (Cf n i c x3 x4 x5 0) 0 (DS (mH l (BY c l j) x' z) inp out u) (Cf n (I (BY c l j)) c x3 t4 x5 0)
 | 0,i,x,x3,x4,x5,fu,h0,h1,h2,h3=>by
  have hi:i=0:=by omega
  subst hi
  have e:EX 5 38 (DS (mH l 0 x z) inp out (fu)) (Cf n 0 c x3 x4 x5 0) 0 (DS (mH l 0 x z) inp out (fu -4)) (Cf n 0 c x3 x4 x5 0):=EX.fe (EX.ln (i:=38) (EX.tw (i:=29) (EX.nu (i:=28)) (EX.re (i:=27)) (TR (a:=0) (b:=0))))
  exact ⟨_,_,_,⟨by omega,by omega⟩,WH.stop (c:=0) (dk rfl) (EX.mo (d:=5) e)⟩
 | j+1,i,x,x3,x4,x5,fu,h0,h1,h2,h3=>by
  have hln:(mH l (j+1) x z).length=4096:=by rw [P9 _ _ _ _ h1];omega
  have hI:I (mH l (j+1) x z).length=4096:=by rw [hln];rfl
  have hl':(mH l (j+1) x z).length<=4096:=by omega
  obtain ⟨p,hp⟩: ∃ p,p=l.getD j 0:=⟨_,rfl⟩
  have hpb:=hl j (by omega)
  rw [<-hp] at hpb
  have hg:(mH l (j+1) x z).getD (1+(i -1)).toNat 0=p:=by rw [show (1+(i -1)).toNat=j+1 by omega,eM l j x z (by omega),hp]
  have hs:(mH l (j+1) x z).set (1+i).toNat p=mH l (j+1) p z:=by rw [show (1+i).toNat=j+1+1 by omega,YK l (j+1) x p z h1]
  have hv1:1<=1+(i -1)/\1+(i -1)<I (mH l (j+1) x z).length:=by rw [hI];omega
  have hv2:1<=1+i/\1+i<I (mH l (j+1) x z).length:=by rw [hI];omega
  by_cases hcp:c<p
  ·have e:EX 11 38 (DS (mH l (j+1) x z) inp out (fu)) (Cf n i c x3 x4 x5 0) 1 (DS (mH l (j+1) x z) inp out (fu -12)) (Cf n i c x3 x4 x5 0):=EX.fe (EX.iO (i:=38) (EX.mo (d:=3) (EX.tw (i:=29) (EX.nu (i:=28)) (EX.re (i:=27)) (QE (a:=0) (b:=i)))) (EX.tw (i:=37) (EX.mo (d:=1) (EX.re (i:=36))) (EX.ld (i:=35) (1+(i -1)) p (EX.tw (i:=34) (EX.mo (d:=1) (EX.nu (i:=30))) (EX.tw (i:=33) (EX.re (i:=31)) (EX.nu (i:=32)) (QG (a:=i) (b:=1))) (Hv (a:=1) (b:=(i -1)))) hg hv1 hl') (QE (a:=c) (b:=p))))
   have q41_1:EX 3 41 (DS (mH l (j+1) x z) inp out (fu -15)) (Cf n i c x3 x4 x5 0) (1+i) (DS (mH l (j+1) x z) inp out (fu -18)) (Cf n i c x3 x4 x5 0):=EX.fe (EX.tw (i:=41) (EX.nu (i:=39)) (EX.re (i:=40)) (Hv (a:=1) (b:=i)))
   have q48_2:EX 7 48 (DS (mH l (j+1) x z) inp out (fu -18)) (Cf n i c x3 x4 x5 0) p (DS (mH l (j+1) x z) inp out (fu -24)) (Cf n i c x3 x4 x5 0):=EX.fe (EX.ld (i:=48) (1+(i -1)) p (EX.tw (i:=47) (EX.mo (d:=1) (EX.nu (i:=43))) (EX.tw (i:=46) (EX.re (i:=44)) (EX.nu (i:=45)) (QG (a:=i) (b:=1))) (Hv (a:=1) (b:=(i -1)))) hg hv1 hl')
   have s50_1:ST 11 50 (DS (mH l (j+1) x z) inp out (fu -13)) (Cf n i c x3 x4 x5 0) 0 (DS (mH l (j+1) p z) inp out (fu -24)) (Cf n i c x3 x4 x5 0):=ST.fe (ST.o (DO.xp (EX.nR (i:=49) (1+i) (Cf n i c x3 x4 x5 0) (EX.mo (d:=3) (EX.fs q41_1)) q48_2 hs hv2 hl')))
   have s61_4:ST 11 61 (DS (mH l (j+1) p z) inp out (fu -24)) (Cf n i c x3 x4 x5 0) 0 (DS (mH l (j+1) p z) inp out (fu -34)) (Cf n (i -1) c x3 i x5 0):=ST.fe (ST.o (DO.xp (EX.comma (i:=60) (EX.mo (d:=3) (EX.se (i:=53) (Cf n i c x3 x4 x5 0) i (EX.re (i:=52)))) (EX.comma (i:=59) (EX.se (i:=57) (Cf n i c x3 i x5 0) (i -1) (EX.tw (i:=56) (EX.re (i:=54)) (EX.nu (i:=55)) (QG (a:=i) (b:=1)))) (EX.mo (d:=1) (EX.re (i:=58)))))))
   have s64_1:ST 13 64 (DS (mH l (j+1) x z) inp out (fu -12)) (Cf n i c x3 x4 x5 0) 0 (DS (mH l (j+1) p z) inp out (fu -34)) (Cf n (i -1) c x3 i x5 0):=ST.fe (ST.at (DO.bl [50,61] 3 (BL.co s50_1 (BL.co s61_4 BL.ni))))
   obtain ⟨u,x',t4,hu,ih⟩:=cW c n hc l z inp out hl hz h30 j (i -1) p x3 i x5 (fu -34) (by omega) (by omega) (by omega) (by omega)
   have e2:BY c l (j+1)=BY c l j:=by rw [BY,<- hp,if_pos hcp]
   have e3:mH l (j+1) p z=mH l j p z:=by rw [hp];exact jS l j z (by omega)
   rw [<-e3] at ih
   rw [e2,show 4*(j+1)+1=4*j+1+4 by omega]
   exact ⟨u,x',t4,⟨by omega,by omega⟩,WH.go (v:=0) (dk rfl) (EX.mo (d:=11) e) (by decide) s64_1 (.inl rfl) (.inr ⟨.inr (.inl rfl),rfl,rfl⟩) (.inr ⟨.inl rfl,rfl⟩) ih⟩
  ·have e:EX 11 38 (DS (mH l (j+1) x z) inp out (fu)) (Cf n i c x3 x4 x5 0) 0 (DS (mH l (j+1) x z) inp out (fu -12)) (Cf n i c x3 x4 x5 0):=EX.fe (EX.iN (i:=38) (EX.mo (d:=3) (EX.tw (i:=29) (EX.nu (i:=28)) (EX.re (i:=27)) (QE (a:=0) (b:=i)))) (EX.tw (i:=37) (EX.mo (d:=1) (EX.re (i:=36))) (EX.ld (i:=35) (1+(i -1)) p (EX.tw (i:=34) (EX.mo (d:=1) (EX.nu (i:=30))) (EX.tw (i:=33) (EX.re (i:=31)) (EX.nu (i:=32)) (QG (a:=i) (b:=1))) (Hv (a:=1) (b:=(i -1)))) hg hv1 hl') (TR (a:=c) (b:=p))))
   have e2:BY c l (j+1)=j+1:=by rw [BY,<- hp,if_neg hcp]
   have e3:i=I (j+1):=by simp only [I];omega
   rw [e2,<- e3]
   have w:=WH.cm (WH.stop (d:=13) (b:=64) (x:=nd bF 65) (c:=0) (dk rfl) (EX.mo (d:=11) e)) (4*(j+1))
   rw [show 0+1+4*(j+1)=4*(j+1)+1 by omega] at w
   exact ⟨fu -12,_,_,⟨by omega,by omega⟩,w⟩
def DL (c:Int) (l:List Int):List Int:=l.take (BY c l l.length)++c::l.drop (BY c l l.length)
theorem M1 (c:Int) (l:List Int):(DL c l).length=l.length+1:=by
 have:=Jk c l l.length
 unfold DL
 simp only [List.length_append,List.length_cons,List.length_take,List.length_drop]
 omega
def El (k:Nat):List Int:=List.replicate k 0
theorem eN (c:Int) (l:List Int) (k:Nat):mH l (BY c l l.length) c (El (k+1))=mH (DL c l) (DL c l).length 0 (El k):=by
 rw [Ud]
 unfold mH DL
 rw [List.append_assoc,List.cons_append]
 rfl
theorem Xg {c:Int} {l:List Int} (hc:0<=c/\c<=255) (hl: ∀ x∈l,0<=x/\x<=255): ∀ x∈DL c l,0<=x/\x<=255:=fun x hx=>by
 unfold DL at hx
 rcases List.mem_append.1 hx with h|h
 ·exact hl x (List.mem_of_mem_take h)
 ·rcases List.mem_cons.1 h with rfl|h
  ·exact hc
  ·exact hl x (List.mem_of_mem_drop h)
theorem RU {l:List Int} (hl: ∀ x∈l,0<=x/\x<=255) (k:Nat) (h:k<l.length):0<=l.getD k 0/\l.getD k 0<=255:=by
 rw [List.getD_eq_getElem?_getD,List.getElem?_eq_getElem h];exact hl _ (List.getElem_mem h)
theorem ZN (out:List Int): ∀ (cs l:List Int) (k:Nat) (i c x3 x4 x5 fu:Int),(∀ x∈cs,0<=x/\x<=255)->(∀ x∈l,0<=x/\x<=255)->l.length+cs.length<=30->l.length+k=4094->1080*(cs.length:Int)+20<=fu->fu<=1000000-> ∃ u k1 i1 x31 x41,(fu -1080*cs.length -20<=u/\u<=fu)/\(cs.foldl (fun l c=>DL c l) l).length+k1=4094/\
  WH 18 (4*cs.length+1) 76 13 (nd bF 77) (DS (mH l l.length 0 (El k)) cs out fu) (Cf (I l.length) i c x3 x4 x5 0) 0 (DS (mH (cs.foldl (fun l c=>DL c l) l) (cs.foldl (fun l c=>DL c l) l).length 0 (El k1)) [] out u) (Cf (I (cs.foldl (fun l c=>DL c l) l).length) i1 (-1) x31 x41 x5 0)
 | [],l,k,i,c,x3,x4,x5,fu,hb,hl,h0,h1,h2,h3=>by
  simp only [List.length_nil] at h2
  have e:EX 5 13 (DS (mH l l.length 0 (El (k))) [] out (fu)) (Cf (I l.length) i c x3 x4 x5 0) 0 (DS (mH l l.length 0 (El (k))) [] out (fu -4)) (Cf (I l.length) i (-1) x3 x4 x5 0):=EX.fe (EX.tw (i:=13) (EX.mo (d:=1) (EX.nu (i:=12))) (EX.se (i:=11) (Cf (I l.length) i c x3 x4 x5 0) (-1) (EX.g0 (i:=10))) (eQ (a:=0) (b:=(-1))))
  exact ⟨_,k,_,_,_,⟨by simp only [List.length_nil];omega,by omega⟩,h1,WH.stop (c:=0) (dk rfl) (EX.mo (d:=5) e)⟩
 | a::cs,l,k',i,c,x3,x4,x5,fu,hb,hl,h0,h1,h2,h3=>by
  have ha:=hb a List.mem_cons_self
  simp only [List.length_cons] at h0 h2
  obtain ⟨k,rfl⟩: ∃ k,k'=k+1:=⟨k' -1,by omega⟩
  have hzl:(El (k+1)).length=k+1:=List.length_replicate
  have hz:l.length+(El (k+1)).length+2=4096:=by omega
  have hL:I l.length<=30:=by simp only [I];omega
  have hL0:0<=I l.length:=by simp only [I];omega
  have e:EX 5 13 (DS (mH l l.length 0 (El (k+1))) (a::cs) out (fu)) (Cf (I l.length) i c x3 x4 x5 0) 1 (DS (mH l l.length 0 (El (k+1))) cs out (fu -4)) (Cf (I l.length) i a x3 x4 x5 0):=EX.fe (EX.tw (i:=13) (EX.mo (d:=1) (EX.nu (i:=12))) (EX.se (i:=11) (Cf (I l.length) i c x3 x4 x5 0) a (EX.g1 (i:=10))) (eS (a:=0) (b:=a)))
  have s26_1:ST 13 26 (DS (mH l l.length 0 (El (k+1))) cs out (fu -5)) (Cf (I l.length) i a x3 x4 x5 0) 0 (DS (mH l l.length 0 (El (k+1))) cs out (fu -16)) (Cf ((I l.length)+1) (I l.length) a (I l.length) x4 x5 0):=ST.fe (ST.o (DO.xp (EX.se (i:=25) (Cf ((I l.length)+1) i a (I l.length) x4 x5 0) (I l.length) (EX.comma (i:=24) (EX.mo (d:=3) (EX.se (i:=17) (Cf (I l.length) i a x3 x4 x5 0) (I l.length) (EX.re (i:=16)))) (EX.comma (i:=23) (EX.se (i:=21) (Cf (I l.length) i a (I l.length) x4 x5 0) ((I l.length)+1) (EX.tw (i:=20) (EX.re (i:=18)) (EX.nu (i:=19)) (Hv (a:=(I l.length)) (b:=1)))) (EX.mo (d:=1) (EX.re (i:=22))))))))
  obtain ⟨u,x',t4,hu,hw⟩:=cW a ((I l.length)+1) ha l (El (k+1)) cs out (RU hl) hz (by omega) l.length (I l.length) 0 (I l.length) x4 x5 (fu -17) rfl (Nat.le_refl _) (by omega) (by omega)
  have sI:ST 16 65 (DS (mH l l.length 0 (El (k+1))) cs out (fu -16)) (Cf ((I l.length)+1) (I l.length) a (I l.length) x4 x5 0) 0 (DS (mH l (BY a l l.length) x' (El (k+1))) cs out (u)) (Cf ((I l.length)+1) (I (BY a l l.length)) a (I l.length) t4 x5 0):=ST.at (DO.cb rfl rfl hw (by omega))
  have hj:=Jk a l l.length
  have hln:(mH l (BY a l l.length) x' (El (k+1))).length=4096:=by rw [P9 _ _ _ _ hj];omega
  have hI:I (mH l (BY a l l.length) x' (El (k+1))).length=4096:=by rw [hln];rfl
  have hs:(mH l (BY a l l.length) x' (El (k+1))).set (1+I (BY a l l.length)).toNat a=mH l (BY a l l.length) a (El (k+1)):=by rw [show (1+I (BY a l l.length)).toNat=BY a l l.length+1 by simp only [I];omega,YK _ _ _ _ _ hj]
  have hv2:1<=1+I (BY a l l.length)/\1+I (BY a l l.length)<I (mH l (BY a l l.length) x' (El (k+1))).length:=by rw [hI];simp only [I];omega
  have q68_9:EX 3 68 (DS (mH l (BY a l l.length) x' (El (k+1))) cs out (u -2)) (Cf ((I l.length)+1) (I (BY a l l.length)) a (I l.length) t4 x5 0) (1+(I (BY a l l.length))) (DS (mH l (BY a l l.length) x' (El (k+1))) cs out (u -5)) (Cf ((I l.length)+1) (I (BY a l l.length)) a (I l.length) t4 x5 0):=EX.fe (EX.tw (i:=68) (EX.nu (i:=66)) (EX.re (i:=67)) (Hv (a:=1) (b:=(I (BY a l l.length)))))
  have q70_10:EX 1 70 (DS (mH l (BY a l l.length) x' (El (k+1))) cs out (u -5)) (Cf ((I l.length)+1) (I (BY a l l.length)) a (I l.length) t4 x5 0) a (DS (mH l (BY a l l.length) x' (El (k+1))) cs out (u -6)) (Cf ((I l.length)+1) (I (BY a l l.length)) a (I l.length) t4 x5 0):=EX.fe (EX.re (i:=70))
  have s72_9:ST 7 72 (DS (mH l (BY a l l.length) x' (El (k+1))) cs out (u)) (Cf ((I l.length)+1) (I (BY a l l.length)) a (I l.length) t4 x5 0) 0 (DS (mH l (BY a l l.length) a (El (k+1))) cs out (u -6)) (Cf ((I l.length)+1) (I (BY a l l.length)) a (I l.length) t4 x5 0):=ST.fe (ST.o (DO.xp (EX.nR (i:=71) (1+(I (BY a l l.length))) (Cf ((I l.length)+1) (I (BY a l l.length)) a (I l.length) t4 x5 0) (EX.fs q68_9) (EX.mo (d:=1) q70_10) hs hv2 (Nat.le_of_eq hln))))
  have s76_1:ST 18 76 (DS (mH l l.length 0 (El (k+1))) cs out (fu -4)) (Cf (I l.length) i a x3 x4 x5 0) 0 (DS (mH l (BY a l l.length) a (El (k+1))) cs out (u -6)) (Cf ((I l.length)+1) (I (BY a l l.length)) a (I l.length) t4 x5 0):=ST.fe (ST.at (DO.bl [26,65,72] 4 (BL.co (ST.mo (d:=13) s26_1) (BL.co sI (BL.co (ST.mo (d:=7) s72_9) BL.ni)))))
  have hin:=M1 a l
  have e3:I l.length+1=I (DL a l).length:=by rw [hin];rfl
  rw [eN,e3] at s76_1
  obtain ⟨w,k1,i1,x31,x41,hw2,hk1,ih⟩:=ZN out cs (DL a l) k (I (BY a l l.length)) a (I l.length) t4 x5 (u -6) (fun x hx=>hb x (List.mem_cons_of_mem _ hx)) (Xg ha hl) (by omega) (by omega) (by omega) (by omega)
  refine ⟨w,k1,i1,x31,x41,⟨by simp only [List.length_cons];omega,by omega⟩,hk1,?_⟩
  rw [show 4*(a::cs).length+1=4*cs.length+1+4 by simp only [List.length_cons];omega]
  exact WH.go (v:=0) (dk rfl) (EX.mo (d:=5) e) (by decide) s76_1 (.inl rfl) (.inr ⟨.inr (.inl rfl),rfl,rfl⟩) (.inr ⟨.inl rfl,rfl⟩) ih
theorem jR (l:List Int) (j:Nat) (z:List Int) (h:j<l.length):(mH l l.length 0 z).getD (j+1) 0=l.getD j 0:=by
 rw [Ud,List.getD_cons_succ,List.getD_eq_getElem?_getD,List.getElem?_append_left h,List.getD_eq_getElem?_getD]
theorem ZO (l z:List Int) (n c:Int) (hn:n=I l.length) (hl: ∀ x∈l,0<=x/\x<=255) (hz:l.length+z.length+2=4096): ∀ (r j:Nat) (i x3 x4 x5 fu:Int) (out:List Int),i=j->j+r=l.length->out.length+r<=10000->18*(r:Int)+8<=fu->fu<=1000000-> ∃ x51,
  WH 9 (4*r+1) 99 83 (nd bF 100) (DS (mH l l.length 0 z) [] out fu) (Cf n i c x3 x4 x5 0) 0 (DS (mH l l.length 0 z) [] (out++l.drop j) (fu -18*r -3)) (Cf n (I l.length) c x3 x4 x51 0)
 | 0,j,i,x3,x4,x5,fu,out,h0,h1,h2,h3,h4=>by
  have hj:j=l.length:=by omega
  have hi:i=I l.length:=by simp only [I];omega
  have hr:n<=4096/\0<=n:=by simp only [I] at hn;omega
  have e:EX 3 83 (DS (mH l l.length 0 z) [] out (fu)) (Cf n i c x3 x4 x5 0) 0 (DS (mH l l.length 0 z) [] out (fu -3)) (Cf n i c x3 x4 x5 0):=EX.fe (EX.tw (i:=83) (EX.re (i:=81)) (EX.re (i:=82)) (TR (a:=i) (b:=n)))
  rw [hj,List.drop_length,List.append_nil,<- hi]
  exact ⟨_,WH.fe (WH.stop (c:=0) (dk rfl) (EX.mo (d:=3) e))⟩
 | r+1,j,i,x3,x4,x5,fu,out,h0,h1,h2,h3,h4=>by
  have hr:n<=4096/\i<n:=by simp only [I] at hn;omega
  have hln:(mH l l.length 0 z).length=4096:=by rw [P9 _ _ _ _ (Nat.le_refl _)];omega
  have hI:I (mH l l.length 0 z).length=4096:=by rw [hln];rfl
  have hl':(mH l l.length 0 z).length<=4096:=by omega
  obtain ⟨p,hp⟩: ∃ p,p=l.getD j 0:=⟨_,rfl⟩
  have hpb:=RU hl j (by omega)
  rw [<-hp] at hpb
  have hg:(mH l l.length 0 z).getD (1+i).toNat 0=p:=by rw [show (1+i).toNat=j+1 by omega,jR l j z (by omega),hp]
  have hv1:1<=1+i/\1+i<I (mH l l.length 0 z).length:=by rw [hI];omega
  have ho:out.length<1000000:=by omega
  have e:EX 3 83 (DS (mH l l.length 0 z) [] out (fu)) (Cf n i c x3 x4 x5 0) 1 (DS (mH l l.length 0 z) [] out (fu -3)) (Cf n i c x3 x4 x5 0):=EX.fe (EX.tw (i:=83) (EX.re (i:=81)) (EX.re (i:=82)) (QE (a:=i) (b:=n)))
  have s99_1:ST 9 99 (DS (mH l l.length 0 z) [] out (fu -3)) (Cf n i c x3 x4 x5 0) 0 (DS (mH l l.length 0 z) [] (out++[p]) (fu -9)) (Cf n i c x3 x4 x5 0):=ST.fe (ST.o (DO.xp (EX.pu (i:=98) (EX.ld (i:=97) (1+i) p (EX.tw (i:=96) (EX.nu (i:=94)) (EX.re (i:=95)) (Hv (a:=1) (b:=i))) hg hv1 hl') hpb ho)))
  have e2:EX 9 93 (DS (mH l l.length 0 z) [] (out++[p]) (fu -9)) (Cf n i c x3 x4 x5 0) i (DS (mH l l.length 0 z) [] (out++[p]) (fu -18)) (Cf n (i+1) c x3 x4 i 0):=EX.fe (EX.comma (i:=93) (EX.mo (d:=3) (EX.se (i:=86) (Cf n i c x3 x4 x5 0) i (EX.re (i:=85)))) (EX.comma (i:=92) (EX.se (i:=90) (Cf n i c x3 x4 i 0) (i+1) (EX.tw (i:=89) (EX.re (i:=87)) (EX.nu (i:=88)) (Hv (a:=i) (b:=1)))) (EX.mo (d:=1) (EX.re (i:=91)))))
  obtain ⟨x51,ih⟩:=ZO l z n c hn hl hz r (j+1) (i+1) x3 x4 i (fu -18) (out++[p]) (by omega) (by omega) (by simp only [List.length_append,List.length_singleton];omega) (by omega) (by omega)
  have hd:out++l.drop j=out++[p]++l.drop (j+1):=by
   have hjl:j<l.length:=by omega
   rw [List.append_assoc,List.singleton_append,List.drop_eq_getElem_cons hjl,hp,List.getD_eq_getElem?_getD,List.getElem?_eq_getElem hjl]
   rfl
  rw [hd,show 4*(r+1)+1=4*r+1+4 by omega]
  exact ⟨x51,WH.fe (WH.go (dk rfl) (EX.mo (d:=3) e) (by decide) s99_1 (.inl rfl) (.inl ⟨rfl,dk rfl,e2⟩) (.inl ⟨rfl,rfl⟩) ih)⟩
theorem S8: ∀ (cs l:List Int),(∀ x∈cs,0<=x/\x<=255)->(∀ x∈l,0<=x/\x<=255)-> ∀ x∈cs.foldl (fun l c=>DL c l) l,0<=x/\x<=255
 | [],_,_,hl=>hl
 | a::cs,l,hb,hl=>S8 cs (DL a l) (fun x hx=>hb x (List.mem_cons_of_mem _ hx)) (Xg (hb a List.mem_cons_self) hl)
theorem Mr: ∀ (cs l:List Int),(cs.foldl (fun l c=>DL c l) l).length=l.length+cs.length
 | [],_=>rfl
 | a::cs,l=>by
  have:=Mr cs (DL a l)
  rw [M1] at this
  show (cs.foldl (fun l c=>DL c l) (DL a l)).length=_
  rw [this,List.length_cons];omega
theorem fZ (cs:List Int) (hb: ∀ x∈cs,0<=x/\x<=255) (h30:cs.length<=30) (fu:Int) (hf:fu=100000):Ho.k bF cs fu=Ez (Dop.SO.mk 1 (I (cs.foldl (fun l c=>DL c l) []).length) (cs.foldl (fun l c=>DL c l) [])):=by
 have hSb:=S8 cs [] hb (fun x h=>by cases h)
 have hSl:=Mr cs []
 rw [List.length_nil,Nat.zero_add] at hSl
 have s2_0:ST 5 2 (DS (mH [] 0 0 (El 4094)) cs [] (fu -2)) (Cf 0 0 0 0 0 0 0) 0 (DS (mH [] 0 0 (El 4094)) cs [] (fu -5)) (Cf 0 0 0 0 0 0 0):=ST.fe (ST.o (DO.xp (EX.se (i:=1) (Cf 0 0 0 0 0 0 0) 0 (EX.nu (i:=0)))))
 have s5_1:ST 5 5 (DS (mH [] 0 0 (El 4094)) cs [] (fu -5)) (Cf 0 0 0 0 0 0 0) 0 (DS (mH [] 0 0 (El 4094)) cs [] (fu -8)) (Cf 0 0 0 0 0 0 0):=ST.fe (ST.o (DO.xp (EX.se (i:=4) (Cf 0 0 0 0 0 0 0) 0 (EX.nu (i:=3)))))
 have s8_2:ST 5 8 (DS (mH [] 0 0 (El 4094)) cs [] (fu -8)) (Cf 0 0 0 0 0 0 0) 0 (DS (mH [] 0 0 (El 4094)) cs [] (fu -11)) (Cf 0 0 0 0 0 0 0):=ST.fe (ST.o (DO.xp (EX.se (i:=7) (Cf 0 0 0 0 0 0 0) 0 (EX.nu (i:=6)))))
 obtain ⟨u,k1,i1,x31,x41,hu,hk1,hw⟩:=ZN [] cs [] 4094 0 0 0 0 0 (fu -12) hb (fun x h=>by cases h) (by simp only [List.length_nil];omega) rfl (by omega) (by omega)
 generalize hS:cs.foldl (fun l c=>DL c l) []=S at*
 have sI:ST 21 77 (DS (mH [] 0 0 (El 4094)) cs [] (fu -11)) (Cf 0 0 0 0 0 0 0) 0 (DS (mH S S.length 0 (El k1)) [] [] (u)) (Cf (I S.length) i1 (-1) x31 x41 0 0):=ST.at (DO.cb rfl rfl hw (by omega))
 obtain ⟨x51,hp⟩:=ZO S (El k1) (I S.length) (-1) rfl hSb (by rw [show (El k1).length=k1 from List.length_replicate];omega) S.length 0 0 x31 x41 0 (u -3) [] rfl (by omega) (by simp only [List.length_nil];omega) (by omega) (by omega)
 rw [List.nil_append,List.drop_zero] at hp
 have sP:ST 12 100 (DS (mH S S.length 0 (El k1)) [] [] (u)) (Cf (I S.length) i1 (-1) x31 x41 0 0) 0 (DS (mH S S.length 0 (El k1)) [] S (u -18*(S.length:Int) -6)) (Cf (I S.length) (I S.length) (-1) x31 x41 x51 0):=by
  have h1:EX 3 80 (DS (mH S S.length 0 (El k1)) [] [] (u -1)) (Cf (I S.length) i1 (-1) x31 x41 0 0) 0 (DS (mH S S.length 0 (El k1)) [] [] (u -3)) (Cf (I S.length) 0 (-1) x31 x41 0 0):=EX.fe (EX.se (i:=80) (Cf (I S.length) i1 (-1) x31 x41 0 0) 0 (EX.nu (i:=79)))
  have h2:=DO.for (x:=nd bF 100) rfl rfl rfl (dk rfl) (EX.mo h1) hp (by omega)
  exact ST.fe (ST.o h2)
 have s102_9:ST 3 102 (DS (mH S S.length 0 (El k1)) [] S (u -18*(S.length:Int) -6)) (Cf (I S.length) (I S.length) (-1) x31 x41 x51 0) 3 (DS (mH S S.length 0 (El k1)) [] S (u -18*(S.length:Int) -8)) (Cf (I S.length) (I S.length) (-1) x31 x41 x51 (I S.length)):=ST.fe (ST.o (DO.gi (I S.length) (Cf (I S.length) (I S.length) (-1) x31 x41 x51 0) (EX.re (i:=101))))
 have s109_0:ST 23 109 (DS (mH [] 0 0 (El 4094)) cs [] (fu -1)) (Cf 0 0 0 0 0 0 0) 3 (DS (mH S S.length 0 (El k1)) [] S (u -18*(S.length:Int) -8)) (Cf (I S.length) (I S.length) (-1) x31 x41 x51 (I S.length)):=ST.fe (ST.at (DO.bl [2,5,8,77,100,102] 6 (BL.co (ST.mo (d:=5) s2_0) (BL.co (ST.mo (d:=5) s5_1) (BL.co (ST.mo (d:=5) s8_2) (BL.co sI (BL.co (ST.mo (d:=12) sP) (BL.ex (ST.mo (d:=3) s102_9)))))))))
 have s111_0:ST 25 111 (DS (mH [] 0 0 (El 4094)) cs [] (fu)) (Cf 0 0 0 0 0 0 0) 3 (DS (mH S S.length 0 (El k1)) [] S (u -18*(S.length:Int) -8)) (Cf (I S.length) (I S.length) (-1) x31 x41 x51 (I S.length)):=ST.fe (ST.at (DO.bl [109] 1 (BL.ex s109_0)))
 have c0:CL 26 0 [] (DS (mH [] 0 0 (El 4094)) cs [] fu) (I S.length) ((DS (mH S S.length 0 (El k1)) [] S (u -18*(S.length:Int) -8))):=CL.nh (sp:=41) (h:=3) (f1:=(Cf (I S.length) (I S.length) (-1) x31 x41 x51 (I S.length))) (d:=25) (g:=.mk [109,97,105,110] 0 6 0 111) rfl ⟨dk rfl,dk rfl⟩ rfl (by show (41:Int)+0<=I (mH [] 0 0 (El 4094)).length;rw [P9 _ _ _ _ (Nat.zero_le _),show (El 4094).length=4094 from List.length_replicate];decide) ⟨dk rfl,dk rfl⟩ ⟨dk rfl,dk rfl⟩ ⟨dk rfl,dk rfl⟩ s111_0 (by decide)
 exact mM (g:=.mk [97] 1 40 0) rfl ⟨by decide,by decide⟩ (by kernel_rfl) ⟨by omega,by omega⟩ c0 (by decide)
end Go.Proofs.Tryz
namespace Go.Proofs.Tryz
open Go Go.En
def mO:List UInt8:=[105,110,116,32,97,91,52,48,93,59,105,110,116,32,109,97,105,110,40,41,123,105,110,116,32,110,61,48,59,105,110,116,32,105,59,105,110,116,32,99,59,119,104,105,108,101,40,40,99,61,103,101,116,99,40,41,41,62,61,48,41,123,105,61,110,43,43,59,119,104,105,108,101,40,105,62,48,38,38,97,91,105,45,49,93,62,99,41,123,97,91,105,93,61,97,91,105,45,49,93,59,105,45,45,59,125,97,91,105,93,61,99,59,125,102,111,114,40,105,61,48,59,105,60,110,59,105,43,43,41,112,117,116,99,40,97,91,105,93,41,59,114,101,116,117,114,110,32,110,59,125]
theorem bP:m18.k mO=Rh bF 0 0:=by kernel_rfl
theorem TA (c:Int) (l:List Int) (v:Int):(DL c l).count v=(c::l).count v:=by
 have e:(l.take (BY c l l.length)).count v+(l.drop (BY c l l.length)).count v=l.count v:=by rw [<-List.count_append,List.take_append_drop]
 unfold DL
 rw [List.count_append,List.count_cons,List.count_cons]
 omega
theorem Mq (v:Int): ∀ (cs l:List Int),(cs.foldl (fun l c=>DL c l) l).count v=(l++cs).count v
 | [],l=>by rw [List.append_nil];rfl
 | a::cs,l=>by
  have:=Mq v cs (DL a l)
  show (cs.foldl (fun l c=>DL c l) (DL a l)).count v=_
  rw [this,List.count_append,TA,List.count_append,List.count_cons,List.count_cons]
  omega
end Go.Proofs.Tryz
namespace Go.Proofs.Tryz
open Go Go.En
theorem UJ (c:Int) (l:List Int): ∀ j k,BY c l j<=k->k<j->c<l.getD k 0
 | 0,k,_,h=>absurd h (Nat.not_lt_zero k)
 | j+1,k,h0,h1=>by
  unfold BY at h0
  split at h0
  ·rename_i h
   by_cases hk:k=j
   ·rw [hk];exact h
   ·exact UJ c l j k h0 (by omega)
  ·omega
theorem UK (c:Int) (l:List Int): ∀ j,BY c l j=0\/l.getD (BY c l j -1) 0<=c
 | 0=>.inl rfl
 | j+1=>by
  unfold BY
  split
  ·exact UK c l j
  ·rename_i h
   exact .inr (by rw [Nat.add_sub_cancel];omega)
theorem Q6 (c:Int) (l:List Int) (i:Nat):(DL c l).getD i 0=if i<BY c l l.length then l.getD i 0 else if i=BY c l l.length then c else l.getD (i -1) 0:=by
 have hj:=Jk c l l.length
 unfold DL
 generalize BY c l l.length=J at*
 have ht:(l.take J).length=J:=by rw [List.length_take];omega
 by_cases h1:i<J
 ·rw [if_pos h1,List.getD_eq_getElem?_getD,List.getElem?_append_left (by omega),List.getElem?_take,if_pos h1,List.getD_eq_getElem?_getD]
 ·rw [if_neg h1,List.getD_eq_getElem?_getD,List.getElem?_append_right (by omega),ht]
  by_cases h2:i=J
  ·rw [if_pos h2,h2,Nat.sub_self];rfl
  ·rw [if_neg h2,show i -J=(i -1 -J)+1 by omega,List.getElem?_cons_succ,List.getElem?_drop,show J+(i -1 -J)=i -1 by omega,List.getD_eq_getElem?_getD]
def Rs (l:List Int):Prop:= ∀ i k,i<k->k<l.length->l.getD i 0<=l.getD k 0
theorem Z7 (c:Int) {l:List Int} (h:Rs l):Rs (DL c l):=fun i k hik hk=>by
 rw [M1] at hk
 have hj:=Jk c l l.length
 have hhi:=UJ c l l.length
 have hlo:=UK c l l.length
 rw [Q6,Q6]
 generalize BY c l l.length=J at*
 by_cases a1:i<J
 ·rw [if_pos a1]
  have hc:l.getD i 0<=c:=by
   rcases hlo with h0|h0
   ·omega
   ·by_cases e:i=J -1
    ·rw [e];exact h0
    ·exact Int.le_trans (h i (J -1) (by omega) (by omega)) h0
  by_cases b1:k<J
  ·rw [if_pos b1];exact h i k hik (by omega)
  ·rw [if_neg b1]
   by_cases b2:k=J
   ·rw [if_pos b2];exact hc
   ·rw [if_neg b2];exact h i (k -1) (by omega) (by omega)
 ·rw [if_neg a1,if_neg (show ¬ k<J by omega),if_neg (show ¬ k=J by omega)]
  by_cases a2:i=J
  ·rw [if_pos a2];exact Int.le_of_lt (hhi (k -1) (by omega) (by omega))
  ·rw [if_neg a2];exact h (i -1) (k -1) (by omega) (by omega)
theorem UF: ∀ (cs l:List Int),Rs l->Rs (cs.foldl (fun l c=>DL c l) l)
 | [],_,h=>h
 | a::cs,_,h=>UF cs _ (Z7 a h)
end Go.Proofs.Tryz
