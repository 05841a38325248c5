/- The evaluator by rules: what an expression or a statement does in a run that has not ended. -/
import Derived.Test.YtmgkedikciddlaaGreatDoorTwE
import Derived.IntWalk
import Derived.Lib.ItoaMem
set_option linter.all false
set_option maxHeartbeats 1000000
namespace Go.Proofs.Tryz
open Go Go.En
theorem dk {p:Prop} [Decidable p] (h:decide p=true):p:=of_decide_eq_true h
theorem AL {α:Type} {b:Bool} {x:Option α} (h:b=true):ck b x=x:=by rw [h];rfl
theorem AN {α:Type} {b:Bool} {x y:α} (h:b=true):ci b x y=x:=by rw [h];rfl
theorem AA {α:Type} {b:Bool} {x y:α} (h:b=false):ci b x y=y:=by rw [h];rfl
theorem Ao {α β:Type} {a:α} {k:(α×Unit)×Unit->Option β}:Option.bind (Cn a) k=k ((a,()),()):=rfl
theorem D8 {α δ β:Type} {a:α} {x:δ} {k:(α×Unit)×(δ×Unit)->Option β}:Option.bind (Co a x) k=k ((a,()),(x,())):=rfl
theorem Fb {α δ β:Type} {a:α} {x:δ} {k:(α×δ×Unit)×Unit->Option β}:Option.bind (Ev a x) k=k ((a,x,()),()):=rfl
theorem Ap {α δ ε β:Type} {a:α} {x:δ} {y:ε} {k:(α×Unit)×(δ×ε×Unit)->Option β}:Option.bind (Aa a x y) k=k ((a,()),(x,y,())):=rfl
abbrev st (p:Dop.Gu) (mem:List Int) (sp:Int) (inp out:List Int) (fu:Int):ER:=(p,mem,sp,inp,out,fu,0,0,0,(),())
def nd (p:Dop.Gu) (i:Int):Dop.Ab:=List.getD p.nodes i.toNat Dop.d5
abbrev OG (p:Dop.Gu) (i:Int):Prop:=0<=i/\i<I p.nodes.length
def EX (d:Nat) (i:Int) (s:ER) (f:EF) (v:Int) (s':ER) (f':EF):Prop:= ∀ n,BB.kr (A6.kR (n+d)) i s f=Aa v s' f'
def ST (d:Nat) (i:Int) (s:ER) (f:EF) (h:Int) (s':ER) (f':EF):Prop:= ∀ n,Ct.kr (A6.kR (n+d)) i s f=Aa h s' f'
theorem EX.mono {d e:Nat} {i v:Int} {s s':ER} {f f':EF} (h:EX d i s f v s' f') (hd:d<=e):EX e i s f v s' f':=fun n=>by
 have:=h (n+(e -d));rwa [show n+(e -d)+d=n+e by omega] at this
theorem ST.mono {d e:Nat} {i v:Int} {s s':ER} {f f':EF} (h:ST d i s f v s' f') (hd:d<=e):ST e i s f v s' f':=fun n=>by
 have:=h (n+(e -d));rwa [show n+(e -d)+d=n+e by omega] at this
theorem HT (n:Nat):A6.kR (n+1)=A6.kS (A6.kR n):=rfl
section
variable {p:Dop.Gu} {mem:List Int} {sp:Int} {inp out:List Int} {fu:Int} {fr:EF} {i:Int} {d:Nat}
theorem Q1 (h0:0<fu) (h1:fu<=1000000):Fe.k (st p mem sp inp out fu)=Co true (st p mem sp inp out (fu -1)):=by
 unfold Fe.k
 rw [AA (by rfl),AA (decide_eq_false (show ¬ fu=0 by omega)),AL (BD.2 (show -9223372036854775808<=fu -1/\fu -1<=9223372036854775807 by omega))]
end
theorem kK {α:Type} [NN α] (f:α->α):Bp f 1000000=f (Bp f 999999):=rfl
section
variable (r:A6.T) (i:Int) (x:Dop.Ab) (s:ER) (f:EF)
theorem Hs:BB.kr (A6.kS r) i s f=BB.kf r i s f:=rfl
theorem jW:Ee.kr (A6.kS r) i s f=Ee.kf r i s f:=rfl
theorem dG:Gf.kr (A6.kS r) x s f=Gf.kf r x s f:=rfl
theorem dF:Ge.kr (A6.kS r) x s f=Ge.kf r x s f:=rfl
theorem X3:Ct.kr (A6.kS r) i s f=Ct.kf r i s f:=rfl
theorem GZ:BA.kr (A6.kS r) x s f=BA.kf r x s f:=rfl
theorem X4:Aq.kr (A6.kS r) x s f=Aq.kf r x s f:=rfl
theorem jX (l:List Int):m64.kr (A6.kS r) i l s=m64.kf r i l s:=rfl
theorem aU {p:Dop.Gu} {mem:List Int} {sp:Int} {inp out:List Int} {fu:Int} (h0:0<fu) (h1:fu<=1000000) (hi:OG p i) (hk:5<(nd p i).kind):
  BB.kf r i (st p mem sp inp out fu) f=FI.kB r (BB.kL r 999999) (nd p i).kind (st p mem sp inp out (fu -1)) f (nd p i):=by
 unfold BB.kf BB.k0
 rw [Q1 h0 h1,D8]
 dsimp only
 rw [show List.getD (ER.p (st p mem sp inp out (fu -1))).nodes i.toNat Dop.d5=nd p i from rfl,AA (by rfl),AL (decide_eq_true hi),AA (decide_eq_false (by omega)),AA (decide_eq_false (by omega)),AA (decide_eq_false (by omega)),AA (decide_eq_false (by omega)),AA (decide_eq_false (by omega))]
 unfold BB.kL
 rw [kK]
 rfl
theorem Up {p:Dop.Gu} {mem:List Int} {sp:Int} {inp out:List Int} {fu:Int} (h0:0<fu) (h1:fu<=1000000) (hi:OG p i) (hk:8<(nd p i).kind):
  BB.kf r i (st p mem sp inp out fu) f=FJ.kB r (BB.kL r 999998) (nd p i).kind (st p mem sp inp out (fu -1)) f (nd p i):=by
 rw [aU r i f h0 h1 hi (by omega)]
 unfold FI.kB
 dsimp only
 rw [AA (decide_eq_false (by omega)),AA (decide_eq_false (by omega)),AA (decide_eq_false (by omega))]
 rfl
end
section
variable {p:Dop.Gu} {mem:List Int} {sp:Int} {inp out:List Int} {fu:Int} {fr:EF} {i:Int} {d:Nat}
theorem EX.num (h0:0<fu) (h1:fu<=1000000) (hi:OG p i) (hk:(nd p i).kind=1):EX 1 i (st p mem sp inp out fu) fr (nd p i).n (st p mem sp inp out (fu -1)) fr:=fun n=>by
 rw [HT,Hs]
 unfold BB.kf BB.k0
 rw [Q1 h0 h1,D8]
 dsimp only
 unfold nd at hk ⊢
 rw [AA (by rfl),AL (decide_eq_true hi),AN (decide_eq_true hk)]
theorem EX.od (h0:0<fu) (h1:fu<=1000000) (hi:OG p i) (hk:(nd p i).kind=2) (hr:0<=(nd p i).n/\(nd p i).n<I fr.Ai.length):EX 1 i (st p mem sp inp out fu) fr (fr.Ai.getD (nd p i).n.toNat 0) (st p mem sp inp out (fu -1)) fr:=fun n=>by
 rw [HT,Hs]
 unfold BB.kf BB.k0
 rw [Q1 h0 h1,D8]
 dsimp only
 unfold nd at hk hr ⊢
 rw [AA (by rfl),AL (decide_eq_true hi),AA (by rw [hk];rfl),AN (decide_eq_true hk),AL (decide_eq_true hr),AL (decide_eq_true (show (List.getD p.nodes i.toNat Dop.d5).n.toNat<fr.Ai.length by simp only [I] at hr;omega))]
variable {v w:Int} {m1:List Int} {sp1:Int} {i1 o1:List Int} {u1:Int} {f1:EF} {m2:List Int} {sp2:Int} {i2 o2:List Int} {u2:Int} {f2 fr':EF}
theorem sub {n:Nat} {s s':ER} (ha:EX d i s fr v s' f1):Ee.kr (A6.kR (n+d+1)) i s fr=some ((v,()),(((),()),(s',(((),()),(f1,()))))):=by
 rw [HT,jW]
 unfold Ee.kf
 rw [ha n,Ap]
theorem EX.nL (h0:0<fu) (h1:fu<=1000000) (hi:OG p i) (hk:(nd p i).kind=6) (ha:EX d (nd p i).a (st p mem sp inp out (fu -1)) fr v (st p m1 sp1 i1 o1 u1) f1) (hr:0<=(nd p i).n/\(nd p i).n<I f1.Ai.length):
  EX (d+2) i (st p mem sp inp out fu) fr v (st p m1 sp1 i1 o1 u1) (EF.T8 f1 (f1.Ai.set (nd p i).n.toNat v)):=fun n=>by
 rw [show n+(d+2)=n+d+1+1 from rfl,HT,Hs,aU _ _ _ h0 h1 hi (by omega)]
 unfold FI.kB
 dsimp only
 rw [AN (decide_eq_true hk),sub ha,Option.bind_some]
 dsimp only
 rw [AN (show decide ((st p m1 sp1 i1 o1 u1).end_=0)=true from rfl),AL (decide_eq_true hr),AL (decide_eq_true (show (nd p i).n.toNat<f1.Ai.length by simp only [I] at hr;omega))]
theorem EX.one (h0:0<fu) (h1:fu<=1000000) (hi:OG p i) (hk:(nd p i).kind=7) (ha:EX d (nd p i).a (st p mem sp inp out (fu -1)) fr v (st p m1 sp1 i1 o1 u1) f1) (ho:A0.k (nd p i).n v 0=Ev w true):
  EX (d+2) i (st p mem sp inp out fu) fr w (st p m1 sp1 i1 o1 u1) f1:=fun n=>by
 rw [show n+(d+2)=n+d+1+1 from rfl,HT,Hs,aU _ _ _ h0 h1 hi (by omega)]
 unfold FI.kB
 dsimp only
 rw [AA (decide_eq_false (by omega)),AN (decide_eq_true hk),AN (decide_eq_true hk),HT,dG]
 unfold Gf.kf
 rw [ha n,Ap]
 dsimp only
 rw [AA (decide_eq_false (by omega)),AA (show (!decide ((st p _ _ _ _ _).end_=0))=false from rfl),ho,Fb]
 rfl
theorem EX.two (h0:0<fu) (h1:fu<=1000000) (hi:OG p i) (hk:(nd p i).kind=8) {x:Int} (ha:EX d (nd p i).a (st p mem sp inp out (fu -1)) fr v (st p m1 sp1 i1 o1 u1) f1) (hb:EX d (nd p i).b (st p m1 sp1 i1 o1 u1) f1 w (st p m2 sp2 i2 o2 u2) f2) (ho:A0.k (nd p i).n v w=Ev x true):
  EX (d+2) i (st p mem sp inp out fu) fr x (st p m2 sp2 i2 o2 u2) f2:=fun n=>by
 rw [show n+(d+2)=n+d+1+1 from rfl,HT,Hs,aU _ _ _ h0 h1 hi (by omega)]
 unfold FI.kB
 dsimp only
 rw [AA (decide_eq_false (by omega)),AA (decide_eq_false (by omega)),AN (decide_eq_true hk),HT,dG]
 unfold Gf.kf
 rw [ha n,Ap]
 dsimp only
 rw [AN (decide_eq_true hk),hb n,Ap]
 dsimp only
 rw [AA (show (!decide ((st p _ _ _ _ _).end_=0))=false from rfl),ho,Fb]
 rfl
variable {h:Int} {s s' s1 s2:ER} {x:Dop.Ab} {l:List Int} {j c:Nat}
def DO (d:Nat) (x:Dop.Ab) (s:ER) (f:EF) (h:Int) (s':ER) (f':EF):Prop:= ∀ n,BA.kr (A6.kR (n+d)) x s f=Aa h s' f'
theorem ST.of (h0:0<fu) (h1:fu<=1000000) (hi:OG p i) (hs:EF.CN fr=0) (hd:DO d (nd p i) (st p mem sp inp out (fu -1)) fr h (st p m1 sp1 i1 o1 u1) f1):ST (d+1) i (st p mem sp inp out fu) fr h (st p m1 sp1 i1 o1 u1) f1:=fun n=>by
 rw [show n+(d+1)=n+d+1 from rfl,HT,X3]
 unfold Ct.kf
 rw [AA (by rw [hs];rfl),AN (decide_eq_true hs),Q1 h0 h1,D8]
 dsimp only
 rw [show List.getD (ER.p (st p mem sp inp out (fu -1))).nodes i.toNat Dop.d5=nd p i from rfl,AA (by rfl),AL (decide_eq_true hi),hd n]
 rfl
theorem DO.expr (hk:x.kind=30) (ha:0<=x.a) (he:EX d x.a s fr v s' f1):DO (d+1) x s fr 0 s' f1:=fun n=>by
 rw [show n+(d+1)=n+d+1 from rfl,HT,GZ]
 unfold BA.kf BA.k0
 dsimp only
 rw [AN (decide_eq_true hk),AN (decide_eq_true ha),he n]
 rfl
theorem Te (r:A6.T) (hk:34<x.kind):BA.kf r x s fr=Dg.kB r (BA.kL r 999999) x.kind s fr x:=by
 unfold BA.kf BA.k0
 dsimp only
 rw [AA (decide_eq_false (by omega)),AA (decide_eq_false (by omega)),AA (decide_eq_false (by omega)),AA (decide_eq_false (by omega)),AA (decide_eq_false (by omega))]
 rfl
theorem DO.FF (hk:x.kind=37) (ha:0<=x.a) (he:EX d x.a s fr v s' f1):DO (d+1) x s fr 3 s' (EF.T9 f1 v):=fun n=>by
 rw [show n+(d+1)=n+d+1 from rfl,HT,GZ,Te _ (by omega)]
 unfold Dg.kB
 dsimp only
 rw [AA (decide_eq_false (by omega)),AA (decide_eq_false (by omega)),AN (decide_eq_true hk),AN (decide_eq_true ha),he n]
 rfl
def BL (d c:Nat) (l:List Int) (j:Nat) (s:ER) (f:EF) (h:Int) (s':ER) (f':EF):Prop:= ∀ n N,(Bp (BA.kS (A6.kR (n+d))) (N+c)).2.2.2.1 l (I l.length) (I j) s f=Aa h s' f'
theorem BL.nil (hj:l.length=j):BL d (c+1) l j s fr 0 s fr:=fun n N=>by
 show Ek.kB _ _ l (I l.length) (I j) s fr=_
 unfold Ek.kB
 rw [AA (decide_eq_false (by simp only [I];omega))]
theorem BL.cons (hj:j<l.length) (hl:l.length<1000000) (hd:ST d (l.getD j 0) s fr 0 s1 f1) (hr:BL d c l (j+1) s1 f1 h s' f2):BL d (c+1) l j s fr h s' f2:=fun n N=>by
 show Ek.kB (A6.kR (n+d)) (Bp (BA.kS (A6.kR (n+d))) (N+c)) l (I l.length) (I j) s fr=_
 unfold Ek.kB
 rw [AN (decide_eq_true (by simp only [I];omega)),AL (decide_eq_true (by simp only [I];omega)),AL (decide_eq_true (by simp only [I];omega)),show (I j).toNat=j from rfl,hd n,Ap]
 dsimp only
 rw [AA (show (!decide ((0:Int)=0))=false from rfl),AL (BD.2 (by simp only [I];omega))]
 exact hr n N
theorem BL.exit (hj:j<l.length) (hd:ST d (l.getD j 0) s fr h s1 f1) (hh:h≠0):BL d (c+1) l j s fr h s1 f1:=fun n N=>by
 show Ek.kB (A6.kR (n+d)) (Bp (BA.kS (A6.kR (n+d))) (N+c)) l (I l.length) (I j) s fr=_
 unfold Ek.kB
 rw [AN (decide_eq_true (by simp only [I];omega)),AL (decide_eq_true (by simp only [I];omega)),AL (decide_eq_true (by simp only [I];omega)),show (I j).toNat=j from rfl,hd n,Ap]
 dsimp only
 rw [AN (by rw [decide_eq_false hh];rfl)]
theorem DO.block (hk:x.kind=43) (hl:C3.k (ER.p s) x.a=Cn l) (hb:BL d c l 0 s fr h s' f1) (hc:c<=999998):DO (d+1) x s fr h s' f1:=fun n=>by
 rw [show n+(d+1)=n+d+1 from rfl,HT,GZ,Te _ (by omega)]
 unfold Dg.kB
 dsimp only
 rw [AA (decide_eq_false (by omega)),AA (decide_eq_false (by omega)),AA (decide_eq_false (by omega)),AA (decide_eq_false (by omega)),AA (decide_eq_false (by omega)),AA (decide_eq_false (by omega)),AA (decide_eq_false (by omega))]
 show IY.kB (A6.kR (n+d)) (Bp (BA.kS (A6.kR (n+d))) 999998) x.kind s fr x=_
 unfold IY.kB
 rw [AA (decide_eq_false (by omega)),AN (decide_eq_true hk),hl,Ao]
 have:=hb n (999998 -c)
 rw [show 999998 -c+c=999998 by omega] at this
 exact this
def WH (d c:Nat) (b t:Int) (x:Dop.Ab) (s:ER) (f:EF) (h:Int) (s':ER) (f':EF):Prop:= ∀ n N,(Bp (Aq.kS (A6.kR (n+d))) (N+c)).2.2.1 b false t s f x=Aa h s' f'
theorem WH.stop {b t:Int} (ht:0<=t) (he:EX d t s fr 0 s' f1):WH d (c+1) b t x s fr 0 s' f1:=fun n N=>by
 show C1.kB (A6.kR (n+d)) _ b false t s fr x=_
 unfold C1.kB
 dsimp only
 rw [AN (b:=!false) rfl,AN (decide_eq_true ht),he n,Ap]
 rfl
theorem DO.ln (hk:x.kind=32) (hs:EF.CN fr=0) (hw:WH d c x.b x.a x s fr h s' f1) (hc:c<=999998):DO (d+2) x s fr h s' f1:=fun n=>by
 rw [show n+(d+2)=n+d+1+1 from rfl,HT,GZ]
 unfold BA.kf BA.k0
 dsimp only
 rw [AA (decide_eq_false (by omega)),AA (decide_eq_false (by omega)),AN (decide_eq_true hk),AN (decide_eq_true hk),HT,X4]
 unfold Aq.kf Aq.k0
 rw [AA (decide_eq_false (by omega))]
 show Option.bind (GJ.kB (A6.kR (n+d)) (Bp (Aq.kS (A6.kR (n+d))) 999999) x.b s fr x) BQ=_
 unfold GJ.kB
 rw [AA (by rw [hs];rfl)]
 show Option.bind (E6.kB (A6.kR (n+d)) (Bp (Aq.kS (A6.kR (n+d))) 999998) x.b (decide (x.kind=33)) s fr x) BQ=_
 unfold E6.kB
 rw [AA (decide_eq_false (by omega)),decide_eq_false (show ¬ x.kind=33 by omega)]
 have:=hw n (999998 -c)
 rw [show 999998 -c+c=999998 by omega] at this
 exact (congrArg (fun z=>Option.bind z BQ) this).trans rfl
def CL (d:Nat) (k:Int) (args:List Int) (s:ER) (v:Int) (s':ER):Prop:= ∀ n,m64.kr (A6.kR (n+d)) k args s=Co v s'
abbrev jK (g:Dop.DE) (args:List Int) (b:Int):EF:=(g,List.take (List.replicate g.Ai.toNat (0:Int)).length args++List.drop args.length (List.replicate g.Ai.toNat (0:Int)),b,0,[],0,0,())
theorem CL.of {k:Int} {args:List Int} {g:Dop.DE} (hk:0<=k/\k<I p.funcs.length) (hg:List.getD p.funcs k.toNat Dop.d11=g) (hm:sp+g.frame<=I mem.length) (hr:0<=g.Ai/\g.Ai<=1000000) (hs:0<=sp/\sp<=1000000) (hf:0<=g.frame/\g.frame<=1000000)
  (hd:ST d g.body (st p mem (sp+g.frame) inp out fu) (jK g args sp) h (st p m1 (sp+g.frame) i1 o1 u1) f1) (hh:h≠4):CL (d+1) k args (st p mem sp inp out fu) (EF.told f1) (st p m1 sp i1 o1 u1):=fun n=>by
 rw [show n+(d+1)=n+d+1 from rfl,HT,jX]
 unfold m64.kf m64.k0
 dsimp only
 rw [show List.getD (ER.p (st p mem sp inp out fu)).funcs k.toNat Dop.d11=g from hg,AA (show (!decide ((st p mem sp inp out fu).end_=0))=false from rfl),AA (decide_eq_false (by omega)),AL (decide_eq_true hk),AL (BD.2 (show -9223372036854775808<=sp+g.frame/\sp+g.frame<=9223372036854775807 by omega)),AA (decide_eq_false (show ¬ I mem.length<sp+g.frame by omega)),
  AL (decide_eq_true (show 0<=g.Ai/\g.Ai<=g.Ai/\g.Ai*(I 8+1)<=140737488355328 by simp only [I];omega)),AL (BD.2 (show -9223372036854775808<=sp+g.frame/\sp+g.frame<=9223372036854775807 by omega))]
 show LN.kB (A6.kR (n+d)) _ (st p mem (sp+g.frame) inp out fu) g (jK g args sp)=_
 unfold LN.kB
 rw [hd n,Ap]
 dsimp only
 rw [AA (decide_eq_false hh),AL (BD.2 (show -9223372036854775808<=sp+g.frame -g.frame/\sp+g.frame -g.frame<=9223372036854775807 by omega))]
 show Co _ (st p m1 (sp+g.frame -g.frame) i1 o1 u1)=_
 rw [show sp+g.frame -g.frame=sp by omega]
theorem ZR {k:Int} (hg:p.globals=[]) (hm:Se.k p ([109,97,105,110]:List UInt8)=Cn k) (hf:0<=fu/\fu<=1000000) (hc:CL d k [] (st p (List.replicate 4096 0) p.top inp [] fu) v (st p m1 sp1 i1 o1 u1)) (hd:d<=1000000000):F0.k p inp fu=Cn (Dop.PJ.mk 1 v o1):=by
 unfold F0.k F0.k0
 rw [AL (by decide),hg,if_neg (show ¬ fu<0 by omega),if_neg (show ¬ 1000000<fu by omega)]
 show Iu.kB (F0.kL 999999) [] (I 0) 0 p 0 0 [] (st p (List.replicate 4096 0) p.top inp [] fu)=_
 unfold Iu.kB
 dsimp only
 rw [AA (by rfl),hm,Ao]
 have:=hc (1000000000 -d)
 rw [show 1000000000 -d+d=1000000000 by omega] at this
 show Option.bind (m64.kr (A6.kR 1000000000) k [] (st p (List.replicate 4096 0) p.top inp [] fu)) _=_
 rw [this]
 rfl
end
theorem Uc (l:List Int) (hl:l.length<1000000): ∀ (k j N:Nat),j+k=l.length->(Bp Iv.kS (N+k+1)).1 l l (I l.length) (I j)=Cn true
 | 0,j,N,h=>by
  show LM.kB _ l l (I l.length) (I j)=_
  unfold LM.kB
  rw [AA (decide_eq_false (by simp only [I];omega))]
 | k+1,j,N,h=>by
  show LM.kB (Bp Iv.kS (N+k+1)) l l (I l.length) (I j)=_
  unfold LM.kB
  rw [AN (decide_eq_true (by simp only [I];omega)),AL (decide_eq_true (by simp only [I];omega)),AL (decide_eq_true (by simp only [I];omega)),AA (by simp),AL (BD.2 (by simp only [I];omega))]
  exact Uc l hl k (j+1) N (by omega)
theorem same (a b:Int) (l:List Int) (hl:l.length<1000000):V1.k (.mk a b l) (.mk a b l)=Cn true:=by
 unfold V1.k
 dsimp only
 rw [AN (decide_eq_true rfl),AN (decide_eq_true rfl)]
 unfold Iv.k Iv.k0
 rw [AA (by simp)]
 have:=Uc l hl l.length 0 (999999 -l.length) (by omega)
 rw [show 999999 -l.length+l.length+1=1000000 by omega] at this
 exact (congrArg (fun z=>Option.bind z _) this).trans rfl
abbrev dE (a:Int):Prop:= -2147483648<=a/\a<=2147483647
theorem I5 {a:Int} (h:dE a):IntKind.i32.wrap (IntKind.u32.wrap a)=a:=by rw [IntKind.wrap_i32,IntKind.wrap_u32];omega
theorem lq (a:Int):dE (IntKind.i32.wrap (IntKind.u32.wrap a)):=by rw [IntKind.wrap_i32,IntKind.wrap_u32];omega
theorem Zl (a:Int):Er.k a=Cn (IntKind.i32.wrap (IntKind.u32.wrap a)):=by
 have:=lq a
 unfold Er.k
 exact AL (BD.2 (by omega))
end Go.Proofs.Tryz
namespace Go.Proofs.Tryz
open Go Go.En
def Pp (c:Nat):Bool:=(97<=c && c<=122) || (65<=c && c<=90) || c == 95
def OP (c:Nat):Bool:=48<=c && c<=57
theorem jZ: ∀ c:Fin 256,Tn.k (I c)=Cn (Pp c):=by decide+kernel
theorem iq: ∀ c:Fin 256,To.k (I c)=Cn (OP c):=by decide+kernel
theorem YA (c:UInt8):Tn.k ((c.toNat:Nat):Int)=Cn (Pp c.toNat):=jZ ⟨c.toNat,c.toNat_lt⟩
theorem XB (c:UInt8):To.k ((c.toNat:Nat):Int)=Cn (OP c.toNat):=iq ⟨c.toNat,c.toNat_lt⟩
abbrev Zm (c:UInt8):Bool:=Pp c.toNat || OP c.toNat
theorem iZ (s:List UInt8) (j:Nat):DC s (I j)=(((s.getD j 0).toNat:Nat):Int):=rfl
theorem SG (s:List UInt8) (k:Nat) (hk:k<=s.length) (hs:s.length<1000000) (ha: ∀ j,j<k->Zm (s.getD j 0)=true) (he:k=s.length\/Zm (s.getD k 0)=false):
  ∀ (m j N:Nat),j+m=k->(Bp Ib.kS (N+m+1)).1 s (I j)=Cn (I k)
 | 0,j,N,h=>by
  obtain rfl:j=k:=by omega
  show LO.kB (Bp Ib.kS N) s (I j)=_
  unfold LO.kB
  by_cases hl:j=s.length
  ·rw [AA (decide_eq_false (by simp only [I];omega))]
  ·have hj:0<=I j/\I j<I s.length:=by simp only [I];omega
   have h2:=he.resolve_left hl
   simp only [Bool.or_eq_false_iff] at h2
   rw [AN (decide_eq_true hj.2),AL (decide_eq_true hj),iZ,YA,Ao]
   dsimp only
   rw [h2.1,AA rfl,AL (decide_eq_true hj),XB,Ao]
   dsimp only
   rw [h2.2,AA rfl]
 | m+1,j,N,h=>by
  have hj:0<=I j/\I j<I s.length:=by simp only [I];omega
  have h2:(Pp (s.getD j 0).toNat || OP (s.getD j 0).toNat)=true:=ha j (by omega)
  have hi:=SG s k hk hs ha he m (j+1) N (by omega)
  show LO.kB (Bp Ib.kS (N+m+1)) s (I j)=_
  unfold LO.kB
  rw [AN (decide_eq_true hj.2),AL (decide_eq_true hj),iZ,YA,Ao]
  dsimp only
  by_cases h3:Pp (s.getD j 0).toNat=true
  ·rw [h3,AN rfl,AL (BD.2 (by simp only [I];omega))];exact hi
  ·rw [Bool.not_eq_true] at h3
   rw [h3,AA rfl,AL (decide_eq_true hj),XB,Ao]
   dsimp only
   rw [h3,Bool.false_or] at h2
   rw [h2,AN rfl,AL (BD.2 (by simp only [I];omega))];exact hi
theorem kP (s:List UInt8) (k:Nat) (hk:k<=s.length) (hs:s.length<1000000) (ha: ∀ j,j<k->Zm (s.getD j 0)=true) (he:k=s.length\/Zm (s.getD k 0)=false):Ib.k s=Cn (I k):=by
 have:=SG s k hk hs ha he k 0 (999999 -k) (by omega)
 rw [show 999999 -k+k+1=1000000 by omega] at this
 exact this
abbrev Uo (c:UInt8):Prop:=48<=c.toNat/\c.toNat<=57
def dv (c:UInt8):Int:=(c.toNat:Int) -48
def fv (l:List UInt8) (n:Int):Int:=l.foldl (fun n c=>n*10+dv c) n
theorem eV: ∀ c:Fin 256,48<=c.val->c.val<=57->Lib.toLowerA [UInt8.ofNat c]=[UInt8.ofNat c]/\Lib.indexByte ([48,49,50,51,52,53,54,55,56,57,97,98,99,100,101,102]:List UInt8) (DC [UInt8.ofNat c] 0).toNat.toUInt8=(c.val:Int) -48/\Zt [UInt8.ofNat c]=true:=by decide+kernel
theorem eU {c:UInt8} (h:Uo c):Lib.toLowerA [c]=[c]/\Lib.indexByte ([48,49,50,51,52,53,54,55,56,57,97,98,99,100,101,102]:List UInt8) (DC [c] 0).toNat.toUInt8=dv c/\Zt [c]=true:=by
 have:=eV ⟨c.toNat,c.toNat_lt⟩ h.1 h.2
 rwa [show UInt8.ofNat (⟨c.toNat,c.toNat_lt⟩:Fin 256).val=c from UInt8.ofNat_toNat] at this
theorem Um: ∀ (l:List UInt8) (n:Int),0<=n->(∀ c∈l,Uo c)->n<=fv l n
 | [],n,_,_=>Int.le_refl n
 | c::l,n,h,hd=>by
  have h1:=hd c List.mem_cons_self
  have h2:0<=dv c:=by unfold dv;omega
  have:=Um l (n*10+dv c) (by omega) fun x hx=>hd x (List.mem_cons_of_mem _ hx)
  show n<=fv l (n*10+dv c)
  omega
theorem Ta (l m:List UInt8) (n:Int):fv (l++m) n=fv m (fv l n):=List.foldl_append
theorem SZ (s:List UInt8) (hs:s.length<1000000) (h0:s≠[]) (hd: ∀ c∈s,Uo c) (hv:fv s 0<=4294967295):
  ∀ (m j N:Nat),j+m=s.length->(Bp He.kS (N+m+1)).1 s 10 (fv (s.take j) 0) (I s.length) (I j)=Ev (fv s 0) true
 | 0,j,N,h=>by
  obtain rfl:j=s.length:=by omega
  show LP.kB (Bp He.kS N) s 10 _ (I s.length) (I s.length)=_
  unfold LP.kB
  dsimp only
  rw [AA (decide_eq_false (by omega)),List.take_length,decide_eq_false h0]
  rfl
 | m+1,j,N,h=>by
  have hj:j<s.length:=by omega
  obtain ⟨c,hc⟩: ∃ c,s[j]?=some c:=⟨s[j],List.getElem?_eq_getElem hj⟩
  have hcs:=List.mem_of_getElem? hc
  have ht:List.drop (I j).toNat (List.take (I j+1).toNat s)=[c]:=by
   rw [show (I j+1).toNat=j+1 by simp only [I];omega,show (I j).toNat=j from rfl,List.take_add_one,hc,List.drop_append]
   simp [List.length_take,Nat.min_eq_left (Nat.le_of_lt hj)]
  have hk:fv (s.take (j+1)) 0=fv (s.take j) 0*10+dv c:=by rw [List.take_add_one,hc,Ta];rfl
  have hp:0<=fv (s.take j) 0:=Um _ 0 (by omega) fun x hx=>hd x (List.mem_of_mem_take hx)
  have hle:fv (s.take (j+1)) 0<=fv s 0:=by
   have e:=Ta (s.take (j+1)) (s.drop (j+1)) 0
   rw [List.take_append_drop] at e
   rw [e]
   exact Um _ _ (Um _ 0 (by omega) fun x hx=>hd x (List.mem_of_mem_take hx)) fun x hx=>hd x (List.mem_of_mem_drop hx)
  have hi:=SZ s hs h0 hd hv m (j+1) N (by omega)
  obtain ⟨e1,e2,e3⟩:=eU (hd c hcs)
  have hdc:0<=dv c/\dv c<=9:=by have:=hd c hcs;unfold dv;omega
  show LP.kB (Bp He.kS (N+m+1)) s 10 _ (I s.length) (I j)=_
  unfold LP.kB
  dsimp only
  rw [ht,e1,AN (decide_eq_true (by simp only [I];omega)),AL (BD.2 (by simp only [I];omega)),AL (decide_eq_true (by simp only [I];omega)),AL e3,AL (decide_eq_true (show (0:Int)<=0/\0<I [c].length by simp [I])),AL rfl,e2,
   AA (decide_eq_false (by omega)),AA (decide_eq_false (by omega)),AL (BD.2 (by omega)),AL (BD.2 (by omega)),AA (decide_eq_false (by omega)),AL (BD.2 (by simp only [I];omega)),<- hk]
  exact hi
theorem lY (s:List UInt8) (hs:s.length<1000000) (h0:s≠[]) (hd: ∀ c∈s,Uo c) (hv:fv s 0<=4294967295):(He.kL 1000000).1 s 10 0 (I s.length) 0=Ev (fv s 0) true:=by
 have:=SZ s hs h0 hd hv s.length 0 (999999 -s.length) (by omega)
 rw [show 999999 -s.length+s.length+1=1000000 by omega] at this
 exact this
theorem kC {s t:List UInt8} (hd: ∀ c∈s,Uo c) (h0:s≠[]) {x:UInt8} (hx:¬ Uo x) (ht: ∀ c r,t=c::r->c≠x):Lib.hasPrefix (s++t) [48,x]=false:=by
 unfold Lib.hasPrefix
 match s,h0 with
 | [c],_=>
  cases t with
  | nil=>simp [List.isPrefixOf]
  | cons d r=>have:=ht d r rfl;simp [List.isPrefixOf];intro _;exact fun e=>this e.symm
 | c::d::r,_=>
  have:=hd d (by simp)
  simp [List.isPrefixOf]
  intro _ e
  exact hx (e▸this)
theorem lZ {s:List UInt8} (hs:s.length<1000000) (h0:s≠[]) (hd: ∀ c∈s,Uo c) (hv:fv s 0<=4294967295):He.k s=Ev (fv s 0) true:=by
 have hl:0<s.length:=List.length_pos_iff.2 h0
 have hc:=hd _ (List.getLast_mem h0)
 have e:DC s (I s.length -1)=(((s.getLast h0).toNat:Nat):Int):=by
  unfold DC
  rw [show (I s.length -1).toNat=s.length -1 by simp only [I];omega,List.getLast_eq_getElem,List.getD_eq_getElem?_getD,List.getElem?_eq_getElem (by omega)]
  rfl
 have p1:=kC (t:=[]) (x:=120) hd h0 (by decide) (fun _ _ h=>by cases h)
 have p2:=kC (t:=[]) (x:=88) hd h0 (by decide) (fun _ _ h=>by cases h)
 rw [List.append_nil] at p1 p2
 have hb:0<=I s.length -1/\I s.length -1<I s.length:=by simp only [I];omega
 unfold He.k He.k0
 dsimp only
 rw [AL (BD.2 (by simp only [I];omega)),AL (decide_eq_true hb),e,AA (decide_eq_false (by omega)),AL (decide_eq_true hb),AA (decide_eq_false (by omega)),AL rfl,p1,AA rfl,AL rfl,p2,AA rfl]
 exact lY s hs h0 hd hv
theorem bp {c:UInt8} {w t:List UInt8} {v:Int} (hl:(c::w++t).length<1000000) (hc:Uo c) (hw: ∀ x∈w,Zm x=true) (ht: ∀ d r,t=d::r->Zm d=false) (hv:He.k (c::w)=Ev v true):Tm.k (c::w++t)=Ev (Dop.Tok.mk 3 (c::w) v 0) 0:=by
 have hlen:(c::w++t).length=(c::w).length+t.length:=List.length_append
 have h1:OP c.toNat=true:=by unfold OP;simp;exact hc
 have h2:Pp c.toNat=false:=by unfold Pp;simp;omega
 have hb:(0:Int)<=0/\0<I (c::w++t).length:=by rw [hlen];simp only [I,List.length_cons];omega
 have hr:Ib.k (c::w++t)=Cn (I (c::w).length):=kP _ _ (by omega) hl (fun j hj=>by
  rw [List.getD_eq_getElem?_getD,List.getElem?_append_left hj,List.getElem?_eq_getElem hj]
  rcases List.mem_cons.1 (List.getElem_mem hj) with h|h
  ·show Zm (c::w)[j]=true
   rw [h];show (Pp c.toNat || OP c.toNat)=true;rw [h1,Bool.or_true]
  ·exact hw _ h) (by
  cases t with
  | nil=>left;simp
  | cons d r=>
   right
   rw [List.getD_eq_getElem?_getD,List.getElem?_append_right (Nat.le_refl _),Nat.sub_self]
   exact ht d r rfl)
 have htk:List.drop (Int.toNat 0) (List.take (I (c::w).length).toNat (c::w++t))=c::w:=by
  rw [show (I (c::w).length).toNat=(c::w).length from rfl,List.take_left];rfl
 have h0:DC (c::w++t) 0=((c.toNat:Nat):Int):=rfl
 have hk:(0:Int)<=0/\0<=I (c::w).length/\I (c::w).length<=I (c::w++t).length:=by rw [hlen];simp only [I];omega
 have h81:Ru.k 3 v (I (c::w).length) (c::w++t)=O6 (Dop.Tok.mk 3 (c::w) v 0) 0 (c::w++t,()):=by
  unfold Ru.k
  rw [AL (decide_eq_true hk),htk]
 unfold Tm.k
 rw [AL (decide_eq_true hb),h0,YA,h2,Ao]
 dsimp only
 rw [AA rfl,AL (decide_eq_true hb),XB,h1,Ao]
 dsimp only
 rw [AN rfl,hr,Ao]
 dsimp only
 rw [AL (decide_eq_true hk),htk,hv,Fb]
 dsimp only
 rw [AA (by rfl),h81]
 rfl
theorem cu: ∀ u:Nat,fv (Lib.decDigits u) 0=u/\(∀ c∈Lib.decDigits u,Uo c)/\Lib.decDigits u≠[]:=fun u=>by
 induction u using Nat.strongRecOn with
 | ind u ih=>
  have hd: ∀ k,k<10->(UInt8.ofNat (48+k)).toNat=48+k:=fun k hk=>by simp [UInt8.toNat_ofNat];omega
  rw [Lib.decDigits]
  by_cases h:u<10
  ·rw [dif_pos h]
   refine ⟨?_,fun c hc=>?_,by simp⟩
   ·show 0*10+dv (UInt8.ofNat (48+u))=u
    unfold dv;rw [hd u h];omega
   ·rw [List.mem_singleton] at hc;subst hc;unfold Uo;rw [hd u h];omega
  ·rw [dif_neg h]
   obtain ⟨h1,h2,h3⟩:=ih (u / 10) (by omega)
   refine ⟨?_,fun c hc=>?_,by simp⟩
   ·rw [Ta,h1]
    show ((u / 10:Nat):Int)*10+dv (UInt8.ofNat (48+u % 10))=u
    unfold dv;rw [hd _ (by omega)];omega
   ·rcases List.mem_append.1 hc with hc|hc
    ·exact h2 c hc
    ·rw [List.mem_singleton] at hc;subst hc;unfold Uo;rw [hd _ (by omega)];omega
end Go.Proofs.Tryz
namespace Go.Proofs.Tryz
open Go Go.En
def LX:List UInt8->List (Nat×Dop.Tok)->List UInt8->Prop
 | r,[],r'=>r=r'
 | r,(n,t)::l,r'=>Hz.k r=Ev (I n) true/\Tm.k (r.drop n)=Ev t 0/\n+t.text.length<=r.length/\n<r.length/\LX (r.drop (n+t.text.length)) l r'
theorem LX.app: ∀ {l m:List (Nat×Dop.Tok)} {r r1 r2:List UInt8},LX r l r1->LX r1 m r2->LX r (l++m) r2
 | [],m,r,r1,r2,h,k=>by cases h;exact k
 | (n,t)::l,m,r,r1,r2,h,k=>⟨h.1,h.2.1,h.2.2.1,h.2.2.2.1,LX.app h.2.2.2.2 k⟩
noncomputable def iK:Nat->List UInt8->Option (List (Nat×Dop.Tok)×List UInt8)
 | 0,r=>some ([],r)
 | k+1,r=>match Hz.k r with
  | some ((n,true,()),())=>match n with
   | .ofNat n=>match Tm.k (r.drop n) with
    | some ((t,e,()),())=>match decide (e=0),Nat.ble (n+t.text.length) r.length,Nat.blt n r.length with
     | true,true,true=>match iK k (r.drop (n+t.text.length)) with
      | some (l,r')=>some ((n,t)::l,r')
      | none=>none
     | _,_,_=>none
    | none=>none
   | _=>none
  | _=>none
theorem QC: ∀ {k:Nat} {r r':List UInt8} {l:List (Nat×Dop.Tok)},iK k r=some (l,r')->LX r l r'
 | 0,r,r',l,h=>by cases h;rfl
 | k+1,r,r',l,h=>by
  unfold iK at h
  split at h
  ·rename_i n h1
   split at h
   ·rename_i n
    split at h
    ·rename_i t e h2
     split at h
     ·rename_i e1 e2 e3
      split at h
      ·rename_i l2 r2 h3
       cases h
       have e0:=of_decide_eq_true e1
       subst e0
       exact ⟨h1,h2,Nat.le_of_ble_eq_true e2,Nat.le_of_ble_eq_true e3,QC h3⟩
      ·cases h
     ·cases h
    ·cases h
   ·cases h
  ·cases h
def I1:List (Nat×Dop.Tok)->Nat
 | []=>0
 | (n,t)::l=>n+t.text.length+I1 l
def pl (a:Nat):List (Nat×Dop.Tok)->List Dop.Tok
 | []=>[]
 | (n,t)::l=>.mk t.kind t.text t.n (I (a+n))::pl (a+n+t.text.length) l
theorem WZ {s:List UInt8} (hs:s.length<=32768): ∀ (l:List (Nat×Dop.Tok)) (r r':List UInt8) (a N:Nat) (out:List Dop.Tok),s.drop a=r->a<=s.length->LX r l r'->out.length+l.length<8192->
  (Bp m19.kS (N+l.length)).1 s out (I a)=(Bp m19.kS N).1 s (out++pl a l) (I (a+I1 l))/\s.drop (a+I1 l)=r'/\a+I1 l<=s.length
 | [],r,r',a,N,out,h,ha,hl,_=>by
  cases hl
  refine ⟨?_,h,ha⟩
  rw [show pl a []=[] from rfl,List.append_nil];rfl
 | (n,t)::l,r,r',a,N,out,h,ha,⟨h1,h2,h3,h4,h5⟩,ho=>by
  have hr:r.length=s.length -a:=by rw [<-h,List.length_drop]
  have hd: ∀ k,s.drop (a+k)=r.drop k:=fun k=>by rw [<-h,List.drop_drop]
  obtain ⟨e1,e2,e3⟩:=WZ hs l (r.drop (n+t.text.length)) r' (a+(n+t.text.length)) N (out++[.mk t.kind t.text t.n (I (a+n))]) (hd _) (by omega) h5 (by simp only [List.length_append,List.length_cons,List.length_nil] at ho ⊢; omega)
  refine ⟨?_,by rw [show I1 ((n,t)::l)=n+t.text.length+I1 l from rfl,<- Nat.add_assoc];exact e2,by rw [show I1 ((n,t)::l)=n+t.text.length+I1 l from rfl,<- Nat.add_assoc];exact e3⟩
  rw [show pl a ((n,t)::l)=.mk t.kind t.text t.n (I (a+n))::pl (a+n+t.text.length) l from rfl,show I1 ((n,t)::l)=n+t.text.length+I1 l from rfl]
  rw [List.append_assoc,List.singleton_append,show a+(n+t.text.length)=a+n+t.text.length by omega] at e1
  rw [show a+(n+t.text.length+I1 l)=a+n+t.text.length+I1 l by omega,<- e1]
  show LL.kB (Bp m19.kS (N+l.length)) s out (I a)=_
  unfold LL.kB
  dsimp only
  have hI:(I a:Int)+I n=I (a+n):=by simp only [I];omega
  have hb:0<=I a/\I a<=I s.length/\I s.length<=I s.length:=by simp only [I];omega
  have hb2:0<=I (a+n)/\I (a+n)<=I s.length/\I s.length<=I s.length:=by simp only [I];omega
  rw [show List.take (I s.length).toNat s=s from List.take_length,AL (decide_eq_true hb),show (I a).toNat=a from rfl,h,h1,Fb]
  dsimp only
  rw [hI,AL (BD.2 (by simp only [I];omega)),AA (b:=!true) rfl,AA (decide_eq_false (by simp only [I];omega)),AL (decide_eq_true hb2),show (I (a+n)).toNat=a+n from rfl,hd,h2,Fb]
  dsimp only
  rw [AA (by rfl),AA (decide_eq_false (by simp only [I,List.length_cons] at ho ⊢; omega)),AL (by show room 40 _=true;unfold room;refine decide_eq_true ?_;simp only [List.length_cons,List.length_nil] at ho ⊢; omega),AL (BD.2 (by simp only [I];omega))]
  rw [show (I (a+n):Int)+I t.text.length=I (a+n+t.text.length) by simp only [I];omega]
theorem cS {s:List UInt8} {l:List (Nat×Dop.Tok)} (hs:s.length<=32768) (h:LX s l []) (hl:l.length<8192):m19.k s=HJ (pl 0 l++[.mk 0 [] 0 (I (I1 l))]) 0 0:=by
 obtain ⟨e1,e2,e3⟩:=WZ hs l s [] 0 (1000000 -l.length) [] rfl (by omega) h (by simpa using hl)
 rw [show 1000000 -l.length+l.length=1000000 by omega,Nat.zero_add,List.nil_append] at e1
 rw [Nat.zero_add] at e2 e3
 have ht:I1 l=s.length:=by have:=congrArg List.length e2;rw [List.length_drop,List.length_nil] at this;omega
 unfold m19.k m19.k0
 rw [AA (decide_eq_false (by simp only [I];omega))]
 refine Eq.trans e1 ?_
 obtain ⟨M,hM⟩: ∃ M,1000000 -l.length=M+1:=⟨1000000 -l.length -1,by omega⟩
 rw [hM]
 show LL.kB (Bp m19.kS M) s (pl 0 l) (I (I1 l))=_
 have hp:(pl 0 l).length<8192:=by
  have: ∀ (l:List (Nat×Dop.Tok)) (a:Nat),(pl a l).length=l.length:=fun l=>by
   induction l with
   | nil=>intro a;rfl
   | cons x l ih=>intro a;show (pl _ l).length+1=_;rw [ih];rfl
  rw [this];exact hl
 unfold LL.kB
 dsimp only
 rw [show List.take (I s.length).toNat s=s from List.take_length,AL (decide_eq_true (by simp only [I];omega)),show (I (I1 l)).toNat=I1 l from rfl,e2,show Hz.k []=Ev 0 true by kernel_rfl,Fb]
 dsimp only
 rw [Int.add_zero,AL (BD.2 (by simp only [I];omega)),AA (b:=!true) rfl,AN (decide_eq_true (by rw [ht])),AL (by show room 40 _=true;unfold room;refine decide_eq_true ?_;simp only [List.length_cons,List.length_nil];omega)]
theorem kW: ∀ c:Fin 256,48<=c.val->c.val<=57->Lib.indexByte ([32,9,10,13]:List UInt8) (UInt8.ofNat c)= -1:=by decide+kernel
theorem gO {c:UInt8} (h:Uo c) (t:List UInt8):Hz.k (c::t)=Ev 0 true:=by
 have h1:=kW ⟨c.toNat,c.toNat_lt⟩ h.1 h.2
 rw [show UInt8.ofNat (⟨c.toNat,c.toNat_lt⟩:Fin 256).val=c from UInt8.ofNat_toNat] at h1
 have hne:(c == 47)=false:=by
  rw [beq_eq_false_iff_ne];intro e;subst e;exact absurd h.1 (by decide)
 have hne':((47:UInt8) == c)=false:=by rw [beq_eq_false_iff_ne];intro e;subst e;exact absurd h.1 (by decide)
 unfold Hz.k Hz.k0
 show Oz.kB (Hz.kL 999999) (c::t) 0=_
 unfold Oz.kB
 dsimp only
 have hl:(0:Int)<I (c::t).length:=by simp only [I,List.length_cons];omega
 have hd:List.drop (Int.toNat 0) (List.take (I (c::t).length).toNat (c::t))=c::t:=by
  rw [show (I (c::t).length).toNat=(c::t).length from rfl,List.take_length];rfl
 have hs:(DC (c::t) 0).toNat.toUInt8=c:=by
  show ((c.toNat:Int)).toNat.toUInt8=c
  rw [Int.toNat_natCast];exact UInt8.ofNat_toNat
 rw [AN (decide_eq_true hl),AL (decide_eq_true (by omega)),AL (decide_eq_true (by omega)),AL rfl,hs,h1,AA (by rfl),AL rfl,hd]
 rw [show Lib.hasPrefix (c::t) [47,47]=false by simp [Lib.hasPrefix,List.isPrefixOf,hne'],AA rfl,AL rfl,show Lib.hasPrefix (c::t) [47,42]=false by simp [Lib.hasPrefix,List.isPrefixOf,hne'],AA rfl]
end Go.Proofs.Tryz
set_option maxRecDepth 10000000
namespace Go.En
theorem Z6 {S:At} {P:Program} {f bn:Nat} {sp rs:Spec} {flat:Bool} {m:sp.D S->Option (rs.D S)} {g:sp.D S->rs.D S} (h:B2.Holds P ⟨f,bn,sp,rs,flat,.opt m⟩) (hm: ∀ x,m x=some (g x)):B2.Holds P ⟨f,bn,sp,rs,flat,.I1 g⟩:=
 ⟨h.Bu,h.bound,h.flat,fun x y hxy=>h.calls x y (by show m x=some y;rw [hm];exact congrArg some hxy)⟩
end Go.En
namespace Go.Proofs
open Go Go.En
theorem Tryz.Wj.run:Tryz.Ya.k=some ((true,()),()):=by kernel_rfl
def Tryz.Wj.c:B2 En.Dop.D4:=⟨7,0,⟨[],[]⟩,⟨[.fd .bool],[]⟩,true,.I1 fun _=>((true,()),())⟩
theorem Tryz.Wj.holds:Tryz.Wj.c.Holds Tryz.prog:=Z6 Tryz.Ya.Kh fun _=>Tryz.Wj.run
end Go.Proofs
set_option maxRecDepth 100000
set_option maxHeartbeats 4000000
namespace Go.Proofs.Tryz
open Go Go.En
abbrev m15.q4:Cut:=⟨[[0,0,0,0,1,0,1,1,1],[0,1,0,0,1,0,1,1,1],[2,0,0,1,0,1,1,1],[1,0],[0,1,1,1,1]],[3,32,33,34],0,⟨[.fd (.int .i64),.own 1 9,.fd (.int .i64),.fd (.int .i64)],[]⟩⟩
def m15.p:Ak:=⟨[(4,m15.q4)],0,⟨[.fd (.int .u8)],[]⟩,⟨[.fd .bool],[]⟩,true,[],[]⟩
theorem m15.ok:AH Dop.D4 prog 3 m15.p=true:=by kernel_rfl
end Go.Proofs.Tryz
