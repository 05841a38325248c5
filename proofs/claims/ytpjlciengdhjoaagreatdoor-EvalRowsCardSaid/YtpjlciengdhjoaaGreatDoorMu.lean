/- The evaluator by rules: what an expression or a statement does in a run that has not ended. -/
import Derived.Test.YtpjlciengdhjoaaGreatDoorTwE
import Derived.IntWalk
import Derived.Lib.ItoaMem
set_option maxHeartbeats 1000000
namespace Go.Proofs.Tryz
open Go Go.En
theorem AA {α:Type} {b:Bool} {x:Option α} (h:b=true):ck b x=x:=by rw [h];rfl
theorem AP {α:Type} {b:Bool} {x y:α} (h:b=true):ci b x y=x:=by rw [h];rfl
theorem AB {α:Type} {b:Bool} {x y:α} (h:b=false):ci b x y=y:=by rw [h];rfl
theorem AM {α β:Type} {a:α} {k:(α×Unit)×Unit->Option β}:Option.bind (Aw a) k=k ((a,()),()):=rfl
theorem AO {α δ β:Type} {a:α} {x:δ} {k:(α×Unit)×(δ×Unit)->Option β}:Option.bind (B7 a x) k=k ((a,()),(x,())):=rfl
theorem DE {α δ β:Type} {a:α} {x:δ} {k:(α×δ×Unit)×Unit->Option β}:Option.bind (D8 a x) k=k ((a,x,()),()):=rfl
theorem CI {α δ ε β:Type} {a:α} {x:δ} {y:ε} {k:(α×Unit)×(δ×ε×Unit)->Option β}:Option.bind (Ar a x y) k=k ((a,()),(x,y,())):=rfl
abbrev st (p:Dop.Hm) (mem:List Int) (sp:Int) (inp out:List Int) (fu:Int):ER:=(p,mem,sp,inp,out,fu,0,0,0,(),())
def nd (p:Dop.Hm) (i:Int):Dop.AV:=List.getD p.nodes i.toNat Dop.d5
abbrev Z7 (p:Dop.Hm) (i:Int):Prop:=0<=i/\i<I p.nodes.length
def EX (d:Nat) (i:Int) (s:ER) (f:EF) (v:Int) (s':ER) (f':EF):Prop:= ∀ n,BH.kr (B8.kR (n+d)) i s f=Ar v s' f'
def ST (d:Nat) (i:Int) (s:ER) (f:EF) (h:Int) (s':ER) (f':EF):Prop:= ∀ n,DA.kr (B8.kR (n+d)) i s f=Ar h s' f'
theorem EX.mono {d e:Nat} {i v:Int} {s s':ER} {f f':EF} (h:EX d i s f v s' f') (hd:d<=e):EX e i s f v s' f':=fun n=>by
 have:=h (n+(e -d));rwa [show n+(e -d)+d=n+e by omega] at this
theorem Z8 (n:Nat):B8.kR (n+1)=B8.kS (B8.kR n):=rfl
section
variable {p:Dop.Hm} {mem:List Int} {sp:Int} {inp out:List Int} {fu:Int} {fr:EF} {i:Int} {d:Nat}
theorem aH (h0:0<fu) (h1:fu<=1000000):FH.k (st p mem sp inp out fu)=B7 true (st p mem sp inp out (fu -1)):=by
 unfold FH.k
 rw [AB (by rfl),AB (ce (show ¬ fu=0 by omega)),AA (AN.2 (show -9223372036854775808<=fu -1/\fu -1<=9223372036854775807 by omega))]
end
theorem VF {α:Type} [NN α] (f:α->α):Bd f 1000000=f (Bd f 999999):=rfl
theorem R3 {α:Type} [NN α] (f:α->α) (n:Nat):Bd f (n+1)=f (Bd f n):=rfl
section
variable (r:B8.T) (i:Int) (x:Dop.AV) (s:ER) (f:EF)
theorem YJ:BH.kr (B8.kS r) i s f=BH.kf r i s f:=rfl
theorem j8:HH.kr (B8.kS r) x s f=HH.kf r x s f:=rfl
theorem c7:DA.kr (B8.kS r) i s f=DA.kf r i s f:=rfl
theorem c8:BW.kr (B8.kS r) x s f=BW.kf r x s f:=rfl
theorem kF (l:List Int):m64.kr (B8.kS r) i l s=m64.kf r i l s:=rfl
theorem nb {p:Dop.Hm} {mem:List Int} {sp:Int} {inp out:List Int} {fu:Int} (h0:0<fu) (h1:fu<=1000000) (hi:Z7 p i) (hk:5<(nd p i).kind):
  BH.kf r i (st p mem sp inp out fu) f=Ik.kB r (BH.kL r 999999) (nd p i).kind (st p mem sp inp out (fu -1)) f (nd p i):=by
 unfold BH.kf BH.k0
 rw [aH h0 h1,AO]
 dsimp only
 rw [show List.getD (ER.p (st p mem sp inp out (fu -1))).nodes i.toNat Dop.d5=nd p i from rfl,AB (by rfl),AA (bv hi),AB (ce (by omega)),AB (ce (by omega)),AB (ce (by omega)),AB (ce (by omega)),AB (ce (by omega))]
 unfold BH.kL
 rw [VF]
 rfl
end
section
variable {p:Dop.Hm} {mem:List Int} {sp:Int} {inp out:List Int} {fu:Int} {fr:EF} {i:Int} {d:Nat}
theorem EX.num (h0:0<fu) (h1:fu<=1000000) (hi:Z7 p i) (hk:(nd p i).kind=1):EX 1 i (st p mem sp inp out fu) fr (nd p i).n (st p mem sp inp out (fu -1)) fr:=fun n=>by
 rw [Z8,YJ]
 unfold BH.kf BH.k0
 rw [aH h0 h1,AO]
 dsimp only
 unfold nd at hk ⊢
 rw [AB (by rfl),AA (bv hi),AP (bv hk)]
variable {v w:Int} {m1:List Int} {sp1:Int} {i1 o1:List Int} {u1:Int} {f1:EF} {m2:List Int} {sp2:Int} {i2 o2:List Int} {u2:Int} {f2 fr':EF}
variable {h:Int} {s s' s1 s2:ER} {x:Dop.AV} {l:List Int} {j c:Nat}
def DO (d:Nat) (x:Dop.AV) (s:ER) (f:EF) (h:Int) (s':ER) (f':EF):Prop:= ∀ n,BW.kr (B8.kR (n+d)) x s f=Ar h s' f'
theorem ST.of (h0:0<fu) (h1:fu<=1000000) (hi:Z7 p i) (hs:EF.OG fr=0) (hd:DO d (nd p i) (st p mem sp inp out (fu -1)) fr h (st p m1 sp1 i1 o1 u1) f1):ST (d+1) i (st p mem sp inp out fu) fr h (st p m1 sp1 i1 o1 u1) f1:=fun n=>by
 rw [show n+(d+1)=n+d+1 from rfl,Z8,c7]
 unfold DA.kf
 rw [AB (by rw [hs];rfl),AP (bv hs),aH h0 h1,AO]
 dsimp only
 rw [show List.getD (ER.p (st p mem sp inp out (fu -1))).nodes i.toNat Dop.d5=nd p i from rfl,AB (by rfl),AA (bv hi),hd n]
 rfl
theorem jw (r:B8.T) (hk:34<x.kind):BW.kf r x s fr=HF.kB r (BW.kL r 999999) x.kind s fr x:=by
 unfold BW.kf BW.k0
 dsimp only
 rw [AB (ce (by omega)),AB (ce (by omega)),AB (ce (by omega)),AB (ce (by omega)),AB (ce (by omega))]
 rfl
theorem DO.E6 (hk:x.kind=37) (ha:0<=x.a) (he:EX d x.a s fr v s' f1):DO (d+1) x s fr 3 s' (EF.Zm f1 v):=fun n=>by
 rw [show n+(d+1)=n+d+1 from rfl,Z8,c8,jw _ (by omega)]
 unfold HF.kB
 dsimp only
 rw [AB (ce (by omega)),AB (ce (by omega)),AP (bv hk),AP (bv ha),he n]
 rfl
def BL (d c:Nat) (l:List Int) (j:Nat) (s:ER) (f:EF) (h:Int) (s':ER) (f':EF):Prop:= ∀ n N,(Bd (BW.kS (B8.kR (n+d))) (N+c)).2.2.2.1 l (I l.length) (I j) s f=Ar h s' f'
theorem BL.exit (hj:j<l.length) (hd:ST d (l.getD j 0) s fr h s1 f1) (hh:h≠0):BL d (c+1) l j s fr h s1 f1:=fun n N=>by
 show Ij.kB (B8.kR (n+d)) (Bd (BW.kS (B8.kR (n+d))) (N+c)) l (I l.length) (I j) s fr=_
 unfold Ij.kB
 rw [AP (bv (by simp only [I];omega)),AA (bv (by simp only [I];omega)),AA (bv (by simp only [I];omega)),show (I j).toNat=j from rfl,hd n,CI]
 dsimp only
 rw [AP (by rw [ce hh];rfl)]
theorem DO.block (hk:x.kind=43) (hl:DH.k (ER.p s) x.a=Aw l) (hb:BL d c l 0 s fr h s' f1) (hc:c<=999998):DO (d+1) x s fr h s' f1:=fun n=>by
 rw [show n+(d+1)=n+d+1 from rfl,Z8,c8,jw _ (by omega)]
 unfold HF.kB
 dsimp only
 rw [AB (ce (by omega)),AB (ce (by omega)),AB (ce (by omega)),AB (ce (by omega)),AB (ce (by omega)),AB (ce (by omega)),AB (ce (by omega))]
 show Ii.kB (B8.kR (n+d)) (Bd (BW.kS (B8.kR (n+d))) 999998) x.kind s fr x=_
 unfold Ii.kB
 rw [AB (ce (by omega)),AP (bv hk),hl,AM]
 have:=hb n (999998 -c)
 rw [show 999998 -c+c=999998 by omega] at this
 exact this
def CL (d:Nat) (k:Int) (args:List Int) (s:ER) (v:Int) (s':ER):Prop:= ∀ n,m64.kr (B8.kR (n+d)) k args s=B7 v s'
abbrev jk (g:Dop.Ey) (args:List Int) (b:Int):EF:=(g,List.take (List.replicate g.A7.toNat (0:Int)).length args++List.drop args.length (List.replicate g.A7.toNat (0:Int)),b,0,[],0,0,())
theorem CL.of {k:Int} {args:List Int} {g:Dop.Ey} (hk:0<=k/\k<I p.funcs.length) (hg:List.getD p.funcs k.toNat Dop.d11=g) (hm:sp+g.frame<=I mem.length) (hr:0<=g.A7/\g.A7<=1000000) (hs:0<=sp/\sp<=1000000) (hf:0<=g.frame/\g.frame<=1000000)
  (hd:ST d g.body (st p mem (sp+g.frame) inp out fu) (jk g args sp) h (st p m1 (sp+g.frame) i1 o1 u1) f1) (hh:h≠4):CL (d+1) k args (st p mem sp inp out fu) (EF.told f1) (st p m1 sp i1 o1 u1):=fun n=>by
 rw [show n+(d+1)=n+d+1 from rfl,Z8,kF]
 unfold m64.kf m64.k0
 dsimp only
 rw [show List.getD (ER.p (st p mem sp inp out fu)).funcs k.toNat Dop.d11=g from hg,AB (show (!decide ((st p mem sp inp out fu).end_=0))=false from rfl),AB (ce (by omega)),AA (bv hk),AA (AN.2 (show -9223372036854775808<=sp+g.frame/\sp+g.frame<=9223372036854775807 by omega)),AB (ce (show ¬ I mem.length<sp+g.frame by omega)),
  AA (bv (show 0<=g.A7/\g.A7<=g.A7/\g.A7*(I 8+1)<=140737488355328 by simp only [I];omega)),AA (AN.2 (show -9223372036854775808<=sp+g.frame/\sp+g.frame<=9223372036854775807 by omega))]
 show Lg.kB (B8.kR (n+d)) _ (st p mem (sp+g.frame) inp out fu) g (jk g args sp)=_
 unfold Lg.kB
 rw [hd n,CI]
 dsimp only
 rw [AB (ce hh),AA (AN.2 (show -9223372036854775808<=sp+g.frame -g.frame/\sp+g.frame -g.frame<=9223372036854775807 by omega))]
 show B7 _ (st p m1 (sp+g.frame -g.frame) i1 o1 u1)=_
 rw [show sp+g.frame -g.frame=sp by omega]
theorem n9 {k:Int} (hg:p.globals=[]) (hm:Sc.k p ([109,97,105,110]:List UInt8)=Aw k) (hf:0<=fu/\fu<=1000000) (hc:CL d k [] (st p (List.replicate 4096 0) p.top inp [] fu) v (st p m1 sp1 i1 o1 u1)) (hd:d<=1000000000):He.k p inp fu=Aw (Dop.UO.mk 1 v o1):=by
 unfold He.k He.k0
 rw [AA (by decide),hg,if_neg (show ¬ fu<0 by omega),if_neg (show ¬ 1000000<fu by omega)]
 show Ld.kB (He.kL 999999) [] (I 0) 0 p 0 0 [] (st p (List.replicate 4096 0) p.top inp [] fu)=_
 unfold Ld.kB
 dsimp only
 rw [AB (by rfl),hm,AM]
 have:=hc (1000000000 -d)
 rw [show 1000000000 -d+d=1000000000 by omega] at this
 show Option.bind (m64.kr (B8.kR 1000000000) k [] (st p (List.replicate 4096 0) p.top inp [] fu)) _=_
 rw [this]
 rfl
end
abbrev Gr (a:Int):Prop:= -2147483648<=a/\a<=2147483647
theorem ES {a:Int} (h:Gr a):IntKind.i32.wrap (IntKind.u32.wrap a)=a:=by rw [IntKind.wrap_i32,IntKind.wrap_u32];omega
theorem dd (a:Int):Gr (IntKind.i32.wrap (IntKind.u32.wrap a)):=by rw [IntKind.wrap_i32,IntKind.wrap_u32];omega
theorem OW (a:Int):Dz.k a=Aw (IntKind.i32.wrap (IntKind.u32.wrap a)):=by
 have:=dd a
 unfold Dz.k
 exact AA (AN.2 (by omega))
theorem ka {a b:Int} (ha:Gr a) (hb:Gr b):An.k 15 a b=D8 (if a=b then 0 else 1) true:=by
 unfold An.k An.k0
 rw [OW,OW,AM,AM]
 dsimp only
 rw [ES ha,ES hb]
 show Option.bind (GD.k (!decide (a=b))) _=_
 by_cases h:a=b
 ·rw [bv h,if_pos h];rfl
 ·rw [ce h,if_neg h];rfl
end Go.Proofs.Tryz
namespace Go.Proofs.Tryz
open Go Go.En
theorem Ue (l:List Int) (hl:l.length<1000000): ∀ (k j N:Nat),j+k=l.length->(Bd I5.kS (N+k+1)).1 l l (I l.length) (I j)=Aw true
 | 0,j,N,h=>by
  show Lf.kB _ l l (I l.length) (I j)=_
  unfold Lf.kB
  rw [AB (ce (by simp only [I];omega))]
 | k+1,j,N,h=>by
  show Lf.kB (Bd I5.kS (N+k+1)) l l (I l.length) (I j)=_
  unfold Lf.kB
  rw [AP (bv (by simp only [I];omega)),AA (bv (by simp only [I];omega)),AA (bv (by simp only [I];omega)),AB (by simp),AA (AN.2 (by simp only [I];omega))]
  exact Ue l hl k (j+1) N (by omega)
theorem same (a b:Int) (l:List Int) (hl:l.length<1000000):Ti.k (.mk a b l) (.mk a b l)=Aw true:=by
 unfold Ti.k
 dsimp only
 rw [AP (bv rfl),AP (bv rfl)]
 unfold I5.k I5.k0
 rw [AB (by simp)]
 have:=Ue l hl l.length 0 (999999 -l.length) (by omega)
 rw [show 999999 -l.length+l.length+1=1000000 by omega] at this
 exact (congrArg (fun z=>Option.bind z _) this).trans rfl
end Go.Proofs.Tryz
set_option maxRecDepth 10000000
namespace Go.En
theorem aP {S:As} {P:Program} {f bn:Nat} {sp rs:Spec} {flat:Bool} {m:sp.D S->Option (rs.D S)} {g:sp.D S->rs.D S} (h:BU.Holds P ⟨f,bn,sp,rs,flat,.opt m⟩) (hm: ∀ x,m x=some (g x)):BU.Holds P ⟨f,bn,sp,rs,flat,.Jl g⟩:=
 ⟨h.B9,h.bound,h.flat,fun x y hxy=>h.calls x y (by show m x=some y;rw [hm];exact congrArg some hxy)⟩
end Go.En
namespace Go.Proofs
open Go Go.En
theorem Tryz.Sr.run:Tryz.Yf.k=some ((true,()),()):=by kernel_rfl
def Tryz.Sr.c:BU En.Dop.D4:=⟨4,0,⟨[],[]⟩,⟨[.fd .bool],[]⟩,true,.Jl fun _=>((true,()),())⟩
theorem Tryz.Sr.holds:Tryz.Sr.c.Holds Tryz.prog:=aP Tryz.Yf.Kh fun _=>Tryz.Sr.run
end Go.Proofs
namespace Go.Proofs.Tryz
open Go Go.En
def P5 (c:Nat):Bool:=(97<=c && c<=122) || (65<=c && c<=90) || c == 95
def Oa (c:Nat):Bool:=48<=c && c<=57
theorem kH: ∀ c:Fin 256,Tk.k (I c)=Aw (P5 c):=by decide+kernel
theorem jS: ∀ c:Fin 256,Tl.k (I c)=Aw (Oa c):=by decide+kernel
theorem YO (c:UInt8):Tk.k ((c.toNat:Nat):Int)=Aw (P5 c.toNat):=kH ⟨c.toNat,c.toNat_lt⟩
theorem XS (c:UInt8):Tl.k ((c.toNat:Nat):Int)=Aw (Oa c.toNat):=jS ⟨c.toNat,c.toNat_lt⟩
abbrev Wu (c:UInt8):Bool:=P5 c.toNat || Oa c.toNat
theorem jM (s:List UInt8) (j:Nat):Cz s (I j)=(((s.getD j 0).toNat:Nat):Int):=rfl
theorem SE (s:List UInt8) (k:Nat) (hk:k<=s.length) (hs:s.length<1000000) (ha: ∀ j,j<k->Wu (s.getD j 0)=true) (he:k=s.length\/Wu (s.getD k 0)=false):
  ∀ (m j N:Nat),j+m=k->(Bd Il.kS (N+m+1)).1 s (I j)=Aw (I k)
 | 0,j,N,h=>by
  obtain rfl:j=k:=by omega
  show Lh.kB (Bd Il.kS N) s (I j)=_
  unfold Lh.kB
  by_cases hl:j=s.length
  ·rw [AB (ce (by simp only [I];omega))]
  ·have hj:0<=I j/\I j<I s.length:=by simp only [I];omega
   have h2:=he.resolve_left hl
   simp only [Bool.or_eq_false_iff] at h2
   rw [AP (bv hj.2),AA (bv hj),jM,YO,AM]
   dsimp only
   rw [h2.1,AB rfl,AA (bv hj),XS,AM]
   dsimp only
   rw [h2.2,AB rfl]
 | m+1,j,N,h=>by
  have hj:0<=I j/\I j<I s.length:=by simp only [I];omega
  have h2:(P5 (s.getD j 0).toNat || Oa (s.getD j 0).toNat)=true:=ha j (by omega)
  have hi:=SE s k hk hs ha he m (j+1) N (by omega)
  show Lh.kB (Bd Il.kS (N+m+1)) s (I j)=_
  unfold Lh.kB
  rw [AP (bv hj.2),AA (bv hj),jM,YO,AM]
  dsimp only
  by_cases h3:P5 (s.getD j 0).toNat=true
  ·rw [h3,AP rfl,AA (AN.2 (by simp only [I];omega))];exact hi
  ·rw [Bool.not_eq_true] at h3
   rw [h3,AB rfl,AA (bv hj),XS,AM]
   dsimp only
   rw [h3,Bool.false_or] at h2
   rw [h2,AP rfl,AA (AN.2 (by simp only [I];omega))];exact hi
theorem lD (s:List UInt8) (k:Nat) (hk:k<=s.length) (hs:s.length<1000000) (ha: ∀ j,j<k->Wu (s.getD j 0)=true) (he:k=s.length\/Wu (s.getD k 0)=false):Il.k s=Aw (I k):=by
 have:=SE s k hk hs ha he k 0 (999999 -k) (by omega)
 rw [show 999999 -k+k+1=1000000 by omega] at this
 exact this
abbrev Uq (c:UInt8):Prop:=48<=c.toNat/\c.toNat<=57
def dv (c:UInt8):Int:=(c.toNat:Int) -48
def fv (l:List UInt8) (n:Int):Int:=l.foldl (fun n c=>n*10+dv c) n
theorem eX: ∀ c:Fin 256,48<=c.val->c.val<=57->Lib.toLowerA [UInt8.ofNat c]=[UInt8.ofNat c]/\Lib.indexByte ([48,49,50,51,52,53,54,55,56,57,97,98,99,100,101,102]:List UInt8) (Cz [UInt8.ofNat c] 0).toNat.toUInt8=(c.val:Int) -48/\Yy [UInt8.ofNat c]=true:=by decide+kernel
theorem eW {c:UInt8} (h:Uq c):Lib.toLowerA [c]=[c]/\Lib.indexByte ([48,49,50,51,52,53,54,55,56,57,97,98,99,100,101,102]:List UInt8) (Cz [c] 0).toNat.toUInt8=dv c/\Yy [c]=true:=by
 have:=eX ⟨c.toNat,c.toNat_lt⟩ h.1 h.2
 rwa [show UInt8.ofNat (⟨c.toNat,c.toNat_lt⟩:Fin 256).val=c from UInt8.ofNat_toNat] at this
theorem Uo: ∀ (l:List UInt8) (n:Int),0<=n->(∀ c∈l,Uq c)->n<=fv l n
 | [],n,_,_=>Int.le_refl n
 | c::l,n,h,hd=>by
  have h1:=hd c List.mem_cons_self
  have h2:0<=dv c:=by unfold dv;omega
  have:=Uo l (n*10+dv c) (by omega) fun x hx=>hd x (mt _ hx)
  show n<=fv l (n*10+dv c)
  omega
theorem TZ (l m:List UInt8) (n:Int):fv (l++m) n=fv m (fv l n):=List.foldl_append
theorem SY (s:List UInt8) (hs:s.length<1000000) (h0:s≠[]) (hd: ∀ c∈s,Uq c) (hv:fv s 0<=4294967295):
  ∀ (m j N:Nat),j+m=s.length->(Bd Hl.kS (N+m+1)).1 s 10 (fv (s.take j) 0) (I s.length) (I j)=D8 (fv s 0) true
 | 0,j,N,h=>by
  obtain rfl:j=s.length:=by omega
  show Li.kB (Bd Hl.kS N) s 10 _ (I s.length) (I s.length)=_
  unfold Li.kB
  dsimp only
  rw [AB (ce (by omega)),List.take_length,ce h0]
  rfl
 | m+1,j,N,h=>by
  have hj:j<s.length:=by omega
  obtain ⟨c,hc⟩: ∃ c,s[j]?=some c:=⟨s[j],co hj⟩
  have hcs:=gc hc
  have ht:List.drop (I j).toNat (List.take (I j+1).toNat s)=[c]:=by
   rw [show (I j+1).toNat=j+1 by simp only [I];omega,show (I j).toNat=j from rfl,List.take_add_one,hc,List.drop_append]
   simp [List.length_take,Nat.min_eq_left (Nat.le_of_lt hj)]
  have hk:fv (s.take (j+1)) 0=fv (s.take j) 0*10+dv c:=by rw [List.take_add_one,hc,TZ];rfl
  have hp:0<=fv (s.take j) 0:=Uo _ 0 (by omega) fun x hx=>hd x (List.mem_of_mem_take hx)
  have hle:fv (s.take (j+1)) 0<=fv s 0:=by
   have e:=TZ (s.take (j+1)) (s.drop (j+1)) 0
   rw [List.take_append_drop] at e
   rw [e]
   exact Uo _ _ (Uo _ 0 (by omega) fun x hx=>hd x (List.mem_of_mem_take hx)) fun x hx=>hd x (List.mem_of_mem_drop hx)
  have hi:=SY s hs h0 hd hv m (j+1) N (by omega)
  obtain ⟨e1,e2,e3⟩:=eW (hd c hcs)
  have hdc:0<=dv c/\dv c<=9:=by have:=hd c hcs;unfold dv;omega
  show Li.kB (Bd Hl.kS (N+m+1)) s 10 _ (I s.length) (I j)=_
  unfold Li.kB
  dsimp only
  rw [ht,e1,AP (bv (by simp only [I];omega)),AA (AN.2 (by simp only [I];omega)),AA (bv (by simp only [I];omega)),AA e3,AA (bv (show (0:Int)<=0/\0<I [c].length by simp [I])),AA rfl,e2,
   AB (ce (by omega)),AB (ce (by omega)),AA (AN.2 (by omega)),AA (AN.2 (by omega)),AB (ce (by omega)),AA (AN.2 (by simp only [I];omega)),<- hk]
  exact hi
theorem mH (s:List UInt8) (hs:s.length<1000000) (h0:s≠[]) (hd: ∀ c∈s,Uq c) (hv:fv s 0<=4294967295):(Hl.kL 1000000).1 s 10 0 (I s.length) 0=D8 (fv s 0) true:=by
 have:=SY s hs h0 hd hv s.length 0 (999999 -s.length) (by omega)
 rw [show 999999 -s.length+s.length+1=1000000 by omega] at this
 exact this
theorem kX {s t:List UInt8} (hd: ∀ c∈s,Uq c) (h0:s≠[]) {x:UInt8} (hx:¬ Uq x) (ht: ∀ c r,t=c::r->c≠x):Lib.hasPrefix (s++t) [48,x]=false:=by
 unfold Lib.hasPrefix
 match s,h0 with
 | [c],_=>
  cases t with
  | nil=>simp [List.isPrefixOf]
  | cons d r=>have:=ht d r rfl;simp [List.isPrefixOf];intro _;exact fun e=>this e.symm
 | c::d::r,_=>
  have:=hd d (by simp)
  simp [List.isPrefixOf]
  intro _ e
  exact hx (e▸this)
theorem mI {s:List UInt8} (hs:s.length<1000000) (h0:s≠[]) (hd: ∀ c∈s,Uq c) (hv:fv s 0<=4294967295):Hl.k s=D8 (fv s 0) true:=by
 have hl:0<s.length:=List.length_pos_iff.2 h0
 have hc:=hd _ (List.getLast_mem h0)
 have e:Cz s (I s.length -1)=(((s.getLast h0).toNat:Nat):Int):=by
  unfold Cz
  rw [show (I s.length -1).toNat=s.length -1 by simp only [I];omega,List.getLast_eq_getElem,lc,co (by omega)]
  rfl
 have p1:=kX (t:=[]) (x:=120) hd h0 (by decide) (fun _ _ h=>by cases h)
 have p2:=kX (t:=[]) (x:=88) hd h0 (by decide) (fun _ _ h=>by cases h)
 rw [List.append_nil] at p1 p2
 have hb:0<=I s.length -1/\I s.length -1<I s.length:=by simp only [I];omega
 unfold Hl.k Hl.k0
 dsimp only
 rw [AA (AN.2 (by simp only [I];omega)),AA (bv hb),e,AB (ce (by omega)),AA (bv hb),AB (ce (by omega)),AA rfl,p1,AB rfl,AA rfl,p2,AB rfl]
 exact mH s hs h0 hd hv
theorem bR {c:UInt8} {w t:List UInt8} {v:Int} (hl:(c::w++t).length<1000000) (hc:Uq c) (hw: ∀ x∈w,Wu x=true) (ht: ∀ d r,t=d::r->Wu d=false) (hv:Hl.k (c::w)=D8 v true):Tj.k (c::w++t)=D8 (Dop.Tok.mk 3 (c::w) v 0) 0:=by
 have hlen:(c::w++t).length=(c::w).length+t.length:=List.length_append
 have h1:Oa c.toNat=true:=by unfold Oa;simp;exact hc
 have h2:P5 c.toNat=false:=by unfold P5;simp;omega
 have hb:(0:Int)<=0/\0<I (c::w++t).length:=by rw [hlen];simp only [I,List.length_cons];omega
 have hr:Il.k (c::w++t)=Aw (I (c::w).length):=lD _ _ (by omega) hl (fun j hj=>by
  rw [lc,el hj,co hj]
  rcases List.mem_cons.1 (List.getElem_mem hj) with h|h
  ·show Wu (c::w)[j]=true
   rw [h];show (P5 c.toNat || Oa c.toNat)=true;rw [h1,Bool.or_true]
  ·exact hw _ h) (by
  cases t with
  | nil=>left;simp
  | cons d r=>
   right
   rw [lc,kw (Nat.le_refl _),Nat.sub_self]
   exact ht d r rfl)
 have htk:List.drop (Int.toNat 0) (List.take (I (c::w).length).toNat (c::w++t))=c::w:=by
  rw [show (I (c::w).length).toNat=(c::w).length from rfl,List.take_left];rfl
 have h0:Cz (c::w++t) 0=((c.toNat:Nat):Int):=rfl
 have hk:(0:Int)<=0/\0<=I (c::w).length/\I (c::w).length<=I (c::w++t).length:=by rw [hlen];simp only [I];omega
 have h81:Rn.k 3 v (I (c::w).length) (c::w++t)=PH (Dop.Tok.mk 3 (c::w) v 0) 0 (c::w++t,()):=by
  unfold Rn.k
  rw [AA (bv hk),htk]
 unfold Tj.k
 rw [AA (bv hb),h0,YO,h2,AM]
 dsimp only
 rw [AB rfl,AA (bv hb),XS,h1,AM]
 dsimp only
 rw [AP rfl,hr,AM]
 dsimp only
 rw [AA (bv hk),htk,hv,DE]
 dsimp only
 rw [AB (by rfl),h81]
 rfl
theorem cZ: ∀ u:Nat,fv (Lib.decDigits u) 0=u/\(∀ c∈Lib.decDigits u,Uq c)/\Lib.decDigits u≠[]:=fun u=>by
 induction u using Nat.strongRecOn with
 | ind u ih=>
  have hd: ∀ k,k<10->(UInt8.ofNat (48+k)).toNat=48+k:=fun k hk=>by simp [UInt8.toNat_ofNat];omega
  rw [Lib.decDigits]
  by_cases h:u<10
  ·rw [dif_pos h]
   refine ⟨?_,fun c hc=>?_,by simp⟩
   ·show 0*10+dv (UInt8.ofNat (48+u))=u
    unfold dv;rw [hd u h];omega
   ·rw [List.mem_singleton] at hc;subst hc;unfold Uq;rw [hd u h];omega
  ·rw [dif_neg h]
   obtain ⟨h1,h2,h3⟩:=ih (u / 10) (by omega)
   refine ⟨?_,fun c hc=>?_,by simp⟩
   ·rw [TZ,h1]
    show ((u / 10:Nat):Int)*10+dv (UInt8.ofNat (48+u % 10))=u
    unfold dv;rw [hd _ (by omega)];omega
   ·rcases List.mem_append.1 hc with hc|hc
    ·exact h2 c hc
    ·rw [List.mem_singleton] at hc;subst hc;unfold Uq;rw [hd _ (by omega)];omega
end Go.Proofs.Tryz
namespace Go.Proofs.Tryz
open Go Go.En
def LX:List UInt8->List (Nat×Dop.Tok)->List UInt8->Prop
 | r,[],r'=>r=r'
 | r,(n,t)::l,r'=>Gt.k r=D8 (I n) true/\Tj.k (r.drop n)=D8 t 0/\n+t.text.length<=r.length/\n<r.length/\LX (r.drop (n+t.text.length)) l r'
theorem LX.app: ∀ {l m:List (Nat×Dop.Tok)} {r r1 r2:List UInt8},LX r l r1->LX r1 m r2->LX r (l++m) r2
 | [],m,r,r1,r2,h,k=>by cases h;exact k
 | (n,t)::l,m,r,r1,r2,h,k=>⟨h.1,h.2.1,h.2.2.1,h.2.2.2.1,LX.app h.2.2.2.2 k⟩
noncomputable def kT:Nat->List UInt8->Option (List (Nat×Dop.Tok)×List UInt8)
 | 0,r=>some ([],r)
 | k+1,r=>match Gt.k r with
  | some ((n,true,()),())=>match n with
   | .ofNat n=>match Tj.k (r.drop n) with
    | some ((t,e,()),())=>match decide (e=0),Nat.ble (n+t.text.length) r.length,Nat.blt n r.length with
     | true,true,true=>match kT k (r.drop (n+t.text.length)) with
      | some (l,r')=>some ((n,t)::l,r')
      | none=>none
     | _,_,_=>none
    | none=>none
   | _=>none
  | _=>none
theorem QE: ∀ {k:Nat} {r r':List UInt8} {l:List (Nat×Dop.Tok)},kT k r=some (l,r')->LX r l r'
 | 0,r,r',l,h=>by cases h;rfl
 | k+1,r,r',l,h=>by
  unfold kT at h
  split at h
  ·rename_i n h1
   split at h
   ·rename_i n
    split at h
    ·rename_i t e h2
     split at h
     ·rename_i e1 e2 e3
      split at h
      ·rename_i l2 r2 h3
       cases h
       have e0:=ip e1
       subst e0
       exact ⟨h1,h2,dk e2,dk e3,QE h3⟩
      ·cases h
     ·cases h
    ·cases h
   ·cases h
  ·cases h
def Jl:List (Nat×Dop.Tok)->Nat
 | []=>0
 | (n,t)::l=>n+t.text.length+Jl l
def pl (a:Nat):List (Nat×Dop.Tok)->List Dop.Tok
 | []=>[]
 | (n,t)::l=>.mk t.kind t.text t.n (I (a+n))::pl (a+n+t.text.length) l
theorem Wm {s:List UInt8} (hs:s.length<=32768): ∀ (l:List (Nat×Dop.Tok)) (r r':List UInt8) (a N:Nat) (out:List Dop.Tok),s.drop a=r->a<=s.length->LX r l r'->out.length+l.length<8192->
  (Bd m19.kS (N+l.length)).1 s out (I a)=(Bd m19.kS N).1 s (out++pl a l) (I (a+Jl l))/\s.drop (a+Jl l)=r'/\a+Jl l<=s.length
 | [],r,r',a,N,out,h,ha,hl,_=>by
  cases hl
  refine ⟨?_,h,ha⟩
  rw [show pl a []=[] from rfl,List.append_nil];rfl
 | (n,t)::l,r,r',a,N,out,h,ha,⟨h1,h2,h3,h4,h5⟩,ho=>by
  have hr:r.length=s.length -a:=by rw [<-h,List.length_drop]
  have hd: ∀ k,s.drop (a+k)=r.drop k:=fun k=>by rw [<-h,List.drop_drop]
  obtain ⟨e1,e2,e3⟩:=Wm hs l (r.drop (n+t.text.length)) r' (a+(n+t.text.length)) N (out++[.mk t.kind t.text t.n (I (a+n))]) (hd _) (by omega) h5 (by simp only [List.length_append,List.length_cons,List.length_nil] at ho ⊢; omega)
  refine ⟨?_,by rw [show Jl ((n,t)::l)=n+t.text.length+Jl l from rfl,<- Nat.add_assoc];exact e2,by rw [show Jl ((n,t)::l)=n+t.text.length+Jl l from rfl,<- Nat.add_assoc];exact e3⟩
  rw [show pl a ((n,t)::l)=.mk t.kind t.text t.n (I (a+n))::pl (a+n+t.text.length) l from rfl,show Jl ((n,t)::l)=n+t.text.length+Jl l from rfl]
  rw [List.append_assoc,List.singleton_append,show a+(n+t.text.length)=a+n+t.text.length by omega] at e1
  rw [show a+(n+t.text.length+Jl l)=a+n+t.text.length+Jl l by omega,<- e1]
  show Lc.kB (Bd m19.kS (N+l.length)) s out (I a)=_
  unfold Lc.kB
  dsimp only
  have hI:(I a:Int)+I n=I (a+n):=by simp only [I];omega
  have hb:0<=I a/\I a<=I s.length/\I s.length<=I s.length:=by simp only [I];omega
  have hb2:0<=I (a+n)/\I (a+n)<=I s.length/\I s.length<=I s.length:=by simp only [I];omega
  rw [show List.take (I s.length).toNat s=s from List.take_length,AA (bv hb),show (I a).toNat=a from rfl,h,h1,DE]
  dsimp only
  rw [hI,AA (AN.2 (by simp only [I];omega)),AB (b:=!true) rfl,AB (ce (by simp only [I];omega)),AA (bv hb2),show (I (a+n)).toNat=a+n from rfl,hd,h2,DE]
  dsimp only
  rw [AB (by rfl),AB (ce (by simp only [I,List.length_cons] at ho ⊢; omega)),AA (by show room 40 _=true;unfold room;refine bv ?_;simp only [List.length_cons,List.length_nil] at ho ⊢; omega),AA (AN.2 (by simp only [I];omega))]
  rw [show (I (a+n):Int)+I t.text.length=I (a+n+t.text.length) by simp only [I];omega]
theorem cH {s:List UInt8} {l:List (Nat×Dop.Tok)} (hs:s.length<=32768) (h:LX s l []) (hl:l.length<8192):m19.k s=Kd (pl 0 l++[.mk 0 [] 0 (I (Jl l))]) 0 0:=by
 obtain ⟨e1,e2,e3⟩:=Wm hs l s [] 0 (1000000 -l.length) [] rfl (by omega) h (by simpa using hl)
 rw [show 1000000 -l.length+l.length=1000000 by omega,Nat.zero_add,List.nil_append] at e1
 rw [Nat.zero_add] at e2 e3
 have ht:Jl l=s.length:=by have:=congrArg List.length e2;rw [List.length_drop,List.length_nil] at this;omega
 unfold m19.k m19.k0
 rw [AB (ce (by simp only [I];omega))]
 refine Eq.trans e1 ?_
 obtain ⟨M,hM⟩: ∃ M,1000000 -l.length=M+1:=⟨1000000 -l.length -1,by omega⟩
 rw [hM]
 show Lc.kB (Bd m19.kS M) s (pl 0 l) (I (Jl l))=_
 have hp:(pl 0 l).length<8192:=by
  have: ∀ (l:List (Nat×Dop.Tok)) (a:Nat),(pl a l).length=l.length:=fun l=>by
   induction l with
   | nil=>intro a;rfl
   | cons x l ih=>intro a;show (pl _ l).length+1=_;rw [ih];rfl
  rw [this];exact hl
 unfold Lc.kB
 dsimp only
 rw [show List.take (I s.length).toNat s=s from List.take_length,AA (bv (by simp only [I];omega)),show (I (Jl l)).toNat=Jl l from rfl,e2,show Gt.k []=D8 0 true by kernel_rfl,DE]
 dsimp only
 rw [Int.add_zero,AA (AN.2 (by simp only [I];omega)),AB (b:=!true) rfl,AP (bv (by rw [ht])),AA (by show room 40 _=true;unfold room;refine bv ?_;simp only [List.length_cons,List.length_nil];omega)]
theorem dY: ∀ c:Fin 256,48<=c.val->c.val<=57->Lib.indexByte ([32,9,10,13]:List UInt8) (UInt8.ofNat c)= -1:=by decide+kernel
theorem gl {c:UInt8} (h:Uq c) (t:List UInt8):Gt.k (c::t)=D8 0 true:=by
 have h1:=dY ⟨c.toNat,c.toNat_lt⟩ h.1 h.2
 rw [show UInt8.ofNat (⟨c.toNat,c.toNat_lt⟩:Fin 256).val=c from UInt8.ofNat_toNat] at h1
 have hne:(c == 47)=false:=by
  rw [beq_eq_false_iff_ne];intro e;subst e;exact absurd h.1 (by decide)
 have hne':((47:UInt8) == c)=false:=by rw [beq_eq_false_iff_ne];intro e;subst e;exact absurd h.1 (by decide)
 unfold Gt.k Gt.k0
 show I4.kB (Gt.kL 999999) (c::t) 0=_
 unfold I4.kB
 dsimp only
 have hl:(0:Int)<I (c::t).length:=by simp only [I,List.length_cons];omega
 have hd:List.drop (Int.toNat 0) (List.take (I (c::t).length).toNat (c::t))=c::t:=by
  rw [show (I (c::t).length).toNat=(c::t).length from rfl,List.take_length];rfl
 have hs:(Cz (c::t) 0).toNat.toUInt8=c:=by
  show ((c.toNat:Int)).toNat.toUInt8=c
  rw [Int.toNat_natCast];exact UInt8.ofNat_toNat
 rw [AP (bv hl),AA (bv (by omega)),AA (bv (by omega)),AA rfl,hs,h1,AB (by rfl),AA rfl,hd]
 rw [show Lib.hasPrefix (c::t) [47,47]=false by simp [Lib.hasPrefix,List.isPrefixOf,hne'],AB rfl,AA rfl,show Lib.hasPrefix (c::t) [47,42]=false by simp [Lib.hasPrefix,List.isPrefixOf,hne'],AB rfl]
end Go.Proofs.Tryz
