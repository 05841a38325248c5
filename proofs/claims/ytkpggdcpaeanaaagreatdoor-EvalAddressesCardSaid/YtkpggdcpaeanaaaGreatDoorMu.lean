/- The awakes of layers 5 and 6, run by the kernel: contracts without a question. -/
import Derived.Test.YtkpggdcpaeanaaaGreatDoorTwE
import Derived.IntWalk
import Derived.Lib.ItoaMem
set_option linter.all false
set_option maxRecDepth 10000000
namespace Go.En
theorem Yo {S:Aj} {P:Program} {f bn:Nat} {sp rs:Spec} {flat:Bool} {m:sp.D S->Option (rs.D S)} {g:sp.D S->rs.D S} (h:Bp.Holds P ⟨f,bn,sp,rs,flat,.opt m⟩) (hm: ∀ x,m x=some (g x)):Bp.Holds P ⟨f,bn,sp,rs,flat,.Kw g⟩:=
 ⟨h.Bh,h.bound,h.flat,fun x y hxy=>h.calls x y (by show m x=some y;rw [hm];exact congrArg some hxy)⟩
end Go.En
namespace Go.Proofs
open Go Go.En
theorem Tryz.Va.run:Tryz.XI.k=some ((true,()),()):=by kernel_rfl
def Tryz.Va.c:Bp En.Dop.D4:=⟨29,0,⟨[],[]⟩,⟨[.fd .bool],[]⟩,true,.Kw fun _=>((true,()),())⟩
theorem Tryz.Va.holds:Tryz.Va.c.Holds Tryz.prog:=Yo Tryz.XI.Kh fun _=>Tryz.Va.run
end Go.Proofs
/- Functions of the seat, lifted: plan, model, contract, equations. Written by a program (Lift) that ran the layer's evaluation; Lean checks each line. -/
set_option maxRecDepth 100000
set_option maxHeartbeats 4000000
namespace Go.Proofs.Tryz
open Go Go.En
def VE.p:Af:=⟨[],0,⟨[.fd (.int .i64)],[]⟩,⟨[.fd (.int .i64)],[]⟩,true,[],[]⟩
theorem VE.ok:AG Dop.D4 prog 67 VE.p=true:=by kernel_rfl
def Uo.p:Af:=⟨[],0,⟨[.fd (.int .i64)],[]⟩,⟨[.fd (.int .i64)],[]⟩,true,[],[]⟩
theorem Uo.ok:AG Dop.D4 prog 39 Uo.p=true:=by kernel_rfl
def m14.p:Af:=⟨[],0,⟨[.fd (.int .i64)],[]⟩,⟨[.fd .bool],[]⟩,true,[],[]⟩
theorem m14.ok:AG Dop.D4 prog 14 m14.p=true:=by kernel_rfl
end Go.Proofs.Tryz
/- The evaluator by rules: what an expression or a statement does in a run that has not ended. -/
set_option maxHeartbeats 1000000
namespace Go.Proofs.Tryz
open Go Go.En
theorem dk {p:Prop} [Decidable p] (h:decide p=true):p:=of_decide_eq_true h
theorem AM {α:Type} {b:Bool} {x:Option α} (h:b=true):ck b x=x:=by rw [h];rfl
theorem Ak {α:Type} {b:Bool} {x y:α} (h:b=true):ci b x y=x:=by rw [h];rfl
theorem AL {α:Type} {b:Bool} {x y:α} (h:b=false):ci b x y=y:=by rw [h];rfl
theorem B4 {α β:Type} {a:α} {k:(α×Unit)×Unit->Option β}:Option.bind (CW a) k=k ((a,()),()):=rfl
theorem JB {α δ β:Type} {a:α} {x:δ} {k:(α×Unit)×(δ×Unit)->Option β}:Option.bind (CJ a x) k=k ((a,()),(x,())):=rfl
theorem G8 {α δ β:Type} {a:α} {x:δ} {k:(α×δ×Unit)×Unit->Option β}:Option.bind (I5 a x) k=k ((a,x,()),()):=rfl
theorem G7 {α δ ε β:Type} {a:α} {x:δ} {y:ε} {k:(α×Unit)×(δ×ε×Unit)->Option β}:Option.bind (Ao a x y) k=k ((a,()),(x,y,())):=rfl
abbrev st (p:Dop.I8) (mem:List Int) (sp:Int) (inp out:List Int) (fu:Int):ER:=(p,mem,sp,inp,out,fu,0,0,0,(),())
def nd (p:Dop.I8) (i:Int):Dop.AU:=List.getD p.nodes i.toNat Dop.d5
abbrev fi (p:Dop.I8) (i:Int):Prop:=0<=i/\i<I p.nodes.length
def EX (d:Nat) (i:Int) (s:ER) (f:EF) (v:Int) (s':ER) (f':EF):Prop:= ∀ n,BF.kr (Bd.kR (n+d)) i s f=Ao v s' f'
def ST (d:Nat) (i:Int) (s:ER) (f:EF) (h:Int) (s':ER) (f':EF):Prop:= ∀ n,Cj.kr (Bd.kR (n+d)) i s f=Ao h s' f'
theorem ZE (n:Nat):Bd.kR (n+1)=Bd.kS (Bd.kR n):=rfl
section
variable {p:Dop.I8} {mem:List Int} {sp:Int} {inp out:List Int} {fu:Int} {fr:EF} {i:Int} {d:Nat}
theorem Yg (h0:0<fu) (h1:fu<=1000000):E6.k (st p mem sp inp out fu)=CJ true (st p mem sp inp out (fu -1)):=by
 unfold E6.k
 rw [AL (by rfl),AL (decide_eq_false (show ¬ fu=0 by omega)),AM (A0.2 (show -9223372036854775808<=fu -1/\fu -1<=9223372036854775807 by omega))]
end
section
variable (r:Bd.T) (i:Int) (x:Dop.AU) (s:ER) (f:EF)
theorem aU:BF.kr (Bd.kS r) i s f=BF.kf r i s f:=rfl
theorem gB:Fk.kr (Bd.kS r) x s f=Fk.kf r x s f:=rfl
theorem aS:Cj.kr (Bd.kS r) i s f=Cj.kf r i s f:=rfl
theorem aT:BE.kr (Bd.kS r) x s f=BE.kf r x s f:=rfl
theorem gC (l:List Int):m64.kr (Bd.kS r) i l s=m64.kf r i l s:=rfl
end
section
variable {p:Dop.I8} {mem:List Int} {sp:Int} {inp out:List Int} {fu:Int} {fr:EF} {i:Int} {d:Nat}
theorem EX.num (h0:0<fu) (h1:fu<=1000000) (hi:fi p i) (hk:(nd p i).kind=1):EX 1 i (st p mem sp inp out fu) fr (nd p i).n (st p mem sp inp out (fu -1)) fr:=fun n=>by
 rw [ZE,aU]
 unfold BF.kf BF.k0
 rw [Yg h0 h1,JB]
 dsimp only
 unfold nd at hk ⊢
 rw [AL (by rfl),AM (decide_eq_true hi),Ak (decide_eq_true hk)]
variable {v w:Int} {m1:List Int} {sp1:Int} {i1 o1:List Int} {u1:Int} {f1:EF} {m2:List Int} {sp2:Int} {i2 o2:List Int} {u2:Int} {f2 fr':EF}
variable {h:Int} {s s' s1 s2:ER} {x:Dop.AU} {l:List Int} {j c:Nat}
def DO (d:Nat) (x:Dop.AU) (s:ER) (f:EF) (h:Int) (s':ER) (f':EF):Prop:= ∀ n,BE.kr (Bd.kR (n+d)) x s f=Ao h s' f'
theorem ST.of (h0:0<fu) (h1:fu<=1000000) (hi:fi p i) (hs:EF.KO fr=0) (hd:DO d (nd p i) (st p mem sp inp out (fu -1)) fr h (st p m1 sp1 i1 o1 u1) f1):ST (d+1) i (st p mem sp inp out fu) fr h (st p m1 sp1 i1 o1 u1) f1:=fun n=>by
 rw [show n+(d+1)=n+d+1 from rfl,ZE,aS]
 unfold Cj.kf
 rw [AL (by rw [hs];rfl),Ak (decide_eq_true hs),Yg h0 h1,JB]
 dsimp only
 rw [show List.getD (ER.p (st p mem sp inp out (fu -1))).nodes i.toNat Dop.d5=nd p i from rfl,AL (by rfl),AM (decide_eq_true hi),hd n]
 rfl
theorem gA (r:Bd.T) (hk:34<x.kind):BE.kf r x s fr=GZ.kB r (BE.kL r 999999) x.kind s fr x:=by
 unfold BE.kf BE.k0
 dsimp only
 rw [AL (decide_eq_false (by omega)),AL (decide_eq_false (by omega)),AL (decide_eq_false (by omega)),AL (decide_eq_false (by omega)),AL (decide_eq_false (by omega))]
 rfl
theorem DO.Ed (hk:x.kind=37) (ha:0<=x.a) (he:EX d x.a s fr v s' f1):DO (d+1) x s fr 3 s' (EF.X9 f1 v):=fun n=>by
 rw [show n+(d+1)=n+d+1 from rfl,ZE,aT,gA _ (by omega)]
 unfold GZ.kB
 dsimp only
 rw [AL (decide_eq_false (by omega)),AL (decide_eq_false (by omega)),Ak (decide_eq_true hk),Ak (decide_eq_true ha),he n]
 rfl
def BL (d c:Nat) (l:List Int) (j:Nat) (s:ER) (f:EF) (h:Int) (s':ER) (f':EF):Prop:= ∀ n N,(DA (BE.kS (Bd.kR (n+d))) (N+c)).2.2.2.1 l (I l.length) (I j) s f=Ao h s' f'
theorem BL.exit (hj:j<l.length) (hd:ST d (l.getD j 0) s fr h s1 f1) (hh:h≠0):BL d (c+1) l j s fr h s1 f1:=fun n N=>by
 show Hy.kB (Bd.kR (n+d)) (DA (BE.kS (Bd.kR (n+d))) (N+c)) l (I l.length) (I j) s fr=_
 unfold Hy.kB
 rw [Ak (decide_eq_true (by simp only [I];omega)),AM (decide_eq_true (by simp only [I];omega)),AM (decide_eq_true (by simp only [I];omega)),show (I j).toNat=j from rfl,hd n,G7]
 dsimp only
 rw [Ak (by rw [decide_eq_false hh];rfl)]
theorem DO.block (hk:x.kind=43) (hl:DD.k (ER.p s) x.a=CW l) (hb:BL d c l 0 s fr h s' f1) (hc:c<=999998):DO (d+1) x s fr h s' f1:=fun n=>by
 rw [show n+(d+1)=n+d+1 from rfl,ZE,aT,gA _ (by omega)]
 unfold GZ.kB
 dsimp only
 rw [AL (decide_eq_false (by omega)),AL (decide_eq_false (by omega)),AL (decide_eq_false (by omega)),AL (decide_eq_false (by omega)),AL (decide_eq_false (by omega)),AL (decide_eq_false (by omega)),AL (decide_eq_false (by omega))]
 show Hx.kB (Bd.kR (n+d)) (DA (BE.kS (Bd.kR (n+d))) 999998) x.kind s fr x=_
 unfold Hx.kB
 rw [AL (decide_eq_false (by omega)),Ak (decide_eq_true hk),hl,B4]
 have:=hb n (999998 -c)
 rw [show 999998 -c+c=999998 by omega] at this
 exact this
def CL (d:Nat) (k:Int) (args:List Int) (s:ER) (v:Int) (s':ER):Prop:= ∀ n,m64.kr (Bd.kR (n+d)) k args s=CJ v s'
abbrev iv (g:Dop.EY) (args:List Int) (b:Int):EF:=(g,List.take (List.replicate g.Aw.toNat (0:Int)).length args++List.drop args.length (List.replicate g.Aw.toNat (0:Int)),b,0,[],0,0,())
theorem CL.of {k:Int} {args:List Int} {g:Dop.EY} (hk:0<=k/\k<I p.funcs.length) (hg:List.getD p.funcs k.toNat Dop.d11=g) (hm:sp+g.frame<=I mem.length) (hr:0<=g.Aw/\g.Aw<=1000000) (hs:0<=sp/\sp<=1000000) (hf:0<=g.frame/\g.frame<=1000000)
  (hd:ST d g.body (st p mem (sp+g.frame) inp out fu) (iv g args sp) h (st p m1 (sp+g.frame) i1 o1 u1) f1) (hh:h≠4):CL (d+1) k args (st p mem sp inp out fu) (EF.told f1) (st p m1 sp i1 o1 u1):=fun n=>by
 rw [show n+(d+1)=n+d+1 from rfl,ZE,gC]
 unfold m64.kf m64.k0
 dsimp only
 rw [show List.getD (ER.p (st p mem sp inp out fu)).funcs k.toNat Dop.d11=g from hg,AL (show (!decide ((st p mem sp inp out fu).end_=0))=false from rfl),AL (decide_eq_false (by omega)),AM (decide_eq_true hk),AM (A0.2 (show -9223372036854775808<=sp+g.frame/\sp+g.frame<=9223372036854775807 by omega)),AL (decide_eq_false (show ¬ I mem.length<sp+g.frame by omega)),
  AM (decide_eq_true (show 0<=g.Aw/\g.Aw<=g.Aw/\g.Aw*(I 8+1)<=140737488355328 by simp only [I];omega)),AM (A0.2 (show -9223372036854775808<=sp+g.frame/\sp+g.frame<=9223372036854775807 by omega))]
 show Kl.kB (Bd.kR (n+d)) _ (st p mem (sp+g.frame) inp out fu) g (iv g args sp)=_
 unfold Kl.kB
 rw [hd n,G7]
 dsimp only
 rw [AL (decide_eq_false hh),AM (A0.2 (show -9223372036854775808<=sp+g.frame -g.frame/\sp+g.frame -g.frame<=9223372036854775807 by omega))]
 show CJ _ (st p m1 (sp+g.frame -g.frame) i1 o1 u1)=_
 rw [show sp+g.frame -g.frame=sp by omega]
end
theorem TQ (l:List Int) (hl:l.length<1000000): ∀ (k j N:Nat),j+k=l.length->(DA II.kS (N+k+1)).1 l l (I l.length) (I j)=CW true
 | 0,j,N,h=>by
  show Kk.kB _ l l (I l.length) (I j)=_
  unfold Kk.kB
  rw [AL (decide_eq_false (by simp only [I];omega))]
 | k+1,j,N,h=>by
  show Kk.kB (DA II.kS (N+k+1)) l l (I l.length) (I j)=_
  unfold Kk.kB
  rw [Ak (decide_eq_true (by simp only [I];omega)),AM (decide_eq_true (by simp only [I];omega)),AM (decide_eq_true (by simp only [I];omega)),AL (by simp),AM (A0.2 (by simp only [I];omega))]
  exact TQ l hl k (j+1) N (by omega)
theorem same (a b:Int) (l:List Int) (hl:l.length<1000000):RU.k (.mk a b l) (.mk a b l)=CW true:=by
 unfold RU.k
 dsimp only
 rw [Ak (decide_eq_true rfl),Ak (decide_eq_true rfl)]
 unfold II.k II.k0
 rw [AL (by simp)]
 have:=TQ l hl l.length 0 (999999 -l.length) (by omega)
 rw [show 999999 -l.length+l.length+1=1000000 by omega] at this
 exact (congrArg (fun z=>Option.bind z _) this).trans rfl
abbrev kj (a:Int):Prop:= -2147483648<=a/\a<=2147483647
theorem iY (a:Int):kj (IntKind.i32.wrap (IntKind.u32.wrap a)):=by rw [IntKind.wrap_i32,IntKind.wrap_u32];omega
theorem lA (a:Int):EH.k a=CW (IntKind.i32.wrap (IntKind.u32.wrap a)):=by
 have:=iY a
 unfold EH.k
 exact AM (A0.2 (by omega))
end Go.Proofs.Tryz
/- The lexer at a number in decimal digits, with an u behind it or without. -/
set_option maxHeartbeats 1000000
namespace Go.Proofs.Tryz
open Go Go.En
def O1 (c:Nat):Bool:=(97<=c && c<=122) || (65<=c && c<=90) || c == 95
def Nh (c:Nat):Bool:=48<=c && c<=57
theorem gE: ∀ c:Fin 256,Sb.k (I c)=CW (O1 c):=by decide+kernel
theorem fM: ∀ c:Fin 256,Sc.k (I c)=CW (Nh c):=by decide+kernel
theorem Wr (c:UInt8):Sb.k ((c.toNat:Nat):Int)=CW (O1 c.toNat):=gE ⟨c.toNat,c.toNat_lt⟩
theorem Vr (c:UInt8):Sc.k ((c.toNat:Nat):Int)=CW (Nh c.toNat):=fM ⟨c.toNat,c.toNat_lt⟩
abbrev Yf (c:UInt8):Bool:=O1 c.toNat || Nh c.toNat
theorem fG (s:List UInt8) (j:Nat):Cg s (I j)=(((s.getD j 0).toNat:Nat):Int):=rfl
theorem Q5 (s:List UInt8) (k:Nat) (hk:k<=s.length) (hs:s.length<1000000) (ha: ∀ j,j<k->Yf (s.getD j 0)=true) (he:k=s.length\/Yf (s.getD k 0)=false):
  ∀ (m j N:Nat),j+m=k->(DA Hz.kS (N+m+1)).1 s (I j)=CW (I k)
 | 0,j,N,h=>by
  obtain rfl:j=k:=by omega
  show Km.kB (DA Hz.kS N) s (I j)=_
  unfold Km.kB
  by_cases hl:j=s.length
  ·rw [AL (decide_eq_false (by simp only [I];omega))]
  ·have hj:0<=I j/\I j<I s.length:=by simp only [I];omega
   have h2:=he.resolve_left hl
   simp only [Bool.or_eq_false_iff] at h2
   rw [Ak (decide_eq_true hj.2),AM (decide_eq_true hj),fG,Wr,B4]
   dsimp only
   rw [h2.1,AL rfl,AM (decide_eq_true hj),Vr,B4]
   dsimp only
   rw [h2.2,AL rfl]
 | m+1,j,N,h=>by
  have hj:0<=I j/\I j<I s.length:=by simp only [I];omega
  have h2:(O1 (s.getD j 0).toNat || Nh (s.getD j 0).toNat)=true:=ha j (by omega)
  have hi:=Q5 s k hk hs ha he m (j+1) N (by omega)
  show Km.kB (DA Hz.kS (N+m+1)) s (I j)=_
  unfold Km.kB
  rw [Ak (decide_eq_true hj.2),AM (decide_eq_true hj),fG,Wr,B4]
  dsimp only
  by_cases h3:O1 (s.getD j 0).toNat=true
  ·rw [h3,Ak rfl,AM (A0.2 (by simp only [I];omega))];exact hi
  ·rw [Bool.not_eq_true] at h3
   rw [h3,AL rfl,AM (decide_eq_true hj),Vr,B4]
   dsimp only
   rw [h3,Bool.false_or] at h2
   rw [h2,Ak rfl,AM (A0.2 (by simp only [I];omega))];exact hi
theorem gd (s:List UInt8) (k:Nat) (hk:k<=s.length) (hs:s.length<1000000) (ha: ∀ j,j<k->Yf (s.getD j 0)=true) (he:k=s.length\/Yf (s.getD k 0)=false):Hz.k s=CW (I k):=by
 have:=Q5 s k hk hs ha he k 0 (999999 -k) (by omega)
 rw [show 999999 -k+k+1=1000000 by omega] at this
 exact this
abbrev Tc (c:UInt8):Prop:=48<=c.toNat/\c.toNat<=57
def dv (c:UInt8):Int:=(c.toNat:Int) -48
def fv (l:List UInt8) (n:Int):Int:=l.foldl (fun n c=>n*10+dv c) n
theorem bh: ∀ c:Fin 256,48<=c.val->c.val<=57->Lib.toLowerA [UInt8.ofNat c]=[UInt8.ofNat c]/\Lib.indexByte ([48,49,50,51,52,53,54,55,56,57,97,98,99,100,101,102]:List UInt8) (Cg [UInt8.ofNat c] 0).toNat.toUInt8=(c.val:Int) -48/\YT [UInt8.ofNat c]=true:=by decide+kernel
theorem bg {c:UInt8} (h:Tc c):Lib.toLowerA [c]=[c]/\Lib.indexByte ([48,49,50,51,52,53,54,55,56,57,97,98,99,100,101,102]:List UInt8) (Cg [c] 0).toNat.toUInt8=dv c/\YT [c]=true:=by
 have:=bh ⟨c.toNat,c.toNat_lt⟩ h.1 h.2
 rwa [show UInt8.ofNat (⟨c.toNat,c.toNat_lt⟩:Fin 256).val=c from UInt8.ofNat_toNat] at this
theorem Ta: ∀ (l:List UInt8) (n:Int),0<=n->(∀ c∈l,Tc c)->n<=fv l n
 | [],n,_,_=>Int.le_refl n
 | c::l,n,h,hd=>by
  have h1:=hd c List.mem_cons_self
  have h2:0<=dv c:=by unfold dv;omega
  have:=Ta l (n*10+dv c) (by omega) fun x hx=>hd x (List.mem_cons_of_mem _ hx)
  show n<=fv l (n*10+dv c)
  omega
theorem SP (l m:List UInt8) (n:Int):fv (l++m) n=fv m (fv l n):=List.foldl_append
theorem RO (s:List UInt8) (hs:s.length<1000000) (h0:s≠[]) (hd: ∀ c∈s,Tc c) (hv:fv s 0<=4294967295):
  ∀ (m j N:Nat),j+m=s.length->(DA Gc.kS (N+m+1)).1 s 10 (fv (s.take j) 0) (I s.length) (I j)=I5 (fv s 0) true
 | 0,j,N,h=>by
  obtain rfl:j=s.length:=by omega
  show Kn.kB (DA Gc.kS N) s 10 _ (I s.length) (I s.length)=_
  unfold Kn.kB
  dsimp only
  rw [AL (decide_eq_false (by omega)),List.take_length,decide_eq_false h0]
  rfl
 | m+1,j,N,h=>by
  have hj:j<s.length:=by omega
  obtain ⟨c,hc⟩: ∃ c,s[j]?=some c:=⟨s[j],List.getElem?_eq_getElem hj⟩
  have hcs:=List.mem_of_getElem? hc
  have ht:List.drop (I j).toNat (List.take (I j+1).toNat s)=[c]:=by
   rw [show (I j+1).toNat=j+1 by simp only [I];omega,show (I j).toNat=j from rfl,List.take_add_one,hc,List.drop_append]
   simp [List.length_take,Nat.min_eq_left (Nat.le_of_lt hj)]
  have hk:fv (s.take (j+1)) 0=fv (s.take j) 0*10+dv c:=by rw [List.take_add_one,hc,SP];rfl
  have hp:0<=fv (s.take j) 0:=Ta _ 0 (by omega) fun x hx=>hd x (List.mem_of_mem_take hx)
  have hle:fv (s.take (j+1)) 0<=fv s 0:=by
   have e:=SP (s.take (j+1)) (s.drop (j+1)) 0
   rw [List.take_append_drop] at e
   rw [e]
   exact Ta _ _ (Ta _ 0 (by omega) fun x hx=>hd x (List.mem_of_mem_take hx)) fun x hx=>hd x (List.mem_of_mem_drop hx)
  have hi:=RO s hs h0 hd hv m (j+1) N (by omega)
  obtain ⟨e1,e2,e3⟩:=bg (hd c hcs)
  have hdc:0<=dv c/\dv c<=9:=by have:=hd c hcs;unfold dv;omega
  show Kn.kB (DA Gc.kS (N+m+1)) s 10 _ (I s.length) (I j)=_
  unfold Kn.kB
  dsimp only
  rw [ht,e1,Ak (decide_eq_true (by simp only [I];omega)),AM (A0.2 (by simp only [I];omega)),AM (decide_eq_true (by simp only [I];omega)),AM e3,AM (decide_eq_true (show (0:Int)<=0/\0<I [c].length by simp [I])),AM rfl,e2,
   AL (decide_eq_false (by omega)),AL (decide_eq_false (by omega)),AM (A0.2 (by omega)),AM (A0.2 (by omega)),AL (decide_eq_false (by omega)),AM (A0.2 (by simp only [I];omega)),<- hk]
  exact hi
theorem aq (s:List UInt8) (hs:s.length<1000000) (h0:s≠[]) (hd: ∀ c∈s,Tc c) (hv:fv s 0<=4294967295):(Gc.kL 1000000).1 s 10 0 (I s.length) 0=I5 (fv s 0) true:=by
 have:=RO s hs h0 hd hv s.length 0 (999999 -s.length) (by omega)
 rw [show 999999 -s.length+s.length+1=1000000 by omega] at this
 exact this
theorem ZZ {s t:List UInt8} (hd: ∀ c∈s,Tc c) (h0:s≠[]) {x:UInt8} (hx:¬ Tc x) (ht: ∀ c r,t=c::r->c≠x):Lib.hasPrefix (s++t) [48,x]=false:=by
 unfold Lib.hasPrefix
 match s,h0 with
 | [c],_=>
  cases t with
  | nil=>simp [List.isPrefixOf]
  | cons d r=>have:=ht d r rfl;simp [List.isPrefixOf];intro _;exact fun e=>this e.symm
 | c::d::r,_=>
  have:=hd d (by simp)
  simp [List.isPrefixOf]
  intro _ e
  exact hx (e▸this)
theorem iR {s:List UInt8} (hs:s.length<1000000) (h0:s≠[]) (hd: ∀ c∈s,Tc c) (hv:fv s 0<=4294967295):Gc.k s=I5 (fv s 0) true:=by
 have hl:0<s.length:=List.length_pos_iff.2 h0
 have hc:=hd _ (List.getLast_mem h0)
 have e:Cg s (I s.length -1)=(((s.getLast h0).toNat:Nat):Int):=by
  unfold Cg
  rw [show (I s.length -1).toNat=s.length -1 by simp only [I];omega,List.getLast_eq_getElem,List.getD_eq_getElem?_getD,List.getElem?_eq_getElem (by omega)]
  rfl
 have p1:=ZZ (t:=[]) (x:=120) hd h0 (by decide) (fun _ _ h=>by cases h)
 have p2:=ZZ (t:=[]) (x:=88) hd h0 (by decide) (fun _ _ h=>by cases h)
 rw [List.append_nil] at p1 p2
 have hb:0<=I s.length -1/\I s.length -1<I s.length:=by simp only [I];omega
 unfold Gc.k Gc.k0
 dsimp only
 rw [AM (A0.2 (by simp only [I];omega)),AM (decide_eq_true hb),e,AL (decide_eq_false (by omega)),AM (decide_eq_true hb),AL (decide_eq_false (by omega)),AM rfl,p1,AL rfl,AM rfl,p2,AL rfl]
 exact aq s hs h0 hd hv
theorem iS {s:List UInt8} (hs:s.length<1000000) (h0:s≠[]) (hd: ∀ c∈s,Tc c) (hv:fv s 0<=4294967295):Gc.k (s++[117])=I5 (fv s 0) true:=by
 have hl:(s++[(117:UInt8)]).length=s.length+1:=by simp
 have e:Cg (s++[117]) (I (s++[(117:UInt8)]).length -1)=117:=by
  unfold Cg
  rw [show (I (s++[(117:UInt8)]).length -1).toNat=s.length by rw [hl];simp only [I];omega]
  simp [List.getD_eq_getElem?_getD]
 have hb:0<=I (s++[(117:UInt8)]).length -1/\I (s++[(117:UInt8)]).length -1<I (s++[(117:UInt8)]).length:=by rw [hl];simp only [I];omega
 have ht:List.drop (Int.toNat 0) (List.take (I (s++[(117:UInt8)]).length -1).toNat (s++[117]))=s:=by
  rw [show (I (s++[(117:UInt8)]).length -1).toNat=s.length by rw [hl];simp only [I];omega]
  simp
 have p1:=ZZ (t:=[]) (x:=120) hd h0 (by decide) (fun _ _ h=>by cases h)
 have p2:=ZZ (t:=[]) (x:=88) hd h0 (by decide) (fun _ _ h=>by cases h)
 rw [List.append_nil] at p1 p2
 unfold Gc.k Gc.k0
 dsimp only
 rw [AM (A0.2 (by rw [hl];simp only [I];omega)),AM (decide_eq_true hb),e,Ak (by rfl),ht,AM (decide_eq_true (by rw [hl];simp only [I];omega)),AM rfl,p1,AL rfl,AM rfl,p2,AL rfl]
 exact aq s hs h0 hd hv
theorem Tu {c:UInt8} {w t:List UInt8} {v:Int} (hl:(c::w++t).length<1000000) (hc:Tc c) (hw: ∀ x∈w,Yf x=true) (ht: ∀ d r,t=d::r->Yf d=false) (hv:Gc.k (c::w)=I5 v true):Sa.k (c::w++t)=I5 (Dop.Tok.mk 3 (c::w) v 0) 0:=by
 have hlen:(c::w++t).length=(c::w).length+t.length:=List.length_append
 have h1:Nh c.toNat=true:=by unfold Nh;simp;exact hc
 have h2:O1 c.toNat=false:=by unfold O1;simp;omega
 have hb:(0:Int)<=0/\0<I (c::w++t).length:=by rw [hlen];simp only [I,List.length_cons];omega
 have hr:Hz.k (c::w++t)=CW (I (c::w).length):=gd _ _ (by omega) hl (fun j hj=>by
  rw [List.getD_eq_getElem?_getD,List.getElem?_append_left hj,List.getElem?_eq_getElem hj]
  rcases List.mem_cons.1 (List.getElem_mem hj) with h|h
  ·show Yf (c::w)[j]=true
   rw [h];show (O1 c.toNat || Nh c.toNat)=true;rw [h1,Bool.or_true]
  ·exact hw _ h) (by
  cases t with
  | nil=>left;simp
  | cons d r=>
   right
   rw [List.getD_eq_getElem?_getD,List.getElem?_append_right (Nat.le_refl _),Nat.sub_self]
   exact ht d r rfl)
 have htk:List.drop (Int.toNat 0) (List.take (I (c::w).length).toNat (c::w++t))=c::w:=by
  rw [show (I (c::w).length).toNat=(c::w).length from rfl,List.take_left];rfl
 have h0:Cg (c::w++t) 0=((c.toNat:Nat):Int):=rfl
 have hk:(0:Int)<=0/\0<=I (c::w).length/\I (c::w).length<=I (c::w++t).length:=by rw [hlen];simp only [I];omega
 have h81:Ql.k 3 v (I (c::w).length) (c::w++t)=OH (Dop.Tok.mk 3 (c::w) v 0) 0 (c::w++t,()):=by
  unfold Ql.k
  rw [AM (decide_eq_true hk),htk]
 unfold Sa.k
 rw [AM (decide_eq_true hb),h0,Wr,h2,B4]
 dsimp only
 rw [AL rfl,AM (decide_eq_true hb),Vr,h1,B4]
 dsimp only
 rw [Ak rfl,hr,B4]
 dsimp only
 rw [AM (decide_eq_true hk),htk,hv,G8]
 dsimp only
 rw [AL (by rfl),h81]
 rfl
theorem aF: ∀ u:Nat,fv (Lib.decDigits u) 0=u/\(∀ c∈Lib.decDigits u,Tc c)/\Lib.decDigits u≠[]:=fun u=>by
 induction u using Nat.strongRecOn with
 | ind u ih=>
  have hd: ∀ k,k<10->(UInt8.ofNat (48+k)).toNat=48+k:=fun k hk=>by simp [UInt8.toNat_ofNat];omega
  rw [Lib.decDigits]
  by_cases h:u<10
  ·rw [dif_pos h]
   refine ⟨?_,fun c hc=>?_,by simp⟩
   ·show 0*10+dv (UInt8.ofNat (48+u))=u
    unfold dv;rw [hd u h];omega
   ·rw [List.mem_singleton] at hc;subst hc;unfold Tc;rw [hd u h];omega
  ·rw [dif_neg h]
   obtain ⟨h1,h2,h3⟩:=ih (u / 10) (by omega)
   refine ⟨?_,fun c hc=>?_,by simp⟩
   ·rw [SP,h1]
    show ((u / 10:Nat):Int)*10+dv (UInt8.ofNat (48+u % 10))=u
    unfold dv;rw [hd _ (by omega)];omega
   ·rcases List.mem_append.1 hc with hc|hc
    ·exact h2 c hc
    ·rw [List.mem_singleton] at hc;subst hc;unfold Tc;rw [hd _ (by omega)];omega
end Go.Proofs.Tryz
/- The lexer, piece by piece: a text's tokens out of what stands in front. -/
set_option maxHeartbeats 1000000
namespace Go.Proofs.Tryz
open Go Go.En
def LX:List UInt8->List (Nat×Dop.Tok)->List UInt8->Prop
 | r,[],r'=>r=r'
 | r,(n,t)::l,r'=>HU.k r=I5 (I n) true/\Sa.k (r.drop n)=I5 t 0/\n+t.text.length<=r.length/\n<r.length/\LX (r.drop (n+t.text.length)) l r'
theorem LX.app: ∀ {l m:List (Nat×Dop.Tok)} {r r1 r2:List UInt8},LX r l r1->LX r1 m r2->LX r (l++m) r2
 | [],m,r,r1,r2,h,k=>by cases h;exact k
 | (n,t)::l,m,r,r1,r2,h,k=>⟨h.1,h.2.1,h.2.2.1,h.2.2.2.1,LX.app h.2.2.2.2 k⟩
noncomputable def gN:Nat->List UInt8->Option (List (Nat×Dop.Tok)×List UInt8)
 | 0,r=>some ([],r)
 | k+1,r=>match HU.k r with
  | some ((n,true,()),())=>match n with
   | .ofNat n=>match Sa.k (r.drop n) with
    | some ((t,e,()),())=>match decide (e=0),Nat.ble (n+t.text.length) r.length,Nat.blt n r.length with
     | true,true,true=>match gN k (r.drop (n+t.text.length)) with
      | some (l,r')=>some ((n,t)::l,r')
      | none=>none
     | _,_,_=>none
    | none=>none
   | _=>none
  | _=>none
theorem SZ: ∀ {k:Nat} {r r':List UInt8} {l:List (Nat×Dop.Tok)},gN k r=some (l,r')->LX r l r'
 | 0,r,r',l,h=>by cases h;rfl
 | k+1,r,r',l,h=>by
  unfold gN at h
  split at h
  ·rename_i n h1
   split at h
   ·rename_i n
    split at h
    ·rename_i t e h2
     split at h
     ·rename_i e1 e2 e3
      split at h
      ·rename_i l2 r2 h3
       cases h
       have e0:=of_decide_eq_true e1
       subst e0
       exact ⟨h1,h2,Nat.le_of_ble_eq_true e2,Nat.le_of_ble_eq_true e3,SZ h3⟩
      ·cases h
     ·cases h
    ·cases h
   ·cases h
  ·cases h
def Kw:List (Nat×Dop.Tok)->Nat
 | []=>0
 | (n,t)::l=>n+t.text.length+Kw l
def pl (a:Nat):List (Nat×Dop.Tok)->List Dop.Tok
 | []=>[]
 | (n,t)::l=>.mk t.kind t.text t.n (I (a+n))::pl (a+n+t.text.length) l
theorem VL {s:List UInt8} (hs:s.length<=32768): ∀ (l:List (Nat×Dop.Tok)) (r r':List UInt8) (a N:Nat) (out:List Dop.Tok),s.drop a=r->a<=s.length->LX r l r'->out.length+l.length<8192->
  (DA m19.kS (N+l.length)).1 s out (I a)=(DA m19.kS N).1 s (out++pl a l) (I (a+Kw l))/\s.drop (a+Kw l)=r'/\a+Kw l<=s.length
 | [],r,r',a,N,out,h,ha,hl,_=>by
  cases hl
  refine ⟨?_,h,ha⟩
  rw [show pl a []=[] from rfl,List.append_nil];rfl
 | (n,t)::l,r,r',a,N,out,h,ha,⟨h1,h2,h3,h4,h5⟩,ho=>by
  have hr:r.length=s.length -a:=by rw [<-h,List.length_drop]
  have hd: ∀ k,s.drop (a+k)=r.drop k:=fun k=>by rw [<-h,List.drop_drop]
  obtain ⟨e1,e2,e3⟩:=VL hs l (r.drop (n+t.text.length)) r' (a+(n+t.text.length)) N (out++[.mk t.kind t.text t.n (I (a+n))]) (hd _) (by omega) h5 (by simp only [List.length_append,List.length_cons,List.length_nil] at ho ⊢; omega)
  refine ⟨?_,by rw [show Kw ((n,t)::l)=n+t.text.length+Kw l from rfl,<- Nat.add_assoc];exact e2,by rw [show Kw ((n,t)::l)=n+t.text.length+Kw l from rfl,<- Nat.add_assoc];exact e3⟩
  rw [show pl a ((n,t)::l)=.mk t.kind t.text t.n (I (a+n))::pl (a+n+t.text.length) l from rfl,show Kw ((n,t)::l)=n+t.text.length+Kw l from rfl]
  rw [List.append_assoc,List.singleton_append,show a+(n+t.text.length)=a+n+t.text.length by omega] at e1
  rw [show a+(n+t.text.length+Kw l)=a+n+t.text.length+Kw l by omega,<- e1]
  show Kj.kB (DA m19.kS (N+l.length)) s out (I a)=_
  unfold Kj.kB
  dsimp only
  have hI:(I a:Int)+I n=I (a+n):=by simp only [I];omega
  have hb:0<=I a/\I a<=I s.length/\I s.length<=I s.length:=by simp only [I];omega
  have hb2:0<=I (a+n)/\I (a+n)<=I s.length/\I s.length<=I s.length:=by simp only [I];omega
  rw [show List.take (I s.length).toNat s=s from List.take_length,AM (decide_eq_true hb),show (I a).toNat=a from rfl,h,h1,G8]
  dsimp only
  rw [hI,AM (A0.2 (by simp only [I];omega)),AL (b:=!true) rfl,AL (decide_eq_false (by simp only [I];omega)),AM (decide_eq_true hb2),show (I (a+n)).toNat=a+n from rfl,hd,h2,G8]
  dsimp only
  rw [AL (by rfl),AL (decide_eq_false (by simp only [I,List.length_cons] at ho ⊢; omega)),AM (by show room 40 _=true;unfold room;refine decide_eq_true ?_;simp only [List.length_cons,List.length_nil] at ho ⊢; omega),AM (A0.2 (by simp only [I];omega))]
  rw [show (I (a+n):Int)+I t.text.length=I (a+n+t.text.length) by simp only [I];omega]
theorem Zy {s:List UInt8} {l:List (Nat×Dop.Tok)} (hs:s.length<=32768) (h:LX s l []) (hl:l.length<8192):m19.k s=Ln (pl 0 l++[.mk 0 [] 0 (I (Kw l))]) 0 0:=by
 obtain ⟨e1,e2,e3⟩:=VL hs l s [] 0 (1000000 -l.length) [] rfl (by omega) h (by simpa using hl)
 rw [show 1000000 -l.length+l.length=1000000 by omega,Nat.zero_add,List.nil_append] at e1
 rw [Nat.zero_add] at e2 e3
 have ht:Kw l=s.length:=by have:=congrArg List.length e2;rw [List.length_drop,List.length_nil] at this;omega
 unfold m19.k m19.k0
 rw [AL (decide_eq_false (by simp only [I];omega))]
 refine Eq.trans e1 ?_
 obtain ⟨M,hM⟩: ∃ M,1000000 -l.length=M+1:=⟨1000000 -l.length -1,by omega⟩
 rw [hM]
 show Kj.kB (DA m19.kS M) s (pl 0 l) (I (Kw l))=_
 have hp:(pl 0 l).length<8192:=by
  have: ∀ (l:List (Nat×Dop.Tok)) (a:Nat),(pl a l).length=l.length:=fun l=>by
   induction l with
   | nil=>intro a;rfl
   | cons x l ih=>intro a;show (pl _ l).length+1=_;rw [ih];rfl
  rw [this];exact hl
 unfold Kj.kB
 dsimp only
 rw [show List.take (I s.length).toNat s=s from List.take_length,AM (decide_eq_true (by simp only [I];omega)),show (I (Kw l)).toNat=Kw l from rfl,e2,show HU.k []=I5 0 true by kernel_rfl,G8]
 dsimp only
 rw [Int.add_zero,AM (A0.2 (by simp only [I];omega)),AL (b:=!true) rfl,Ak (decide_eq_true (by rw [ht])),AM (by show room 40 _=true;unfold room;refine decide_eq_true ?_;simp only [List.length_cons,List.length_nil];omega)]
theorem gk: ∀ c:Fin 256,48<=c.val->c.val<=57->Lib.indexByte ([32,9,10,13]:List UInt8) (UInt8.ofNat c)= -1:=by decide+kernel
theorem YD {c:UInt8} (h:Tc c) (t:List UInt8):HU.k (c::t)=I5 0 true:=by
 have h1:=gk ⟨c.toNat,c.toNat_lt⟩ h.1 h.2
 rw [show UInt8.ofNat (⟨c.toNat,c.toNat_lt⟩:Fin 256).val=c from UInt8.ofNat_toNat] at h1
 have hne:(c == 47)=false:=by
  rw [beq_eq_false_iff_ne];intro e;subst e;exact absurd h.1 (by decide)
 have hne':((47:UInt8) == c)=false:=by rw [beq_eq_false_iff_ne];intro e;subst e;exact absurd h.1 (by decide)
 unfold HU.k HU.k0
 show OA.kB (HU.kL 999999) (c::t) 0=_
 unfold OA.kB
 dsimp only
 have hl:(0:Int)<I (c::t).length:=by simp only [I,List.length_cons];omega
 have hd:List.drop (Int.toNat 0) (List.take (I (c::t).length).toNat (c::t))=c::t:=by
  rw [show (I (c::t).length).toNat=(c::t).length from rfl,List.take_length];rfl
 have hs:(Cg (c::t) 0).toNat.toUInt8=c:=by
  show ((c.toNat:Int)).toNat.toUInt8=c
  rw [Int.toNat_natCast];exact UInt8.ofNat_toNat
 rw [Ak (decide_eq_true hl),AM (decide_eq_true (by omega)),AM (decide_eq_true (by omega)),AM rfl,hs,h1,AL (by rfl),AM rfl,hd]
 rw [show Lib.hasPrefix (c::t) [47,47]=false by simp [Lib.hasPrefix,List.isPrefixOf,hne'],AL rfl,AM rfl,show Lib.hasPrefix (c::t) [47,42]=false by simp [Lib.hasPrefix,List.isPrefixOf,hne'],AL rfl]
theorem az {n:Nat} (hn:n<=4294967295) {t:List UInt8} (ht: ∀ d r,t=d::r->Yf d=false) (hl:(Lib.decDigits n++t).length<100000):
  LX (Lib.decDigits n++t) [(0,.mk 3 (Lib.decDigits n) n 0)] t/\LX (Lib.decDigits n++117::t) [(0,.mk 3 (Lib.decDigits n++[117]) n 0)] t:=by
 obtain ⟨h1,h2,h3⟩:=aF n
 have hlen:(Lib.decDigits n).length<100000:=by rw [List.length_append] at hl;omega
 have v1:=iR (by omega) h3 h2 (by rw [h1];omega)
 have v2:=iS (by omega) h3 h2 (by rw [h1];omega)
 rw [h1] at v1 v2
 have ha: ∀ x,Tc x->Yf x=true:=fun x hx=>by
  show (O1 x.toNat || Nh x.toNat)=true
  rw [show Nh x.toNat=true by unfold Nh;simp;exact hx,Bool.or_true]
 generalize Lib.decDigits n=w at*
 obtain ⟨c,w,rfl⟩: ∃ c r,w=c::r:=by cases w with|nil=>exact absurd rfl h3|cons c r=>exact ⟨c,r,rfl⟩
 have hc:=h2 c List.mem_cons_self
 refine ⟨⟨YD hc _,?_,?_,?_,?_⟩,⟨YD hc _,?_,?_,?_,?_⟩⟩
 ·exact Tu (by omega) hc (fun x hx=>ha x (h2 x (List.mem_cons_of_mem _ hx))) ht v1
 ·simp only [List.length_append,List.length_cons];omega
 ·simp only [List.length_append,List.length_cons];omega
 ·show List.drop (0+(c::w).length) (c::w++t)=t
  rw [Nat.zero_add,List.drop_left]
 ·have:=Tu (c:=c) (w:=w++[117]) (t:=t) (by simp only [List.length_append,List.length_cons,List.length_nil] at hl ⊢; omega) hc (fun x hx=>by
   rcases List.mem_append.1 hx with hx|hx
   ·exact ha x (h2 x (List.mem_cons_of_mem _ hx))
   ·rw [List.mem_singleton] at hx;subst hx;decide) ht (by rw [<-List.cons_append];exact v2)
  rw [show c::(w++[117])++t=c::w++117::t by simp] at this
  exact this
 ·simp only [List.length_append,List.length_cons,List.length_nil];omega
 ·simp only [List.length_append,List.length_cons];omega
 ·show List.drop (0+(c::w++[117]).length) (c::w++117::t)=t
  rw [Nat.zero_add,show c::w++117::t=(c::w++[117])++t by simp,List.drop_left]
end Go.Proofs.Tryz
/- Functions in plain words (what their equations say), and their contracts. Written by a program. -/
set_option maxRecDepth 100000
set_option maxHeartbeats 4000000
namespace Go.Proofs.Tryz
open Go Go.En
noncomputable section
def VE.k (n:Int):FN Int:=
 let A2:=n.tmod (4294967296:Int)+4294967296
 let A1:=n.tmod (4294967296:Int) -4294967296
 ck ((4294967296:Int)≠0)<|
 ci (2147483648<=n.tmod 4294967296) (ck (Au A1)<|
 CW A1)<|
 ci (n.tmod 4294967296<(-2147483648)) (ck (Au A2)<|
 CW A2)<|
 CW (n.tmod 4294967296)
def VE.Kc:=kd 67 VE.p fun x=>VE.k x.1.1
theorem VE.Kh:VE.Kc.Holds prog:=kh AH hn VE.ok (by kernel_rfl)
def Uo.k (n:Int):FN Int:=
 (VE.k n).bind fun y2=>
 ci (y2.1.1<0) (ck (Au (y2.1.1+4294967296))<|
 CW (y2.1.1+4294967296))<|
 CW y2.1.1
def Uo.Kc:=kd 39 Uo.p fun x=>Uo.k x.1.1
theorem Uo.Kh:Uo.Kc.Holds prog:=kh AH (hc VE.Kh hn) Uo.ok (by kernel_rfl)
def m14.k (at_:Int):FN Bool:=
 (Uo.k at_).bind fun y2=>
 ck (jS y2.1.1)<|
 ck (([105,110,116,32,103,61,53,59,105,110,116,32,109,97,105,110,40,41,123,114,101,116,117,114,110,32,42,40,105,110,116,42,41]:List UInt8).length+(Lib.itoa y2.1.1).length<=9223372036854775807)<|
 ck (((105:UInt8)::(110:UInt8)::(116:UInt8)::(32:UInt8)::(103:UInt8)::(61:UInt8)::(53:UInt8)::(59:UInt8)::(105:UInt8)::(110:UInt8)::(116:UInt8)::(32:UInt8)::(109:UInt8)::(97:UInt8)::(105:UInt8)::(110:UInt8)::(40:UInt8)::(41:UInt8)::(123:UInt8)::(114:UInt8)::(101:UInt8)::(116:UInt8)::(117:UInt8)::(114:UInt8)::(110:UInt8)::(32:UInt8)::(42:UInt8)::(40:UInt8)::(105:UInt8)::(110:UInt8)::(116:UInt8)::(42:UInt8)::(41:UInt8)::[]++Lib.itoa y2.1.1).length+([117,59,125]:List UInt8).length<=9223372036854775807)<|
 (RT.k ((105:UInt8)::(110:UInt8)::(116:UInt8)::(32:UInt8)::(103:UInt8)::(61:UInt8)::(53:UInt8)::(59:UInt8)::(105:UInt8)::(110:UInt8)::(116:UInt8)::(32:UInt8)::(109:UInt8)::(97:UInt8)::(105:UInt8)::(110:UInt8)::(40:UInt8)::(41:UInt8)::(123:UInt8)::(114:UInt8)::(101:UInt8)::(116:UInt8)::(117:UInt8)::(114:UInt8)::(110:UInt8)::(32:UInt8)::(42:UInt8)::(40:UInt8)::(105:UInt8)::(110:UInt8)::(116:UInt8)::(42:UInt8)::(41:UInt8)::[]++Lib.itoa y2.1.1++(117:UInt8)::(59:UInt8)::(125:UInt8)::[]) [] 1000).bind fun y3=>
 ci (y2.1.1=1) (ci (y3.1.2.1=0) ((RU.k y3.1.1 (Dop.RS.mk 1 5 [])).bind fun y6=>
 ci y6.1.1 (CW true)<|
 CW false)<|
 CW false)<|
 ci (1<y2.1.1) (ci (y2.1.1<4096) (ci (y3.1.2.1=0) ((RU.k y3.1.1 (Dop.RS.mk 1 0 [])).bind fun y8=>
 ci y8.1.1 (CW true)<|
 CW false)<|
 CW false)<|
 ci (y3.1.2.1=0) ((RU.k y3.1.1 (Dop.RS.mk 2 1 [])).bind fun y8=>
 ci y8.1.1 (CW true)<|
 CW false)<|
 CW false)<|
 ci (y3.1.2.1=0) ((RU.k y3.1.1 (Dop.RS.mk 2 1 [])).bind fun y7=>
 ci y7.1.1 (CW true)<|
 CW false)<|
 CW false
def m14.Kc:=kd 14 m14.p fun x=>m14.k x.1.1
theorem m14.Kh:m14.Kc.Holds prog:=kh AH (hc Uo.Kh (hc itoa.holds (hc RT.Kh (hc RU.Kh (hc Va.holds hn))))) m14.ok (by kernel_rfl)
end
end Go.Proofs.Tryz
/- EvalAddresses: what is told of the source's tree. -/
set_option maxRecDepth 1000000
namespace Go.Proofs.Tryz
open Go Go.En
def eX (n:Int):Dop.G3:=.mk [.mk 52 (-1) (-1) (-1) (-1) [103] 5 1 0,.mk 1 (-1) (-1) (-1) (-1) [] n 0 33,.mk 10 1 (-1) (-1) (-1) [] 0 4 27,.mk 3 2 (-1) (-1) (-1) [42] 0 0 26,.mk 37 3 (-1) (-1) (-1) [] 0 0 19,.mk 20 4 (-1) (-1) (-1) [] 0 0 19,.mk 43 5 (-1) (-1) (-1) [] 0 0 18,.mk 50 (-1) 6 (-1) (-1) [109,97,105,110] 0 1 8,.mk 20 7 (-1) (-1) (-1) [] 0 0 8,.mk 20 0 8 (-1) (-1) [] 0 0 0] [.mk 0 0 0 [],.mk 1 0 0 [],.mk 2 0 0 [],.mk 3 0 0 [],.mk 4 1 0 []] 9
def FI (v:Int):Dop.I8:=.mk [.mk [109,97,105,110] 0 0 0 6] [.mk [103] 1 1 5] 2 [.mk 1 (-1) (-1) (-1) (-1) [] v 0 0,.mk 4 0 (-1) (-1) (-1) [] 0 0 0,.mk 37 1 (-1) (-1) (-1) [] 0 0 0,.mk 20 2 (-1) (-1) (-1) [] 0 0 0,.mk 43 3 (-1) (-1) (-1) [] 0 0 0,.mk 20 4 (-1) (-1) (-1) [] 0 0 0,.mk 43 5 (-1) (-1) (-1) [] 0 0 0]
def VP (n:Int) (num:List Int):CK:=(eX n,(),num,[],[.mk [103] 1 1 5],2,[],[[([103],.mk 1 1 1)],[],[]],[([109,97,105,110],.mk [] 1)],[],.mk [109,97,105,110] 0 0 0 0,1,[],[],0,[],0,0,0,())
def aC:CT:=([.mk 0 0 0 [],.mk 1 0 0 [],.mk 2 0 0 [],.mk 3 0 0 [],.mk 4 1 0 []],[],())
noncomputable abbrev YY (j:Nat):Bc.T:=DA Bc.kS j
def j4 (n ty:Int):R2 Dop.CE CK CT:=Ao (.mk 0 ty 0 0 (decide (n=0))) (CK.Dx (VP n [0,1,2,3,4]) [.mk 1 (-1) (-1) (-1) (-1) [] (IntKind.i32.wrap (IntKind.u32.wrap n)) 0 0]) aC
theorem VT (n ty:Int):HN.kB (YY 999999993) (A9.kL (YY 999999993) 999999) ty (VP n [0,1,2,3,4]) aC (.mk 0 0 0 0 false) (.mk 1 (-1) (-1) (-1) (-1) [] n 0 33)=j4 n ty:=by
 unfold HN.kB Eg.k
 rw [lA,B4]
 kernel_rfl
theorem bF (n ty:Int) (h:ty=1/\n<2147483648\/ty=2/\2147483648<=n):A9.kr (YY 999999994) 1 (VP n [0,1,2,3,4]) aC=j4 n ty:=by
 have e:A9.kr (YY 999999994) 1 (VP n [0,1,2,3,4]) aC=ci (decide (2147483648<=n)) (HN.kB (YY 999999993) (A9.kL (YY 999999993) 999999) 2 (VP n [0,1,2,3,4]) aC (.mk 0 0 0 0 false) (.mk 1 (-1) (-1) (-1) (-1) [] n 0 33)) (HN.kB (YY 999999993) (A9.kL (YY 999999993) 999999) 1 (VP n [0,1,2,3,4]) aC (.mk 0 0 0 0 false) (.mk 1 (-1) (-1) (-1) (-1) [] n 0 33)):=by kernel_rfl
 rw [e,VT,VT]
 rcases h with ⟨rfl,h⟩|⟨rfl,h⟩
 ·rw [AL (decide_eq_false (by omega))]
 ·rw [Ak (decide_eq_true h)]
def jW (j:Int) (y2:(Dop.CE×Unit)×(CK×CT×Unit)):R2 Dop.CE CK CT:=
 ci (CK.e y2.2.1=0) ((Dd.k y2.1.1.EM y2.2.2.1).bind fun y4=>ci (!y4.1.1) ((A4.k 8 j y2.2.1 y4.2.1).bind CN)<|Ao y2.1.1 y2.2.1 y4.2.1)<|Ao y2.1.1 y2.2.1 y2.2.2.1
def kk (n:Int) (y3:(Dop.CE×Unit)×(CK×CT×Unit)):R2 Int CK CT:=
 ci (CK.e y3.2.1=0) (ci (CK.EV y3.2.1=0) ((A4.k 8 n y3.2.1 y3.2.2.1).bind fun y6=>Ao y6.1.1.n y6.2.1 y6.2.2.1)<|
  (Bl.k y3.1.1 (CK.EV y3.2.1) n false y3.2.1 y3.2.2.1).bind fun y6=>(CU.k 37 y6.1.1 ((-1)) ((-1)) ((-1)) 0 [] y6.2.1 y6.2.2.1).bind CN)<|
  (Bl.k y3.1.1 (CK.EV y3.2.1) n false y3.2.1 y3.2.2.1).bind fun y5=>(CU.k 37 y5.1.1 ((-1)) ((-1)) ((-1)) 0 [] y5.2.1 y5.2.2.1).bind CN
theorem Ya (n:Int):JY.k (.mk 37 3 (-1) (-1) (-1) [] 0 0 19) 4 (VP n [0,1]) ([.mk 0 0 0 [],.mk 1 0 0 [],.mk 2 0 0 [],.mk 3 0 0 []],[],())=
  Option.bind (Option.bind (Option.bind (Option.bind (Option.bind (Option.bind (Option.bind (A9.kr (YY 999999994) 1 (VP n [0,1,2,3,4]) aC) (jW 1))
   fun y8=>(Bl.k y8.1.1 4 2 true y8.2.1 y8.2.2.1).bind fun y9=>Ao (Dop.CE.mk y9.1.1 4 0 0 false) y9.2.1 y9.2.2.1) (jW 2)) fun y3=>(IA.k y3.1.1 3 y3.2.1 y3.2.2.1).bind CN) CN) (jW 3)) (kk 4):=by kernel_rfl
theorem bE (n ty:Int) (h:ty=1/\n<2147483648\/ty=2/\2147483648<=n):JY.k (.mk 37 3 (-1) (-1) (-1) [] 0 0 19) 4 (VP n [0,1]) ([.mk 0 0 0 [],.mk 1 0 0 [],.mk 2 0 0 [],.mk 3 0 0 []],[],())=
  Ao 2 (CK.Dx (VP n [0,1,2,3,4]) [.mk 1 (-1) (-1) (-1) (-1) [] (IntKind.i32.wrap (IntKind.u32.wrap n)) 0 0,.mk 4 0 (-1) (-1) (-1) [] 0 0 0,.mk 37 1 (-1) (-1) (-1) [] 0 0 0]) aC:=by
 rw [Ya,bF n ty h]
 rcases h with ⟨rfl,_⟩|⟨rfl,_⟩
 ·kernel_rfl
 ·kernel_rfl
noncomputable abbrev ke (j:Nat):CM.T:=DA CM.kS j
theorem bD (n:Int):GF.k (eX n)=Option.bind (Option.bind (Option.bind (Option.bind (Option.bind (JY.k (.mk 37 3 (-1) (-1) (-1) [] 0 0 19) 4 (VP n [0,1]) ([.mk 0 0 0 [],.mk 1 0 0 [],.mk 2 0 0 [],.mk 3 0 0 []],[],())) CN)
   fun y3=>ck (Cq none (room 8 (([]:List Int).length+(y3.1.1::[]).length)))<|ck (Au (0+1))<|(C0.kL (ke 999999998) 999999).1 ([]++y3.1.1::[]) [4] (I 1) (0+1) y3.2.1 y3.2.2.1 (.mk 43 5 (-1) (-1) (-1) [] 0 0 18))
   fun y9=>ck (Au (I (CK.names y9.2.2.1).length -1))<|ck (0<=I (CK.names y9.2.2.1).length -1/\I (CK.names y9.2.2.1).length -1<=I (CK.names y9.2.2.1).length)<|Ao y9.1.1 (CK.Cp y9.2.2.1 (List.take (I (CK.names y9.2.2.1).length -1).toNat (CK.names y9.2.2.1))) y9.2.2.2.1)
   fun y3=>ck ((0:Int)<=1/\1<=I (CK.names y3.2.1).length)<|(Dh.kL 999999).2.1 [] y3.1.1 (CK.Cp y3.2.1 (List.take (Int.toNat 1) (CK.names y3.2.1))) y3.2.2.1)
   fun y6=>ck (Au (1+1))<|(GF.kL 999995).2.1 [0,7] (I 2) (1+1) [] [] 0 [] (y6.2.1.1,(),y6.2.1.2.2.1,y6.2.1.2.2.2.1,y6.2.1.2.2.2.2.1,y6.2.1.2.2.2.2.2.1,y6.2.1.2.2.2.2.2.2.1,y6.2.1.2.2.2.2.2.2.2.1,y6.2.1.2.2.2.2.2.2.2.2.1,(),y6.2.1.2.2.2.2.2.2.2.2.2.2.1,y6.2.1.2.2.2.2.2.2.2.2.2.2.2.1,(),(),y6.2.1.2.2.2.2.2.2.2.2.2.2.2.2.2.2.1,y6.2.1.2.2.2.2.2.2.2.2.2.2.2.2.2.2.2.1,y6.2.1.2.2.2.2.2.2.2.2.2.2.2.2.2.2.2.2.1,y6.2.1.2.2.2.2.2.2.2.2.2.2.2.2.2.2.2.2.2.1,y6.2.1.2.2.2.2.2.2.2.2.2.2.2.2.2.2.2.2.2.2.1,()) y6.2.2.1:=by kernel_rfl
theorem aD (n ty:Int) (h:ty=1/\n<2147483648\/ty=2/\2147483648<=n):GF.k (eX n)=Ln (FI (IntKind.i32.wrap (IntKind.u32.wrap n))) 0 0:=by
 rw [bD,bE n ty h]
 kernel_rfl
end Go.Proofs.Tryz
