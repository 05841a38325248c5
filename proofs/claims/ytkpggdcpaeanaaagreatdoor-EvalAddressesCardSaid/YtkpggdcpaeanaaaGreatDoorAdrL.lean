/-
 EvalAddresses: the law.
-/
import Derived.Test.YtkpggdcpaeanaaaGreatDoorMu
set_option linter.all false
set_option maxRecDepth 1000000
set_option maxHeartbeats 1000000
namespace Go.Proofs.Tryz
open Go Go.En
def ic:List UInt8:=[105,110,116,32,103,61,53,59,105,110,116,32,109,97,105,110,40,41,123,114,101,116,117,114,110,32,42,40,105,110,116,42,41]
def jH:List (Nat×Dop.Tok):=[(0,.mk 2 [105,110,116] 0 0),(1,.mk 1 [103] 0 0),(0,.mk 4 [61] 0 0),(0,.mk 3 [53] 5 0),(0,.mk 4 [59] 0 0),(0,.mk 2 [105,110,116] 0 0),(1,.mk 1 [109,97,105,110] 0 0),(0,.mk 4 [40] 0 0),(0,.mk 4 [41] 0 0),(0,.mk 4 [123] 0 0),(0,.mk 2 [114,101,116,117,114,110] 0 0),(1,.mk 4 [42] 0 0),(0,.mk 4 [40] 0 0),(0,.mk 2 [105,110,116] 0 0),(0,.mk 4 [42] 0 0),(0,.mk 4 [41] 0 0)]
def fB (w:List UInt8) (n:Int):List (Nat×Dop.Tok):=jH++([(0,.mk 3 w n 0)]++[(0,.mk 4 [59] 0 0),(0,.mk 4 [125] 0 0)])
theorem VR: ∀ t:List UInt8,4<=t.length->t.length<=13->gN 16 (ic++t)=some (jH,t)
 | [],h,_=>by simp at h
 | [_],h,_=>by simp at h
 | [_,_],h,_=>by simp at h
 | [_,_,_],h,_=>by simp at h
 | [a0,a1,a2,a3],_,_=>by kernel_rfl
 | [a0,a1,a2,a3,a4],_,_=>by kernel_rfl
 | [a0,a1,a2,a3,a4,a5],_,_=>by kernel_rfl
 | [a0,a1,a2,a3,a4,a5,a6],_,_=>by kernel_rfl
 | [a0,a1,a2,a3,a4,a5,a6,a7],_,_=>by kernel_rfl
 | [a0,a1,a2,a3,a4,a5,a6,a7,a8],_,_=>by kernel_rfl
 | [a0,a1,a2,a3,a4,a5,a6,a7,a8,a9],_,_=>by kernel_rfl
 | [a0,a1,a2,a3,a4,a5,a6,a7,a8,a9,a10],_,_=>by kernel_rfl
 | [a0,a1,a2,a3,a4,a5,a6,a7,a8,a9,a10,a11],_,_=>by kernel_rfl
 | [a0,a1,a2,a3,a4,a5,a6,a7,a8,a9,a10,a11,a12],_,_=>by kernel_rfl
 | _::_::_::_::_::_::_::_::_::_::_::_::_::_::_,_,h=>by simp only [List.length_cons] at h;omega
theorem YZ:gN 2 [59,125]=some ([(0,.mk 4 [59] 0 0),(0,.mk 4 [125] 0 0)],[]):=by kernel_rfl
theorem VS (w:List UInt8) (n:Int):m20.k (pl 0 (fB w n)++[.mk 0 [] 0 (I (Kw (fB w n)))])=Ln (eX n) 0 0:=by kernel_rfl
def bC (u:Nat):List UInt8:=ic++(Lib.decDigits u++117::[59,125])
theorem dec_lt: ∀ (k u:Nat),u<10 ^ (k+1)->(Lib.decDigits u).length<=k+1
 | 0,u,h=>by rw [Lib.decDigits,dif_pos (by omega)];simp
 | k+1,u,h=>by
  rw [Lib.decDigits]
  by_cases h2:u<10
  ·rw [dif_pos h2];simp
  ·rw [dif_neg h2,List.length_append,List.length_singleton]
   have:=dec_lt k (u / 10) (by rw [Nat.pow_succ] at h;omega)
   omega
theorem TN {u:Nat} (hu:u<=4294967295):1<=(Lib.decDigits u).length/\(Lib.decDigits u).length<=10:=⟨List.length_pos_iff.2 (aF u).2.2,dec_lt 9 u (by omega)⟩
theorem L4 {α δ ε β:Type} {a:α} {x:δ} {y:ε} {k:(α×δ×ε×Unit)×Unit->Option β}:Option.bind (Ln a x y) k=k ((a,x,y,()),()):=rfl
theorem Yd {u:Nat} (hu:u<=4294967295):m19.k (bC u)=Ln (pl 0 (fB (Lib.decDigits u++[117]) u)++[.mk 0 [] 0 (I (Kw (fB (Lib.decDigits u++[117]) u)))]) 0 0:=by
 have hl:=TN hu
 refine Zy (by unfold bC ic;simp only [List.length_append,List.length_cons,List.length_nil];omega) ?_ (by unfold fB jH;simp)
 exact LX.app (SZ (VR _ (by simp only [List.length_append,List.length_cons,List.length_nil];omega) (by simp only [List.length_append,List.length_cons,List.length_nil];omega))) (LX.app (az hu (t:=[59,125]) (fun d r h=>by cases h;rfl) (by simp only [List.length_append,List.length_cons,List.length_nil];omega)).2 (SZ YZ))
theorem Yc {u:Nat} (hu:u<=4294967295):m18.k (bC u)=Ln (FI (IntKind.i32.wrap (IntKind.u32.wrap u))) 0 0:=by
 have h42:GF.k (eX u)=Ln (FI (IntKind.i32.wrap (IntKind.u32.wrap u))) 0 0:=by
  by_cases h:(u:Int)<2147483648
  ·exact aD u 1 (.inl ⟨rfl,h⟩)
  ·exact aD u 2 (.inr ⟨rfl,by omega⟩)
 have h41:Up.k (bC u)=Ln (eX u) 0 0:=by
  unfold Up.k
  rw [Yd hu,L4]
  dsimp only
  rw [AL (show (!decide ((0:Int)=0))=false from rfl),VS]
  rfl
 unfold m18.k
 rw [h41,L4]
 dsimp only
 rw [AL (show (!decide ((0:Int)=0))=false from rfl),h42]
 rfl
section
variable {p:Dop.I8} {mem:List Int} {sp:Int} {inp out:List Int} {fu:Int} {fr:EF} {i:Int} {d:Nat} {v:Int} {m1:List Int} {sp1:Int} {i1 o1:List Int} {u1:Int} {f1:EF} {s':ER} {h:Int}
theorem EX.ld (h0:0<fu) (h1:fu<=1000000) (hi:fi p i) (hk:(nd p i).kind=4) (ha: ∀ n,Fk.kf (Bd.kR (n+d)) (nd p i) (st p mem sp inp out (fu -1)) fr=Ao v s' f1):EX (d+2) i (st p mem sp inp out fu) fr v s' f1:=fun n=>by
 rw [show n+(d+2)=n+d+1+1 from rfl,ZE,aU]
 unfold BF.kf BF.k0
 rw [Yg h0 h1,JB]
 dsimp only
 rw [show List.getD (ER.p (st p mem sp inp out (fu -1))).nodes i.toNat Dop.d5=nd p i from rfl,AL (by rfl),AM (decide_eq_true hi),AL (decide_eq_false (by omega)),AL (decide_eq_false (by omega)),AL (decide_eq_false (by omega)),Ak (decide_eq_true hk),Ak (decide_eq_true hk),ZE,gB,ha n]
 rfl
theorem ST.gQ (h0:0<fu) (h1:fu<=1000000) (hi:fi p i) (hs:EF.KO fr=0) (hd:DO d (nd p i) (st p mem sp inp out (fu -1)) fr h s' f1) (he:ER.end_ s'≠0):ST (d+1) i (st p mem sp inp out fu) fr 5 s' f1:=fun n=>by
 rw [show n+(d+1)=n+d+1 from rfl,ZE,aS]
 unfold Cj.kf
 rw [AL (by rw [hs];rfl),Ak (decide_eq_true hs),Yg h0 h1,JB]
 dsimp only
 rw [show List.getD (ER.p (st p mem sp inp out (fu -1))).nodes i.toNat Dop.d5=nd p i from rfl,AL (by rfl),AM (decide_eq_true hi),hd n,G7]
 dsimp only
 rw [Ak (by rw [decide_eq_false he];rfl)]
end
abbrev YF (p:Dop.I8) (mem:List Int) (sp:Int) (inp out:List Int) (fu e c:Int):ER:=(p,mem,sp,inp,out,fu,e,c,0,(),())
theorem Yb (u:Nat) (hu:u<=4294967295):FM.k (IntKind.i32.wrap (IntKind.u32.wrap u))=CW (u:Int):=by
 have e:IntKind.u32.wrap (IntKind.i32.wrap (IntKind.u32.wrap (u:Int)))=u:=by rw [IntKind.wrap_u32,IntKind.wrap_i32,IntKind.wrap_u32];omega
 unfold FM.k
 rw [e,AM (A0.2 (by omega))]
theorem I9 (v:Int) (k:Nat) (h:k<7):fi (FI v) (I k):=⟨by simp only [I];omega,by show ((k:Nat):Int)<((7:Nat):Int);omega⟩
abbrev H4 (t:Int):EF:=(.mk [109,97,105,110] 0 0 0 6,[],2,t,[],0,0,())
def FH:List Int:=(List.replicate 4096 0).set 1 5
theorem VU (u:Nat) (hu:u<=4294967295) (fu:Int) (h0:0<fu) (h1:fu<=1000000) (n:Nat):
  Fk.kf (Bd.kR (n+1)) (nd (FI (IntKind.i32.wrap (IntKind.u32.wrap u))) 1) (st (FI (IntKind.i32.wrap (IntKind.u32.wrap u))) FH 2 [] [] fu) (H4 0)=
  if 1<=u/\u<4096 then Ao (FH.getD u 0) (st (FI (IntKind.i32.wrap (IntKind.u32.wrap u))) FH 2 [] [] (fu -1)) (H4 0)
  else Ao 0 (YF (FI (IntKind.i32.wrap (IntKind.u32.wrap u))) FH 2 [] [] (fu -1) 2 1) (H4 0):=by
 have ex:EX 1 0 (st (FI (IntKind.i32.wrap (IntKind.u32.wrap u))) FH 2 [] [] fu) (H4 0) (IntKind.i32.wrap (IntKind.u32.wrap u)) (st (FI (IntKind.i32.wrap (IntKind.u32.wrap u))) FH 2 [] [] (fu -1)) (H4 0):=EX.num h0 h1 (I9 _ 0 (by decide)) rfl
 have hm:I FH.length=4096:=by unfold FH I;rw [List.length_set,List.length_replicate];rfl
 unfold Fk.kf
 rw [show (nd (FI (IntKind.i32.wrap (IntKind.u32.wrap u))) 1).a=0 from rfl,ex n,G7]
 dsimp only
 rw [AL (show decide ((nd (FI (IntKind.i32.wrap (IntKind.u32.wrap u))) 1).kind=5)=false from rfl),AL (show (!decide ((st (FI (IntKind.i32.wrap (IntKind.u32.wrap u))) FH 2 [] [] (fu -1)).end_=0))=false from rfl),Yb u hu,B4]
 dsimp only
 rw [show (ER.mem (st (FI (IntKind.i32.wrap (IntKind.u32.wrap u))) FH 2 [] [] (fu -1)))=FH from rfl,hm]
 by_cases h:1<=u/\u<4096
 ·rw [if_pos h,AL (decide_eq_false (by omega)),AL (decide_eq_false (by omega)),AM (decide_eq_true (by omega)),Ak (show decide ((nd (FI (IntKind.i32.wrap (IntKind.u32.wrap u))) 1).kind=4)=true from rfl),AM (decide_eq_true (by simp only [I] at hm;omega))]
  rfl
 ·rw [if_neg h]
  by_cases h2:(u:Int)<1
  ·rw [Ak (decide_eq_true h2)];rfl
  ·rw [AL (decide_eq_false h2),Ak (decide_eq_true (by omega))];rfl
theorem bG (v:Int):I4.k (FI v) [] 1000=Option.bind (m64.kr (Bd.kR 1000000000) 0 [] (st (FI v) FH 2 [] [] 1000)) fun y4=>ci (ER.end_ y4.2.1=0) ((Li.k 1 y4.1.1 y4.2.1).bind fun y6=>CW (Dop.RS.mk (ER.end_ y6.2.1) (ER.code y6.2.1) (ER.out y6.2.1)))<|CW (Dop.RS.mk (ER.end_ y4.2.1) (ER.code y4.2.1) (ER.out y4.2.1)):=by kernel_rfl
theorem CL.gQ {p:Dop.I8} {mem inp out:List Int} {sp fu:Int} {m1 i1 o1:List Int} {u1 e c h k:Int} {f1:EF} {args:List Int} {g:Dop.EY} {d:Nat} (hk:0<=k/\k<I p.funcs.length) (hg:List.getD p.funcs k.toNat Dop.d11=g) (hm:sp+g.frame<=I mem.length) (hr:0<=g.Aw/\g.Aw<=1000000) (hs:0<=sp/\sp<=1000000) (hf:0<=g.frame/\g.frame<=1000000)
  (hd:ST d g.body (st p mem (sp+g.frame) inp out fu) (iv g args sp) h (YF p m1 (sp+g.frame) i1 o1 u1 e c) f1) (hh:h≠4):CL (d+1) k args (st p mem sp inp out fu) (EF.told f1) (YF p m1 sp i1 o1 u1 e c):=fun n=>by
 rw [show n+(d+1)=n+d+1 from rfl,ZE,gC]
 unfold m64.kf m64.k0
 dsimp only
 rw [show List.getD (ER.p (st p mem sp inp out fu)).funcs k.toNat Dop.d11=g from hg,AL (show (!decide ((st p mem sp inp out fu).end_=0))=false from rfl),AL (decide_eq_false (by omega)),AM (decide_eq_true hk),AM (A0.2 (show -9223372036854775808<=sp+g.frame/\sp+g.frame<=9223372036854775807 by omega)),AL (decide_eq_false (show ¬ I mem.length<sp+g.frame by omega)),
  AM (decide_eq_true (show 0<=g.Aw/\g.Aw<=g.Aw/\g.Aw*(I 8+1)<=140737488355328 by simp only [I];omega)),AM (A0.2 (show -9223372036854775808<=sp+g.frame/\sp+g.frame<=9223372036854775807 by omega))]
 show Kl.kB (Bd.kR (n+d)) _ (st p mem (sp+g.frame) inp out fu) g (iv g args sp)=_
 unfold Kl.kB
 rw [hd n,G7]
 dsimp only
 rw [AL (decide_eq_false hh),AM (A0.2 (show -9223372036854775808<=sp+g.frame -g.frame/\sp+g.frame -g.frame<=9223372036854775807 by omega))]
 show CJ _ (YF p m1 (sp+g.frame -g.frame) i1 o1 u1 e c)=_
 rw [show sp+g.frame -g.frame=sp by omega]
def ig (u:Nat):Dop.RS:=if 1<=u/\u<4096 then .mk 1 (FH.getD u 0) [] else .mk 2 1 []
theorem bH (u:Nat) (hu:u<=4294967295) (fu:Int) (hf:fu=1000):I4.k (FI (IntKind.i32.wrap (IntKind.u32.wrap u))) [] 1000=CW (ig u):=by
 generalize hw:IntKind.i32.wrap (IntKind.u32.wrap (u:Int))=w
 have ht:=fun n=>VU u hu (fu -1 -1 -1 -1) (by omega) (by omega) n
 rw [hw] at ht
 rw [bG]
 unfold ig
 have hm:(2:Int)+0<=I FH.length:=by unfold FH I;rw [List.length_set,List.length_replicate];decide
 by_cases h:1<=u/\u<4096
 ·simp only [if_pos h] at ht ⊢
  generalize FH.getD u 0=x at ht ⊢
  have e1:EX 3 1 (st (FI w) FH 2 [] [] (fu -1 -1 -1)) (H4 0) x (st (FI w) FH 2 [] [] (fu -1 -1 -1 -1 -1)) (H4 0):=EX.ld (d:=1) (by omega) (by omega) (I9 w 1 (by decide)) rfl ht
  have s2:ST 5 2 (st (FI w) FH 2 [] [] (fu -1 -1)) (H4 0) 3 (st (FI w) FH 2 [] [] (fu -1 -1 -1 -1 -1)) (H4 x):=ST.of (by omega) (by omega) (I9 w 2 (by decide)) rfl (DO.Ed (v:=x) (f1:=H4 0) rfl (dk rfl) e1)
  have b4:BL 5 1 [2] 0 (st (FI w) FH 2 [] [] (fu -1 -1)) (H4 0) 3 (st (FI w) FH 2 [] [] (fu -1 -1 -1 -1 -1)) (H4 x):=BL.exit (by decide) s2 (by decide)
  have s4:ST 7 4 (st (FI w) FH 2 [] [] (fu -1)) (H4 0) 3 (st (FI w) FH 2 [] [] (fu -1 -1 -1 -1 -1)) (H4 x):=ST.of (by omega) (by omega) (I9 w 4 (by decide)) rfl (DO.block rfl (by kernel_rfl) b4 (by decide))
  have b6:BL 7 1 [4] 0 (st (FI w) FH 2 [] [] (fu -1)) (H4 0) 3 (st (FI w) FH 2 [] [] (fu -1 -1 -1 -1 -1)) (H4 x):=BL.exit (by decide) s4 (by decide)
  have s6:ST 9 6 (st (FI w) FH 2 [] [] fu) (H4 0) 3 (st (FI w) FH 2 [] [] (fu -1 -1 -1 -1 -1)) (H4 x):=ST.of (by omega) (by omega) (I9 w 6 (by decide)) rfl (DO.block rfl (by kernel_rfl) b6 (by decide))
  have c0:CL 10 0 [] (st (FI w) FH 2 [] [] fu) x (st (FI w) FH 2 [] [] (fu -1 -1 -1 -1 -1)):=CL.of (sp:=2) (h:=3) (f1:=H4 x) (d:=9) (g:=.mk [109,97,105,110] 0 0 0 6) ⟨dk rfl,dk rfl⟩ rfl hm ⟨dk rfl,dk rfl⟩ ⟨dk rfl,dk rfl⟩ ⟨dk rfl,dk rfl⟩ s6 (by decide)
  have:=c0 999999990
  subst hf
  rw [show 999999990+10=1000000000 from rfl] at this
  rw [this]
  rfl
 ·simp only [if_neg h] at ht ⊢
  have e1:EX 3 1 (st (FI w) FH 2 [] [] (fu -1 -1 -1)) (H4 0) 0 (YF (FI w) FH 2 [] [] (fu -1 -1 -1 -1 -1) 2 1) (H4 0):=EX.ld (d:=1) (by omega) (by omega) (I9 w 1 (by decide)) rfl ht
  have s2:ST 5 2 (st (FI w) FH 2 [] [] (fu -1 -1)) (H4 0) 5 (YF (FI w) FH 2 [] [] (fu -1 -1 -1 -1 -1) 2 1) (H4 0):=ST.gQ (by omega) (by omega) (I9 w 2 (by decide)) rfl (DO.Ed (v:=0) (f1:=H4 0) rfl (dk rfl) e1) (show (2:Int)≠0 by decide)
  have b4:BL 5 1 [2] 0 (st (FI w) FH 2 [] [] (fu -1 -1)) (H4 0) 5 (YF (FI w) FH 2 [] [] (fu -1 -1 -1 -1 -1) 2 1) (H4 0):=BL.exit (by decide) s2 (by decide)
  have s4:ST 7 4 (st (FI w) FH 2 [] [] (fu -1)) (H4 0) 5 (YF (FI w) FH 2 [] [] (fu -1 -1 -1 -1 -1) 2 1) (H4 0):=ST.gQ (by omega) (by omega) (I9 w 4 (by decide)) rfl (DO.block rfl (by kernel_rfl) b4 (by decide)) (show (2:Int)≠0 by decide)
  have b6:BL 7 1 [4] 0 (st (FI w) FH 2 [] [] (fu -1)) (H4 0) 5 (YF (FI w) FH 2 [] [] (fu -1 -1 -1 -1 -1) 2 1) (H4 0):=BL.exit (by decide) s4 (by decide)
  have s6:ST 9 6 (st (FI w) FH 2 [] [] fu) (H4 0) 5 (YF (FI w) FH 2 [] [] (fu -1 -1 -1 -1 -1) 2 1) (H4 0):=ST.gQ (by omega) (by omega) (I9 w 6 (by decide)) rfl (DO.block rfl (by kernel_rfl) b6 (by decide)) (show (2:Int)≠0 by decide)
  have c0:CL 10 0 [] (st (FI w) FH 2 [] [] fu) 0 (YF (FI w) FH 2 [] [] (fu -1 -1 -1 -1 -1) 2 1):=CL.gQ (sp:=2) (h:=5) (f1:=H4 0) (d:=9) (g:=.mk [109,97,105,110] 0 0 0 6) ⟨dk rfl,dk rfl⟩ rfl hm ⟨dk rfl,dk rfl⟩ ⟨dk rfl,dk rfl⟩ ⟨dk rfl,dk rfl⟩ s6 (by decide)
  have:=c0 999999990
  subst hf
  rw [show 999999990+10=1000000000 from rfl] at this
  rw [this]
  rfl
theorem Xn (a:Int): ∃ v,Uo.k a=CW v/\0<=v/\v<=4294967295:=by
 have h1:a.tmod 4294967296<4294967296:=Int.tmod_lt_of_pos a (by decide)
 have h2: -4294967296<a.tmod 4294967296:=by
  have:=Int.tmod_lt_of_pos (-a) (b:=4294967296) (by decide)
  rw [Int.neg_tmod] at this
  omega
 unfold Uo.k VE.k
 dsimp only
 generalize a.tmod 4294967296=t at*
 rw [AM (by decide)]
 by_cases h3:2147483648<=t
 ·rw [Ak (decide_eq_true h3),AM (A0.2 (by omega)),B4]
  dsimp only
  rw [Ak (decide_eq_true (by omega)),AM (A0.2 (by omega))]
  exact ⟨_,rfl,by omega,by omega⟩
 ·rw [AL (decide_eq_false h3)]
  by_cases h4:t< -2147483648
  ·rw [Ak (decide_eq_true h4),AM (A0.2 (by omega)),B4]
   dsimp only
   rw [AL (decide_eq_false (by omega))]
   exact ⟨_,rfl,by omega,by omega⟩
  ·rw [AL (decide_eq_false h4),B4]
   dsimp only
   by_cases h5:t<0
   ·rw [Ak (decide_eq_true h5),AM (A0.2 (by omega))]
    exact ⟨_,rfl,by omega,by omega⟩
   ·rw [AL (decide_eq_false h5)]
    exact ⟨_,rfl,by omega,by omega⟩
theorem VQ (u:Nat) (h:u<4096):FH.getD u 0=if u=1 then 5 else 0:=by
 unfold FH
 rw [List.getD_eq_getElem?_getD,List.getElem?_set,List.length_replicate]
 by_cases h1:1=u
 ·subst h1;rfl
 ·rw [if_neg h1,if_neg (fun e=>h1 e.symm),List.getElem?_replicate,if_pos h];rfl
theorem Ng (a:Int):m14.k a=some ((true,()),()):=by
 obtain ⟨v,hv,h0,h1⟩:=Xn a
 obtain ⟨u,rfl⟩: ∃ u:Nat,v=u:=⟨v.toNat,by omega⟩
 have hu:u<=4294967295:=by omega
 have hl:=TN hu
 have hi:Lib.itoa (u:Int)=Lib.decDigits u:=Lib.itoa_nonneg u
 unfold m14.k
 rw [hv,B4]
 dsimp only
 rw [hi,AM (by unfold jS;exact decide_eq_true (by omega)),AM (decide_eq_true (by simp only [List.length_cons,List.length_nil];omega)),AM (decide_eq_true (by simp only [List.length_append,List.length_cons,List.length_nil];omega))]
 have hb:RT.k (bC u) [] 1000=I5 (ig u) 0:=by
  unfold RT.k
  rw [Yc hu,L4]
  dsimp only
  rw [AL (show (!decide ((0:Int)=0))=false from rfl),bH u hu 1000 rfl]
  rfl
 refine Eq.trans (congrArg (fun z=>Option.bind z _) ((congrArg (fun l=>RT.k l [] 1000) (show ic++Lib.decDigits u++[117,59,125]=bC u by unfold bC;rw [List.append_assoc])).trans hb)) ?_
 rw [G8]
 dsimp only
 unfold ig
 by_cases e1:u=1
 ·subst e1
  rw [Ak (by rfl),if_pos (by decide),VQ 1 (by decide),if_pos rfl]
  rw [Ak (by rfl),same 1 5 [] (by decide)]
  rfl
 ·rw [AL (decide_eq_false (by omega))]
  by_cases e2:1<u
  ·rw [Ak (decide_eq_true (by omega))]
   by_cases e3:u<4096
   ·rw [Ak (decide_eq_true (by omega)),if_pos ⟨by omega,e3⟩,VQ u e3,if_neg e1,Ak (by rfl),same 1 0 [] (by decide)]
    rfl
   ·rw [AL (decide_eq_false (by omega)),if_neg (by omega),Ak (by rfl),same 2 1 [] (by decide)]
    rfl
  ·rw [AL (decide_eq_false (by omega)),if_neg (by omega),Ak (by rfl),same 2 1 [] (by decide)]
   rfl
end Go.Proofs.Tryz
