/-
 EvalChars: the law.
-/
import Derived.Test.YtkpggdcpaeanaaaGreatDoorMv
set_option linter.all false
set_option maxRecDepth 1000000
set_option maxHeartbeats 1000000
namespace Go.Proofs.Tryz
open Go Go.En
theorem JH {α δ ε β:Type} {a:α} {x:δ} {y:ε} {k:(α×δ×ε×Unit)×Unit->Option β}:Option.bind (Js a x y) k=k ((a,x,y,()),()):=rfl
abbrev wr (n:Int):Int:=IntKind.i32.wrap (IntKind.u32.wrap n)
theorem dec_lt: ∀ (k u:Nat),u<10 ^ (k+1)->(Lib.decDigits u).length<=k+1
 | 0,u,h=>by rw [Lib.decDigits,dif_pos (by omega)];simp
 | k+1,u,h=>by
  rw [Lib.decDigits]
  by_cases h2:u<10
  ·rw [dif_pos h2];simp
  ·rw [dif_neg h2,List.length_append,List.length_singleton]
   have:=dec_lt k (u / 10) (by rw [Nat.pow_succ] at h;omega)
   omega
theorem Eu {u:Nat} (hu:u<=4294967295):1<=(Lib.decDigits u).length/\(Lib.decDigits u).length<=10:=⟨List.length_pos_iff.2 (WU u).2.2,dec_lt 9 u (by omega)⟩
theorem lA {u:Nat}: ∃ c w,Lib.decDigits u=c::w/\Rs c:=by
 obtain ⟨_,h2,h3⟩:=WU u
 generalize Lib.decDigits u=l at*
 cases l with
 | nil=>exact absurd rfl h3
 | cons c r=>exact ⟨c,r,rfl,h2 c List.mem_cons_self⟩
theorem cb (u:Nat): ∃ ty,cV (u:Int) ty:=by
 by_cases h:(u:Int)<2147483648
 ·exact ⟨1,.inl ⟨rfl,h⟩⟩
 ·exact ⟨2,.inr ⟨rfl,by omega⟩⟩
theorem WK {x:UInt8} (hx:Vm x=false) {l:List UInt8}: ∀ d r,x::l=d::r->Vm d=false:=fun d r h=>by cases h;exact hx
theorem gv {u:Nat} (hu:u<=4294967295) {t:List UInt8} (ht: ∀ d r,t=d::r->Vm d=false) (h0:11<=t.length) (h1:t.length<=43):LX (61::(Lib.decDigits u++117::t)) (SP++ZM (Lib.decDigits u) u) t:=by
 have hl:=Eu hu
 have hn:=(Vr hu (t:=t) ht (by rw [List.length_append];omega)).2
 obtain ⟨c,w,e,hc⟩:=lA (u:=u)
 refine LX.app ?_ hn
 rw [e] at hl ⊢
 simp only [List.length_cons] at hl
 exact Ir (gl c hc (w++117::t) (by simp only [List.length_append,List.length_cons];omega) (by simp only [List.length_append,List.length_cons];omega))
def WG (w:List UInt8):List UInt8:=([105,110,116,32,109,97,105,110,40,41,123,99,104,97,114,32,99,61]:List UInt8)++w++[117,59,114,101,116,117,114,110,32,99,59,125]
def WI (w w2:List UInt8):List UInt8:=([105,110,116,32,109,97,105,110,40,41,123,117,110,115,105,103,110,101,100,32,97,61]:List UInt8)++w++[117,59,105,110,116,32,98,61,40,105,110,116,41]++w2++[117,59,114,101,116,117,114,110,32,40,105,110,116,41,40,97,47,98,41,59,125]
theorem ZN (w:List UInt8):WG w=ZP++61::(w++117::Uu):=by
 unfold WG ZP Uu
 simp
theorem ZO (w w2:List UInt8):WI w w2=ZQ++61::(w++117::(SQ++(w2++117::QU))):=by
 unfold WI ZQ QU SQ
 simp
theorem hP {u:Nat} (hu:u<=4294967295):LX (WG (Lib.decDigits u)) (WJ (Lib.decDigits u) u) []:=by
 have hl:=Eu hu
 have hz:Uu.length=11:=rfl
 rw [ZN]
 refine LX.app (Ir (gm (Lib.decDigits u++117::Uu) (by simp only [List.length_append,List.length_cons];omega) (by simp only [List.length_append,List.length_cons];omega))) ?_
 rw [<-List.append_assoc SP]
 exact LX.app (gv hu (t:=Uu) (WK (x:=59) rfl) (by omega) (by omega)) (Ir gY)
theorem hS {u v:Nat} (hu:u<=4294967295) (hv:v<=4294967295):LX (WI (Lib.decDigits u) (Lib.decDigits v)) (MJ (Lib.decDigits u) u (Lib.decDigits v) v) []:=by
 have hl:=Eu hu
 have hk:=Eu hv
 have hz:QU.length=20:=rfl
 have hm:SQ.length=12:=rfl
 rw [ZO]
 refine LX.app (Ir (gn (Lib.decDigits u++117::(SQ++(Lib.decDigits v++117::QU))) (by simp only [List.length_append,List.length_cons];omega) (by simp only [List.length_append,List.length_cons];omega))) ?_
 rw [<-List.append_assoc SP]
 refine LX.app (gv hu (t:=SQ++(Lib.decDigits v++117::QU)) (WK (x:=59) rfl) (by simp only [List.length_append,List.length_cons];omega) (by simp only [List.length_append,List.length_cons];omega)) ?_
 refine LX.app (Ir (gp (Lib.decDigits v++117::QU) (by simp only [List.length_append,List.length_cons];omega) (by simp only [List.length_append,List.length_cons];omega))) ?_
 exact LX.app (Vr hv (t:=QU) (WK (x:=59) rfl) (by rw [List.length_append];omega)).2 (Ir gZ)
theorem bF {s:List UInt8} {l:Vw} {t:Dop.G2} {p:Dop.IF} (hs:s.length<=32768) (hx:LX s l []) (hl:l.length<8192) (hq:m20.k (pl 0 l++[.mk 0 [] 0 (I (Kb l))])=Js t 0 0) (ho:F5.k t=Js p 0 0):m18.k s=Js p 0 0:=by
 have h41:VL.k s=Js t 0 0:=by
  unfold VL.k
  rw [ai hs hx hl,JH]
  dsimp only
  rw [AL (show (!decide ((0:Int)=0))=false from rfl),hq]
  rfl
 unfold m18.k
 rw [h41,JH]
 dsimp only
 rw [AL (show (!decide ((0:Int)=0))=false from rfl),ho]
 rfl
theorem hH {u:Nat} (hu:u<=4294967295):m18.k (WG (Lib.decDigits u))=Js (Kl (wr u)) 0 0:=by
 have hl:=Eu hu
 obtain ⟨ty,h⟩:=cb u
 exact bF (by unfold WG;simp only [List.length_append,List.length_cons,List.length_nil];omega) (hP hu) (by show 14<8192;decide) (gz _ _) (cd _ _ _ h)
theorem hO {u v:Nat} (hu:u<=4294967295) (hv:v<=4294967295):m18.k (WI (Lib.decDigits u) (Lib.decDigits v))=Js (E6 (wr u) (wr v)) 0 0:=by
 have hl:=Eu hu
 have hk:=Eu hv
 obtain ⟨ty,h⟩:=cb u
 obtain ⟨uy,k⟩:=cb v
 exact bF (by unfold WI;simp only [List.length_append,List.length_cons,List.length_nil];omega) (hS hu hv) (by show 29<8192;decide) (hC _ _ _ _) (cg _ _ _ _ _ _ _ _ _ _ h k)
theorem ZG (v:Int):bits BinOp.and IntKind.i64 v 255=v % 256:=by
 have h31:(BitVec.ofInt 64 255).toNat=2 ^ 8 -1:=by decide
 have key:(BitVec.ofInt 64 v &&& BitVec.ofInt 64 255).toNat=(v % ((2 ^ 64:Nat):Int)).toNat % 2 ^ 8:=by
  rw [BitVec.toNat_and,BitVec.toNat_ofInt,h31,Nat.and_two_pow_sub_one_eq_mod]
 show IntKind.i64.wrap ((BitVec.ofInt 64 v &&& BitVec.ofInt 64 255).toNat:Nat)=_
 rw [key,IntKind.wrap_i64]
 omega
theorem di {v:Int} (hv:iV v):BJ.k 22 v 0=GP (v % 256) true:=by
 unfold BJ.k BJ.k0
 rw [bA,bA,Ae,Ae]
 dsimp only
 rw [Uj hv]
 show Option.bind (Dg.k (bits BinOp.and IntKind.i64 v 255)) _=_
 rw [ZG]
 unfold Dg.k
 rw [bA,Uj (show iV (v % 256) by omega)]
 rfl
theorem j7 (u:Nat) (hu:u<=4294967295):IntKind.u32.wrap (wr u)=u:=by unfold wr;rw [IntKind.wrap_u32,IntKind.wrap_i32,IntKind.wrap_u32];omega
theorem dh {u v:Nat} (hu:u<=4294967295) (hv:v<=4294967295):BJ.k 6 (wr u) (wr v)=if v=0 then GP 0 false else GP (wr (u / v:Nat)) true:=by
 have hd:u / v<=u:=Nat.div_le_self u v
 have hd0:(0:Int)<=((u / v:Nat):Int):=Int.natCast_nonneg _
 unfold BJ.k BJ.k0
 rw [bA,bA,Ae,Ae]
 dsimp only
 rw [Uj (Uk u),Uj (Uk v)]
 show Option.bind (Ey.k (wr u)) (fun y2=>Option.bind (Ey.k (wr v)) fun y3=>Option.bind (DY.k y2.1.1 y3.1.1) fun y4=>Option.bind (EC.k y4.1.1) fun y5=>GP y5.1.1 y4.1.2.2.1)=_
 have e5: ∀ w:Nat,w<=4294967295->Ey.k (wr w)=CO (w:Int):=fun w hw=>by
  unfold Ey.k
  rw [j7 w hw,AK (Av.2 (by omega))]
 rw [e5 u hu,e5 v hv,Ae,Ae]
 dsimp only
 unfold DY.k DY.k0
 by_cases h:v=0
 ·subst h
  rw [if_pos rfl]
  rfl
 ·rw [if_neg h,AL (decide_eq_false (by omega)),Int.tdiv_eq_ediv_of_nonneg (by omega),<- Int.natCast_ediv,AK (decide_eq_true ⟨by omega,Av.2 (by omega)⟩),AK (decide_eq_true (by omega)),JH]
  dsimp only
  rw [bA]
  rfl
section
variable {p:Dop.IF} {mem:List Int} {sp:Int} {inp out:List Int} {fu:Int} {fr:EF} {i:Int} {d:Nat} {v w:Int} {m1:List Int} {sp1:Int} {i1 o1:List Int} {u1:Int} {f1:EF} {m2:List Int} {sp2:Int} {i2 o2:List Int} {u2:Int} {f2:EF} {s':ER} {h:Int}
abbrev Vc (p:Dop.IF) (mem:List Int) (sp:Int) (inp out:List Int) (fu e c:Int):ER:=(p,mem,sp,inp,out,fu,e,c,0,(),())
theorem EX.lp (h0:0<fu) (h1:fu<=1000000) (hi:XI p i) (hk:(nd p i).kind=8) {x:Int} (ha:EX d (nd p i).a (st p mem sp inp out (fu -1)) fr v (st p m1 sp1 i1 o1 u1) f1) (hb:EX d (nd p i).b (st p m1 sp1 i1 o1 u1) f1 w (st p m2 sp2 i2 o2 u2) f2) (ho:BJ.k (nd p i).n v w=GP x false):
  EX (d+2) i (st p mem sp inp out fu) fr 0 (Vc p m2 sp2 i2 o2 u2 2 2) f2:=fun n=>by
 rw [show n+(d+2)=n+d+1+1 from rfl,Qp,OR,Zv _ _ _ h0 h1 hi (by omega)]
 unfold Ex.kB
 dsimp only
 rw [AL (decide_eq_false (by omega)),AL (decide_eq_false (by omega)),Ai (decide_eq_true hk),Qp,XZ]
 unfold Fz.kf
 rw [ha n,Cx]
 dsimp only
 rw [Ai (decide_eq_true hk),hb n,Cx]
 dsimp only
 rw [AL (show (!decide ((st p _ _ _ _ _).end_=0))=false from rfl),ho,Cy]
 rfl
theorem ST.jA (h0:0<fu) (h1:fu<=1000000) (hi:XI p i) (hs:EF.KX fr=0) (hd:DO d (nd p i) (st p mem sp inp out (fu -1)) fr h s' f1) (he:ER.end_ s'≠0):ST (d+1) i (st p mem sp inp out fu) fr 5 s' f1:=fun n=>by
 rw [show n+(d+1)=n+d+1 from rfl,Qp,bS]
 unfold Cn.kf
 rw [AL (by rw [hs];rfl),Ai (decide_eq_true hs),V6 h0 h1,F9]
 dsimp only
 rw [show List.getD (ER.p (st p mem sp inp out (fu -1))).nodes i.toNat Dop.d5=nd p i from rfl,AL (by rfl),AK (decide_eq_true hi),hd n,Cx]
 dsimp only
 rw [Ai (by rw [decide_eq_false he];rfl)]
theorem CL.jA {e c k:Int} {args:List Int} {g:Dop.Eh} (hk:0<=k/\k<I p.funcs.length) (hg:List.getD p.funcs k.toNat Dop.d11=g) (hm:sp+g.frame<=I mem.length) (hr:0<=g.An/\g.An<=1000000) (hs:0<=sp/\sp<=1000000) (hf:0<=g.frame/\g.frame<=1000000)
  (hd:ST d g.body (st p mem (sp+g.frame) inp out fu) (kY g args sp) h (Vc p m1 (sp+g.frame) i1 o1 u1 e c) f1) (hh:h≠4):CL (d+1) k args (st p mem sp inp out fu) (EF.told f1) (Vc p m1 sp i1 o1 u1 e c):=fun n=>by
 rw [show n+(d+1)=n+d+1 from rfl,Qp,ic]
 unfold m64.kf m64.k0
 dsimp only
 rw [show List.getD (ER.p (st p mem sp inp out fu)).funcs k.toNat Dop.d11=g from hg,AL (show (!decide ((st p mem sp inp out fu).end_=0))=false from rfl),AL (decide_eq_false (by omega)),AK (decide_eq_true hk),AK (Av.2 (show -9223372036854775808<=sp+g.frame/\sp+g.frame<=9223372036854775807 by omega)),AL (decide_eq_false (show ¬ I mem.length<sp+g.frame by omega)),
  AK (decide_eq_true (show 0<=g.An/\g.An<=g.An/\g.An*(I 8+1)<=140737488355328 by simp only [I];omega)),AK (Av.2 (show -9223372036854775808<=sp+g.frame/\sp+g.frame<=9223372036854775807 by omega))]
 show Kx.kB (Bd.kR (n+d)) _ (st p mem (sp+g.frame) inp out fu) g (kY g args sp)=_
 unfold Kx.kB
 rw [hd n,Cx]
 dsimp only
 rw [AL (decide_eq_false hh),AK (Av.2 (show -9223372036854775808<=sp+g.frame -g.frame/\sp+g.frame -g.frame<=9223372036854775807 by omega))]
 show CR _ (Vc p m1 (sp+g.frame -g.frame) i1 o1 u1 e c)=_
 rw [show sp+g.frame -g.frame=sp by omega]
theorem jN {e c k:Int} (hg:p.globals=[]) (hm:S3.k p ([109,97,105,110]:List UInt8)=CO k) (hf:0<=fu/\fu<=1000000) (hc:CL d k [] (st p (List.replicate 4096 0) p.top inp [] fu) v (Vc p m1 sp1 i1 o1 u1 e c)) (he:e≠0) (hd:d<=1000000000):Gr.k p inp fu=CO (Dop.QE.mk e c o1):=by
 unfold Gr.k Gr.k0
 rw [AK (by decide),hg,if_neg (show ¬ fu<0 by omega),if_neg (show ¬ 1000000<fu by omega)]
 show Kv.kB (Gr.kL 999999) [] (I 0) 0 p 0 0 [] (st p (List.replicate 4096 0) p.top inp [] fu)=_
 unfold Kv.kB
 dsimp only
 rw [AL (by rfl),hm,Ae]
 have:=hc (1000000000 -d)
 rw [show 1000000000 -d+d=1000000000 by omega] at this
 show Option.bind (m64.kr (Bd.kR 1000000000) k [] (st p (List.replicate 4096 0) p.top inp [] fu)) _=_
 rw [this,F9]
 dsimp only
 rw [AL (decide_eq_false (show ¬ ER.end_ (Vc p m1 sp1 i1 o1 u1 e c)=0 from he))]
end
theorem HL (v:Int) (k:Nat) (h:k<11):XI (Kl v) (I k):=⟨by simp only [I];omega,by show ((k:Nat):Int)<((11:Nat):Int);omega⟩
theorem DI (v w:Int) (k:Nat) (h:k<16):XI (E6 v w) (I k):=⟨by simp only [I];omega,by show ((k:Nat):Int)<((16:Nat):Int);omega⟩
abbrev DQ:List Int:=List.replicate 4096 0
abbrev No (r t:Int):EF:=(.mk [109,97,105,110] 0 1 0 10,[r],1,t,[],0,0,())
abbrev FZ (r r2 t:Int):EF:=(.mk [109,97,105,110] 0 2 0 15,[r,r2],1,t,[],0,0,())
theorem ZR (v:Int) (hv:iV v) (fu:Int) (hf:fu=1000):Gr.k (Kl v) [] fu=CO (Dop.QE.mk 1 (v % 256) []):=by
 have e0:EX 1 0 (st (Kl v) DQ 1 [] [] (fu -1 -1 -1 -1 -1)) (No 0 0) v (st (Kl v) DQ 1 [] [] (fu -1 -1 -1 -1 -1 -1)) (No 0 0):=EX.num (by omega) (by omega) (HL v 0 (by decide)) rfl
 have e1:EX 3 1 (st (Kl v) DQ 1 [] [] (fu -1 -1 -1 -1)) (No 0 0) (v % 256) (st (Kl v) DQ 1 [] [] (fu -1 -1 -1 -1 -1 -1)) (No 0 0):=EX.one (by omega) (by omega) (HL v 1 (by decide)) rfl e0 (di hv)
 have e2:EX 5 2 (st (Kl v) DQ 1 [] [] (fu -1 -1 -1)) (No 0 0) (v % 256) (st (Kl v) DQ 1 [] [] (fu -1 -1 -1 -1 -1 -1)) (No (v % 256) 0):=EX.eW (by omega) (by omega) (HL v 2 (by decide)) rfl e1 ⟨dk rfl,dk rfl⟩
 have s3:ST 7 3 (st (Kl v) DQ 1 [] [] (fu -1 -1)) (No 0 0) 0 (st (Kl v) DQ 1 [] [] (fu -1 -1 -1 -1 -1 -1)) (No (v % 256) 0):=ST.of (by omega) (by omega) (HL v 3 (by decide)) rfl (DO.expr rfl (dk rfl) e2)
 have e4:EX 1 4 (st (Kl v) DQ 1 [] [] (fu -1 -1 -1 -1 -1 -1 -1)) (No (v % 256) 0) (v % 256) (st (Kl v) DQ 1 [] [] (fu -1 -1 -1 -1 -1 -1 -1 -1)) (No (v % 256) 0):=EX.lU (by omega) (by omega) (HL v 4 (by decide)) rfl ⟨dk rfl,dk rfl⟩
 have s5:ST 3 5 (st (Kl v) DQ 1 [] [] (fu -1 -1 -1 -1 -1 -1)) (No (v % 256) 0) 3 (st (Kl v) DQ 1 [] [] (fu -1 -1 -1 -1 -1 -1 -1 -1)) (No (v % 256) (v % 256)):=ST.of (by omega) (by omega) (HL v 5 (by decide)) rfl (DO.Ec (v:=v % 256) (f1:=No (v % 256) 0) rfl (dk rfl) e4)
 have b8:BL 7 2 [3,5] 0 (st (Kl v) DQ 1 [] [] (fu -1 -1)) (No 0 0) 3 (st (Kl v) DQ 1 [] [] (fu -1 -1 -1 -1 -1 -1 -1 -1)) (No (v % 256) (v % 256)):=BL.cons (by decide) (by decide) s3 (BL.exit (by decide) (s5.mono (by decide)) (by decide))
 have s8:ST 9 8 (st (Kl v) DQ 1 [] [] (fu -1)) (No 0 0) 3 (st (Kl v) DQ 1 [] [] (fu -1 -1 -1 -1 -1 -1 -1 -1)) (No (v % 256) (v % 256)):=ST.of (by omega) (by omega) (HL v 8 (by decide)) rfl (DO.block rfl (by kernel_rfl) b8 (by decide))
 have b10:BL 9 1 [8] 0 (st (Kl v) DQ 1 [] [] (fu -1)) (No 0 0) 3 (st (Kl v) DQ 1 [] [] (fu -1 -1 -1 -1 -1 -1 -1 -1)) (No (v % 256) (v % 256)):=BL.exit (by decide) s8 (by decide)
 have s10:ST 11 10 (st (Kl v) DQ 1 [] [] fu) (No 0 0) 3 (st (Kl v) DQ 1 [] [] (fu -1 -1 -1 -1 -1 -1 -1 -1)) (No (v % 256) (v % 256)):=ST.of (by omega) (by omega) (HL v 10 (by decide)) rfl (DO.block rfl (by kernel_rfl) b10 (by decide))
 have c0:CL 12 0 [] (st (Kl v) DQ 1 [] [] fu) (v % 256) (st (Kl v) DQ 1 [] [] (fu -1 -1 -1 -1 -1 -1 -1 -1)):=CL.of (sp:=1) (h:=3) (f1:=No (v % 256) (v % 256)) (d:=11) (g:=.mk [109,97,105,110] 0 1 0 10) ⟨dk rfl,dk rfl⟩ rfl (by unfold I;rw [List.length_replicate];decide) ⟨dk rfl,dk rfl⟩ ⟨dk rfl,dk rfl⟩ ⟨dk rfl,dk rfl⟩ s10 (by decide)
 exact jM rfl (by kernel_rfl) ⟨by omega,by omega⟩ c0 (by decide)
def k8 (u v:Nat):Dop.QE:=if v=0 then .mk 2 2 [] else .mk 1 (wr (u / v:Nat)) []
theorem ZS (u v:Nat) (hu:u<=4294967295) (hv:v<=4294967295) (fu:Int) (hf:fu=1000):Gr.k (E6 (wr u) (wr v)) [] fu=CO (k8 u v):=by
 have ho:=dh hu hv
 generalize wr u=x at*
 generalize wr v=y at*
 have e0:EX 1 0 (st (E6 x y) DQ 1 [] [] (fu -1 -1 -1 -1)) (FZ 0 0 0) x (st (E6 x y) DQ 1 [] [] (fu -1 -1 -1 -1 -1)) (FZ 0 0 0):=EX.num (by omega) (by omega) (DI x y 0 (by decide)) rfl
 have e1:EX 3 1 (st (E6 x y) DQ 1 [] [] (fu -1 -1 -1)) (FZ 0 0 0) x (st (E6 x y) DQ 1 [] [] (fu -1 -1 -1 -1 -1)) (FZ x 0 0):=EX.eW (by omega) (by omega) (DI x y 1 (by decide)) rfl e0 ⟨dk rfl,dk rfl⟩
 have s2:ST 5 2 (st (E6 x y) DQ 1 [] [] (fu -1 -1)) (FZ 0 0 0) 0 (st (E6 x y) DQ 1 [] [] (fu -1 -1 -1 -1 -1)) (FZ x 0 0):=ST.of (by omega) (by omega) (DI x y 2 (by decide)) rfl (DO.expr rfl (dk rfl) e1)
 have e3:EX 1 3 (st (E6 x y) DQ 1 [] [] (fu -1 -1 -1 -1 -1 -1 -1)) (FZ x 0 0) y (st (E6 x y) DQ 1 [] [] (fu -1 -1 -1 -1 -1 -1 -1 -1)) (FZ x 0 0):=EX.num (by omega) (by omega) (DI x y 3 (by decide)) rfl
 have e4:EX 3 4 (st (E6 x y) DQ 1 [] [] (fu -1 -1 -1 -1 -1 -1)) (FZ x 0 0) y (st (E6 x y) DQ 1 [] [] (fu -1 -1 -1 -1 -1 -1 -1 -1)) (FZ x y 0):=EX.eW (by omega) (by omega) (DI x y 4 (by decide)) rfl e3 ⟨dk rfl,dk rfl⟩
 have s5:ST 5 5 (st (E6 x y) DQ 1 [] [] (fu -1 -1 -1 -1 -1)) (FZ x 0 0) 0 (st (E6 x y) DQ 1 [] [] (fu -1 -1 -1 -1 -1 -1 -1 -1)) (FZ x y 0):=ST.of (by omega) (by omega) (DI x y 5 (by decide)) rfl (DO.expr rfl (dk rfl) e4)
 have e6:EX 1 6 (st (E6 x y) DQ 1 [] [] (fu -1 -1 -1 -1 -1 -1 -1 -1 -1 -1)) (FZ x y 0) x (st (E6 x y) DQ 1 [] [] (fu -1 -1 -1 -1 -1 -1 -1 -1 -1 -1 -1)) (FZ x y 0):=EX.lU (by omega) (by omega) (DI x y 6 (by decide)) rfl ⟨dk rfl,dk rfl⟩
 have e7:EX 1 7 (st (E6 x y) DQ 1 [] [] (fu -1 -1 -1 -1 -1 -1 -1 -1 -1 -1 -1)) (FZ x y 0) y (st (E6 x y) DQ 1 [] [] (fu -1 -1 -1 -1 -1 -1 -1 -1 -1 -1 -1 -1)) (FZ x y 0):=EX.lU (by omega) (by omega) (DI x y 7 (by decide)) rfl ⟨dk rfl,dk rfl⟩
 unfold k8
 by_cases h:v=0
 ·rw [if_pos h] at ho ⊢
  have e8:EX 3 8 (st (E6 x y) DQ 1 [] [] (fu -1 -1 -1 -1 -1 -1 -1 -1 -1)) (FZ x y 0) 0 (Vc (E6 x y) DQ 1 [] [] (fu -1 -1 -1 -1 -1 -1 -1 -1 -1 -1 -1 -1) 2 2) (FZ x y 0):=EX.lp (by omega) (by omega) (DI x y 8 (by decide)) rfl e6 e7 ho
  have s9:ST 5 9 (st (E6 x y) DQ 1 [] [] (fu -1 -1 -1 -1 -1 -1 -1 -1)) (FZ x y 0) 5 (Vc (E6 x y) DQ 1 [] [] (fu -1 -1 -1 -1 -1 -1 -1 -1 -1 -1 -1 -1) 2 2) (FZ x y 0):=ST.jA (by omega) (by omega) (DI x y 9 (by decide)) rfl (DO.Ec (v:=0) (f1:=FZ x y 0) rfl (dk rfl) e8) (show (2:Int)≠0 by decide)
  have b13:BL 5 3 [2,5,9] 0 (st (E6 x y) DQ 1 [] [] (fu -1 -1)) (FZ 0 0 0) 5 (Vc (E6 x y) DQ 1 [] [] (fu -1 -1 -1 -1 -1 -1 -1 -1 -1 -1 -1 -1) 2 2) (FZ x y 0):=BL.cons (by decide) (by decide) s2 (BL.cons (by decide) (by decide) s5 (BL.exit (by decide) s9 (by decide)))
  have s13:ST 7 13 (st (E6 x y) DQ 1 [] [] (fu -1)) (FZ 0 0 0) 5 (Vc (E6 x y) DQ 1 [] [] (fu -1 -1 -1 -1 -1 -1 -1 -1 -1 -1 -1 -1) 2 2) (FZ x y 0):=ST.jA (by omega) (by omega) (DI x y 13 (by decide)) rfl (DO.block rfl (by kernel_rfl) b13 (by decide)) (show (2:Int)≠0 by decide)
  have b15:BL 7 1 [13] 0 (st (E6 x y) DQ 1 [] [] (fu -1)) (FZ 0 0 0) 5 (Vc (E6 x y) DQ 1 [] [] (fu -1 -1 -1 -1 -1 -1 -1 -1 -1 -1 -1 -1) 2 2) (FZ x y 0):=BL.exit (by decide) s13 (by decide)
  have s15:ST 9 15 (st (E6 x y) DQ 1 [] [] fu) (FZ 0 0 0) 5 (Vc (E6 x y) DQ 1 [] [] (fu -1 -1 -1 -1 -1 -1 -1 -1 -1 -1 -1 -1) 2 2) (FZ x y 0):=ST.jA (by omega) (by omega) (DI x y 15 (by decide)) rfl (DO.block rfl (by kernel_rfl) b15 (by decide)) (show (2:Int)≠0 by decide)
  have c0:CL 10 0 [] (st (E6 x y) DQ 1 [] [] fu) 0 (Vc (E6 x y) DQ 1 [] [] (fu -1 -1 -1 -1 -1 -1 -1 -1 -1 -1 -1 -1) 2 2):=CL.jA (sp:=1) (h:=5) (f1:=FZ x y 0) (d:=9) (g:=.mk [109,97,105,110] 0 2 0 15) ⟨dk rfl,dk rfl⟩ rfl (by unfold I;rw [List.length_replicate];decide) ⟨dk rfl,dk rfl⟩ ⟨dk rfl,dk rfl⟩ ⟨dk rfl,dk rfl⟩ s15 (by decide)
  exact jN rfl (by kernel_rfl) ⟨by omega,by omega⟩ c0 (by decide) (by decide)
 ·rw [if_neg h] at ho ⊢
  generalize wr (u / v:Nat)=z at*
  have e8:EX 3 8 (st (E6 x y) DQ 1 [] [] (fu -1 -1 -1 -1 -1 -1 -1 -1 -1)) (FZ x y 0) z (st (E6 x y) DQ 1 [] [] (fu -1 -1 -1 -1 -1 -1 -1 -1 -1 -1 -1 -1)) (FZ x y 0):=EX.two (by omega) (by omega) (DI x y 8 (by decide)) rfl e6 e7 ho
  have s9:ST 5 9 (st (E6 x y) DQ 1 [] [] (fu -1 -1 -1 -1 -1 -1 -1 -1)) (FZ x y 0) 3 (st (E6 x y) DQ 1 [] [] (fu -1 -1 -1 -1 -1 -1 -1 -1 -1 -1 -1 -1)) (FZ x y z):=ST.of (by omega) (by omega) (DI x y 9 (by decide)) rfl (DO.Ec (v:=z) (f1:=FZ x y 0) rfl (dk rfl) e8)
  have b13:BL 5 3 [2,5,9] 0 (st (E6 x y) DQ 1 [] [] (fu -1 -1)) (FZ 0 0 0) 3 (st (E6 x y) DQ 1 [] [] (fu -1 -1 -1 -1 -1 -1 -1 -1 -1 -1 -1 -1)) (FZ x y z):=BL.cons (by decide) (by decide) s2 (BL.cons (by decide) (by decide) s5 (BL.exit (by decide) s9 (by decide)))
  have s13:ST 7 13 (st (E6 x y) DQ 1 [] [] (fu -1)) (FZ 0 0 0) 3 (st (E6 x y) DQ 1 [] [] (fu -1 -1 -1 -1 -1 -1 -1 -1 -1 -1 -1 -1)) (FZ x y z):=ST.of (by omega) (by omega) (DI x y 13 (by decide)) rfl (DO.block rfl (by kernel_rfl) b13 (by decide))
  have b15:BL 7 1 [13] 0 (st (E6 x y) DQ 1 [] [] (fu -1)) (FZ 0 0 0) 3 (st (E6 x y) DQ 1 [] [] (fu -1 -1 -1 -1 -1 -1 -1 -1 -1 -1 -1 -1)) (FZ x y z):=BL.exit (by decide) s13 (by decide)
  have s15:ST 9 15 (st (E6 x y) DQ 1 [] [] fu) (FZ 0 0 0) 3 (st (E6 x y) DQ 1 [] [] (fu -1 -1 -1 -1 -1 -1 -1 -1 -1 -1 -1 -1)) (FZ x y z):=ST.of (by omega) (by omega) (DI x y 15 (by decide)) rfl (DO.block rfl (by kernel_rfl) b15 (by decide))
  have c0:CL 10 0 [] (st (E6 x y) DQ 1 [] [] fu) z (st (E6 x y) DQ 1 [] [] (fu -1 -1 -1 -1 -1 -1 -1 -1 -1 -1 -1 -1)):=CL.of (sp:=1) (h:=3) (f1:=FZ x y z) (d:=9) (g:=.mk [109,97,105,110] 0 2 0 15) ⟨dk rfl,dk rfl⟩ rfl (by unfold I;rw [List.length_replicate];decide) ⟨dk rfl,dk rfl⟩ ⟨dk rfl,dk rfl⟩ ⟨dk rfl,dk rfl⟩ s15 (by decide)
  exact jM rfl (by kernel_rfl) ⟨by omega,by omega⟩ c0 (by decide)
theorem ku (a:Int):QH.k a=CO (IntKind.i32.wrap a):=by
 have h1:a.tmod 4294967296<4294967296:=Int.tmod_lt_of_pos a (by decide)
 have h2: -4294967296<a.tmod 4294967296:=by
  have:=Int.tmod_lt_of_pos (-a) (b:=4294967296) (by decide)
  rw [Int.neg_tmod] at this
  omega
 have h3:=Int.mul_tdiv_add_tmod a 4294967296
 unfold QH.k
 dsimp only
 generalize a.tmod 4294967296=t at*
 generalize a.tdiv 4294967296=q at*
 rw [AK (by decide)]
 by_cases h4:2147483648<=t
 ·rw [Ai (decide_eq_true h4),AK (Av.2 (by omega)),show t -4294967296=IntKind.i32.wrap a by rw [IntKind.wrap_i32];omega]
 ·rw [AL (decide_eq_false h4)]
  by_cases h5:t< -2147483648
  ·rw [Ai (decide_eq_true h5),AK (Av.2 (by omega)),show t+4294967296=IntKind.i32.wrap a by rw [IntKind.wrap_i32];omega]
  ·rw [AL (decide_eq_false h5),show t=IntKind.i32.wrap a by rw [IntKind.wrap_i32];omega]
theorem kn (a:Int):N4.k a=CO (IntKind.u32.wrap a):=by
 have h1:IntKind.i32.wrap a=(a+2147483648) % 4294967296 -2147483648:=by rw [IntKind.wrap_i32]
 unfold N4.k
 rw [ku,Ae]
 dsimp only
 rw [h1]
 by_cases h:(a+2147483648) % 4294967296 -2147483648<0
 ·rw [Ai (decide_eq_true h),AK (Av.2 (by omega)),show (a+2147483648) % 4294967296 -2147483648+4294967296=IntKind.u32.wrap a by rw [IntKind.wrap_u32];omega]
 ·rw [AL (decide_eq_false h),show (a+2147483648) % 4294967296 -2147483648=IntKind.u32.wrap a by rw [IntKind.wrap_u32];omega]
theorem pw (k:Nat) (h:k<32):IK.k (I k)=CO (2 ^ k):=List.map_inj_left.1 (show ((List.range 32).map fun k=>IK.k (I k))=(List.range 32).map fun k=>CO (2 ^ k) by kernel_rfl) k (List.mem_range.2 h)
theorem ix (a b:Int):Pm.k 6 a b=(QH.k a).bind fun y2=>(QH.k b).bind fun y3=>(N4.k y3.1.1).bind fun y4=>ck ((32:Int)≠0)<|(IK.k (y4.1.1.tmod 32)).bind fun _=>ci (y3.1.1=0) (GP 0 false)<|(N4.k y2.1.1).bind fun y17=>(N4.k y3.1.1).bind fun y18=>ck (y18.1.1≠0/\Az (y17.1.1.tdiv y18.1.1)=true)<|(QH.k (y17.1.1.tdiv y18.1.1)).bind fun z=>GP z.1.1 true:=by kernel_rfl
theorem mg {u v:Nat} (hu:u<=4294967295) (hv:v<=4294967295):Pm.k 6 u v=if v=0 then GP 0 false else GP (wr (u / v:Nat)) true:=by
 have hd:u / v<=u:=Nat.div_le_self u v
 have hd0:(0:Int)<=((u / v:Nat):Int):=Int.natCast_nonneg _
 have hw: ∀ x:Nat,x<=4294967295->IntKind.u32.wrap (IntKind.i32.wrap x)=x:=fun x hx=>by rw [IntKind.wrap_u32,IntKind.wrap_i32];omega
 have hz: ∀ x:Int,IntKind.i32.wrap x=wr x:=fun x=>by unfold wr;rw [IntKind.wrap_i32,IntKind.wrap_i32,IntKind.wrap_u32];omega
 rw [ix,ku,ku,Ae,Ae]
 dsimp only
 rw [kn,hw v hv,Ae]
 dsimp only
 rw [AK (by decide),Int.tmod_eq_emod_of_nonneg (by omega),show (v:Int) % 32=I (v % 32) by simp only [I];omega,pw _ (by omega),Ae]
 by_cases h:v=0
 ·subst h
  rw [if_pos rfl]
  rfl
 ·rw [if_neg h,AL (decide_eq_false (by rw [IntKind.wrap_i32];omega)),kn,hw u hu,Ae,Ae]
  dsimp only
  rw [Int.tdiv_eq_ediv_of_nonneg (by omega),<- Int.natCast_ediv,AK (decide_eq_true ⟨by omega,Av.2 (by omega)⟩),ku,hz]
  rfl
theorem bE {s:List UInt8} {p:Dop.IF} {r:Dop.QE} (h:m18.k s=Js p 0 0) (k:Gr.k p [] 1000=CO r):Rt.k s [] 1000=GP r 0:=by
 unfold Rt.k
 rw [h,JH]
 dsimp only
 rw [AL (show (!decide ((0:Int)=0))=false from rfl),k]
 rfl
theorem Uv (o t:Int):m16.k o t=some ((true,()),()):=by
 obtain ⟨u,eu⟩: ∃ u:Nat,IntKind.u32.wrap o=u:=⟨(IntKind.u32.wrap o).toNat,by rw [IntKind.wrap_u32];omega⟩
 obtain ⟨v,ev⟩: ∃ v:Nat,IntKind.u32.wrap t=v:=⟨(IntKind.u32.wrap t).toNat,by rw [IntKind.wrap_u32];omega⟩
 have hu:u<=4294967295:=by rw [IntKind.wrap_u32] at eu;omega
 have hv:v<=4294967295:=by rw [IntKind.wrap_u32] at ev;omega
 have hl:=Eu hu
 have hk:=Eu hv
 have h1:=bE (hH hu) (ZR _ (Uk u) 1000 rfl)
 have h2:=bE (hO hu hv) (ZS u v hu hv 1000 rfl)
 have h3:=mg hu hv
 rw [show wr u % 256=(u:Int).tmod 256 by rw [Int.tmod_eq_emod_of_nonneg (by omega)];unfold wr;rw [IntKind.wrap_i32,IntKind.wrap_u32];omega] at h1
 unfold m16.k
 rw [kn,kn,eu,ev,Ae,Ae]
 dsimp only
 rw [show Lib.itoa (u:Int)=Lib.decDigits u from Lib.itoa_nonneg u,show Lib.itoa (v:Int)=Lib.decDigits v from Lib.itoa_nonneg v]
 rw [AK (by unfold dM;exact decide_eq_true (by omega)),AK (decide_eq_true (by simp only [List.length_cons,List.length_nil];omega)),AK (decide_eq_true (by simp only [List.length_append,List.length_cons,List.length_nil];omega))]
 refine Eq.trans (congrArg (fun z=>Option.bind z _) h1) ?_
 rw [Cy]
 dsimp only
 rw [AK (by unfold dM;exact decide_eq_true (by omega)),AK (decide_eq_true (by simp only [List.length_cons,List.length_nil];omega)),AK (decide_eq_true (by simp only [List.length_append,List.length_cons,List.length_nil];omega)),AK (by unfold dM;exact decide_eq_true (by omega)),AK (decide_eq_true (by simp only [List.length_append,List.length_cons,List.length_nil];omega)),AK (decide_eq_true (by simp only [List.length_append,List.length_cons,List.length_nil];omega))]
 refine Eq.trans (congrArg (fun z=>Option.bind z _) h2) ?_
 rw [Cy]
 dsimp only
 rw [h3]
 unfold k8
 by_cases h:v=0
 ·rw [if_pos h,if_pos h,Cy]
  dsimp only
  rw [Ai (by rfl),Ai (by rfl),Ai (by rfl),AK (by rfl),same 1 _ [] (by decide),Ae]
  dsimp only
  rw [Ai (by rfl),same 2 2 [] (by decide)]
  rfl
 ·rw [if_neg h,if_neg h,Cy]
  dsimp only
  rw [AL (by rfl),Ai (by rfl),Ai (by rfl),AK (by rfl),same 1 _ [] (by decide),Ae]
  dsimp only
  rw [Ai (by rfl),same 1 _ [] (by decide)]
  rfl
end Go.Proofs.Tryz
