/- EvalRows: what the operations of words tell. -/
import Derived.Test.YtpjlciengdhjoaaGreatDoorMw
import Derived.Test.YtpjlciengdhjoaaGreatDoorMu
import Derived.Test.YtpjlciengdhjoaaGreatDoorRoE
set_option maxRecDepth 100000
set_option maxHeartbeats 1000000
namespace Go.Proofs
open Go Go.En Tryz
abbrev wW (n:Int):Int:=IntKind.i32.wrap (IntKind.u32.wrap n)
noncomputable def cT (o a b:Int):Option Int:=
 if o=1 then some (wW (a+b)) else if o=2 then some (wW (a -b)) else if o=3 then some (wW (a*b))
 else if o=4 then (if b=0 then none else some (wW (a.tdiv b))) else if o=5 then (if b=0 then none else some (wW (a.tmod b)))
 else if o=8 then some (wW (bits BinOp.and IntKind.i64 a b)) else if o=9 then some (wW (bits BinOp.or IntKind.i64 a b)) else if o=10 then some (wW (bits BinOp.xor IntKind.i64 a b))
 else if o=11 then some (wW (a*2 ^ (b % 32).toNat)) else if o=12 then some (wW (a / 2 ^ (b % 32).toNat))
 else if o=14 then some (if a=b then 1 else 0) else if o=15 then some (if a=b then 0 else 1) else if o=16 then some (if a<b then 1 else 0) else some (if a<=b then 1 else 0)
theorem jK (v:Int):bits BinOp.and IntKind.i64 v 31=v % 32:=by
 have h31:(BitVec.ofInt 64 31).toNat=2 ^ 5 -1:=by decide
 have key:(BitVec.ofInt 64 v &&& BitVec.ofInt 64 31).toNat=(v % ((2 ^ 64:Nat):Int)).toNat % 2 ^ 5:=by
  rw [BitVec.toNat_and,BitVec.toNat_ofInt,h31,Nat.and_two_pow_sub_one_eq_mod]
 show IntKind.i64.wrap ((BitVec.ofInt 64 v &&& BitVec.ofInt 64 31).toNat:Nat)=_
 rw [key,IntKind.wrap_i64]
 omega
theorem Qe {α δ ε β:Type} {a:α} {x:δ} {y:ε} {k:(α×δ×ε×Unit)×Unit->Option β}:Option.bind (Kd a x y) k=k ((a,x,y,()),()):=rfl
theorem Fz (n:Int):Tryz.DC.k n=D8 (wW n) true:=by
 unfold Tryz.DC.k
 rw [OW,AM]
section
variable {a b:Int}
theorem iY (ha:Gr a) (hb:Gr b):Tryz.An.k 1 a b=D8 (wW (a+b)) true:=by
 unfold Tryz.An.k Tryz.An.k0
 rw [OW,OW,AM,AM]
 dsimp only
 rw [ES ha,ES hb,AP (by rfl),AA (AN.2 (by omega)),Fz]
 rfl
theorem ia (ha:Gr a) (hb:Gr b):Tryz.An.k 2 a b=D8 (wW (a -b)) true:=by
 unfold Tryz.An.k Tryz.An.k0
 rw [OW,OW,AM,AM]
 dsimp only
 rw [ES ha,ES hb,AB (by rfl),AP (by rfl),AA (AN.2 (by omega)),Fz]
 rfl
theorem da (ha:Gr a) (hb:Gr b): -9223372036854775808<=a*b/\a*b<=9223372036854775807:=by
 have h:(a*b).natAbs<=2147483648*2147483648:=by
  rw [Int.natAbs_mul]
  exact Nat.mul_le_mul (by omega) (by omega)
 omega
theorem iZ (ha:Gr a) (hb:Gr b):Tryz.An.k 3 a b=D8 (wW (a*b)) true:=by
 have:=da ha hb
 unfold Tryz.An.k Tryz.An.k0
 rw [OW,OW,AM,AM]
 dsimp only
 rw [ES ha,ES hb,AB (by rfl),AB (by rfl),AP (by rfl),AA (AN.2 this),Fz]
 rfl
theorem Qs (ha:Gr a) (hb:Gr b):Tryz.An.k 8 a b=D8 (wW (bits BinOp.and IntKind.i64 a b)) true/\Tryz.An.k 9 a b=D8 (wW (bits BinOp.or IntKind.i64 a b)) true/\Tryz.An.k 10 a b=D8 (wW (bits BinOp.xor IntKind.i64 a b)) true:=by
 unfold Tryz.An.k Tryz.An.k0
 rw [OW,OW,AM,AM]
 dsimp only
 rw [ES ha,ES hb]
 refine ⟨?_,?_,?_⟩
 ·show Option.bind (Tryz.DC.k (bits BinOp.and IntKind.i64 a b)) _=_
  rw [Fz];rfl
 ·show Option.bind (Tryz.DC.k (bits BinOp.or IntKind.i64 a b)) _=_
  rw [Fz];rfl
 ·show Option.bind (Tryz.DC.k (bits BinOp.xor IntKind.i64 a b)) _=_
  rw [Fz];rfl
theorem dc (ha:Gr a) (hb:Gr b):Tryz.An.k 11 a b=D8 (wW (a*2 ^ (b % 32).toNat)) true/\Tryz.An.k 12 a b=D8 (wW (a / 2 ^ (b % 32).toNat)) true:=by
 have h31:=jK b
 have hk:(b % 32).toNat<=31:=by omega
 unfold Tryz.An.k Tryz.An.k0
 rw [OW,OW,AM,AM]
 dsimp only
 rw [ES ha,ES hb]
 refine ⟨?_,?_⟩
 ·show ck (decide (0<=bits BinOp.and IntKind.i64 b 31/\bits BinOp.and IntKind.i64 b 31<=I IntKind.i64.bits)) (Option.bind (Tryz.DC.k (IntKind.i64.wrap (a*2 ^ (bits BinOp.and IntKind.i64 b 31).toNat))) _)=_
  rw [h31,AA (bv (by show 0<=b % 32/\b % 32<=64;omega)),Fz]
  have e:wW (IntKind.i64.wrap (a*2 ^ (b % 32).toNat))=wW (a*2 ^ (b % 32).toNat):=by
   generalize a*2 ^ (b % 32).toNat=x
   unfold wW
   rw [IntKind.wrap_i32,IntKind.wrap_i32,IntKind.wrap_u32,IntKind.wrap_u32,IntKind.wrap_i64]
   omega
  rw [e];rfl
 ·show ck (decide (0<=bits BinOp.and IntKind.i64 b 31/\bits BinOp.and IntKind.i64 b 31<=I IntKind.i64.bits)) (Option.bind (Tryz.DC.k (a / 2 ^ (bits BinOp.and IntKind.i64 b 31).toNat)) _)=_
  rw [h31,AA (bv (by show 0<=b % 32/\b % 32<=64;omega)),Fz]
  rfl
theorem Z3 (ha:Gr a) (hb:Gr b):Tryz.An.k 4 a b=(if b=0 then D8 0 false else D8 (wW (a.tdiv b)) true)/\Tryz.An.k 5 a b=(if b=0 then D8 0 false else D8 (wW (a.tmod b)) true):=by
 have hq: -9223372036854775808<=a.tdiv b/\a.tdiv b<=9223372036854775807:=by
  have:(a.tdiv b).natAbs<=a.natAbs:=by rw [Int.natAbs_tdiv];exact Nat.div_le_self _ _
  omega
 have e:Tryz.DP.k a b=if b=0 then Kd 0 0 false else Kd (a.tdiv b) (a.tmod b) true:=by
  unfold Tryz.DP.k Tryz.DP.k0
  by_cases h:b=0
  ·rw [AP (bv h),if_pos h];rfl
  ·rw [AB (ce h),if_neg h,AA (bv ⟨h,AN.2 hq⟩),AA (bv h)]
 have w0:wW 0=0:=by decide
 have hk: ∀ (x:Int) (o:Bool),(Bd Tryz.An.kS 999999).2.2.1 x o=Option.bind (Tryz.Dz.k x) fun y=>D8 y.1.1 o:=fun _ _=>rfl
 unfold Tryz.An.k Tryz.An.k0
 rw [OW,OW,AM,AM]
 dsimp only
 rw [ES ha,ES hb]
 refine ⟨?_,?_⟩
 ·show Option.bind (Tryz.DP.k a b) _=_
  rw [e]
  by_cases h:b=0
  ·rw [if_pos h,if_pos h]
   rw [Qe]
   dsimp only
   first|rw [AB (by rfl)]|rw [AP (by rfl)]
   exact (hk 0 false).trans (by rw [OW,show IntKind.i32.wrap (IntKind.u32.wrap 0)=0 from w0];rfl)
  ·rw [if_neg h,if_neg h]
   rw [Qe]
   dsimp only
   rw [AB (by rfl)]
   show Option.bind (Tryz.Dz.k (a.tdiv b)) _=_
   rw [OW];rfl
 ·show Option.bind (Tryz.DP.k a b) _=_
  rw [e]
  by_cases h:b=0
  ·rw [if_pos h,if_pos h]
   rw [Qe]
   dsimp only
   first|rw [AB (by rfl)]|rw [AP (by rfl)]
   exact (hk 0 false).trans (by rw [OW,show IntKind.i32.wrap (IntKind.u32.wrap 0)=0 from w0];rfl)
  ·rw [if_neg h,if_neg h]
   rw [Qe]
   dsimp only
   rw [AP (by rfl)]
   show Option.bind (Tryz.Dz.k (a.tmod b)) _=_
   rw [OW];rfl
theorem LN (ha:Gr a) (hb:Gr b):Tryz.An.k 14 a b=D8 (if a=b then 1 else 0) true/\Tryz.An.k 15 a b=D8 (if a=b then 0 else 1) true/\Tryz.An.k 16 a b=D8 (if a<b then 1 else 0) true/\Tryz.An.k 17 a b=D8 (if a<=b then 1 else 0) true:=by
 refine ⟨?_,ka ha hb,?_,?_⟩<;>unfold Tryz.An.k Tryz.An.k0<;>rw [OW,OW,AM,AM]<;>dsimp only<;>rw [ES ha,ES hb]
 ·show Option.bind (Tryz.GD.k (decide (a=b))) _=_
  by_cases h:a=b
  ·rw [bv h,if_pos h];rfl
  ·rw [ce h,if_neg h];rfl
 ·show Option.bind (Tryz.GD.k (decide (a<b))) _=_
  by_cases h:a<b
  ·rw [bv h,if_pos h];rfl
  ·rw [ce h,if_neg h];rfl
 ·show Option.bind (Tryz.GD.k (decide (a<=b))) _=_
  by_cases h:a<=b
  ·rw [bv h,if_pos h];rfl
  ·rw [ce h,if_neg h];rfl
theorem Z2 (ha:Gr a) (hb:Gr b) {p:List UInt8} (hp:p∈At):(∃ v,cT (IL p).1 a b=some v/\Gr v/\Tryz.An.k (IL p).1 a b=D8 v true)\/cT (IL p).1 a b=none/\Tryz.An.k (IL p).1 a b=D8 0 false:=by
 have wi:=fun n:Int=>dd n
 have t01: ∀ q:Prop,[Decidable q]->Gr (if q then 1 else 0:Int):=fun q _=>by split<;>constructor<;>decide
 have t10: ∀ q:Prop,[Decidable q]->Gr (if q then 0 else 1:Int):=fun q _=>by split<;>constructor<;>decide
 simp only [At,List.mem_cons,List.not_mem_nil,or_false] at hp
 rcases hp with rfl|rfl|rfl|rfl|rfl|rfl|rfl|rfl|rfl|rfl|rfl|rfl|rfl|rfl|rfl|rfl
 ·exact .inl ⟨_,rfl,wi _,(Qs ha hb).2.1⟩
 ·exact .inl ⟨_,rfl,wi _,(Qs ha hb).2.2⟩
 ·exact .inl ⟨_,rfl,wi _,(Qs ha hb).1⟩
 ·exact .inl ⟨_,rfl,t01 _,(LN ha hb).1⟩
 ·exact .inl ⟨_,rfl,t10 _,(LN ha hb).2.1⟩
 ·exact .inl ⟨_,rfl,t01 _,(LN ha hb).2.2.1⟩
 ·exact .inl ⟨_,rfl,t01 _,(LN ha hb).2.2.2⟩
 ·exact .inl ⟨_,rfl,t01 _,(LN ha hb).2.2.1⟩
 ·exact .inl ⟨_,rfl,t01 _,(LN ha hb).2.2.2⟩
 ·exact .inl ⟨_,rfl,wi _,(dc ha hb).1⟩
 ·exact .inl ⟨_,rfl,wi _,(dc ha hb).2⟩
 ·exact .inl ⟨_,rfl,wi _,iY ha hb⟩
 ·exact .inl ⟨_,rfl,wi _,ia ha hb⟩
 ·exact .inl ⟨_,rfl,wi _,iZ ha hb⟩
 ·have h:=(Z3 ha hb).1
  by_cases h0:b=0
  ·rw [if_pos h0] at h;exact .inr ⟨by show (if b=0 then none else _)=_;rw [if_pos h0],h⟩
  ·rw [if_neg h0] at h;exact .inl ⟨_,by show (if b=0 then none else _)=_;rw [if_neg h0],wi _,h⟩
 ·have h:=(Z3 ha hb).2
  by_cases h0:b=0
  ·rw [if_pos h0] at h;exact .inr ⟨by show (if b=0 then none else _)=_;rw [if_pos h0],h⟩
  ·rw [if_neg h0] at h;exact .inl ⟨_,by show (if b=0 then none else _)=_;rw [if_neg h0],wi _,h⟩
end
end Go.Proofs
namespace Go.Proofs
open Go Go.En Tryz
noncomputable def bV (p:List UInt8) (a b:Int):Option Int:=match (IL p).2 with
 | true=>cT (IL p).1 b a
 | false=>cT (IL p).1 a b
noncomputable def RT.ev:RT->Option Int
 | .n x=>some x
 | .o p l r=>match l.ev,r.ev with
  | some a,some b=>bV p a b
  | _,_=>none
abbrev dZ (p:En.Dop.Hm) (mem:List Int) (sp:Int) (inp out:List Int) (fu:Int):ER:=(p,mem,sp,inp,out,fu,2,2,0,(),())
section
variable {p:En.Dop.Hm} {mem:List Int} {sp:Int} {inp out:List Int} {fu:Int} {fr:EF} {i:Int} {d:Nat}
theorem EX.halt:EX 1 i (dZ p mem sp inp out fu) fr 0 (dZ p mem sp inp out fu) fr:=fun n=>by
 rw [Z8,YJ]
 unfold Tryz.BH.kf Tryz.BH.k0
 rw [show Tryz.FH.k (dZ p mem sp inp out fu)=B7 false (dZ p mem sp inp out fu) by unfold Tryz.FH.k;rw [AP (by rfl)],AO]
 dsimp only
 rw [AP (b:=!false) rfl]
theorem EX.cN (h0:0<fu) (h1:fu<=1000000) (hi:Z7 p i) (hk:(nd p i).kind=8) {v w:Int} {f1 f2:EF} {s1 s2:ER} (ha:EX d (nd p i).a (st p mem sp inp out (fu -1)) fr v s1 f1) (hb:EX d (nd p i).b s1 f1 w s2 f2)
  {x:Int} {s3:ER} (h:ci (!decide (ER.end_ s2=0)) (Ar 0 s2 f2) ((Tryz.An.k (nd p i).n v w).bind fun y6=>ci (!y6.1.2.1) ((Tryz.MX.k 2 2 s2).bind fun y8=>Ar y8.1.1 y8.2.1 f2)<|Ar y6.1.1 s2 f2)=Ar x s3 f2):
  EX (d+2) i (st p mem sp inp out fu) fr x s3 f2:=fun n=>by
 rw [show n+(d+2)=n+d+1+1 from rfl,Z8,YJ,nb _ _ _ h0 h1 hi (by omega)]
 unfold Tryz.Ik.kB
 dsimp only
 rw [AB (ce (by omega)),AB (ce (by omega)),AP (bv hk),Z8,j8]
 unfold Tryz.HH.kf
 rw [ha n,CI]
 dsimp only
 rw [AP (bv hk),hb n,CI]
 dsimp only
 rw [h]
 rfl
theorem gU (q:List UInt8) (u v:Int):(Gj q u v).kind=8/\(Gj q u v).n=(IL q).1/\(((IL q).2=true/\(Gj q u v).a=v/\(Gj q u v).b=u)\/((IL q).2=false/\(Gj q u v).a=u/\(Gj q u v).b=v)):=by
 unfold Gj
 split
 ·rename_i h;exact ⟨rfl,rfl,.inl ⟨h,rfl,rfl⟩⟩
 ·rename_i h;exact ⟨rfl,rfl,.inr ⟨h,rfl,rfl⟩⟩
def cX (p:En.Dop.Hm) (mem:List Int) (sp:Int) (inp out:List Int) (fr:EF) (t:RT) (i:Int):Prop:= ∀ fu:Int,(t.sz:Int)<fu->fu<=1000000->
 (∃ v,t.ev=some v/\Gr v/\EX (2*t.sz) i (st p mem sp inp out fu) fr v (st p mem sp inp out (fu -t.sz)) fr)\/
 (t.ev=none/\ ∃ u,EX (2*t.sz) i (st p mem sp inp out fu) fr 0 (dZ p mem sp inp out u) fr)
theorem cX.two {q:List UInt8} (hq:q∈At) {l r:RT} {u v:Int} (hi:Z7 p i) (hn:nd p i=Gj q u v) (hl:cX p mem sp inp out fr l u) (hr:cX p mem sp inp out fr r v):cX p mem sp inp out fr (.o q l r) i:=fun fu h0 h1=>by
 have hsz:(RT.o q l r).sz=l.sz+r.sz+1:=rfl
 have hls:1<=l.sz:=by cases l<;>simp [RT.sz]
 have hrs:1<=r.sz:=by cases r<;>simp [RT.sz]
 rw [hsz] at h0 ⊢
 obtain ⟨k1,k2,k3⟩:=gU q u v
 have hk:(nd p i).kind=8:=by rw [hn];exact k1
 have hnn:(nd p i).n=(IL q).1:=by rw [hn];exact k2
 -- two operands,the first one first
 have key: ∀ (t1 t2:RT) (i1 i2:Int),(nd p i).a=i1->(nd p i).b=i2->1<=t1.sz->1<=t2.sz->t1.sz+t2.sz=l.sz+r.sz->cX p mem sp inp out fr t1 i1->cX p mem sp inp out fr t2 i2->
   (∃ a b,t1.ev=some a/\t2.ev=some b/\Gr a/\Gr b/\((∃ w,cT (IL q).1 a b=some w/\Gr w/\EX (2*(l.sz+r.sz+1)) i (st p mem sp inp out fu) fr w (st p mem sp inp out (fu -(l.sz+r.sz+1:Nat))) fr)\/cT (IL q).1 a b=none/\ ∃ u,EX (2*(l.sz+r.sz+1)) i (st p mem sp inp out fu) fr 0 (dZ p mem sp inp out u) fr))\/
   ((t1.ev=none\/t2.ev=none)/\ ∃ u,EX (2*(l.sz+r.sz+1)) i (st p mem sp inp out fu) fr 0 (dZ p mem sp inp out u) fr):=by
  intro t1 t2 i1 i2 e1 e2 hs1 hs2 hs x1 x2
  rcases x1 (fu -1) (by omega) (by omega) with ⟨a,a1,a2,a3⟩|⟨a1,w,a3⟩
  ·rcases x2 (fu -1 -t1.sz) (by omega) (by omega) with ⟨b,b1,b2,b3⟩|⟨b1,w,b3⟩
   ·left
    refine ⟨a,b,a1,b1,a2,b2,?_⟩
    have d1:=a3.mono (e:=2*(l.sz+r.sz)) (by omega)
    have d2:=b3.mono (e:=2*(l.sz+r.sz)) (by omega)
    rcases Z2 a2 b2 hq with ⟨w,c1,c2,c3⟩|⟨c1,c3⟩
    ·left
     refine ⟨w,c1,c2,?_⟩
     have:=EX.cN (by omega) h1 hi hk (by rw [e1];exact d1) (by rw [e2];exact d2) (x:=w) (s3:=st p mem sp inp out (fu -1 -t1.sz -t2.sz)) (by
      rw [AB (by rfl),hnn,c3,DE]
      rfl)
     rw [show fu -1 -(t1.sz:Int) -t2.sz=fu -(l.sz+r.sz+1:Nat) by omega] at this
     exact this
    ·right
     exact ⟨c1,_,EX.cN (by omega) h1 hi hk (by rw [e1];exact d1) (by rw [e2];exact d2) (x:=0) (s3:=dZ p mem sp inp out (fu -1 -t1.sz -t2.sz)) (by
      rw [AB (by rfl),hnn,c3,DE]
      rfl)⟩
   ·right
    refine ⟨.inr b1,w,?_⟩
    exact EX.cN (by omega) h1 hi hk (by rw [e1];exact a3.mono (e:=2*(l.sz+r.sz)) (by omega)) (by rw [e2];exact b3.mono (e:=2*(l.sz+r.sz)) (by omega)) (by rw [AP (by rfl)])
  ·right
   refine ⟨.inl a1,w,?_⟩
   exact EX.cN (by omega) h1 hi hk (by rw [e1];exact a3.mono (e:=2*(l.sz+r.sz)) (by omega)) (by rw [e2];exact EX.halt.mono (e:=2*(l.sz+r.sz)) (by omega)) (by rw [AP (by rfl)])
 rcases k3 with ⟨z1,z2,z3⟩|⟨z1,z2,z3⟩
 ·rcases key r l v u (by rw [hn];exact z2) (by rw [hn];exact z3) hrs hls (by omega) hr hl with ⟨a,b,a1,b1,a2,b2,⟨w,c1,c2,c3⟩|⟨c1,c2⟩⟩|⟨h,w⟩
  ·left;exact ⟨w,by unfold RT.ev;rw [a1,b1];unfold bV;rw [z1];exact c1,c2,c3⟩
  ·right;exact ⟨by unfold RT.ev;rw [a1,b1];unfold bV;rw [z1];exact c1,c2⟩
  ·right
   refine ⟨?_,w⟩
   unfold RT.ev
   rcases h with h|h
   ·rw [h];cases l.ev<;>rfl
   ·rw [h]
 ·rcases key l r u v (by rw [hn];exact z2) (by rw [hn];exact z3) hls hrs rfl hl hr with ⟨a,b,a1,b1,a2,b2,⟨w,c1,c2,c3⟩|⟨c1,c2⟩⟩|⟨h,w⟩
  ·left;exact ⟨w,by unfold RT.ev;rw [a1,b1];unfold bV;rw [z1];exact c1,c2,c3⟩
  ·right;exact ⟨by unfold RT.ev;rw [a1,b1];unfold bV;rw [z1];exact c1,c2⟩
  ·right
   refine ⟨?_,w⟩
   unfold RT.ev
   rcases h with h|h
   ·rw [h]
   ·rw [h];cases l.ev<;>rfl
theorem ZX: ∀ (t:RT) (i:Int),PP p.nodes i t->(∀ q∈t.ops,q∈At)->(∀ x∈t.BS,0<=x/\x<=1000000)->cX p mem sp inp out fr t i
 | .n x,i,ht,hp,hr=>fun fu h0 h1=>by
  obtain ⟨a0,a1,a2⟩:=ht
  have hx:=hr x (List.mem_singleton_self _)
  have e:nd p i=.mk 1 (-1) (-1) (-1) (-1) [] x 0 0:=a2
  have hs:(RT.n x).sz=1:=rfl
  rw [hs] at h0 ⊢
  have:=EX.num (p:=p) (mem:=mem) (sp:=sp) (inp:=inp) (out:=out) (fr:=fr) (fu:=fu) (i:=i) (by omega) h1 ⟨a0,a1⟩ (by rw [e])
  rw [e] at this
  exact .inl ⟨x,rfl,⟨by omega,by omega⟩,this.mono (by omega)⟩
 | .o q l r,i,ht,hp,hr=>by
  obtain ⟨a0,a1,u,v,a2,a3,a4⟩:=ht
  exact cX.two (hp q (List.mem_append_right _ List.mem_cons_self)) ⟨a0,a1⟩ a2 (ZX l u a3 (fun p h=>hp p (List.mem_append_left _ h)) (fun x h=>hr x (List.mem_append_left _ h))) (ZX r v a4 (fun p h=>hp p (List.mem_append_right _ (mt _ h))) (fun x h=>hr x (List.mem_append_right _ h)))
end
end Go.Proofs
set_option maxRecDepth 1000000
namespace Go.Proofs
open Go Go.En Tryz
theorem T9 (l:List En.Dop.AV) {n:Nat} (h:l.length=n):(List.range n).map (fun i=>l.getD i En.Dop.d5)=l:=by
 apply List.ext_getElem
 ·simp [h]
 ·intro i h1 h2
  simp only [List.getElem_map,List.getElem_range]
  rw [lc,co h2];rfl
theorem ZW (k:CK) {ns:List En.Dop.AV} (hn:ns.length<8000) (kind a b d e n:Int) (t:List UInt8) (c:CT):Tryz.Cr.k kind a b d e n t (kk k ns) c=Ar (I ns.length) (kk k (ns++[En.Dop.AV.mk kind a b d e t n 0 0])) c:=by
 unfold Tryz.Cr.k
 have h:I (ns++En.Dop.AV.mk kind a b d e t n 0 0::[]).length -1=I ns.length:=by simp only [I,List.length_append,List.length_cons,List.length_nil];omega
 rw [AA (by show room 80 _=true;unfold room;refine bv ?_;simp only [List.length_cons,List.length_nil];show (ns.length+(0+1))*(80+1)<=_;omega)]
 show ck (Al (I (ns++En.Dop.AV.mk kind a b d e t n 0 0::[]).length -1)) (Ar (I (ns++En.Dop.AV.mk kind a b d e t n 0 0::[]).length -1) _ c)=_
 rw [h,AA (AN.2 (by simp only [I];omega))]
 rfl
theorem k7 {l:List En.Dop.AV} {i:Int} {q:Nat->Int} {n j:Nat} (hl:l.length=n) (hj:j<5):(l++dG n i q).getD (I (n+j)).toNat En.Dop.d5=(dG n i q).getD j En.Dop.d5:=by
 rw [show (I (n+j)).toNat=n+j from rfl,lc,kw (by omega),hl,Nat.add_sub_cancel_left,lc]
theorem k9 {t:RT} (hp: ∀ p∈t.ops,p∈At) (hr: ∀ x∈t.BS,0<=x/\x<=1000000) {m:Nat} (hm:m<13) (hs:t.sz=2*m+1) {ns:List En.Dop.AV} {i:Int} (q:Nat->Int) (hl:ns.length=t.sz) (ht:TP ns i t):
  ∃ j ps,ps.length=t.sz/\PP ps j t/\Tryz.Gs.k (.mk (ns++dG ns.length i q) Eu (I (ns.length+4)))=Kd (Oo (2*m+1) ps j) 0 0:=by
 obtain ⟨g,hg⟩: ∃ g,(List.range (2*m+1)).map g=ns:=⟨_,T9 ns (hl.trans hs)⟩
 have hnl:ns.length=2*m+1:=hl.trans hs
 have hT:(.mk (ns++dG ns.length i q) Eu (I (ns.length+4)):En.Dop.HW)=Wh m g i q:=by unfold Wh;rw [hg,hnl]
 have hn:(Wh m g i q).nodes=ns++dG (2*m+1) i q:=by unfold Wh;rw [hg]
 have hi:0<=i/\i<I ns.length:=by
  cases t with
  | n x=>exact ⟨ht.1,ht.2.1⟩
  | o p l r=>exact ⟨ht.1,ht.2.1⟩
 have tp: ∀ s:CK,CK.t s=Wh m g i q->TP (CK.t s).nodes i t:=fun s h=>by rw [h,hn];exact ht.mono
 have bd: ∀ (s:CK) (j:Nat),CK.t s=Wh m g i q->j<5->0<=I (2*m+1+j)/\I (2*m+1+j)<I (CK.t s).nodes.length:=fun s j h hj=>by
  rw [h,hn];simp only [I,List.length_append,List.length_cons,List.length_nil];omega
 have nd: ∀ (s:CK) (j:Nat),CK.t s=Wh m g i q->j<5->(CK.t s).nodes.getD (I (2*m+1+j)).toNat En.Dop.d5=(dG (2*m+1) i q).getD j En.Dop.d5:=fun s j h hj=>by rw [h,hn];exact k7 hnl hj
 have tk:Tryz.Bz.k (I (2*m+1+3)) (WR m g i q) C4=Wg (WR m g i q) C4:=by
  have e0:CK.t (WR m g i q)=Wh m g i q:=rfl
  have a0:=OB (s:=WR m g i q) t i (tp _ e0)
  have a1:=Sb.node (d:=t.sz) (x:=Yr i (q 5)) (bd _ 0 e0 (by omega)) (nd _ 0 e0 (by omega)) (by show (37:Int)≠3;decide) (.inr a0) (.inl (by show (-1:Int)<0;decide)) (.inl (by show (-1:Int)<0;decide)) (.inl (by show (-1:Int)<0;decide))
  have a2:=Sb.node (d:=t.sz+1) (x:=iu (I (2*m+1)) (q 5)) (bd _ 1 e0 (by omega)) (nd _ 1 e0 (by omega)) (by show (20:Int)≠3;decide) (.inr a1) (.inl (by show (-1:Int)<0;decide)) (.inl (by show (-1:Int)<0;decide)) (.inl (by show (-1:Int)<0;decide))
  have a3:=Sb.node (d:=t.sz+1+1) (x:=ir (I (2*m+1+1)) (q 4)) (bd _ 2 e0 (by omega)) (nd _ 2 e0 (by omega)) (by show (43:Int)≠3;decide) (.inr a2) (.inl (by show (-1:Int)<0;decide)) (.inl (by show (-1:Int)<0;decide)) (.inl (by show (-1:Int)<0;decide))
  have a4:=Sb.node (d:=t.sz+1+1+1) (x:=fZ (I (2*m+1+2)) (q 0)) (bd _ 3 e0 (by omega)) (nd _ 3 e0 (by omega)) (by show (50:Int)≠3;decide) (.inl (by show (-1:Int)<0;decide)) (.inr a3) (.inl (by show (-1:Int)<0;decide)) (.inl (by show (-1:Int)<0;decide))
  have:=(a4.mono (e:=100) (by omega)) 999999900
  exact this
 obtain ⟨j,z,ms,b1,b2,b3⟩:=OA (k:=Qc m g i q) t i [] (tp _ rfl) hp hr (by rw [List.length_nil];omega)
 rw [List.nil_append] at b2 b3
 refine ⟨j,ms,b1,b2,?_⟩
 have eg:Tryz.KF.k (Yr i (q 5)) (I (2*m+1)) (Qc m g i q) C4=Ar (I (2*m+1)) (kk (Qc m g i q) (ms++[Wd 37 j])) C4:=by
  unfold Tryz.KF.k
  have e1:Tryz.B1.k i (Qc m g i q) C4=Ar (.mk j 1 0 0 z) (kk (Qc m g i q) ms) C4:=(SC.of (b3.mono (e:=99) (by omega))) 999999900
  show ci (decide (i<0)) _ (Option.bind (Tryz.B1.k i (Qc m g i q) C4) _)=_
  rw [AB (ce (by omega)),e1,CI]
  dsimp only
  rw [AP (by rfl),AB (by rfl)]
  show Option.bind (Tryz.CS.k (.mk j 1 0 0 z) 1 (I (2*m+1)) false (kk (Qc m g i q) ms) C4) _=_
  rw [cB,CI]
  dsimp only
  rw [ZW _ (by omega),b1,hs]
  rfl
 obtain ⟨h,hh⟩: ∃ h,(List.range (2*m+1)).map h=ms:=⟨_,T9 ms (b1.trans hs)⟩
 have:=nx hm g h i j q
 rw [hh] at this
 rw [hT,nz hm,ny hm g i q tk,eg]
 exact this
end Go.Proofs
