/- EvalRows: the document's operations on words are the evaluator's. -/
import Derived.Test.YtpjlciengdhjoaaGreatDoorNb
import Derived.Test.YtpjlciengdhjoaaGreatDoorMy
import Derived.Test.YtpjlciengdhjoaaGreatDoorMv
import Derived.Test.YtpjlciengdhjoaaGreatDoorMx
set_option maxRecDepth 100000
set_option maxHeartbeats 1000000
namespace Go.Proofs
open Go Go.En Tryz
theorem oN (n:Int):n.tmod 4294967296=n % 4294967296 -if 0<=n\/n % 4294967296=0 then 0 else 4294967296:=by
 rw [Int.tmod_eq_emod]
 congr 1
 by_cases h:0<=n
 ·rw [if_pos (.inl h),if_pos (.inl h)];rfl
 ·by_cases h2:n % 4294967296=0
  ·rw [if_pos (.inr (Int.dvd_of_emod_eq_zero h2)),if_pos (.inr h2)];rfl
  ·rw [if_neg (fun h3=>h3.elim h fun h3=>h2 (Int.emod_eq_zero_of_dvd h3)),if_neg (fun h3=>h3.elim h h2)];rfl
theorem nC (n:Int):Tryz.DB.k n=Aw (wW n):=by
 have e:=oN n
 have e2:wW n=if n % 4294967296<2147483648 then n % 4294967296 else n % 4294967296 -4294967296:=by
  unfold wW;rw [IntKind.wrap_i32,IntKind.wrap_u32];split<;>omega
 unfold Tryz.DB.k
 dsimp only
 rw [AA (by rfl)]
 split at e
 ·by_cases h:2147483648<=n.tmod 4294967296
  ·rw [AP (bv h),AA (AN.2 (by omega)),e2,if_neg (by omega)];congr 1;omega
  ·rw [AB (ce h),AB (ce (by omega)),e2,if_pos (by omega)];congr 1;omega
 ·by_cases h:n.tmod 4294967296< -2147483648
  ·rw [AB (ce (by omega)),AP (bv h),AA (AN.2 (by omega)),e2,if_pos (by omega)];congr 1;omega
  ·rw [AB (ce (by omega)),AB (ce h),e2,if_neg (by omega)];congr 1
theorem z24 (n:Int):Tryz.CU.k n=Aw (n % 4294967296):=by
 have e2:wW n=if n % 4294967296<2147483648 then n % 4294967296 else n % 4294967296 -4294967296:=by
  unfold wW;rw [IntKind.wrap_i32,IntKind.wrap_u32];split<;>omega
 unfold Tryz.CU.k
 rw [nC,AM]
 dsimp only
 split at e2
 ·rw [AB (ce (by omega)),e2]
 ·rw [AP (bv (by omega)),AA (AN.2 (by omega)),e2];congr 1;omega
theorem mS: ∀ (j N i:Nat) (k p:Int),I i+I j=k->k<=100->0<=p->p<=4294967296->(Bd Tryz.Bu.kS (N+j+1)).1 k p (I i)=Aw (p / 2 ^ j % 2)
 | 0,N,i,k,p,h,hk,h0,h1=>by
  show Tryz.HJ.kB _ k p (I i)=_
  unfold Tryz.HJ.kB
  rw [AB (ce (by simp only [I] at h ⊢; omega)),AA (by rfl),Int.tmod_eq_emod_of_nonneg h0,Int.pow_zero,Int.ediv_one]
 | j+1,N,i,k,p,h,hk,h0,h1=>by
  show Tryz.HJ.kB (Bd Tryz.Bu.kS (N+j+1)) k p (I i)=_
  unfold Tryz.HJ.kB
  rw [AP (bv (by simp only [I] at h ⊢; omega)),Int.tdiv_eq_ediv_of_nonneg h0,AA (bv ⟨by decide,AN.2 (by omega)⟩),AA (AN.2 (by simp only [I] at h ⊢; omega)),show I i+1=I (i+1) by simp only [I];omega,mS j N (i+1) k (p / 2) (by simp only [I] at h ⊢; omega) hk (by omega) (by omega)]
  congr 2
  rw [Int.pow_succ,Int.mul_comm,Int.ediv_ediv_of_nonneg (by decide)]
theorem z41 (a:Int) {k:Nat} (hk:k<=100):Tryz.Bu.k a (I k)=Aw (if (a % 4294967296).toNat.testBit k then 1 else 0):=by
 unfold Tryz.Bu.k Tryz.Bu.k0
 rw [z24,AM]
 have:=mS k (999999 -k) 0 (I k) (a % 4294967296) (by simp only [I];omega) (by simp only [I];omega) (by omega) (by omega)
 rw [show 999999 -k+k+1=1000000 by omega] at this
 refine this.trans ?_
 congr 1
 rw [gT]
 have e:(a % 4294967296)=(((a % 4294967296).toNat:Nat):Int):=by omega
 generalize (a % 4294967296).toNat=m at e
 rw [e]
 have e2:(m:Int) / 2 ^ k % 2=((m / 2 ^ k % 2:Nat):Int):=by push_cast;rfl
 rw [e2]
 by_cases h:m / 2 ^ k % 2=1
 ·rw [if_pos (bv h),h];rfl
 ·rw [if_neg (by simpa using h),show m / 2 ^ k % 2=0 by omega];rfl
theorem mQ: ∀ (j N i:Nat) (k p:Int),I i+I j=k->k<=40->p=2 ^ i->(Bd Tryz.Bk.kS (N+j+1)).1 k p (I i)=Aw (2 ^ (i+j))
 | 0,N,i,k,p,h,hk,h0=>by
  show Tryz.HI.kB _ k p (I i)=_
  unfold Tryz.HI.kB
  rw [AB (ce (by simp only [I] at h ⊢; omega)),h0];rfl
 | j+1,N,i,k,p,h,hk,h0=>by
  have hi:(2:Int) ^ i<=2 ^ 40:=by
   have:=Nat.pow_le_pow_right (n:=2) (by decide) (show i<=40 by simp only [I] at h;omega)
   exact_mod_cast this
  have hi0:(0:Int)<2 ^ i:=Int.pow_pos (by decide)
  show Tryz.HI.kB (Bd Tryz.Bk.kS (N+j+1)) k p (I i)=_
  unfold Tryz.HI.kB
  rw [AP (bv (by simp only [I] at h ⊢; omega)),AA (AN.2 (by subst h0;omega)),AA (AN.2 (by simp only [I] at h ⊢; omega)),show I i+1=I (i+1) by simp only [I];omega,mQ j N (i+1) k (p*2) (by simp only [I] at h ⊢; omega) hk (by rw [h0,Int.pow_succ])]
  congr 2;omega
theorem pZ {k:Nat} (hk:k<=40):Tryz.Bk.k (I k)=Aw (2 ^ k):=by
 have:=mQ k (999999 -k) 0 (I k) 1 (by simp only [I];omega) (by simp only [I];omega) rfl
 rw [show 999999 -k+k+1=1000000 by omega] at this
 refine Eq.trans this ?_
 rw [Nat.zero_add]
def bg (kind:Nat) (x y:Bool):Bool:=match kind with
 | 0=>x && y
 | 1=>x || y
 | _=>x !=y
theorem oZ (T:Tryz.Bl.KT) {a b n:Int} {k:Nat} (hk:k<32) (hn:0<=n/\n<=4294967296) {x y:Bool} (hx:(a % 4294967296).toNat.testBit k=x) (hy:(b % 4294967296).toNat.testBit k=y) {kind:Nat} (h3:kind<3):
  Tryz.GF.kB T a b (I kind) n (I k)=T.1 a b (I kind) (n+if bg kind x y then 2 ^ k else 0) (I (k+1)):=by
 have e1:=z41 a (k:=k) (by omega)
 have e2:=z41 b (k:=k) (by omega)
 have e3:=pZ (k:=k) (by omega)
 rw [hx] at e1
 rw [hy] at e2
 have hi:(2:Int) ^ k<=2 ^ 40:=by
  have:=Nat.pow_le_pow_right (n:=2) (by decide) (show k<=40 by omega)
  exact_mod_cast this
 have hi0:(0:Int)<2 ^ k:=Int.pow_pos (by decide)
 have c1:Al (n+2 ^ k)=true:=AN.2 (by omega)
 have c2:Al (I k+1)=true:=AN.2 (by simp only [I];omega)
 unfold Tryz.GF.kB
 dsimp only
 rw [AP (bv (by simp only [I];omega)),e1,e2,AM]
 dsimp only
 rw [AM]
 dsimp only
 have d1:Al ((if x=true then (1:Int) else 0)+(if y=true then (1:Int) else 0))=true:=AN.2 (by split<;>split<;>omega)
 have d2:Al ((if x=true then (1:Int) else 0)*(if y=true then (1:Int) else 0))=true:=AN.2 (by split<;>split<;>omega)
 have nL: ∀ {α:Type} (z:Option α),ck true z=z:=fun _=>rfl
 simp only [e3,AM,c1,c2,d1,d2,nL]
 rw [show I k+1=I (k+1) by simp only [I];omega]
 rcases (show kind=0\/kind=1\/kind=2 by omega) with rfl|rfl|rfl
 ·cases x<;>cases y
  ·rw [show (if bg 0 false false=true then (2:Int) ^ k else 0)=0 from rfl,Int.add_zero];show _=_;kernel_rfl
  ·rw [show (if bg 0 false true=true then (2:Int) ^ k else 0)=0 from rfl,Int.add_zero];show _=_;kernel_rfl
  ·rw [show (if bg 0 true false=true then (2:Int) ^ k else 0)=0 from rfl,Int.add_zero];show _=_;kernel_rfl
  ·rw [show (if bg 0 true true=true then (2:Int) ^ k else 0)=2 ^ k from rfl];show _=_;kernel_rfl
 ·cases x<;>cases y
  ·rw [show (if bg 1 false false=true then (2:Int) ^ k else 0)=0 from rfl,Int.add_zero];show _=_;kernel_rfl
  ·rw [show (if bg 1 false true=true then (2:Int) ^ k else 0)=2 ^ k from rfl];show _=_;kernel_rfl
  ·rw [show (if bg 1 true false=true then (2:Int) ^ k else 0)=2 ^ k from rfl];show _=_;kernel_rfl
  ·rw [show (if bg 1 true true=true then (2:Int) ^ k else 0)=2 ^ k from rfl];show _=_;kernel_rfl
 ·cases x<;>cases y
  ·rw [show (if bg 2 false false=true then (2:Int) ^ k else 0)=0 from rfl,Int.add_zero];show _=_;kernel_rfl
  ·rw [show (if bg 2 false true=true then (2:Int) ^ k else 0)=2 ^ k from rfl];show _=_;kernel_rfl
  ·rw [show (if bg 2 true false=true then (2:Int) ^ k else 0)=2 ^ k from rfl];show _=_;kernel_rfl
  ·rw [show (if bg 2 true true=true then (2:Int) ^ k else 0)=0 from rfl,Int.add_zero];show _=_;kernel_rfl
theorem mR {a b:Int} {kind:Nat} (h3:kind<3): ∀ (j N k:Nat),k+j=32->(Bd Tryz.Bl.kS (N+j+1)).1 a b (I kind) (I (Hp (fun k=>bg kind ((a % 4294967296).toNat.testBit k) ((b % 4294967296).toNat.testBit k)) k)) (I k)=Aw (I (Hp (fun k=>bg kind ((a % 4294967296).toNat.testBit k) ((b % 4294967296).toNat.testBit k)) 32))
 | 0,N,k,h=>by
  rw [show k=32 by omega]
  show Tryz.GF.kB (Bd Tryz.Bl.kS N) a b (I kind) _ (I 32)=_
  unfold Tryz.GF.kB
  dsimp only
  rw [AB (by rfl)]
 | j+1,N,k,h=>by
  show Tryz.GF.kB (Bd Tryz.Bl.kS (N+j+1)) a b (I kind) _ (I k)=_
  have hb:=Pg (fun k=>bg kind ((a % 4294967296).toNat.testBit k) ((b % 4294967296).toNat.testBit k)) k
  have hp:=Nat.pow_le_pow_right (n:=2) (by decide) (show k<=32 by omega)
  rw [oZ _ (by omega) ⟨by simp only [I];omega,by simp only [I];omega⟩ rfl rfl h3]
  have:=mR (a:=a) (b:=b) h3 j N (k+1) (by omega)
  rw [show I (Hp (fun k=>bg kind ((a % 4294967296).toNat.testBit k) ((b % 4294967296).toNat.testBit k)) (k+1))=I (Hp (fun k=>bg kind ((a % 4294967296).toNat.testBit k) ((b % 4294967296).toNat.testBit k)) k)+(if bg kind ((a % 4294967296).toNat.testBit k) ((b % 4294967296).toNat.testBit k) then 2 ^ k else 0) from ?_] at this
  ·exact this
  ·simp only [Hp,I]
   split
   ·push_cast;rfl
   ·push_cast;rfl
theorem oW (a b:Int) {kind:Nat} (h3:kind<3):Tryz.Bl.k a b (I kind)=Aw (I (Hp (fun k=>bg kind ((a % 4294967296).toNat.testBit k) ((b % 4294967296).toNat.testBit k)) 32)):=by
 have:=mR (a:=a) (b:=b) h3 32 999967 0 rfl
 rw [show 999967+32+1=1000000 from rfl] at this
 exact this
set_option maxHeartbeats 2000000
theorem qF (c:Bool):Tryz.DD.k c=Aw (if c=true then 1 else 0):=by cases c<;>rfl
theorem z26 {a y:Int} (ha:Gr a) (hy:0<y/\y<=4294967296):Tryz.D7.k a y=Aw (a / y):=by
 have h1:y≠0:=by omega
 have h2:(a.tdiv y).natAbs<=a.natAbs:=by rw [Int.natAbs_tdiv];exact Nat.div_le_self _ _
 have h3:=Int.mul_tdiv_add_tmod a y
 have h4:a.tdiv y*y=y*a.tdiv y:=Int.mul_comm _ _
 have h5:(a.tmod y).natAbs<y.natAbs:=by rw [Int.natAbs_tmod];exact Nat.mod_lt _ (by omega)
 unfold Tryz.D7.k
 rw [AA (bv ⟨h1,AN.2 (by omega)⟩)]
 by_cases hn:a<0
 ·have hq:=Int.tdiv_eq_ediv (a:=a) (b:=y)
  rw [AP (bv hn),AA (AN.2 (by omega))]
  by_cases h6:a.tdiv y*y=a
  ·rw [AB (by simp [h6])]
   congr 1
   have hd:y ∣ a:=⟨a.tdiv y,by omega⟩
   rw [hq,if_pos (.inr hd),Int.add_zero]
  ·rw [AP (by simp [h6]),AA (AN.2 (by omega))]
   congr 1
   have hd:¬ y ∣ a:=fun hd=>h6 (Int.tdiv_mul_cancel hd)
   rw [hq,if_neg (by intro h;rcases h with h|h;omega;exact hd h),Int.sign_eq_one_of_pos hy.1]
   omega
 ·rw [AB (ce hn),Int.tdiv_eq_ediv_of_nonneg (by omega)]
theorem oU {x y:Int} (h:x % 4294967296=y % 4294967296):wW x=wW y:=by
 unfold wW
 rw [IntKind.wrap_i32,IntKind.wrap_i32,IntKind.wrap_u32,IntKind.wrap_u32,h]
theorem eI {n m:Nat} (h:n % 2 ^ 32=m):wW (I m)=wW (IntKind.i64.wrap (n:Int)):=by
 apply oU
 rw [IntKind.wrap_i64]
 simp only [I]
 omega
theorem oX (a b:Int): ∃ m,Tryz.Bl.k a b 0=Aw (I m)/\wW (I m)=wW (bits BinOp.and IntKind.i64 a b):=⟨_,oW a b (kind:=0) (by omega),eI (gR a b)⟩
theorem oY (a b:Int): ∃ m,Tryz.Bl.k a b 1=Aw (I m)/\wW (I m)=wW (bits BinOp.or IntKind.i64 a b):=⟨_,oW a b (kind:=1) (by omega),eI (lA a b)⟩
theorem oa (a b:Int): ∃ m,Tryz.Bl.k a b 2=Aw (I m)/\wW (I m)=wW (bits BinOp.xor IntKind.i64 a b):=⟨_,oW a b (kind:=2) (by omega),eI (gZ a b)⟩
theorem pj {α:Type} (x y:Option α):ci true x y=x:=rfl
theorem ph {α:Type} (x y:Option α):ci false x y=y:=rfl
theorem nL {α:Type} (x:Option α):ck true x=x:=rfl
def mT:List Int:=[1,2,3,4,5,8,9,10,11,12,14,15,16,17]
def OT (o:Option Int):Hj Int Bool:=match o with
 | some v=>D8 v true
 | none=>D8 0 false
theorem nS (q:Prop):q=True\/q=False:=by by_cases h:q<;>simp [h]
theorem pX {a b:Int} (ha:Gr a) (hb:Gr b) {o:Int} (ho:o∈mT):Tryz.BV.k o a b=OT (cT o a b):=by
 unfold Tryz.BV.k
 have hT: ∀ v,(Tryz.BV.kL 1000000).1 v=D8 (wW v) true:=fun v=>by
  show Tryz.HE.kB (Tryz.BV.kL 999999) v=_
  unfold Tryz.HE.kB
  rw [nC,AM]
 generalize Tryz.BV.kL 1000000=T at hT
 have hk:(b % 32).toNat<=31:=by omega
 have ek:(b % 4294967296).tmod 32=I (b % 32).toNat:=by
  rw [Int.tmod_eq_emod_of_nonneg (by omega)];simp only [I];omega
 have ep:=pZ (k:=(b % 32).toNat) (by omega)
 obtain ⟨P,hP⟩: ∃ P:Int,P=2 ^ (b % 32).toNat:=⟨_,rfl⟩
 have hi2:(2:Int) ^ (b % 32).toNat<=2 ^ 31:=by
  have:=Nat.pow_le_pow_right (n:=2) (by decide) hk
  exact_mod_cast this
 have hi:P<=2147483648:=by omega
 have hi0:0<P:=by rw [hP];exact Int.pow_pos (by decide)
 have wa:wW a=a:=ES ha
 have wb:wW b=b:=ES hb
 rw [<-hP] at ep
 have i1:Al (a+b)=true:=AN.2 (by omega)
 have i2:Al (a -b)=true:=AN.2 (by omega)
 have i3:Al (a*b)=true:=AN.2 (da ha hb)
 have h2:(a.tdiv b).natAbs<=a.natAbs:=by rw [Int.natAbs_tdiv];exact Nat.div_le_self _ _
 have i4:Al (a.tdiv b)=true:=AN.2 (by omega)
 have h3:=Int.mul_tdiv_add_tmod a b
 have h4:a.tdiv b*b=b*a.tdiv b:=Int.mul_comm _ _
 have h5:(a.tmod b).natAbs<=a.natAbs:=by rw [Int.natAbs_tmod];exact Nat.mod_le _ _
 have i5:Al (a.tdiv b*b)=true:=AN.2 (by omega)
 have e6:a -a.tdiv b*b=a.tmod b:=by omega
 have i6:Al (a.tmod b)=true:=AN.2 (by omega)
 have i7:Al (a*P)=true:=AN.2 (by
  have h:(a*P).natAbs<=2147483648*2147483648:=by
   rw [Int.natAbs_mul]
   exact Nat.mul_le_mul (by omega) (by omega)
  omega)
 obtain ⟨m0,a0,b0⟩:=oX a b
 obtain ⟨m1,a1,b1⟩:=oY a b
 obtain ⟨m2,a2,b2⟩:=oa a b
 have e12:=z26 (y:=P) ha (by omega)
 have w1:wW 1=1:=by decide
 have w0:wW 0=0:=by decide
 unfold Tryz.BV.k0
 rw [nC,wa,AM,nC,wb]
 dsimp only
 rw [AM]
 dsimp only
 rw [z24,AM]
 dsimp only
 rw [ek,ep,AA (by rfl),AM]
 dsimp only
 have d0:decide ((b:Int)≠0/\Al (a.tdiv b)=true)=!decide (b=0):=by simp [i4]
 simp only [mT,List.mem_cons,List.not_mem_nil,or_false] at ho
 have hc:((a=b)=True/\(a<b)=False/\(a<=b)=True)\/((a=b)=False/\(a<b)=True/\(a<=b)=True)\/((a=b)=False/\(a<b)=False/\(a<=b)=False):=by
  rcases Int.lt_trichotomy a b with c|c|c
  ·exact .inr (.inl ⟨eq_false (by omega),eq_true c,eq_true (by omega)⟩)
  ·exact .inl ⟨eq_true c,eq_false (by omega),eq_true (by omega)⟩
  ·exact .inr (.inr ⟨eq_false (by omega),eq_false (by omega),eq_false (by omega)⟩)
 have j0:Al 0=true:=by rfl
 have j1:Al 1=true:=by rfl
 have j2:Al 2=true:=by rfl
 rcases nS (b=0) with h|h<;>rcases hc with ⟨c1,c2,c3⟩|⟨c1,c2,c3⟩|⟨c1,c2,c3⟩<;>rcases ho with rfl|rfl|rfl|rfl|rfl|rfl|rfl|rfl|rfl|rfl|rfl|rfl|rfl|rfl<;>
 simp only [d0,Int.reduceLT,Int.reduceLE,Int.reduceEq,Int.reduceSub,decide_true,decide_false,pj,ph,nL,AM,i1,i2,i3,i5,e6,i6,i7,a0,a1,a2,e12,hT,qF,cT,↓reduceIte,OT,b0,b1,b2,h,<- hP,Bool.not_false,Bool.not_true,Bool.false_eq_true,w0,w1,c1,c2,c3,j0,j1,j2]
set_option maxHeartbeats 1000000
theorem pv (n:Nat) (u:Int):Tryz.Bi.kr (Tryz.g12.kR (n+1)) u=Tryz.Bi.kf (Tryz.g12.kR n) u:=rfl
theorem na: ∀ u:Fin 10,List.map (fun (x:Int)=>(eK Dop.D4 3 x).toNat.toUInt8) (IntKind.u8.wrap (48+I u.val)::[])=[UInt8.ofNat (48+u.val)]:=by
 intro u
 match u with
 | 0|1|2|3|4|5|6|7|8|9=>show _=_;kernel_rfl
theorem z12: ∀ (d u n:Nat),u<10 ^ (d+1)->d<10->Tryz.Bi.kr (Tryz.g12.kR (n+d+1)) (I u)=Aw (Lib.decDigits u)
 | d,u,n,h,hd=>by
  rw [pv]
  unfold Tryz.Bi.kf
  by_cases h10:u<10
  ·rw [AP (bv (by simp only [I];omega)),AA (AN.2 (by simp only [I];omega)),Lib.decDigits,dif_pos h10]
   exact congrArg Aw (na ⟨u,h10⟩)
  ·match d,hd with
   | 0,_=>exact absurd h (by omega)
   | d+1,hd=>
    have hp:=Nat.pow_le_pow_right (n:=10) (by decide) (show d+1+1<=11 by omega)
    have hu:u / 10<10 ^ (d+1):=by rw [Nat.pow_succ] at h;omega
    have hq:(I u).tdiv 10=I (u / 10):=by rw [Int.tdiv_eq_ediv_of_nonneg (by simp only [I];omega)];simp only [I];omega
    have hr:(I u).tmod 10=I (u % 10):=by rw [Int.tmod_eq_emod_of_nonneg (by simp only [I];omega)];simp only [I];omega
    have l1:=dec_lt d (u / 10) hu
    have l2:=dec_lt 0 (u % 10) (by omega)
    rw [AB (ce (by simp only [I];omega)),AA (bv ⟨by decide,AN.2 (by rw [hq];simp only [I];omega)⟩),hq,hr,<- Nat.add_assoc,z12 d (u / 10) n hu (by omega),AM]
    dsimp only
    rw [AA (by rfl),show n+d+1=(n+d)+0+1 by omega,z12 0 (u % 10) (n+d) (by omega) (by omega),AM]
    dsimp only
    rw [AA (bv (by omega))]
    congr 1
    conv=>rhs;rw [Lib.decDigits,dif_neg h10]
    congr 1
    rw [Lib.decDigits,dif_pos (by omega)]
theorem mO {x:Int} (h:0<=x/\x<=1000000):Tryz.Bi.k x=Aw (Lib.decDigits x.toNat):=by
 have:=z12 6 x.toNat 999999993 (by simp;omega) (by omega)
 rw [show I x.toNat=x by simp only [I];omega] at this
 exact this
theorem pb {x:Int}: ∀ (q p:List (List UInt8)) (w u:List Int) (N:Nat) (s:List UInt8),u.length=p.length->w.length=q.length->p.length+q.length<=12->s.length<=1000+11*p.length->(∀ o∈q,o∈At)->(∀ y∈w,0<=y/\y<=1000000)->
  (Bd Tryz.Ex.kS (N+q.length+1)).1 (x::(u++w)) (p++q) s (I p.length)=Aw (s++Qi q w)
 | [],p,w,u,N,s,hu,hw,hn,hs,hq,hr=>by
  show Tryz.KM.kB (Bd Tryz.Ex.kS N) _ _ _ _=_
  unfold Tryz.KM.kB
  rw [AB (ce (by simp [I])),Qi,List.append_nil]
  intro _ _ _ _ h;cases h
 | o::q,p,[],u,N,s,hu,hw,hn,hs,hq,hr=>absurd hw (by simp)
 | o::q,p,y::w,u,N,s,hu,hw,hn,hs,hq,hr=>by
  have hw2:w.length=q.length:=by simpa using hw
  have hy:=hr y List.mem_cons_self
  have ho:=VO o (hq o List.mem_cons_self)
  have h4:=dec_lt 6 y.toNat (by simp;omega)
  have ep:List.getD (p++o::q) (I p.length).toNat []=o:=by
   rw [show (I p.length).toNat=p.length from rfl,lc,kw (Nat.le_refl _),Nat.sub_self];rfl
  have ey:List.getD (x::(u++y::w)) (I p.length+1).toNat 0=y:=by
   rw [show (I p.length+1).toNat=u.length+1 by simp only [I];omega,List.getD_cons_succ,lc,kw (Nat.le_refl _),Nat.sub_self];rfl
  show Tryz.KM.kB (Bd Tryz.Ex.kS (N+q.length+1)) _ _ _ _=_
  unfold Tryz.KM.kB
  have hlen:(p++o::q).length=p.length+(q.length+1):=by simp
  simp only [List.length_cons] at hn
  rw [AP (bv (by rw [hlen];simp only [I];omega)),AA (bv (by simp;omega)),AA (bv (by rw [hlen];simp only [I];omega)),ep,AA (bv (by simp;omega)),AA (bv (by simp;omega)),AA (AN.2 (by simp only [I];omega)),AA (bv (by simp only [I,List.length_cons,List.length_append];omega)),ey,mO hy,AM]
  dsimp only
  rw [AA (bv (by simp;omega)),AA (AN.2 (by simp only [I];omega))]
  have:=pb (x:=x) q (p++[o]) w (u++[y]) N (s++(32::[])++o++(32::[])++Lib.decDigits y.toNat) (by simp [hu]) hw2 (by simp;omega) (by simp;omega) (fun a h=>hq a (mt _ h)) (fun a h=>hr a (mt _ h))
  rw [show I p.length+1=I (p++[o]).length by simp [I],show x::(u++y::w)=x::(u++[y]++w) by simp,show p++o::q=p++[o]++q by simp,this,Qi]
  simp
theorem z7 {l:List (List UInt8)} {x:Int} {v:List Int} (hv:v.length=l.length) (hk:l.length<=12) (hp: ∀ p∈l,p∈At) (hr: ∀ y∈x::v,0<=y/\y<=1000000):Tryz.Ex.k (x::v) l=Aw (Lib.decDigits x.toNat++Qi l v):=by
 have hx:=hr x List.mem_cons_self
 have h4:=dec_lt 6 x.toNat (by simp;omega)
 unfold Tryz.Ex.k Tryz.Ex.k0
 rw [AA (bv (by simp [I])),show List.getD (x::v) (Int.toNat 0) 0=x from rfl,mO hx,AM]
 have:=pb (x:=x) l [] v [] (999999 -l.length) (Lib.decDigits x.toNat) rfl hv (by simpa using hk) (by simp;omega) hp (fun y h=>hr y (mt _ h))
 rw [show 999999 -l.length+l.length+1=1000000 by omega] at this
 exact this
theorem z21: ∀ o∈At,Tryz.Gb.k o=Aw (sO o+1):=by
 intro p hp
 simp only [At,List.mem_cons,List.not_mem_nil,or_false] at hp
 rcases hp with rfl|rfl|rfl|rfl|rfl|rfl|rfl|rfl|rfl|rfl|rfl|rfl|rfl|rfl|rfl|rfl<;>show _=_<;>kernel_rfl
theorem gm {l:List (List UInt8)} (hl: ∀ p∈l,p∈At) {i:Nat} (hi:i<l.length):l.getD i []∈At:=hl _ (NI hi)
theorem mP {l:List (List UInt8)} (hl: ∀ p∈l,p∈At) (hk:l.length<=12): ∀ (j N i w:Nat),i+j=l.length->Wq sO l i w-> ∃ z,Wq sO l l.length z/\(Bd Tryz.B0.kS (N+j+1)).1 l (I w) (I i)=Aw (I z)
 | 0,N,i,w,h,hw=>by
  refine ⟨w,by rw [<-h];exact hw,?_⟩
  show Tryz.HD.kB (Bd Tryz.B0.kS N) l (I w) (I i)=_
  unfold Tryz.HD.kB
  rw [AB (ce (by simp only [I];omega))]
 | j+1,N,i,w,h,hw=>by
  obtain ⟨z,z1,z2⟩:=mP hl hk j N (i+1) _ (by omega) hw.step
  refine ⟨z,z1,?_⟩
  have hw1:=hw.1
  show Tryz.HD.kB (Bd Tryz.B0.kS (N+j+1)) l (I w) (I i)=_
  unfold Tryz.HD.kB
  rw [AP (bv (by simp only [I];omega)),AA (bv (by simp only [I];omega)),show (I i).toNat=i from rfl,show (I w).toNat=w from rfl,z21 _ (gm hl (by omega)),AM]
  dsimp only
  rw [AA (bv (by simp only [I];omega)),z21 _ (gm hl (by omega)),AM]
  dsimp only
  by_cases hc:sO (l.getD i [])<=sO (l.getD w [])
  ·rw [if_pos hc] at z2
   rw [AP (bv (by omega)),AA (AN.2 (by simp only [I];omega)),show I i+1=I (i+1) by simp only [I];omega]
   exact z2
  ·rw [if_neg hc] at z2
   rw [AB (ce (by omega)),AA (AN.2 (by simp only [I];omega)),show I i+1=I (i+1) by simp only [I];omega]
   exact z2
theorem qE {l:List (List UInt8)} (hl: ∀ p∈l,p∈At) (h0:0<l.length) (hk:l.length<=12): ∃ z,Wq sO l l.length z/\Tryz.B0.k l=Aw (I z):=by
 obtain ⟨z,z1,z2⟩:=mP hl hk (l.length -1) (999999 -(l.length -1)) 1 0 (by omega) (Wq.one _ _)
 refine ⟨z,z1,?_⟩
 rw [show 999999 -(l.length -1)+(l.length -1)+1=1000000 by omega] at z2
 exact z2
def gO:List (List UInt8×Int):=[([124],9),([94],10),([38],8),([61,61],14),([33,61],15),([60],16),([60,61],17),([60,60],11),([62,62],12),([43],1),([45],2),([42],3),([47],4),([37],5)]
theorem z5:Tryz.IA.k=Aw gO:=by kernel_rfl
theorem k8 (n:Nat) (v:List Int) (l:List (List UInt8)):Tryz.El.kr (Tryz.g8.kR (n+1)) v l=Tryz.El.kf (Tryz.g8.kR n) v l:=rfl
theorem z20 (o:Option Int):Option.bind (OT o) Iy=OT o:=by cases o<;>rfl
theorem od {p:List UInt8} (hp:p∈At) {a b:Int} (ha:Gr a) (hb:Gr b):
  ci (decide (p=[62])) ((Tryz.BV.k 16 b a).bind Iy) (ci (decide (p=[62,61])) ((Tryz.BV.k 17 b a).bind Iy) (Option.bind Tryz.IA.k fun y10=>(Tryz.BV.k ((AT y10.1.1 p).getD 0) a b).bind Iy))=OT (bV p a b):=by
 have e:=fun o ho=>(congrArg (fun z=>Option.bind z Iy) (pX ha hb (o:=o) ho)).trans (z20 _)
 have e':=fun o ho=>(congrArg (fun z=>Option.bind z Iy) (pX hb ha (o:=o) ho)).trans (z20 _)
 rw [z5,AM]
 dsimp only
 simp only [At,List.mem_cons,List.not_mem_nil,or_false] at hp
 rcases hp with rfl|rfl|rfl|rfl|rfl|rfl|rfl|rfl|rfl|rfl|rfl|rfl|rfl|rfl|rfl|rfl
 ·exact e 9 (by decide)
 ·exact e 10 (by decide)
 ·exact e 8 (by decide)
 ·exact e 14 (by decide)
 ·exact e 15 (by decide)
 ·exact e 16 (by decide)
 ·exact e 17 (by decide)
 ·exact e' 16 (by decide)
 ·exact e' 17 (by decide)
 ·exact e 11 (by decide)
 ·exact e 12 (by decide)
 ·exact e 1 (by decide)
 ·exact e 2 (by decide)
 ·exact e 3 (by decide)
 ·exact e 4 (by decide)
 ·exact e 5 (by decide)
theorem kZ {p:List UInt8} (hp:p∈At) {a b v:Int} (ha:Gr a) (hb:Gr b) (h:bV p a b=some v):Gr v:=by
 unfold bV at h
 have e:=fun (x y:Int) (hx:Gr x) (hy:Gr y) (h:cT (IL p).1 x y=some v)=>(Z2 hx hy hp).elim (fun ⟨w,h1,h2,_⟩=>by rw [h1] at h;cases h;exact h2) (fun ⟨h1,_⟩=>by rw [h1] at h;cases h)
 split at h
 ·exact e _ _ hb ha h
 ·exact e _ _ ha hb h
theorem z8: ∀ (t:RT),t.Ok sO->(∀ p∈t.ops,p∈At)->(∀ x∈t.BS,0<=x/\x<=1000000)->t.ops.length<=12->(∀ v,t.ev=some v->Gr v)/\ ∀ n,Tryz.El.kr (Tryz.g8.kR (n+t.ops.length+1)) t.BS t.ops=OT t.ev
 | .n x,_,_,hr,_=>⟨fun v h=>by cases h;have:=hr x (by simp [RT.BS]);omega,fun n=>by
   rw [k8]
   unfold Tryz.El.kf
   rw [AP (by rfl)]
   rfl⟩
 | .o p l r,ho,hp,hr,hk=>by
  obtain ⟨o1,o2,o3,o4⟩:=ho
  have hpl: ∀ q∈l.ops,q∈At:=fun q h=>hp q (by simp [RT.ops,h])
  have hpr: ∀ q∈r.ops,q∈At:=fun q h=>hp q (by simp [RT.ops,h])
  have hpp:p∈At:=hp p (by simp [RT.ops])
  have hrl: ∀ q∈l.BS,0<=q/\q<=1000000:=fun q h=>hr q (by simp [RT.BS,h])
  have hrr: ∀ q∈r.BS,0<=q/\q<=1000000:=fun q h=>hr q (by simp [RT.BS,h])
  have hlen:(RT.o p l r).ops.length=l.ops.length+(r.ops.length+1):=by simp [RT.ops]
  obtain ⟨l1,l2⟩:=z8 l o3 hpl hrl (by omega)
  obtain ⟨r1,r2⟩:=z8 r o4 hpr hrr (by omega)
  obtain ⟨z,w1,w2⟩:=qE (l:=(RT.o p l r).ops) hp (by omega) hk
  have hz:z=l.ops.length:=w1.at o1 o2
  subst hz
  have nl:=l.len
  have nr:=r.len
  have hnum:(RT.o p l r).BS.length=l.ops.length+1+(r.ops.length+1):=by simp only [RT.BS,List.length_append];omega
  refine ⟨fun v h=>?_,fun n=>?_⟩
  ·unfold RT.ev at h
   split at h
   ·rename_i a b ha hb
    exact kZ hpp (l1 _ ha) (r1 _ hb) h
   ·cases h
  ·rw [k8]
   unfold Tryz.El.kf
   have t1:List.drop (Int.toNat 0) (List.take (I l.ops.length+1).toNat (RT.o p l r).BS)=l.BS:=by
    rw [show (I l.ops.length+1).toNat=l.BS.length by simp only [I];omega]
    simp [RT.BS]
   have t2:List.drop (Int.toNat 0) (List.take (I l.ops.length).toNat (RT.o p l r).ops)=l.ops:=by
    simp [RT.ops,I]
   have t3:List.drop (I l.ops.length+1).toNat (List.take (I (RT.o p l r).BS.length).toNat (RT.o p l r).BS)=r.BS:=by
    rw [show (I l.ops.length+1).toNat=l.BS.length by simp only [I];omega,show (I (RT.o p l r).BS.length).toNat=(RT.o p l r).BS.length from rfl,List.take_length]
    simp [RT.BS]
   have t4:List.drop (I l.ops.length+1).toNat (List.take (I (RT.o p l r).ops.length).toNat (RT.o p l r).ops)=r.ops:=by
    rw [show (I l.ops.length+1).toNat=l.ops.length+1 by simp only [I];omega,show (I (RT.o p l r).ops.length).toNat=(RT.o p l r).ops.length from rfl,List.take_length]
    simp [RT.ops]
   have t5:List.getD (RT.o p l r).ops (I l.ops.length).toNat []=p:=by simp [RT.ops,I,lc]
   have e1:=l2 (n+r.ops.length)
   have e2:=r2 (n+l.ops.length)
   rw [show n+r.ops.length+l.ops.length+1=n+(RT.o p l r).ops.length by omega] at e1
   rw [show n+l.ops.length+r.ops.length+1=n+(RT.o p l r).ops.length by omega] at e2
   rw [AB (ce (by rw [hlen];simp only [I];omega)),w2,AM]
   dsimp only
   rw [AA (AN.2 (by simp only [I];omega)),AA (bv (by rw [hnum];simp only [I];omega)),AA (bv (by rw [hlen];simp only [I];omega)),t1,t2,e1]
   rw [show (RT.o p l r).ev=(match l.ev,r.ev with|some a,some b=>bV p a b|_,_=>none) from rfl]
   cases hl:l.ev with
   | none=>rfl
   | some a=>
    unfold OT
    dsimp only
    rw [DE]
    dsimp only
    rw [AB (by rfl),AA (AN.2 (by simp only [I];omega)),AA (bv (by rw [hnum];simp only [I];omega)),AA (AN.2 (by simp only [I];omega)),AA (bv (by rw [hlen];simp only [I];omega)),t3,t4,e2]
    cases hr:r.ev with
    | none=>rfl
    | some b=>
     unfold OT
     dsimp only
     rw [DE]
     dsimp only
     rw [AB (by rfl),AA (bv (by rw [hlen];simp only [I];omega)),t5]
     refine Eq.trans ?_ (od hpp (l1 _ hl) (r1 _ hr))
     rw [z5,AM,AM]
     dsimp only
     rw [AA (bv (by rw [hlen];simp only [I];omega))]
theorem qI {t:RT} (h1:t.Ok sO) (h2: ∀ p∈t.ops,p∈At) (h3: ∀ x∈t.BS,0<=x/\x<=1000000) (h4:t.ops.length<=12):Tryz.El.k t.BS t.ops=OT t.ev:=by
 have:=(z8 t h1 h2 h3 h4).2 (999999999 -t.ops.length)
 rw [show 999999999 -t.ops.length+t.ops.length+1=FU by show _=1000000000;omega] at this
 exact this
theorem Rt (p:List UInt8): ∀ l:List (List UInt8×Int),(∀ x∈l,x.1≠p)->AT l p=none
 | [],_=>rfl
 | x::l,h=>by
  have h1:=h x List.mem_cons_self
  unfold AT Di
  rw [show I1 (T:=fun _=>Unit) .str p x.1=false from ce fun e=>h1 e.symm]
  exact Rt p l fun y hy=>h y (mt _ hy)
theorem fY: ∀ x∈gO,x.1∈At:=by decide+kernel
theorem qH (T:Tryz.ET.KT) (o:List Int) (l:List (List UInt8)) {i:Nat} (hi:i<l.length) (ho:o.length=l.length+1) (hk:l.length<=12):
  Tryz.H9.kB T o l l (I l.length) (I i)=if List.getD l i []∈At then (if 0<=List.getD o i 0/\List.getD o i 0<=1000000 then T.1 o l l (I l.length) (I (i+1)) else Aw true) else Aw true:=by
 have z:(ck (decide (0<=I i/\I i<I o.length))<|ci (decide (List.getD o (I i).toNat (0:Int)<0)) (Aw true)<|ck (decide (0<=I i/\I i<I o.length))<|ci (decide (1000000<List.getD o (I i).toNat 0)) (Aw true)<|ck (Al (I i+1))<|T.1 o l l (I l.length) (I i+1))=if 0<=List.getD o i 0/\List.getD o i 0<=1000000 then T.1 o l l (I l.length) (I (i+1)) else Aw true:=by
  rw [show (I i).toNat=i from rfl,AA (bv (by rw [ho];simp only [I];omega))]
  by_cases h1:List.getD o i 0<0
  ·rw [AP (bv h1),if_neg (by omega)]
  ·rw [AB (ce h1),AA (bv (by rw [ho];simp only [I];omega))]
   by_cases h2:1000000<List.getD o i 0
   ·rw [AP (bv h2),if_neg (by omega)]
   ·rw [AB (ce h2),if_pos (by omega),AA (AN.2 (by simp only [I];omega)),show I i+1=I (i+1) by simp only [I];omega]
 unfold Tryz.H9.kB
 dsimp only
 rw [z,AP (bv (by simp only [I];omega)),AA (bv (by simp only [I];omega)),z5,AM]
 dsimp only
 rw [show (I i).toNat=i from rfl]
 generalize List.getD l i []=p
 by_cases hp:p∈At
 ·rw [if_pos hp]
  generalize (if 0<=List.getD o i 0/\List.getD o i 0<=1000000 then T.1 o l l (I l.length) (I (i+1)) else Aw true)=Z
  simp only [At,List.mem_cons,List.not_mem_nil,or_false] at hp
  rcases hp with rfl|rfl|rfl|rfl|rfl|rfl|rfl|rfl|rfl|rfl|rfl|rfl|rfl|rfl|rfl|rfl<;>rfl
 ·rw [if_neg hp,Rt p gO (fun x hx e=>hp (e▸fY x hx)),AP (by rfl),AP (by simp;rintro rfl;exact hp (by decide)),AP (by simp;rintro rfl;exact hp (by decide))]
theorem RT.mz: ∀ t:RT,t.sz=2*t.ops.length+1
 | .n _=>rfl
 | .o p a b=>by
  have:=a.mz;have:=b.mz
  simp only [RT.sz,RT.ops,List.length_append,List.length_cons];omega
def Alt:List (List UInt8)->List En.Dop.Tok->List Int->Prop
 | [],R,v=> ∃ t x,R=[t]/\v=[x]/\t.kind=3/\t.n=x
 | o::l,R,v=> ∃ t u S x w,R=t::u::S/\v=x::w/\t.kind=3/\t.n=x/\u.kind=4/\u.text=o/\u.n=0/\Alt l S w
theorem Alt.at: ∀ {l:List (List UInt8)} {R:List En.Dop.Tok} {v:List Int},Alt l R v->R.length=2*l.length+1/\(∀ j,j<=l.length->(R.getD (2*j) En.Dop.d4).kind=3/\(R.getD (2*j) En.Dop.d4).n=v.getD j 0)/\ ∀ j,j<l.length->(R.getD (2*j+1) En.Dop.d4).kind=4/\(R.getD (2*j+1) En.Dop.d4).text=l.getD j []/\(R.getD (2*j+1) En.Dop.d4).n=0
 | [],R,v,h=>by
  obtain ⟨t,x,rfl,rfl,h1,h2⟩:=h
  exact ⟨rfl,fun j hj=>by rw [show j=0 by simpa using hj];exact ⟨h1,h2⟩,fun j hj=>absurd hj (by simp)⟩
 | o::l,R,v,h=>by
  obtain ⟨t,u,S,x,w,rfl,rfl,h1,h2,h3,h4,h5,h6⟩:=h
  obtain ⟨k1,k2,k3⟩:=Alt.at h6
  refine ⟨by simp only [List.length_cons,k1];omega,fun j hj=>?_,fun j hj=>?_⟩
  ·match j,hj with
   | 0,_=>exact ⟨h1,h2⟩
   | j+1,hj=>exact k2 j (by simpa using hj)
  ·match j,hj with
   | 0,_=>exact ⟨h3,h4,h5⟩
   | j+1,hj=>exact k3 j (by simpa using hj)
theorem Ww: ∀ (l:List (List UInt8)) (v:List Int) (x:Int) (w:List UInt8) (a b:Nat),v.length=l.length->Alt l (pl a ((b,.mk 3 w x 0)::Zh l v)) (x::v)
 | [],[],_,_,_,_,_=>⟨_,_,rfl,rfl,rfl,rfl⟩
 | o::l,y::v,_,_,_,_,h=>⟨_,_,_,_,_,rfl,rfl,rfl,rfl,rfl,rfl,rfl,Ww l v y _ _ _ (by simpa using h)⟩
theorem du {R:List En.Dop.Tok} {v:List Int} {l:List (List UInt8)} (h:Alt l R v):R=(List.range (2*l.length+1)).map (T6 (fun j=>(R.getD j En.Dop.d4).text) (fun j=>(R.getD j En.Dop.d4).n) (fun j=>(R.getD j En.Dop.d4).at_)):=by
 obtain ⟨h1,h2,h3⟩:=h.at
 apply List.ext_getElem (by simp [h1])
 intro j e1 e2
 simp only [List.getElem_map,List.getElem_range]
 have e:R[j]=R.getD j En.Dop.d4:=by rw [lc,co e1];rfl
 rw [e]
 unfold T6
 split
 ·rename_i hj
  have:=(h2 (j / 2) (by omega)).1
  rw [show 2*(j / 2)=j by omega] at this
  rw [<-this]
 ·rename_i hj
  have:=h3 (j / 2) (by omega)
  rw [show 2*(j / 2)+1=j by omega] at this
  obtain ⟨k1,_,k3⟩:=this
  rw [<-k1,<- k3]
theorem Zx {L:List En.Dop.Tok}: ∀ (t:RT) (a:Int),(∀ j,j<t.BS.length-> ∃ w,TK L (a+I (2*j)) 3 w (t.BS.getD j 0))->(∀ j,j<t.ops.length-> ∃ n,TK L (a+I (2*j+1)) 4 (t.ops.getD j []) n)->TT L a t
 | .n x,a,h,_=>by
  obtain ⟨w,h⟩:=h 0 (by simp [RT.BS])
  exact ⟨w,by simpa [I,RT.BS] using h⟩
 | .o p l r,a,h,k=>by
  have e1:=l.len;have e2:=r.len;have e3:=l.mz
  refine ⟨Zx l a (fun j hj=>?_) (fun j hj=>?_),?_,Zx r _ (fun j hj=>?_) (fun j hj=>?_)⟩
  ·obtain ⟨w,hw⟩:=h j (by simp only [RT.BS,List.length_append];omega)
   refine ⟨w,?_⟩
   rw [RT.BS,lc,el hj,<- lc] at hw
   exact hw
  ·obtain ⟨w,hw⟩:=k j (by simp only [RT.ops,List.length_append,List.length_cons];omega)
   refine ⟨w,?_⟩
   rw [RT.ops,lc,el hj,<- lc] at hw
   exact hw
  ·obtain ⟨w,hw⟩:=k l.ops.length (by simp only [RT.ops,List.length_append,List.length_cons];omega)
   rw [RT.ops,lc,kw (Nat.le_refl _),Nat.sub_self] at hw
   exact ⟨w,by rw [e3];exact hw⟩
  ·obtain ⟨w,hw⟩:=h (l.BS.length+j) (by simp only [RT.BS,List.length_append];omega)
   refine ⟨w,?_⟩
   rw [RT.BS,lc,kw (by omega),Nat.add_sub_cancel_left,<- lc] at hw
   rw [show a+I l.sz+1+I (2*j)=a+I (2*(l.BS.length+j)) by simp only [I];omega]
   exact hw
  ·obtain ⟨w,hw⟩:=k (l.ops.length+(j+1)) (by simp only [RT.ops,List.length_append,List.length_cons];omega)
   refine ⟨w,?_⟩
   rw [RT.ops,lc,kw (by omega),Nat.add_sub_cancel_left,List.getElem?_cons_succ,<- lc] at hw
   rw [show a+I l.sz+1+I (2*j+1)=a+I (2*(l.ops.length+(j+1))+1) by simp only [I];omega]
   exact hw
theorem T1: ∀ (l m:ic) (a:Nat),pl a (l++m)=pl a l++pl (a+Jl l) m
 | [],m,a=>rfl
 | (n,t)::l,m,a=>by
  show _::pl _ (l++m)=_::(pl _ l++_)
  rw [T1 l m]
  simp only [Jl,Nat.add_assoc]
theorem VR: ∀ j,j<10->([59]:List UInt8) ∉ FA.getD j []:=by decide+kernel
abbrev VK (l:List (List UInt8)) (x:Int) (v:List Int):List UInt8:=ZT++32::(Lib.decDigits x.toNat++(Qi l v++dS))
theorem VS: ∀ (l:List (List UInt8)) (v:List Int),v.length=l.length->(Zh l v).length=2*l.length
 | [],[],_=>rfl
 | o::l,x::v,h=>by
  have:=VS l v (by simpa using h)
  simp only [Zh,List.length_cons];omega
theorem gQ {l:List (List UInt8)} {x:Int} {v:List Int} (hv:v.length=l.length) (hk:l.length<=12) (hp: ∀ p∈l,p∈At) (hr: ∀ y∈x::v,0<=y/\y<=1000000):
  ∃ t:RT,t.Ok sO/\t.BS=x::v/\t.ops=l/\Tryz.Rm.k (VK l x v) [] 1000=D8 (match t.ev with|some v=>.mk 1 v []|none=>.mk 2 2 []) 0:=by
 obtain ⟨t,h1,h2,h3⟩:=Qh sO l.length l (x::v) (Nat.le_refl _) (by simp [hv])
 refine ⟨t,h1,h2,h3,?_⟩
 have hx:=hr x List.mem_cons_self
 have hr': ∀ y∈v,0<=y/\y<=1000000:=fun y h=>hr y (mt _ h)
 have h4:=dec_lt 6 x.toNat (by simp;omega)
 have h5:=Md l v hp hr'
 have hL:(Lib.decDigits x.toNat++(Qi l v++dS)).length<150:=by
  simp only [List.length_append,List.length_cons,List.length_nil];omega
 have h6:=Uu (n:=x.toNat) (by omega) (Wv l v) (by omega)
 rw [Int.toNat_of_nonneg hx.1] at h6
 have h7:=ZS hL (gW (fun i=>(Lib.decDigits x.toNat++(Qi l v++dS)).getD i 0))
 rw [XL] at h7
 have h8:=LX.app (QE h7) (LX.app h6 (dE l v hv hk hp hr'))
 have hl:=VS l v hv
 obtain ⟨R,hR0⟩: ∃ R,pl 17 ((1,.mk 3 (Lib.decDigits x.toNat) x 0)::Zh l v)=R:=⟨_,rfl⟩
 have ha:Alt l R (x::v):=hR0▸Ww l v x _ _ _ hv
 have hR:=du ha
 obtain ⟨b1,b2,b3⟩:=ha.at
 obtain ⟨w,hw⟩: ∃ w,w=fun j=>(R.getD j En.Dop.d4).text:=⟨_,rfl⟩
 obtain ⟨g,hg⟩: ∃ g,g=fun j=>(R.getD j En.Dop.d4).n:=⟨_,rfl⟩
 obtain ⟨p,hp2⟩: ∃ g,g=fun j=>(R.getD j En.Dop.d4).at_:=⟨_,rfl⟩
 rw [<-hw,<- hg,<- hp2] at hR
 obtain ⟨q,hq⟩: ∃ q,pl 0 (VL++([(1,.mk 3 (Lib.decDigits x.toNat) x 0)]++(Zh l v++R7)))++[.mk 0 [] 0 (I (Jl (VL++([(1,.mk 3 (Lib.decDigits x.toNat) x 0)]++(Zh l v++R7)))))]=GJ (2*l.length+1) w g p q:=by
  generalize I (Jl _)=z
  rw [show ([(1,.mk 3 (Lib.decDigits x.toNat) x 0)]:ic)++(Zh l v++R7)=((1,.mk 3 (Lib.decDigits x.toNat) x 0)::Zh l v)++R7 from rfl,T1,T1]
  rw [show (0+Jl VL)=17 from rfl,hR0]
  generalize 17+Jl _=y
  refine ⟨fun j=>([0,4,8,9,10,11,I (y+0),I (y+0+1+0),z]:List Int).getD j 0,?_⟩
  unfold GJ
  rw [<-hR]
  simp only [List.append_assoc]
  rfl
 have hL9:=IM (w:=w) (x:=g) (p:=p) (q:=q) (2*l.length+1)
 have hT:TT (GJ (2*l.length+1) w g p q) 6 t:=Zx t 6 (fun j hj=>⟨w (2*j),by
   have e:=t.len
   rw [h2] at hj ⊢
   have:=pR (w:=w) (x:=g) (p:=p) (q:=q) (n:=2*l.length+1) (j:=2*j) (6+I (2*j)) (by simp at hj;omega) (by omega) (by omega)
   rw [<-(b2 j (by simp at hj;omega)).2]
   rw [show g (2*j)=_ from congrFun hg _] at this
   exact this⟩) (fun j hj=>⟨0,by
   rw [h3] at hj ⊢
   have:=qB (w:=w) (x:=g) (p:=p) (q:=q) (n:=2*l.length+1) (j:=2*j+1) (6+I (2*j+1)) (by omega) (by omega) (by omega)
   rw [show w (2*j+1)=_ from congrFun hw _,(b3 j hj).2.1] at this
   exact this⟩)
 have hs:t.sz=2*l.length+1:=by rw [RT.mz,h3]
 have hz:TK (GJ (2*l.length+1) w g p q) (6+I t.sz) 4 [59] 0:=pO _ (by rw [hs];omega)
 obtain ⟨i,ms,m1,m2,m3⟩:=LF (L:=GJ (2*l.length+1) w g p q) (ty:=Eu) (tp:=0) (dp:=2) (by omega) t h1 (by rw [h3];exact hp) (by omega) 9 0 rfl (fun _ _=>Nat.zero_le _) 6 [] hT hz (⟨⟨by decide,by decide,by decide,by decide,by decide⟩,fun j _ hj=>VR j hj⟩) (by simp;omega)
 rw [List.nil_append] at m2 m3
 have hb:=m3 8 i _ (by omega) (LP.stop (by omega) hz (VR 0 (by omega)))
 rw [show 6+I t.sz=I (2*l.length+1)+6 by rw [hs];omega] at hb
 have hm:l.length<13:=by omega
 have e20:=UA hm hb (by omega)
 obtain ⟨j,ps,n1,n2,n3⟩:=k9 (t:=t) (by rw [h3];exact hp) (by rw [h2];exact hr) hm hs q m1 m2
 have e18:=jR (s:=VK l x v) (by simp only [List.length_append,List.length_cons,List.length_nil] at hL ⊢; omega) h8 (by simp only [List.length_append,List.length_cons,List.length_nil,hl];omega) (by rw [hq];exact e20) n3
 have e36:=gX (t:=t) (by rw [h3];exact hp) (by rw [h2];exact hr) hm hs n1 n2
 unfold Tryz.Rm.k
 rw [e18,Mt]
 dsimp only
 rw [AB (by rfl),e36]
 rfl
theorem pY (N:Nat) (a b:Int) (l:List Int) (hl:l.length<1000000):(Bd Tryz.ET.kS (N+1)).2.1 0 (.mk a b l) a b l=Aw true:=by
 show Tryz.JZ.kB (Bd Tryz.ET.kS N) 0 (.mk a b l) a b l=_
 unfold Tryz.JZ.kB
 rw [AP (by rfl),same a b l hl,AM]
 dsimp only
 rw [AP rfl]
theorem qG (N:Nat) {o:List Int} {l:List (List UInt8)} (ho:o.length=l.length+1) (hk:l.length<=12) (h: ∀ k,k<l.length->List.getD l k []∈At/\0<=List.getD o k 0/\List.getD o k 0<=1000000):
  Tryz.H9.kB (Bd Tryz.ET.kS (N+1)) o l l (I l.length) (I l.length)=Aw true:=by
 unfold Tryz.H9.kB
 dsimp only
 rw [AB (ce (by omega)),AA (bv (by rw [ho];simp only [I];omega)),show (I l.length).toNat=l.length from rfl]
 by_cases h1:List.getD o l.length 0<0
 ·rw [AP (bv h1)]
 ·rw [AB (ce h1)]
  by_cases h2:1000000<List.getD o l.length 0
  ·rw [AP (bv h2)]
  ·rw [AB (ce h2)]
   have hr: ∀ y∈o,0<=y/\y<=1000000:=fun y hy=>by
    obtain ⟨k,hk2,rfl⟩:=List.getElem_of_mem hy
    have e:o[k]=List.getD o k 0:=by rw [lc,co hk2];rfl
    rw [e]
    by_cases hk3:k<l.length
    ·exact (h k hk3).2
    ·rw [show k=l.length by omega];omega
   have hp: ∀ p∈l,p∈At:=fun p hy=>by
    obtain ⟨k,hk2,rfl⟩:=List.getElem_of_mem hy
    have e:l[k]=List.getD l k []:=by rw [lc,co hk2];rfl
    rw [e]
    exact (h k hk2).1
   clear h h1 h2
   match o,ho,hr with
   | x::v,ho,hr=>
    have hv:v.length=l.length:=by simpa using ho
    obtain ⟨t,t1,t2,t3,t4⟩:=gQ hv hk hp hr
    have hx:=hr x List.mem_cons_self
    have d1:=dec_lt 6 x.toNat (by simp;omega)
    have d2:=Md l v hp (fun y h=>hr y (mt _ h))
    have e8:=qI (t:=t) t1 (by rw [t3];exact hp) (by rw [t2];exact hr) (by rw [t3];exact hk)
    rw [t2,t3] at e8
    rw [z7 hv hk hp hr,AM]
    dsimp only
    rw [AA (bv (by simp;omega)),AA (bv (by simp;omega))]
    rw [show ((105:UInt8)::(110:UInt8)::(116:UInt8)::(32:UInt8)::(109:UInt8)::(97:UInt8)::(105:UInt8)::(110:UInt8)::(40:UInt8)::(41:UInt8)::(123:UInt8)::(114:UInt8)::(101:UInt8)::(116:UInt8)::(117:UInt8)::(114:UInt8)::(110:UInt8)::(32:UInt8)::[]++(Lib.decDigits x.toNat++Qi l v)++(59:UInt8)::(125:UInt8)::[])=VK l x v by simp [VK,ZT,dS],t4,DE,e8]
    cases t.ev with
    | none=>
     unfold OT
     dsimp only
     rw [DE]
     dsimp only
     rw [AP (b:=!false) rfl]
     exact pY N 2 2 [] (by simp)
    | some a=>
     unfold OT
     dsimp only
     rw [DE]
     dsimp only
     rw [AB (b:=!true) rfl]
     exact pY N 1 a [] (by simp)
theorem pa {o:List Int} {l:List (List UInt8)} (ho:o.length=l.length+1) (hk:l.length<=12): ∀ (j N i:Nat),i+j=l.length->(∀ k,k<i->List.getD l k []∈At/\0<=List.getD o k 0/\List.getD o k 0<=1000000)->
  (Bd Tryz.ET.kS (N+j+2)).1 o l l (I l.length) (I i)=Aw true
 | 0,N,i,hi,h=>by
  show Tryz.H9.kB (Bd Tryz.ET.kS (N+1)) o l l (I l.length) (I i)=_
  rw [show i=l.length by omega]
  exact qG N ho hk fun k hk2=>h k (by omega)
 | j+1,N,i,hi,h=>by
  show Tryz.H9.kB (Bd Tryz.ET.kS (N+j+2)) o l l (I l.length) (I i)=_
  rw [qH _ o l (by omega) ho hk]
  split
  ·rename_i h1
   split
   ·rename_i h2
    exact pa ho hk j N (i+1) (by omega) fun k hk2=>by
     by_cases e:k=i
     ·rw [e];exact ⟨h1,h2⟩
     ·exact h k (by omega)
   ·rfl
  ·rfl
theorem Zg (o:List Int) (l:List (List UInt8)):Tryz.ET.k o l=Aw true:=by
 unfold Tryz.ET.k Tryz.ET.k0
 by_cases hk:12<I l.length
 ·rw [AP (bv hk)]
 ·rw [AB (ce hk),AA (AN.2 (by simp only [I] at hk ⊢; omega))]
  by_cases ho:I o.length=I l.length+1
  ·rw [AB (by rw [bv ho];rfl)]
   have hk2:l.length<=12:=by simp only [I] at hk;omega
   have:=pa (o:=o) (l:=l) (by simp only [I] at ho;omega) hk2 l.length (999998 -l.length) 0 (by omega) (fun k h=>absurd h (by omega))
   rw [show 999998 -l.length+l.length+2=1000000 by omega] at this
   exact this
  ·rw [AP (by rw [ce ho];rfl)]
end Go.Proofs
