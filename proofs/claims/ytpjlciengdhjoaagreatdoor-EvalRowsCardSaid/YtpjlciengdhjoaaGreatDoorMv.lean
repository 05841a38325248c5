/- EvalRows: rows of numbers and operations as trees. -/
import Derived.Test.YtpjlciengdhjoaaGreatDoorMu
import Derived.Test.YtpjlciengdhjoaaGreatDoorTwD
namespace Go.Proofs
open Go Go.En Tryz
inductive RT where
 | n (x:Int)
 | o (p:List UInt8) (a b:RT)
def RT.BS:RT->List Int
 | .n x=>[x]
 | .o _ a b=>a.BS++b.BS
def RT.ops:RT->List (List UInt8)
 | .n _=>[]
 | .o p a b=>a.ops++p::b.ops
theorem RT.len: ∀ t:RT,t.BS.length=t.ops.length+1
 | .n _=>rfl
 | .o _ a b=>by
  have:=a.len;have:=b.len
  simp only [RT.BS,RT.ops,List.length_append,List.length_cons];omega
def RT.Ok (s:List UInt8->Int):RT->Prop
 | .n _=>True
 | .o p a b=>(∀ q∈a.ops,s p<=s q)/\(∀ q∈b.ops,s p<s q)/\a.Ok s/\b.Ok s
theorem R9 (s:List UInt8->Int): ∀ l:List (List UInt8),l≠[]-> ∃ q p r,l=q++p::r/\(∀ x∈q,s p<=s x)/\ ∀ x∈r,s p<s x
 | [],h=>absurd rfl h
 | x::xs,_=>by
  by_cases hx:xs=[]
  ·exact ⟨[],x,[],by rw [hx];rfl,fun _ h=>absurd h List.not_mem_nil,fun _ h=>absurd h List.not_mem_nil⟩
  ·obtain ⟨q,p,r,e,h1,h2⟩:=R9 s xs hx
   by_cases h:s p<=s x
   ·refine ⟨x::q,p,r,by rw [e];rfl,fun y hy=>?_,h2⟩
    rcases List.mem_cons.1 hy with rfl|hy
    ·exact h
    ·exact h1 y hy
   ·refine ⟨[],x,xs,rfl,fun _ h=>absurd h List.not_mem_nil,fun y hy=>?_⟩
    rw [e,List.mem_append,List.mem_cons] at hy
    rcases hy with hy|rfl|hy
    ·have:=h1 y hy;omega
    ·omega
    ·have:=h2 y hy;omega
theorem Qh (s:List UInt8->Int): ∀ (k:Nat) (l:List (List UInt8)) (v:List Int),l.length<=k->v.length=l.length+1-> ∃ t:RT,t.Ok s/\t.BS=v/\t.ops=l
 | k,[],v,_,hv=>by
  match v,hv with
  | [x],_=>exact ⟨.n x,trivial,rfl,rfl⟩
 | 0,x::l,v,h,_=>absurd h (by simp only [List.length_cons];omega)
 | k+1,x::l,v,h,hv=>by
  obtain ⟨q,p,r,e,h1,h2⟩:=R9 s (x::l) (by simp)
  have hl:(x::l).length=q.length+(r.length+1):=by rw [e,List.length_append,List.length_cons]
  obtain ⟨a,a1,a2,a3⟩:=Qh s k q (v.take (q.length+1)) (by omega) (by rw [List.length_take];omega)
  obtain ⟨b,b1,b2,b3⟩:=Qh s k r (v.drop (q.length+1)) (by omega) (by rw [List.length_drop];omega)
  exact ⟨.o p a b,⟨by rw [a3];exact h1,by rw [b3];exact h2,a1,b1⟩,by simp only [RT.BS,a2,b2,List.take_append_drop],by simp only [RT.ops,a3,b3,e]⟩
def Wq (s:List UInt8->Int) (l:List (List UInt8)) (i w:Nat):Prop:=w<i/\(∀ j,j<i->s (l.getD w [])<=s (l.getD j []))/\ ∀ j,w<j->j<i->s (l.getD w [])<s (l.getD j [])
theorem Wq.one (s:List UInt8->Int) (l:List (List UInt8)):Wq s l 1 0:=⟨by omega,fun j h=>by rw [show j=0 by omega];exact Int.le_refl _,fun j h h'=>by omega⟩
theorem Wq.step {s:List UInt8->Int} {l:List (List UInt8)} {i w:Nat} (h:Wq s l i w):Wq s l (i+1) (if s (l.getD i [])<=s (l.getD w []) then i else w):=by
 obtain ⟨h1,h2,h3⟩:=h
 split
 ·rename_i hc
  refine ⟨by omega,fun j hj=>?_,fun j hj hj'=>by omega⟩
  by_cases e:j=i
  ·rw [e];exact Int.le_refl _
  ·exact Int.le_trans hc (h2 j (by omega))
 ·rename_i hc
  refine ⟨by omega,fun j hj=>?_,fun j hj hj'=>?_⟩
  ·by_cases e:j=i
   ·rw [e];omega
   ·exact h2 j (by omega)
  ·by_cases e:j=i
   ·rw [e];omega
   ·exact h3 j hj (by omega)
theorem Wq.at {s:List UInt8->Int} {q r:List (List UInt8)} {p:List UInt8} {w:Nat} (h:Wq s (q++p::r) (q++p::r).length w) (h1: ∀ x∈q,s p<=s x) (h2: ∀ x∈r,s p<s x):w=q.length:=by
 obtain ⟨k1,k2,k3⟩:=h
 have hp:(q++p::r).getD q.length []=p:=by simp [lc]
 have hl:(q++p::r).length=q.length+(r.length+1):=by rw [List.length_append,List.length_cons]
 rcases Nat.lt_trichotomy w q.length with hw|hw|hw
 ·have:=k3 q.length hw (by omega)
  rw [hp] at this
  have hm:(q++p::r).getD w []∈q:=by
   rw [lc,el hw,co hw];exact List.getElem_mem hw
  have:=h1 _ hm;omega
 ·exact hw
 ·have:=k2 q.length (by omega)
  rw [hp] at this
  have hm:(q++p::r).getD w []∈r:=by
   rw [lc,kw (by omega),show w -q.length=(w -q.length -1)+1 by omega,List.getElem?_cons_succ,co (by omega)]
   exact List.getElem_mem (by omega)
  have:=h2 _ hm;omega
end Go.Proofs
namespace Go.Proofs
open Go.En
def Hp (f:Nat->Bool):Nat->Nat
 | 0=>0
 | m+1=>Hp f m+if f m then 2 ^ m else 0
theorem Pg (f:Nat->Bool): ∀ m,Hp f m<2 ^ m
 | 0=>Nat.one_pos
 | m+1=>by
  have:=Pg f m
  unfold Hp
  rw [Nat.pow_succ]
  split<;>omega
theorem Jr (f:Nat->Bool): ∀ m k,(Hp f m).testBit k=(decide (k<m) && f k)
 | 0,k=>by simp [Hp]
 | m+1,k=>by
  have hl:=Pg f m
  unfold Hp
  by_cases hf:f m=true
  ·rw [if_pos hf,Nat.add_comm]
   by_cases hk:k=m
   ·subst hk
    rw [Nat.testBit_two_pow_add_eq,Jr f k k];simp [hf]
   ·by_cases hk2:k<m
    ·rw [Nat.testBit_two_pow_add_gt hk2,Jr f m k];simp [hk2,Nat.lt_succ_of_lt hk2]
    ·have hgt:m+1<=k:=by omega
     rw [Nat.testBit_lt_two_pow (dg (show 2 ^ m+Hp f m<2 ^ (m+1) by rw [Nat.pow_succ];omega) (Nat.pow_le_pow_right (by decide) hgt))]
     simp;omega
  ·rw [if_neg hf,Nat.add_zero,Jr f m k]
   by_cases hk:k=m
   ·subst hk;simp at hf;simp [hf]
   ·simp only [show decide (k<m)=decide (k<m+1) from decide_eq_decide.2 (by omega)]
theorem gT (x:Nat) (k:Nat):x.testBit k=decide (x / 2 ^ k % 2=1):=Nat.testBit_eq_decide_div_mod_eq
theorem Za (a:Int) (k:Nat) (h:k<32):(BitVec.ofInt 64 a).toNat.testBit k=((a % 4294967296).toNat).testBit k:=by
 have e:(BitVec.ofInt 64 a).toNat % 2 ^ 32=(a % 4294967296).toNat:=by
  rw [BitVec.toNat_ofInt];omega
 rw [<-e,Nat.testBit_mod_two_pow];simp [h]
theorem Qf (g:Bool->Bool->Bool) (x:BitVec 64) (a b:Int) (h: ∀ k,k<32->x.toNat.testBit k=g ((BitVec.ofInt 64 a).toNat.testBit k) ((BitVec.ofInt 64 b).toNat.testBit k)):
  x.toNat % 2 ^ 32=Hp (fun k=>g ((a % 4294967296).toNat.testBit k) ((b % 4294967296).toNat.testBit k)) 32:=by
 apply Nat.eq_of_testBit_eq
 intro k
 rw [Nat.testBit_mod_two_pow,Jr]
 by_cases hk:k<32
 ·rw [h k hk,Za a k hk,Za b k hk]
 ·simp [hk]
theorem gR (a b:Int):(BitVec.ofInt 64 a &&& BitVec.ofInt 64 b).toNat % 2 ^ 32=Hp (fun k=>((a % 4294967296).toNat.testBit k) && ((b % 4294967296).toNat.testBit k)) 32:=Qf (· && ·) _ a b fun k _=>by rw [BitVec.toNat_and,Nat.testBit_and]
theorem lA (a b:Int):(BitVec.ofInt 64 a ||| BitVec.ofInt 64 b).toNat % 2 ^ 32=Hp (fun k=>((a % 4294967296).toNat.testBit k) || ((b % 4294967296).toNat.testBit k)) 32:=Qf (· || ·) _ a b fun k _=>by rw [BitVec.toNat_or,Nat.testBit_or]
theorem gZ (a b:Int):(BitVec.ofInt 64 a ^^^ BitVec.ofInt 64 b).toNat % 2 ^ 32=Hp (fun k=>((a % 4294967296).toNat.testBit k) !=((b % 4294967296).toNat.testBit k)) 32:=Qf (· !=·) _ a b fun k _=>by rw [BitVec.toNat_xor,Nat.testBit_xor]
end Go.Proofs
set_option maxRecDepth 100000
set_option maxHeartbeats 1000000
namespace Go.Proofs
open Go Go.En Tryz
abbrev ps (L:List En.Dop.Tok) (a:Int) (ns:List En.Dop.AV) (ty:List En.Dop.Fp) (tp dp:Int):PS:=(L,a,ns,ty,tp,dp,0,0,())
theorem cw (n:Nat):Tryz.Ab.kR (n+1)=Tryz.Ab.kS (Tryz.Ab.kR n):=rfl
theorem kC (r:Tryz.Ab.T) (s:PS):Tryz.Cc.kr (Tryz.Ab.kS r) s=Tryz.Cc.kf r s:=rfl
theorem kE (r:Tryz.Ab.T) (s:PS):Tryz.Gf.kr (Tryz.Ab.kS r) s=Tryz.Gf.kf r s:=rfl
theorem kD (r:Tryz.Ab.T) (i:Int) (s:PS):Tryz.Cu.kr (Tryz.Ab.kS r) i s=Tryz.Cu.kf r i s:=rfl
theorem dA (r:Tryz.Ab.T) (i:Int) (s:PS):Tryz.Bg.kr (Tryz.Ab.kS r) i s=Tryz.Bg.kf r i s:=rfl
section
variable {L:List En.Dop.Tok} {a:Int} {ns:List En.Dop.AV} {ty:List En.Dop.Fp} {tp dp:Int}
def TK (L:List En.Dop.Tok) (a:Int) (k:Int) (t:List UInt8) (n:Int):Prop:=0<=a/\a<I L.length/\(List.getD L a.toNat En.Dop.d4).kind=k/\(List.getD L a.toNat En.Dop.d4).text=t/\(List.getD L a.toNat En.Dop.d4).n=n
variable {k:Int} {t:List UInt8} {n:Int}
theorem Fh (h:TK L a k t n):Tryz.Ef.k (ps L a ns ty tp dp)=B7 (List.getD L a.toNat En.Dop.d4) (ps L a ns ty tp dp):=by
 unfold Tryz.Ef.k
 obtain ⟨h0,h1,_⟩:=h
 rw [AB (by rfl),AB (ce (by show ¬ I L.length<=a;omega)),AA (bv (show 0<=a/\a<I L.length from ⟨h0,h1⟩))]
theorem ZY (h:TK L a k t n) (s:List UInt8):Tryz.Oi.k s (ps L a ns ty tp dp)=B7 (decide ((k=4\/k=2)/\t=s)) (ps L a ns ty tp dp):=by
 unfold Tryz.Oi.k
 rw [Fh h,AO]
 obtain ⟨_,_,h2,h3,_⟩:=h
 dsimp only
 rw [h2,h3]
 by_cases e:k=4
 ·rw [AP (bv e)];simp [e]
 ·rw [AB (ce e)]
  by_cases e2:k=2
  ·rw [AP (bv e2)];simp [e2]
  ·rw [AB (ce e2)];simp [e,e2]
theorem HT (h:TK L a k t n) {s:List UInt8} (hs:¬ ((k=4\/k=2)/\t=s)):Tryz.Em.k s (ps L a ns ty tp dp)=B7 false (ps L a ns ty tp dp):=by
 unfold Tryz.Em.k
 rw [ZY h,AO]
 dsimp only
 rw [ce hs,AP (b:=!false) rfl]
theorem Qg (h:TK L a 4 t n) (hl:L.length<100000):Tryz.Em.k t (ps L a ns ty tp dp)=B7 true (ps L (a+1) ns ty tp dp):=by
 unfold Tryz.Em.k
 rw [ZY h,AO]
 obtain ⟨h0,h1,_⟩:=h
 dsimp only
 rw [bv (by simp),AB (b:=!true) rfl,AA (AN.2 (by show _<=a+1/\a+1<=_;simp only [I] at h1;omega))]
theorem LD (x:En.Dop.AV) (hn:ns.length<8000):Tryz.Dj.k x (ps L a ns ty tp dp)=B7 (I ns.length) (ps L a (ns++[x]) ty tp dp):=by
 unfold Tryz.Dj.k
 have e:I (ns++x::[]).length -1=I ns.length:=by simp only [I,List.length_append,List.length_cons,List.length_nil];omega
 rw [AB (ce (by show ¬ I ns.length=8192;simp only [I];omega)),AB (by rfl),AA (by show room 80 _=true;unfold room;refine bv ?_;simp only [List.length_cons,List.length_nil];show (ns.length+(0+1))*(80+1)<=_;omega)]
 show ck (Al (I (ns++x::[]).length -1)) (B7 (I (ns++x::[]).length -1) _)=_
 rw [e,AA (AN.2 (by simp only [I];omega))]
theorem WS (r:Tryz.Ab.T) (i:Int) (h:TK L a 4 t n) (ht:t≠[91]/\t≠[46]/\t≠[45,62]/\t≠[43,43]/\t≠[45,45]):Tryz.Cu.kf r i (ps L a ns ty tp dp)=B7 i (ps L a ns ty tp dp):=by
 obtain ⟨h1,h2,h3,h4,h5⟩:=ht
 unfold Tryz.Cu.kf Tryz.Cu.k0 Tryz.Cu.kL
 rw [VF]
 show Tryz.K6.kB _ _ i (ps L a ns ty tp dp)=_
 unfold Tryz.K6.kB
 rw [AP (by rfl),Fh h,AO]
 dsimp only
 rw [show Tryz.FD.k 7 (List.getD L a.toNat En.Dop.d4).at_=Aw _ from rfl,AM]
 dsimp only
 rw [HT h fun e=>h1 e.2,AO]
 dsimp only
 rw [AB rfl,HT h fun e=>h2 e.2,AO]
 dsimp only
 rw [AB rfl,HT h fun e=>h3 e.2,AO]
 dsimp only
 rw [AB rfl,HT h fun e=>h4 e.2,AO]
 dsimp only
 rw [AB rfl,HT h fun e=>h5 e.2,AO]
 dsimp only
 rw [AB rfl]
theorem dX (r:Tryz.Ab.T) (p:Int) (h:TK L a 3 t n) (l:List (List UInt8)) (hl:l.length<100): ∀ (m N j:Nat),j+m=l.length->(Bd (Tryz.Cc.kS r) (N+m)).1 p l (I l.length) (I j) (ps L a ns ty tp dp)=(Bd (Tryz.Cc.kS r) N).1 p l (I l.length) (I l.length) (ps L a ns ty tp dp)
 | 0,N,j,e=>by rw [show j=l.length by omega];rfl
 | m+1,N,j,e=>by
  show Tryz.H8.kB r (Bd (Tryz.Cc.kS r) (N+m)) p l (I l.length) (I j) (ps L a ns ty tp dp)=_
  unfold Tryz.H8.kB
  dsimp only
  rw [AP (bv (by simp only [I];omega)),AA (bv (by simp only [I];omega)),AA (bv (by simp only [I];omega)),HT h (by simp),AO]
  dsimp only
  rw [AB rfl,AA (AN.2 (by simp only [I];omega)),show (I j+1:Int)=I (j+1) by simp only [I];omega]
  exact dX r p h l hl m N (j+1) (by omega)
def nN (x p:Int):En.Dop.AV:=.mk 1 (-1) (-1) (-1) (-1) [] x 0 p
def nB (s:List UInt8) (i j p:Int):En.Dop.AV:=.mk 4 i j (-1) (-1) s 0 0 p
def mY (t:List UInt8):Prop:=t≠[91]/\t≠[46]/\t≠[45,62]/\t≠[43,43]/\t≠[45,45]
theorem lC (d:Nat) (h:TK L a 3 t n) {t':List UInt8} {n':Int} (h':TK L (a+1) 4 t' n') (ht:mY t') (hl:L.length<100000) (hn:ns.length<8000):Tryz.Cc.kr (Tryz.Ab.kR (d+2)) (ps L a ns ty tp dp)=B7 (I ns.length) (ps L (a+1) (ns++[nN n (List.getD L a.toNat En.Dop.d4).at_]) ty tp dp):=by
 rw [show d+2=(d+1)+1 from rfl,cw,kC]
 unfold Tryz.Cc.kf Tryz.Cc.k0
 rw [Fh h,AO]
 dsimp only
 rw [AA (by kernel_rfl)]
 have hL:(List.map (fun (a:List UInt8)=>a) (Lib.fields ([43,43,32,45,45,32,45,32,33,32,126,32,42,32,38]:List UInt8))).length=7:=by kernel_rfl
 generalize List.map (fun (a:List UInt8)=>a) (Lib.fields ([43,43,32,45,45,32,45,32,33,32,126,32,42,32,38]:List UInt8))=l at*
 refine (dX (ns:=ns) (ty:=ty) (tp:=tp) (dp:=dp) (Tryz.Ab.kR (d+1)) _ h l (by omega) 7 999993 0 (by omega)).trans ?_
 show Tryz.H8.kB (Tryz.Ab.kR (d+1)) (Bd (Tryz.Cc.kS (Tryz.Ab.kR (d+1))) 999992) _ l (I l.length) (I l.length) (ps L a ns ty tp dp)=_
 unfold Tryz.H8.kB
 dsimp only
 rw [AB (ce (by omega)),HT h (by simp),AO]
 dsimp only
 rw [AB rfl,ZY h,AO]
 dsimp only
 rw [ce (by simp),AB rfl]
 rw [cw,kE]
 have e5:Tryz.Gf.kf (Tryz.Ab.kR d) (ps L a ns ty tp dp)=B7 (I ns.length) (ps L (a+1) (ns++[nN n (List.getD L a.toNat En.Dop.d4).at_]) ty tp dp):=by
  unfold Tryz.Gf.kf
  rw [Fh h,AO]
  obtain ⟨h0,h1,h2,h3,h4⟩:=h
  dsimp only
  rw [show Tryz.FD.k 1 (List.getD L a.toNat En.Dop.d4).at_=Aw _ from rfl,AM]
  dsimp only
  rw [AP (bv h2),AA (AN.2 (by show _<=a+1/\a+1<=_;simp only [I] at h1;omega)),h4]
  show Option.bind (Tryz.Dj.k (nN n (List.getD L a.toNat En.Dop.d4).at_) (ps L (a+1) ns ty tp dp)) _=_
  rw [LD _ hn,AO]
  rfl
 rw [e5,AO]
 dsimp only
 rw [kD]
 rw [WS _ _ h' ht,AO]
 rfl
end
end Go.Proofs
namespace Go.Proofs
open Go Go.En Tryz
def FA:List (List (List UInt8)):=[[[124,124]],[[38,38]],[[124]],[[94]],[[38]],[[61,61],[33,61]],[[60],[60,61],[62],[62,61]],[[60,60],[62,62]],[[43],[45]],[[42],[47],[37]]]
def T7:List (List UInt8):=match Tryz.KK.k with
 | some x=>x.1.1
 | none=>[]
theorem Qd:Tryz.KK.k=Aw T7:=by kernel_rfl
theorem bz: ∀ k,k<10->(Yy (List.getD T7 k []) && decide ((Lib.fields (List.getD T7 k [])).length<=maxLen))=true/\List.map (fun (a:List UInt8)=>a) (Lib.fields (List.getD T7 k []))=FA.getD k []:=by
 intro k hk
 match k,hk with
 | 0,_=>exact ⟨by kernel_rfl,by kernel_rfl⟩
 | 1,_=>exact ⟨by kernel_rfl,by kernel_rfl⟩
 | 2,_=>exact ⟨by kernel_rfl,by kernel_rfl⟩
 | 3,_=>exact ⟨by kernel_rfl,by kernel_rfl⟩
 | 4,_=>exact ⟨by kernel_rfl,by kernel_rfl⟩
 | 5,_=>exact ⟨by kernel_rfl,by kernel_rfl⟩
 | 6,_=>exact ⟨by kernel_rfl,by kernel_rfl⟩
 | 7,_=>exact ⟨by kernel_rfl,by kernel_rfl⟩
 | 8,_=>exact ⟨by kernel_rfl,by kernel_rfl⟩
 | 9,_=>exact ⟨by kernel_rfl,by kernel_rfl⟩
def At:List (List UInt8):=[[124],[94],[38],[61,61],[33,61],[60],[60,61],[62],[62,61],[60,60],[62,62],[43],[45],[42],[47],[37]]
def rk (p:List UInt8):Nat:=FA.findIdx fun l=>l.contains p
def rj (p:List UInt8):Nat:=(FA.getD (rk p) []).findIdx (· == p)
theorem VQ: ∀ p∈At,2<=rk p/\rk p<10/\rj p<(FA.getD (rk p) []).length/\(FA.getD (rk p) []).getD (rj p) []=p/\(∀ i,i<rj p->(FA.getD (rk p) []).getD i []≠p)/\mY p:=by
 have h:(At.all fun p=>Nat.ble 2 (rk p) && Nat.blt (rk p) 10 && Nat.blt (rj p) (FA.getD (rk p) []).length && ((FA.getD (rk p) []).getD (rj p) [] == p) && ((List.range (rj p)).all fun i=>(FA.getD (rk p) []).getD i [] !=p) && (p !=[91] && p !=[46] && p !=[45,62] && p !=[43,43] && p !=[45,45]))=true:=by decide+kernel
 intro p hp
 have:=List.all_eq_true.1 h p hp
 simp only [dl,bne_iff_ne,beq_iff_eq,List.all_eq_true,List.mem_range,Nat.blt_eq,Nat.ble_eq] at this
 obtain ⟨⟨⟨⟨⟨h1,h2⟩,h3⟩,h4⟩,h5⟩,⟨⟨⟨h6,h7⟩,h8⟩,h9⟩,h10⟩:=this
 exact ⟨h1,h2,h3,h4,h5,h6,h7,h8,h9,h10⟩
def jF (k:Nat) (z:List UInt8):Prop:=mY z/\ ∀ j,k<j->j<10->z ∉ FA.getD j []
theorem n8: ∀ p∈At,jF (rk p) p:=by
 have h:(At.all fun p=>(List.range 10).all fun j=>Nat.ble j (rk p) || !(FA.getD j []).contains p)=true:=by decide+kernel
 intro p hp
 refine ⟨(VQ p hp).2.2.2.2.2,fun j h1 h2 hm=>?_⟩
 have:=List.all_eq_true.1 (List.all_eq_true.1 h p hp) j (List.mem_range.2 h2)
 simp only [io,Nat.ble_eq,Bool.not_eq_true',List.contains_eq_mem,decide_eq_false_iff_not] at this
 rcases this with this|this
 ·omega
 ·exact this hm
theorem NI {l:List (List UInt8)} {y:Nat} (hy:y<l.length):l.getD y []∈l:=by
 rw [lc,co hy];exact List.getElem_mem hy
theorem ZZ (k:Nat) (hk:k<10):(FA.getD k []).length<=4:=by
 match k,hk with
 | 0,_|1,_|2,_|3,_|4,_|5,_|6,_|7,_|8,_|9,_=>decide
section
variable {L:List En.Dop.Tok} {ty:List En.Dop.Fp} {tp dp:Int}
def BN (d:Nat) (k:Int) (s:PS) (v:Int) (s':PS):Prop:= ∀ n,Tryz.Bg.kr (Tryz.Ab.kR (n+d)) k s=B7 v s'
def LP (d c:Nat) (k i:Int) (s:PS) (v:Int) (s':PS):Prop:= ∀ n N,(Bd (Tryz.Bg.kS (Tryz.Ab.kR (n+d))) (N+c)).1 k i s=B7 v s'
variable {d c k:Nat} {i v:Int} {s s1 s':PS} {a:Int} {ns:List En.Dop.AV} {t:List UInt8} {n:Int}
theorem BN.of (hk:k<10) (hc:c<=1000000) (h1:BN d (I (k+1)) s i s1) (h2:LP d c (I k) i s1 v s'):BN (d+1) (I k) s v s':=fun n=>by
 rw [show n+(d+1)=n+d+1 from rfl,cw,dA]
 unfold Tryz.Bg.kf Tryz.Bg.k0
 rw [Qd,AM]
 dsimp only
 have hw:T7.length=10:=by kernel_rfl
 rw [AB (ce (by rw [hw];simp only [I];omega)),AA (AN.2 (by simp only [I];omega)),show (I k+1:Int)=I (k+1) by simp only [I];omega,h1 n,AO]
 have:=h2 n (1000000 -c)
 rw [show 1000000 -c+c=1000000 by omega] at this
 exact this
theorem T8 (h:TK L a 4 t n) (l:List (List UInt8)) (hl:l.length<100) (r:Tryz.Ab.T): ∀ (m N j:Nat),j+m<=l.length->(∀ x,x<m->l.getD (j+x) []≠t)->(Bd (Tryz.Bg.kS r) (N+m)).2.1 (I k) i l (I l.length) (I j) (ps L a ns ty tp dp)=(Bd (Tryz.Bg.kS r) N).2.1 (I k) i l (I l.length) (I (j+m)) (ps L a ns ty tp dp)
 | 0,N,j,e,_=>rfl
 | m+1,N,j,e,hx=>by
  show Tryz.GG.kB r (Bd (Tryz.Bg.kS r) (N+m)) (I k) i l (I l.length) (I j) (ps L a ns ty tp dp)=_
  unfold Tryz.GG.kB
  dsimp only
  rw [AP (bv (by simp only [I];omega)),AA (bv (by simp only [I];omega)),AA (bv (by simp only [I];omega)),Fh h,AO]
  dsimp only
  rw [show (I j).toNat=j from rfl,HT h (s:=l.getD j []) (fun e=>hx 0 (by omega) (by rw [Nat.add_zero];exact e.2.symm)),AO]
  dsimp only
  rw [AB rfl,AA (AN.2 (by simp only [I];omega)),show (I j+1:Int)=I (j+1) by simp only [I];omega,show j+(m+1)=j+1+m by omega]
  exact T8 h l hl r m N (j+1) (by omega) fun x hx2=>by rw [show j+1+x=j+(x+1) by omega];exact hx (x+1) (by omega)
theorem dW (hk:k<10) (r:Tryz.Ab.T) (M:Nat):(Bd (Tryz.Bg.kS r) (M+1)).1 (I k) i s=(Bd (Tryz.Bg.kS r) M).2.1 (I k) i (FA.getD k []) (I (FA.getD k []).length) (I 0) s:=by
 show Tryz.K5.kB r (Bd (Tryz.Bg.kS r) M) (I k) i s=_
 unfold Tryz.K5.kB
 obtain ⟨h1,h2⟩:=bz k hk
 have hw:T7.length=10:=by kernel_rfl
 rw [Qd,AM]
 dsimp only
 rw [AA (bv (by rw [hw];simp only [I];omega)),AA (bv (by rw [hw];simp only [I];omega)),show (I k).toNat=k from rfl,AA h1,h2]
 rfl
theorem LP.stop (hk:k<10) (h:TK L a 4 t n) (ht:t ∉ FA.getD k []):LP d 8 (I k) i (ps L a ns ty tp dp) i (ps L a ns ty tp dp):=fun x N=>by
 have hl:=ZZ k hk
 rw [show N+8=(N+7)+1 from rfl,dW hk,show N+7=(N+7 -(FA.getD k []).length)+(FA.getD k []).length by omega,T8 h _ (by omega) _ _ _ 0 (by omega) fun y hy e=>ht (by rw [<-e,Nat.zero_add];exact NI hy),Nat.zero_add]
 obtain ⟨M,hM⟩: ∃ M,N+7 -(FA.getD k []).length=M+1:=⟨N+6 -(FA.getD k []).length,by omega⟩
 rw [hM]
 show Tryz.GG.kB _ _ (I k) i _ (I (FA.getD k []).length) (I (FA.getD k []).length) (ps L a ns ty tp dp)=_
 unfold Tryz.GG.kB
 dsimp only
 rw [AB (ce (by omega))]
theorem LP.more (hp:t∈At) (hk:rk t=k) (h:TK L a 4 t n) (hL:L.length<100000) {j:Int} {b:Int} {ns2:List En.Dop.AV} (hn:ns2.length<8000) (hb:BN d (I (k+1)) (ps L (a+1) ns ty tp dp) j (ps L b ns2 ty tp dp))
  (hr:LP d c (I k) (I ns2.length) (ps L b (ns2++[nB t i j (List.getD L a.toNat En.Dop.d4).at_]) ty tp dp) v s'):LP d (c+8) (I k) i (ps L a ns ty tp dp) v s':=fun x N=>by
 obtain ⟨h0,h1,h2,h3,h4,h5⟩:=VQ t hp
 rw [hk] at h1 h2 h3 h4
 have hl:=ZZ k h1
 rw [show N+(c+8)=(N+c+7)+1 by omega,dW h1,show N+c+7=(N+c+7 -rj t)+rj t by omega,T8 h _ (by omega) _ _ _ 0 (by omega) fun y hy=>by rw [Nat.zero_add];exact h4 y hy,Nat.zero_add]
 obtain ⟨M,hM⟩: ∃ M,N+c+7 -rj t=(M+c)+1:=⟨N+6 -rj t,by omega⟩
 rw [hM]
 show Tryz.GG.kB _ (Bd (Tryz.Bg.kS (Tryz.Ab.kR (x+d))) (M+c)) (I k) i _ (I (FA.getD k []).length) (I (rj t)) (ps L a ns ty tp dp)=_
 unfold Tryz.GG.kB
 dsimp only
 rw [AP (bv (by simp only [I];omega)),AA (bv (by simp only [I];omega)),AA (bv (by simp only [I];omega)),Fh h,AO]
 dsimp only
 rw [show (I (rj t)).toNat=rj t from rfl,h3,Qg h hL,AO]
 dsimp only
 rw [AP rfl,show Tryz.FD.k 4 (List.getD L a.toNat En.Dop.d4).at_=Aw _ from rfl,AM]
 dsimp only
 rw [AA (AN.2 (by simp only [I];omega)),show (I k+1:Int)=I (k+1) by simp only [I];omega,hb x,AO]
 show Option.bind (Tryz.Dj.k (nB t i j (List.getD L a.toNat En.Dop.d4).at_) (ps L b ns2 ty tp dp)) _=_
 rw [LD _ hn,AO]
 exact hr x M
end
end Go.Proofs
namespace Go.Proofs
open Go Go.En Tryz
section
variable {L:List En.Dop.Tok} {ty:List En.Dop.Fp} {tp dp:Int}
def RT.sz:RT->Nat
 | .n _=>1
 | .o _ a b=>a.sz+b.sz+1
def TT (L:List En.Dop.Tok):Int->RT->Prop
 | a,.n x=> ∃ w,TK L a 3 w x
 | a,.o p l r=>TT L a l/\(∃ n,TK L (a+I l.sz) 4 p n)/\TT L (a+I l.sz+1) r
def TP (ns:List En.Dop.AV):Int->RT->Prop
 | i,.n x=>0<=i/\i<I ns.length/\ ∃ p,ns.getD i.toNat En.Dop.d5=nN x p
 | i,.o p l r=>0<=i/\i<I ns.length/\ ∃ u v q,ns.getD i.toNat En.Dop.d5=nB p u v q/\TP ns u l/\TP ns v r
theorem TP.mono {ns ms:List En.Dop.AV}: ∀ {t:RT} {i:Int},TP ns i t->TP (ns++ms) i t
 | .n x,i,h=>by
  obtain ⟨h0,h1,p,h2⟩:=h
  have:i.toNat<ns.length:=by simp only [I] at h1;omega
  exact ⟨h0,by simp only [I,List.length_append] at h1 ⊢; omega,p,by rw [<-h2,lc,lc,el this]⟩
 | .o p l r,i,h=>by
  obtain ⟨h0,h1,u,v,q,h2,h3,h4⟩:=h
  have:i.toNat<ns.length:=by simp only [I] at h1;omega
  exact ⟨h0,by simp only [I,List.length_append] at h1 ⊢; omega,u,v,q,by rw [<-h2,lc,lc,el this],h3.mono,h4.mono⟩
theorem Io (ns:List En.Dop.AV) (x:En.Dop.AV):(ns++[x]).getD (I ns.length).toNat En.Dop.d5=x:=by
 rw [show (I ns.length).toNat=ns.length from rfl,lc,kw (Nat.le_refl _),Nat.sub_self];rfl
def aF (L:List En.Dop.Tok) (ty:List En.Dop.Fp) (tp dp:Int) (t:RT) (k:Nat) (a:Int) (ns:List En.Dop.AV) (i:Int) (ms:List En.Dop.AV):Prop:=
 ms.length=t.sz/\TP (ns++ms) i t/\ ∀ c v s',c+8*t.sz<=1000000->LP (12 -k) c (I k) i (ps L (a+I t.sz) (ns++ms) ty tp dp) v s'->BN (13 -k) (I k) (ps L a ns ty tp dp) v s'
abbrev sO (p:List UInt8):Int:=I (rk p)
theorem VM {a:Int} {x:Int} {w:List UInt8} {ns:List En.Dop.AV} {z:List UInt8} {n:Int} (h:TK L a 3 w x) (hz:TK L (a+1) 4 z n) (ht:mY z) (hl:L.length<100000) (hn:ns.length<8000): ∃ p,BN 3 (I 10) (ps L a ns ty tp dp) (I ns.length) (ps L (a+1) (ns++[nN x p]) ty tp dp):=by
 have hw:T7.length=10:=by kernel_rfl
 refine ⟨(List.getD L a.toNat En.Dop.d4).at_,fun m=>?_⟩
 rw [show m+3=(m+2)+1 from rfl,cw,dA]
 unfold Tryz.Bg.kf Tryz.Bg.k0
 rw [Qd,AM]
 dsimp only
 rw [AP (bv (by rw [hw])),lC m h hz ht hl hn,AO]
 rfl
theorem aF.q {t:RT} {k:Nat} {a:Int} {ns:List En.Dop.AV} {i:Int} {ms:List En.Dop.AV} (h:aF L ty tp dp t k a ns i ms) (hk:k<10) {z:List UInt8} {n:Int} (hz:TK L (a+I t.sz) 4 z n) (hm:z ∉ FA.getD k []) (hs:t.sz<=100):BN (13 -k) (I k) (ps L a ns ty tp dp) i (ps L (a+I t.sz) (ns++ms) ty tp dp):=h.2.2 8 _ _ (by omega) (LP.stop hk hz hm)
theorem aF.down {t:RT} {k:Nat} {a:Int} {ns:List En.Dop.AV} {i:Int} {ms:List En.Dop.AV} (h:aF L ty tp dp t (k+1) a ns i ms) (hk:k+1<10) {z:List UInt8} {n:Int} (hz:TK L (a+I t.sz) 4 z n) (hm:z ∉ FA.getD (k+1) []) (hs:t.sz<=100):aF L ty tp dp t k a ns i ms:=by
 have hq:=h.q hk hz hm hs
 refine ⟨h.1,h.2.1,fun c v s' hc hl=>?_⟩
 rw [show 13 -(k+1)=12 -k by omega] at hq
 have:=BN.of (by omega) (by omega) hq hl
 rwa [show 12 -k+1=13 -k by omega] at this
theorem LF (hL:L.length<100000): ∀ (t:RT),t.Ok sO->(∀ p∈t.ops,p∈At)->t.sz<=100-> ∀ (m k:Nat),k+m=9->(∀ p∈t.ops,k<=rk p)-> ∀ (a:Int) (ns:List En.Dop.AV),TT L a t-> ∀ {z:List UInt8} {n:Int},TK L (a+I t.sz) 4 z n->jF k z->ns.length+t.sz<8000-> ∃ i ms,aF L ty tp dp t k a ns i ms
 | .n x,hO,hp,hs,m,k,e,hk,a,ns,ht,z,n,hz,hzz,hn=>by
  obtain ⟨w,hw⟩:=ht
  obtain ⟨p,hb⟩:=VM (ty:=ty) (tp:=tp) (dp:=dp) (ns:=ns) hw hz hzz.1 hL (by omega)
  suffices h: ∀ m k,k+m=9->jF k z->aF L ty tp dp (.n x) k a ns (I ns.length) [nN x p] from ⟨_,_,h m k e hzz⟩
  intro m
  induction m with
  | zero=>
   intro k e hzz
   rw [show k=9 by omega]
   refine ⟨rfl,⟨by simp only [I];omega,by simp only [I,List.length_append,List.length_singleton];omega,p,Io _ _⟩,fun c v s' hc hl=>?_⟩
   exact BN.of (by omega) (by omega) hb hl
  | succ m ih=>
   intro k e hzz
   exact (ih (k+1) (by omega) ⟨hzz.1,fun j h1 h2=>hzz.2 j (by omega) h2⟩).down (by omega) hz (hzz.2 (k+1) (by omega) (by omega)) hs
 | .o p l r,hO,hp,hs,m,k,e,hk,a,ns,ht,z,n,hz,hzz,hn=>by
  obtain ⟨hO1,hO2,hO3,hO4⟩:=hO
  have hpm:p∈At:=hp p (List.mem_append_right _ List.mem_cons_self)
  have hpl: ∀ q∈l.ops,q∈At:=fun q h=>hp q (List.mem_append_left _ h)
  have hpr: ∀ q∈r.ops,q∈At:=fun q h=>hp q (List.mem_append_right _ (mt _ h))
  have hsz:(RT.o p l r).sz=l.sz+r.sz+1:=rfl
  obtain ⟨w1,w2,_⟩:=VQ p hpm
  have hzp:=n8 p hpm
  have top: ∀ k,k=rk p->jF k z-> ∃ i ms,aF L ty tp dp (.o p l r) k a ns i ms:=by
   intro k e hzz
   obtain ⟨ht1,⟨np,ht2⟩,ht3⟩:=ht
   obtain ⟨i1,m1,a1,a2,a3⟩:=LF hL l hO3 hpl (by omega) (9 -k) k (by omega) (fun q h=>by have:=hO1 q h;simp only [sO,I] at this;omega) a ns ht1 ht2 (by rw [e];exact hzp) (by omega)
   have hz':TK L (a+I l.sz+1+I r.sz) 4 z n:=by
    rw [hsz] at hz
    rwa [show (a+I (l.sz+r.sz+1):Int)=a+I l.sz+1+I r.sz by simp only [I];omega] at hz
   obtain ⟨i2,m2,b1,b2,b3⟩: ∃ i2 m2,m2.length=r.sz/\TP (ns++m1++m2) i2 r/\BN (12 -k) (I (k+1)) (ps L (a+I l.sz+1) (ns++m1) ty tp dp) i2 (ps L (a+I l.sz+1+I r.sz) (ns++m1++m2) ty tp dp):=by
    by_cases h9:k=9
    ·cases r with
     | o p' l' r'=>
      have:=hO2 p' (List.mem_append_right _ List.mem_cons_self)
      have h2:=(VQ p' (hpr p' (List.mem_append_right _ List.mem_cons_self))).2.1
      simp only [sO,I] at this;omega
     | n x=>
      obtain ⟨w,hw⟩:=ht3
      obtain ⟨q,hb⟩:=VM (ty:=ty) (tp:=tp) (dp:=dp) (ns:=ns++m1) hw hz' hzz.1 hL (by rw [List.length_append,a1];omega)
      exact ⟨_,[nN x q],rfl,⟨by simp only [I];omega,by simp only [I,List.length_append,List.length_singleton];omega,q,Io _ _⟩,by rw [h9];exact hb⟩
    ·obtain ⟨i2,m2,hP⟩:=LF hL r hO4 hpr (by omega) (9 -(k+1)) (k+1) (by omega) (fun q h=>by have:=hO2 q h;simp only [sO,I] at this;omega) (a+I l.sz+1) (ns++m1) ht3 hz' ⟨hzz.1,fun j h1 h2=>hzz.2 j (by omega) h2⟩ (by rw [List.length_append,a1];omega)
     have:=hP.q (by omega) hz' (hzz.2 (k+1) (by omega) (by omega)) (by omega)
     rw [show 13 -(k+1)=12 -k by omega] at this
     exact ⟨i2,m2,hP.1,hP.2.1,this⟩
   refine ⟨I (ns++m1++m2).length,m1++(m2++[nB p i1 i2 (List.getD L (a+I l.sz).toNat En.Dop.d4).at_]),by simp only [List.length_append,a1,b1,List.length_singleton,hsz];omega,?_,fun c v s' hc hl=>?_⟩
   ·rw [<-List.append_assoc,<- List.append_assoc]
    exact ⟨by simp only [I];omega,by simp only [I,List.length_append,List.length_singleton];omega,i1,i2,_,Io _ _,(a2.mono).mono,b2.mono⟩
   ·refine a3 (c+8) v s' (by rw [hsz] at hc;omega) ?_
    refine LP.more hpm e.symm ht2 hL (by simp only [List.length_append,a1,b1];omega) b3 ?_
    rw [<-List.append_assoc,<- List.append_assoc,hsz,show (a+I (l.sz+r.sz+1):Int)=a+I l.sz+1+I r.sz by simp only [I];omega] at hl
    exact hl
  suffices h: ∀ m k,k+m=9->k<=rk p->jF k z-> ∃ i ms,aF L ty tp dp (.o p l r) k a ns i ms from h m k e (hk p (List.mem_append_right _ List.mem_cons_self)) hzz
  intro m
  induction m with
  | zero=>exact fun k e h1 h2=>top k (by omega) h2
  | succ m ih=>
   intro k e h1 hzz
   by_cases hr:k=rk p
   ·exact top k hr hzz
   ·obtain ⟨i,ms,h⟩:=ih (k+1) (by omega) (by omega) ⟨hzz.1,fun j h1 h2=>hzz.2 j (by omega) h2⟩
    exact ⟨i,ms,h.down (by omega) hz (hzz.2 (k+1) (by omega) (by omega)) hs⟩
end
end Go.Proofs
namespace Go.Proofs
open Go Go.En Tryz
section
variable {L:List En.Dop.Tok} {a b:Int} {ns ms:List En.Dop.AV} {ty:List En.Dop.Fp} {tp dp i:Int} {t:List UInt8} {n:Int}
theorem Q3 {δ β:Type} {x:δ} {k:Unit×(δ×Unit)->Option β}:Option.bind (dQ x) k=k ((),(x,())):=rfl
theorem VP (h:TK L a 4 t n) (hl:L.length<100000):Tryz.Fw.k t (ps L a ns ty tp dp)=dQ (ps L (a+1) ns ty tp dp):=by
 unfold Tryz.Fw.k
 rw [Qg h hl,AO]
 dsimp only
 rw [AB (b:=!true) rfl]
theorem dV {m:MT} (h0:0<=dp/\dp<=90) (h:m (((),()),(ps L a ns ty tp (dp+1),()))=B7 i (ps L b ms ty tp (dp+1))):Tryz.within m (ps L a ns ty tp dp)=B7 i (ps L b ms ty tp dp):=by
 unfold Tryz.within
 rw [if_pos (AN.2 (by show _<=dp+1/\dp+1<=_;omega)),if_neg (by show ¬ decide (100<dp+1)=true;rw [ce (by omega)];simp)]
 unfold PU
 rw [if_neg (by show ¬ (!decide ((0:Int)=0))=true;simp)]
 show Option.bind (m (((),()),(ps L a ns ty tp (dp+1),()))) _=_
 rw [h,AO]
 unfold Z1
 rw [if_pos (AN.2 (by show _<=dp+1 -1/\dp+1 -1<=_;omega))]
 show B7 i (ps L b ms ty tp (dp+1 -1))=_
 rw [show dp+1 -1=dp by omega]
theorem j7 (r:Tryz.Ab.T) (s:PS):Tryz.C2.kr (Tryz.Ab.kS r) s=Tryz.C2.kf r s:=rfl
theorem fK (r:Tryz.Ab.T) (s:PS):Tryz.BR.kr (Tryz.Ab.kS r) s=Tryz.within r.2.2.1 s:=rfl
theorem j9 (r:Tryz.Ab.T) (s:PS):(Tryz.Ab.kS r).2.2.1 (((),()),(s,()))=Tryz.Ct.kf r s:=rfl
theorem kA (r:Tryz.Ab.T) (s:PS):Tryz.Fo.kr (Tryz.Ab.kS r) s=Tryz.Fo.kf r s:=rfl
def N9:List (List UInt8):=[[61],[43,61],[45,61],[42,61],[47,61],[37,61],[38,61],[124,61],[94,61],[60,60,61],[62,62,61]]
theorem bu:List.map (fun (a:List UInt8)=>a) (Lib.fields ([61,32,43,61,32,45,61,32,42,61,32,47,61,32,37,61,32,38,61,32,124,61,32,94,61,32,60,60,61,32,62,62,61]:List UInt8))=N9:=by kernel_rfl
theorem dT (h:TK L a 4 t n) (r:Tryz.Ab.T) (ht:t ∉ N9): ∀ (m N j:Nat),j+m=N9.length->(Bd (Tryz.Ct.kS r) (N+m+1)).1 i N9 (I N9.length) (I j) (ps L a ns ty tp dp)=B7 i (ps L a ns ty tp dp)
 | 0,N,j,e=>by
  show Tryz.H6.kB r (Bd (Tryz.Ct.kS r) N) i N9 (I N9.length) (I j) (ps L a ns ty tp dp)=_
  unfold Tryz.H6.kB
  dsimp only
  rw [AB (ce (by simp only [I];omega))]
 | m+1,N,j,e=>by
  have hl:N9.length=11:=rfl
  show Tryz.H6.kB r (Bd (Tryz.Ct.kS r) (N+m+1)) i N9 (I N9.length) (I j) (ps L a ns ty tp dp)=_
  unfold Tryz.H6.kB
  dsimp only
  rw [AP (bv (by simp only [I];omega)),AA (bv (by simp only [I];omega)),AA (bv (by simp only [I];omega)),Fh h,AO]
  dsimp only
  rw [show (I j).toNat=j from rfl,HT h (s:=N9.getD j []) (fun e2=>ht (by rw [e2.2];exact NI (by omega))),AO]
  dsimp only
  rw [AB rfl,AA (AN.2 (by simp only [I];omega)),show (I j+1:Int)=I (j+1) by simp only [I];omega]
  exact dT h r ht m N (j+1) (by omega)
theorem b9 (h:BN 13 (I 0) (ps L a ns ty tp (dp+1)) i (ps L b ms ty tp (dp+1))) (hz:TK L b 4 [59] n) (h0:0<=dp/\dp<=90):Tryz.C2.k (ps L a ns ty tp dp)=B7 i (ps L b ms ty tp dp):=by
 unfold Tryz.C2.k
 rw [show FU=(999999996+1+1+1)+1 from rfl,cw,j7]
 unfold Tryz.C2.kf
 rw [cw,fK,dV h0 (b:=b) (ms:=ms) (i:=i) ?_]
 ·rfl
 rw [cw,j9]
 unfold Tryz.Ct.kf Tryz.Ct.k0
 rw [cw,kA]
 have e:Tryz.Fo.kf (Tryz.Ab.kR 999999996) (ps L a ns ty tp (dp+1))=B7 i (ps L b ms ty tp (dp+1)):=by
  unfold Tryz.Fo.kf
  have:=h 999999983
  rw [show Tryz.Bg.kr (Tryz.Ab.kR 999999996) 0 (ps L a ns ty tp (dp+1))=B7 i (ps L b ms ty tp (dp+1)) from this,AO]
  dsimp only
  rw [Fh hz,AO]
  dsimp only
  rw [HT hz (by simp),AO]
  dsimp only
  rw [AP (b:=!false) rfl]
 rw [e,AO]
 dsimp only
 rw [AA (by kernel_rfl),bu]
 exact dT hz _ (by decide) 11 999988 0 rfl
theorem Zb (h:BN 13 (I 0) (ps L a ns ty tp (dp+1)) i (ps L b ms ty tp (dp+1))) {k:Int} {t':List UInt8} {n':Int} (hk:k=3) (ha:TK L a k t' n') (hz:TK L b 4 [59] n) (h0:0<=dp/\dp<=90) (hl:L.length<100000):Tryz.KG.k [59] (ps L a ns ty tp dp)=B7 i (ps L (b+1) ms ty tp dp):=by
 unfold Tryz.KG.k
 rw [HT ha (by simp [hk]),AO]
 dsimp only
 rw [AB rfl,b9 h hz h0,AO]
 dsimp only
 rw [VP hz hl,Q3]
end
end Go.Proofs
