/- core.look: a range over slices.Backward at maps, left by a return; as a contract. First part: the pieces. -/
import Derived.Test.YtikecakpcfpghaaGreatDoorMm
import Derived.Test.YtikecakpcfpghaaGreatDoorMh
set_option linter.all false
set_option maxRecDepth 100000
namespace Go.Proofs
open Go Go.En Go.RowKit
def CZ (name:List UInt8):List (List (List UInt8×En.Dop.CD))->Option En.Dop.CD
 | []=>none
 | m::r=>match CZ name r with
  | some p=>some p
  | none=>AM m name
def Tryz.Dw.p:Ai:=⟨[],2,⟨[.al 0 0,.fd .str],[CK.b0,CT.b1]⟩,⟨[.st 9,.fd .bool],[CK.b0,CT.b1]⟩,false,[],[(162,[])]⟩
noncomputable def Tryz.Dw.E:Env En.Dop.D4:=Aj Tryz.prog 129 Tryz.tb [] Tryz.Dw.p
theorem Tryz.Dw.ok:AG En.Dop.D4 Tryz.prog 129 Tryz.Dw.p=true:=by kernel_rfl
def Tryz.Dw.R (x:(Unit×List UInt8×Unit)×(CK×CT×Unit)):(En.Dop.CD×Bool×Unit)×(CK×CT×Unit):=
 (((CZ x.1.2.1 (CK.names x.2.1)).getD En.Dop.d9,(CZ x.1.2.1 (CK.names x.2.1)).isSome,()),x.2)
def Tryz.Dw.c:By En.Dop.D4:=⟨129,Tryz.Dw.p.bn,Tryz.Dw.p.sp,Tryz.Dw.p.rs,Tryz.Dw.p.flat,.pre (fun x=>decide ((CK.names x.2.1).length<9223372036854775807)) Tryz.Dw.R⟩
noncomputable abbrev jK:Code:=As (AP Tryz.prog 129) [0,0,1,0,1]
noncomputable abbrev hH:Code:=As (AP Tryz.prog 129) [1,0,1,0,1]
noncomputable abbrev lT:Code:=As (AP Tryz.prog 129) [1,1]
noncomputable def Zc (name:List UInt8) (o:List (Nat×En.Own En.Dop.D4)):St En.Dop.D4:=
 ⟨[(0,.ptr 0 0),(1,.v (.string ⟨⟨name⟩⟩)),(3,.ptr 16 0),(4,.ptr 17 0),(5,.ptr 18 0),(10,.ptr 0 0),(11,.ptr 0 0),(12,.ptr 0 9),(13,.tr 8),(14,.fn 185 [.ptr 19 0])],
  (19,.AN 63 [.tr 8])::(18,.AN 4 [.v (.bool false)])::(17,.AN 111 [.v (.int .i64 0),.v (.int .i64 0),.v (.int .i64 0)])::(16,.AN 9 [.v (.string ⟨⟨name⟩⟩)])::o,20,26⟩
theorem Tryz.Dw.part (name:List UInt8) (x:En.Spec.D En.Dop.D4 ⟨[],[CK.b0,CT.b1]⟩) (vs:List SV) (o:List (Nat×En.Own En.Dop.D4)) (n:Nat) (h:En.Spec.enc (S:=En.Dop.D4) ⟨[.al 0 0,.fd .str],[CK.b0,CT.b1]⟩ (((),name,()),x.2) 2=(vs,o,n)):
  Ou Tryz.Dw.E 3000 [.code [] (AP Tryz.prog 129)] ⟨Bj 0 vs,o,n,26⟩=.ret ([.code [0,1,0,1] (.rangeFunc (.tmp 14) #[15,16] jK hH),.AN 0,.code [1,1] lT],Zc name o):=by
 cases h
 kernel_rfl
end Go.Proofs
namespace Go.Proofs
open Go Go.En Go.RowKit Go.Shelf
attribute [local go_sem] Oper.semAt_some
def iR (zs:List Value):List (Int×Value):=upto (fun k=>((zs.length:Int) -1 -k,zs[zs.length -1 -k]?.getD undef)) zs.length
def cg (Bs:Nat) (zs:List Value) (W:World):Prop:=
 (zs=[]/\ ∃ a c,W.cell? ⟨Bs,0,none⟩=some (.slice a 0 c))\/ ∃ b off cap,W.cell? ⟨Bs,0,none⟩=some (.slice (some ⟨b,off,none⟩) zs.length cap)/\ ∀ j,j<zs.length->W.cell? ⟨b,off+j,none⟩=some (zs[j]?.getD undef)
set_option maxRecDepth 100000 in
set_option maxHeartbeats 4000000 in
theorem Tryz.Zi (Bs:Nat) (zs:List Value) (hz:zs.length<9223372036854775807):Iter Tryz.prog 185 #[.pointer (some ⟨Bs,0,none⟩)] (fun x:Int×Value=>#[Value.int .i64 x.1,x.2]) (iR zs) (cg Bs zs):=by
 intro l J Jx W hRd hY h0
 refine callsIn_of_wp Tryz.func185 rfl trivial ?_ rfl
 simp only [Tryz.ntmps185,List.size_toArray,List.length_cons,List.length_nil,Nat.reduceAdd,Nat.reduceSub,Array.replicate_succ,Array.replicate_zero,List.push_toArray,List.append_toArray,List.nil_append,List.cons_append]
 obtain ⟨a,c,hBs⟩: ∃ a c,W.cell? ⟨Bs,0,none⟩=some (.slice a zs.length c):=by
  rcases hRd _ _ h0 with ⟨rfl,a,c,h⟩|⟨b,off,cap,h,_⟩
  ·exact ⟨a,c,h⟩
  ·exact ⟨_,cap,h⟩
 gi_wp2
 gi_loopw [3] (fun i wr=> ∃ k:Nat,k<=zs.length/\i=.int .i64 ((zs.length:Int) -1 -k)/\J (upto (fun k=>((zs.length:Int) -1 -k,zs[zs.length -1 -k]?.getD undef)) k) wr)
  (fun i _=>(intOf i+1).toNat)
 case atStart=>exact ⟨0,Nat.zero_le _,by simp,h0⟩
 case round=>
  obtain ⟨k,hk,rfl,hJs⟩:=hrel
  by_cases hlt:k<zs.length
  ·obtain ⟨rest,hrest⟩:=JL (fun k=>((zs.length:Int) -1 -k,zs[zs.length -1 -k]?.getD undef)) hlt
   obtain ⟨fn,tmps,assign,body,hy,hR⟩:=hY _ _ _ wr hrest hJs
   dsimp only at hy
   obtain ⟨b,off,cap,hb,hc⟩: ∃ b off cap,wr.cell? ⟨Bs,0,none⟩=some (.slice (some ⟨b,off,none⟩) zs.length cap)/\ ∀ j,j<zs.length->wr.cell? ⟨b,off+j,none⟩=some (zs[j]?.getD undef):=by
    rcases hRd _ _ hJs with ⟨h,_⟩|h
    ·rw [h] at hlt;simp at hlt
    ·exact h
   have hge:(0:Int)<=(zs.length:Int) -1 -k:=by omega
   have hlt2:(zs.length:Int) -1 -k<zs.length:=by omega
   have hcx:wr.cell? ⟨b,off+(zs.length -1 -k),none⟩=some (zs[zs.length -1 -k]?.getD undef):=hc _ (by omega)
   gi_wp2
   refine hR.mono ?_
   rintro e W3 (⟨rfl,hJ3⟩|⟨rfl,hJx3⟩)
   ·gi_wp2
    go_roundw
    case rel=>exact ⟨k+1,by omega,by simp;omega,by rw [Ga];exact hJ3⟩
    case measure=>simp [intOf];omega
   ·gi_wp2
    refine bodyPost_ret (results_none rfl _ _ _) rfl ?_
    exact ⟨⟨_,rfl⟩,.inr ⟨_,by rw [<-Ga];exact SD _ (by omega),hJx3⟩⟩
  ·obtain rfl:k=zs.length:=by omega
   gi_wp2
   go_end0
   exact ⟨⟨_,rfl⟩,.inl hJs⟩
end Go.Proofs
namespace Go.Proofs
open Go Go.En Go.RowKit
section
variable {S:Aq} {w0 w w':World} {F D0 D:Nat->Prop} {o o':List (Nat×En.Own S)} {N N':Nat->Prop} {β:Nat->Nm}
theorem GH.part (h:GH w0 F D0 D o N β w) (hs: ∀ i b,lk o' i=some b->lk o i=some b) (hw: ∀ i b,lk o' i=some b->N' i/\b.on N'):GH w0 F D0 D o' N' β w:=
 ⟨hw,fun i b hi=>h.own i b (hs i b hi),fun i j b c k hi hj=>h.inj i j b c k (hs i b hi) (hs j c hj),fun i b k hi=>h.fresh i b k (hs i b hi),fun i b k hi=>h.off i b k (hs i b hi),fun i b k hi=>h.lt i b k (hs i b hi),h.C0,h.JV,h.fr,h.sub⟩
theorem GH.same {X:Nat->Prop} (h:GH w0 F D0 D o N β w) (hX: ∀ k,X k->(∀ i b,lk o i=some b->¬ (β i).has k)/\¬ D k/\w0.heap.size<=k) (hk: ∀ k,k<w.heap.size->¬ X k->w'.heap[k]?=w.heap[k]?) (h1:w'.os=w.os) (h2:w'.tape=w.tape) (h3:w'.output=w.output) (h4:w.heap.size<=w'.heap.size):GH w0 F D0 D o N β w':=
 ⟨h.Bk,fun i b hi=>Own.De (h.own i b hi) (fun k hik=>hk k (h.lt i b k hi hik) fun hx=>(hX k hx).1 i b hi hik) fun k hd=>hk k (h.C0 k hd) fun hx=>(hX k hx).2.1 hd,h.inj,h.fresh,h.off,fun i b k hi hik=>Nat.lt_of_lt_of_le (h.lt i b k hi hik) h4,fun k hd=>Nat.lt_of_lt_of_le (h.C0 k hd) h4,h.JV,
  ⟨h1.trans h.fr.os,h2.trans h.fr.tape,h3.trans h.fr.output,Nat.le_trans h.fr.size h4,fun k hlt hF=>(hk k (Nat.lt_of_lt_of_le hlt h.fr.size) fun hx=>Nat.not_lt_of_le (hX k hx).2.2 hlt).trans (h.fr.block k hlt hF)⟩,h.sub⟩
end
noncomputable def RJ:Array Oper:=Ib (As hH [0,0])
noncomputable def eE:Code:=As hH [1,0]
theorem eF:hH=.block 1 (.seq (.region 3 RJ false) eE):=by kernel_rfl
noncomputable def X4:Oper:=RJ.getD 0 default
noncomputable def X6:Oper:=RJ.getD 1 default
noncomputable def X8:Oper:=RJ.getD 2 default
noncomputable def jN:List Oper:=RJ.toList.drop 3
theorem aR:RJ.toList=X4::X6::X8::jN:=by kernel_rfl
theorem Pd:X4.op=.move (.tmp 7)/\X4.dst=some 18/\X4.guard=none:=⟨by kernel_rfl,by kernel_rfl,by kernel_rfl⟩
theorem Pe:X6.op=.load 9 (.tmp 3)/\X6.dst=some 19/\X6.guard=none:=⟨by kernel_rfl,by kernel_rfl,by kernel_rfl⟩
theorem Pf:X8.op=.lookup 62 (.tmp 18) (.tmp 19) true/\X8.dst=some 20/\X8.guard=none:=⟨by kernel_rfl,by kernel_rfl,by kernel_rfl⟩
theorem jO:Nb (AP Tryz.prog 129)=true:=by kernel_rfl
theorem aQ:HJ (AP Tryz.prog 129) [1,0,1,0,1,0,1]=some eE:=by kernel_rfl
abbrev Zb:En.Spec:=⟨[],[⟨0,9,[.fd .str],false⟩,⟨1,111,[.st 9],false⟩,⟨2,4,[.fd .bool],false⟩]⟩
abbrev aS:En.Spec:=⟨[.al 1 0,.al 2 0],Zb.bx⟩
def Pc (r:Bool) (s:St En.Dop.D4):Tr (fun _=>Empty) (Bool×Zb.D En.Dop.D4):=match F4 s [4,5] with
 | some us=>match En.Spec.parse (S:=En.Dop.D4) aS true us s.o (Q3 3) 3 with
  | some (y,_)=>.ret (r,((),y.2))
  | none=>.stuck 52
 | none=>.stuck 53
def GP (t:List (Nat×SV)) (name:List UInt8) (p:En.Dop.CD) (b:Bool):St En.Dop.D4:=⟨t,(Zb.enc (S:=En.Dop.D4) ((),((name,()),(p,()),(b,()),())) 3).2.1,3,26⟩
abbrev Gq:List (Nat×SV):=[(3,.ptr 0 0),(4,.ptr 1 0),(5,.ptr 2 0)]
def J4 (p:En.Dop.CD):SV:=.agg [.v (.int .i64 p.kind),.v (.int .i64 p.n),.v (.int .i64 p.BB)]
noncomputable def RL (k:List Be) (s:St En.Dop.D4):Tr (fun _=>Empty) (Bool×Zb.D En.Dop.D4):=exec Tryz.Dw.E 3000 ⟨false,Tryz.Dw.E.dr⟩ (fun _ _ _=>.stuck 50) Pc false k s
noncomputable abbrev jL:List Be:=[.ops RJ jN,.code [1,0,1,0,1,0,1] eE,.AN 1]
theorem jP (name:List UInt8) (p q:En.Dop.CD) (b:Bool):RL jL (GP (Gq++[(20,.Gg [J4 q,.v (.bool false)])]) name p b)=.ret (false,((),((name,()),(p,()),(b,()),()))):=by kernel_rfl
theorem eI (name:List UInt8) (p q:En.Dop.CD) (b:Bool):RL jL (GP (Gq++[(20,.Gg [J4 q,.v (.bool true)])]) name p b)=.ret (true,((),((name,()),(q,()),(true,()),()))):=by kernel_rfl
noncomputable def X3:Array Oper:=Ib (As lT [0])
theorem eG:lT=.seq (.region 6 X3 false) .ret:=by kernel_rfl
theorem eH (name:List UInt8) (p:En.Dop.CD) (b:Bool):RL [.ops X3 X3.toList] (GP Gq name p b)=.ret (false,((),((name,()),(En.Dop.d9,()),(false,()),()))):=by kernel_rfl
end Go.Proofs
namespace Go.Proofs
open Go Go.En Go.RowKit
structure JR (W:World) (D:Nat->Prop) (b3 b4 b5:Nat) (name:List UInt8) (p:En.Dop.CD) (b:Bool):Prop where
 h3:W.heap[b3]?=some (.cells #[.string ⟨⟨name⟩⟩] 9 (0,0))
 h4:W.heap[b4]?=some (.cells #[.int .i64 p.kind,.int .i64 p.n,.int .i64 p.BB] 111 (0,0))
 h5:W.heap[b5]?=some (.cells #[.bool b] 4 (0,0))
 n34:b3≠b4
 n35:b3≠b5
 mF:b4≠b5
 d3:¬ D b3
 d4:¬ D b4
 d5:¬ D b5
 C0: ∀ k,D k->k<W.heap.size
 inv:En.Dop.D4.inv D W
def jM (b:Nat):Nm:=⟨some b,0,0,undef⟩
def I4 (b3 b4 b5:Nat):Nat->Nm
 | 0=>jM b3
 | 1=>jM b4
 | _=>jM b5
theorem II {b k:Nat}:(jM b).has k↔k=b:=by
 constructor
 ·rintro (h|⟨c,cap,h⟩)
  ·exact (Option.some.inj h).symm
  ·rw [jM,Nm.BI] at h;cases h
 ·rintro rfl;exact .inl rfl
theorem aT (t:List (Nat×SV)) (name:List UInt8) (p:En.Dop.CD) (b:Bool):(GP t name p b).o=[(2,.AN 4 [.b b]),(1,.AN 111 [.v (.int .i64 p.kind),.v (.int .i64 p.n),.v (.int .i64 p.BB)]),(0,.AN 9 [.v (.string ⟨⟨name⟩⟩)])]:=by kernel_rfl
theorem Jp {t:List (Nat×SV)} {name:List UInt8} {p:En.Dop.CD} {b:Bool} {i:Nat} {x:En.Own En.Dop.D4} (h:lk (GP t name p b).o i=some x):(i=0/\x=.AN 9 [.v (.string ⟨⟨name⟩⟩)])\/(i=1/\x=.AN 111 [.v (.int .i64 p.kind),.v (.int .i64 p.n),.v (.int .i64 p.BB)])\/(i=2/\x=.AN 4 [.b b]):=by
 rw [aT] at h
 simp only [AI] at h
 split at h
 ·rename_i e;cases h;exact .inr (.inr ⟨e.symm,rfl⟩)
 ·split at h
  ·rename_i e;cases h;exact .inr (.inl ⟨e.symm,rfl⟩)
  ·split at h
   ·rename_i e;cases h;exact .inl ⟨e.symm,rfl⟩
   ·simp [AS] at h
theorem JR.gh {W:World} {D:Nat->Prop} {b3 b4 b5:Nat} {name:List UInt8} {p:En.Dop.CD} {b:Bool} (h:JR W D b3 b4 b5 name p b) (t:List (Nat×SV)):GH W (AK (GP t name p b).o (I4 b3 b4 b5)) D D (GP t name p b).o (· <3) (I4 b3 b4 b5) W:=by
 have hlt: ∀ i x k,lk (GP t name p b).o i=some x->(I4 b3 b4 b5 i).has k->k<W.heap.size/\¬ D k/\((i=0/\k=b3)\/(i=1/\k=b4)\/(i=2/\k=b5)):=by
  intro i x k hi hk
  rcases Jp hi with ⟨rfl,rfl⟩|⟨rfl,rfl⟩|⟨rfl,rfl⟩
  ·have:=II.1 hk;subst this;exact ⟨(Array.getElem?_eq_some_iff.1 h.h3).1,h.d3,.inl ⟨rfl,rfl⟩⟩
  ·have:=II.1 hk;subst this;exact ⟨(Array.getElem?_eq_some_iff.1 h.h4).1,h.d4,.inr (.inl ⟨rfl,rfl⟩)⟩
  ·have:=II.1 hk;subst this;exact ⟨(Array.getElem?_eq_some_iff.1 h.h5).1,h.d5,.inr (.inr ⟨rfl,rfl⟩)⟩
 refine ⟨fun i x hi=>?_,fun i x hi=>?_,fun i j x y k hi hj hik hjk=>?_,fun i x k hi hk=>.inr ⟨i,x,hi,hk⟩,fun i x k hi hk=>(hlt i x k hi hk).2.1,fun i x k hi hk=>(hlt i x k hi hk).1,h.C0,fun k hk=>.inl hk,OC.refl _ _,fun _ h=>h⟩
 ·rcases Jp hi with ⟨rfl,rfl⟩|⟨rfl,rfl⟩|⟨rfl,rfl⟩<;>exact ⟨by omega,by simp [Own.on,BR,SV.on]⟩
 ·rcases Jp hi with ⟨rfl,rfl⟩|⟨rfl,rfl⟩|⟨rfl,rfl⟩
  ·exact ⟨b3,rfl,by rw [h.h3];simp [AA,SV.den]⟩
  ·exact ⟨b4,rfl,by rw [h.h4];simp [AA,SV.den]⟩
  ·exact ⟨b5,rfl,by rw [h.h5];simp [AA,SV.den]⟩
 ·have h1:=(hlt i x k hi hik).2.2
  have h2:=(hlt j y k hj hjk).2.2
  have:=h.n34;have:=h.n35;have:=h.mF
  rcases h1 with ⟨rfl,rfl⟩|⟨rfl,rfl⟩|⟨rfl,rfl⟩<;>rcases h2 with ⟨rfl,h2⟩|⟨rfl,h2⟩|⟨rfl,h2⟩<;>first|rfl|(subst h2;contradiction)|exact absurd h2 ‹_› |exact absurd h2.symm ‹_›
structure Fx (W W':World) (b3 b4 b5:Nat):Prop where
 os:W'.os=W.os
 tape:W'.tape=W.tape
 output:W'.output=W.output
 size:W.heap.size<=W'.heap.size
 block: ∀ k,k<W.heap.size->k≠b3->k≠b4->k≠b5->W'.heap[k]?=W.heap[k]?
theorem cE:(Tryz.Dw.E).Ok Tryz.prog/\Bq Tryz.prog 129=true/\Tryz.Dw.p.sp.okB Tryz.Dw.p.bn=true/\ ∃ fn,Tryz.prog.funcs[129]?=some fn/\fn.body=some (AP Tryz.prog 129)/\fn.ntmps=26/\fn.results.toList=[.cell 4 111,.cell 5 4]:=by
 obtain ⟨h1,h2,h3,fn,h4,h5,h6,h7⟩:=FP (p:=Tryz.Dw.p) Tryz.AH Br Tryz.Dw.ok
 have e1:Cl Tryz.prog 129=26:=by kernel_rfl
 have e2:ED Tryz.prog 129=[.cell 4 111,.cell 5 4]:=by kernel_rfl
 exact ⟨h1,h2,h3,fn,h4,h5,h6.trans e1,h7.trans e2⟩
structure WQ (a:Act) (b3 b4 b5:Nat):Prop where
 size:a.tmps.size=26
 t3:a.tmps.getD 3 undef=.pointer (some ⟨b3,0,none⟩)
 t4:a.tmps.getD 4 undef=.pointer (some ⟨b4,0,none⟩)
 t5:a.tmps.getD 5 undef=.pointer (some ⟨b5,0,none⟩)
theorem RM {W W':World} {D:Nat->Prop} {b3 b4 b5:Nat} {name:List UInt8} {p p':En.Dop.CD} {b b' r r':Bool} (h:JR W D b3 b4 b5 name p b) {t:List (Nat×SV)} {s:St En.Dop.D4} {D':Nat->Prop} {β':Nat->Nm} {a:Act}
  (hl:(Pc r s).Holds (fun _ _=>False) (· =(r',(((),((name,()),(p',()),(b',()),())):Zb.D En.Dop.D4)))) (hβ: ∀ i,i<3->β' i=I4 b3 b4 b5 i) (hg:G W (AK (GP t name p b).o (I4 b3 b4 b5)) D D' s (· <s.n) β' a W'):
  r=r'/\JR W' D b3 b4 b5 name p' b'/\Fx W W' b3 b4 b5/\a.tmps.getD 4 undef=.pointer (some ⟨b4,0,none⟩)/\a.tmps.getD 5 undef=.pointer (some ⟨b5,0,none⟩):=by
 unfold Pc at hl
 split at hl
 case h_2=>exact hl.elim
 rename_i us hus
 split at hl
 case h_2=>exact hl.elim
 rename_i y ps hp
 have hy:(r,(((),y.2):Zb.D En.Dop.D4))=(r',(((),((name,()),(p',()),(b',()),())):Zb.D En.Dop.D4)):=hl
 obtain ⟨hr,hy⟩:=Prod.mk.inj hy
 have hy2:y=(((),(),()),((name,()),(p',()),(b',()),())):=by
  have:=(Prod.mk.inj hy).2
  show (y.1,y.2)=_
  rw [this]
 refine ⟨hr,?_⟩
 clear hy
 subst hy2
 rcases he2:aS.enc (S:=En.Dop.D4) (((),(),()),((name,()),(p',()),(b',()),())) 3 with ⟨vs',o',n'⟩
 obtain ⟨β'',b1,b2,b3',_,b5',_,_,b8,_⟩:=En.Spec.B5 hg.gh hp (by kernel_rfl) he2
 have ho:o'=(GP [] name p' b').o:=by
  have e:(aS.enc (S:=En.Dop.D4) (((),(),()),((name,()),(p',()),(b',()),())) 3).2.1=(GP [] name p' b').o:=by kernel_rfl
  rw [<-e,he2]
 have hvs:vs'=[.ptr 1 0,.ptr 2 0]:=by
  have e:(aS.enc (S:=En.Dop.D4) (((),(),()),((name,()),(p',()),(b',()),())) 3).1=[.ptr 1 0,.ptr 2 0]:=by kernel_rfl
  rw [<-e,he2]
 subst ho
 have hb: ∀ i,i<3->β'' i=I4 b3 b4 b5 i:=fun i hi=>by rw [b1 i hi i (b8 i i (Gr hi)),hβ i hi]
 obtain ⟨k3,e3,f3⟩:=b2.own 0 (.AN 9 [.v (.string ⟨⟨name⟩⟩)]) (by rw [aT];rfl)
 obtain ⟨k4,e4,f4⟩:=b2.own 1 (.AN 111 [.v (.int .i64 p'.kind),.v (.int .i64 p'.n),.v (.int .i64 p'.BB)]) (by rw [aT];rfl)
 obtain ⟨k5,e5,f5⟩:=b2.own 2 (.AN 4 [.b b']) (by rw [aT];rfl)
 rw [hb 0 (by omega)] at e3;cases e3
 rw [hb 1 (by omega)] at e4;cases e4
 rw [hb 2 (by omega)] at e5;cases e5
 have hF: ∀ k,AK (GP t name p b).o (I4 b3 b4 b5) k->k=b3\/k=b4\/k=b5:=by
  rintro k ⟨i,x,hi,hk⟩
  rcases Jp hi with ⟨rfl,rfl⟩|⟨rfl,rfl⟩|⟨rfl,rfl⟩
  ·exact .inl (II.1 hk)
  ·exact .inr (.inl (II.1 hk))
  ·exact .inr (.inr (II.1 hk))
 have hto:Fx W W' b3 b4 b5:=⟨hg.gh.fr.os,hg.gh.fr.tape,hg.gh.fr.output,hg.gh.fr.size,fun k hk h3 h4 h5=>hg.gh.fr.block k hk fun hx=>by rcases hF k hx with e|e|e<;>contradiction⟩
 have hD: ∀ k,D k->W'.heap[k]?=W.heap[k]?:=fun k hk=>hto.block k (h.C0 k hk) (fun e=>h.d3 (e▸hk)) (fun e=>h.d4 (e▸hk)) (fun e=>h.d5 (e▸hk))
 refine ⟨⟨by rw [f3];simp [AA,SV.den],by rw [f4];simp [AA,SV.den],by rw [f5];simp [AA,SV.den],h.n34,h.n35,h.mF,h.d3,h.d4,h.d5,fun k hk=>Nat.lt_of_lt_of_le (h.C0 k hk) hto.size,En.Dop.D4.FQ h.inv hD fun _ h=>h⟩,hto,?_⟩
 obtain ⟨t1,t2,t3⟩:=FG hg hus
 have hlen:us.length=2:=by have:=congrArg List.length b3';rw [AF,AF,hvs] at this;exact this
 rw [hvs] at b3'
 match us,hlen,b3',t3 with
 | [u1,u2],_,b3',t3=>
  simp only [AA,List.cons.injEq,and_true] at b3'
  refine ⟨(t3 0 4 u1 rfl rfl).2.trans (b3'.1.trans ?_),(t3 1 5 u2 rfl rfl).2.trans (b3'.2.trans ?_)⟩
  ·simp only [SV.den,hb 1 (by omega)];rfl
  ·simp only [SV.den,hb 2 (by omega)];rfl
theorem Kj {Φ:Fence} {Q:Exit->Act->World->Prop} {k:List Be} {x:List (Nat×SV)} {name:List UInt8} {p p':En.Dop.CD} {b b' r:Bool} (hev:RL k (GP (Gq++x) name p b)=.ret (r,((),((name,()),(p',()),(b',()),()))))
  (hk: ∀ y∈k,y.ok (AP Tryz.prog 129)) (hcalm: ∀ a id ops d,HJ (AP Tryz.prog 129) a=some (.region id ops d)->En.Calm Φ Q ops) (hpan: ∀ c a d v w,Q (.panic c) (a.put d v) w->Q (.panic c) a w)
  {W:World} {D:Nat->Prop} {b3 b4 b5:Nat} (h:JR W D b3 b4 b5 name p b) {a:Act} (hd:a.defers=[]) (ha:WQ a b3 b4 b5) (hx: ∀ t v,lk x t=some v->t<26/\v.on (· <3)/\a.tmps.getD t undef=v.den (I4 b3 b4 b5))
  (hQ: ∀ a' W',a'.defers=[]->a'.tmps.size=26->a'.tmps.getD 4 undef=.pointer (some ⟨b4,0,none⟩)->a'.tmps.getD 5 undef=.pointer (some ⟨b5,0,none⟩)->JR W' D b3 b4 b5 name p' b'->Fx W W' b3 b4 b5->Q (if r=true then .ret else .normal) a' W'):after Φ Tryz.prog 3000 (k.map Be.it) Q .normal a W:=by
 obtain ⟨hE,_,_,_⟩:=cE
 have hkp:BS En.Dop.D4 W (AK (GP (Gq++x) name p b).o (I4 b3 b4 b5)) D:=⟨h.inv,fun k hk=>⟨h.C0 k hk,fun ⟨i,y,hi,hik⟩=>(h.gh _).off i y k hi hik hk⟩⟩
 have hl:=AQ hE (ι:=fun _=>Empty) (ρ:=Bool×Zb.D En.Dop.D4) (Kc:=fun _ _=>False) (Kr:=(· =(r,(((),((name,()),(p',()),(b',()),())):Zb.D En.Dop.D4)))) (Φ:=Φ) (Q:=Q) (w0:=W) (F:=AK (GP (Gq++x) name p b).o (I4 b3 b4 b5)) (D0:=D) (bn:=3) (β0:=I4 b3 b4 b5) (M:=0) (body:=AP Tryz.prog 129) (sz:=26) 3000 (fr:=⟨false,Tryz.Dw.E.dr⟩) (oc:=fun _ _ _=>.stuck 50) (or':=Pc)
  ⟨hkp,hpan,hE.K7,hcalm,fun _ _ _ _ _ _ h=>False.elim h,fun M s' hn hz hh=>?_,fun M k' s' hn hz hh=>?_⟩ false k (GP (Gq++x) name p b) (Nat.le_refl 3) rfl hk (by
   have:(RL k (GP (Gq++x) name p b)).Holds (fun _ _=>False) (· =(r,(((),((name,()),(p',()),(b',()),())):Zb.D En.Dop.D4))):=by rw [hev];rfl
   exact this)
 ·have:=hl D (I4 b3 b4 b5) a W (fun _ _=>rfl) ⟨hd,ha.size,fun t v ht=>?_,fun t v ht=>?_,h.gh _⟩
  ·rwa [Nat.zero_add] at this
  all_goals
   have ht:lk (Gq++x) t=some v:=ht
   simp only [List.cons_append,List.nil_append,AI] at ht
   split at ht
   ·rename_i e;subst e;cases ht
    first
     | exact ⟨by show 3<26;omega,by show 0<3;omega⟩
     | (rw [ha.t3];rfl)
   ·split at ht
    ·rename_i e;subst e;cases ht
     first
      | exact ⟨by show 4<26;omega,by show 1<3;omega⟩
      | (rw [ha.t4];rfl)
    ·split at ht
     ·rename_i e;subst e;cases ht
      first
       | exact ⟨by show 5<26;omega,by show 2<3;omega⟩
       | (rw [ha.t5];rfl)
     ·first
       | exact ⟨(hx t v ht).1,(hx t v ht).2.1⟩
       | exact (hx t v ht).2.2
 ·intro D' β' a' w hβ hg
  obtain ⟨e,h1,h2,h3,h4⟩:=RM h hh hβ hg
  have:=hQ a' w hg.defers (hg.size.trans hz) h3 h4 h1 h2
  rw [<-e] at this
  exact this
 ·refine VC.Uv fun D' β' a' w hβ hg=>?_
  obtain ⟨e,h1,h2,h3,h4⟩:=RM h hh hβ hg
  have:=hQ a' w hg.defers (hg.size.trans hz) h3 h4 h1 h2
  rw [<-e] at this
  exact this
end Go.Proofs
namespace Go.Proofs
open Go Go.En Go.RowKit
theorem RN {Φ:Fence} {P:Program} {N:Nat} {c:Code} {Q:Exit->Act->World->Prop}:after Φ P N [.code c,.AN 1] Q=Exit.then (c.wpIn Φ 0 P (Exit.inBlock 1 Q)) (Exit.inBlock 1 Q):=by
 have h:after Φ P N [] Q=Q:=by funext e a w;simp only [after]
 have h2:after Φ P N [.AN 1] Q=Exit.inBlock 1 Q:=by funext e a w;simp only [after,h]
 funext e a w
 cases e<;>first
  | (simp only [after,Exit.then,h2];done)
  | simp only [after,Exit.then,h2,h,Exit.inBlock]
theorem Vy {w:World} {D:Nat->Prop} {q:En.Dop.CD} {vs:List Value} (h:AE En.Dop.D4 w D (En.Dop.D4.enc 9 q) vs):vs=[.int .i64 q.kind,.int .i64 q.n,.int .i64 q.BB]:=by
 have h:AE En.Dop.D4 w D [.int .i64 q.kind,.int .i64 q.n,.int .i64 q.BB] vs:=h
 obtain ⟨v1,r1,rfl,h1,h⟩:=h.C4
 obtain ⟨v2,r2,rfl,h2,h⟩:=h.C4
 obtain ⟨v3,r3,rfl,h3,h⟩:=h.C4
 cases h1;cases h2;cases h3
 have:=h.1
 cases r3 with
 | nil=>rfl
 | cons _ _=>simp at this
theorem Vm {a:Act} {W:World} {D:Nat->Prop} {g:Nat} {m:List (List UInt8×En.Dop.CD)} {name:List UInt8} (hM:En.MapAt En.Dop.D4 W D .str 9 true g m) (em:a.eval (.tmp 18)=.map (some g)) (ek:a.eval (.tmp 19)=.string ⟨⟨name⟩⟩):
  (execOp a.eval X8).run Tryz.prog W=.ok (.value (.tuple #[.agg #[.int .i64 ((AM m name).getD En.Dop.d9).kind,.int .i64 ((AM m name).getD En.Dop.d9).n,.int .i64 ((AM m name).getD En.Dop.d9).BB],.bool (AM m name).isSome])) W:=by
 have e0:(lk Tryz.tb 111).map (fun te=>(te.τ,gr te,te.agg))=some (some 9,true,true):=by kernel_rfl
 obtain ⟨te,h1,h2⟩:=Option.map_eq_some_iff.1 e0
 simp only [Prod.mk.injEq] at h2
 obtain ⟨h2,h3,h4⟩:=h2
 have hT:=AY (d:=.map 9 111) Tryz.AH (T:=62) (by kernel_rfl)
 simp only [TD.ok] at hT
 obtain ⟨hkd,hkk⟩:=Jm (κ:=.str) Tryz.AH (kt:=9) (by kernel_rfl)
 have hoe:=(Tryz.AH).get h1
 have hz:=IB (S:=En.Dop.D4) (D:=D) (w:=W) (hoe.Za 9 h2).2.2
 obtain ⟨vs,k1,k2⟩:=NU (S:=En.Dop.D4) (κ:=.str) hT hkd hkk hoe h3 h4.symm hz hM name Pf.1 em (by rw [ek];rfl)
 have hm:Dr (T:=En.Dop.D4.T) .str m name=AM m name:=by
  clear k1 k2 hM em ek
  induction m with
  | nil=>rfl
  | cons x r ih=>
   show (match JX (T:=En.Dop.D4.T) .str name x.1 with|true=>some x.2|false=>Dr .str r name)=(match JX (T:=fun _=>Unit) .str name x.1 with|true=>some x.2|false=>Dr .str r name)
   rw [ih]
   rfl
 rw [hm] at k1 k2
 have hd:En.Dop.D4.A5 9=En.Dop.d9:=rfl
 rw [hd] at k1
 have:=Vy k1
 subst this
 simpa [Fp] using k2
theorem X5 {a:Act} {W:World} {v:Value} (h:a.tmps.getD 7 undef=v):(execOp a.eval X4).run Tryz.prog W=.ok (.value v) W:=by
 subst h
 simp [execOp,Pd.1,Act.eval]
theorem X7 {a:Act} {W:World} {b3:Nat} {s:List UInt8} (h:a.tmps.getD 3 undef=.pointer (some ⟨b3,0,none⟩)) (hc:W.cell? ⟨b3,0,none⟩=some (.string ⟨⟨s⟩⟩)):(execOp a.eval X6).run Tryz.prog W=.ok (.value (.string ⟨⟨s⟩⟩)) W:=by
 have e0:(lk Tryz.tb 9).map (fun te=>te.agg)=some false:=by kernel_rfl
 obtain ⟨te,h1,h2⟩:=Option.map_eq_some_iff.1 e0
 have hl:=Bm ((Tryz.AH).get h1) W b3 0 _ hc h2
 have e:a.eval (.tmp 3)=.pointer (some ⟨b3,0,none⟩):=h
 simp [execOp,Pe.1,e,Instr.loadAt,Instr.sureAddr,hl]
theorem GV {a:Act} {d t:Nat} {v:Value} (h:d≠t):(a.put (some d) v).tmps.getD t undef=a.tmps.getD t undef:=by
 simp [Act.put,Array.getD_eq_getD_getElem?,Array.getElem?_setIfInBounds,h]
theorem J5 {a:Act} {d:Nat} {v:Value} (h:d<a.tmps.size):(a.put (some d) v).tmps.getD d undef=v:=by
 simp [Act.put,Array.getD_eq_getD_getElem?,Array.getElem?_setIfInBounds,h]
theorem Hx {a:Act} {d:Option Nat} {v:Value}:(a.put d v).tmps.size=a.tmps.size:=by cases d<;>simp [Act.put]
theorem TZ {a:Act} {d:Option Nat} {v:Value}:(a.put d v).defers=a.defers:=by cases d<;>rfl
theorem WQ.put {a:Act} {b3 b4 b5:Nat} (h:WQ a b3 b4 b5) {d:Nat} {v:Value} (h3:d≠3) (h4:d≠4) (h5:d≠5):WQ (a.put (some d) v) b3 b4 b5:=
 ⟨Hx.trans h.size,(GV h3).trans h.t3,(GV h4).trans h.t4,(GV h5).trans h.t5⟩
theorem YA {l:Nat} {Q:Exit->Act->World->Prop} (hQp: ∀ c a w,¬ Q (.panic c) a w) (hQo:¬ LetsOut Q) {W:World} {D:Nat->Prop} {b3 b4 b5 g:Nat} {name:List UInt8} {p:En.Dop.CD} {b:Bool} (h:JR W D b3 b4 b5 name p b) {m:List (List UInt8×En.Dop.CD)} (hM:En.MapAt En.Dop.D4 W D .str 9 true g m)
  {a:Act} (hd:a.defers=[]) (ha:WQ a b3 b4 b5) (h7:a.tmps.getD 7 undef=.map (some g))
  (hno:AM m name=none-> ∀ a' W',JR W' D b3 b4 b5 name p b->Fx W W' b3 b4 b5->Q .normal a' W')
  (hyes: ∀ q,AM m name=some q-> ∀ a' W',JR W' D b3 b4 b5 name q true->Fx W W' b3 b4 b5->Q .ret a' W'):
  hH.wpIn (Fence.wide.inRound l) 0 Tryz.prog Q a W:=by
 rw [eF]
 have hcalm: ∀ (Q:Exit->Act->World->Prop),¬ LetsOut Q-> ∀ a id ops d,HJ (AP Tryz.prog 129) a=some (.region id ops d)->En.Calm (Fence.wide.inRound l) Q ops:=fun Q h a id ops d ha=>.inr ⟨⟨l,rfl⟩,h,Oq jO ha⟩
 refine wpIn_block (wpIn_seq (FL (hcalm _ ?_ [0,0,1,0,1,0,1] 3 RJ false (by kernel_rfl)) ?_))
 ·rintro ⟨a',w',hh⟩;exact hQo ⟨a',w',hh⟩
 rw [<-RN (N:=3000),aR]
 have hc3:W.cell? ⟨b3,0,none⟩=some (.string ⟨⟨name⟩⟩):=by unfold World.cell?;rw [h.h3];rfl
 have hs:a.tmps.size=26:=ha.size
 unfold wpList
 rw [if_pos (by simp [Region.wanted,Pd.2.2])]
 refine .inl (An (X5 h7) ?_)
 rw [Pd.2.1]
 have ha1:=ha.put (d:=18) (v:=.map (some g)) (by decide) (by decide) (by decide)
 unfold wpList
 rw [if_pos (by simp [Region.wanted,Pe.2.2])]
 refine .inl (An (X7 ha1.t3 hc3) ?_)
 rw [Pe.2.1]
 have ha2:=ha1.put (d:=19) (v:=.string ⟨⟨name⟩⟩) (by decide) (by decide) (by decide)
 unfold wpList
 rw [if_pos (by simp [Region.wanted,Pf.2.2])]
 refine .inl (An (Vm (name:=name) hM ?_ ?_) ?_)
 ·exact (GV (by decide)).trans (J5 (by rw [hs];decide))
 ·exact J5 (by rw [Hx,hs];decide)
 rw [Pf.2.1]
 have ha3:=ha2.put (d:=20) (v:=.tuple #[.agg #[.int .i64 ((AM m name).getD En.Dop.d9).kind,.int .i64 ((AM m name).getD En.Dop.d9).n,.int .i64 ((AM m name).getD En.Dop.d9).BB],.bool (AM m name).isSome]) (by decide) (by decide) (by decide)
 have h20:=J5 (a:=((a.put (some 18) (.map (some g))).put (some 19) (.string ⟨⟨name⟩⟩))) (d:=20) (v:=.tuple #[.agg #[.int .i64 ((AM m name).getD En.Dop.d9).kind,.int .i64 ((AM m name).getD En.Dop.d9).n,.int .i64 ((AM m name).getD En.Dop.d9).BB],.bool (AM m name).isSome]) (by rw [Hx,Hx,hs];decide)
 have hdf:(((a.put (some 18) (.map (some g))).put (some 19) (.string ⟨⟨name⟩⟩)).put (some 20) (.tuple #[.agg #[.int .i64 ((AM m name).getD En.Dop.d9).kind,.int .i64 ((AM m name).getD En.Dop.d9).n,.int .i64 ((AM m name).getD En.Dop.d9).BB],.bool (AM m name).isSome])).defers=[]:=by rw [TZ,TZ,TZ,hd]
 have hk: ∀ y∈jL,y.ok (AP Tryz.prog 129):=fun y hy=>by
  simp only [List.mem_cons,List.not_mem_nil,or_false] at hy
  rcases hy with rfl|rfl|rfl
  ·trivial
  ·exact aQ
  ·trivial
 have hx: ∀ (c:Bool),(AM m name).isSome=c-> ∀ t v,lk [(20,SV.Gg [J4 ((AM m name).getD En.Dop.d9),.v (.bool c)])] t=some v->t<26/\v.on (· <3)/\(((a.put (some 18) (.map (some g))).put (some 19) (.string ⟨⟨name⟩⟩)).put (some 20) (.tuple #[.agg #[.int .i64 ((AM m name).getD En.Dop.d9).kind,.int .i64 ((AM m name).getD En.Dop.d9).n,.int .i64 ((AM m name).getD En.Dop.d9).BB],.bool (AM m name).isSome])).tmps.getD t undef=v.den (I4 b3 b4 b5):=fun c hc t v ht=>by
  simp only [AI] at ht
  split at ht
  ·rename_i e;subst e;cases ht
   refine ⟨by decide,by simp [SV.on,BR,J4],?_⟩
   rw [h20]
   simp [SV.den,AA,J4,hc]
  ·simp [AS] at ht
 cases hm:AM m name with
 | none=>
  have hx0:=hx false (by rw [hm];rfl)
  rw [hm] at hx0 ha3 hdf
  exact Kj (Φ:=Fence.wide.inRound l) (Q:=Q) (k:=jL) (x:=[(20,.Gg [J4 En.Dop.d9,.v (.bool false)])]) (jP name p En.Dop.d9 b) hk (hcalm Q hQo) (fun c a d v w hh=>absurd hh (hQp _ _ _)) h hdf ha3 hx0 (fun a' W' _ _ _ _ h1 h2=>hno hm a' W' h1 h2)
 | some q=>
  have hx0:=hx true (by rw [hm];rfl)
  rw [hm] at hx0 ha3 hdf
  exact Kj (Φ:=Fence.wide.inRound l) (Q:=Q) (k:=jL) (x:=[(20,.Gg [J4 q,.v (.bool true)])]) (eI name p q b) hk (hcalm Q hQo) (fun c a d v w hh=>absurd hh (hQp _ _ _)) h hdf ha3 hx0 (fun a' W' _ _ _ _ h1 h2=>hyes q hm a' W' h1 h2)
end Go.Proofs
namespace Go.Proofs
open Go Go.En Go.RowKit
theorem M9 {name:List UInt8} {q:En.Dop.CD}: ∀ (l:List (List (List UInt8×En.Dop.CD))) (n:Nat),CZ name (l.drop n)=some q->CZ name l=some q
 | l,0,h=>by rw [List.drop_zero] at h;exact h
 | [],n+1,h=>by simp [CZ] at h
 | m::r,n+1,h=>by
  rw [List.drop_succ_cons] at h
  have:=M9 r n h
  simp only [CZ,this]
theorem TH {name:List UInt8} {l:List (List (List UInt8×En.Dop.CD))} {k:Nat} (hk:k<l.length) (h:CZ name (l.drop (l.length -k))=none):CZ name (l.drop (l.length -(k+1)))=AM (l.getD (l.length -1 -k) []) name:=by
 have e:l.length -(k+1)=l.length -1 -k:=by omega
 have hlt:l.length -1 -k<l.length:=by omega
 have e2:l.length -1 -k+1=l.length -k:=by omega
 rw [e,List.drop_eq_getElem_cons hlt,e2]
 simp only [CZ,h,List.getD_eq_getElem?_getD,List.getElem?_eq_getElem hlt,Option.getD_some]
structure Zg (W W':World):Prop where
 os:W'.os=W.os
 tape:W'.tape=W.tape
 output:W'.output=W.output
 size:W.heap.size<=W'.heap.size
 block: ∀ k,k<W.heap.size->W'.heap[k]?=W.heap[k]?
theorem Zg.putObj {W W':World} (h:Zg W W') {r:Nat} (hr:W.heap.size<=r) (o:Obj):Zg W (W'.putObj r o):=
 ⟨h.os,h.tape,h.output,by simpa [World.putObj] using h.size,fun k hk=>(World.putObj_heap_other (by omega)).trans (h.block k hk)⟩
theorem JR.move {W W':World} {D:Nat->Prop} {b3 b4 b5:Nat} {name:List UInt8} {p:En.Dop.CD} {b:Bool} (h:JR W D b3 b4 b5 name p b) (hs:W.heap.size<=W'.heap.size) (hk: ∀ k,k=b3\/k=b4\/k=b5\/D k->W'.heap[k]?=W.heap[k]?):JR W' D b3 b4 b5 name p b:=
 ⟨(hk b3 (.inl rfl)).trans h.h3,(hk b4 (.inr (.inl rfl))).trans h.h4,(hk b5 (.inr (.inr (.inl rfl)))).trans h.h5,h.n34,h.n35,h.mF,h.d3,h.d4,h.d5,fun k hd=>Nat.lt_of_lt_of_le (h.C0 k hd) hs,En.Dop.D4.FQ h.inv (fun k hd=>hk k (.inr (.inr (.inr hd)))) fun _ h=>h⟩
theorem JR.lt {W:World} {D:Nat->Prop} {b3 b4 b5:Nat} {name:List UInt8} {p:En.Dop.CD} {b:Bool} (h:JR W D b3 b4 b5 name p b):b3<W.heap.size/\b4<W.heap.size/\b5<W.heap.size:=
 ⟨(Array.getElem?_eq_some_iff.1 h.h3).1,(Array.getElem?_eq_some_iff.1 h.h4).1,(Array.getElem?_eq_some_iff.1 h.h5).1⟩
theorem JR.at {W W':World} {D:Nat->Prop} {b3 b4 b5:Nat} {name:List UInt8} {p:En.Dop.CD} {b:Bool} (h:JR W D b3 b4 b5 name p b) (hi:Zg W W'):JR W' D b3 b4 b5 name p b:=
 h.move hi.size fun k hk=>hi.block k (by have:=h.lt;rcases hk with rfl|rfl|rfl|hk<;>first|omega|exact h.C0 _ hk)
theorem JR.putObj {W:World} {D:Nat->Prop} {b3 b4 b5:Nat} {name:List UInt8} {p:En.Dop.CD} {b:Bool} (h:JR W D b3 b4 b5 name p b) {r:Nat} (h3:r≠b3) (h4:r≠b4) (h5:r≠b5) (hD:¬ D r) (o:Obj):JR (W.putObj r o) D b3 b4 b5 name p b:=
 h.move (by simp [World.putObj]) fun k hk=>World.putObj_heap_other fun e=>by rcases hk with rfl|rfl|rfl|hk<;>first|exact h3 e.symm|exact h4 e.symm|exact h5 e.symm|exact hD (e▸hk)
theorem Fx.comp {W W1 W2:World} {b3 b4 b5:Nat} (h:Zg W W1) (k:Fx W1 W2 b3 b4 b5):Fx W W2 b3 b4 b5:=
 ⟨k.os.trans h.os,k.tape.trans h.tape,k.output.trans h.output,Nat.le_trans h.size k.size,fun x hx h3 h4 h5=>(k.block x (Nat.lt_of_lt_of_le hx h.size) h3 h4 h5).trans (h.block x hx)⟩
theorem Fx.putObj {W W':World} {b3 b4 b5:Nat} (h:Fx W W' b3 b4 b5) {r:Nat} (hr:W.heap.size<=r) (o:Obj):Fx W (W'.putObj r o) b3 b4 b5:=
 ⟨h.os,h.tape,h.output,by simpa [World.putObj] using h.size,fun k hk h3 h4 h5=>(World.putObj_heap_other (by omega)).trans (h.block k hk h3 h4 h5)⟩
noncomputable def X2:Oper:=match jK with
 | .region _ ⟨o::_⟩ _=>o
 | _=>default
theorem eD:jK=.region 2 #[X2] false:=by kernel_rfl
theorem Fl:X2.op=.assign (.tmp 16)/\X2.dst=some 7/\X2.guard=none:=⟨by kernel_rfl,by kernel_rfl,by kernel_rfl⟩
theorem Vk {l:Nat} {x:Int×Value} {W:World} {a:Act} {K:Act->World->Prop} {b3 b4 b5:Nat} (ha:WQ a b3 b4 b5) (h: ∀ a':Act,a'.defers=[]->WQ a' b3 b4 b5->a'.tmps.getD 7 undef=x.2->K a' W):
  jK.wpIn (Fence.wide.inRound l) 0 Tryz.prog (Exit.then K (fun _ _ _=>False)) { tmps:=(#[15,16].zip #[Value.int .i64 x.1,x.2]).foldl (fun t (p,v)=>t.setIfInBounds p v) a.tmps,defers:=[] } W:=by
 have hsz:=ha.size
 rw [eD]
 refine FL (.inr ⟨⟨l,rfl⟩,fun ⟨_,_,h⟩=>h,fun j o ho=>?_⟩) ?_
 ·cases j with
  | zero=>simp at ho;subst ho;unfold Er;rw [Fl.1]
  | succ j=>simp at ho
 ·show wpList _ _ _ [X2] _ _
  unfold wpList
  rw [if_pos (by simp [Region.wanted,Fl.2.2])]
  refine .inl (An (v:=x.2) (w':=W) ?_ ?_)
  ·simp [execOp,Fl.1,Act.eval,hsz]
  ·refine h _ rfl ⟨by simp [Act.put,Fl.2.1,hsz],?_,?_,?_⟩ ?_
   ·rw [<-ha.t3];simp [Act.put,Fl.2.1,Array.getD_eq_getD_getElem?,Array.getElem?_setIfInBounds]
   ·rw [<-ha.t4];simp [Act.put,Fl.2.1,Array.getD_eq_getD_getElem?,Array.getElem?_setIfInBounds]
   ·rw [<-ha.t5];simp [Act.put,Fl.2.1,Array.getD_eq_getD_getElem?,Array.getElem?_setIfInBounds]
   ·simp [Act.put,Fl.2.1,Array.getD_eq_getD_getElem?,Array.getElem?_setIfInBounds,hsz]
theorem TG {fn:Func} (hres:fn.results.toList=[.cell 4 111,.cell 5 4]) {W:World} {D:Nat->Prop} {b3 b4 b5:Nat} {name:List UInt8} {p:En.Dop.CD} {b:Bool} (h:JR W D b3 b4 b5 name p b) {a:Act} (hd:a.defers=[]) (hsz:a.tmps.size=26)
  (h4:a.tmps.getD 4 undef=.pointer (some ⟨b4,0,none⟩)) (h5:a.tmps.getD 5 undef=.pointer (some ⟨b5,0,none⟩)):
  (results fn a.tmps).run Tryz.prog W=.ok (.tuple #[.agg #[.int .i64 p.kind,.int .i64 p.n,.int .i64 p.BB],.bool b]) W:=by
 have hg:G W (AK (GP [(4,.ptr 1 0),(5,.ptr 2 0)] name p b).o (I4 b3 b4 b5)) D D (GP [(4,.ptr 1 0),(5,.ptr 2 0)] name p b) (· <3) (I4 b3 b4 b5) a W:=by
  refine ⟨hd,hsz,fun t v ht=>?_,fun t v ht=>?_,h.gh _⟩
  all_goals
   have ht:lk [(4,SV.ptr 1 0),(5,SV.ptr 2 0)] t=some v:=ht
   simp only [AI] at ht
   split at ht
   ·rename_i e;subst e;cases ht
    first
     | exact ⟨by show 4<26;omega,by show 1<3;omega⟩
     | (rw [h4];rfl)
   ·split at ht
    ·rename_i e;subst e;cases ht
     first
      | exact ⟨by show 5<26;omega,by show 2<3;omega⟩
      | (rw [h5];rfl)
    ·simp [AS] at ht
 have hr:La Tryz.tb (GP [(4,.ptr 1 0),(5,.ptr 2 0)] name p b) fn.results.toList=some [J4 p,.b b]:=by rw [hres];kernel_rfl
 have:=(H0 Tryz.AH hg hr).1
 rw [this]
 simp [Az,SV.den,AA,J4]
theorem RO {fn:Func} (hres:fn.results.toList=[.cell 4 111,.cell 5 4]) {W:World} {D:Nat->Prop} {b3 b4 b5 B:Nat} {name:List UInt8} {p:En.Dop.CD} {b:Bool} (h:JR W D b3 b4 b5 name p b) {a:Act} (hsz:a.tmps.size=26)
  (h4:a.tmps.getD 4 undef=.pointer (some ⟨b4,0,none⟩)) (h5:a.tmps.getD 5 undef=.pointer (some ⟨b5,0,none⟩)) (hK:W.heap[B]?=some (.deferred (some []))) (hB:B≠b3/\B≠b4/\B≠b5/\¬ D B) {R:Ending->World->Prop}
  (hR:R (.returned (.tuple #[.agg #[.int .i64 p.kind,.int .i64 p.n,.int .i64 p.BB],.bool b])) (W.putObj B (.deferred none))):LeavesInM Fence.wide 2 Tryz.prog fn a.tmps R [{ target:=.collected B,args:=#[] }] .returning W:=by
 refine ⟨by simp,.inl ⟨_,_,rfl,run_takeDeferred hK,?_⟩⟩
 have:=TG hres (h.putObj hB.1 hB.2.1 hB.2.2.1 hB.2.2.2 (.deferred none)) (a:={ a with defers:=[] }) rfl hsz h4 h5
 exact ⟨_,this,hR⟩
end Go.Proofs
namespace Go.Proofs
open Go Go.En Go.RowKit
theorem Qh (args:Array Value) (w:World):(callFunc 185 args).run Tryz.prog w=.ok (.enter 185 args) w:=Ck (by kernel_rfl)
theorem MY (vs:List Value):(iR vs).length=vs.length:=by simp [iR,upto]
theorem Zj {vs:List Value} {pre rest:List (Int×Value)} {x:Int×Value} (h:iR vs=pre++x::rest):pre.length<vs.length/\x.2=vs[vs.length -1 -pre.length]?.getD undef:=by
 have hl:=congrArg List.length h
 rw [MY,List.length_append,List.length_cons] at hl
 refine ⟨by omega,?_⟩
 have h2:=congrArg (fun l:List (Int×Value)=>l[pre.length]?) h
 simp only [iR,upto,List.getElem?_append_right (Nat.le_refl _),Nat.sub_self,List.getElem?_cons_zero,List.getElem?_map,List.getElem?_range (show pre.length<vs.length by omega),Option.map_some,Option.some.injEq] at h2
 rw [<-h2]
def mz (W:World) (ls:List (List (List UInt8×En.Dop.CD))) (name:List UInt8) (pre:List (Int×Value)) (W':World):Prop:=Zg W W'/\CZ name (ls.drop (ls.length -pre.length))=none
def nA (W:World) (D:Nat->Prop) (b3 b4 b5:Nat) (ls:List (List (List UInt8×En.Dop.CD))) (name:List UInt8) (c:Code) (_:List (Int×Value)) (W':World):Prop:=c=.ret/\ ∃ q,CZ name ls=some q/\JR W' D b3 b4 b5 name q true/\Fx W W' b3 b4 b5
theorem X9 {W:World} {D:Nat->Prop} {b3 b4 b5 Bs:Nat} {name:List UInt8} (h:JR W D b3 b4 b5 name En.Dop.d9 false) {ls:List (List (List UInt8×En.Dop.CD))} {vs:List Value} (hlen:vs.length=ls.length) (hsm:ls.length<9223372036854775807)
  (hm: ∀ (e:Nat) (m:List (List UInt8×En.Dop.CD)),ls[e]?=some m-> ∃ g,vs[e]?=some (Value.map (some g))/\En.MapAt En.Dop.D4 W D .str 9 true g m) (hrd: ∀ W',Zg W W'->cg Bs vs W') {a:Act} (hd:a.defers=[]) (ha:WQ a b3 b4 b5) (hfn:a.tmps.getD 14 undef=.func (.func 185) #[] #[.pointer (some ⟨Bs,0,none⟩)])
  {Q:Exit->Act->World->Prop}
  (hdone: ∀ W',Zg W W'->CZ name ls=none->W'.heap[W.heap.size]?=some (.deferred (some []))->Q .normal { a with defers:=[{ target:=.collected W.heap.size,args:=#[] }] } W')
  (hstop: ∀ q W',CZ name ls=some q->JR W' D b3 b4 b5 name q true->Fx W W' b3 b4 b5->W'.heap[W.heap.size]?=some (.deferred (some []))->Q .ret { a with defers:=[{ target:=.collected W.heap.size,args:=#[] }] } W'):
  (Code.rangeFunc (.tmp 14) #[15,16] jK hH).wpIn Fence.wide 2 Tryz.prog Q a W:=by
 have hb:=h.lt
 refine Kq (gf:=185) (lb:=#[.pointer (some ⟨Bs,0,none⟩)]) hfn Qh (Tryz.Zi Bs vs (by rw [hlen];exact hsm)) (fun _=>rfl)
  (mz W ls name) (nA W D b3 b4 b5 ls name) ?_ ?_ (fun pre W' hi=>hrd W' hi.1) ?_ (fun x a'=>a'.defers=[]/\WQ a' b3 b4 b5/\a'.tmps.getD 7 undef=x.2) ?_ ?_ ?_ ?_
 ·exact fun pre W' ob hi _=>⟨hi.1.putObj (by omega) ob,hi.2⟩
 ·rintro c pre W' ob ⟨hc,q,h1,h2,h3⟩ _
  exact ⟨hc,q,h1,h2.putObj (by omega) (by omega) (by omega) (fun hD=>by have:=h.C0 _ hD;omega) ob,h3.putObj (by omega) ob⟩
 ·intro ob ob'
  have hbl:Below W.heap.size W ((W.alloc ob).alloc ob'):=((Below.refl _ W).alloc (Nat.le_refl _) _).alloc (by simp) _
  exact ⟨⟨hbl.os,hbl.tape,hbl.output,hbl.size,hbl.block⟩,by simp [CZ]⟩
 ·intro l x W' K hK
  exact Vk ha fun a' h1 h2 h3=>hK a' ⟨h1,h2,h3⟩
 ·rintro pre x rest a' W' hxs hB ⟨hi,hno⟩ ⟨h1,h2,h3⟩
  obtain ⟨hlt,hx2⟩:=Zj hxs
  have he:ls.length -1 -pre.length<ls.length:=by omega
  obtain ⟨g,hg1,hg2⟩:=hm _ _ (List.getElem?_eq_getElem he)
  have hxg:x.2=.map (some g):=by rw [hx2,hlen,hg1];rfl
  have hM:En.MapAt En.Dop.D4 W' D .str 9 true g (ls[ls.length -1 -pre.length]):=hg2.Bo (hi.block g (by obtain ⟨es,e1,_⟩:=hg2;exact (Array.getElem?_eq_some_iff.1 e1).1)) (fun k hk=>hi.block k (h.C0 k hk)) fun _ h=>h
  have hstep:=TH (name:=name) (l:=ls) (k:=pre.length) (by omega) hno
  have hgd:ls.getD (ls.length -1 -pre.length) []=ls[ls.length -1 -pre.length]:=by simp [List.getD_eq_getElem?_getD,List.getElem?_eq_getElem he]
  rw [hgd] at hstep
  have hF:=h.at hi
  have hsame: ∀ W2,Fx W' W2 b3 b4 b5-> ∀ k,k=W.heap.size\/k=W.heap.size+1->W2.heap[k]?=W'.heap[k]?:=fun W2 hto k hk=>hto.block k (by omega) (by omega) (by omega) (by omega)
  refine YA (Q:=ME W.heap.size (mz W ls name) (nA W D b3 b4 b5 ls name) (pre++[x]) W') (fun _ _ _ h=>h) (fun ⟨_,_,h⟩=>h) hF hM h1 h2 (h3.trans hxg) ?_ ?_
  ·intro hmn a2 W2 k1 k2
   refine ⟨hsame W2 k2,⟨k2.os.trans hi.os,k2.tape.trans hi.tape,k2.output.trans hi.output,Nat.le_trans hi.size k2.size,fun k hk=>?_⟩,?_⟩
   ·by_cases e3:k=b3
    ·subst e3;rw [k1.h3,h.h3]
    ·by_cases e4:k=b4
     ·subst e4;rw [k1.h4,h.h4]
     ·by_cases e5:k=b5
      ·subst e5;rw [k1.h5,h.h5]
      ·exact (k2.block k (Nat.lt_of_lt_of_le hk hi.size) e3 e4 e5).trans (hi.block k hk)
   ·rw [List.length_append,List.length_singleton,hstep,hmn]
  ·intro q hq a2 W2 k1 k2
   refine ⟨hsame W2 k2,rfl,q,M9 _ _ (hstep.trans hq),k1,Fx.comp hi k2⟩
 ·rintro W' ⟨hi,hno⟩ hK
  rw [hd]
  refine hdone W' hi ?_ hK
  rw [MY,hlen,Nat.sub_self,List.drop_zero] at hno
  exact hno
 ·rintro c pre W' _ ⟨rfl,q,h1,h2,h3⟩ hK
  rw [hd]
  exact wpIn_ret (hstop q W' h1 h2 h3 hK)
theorem Vl {fn:Func} (hres:fn.results.toList=[.cell 4 111,.cell 5 4]) {W:World} {D:Nat->Prop} {b3 b4 b5 B:Nat} {name:List UInt8} {p:En.Dop.CD} {b:Bool} (h:JR W D b3 b4 b5 name p b) {a:Act} (hd:a.defers=[]) (ha:WQ a b3 b4 b5) (hK:W.heap[B]?=some (.deferred (some []))) (hB:B≠b3/\B≠b4/\B≠b5/\¬ D B) {R:Ending->World->Prop}
  (hR: ∀ W',JR W' D b3 b4 b5 name En.Dop.d9 false->Fx W W' b3 b4 b5->R (.returned (.tuple #[.agg #[.int .i64 0,.int .i64 0,.int .i64 0],.bool false])) (W'.putObj B (.deferred none))):
  lT.wpIn Fence.wide 0 Tryz.prog (LZ (bodyPostM Fence.wide 2 Tryz.prog fn R)) { a with defers:=[{ target:=.collected B,args:=#[] }] } W:=by
 refine wpIn_wide.2 ?_
 rw [eG]
 refine wp_seq (wp_region_list ?_)
 have hl:=Kj (Φ:=Fence.wide) (k:=[.ops X3 X3.toList]) (x:=[]) (Q:=fun e a' W'=>match e with
   | .normal=>a'.defers=[]/\a'.tmps.size=26/\a'.tmps.getD 4 undef=.pointer (some ⟨b4,0,none⟩)/\a'.tmps.getD 5 undef=.pointer (some ⟨b5,0,none⟩)/\JR W' D b3 b4 b5 name En.Dop.d9 false/\Fx W W' b3 b4 b5
   | _=>False) (eH name p b) (fun y hy=>by
    simp only [List.mem_cons,List.not_mem_nil,or_false] at hy
    subst hy;trivial) (fun _ _ _ _ _=>.inl rfl) (fun _ _ _ _ _ h=>h) h hd ha (fun t v ht=>by simp [AS] at ht) (fun a' W' h1 h2 h3 h4 h5 h6=>⟨h1,h2,h3,h4,h5,h6⟩)
 simp only [List.map_cons,List.map_nil,Be.it,after] at hl
 have hl2:=DE (ds:=[{ target:=.collected B,args:=#[] }]) (Q':=Exit.then (Code.ret.wp Tryz.prog (LZ (bodyPostM Fence.wide 2 Tryz.prog fn R))) (LZ (bodyPostM Fence.wide 2 Tryz.prog fn R))) ?_ (fun _ _ _ h=>h.elim) (fun ⟨_,_,h⟩=>h) hl
 ·rw [hd] at hl2;exact hl2
 ·rintro a' W' ⟨h1,h2,h3,h4,h5,h6⟩
  refine wp_ret ?_
  show LeavesInM _ _ _ _ _ _ _ _ _
  rw [h1]
  exact RO hres h5 (a:={ a' with defers:=[] }) h2 h3 h4 ((h6.block B (Array.getElem?_eq_some_iff.1 hK).1 hB.1 hB.2.1 hB.2.2.1).trans hK) hB (hR W' h5 h6)
end Go.Proofs
namespace Go.Proofs
open Go Go.En Go.RowKit
theorem Tryz.Dw.holds:Tryz.Dw.c.Holds Tryz.prog:=by
 obtain ⟨hE,hbod,hokB,fn,hf,hb,hn',hres⟩:=cE
 refine ⟨hbod,hokB,fun h=>(by cases h),fun x y hxy w D β vs o n he hg hon hn hiv=>?_⟩
 obtain ⟨hl,rfl⟩:=hxy
 have hl:(CK.names x.2.1).length<9223372036854775807:=of_decide_eq_true hl
 have hkp:BS En.Dop.D4 w (AK o β) D:=⟨hiv,fun k hk=>⟨hg.C0 k hk,fun ⟨i,b,hi,hik⟩=>hg.off i b k hi hik hk⟩⟩
 have he':En.Spec.enc (S:=En.Dop.D4) ⟨[.al 0 0,.fd .str],[CK.b0,CT.b1]⟩ (((),x.1.2.1,()),x.2) 2=(vs,o,n):=he
 have hlen:vs.length=2:=En.Spec.Aa he
 have hn16:n=16:=by
  have e:(En.Spec.enc (S:=En.Dop.D4) ⟨[.al 0 0,.fd .str],[CK.b0,CT.b1]⟩ (((),x.1.2.1,()),x.2) 2).2.2=16:=by kernel_rfl
  rw [he'] at e;exact e
 have ho:o=(En.Spec.enc (S:=En.Dop.D4) ⟨[.al 0 0,.fd .str],[CK.b0,CT.b1]⟩ (((),x.1.2.1,()),x.2) 2).2.1:=by rw [he']
 have ho8:lk o 8=some (.mr .str 9 true 62 (CK.names x.2.1)):=by rw [ho];kernel_rfl
 subst hn16
 refine VC.Ss (M:=0+3000) (bn:=16) hf hb hn' (by omega) hon hg ?_
 refine J3 hE hkp (fun _ _ _ _ _ h=>h) (k0:=[.code [] (AP Tryz.prog 129)]) (s0:=⟨Bj 0 vs,o,16,26⟩) (Nat.le_refl 16) rfl (fun z hz=>by
  simp only [List.mem_cons,List.not_mem_nil,or_false] at hz
  subst hz;rfl) ?_
 rw [Tryz.Dw.part x.1.2.1 ((),x.2) vs o 16 he']
 intro _ _ D1 β1 a W hβ1 hg1
 simp only [List.map_cons,List.map_nil,Be.it,after]
 -- the frame
 have hoi: ∀ i,i<16->lk (Zc x.1.2.1 o).o i=lk o i:=fun i hi=>by
  unfold Zc
  simp only [AI]
  rw [if_neg (by omega),if_neg (by omega),if_neg (by omega),if_neg (by omega)]
 have ho16: ∀ i b,lk o i=some b->i<16:=fun i b hi=>(hg.Bk i b hi).1
 obtain ⟨b3,hb3,hc3⟩:=hg1.gh.own 16 _ (show lk (Zc x.1.2.1 o).o 16=some (.AN 9 [.v (.string ⟨⟨x.1.2.1⟩⟩)]) from rfl)
 obtain ⟨b4,hb4,hc4⟩:=hg1.gh.own 17 _ (show lk (Zc x.1.2.1 o).o 17=some (.AN 111 [.v (.int .i64 0),.v (.int .i64 0),.v (.int .i64 0)]) from rfl)
 obtain ⟨b5,hb5,hc5⟩:=hg1.gh.own 18 _ (show lk (Zc x.1.2.1 o).o 18=some (.AN 4 [.v (.bool false)]) from rfl)
 obtain ⟨Bs,hBs,hcs⟩:=hg1.gh.own 19 _ (show lk (Zc x.1.2.1 o).o 19=some (.AN 63 [.tr 8]) from rfl)
 have hne: ∀ (i j:Nat) (c d:En.Own En.Dop.D4) (k l:Nat),lk (Zc x.1.2.1 o).o i=some c->lk (Zc x.1.2.1 o).o j=some d->(β1 i).b=some k->(β1 j).b=some l->i≠j->k≠l:=fun i j c d k l hi hj hk hl hij e=>hij (hg1.gh.inj i j c d k hi hj (Nm.Es hk) (Nm.Es (e▸hl)))
 have hF:JR W D1 b3 b4 b5 x.1.2.1 En.Dop.d9 false:=⟨by rw [hc3];simp [AA,SV.den],by rw [hc4];simp [AA,SV.den],by rw [hc5];simp [AA,SV.den],hne 16 17 _ _ _ _ rfl rfl hb3 hb4 (by decide),hne 16 18 _ _ _ _ rfl rfl hb3 hb5 (by decide),hne 17 18 _ _ _ _ rfl rfl hb4 hb5 (by decide),
  hg1.gh.off 16 _ b3 rfl (Nm.Es hb3),hg1.gh.off 17 _ b4 rfl (Nm.Es hb4),hg1.gh.off 18 _ b5 rfl (Nm.Es hb5),hg1.gh.C0,hg1.gh.inv hkp⟩
 have hA:WQ a b3 b4 b5:=by
  refine ⟨hg1.size,?_,?_,?_⟩
  ·rw [hg1.tmps 3 (.ptr 16 0) rfl];simp [SV.den,Nm.AN,hb3]
  ·rw [hg1.tmps 4 (.ptr 17 0) rfl];simp [SV.den,Nm.AN,hb4]
  ·rw [hg1.tmps 5 (.ptr 18 0) rfl];simp [SV.den,Nm.AN,hb5]
 -- the row
 obtain ⟨hlen8,vs8,hrow,hmr⟩:=hg1.gh.own 8 _ ((hoi 8 (by decide)).trans ho8)
 have hvl:vs8.length=(CK.names x.2.1).length:=by have:=hrow.1;omega
 have hBs':Bs<W.heap.size:=(Array.getElem?_eq_some_iff.1 hcs).1
 have hrd: ∀ W',Zg W W'->cg Bs vs8 W':=fun W' hi=>by
  have hcell:W'.cell? ⟨Bs,0,none⟩=some (.slice ((β1 8).b.map fun b=>⟨b,0,none⟩) vs8.length (β1 8).cap):=by
   rw [World.cell?_of_block (w:=W) (hi.block Bs hBs')]
   unfold World.cell?
   rw [hcs]
   simp [AA,SV.den,hlen8,hvl]
  rcases hrow.2 with ⟨_,h0⟩|⟨g,cap,cur,e1,_,e3,e4,_,e6,e7⟩
  ·refine .inl ⟨List.eq_nil_of_length_eq_zero (hvl.trans h0),_,_,by rw [hcell,hvl,h0]⟩
  ·refine .inr ⟨g,0,cap,?_,fun j hj=>?_⟩
   ·rw [hcell,hvl,<- e1]
   ·have hgl:g<W.heap.size:=(Array.getElem?_eq_some_iff.1 e3).1
    rw [World.cell?_of_block (w:=W) (hi.block g hgl)]
    unfold World.cell?
    rw [e3]
    have hj2:vs8[j]?=cur.toList[j]?:=by
     rw [<-e7,List.getElem?_take,if_pos (by omega)]
    have hjc:j<cur.size:=by omega
    simp [hj2,Array.getElem?_eq_getElem hjc]
 have hm8: ∀ (e:Nat) (m:List (List UInt8×En.Dop.CD)),(CK.names x.2.1)[e]?=some m-> ∃ g,vs8[e]?=some (Value.map (some g))/\En.MapAt En.Dop.D4 W D1 .str 9 true g m:=fun e m hem=>by
  obtain ⟨g,c,_,k1,k2⟩:=hmr.cell e m hem
  exact ⟨g,k1,k2⟩
 -- what is left
 have hout: ∀ W',Fx W W' b3 b4 b5->GH w (AK o β) D D1 o (· <16) β1 (W'.putObj W.heap.size (.deferred none)):=fun W' hto=>by
  have hg2:GH w (AK o β) D D1 o (· <16) β1 W:=GH.part (o':=o) (N':=(· <16)) hg1.gh (fun i b hi=>(hoi i (ho16 i b hi)).trans hi) hg.Bk
  refine GH.same (X:=fun k=>k=b3\/k=b4\/k=b5\/W.heap.size<=k) hg2 (fun k hk=>?_) (fun k hk hX=>?_) hto.os hto.tape hto.output (by simpa [World.putObj] using hto.size)
  ·have frame: ∀ j c (l:Nat),16<=j->lk (Zc x.1.2.1 o).o j=some c->(β1 j).b=some l->(∀ i b,lk o i=some b->¬ (β1 i).has l)/\¬ D1 l/\w.heap.size<=l:=fun j c l hj hjc hjl=>by
    have hno: ∀ i b,lk o i=some b->¬ (β1 i).has l:=fun i b hi hil=>by
     have hi16:=ho16 i b hi
     have:=hg1.gh.inj i j b c l ((hoi i hi16).trans hi) hjc hil (Nm.Es hjl)
     omega
    refine ⟨hno,hg1.gh.off j c l hjc (Nm.Es hjl),?_⟩
    rcases hg1.gh.fresh j c l hjc (Nm.Es hjl) with h1|⟨i,b,hi,hil⟩
    ·exact h1
    ·exact absurd (by rw [hβ1 i (ho16 i b hi)];exact hil) (hno i b hi)
   rcases hk with rfl|rfl|rfl|hk
   ·exact frame 16 _ _ (by decide) rfl hb3
   ·exact frame 17 _ _ (by decide) rfl hb4
   ·exact frame 18 _ _ (by decide) rfl hb5
   ·exact ⟨fun i b hi hik=>by have:=hg2.lt i b k hi hik;omega,fun hD=>by have:=hg2.C0 k hD;omega,Nat.le_trans hg2.fr.size hk⟩
  ·have h1:k≠b3:=fun e=>hX (.inl e)
   have h2:k≠b4:=fun e=>hX (.inr (.inl e))
   have h3:k≠b5:=fun e=>hX (.inr (.inr (.inl e)))
   exact (World.putObj_heap_other (by omega)).trans (hto.block k hk h1 h2 h3)
 have hpost: ∀ (q:En.Dop.CD) (b:Bool) W',(CZ x.1.2.1 (CK.names x.2.1)).getD En.Dop.d9=q->(CZ x.1.2.1 (CK.names x.2.1)).isSome=b->Fx W W' b3 b4 b5->
   Dm (S:=En.Dop.D4) Tryz.Dw.c (Tryz.Dw.R x) w D β o (.returned (.tuple #[.agg #[.int .i64 q.kind,.int .i64 q.n,.int .i64 q.BB],.bool b])) (W'.putObj W.heap.size (.deferred none)):=fun q b W' hq hbb hto=>by
  have e1:En.Spec.enc (S:=En.Dop.D4) ⟨[.st 9,.fd .bool],[CK.b0,CT.b1]⟩ ((q,b,()),x.2) 2=([.agg [.v (.int .i64 q.kind),.v (.int .i64 q.n),.v (.int .i64 q.BB)],.b b],(En.Spec.enc (S:=En.Dop.D4) ⟨[.al 0 0,.fd .str],[CK.b0,CT.b1]⟩ (((),x.1.2.1,()),x.2) 2).2.1,16):=by kernel_rfl
  rw [he'] at e1
  have hR:Tryz.Dw.R x=((q,b,()),x.2):=by unfold Tryz.Dw.R;rw [hq,hbb];rfl
  rw [hR]
  exact ⟨D1,β1,_,o,16,e1,by simp [Az,SV.den,AA],fun i hi=>hβ1 i (Nat.lt_of_lt_of_le hi (by decide)),hout W' hto,by simp [BR,SV.on],by decide⟩
 have hBn:W.heap.size≠b3/\W.heap.size≠b4/\W.heap.size≠b5/\¬ D1 W.heap.size:=by
  have:=hF.lt
  exact ⟨by omega,by omega,by omega,fun hD=>by have:=hF.C0 _ hD;omega⟩
 refine wpIn_wide.2 (wpIn_wide.1 (X9 hF hvl hl hm8 hrd hg1.defers hA ?_ ?_ ?_))
 ·rw [hg1.tmps 14 (.fn 185 [.ptr 19 0]) rfl]
  have A6:(β1 19).AN=Bs:=by unfold Nm.AN;rw [hBs];rfl
  simp only [SV.den,AA,ET (show Nat.ble 1000000 185=false from rfl),A6]
 ·intro W' hi hno hK
  simp only [after,Exit.inBlock]
  have hto0:Fx W W' b3 b4 b5:=⟨hi.os,hi.tape,hi.output,hi.size,fun k hk _ _ _=>hi.block k hk⟩
  refine Vl hres (hF.at hi) hg1.defers hA hK hBn fun W2 h1 h2=>?_
  have:=hpost En.Dop.d9 false W2 (by rw [hno];rfl) (by rw [hno];rfl) (Fx.comp hi h2)
  exact this
 ·intro q W' hq h1 h2 hK
  simp only [after,Exit.inBlock]
  show LeavesInM _ _ _ _ _ _ _ _ _
  exact RO hres h1 hA.size hA.t4 hA.t5 hK hBn (hpost q true W' (by rw [hq];rfl) (by rw [hq];rfl) h2)
end Go.Proofs
