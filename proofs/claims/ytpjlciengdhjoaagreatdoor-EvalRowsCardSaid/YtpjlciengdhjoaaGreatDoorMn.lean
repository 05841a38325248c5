/- core.look: a range over slices.Backward at maps, left by a return; as a contract. First part: the pieces. -/
import Derived.Test.YtpjlciengdhjoaaGreatDoorMm
import Derived.Test.YtpjlciengdhjoaaGreatDoorMh
set_option maxRecDepth 100000
namespace Go.Proofs
open Go Go.En Go.RowKit
def C6 (name:List UInt8):List (List (List UInt8×En.Dop.EB))->Option En.Dop.EB
 | []=>none
 | m::r=>match C6 name r with
  | some p=>some p
  | none=>AT m name
def Tryz.Dq.p:Aj:=⟨[],2,⟨[.al 0 0,.fd .str],[CK.b0,CT.b1]⟩,⟨[.st 9,.fd .bool],[CK.b0,CT.b1]⟩,false,[],[(178,[])]⟩
noncomputable def Tryz.Dq.E:Env En.Dop.D4:=AU Tryz.prog 145 Tryz.tb [] Tryz.Dq.p
theorem Tryz.Dq.ok:AH En.Dop.D4 Tryz.prog 145 Tryz.Dq.p=true:=by kernel_rfl
def Tryz.Dq.R (x:(Unit×List UInt8×Unit)×(CK×CT×Unit)):(En.Dop.EB×Bool×Unit)×(CK×CT×Unit):=
 (((C6 x.1.2.1 (CK.names x.2.1)).getD En.Dop.d9,(C6 x.1.2.1 (CK.names x.2.1)).isSome,()),x.2)
def Tryz.Dq.c:BU En.Dop.D4:=⟨145,Tryz.Dq.p.bn,Tryz.Dq.p.sp,Tryz.Dq.p.rs,Tryz.Dq.p.flat,.pre (fun x=>decide ((CK.names x.2.1).length<9223372036854775807)) Tryz.Dq.R⟩
noncomputable abbrev kJ:Code:=BJ (AY Tryz.prog 145) [0,0,1,0,1]
noncomputable abbrev iq:Code:=BJ (AY Tryz.prog 145) [1,0,1,0,1]
noncomputable abbrev mj:Code:=BJ (AY Tryz.prog 145) [1,1]
noncomputable def aA (name:List UInt8) (o:List (Nat×En.Own En.Dop.D4)):St En.Dop.D4:=
 ⟨[(0,.ptr 0 0),(1,.v (.string ⟨⟨name⟩⟩)),(3,.ptr 16 0),(4,.ptr 17 0),(5,.ptr 18 0),(10,.ptr 0 0),(11,.ptr 0 0),(12,.ptr 0 9),(13,.tr 8),(14,.fn 201 [.ptr 19 0])],
  (19,.AX 79 [.tr 8])::(18,.AX 4 [.v (.bool false)])::(17,.AX 127 [.v (.int .i64 0),.v (.int .i64 0),.v (.int .i64 0)])::(16,.AX 9 [.v (.string ⟨⟨name⟩⟩)])::o,20,26⟩
theorem Tryz.Dq.part (name:List UInt8) (x:En.Spec.D En.Dop.D4 ⟨[],[CK.b0,CT.b1]⟩) (vs:List SV) (o:List (Nat×En.Own En.Dop.D4)) (n:Nat) (h:En.Spec.enc (S:=En.Dop.D4) ⟨[.al 0 0,.fd .str],[CK.b0,CT.b1]⟩ (((),name,()),x.2) 2=(vs,o,n)):
  PG Tryz.Dq.E 3000 [.code [] (AY Tryz.prog 145)] ⟨Bx 0 vs,o,n,26⟩=.ret ([.code [0,1,0,1] (.rangeFunc (.tmp 14) #[15,16] kJ iq),.AX 0,.code [1,1] mj],aA name o):=by
 cases h
 kernel_rfl
end Go.Proofs
namespace Go.Proofs
open Go Go.En Go.RowKit Go.Shelf
attribute [local go_sem] Oper.semAt_some
def jO (zs:List Value):List (Int×Value):=upto (fun k=>((zs.length:Int) -1 -k,zs[zs.length -1 -k]?.getD undef)) zs.length
def dh (Bs:Nat) (zs:List Value) (W:World):Prop:=
 (zs=[]/\ ∃ a c,W.cell? ⟨Bs,0,none⟩=some (.slice a 0 c))\/ ∃ b off cap,W.cell? ⟨Bs,0,none⟩=some (.slice (some ⟨b,off,none⟩) zs.length cap)/\ ∀ j,j<zs.length->W.cell? ⟨b,off+j,none⟩=some (zs[j]?.getD undef)
set_option maxRecDepth 100000 in
set_option maxHeartbeats 4000000 in
theorem Tryz.aI (Bs:Nat) (zs:List Value) (hz:zs.length<9223372036854775807):Iter Tryz.prog 201 #[.pointer (some ⟨Bs,0,none⟩)] (fun x:Int×Value=>#[Value.int .i64 x.1,x.2]) (jO zs) (dh Bs zs):=by
 intro l J Jx W hRd hY h0
 refine callsIn_of_wp Tryz.func201 rfl trivial ?_ rfl
 simp only [Tryz.ntmps201,List.size_toArray,List.length_cons,List.length_nil,Nat.reduceAdd,Nat.reduceSub,Array.replicate_succ,Array.replicate_zero,List.push_toArray,List.append_toArray,List.nil_append,List.cons_append]
 obtain ⟨a,c,hBs⟩: ∃ a c,W.cell? ⟨Bs,0,none⟩=some (.slice a zs.length c):=by
  rcases hRd _ _ h0 with ⟨rfl,a,c,h⟩|⟨b,off,cap,h,_⟩
  ·exact ⟨a,c,h⟩
  ·exact ⟨_,cap,h⟩
 gi_wp2
 gi_loopw [3] (fun i wr=> ∃ k:Nat,k<=zs.length/\i=.int .i64 ((zs.length:Int) -1 -k)/\J (upto (fun k=>((zs.length:Int) -1 -k,zs[zs.length -1 -k]?.getD undef)) k) wr)
  (fun i _=>(intOf i+1).toNat)
 case atStart=>exact ⟨0,Nat.zero_le _,by simp,h0⟩
 case round=>
  obtain ⟨k,hk,rfl,hJs⟩:=hrel
  by_cases hlt:k<zs.length
  ·obtain ⟨rest,hrest⟩:=Jm (fun k=>((zs.length:Int) -1 -k,zs[zs.length -1 -k]?.getD undef)) hlt
   obtain ⟨fn,tmps,assign,body,hy,hR⟩:=hY _ _ _ wr hrest hJs
   dsimp only at hy
   obtain ⟨b,off,cap,hb,hc⟩: ∃ b off cap,wr.cell? ⟨Bs,0,none⟩=some (.slice (some ⟨b,off,none⟩) zs.length cap)/\ ∀ j,j<zs.length->wr.cell? ⟨b,off+j,none⟩=some (zs[j]?.getD undef):=by
    rcases hRd _ _ hJs with ⟨h,_⟩|h
    ·rw [h] at hlt;simp at hlt
    ·exact h
   have hge:(0:Int)<=(zs.length:Int) -1 -k:=by omega
   have hlt2:(zs.length:Int) -1 -k<zs.length:=by omega
   have hcx:wr.cell? ⟨b,off+(zs.length -1 -k),none⟩=some (zs[zs.length -1 -k]?.getD undef):=hc _ (by omega)
   gi_wp2
   refine hR.mono ?_
   rintro e W3 (⟨rfl,hJ3⟩|⟨rfl,hJx3⟩)
   ·gi_wp2
    go_roundw
    case rel=>exact ⟨k+1,by omega,by simp;omega,by rw [Gn];exact hJ3⟩
    case measure=>simp [intOf];omega
   ·gi_wp2
    refine bodyPost_ret (results_none rfl _ _ _) rfl ?_
    exact ⟨⟨_,rfl⟩,.inr ⟨_,by rw [<-Gn];exact SX _ (by omega),hJx3⟩⟩
  ·obtain rfl:k=zs.length:=by omega
   gi_wp2
   go_end0
   exact ⟨⟨_,rfl⟩,.inl hJs⟩
end Go.Proofs
namespace Go.Proofs
open Go Go.En Go.RowKit
section
variable {S:As} {w0 w w':World} {F D0 D:Nat->Prop} {o o':List (Nat×En.Own S)} {N N':Nat->Prop} {β:Nat->Nm}
theorem GH.part (h:GH w0 F D0 D o N β w) (hs: ∀ i b,lk o' i=some b->lk o i=some b) (hw: ∀ i b,lk o' i=some b->N' i/\b.on N'):GH w0 F D0 D o' N' β w:=
 ⟨hw,fun i b hi=>h.own i b (hs i b hi),fun i j b c k hi hj=>h.inj i j b c k (hs i b hi) (hs j c hj),fun i b k hi=>h.fresh i b k (hs i b hi),fun i b k hi=>h.off i b k (hs i b hi),fun i b k hi=>h.lt i b k (hs i b hi),h.DL,h.KZ,h.fr,h.sub⟩
theorem GH.same {X:Nat->Prop} (h:GH w0 F D0 D o N β w) (hX: ∀ k,X k->(∀ i b,lk o i=some b->¬ (β i).has k)/\¬ D k/\w0.heap.size<=k) (hk: ∀ k,k<w.heap.size->¬ X k->w'.heap[k]?=w.heap[k]?) (h1:w'.os=w.os) (h2:w'.tape=w.tape) (h3:w'.output=w.output) (h4:w.heap.size<=w'.heap.size):GH w0 F D0 D o N β w':=
 ⟨h.By,fun i b hi=>Own.Dm (h.own i b hi) (fun k hik=>hk k (h.lt i b k hi hik) fun hx=>(hX k hx).1 i b hi hik) fun k hd=>hk k (h.DL k hd) fun hx=>(hX k hx).2.1 hd,h.inj,h.fresh,h.off,fun i b k hi hik=>dg (h.lt i b k hi hik) h4,fun k hd=>dg (h.DL k hd) h4,h.KZ,
  ⟨h1.trans h.fr.os,h2.trans h.fr.tape,h3.trans h.fr.output,Nat.le_trans h.fr.size h4,fun k hlt hF=>(hk k (dg hlt h.fr.size) fun hx=>Nat.not_lt_of_le (hX k hx).2.2 hlt).trans (h.fr.block k hlt hF)⟩,h.sub⟩
end
noncomputable def Rf:Array Oper:=Jd (BJ iq [0,0])
noncomputable def fQ:Code:=BJ iq [1,0]
theorem fR:iq=.block 1 (.seq (.region 3 Rf false) fQ):=by kernel_rfl
noncomputable def YV:Oper:=Rf.getD 0 default
noncomputable def YX:Oper:=Rf.getD 1 default
noncomputable def YZ:Oper:=Rf.getD 2 default
noncomputable def kN:List Oper:=Rf.toList.drop 3
theorem bJ:Rf.toList=YV::YX::YZ::kN:=by kernel_rfl
theorem P8:YV.op=.move (.tmp 7)/\YV.dst=some 18/\YV.guard=none:=⟨by kernel_rfl,by kernel_rfl,by kernel_rfl⟩
theorem P9:YX.op=.load 9 (.tmp 3)/\YX.dst=some 19/\YX.guard=none:=⟨by kernel_rfl,by kernel_rfl,by kernel_rfl⟩
theorem QA:YZ.op=.lookup 78 (.tmp 18) (.tmp 19) true/\YZ.dst=some 20/\YZ.guard=none:=⟨by kernel_rfl,by kernel_rfl,by kernel_rfl⟩
theorem kO:Nv (AY Tryz.prog 145)=true:=by kernel_rfl
theorem bI:Hk (AY Tryz.prog 145) [1,0,1,0,1,0,1]=some fQ:=by kernel_rfl
abbrev Z9:En.Spec:=⟨[],[⟨0,9,[.fd .str],false⟩,⟨1,127,[.st 9],false⟩,⟨2,4,[.fd .bool],false⟩]⟩
abbrev bK:En.Spec:=⟨[.al 1 0,.al 2 0],Z9.bx⟩
def P7 (r:Bool) (s:St En.Dop.D4):Tr (fun _=>Empty) (Bool×Z9.D En.Dop.D4):=match F9 s [4,5] with
 | some us=>match En.Spec.parse (S:=En.Dop.D4) bK true us s.o (RQ 3) 3 with
  | some (y,_)=>.ret (r,((),y.2))
  | none=>.stuck 52
 | none=>.stuck 53
def GW (t:List (Nat×SV)) (name:List UInt8) (p:En.Dop.EB) (b:Bool):St En.Dop.D4:=⟨t,(Z9.enc (S:=En.Dop.D4) ((),((name,()),(p,()),(b,()),())) 3).2.1,3,26⟩
abbrev G6:List (Nat×SV):=[(3,.ptr 0 0),(4,.ptr 1 0),(5,.ptr 2 0)]
def KR (p:En.Dop.EB):SV:=.agg [.v (.int .i64 p.kind),.v (.int .i64 p.n),.v (.int .i64 p.EA)]
noncomputable def Rh (k:List Bp) (s:St En.Dop.D4):Tr (fun _=>Empty) (Bool×Z9.D En.Dop.D4):=exec Tryz.Dq.E 3000 ⟨false,Tryz.Dq.E.dr⟩ (fun _ _ _=>.stuck 50) P7 false k s
noncomputable abbrev kK:List Bp:=[.ops Rf kN,.code [1,0,1,0,1,0,1] fQ,.AX 1]
theorem kP (name:List UInt8) (p q:En.Dop.EB) (b:Bool):Rh kK (GW (G6++[(20,.Gv [KR q,.v (.bool false)])]) name p b)=.ret (false,((),((name,()),(p,()),(b,()),()))):=by kernel_rfl
theorem fU (name:List UInt8) (p q:En.Dop.EB) (b:Bool):Rh kK (GW (G6++[(20,.Gv [KR q,.v (.bool true)])]) name p b)=.ret (true,((),((name,()),(q,()),(true,()),()))):=by kernel_rfl
noncomputable def YU:Array Oper:=Jd (BJ mj [0])
theorem fS:mj=.seq (.region 6 YU false) .ret:=by kernel_rfl
theorem fT (name:List UInt8) (p:En.Dop.EB) (b:Bool):Rh [.ops YU YU.toList] (GW G6 name p b)=.ret (false,((),((name,()),(En.Dop.d9,()),(false,()),()))):=by kernel_rfl
end Go.Proofs
namespace Go.Proofs
open Go Go.En Go.RowKit
structure Jp (W:World) (D:Nat->Prop) (b3 b4 b5:Nat) (name:List UInt8) (p:En.Dop.EB) (b:Bool):Prop where
 h3:W.heap[b3]?=some (.cells #[.string ⟨⟨name⟩⟩] 9 (0,0))
 h4:W.heap[b4]?=some (.cells #[.int .i64 p.kind,.int .i64 p.n,.int .i64 p.EA] 127 (0,0))
 h5:W.heap[b5]?=some (.cells #[.bool b] 4 (0,0))
 n34:b3≠b4
 n35:b3≠b5
 nj:b4≠b5
 d3:¬ D b3
 d4:¬ D b4
 d5:¬ D b5
 DL: ∀ k,D k->k<W.heap.size
 inv:En.Dop.D4.inv D W
def kM (b:Nat):Nm:=⟨some b,0,0,undef⟩
def JP (b3 b4 b5:Nat):Nat->Nm
 | 0=>kM b3
 | 1=>kM b4
 | _=>kM b5
theorem Ib {b k:Nat}:(kM b).has k↔k=b:=by
 constructor
 ·rintro (h|⟨c,cap,h⟩)
  ·exact (Option.some.inj h).symm
  ·rw [kM,Nm.BI] at h;cases h
 ·rintro rfl;exact .inl rfl
theorem bL (t:List (Nat×SV)) (name:List UInt8) (p:En.Dop.EB) (b:Bool):(GW t name p b).o=[(2,.AX 4 [.b b]),(1,.AX 127 [.v (.int .i64 p.kind),.v (.int .i64 p.n),.v (.int .i64 p.EA)]),(0,.AX 9 [.v (.string ⟨⟨name⟩⟩)])]:=by kernel_rfl
theorem KA {t:List (Nat×SV)} {name:List UInt8} {p:En.Dop.EB} {b:Bool} {i:Nat} {x:En.Own En.Dop.D4} (h:lk (GW t name p b).o i=some x):(i=0/\x=.AX 9 [.v (.string ⟨⟨name⟩⟩)])\/(i=1/\x=.AX 127 [.v (.int .i64 p.kind),.v (.int .i64 p.n),.v (.int .i64 p.EA)])\/(i=2/\x=.AX 4 [.b b]):=by
 rw [bL] at h
 simp only [AK] at h
 split at h
 ·rename_i e;cases h;exact .inr (.inr ⟨e.symm,rfl⟩)
 ·split at h
  ·rename_i e;cases h;exact .inr (.inl ⟨e.symm,rfl⟩)
  ·split at h
   ·rename_i e;cases h;exact .inl ⟨e.symm,rfl⟩
   ·simp [AW] at h
theorem Jp.gh {W:World} {D:Nat->Prop} {b3 b4 b5:Nat} {name:List UInt8} {p:En.Dop.EB} {b:Bool} (h:Jp W D b3 b4 b5 name p b) (t:List (Nat×SV)):GH W (AL (GW t name p b).o (JP b3 b4 b5)) D D (GW t name p b).o (· <3) (JP b3 b4 b5) W:=by
 have hlt: ∀ i x k,lk (GW t name p b).o i=some x->(JP b3 b4 b5 i).has k->k<W.heap.size/\¬ D k/\((i=0/\k=b3)\/(i=1/\k=b4)\/(i=2/\k=b5)):=by
  intro i x k hi hk
  rcases KA hi with ⟨rfl,rfl⟩|⟨rfl,rfl⟩|⟨rfl,rfl⟩
  ·have:=Ib.1 hk;subst this;exact ⟨(Array.getElem?_eq_some_iff.1 h.h3).1,h.d3,.inl ⟨rfl,rfl⟩⟩
  ·have:=Ib.1 hk;subst this;exact ⟨(Array.getElem?_eq_some_iff.1 h.h4).1,h.d4,.inr (.inl ⟨rfl,rfl⟩)⟩
  ·have:=Ib.1 hk;subst this;exact ⟨(Array.getElem?_eq_some_iff.1 h.h5).1,h.d5,.inr (.inr ⟨rfl,rfl⟩)⟩
 refine ⟨fun i x hi=>?_,fun i x hi=>?_,fun i j x y k hi hj hik hjk=>?_,fun i x k hi hk=>.inr ⟨i,x,hi,hk⟩,fun i x k hi hk=>(hlt i x k hi hk).2.1,fun i x k hi hk=>(hlt i x k hi hk).1,h.DL,fun k hk=>.inl hk,OX.refl _ _,fun _ h=>h⟩
 ·rcases KA hi with ⟨rfl,rfl⟩|⟨rfl,rfl⟩|⟨rfl,rfl⟩<;>exact ⟨by omega,by simp [Own.on,BZ,SV.on]⟩
 ·rcases KA hi with ⟨rfl,rfl⟩|⟨rfl,rfl⟩|⟨rfl,rfl⟩
  ·exact ⟨b3,rfl,by rw [h.h3];simp [AD,SV.den]⟩
  ·exact ⟨b4,rfl,by rw [h.h4];simp [AD,SV.den]⟩
  ·exact ⟨b5,rfl,by rw [h.h5];simp [AD,SV.den]⟩
 ·have h1:=(hlt i x k hi hik).2.2
  have h2:=(hlt j y k hj hjk).2.2
  have:=h.n34;have:=h.n35;have:=h.nj
  rcases h1 with ⟨rfl,rfl⟩|⟨rfl,rfl⟩|⟨rfl,rfl⟩<;>rcases h2 with ⟨rfl,h2⟩|⟨rfl,h2⟩|⟨rfl,h2⟩<;>first|rfl|(subst h2;contradiction)|exact absurd h2 ‹_› |exact absurd h2.symm ‹_›
structure F5 (W W':World) (b3 b4 b5:Nat):Prop where
 os:W'.os=W.os
 tape:W'.tape=W.tape
 output:W'.output=W.output
 size:W.heap.size<=W'.heap.size
 block: ∀ k,k<W.heap.size->k≠b3->k≠b4->k≠b5->W'.heap[k]?=W.heap[k]?
theorem dD:(Tryz.Dq.E).Ok Tryz.prog/\B9 Tryz.prog 145=true/\Tryz.Dq.p.sp.okB Tryz.Dq.p.bn=true/\ ∃ fn,Tryz.prog.funcs[145]?=some fn/\fn.body=some (AY Tryz.prog 145)/\fn.ntmps=26/\fn.results.toList=[.cell 4 127,.cell 5 4]:=by
 obtain ⟨h1,h2,h3,fn,h4,h5,h6,h7⟩:=G1 (p:=Tryz.Dq.p) Tryz.AJ Am Tryz.Dq.ok
 have e1:Cw Tryz.prog 145=26:=by kernel_rfl
 have e2:EL Tryz.prog 145=[.cell 4 127,.cell 5 4]:=by kernel_rfl
 exact ⟨h1,h2,h3,fn,h4,h5,h6.trans e1,h7.trans e2⟩
structure Wo (a:Act) (b3 b4 b5:Nat):Prop where
 size:a.tmps.size=26
 t3:a.tmps.getD 3 undef=.pointer (some ⟨b3,0,none⟩)
 t4:a.tmps.getD 4 undef=.pointer (some ⟨b4,0,none⟩)
 t5:a.tmps.getD 5 undef=.pointer (some ⟨b5,0,none⟩)
theorem Ri {W W':World} {D:Nat->Prop} {b3 b4 b5:Nat} {name:List UInt8} {p p':En.Dop.EB} {b b' r r':Bool} (h:Jp W D b3 b4 b5 name p b) {t:List (Nat×SV)} {s:St En.Dop.D4} {D':Nat->Prop} {β':Nat->Nm} {a:Act}
  (hl:(P7 r s).Holds (fun _ _=>False) (· =(r',(((),((name,()),(p',()),(b',()),())):Z9.D En.Dop.D4)))) (hβ: ∀ i,i<3->β' i=JP b3 b4 b5 i) (hg:G W (AL (GW t name p b).o (JP b3 b4 b5)) D D' s (· <s.n) β' a W'):
  r=r'/\Jp W' D b3 b4 b5 name p' b'/\F5 W W' b3 b4 b5/\a.tmps.getD 4 undef=.pointer (some ⟨b4,0,none⟩)/\a.tmps.getD 5 undef=.pointer (some ⟨b5,0,none⟩):=by
 unfold P7 at hl
 split at hl
 case h_2=>exact hl.elim
 rename_i us hus
 split at hl
 case h_2=>exact hl.elim
 rename_i y ps hp
 have hy:(r,(((),y.2):Z9.D En.Dop.D4))=(r',(((),((name,()),(p',()),(b',()),())):Z9.D En.Dop.D4)):=hl
 obtain ⟨hr,hy⟩:=Prod.mk.inj hy
 have hy2:y=(((),(),()),((name,()),(p',()),(b',()),())):=by
  have:=(Prod.mk.inj hy).2
  show (y.1,y.2)=_
  rw [this]
 refine ⟨hr,?_⟩
 clear hy
 subst hy2
 rcases he2:bK.enc (S:=En.Dop.D4) (((),(),()),((name,()),(p',()),(b',()),())) 3 with ⟨vs',o',n'⟩
 obtain ⟨β'',b1,b2,b3',_,b5',_,_,b8,_⟩:=En.Spec.CO hg.gh hp (by kernel_rfl) he2
 have ho:o'=(GW [] name p' b').o:=by
  have e:(bK.enc (S:=En.Dop.D4) (((),(),()),((name,()),(p',()),(b',()),())) 3).2.1=(GW [] name p' b').o:=by kernel_rfl
  rw [<-e,he2]
 have hvs:vs'=[.ptr 1 0,.ptr 2 0]:=by
  have e:(bK.enc (S:=En.Dop.D4) (((),(),()),((name,()),(p',()),(b',()),())) 3).1=[.ptr 1 0,.ptr 2 0]:=by kernel_rfl
  rw [<-e,he2]
 subst ho
 have hb: ∀ i,i<3->β'' i=JP b3 b4 b5 i:=fun i hi=>by rw [b1 i hi i (b8 i i (G7 hi)),hβ i hi]
 obtain ⟨k3,e3,f3⟩:=b2.own 0 (.AX 9 [.v (.string ⟨⟨name⟩⟩)]) (by rw [bL];rfl)
 obtain ⟨k4,e4,f4⟩:=b2.own 1 (.AX 127 [.v (.int .i64 p'.kind),.v (.int .i64 p'.n),.v (.int .i64 p'.EA)]) (by rw [bL];rfl)
 obtain ⟨k5,e5,f5⟩:=b2.own 2 (.AX 4 [.b b']) (by rw [bL];rfl)
 rw [hb 0 (by omega)] at e3;cases e3
 rw [hb 1 (by omega)] at e4;cases e4
 rw [hb 2 (by omega)] at e5;cases e5
 have hF: ∀ k,AL (GW t name p b).o (JP b3 b4 b5) k->k=b3\/k=b4\/k=b5:=by
  rintro k ⟨i,x,hi,hk⟩
  rcases KA hi with ⟨rfl,rfl⟩|⟨rfl,rfl⟩|⟨rfl,rfl⟩
  ·exact .inl (Ib.1 hk)
  ·exact .inr (.inl (Ib.1 hk))
  ·exact .inr (.inr (Ib.1 hk))
 have hto:F5 W W' b3 b4 b5:=⟨hg.gh.fr.os,hg.gh.fr.tape,hg.gh.fr.output,hg.gh.fr.size,fun k hk h3 h4 h5=>hg.gh.fr.block k hk fun hx=>by rcases hF k hx with e|e|e<;>contradiction⟩
 have hD: ∀ k,D k->W'.heap[k]?=W.heap[k]?:=fun k hk=>hto.block k (h.DL k hk) (fun e=>h.d3 (e▸hk)) (fun e=>h.d4 (e▸hk)) (fun e=>h.d5 (e▸hk))
 refine ⟨⟨by rw [f3];simp [AD,SV.den],by rw [f4];simp [AD,SV.den],by rw [f5];simp [AD,SV.den],h.n34,h.n35,h.nj,h.d3,h.d4,h.d5,fun k hk=>dg (h.DL k hk) hto.size,En.Dop.D4.FZ h.inv hD fun _ h=>h⟩,hto,?_⟩
 obtain ⟨t1,t2,t3⟩:=FN hg hus
 have hlen:us.length=2:=by have:=congrArg List.length b3';rw [AI,AI,hvs] at this;exact this
 rw [hvs] at b3'
 match us,hlen,b3',t3 with
 | [u1,u2],_,b3',t3=>
  simp only [AD,List.cons.injEq,and_true] at b3'
  refine ⟨(t3 0 4 u1 rfl rfl).2.trans (b3'.1.trans ?_),(t3 1 5 u2 rfl rfl).2.trans (b3'.2.trans ?_)⟩
  ·simp only [SV.den,hb 1 (by omega)];rfl
  ·simp only [SV.den,hb 2 (by omega)];rfl
theorem Kx {Φ:Fence} {Q:Exit->Act->World->Prop} {k:List Bp} {x:List (Nat×SV)} {name:List UInt8} {p p':En.Dop.EB} {b b' r:Bool} (hev:Rh k (GW (G6++x) name p b)=.ret (r,((),((name,()),(p',()),(b',()),()))))
  (hk: ∀ y∈k,y.ok (AY Tryz.prog 145)) (hcalm: ∀ a id ops d,Hk (AY Tryz.prog 145) a=some (.region id ops d)->En.Calm Φ Q ops) (hpan: ∀ c a d v w,Q (.panic c) (a.put d v) w->Q (.panic c) a w)
  {W:World} {D:Nat->Prop} {b3 b4 b5:Nat} (h:Jp W D b3 b4 b5 name p b) {a:Act} (hd:a.defers=[]) (ha:Wo a b3 b4 b5) (hx: ∀ t v,lk x t=some v->t<26/\v.on (· <3)/\a.tmps.getD t undef=v.den (JP b3 b4 b5))
  (hQ: ∀ a' W',a'.defers=[]->a'.tmps.size=26->a'.tmps.getD 4 undef=.pointer (some ⟨b4,0,none⟩)->a'.tmps.getD 5 undef=.pointer (some ⟨b5,0,none⟩)->Jp W' D b3 b4 b5 name p' b'->F5 W W' b3 b4 b5->Q (if r=true then .ret else .normal) a' W'):after Φ Tryz.prog 3000 (k.map Bp.it) Q .normal a W:=by
 obtain ⟨hE,_,_,_⟩:=dD
 have hkp:CF En.Dop.D4 W (AL (GW (G6++x) name p b).o (JP b3 b4 b5)) D:=⟨h.inv,fun k hk=>⟨h.DL k hk,fun ⟨i,y,hi,hik⟩=>(h.gh _).off i y k hi hik hk⟩⟩
 have hl:=AZ hE (ι:=fun _=>Empty) (ρ:=Bool×Z9.D En.Dop.D4) (Kc:=fun _ _=>False) (Kr:=(· =(r,(((),((name,()),(p',()),(b',()),())):Z9.D En.Dop.D4)))) (Φ:=Φ) (Q:=Q) (w0:=W) (F:=AL (GW (G6++x) name p b).o (JP b3 b4 b5)) (D0:=D) (bn:=3) (β0:=JP b3 b4 b5) (M:=0) (body:=AY Tryz.prog 145) (sz:=26) 3000 (fr:=⟨false,Tryz.Dq.E.dr⟩) (oc:=fun _ _ _=>.stuck 50) (or':=P7)
  ⟨hkp,hpan,hE.Oz,hcalm,fun _ _ _ _ _ _ h=>False.elim h,fun M s' hn hz hh=>?_,fun M k' s' hn hz hh=>?_⟩ false k (GW (G6++x) name p b) (Nat.le_refl 3) rfl hk (by
   have:(Rh k (GW (G6++x) name p b)).Holds (fun _ _=>False) (· =(r,(((),((name,()),(p',()),(b',()),())):Z9.D En.Dop.D4))):=by rw [hev];rfl
   exact this)
 ·have:=hl D (JP b3 b4 b5) a W (fun _ _=>rfl) ⟨hd,ha.size,fun t v ht=>?_,fun t v ht=>?_,h.gh _⟩
  ·rwa [Nat.zero_add] at this
  all_goals
   have ht:lk (G6++x) t=some v:=ht
   simp only [List.cons_append,List.nil_append,AK] at ht
   split at ht
   ·rename_i e;subst e;cases ht
    first
     | exact ⟨by show 3<26;omega,by show 0<3;omega⟩
     | (rw [ha.t3];rfl)
   ·split at ht
    ·rename_i e;subst e;cases ht
     first
      | exact ⟨by show 4<26;omega,by show 1<3;omega⟩
      | (rw [ha.t4];rfl)
    ·split at ht
     ·rename_i e;subst e;cases ht
      first
       | exact ⟨by show 5<26;omega,by show 2<3;omega⟩
       | (rw [ha.t5];rfl)
     ·first
       | exact ⟨(hx t v ht).1,(hx t v ht).2.1⟩
       | exact (hx t v ht).2.2
 ·intro D' β' a' w hβ hg
  obtain ⟨e,h1,h2,h3,h4⟩:=Ri h hh hβ hg
  have:=hQ a' w hg.defers (hg.size.trans hz) h3 h4 h1 h2
  rw [<-e] at this
  exact this
 ·refine VC.VH fun D' β' a' w hβ hg=>?_
  obtain ⟨e,h1,h2,h3,h4⟩:=Ri h hh hβ hg
  have:=hQ a' w hg.defers (hg.size.trans hz) h3 h4 h1 h2
  rw [<-e] at this
  exact this
end Go.Proofs
namespace Go.Proofs
open Go Go.En Go.RowKit
theorem Rj {Φ:Fence} {P:Program} {N:Nat} {c:Code} {Q:Exit->Act->World->Prop}:after Φ P N [.code c,.AX 1] Q=Exit.then (c.wpIn Φ 0 P (Exit.inBlock 1 Q)) (Exit.inBlock 1 Q):=by
 have h:after Φ P N [] Q=Q:=by funext e a w;simp only [after]
 have h2:after Φ P N [.AX 1] Q=Exit.inBlock 1 Q:=by funext e a w;simp only [after,h]
 funext e a w
 cases e<;>first
  | (simp only [after,Exit.then,h2];done)
  | simp only [after,Exit.then,h2,h,Exit.inBlock]
theorem WG {w:World} {D:Nat->Prop} {q:En.Dop.EB} {vs:List Value} (h:AG En.Dop.D4 w D (En.Dop.D4.enc 9 q) vs):vs=[.int .i64 q.kind,.int .i64 q.n,.int .i64 q.EA]:=by
 have h:AG En.Dop.D4 w D [.int .i64 q.kind,.int .i64 q.n,.int .i64 q.EA] vs:=h
 obtain ⟨v1,r1,rfl,h1,h⟩:=h.DK
 obtain ⟨v2,r2,rfl,h2,h⟩:=h.DK
 obtain ⟨v3,r3,rfl,h3,h⟩:=h.DK
 cases h1;cases h2;cases h3
 have:=h.1
 cases r3 with
 | nil=>rfl
 | cons _ _=>simp at this
theorem V4 {a:Act} {W:World} {D:Nat->Prop} {g:Nat} {m:List (List UInt8×En.Dop.EB)} {name:List UInt8} (hM:En.MapAt En.Dop.D4 W D .str 9 true g m) (em:a.eval (.tmp 18)=.map (some g)) (ek:a.eval (.tmp 19)=.string ⟨⟨name⟩⟩):
  (execOp a.eval YZ).run Tryz.prog W=.ok (.value (.tuple #[.agg #[.int .i64 ((AT m name).getD En.Dop.d9).kind,.int .i64 ((AT m name).getD En.Dop.d9).n,.int .i64 ((AT m name).getD En.Dop.d9).EA],.bool (AT m name).isSome])) W:=by
 have e0:(lk Tryz.tb 127).map (fun te=>(te.τ,ib te,te.agg))=some (some 9,true,true):=by kernel_rfl
 obtain ⟨te,h1,h2⟩:=Option.map_eq_some_iff.1 e0
 simp only [bi] at h2
 obtain ⟨h2,h3,h4⟩:=h2
 have hT:=Ag (d:=.map 9 127) Tryz.AJ (T:=78) (by kernel_rfl)
 simp only [TD.ok] at hT
 obtain ⟨hkd,hkk⟩:=J7 (κ:=.str) Tryz.AJ (kt:=9) (by kernel_rfl)
 have hoe:=(Tryz.AJ).get h1
 have hz:=IU (S:=En.Dop.D4) (D:=D) (w:=W) (hoe.Z6 9 h2).2.2
 obtain ⟨vs,k1,k2⟩:=No (S:=En.Dop.D4) (κ:=.str) hT hkd hkk hoe h3 h4.symm hz hM name QA.1 em (by rw [ek];rfl)
 have hm:Di (T:=En.Dop.D4.T) .str m name=AT m name:=by
  clear k1 k2 hM em ek
  induction m with
  | nil=>rfl
  | cons x r ih=>
   show (match I1 (T:=En.Dop.D4.T) .str name x.1 with|true=>some x.2|false=>Di .str r name)=(match I1 (T:=fun _=>Unit) .str name x.1 with|true=>some x.2|false=>Di .str r name)
   rw [ih]
   rfl
 rw [hm] at k1 k2
 have hd:En.Dop.D4.A4 9=En.Dop.d9:=rfl
 rw [hd] at k1
 have:=WG k1
 subst this
 simpa [Fx] using k2
theorem YW {a:Act} {W:World} {v:Value} (h:a.tmps.getD 7 undef=v):(execOp a.eval YV).run Tryz.prog W=.ok (.value v) W:=by
 subst h
 simp [execOp,P8.1,Act.eval]
theorem YY {a:Act} {W:World} {b3:Nat} {s:List UInt8} (h:a.tmps.getD 3 undef=.pointer (some ⟨b3,0,none⟩)) (hc:W.cell? ⟨b3,0,none⟩=some (.string ⟨⟨s⟩⟩)):(execOp a.eval YX).run Tryz.prog W=.ok (.value (.string ⟨⟨s⟩⟩)) W:=by
 have e0:(lk Tryz.tb 9).map (fun te=>te.agg)=some false:=by kernel_rfl
 obtain ⟨te,h1,h2⟩:=Option.map_eq_some_iff.1 e0
 have hl:=B2 ((Tryz.AJ).get h1) W b3 0 _ hc h2
 have e:a.eval (.tmp 3)=.pointer (some ⟨b3,0,none⟩):=h
 simp [execOp,P9.1,e,Instr.loadAt,Instr.sureAddr,hl]
theorem Gh {a:Act} {d t:Nat} {v:Value} (h:d≠t):(a.put (some d) v).tmps.getD t undef=a.tmps.getD t undef:=by
 simp [Act.put,lm,ge,h]
theorem KS {a:Act} {d:Nat} {v:Value} (h:d<a.tmps.size):(a.put (some d) v).tmps.getD d undef=v:=by
 simp [Act.put,lm,ge,h]
theorem IH {a:Act} {d:Option Nat} {v:Value}:(a.put d v).tmps.size=a.tmps.size:=by cases d<;>simp [Act.put]
theorem T3 {a:Act} {d:Option Nat} {v:Value}:(a.put d v).defers=a.defers:=by cases d<;>rfl
theorem Wo.put {a:Act} {b3 b4 b5:Nat} (h:Wo a b3 b4 b5) {d:Nat} {v:Value} (h3:d≠3) (h4:d≠4) (h5:d≠5):Wo (a.put (some d) v) b3 b4 b5:=
 ⟨IH.trans h.size,(Gh h3).trans h.t3,(Gh h4).trans h.t4,(Gh h5).trans h.t5⟩
theorem Yb {l:Nat} {Q:Exit->Act->World->Prop} (hQp: ∀ c a w,¬ Q (.panic c) a w) (hQo:¬ LetsOut Q) {W:World} {D:Nat->Prop} {b3 b4 b5 g:Nat} {name:List UInt8} {p:En.Dop.EB} {b:Bool} (h:Jp W D b3 b4 b5 name p b) {m:List (List UInt8×En.Dop.EB)} (hM:En.MapAt En.Dop.D4 W D .str 9 true g m)
  {a:Act} (hd:a.defers=[]) (ha:Wo a b3 b4 b5) (h7:a.tmps.getD 7 undef=.map (some g))
  (hno:AT m name=none-> ∀ a' W',Jp W' D b3 b4 b5 name p b->F5 W W' b3 b4 b5->Q .normal a' W')
  (hyes: ∀ q,AT m name=some q-> ∀ a' W',Jp W' D b3 b4 b5 name q true->F5 W W' b3 b4 b5->Q .ret a' W'):
  iq.wpIn (Fence.wide.inRound l) 0 Tryz.prog Q a W:=by
 rw [fR]
 have hcalm: ∀ (Q:Exit->Act->World->Prop),¬ LetsOut Q-> ∀ a id ops d,Hk (AY Tryz.prog 145) a=some (.region id ops d)->En.Calm (Fence.wide.inRound l) Q ops:=fun Q h a id ops d ha=>.inr ⟨⟨l,rfl⟩,h,PD kO ha⟩
 refine wpIn_block (wpIn_seq (FT (hcalm _ ?_ [0,0,1,0,1,0,1] 3 Rf false (by kernel_rfl)) ?_))
 ·rintro ⟨a',w',hh⟩;exact hQo ⟨a',w',hh⟩
 rw [<-Rj (N:=3000),bJ]
 have hc3:W.cell? ⟨b3,0,none⟩=some (.string ⟨⟨name⟩⟩):=by unfold World.cell?;rw [h.h3];rfl
 have hs:a.tmps.size=26:=ha.size
 unfold wpList
 rw [if_pos (by simp [Region.wanted,P8.2.2])]
 refine .inl (Aq (YW h7) ?_)
 rw [P8.2.1]
 have ha1:=ha.put (d:=18) (v:=.map (some g)) (by decide) (by decide) (by decide)
 unfold wpList
 rw [if_pos (by simp [Region.wanted,P9.2.2])]
 refine .inl (Aq (YY ha1.t3 hc3) ?_)
 rw [P9.2.1]
 have ha2:=ha1.put (d:=19) (v:=.string ⟨⟨name⟩⟩) (by decide) (by decide) (by decide)
 unfold wpList
 rw [if_pos (by simp [Region.wanted,QA.2.2])]
 refine .inl (Aq (V4 (name:=name) hM ?_ ?_) ?_)
 ·exact (Gh (by decide)).trans (KS (by rw [hs];decide))
 ·exact KS (by rw [IH,hs];decide)
 rw [QA.2.1]
 have ha3:=ha2.put (d:=20) (v:=.tuple #[.agg #[.int .i64 ((AT m name).getD En.Dop.d9).kind,.int .i64 ((AT m name).getD En.Dop.d9).n,.int .i64 ((AT m name).getD En.Dop.d9).EA],.bool (AT m name).isSome]) (by decide) (by decide) (by decide)
 have h20:=KS (a:=((a.put (some 18) (.map (some g))).put (some 19) (.string ⟨⟨name⟩⟩))) (d:=20) (v:=.tuple #[.agg #[.int .i64 ((AT m name).getD En.Dop.d9).kind,.int .i64 ((AT m name).getD En.Dop.d9).n,.int .i64 ((AT m name).getD En.Dop.d9).EA],.bool (AT m name).isSome]) (by rw [IH,IH,hs];decide)
 have hdf:(((a.put (some 18) (.map (some g))).put (some 19) (.string ⟨⟨name⟩⟩)).put (some 20) (.tuple #[.agg #[.int .i64 ((AT m name).getD En.Dop.d9).kind,.int .i64 ((AT m name).getD En.Dop.d9).n,.int .i64 ((AT m name).getD En.Dop.d9).EA],.bool (AT m name).isSome])).defers=[]:=by rw [T3,T3,T3,hd]
 have hk: ∀ y∈kK,y.ok (AY Tryz.prog 145):=fun y hy=>by
  simp only [List.mem_cons,List.not_mem_nil,or_false] at hy
  rcases hy with rfl|rfl|rfl
  ·trivial
  ·exact bI
  ·trivial
 have hx: ∀ (c:Bool),(AT m name).isSome=c-> ∀ t v,lk [(20,SV.Gv [KR ((AT m name).getD En.Dop.d9),.v (.bool c)])] t=some v->t<26/\v.on (· <3)/\(((a.put (some 18) (.map (some g))).put (some 19) (.string ⟨⟨name⟩⟩)).put (some 20) (.tuple #[.agg #[.int .i64 ((AT m name).getD En.Dop.d9).kind,.int .i64 ((AT m name).getD En.Dop.d9).n,.int .i64 ((AT m name).getD En.Dop.d9).EA],.bool (AT m name).isSome])).tmps.getD t undef=v.den (JP b3 b4 b5):=fun c hc t v ht=>by
  simp only [AK] at ht
  split at ht
  ·rename_i e;subst e;cases ht
   refine ⟨by decide,by simp [SV.on,BZ,KR],?_⟩
   rw [h20]
   simp [SV.den,AD,KR,hc]
  ·simp [AW] at ht
 cases hm:AT m name with
 | none=>
  have hx0:=hx false (by rw [hm];rfl)
  rw [hm] at hx0 ha3 hdf
  exact Kx (Φ:=Fence.wide.inRound l) (Q:=Q) (k:=kK) (x:=[(20,.Gv [KR En.Dop.d9,.v (.bool false)])]) (kP name p En.Dop.d9 b) hk (hcalm Q hQo) (fun c a d v w hh=>absurd hh (hQp _ _ _)) h hdf ha3 hx0 (fun a' W' _ _ _ _ h1 h2=>hno hm a' W' h1 h2)
 | some q=>
  have hx0:=hx true (by rw [hm];rfl)
  rw [hm] at hx0 ha3 hdf
  exact Kx (Φ:=Fence.wide.inRound l) (Q:=Q) (k:=kK) (x:=[(20,.Gv [KR q,.v (.bool true)])]) (fU name p q b) hk (hcalm Q hQo) (fun c a d v w hh=>absurd hh (hQp _ _ _)) h hdf ha3 hx0 (fun a' W' _ _ _ _ h1 h2=>hyes q hm a' W' h1 h2)
end Go.Proofs
namespace Go.Proofs
open Go Go.En Go.RowKit
theorem NW {name:List UInt8} {q:En.Dop.EB}: ∀ (l:List (List (List UInt8×En.Dop.EB))) (n:Nat),C6 name (l.drop n)=some q->C6 name l=some q
 | l,0,h=>by rw [List.drop_zero] at h;exact h
 | [],n+1,h=>by simp [C6] at h
 | m::r,n+1,h=>by
  rw [List.drop_succ_cons] at h
  have:=NW r n h
  simp only [C6,this]
theorem Th {name:List UInt8} {l:List (List (List UInt8×En.Dop.EB))} {k:Nat} (hk:k<l.length) (h:C6 name (l.drop (l.length -k))=none):C6 name (l.drop (l.length -(k+1)))=AT (l.getD (l.length -1 -k) []) name:=by
 have e:l.length -(k+1)=l.length -1 -k:=by omega
 have hlt:l.length -1 -k<l.length:=by omega
 have e2:l.length -1 -k+1=l.length -k:=by omega
 rw [e,List.drop_eq_getElem_cons hlt,e2]
 simp only [C6,h,lc,co hlt,Option.getD_some]
structure aE (W W':World):Prop where
 os:W'.os=W.os
 tape:W'.tape=W.tape
 output:W'.output=W.output
 size:W.heap.size<=W'.heap.size
 block: ∀ k,k<W.heap.size->W'.heap[k]?=W.heap[k]?
theorem aE.putObj {W W':World} (h:aE W W') {r:Nat} (hr:W.heap.size<=r) (o:Obj):aE W (W'.putObj r o):=
 ⟨h.os,h.tape,h.output,by simpa [World.putObj] using h.size,fun k hk=>(World.putObj_heap_other (by omega)).trans (h.block k hk)⟩
theorem Jp.move {W W':World} {D:Nat->Prop} {b3 b4 b5:Nat} {name:List UInt8} {p:En.Dop.EB} {b:Bool} (h:Jp W D b3 b4 b5 name p b) (hs:W.heap.size<=W'.heap.size) (hk: ∀ k,k=b3\/k=b4\/k=b5\/D k->W'.heap[k]?=W.heap[k]?):Jp W' D b3 b4 b5 name p b:=
 ⟨(hk b3 (.inl rfl)).trans h.h3,(hk b4 (.inr (.inl rfl))).trans h.h4,(hk b5 (.inr (.inr (.inl rfl)))).trans h.h5,h.n34,h.n35,h.nj,h.d3,h.d4,h.d5,fun k hd=>dg (h.DL k hd) hs,En.Dop.D4.FZ h.inv (fun k hd=>hk k (.inr (.inr (.inr hd)))) fun _ h=>h⟩
theorem Jp.lt {W:World} {D:Nat->Prop} {b3 b4 b5:Nat} {name:List UInt8} {p:En.Dop.EB} {b:Bool} (h:Jp W D b3 b4 b5 name p b):b3<W.heap.size/\b4<W.heap.size/\b5<W.heap.size:=
 ⟨(Array.getElem?_eq_some_iff.1 h.h3).1,(Array.getElem?_eq_some_iff.1 h.h4).1,(Array.getElem?_eq_some_iff.1 h.h5).1⟩
theorem Jp.at {W W':World} {D:Nat->Prop} {b3 b4 b5:Nat} {name:List UInt8} {p:En.Dop.EB} {b:Bool} (h:Jp W D b3 b4 b5 name p b) (hi:aE W W'):Jp W' D b3 b4 b5 name p b:=
 h.move hi.size fun k hk=>hi.block k (by have:=h.lt;rcases hk with rfl|rfl|rfl|hk<;>first|omega|exact h.DL _ hk)
theorem Jp.putObj {W:World} {D:Nat->Prop} {b3 b4 b5:Nat} {name:List UInt8} {p:En.Dop.EB} {b:Bool} (h:Jp W D b3 b4 b5 name p b) {r:Nat} (h3:r≠b3) (h4:r≠b4) (h5:r≠b5) (hD:¬ D r) (o:Obj):Jp (W.putObj r o) D b3 b4 b5 name p b:=
 h.move (by simp [World.putObj]) fun k hk=>World.putObj_heap_other fun e=>by rcases hk with rfl|rfl|rfl|hk<;>first|exact h3 e.symm|exact h4 e.symm|exact h5 e.symm|exact hD (e▸hk)
theorem F5.comp {W W1 W2:World} {b3 b4 b5:Nat} (h:aE W W1) (k:F5 W1 W2 b3 b4 b5):F5 W W2 b3 b4 b5:=
 ⟨k.os.trans h.os,k.tape.trans h.tape,k.output.trans h.output,Nat.le_trans h.size k.size,fun x hx h3 h4 h5=>(k.block x (dg hx h.size) h3 h4 h5).trans (h.block x hx)⟩
theorem F5.putObj {W W':World} {b3 b4 b5:Nat} (h:F5 W W' b3 b4 b5) {r:Nat} (hr:W.heap.size<=r) (o:Obj):F5 W (W'.putObj r o) b3 b4 b5:=
 ⟨h.os,h.tape,h.output,by simpa [World.putObj] using h.size,fun k hk h3 h4 h5=>(World.putObj_heap_other (by omega)).trans (h.block k hk h3 h4 h5)⟩
noncomputable def YT:Oper:=match kJ with
 | .region _ ⟨o::_⟩ _=>o
 | _=>default
theorem fP:kJ=.region 2 #[YT] false:=by kernel_rfl
theorem Fv:YT.op=.assign (.tmp 16)/\YT.dst=some 7/\YT.guard=none:=⟨by kernel_rfl,by kernel_rfl,by kernel_rfl⟩
theorem V2 {l:Nat} {x:Int×Value} {W:World} {a:Act} {K:Act->World->Prop} {b3 b4 b5:Nat} (ha:Wo a b3 b4 b5) (h: ∀ a':Act,a'.defers=[]->Wo a' b3 b4 b5->a'.tmps.getD 7 undef=x.2->K a' W):
  kJ.wpIn (Fence.wide.inRound l) 0 Tryz.prog (Exit.then K (fun _ _ _=>False)) { tmps:=(#[15,16].zip #[Value.int .i64 x.1,x.2]).foldl (fun t (p,v)=>t.setIfInBounds p v) a.tmps,defers:=[] } W:=by
 have hsz:=ha.size
 rw [fP]
 refine FT (.inr ⟨⟨l,rfl⟩,fun ⟨_,_,h⟩=>h,fun j o ho=>?_⟩) ?_
 ·cases j with
  | zero=>simp at ho;subst ho;unfold E5;rw [Fv.1]
  | succ j=>simp at ho
 ·show wpList _ _ _ [YT] _ _
  unfold wpList
  rw [if_pos (by simp [Region.wanted,Fv.2.2])]
  refine .inl (Aq (v:=x.2) (w':=W) ?_ ?_)
  ·simp [execOp,Fv.1,Act.eval,hsz]
  ·refine h _ rfl ⟨by simp [Act.put,Fv.2.1,hsz],?_,?_,?_⟩ ?_
   ·rw [<-ha.t3];simp [Act.put,Fv.2.1,lm,ge]
   ·rw [<-ha.t4];simp [Act.put,Fv.2.1,lm,ge]
   ·rw [<-ha.t5];simp [Act.put,Fv.2.1,lm,ge]
   ·simp [Act.put,Fv.2.1,lm,ge,hsz]
theorem Tg {fn:Func} (hres:fn.results.toList=[.cell 4 127,.cell 5 4]) {W:World} {D:Nat->Prop} {b3 b4 b5:Nat} {name:List UInt8} {p:En.Dop.EB} {b:Bool} (h:Jp W D b3 b4 b5 name p b) {a:Act} (hd:a.defers=[]) (hsz:a.tmps.size=26)
  (h4:a.tmps.getD 4 undef=.pointer (some ⟨b4,0,none⟩)) (h5:a.tmps.getD 5 undef=.pointer (some ⟨b5,0,none⟩)):
  (results fn a.tmps).run Tryz.prog W=.ok (.tuple #[.agg #[.int .i64 p.kind,.int .i64 p.n,.int .i64 p.EA],.bool b]) W:=by
 have hg:G W (AL (GW [(4,.ptr 1 0),(5,.ptr 2 0)] name p b).o (JP b3 b4 b5)) D D (GW [(4,.ptr 1 0),(5,.ptr 2 0)] name p b) (· <3) (JP b3 b4 b5) a W:=by
  refine ⟨hd,hsz,fun t v ht=>?_,fun t v ht=>?_,h.gh _⟩
  all_goals
   have ht:lk [(4,SV.ptr 1 0),(5,SV.ptr 2 0)] t=some v:=ht
   simp only [AK] at ht
   split at ht
   ·rename_i e;subst e;cases ht
    first
     | exact ⟨by show 4<26;omega,by show 1<3;omega⟩
     | (rw [h4];rfl)
   ·split at ht
    ·rename_i e;subst e;cases ht
     first
      | exact ⟨by show 5<26;omega,by show 2<3;omega⟩
      | (rw [h5];rfl)
    ·simp [AW] at ht
 have hr:Lw Tryz.tb (GW [(4,.ptr 1 0),(5,.ptr 2 0)] name p b) fn.results.toList=some [KR p,.b b]:=by rw [hres];kernel_rfl
 have:=(IK Tryz.AJ hg hr).1
 rw [this]
 simp [Ay,SV.den,AD,KR]
theorem Rk {fn:Func} (hres:fn.results.toList=[.cell 4 127,.cell 5 4]) {W:World} {D:Nat->Prop} {b3 b4 b5 B:Nat} {name:List UInt8} {p:En.Dop.EB} {b:Bool} (h:Jp W D b3 b4 b5 name p b) {a:Act} (hsz:a.tmps.size=26)
  (h4:a.tmps.getD 4 undef=.pointer (some ⟨b4,0,none⟩)) (h5:a.tmps.getD 5 undef=.pointer (some ⟨b5,0,none⟩)) (hK:W.heap[B]?=some (.deferred (some []))) (hB:B≠b3/\B≠b4/\B≠b5/\¬ D B) {R:Ending->World->Prop}
  (hR:R (.returned (.tuple #[.agg #[.int .i64 p.kind,.int .i64 p.n,.int .i64 p.EA],.bool b])) (W.putObj B (.deferred none))):LeavesInM Fence.wide 2 Tryz.prog fn a.tmps R [{ target:=.collected B,args:=#[] }] .returning W:=by
 refine ⟨by simp,.inl ⟨_,_,rfl,run_takeDeferred hK,?_⟩⟩
 have:=Tg hres (h.putObj hB.1 hB.2.1 hB.2.2.1 hB.2.2.2 (.deferred none)) (a:={ a with defers:=[] }) rfl hsz h4 h5
 exact ⟨_,this,hR⟩
end Go.Proofs
namespace Go.Proofs
open Go Go.En Go.RowKit
theorem Q6 (args:Array Value) (w:World):(callFunc 201 args).run Tryz.prog w=.ok (.enter 201 args) w:=Cv (by kernel_rfl)
theorem Mv (vs:List Value):(jO vs).length=vs.length:=by simp [jO,upto]
theorem aJ {vs:List Value} {pre rest:List (Int×Value)} {x:Int×Value} (h:jO vs=pre++x::rest):pre.length<vs.length/\x.2=vs[vs.length -1 -pre.length]?.getD undef:=by
 have hl:=congrArg List.length h
 rw [Mv,List.length_append,List.length_cons] at hl
 refine ⟨by omega,?_⟩
 have h2:=congrArg (fun l:List (Int×Value)=>l[pre.length]?) h
 simp only [jO,upto,kw (Nat.le_refl _),Nat.sub_self,List.getElem?_cons_zero,List.getElem?_map,List.getElem?_range (show pre.length<vs.length by omega),Option.map_some,am] at h2
 rw [<-h2]
def ot (W:World) (ls:List (List (List UInt8×En.Dop.EB))) (name:List UInt8) (pre:List (Int×Value)) (W':World):Prop:=aE W W'/\C6 name (ls.drop (ls.length -pre.length))=none
def ou (W:World) (D:Nat->Prop) (b3 b4 b5:Nat) (ls:List (List (List UInt8×En.Dop.EB))) (name:List UInt8) (c:Code) (_:List (Int×Value)) (W':World):Prop:=c=.ret/\ ∃ q,C6 name ls=some q/\Jp W' D b3 b4 b5 name q true/\F5 W W' b3 b4 b5
theorem Ya {W:World} {D:Nat->Prop} {b3 b4 b5 Bs:Nat} {name:List UInt8} (h:Jp W D b3 b4 b5 name En.Dop.d9 false) {ls:List (List (List UInt8×En.Dop.EB))} {vs:List Value} (hlen:vs.length=ls.length) (hsm:ls.length<9223372036854775807)
  (hm: ∀ (e:Nat) (m:List (List UInt8×En.Dop.EB)),ls[e]?=some m-> ∃ g,vs[e]?=some (Value.map (some g))/\En.MapAt En.Dop.D4 W D .str 9 true g m) (hrd: ∀ W',aE W W'->dh Bs vs W') {a:Act} (hd:a.defers=[]) (ha:Wo a b3 b4 b5) (hfn:a.tmps.getD 14 undef=.func (.func 201) #[] #[.pointer (some ⟨Bs,0,none⟩)])
  {Q:Exit->Act->World->Prop}
  (hdone: ∀ W',aE W W'->C6 name ls=none->W'.heap[W.heap.size]?=some (.deferred (some []))->Q .normal { a with defers:=[{ target:=.collected W.heap.size,args:=#[] }] } W')
  (hstop: ∀ q W',C6 name ls=some q->Jp W' D b3 b4 b5 name q true->F5 W W' b3 b4 b5->W'.heap[W.heap.size]?=some (.deferred (some []))->Q .ret { a with defers:=[{ target:=.collected W.heap.size,args:=#[] }] } W'):
  (Code.rangeFunc (.tmp 14) #[15,16] kJ iq).wpIn Fence.wide 2 Tryz.prog Q a W:=by
 have hb:=h.lt
 refine LA (gf:=201) (lb:=#[.pointer (some ⟨Bs,0,none⟩)]) hfn Q6 (Tryz.aI Bs vs (by rw [hlen];exact hsm)) (fun _=>rfl)
  (ot W ls name) (ou W D b3 b4 b5 ls name) ?_ ?_ (fun pre W' hi=>hrd W' hi.1) ?_ (fun x a'=>a'.defers=[]/\Wo a' b3 b4 b5/\a'.tmps.getD 7 undef=x.2) ?_ ?_ ?_ ?_
 ·exact fun pre W' ob hi _=>⟨hi.1.putObj (by omega) ob,hi.2⟩
 ·rintro c pre W' ob ⟨hc,q,h1,h2,h3⟩ _
  exact ⟨hc,q,h1,h2.putObj (by omega) (by omega) (by omega) (fun hD=>by have:=h.DL _ hD;omega) ob,h3.putObj (by omega) ob⟩
 ·intro ob ob'
  have hbl:Below W.heap.size W ((W.alloc ob).alloc ob'):=((Below.refl _ W).alloc (Nat.le_refl _) _).alloc (by simp) _
  exact ⟨⟨hbl.os,hbl.tape,hbl.output,hbl.size,hbl.block⟩,by simp [C6]⟩
 ·intro l x W' K hK
  exact V2 ha fun a' h1 h2 h3=>hK a' ⟨h1,h2,h3⟩
 ·rintro pre x rest a' W' hxs hB ⟨hi,hno⟩ ⟨h1,h2,h3⟩
  obtain ⟨hlt,hx2⟩:=aJ hxs
  have he:ls.length -1 -pre.length<ls.length:=by omega
  obtain ⟨g,hg1,hg2⟩:=hm _ _ (co he)
  have hxg:x.2=.map (some g):=by rw [hx2,hlen,hg1];rfl
  have hM:En.MapAt En.Dop.D4 W' D .str 9 true g (ls[ls.length -1 -pre.length]):=hg2.B4 (hi.block g (by obtain ⟨es,e1,_⟩:=hg2;exact (Array.getElem?_eq_some_iff.1 e1).1)) (fun k hk=>hi.block k (h.DL k hk)) fun _ h=>h
  have hstep:=Th (name:=name) (l:=ls) (k:=pre.length) (by omega) hno
  have hgd:ls.getD (ls.length -1 -pre.length) []=ls[ls.length -1 -pre.length]:=by simp [lc,co he]
  rw [hgd] at hstep
  have hF:=h.at hi
  have hsame: ∀ W2,F5 W' W2 b3 b4 b5-> ∀ k,k=W.heap.size\/k=W.heap.size+1->W2.heap[k]?=W'.heap[k]?:=fun W2 hto k hk=>hto.block k (by omega) (by omega) (by omega) (by omega)
  refine Yb (Q:=Mc W.heap.size (ot W ls name) (ou W D b3 b4 b5 ls name) (pre++[x]) W') (fun _ _ _ h=>h) (fun ⟨_,_,h⟩=>h) hF hM h1 h2 (h3.trans hxg) ?_ ?_
  ·intro hmn a2 W2 k1 k2
   refine ⟨hsame W2 k2,⟨k2.os.trans hi.os,k2.tape.trans hi.tape,k2.output.trans hi.output,Nat.le_trans hi.size k2.size,fun k hk=>?_⟩,?_⟩
   ·by_cases e3:k=b3
    ·subst e3;rw [k1.h3,h.h3]
    ·by_cases e4:k=b4
     ·subst e4;rw [k1.h4,h.h4]
     ·by_cases e5:k=b5
      ·subst e5;rw [k1.h5,h.h5]
      ·exact (k2.block k (dg hk hi.size) e3 e4 e5).trans (hi.block k hk)
   ·rw [List.length_append,List.length_singleton,hstep,hmn]
  ·intro q hq a2 W2 k1 k2
   refine ⟨hsame W2 k2,rfl,q,NW _ _ (hstep.trans hq),k1,F5.comp hi k2⟩
 ·rintro W' ⟨hi,hno⟩ hK
  rw [hd]
  refine hdone W' hi ?_ hK
  rw [Mv,hlen,Nat.sub_self,List.drop_zero] at hno
  exact hno
 ·rintro c pre W' _ ⟨rfl,q,h1,h2,h3⟩ hK
  rw [hd]
  exact wpIn_ret (hstop q W' h1 h2 h3 hK)
theorem V3 {fn:Func} (hres:fn.results.toList=[.cell 4 127,.cell 5 4]) {W:World} {D:Nat->Prop} {b3 b4 b5 B:Nat} {name:List UInt8} {p:En.Dop.EB} {b:Bool} (h:Jp W D b3 b4 b5 name p b) {a:Act} (hd:a.defers=[]) (ha:Wo a b3 b4 b5) (hK:W.heap[B]?=some (.deferred (some []))) (hB:B≠b3/\B≠b4/\B≠b5/\¬ D B) {R:Ending->World->Prop}
  (hR: ∀ W',Jp W' D b3 b4 b5 name En.Dop.d9 false->F5 W W' b3 b4 b5->R (.returned (.tuple #[.agg #[.int .i64 0,.int .i64 0,.int .i64 0],.bool false])) (W'.putObj B (.deferred none))):
  mj.wpIn Fence.wide 0 Tryz.prog (Lv (bodyPostM Fence.wide 2 Tryz.prog fn R)) { a with defers:=[{ target:=.collected B,args:=#[] }] } W:=by
 refine wpIn_wide.2 ?_
 rw [fS]
 refine wp_seq (wp_region_list ?_)
 have hl:=Kx (Φ:=Fence.wide) (k:=[.ops YU YU.toList]) (x:=[]) (Q:=fun e a' W'=>match e with
   | .normal=>a'.defers=[]/\a'.tmps.size=26/\a'.tmps.getD 4 undef=.pointer (some ⟨b4,0,none⟩)/\a'.tmps.getD 5 undef=.pointer (some ⟨b5,0,none⟩)/\Jp W' D b3 b4 b5 name En.Dop.d9 false/\F5 W W' b3 b4 b5
   | _=>False) (fT name p b) (fun y hy=>by
    simp only [List.mem_cons,List.not_mem_nil,or_false] at hy
    subst hy;trivial) (fun _ _ _ _ _=>.inl rfl) (fun _ _ _ _ _ h=>h) h hd ha (fun t v ht=>by simp [AW] at ht) (fun a' W' h1 h2 h3 h4 h5 h6=>⟨h1,h2,h3,h4,h5,h6⟩)
 simp only [List.map_cons,List.map_nil,Bp.it,after] at hl
 have hl2:=DU (ds:=[{ target:=.collected B,args:=#[] }]) (Q':=Exit.then (Code.ret.wp Tryz.prog (Lv (bodyPostM Fence.wide 2 Tryz.prog fn R))) (Lv (bodyPostM Fence.wide 2 Tryz.prog fn R))) ?_ (fun _ _ _ h=>h.elim) (fun ⟨_,_,h⟩=>h) hl
 ·rw [hd] at hl2;exact hl2
 ·rintro a' W' ⟨h1,h2,h3,h4,h5,h6⟩
  refine wp_ret ?_
  show LeavesInM _ _ _ _ _ _ _ _ _
  rw [h1]
  exact Rk hres h5 (a:={ a' with defers:=[] }) h2 h3 h4 ((h6.block B (Array.getElem?_eq_some_iff.1 hK).1 hB.1 hB.2.1 hB.2.2.1).trans hK) hB (hR W' h5 h6)
end Go.Proofs
namespace Go.Proofs
open Go Go.En Go.RowKit
theorem Tryz.Dq.holds:Tryz.Dq.c.Holds Tryz.prog:=by
 obtain ⟨hE,hbod,hokB,fn,hf,hb,hn',hres⟩:=dD
 refine ⟨hbod,hokB,fun h=>(by cases h),fun x y hxy w D β vs o n he hg hon hn hiv=>?_⟩
 obtain ⟨hl,rfl⟩:=hxy
 have hl:(CK.names x.2.1).length<9223372036854775807:=ip hl
 have hkp:CF En.Dop.D4 w (AL o β) D:=⟨hiv,fun k hk=>⟨hg.DL k hk,fun ⟨i,b,hi,hik⟩=>hg.off i b k hi hik hk⟩⟩
 have he':En.Spec.enc (S:=En.Dop.D4) ⟨[.al 0 0,.fd .str],[CK.b0,CT.b1]⟩ (((),x.1.2.1,()),x.2) 2=(vs,o,n):=he
 have hlen:vs.length=2:=En.Spec.Ah he
 have hn16:n=16:=by
  have e:(En.Spec.enc (S:=En.Dop.D4) ⟨[.al 0 0,.fd .str],[CK.b0,CT.b1]⟩ (((),x.1.2.1,()),x.2) 2).2.2=16:=by kernel_rfl
  rw [he'] at e;exact e
 have ho:o=(En.Spec.enc (S:=En.Dop.D4) ⟨[.al 0 0,.fd .str],[CK.b0,CT.b1]⟩ (((),x.1.2.1,()),x.2) 2).2.1:=by rw [he']
 have ho8:lk o 8=some (.mr .str 9 true 78 (CK.names x.2.1)):=by rw [ho];kernel_rfl
 subst hn16
 refine VC.TC (M:=0+3000) (bn:=16) hf hb hn' (by omega) hon hg ?_
 refine KQ hE hkp (fun _ _ _ _ _ h=>h) (k0:=[.code [] (AY Tryz.prog 145)]) (s0:=⟨Bx 0 vs,o,16,26⟩) (Nat.le_refl 16) rfl (fun z hz=>by
  simp only [List.mem_cons,List.not_mem_nil,or_false] at hz
  subst hz;rfl) ?_
 rw [Tryz.Dq.part x.1.2.1 ((),x.2) vs o 16 he']
 intro _ _ D1 β1 a W hβ1 hg1
 simp only [List.map_cons,List.map_nil,Bp.it,after]
 -- the frame
 have hoi: ∀ i,i<16->lk (aA x.1.2.1 o).o i=lk o i:=fun i hi=>by
  unfold aA
  simp only [AK]
  rw [if_neg (by omega),if_neg (by omega),if_neg (by omega),if_neg (by omega)]
 have ho16: ∀ i b,lk o i=some b->i<16:=fun i b hi=>(hg.By i b hi).1
 obtain ⟨b3,hb3,hc3⟩:=hg1.gh.own 16 _ (show lk (aA x.1.2.1 o).o 16=some (.AX 9 [.v (.string ⟨⟨x.1.2.1⟩⟩)]) from rfl)
 obtain ⟨b4,hb4,hc4⟩:=hg1.gh.own 17 _ (show lk (aA x.1.2.1 o).o 17=some (.AX 127 [.v (.int .i64 0),.v (.int .i64 0),.v (.int .i64 0)]) from rfl)
 obtain ⟨b5,hb5,hc5⟩:=hg1.gh.own 18 _ (show lk (aA x.1.2.1 o).o 18=some (.AX 4 [.v (.bool false)]) from rfl)
 obtain ⟨Bs,hBs,hcs⟩:=hg1.gh.own 19 _ (show lk (aA x.1.2.1 o).o 19=some (.AX 79 [.tr 8]) from rfl)
 have hne: ∀ (i j:Nat) (c d:En.Own En.Dop.D4) (k l:Nat),lk (aA x.1.2.1 o).o i=some c->lk (aA x.1.2.1 o).o j=some d->(β1 i).b=some k->(β1 j).b=some l->i≠j->k≠l:=fun i j c d k l hi hj hk hl hij e=>hij (hg1.gh.inj i j c d k hi hj (Nm.E7 hk) (Nm.E7 (e▸hl)))
 have hF:Jp W D1 b3 b4 b5 x.1.2.1 En.Dop.d9 false:=⟨by rw [hc3];simp [AD,SV.den],by rw [hc4];simp [AD,SV.den],by rw [hc5];simp [AD,SV.den],hne 16 17 _ _ _ _ rfl rfl hb3 hb4 (by decide),hne 16 18 _ _ _ _ rfl rfl hb3 hb5 (by decide),hne 17 18 _ _ _ _ rfl rfl hb4 hb5 (by decide),
  hg1.gh.off 16 _ b3 rfl (Nm.E7 hb3),hg1.gh.off 17 _ b4 rfl (Nm.E7 hb4),hg1.gh.off 18 _ b5 rfl (Nm.E7 hb5),hg1.gh.DL,hg1.gh.inv hkp⟩
 have hA:Wo a b3 b4 b5:=by
  refine ⟨hg1.size,?_,?_,?_⟩
  ·rw [hg1.tmps 3 (.ptr 16 0) rfl];simp [SV.den,Nm.AX,hb3]
  ·rw [hg1.tmps 4 (.ptr 17 0) rfl];simp [SV.den,Nm.AX,hb4]
  ·rw [hg1.tmps 5 (.ptr 18 0) rfl];simp [SV.den,Nm.AX,hb5]
 -- the row
 obtain ⟨hlen8,vs8,hrow,hmr⟩:=hg1.gh.own 8 _ ((hoi 8 (by decide)).trans ho8)
 have hvl:vs8.length=(CK.names x.2.1).length:=by have:=hrow.1;omega
 have hBs':Bs<W.heap.size:=(Array.getElem?_eq_some_iff.1 hcs).1
 have hrd: ∀ W',aE W W'->dh Bs vs8 W':=fun W' hi=>by
  have hcell:W'.cell? ⟨Bs,0,none⟩=some (.slice ((β1 8).b.map fun b=>⟨b,0,none⟩) vs8.length (β1 8).cap):=by
   rw [World.cell?_of_block (w:=W) (hi.block Bs hBs')]
   unfold World.cell?
   rw [hcs]
   simp [AD,SV.den,hlen8,hvl]
  rcases hrow.2 with ⟨_,h0⟩|⟨g,cap,cur,e1,_,e3,e4,_,e6,e7⟩
  ·refine .inl ⟨jp (hvl.trans h0),_,_,by rw [hcell,hvl,h0]⟩
  ·refine .inr ⟨g,0,cap,?_,fun j hj=>?_⟩
   ·rw [hcell,hvl,<- e1]
   ·have hgl:g<W.heap.size:=(Array.getElem?_eq_some_iff.1 e3).1
    rw [World.cell?_of_block (w:=W) (hi.block g hgl)]
    unfold World.cell?
    rw [e3]
    have hj2:vs8[j]?=cur.toList[j]?:=by
     rw [<-e7,ol,if_pos (by omega)]
    have hjc:j<cur.size:=by omega
    simp [hj2,Array.getElem?_eq_getElem hjc]
 have hm8: ∀ (e:Nat) (m:List (List UInt8×En.Dop.EB)),(CK.names x.2.1)[e]?=some m-> ∃ g,vs8[e]?=some (Value.map (some g))/\En.MapAt En.Dop.D4 W D1 .str 9 true g m:=fun e m hem=>by
  obtain ⟨g,c,_,k1,k2⟩:=hmr.cell e m hem
  exact ⟨g,k1,k2⟩
 -- what is left
 have hout: ∀ W',F5 W W' b3 b4 b5->GH w (AL o β) D D1 o (· <16) β1 (W'.putObj W.heap.size (.deferred none)):=fun W' hto=>by
  have hg2:GH w (AL o β) D D1 o (· <16) β1 W:=GH.part (o':=o) (N':=(· <16)) hg1.gh (fun i b hi=>(hoi i (ho16 i b hi)).trans hi) hg.By
  refine GH.same (X:=fun k=>k=b3\/k=b4\/k=b5\/W.heap.size<=k) hg2 (fun k hk=>?_) (fun k hk hX=>?_) hto.os hto.tape hto.output (by simpa [World.putObj] using hto.size)
  ·have frame: ∀ j c (l:Nat),16<=j->lk (aA x.1.2.1 o).o j=some c->(β1 j).b=some l->(∀ i b,lk o i=some b->¬ (β1 i).has l)/\¬ D1 l/\w.heap.size<=l:=fun j c l hj hjc hjl=>by
    have hno: ∀ i b,lk o i=some b->¬ (β1 i).has l:=fun i b hi hil=>by
     have hi16:=ho16 i b hi
     have:=hg1.gh.inj i j b c l ((hoi i hi16).trans hi) hjc hil (Nm.E7 hjl)
     omega
    refine ⟨hno,hg1.gh.off j c l hjc (Nm.E7 hjl),?_⟩
    rcases hg1.gh.fresh j c l hjc (Nm.E7 hjl) with h1|⟨i,b,hi,hil⟩
    ·exact h1
    ·exact absurd (by rw [hβ1 i (ho16 i b hi)];exact hil) (hno i b hi)
   rcases hk with rfl|rfl|rfl|hk
   ·exact frame 16 _ _ (by decide) rfl hb3
   ·exact frame 17 _ _ (by decide) rfl hb4
   ·exact frame 18 _ _ (by decide) rfl hb5
   ·exact ⟨fun i b hi hik=>by have:=hg2.lt i b k hi hik;omega,fun hD=>by have:=hg2.DL k hD;omega,Nat.le_trans hg2.fr.size hk⟩
  ·have h1:k≠b3:=fun e=>hX (.inl e)
   have h2:k≠b4:=fun e=>hX (.inr (.inl e))
   have h3:k≠b5:=fun e=>hX (.inr (.inr (.inl e)))
   exact (World.putObj_heap_other (by omega)).trans (hto.block k hk h1 h2 h3)
 have hpost: ∀ (q:En.Dop.EB) (b:Bool) W',(C6 x.1.2.1 (CK.names x.2.1)).getD En.Dop.d9=q->(C6 x.1.2.1 (CK.names x.2.1)).isSome=b->F5 W W' b3 b4 b5->
   Ds (S:=En.Dop.D4) Tryz.Dq.c (Tryz.Dq.R x) w D β o (.returned (.tuple #[.agg #[.int .i64 q.kind,.int .i64 q.n,.int .i64 q.EA],.bool b])) (W'.putObj W.heap.size (.deferred none)):=fun q b W' hq hbb hto=>by
  have e1:En.Spec.enc (S:=En.Dop.D4) ⟨[.st 9,.fd .bool],[CK.b0,CT.b1]⟩ ((q,b,()),x.2) 2=([.agg [.v (.int .i64 q.kind),.v (.int .i64 q.n),.v (.int .i64 q.EA)],.b b],(En.Spec.enc (S:=En.Dop.D4) ⟨[.al 0 0,.fd .str],[CK.b0,CT.b1]⟩ (((),x.1.2.1,()),x.2) 2).2.1,16):=by kernel_rfl
  rw [he'] at e1
  have hR:Tryz.Dq.R x=((q,b,()),x.2):=by unfold Tryz.Dq.R;rw [hq,hbb];rfl
  rw [hR]
  exact ⟨D1,β1,_,o,16,e1,by simp [Ay,SV.den,AD],fun i hi=>hβ1 i (dg hi (by decide)),hout W' hto,by simp [BZ,SV.on],by decide⟩
 have hBn:W.heap.size≠b3/\W.heap.size≠b4/\W.heap.size≠b5/\¬ D1 W.heap.size:=by
  have:=hF.lt
  exact ⟨by omega,by omega,by omega,fun hD=>by have:=hF.DL _ hD;omega⟩
 refine wpIn_wide.2 (wpIn_wide.1 (Ya hF hvl hl hm8 hrd hg1.defers hA ?_ ?_ ?_))
 ·rw [hg1.tmps 14 (.fn 201 [.ptr 19 0]) rfl]
  have A5:(β1 19).AX=Bs:=by unfold Nm.AX;rw [hBs];rfl
  simp only [SV.den,AD,Eb (show Nat.ble 1000000 201=false from rfl),A5]
 ·intro W' hi hno hK
  simp only [after,Exit.inBlock]
  have hto0:F5 W W' b3 b4 b5:=⟨hi.os,hi.tape,hi.output,hi.size,fun k hk _ _ _=>hi.block k hk⟩
  refine V3 hres (hF.at hi) hg1.defers hA hK hBn fun W2 h1 h2=>?_
  have:=hpost En.Dop.d9 false W2 (by rw [hno];rfl) (by rw [hno];rfl) (F5.comp hi h2)
  exact this
 ·intro q W' hq h1 h2 hK
  simp only [after,Exit.inBlock]
  show LeavesInM _ _ _ _ _ _ _ _ _
  exact Rk hres h1 hA.size hA.t4 hA.t5 hK hBn (hpost q true W' (by rw [hq];rfl) (by rw [hq];rfl) h2)
end Go.Proofs
