/-
 EvalRows: the run of a row's program.
-/
import Derived.Test.YtpjlciengdhjoaaGreatDoorMy
set_option maxRecDepth 1000000
set_option maxHeartbeats 100000000
namespace Go.Proofs
open Go Go.En Tryz
abbrev my (p:En.Dop.Hm) (mem:List Int) (sp:Int) (inp out:List Int) (fu e c:Int):ER:=(p,mem,sp,inp,out,fu,e,c,0,(),())
section
variable {p:En.Dop.Hm} {mem:List Int} {sp:Int} {inp out:List Int} {fu:Int} {fr:EF} {i:Int} {d:Nat} {v:Int} {m1:List Int} {sp1:Int} {i1 o1:List Int} {u1:Int} {f1:EF} {s':ER} {h:Int}
theorem ST.kY (h0:0<fu) (h1:fu<=1000000) (hi:Z7 p i) (hs:EF.OG fr=0) (hd:DO d (nd p i) (st p mem sp inp out (fu -1)) fr h s' f1) (he:ER.end_ s'≠0):ST (d+1) i (st p mem sp inp out fu) fr 5 s' f1:=fun n=>by
 rw [show n+(d+1)=n+d+1 from rfl,Z8,c7]
 unfold Tryz.DA.kf
 rw [AB (by rw [hs];rfl),AP (bv hs),aH h0 h1,AO]
 dsimp only
 rw [show List.getD (ER.p (st p mem sp inp out (fu -1))).nodes i.toNat En.Dop.d5=nd p i from rfl,AB (by rfl),AA (bv hi),hd n,CI]
 dsimp only
 rw [AP (by rw [ce he];rfl)]
theorem oA {k e c:Int} (hg:p.globals=[]) (hm:Tryz.Sc.k p ([109,97,105,110]:List UInt8)=Aw k) (hf:0<=fu/\fu<=1000000) (hc:CL d k [] (st p (List.replicate 4096 0) p.top inp [] fu) v (my p m1 sp1 i1 o1 u1 e c)) (he:e≠0) (hd:d<=1000000000):Tryz.He.k p inp fu=Aw (Dop.UO.mk e c o1):=by
 unfold Tryz.He.k Tryz.He.k0
 rw [AA (by decide),hg,if_neg (show ¬ fu<0 by omega),if_neg (show ¬ 1000000<fu by omega)]
 show Tryz.Ld.kB (Tryz.He.kL 999999) [] (I 0) 0 p 0 0 [] (st p (List.replicate 4096 0) p.top inp [] fu)=_
 unfold Tryz.Ld.kB
 dsimp only
 rw [AB (by rfl),hm,AM]
 have:=hc (1000000000 -d)
 rw [show 1000000000 -d+d=1000000000 by omega] at this
 show Option.bind (Tryz.m64.kr (Tryz.B8.kR 1000000000) k [] (st p (List.replicate 4096 0) p.top inp [] fu)) _=_
 rw [this,AO]
 dsimp only
 rw [AB (ce he)]
end
theorem CL.kY {p:En.Dop.Hm} {mem inp out:List Int} {sp fu:Int} {m1 i1 o1:List Int} {u1 e c h k:Int} {f1:EF} {args:List Int} {g:En.Dop.Ey} {d:Nat} (hk:0<=k/\k<I p.funcs.length) (hg:List.getD p.funcs k.toNat En.Dop.d11=g) (hm:sp+g.frame<=I mem.length) (hr:0<=g.A7/\g.A7<=1000000) (hs:0<=sp/\sp<=1000000) (hf:0<=g.frame/\g.frame<=1000000)
  (hd:ST d g.body (st p mem (sp+g.frame) inp out fu) (jk g args sp) h (my p m1 (sp+g.frame) i1 o1 u1 e c) f1) (hh:h≠4):CL (d+1) k args (st p mem sp inp out fu) (EF.told f1) (my p m1 sp i1 o1 u1 e c):=fun n=>by
 rw [show n+(d+1)=n+d+1 from rfl,Z8,kF]
 unfold Tryz.m64.kf Tryz.m64.k0
 dsimp only
 rw [show List.getD (ER.p (st p mem sp inp out fu)).funcs k.toNat En.Dop.d11=g from hg,AB (show (!decide ((st p mem sp inp out fu).end_=0))=false from rfl),AB (ce (by omega)),AA (bv hk),AA (AN.2 (show -9223372036854775808<=sp+g.frame/\sp+g.frame<=9223372036854775807 by omega)),AB (ce (show ¬ I mem.length<sp+g.frame by omega)),
  AA (bv (show 0<=g.A7/\g.A7<=g.A7/\g.A7*(I 8+1)<=140737488355328 by simp only [I];omega)),AA (AN.2 (show -9223372036854775808<=sp+g.frame/\sp+g.frame<=9223372036854775807 by omega))]
 show Tryz.Lg.kB (Tryz.B8.kR (n+d)) _ (st p mem (sp+g.frame) inp out fu) g (jk g args sp)=_
 unfold Tryz.Lg.kB
 rw [hd n,CI]
 dsimp only
 rw [AB (ce hh),AA (AN.2 (show -9223372036854775808<=sp+g.frame -g.frame/\sp+g.frame -g.frame<=9223372036854775807 by omega))]
 show B7 _ (my p m1 (sp+g.frame -g.frame) i1 o1 u1 e c)=_
 rw [show sp+g.frame -g.frame=sp by omega]
def nH (m:Nat):Prop:= ∀ (h:Nat->En.Dop.AV) (j:Int),Tryz.Sc.k (Oo (2*m+1) ((List.range (2*m+1)).map h) j) ([109,97,105,110]:List UInt8)=Aw 0/\Tryz.DH.k (Oo (2*m+1) ((List.range (2*m+1)).map h) j) (I (2*m+1+3))=Aw [I (2*m+1+2)]/\Tryz.DH.k (Oo (2*m+1) ((List.range (2*m+1)).map h) j) (I (2*m+1+1))=Aw [I (2*m+1)]
theorem k6 {m:Nat} (hm:m<13):nH m:=by
 match m,hm with
 | 0,_|1,_|2,_|3,_|4,_|5,_|6,_|7,_|8,_|9,_|10,_|11,_|12,_=>exact fun h j=>⟨by as_aux_lemma=>kernel_rfl,by as_aux_lemma=>kernel_rfl,by as_aux_lemma=>kernel_rfl⟩
 | m+13,h=>omega
theorem Zd {l:List En.Dop.AV} {n:Nat} (hl:l.length=n) (j:Int) {k:Nat} (hk:k<5):nd (Oo n l j) (I (n+k))=([Wd 37 j,Wd 20 (I n),Wd 43 (I (n+1)),Wd 20 (I (n+2)),Wd 43 (I (n+3))]:List En.Dop.AV).getD k En.Dop.d5:=by
 show (l++_).getD (n+k) En.Dop.d5=_
 rw [lc,kw (by omega),hl,Nat.add_sub_cancel_left,lc]
theorem Zc {l:List En.Dop.AV} {n:Nat} (hl:l.length=n) (j:Int) {k:Nat} (hk:k<5):Z7 (Oo n l j) (I (n+k)):=by
 refine ⟨by simp only [I];omega,?_⟩
 show I (n+k)<I (l++_).length
 simp only [I,List.length_append,List.length_cons,List.length_nil];omega
theorem gX {t:RT} (hp: ∀ q∈t.ops,q∈At) (hr: ∀ x∈t.BS,0<=x/\x<=1000000) {m:Nat} (hm:m<13) (hs:t.sz=2*m+1) {ps:List En.Dop.AV} {j:Int} (hl:ps.length=t.sz) (ht:PP ps j t):
  Tryz.He.k (Oo (2*m+1) ps j) [] 1000=Aw (match t.ev with|some v=>.mk 1 v []|none=>.mk 2 2 []):=by
 obtain ⟨h,hh⟩: ∃ h,(List.range (2*m+1)).map h=ps:=⟨_,T9 ps (hl.trans hs)⟩
 obtain ⟨l1,l2,l3⟩:=k6 hm h j
 rw [hh] at l1 l2 l3
 have hn:ps.length=2*m+1:=hl.trans hs
 have hj:0<=j:=by
  cases t with
  | n x=>exact ht.1
  | o p l r=>exact ht.1
 have n0:=Zd hn j (k:=0) (by omega)
 have n2:=Zd hn j (k:=2) (by omega)
 have n4:=Zd hn j (k:=4) (by omega)
 have hx:=ZX (p:=Oo (2*m+1) ps j) (mem:=List.replicate 4096 0) (sp:=1) (inp:=[]) (out:=[]) (fr:=jk (.mk [109,97,105,110] 0 0 0 (I (2*m+1+4))) [] 1) t j ht.mono hp hr (1000 -1 -1 -1) (by omega) (by omega)
 generalize hP:Oo (2*m+1) ps j=P at*
 have i0:Z7 P (I (2*m+1+0)):=by rw [<-hP];exact Zc hn j (by omega)
 have i2:Z7 P (I (2*m+1+2)):=by rw [<-hP];exact Zc hn j (by omega)
 have i4:Z7 P (I (2*m+1+4)):=by rw [<-hP];exact Zc hn j (by omega)
 have hgl:P.globals=[]:=by rw [<-hP];rfl
 have htp:P.top=1:=by rw [<-hP];rfl
 have hfn:P.funcs=[.mk [109,97,105,110] 0 0 0 (I (2*m+1+4))]:=by rw [<-hP];rfl
 have hme:I (List.replicate 4096 (0:Int)).length=4096:=by unfold I;rw [List.length_replicate];rfl
 rcases hx with ⟨v,e1,_,e3⟩|⟨e1,u,e3⟩
 ·rw [e1]
  have g:=DO.E6 (x:=nd P (I (2*m+1+0))) (by rw [n0];rfl) (by rw [n0];exact hj) (by rw [n0];exact e3)
  have s0:=ST.of (by omega) (by omega) i0 rfl g
  have q2:=BL.exit (l:=[I (2*m+1)]) (j:=0) (c:=0) (Nat.zero_lt_succ _) s0 (by decide)
  have b2:=DO.block (x:=nd P (I (2*m+1+2))) (by rw [n2];rfl) (by rw [n2];exact l3) q2 (by omega)
  have s2:=ST.of (by omega) (by omega) i2 rfl b2
  have q4:=BL.exit (l:=[I (2*m+1+2)]) (j:=0) (c:=0) (Nat.zero_lt_succ _) s2 (by decide)
  have b4:=DO.block (x:=nd P (I (2*m+1+4))) (by rw [n4];rfl) (by rw [n4];exact l2) q4 (by omega)
  have s4:=ST.of (by omega) (by omega) i4 rfl b4
  have c0:=CL.of (k:=0) (args:=[]) (g:=.mk [109,97,105,110] 0 0 0 (I (2*m+1+4))) (sp:=1) (mem:=List.replicate 4096 0) ⟨by omega,by rw [hfn];show (0:Int)<1;decide⟩ (by rw [hfn];rfl) (by rw [hme];show (1:Int)+0<=4096;decide) ⟨by show (0:Int)<=0;decide,by show (0:Int)<=1000000;decide⟩ ⟨by decide,by decide⟩ ⟨by show (0:Int)<=0;decide,by show (0:Int)<=1000000;decide⟩ s4 (by decide)
  exact n9 hgl l1 ⟨by omega,by omega⟩ (by rw [htp];exact c0) (by omega)
 ·rw [e1]
  have g:=DO.E6 (x:=nd P (I (2*m+1+0))) (by rw [n0];rfl) (by rw [n0];exact hj) (by rw [n0];exact e3)
  have s0:=ST.kY (by omega) (by omega) i0 rfl g (by show (2:Int)≠0;decide)
  have q2:=BL.exit (l:=[I (2*m+1)]) (j:=0) (c:=0) (Nat.zero_lt_succ _) s0 (by decide)
  have b2:=DO.block (x:=nd P (I (2*m+1+2))) (by rw [n2];rfl) (by rw [n2];exact l3) q2 (by omega)
  have s2:=ST.kY (by omega) (by omega) i2 rfl b2 (by show (2:Int)≠0;decide)
  have q4:=BL.exit (l:=[I (2*m+1+2)]) (j:=0) (c:=0) (Nat.zero_lt_succ _) s2 (by decide)
  have b4:=DO.block (x:=nd P (I (2*m+1+4))) (by rw [n4];rfl) (by rw [n4];exact l2) q4 (by omega)
  have s4:=ST.kY (by omega) (by omega) i4 rfl b4 (by show (2:Int)≠0;decide)
  have c0:=CL.kY (k:=0) (args:=[]) (g:=.mk [109,97,105,110] 0 0 0 (I (2*m+1+4))) (sp:=1) (mem:=List.replicate 4096 0) (e:=2) (c:=2) ⟨by omega,by rw [hfn];show (0:Int)<1;decide⟩ (by rw [hfn];rfl) (by rw [hme];show (1:Int)+0<=4096;decide) ⟨by show (0:Int)<=0;decide,by show (0:Int)<=1000000;decide⟩ ⟨by decide,by decide⟩ ⟨by show (0:Int)<=0;decide,by show (0:Int)<=1000000;decide⟩ s4 (by decide)
  exact oA hgl l1 ⟨by omega,by omega⟩ (by rw [htp];exact c0) (by decide) (by omega)
end Go.Proofs
