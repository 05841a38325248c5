/- EvalRows: the program 'int main(){return ROW;}': its tree. -/
import Derived.Test.YtpjlciengdhjoaaGreatDoorRoV
import Derived.Test.YtpjlciengdhjoaaGreatDoorMt
import Derived.Test.YtpjlciengdhjoaaGreatDoorMu
set_option maxRecDepth 100000
set_option maxHeartbeats 1000000
namespace Go.Proofs
open Go Go.En Tryz
section
variable {L:List En.Dop.Tok} {a b:Int} {ns ms:List En.Dop.AV} {ty:List En.Dop.Fp} {tp dp i:Int} {n:Int}
theorem R8 (hi:0<=i/\i<I ns.length) (hn:ns.length<8000) {d:En.Dop.AV} (hd:ns.getD i.toNat En.Dop.d5=d):Tryz.B6.k [i] (ps L a ns ty tp dp)=B7 (I ns.length) (ps L a (ns++[.mk 20 i (-1) (-1) (-1) [] 0 0 d.at_]) ty tp dp):=by
 unfold Tryz.B6.k
 show Tryz.B6.ay [i] (ps L a ns ty tp dp) (-1)=_
 unfold Tryz.B6.ay Tryz.B6.dB
 have e:Tryz.GY.k i (ps L a ns ty tp dp)=B7 d.at_ (ps L a ns ty tp dp):=by
  unfold Tryz.GY.k
  rw [AB (ce (by omega)),AA (bv (show 0<=i/\i<I ns.length from hi)),AA (bv (show i.toNat<ns.length by simp only [I] at hi;omega)),<- hd]
 rw [e,AO]
 dsimp only
 show Option.bind (Tryz.Dj.k (.mk 20 i (-1) (-1) (-1) [] 0 0 d.at_) (ps L a ns ty tp dp)) _=_
 rw [LD _ hn,AO]
 rfl
theorem j4 (r:Tryz.FY.T) (s:PS):Tryz.Ga.kr (Tryz.FY.kS r) s=Tryz.Ga.kf r s:=rfl
theorem fJ (r:Tryz.FY.T) (s:PS):Tryz.BQ.kr (Tryz.FY.kS r) s=Tryz.within r.2.2.2.1 s:=rfl
theorem j6 (r:Tryz.FY.T) (s:PS):(Tryz.FY.kS r).2.2.2.1 (((),()),(s,()))=Tryz.Ee.kf r s:=rfl
theorem nc (r:Tryz.FY.T) (s:PS):Tryz.FE.kr (Tryz.FY.kS r) s=Tryz.FE.kf r s:=rfl
theorem jz (r:Tryz.FY.T) (T:Tryz.FE.KT) (l:List Int) (s:PS) (x:En.Dop.AV):(Tryz.FE.kS r T).1 l s x=Tryz.Nk.kB r T l s x:=rfl
theorem mi (n:Nat):Tryz.FY.kR (n+1)=Tryz.FY.kS (Tryz.FY.kR n):=rfl
end
section
variable {w:Nat->List UInt8} {x p q:Nat->Int} {ns:List En.Dop.AV} {i:Int} {m:Nat}
theorem IM (n:Nat):(GJ n w x p q).length=n+9:=by
 unfold GJ
 simp only [List.length_append,List.length_cons,List.length_nil,List.length_map,List.length_range];omega
theorem pM {n:Nat}:TK (GJ n w x p q) 0 2 [105,110,116] 0:=⟨by omega,by rw [IM];simp only [I];omega,rfl,rfl,rfl⟩
theorem pN {n:Nat}:TK (GJ n w x p q) 4 4 [123] 0:=⟨by omega,by rw [IM];simp only [I];omega,rfl,rfl,rfl⟩
theorem p9 {n:Nat}:TK (GJ n w x p q) 5 2 [114,101,116,117,114,110] 0:=⟨by omega,by rw [IM];simp only [I];omega,rfl,rfl,rfl⟩
theorem dU {n j:Nat}:(GJ n w x p q).getD (6+j) En.Dop.d4=((List.range n).map (T6 w x p)++([.mk 4 [59] 0 (q 6),.mk 4 [125] 0 (q 7),.mk 0 [] 0 (q 8)]:List En.Dop.Tok)).getD j En.Dop.d4:=by
 unfold GJ
 rw [lc,kw (by simp),lc]
 rw [show 6+j -([En.Dop.Tok.mk 2 [105,110,116] 0 (q 0),.mk 1 [109,97,105,110] 0 (q 1),.mk 4 [40] 0 (q 2),.mk 4 [41] 0 (q 3),.mk 4 [123] 0 (q 4),.mk 2 [114,101,116,117,114,110] 0 (q 5)]).length=j by simp]
theorem pS {n j:Nat} (hj:j<n):(GJ n w x p q).getD (6+j) En.Dop.d4=T6 w x p j:=by
 rw [dU,lc,el (by simpa using hj),List.getElem?_map,List.getElem?_range hj];rfl
theorem pR {n j:Nat} (a:Int) (hj:j<n) (h2:j % 2=0) (ha:a=I j+6):TK (GJ n w x p q) a 3 (w j) (x j):=by
 have e:=pS (w:=w) (x:=x) (p:=p) (q:=q) hj
 have:a.toNat=6+j:=by simp only [I] at ha;omega
 unfold T6 at e
 rw [if_pos h2] at e
 exact ⟨by simp only [I] at ha;omega,by rw [IM];simp only [I] at ha ⊢; omega,by rw [this,e],by rw [this,e],by rw [this,e]⟩
theorem qB {n j:Nat} (a:Int) (hj:j<n) (h2:¬ j % 2=0) (ha:a=I j+6):TK (GJ n w x p q) a 4 (w j) 0:=by
 have e:=pS (w:=w) (x:=x) (p:=p) (q:=q) hj
 have:a.toNat=6+j:=by simp only [I] at ha;omega
 unfold T6 at e
 rw [if_neg h2] at e
 exact ⟨by simp only [I] at ha;omega,by rw [IM];simp only [I] at ha ⊢; omega,by rw [this,e],by rw [this,e],by rw [this,e]⟩
theorem oM {n j:Nat} (hj:j<3):(GJ n w x p q).getD (6+(n+j)) En.Dop.d4=([.mk 4 [59] 0 (q 6),.mk 4 [125] 0 (q 7),.mk 0 [] 0 (q 8)]:List En.Dop.Tok).getD j En.Dop.d4:=by
 rw [dU,lc,kw (by simp),List.length_map,List.length_range,Nat.add_sub_cancel_left,lc]
theorem pO {n:Nat} (a:Int) (ha:a=I n+6):TK (GJ n w x p q) a 4 [59] 0:=by
 have e:=oM (w:=w) (x:=x) (p:=p) (q:=q) (n:=n) (j:=0) (by omega)
 have:a.toNat=6+(n+0):=by simp only [I] at ha;omega
 exact ⟨by simp only [I] at ha;omega,by rw [IM];simp only [I] at ha ⊢; omega,by rw [this,e];rfl,by rw [this,e];rfl,by rw [this,e];rfl⟩
theorem qA {n:Nat} (a:Int) (ha:a=I n+7):TK (GJ n w x p q) a 4 [125] 0:=by
 have e:=oM (w:=w) (x:=x) (p:=p) (q:=q) (n:=n) (j:=1) (by omega)
 have:a.toNat=6+(n+1):=by simp only [I] at ha;omega
 exact ⟨by simp only [I] at ha;omega,by rw [IM];simp only [I] at ha ⊢; omega,by rw [this,e];rfl,by rw [this,e];rfl,by rw [this,e];rfl⟩
theorem pQ {n:Nat} (a:Int) (ha:a=I n+8):TK (GJ n w x p q) a 0 [] 0:=by
 have e:=oM (w:=w) (x:=x) (p:=p) (q:=q) (n:=n) (j:=2) (by omega)
 have:a.toNat=6+(n+2):=by simp only [I] at ha;omega
 exact ⟨by simp only [I] at ha;omega,by rw [IM];simp only [I] at ha ⊢; omega,by rw [this,e];rfl,by rw [this,e];rfl,by rw [this,e];rfl⟩
abbrev Yr (i p:Int):En.Dop.AV:=.mk 37 i (-1) (-1) (-1) [] 0 0 p
abbrev iu (i p:Int):En.Dop.AV:=.mk 20 i (-1) (-1) (-1) [] 0 0 p
abbrev ir (i p:Int):En.Dop.AV:=.mk 43 i (-1) (-1) (-1) [] 0 0 p
abbrev fZ (i p:Int):En.Dop.AV:=.mk 50 (-1) i (-1) (-1) [109,97,105,110] 0 1 p
abbrev dG (k:Nat) (i:Int) (q:Nat->Int):List En.Dop.AV:=[Yr i (q 5),iu (I k) (q 5),ir (I (k+1)) (q 4),fZ (I (k+2)) (q 0),iu (I (k+3)) (q 0)]
theorem cA (hm:m<13) (hb:BN 13 (I 0) (ps (GJ (2*m+1) w x p q) 6 [] Eu 0 2) i (ps (GJ (2*m+1) w x p q) (I (2*m+1)+6) ns Eu 0 2)) (hn:ns.length<7000) (r:Tryz.FY.T):
  Tryz.Ee.kf r (ps (GJ (2*m+1) w x p q) 5 [] Eu 0 1)=B7 (I ns.length) (ps (GJ (2*m+1) w x p q) (I (2*m+1)+7) (ns++[Yr i (q 5)]) Eu 0 1):=by
 have h6:TK (GJ (2*m+1) w x p q) 6 3 (w 0) (x 0):=pR 6 (j:=0) (by omega) rfl rfl
 rw [gV hm,Zb (dp:=1) hb rfl h6 (pO _ rfl) (by omega) (by rw [IM];omega),AO]
 unfold pJ
 dsimp only
 rw [LD _ (by omega),AO,show (I (2*m+1)+6+1:Int)=I (2*m+1)+7 by omega]
 rfl
theorem ZU (hm:m<13) (hb:BN 13 (I 0) (ps (GJ (2*m+1) w x p q) 6 [] Eu 0 2) i (ps (GJ (2*m+1) w x p q) (I (2*m+1)+6) ns Eu 0 2)) (hn:ns.length<7000):
  Tryz.FE.k (ps (GJ (2*m+1) w x p q) 4 [] Eu 0 0)=B7 (I (ns.length+2)) (ps (GJ (2*m+1) w x p q) (I (2*m+1)+8) (ns++[Yr i (q 5),iu (I ns.length) (q 5),ir (I (ns.length+1)) (q 4)]) Eu 0 0):=by
 have hL:(GJ (2*m+1) w x p q).length<100000:=by rw [IM];omega
 unfold Tryz.FE.k
 rw [show FU=(999999996+1+1+1)+1 from rfl,mi,nc]
 have es:Tryz.Ga.kr (Tryz.FY.kR (999999996+1+1+1)) (ps (GJ (2*m+1) w x p q) 5 [] Eu 0 0)=B7 (I ns.length) (ps (GJ (2*m+1) w x p q) (I (2*m+1)+7) (ns++[Yr i (q 5)]) Eu 0 0):=by
  rw [mi,j4]
  unfold Tryz.Ga.kf
  rw [mi,fJ,dV (by omega) (b:=I (2*m+1)+7) (ms:=ns++[Yr i (q 5)]) (i:=I ns.length) ?_]
  ·rfl
  rw [mi,j6]
  exact cA hm hb hn _
 unfold Tryz.FE.kf Tryz.FE.k0
 rw [Fh pN,AO]
 dsimp only
 rw [show Tryz.FD.k 43 (List.getD (GJ (2*m+1) w x p q) (4:Int).toNat En.Dop.d4).at_=Aw (.mk 43 (-1) (-1) (-1) (-1) [] 0 0 (q 4)) from rfl,AM]
 dsimp only
 rw [VP pN hL,Q3]
 unfold Tryz.FE.kL
 rw [VF,jz,show (4+1:Int)=5 from rfl]
 unfold Tryz.Nk.kB
 rw [HT p9 (by simp),AO]
 dsimp only
 rw [AP (b:=!false) rfl,AP (by rfl),es,AO]
 dsimp only
 rw [AA (by kernel_rfl),show (999999:Nat)=999998+1 from rfl,R3,jz,List.nil_append]
 unfold Tryz.Nk.kB
 rw [Qg (qA _ rfl) hL,AO]
 dsimp only
 rw [AB (b:=!true) rfl,R8 (d:=Yr i (q 5)) ⟨by simp only [I];omega,by simp only [I,List.length_append,List.length_singleton];omega⟩ (by simp only [List.length_append,List.length_singleton];omega) (Io _ _),AO]
 dsimp only
 rw [LD _ (by simp only [List.length_append,List.length_singleton];omega),AO]
 simp only [List.append_assoc,List.length_append,List.length_singleton,List.cons_append,List.nil_append]
 rw [show (I (2*m+1)+7+1:Int)=I (2*m+1)+8 by omega]
 rfl
end
end Go.Proofs
namespace Go.Proofs
open Go Go.En Tryz
section
variable {w:Nat->List UInt8} {x p q:Nat->Int} {ns:List En.Dop.AV} {i:Int} {m:Nat}
theorem cC (hm:m<13) (hb:BN 13 (I 0) (ps (GJ (2*m+1) w x p q) 6 [] Eu 0 2) i (ps (GJ (2*m+1) w x p q) (I (2*m+1)+6) ns Eu 0 2)) (hn:ns.length<7000):
  Tryz.Oh.k (ps (GJ (2*m+1) w x p q) 0 [] Eu 0 0)=B7 (I (ns.length+3)) (ps (GJ (2*m+1) w x p q) (I (2*m+1)+8) (ns++[Yr i (q 5),iu (I ns.length) (q 5),ir (I (ns.length+1)) (q 4),fZ (I (ns.length+2)) (q 0)]) Eu 0 0):=by
 rw [gY hm,ZU hm hb hn,AO]
 unfold ky
 dsimp only
 rw [LD _ (by simp only [List.length_append,List.length_cons,List.length_nil];omega),AO]
 simp only [List.append_assoc,List.length_append,List.length_cons,List.length_nil,List.cons_append,List.nil_append]
 rfl
theorem jy (T:Tryz.m20.KT) (l:List Int) (a:List En.Dop.AV) (b:List En.Dop.Fp) (c:Int) (s:PS):(Tryz.m20.kS T).2.1 l a b c s=Tryz.Nd.kB T l a b c s:=rfl
theorem lB (L:List En.Dop.Tok):Tryz.m20.k L=(Bd Tryz.m20.kS 999995).2.1 [] [] [] 0 (ps L 0 [] Eu 0 0):=by kernel_rfl
theorem UA (hm:m<13) (hb:BN 13 (I 0) (ps (GJ (2*m+1) w x p q) 6 [] Eu 0 2) i (ps (GJ (2*m+1) w x p q) (I (2*m+1)+6) ns Eu 0 2)) (hn:ns.length<7000):
  Tryz.m20.k (GJ (2*m+1) w x p q)=Kd (.mk (ns++dG ns.length i q) Eu (I (ns.length+4))) 0 0:=by
 rw [lB,show (999995:Nat)=999994+1 from rfl,R3,jy]
 unfold Tryz.Nd.kB
 rw [AP (by rfl),Fh pM,AO]
 dsimp only
 rw [AP (by obtain ⟨_,_,h,_⟩:=pM (w:=w) (x:=x) (p:=p) (q:=q) (n:=2*m+1);rw [h];rfl),cC hm hb hn,AO]
 dsimp only
 rw [AA (by kernel_rfl),show (999994:Nat)=999993+1 from rfl,R3,jy,List.nil_append]
 unfold Tryz.Nd.kB
 rw [AP (by rfl),Fh (pQ _ rfl),AO]
 dsimp only
 rw [AB (by obtain ⟨_,_,h,_⟩:=pQ (w:=w) (x:=x) (p:=p) (q:=q) (n:=2*m+1) _ rfl;rw [h];rfl)]
 have hg:(ns++[Yr i (q 5),iu (I ns.length) (q 5),ir (I (ns.length+1)) (q 4),fZ (I (ns.length+2)) (q 0)]).getD (I (ns.length+3)).toNat En.Dop.d5=fZ (I (ns.length+2)) (q 0):=by
  rw [show (I (ns.length+3)).toNat=ns.length+3 from rfl,lc,kw (by omega),Nat.add_sub_cancel_left];rfl
 rw [R8 ⟨by simp only [I];omega,by simp only [I,List.length_append,List.length_cons,List.length_nil];omega⟩ (by simp only [List.length_append,List.length_cons,List.length_nil];omega) hg,AO]
 dsimp only
 rw [AB (by rfl)]
 simp only [List.append_assoc,List.length_append,List.length_cons,List.length_nil,List.cons_append,List.nil_append]
end
end Go.Proofs
set_option maxHeartbeats 100000000
namespace Go.Proofs
open Go Go.En Tryz
abbrev C4:CT:=([.mk 0 0 0 [],.mk 1 0 0 [],.mk 2 0 0 [],.mk 3 0 0 []],[],())
def kk (k:CK) (ns:List En.Dop.AV):CK:=CK.Eo (CK.Wi k 0) ns
theorem VN (k:CK) {ns:List En.Dop.AV} (hn:ns.length<8000) (kind a b d n:Int) (t:List UInt8) (c:CT):Tryz.BX.k kind a b d n t (kk k ns) c=Ar (I ns.length) (kk k (ns++[En.Dop.AV.mk kind a b d (-1) t n 0 0])) c:=by
 unfold Tryz.BX.k
 have e:I (ns++En.Dop.AV.mk kind a b d (-1) t n 0 0::[]).length -1=I ns.length:=by simp only [I,List.length_append,List.length_cons,List.length_nil];omega
 rw [AA (by show room 80 _=true;unfold room;refine bv ?_;simp only [List.length_cons,List.length_nil];show (ns.length+(0+1))*(80+1)<=_;omega)]
 show ck (Al (I (ns++En.Dop.AV.mk kind a b d (-1) t n 0 0::[]).length -1)) (Ar (I (ns++En.Dop.AV.mk kind a b d (-1) t n 0 0::[]).length -1) _ c)=_
 rw [e,AA (AN.2 (by simp only [I];omega))]
 rfl
def IL (p:List UInt8):Int×Bool:=if p=[124] then (9,false) else if p=[94] then (10,false) else if p=[38] then (8,false) else if p=[61,61] then (14,false) else if p=[33,61] then (15,false) else if p=[60] then (16,false) else if p=[60,61] then (17,false)
 else if p=[62] then (16,true) else if p=[62,61] then (17,true) else if p=[60,60] then (11,false) else if p=[62,62] then (12,false) else if p=[43] then (1,false) else if p=[45] then (2,false) else if p=[42] then (3,false) else if p=[47] then (4,false) else (5,false)
def Gj (p:List UInt8) (a b:Int):En.Dop.AV:=match (IL p).2 with
 | true=>.mk 8 b a (-1) (-1) [] (IL p).1 0 0
 | false=>.mk 8 a b (-1) (-1) [] (IL p).1 0 0
def nv (y:(Int×Unit)×(CK×CT×Unit)):R2 En.Dop.BM CK CT:=Ar (.mk y.1.1 1 0 0 false) y.2.1 y.2.2.1
def pf (p:List UInt8):Prop:= ∀ (a b at_:Int) (za zb:Bool) (k:CK) (ns:List En.Dop.AV),Tryz.Bt.k p (.mk a 1 0 0 za) (.mk b 1 0 0 zb) at_ (kk k ns) C4=Option.bind (Option.bind (Tryz.BX.k 8 (Gj p a b).a (Gj p a b).b (-1) (Gj p a b).n [] (kk k ns) C4) C8) nv
theorem nw {p:List UInt8} (hp:p∈At):pf p:=by
 simp only [At,List.mem_cons,List.not_mem_nil,or_false] at hp
 rcases hp with rfl|rfl|rfl|rfl|rfl|rfl|rfl|rfl|rfl|rfl|rfl|rfl|rfl|rfl|rfl|rfl<;>exact fun a b at_ za zb k ns=>by as_aux_lemma=>kernel_rfl
theorem gS {p:List UInt8} (hp:p∈At) (a b at_:Int) (za zb:Bool) (k:CK) {ns:List En.Dop.AV} (hn:ns.length<8000):Tryz.Bt.k p (.mk a 1 0 0 za) (.mk b 1 0 0 zb) at_ (kk k ns) C4=Ar (.mk (I ns.length) 1 0 0 false) (kk k (ns++[Gj p a b])) C4:=by
 rw [nw hp,VN k hn]
 have e:En.Dop.AV.mk 8 (Gj p a b).a (Gj p a b).b (-1) (-1) [] (Gj p a b).n 0 0=Gj p a b:=by
  unfold Gj
  split<;>rfl
 rw [e]
 rfl
end Go.Proofs
set_option maxHeartbeats 1000000
namespace Go.Proofs
open Go Go.En Tryz
def EC (d:Nat) (i:Int) (s:CK) (v:En.Dop.BM) (s':CK):Prop:= ∀ n,Tryz.A9.kr (Tryz.BG.kR (n+d)) i s C4=Ar v s' C4
def SC (d:Nat) (i:Int) (s:CK) (v:En.Dop.BM) (s':CK):Prop:= ∀ n,Tryz.B1.kr (Tryz.BG.kR (n+d)) i s C4=Ar v s' C4
theorem EC.mono {d e:Nat} {i:Int} {v:En.Dop.BM} {s s':CK} (h:EC d i s v s') (hd:d<=e):EC e i s v s':=fun n=>by
 have:=h (n+(e -d));rwa [show n+(e -d)+d=n+e by omega] at this
theorem nW (n:Nat):Tryz.BG.kR (n+1)=Tryz.BG.kS (Tryz.BG.kR n):=rfl
theorem c9 (r:Tryz.BG.T) (i:Int) (s:CK) (c:CT):Tryz.A9.kr (Tryz.BG.kS r) i s c=Tryz.A9.kf r i s c:=rfl
theorem j5 (r:Tryz.BG.T) (i:Int) (s:CK) (c:CT):Tryz.B1.kr (Tryz.BG.kS r) i s c=Tryz.B1.kf r i s c:=rfl
theorem jx (r:Tryz.BG.T) (T:Tryz.A9.KT) (a:Int) (s:CK) (c:CT) (v:En.Dop.BM) (x:En.Dop.AV):(Tryz.A9.kS r T).1 a s c v x=Tryz.Kz.kB r T a s c v x:=rfl
section
variable {k:CK} {ns:List En.Dop.AV} {i:Int}
theorem ZV {x:En.Dop.AV} (h0:0<=i/\i<I (CK.t k).nodes.length) (hx:(CK.t k).nodes.getD i.toNat En.Dop.d5=x) (c:CT):Tryz.MY.k i (kk k ns) c=Ar x (kk k ns) c:=by
 unfold Tryz.MY.k
 dsimp only
 rw [AB (ce (by omega)),show CK.t (kk k ns)=CK.t k from rfl,AB (ce (by omega)),AA (bv h0),hx]
theorem EC.num {x p:Int} (h0:0<=i/\i<I (CK.t k).nodes.length) (hx:(CK.t k).nodes.getD i.toNat En.Dop.d5=nN x p) (hr:0<=x/\x<=1000000) (hn:ns.length<8000):
  EC 1 i (kk k ns) (.mk (I ns.length) 1 0 0 (decide (x=0))) (kk k (ns++[.mk 1 (-1) (-1) (-1) (-1) [] x 0 0])):=fun n=>by
 rw [nW,c9]
 unfold Tryz.A9.kf Tryz.A9.k0
 dsimp only
 rw [AB (by rfl),ZV h0 hx,CI]
 show ci (decide ((1:Int)=1)) (ci (decide ((2147483648:Int)<=x)) _ ((Tryz.A9.kL (Tryz.BG.kR n) 1000000).1 1 (kk k ns) C4 (.mk 0 0 0 0 false) (nN x p))) _=_
 rw [AP (by rfl),AB (ce (by omega))]
 unfold Tryz.A9.kL
 rw [VF,jx]
 unfold Tryz.Kz.kB Tryz.E9.k
 show Option.bind (Option.bind (Tryz.Dz.k x) _) _=_
 rw [OW,ES ⟨by omega,by omega⟩,AM]
 dsimp only
 rw [VN k hn]
 rfl
theorem SC.of {d:Nat} {j:Int} {z:Bool} {ms:List En.Dop.AV} (h:EC d i (kk k ns) (.mk j 1 0 0 z) (kk k ms)):SC (d+1) i (kk k ns) (.mk j 1 0 0 z) (kk k ms):=fun n=>by
 rw [show n+(d+1)=n+d+1 from rfl,nW,j5]
 unfold Tryz.B1.kf
 rw [h n,CI]
 dsimp only
 rw [AP (by rfl),show Tryz.D5.k 1 C4=B7 true C4 by kernel_rfl,AO]
 dsimp only
 rw [AB (b:=!true) rfl]
theorem EC.bin {p:List UInt8} (hp:p∈At) {u v q:Int} (h0:0<=i/\i<I (CK.t k).nodes.length) (hx:(CK.t k).nodes.getD i.toNat En.Dop.d5=nB p u v q) {d:Nat} {a b:Int} {za zb:Bool} {m1 m2:List En.Dop.AV}
  (ha:SC d u (kk k ns) (.mk a 1 0 0 za) (kk k m1)) (hb:SC d v (kk k m1) (.mk b 1 0 0 zb) (kk k m2)) (hn:m2.length<8000):EC (d+1) i (kk k ns) (.mk (I m2.length) 1 0 0 false) (kk k (m2++[Gj p a b])):=fun n=>by
 have hp1:p≠[38,38]/\p≠[124,124]:=by
  have h:At.all (fun p=>p !=[38,38] && p !=[124,124])=true:=by decide+kernel
  simpa using List.all_eq_true.1 h p hp
 rw [show n+(d+1)=n+d+1 from rfl,nW,c9]
 unfold Tryz.A9.kf Tryz.A9.k0
 dsimp only
 rw [AB (by rfl),ZV h0 hx,CI]
 show ci (decide ((4:Int)=1)) _ (ci (decide ((4:Int)=2)) _ (ci (decide ((4:Int)=3)) _ (ci (decide ((4:Int)=4)) (ci (decide (p=[38,38])) _ (ci (decide (p=[124,124])) _ (Option.bind (Tryz.B1.kr (Tryz.BG.kR (n+d)) u (kk k ns) C4) _))) _)))=_
 rw [AB (by rfl),AB (by rfl),AB (by rfl),AP (by rfl),AB (ce hp1.1),AB (ce hp1.2),ha n,CI]
 show Option.bind (Tryz.B1.kr (Tryz.BG.kR (n+d)) v (kk k m1) C4) _=_
 rw [hb n,CI]
 show Option.bind (Tryz.Bt.k p (.mk a 1 0 0 za) (.mk b 1 0 0 zb) i (kk k m2) C4) _=_
 rw [gS hp _ _ _ _ _ k hn,CI]
 rfl
end
def PP (ns:List En.Dop.AV):Int->RT->Prop
 | i,.n x=>0<=i/\i<I ns.length/\ns.getD i.toNat En.Dop.d5=.mk 1 (-1) (-1) (-1) (-1) [] x 0 0
 | i,.o p l r=>0<=i/\i<I ns.length/\ ∃ u v,ns.getD i.toNat En.Dop.d5=Gj p u v/\PP ns u l/\PP ns v r
theorem PP.mono {ns ms:List En.Dop.AV}: ∀ {t:RT} {i:Int},PP ns i t->PP (ns++ms) i t
 | .n x,i,h=>by
  obtain ⟨h0,h1,h2⟩:=h
  have:i.toNat<ns.length:=by simp only [I] at h1;omega
  exact ⟨h0,by simp only [I,List.length_append] at h1 ⊢; omega,by rw [<-h2,lc,lc,el this]⟩
 | .o p l r,i,h=>by
  obtain ⟨h0,h1,u,v,h2,h3,h4⟩:=h
  have:i.toNat<ns.length:=by simp only [I] at h1;omega
  exact ⟨h0,by simp only [I,List.length_append] at h1 ⊢; omega,u,v,by rw [<-h2,lc,lc,el this],h3.mono,h4.mono⟩
theorem OA {k:CK}: ∀ (t:RT) (i:Int) (ns:List En.Dop.AV),TP (CK.t k).nodes i t->(∀ p∈t.ops,p∈At)->(∀ x∈t.BS,0<=x/\x<=1000000)->ns.length+t.sz<8000->
  ∃ j z ms,ms.length=t.sz/\PP (ns++ms) j t/\EC (2*t.sz) i (kk k ns) (.mk j 1 0 0 z) (kk k (ns++ms))
 | .n x,i,ns,ht,hp,hr,hn=>by
  obtain ⟨h0,h1,p,h2⟩:=ht
  exact ⟨_,_,[.mk 1 (-1) (-1) (-1) (-1) [] x 0 0],rfl,⟨by simp only [I];omega,by simp only [I,List.length_append,List.length_singleton];omega,Io _ _⟩,(EC.num ⟨h0,h1⟩ h2 (hr x (List.mem_singleton_self _)) (by omega)).mono (by simp [RT.sz])⟩
 | .o p l r,i,ns,ht,hp,hr,hn=>by
  obtain ⟨h0,h1,u,v,q,h2,h3,h4⟩:=ht
  have hsz:(RT.o p l r).sz=l.sz+r.sz+1:=rfl
  obtain ⟨j1,z1,m1,a1,a2,a3⟩:=OA l u ns h3 (fun q h=>hp q (List.mem_append_left _ h)) (fun x h=>hr x (List.mem_append_left _ h)) (by omega)
  obtain ⟨j2,z2,m2,b1,b2,b3⟩:=OA r v (ns++m1) h4 (fun q h=>hp q (List.mem_append_right _ (mt _ h))) (fun x h=>hr x (List.mem_append_right _ h)) (by rw [List.length_append];omega)
  have e:=EC.bin (hp p (List.mem_append_right _ List.mem_cons_self)) ⟨h0,h1⟩ h2 (d:=2*(l.sz+r.sz)+1) (SC.of (a3.mono (by omega))) (SC.of (b3.mono (by omega))) (by simp only [List.length_append];omega)
  refine ⟨I (ns++m1++m2).length,false,m1++(m2++[Gj p j1 j2]),by simp only [List.length_append,List.length_singleton];omega,?_,?_⟩
  ·rw [<-List.append_assoc,<- List.append_assoc]
   exact ⟨by simp only [I];omega,by simp only [I,List.length_append,List.length_singleton];omega,j1,j2,Io _ _,a2.mono.mono,b2.mono⟩
  ·rw [<-List.append_assoc,<- List.append_assoc]
   exact e.mono (by omega)
end Go.Proofs
namespace Go.Proofs
open Go Go.En Tryz
theorem XC {δ ε β:Type} {x:δ} {y:ε} {k:Unit×(δ×ε×Unit)->Option β}:Option.bind (Wg x y) k=k ((),(x,y,())):=rfl
theorem pq (n:Nat):Tryz.Dy.kR (n+1)=Tryz.Dy.kS (Tryz.Dy.kR n):=rfl
theorem j3 (r:Tryz.Dy.T) (i:Int) (s:CK) (c:CT):Tryz.Bz.kr (Tryz.Dy.kS r) i s c=Tryz.Bz.kf r i s c:=rfl
theorem c6 (r:Tryz.Dy.T) (T:Tryz.Bz.KT) (l:En.Dop.cU) (j:Int) (s:CK) (c:CT):(Tryz.Bz.kS r T).1 l j s c=Tryz.JQ.kB r T l j s c:=rfl
def Sb (d:Nat) (i:Int) (s:CK):Prop:= ∀ n,Tryz.Bz.kr (Tryz.Dy.kR (n+d)) i s C4=Wg s C4
theorem Sb.mono {d e:Nat} {i:Int} {s:CK} (h:Sb d i s) (hd:d<=e):Sb e i s:=fun n=>by
 have:=h (n+(e -d));rwa [show n+(e -d)+d=n+e by omega] at this
theorem Mg (r:Tryz.Dy.T) {s:CK} (l:En.Dop.cU) (h: ∀ j:Nat,j<4->(l.x0::l.x1::l.x2::l.x3::[]).getD j 0<0\/Tryz.Bz.kr r ((l.x0::l.x1::l.x2::l.x3::[]).getD j 0) s C4=Wg s C4): ∀ (m j N:Nat),j+m=4->(Bd (Tryz.Bz.kS r) (N+m+1)).1 l (I j) s C4=Wg s C4
 | 0,j,N,e=>by
  rw [R3,c6]
  unfold Tryz.JQ.kB
  rw [AB (ce (by simp only [I];omega))]
 | m+1,j,N,e=>by
  rw [R3,c6]
  unfold Tryz.JQ.kB
  have hI:(I j+1:Int)=I (j+1):=by simp only [I];omega
  rw [AP (bv (by simp only [I];omega)),AA (bv (by simp only [I];omega)),show (I j).toNat=j from rfl]
  rcases h j (by omega) with h0|h0
  ·rw [AB (ce (by omega)),AA (AN.2 (by simp only [I];omega)),hI]
   exact Mg r l h m (j+1) N (by omega)
  ·by_cases h1:0<=(l.x0::l.x1::l.x2::l.x3::[]).getD j 0
   ·rw [AP (bv h1),h0,XC]
    dsimp only
    rw [AA (AN.2 (by simp only [I];omega)),hI]
    exact Mg r l h m (j+1) N (by omega)
   ·rw [AB (ce h1),AA (AN.2 (by simp only [I];omega)),hI]
    exact Mg r l h m (j+1) N (by omega)
theorem Sb.node {s:CK} {i:Int} {d:Nat} {x:En.Dop.AV} (h0:0<=i/\i<I (CK.t s).nodes.length) (hx:(CK.t s).nodes.getD i.toNat En.Dop.d5=x) (hk:x.kind≠3) (ha:x.a<0\/Sb d x.a s) (hb:x.b<0\/Sb d x.b s) (hc:x.c<0\/Sb d x.c s) (hd:x.d<0\/Sb d x.d s):Sb (d+1) i s:=fun n=>by
 rw [show n+(d+1)=n+d+1 from rfl,pq,j3]
 unfold Tryz.Bz.kf Tryz.Bz.k0 Tryz.C3.k
 dsimp only
 rw [AB (ce (by omega)),AB (ce (show ¬ I (CK.t s).nodes.length<=i by omega)),AA (bv (show 0<=i/\i<I (CK.t s).nodes.length from h0)),CI,hx]
 show ci (decide (x.kind=3)) _ ((Tryz.Bz.kL (Tryz.Dy.kR (n+d)) 1000000).1 (.mk x.a x.b x.c x.d) (I 0) s C4)=_
 rw [AB (ce hk)]
 refine Mg _ _ (fun j hj=>?_) 4 0 999995 rfl
 match j,hj with
 | 0,_=>exact ha.imp id fun h=>h n
 | 1,_=>exact hb.imp id fun h=>h n
 | 2,_=>exact hc.imp id fun h=>h n
 | 3,_=>exact hd.imp id fun h=>h n
theorem OB {s:CK}: ∀ (t:RT) (i:Int),TP (CK.t s).nodes i t->Sb t.sz i s
 | .n x,i,ht=>by
  obtain ⟨h0,h1,p,h2⟩:=ht
  exact Sb.node (d:=0) ⟨h0,h1⟩ h2 (by simp [nN]) (.inl (by simp [nN])) (.inl (by simp [nN])) (.inl (by simp [nN])) (.inl (by simp [nN]))
 | .o p l r,i,ht=>by
  obtain ⟨h0,h1,u,v,q,h2,h3,h4⟩:=ht
  exact Sb.node (d:=l.sz+r.sz) ⟨h0,h1⟩ h2 (by simp [nB]) (.inr ((OB l u h3).mono (by omega))) (.inr ((OB r v h4).mono (by omega))) (.inl (by simp [nB])) (.inl (by simp [nB]))
end Go.Proofs
