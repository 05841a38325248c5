/- EvalRows: a row's source, read. -/
import Derived.Test.YtpjlciengdhjoaaGreatDoorRoJ
import Derived.Test.YtpjlciengdhjoaaGreatDoorRoI
set_option maxRecDepth 1000000
set_option maxHeartbeats 1000000
namespace Go.Proofs
open Go Go.En Tryz
abbrev ic:=List (Nat×En.Dop.Tok)
theorem dec_lt: ∀ (k u:Nat),u<10 ^ (k+1)->(Lib.decDigits u).length<=k+1
 | 0,u,h=>by rw [Lib.decDigits,dif_pos (by omega)];simp
 | k+1,u,h=>by
  rw [Lib.decDigits]
  by_cases h2:u<10
  ·rw [dif_pos h2];simp
  ·rw [dif_neg h2,List.length_append,List.length_singleton]
   have:=dec_lt k (u / 10) (by rw [Nat.pow_succ] at h;omega)
   omega
theorem XL (t:List UInt8):(List.range t.length).map (fun i=>t.getD i 0)=t:=by
 apply List.ext_getElem
 ·simp
 ·intro i h1 h2
  simp only [List.getElem_map,List.getElem_range]
  rw [lc,co h2];rfl
theorem Mt {α δ ε β:Type} {a:α} {x:δ} {y:ε} {k:(α×δ×ε×Unit)×Unit->Option β}:Option.bind (Kd a x y) k=k ((a,x,y,()),()):=rfl
theorem fX {n:Nat} (hn:n<=4294967295) {t:List UInt8} (ht: ∀ d r,t=d::r->Wu d=false) (hl:(Lib.decDigits n++t).length<100000):LX (Lib.decDigits n++t) [(0,.mk 3 (Lib.decDigits n) n 0)] t:=by
 obtain ⟨h1,h2,h3⟩:=cZ n
 have v1:=mI (by rw [List.length_append] at hl;omega) h3 h2 (by rw [h1];omega)
 rw [h1] at v1
 have ha: ∀ x,Uq x->Wu x=true:=fun x hx=>by
  show (P5 x.toNat || Oa x.toNat)=true
  rw [show Oa x.toNat=true by unfold Oa;simp;exact hx,Bool.or_true]
 generalize Lib.decDigits n=w at*
 obtain ⟨c,w,rfl⟩: ∃ c r,w=c::r:=by cases w with|nil=>exact absurd rfl h3|cons c r=>exact ⟨c,r,rfl⟩
 have hc:=h2 c List.mem_cons_self
 refine ⟨gl hc _,bR (by omega) hc (fun x hx=>ha x (h2 x (mt _ hx))) ht v1,?_,?_,?_⟩
 ·simp only [List.length_append,List.length_cons];omega
 ·simp only [List.length_append,List.length_cons];omega
 ·show List.drop (0+(c::w).length) (c::w++t)=t
  rw [Nat.zero_add,List.drop_left]
theorem jR {s:List UInt8} {l:ic} {t:En.Dop.HW} {p:En.Dop.Hm} (hs:s.length<=32768) (hx:LX s l []) (hl:l.length<8192) (hq:Tryz.m20.k (pl 0 l++[.mk 0 [] 0 (I (Jl l))])=Kd t 0 0) (ho:Tryz.Gs.k t=Kd p 0 0):Tryz.m18.k s=Kd p 0 0:=by
 have h41:Tryz.V7.k s=Kd t 0 0:=by
  unfold Tryz.V7.k
  rw [cH hs hx hl,Mt]
  dsimp only
  rw [AB (show (!decide ((0:Int)=0))=false from rfl),hq]
  rfl
 unfold Tryz.m18.k
 rw [h41,Mt]
 dsimp only
 rw [AB (show (!decide ((0:Int)=0))=false from rfl),ho]
 rfl
theorem gn {c:UInt8} (h:Uq c) (t:List UInt8):Tryz.Gt.k (32::c::t)=D8 1 true:=by
 have h1:=dY ⟨c.toNat,c.toNat_lt⟩ h.1 h.2
 rw [show UInt8.ofNat (⟨c.toNat,c.toNat_lt⟩:Fin 256).val=c from UInt8.ofNat_toNat] at h1
 have hne:(c == 47)=false:=by
  rw [beq_eq_false_iff_ne];intro e;subst e;exact absurd h.1 (by decide)
 have hne':((47:UInt8) == c)=false:=by rw [beq_eq_false_iff_ne];intro e;subst e;exact absurd h.1 (by decide)
 have hl:(1:Int)<I (32::c::t).length:=by simp only [I,List.length_cons];omega
 unfold Tryz.Gt.k Tryz.Gt.k0
 show Tryz.I4.kB (Tryz.Gt.kL 999999) (32::c::t) 0=_
 unfold Tryz.I4.kB
 dsimp only
 rw [AP (bv (by omega)),AA (bv (by omega)),AA (bv (by omega)),AA rfl,show (Cz (32::c::t) 0).toNat.toUInt8=32 from rfl,AP (by decide),AA (by decide)]
 show Tryz.I4.kB (Tryz.Gt.kL 999998) (32::c::t) 1=_
 unfold Tryz.I4.kB
 dsimp only
 have hd:List.drop (Int.toNat 1) (List.take (I (32::c::t).length).toNat (32::c::t))=c::t:=by
  rw [show (I (32::c::t).length).toNat=(32::c::t).length from rfl,List.take_length];rfl
 have hs:(Cz (32::c::t) 1).toNat.toUInt8=c:=by
  show ((c.toNat:Int)).toNat.toUInt8=c
  rw [Int.toNat_natCast];exact UInt8.ofNat_toNat
 rw [AP (bv hl),AA (bv (by omega)),AA (bv (by omega)),AA rfl,hs,h1,AB (by rfl),AA rfl,hd]
 rw [show Lib.hasPrefix (c::t) [47,47]=false by simp [Lib.hasPrefix,List.isPrefixOf,hne'],AB rfl,AA rfl,show Lib.hasPrefix (c::t) [47,42]=false by simp [Lib.hasPrefix,List.isPrefixOf,hne'],AB rfl]
theorem Uu {n:Nat} (hn:n<=4294967295) {t:List UInt8} (ht: ∀ d r,t=d::r->Wu d=false) (hl:(Lib.decDigits n++t).length<100000):LX (32::(Lib.decDigits n++t)) [(1,.mk 3 (Lib.decDigits n) n 0)] t:=by
 obtain ⟨_,h2,h3⟩:=cZ n
 obtain ⟨_,a2,a3,a4,a5⟩:=fX hn ht hl
 generalize Lib.decDigits n=w at*
 obtain ⟨c,w,rfl⟩: ∃ c r,w=c::r:=by cases w with|nil=>exact absurd rfl h3|cons c r=>exact ⟨c,r,rfl⟩
 exact ⟨gn (h2 c List.mem_cons_self) _,a2,by simp only [List.length_cons,List.length_append] at a3 ⊢; omega,by simp only [List.length_cons,List.length_append];omega,by
  show LX (List.drop (1+(c::w).length) (32::(c::w++t))) [] t
  rw [Nat.add_comm,List.drop_succ_cons,List.drop_left];rfl⟩
theorem ZS {β:Type} {g h:Nat->β} {k n:Nat} (hk:k<n) (e:(List.range n).map g=(List.range n).map h):g k=h k:=by
 have:=congrArg (fun z=>z[k]?) e
 simpa [hk] using this
def Qi:List (List UInt8)->List Int->List UInt8
 | o::l,x::v=>32::(o++32::(Lib.decDigits x.toNat++Qi l v))
 | _,_=>[]
def Zh:List (List UInt8)->List Int->ic
 | o::l,x::v=>(1,.mk 4 o 0 0)::(1,.mk 3 (Lib.decDigits x.toNat) x 0)::Zh l v
 | _,_=>[]
abbrev VL:ic:=[(0,.mk 2 [105,110,116] 0 0),(1,.mk 1 [109,97,105,110] 0 0),(0,.mk 4 [40] 0 0),(0,.mk 4 [41] 0 0),(0,.mk 4 [123] 0 0),(0,.mk 2 [114,101,116,117,114,110] 0 0)]
abbrev R7:ic:=[(0,.mk 4 [59] 0 0),(0,.mk 4 [125] 0 0)]
abbrev dS:List UInt8:=[59,125]
abbrev ZT:List UInt8:=[105,110,116,32,109,97,105,110,40,41,123,114,101,116,117,114,110]
theorem VO: ∀ p∈At,p.length<=2:=by decide+kernel
theorem Md: ∀ (l:List (List UInt8)) (v:List Int),(∀ p∈l,p∈At)->(∀ x∈v,0<=x/\x<=1000000)->(Qi l v).length<=11*l.length
 | [],_,_,_=>by simp [Qi]
 | o::l,[],_,_=>by simp [Qi]
 | o::l,x::v,hp,hr=>by
  have h1:=Md l v (fun p h=>hp p (mt _ h)) (fun p h=>hr p (mt _ h))
  have h2:=VO o (hp o List.mem_cons_self)
  have h3:=hr x List.mem_cons_self
  have h4:=dec_lt 6 x.toNat (by simp;omega)
  simp only [Qi,List.length_cons,List.length_append];omega
theorem Wv (l:List (List UInt8)) (v:List Int): ∀ d r,Qi l v++dS=d::r->Wu d=false:=by
 intro d r h
 have e:d=32\/d=59:=by
  unfold Qi at h
  split at h
  ·cases h;exact .inl rfl
  ·cases h;exact .inr rfl
 rcases e with rfl|rfl<;>decide
theorem dE: ∀ (l:List (List UInt8)) (v:List Int),v.length=l.length->l.length<=12->(∀ p∈l,p∈At)->(∀ x∈v,0<=x/\x<=1000000)->LX (Qi l v++dS) (Zh l v++R7) []
 | [],[],_,_,_,_=>QE (k:=2) (by kernel_rfl)
 | o::l,x::v,hl,hk,hp,hr=>by
  have hv:v.length=l.length:=by simpa using hl
  have hp': ∀ p∈l,p∈At:=fun p h=>hp p (mt _ h)
  have hr': ∀ p∈v,0<=p/\p<=1000000:=fun p h=>hr p (mt _ h)
  have h0:=dE l v hv (by simp at hk;omega) hp' hr'
  have h1:=Md l v hp' hr'
  have h3:=hr x List.mem_cons_self
  have h4:=dec_lt 6 x.toNat (by simp;omega)
  have hL:(Lib.decDigits x.toNat++(Qi l v++dS)).length<140:=by
   simp only [List.length_append,List.length_cons,List.length_nil] at hk ⊢; omega
  have h5:=Uu (n:=x.toNat) (by omega) (Wv l v) (by omega)
  rw [Int.toNat_of_nonneg h3.1] at h5
  have h7:=ZS hL (n7 (hp o List.mem_cons_self) (fun i=>(Lib.decDigits x.toNat++(Qi l v++dS)).getD i 0))
  rw [XL] at h7
  have h8:=LX.app (QE h7) (LX.app h5 h0)
  simpa only [Qi,Zh,List.cons_append,List.nil_append,List.append_assoc] using h8
def jD:Prop:= ∀ f:Nat->UInt8,((List.range 150).map fun k=>kT 6 (ZT++32::(List.range k).map f))=(List.range 150).map fun k=>some (VL,32::(List.range k).map f)
theorem gW:jD:=fun f=>by kernel_rfl
end Go.Proofs
