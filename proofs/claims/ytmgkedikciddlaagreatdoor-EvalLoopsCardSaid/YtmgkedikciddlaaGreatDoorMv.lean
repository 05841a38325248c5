/- EvalLoops: the six sources, scanned. -/
import Derived.Test.YtmgkedikciddlaaGreatDoorMu
set_option linter.all false
set_option maxRecDepth 1000000
set_option maxHeartbeats 1000000
namespace Go.Proofs.Tryz
open Go Go.En
abbrev KP:=List (Nat×Dop.Tok)
def tq1 (n:Nat) (w:List UInt8):Nat×Dop.Tok:=(n,.mk 1 w 0 0)
def tq2 (n:Nat) (w:List UInt8):Nat×Dop.Tok:=(n,.mk 2 w 0 0)
def tq3 (n:Nat) (w:List UInt8) (v:Int):Nat×Dop.Tok:=(n,.mk 3 w v 0)
def tq4 (n:Nat) (w:List UInt8):Nat×Dop.Tok:=(n,.mk 4 w 0 0)
theorem dec_lt: ∀ (k u:Nat),u<10 ^ (k+1)->(Lib.decDigits u).length<=k+1
 | 0,u,h=>by rw [Lib.decDigits,dif_pos (by omega)];simp
 | k+1,u,h=>by
  rw [Lib.decDigits]
  by_cases h2:u<10
  ·rw [dif_pos h2];simp
  ·rw [dif_neg h2,List.length_append,List.length_singleton]
   have:=dec_lt k (u / 10) (by rw [Nat.pow_succ] at h;omega)
   omega
theorem mL {u:Nat}: ∃ c w,Lib.decDigits u=c::w/\Uo c:=by
 obtain ⟨_,h2,h3⟩:=cu u
 generalize Lib.decDigits u=l at*
 cases l with
 | nil=>exact absurd rfl h3
 | cons c r=>exact ⟨c,r,rfl,h2 c List.mem_cons_self⟩
theorem Wv (t:List UInt8):(List.range t.length).map (fun i=>t.getD i 0)=t:=by
 apply List.ext_getElem
 ·simp
 ·intro i h1 h2
  simp only [List.getElem_map,List.getElem_range]
  rw [List.getD_eq_getElem?_getD,List.getElem?_eq_getElem h2];rfl
theorem Mg {α δ ε β:Type} {a:α} {x:δ} {y:ε} {k:(α×δ×ε×Unit)×Unit->Option β}:Option.bind (HJ a x y) k=k ((a,x,y,()),()):=rfl
def S8 (l:KP) (i:Nat):Int:=Dop.Tok.at_ (List.getD (pl 0 l) i (.mk 0 [] 0 0))
theorem fV {n:Nat} (hn:n<=4294967295) {t:List UInt8} (ht: ∀ d r,t=d::r->Zm d=false) (hl:(Lib.decDigits n++t).length<100000):LX (Lib.decDigits n++t) [(0,.mk 3 (Lib.decDigits n) n 0)] t:=by
 obtain ⟨h1,h2,h3⟩:=cu n
 have v1:=lZ (by rw [List.length_append] at hl;omega) h3 h2 (by rw [h1];omega)
 rw [h1] at v1
 have ha: ∀ x,Uo x->Zm x=true:=fun x hx=>by
  show (Pp x.toNat || OP x.toNat)=true
  rw [show OP x.toNat=true by unfold OP;simp;exact hx,Bool.or_true]
 generalize Lib.decDigits n=w at*
 obtain ⟨c,w,rfl⟩: ∃ c r,w=c::r:=by cases w with|nil=>exact absurd rfl h3|cons c r=>exact ⟨c,r,rfl⟩
 have hc:=h2 c List.mem_cons_self
 refine ⟨gO hc _,bp (by omega) hc (fun x hx=>ha x (h2 x (List.mem_cons_of_mem _ hx))) ht v1,?_,?_,?_⟩
 ·simp only [List.length_append,List.length_cons];omega
 ·simp only [List.length_append,List.length_cons];omega
 ·show List.drop (0+(c::w).length) (c::w++t)=t
  rw [Nat.zero_add,List.drop_left]
theorem Oy {B G Z:List UInt8} {K Q J:KP} {m nJ L:Nat} (hB: ∀ f:Nat->UInt8,((List.range 3).map fun k=>iK m (B++(G++(List.range (L+1+k)).map f)))=(List.range 3).map fun k=>some (K,G++(List.range (L+1+k)).map f)) (hG: ∀ f:Nat->UInt8,((List.range 30).map fun k=>iK 1 (G++UInt8.ofNat (48+k % 10)::(List.range (L+k / 10)).map f))=(List.range 30).map fun k=>some (Q,UInt8.ofNat (48+k % 10)::(List.range (L+k / 10)).map f)) (hL:Z.length=L) (h9:L<90000)
  (hz:Zm (Z.headD 0)=false) (hj:iK nJ Z=some (J,[])) {u:Nat} (hu:u<200):LX (B++(G++(Lib.decDigits u++Z))) (K++(Q++([(0,.mk 3 (Lib.decDigits u) u 0)]++J))) []:=by
 have hl:=dec_lt 2 u (by omega)
 obtain ⟨c,w,e,hc⟩:=mL (u:=u)
 have hc0:48<=c.toNat:=hc.1
 have hc1:c.toNat<=57:=hc.2
 rw [e,List.length_cons] at hl
 have ht:(w++Z).length=L+w.length:=by rw [List.length_append,hL];omega
 have h1:=List.map_inj_left.1 (hB fun i=>(c::(w++Z)).getD i 0) w.length (List.mem_range.2 (by omega))
 have h2:=List.map_inj_left.1 (hG fun i=>(w++Z).getD i 0) (10*w.length+(c.toNat -48)) (List.mem_range.2 (by omega))
 rw [show L+1+w.length=(c::(w++Z)).length by rw [List.length_cons];omega,Wv] at h1
 rw [show 48+(10*w.length+(c.toNat -48)) % 10=c.toNat by omega,show L+(10*w.length+(c.toNat -48)) / 10=(w++Z).length by omega,Wv,show UInt8.ofNat c.toNat=c from UInt8.ofNat_toNat] at h2
 have h3:=fV (n:=u) (t:=Z) (by omega) (fun d r h=>by rw [h] at hz;exact hz) (by rw [List.length_append,e,List.length_cons];omega)
 rw [e] at h3 ⊢
 exact LX.app (QC h1) (LX.app (QC h2) (LX.app h3 (QC hj)))
theorem ik {s:List UInt8} {l:KP} {t:Dop.FM} {p:Dop.Gu} (hs:s.length<=32768) (hx:LX s l []) (hl:l.length<8192) (hq:m20.k (pl 0 l++[.mk 0 [] 0 (I (I1 l))])=HJ t 0 0) (ho:HE.k t=HJ p 0 0):m18.k s=HJ p 0 0:=by
 have h41:V2.k s=HJ t 0 0:=by
  unfold V2.k
  rw [cS hs hx hl,Mg]
  dsimp only
  rw [AA (show (!decide ((0:Int)=0))=false from rfl),hq]
  rfl
 unfold m18.k
 rw [h41,Mg]
 dsimp only
 rw [AA (show (!decide ((0:Int)=0))=false from rfl),ho]
 rfl
def Pz:List UInt8:=[105,110,116,32,109,97,105,110,40,41,123,105,110,116,32,105,59,105,110,116,32,115,61,48,59,102,111,114,40,105,61,48,59,105]
def P5:List UInt8:=[60]
def Ro:List UInt8:=[59,105,43,43,41,115,43,61,105,59,114,101,116,117,114,110,32,115,59,125]
def mb:KP:=[tq2 0 [105,110,116],tq1 1 [109,97,105,110],tq4 0 [40],tq4 0 [41],tq4 0 [123],tq2 0 [105,110,116],tq1 1 [105],tq4 0 [59],tq2 0 [105,110,116],tq1 1 [115],tq4 0 [61],tq3 0 [48] 0,tq4 0 [59],tq2 0 [102,111,114],tq4 0 [40],tq1 0 [105],tq4 0 [61],tq3 0 [48] 0,tq4 0 [59],tq1 0 [105]]
def mv:KP:=[tq4 0 [60]]
def mj:KP:=[tq4 0 [59],tq1 0 [105],tq4 0 [43,43],tq4 0 [41],tq1 0 [115],tq4 0 [43,61],tq1 0 [105],tq4 0 [59],tq2 0 [114,101,116,117,114,110],tq1 1 [115],tq4 0 [59],tq4 0 [125]]
def au (w:List UInt8) (n:Int):KP:=mb++(mv++([(0,.mk 3 w n 0)]++mj))
theorem jz {u:Nat} (hu:u<200):LX (Pz++(P5++(Lib.decDigits u++Ro))) (au (Lib.decDigits u) u) []:=
 Oy (m:=20) (nJ:=12) (L:=20) (fun _=>by kernel_rfl) (fun _=>by kernel_rfl) rfl (by decide) rfl (by kernel_rfl) hu
def P0:List UInt8:=[105,110,116,32,109,97,105,110,40,41,123,105,110,116,32,105,61,48,59,105,110,116,32,115,61,48,59,119,104,105,108,101,40,105]
def P6:List UInt8:=[60]
def Rp:List UInt8:=[41,123,115,43,61,105,59,43,43,105,59,125,114,101,116,117,114,110,32,115,59,125]
def mc:KP:=[tq2 0 [105,110,116],tq1 1 [109,97,105,110],tq4 0 [40],tq4 0 [41],tq4 0 [123],tq2 0 [105,110,116],tq1 1 [105],tq4 0 [61],tq3 0 [48] 0,tq4 0 [59],tq2 0 [105,110,116],tq1 1 [115],tq4 0 [61],tq3 0 [48] 0,tq4 0 [59],tq2 0 [119,104,105,108,101],tq4 0 [40],tq1 0 [105]]
def mw:KP:=[tq4 0 [60]]
def ml:KP:=[tq4 0 [41],tq4 0 [123],tq1 0 [115],tq4 0 [43,61],tq1 0 [105],tq4 0 [59],tq4 0 [43,43],tq1 0 [105],tq4 0 [59],tq4 0 [125],tq2 0 [114,101,116,117,114,110],tq1 1 [115],tq4 0 [59],tq4 0 [125]]
def av (w:List UInt8) (n:Int):KP:=mc++(mw++([(0,.mk 3 w n 0)]++ml))
theorem j3 {u:Nat} (hu:u<200):LX (P0++(P6++(Lib.decDigits u++Rp))) (av (Lib.decDigits u) u) []:=
 Oy (m:=18) (nJ:=14) (L:=22) (fun _=>by kernel_rfl) (fun _=>by kernel_rfl) rfl (by decide) rfl (by kernel_rfl) hu
def P1:List UInt8:=[105,110,116,32,109,97,105,110,40,41,123,105,110,116,32,105,61,48,59,105,110,116,32,115,61,48,59,100,111,123,105,102,40,105]
def P7:List UInt8:=[62,61]
def Rq:List UInt8:=[41,98,114,101,97,107,59,115,43,61,105,59,105,43,61,49,59,125,119,104,105,108,101,40,49,41,59,114,101,116,117,114,110,32,115,59,125]
def me:KP:=[tq2 0 [105,110,116],tq1 1 [109,97,105,110],tq4 0 [40],tq4 0 [41],tq4 0 [123],tq2 0 [105,110,116],tq1 1 [105],tq4 0 [61],tq3 0 [48] 0,tq4 0 [59],tq2 0 [105,110,116],tq1 1 [115],tq4 0 [61],tq3 0 [48] 0,tq4 0 [59],tq2 0 [100,111],tq4 0 [123],tq2 0 [105,102],tq4 0 [40],tq1 0 [105]]
def my:KP:=[tq4 0 [62,61]]
def mm:KP:=[tq4 0 [41],tq2 0 [98,114,101,97,107],tq4 0 [59],tq1 0 [115],tq4 0 [43,61],tq1 0 [105],tq4 0 [59],tq1 0 [105],tq4 0 [43,61],tq3 0 [49] 1,tq4 0 [59],tq4 0 [125],tq2 0 [119,104,105,108,101],tq4 0 [40],tq3 0 [49] 1,tq4 0 [41],tq4 0 [59],tq2 0 [114,101,116,117,114,110],tq1 1 [115],tq4 0 [59],tq4 0 [125]]
def aw (w:List UInt8) (n:Int):KP:=me++(my++([(0,.mk 3 w n 0)]++mm))
theorem j4 {u:Nat} (hu:u<200):LX (P1++(P7++(Lib.decDigits u++Rq))) (aw (Lib.decDigits u) u) []:=
 Oy (m:=20) (nJ:=21) (L:=37) (fun _=>by kernel_rfl) (fun _=>by kernel_rfl) rfl (by decide) rfl (by kernel_rfl) hu
def P2:List UInt8:=[105,110,116,32,109,97,105,110,40,41,123,105,110,116,32,105,61,48,59,105,110,116,32,115,61,48,59,97,58,105,102,40,105]
def P8:List UInt8:=[62,61]
def Rr:List UInt8:=[41,103,111,116,111,32,98,59,115,61,115,43,105,43,43,59,103,111,116,111,32,97,59,98,58,114,101,116,117,114,110,32,115,59,125]
def mg:KP:=[tq2 0 [105,110,116],tq1 1 [109,97,105,110],tq4 0 [40],tq4 0 [41],tq4 0 [123],tq2 0 [105,110,116],tq1 1 [105],tq4 0 [61],tq3 0 [48] 0,tq4 0 [59],tq2 0 [105,110,116],tq1 1 [115],tq4 0 [61],tq3 0 [48] 0,tq4 0 [59],tq1 0 [97],tq4 0 [58],tq2 0 [105,102],tq4 0 [40],tq1 0 [105]]
def mz:KP:=[tq4 0 [62,61]]
def mn:KP:=[tq4 0 [41],tq2 0 [103,111,116,111],tq1 1 [98],tq4 0 [59],tq1 0 [115],tq4 0 [61],tq1 0 [115],tq4 0 [43],tq1 0 [105],tq4 0 [43,43],tq4 0 [59],tq2 0 [103,111,116,111],tq1 1 [97],tq4 0 [59],tq1 0 [98],tq4 0 [58],tq2 0 [114,101,116,117,114,110],tq1 1 [115],tq4 0 [59],tq4 0 [125]]
def ax (w:List UInt8) (n:Int):KP:=mg++(mz++([(0,.mk 3 w n 0)]++mn))
theorem j5 {u:Nat} (hu:u<200):LX (P2++(P8++(Lib.decDigits u++Rr))) (ax (Lib.decDigits u) u) []:=
 Oy (m:=20) (nJ:=20) (L:=35) (fun _=>by kernel_rfl) (fun _=>by kernel_rfl) rfl (by decide) rfl (by kernel_rfl) hu
def P3:List UInt8:=[105,110,116,32,102,40,105,110,116,32,105,41,123,114,101,116,117,114,110,32,105,60,61,48,63,48,58,105,45,49,43,102,40,105,45,49,41,59,125,105,110,116,32,109,97,105,110,40,41,123,114,101,116,117,114,110,32,102]
def P9:List UInt8:=[40]
def Rs:List UInt8:=[41,59,125]
def mh:KP:=[tq2 0 [105,110,116],tq1 1 [102],tq4 0 [40],tq2 0 [105,110,116],tq1 1 [105],tq4 0 [41],tq4 0 [123],tq2 0 [114,101,116,117,114,110],tq1 1 [105],tq4 0 [60,61],tq3 0 [48] 0,tq4 0 [63],tq3 0 [48] 0,tq4 0 [58],tq1 0 [105],tq4 0 [45],tq3 0 [49] 1,tq4 0 [43],tq1 0 [102],tq4 0 [40],tq1 0 [105],tq4 0 [45],tq3 0 [49] 1,tq4 0 [41],tq4 0 [59],tq4 0 [125],tq2 0 [105,110,116],tq1 1 [109,97,105,110],tq4 0 [40],tq4 0 [41],tq4 0 [123],tq2 0 [114,101,116,117,114,110],tq1 1 [102]]
def nA:KP:=[tq4 0 [40]]
def mq:KP:=[tq4 0 [41],tq4 0 [59],tq4 0 [125]]
def ay (w:List UInt8) (n:Int):KP:=mh++(nA++([(0,.mk 3 w n 0)]++mq))
theorem j6 {u:Nat} (hu:u<200):LX (P3++(P9++(Lib.decDigits u++Rs))) (ay (Lib.decDigits u) u) []:=
 Oy (m:=33) (nJ:=3) (L:=3) (fun _=>by kernel_rfl) (fun _=>by kernel_rfl) rfl (by decide) rfl (by kernel_rfl) hu
def P4:List UInt8:=[105,110,116,32,115,59,105,110,116,32,109,97,105,110,40,41,123,105,110,116,32,105,59,105,110,116,42,112,61,38,115,59,102,111,114,40,105]
def QA:List UInt8:=[61]
def Rt:List UInt8:=[59,105,45,45,59,41,123,105,102,40,33,105,41,99,111,110,116,105,110,117,101,59,42,112,43,61,105,59,125,114,101,116,117,114,110,32,115,59,125]
def mi:KP:=[tq2 0 [105,110,116],tq1 1 [115],tq4 0 [59],tq2 0 [105,110,116],tq1 1 [109,97,105,110],tq4 0 [40],tq4 0 [41],tq4 0 [123],tq2 0 [105,110,116],tq1 1 [105],tq4 0 [59],tq2 0 [105,110,116],tq4 0 [42],tq1 0 [112],tq4 0 [61],tq4 0 [38],tq1 0 [115],tq4 0 [59],tq2 0 [102,111,114],tq4 0 [40],tq1 0 [105]]
def nB:KP:=[tq4 0 [61]]
def mu:KP:=[tq4 0 [59],tq1 0 [105],tq4 0 [45,45],tq4 0 [59],tq4 0 [41],tq4 0 [123],tq2 0 [105,102],tq4 0 [40],tq4 0 [33],tq1 0 [105],tq4 0 [41],tq2 0 [99,111,110,116,105,110,117,101],tq4 0 [59],tq4 0 [42],tq1 0 [112],tq4 0 [43,61],tq1 0 [105],tq4 0 [59],tq4 0 [125],tq2 0 [114,101,116,117,114,110],tq1 1 [115],tq4 0 [59],tq4 0 [125]]
def az (w:List UInt8) (n:Int):KP:=mi++(nB++([(0,.mk 3 w n 0)]++mu))
theorem j7 {u:Nat} (hu:u<200):LX (P4++(QA++(Lib.decDigits u++Rt))) (az (Lib.decDigits u) u) []:=
 Oy (m:=21) (nJ:=23) (L:=39) (fun _=>by kernel_rfl) (fun _=>by kernel_rfl) rfl (by decide) rfl (by kernel_rfl) hu
end Go.Proofs.Tryz
namespace Go.Proofs.Tryz
open Go Go.En
def z0 (k n:Int):Dop.Ab:=.mk k (-1) (-1) (-1) (-1) [] n 0 0
def z1 (k a n:Int):Dop.Ab:=.mk k a (-1) (-1) (-1) [] n 0 0
def z2 (k a b n:Int):Dop.Ab:=.mk k a b (-1) (-1) [] n 0 0
def e0 (k:Int) (t:List UInt8) (n p:Int):Dop.Ab:=.mk k (-1) (-1) (-1) (-1) t n 0 p
def e1 (k a:Int) (t:List UInt8) (p:Int):Dop.Ab:=.mk k a (-1) (-1) (-1) t 0 0 p
def e2 (k a b:Int) (t:List UInt8) (p:Int):Dop.Ab:=.mk k a b (-1) (-1) t 0 0 p
def YQ (n:Int) (p:Nat->Int):Dop.FM:=.mk [.mk 45 (-1) (-1) (-1) (-1) [105] 0 1 11,e0 1 [] 0 23,.mk 45 1 (-1) (-1) (-1) [115] 0 1 17,e0 2 [105] 0 29,e0 1 [] 0 31,e2 5 3 4 [61] 30,e0 2 [105] 0 33,e0 1 [] n 35,e2 4 6 7 [60] 34,e0 2 [105] 0 (p 1),e1 13 9 [43,43] (p 2),e0 2 [115] 0 (p 4),e0 2 [105] 0 (p 6),e2 5 11 12 [43,61] (p 5),e1 30 13 [] (p 4),.mk 34 5 8 10 14 [] 0 0 25,e0 2 [115] 0 (p 9),e1 37 16 [] (p 8),e1 20 17 [] (p 8),e2 20 15 18 [] 25,e2 20 2 19 [] 17,e2 20 0 20 [] 11,e1 43 21 [] 10,.mk 50 (-1) 22 (-1) (-1) [109,97,105,110] 0 1 0,z1 20 23 0] [.mk 0 0 0 [],.mk 1 0 0 [],.mk 2 0 0 [],.mk 3 0 0 []] 24
def Rl (k:Int):Dop.Gu:=.mk [.mk [109,97,105,110] 0 3 0 37] [] 1 [z0 1 0,z1 6 0 0,z1 30 1 0,z0 1 0,z1 6 3 1,z1 30 4 0,z0 2 0,z0 1 0,z1 6 7 0,z0 2 0,z0 1 k,z2 8 9 10 16,z0 2 0,z0 2 0,z1 6 13 2,z0 2 2,z0 1 1,z2 8 15 16 1,z1 6 17 0,z0 2 2,z2 15 18 19 0,z2 15 14 20 0,z0 2 1,z0 2 1,z0 2 0,z2 8 23 24 1,z1 6 25 1,z1 30 26 0,.mk 34 8 11 21 27 [] 0 0 0,z0 2 1,z1 37 29 0,z1 20 30 0,z2 20 28 31 0,z2 20 5 32 0,z2 20 2 33 0,z1 43 34 0,z1 20 35 0,z1 43 36 0]
theorem jl (w:List UInt8) (n:Int):m20.k (pl 0 (au w n)++[.mk 0 [] 0 (I (I1 (au w n)))])=HJ (YQ n fun j=>S8 (au w n) (22+j)) 0 0:=by kernel_rfl
def YR (n:Int) (p:Nat->Int):Dop.FM:=.mk [e0 1 [] 0 17,.mk 45 0 (-1) (-1) (-1) [105] 0 1 11,e0 1 [] 0 25,.mk 45 2 (-1) (-1) (-1) [115] 0 1 19,e0 2 [105] 0 33,e0 1 [] n 35,e2 4 4 5 [60] 34,e0 2 [115] 0 (p 2),e0 2 [105] 0 (p 4),e2 5 7 8 [43,61] (p 3),e1 30 9 [] (p 2),e0 2 [105] 0 (p 7),e1 12 11 [43,43] (p 6),e1 30 12 [] (p 6),e1 20 13 [] (p 6),e2 20 10 14 [] (p 2),e1 43 15 [] (p 1),e2 32 6 16 [] 27,e0 2 [115] 0 (p 11),e1 37 18 [] (p 10),e1 20 19 [] (p 10),e2 20 17 20 [] 27,e2 20 3 21 [] 19,e2 20 1 22 [] 11,e1 43 23 [] 10,.mk 50 (-1) 24 (-1) (-1) [109,97,105,110] 0 1 0,z1 20 25 0] [.mk 0 0 0 [],.mk 1 0 0 [],.mk 2 0 0 [],.mk 3 0 0 []] 26
def Rm (k:Int):Dop.Gu:=.mk [.mk [109,97,105,110] 0 2 0 33] [] 1 [z0 1 0,z1 6 0 0,z1 30 1 0,z0 1 0,z1 6 3 1,z1 30 4 0,z0 2 0,z0 1 k,z2 8 6 7 16,z0 2 1,z0 2 1,z0 2 0,z2 8 10 11 1,z1 6 12 1,z1 30 13 0,z0 2 0,z0 2 0,z0 1 1,z2 8 16 17 1,z1 6 18 0,z1 30 19 0,z1 20 20 0,z2 20 14 21 0,z1 43 22 0,z2 32 8 23 0,z0 2 1,z1 37 25 0,z1 20 26 0,z2 20 24 27 0,z2 20 5 28 0,z2 20 2 29 0,z1 43 30 0,z1 20 31 0,z1 43 32 0]
theorem jm (w:List UInt8) (n:Int):m20.k (pl 0 (av w n)++[.mk 0 [] 0 (I (I1 (av w n)))])=HJ (YR n fun j=>S8 (av w n) (20+j)) 0 0:=by kernel_rfl
def YS (n:Int) (p:Nat->Int):Dop.FM:=.mk [e0 1 [] 0 17,.mk 45 0 (-1) (-1) (-1) [105] 0 1 11,e0 1 [] 0 25,.mk 45 2 (-1) (-1) (-1) [115] 0 1 19,e0 2 [105] 0 33,e0 1 [] n 36,e2 4 4 5 [62,61] 34,e0 35 [] 0 (p 1),e2 31 6 7 [] 30,e0 2 [115] 0 (p 3),e0 2 [105] 0 (p 5),e2 5 9 10 [43,61] (p 4),e1 30 11 [] (p 3),e0 2 [105] 0 (p 7),e0 1 [] 1 (p 9),e2 5 13 14 [43,61] (p 8),e1 30 15 [] (p 7),e1 20 16 [] (p 7),e2 20 12 17 [] (p 3),e2 20 8 18 [] 30,e1 43 19 [] 29,e0 1 [] 1 (p 14),e2 33 21 20 [] 27,e0 2 [115] 0 (p 18),e1 37 23 [] (p 17),e1 20 24 [] (p 17),e2 20 22 25 [] 27,e2 20 3 26 [] 19,e2 20 1 27 [] 11,e1 43 28 [] 10,.mk 50 (-1) 29 (-1) (-1) [109,97,105,110] 0 1 0,z1 20 30 0] [.mk 0 0 0 [],.mk 1 0 0 [],.mk 2 0 0 [],.mk 3 0 0 []] 31
def QB (k:Int):Dop.Gu:=.mk [.mk [109,97,105,110] 0 2 0 37] [] 1 [z0 1 0,z1 6 0 0,z1 30 1 0,z0 1 0,z1 6 3 1,z1 30 4 0,z0 2 0,z0 1 k,z2 8 7 6 17,z0 35 0,z2 31 8 9 0,z0 2 1,z0 2 1,z0 2 0,z2 8 12 13 1,z1 6 14 1,z1 30 15 0,z0 2 0,z0 2 0,z0 1 1,z2 8 18 19 1,z1 6 20 0,z1 30 21 0,z1 20 22 0,z2 20 16 23 0,z2 20 10 24 0,z1 43 25 0,z0 1 1,z2 33 27 26 0,z0 2 1,z1 37 29 0,z1 20 30 0,z2 20 28 31 0,z2 20 5 32 0,z2 20 2 33 0,z1 43 34 0,z1 20 35 0,z1 43 36 0]
theorem jn (w:List UInt8) (n:Int):m20.k (pl 0 (aw w n)++[.mk 0 [] 0 (I (I1 (aw w n)))])=HJ (YS n fun j=>S8 (aw w n) (22+j)) 0 0:=by kernel_rfl
def YT (n:Int) (p:Nat->Int):Dop.FM:=.mk [e0 1 [] 0 17,.mk 45 0 (-1) (-1) (-1) [105] 0 1 11,e0 1 [] 0 25,.mk 45 2 (-1) (-1) (-1) [115] 0 1 19,e0 2 [105] 0 32,e0 1 [] n 35,e2 4 4 5 [62,61] 33,e0 38 [98] 0 (p 1),e2 31 6 7 [] 29,e1 39 8 [97] 27,e0 2 [115] 0 (p 4),e0 2 [115] 0 (p 6),e0 2 [105] 0 (p 8),e1 13 12 [43,43] (p 9),e2 4 11 13 [43] (p 7),e2 5 10 14 [61] (p 5),e1 30 15 [] (p 4),e0 38 [97] 0 (p 11),e0 2 [115] 0 (p 17),e1 37 18 [] (p 16),e1 39 19 [98] (p 14),e1 20 20 [] (p 14),e2 20 17 21 [] (p 11),e2 20 16 22 [] (p 4),e2 20 9 23 [] 27,e2 20 3 24 [] 19,e2 20 1 25 [] 11,e1 43 26 [] 10,.mk 50 (-1) 27 (-1) (-1) [109,97,105,110] 0 1 0,z1 20 28 0] [.mk 0 0 0 [],.mk 1 0 0 [],.mk 2 0 0 [],.mk 3 0 0 []] 29
def Tk (k:Int):Dop.Gu:=.mk [.mk [109,97,105,110] 0 3 0 39] [] 1 [z0 1 0,z1 6 0 0,z1 30 1 0,z0 1 0,z1 6 3 1,z1 30 4 0,z0 2 0,z0 1 k,z2 8 7 6 17,e0 38 [98] 0 0,z2 31 8 9 0,e1 39 10 [97] 0,z0 2 1,z0 2 1,z0 2 0,z0 2 0,z1 6 15 2,z0 2 2,z0 1 1,z2 8 17 18 1,z1 6 19 0,z0 2 2,z2 15 20 21 0,z2 15 16 22 0,z2 8 13 23 1,z1 6 24 1,z1 30 25 0,e0 38 [97] 0 0,z0 2 1,z1 37 28 0,e1 39 29 [98] 0,z1 20 30 0,z2 20 27 31 0,z2 20 26 32 0,z2 20 11 33 0,z2 20 5 34 0,z2 20 2 35 0,z1 43 36 0,z1 20 37 0,z1 43 38 0]
theorem jo (w:List UInt8) (n:Int):m20.k (pl 0 (ax w n)++[.mk 0 [] 0 (I (I1 (ax w n)))])=HJ (YT n fun j=>S8 (ax w n) (22+j)) 0 0:=by kernel_rfl
def YU (n:Int) (_:Nat->Int):Dop.FM:=.mk [.mk 51 (-1) (-1) (-1) (-1) [105] 0 1 6,e1 20 0 [] 6,e0 2 [105] 0 20,e0 1 [] 0 23,e2 4 2 3 [60,61] 21,e0 1 [] 0 25,e0 2 [105] 0 27,e0 1 [] 1 29,e2 4 6 7 [45] 28,e0 2 [105] 0 33,e0 1 [] 1 35,e2 4 9 10 [45] 34,e1 20 11 [] 34,e1 9 12 [102] 31,e2 4 8 13 [43] 30,.mk 6 4 5 14 (-1) [] 0 0 24,e1 37 15 [] 13,e1 20 16 [] 13,e1 43 17 [] 12,.mk 50 1 18 (-1) (-1) [102] 0 1 0,e0 1 [] n 59,e1 20 20 [] 59,e1 9 21 [102] 57,e1 37 22 [] 50,e1 20 23 [] 50,e1 43 24 [] 49,.mk 50 (-1) 25 (-1) (-1) [109,97,105,110] 0 1 39,e1 20 26 [] 39,z2 20 19 27 0] [.mk 0 0 0 [],.mk 1 0 0 [],.mk 2 0 0 [],.mk 3 0 0 []] 28
def Tl (k:Int):Dop.Gu:=.mk [.mk [102] 1 1 0 18,.mk [109,97,105,110] 0 0 0 26] [] 1 [z0 2 0,z0 1 0,z2 8 0 1 17,z0 1 0,z0 2 0,z0 1 1,z2 8 4 5 2,z0 2 0,z0 1 1,z2 8 7 8 2,z1 20 9 0,e1 12 10 [102] 0,z2 8 6 11 1,.mk 9 2 3 12 (-1) [] 0 0 0,z1 37 13 0,z1 20 14 0,z1 43 15 0,z1 20 16 0,z1 43 17 0,z0 1 k,z1 20 19 0,e1 12 20 [102] 0,z1 37 21 0,z1 20 22 0,z1 43 23 0,z1 20 24 0,z1 43 25 0]
theorem jq (w:List UInt8) (n:Int):m20.k (pl 0 (ay w n)++[.mk 0 [] 0 (I (I1 (ay w n)))])=HJ (YU n fun j=>S8 (ay w n) (35+j)) 0 0:=by kernel_rfl
def YV (n:Int) (p:Nat->Int):Dop.FM:=.mk [.mk 52 (-1) (-1) (-1) (-1) [115] 0 1 0,.mk 45 (-1) (-1) (-1) (-1) [105] 0 1 17,e0 2 [115] 0 30,e1 3 2 [38] 29,.mk 45 3 (-1) (-1) (-1) [112] 0 4 23,e0 2 [105] 0 36,e0 1 [] n 38,e2 5 5 6 [61] 37,e0 2 [105] 0 (p 1),e1 13 8 [45,45] (p 2),e0 2 [105] 0 (p 9),e1 3 10 [33] (p 8),e0 36 [] 0 (p 11),e2 31 11 12 [] (p 6),e0 2 [112] 0 (p 14),e1 3 14 [42] (p 13),e0 2 [105] 0 (p 16),e2 5 15 16 [43,61] (p 15),e1 30 17 [] (p 13),e1 20 18 [] (p 13),e2 20 13 19 [] (p 6),e1 43 20 [] (p 5),.mk 34 7 9 (-1) 21 [] 0 0 32,e0 2 [115] 0 (p 20),e1 37 23 [] (p 19),e1 20 24 [] (p 19),e2 20 22 25 [] 32,e2 20 4 26 [] 23,e2 20 1 27 [] 17,e1 43 28 [] 16,.mk 50 (-1) 29 (-1) (-1) [109,97,105,110] 0 1 6,e1 20 30 [] 6,z2 20 0 31 0] [.mk 0 0 0 [],.mk 1 0 0 [],.mk 2 0 0 [],.mk 3 0 0 [],.mk 4 1 0 []] 32
def Rn (k:Int):Dop.Gu:=.mk [.mk [109,97,105,110] 0 4 0 47] [.mk [115] 1 1 0] 2 [z0 1 0,z1 6 0 0,z1 30 1 0,z0 1 1,z1 6 3 1,z1 30 4 0,z0 2 0,z0 1 k,z1 6 7 0,z0 2 0,z0 2 0,z1 6 10 2,z0 2 2,z0 1 1,z2 8 12 13 2,z1 6 14 0,z0 2 2,z2 15 15 16 0,z2 15 11 17 0,z0 2 0,z1 7 19 23,z0 36 0,z2 31 20 21 0,z0 2 1,z1 4 23 0,z1 6 23 3,z0 2 3,z0 2 3,z1 4 27 0,z0 2 0,z2 8 28 29 1,z2 5 26 30 0,z2 15 25 31 0,z1 30 32 0,z1 20 33 0,z2 20 22 34 0,z1 43 35 0,.mk 34 8 18 (-1) 36 [] 0 0 0,z0 1 1,z1 4 38 0,z1 37 39 0,z1 20 40 0,z2 20 37 41 0,z2 20 5 42 0,z2 20 2 43 0,z1 43 44 0,z1 20 45 0,z1 43 46 0]
theorem jr (w:List UInt8) (n:Int):m20.k (pl 0 (az w n)++[.mk 0 [] 0 (I (I1 (az w n)))])=HJ (YV n fun j=>S8 (az w n) (23+j)) 0 0:=by kernel_rfl
def DV (T:Int->(Nat->Int)->Dop.FM) (P:Int->Dop.Gu) (c:Nat):Prop:= ∀ p,((List.range 50).map fun j=>HE.k (T (I (50*c+j)) p))=(List.range 50).map fun j=>HJ (P (I (50*c+j))) 0 0
theorem jk {T:Int->(Nat->Int)->Dop.FM} {P:Int->Dop.Gu} (h0:DV T P 0) (h1:DV T P 1) (h2:DV T P 2) (h3:DV T P 3) (p:Nat->Int) {u:Nat} (hu:u<200):HE.k (T (I u) p)=HJ (P (I u)) 0 0:=by
 have key: ∀ c,c<4->DV T P c:=fun c h=>match c,h with|0,_=>h0|1,_=>h1|2,_=>h2|3,_=>h3|c+4,h=>absurd h (by omega)
 have:=List.map_inj_left.1 (key (u / 50) (by omega) p) (u % 50) (List.mem_range.2 (by omega))
 rwa [show 50*(u / 50)+u % 50=u by omega] at this
theorem Ox {a b z:List UInt8} {X:List UInt8->Int->KP} {T:Int->(Nat->Int)->Dop.FM} {P:Int->Dop.Gu} {N:Nat} (h0:DV T P 0) (h1:DV T P 1) (h2:DV T P 2) (h3:DV T P 3) (hs: ∀ {u:Nat},u<200->LX (a++(b++(Lib.decDigits u++z))) (X (Lib.decDigits u) u) [])
  (hq: ∀ w n,m20.k (pl 0 (X w n)++[.mk 0 [] 0 (I (I1 (X w n)))])=HJ (T n fun j=>S8 (X w n) (N+j)) 0 0) (hl:a.length+b.length+z.length<=1000) (hX: ∀ w n,(X w n).length<8192) {u:Nat} (hu:u<200):m18.k (a++(b++(Lib.decDigits u++z)))=HJ (P (I u)) 0 0:=by
 have:=dec_lt 2 u (by omega)
 exact ik (by simp only [List.length_append];omega) (hs hu) (hX _ _) (hq _ _) (jk h0 h1 h2 h3 _ hu)
end Go.Proofs.Tryz
namespace Go.Proofs.Tryz
open Go Go.En
theorem oI:(1:Int)≠0:=by decide
theorem dZ {v:Int} (h:0<=v/\v<=2147483647):Fq.k v=Cn v:=by
 unfold Fq.k
 have e:IntKind.u32.wrap v=v:=by rw [IntKind.wrap_u32];omega
 rw [e]
 exact AL (BD.2 (by omega))
section
variable {p:Dop.Gu} {mem:List Int} {sp:Int} {inp out:List Int} {fu:Int} {fr:EF} {i:Int} {d:Nat}
variable {v w:Int} {m1:List Int} {sp1:Int} {i1 o1:List Int} {u1:Int} {f1:EF} {m2:List Int} {sp2:Int} {i2 o2:List Int} {u2:Int} {f2 fr':EF} {m3:List Int} {sp3:Int} {i3 o3:List Int} {u3:Int} {f3:EF}
variable {h:Int} {s s' s1 s2:ER} {x:Dop.Ab} {l:List Int} {j c:Nat}
theorem EX.fe {u u':Int} (a:EX d i s fr v (st p m1 sp1 i1 o1 u) f1) (e:u=u':=by omega):EX d i s fr v (st p m1 sp1 i1 o1 u') f1:=e▸a
theorem ST.fe {u u':Int} (a:ST d i s fr h (st p m1 sp1 i1 o1 u) f1) (e:u=u':=by omega):ST d i s fr h (st p m1 sp1 i1 o1 u') f1:=e▸a
theorem ST.o (hd:DO d (nd p i) (st p mem sp inp out (fu -1)) fr h (st p m1 sp1 i1 o1 u1) f1) (H:0<fu/\fu<=1000000:=by omega) (hi:decide (OG p i)=true:=by rfl) (hs:EF.CN fr=0:=by rfl):ST (d+1) i (st p mem sp inp out fu) fr h (st p m1 sp1 i1 o1 u1) f1:=ST.of H.1 H.2 (dk hi) hs hd
theorem ST.at {fv:Int} (hd:DO d (nd p i) (st p mem sp inp out fv) fr h (st p m1 sp1 i1 o1 u1) f1) (H:(0<fu/\fu<=1000000)/\fu -1=fv:=by omega) (hi:decide (OG p i)=true:=by rfl) (hs:EF.CN fr=0:=by rfl):ST (d+1) i (st p mem sp inp out fu) fr h (st p m1 sp1 i1 o1 u1) f1:=ST.of H.1.1 H.1.2 (dk hi) hs (H.2▸hd)
theorem EX.mo {e:Nat} (a:EX d i s fr v s' f1) (hd:d<=e:=by omega):EX e i s fr v s' f1:=a.mono hd
theorem ST.mo {e:Nat} (a:ST d i s fr h s' f1) (hd:d<=e:=by omega):ST e i s fr h s' f1:=a.mono hd
theorem DO.xp (he:EX d x.a s fr v s' f1) (hq:decide (x.kind=30/\0<=x.a)=true:=by rfl):DO (d+1) x s fr 0 s' f1:=DO.expr (dk hq).1 (dk hq).2 he
theorem DO.gi (v:Int) (f1:EF) (he:EX d x.a s fr v s' f1) (hq:decide (x.kind=37/\0<=x.a)=true:=by rfl):DO (d+1) x s fr 3 s' (EF.T9 f1 v):=DO.FF (dk hq).1 (dk hq).2 he
theorem DO.bl (l:List Int) (c:Nat) (hb:BL d c l 0 s fr h s' f1) (hl:C3.k (ER.p s) x.a=Cn l:=by kernel_rfl) (hq:decide (x.kind=43/\c<=999998)=true:=by rfl):DO (d+1) x s fr h s' f1:=DO.block (dk hq).1 hl hb (dk hq).2
theorem BL.ni (hj:l.length=j:=by rfl):BL d (c+1) l j s fr 0 s fr:=BL.nil hj
theorem BL.co (hd:ST d (l.getD j 0) s fr 0 s1 f1) (hr:BL d c l (j+1) s1 f1 h s' f2) (hq:decide (j<l.length/\l.length<1000000)=true:=by rfl):BL d (c+1) l j s fr h s' f2:=BL.cons (dk hq).1 (dk hq).2 hd hr
theorem BL.ex (hd:ST d (l.getD j 0) s fr h s1 f1) (hq:decide (j<l.length/\h≠0)=true:=by rfl):BL d (c+1) l j s fr h s1 f1:=BL.exit (dk hq).1 hd (dk hq).2
theorem EX.nu (H:0<fu/\fu<=1000000:=by omega) (hq:decide (OG p i/\(nd p i).kind=1)=true:=by rfl):EX 1 i (st p mem sp inp out fu) fr (nd p i).n (st p mem sp inp out (fu -1)) fr:=EX.num H.1 H.2 (dk hq).1 (dk hq).2
theorem EX.re (H:0<fu/\fu<=1000000:=by omega) (hq:decide ((OG p i/\(nd p i).kind=2)/\0<=(nd p i).n/\(nd p i).n<I fr.Ai.length)=true:=by rfl):EX 1 i (st p mem sp inp out fu) fr (fr.Ai.getD (nd p i).n.toNat 0) (st p mem sp inp out (fu -1)) fr:=EX.od H.1 H.2 (dk hq).1.1 (dk hq).1.2 (dk hq).2
theorem EX.se (f1:EF) (v:Int) (ha:EX d (nd p i).a (st p mem sp inp out (fu -1)) fr v (st p m1 sp1 i1 o1 u1) f1) (H:0<fu/\fu<=1000000:=by omega) (hq:decide ((OG p i/\(nd p i).kind=6)/\0<=(nd p i).n/\(nd p i).n<I f1.Ai.length)=true:=by rfl):
  EX (d+2) i (st p mem sp inp out fu) fr v (st p m1 sp1 i1 o1 u1) (EF.T8 f1 (f1.Ai.set (nd p i).n.toNat v)):=EX.nL H.1 H.2 (dk hq).1.1 (dk hq).1.2 ha (dk hq).2
theorem EX.on (ha:EX d (nd p i).a (st p mem sp inp out (fu -1)) fr v (st p m1 sp1 i1 o1 u1) f1) (ho:A0.k (nd p i).n v 0=Ev w true) (H:0<fu/\fu<=1000000:=by omega) (hq:decide (OG p i/\(nd p i).kind=7)=true:=by rfl):
  EX (d+2) i (st p mem sp inp out fu) fr w (st p m1 sp1 i1 o1 u1) f1:=EX.one H.1 H.2 (dk hq).1 (dk hq).2 ha ho
theorem EX.tw {x:Int} (ha:EX d (nd p i).a (st p mem sp inp out (fu -1)) fr v (st p m1 sp1 i1 o1 u1) f1) (hb:EX d (nd p i).b (st p m1 sp1 i1 o1 u1) f1 w (st p m2 sp2 i2 o2 u2) f2) (ho:A0.k (nd p i).n v w=Ev x true) (H:0<fu/\fu<=1000000:=by omega) (hq:decide (OG p i/\(nd p i).kind=8)=true:=by rfl):
  EX (d+2) i (st p mem sp inp out fu) fr x (st p m2 sp2 i2 o2 u2) f2:=EX.two H.1 H.2 (dk hq).1 (dk hq).2 ha hb ho
theorem EX.load (ha:EX d (nd p i).a (st p mem sp inp out (fu -1)) fr v (st p m1 sp1 i1 o1 u1) f1) (hv:1<=v/\v<I m1.length) (hl:m1.length<=4096) (H:0<fu/\fu<=1000000:=by omega) (hq:decide (OG p i/\(nd p i).kind=4)=true:=by rfl):
  EX (d+2) i (st p mem sp inp out fu) fr (m1.getD v.toNat 0) (st p m1 sp1 i1 o1 u1) f1:=fun n=>by
 obtain ⟨h0,h1⟩:=H
 obtain ⟨hi,hk⟩:=dk hq
 have hI:I m1.length<=4096:=by simp only [I];omega
 rw [show n+(d+2)=n+d+1+1 from rfl,HT,Hs]
 unfold BB.kf BB.k0
 rw [Q1 h0 h1,D8]
 dsimp only
 rw [show List.getD (ER.p (st p mem sp inp out (fu -1))).nodes i.toNat Dop.d5=nd p i from rfl,AA (by rfl),AL (decide_eq_true hi),AA (decide_eq_false (by omega)),AA (decide_eq_false (by omega)),AA (decide_eq_false (by omega)),AN (decide_eq_true hk),AN (decide_eq_true hk),HT,dF]
 unfold Ge.kf
 rw [ha n,Ap]
 dsimp only
 rw [AA (decide_eq_false (by omega)),AA (show (!decide ((st p _ _ _ _ _).end_=0))=false from rfl),dZ ⟨by omega,by omega⟩,Ao]
 dsimp only
 rw [AA (decide_eq_false (by omega)),AA (decide_eq_false (show ¬ I m1.length<=v by omega)),AL (decide_eq_true (show 0<=v/\v<I m1.length by omega)),AN (decide_eq_true hk),AL (decide_eq_true (show v.toNat<m1.length by simp only [I] at hv;omega))]
 rfl
theorem EX.store (ha:EX d (nd p i).a (st p mem sp inp out (fu -1)) fr v (st p m1 sp1 i1 o1 u1) f1) (hb:EX d (nd p i).b (st p m1 sp1 i1 o1 u1) f1 w (st p m2 sp2 i2 o2 u2) f2) (hv:1<=v/\v<I m2.length) (hl:m2.length<=4096) (H:0<fu/\fu<=1000000:=by omega) (hq:decide (OG p i/\(nd p i).kind=5)=true:=by rfl):
  EX (d+2) i (st p mem sp inp out fu) fr w (st p (m2.set v.toNat w) sp2 i2 o2 u2) f2:=fun n=>by
 obtain ⟨h0,h1⟩:=H
 obtain ⟨hi,hk⟩:=dk hq
 have hI:I m2.length<=4096:=by simp only [I];omega
 rw [show n+(d+2)=n+d+1+1 from rfl,HT,Hs]
 unfold BB.kf BB.k0
 rw [Q1 h0 h1,D8]
 dsimp only
 rw [show List.getD (ER.p (st p mem sp inp out (fu -1))).nodes i.toNat Dop.d5=nd p i from rfl,AA (by rfl),AL (decide_eq_true hi),AA (decide_eq_false (by omega)),AA (decide_eq_false (by omega)),AA (decide_eq_false (by omega)),AA (decide_eq_false (by omega)),AN (decide_eq_true hk),HT,dF]
 unfold Ge.kf
 rw [ha n,Ap]
 dsimp only
 rw [AN (decide_eq_true hk),hb n,Ap]
 dsimp only
 rw [AA (show (!decide ((st p _ _ _ _ _).end_=0))=false from rfl),dZ ⟨by omega,by omega⟩,Ao]
 dsimp only
 rw [AA (decide_eq_false (by omega)),AA (decide_eq_false (show ¬ I m2.length<=v by omega)),AL (decide_eq_true (show 0<=v/\v<I m2.length by omega)),AA (decide_eq_false (by omega)),AL (decide_eq_true (show v.toNat<m2.length by simp only [I] at hv;omega))]
 rfl
theorem EX.im (ha:EX d (nd p i).a (st p mem sp inp out (fu -1)) fr v s1 f1) (hb:EX d (nd p i).b s1 f1 w s' f2) (hv:v≠0:=by omega) (H:0<fu/\fu<=1000000:=by omega) (hq:decide (OG p i/\(nd p i).kind=9)=true:=by rfl):
  EX (d+2) i (st p mem sp inp out fu) fr w s' f2:=fun n=>by
 obtain ⟨h0,h1⟩:=H
 obtain ⟨hi,hk⟩:=dk hq
 rw [show n+(d+2)=n+d+1+1 from rfl,HT,Hs,Up _ _ _ h0 h1 hi (by omega)]
 unfold FJ.kB
 dsimp only
 rw [AN (decide_eq_true hk),sub ha,Option.bind_some]
 dsimp only
 rw [AN (by rw [decide_eq_false hv];rfl),sub hb,Option.bind_some]
theorem EX.il (ha:EX d (nd p i).a (st p mem sp inp out (fu -1)) fr 0 s1 f1) (hb:EX d (nd p i).c s1 f1 w s' f2) (H:0<fu/\fu<=1000000:=by omega) (hq:decide (OG p i/\(nd p i).kind=9)=true:=by rfl):
  EX (d+2) i (st p mem sp inp out fu) fr w s' f2:=fun n=>by
 obtain ⟨h0,h1⟩:=H
 obtain ⟨hi,hk⟩:=dk hq
 rw [show n+(d+2)=n+d+1+1 from rfl,HT,Hs,Up _ _ _ h0 h1 hi (by omega)]
 unfold FJ.kB
 dsimp only
 rw [AN (decide_eq_true hk),sub ha,Option.bind_some]
 dsimp only
 rw [AA (by rfl),sub hb,Option.bind_some]
theorem EX.comma (ha:EX d (nd p i).a (st p mem sp inp out (fu -1)) fr v s1 f1) (hb:EX d (nd p i).b s1 f1 w s' f2) (H:0<fu/\fu<=1000000:=by omega) (hq:decide (OG p i/\(nd p i).kind=15)=true:=by rfl):
  EX (d+2) i (st p mem sp inp out fu) fr w s' f2:=fun n=>by
 obtain ⟨h0,h1⟩:=H
 obtain ⟨hi,hk⟩:=dk hq
 rw [show n+(d+2)=n+d+1+1 from rfl,HT,Hs,Up _ _ _ h0 h1 hi (by omega)]
 unfold FJ.kB
 dsimp only
 rw [AA (decide_eq_false (by omega)),AA (decide_eq_false (by omega)),AA (decide_eq_false (by omega)),AA (decide_eq_false (by omega)),AA (decide_eq_false (by omega)),AA (decide_eq_false (by omega)),sub ha,Option.bind_some]
 dsimp only
 rw [sub hb,Option.bind_some]
def AR (d c:Nat) (l:List Int) (j:Nat) (acc:List Int) (x:Dop.Ab) (s:ER) (f:EF) (v:Int) (s':ER) (f':EF):Prop:= ∀ n N,(Bp (BB.kS (A6.kR (n+d))) (N+c)).2.2.1 acc l (I l.length) (I j) s f x=Aa v s' f'
theorem AR.cons {acc:List Int} (ha:EX d (l.getD j 0) s fr v s1 f1) (hr:AR (d+1) c l (j+1) (acc++[v]) x s1 f1 w s' f2) (hj:j<l.length:=by exact dk rfl) (hl:l.length<1000:=by exact dk rfl) (hac:acc.length<1000:=by exact dk rfl):AR (d+1) (c+1) l j acc x s fr w s' f2:=fun n N=>by
 show Fz.kB _ (Bp (BB.kS (A6.kR (n+(d+1)))) (N+c)) acc l (I l.length) (I j) s fr x=_
 unfold Fz.kB
 rw [AN (decide_eq_true (by simp only [I];omega)),AL (decide_eq_true (by simp only [I];omega)),AL (decide_eq_true (by simp only [I];omega)),show (I j).toNat=j from rfl,show n+(d+1)=n+d+1 from rfl,sub ha,Option.bind_some]
 dsimp only
 rw [AL (show DG none (room 8 (acc.length+[v].length))=true from (by unfold room;exact decide_eq_true (by simp only [List.length_singleton];omega):room 8 (acc.length+[v].length)=true)),AL (BD.2 (by simp only [I];omega))]
 exact hr n N
theorem AR.call {acc:List Int} {k:Int} (hc:CL d k acc s v s') (hm:Se.k (ER.p s) x.text=Cn k:=by kernel_rfl) (hj:l.length=j:=by rfl):AR d (c+1) l j acc x s fr v s' fr:=fun n N=>by
 show Fz.kB _ (Bp (BB.kS (A6.kR (n+d))) (N+c)) acc l (I l.length) (I j) s fr x=_
 unfold Fz.kB
 rw [AA (decide_eq_false (by simp only [I];omega)),hm,Ao]
 dsimp only
 rw [hc n,D8]
theorem EX.call (hl:C3.k p (nd p i).a=Cn l) (ha:AR d c l 0 [] (nd p i) (st p mem sp inp out (fu -1)) fr v s' f1) (H:0<fu/\fu<=1000000:=by omega) (hq:decide (OG p i/\(nd p i).kind=12)=true:=by rfl) (hc:c<=999000:=by omega):
  EX (d+1) i (st p mem sp inp out fu) fr v s' f1:=fun n=>by
 obtain ⟨h0,h1⟩:=H
 obtain ⟨hi,hk⟩:=dk hq
 rw [show n+(d+1)=n+d+1 from rfl,HT,Hs,Up _ _ _ h0 h1 hi (by omega)]
 unfold FJ.kB
 dsimp only
 rw [AA (decide_eq_false (by omega)),AA (decide_eq_false (by omega)),AA (decide_eq_false (by omega)),AN (decide_eq_true hk),show C3.k (ER.p (st p mem sp inp out (fu -1))) (nd p i).a=Cn l from hl,Ao]
 have:=ha n (999998 -c)
 rw [show 999998 -c+c=999998 by omega] at this
 exact this
theorem ST.skip (hs:EF.CN fr≠0:=by exact oI) (hh:Bj.k i s fr=Aa false s fr:=by kernel_rfl):ST (d+1) i s fr 0 s fr:=fun n=>by
 rw [show n+(d+1)=n+d+1 from rfl,HT,X3]
 unfold Ct.kf
 rw [AN (by rw [decide_eq_false hs];rfl),hh,Ap]
 rfl
theorem ST.CN (hd:DO d (nd p i) (st p mem sp inp out fu) fr h (st p m1 sp1 i1 o1 u1) f1) (hs:EF.CN fr≠0:=by exact oI) (hh:Bj.k i (st p mem sp inp out fu) fr=Aa true (st p mem sp inp out fu) fr:=by kernel_rfl) (hi:decide (OG p i)=true:=by rfl):ST (d+1) i (st p mem sp inp out fu) fr h (st p m1 sp1 i1 o1 u1) f1:=fun n=>by
 rw [show n+(d+1)=n+d+1 from rfl,HT,X3]
 unfold Ct.kf
 rw [AN (by rw [decide_eq_false hs];rfl),hh,Ap]
 dsimp only
 rw [AA (by rfl),AA (decide_eq_false hs),show List.getD (ER.p (st p mem sp inp out fu)).nodes i.toNat Dop.d5=nd p i from rfl,AL hi,hd n]
 rfl
theorem DO.jM (ha:EX d x.a s fr v s1 f1) (hb:ST d x.b s1 f1 h s' f2) (hv:v≠0:=by omega) (hk:x.kind=31:=by rfl) (hs:EF.CN fr=0:=by rfl):DO (d+1) x s fr h s' f2:=fun n=>by
 rw [show n+(d+1)=n+d+1 from rfl,HT,GZ]
 unfold BA.kf BA.k0
 dsimp only
 rw [AA (decide_eq_false (by omega)),AN (decide_eq_true hk),AA (by rw [hs];rfl),ha n,Ap]
 dsimp only
 rw [AN (by rw [decide_eq_false hv];rfl),hb n]
 rfl
theorem DO.jL (ha:EX d x.a s fr 0 s1 f1) (hk:x.kind=31:=by rfl) (hs:EF.CN fr=0:=by rfl) (hc:x.c<0:=by exact dk rfl):DO (d+1) x s fr 0 s1 f1:=fun n=>by
 rw [show n+(d+1)=n+d+1 from rfl,HT,GZ]
 unfold BA.kf BA.k0
 dsimp only
 rw [AA (decide_eq_false (by omega)),AN (decide_eq_true hk),AA (by rw [hs];rfl),ha n,Ap]
 dsimp only
 rw [AA (by rfl),AA (decide_eq_false (by omega))]
theorem DO.Jd (hk:x.kind=35:=by rfl):DO (d+1) x s fr 1 s fr:=fun n=>by
 rw [show n+(d+1)=n+d+1 from rfl,HT,GZ,Te _ (by omega)]
 unfold Dg.kB
 dsimp only
 rw [AN (decide_eq_true hk)]
theorem DO.cont (hk:x.kind=36:=by rfl):DO (d+1) x s fr 2 s fr:=fun n=>by
 rw [show n+(d+1)=n+d+1 from rfl,HT,GZ,Te _ (by omega)]
 unfold Dg.kB
 dsimp only
 rw [AA (decide_eq_false (by omega)),AN (decide_eq_true hk)]
theorem DO.goto (hk:x.kind=38:=by rfl):DO (d+1) x s fr 4 s (EF.dc fr x.text):=fun n=>by
 rw [show n+(d+1)=n+d+1 from rfl,HT,GZ,Te _ (by omega)]
 unfold Dg.kB
 dsimp only
 rw [AA (decide_eq_false (by omega)),AA (decide_eq_false (by omega)),AA (decide_eq_false (by omega)),AN (decide_eq_true hk)]
theorem DO.label (ha:ST d x.a s fr h s' f1) (hk:x.kind=39:=by rfl) (hs:EF.CN fr=0:=by rfl):DO (d+1) x s fr h s' f1:=fun n=>by
 rw [show n+(d+1)=n+d+1 from rfl,HT,GZ,Te _ (by omega)]
 unfold Dg.kB
 dsimp only
 rw [AA (decide_eq_false (by omega)),AA (decide_eq_false (by omega)),AA (decide_eq_false (by omega)),AA (decide_eq_false (by omega)),AN (decide_eq_true hk),AA (decide_eq_false (by omega)),ha n]
 rfl
theorem DO.hit (ha:ST d x.a s (EF.JX fr 0) h s' f1) (hk:x.kind=39:=by rfl) (hs:EF.CN fr=1:=by rfl) (ht:EF.nV fr=x.text:=by rfl):DO (d+1) x s fr h s' f1:=fun n=>by
 rw [show n+(d+1)=n+d+1 from rfl,HT,GZ,Te _ (by omega)]
 unfold Dg.kB
 dsimp only
 rw [AA (decide_eq_false (by omega)),AA (decide_eq_false (by omega)),AA (decide_eq_false (by omega)),AA (decide_eq_false (by omega)),AN (decide_eq_true hk),AN (decide_eq_true hs),AN (decide_eq_true ht),ha n]
 rfl
theorem WH.Jd {b t:Int} (he:EX d t s fr v s1 f1) (hd:ST d b s1 f1 1 s' f2) (ht:0<=t:=by exact dk rfl) (hv:v≠0:=by omega):WH d (c+1) b t x s fr 0 s' f2:=fun n N=>by
 show C1.kB (A6.kR (n+d)) _ b false t s fr x=_
 unfold C1.kB
 dsimp only
 rw [AN (b:=!false) rfl,AN (decide_eq_true ht),he n,Ap]
 dsimp only
 rw [AA (decide_eq_false hv),AN (b:=!false) rfl,AA (decide_eq_false (by omega)),hd n,Ap]
 rfl
theorem VS {b t:Int} (e:x.kind=34/\0<=x.c/\EX d x.c (st p m2 sp2 i2 o2 u2) f2 v (st p m3 sp3 i3 o3 u3) f3\/(x.kind=34/\x.c<0\/x.kind=32\/x.kind=33)/\st p m2 sp2 i2 o2 u2=st p m3 sp3 i3 o3 u3/\f2=f3) (hx:x.kind=34/\x.b=t\/(x.kind=32\/x.kind=33)/\x.a=t)
  (hr:WH d c b t x (st p m3 sp3 i3 o3 u3) f3 w s' fr') (n N:Nat):(Bp (Aq.kS (A6.kR (n+d))) (N+c+3)).2.2.2.2.1 b false (st p m2 sp2 i2 o2 u2) f2 x=Aa w s' fr':=by
 have e25:(Bp (Aq.kS (A6.kR (n+d))) (N+c+2)).2.2.2.2.2.1 b false (st p m3 sp3 i3 o3 u3) f3 x=Aa w s' fr':=by
  show Ia.kB (A6.kR (n+d)) (Bp (Aq.kS (A6.kR (n+d))) (N+c+1)) b false (st p m3 sp3 i3 o3 u3) f3 x=Aa w s' fr'
  unfold Ia.kB
  rw [AA (show (!decide ((st p m3 sp3 i3 o3 u3).end_=0))=false from rfl)]
  show E6.kB (A6.kR (n+d)) (Bp (Aq.kS (A6.kR (n+d))) (N+c)) b false (st p m3 sp3 i3 o3 u3) f3 x=Aa w s' fr'
  unfold E6.kB
  rcases hx with ⟨hk,hx⟩|⟨hk,hx⟩
  ·rw [AN (decide_eq_true hk),hx]
   exact hr n N
  ·rw [AA (decide_eq_false (by omega)),hx]
   exact hr n N
 show IZ.kB (A6.kR (n+d)) (Bp (Aq.kS (A6.kR (n+d))) (N+c+2)) b false (st p m2 sp2 i2 o2 u2) f2 x=Aa w s' fr'
 unfold IZ.kB
 rcases e with ⟨hk,hc,he⟩|⟨hk,es,ef⟩
 ·rw [AN (decide_eq_true hk),AN (decide_eq_true hc),he n,Ap]
  exact e25
 ·rw [es,ef]
  rcases hk with ⟨hk,hc⟩|hk
  ·rw [AN (decide_eq_true hk),AA (decide_eq_false (by omega))]
   exact e25
  ·rw [AA (decide_eq_false (by omega))]
   exact e25
theorem WH.go {b t:Int} (ht:0<=t) (he:EX d t s fr h s1 f1) (hv:h≠0) {g:Int} (hd:ST d b s1 f1 g (st p m2 sp2 i2 o2 u2) f2) (hh:g=0\/g=2)
  (e:x.kind=34/\0<=x.c/\EX d x.c (st p m2 sp2 i2 o2 u2) f2 v (st p m3 sp3 i3 o3 u3) f3\/(x.kind=34/\x.c<0\/x.kind=32\/x.kind=33)/\st p m2 sp2 i2 o2 u2=st p m3 sp3 i3 o3 u3/\f2=f3) (hx:x.kind=34/\x.b=t\/(x.kind=32\/x.kind=33)/\x.a=t)
  (hr:WH d c b t x (st p m3 sp3 i3 o3 u3) f3 w s' fr'):WH d (c+4) b t x s fr w s' fr':=fun n N=>by
 have:=VS (c:=c) e hx hr n N
 show C1.kB (A6.kR (n+d)) (Bp (Aq.kS (A6.kR (n+d))) (N+c+3)) b false t s fr x=_
 unfold C1.kB
 dsimp only
 rw [AN (b:=!false) rfl,AN (decide_eq_true ht),he n,Ap]
 dsimp only
 rw [AA (decide_eq_false hv),AN (b:=!false) rfl,AA (decide_eq_false (by omega)),hd n,Ap]
 dsimp only
 rcases hh with rfl|rfl<;>exact this
theorem Zk {b t:Int} {g:Int} (hd:ST d b s fr g (st p m2 sp2 i2 o2 u2) f2) (hh:g=0\/g=2)
  (e:x.kind=34/\0<=x.c/\EX d x.c (st p m2 sp2 i2 o2 u2) f2 v (st p m3 sp3 i3 o3 u3) f3\/(x.kind=34/\x.c<0\/x.kind=32\/x.kind=33)/\st p m2 sp2 i2 o2 u2=st p m3 sp3 i3 o3 u3/\f2=f3) (hx:x.kind=34/\x.b=t\/(x.kind=32\/x.kind=33)/\x.a=t)
  (hr:WH d c b t x (st p m3 sp3 i3 o3 u3) f3 w s' fr') (n N:Nat):(Bp (Aq.kS (A6.kR (n+d))) (N+(c+4))).2.2.1 b true t s fr x=Aa w s' fr':=by
 have:=VS (c:=c) e hx hr n N
 show C1.kB (A6.kR (n+d)) (Bp (Aq.kS (A6.kR (n+d))) (N+c+3)) b true t s fr x=_
 unfold C1.kB
 dsimp only
 rw [AA (b:=!true) rfl,AA (b:=!true) rfl,hd n,Ap]
 dsimp only
 rcases hh with rfl|rfl<;>exact this
theorem WO {b t:Int} (hd:ST d b s fr 1 s' f2) (n N:Nat):(Bp (Aq.kS (A6.kR (n+d))) (N+(c+4))).2.2.1 b true t s fr x=Aa 0 s' f2:=by
 show C1.kB (A6.kR (n+d)) (Bp (Aq.kS (A6.kR (n+d))) (N+c+3)) b true t s fr x=_
 unfold C1.kB
 dsimp only
 rw [AA (b:=!true) rfl,AA (b:=!true) rfl,hd n,Ap]
 rfl
theorem DO.for (hk:x.kind=34) (hs:EF.CN fr=0) (hs1:EF.CN f1=0) (ha:0<=x.a) (he:EX d x.a s fr v s1 f1) (hw:WH d c x.d x.b x s1 f1 h s' f2) (hc:c<=999998):DO (d+2) x s fr h s' f2:=fun n=>by
 rw [show n+(d+2)=n+d+1+1 from rfl,HT,GZ]
 unfold BA.kf BA.k0
 dsimp only
 rw [AA (decide_eq_false (by omega)),AA (decide_eq_false (by omega)),AA (decide_eq_false (by omega)),AA (decide_eq_false (by omega)),AN (decide_eq_true hk),HT,X4]
 unfold Aq.kf Aq.k0
 rw [AN (decide_eq_true hk),AN (decide_eq_true hs),AN (decide_eq_true ha),he n,Ap]
 show Option.bind (GJ.kB (A6.kR (n+d)) (Bp (Aq.kS (A6.kR (n+d))) 999999) x.d s1 f1 x) BQ=_
 unfold GJ.kB
 rw [AA (by rw [hs1];rfl)]
 show Option.bind (E6.kB (A6.kR (n+d)) (Bp (Aq.kS (A6.kR (n+d))) 999998) x.d (decide (x.kind=33)) s1 f1 x) BQ=_
 unfold E6.kB
 rw [AN (decide_eq_true hk),decide_eq_false (show ¬ x.kind=33 by omega)]
 have:=hw n (999998 -c)
 rw [show 999998 -c+c=999998 by omega] at this
 exact (congrArg (fun z=>Option.bind z BQ) this).trans rfl
theorem DO.oQ (hk:x.kind=33) (hs:EF.CN fr=0) (hw: ∀ n N,(Bp (Aq.kS (A6.kR (n+d))) (N+c)).2.2.1 x.b true x.a s fr x=Aa h s' f2) (hc:c<=999998):DO (d+2) x s fr h s' f2:=fun n=>by
 rw [show n+(d+2)=n+d+1+1 from rfl,HT,GZ]
 unfold BA.kf BA.k0
 dsimp only
 rw [AA (decide_eq_false (by omega)),AA (decide_eq_false (by omega)),AA (decide_eq_false (by omega)),AN (decide_eq_true hk),AN (decide_eq_true hk),HT,X4]
 unfold Aq.kf Aq.k0
 rw [AA (decide_eq_false (by omega))]
 show Option.bind (GJ.kB (A6.kR (n+d)) (Bp (Aq.kS (A6.kR (n+d))) 999999) x.b s fr x) BQ=_
 unfold GJ.kB
 rw [AA (by rw [hs];rfl)]
 show Option.bind (E6.kB (A6.kR (n+d)) (Bp (Aq.kS (A6.kR (n+d))) 999998) x.b (decide (x.kind=33)) s fr x) BQ=_
 unfold E6.kB
 rw [AA (decide_eq_false (by omega)),decide_eq_true hk]
 have:=hw n (999998 -c)
 rw [show 999998 -c+c=999998 by omega] at this
 exact (congrArg (fun z=>Option.bind z BQ) this).trans rfl
def JP (d c:Nat) (g:Dop.DE) (s:ER) (f:EF) (v:Int) (s':ER):Prop:= ∀ n N,(Bp (m64.kS (A6.kR (n+d))) (N+c)).2.1 s g f=Co v s'
theorem JP.done {g:Dop.DE} (hs:0<=sp1/\sp1<=3000000) (hf:0<=g.frame/\g.frame<=1000000) (hd:ST d g.body s fr h (st p m1 sp1 i1 o1 u1) f1) (hh:h≠4):JP d (c+1) g s fr (EF.told f1) (st p m1 (sp1 -g.frame) i1 o1 u1):=fun n N=>by
 show C9.kB (A6.kR (n+d)) _ s g fr=_
 unfold C9.kB
 rw [hd n,Ap]
 dsimp only
 rw [AA (decide_eq_false hh),AL (BD.2 (show -9223372036854775808<=sp1 -g.frame/\sp1 -g.frame<=9223372036854775807 by omega))]
theorem JP.cv {g:Dop.DE} (f1:EF) (hv:EF.told f1=v) (hf:g.frame=0) (hs:0<=sp1/\sp1<=3000000) (hd:ST d g.body s fr h (st p m1 sp1 i1 o1 u1) f1) (hh:h≠4):JP d (c+1) g s fr v (st p m1 sp1 i1 o1 u1):=by
 have:=JP.done (c:=c) hs (show 0<=g.frame/\g.frame<=1000000 by omega) hd hh
 rwa [hv,hf,Int.sub_zero] at this
theorem JP.jump {g:Dop.DE} (hd:ST d g.body s fr 4 (st p m1 sp1 i1 o1 u1) f1) (h0:0<u1) (h1:u1<=1000000) (hr:JP d c g (st p m1 sp1 i1 o1 (u1 -1)) (EF.JX f1 1) v s'):JP d (c+1) g s fr v s':=fun n N=>by
 show C9.kB (A6.kR (n+d)) (Bp (m64.kS (A6.kR (n+d))) (N+c)) s g fr=_
 unfold C9.kB
 rw [hd n,Ap]
 dsimp only
 rw [AN (decide_eq_true rfl),Q1 h0 h1,D8]
 dsimp only
 rw [AN rfl]
 exact hr n N
theorem CL.jump {k:Int} {args:List Int} {g:Dop.DE} (hk:0<=k/\k<I p.funcs.length) (hg:List.getD p.funcs k.toNat Dop.d11=g) (hm:sp+g.frame<=I mem.length) (hr:0<=g.Ai/\g.Ai<=1000000) (hs:0<=sp/\sp<=1000000) (hf:0<=g.frame/\g.frame<=1000000)
  (hd:ST d g.body (st p mem (sp+g.frame) inp out fu) (jK g args sp) 4 (st p m1 sp1 i1 o1 u1) f1) (h0:0<u1) (h1:u1<=1000000) (hj:JP d c g (st p m1 sp1 i1 o1 (u1 -1)) (EF.JX f1 1) v s') (hc:c<=999999):CL (d+1) k args (st p mem sp inp out fu) v s':=fun n=>by
 rw [show n+(d+1)=n+d+1 from rfl,HT,jX]
 unfold m64.kf m64.k0
 dsimp only
 rw [show List.getD (ER.p (st p mem sp inp out fu)).funcs k.toNat Dop.d11=g from hg,AA (show (!decide ((st p mem sp inp out fu).end_=0))=false from rfl),AA (decide_eq_false (by omega)),AL (decide_eq_true hk),AL (BD.2 (show -9223372036854775808<=sp+g.frame/\sp+g.frame<=9223372036854775807 by omega)),AA (decide_eq_false (show ¬ I mem.length<sp+g.frame by omega)),
  AL (decide_eq_true (show 0<=g.Ai/\g.Ai<=g.Ai/\g.Ai*(I 8+1)<=140737488355328 by simp only [I];omega)),AL (BD.2 (show -9223372036854775808<=sp+g.frame/\sp+g.frame<=9223372036854775807 by omega))]
 show LN.kB (A6.kR (n+d)) (Bp (m64.kS (A6.kR (n+d))) 999999) (st p mem (sp+g.frame) inp out fu) g (jK g args sp)=_
 unfold LN.kB
 rw [hd n,Ap]
 dsimp only
 rw [AN (decide_eq_true rfl),Q1 h0 h1,D8]
 dsimp only
 rw [AN rfl]
 have:=hj n (999999 -c)
 rwa [show 999999 -c+c=999999 by omega] at this
theorem JP.fe {g:Dop.DE} {u u':Int} (a:JP d c g s fr v (st p m1 sp1 i1 o1 u)) (e:u=u':=by omega):JP d c g s fr v (st p m1 sp1 i1 o1 u'):=e▸a
theorem JP.fs {g:Dop.DE} {u u':Int} (a:JP d c g (st p m1 sp1 i1 o1 u) fr v s') (e:u=u':=by omega):JP d c g (st p m1 sp1 i1 o1 u') fr v s':=e▸a
theorem CL.fe {k:Int} {l:List Int} {u u':Int} (a:CL d k l s v (st p m1 sp1 i1 o1 u)) (e:u=u':=by omega):CL d k l s v (st p m1 sp1 i1 o1 u'):=e▸a
theorem WH.fe {b t:Int} {u u':Int} (a:WH d c b t x s fr h (st p m1 sp1 i1 o1 u) f1) (e:u=u':=by omega):WH d c b t x s fr h (st p m1 sp1 i1 o1 u') f1:=e▸a
theorem WH.cm {b t:Int} (a:WH d c b t x s fr h s' f1) (j:Nat):WH d (c+j) b t x s fr h s' f1:=fun n N=>by
 have:=a n (N+j)
 rwa [show N+j+c=N+(c+j) by omega] at this
theorem CL.l9 {k:Int} {args:List Int} {g:Dop.DE} (hv:EF.told f1=v) (hk:0<=k/\k<I p.funcs.length) (hg:List.getD p.funcs k.toNat Dop.d11=g) (hm:sp+g.frame<=I mem.length) (hr:0<=g.Ai/\g.Ai<=1000000) (hs:0<=sp/\sp<=1000000) (hf:0<=g.frame/\g.frame<=1000000)
  (hd:ST d g.body (st p mem (sp+g.frame) inp out fu) (jK g args sp) h (st p m1 (sp+g.frame) i1 o1 u1) f1) (hh:h≠4):CL (d+1) k args (st p mem sp inp out fu) v (st p m1 sp i1 o1 u1):=hv▸CL.of hk hg hm hr hs hf hd hh
theorem nK {k:Int} {g:Dop.MW} (hg:p.globals=[g]) (ha:0<=g.at_/\g.at_<4096) (hm:Se.k p ([109,97,105,110]:List UInt8)=Cn k) (hf:0<=fu/\fu<=1000000) (hc:CL d k [] (st p ((List.replicate 4096 0).set g.at_.toNat g.RP) p.top inp [] fu) v (st p m1 sp1 i1 o1 u1)) (hd:d<=1000000000):F0.k p inp fu=Cn (Dop.PJ.mk 1 v o1):=by
 have hL:I (List.replicate 4096 (0:Int)).length=4096:=by unfold I;rw [List.length_replicate];rfl
 unfold F0.k F0.k0
 rw [AL (by decide),hg,if_neg (show ¬ fu<0 by omega),if_neg (show ¬ 1000000<fu by omega)]
 show Iu.kB (F0.kL 999999) [g] (I 1) 0 p 0 0 [] (st p (List.replicate 4096 0) p.top inp [] fu)=_
 unfold Iu.kB
 dsimp only
 refine Eq.trans (AN rfl) ?_
 refine Eq.trans (AL rfl) ?_
 refine Eq.trans (AL (decide_eq_true (show 0<=g.at_/\g.at_<I (List.replicate 4096 (0:Int)).length by rw [hL];exact ha))) ?_
 refine Eq.trans (AL (decide_eq_true (show g.at_.toNat<(List.replicate 4096 (0:Int)).length by rw [List.length_replicate];omega))) ?_
 refine Eq.trans (AL rfl) ?_
 show Iu.kB (F0.kL 999998) [g] (I 1) 1 p 0 0 [] (st p ((List.replicate 4096 0).set g.at_.toNat g.RP) p.top inp [] fu)=_
 unfold Iu.kB
 dsimp only
 rw [AA (by rfl),hm,Ao]
 have:=hc (1000000000 -d)
 rw [show 1000000000 -d+d=1000000000 by omega] at this
 show Option.bind (m64.kr (A6.kR 1000000000) k [] (st p ((List.replicate 4096 0).set g.at_.toNat g.RP) p.top inp [] fu)) _=_
 rw [this]
 rfl
end
section
variable {a b:Int}
theorem kD (h:dE a):Dm.k a=Ev a true:=by
 unfold Dm.k
 rw [Zl,Ao]
 dsimp only
 rw [I5 h]
theorem EJ (h:(-2147483648<=a/\a<=2147483647)/\(-2147483648<=b/\b<=2147483647)/\(-2147483648<=(a+b)/\(a+b)<=2147483647):=by omega):A0.k 1 a b=Ev (a+b) true:=by
 obtain ⟨ha,hb,hc⟩:=h
 unfold A0.k A0.k0
 rw [Zl,Zl,Ao,Ao]
 dsimp only
 rw [I5 ha,I5 hb,AN (decide_eq_true rfl),AL (BD.2 (by omega)),kD hc]
 rfl
theorem Ns (h:(-2147483648<=a/\a<=2147483647)/\(-2147483648<=b/\b<=2147483647)/\(-2147483648<=(a -b)/\(a -b)<=2147483647):=by omega):A0.k 2 a b=Ev (a -b) true:=by
 obtain ⟨ha,hb,hc⟩:=h
 unfold A0.k A0.k0
 rw [Zl,Zl,Ao,Ao]
 dsimp only
 rw [I5 ha,I5 hb,AA (decide_eq_false (by decide)),AN (decide_eq_true rfl),AL (BD.2 (by omega)),kD hc]
 rfl
theorem dU (ha:dE a) (hb:dE b):A0.k 16 a b=Ev (if a<b then 1 else 0) true:=by
 unfold A0.k A0.k0
 rw [Zl,Zl,Ao,Ao]
 dsimp only
 rw [I5 ha,I5 hb]
 show Option.bind (Gh.k (decide (a<b))) _=_
 by_cases h:a<b
 ·rw [decide_eq_true h,if_pos h];rfl
 ·rw [decide_eq_false h,if_neg h];rfl
theorem dT (ha:dE a) (hb:dE b):A0.k 17 a b=Ev (if a<=b then 1 else 0) true:=by
 unfold A0.k A0.k0
 rw [Zl,Zl,Ao,Ao]
 dsimp only
 rw [I5 ha,I5 hb]
 show Option.bind (Gh.k (decide (a<=b))) _=_
 by_cases h:a<=b
 ·rw [decide_eq_true h,if_pos h];rfl
 ·rw [decide_eq_false h,if_neg h];rfl
theorem Yv (h:(-2147483648<=a/\a<=2147483647)/\(-2147483648<=b/\b<=2147483647)/\a<b:=by omega):A0.k 16 a b=Ev 1 true:=by rw [dU h.1 h.2.1,if_pos h.2.2]
theorem Yu (h:(-2147483648<=a/\a<=2147483647)/\(-2147483648<=b/\b<=2147483647)/\¬ a<b:=by omega):A0.k 16 a b=Ev 0 true:=by rw [dU h.1 h.2.1,if_neg h.2.2]
theorem Nr (h:(-2147483648<=a/\a<=2147483647)/\(-2147483648<=b/\b<=2147483647)/\a<=b:=by omega):A0.k 17 a b=Ev 1 true:=by rw [dT h.1 h.2.1,if_pos h.2.2]
theorem Nq (h:(-2147483648<=a/\a<=2147483647)/\(-2147483648<=b/\b<=2147483647)/\¬ a<=b:=by omega):A0.k 17 a b=Ev 0 true:=by rw [dT h.1 h.2.1,if_neg h.2.2]
theorem Yw (ha:dE a):A0.k 23 a 0=Ev (if a=0 then 1 else 0) true:=by
 unfold A0.k A0.k0
 rw [Zl,Zl,Ao,Ao]
 dsimp only
 rw [I5 ha]
 show Option.bind (Gh.k (decide (a=0))) _=_
 by_cases h:a=0
 ·rw [decide_eq_true h,if_pos h];rfl
 ·rw [decide_eq_false h,if_neg h];rfl
theorem b9 (h:(-2147483648<=a/\a<=2147483647)/\a=0:=by omega):A0.k 23 a 0=Ev 1 true:=by rw [Yw h.1,if_pos h.2]
theorem bz (h:(-2147483648<=a/\a<=2147483647)/\¬ a=0:=by omega):A0.k 23 a 0=Ev 0 true:=by rw [Yw h.1,if_neg h.2]
end
end Go.Proofs.Tryz
namespace Go.Proofs.Tryz
open Go Go.En
def E7:Nat->Int->Int->Int
 | 0,_,s=>s
 | r+1,i,s=>E7 r (i+1) (s+i)
def Qm:Nat->Int->Int->Int
 | 0,_,s=>s
 | r+1,i,s=>Qm r (i -1) (s+(i -1))
def Lk:Nat->Int
 | 0=>0
 | r+1=>r+Lk r
def J0:Nat->Int->Int->Int
 | 0,_,t=>t
 | r+1,i,_=>J0 r (i+1) i
abbrev B1:List Int:=List.replicate 4096 0
theorem G6:B1.length=4096:=List.length_replicate
abbrev Lu (k:Int) (m:List Int) (u:Int):ER:=st (Rl k) m 1 [] [] u
abbrev LI (k:Int) (m:List Int) (u:Int):ER:=st (Rm k) m 1 [] [] u
abbrev E9 (k:Int) (m:List Int) (u:Int):ER:=st (QB k) m 1 [] [] u
abbrev C5 (k:Int) (m:List Int) (u:Int):ER:=st (Tk k) m 1 [] [] u
abbrev OH (k:Int) (m:List Int) (u:Int):ER:=st (Tl k) m 1 [] [] u
abbrev IX (k:Int) (m:List Int) (u:Int):ER:=st (Rn k) m 2 [] [] u
abbrev Dv (i s t w:Int):EF:=(.mk [109,97,105,110] 0 3 0 37,[i,s,t],1,w,[],0,0,())
abbrev Dw (i s w:Int):EF:=(.mk [109,97,105,110] 0 2 0 33,[i,s],1,w,[],0,0,())
abbrev BX (i s w:Int):EF:=(.mk [109,97,105,110] 0 2 0 37,[i,s],1,w,[],0,0,())
abbrev An (i s t w:Int) (lb:List UInt8) (CN:Int):EF:=(.mk [109,97,105,110] 0 3 0 39,[i,s,t],1,w,lb,0,CN,())
abbrev Ij (i w:Int):EF:=(.mk [102] 1 1 0 18,[i],1,w,[],0,0,())
abbrev Rk (w:Int):EF:=(.mk [109,97,105,110] 0 0 0 26,[],1,w,[],0,0,())
abbrev CJ (i p t q w:Int):EF:=(.mk [109,97,105,110] 0 4 0 47,[i,p,t,q],2,w,[],0,0,())
theorem dL (k:Int) (mem:List Int): ∀ (r:Nat) (i s t fu:Int),i+r=k->0<=i->k<=200->0<=s->s+200*r<=100000->17*(r:Int)+8<=fu->fu<=1000000->
  WH 9 (4*r+1) 27 11 (nd (Rl k) 28) (Lu k mem (fu)) (Dv i s t 0) 0 (Lu k mem (fu -17*r -3)) (Dv k (E7 r i s) (J0 r i t) 0)
 | 0,i,s,t,fu,h0,h1,h2,h3,h4,h5,h6=>by
  have hk:i=k:=by omega
  subst hk
  have e:EX 3 11 (Lu i mem (fu)) (Dv i s t 0) 0 (Lu i mem (fu -3)) (Dv i s t 0):=EX.fe (EX.tw EX.re EX.nu (Yu (a:=i) (b:=i)))
  exact WH.fe (WH.stop (c:=0) (dk rfl) (EX.mo (d:=3) e))
 | r+1,i,s,t,fu,h0,h1,h2,h3,h4,h5,h6=>by
  have e:EX 3 11 (Lu k mem (fu)) (Dv i s t 0) 1 (Lu k mem (fu -3)) (Dv i s t 0):=EX.fe (EX.tw EX.re EX.nu (Yv (a:=i) (b:=k)))
  have s27_1:ST 7 27 (Lu k mem (fu -3)) (Dv i s t 0) 0 (Lu k mem (fu -8)) (Dv i (s+i) t 0):=ST.fe (ST.o (DO.xp (EX.se (Dv i s t 0) (s+i) (EX.tw EX.re EX.re (EJ (a:=s) (b:=i))))))
  have e2:EX 9 21 (Lu k mem (fu -8)) (Dv i (s+i) t 0) i (Lu k mem (fu -17)) (Dv (i+1) (s+i) i 0):=EX.fe (EX.comma (EX.mo (d:=3) (EX.se (Dv i (s+i) t 0) i EX.re)) (EX.comma (EX.se (Dv i (s+i) i 0) (i+1) (EX.tw EX.re EX.nu (EJ (a:=i) (b:=1)))) (EX.mo (d:=1) EX.re)))
  have ih:=dL k mem r (i+1) (s+i) i (fu -17) (by omega) (by omega) (by omega) (by omega) (by omega) (by omega) (by omega)
  rw [show 4*(r+1)+1=4*r+1+4 by omega]
  exact WH.fe (WH.go (dk rfl) (EX.mo (d:=3) e) (by decide) (ST.mo (d:=7) s27_1) (.inl rfl) (.inl ⟨rfl,dk rfl,e2⟩) (.inl ⟨rfl,rfl⟩) ih)
theorem bY (m:Nat) (hm:m<200) (k fu:Int) (hk:k=m) (hf:fu=20000):F0.k (Rl k) [] fu=Cn (Dop.PJ.mk 1 (E7 m 0 0) []):=by
  have s2_0:ST 5 2 (Lu k B1 (fu -2)) (Dv 0 0 0 0) 0 (Lu k B1 (fu -5)) (Dv 0 0 0 0):=ST.fe (ST.o (DO.xp (EX.se (Dv 0 0 0 0) 0 EX.nu)))
  have s5_1:ST 5 5 (Lu k B1 (fu -5)) (Dv 0 0 0 0) 0 (Lu k B1 (fu -8)) (Dv 0 0 0 0):=ST.fe (ST.o (DO.xp (EX.se (Dv 0 0 0 0) 0 EX.nu)))
  have sL:ST 12 28 (Lu k B1 (fu -8)) (Dv 0 0 0 0) 0 (Lu k B1 (fu -17*(m:Int) -14)) (Dv k (E7 m 0 0) (J0 m 0 0) 0):=ST.fe (ST.o (DO.for rfl rfl rfl (dk rfl) (EX.mo (d:=3) (EX.fe (EX.se (Dv 0 0 0 0) 0 EX.nu))) (dL k B1 m 0 0 0 (fu -11) (by omega) (by omega) (by omega) (by omega) (by omega) (by omega) (by omega)) (by omega)))
  have s30_3:ST 3 30 (Lu k B1 (fu -17*(m:Int) -14)) (Dv k (E7 m 0 0) (J0 m 0 0) 0) 3 (Lu k B1 (fu -17*(m:Int) -16)) (Dv k (E7 m 0 0) (J0 m 0 0) (E7 m 0 0)):=ST.fe (ST.o (DO.gi (E7 m 0 0) (Dv k (E7 m 0 0) (J0 m 0 0) 0) EX.re))
  have s35_0:ST 14 35 (Lu k B1 (fu -1)) (Dv 0 0 0 0) 3 (Lu k B1 (fu -17*(m:Int) -16)) (Dv k (E7 m 0 0) (J0 m 0 0) (E7 m 0 0)):=ST.fe (ST.at (DO.bl [2,5,28,30] 4 (BL.co (ST.mo (d:=5) s2_0) (BL.co (ST.mo (d:=5) s5_1) (BL.co sL (BL.ex (ST.mo (d:=3) s30_3)))))))
  have s37_0:ST 16 37 (Lu k B1 (fu)) (Dv 0 0 0 0) 3 (Lu k B1 (fu -17*(m:Int) -16)) (Dv k (E7 m 0 0) (J0 m 0 0) (E7 m 0 0)):=ST.fe (ST.at (DO.bl [35] 1 (BL.ex s35_0)))
  have c0:CL 17 0 [] (Lu k B1 fu) (E7 m 0 0) (Lu k B1 (fu -17*(m:Int) -16)):=CL.of (sp:=1) (h:=3) (f1:=(Dv k (E7 m 0 0) (J0 m 0 0) (E7 m 0 0))) (d:=16) (g:=.mk [109,97,105,110] 0 3 0 37) ⟨dk rfl,dk rfl⟩ rfl (by rw [G6];decide) ⟨dk rfl,dk rfl⟩ ⟨dk rfl,dk rfl⟩ ⟨dk rfl,dk rfl⟩ s37_0 (by decide)
  exact ZR rfl (by kernel_rfl) ⟨by omega,by omega⟩ c0 (by decide)
theorem dM (k:Int) (mem:List Int): ∀ (r:Nat) (i s fu:Int),i+r=k->0<=i->k<=200->0<=s->s+200*r<=100000->14*(r:Int)+8<=fu->fu<=1000000->
  WH 9 (4*r+1) 23 8 (nd (Rm k) 24) (LI k mem (fu)) (Dw i s 0) 0 (LI k mem (fu -14*r -3)) (Dw k (E7 r i s) 0)
 | 0,i,s,fu,h0,h1,h2,h3,h4,h5,h6=>by
  have hk:i=k:=by omega
  subst hk
  have e:EX 3 8 (LI i mem (fu)) (Dw i s 0) 0 (LI i mem (fu -3)) (Dw i s 0):=EX.fe (EX.tw EX.re EX.nu (Yu (a:=i) (b:=i)))
  exact WH.fe (WH.stop (c:=0) (dk rfl) (EX.mo (d:=3) e))
 | r+1,i,s,fu,h0,h1,h2,h3,h4,h5,h6=>by
  have e:EX 3 8 (LI k mem (fu)) (Dw i s 0) 1 (LI k mem (fu -3)) (Dw i s 0):=EX.fe (EX.tw EX.re EX.nu (Yv (a:=i) (b:=k)))
  have s14_1:ST 7 14 (LI k mem (fu -4)) (Dw i s 0) 0 (LI k mem (fu -9)) (Dw i (s+i) 0):=ST.fe (ST.o (DO.xp (EX.se (Dw i s 0) (s+i) (EX.tw EX.re EX.re (EJ (a:=s) (b:=i))))))
  have s20_2:ST 7 20 (LI k mem (fu -9)) (Dw i (s+i) 0) 0 (LI k mem (fu -14)) (Dw (i+1) (s+i) 0):=ST.fe (ST.o (DO.xp (EX.se (Dw i (s+i) 0) (i+1) (EX.tw EX.re EX.nu (EJ (a:=i) (b:=1))))))
  have s23_1:ST 9 23 (LI k mem (fu -3)) (Dw i s 0) 0 (LI k mem (fu -14)) (Dw (i+1) (s+i) 0):=ST.fe (ST.at (DO.bl [14,20] 3 (BL.co s14_1 (BL.co s20_2 BL.ni))))
  have ih:=dM k mem r (i+1) (s+i) (fu -14) (by omega) (by omega) (by omega) (by omega) (by omega) (by omega) (by omega)
  rw [show 4*(r+1)+1=4*r+1+4 by omega]
  exact WH.fe (WH.go (v:=0) (dk rfl) (EX.mo (d:=3) e) (by decide) s23_1 (.inl rfl) (.inr ⟨(.inr (.inl rfl)),rfl,rfl⟩) (.inr ⟨.inl rfl,rfl⟩) ih)
theorem bZ (m:Nat) (hm:m<200) (k fu:Int) (hk:k=m) (hf:fu=20000):F0.k (Rm k) [] fu=Cn (Dop.PJ.mk 1 (E7 m 0 0) []):=by
  have s2_0:ST 5 2 (LI k B1 (fu -2)) (Dw 0 0 0) 0 (LI k B1 (fu -5)) (Dw 0 0 0):=ST.fe (ST.o (DO.xp (EX.se (Dw 0 0 0) 0 EX.nu)))
  have s5_1:ST 5 5 (LI k B1 (fu -5)) (Dw 0 0 0) 0 (LI k B1 (fu -8)) (Dw 0 0 0):=ST.fe (ST.o (DO.xp (EX.se (Dw 0 0 0) 0 EX.nu)))
  have sL:ST 12 24 (LI k B1 (fu -8)) (Dw 0 0 0) 0 (LI k B1 (fu -14*(m:Int) -12)) (Dw k (E7 m 0 0) 0):=ST.fe (ST.at (DO.ln rfl rfl (dM k B1 m 0 0 (fu -9) (by omega) (by omega) (by omega) (by omega) (by omega) (by omega) (by omega)) (by omega)))
  have s26_3:ST 3 26 (LI k B1 (fu -14*(m:Int) -12)) (Dw k (E7 m 0 0) 0) 3 (LI k B1 (fu -14*(m:Int) -14)) (Dw k (E7 m 0 0) (E7 m 0 0)):=ST.fe (ST.o (DO.gi (E7 m 0 0) (Dw k (E7 m 0 0) 0) EX.re))
  have s31_0:ST 14 31 (LI k B1 (fu -1)) (Dw 0 0 0) 3 (LI k B1 (fu -14*(m:Int) -14)) (Dw k (E7 m 0 0) (E7 m 0 0)):=ST.fe (ST.at (DO.bl [2,5,24,26] 4 (BL.co (ST.mo (d:=5) s2_0) (BL.co (ST.mo (d:=5) s5_1) (BL.co sL (BL.ex (ST.mo (d:=3) s26_3)))))))
  have s33_0:ST 16 33 (LI k B1 (fu)) (Dw 0 0 0) 3 (LI k B1 (fu -14*(m:Int) -14)) (Dw k (E7 m 0 0) (E7 m 0 0)):=ST.fe (ST.at (DO.bl [31] 1 (BL.ex s31_0)))
  have c0:CL 17 0 [] (LI k B1 fu) (E7 m 0 0) (LI k B1 (fu -14*(m:Int) -14)):=CL.of (sp:=1) (h:=3) (f1:=(Dw k (E7 m 0 0) (E7 m 0 0))) (d:=16) (g:=.mk [109,97,105,110] 0 2 0 33) ⟨dk rfl,dk rfl⟩ rfl (by rw [G6];decide) ⟨dk rfl,dk rfl⟩ ⟨dk rfl,dk rfl⟩ ⟨dk rfl,dk rfl⟩ s33_0 (by decide)
  exact ZR rfl (by kernel_rfl) ⟨by omega,by omega⟩ c0 (by decide)
theorem dN (k:Int) (mem:List Int): ∀ (r:Nat) (i s fu:Int),i+r=k->0<=i->k<=200->0<=s->s+200*r<=100000->16*(r:Int)+12<=fu->fu<=1000000->
  WH 9 (4*r+1) 26 27 (nd (QB k) 28) (E9 k mem (fu)) (BX i s 0) 0 (E9 k mem (fu -16*r -7)) (BX k (E7 r i s) 0)
 | 0,i,s,fu,h0,h1,h2,h3,h4,h5,h6=>by
  have hk:i=k:=by omega
  subst hk
  have e:EX 1 27 (E9 i mem (fu)) (BX i s 0) 1 (E9 i mem (fu -1)) (BX i s 0):=EX.fe EX.nu
  have s9_1:ST 2 9 (E9 i mem (fu -6)) (BX i s 0) 1 (E9 i mem (fu -7)) (BX i s 0):=ST.fe (ST.o (DO.Jd (d:=0)))
  have s10_1:ST 5 10 (E9 i mem (fu -2)) (BX i s 0) 1 (E9 i mem (fu -7)) (BX i s 0):=ST.fe (ST.o (DO.jM (EX.fe (EX.tw EX.nu EX.re (Nr (a:=i) (b:=i)))) (ST.mo (d:=2) s9_1)))
  have s26_1:ST 7 26 (E9 i mem (fu -1)) (BX i s 0) 1 (E9 i mem (fu -7)) (BX i s 0):=ST.fe (ST.at (DO.bl [10,16,22] 1 (BL.ex s10_1)))
  exact WH.fe (WH.Jd (c:=0) (EX.mo (d:=1) e) (ST.mo (d:=7) s26_1))
 | r+1,i,s,fu,h0,h1,h2,h3,h4,h5,h6=>by
  have e:EX 1 27 (E9 k mem (fu)) (BX i s 0) 1 (E9 k mem (fu -1)) (BX i s 0):=EX.fe EX.nu
  have s10_1:ST 5 10 (E9 k mem (fu -2)) (BX i s 0) 0 (E9 k mem (fu -6)) (BX i s 0):=ST.fe (ST.o (DO.jL (EX.tw EX.nu EX.re (Nq (a:=k) (b:=i)))))
  have s16_2:ST 7 16 (E9 k mem (fu -6)) (BX i s 0) 0 (E9 k mem (fu -11)) (BX i (s+i) 0):=ST.fe (ST.o (DO.xp (EX.se (BX i s 0) (s+i) (EX.tw EX.re EX.re (EJ (a:=s) (b:=i))))))
  have s22_3:ST 7 22 (E9 k mem (fu -11)) (BX i (s+i) 0) 0 (E9 k mem (fu -16)) (BX (i+1) (s+i) 0):=ST.fe (ST.o (DO.xp (EX.se (BX i (s+i) 0) (i+1) (EX.tw EX.re EX.nu (EJ (a:=i) (b:=1))))))
  have s26_1:ST 9 26 (E9 k mem (fu -1)) (BX i s 0) 0 (E9 k mem (fu -16)) (BX (i+1) (s+i) 0):=ST.fe (ST.at (DO.bl [10,16,22] 4 (BL.co (ST.mo (d:=5) s10_1) (BL.co s16_2 (BL.co s22_3 BL.ni)))))
  have ih:=dN k mem r (i+1) (s+i) (fu -16) (by omega) (by omega) (by omega) (by omega) (by omega) (by omega) (by omega)
  rw [show 4*(r+1)+1=4*r+1+4 by omega]
  exact WH.fe (WH.go (v:=0) (dk rfl) (EX.mo (d:=1) e) (by decide) s26_1 (.inl rfl) (.inr ⟨.inr (.inr rfl),rfl,rfl⟩) (.inr ⟨.inr rfl,rfl⟩) ih)
theorem ji (k:Int) (mem:List Int): ∀ (m:Nat) (fu:Int),k=m->k<=200->16*(m:Int)+12<=fu->fu<=1000000-> ∀ n N,(Bp (Aq.kS (A6.kR (n+9))) (N+(4*m+5))).2.2.1 26 true 27 (E9 k mem (fu)) (BX 0 0 0) (nd (QB k) 28)=Aa 0 (E9 k mem (fu -16*m -6)) (BX k (E7 m 0 0) 0)
 | 0,fu,hk,h2,h5,h6,n,N=>by
  have hk:k=0:=by omega
  subst hk
  have s9_0:ST 2 9 (E9 0 mem (fu -5)) (BX 0 0 0) 1 (E9 0 mem (fu -6)) (BX 0 0 0):=ST.fe (ST.o (DO.Jd (d:=0)))
  have s10_0:ST 5 10 (E9 0 mem (fu -1)) (BX 0 0 0) 1 (E9 0 mem (fu -6)) (BX 0 0 0):=ST.fe (ST.o (DO.jM (EX.fe (EX.tw EX.nu EX.re (Nr (a:=0) (b:=0)))) (ST.mo (d:=2) s9_0)))
  have s26_0:ST 7 26 (E9 0 mem (fu)) (BX 0 0 0) 1 (E9 0 mem (fu -6)) (BX 0 0 0):=ST.fe (ST.at (DO.bl [10,16,22] 1 (BL.ex s10_0)))
  exact WO (c:=1) (ST.fe (ST.mo (d:=7) s26_0)) n N
 | m+1,fu,hk,h2,h5,h6,n,N=>by
  have s10_0:ST 5 10 (E9 k mem (fu -1)) (BX 0 0 0) 0 (E9 k mem (fu -5)) (BX 0 0 0):=ST.fe (ST.o (DO.jL (EX.tw EX.nu EX.re (Nq (a:=k) (b:=0)))))
  have s16_1:ST 7 16 (E9 k mem (fu -5)) (BX 0 0 0) 0 (E9 k mem (fu -10)) (BX 0 (0+0) 0):=ST.fe (ST.o (DO.xp (EX.se (BX 0 0 0) (0+0) (EX.tw EX.re EX.re (EJ (a:=0) (b:=0))))))
  have s22_2:ST 7 22 (E9 k mem (fu -10)) (BX 0 (0+0) 0) 0 (E9 k mem (fu -15)) (BX (0+1) (0+0) 0):=ST.fe (ST.o (DO.xp (EX.se (BX 0 (0+0) 0) (0+1) (EX.tw EX.re EX.nu (EJ (a:=0) (b:=1))))))
  have s26_0:ST 9 26 (E9 k mem (fu)) (BX 0 0 0) 0 (E9 k mem (fu -15)) (BX (0+1) (0+0) 0):=ST.fe (ST.at (DO.bl [10,16,22] 4 (BL.co (ST.mo (d:=5) s10_0) (BL.co s16_1 (BL.co s22_2 BL.ni)))))
  have ih:=dN k mem m (0+1) (0+0) (fu -15) (by omega) (by omega) (by omega) (by omega) (by omega) (by omega) (by omega)
  rw [show 4*(m+1)+5=4*m+1+4+4 by omega]
  exact Zk (v:=0) (c:=4*m+1+4) s26_0 (.inl rfl) (.inr ⟨.inr (.inr rfl),rfl,rfl⟩) (.inr ⟨.inr rfl,rfl⟩) (WH.cm (WH.fe ih) 4) n N
theorem ba (m:Nat) (hm:m<200) (k fu:Int) (hk:k=m) (hf:fu=20000):F0.k (QB k) [] fu=Cn (Dop.PJ.mk 1 (E7 m 0 0) []):=by
  have s2_0:ST 5 2 (E9 k B1 (fu -2)) (BX 0 0 0) 0 (E9 k B1 (fu -5)) (BX 0 0 0):=ST.fe (ST.o (DO.xp (EX.se (BX 0 0 0) 0 EX.nu)))
  have s5_1:ST 5 5 (E9 k B1 (fu -5)) (BX 0 0 0) 0 (E9 k B1 (fu -8)) (BX 0 0 0):=ST.fe (ST.o (DO.xp (EX.se (BX 0 0 0) 0 EX.nu)))
  have sL:ST 12 28 (E9 k B1 (fu -8)) (BX 0 0 0) 0 (E9 k B1 (fu -16*(m:Int) -15)) (BX k (E7 m 0 0) 0):=ST.fe (ST.at (DO.oQ (c:=4*m+5) rfl rfl (ji k B1 m (fu -9) (by omega) (by omega) (by omega) (by omega)) (by omega)))
  have s30_3:ST 3 30 (E9 k B1 (fu -16*(m:Int) -15)) (BX k (E7 m 0 0) 0) 3 (E9 k B1 (fu -16*(m:Int) -17)) (BX k (E7 m 0 0) (E7 m 0 0)):=ST.fe (ST.o (DO.gi (E7 m 0 0) (BX k (E7 m 0 0) 0) EX.re))
  have s35_0:ST 14 35 (E9 k B1 (fu -1)) (BX 0 0 0) 3 (E9 k B1 (fu -16*(m:Int) -17)) (BX k (E7 m 0 0) (E7 m 0 0)):=ST.fe (ST.at (DO.bl [2,5,28,30] 4 (BL.co (ST.mo (d:=5) s2_0) (BL.co (ST.mo (d:=5) s5_1) (BL.co sL (BL.ex (ST.mo (d:=3) s30_3)))))))
  have s37_0:ST 16 37 (E9 k B1 (fu)) (BX 0 0 0) 3 (E9 k B1 (fu -16*(m:Int) -17)) (BX k (E7 m 0 0) (E7 m 0 0)):=ST.fe (ST.at (DO.bl [35] 1 (BL.ex s35_0)))
  have c0:CL 17 0 [] (E9 k B1 fu) (E7 m 0 0) (E9 k B1 (fu -16*(m:Int) -17)):=CL.of (sp:=1) (h:=3) (f1:=(BX k (E7 m 0 0) (E7 m 0 0))) (d:=16) (g:=.mk [109,97,105,110] 0 2 0 37) ⟨dk rfl,dk rfl⟩ rfl (by rw [G6];decide) ⟨dk rfl,dk rfl⟩ ⟨dk rfl,dk rfl⟩ ⟨dk rfl,dk rfl⟩ s37_0 (by decide)
  exact ZR rfl (by kernel_rfl) ⟨by omega,by omega⟩ c0 (by decide)
theorem dK (k:Int) (mem:List Int): ∀ (r:Nat) (i s t fu:Int),i+r=k->0<=i->k<=200->0<=s->s+200*r<=100000->19*(r:Int)+13<=fu->fu<=1000000->
  JP 19 (r+2) (.mk [109,97,105,110] 0 3 0 39) (C5 k mem (fu)) (An i s t 0 [97] 1) (E7 r i s) (C5 k mem (fu -19*r -8))
 | 0,i,s,t,fu,h0,h1,h2,h3,h4,h5,h6=>by
  have hk:i=k:=by omega
  subst hk
  have s9_0:ST 2 9 (C5 i mem (fu -4)) (An i s t 0 [97] 0) 4 (C5 i mem (fu -5)) (An i s t 0 [98] 0):=ST.fe (ST.o (DO.goto (d:=0)))
  have s10_0:ST 5 10 (C5 i mem (fu)) (An i s t 0 [97] 0) 4 (C5 i mem (fu -5)) (An i s t 0 [98] 0):=ST.fe (ST.o (DO.jM (EX.fe (EX.tw EX.nu EX.re (Nr (a:=i) (b:=i)))) (ST.mo (d:=2) s9_0)))
  have s11_0:ST 7 11 (C5 i mem (fu)) (An i s t 0 [97] 1) 4 (C5 i mem (fu -5)) (An i s t 0 [98] 0):=ST.fe (ST.CN (DO.hit s10_0))
  have s37_0:ST 9 37 (C5 i mem (fu)) (An i s t 0 [97] 1) 4 (C5 i mem (fu -5)) (An i s t 0 [98] 0):=ST.fe (ST.CN (DO.bl [2,5,11,26,27,30] 3 (BL.co (ST.mo (d:=1) (ST.skip (d:=0))) (BL.co (ST.mo (d:=1) (ST.skip (d:=0))) (BL.ex s11_0)))))
  have a0:ST 11 39 (C5 i mem (fu)) (An i s t 0 [97] 1) 4 (C5 i mem (fu -5)) (An i s t 0 [98] 0):=ST.fe (ST.CN (DO.bl [37] 1 (BL.ex s37_0)))
  have s29_5:ST 3 29 (C5 i mem (fu -6)) (An i s t 0 [98] 0) 3 (C5 i mem (fu -8)) (An i s t s [98] 0):=ST.fe (ST.o (DO.gi s (An i s t 0 [98] 0) EX.re))
  have s30_5:ST 5 30 (C5 i mem (fu -6)) (An i s t 0 [98] 1) 3 (C5 i mem (fu -8)) (An i s t s [98] 0):=ST.fe (ST.CN (DO.hit s29_5))
  have s37_5:ST 7 37 (C5 i mem (fu -6)) (An i s t 0 [98] 1) 3 (C5 i mem (fu -8)) (An i s t s [98] 0):=ST.fe (ST.CN (DO.bl [2,5,11,26,27,30] 6 (BL.co (ST.mo (d:=1) (ST.skip (d:=0))) (BL.co (ST.mo (d:=1) (ST.skip (d:=0))) (BL.co (ST.mo (d:=1) (ST.skip (d:=0))) (BL.co (ST.mo (d:=1) (ST.skip (d:=0))) (BL.co (ST.mo (d:=1) (ST.skip (d:=0))) (BL.ex s30_5))))))))
  have b:ST 9 39 (C5 i mem (fu -6)) (An i s t 0 [98] 1) 3 (C5 i mem (fu -8)) (An i s t s [98] 0):=ST.fe (ST.CN (DO.bl [37] 1 (BL.ex s37_5)))
  exact JP.fe (JP.jump (ST.mo (d:=11) a0) (by omega) (by omega) (JP.fs (JP.cv (c:=0) (An i s t s [98] 0) rfl rfl ⟨dk rfl,dk rfl⟩ (ST.mo (d:=9) b) (by decide))))
 | r+1,i,s,t,fu,h0,h1,h2,h3,h4,h5,h6=>by
  have s10_0:ST 5 10 (C5 k mem (fu)) (An i s t 0 [97] 0) 0 (C5 k mem (fu -4)) (An i s t 0 [97] 0):=ST.fe (ST.o (DO.jL (EX.tw EX.nu EX.re (Nq (a:=k) (b:=i)))))
  have s11_0:ST 7 11 (C5 k mem (fu)) (An i s t 0 [97] 1) 0 (C5 k mem (fu -4)) (An i s t 0 [97] 0):=ST.fe (ST.CN (DO.hit s10_0))
  have s26_2:ST 15 26 (C5 k mem (fu -4)) (An i s t 0 [97] 0) 0 (C5 k mem (fu -17)) (An (i+1) (s+i) i 0 [97] 0):=ST.fe (ST.o (DO.xp (EX.se (An (i+1) s i 0 [97] 0) (s+i) (EX.tw (EX.mo (d:=1) EX.re) (EX.comma (EX.mo (d:=3) (EX.se (An i s t 0 [97] 0) i EX.re)) (EX.comma (EX.se (An i s i 0 [97] 0) (i+1) (EX.tw EX.re EX.nu (EJ (a:=i) (b:=1)))) (EX.mo (d:=1) EX.re))) (EJ (a:=s) (b:=i))))))
  have s27_3:ST 2 27 (C5 k mem (fu -17)) (An (i+1) (s+i) i 0 [97] 0) 4 (C5 k mem (fu -18)) (An (i+1) (s+i) i 0 [97] 0):=ST.fe (ST.o (DO.goto (d:=0)))
  have s37_0:ST 17 37 (C5 k mem (fu)) (An i s t 0 [97] 1) 4 (C5 k mem (fu -18)) (An (i+1) (s+i) i 0 [97] 0):=ST.fe (ST.CN (DO.bl [2,5,11,26,27,30] 5 (BL.co (ST.mo (d:=1) (ST.skip (d:=0))) (BL.co (ST.mo (d:=1) (ST.skip (d:=0))) (BL.co (ST.mo (d:=7) s11_0) (BL.co s26_2 (BL.ex (ST.mo (d:=2) s27_3))))))))
  have a0:ST 19 39 (C5 k mem (fu)) (An i s t 0 [97] 1) 4 (C5 k mem (fu -18)) (An (i+1) (s+i) i 0 [97] 0):=ST.fe (ST.CN (DO.bl [37] 1 (BL.ex s37_0)))
  have ih:=dK k mem r (i+1) (s+i) i (fu -19) (by omega) (by omega) (by omega) (by omega) (by omega) (by omega) (by omega)
  exact JP.fe (JP.jump a0 (by omega) (by omega) (JP.fs ih))
theorem jh (k:Int): ∀ (m:Nat) (fu:Int),k=m->k<=200->19*(m:Int)+48<=fu->fu<=1000000-> ∃ u,CL 20 0 [] (C5 k B1 fu) (E7 m 0 0) (C5 k B1 u)
 | 0,fu,hk,h2,h5,h6=>by
  have hk:k=0:=by omega
  subst hk
  have s2_0:ST 5 2 (C5 0 B1 (fu -2)) (An 0 0 0 0 [] 0) 0 (C5 0 B1 (fu -5)) (An 0 0 0 0 [] 0):=ST.fe (ST.o (DO.xp (EX.se (An 0 0 0 0 [] 0) 0 EX.nu)))
  have s5_1:ST 5 5 (C5 0 B1 (fu -5)) (An 0 0 0 0 [] 0) 0 (C5 0 B1 (fu -8)) (An 0 0 0 0 [] 0):=ST.fe (ST.o (DO.xp (EX.se (An 0 0 0 0 [] 0) 0 EX.nu)))
  have s9_2:ST 2 9 (C5 0 B1 (fu -13)) (An 0 0 0 0 [] 0) 4 (C5 0 B1 (fu -14)) (An 0 0 0 0 [98] 0):=ST.fe (ST.o (DO.goto (d:=0)))
  have s10_2:ST 5 10 (C5 0 B1 (fu -9)) (An 0 0 0 0 [] 0) 4 (C5 0 B1 (fu -14)) (An 0 0 0 0 [98] 0):=ST.fe (ST.o (DO.jM (EX.fe (EX.tw EX.nu EX.re (Nr (a:=0) (b:=0)))) (ST.mo (d:=2) s9_2)))
  have s11_2:ST 7 11 (C5 0 B1 (fu -8)) (An 0 0 0 0 [] 0) 4 (C5 0 B1 (fu -14)) (An 0 0 0 0 [98] 0):=ST.fe (ST.at (DO.label s10_2))
  have s37_0:ST 9 37 (C5 0 B1 (fu -1)) (An 0 0 0 0 [] 0) 4 (C5 0 B1 (fu -14)) (An 0 0 0 0 [98] 0):=ST.fe (ST.at (DO.bl [2,5,11,26,27,30] 3 (BL.co (ST.mo (d:=5) s2_0) (BL.co (ST.mo (d:=5) s5_1) (BL.ex s11_2)))))
  have a0:ST 11 39 (C5 0 B1 (fu)) (An 0 0 0 0 [] 0) 4 (C5 0 B1 (fu -14)) (An 0 0 0 0 [98] 0):=ST.fe (ST.at (DO.bl [37] 1 (BL.ex s37_0)))
  have s29_7:ST 3 29 (C5 0 B1 (fu -15)) (An 0 0 0 0 [98] 0) 3 (C5 0 B1 (fu -17)) (An 0 0 0 0 [98] 0):=ST.fe (ST.o (DO.gi 0 (An 0 0 0 0 [98] 0) EX.re))
  have s30_7:ST 5 30 (C5 0 B1 (fu -15)) (An 0 0 0 0 [98] 1) 3 (C5 0 B1 (fu -17)) (An 0 0 0 0 [98] 0):=ST.fe (ST.CN (DO.hit s29_7))
  have s37_7:ST 7 37 (C5 0 B1 (fu -15)) (An 0 0 0 0 [98] 1) 3 (C5 0 B1 (fu -17)) (An 0 0 0 0 [98] 0):=ST.fe (ST.CN (DO.bl [2,5,11,26,27,30] 6 (BL.co (ST.mo (d:=1) (ST.skip (d:=0))) (BL.co (ST.mo (d:=1) (ST.skip (d:=0))) (BL.co (ST.mo (d:=1) (ST.skip (d:=0))) (BL.co (ST.mo (d:=1) (ST.skip (d:=0))) (BL.co (ST.mo (d:=1) (ST.skip (d:=0))) (BL.ex s30_7))))))))
  have b:ST 9 39 (C5 0 B1 (fu -15)) (An 0 0 0 0 [98] 1) 3 (C5 0 B1 (fu -17)) (An 0 0 0 0 [98] 0):=ST.fe (ST.CN (DO.bl [37] 1 (BL.ex s37_7)))
  exact ⟨_,CL.jump (sp:=1) (d:=19) (c:=1) (g:=.mk [109,97,105,110] 0 3 0 39) ⟨dk rfl,dk rfl⟩ rfl (by rw [G6];decide) ⟨dk rfl,dk rfl⟩ ⟨dk rfl,dk rfl⟩ ⟨dk rfl,dk rfl⟩ (ST.mo (d:=11) a0) (by omega) (by omega) (JP.fs (JP.cv (c:=0) (An 0 0 0 0 [98] 0) rfl rfl ⟨dk rfl,dk rfl⟩ (ST.mo (d:=9) b) (by decide))) (by omega)⟩
 | m+1,fu,hk,h2,h5,h6=>by
  have s2_0:ST 5 2 (C5 k B1 (fu -2)) (An 0 0 0 0 [] 0) 0 (C5 k B1 (fu -5)) (An 0 0 0 0 [] 0):=ST.fe (ST.o (DO.xp (EX.se (An 0 0 0 0 [] 0) 0 EX.nu)))
  have s5_1:ST 5 5 (C5 k B1 (fu -5)) (An 0 0 0 0 [] 0) 0 (C5 k B1 (fu -8)) (An 0 0 0 0 [] 0):=ST.fe (ST.o (DO.xp (EX.se (An 0 0 0 0 [] 0) 0 EX.nu)))
  have s10_2:ST 5 10 (C5 k B1 (fu -9)) (An 0 0 0 0 [] 0) 0 (C5 k B1 (fu -13)) (An 0 0 0 0 [] 0):=ST.fe (ST.o (DO.jL (EX.tw EX.nu EX.re (Nq (a:=k) (b:=0)))))
  have s11_2:ST 7 11 (C5 k B1 (fu -8)) (An 0 0 0 0 [] 0) 0 (C5 k B1 (fu -13)) (An 0 0 0 0 [] 0):=ST.fe (ST.at (DO.label s10_2))
  have s26_4:ST 15 26 (C5 k B1 (fu -13)) (An 0 0 0 0 [] 0) 0 (C5 k B1 (fu -26)) (An (0+1) (0+0) 0 0 [] 0):=ST.fe (ST.o (DO.xp (EX.se (An (0+1) 0 0 0 [] 0) (0+0) (EX.tw (EX.mo (d:=1) EX.re) (EX.comma (EX.mo (d:=3) (EX.se (An 0 0 0 0 [] 0) 0 EX.re)) (EX.comma (EX.se (An 0 0 0 0 [] 0) (0+1) (EX.tw EX.re EX.nu (EJ (a:=0) (b:=1)))) (EX.mo (d:=1) EX.re))) (EJ (a:=0) (b:=0))))))
  have s27_5:ST 2 27 (C5 k B1 (fu -26)) (An (0+1) (0+0) 0 0 [] 0) 4 (C5 k B1 (fu -27)) (An (0+1) (0+0) 0 0 [97] 0):=ST.fe (ST.o (DO.goto (d:=0)))
  have s37_0:ST 17 37 (C5 k B1 (fu -1)) (An 0 0 0 0 [] 0) 4 (C5 k B1 (fu -27)) (An (0+1) (0+0) 0 0 [97] 0):=ST.fe (ST.at (DO.bl [2,5,11,26,27,30] 5 (BL.co (ST.mo (d:=5) s2_0) (BL.co (ST.mo (d:=5) s5_1) (BL.co (ST.mo (d:=7) s11_2) (BL.co s26_4 (BL.ex (ST.mo (d:=2) s27_5))))))))
  have a0:ST 19 39 (C5 k B1 (fu)) (An 0 0 0 0 [] 0) 4 (C5 k B1 (fu -27)) (An (0+1) (0+0) 0 0 [97] 0):=ST.fe (ST.at (DO.bl [37] 1 (BL.ex s37_0)))
  have ih:=dK k B1 m (0+1) (0+0) 0 (fu -28) (by omega) (by omega) (by omega) (by omega) (by omega) (by omega) (by omega)
  exact ⟨_,CL.jump (sp:=1) (d:=19) (c:=m+2) (g:=.mk [109,97,105,110] 0 3 0 39) ⟨dk rfl,dk rfl⟩ rfl (by rw [G6];decide) ⟨dk rfl,dk rfl⟩ ⟨dk rfl,dk rfl⟩ ⟨dk rfl,dk rfl⟩ a0 (by omega) (by omega) (JP.fs ih) (by omega)⟩
theorem bb (m:Nat) (hm:m<200) (k fu:Int) (hk:k=m) (hf:fu=20000):F0.k (Tk k) [] fu=Cn (Dop.PJ.mk 1 (E7 m 0 0) []):=by
  obtain ⟨u,c0⟩:=jh k m fu hk (by omega) (by omega) (by omega)
  exact ZR rfl (by kernel_rfl) ⟨by omega,by omega⟩ c0 (by decide)
theorem kT: ∀ r:Nat,0<=Lk r/\Lk r<=200*(r:Int)\/200<r:=fun r=>by
 by_cases h:200<r
 ·exact .inr h
 ·refine .inl ?_
  have: ∀ n:Nat,n<=200->0<=Lk n/\Lk n<=200*(n:Int):=fun n=>by
   induction n with
   | zero=>intro _;exact ⟨by decide,by decide⟩
   | succ n ih=>intro h;have:=ih (by omega);show 0<=(n:Int)+Lk n/\(n:Int)+Lk n<=_;omega
  exact this r (by omega)
theorem dJ (k:Int) (mem:List Int) (hm:mem.length=4096): ∀ (r:Nat) (i fu:Int),i=r->r<=200->15*(r:Int)+13<=fu->fu<=1000000->CL (14*r+12) 0 [i] (OH k mem fu) (Lk r) (OH k mem (fu -15*r -8))
 | 0,i,fu,h0,h1,h2,h3=>by
  have s14_0:ST 7 14 (OH k mem (fu -2)) (Ij i 0) 3 (OH k mem (fu -8)) (Ij i 0):=ST.fe (ST.o (DO.gi 0 (Ij i 0) (EX.im (EX.tw EX.re EX.nu (Nr (a:=i) (b:=0))) (EX.mo (d:=1) EX.nu))))
  have s16_0:ST 9 16 (OH k mem (fu -1)) (Ij i 0) 3 (OH k mem (fu -8)) (Ij i 0):=ST.fe (ST.at (DO.bl [14] 1 (BL.ex s14_0)))
  have s18_0:ST 11 18 (OH k mem (fu)) (Ij i 0) 3 (OH k mem (fu -8)) (Ij i 0):=ST.fe (ST.at (DO.bl [16] 1 (BL.ex s16_0)))
  exact CL.fe (CL.l9 (sp:=1) (h:=3) (f1:=(Ij i 0)) (d:=14*0+11) (g:=.mk [102] 1 1 0 18) rfl ⟨dk rfl,dk rfl⟩ rfl (by show (1:Int)+0<=I mem.length;rw [hm];decide) ⟨dk rfl,dk rfl⟩ ⟨dk rfl,dk rfl⟩ ⟨dk rfl,dk rfl⟩ s18_0 (by decide))
 | r+1,i,fu,h0,h1,h2,h3=>by
  have hb:=kT r
  have hv:i -1+Lk r=Lk (r+1):=by show _=(r:Int)+Lk r;omega
  have s14_0:ST (14*r+19) 14 (OH k mem (fu -2)) (Ij i 0) 3 (OH k mem (fu -15*(r:Int) -23)) (Ij i ((i -1)+(Lk r))):=ST.fe (ST.o (DO.gi ((i -1)+(Lk r)) (Ij i 0) (EX.il (EX.mo (d:=3) (EX.tw EX.re EX.nu (Nq (a:=i) (b:=0)))) (EX.tw (EX.mo (d:=3) (EX.tw EX.re EX.nu (Ns (a:=i) (b:=1)))) (EX.call (l:=[9]) (c:=2) (by kernel_rfl) (AR.cons (d:=(14*r+11)) (EX.mo (d:=3) (EX.fe (EX.tw EX.re EX.nu (Ns (a:=i) (b:=1))))) (AR.call (c:=0) (dJ k mem hm r (i -1) (fu -15) (by omega) (by omega) (by omega) (by omega))))) (EJ (a:=(i -1)) (b:=(Lk r)))))))
  have s16_0:ST (14*r+21) 16 (OH k mem (fu -1)) (Ij i 0) 3 (OH k mem (fu -15*(r:Int) -23)) (Ij i ((i -1)+(Lk r))):=ST.fe (ST.at (DO.bl [14] 1 (BL.ex s14_0)))
  have s18_0:ST (14*r+23) 18 (OH k mem (fu)) (Ij i 0) 3 (OH k mem (fu -15*(r:Int) -23)) (Ij i ((i -1)+(Lk r))):=ST.fe (ST.at (DO.bl [16] 1 (BL.ex s16_0)))
  exact CL.fe (CL.l9 (sp:=1) (h:=3) (f1:=(Ij i ((i -1)+(Lk r)))) (d:=14*r+25) (g:=.mk [102] 1 1 0 18) hv ⟨dk rfl,dk rfl⟩ rfl (by show (1:Int)+0<=I mem.length;rw [hm];decide) ⟨dk rfl,dk rfl⟩ ⟨dk rfl,dk rfl⟩ ⟨dk rfl,dk rfl⟩ (ST.mo (d:=(14*r+23)) s18_0) (by decide))
theorem bc (m:Nat) (hm:m<200) (k fu:Int) (hk:k=m) (hf:fu=20000):F0.k (Tl k) [] fu=Cn (Dop.PJ.mk 1 (Lk m) []):=by
  have s22_0:ST (14*m+15) 22 (OH k B1 (fu -2)) (Rk 0) 3 (OH k B1 (fu -15*(m:Int) -13)) (Rk (Lk m)):=ST.fe (ST.o (DO.gi (Lk m) (Rk 0) (EX.call (l:=[19]) (c:=2) (by kernel_rfl) (AR.cons (d:=(14*m+11)) (EX.mo (d:=1) (EX.fe EX.nu)) (AR.call (c:=0) (dJ k B1 G6 m k (fu -5) (by omega) (by omega) (by omega) (by omega)))))))
  have s24_0:ST (14*m+17) 24 (OH k B1 (fu -1)) (Rk 0) 3 (OH k B1 (fu -15*(m:Int) -13)) (Rk (Lk m)):=ST.fe (ST.at (DO.bl [22] 1 (BL.ex s22_0)))
  have s26_0:ST (14*m+19) 26 (OH k B1 (fu)) (Rk 0) 3 (OH k B1 (fu -15*(m:Int) -13)) (Rk (Lk m)):=ST.fe (ST.at (DO.bl [24] 1 (BL.ex s24_0)))
  have c0:CL ((14*m+19)+1) 1 [] (OH k B1 fu) (Lk m) (OH k B1 (fu -15*(m:Int) -13)):=CL.l9 (sp:=1) (h:=3) (f1:=(Rk (Lk m))) (d:=(14*m+19)) (g:=.mk [109,97,105,110] 0 0 0 26) rfl ⟨dk rfl,dk rfl⟩ rfl (by rw [G6];decide) ⟨dk rfl,dk rfl⟩ ⟨dk rfl,dk rfl⟩ ⟨dk rfl,dk rfl⟩ s26_0 (by decide)
  exact ZR rfl (by kernel_rfl) ⟨by omega,by omega⟩ c0 (by omega)
abbrev HO (s:Int):List Int:=0::s::List.replicate 4094 0
theorem J3 (s:Int):(HO s).length=4096:=by rw [List.length_cons,List.length_cons,List.length_replicate]
theorem Tj (s:Int):(1:Int)<=1/\(1:Int)<I (HO s).length:=by rw [J3];decide
theorem YY (k:Int): ∀ (r:Nat) (i s t q fu:Int),i=r->r<=200->0<=s->s+200*r<=100000->23*(r:Int)+14<=fu->fu<=1000000-> ∃ u tq1 q1,(fu -23*r -9<=u/\u<=fu)/\WH 13 (4*r+1) 36 18 (nd (Rn k) 37) (IX k (HO s) fu) (CJ i 1 t q 0) 0 (IX k (HO (Qm r i s)) u) (CJ (-1) 1 tq1 q1 0)
 | 0,i,s,t,q,fu,h0,h1,h2,h3,h4,h5=>by
  have hi:i=0:=by omega
  subst hi
  have e:EX 9 18 (IX k (HO s) (fu)) (CJ 0 1 t q 0) 0 (IX k (HO s) (fu -9)) (CJ (0 -1) 1 0 q 0):=EX.fe (EX.comma (EX.mo (d:=3) (EX.se (CJ 0 1 t q 0) 0 EX.re)) (EX.comma (EX.se (CJ 0 1 0 q 0) (0 -1) (EX.tw EX.re EX.nu (Ns (a:=0) (b:=1)))) (EX.mo (d:=1) EX.re)))
  exact ⟨_,_,_,⟨by omega,by omega⟩,WH.stop (c:=0) (dk rfl) (EX.mo (d:=9) e)⟩
 | 1,i,s,t,q,fu,h0,h1,h2,h3,h4,h5=>by
  have hi:i=1:=by omega
  subst hi
  have e:EX 9 18 (IX k (HO s) (fu)) (CJ 1 1 t q 0) 1 (IX k (HO s) (fu -9)) (CJ (1 -1) 1 1 q 0):=EX.fe (EX.comma (EX.mo (d:=3) (EX.se (CJ 1 1 t q 0) 1 EX.re)) (EX.comma (EX.se (CJ 1 1 1 q 0) (1 -1) (EX.tw EX.re EX.nu (Ns (a:=1) (b:=1)))) (EX.mo (d:=1) EX.re)))
  have s21_1:ST 2 21 (IX k (HO s) (fu -13)) (CJ (1 -1) 1 1 q 0) 2 (IX k (HO s) (fu -14)) (CJ (1 -1) 1 1 q 0):=ST.fe (ST.o (DO.cont (d:=0)))
  have s22_1:ST 5 22 (IX k (HO s) (fu -10)) (CJ (1 -1) 1 1 q 0) 2 (IX k (HO s) (fu -14)) (CJ (1 -1) 1 1 q 0):=ST.fe (ST.o (DO.jM (EX.fe (EX.on EX.re (b9 (a:=(1 -1))))) (ST.mo (d:=2) s21_1)))
  have s36_1:ST 7 36 (IX k (HO s) (fu -9)) (CJ (1 -1) 1 1 q 0) 2 (IX k (HO s) (fu -14)) (CJ (1 -1) 1 1 q 0):=ST.fe (ST.at (DO.bl [22,33] 1 (BL.ex s22_1)))
  obtain ⟨u,tq1,q1,hu,ih⟩:=YY k 0 (1 -1) s 1 q (fu -14) (by omega) (by omega) (by omega) (by omega) (by omega) (by omega)
  refine ⟨u,tq1,q1,⟨by omega,by omega⟩,?_⟩
  rw [show Qm 1 1 s=s by show s+(1 -1)=s;omega]
  exact WH.go (v:=0) (dk rfl) (EX.mo (d:=9) e) (by decide) (ST.mo (d:=7) s36_1) (.inr rfl) (.inr ⟨.inl ⟨rfl,dk rfl⟩,rfl,rfl⟩) (.inl ⟨rfl,rfl⟩) ih
 | r+2,i,s,t,q,fu,h0,h1,h2,h3,h4,h5=>by
  have e:EX 9 18 (IX k (HO s) (fu)) (CJ i 1 t q 0) i (IX k (HO s) (fu -9)) (CJ (i -1) 1 i q 0):=EX.fe (EX.comma (EX.mo (d:=3) (EX.se (CJ i 1 t q 0) i EX.re)) (EX.comma (EX.se (CJ i 1 i q 0) (i -1) (EX.tw EX.re EX.nu (Ns (a:=i) (b:=1)))) (EX.mo (d:=1) EX.re)))
  have s22_1:ST 5 22 (IX k (HO s) (fu -10)) (CJ (i -1) 1 i q 0) 0 (IX k (HO s) (fu -13)) (CJ (i -1) 1 i q 0):=ST.fe (ST.o (DO.jL (EX.on EX.re (bz (a:=(i -1))))))
  have s33_2:ST 11 33 (IX k (HO s) (fu -13)) (CJ (i -1) 1 i q 0) 0 (IX k (HO (s+(i -1))) (fu -23)) (CJ (i -1) 1 i 1 0):=ST.fe (ST.o (DO.xp (EX.comma (EX.mo (d:=3) (EX.se (CJ (i -1) 1 i q 0) 1 EX.re)) (EX.store (v:=1) (w:=(s+(i -1))) (f2:=(CJ (i -1) 1 i 1 0)) (m2:=(HO s)) (EX.mo (d:=1) EX.re) (EX.tw (EX.load EX.re (Tj s) (Nat.le_of_eq (J3 s))) (EX.mo (d:=1) EX.re) (EJ (a:=s) (b:=(i -1)))) (Tj s) (Nat.le_of_eq (J3 s))))))
  have s36_1:ST 13 36 (IX k (HO s) (fu -9)) (CJ (i -1) 1 i q 0) 0 (IX k (HO (s+(i -1))) (fu -23)) (CJ (i -1) 1 i 1 0):=ST.fe (ST.at (DO.bl [22,33] 3 (BL.co (ST.mo (d:=5) s22_1) (BL.co s33_2 BL.ni))))
  obtain ⟨u,tq1,q1,hu,ih⟩:=YY k (r+1) (i -1) (s+(i -1)) i 1 (fu -23) (by omega) (by omega) (by omega) (by omega) (by omega) (by omega)
  refine ⟨u,tq1,q1,⟨by omega,by omega⟩,?_⟩
  rw [show 4*(r+2)+1=4*(r+1)+1+4 by omega]
  exact WH.go (v:=0) (dk rfl) (EX.mo (d:=9) e) (by omega) s36_1 (.inl rfl) (.inr ⟨.inl ⟨rfl,dk rfl⟩,rfl,rfl⟩) (.inl ⟨rfl,rfl⟩) ih
theorem bd (m:Nat) (hm:m<200) (k fu:Int) (hk:k=m) (hf:fu=20000):F0.k (Rn k) [] fu=Cn (Dop.PJ.mk 1 (Qm m k 0) []):=by
  have s2_0:ST 5 2 (IX k (HO 0) (fu -2)) (CJ 0 0 0 0 0) 0 (IX k (HO 0) (fu -5)) (CJ 0 0 0 0 0):=ST.fe (ST.o (DO.xp (EX.se (CJ 0 0 0 0 0) 0 EX.nu)))
  have s5_1:ST 5 5 (IX k (HO 0) (fu -5)) (CJ 0 0 0 0 0) 0 (IX k (HO 0) (fu -8)) (CJ 0 1 0 0 0):=ST.fe (ST.o (DO.xp (EX.se (CJ 0 0 0 0 0) 1 EX.nu)))
  obtain ⟨u,tq1,q1,hu,hw⟩:=YY k m k 0 0 0 (fu -11) (by omega) (by omega) (by omega) (by omega) (by omega) (by omega)
  have sL:ST 16 37 (IX k (HO 0) (fu -8)) (CJ 0 1 0 0 0) 0 (IX k (HO (Qm m k 0)) (u)) (CJ (-1) 1 tq1 q1 0):=ST.o (DO.for rfl rfl rfl (dk rfl) (EX.mo (d:=3) (EX.fe (EX.se (CJ 0 1 0 0 0) k EX.nu))) hw (by omega))
  have s40_4:ST 5 40 (IX k (HO (Qm m k 0)) (u)) (CJ (-1) 1 tq1 q1 0) 3 (IX k (HO (Qm m k 0)) (u -3)) (CJ (-1) 1 tq1 q1 (Qm m k 0)):=ST.fe (ST.o (DO.gi (Qm m k 0) (CJ (-1) 1 tq1 q1 0) (EX.load EX.nu (Tj (Qm m k 0)) (Nat.le_of_eq (J3 (Qm m k 0))))))
  have s45_0:ST 18 45 (IX k (HO 0) (fu -1)) (CJ 0 0 0 0 0) 3 (IX k (HO (Qm m k 0)) (u -3)) (CJ (-1) 1 tq1 q1 (Qm m k 0)):=ST.fe (ST.at (DO.bl [2,5,37,40] 4 (BL.co (ST.mo (d:=5) s2_0) (BL.co (ST.mo (d:=5) s5_1) (BL.co sL (BL.ex (ST.mo (d:=5) s40_4)))))))
  have s47_0:ST 20 47 (IX k (HO 0) (fu)) (CJ 0 0 0 0 0) 3 (IX k (HO (Qm m k 0)) (u -3)) (CJ (-1) 1 tq1 q1 (Qm m k 0)):=ST.fe (ST.at (DO.bl [45] 1 (BL.ex s45_0)))
  have c0:CL 21 0 [] (IX k (HO 0) fu) (Qm m k 0) (IX k (HO (Qm m k 0)) (u -3)):=CL.l9 (sp:=2) (h:=3) (f1:=(CJ (-1) 1 tq1 q1 (Qm m k 0))) (d:=20) (g:=.mk [109,97,105,110] 0 4 0 47) rfl ⟨dk rfl,dk rfl⟩ rfl (by show (2:Int)+0<=I (HO 0).length;rw [J3];decide) ⟨dk rfl,dk rfl⟩ ⟨dk rfl,dk rfl⟩ ⟨dk rfl,dk rfl⟩ s47_0 (by decide)
  exact nK (g:=.mk [115] 1 1 0) rfl ⟨by decide,by decide⟩ (by kernel_rfl) ⟨by omega,by omega⟩ c0 (by decide)
end Go.Proofs.Tryz
set_option maxRecDepth 100000
set_option maxHeartbeats 4000000
namespace Go.Proofs.Tryz
open Go Go.En
noncomputable section
abbrev LJ.T:Type:=Int->(List (List UInt8))->Int->Int->Fs Bool
abbrev m15.KT:Type:=LJ.T×Unit
def LJ.kB (tK:m15.KT):LJ.T:=fun k t32 t33 t34=>
 ci (t34<t33) (ck (0<=t34/\t34<I t32.length)<|
 ck (t34.toNat<t32.length)<|
 (OI.k (List.getD t32 t34.toNat []) [] 20000).bind fun y3=>
 ci (!(y3.1.2.1=0)) (Cn false)<|
 ck (BI (k -1))<|
 ck (BI (k*(k -1)))<|
 ck ((2:Int)≠0/\BI ((k*(k -1)).tdiv 2)=true)<|
 (V1.k y3.1.1 (Dop.PJ.mk 1 ((k*(k -1)).tdiv 2) [])).bind fun y5=>
 ci (!y5.1.1) (Cn false)<|
 ck (BI (t34+1))<|
 tK.1 k t32 t33 (t34+1))<|
 Cn true
def m15.kS (tK:m15.KT):m15.KT:=(LJ.kB tK,())
def m15.kL (n:Nat):m15.KT:=Bp m15.kS n
def m15.k0 (tK:m15.KT) (n:Int):Fs Bool:=
 ck (BI n)<|
 ck ((200:Int)≠0)<|
 ck (mU (n.tmod 200))<|
 ck ((Pz++P5).length+(Lib.itoa (n.tmod 200)).length<=9223372036854775807)<|
 ck (((Pz++P5)++Lib.itoa (n.tmod 200)).length+Ro.length<=9223372036854775807)<|
 ck ((P0++P6).length+(Lib.itoa (n.tmod 200)).length<=9223372036854775807)<|
 ck (((P0++P6)++Lib.itoa (n.tmod 200)).length+Rp.length<=9223372036854775807)<|
 ck ((P1++P7).length+(Lib.itoa (n.tmod 200)).length<=9223372036854775807)<|
 ck (((P1++P7)++Lib.itoa (n.tmod 200)).length+Rq.length<=9223372036854775807)<|
 ck ((P2++P8).length+(Lib.itoa (n.tmod 200)).length<=9223372036854775807)<|
 ck (((P2++P8)++Lib.itoa (n.tmod 200)).length+Rr.length<=9223372036854775807)<|
 ck ((P3++P9).length+(Lib.itoa (n.tmod 200)).length<=9223372036854775807)<|
 ck (((P3++P9)++Lib.itoa (n.tmod 200)).length+Rs.length<=9223372036854775807)<|
 ck ((P4++QA).length+(Lib.itoa (n.tmod 200)).length<=9223372036854775807)<|
 ck (((P4++QA)++Lib.itoa (n.tmod 200)).length+Rt.length<=9223372036854775807)<|
 tK.1 (n.tmod 200) (((Pz++P5)++Lib.itoa (n.tmod 200)++Ro)::((P0++P6)++Lib.itoa (n.tmod 200)++Rp)::((P1++P7)++Lib.itoa (n.tmod 200)++Rq)::((P2++P8)++Lib.itoa (n.tmod 200)++Rr)::((P3++P9)++Lib.itoa (n.tmod 200)++Rs)::((P4++QA)++Lib.itoa (n.tmod 200)++Rt)::[]) (I (((Pz++P5)++Lib.itoa (n.tmod 200)++Ro)::((P0++P6)++Lib.itoa (n.tmod 200)++Rp)::((P1++P7)++Lib.itoa (n.tmod 200)++Rq)::((P2++P8)++Lib.itoa (n.tmod 200)++Rr)::((P3++P9)++Lib.itoa (n.tmod 200)++Rs)::((P4++QA)++Lib.itoa (n.tmod 200)++Rt)::[]).length) 0
def m15.k (n:Int):Fs Bool:=m15.k0 (m15.kL 1000000) n
def m15.Kc:=kd 3 m15.p fun x=>m15.k x.1.1
theorem m15.Kh:m15.Kc.Holds prog:=Fx AI (hc itoa.holds (hc OI.Kh (hc V1.Kh (hc Wj.holds hn)))) m15.ok (fun t x=>m15.k0 t x.1.1) (fun c=>(fun k t32 t33 t34=>c 4 m15.q4 rfl ((k,t32,t33,t34,()),()),())) m15.kS (by kernel_rfl)
end
end Go.Proofs.Tryz
