/- EvalChars: what is told of the two sources' trees. -/
import Derived.Test.YtkpggdcpaeanaaaGreatDoorMu
set_option linter.all false
set_option maxRecDepth 1000000
namespace Go.Proofs.Tryz
open Go Go.En
def k9:List Dop.HH:=[.mk 0 0 0 [],.mk 1 0 0 [],.mk 2 0 0 [],.mk 3 0 0 []]
def Rr:CT:=(k9,[],())
def Y6 (n p q:Int):Dop.G2:=.mk [.mk 1 (-1) (-1) (-1) (-1) [] n 0 18,.mk 45 0 (-1) (-1) (-1) [99] 0 3 11,.mk 2 (-1) (-1) (-1) (-1) [99] 0 0 q,.mk 37 2 (-1) (-1) (-1) [] 0 0 p,.mk 20 3 (-1) (-1) (-1) [] 0 0 p,.mk 20 1 4 (-1) (-1) [] 0 0 11,.mk 43 5 (-1) (-1) (-1) [] 0 0 10,.mk 50 (-1) 6 (-1) (-1) [109,97,105,110] 0 1 0,.mk 20 7 (-1) (-1) (-1) [] 0 0 0] k9 8
def cZ (n m p0 p1 p2 p3 p4 p5 p6 p7:Int):Dop.G2:=.mk [.mk 1 (-1) (-1) (-1) (-1) [] n 0 22,.mk 45 0 (-1) (-1) (-1) [97] 0 2 11,.mk 1 (-1) (-1) (-1) (-1) [] m 0 p2,.mk 10 2 (-1) (-1) (-1) [] 0 1 p1,.mk 45 3 (-1) (-1) (-1) [98] 0 1 p0,.mk 2 (-1) (-1) (-1) (-1) [97] 0 0 p5,.mk 2 (-1) (-1) (-1) (-1) [98] 0 0 p7,.mk 4 5 6 (-1) (-1) [47] 0 0 p6,.mk 10 7 (-1) (-1) (-1) [] 0 1 p4,.mk 37 8 (-1) (-1) (-1) [] 0 0 p3,.mk 20 9 (-1) (-1) (-1) [] 0 0 p3,.mk 20 4 10 (-1) (-1) [] 0 0 p0,.mk 20 1 11 (-1) (-1) [] 0 0 11,.mk 43 12 (-1) (-1) (-1) [] 0 0 10,.mk 50 (-1) 13 (-1) (-1) [109,97,105,110] 0 1 0,.mk 20 14 (-1) (-1) (-1) [] 0 0 0] k9 15
def Kl (v:Int):Dop.IF:=.mk [.mk [109,97,105,110] 0 1 0 10] [] 1 [.mk 1 (-1) (-1) (-1) (-1) [] v 0 0,.mk 7 0 (-1) (-1) (-1) [] 22 0 0,.mk 6 1 (-1) (-1) (-1) [] 0 0 0,.mk 30 2 (-1) (-1) (-1) [] 0 0 0,.mk 2 (-1) (-1) (-1) (-1) [] 0 0 0,.mk 37 4 (-1) (-1) (-1) [] 0 0 0,.mk 20 5 (-1) (-1) (-1) [] 0 0 0,.mk 20 3 6 (-1) (-1) [] 0 0 0,.mk 43 7 (-1) (-1) (-1) [] 0 0 0,.mk 20 8 (-1) (-1) (-1) [] 0 0 0,.mk 43 9 (-1) (-1) (-1) [] 0 0 0]
def E6 (v w:Int):Dop.IF:=.mk [.mk [109,97,105,110] 0 2 0 15] [] 1 [.mk 1 (-1) (-1) (-1) (-1) [] v 0 0,.mk 6 0 (-1) (-1) (-1) [] 0 0 0,.mk 30 1 (-1) (-1) (-1) [] 0 0 0,.mk 1 (-1) (-1) (-1) (-1) [] w 0 0,.mk 6 3 (-1) (-1) (-1) [] 1 0 0,.mk 30 4 (-1) (-1) (-1) [] 0 0 0,.mk 2 (-1) (-1) (-1) (-1) [] 0 0 0,.mk 2 (-1) (-1) (-1) (-1) [] 1 0 0,.mk 8 6 7 (-1) (-1) [] 6 0 0,.mk 37 8 (-1) (-1) (-1) [] 0 0 0,.mk 20 9 (-1) (-1) (-1) [] 0 0 0,.mk 20 5 10 (-1) (-1) [] 0 0 0,.mk 20 2 11 (-1) (-1) [] 0 0 0,.mk 43 12 (-1) (-1) (-1) [] 0 0 0,.mk 20 13 (-1) (-1) (-1) [] 0 0 0,.mk 43 14 (-1) (-1) (-1) [] 0 0 0]
def WE (t:Dop.G2) (num:List Int) (nodes:List Dop.AU) (names:List (List UInt8×Dop.Da)) (An:Int):CK:=(t,(),num,[],[],1,nodes,[[],[],names],[([109,97,105,110],.mk [] 1)],[],.mk [109,97,105,110] 0 An 0 0,1,[],[],0,[],0,0,0,())
noncomputable abbrev Y5 (j:Nat):Bi.T:=Cw Bi.kS j
abbrev kP (n:Int):Dop.AU:=.mk 1 (-1) (-1) (-1) (-1) [] (IntKind.i32.wrap (IntKind.u32.wrap n)) 0 0
noncomputable abbrev SO (j:Nat) (c:CK) (n p ty:Int):R2 Dop.Ao CK CT:=Ha.kB (Y5 j) (A9.kL (Y5 j) 999999) ty c Rr (.mk 0 0 0 0 false) (.mk 1 (-1) (-1) (-1) (-1) [] n 0 p)
abbrev gU (c:CK) (n ty:Int):R2 Dop.Ao CK CT:=Ah (.mk (I (CK.nodes c).length) ty 0 0 (decide (n=0))) (CK.EY c (CK.nodes c++[kP n])) Rr
abbrev cV (n ty:Int):Prop:=ty=1/\n<2147483648\/ty=2/\2147483648<=n
theorem SR {j:Nat} {c:CK} {i n p ty:Int} (h:cV n ty) (e:A9.kr (Y5 (j+1)) i c Rr=ci (decide (2147483648<=n)) (SO j c n p 2) (SO j c n p 1)) (hp: ∀ ty,SO j c n p ty=gU c n ty):A9.kr (Y5 (j+1)) i c Rr=gU c n ty:=by
 rw [e,hp,hp]
 rcases h with ⟨rfl,h⟩|⟨rfl,h⟩
 ·rw [AL (decide_eq_false (by omega))]
 ·rw [Ai (decide_eq_true h)]
noncomputable def kM (j:Int) (y2:(Dop.Ao×Unit)×(CK×CT×Unit)):R2 Dop.Ao CK CT:=
 ci (CK.e y2.2.1=0) ((DX.k y2.1.1.CM y2.2.2.1).bind fun y4=>ci (!y4.1.1) ((Au.k 8 j y2.2.1 y4.2.1).bind Bp)<|Ah y2.1.1 y2.2.1 y4.2.1)<|Ah y2.1.1 y2.2.1 y2.2.2.1
noncomputable def k6 (w:List UInt8) (ty j:Int) (y4:(Dop.Ao×Unit)×(CK×CT×Unit)):R2 Int CK CT:=
 (Fy.k w ty j false y4.2.1 y4.2.2.1).bind fun y5=>ci (!y5.1.2.1) (Ah (-1) y5.2.1 y5.2.2.1)<|(DX.k ty y5.2.2.1).bind fun y7=>ci (!y7.1.1) ((Au.k 8 j y5.2.1 y7.2.1).bind fun y10=>Ah y10.1.1.n y10.2.1 y10.2.2.1)<|
  ci (y5.1.1.kind=3) ((FM.k y5.1.1 y5.2.1 y7.2.1).bind fun y11=>(BR.k y4.1.1 ty j false y11.2.1 y11.2.2.1).bind fun y12=>(EP.k (Dop.Ao.mk 0 ty 2 y11.1.1 false) y12.1.1 y12.2.1 y12.2.2.1).bind fun y13=>(Bn.k 30 y13.1.1 ((-1)) ((-1)) ((-1)) 0 [] y13.2.1 y13.2.2.1).bind Bp)<|
  (BR.k y4.1.1 ty j false y5.2.1 y7.2.1).bind fun y11=>(EP.k (Dop.Ao.mk 0 ty 1 y5.1.1.n false) y11.1.1 y11.2.1 y11.2.2.1).bind fun y12=>(Bn.k 30 y12.1.1 ((-1)) ((-1)) ((-1)) 0 [] y12.2.1 y12.2.2.1).bind Bp
noncomputable def kK (a l:List Int) (j k:Nat) (s:Int) (x:R2 Int CK CT):OA Dop.IF Int Int:=Option.bind (Option.bind (Option.bind (Option.bind (Option.bind x Bp)
 fun y3=>ck (Cu none (room 8 (a.length+(y3.1.1::[]).length)))<|ck (Az (I j+1))<|(C7.kL (Cw CU.kS 999999998) k).1 (a++y3.1.1::[]) l (I l.length) (I j+1) y3.2.1 y3.2.2.1 (.mk 43 s (-1) (-1) (-1) [] 0 0 10))
 fun y9=>ck (Az (I (CK.names y9.2.2.1).length -1))<|ck (0<=I (CK.names y9.2.2.1).length -1/\I (CK.names y9.2.2.1).length -1<=I (CK.names y9.2.2.1).length)<|Ah y9.1.1 (CK.Ct y9.2.2.1 (List.take (I (CK.names y9.2.2.1).length -1).toNat (CK.names y9.2.2.1))) y9.2.2.2.1)
 fun y3=>ck ((0:Int)<=1/\1<=I (CK.names y3.2.1).length)<|(Dr.kL 999999).2.1 [] y3.1.1 (CK.Ct y3.2.1 (List.take (Int.toNat 1) (CK.names y3.2.1))) y3.2.2.1)
 fun y6=>ck (Az (0+1))<|(F5.kL 999997).2.1 [s+2] (I 1) (0+1) [] [] 0 [] (y6.2.1.1,(),y6.2.1.2.2.1,y6.2.1.2.2.2.1,y6.2.1.2.2.2.2.1,y6.2.1.2.2.2.2.2.1,y6.2.1.2.2.2.2.2.2.1,y6.2.1.2.2.2.2.2.2.2.1,y6.2.1.2.2.2.2.2.2.2.2.1,(),y6.2.1.2.2.2.2.2.2.2.2.2.2.1,y6.2.1.2.2.2.2.2.2.2.2.2.2.2.1,(),(),y6.2.1.2.2.2.2.2.2.2.2.2.2.2.2.2.2.1,y6.2.1.2.2.2.2.2.2.2.2.2.2.2.2.2.2.2.1,y6.2.1.2.2.2.2.2.2.2.2.2.2.2.2.2.2.2.2.1,y6.2.1.2.2.2.2.2.2.2.2.2.2.2.2.2.2.2.2.2.1,y6.2.1.2.2.2.2.2.2.2.2.2.2.2.2.2.2.2.2.2.2.1,()) y6.2.2.1
section
variable (n m p q p0 p1 p2 p3 p4 p5 p6 p7:Int)
noncomputable abbrev mA:R2 Int CK CT:=Jd.k (.mk 45 0 (-1) (-1) (-1) [99] 0 3 11) 1 (WE (Y6 n p q) [0,1] [] [] 0) Rr
theorem ga:mA n p q=Option.bind (Option.bind (A9.kr (Y5 999999999) 0 (WE (Y6 n p q) [0,1,2,3] [] [] 0) Rr) (kM 0)) (k6 [99] 3 1):=by kernel_rfl
theorem gV:F5.k (Y6 n p q)=kK [] [1,3] 0 999999 5 (mA n p q):=by kernel_rfl
theorem gq:A9.kr (Y5 999999999) 0 (WE (Y6 n p q) [0,1,2,3] [] [] 0) Rr=ci (decide (2147483648<=n)) (SO 999999998 (WE (Y6 n p q) [0,1,2,3] [] [] 0) n 18 2) (SO 999999998 (WE (Y6 n p q) [0,1,2,3] [] [] 0) n 18 1):=by kernel_rfl
theorem gw (ty:Int):SO 999999998 (WE (Y6 n p q) [0,1,2,3] [] [] 0) n 18 ty=gU (WE (Y6 n p q) [0,1,2,3] [] [] 0) n ty:=by
 unfold SO Ha.kB ED.k
 rw [bA,Ae]
 kernel_rfl
theorem cd {ty:Int} (h:cV n ty):F5.k (Y6 n p q)=Js (Kl (IntKind.i32.wrap (IntKind.u32.wrap n))) 0 0:=by
 rw [gV,ga,SR h (gq n p q) (gw n p q)]
 rcases h with ⟨rfl,_⟩|⟨rfl,_⟩
 ·kernel_rfl
 ·kernel_rfl
end
end Go.Proofs.Tryz
set_option maxRecDepth 1000000
namespace Go.Proofs.Tryz
open Go Go.En
section
variable (n m p0 p1 p2 p3 p4 p5 p6 p7:Int)
abbrev fk:CK:=WE (cZ n m p0 p1 p2 p3 p4 p5 p6 p7) [0,1,2] [] [] 0
abbrev ZL:CK:=WE (cZ n m p0 p1 p2 p3 p4 p5 p6 p7) [0,1,2] [kP n,.mk 6 0 (-1) (-1) (-1) [] 0 0 0,.mk 30 1 (-1) (-1) (-1) [] 0 0 0] [([97],.mk 2 0 2)] 1
abbrev me:CK:=WE (cZ n m p0 p1 p2 p3 p4 p5 p6 p7) [0,1,2] [kP n,.mk 6 0 (-1) (-1) (-1) [] 0 0 0,.mk 30 1 (-1) (-1) (-1) [] 0 0 0,kP m,.mk 6 3 (-1) (-1) (-1) [] 1 0 0,.mk 30 4 (-1) (-1) (-1) [] 0 0 0] [([97],.mk 2 0 2),([98],.mk 2 1 1)] 2
noncomputable abbrev cT:R2 Int CK CT:=Jd.k (.mk 45 0 (-1) (-1) (-1) [97] 0 2 11) 1 (WE (cZ n m p0 p1 p2 p3 p4 p5 p6 p7) [0,1] [] [] 0) Rr
noncomputable abbrev cU:R2 Int CK CT:=Jd.k (.mk 45 3 (-1) (-1) (-1) [98] 0 1 p0) 4 (ZL n m p0 p1 p2 p3 p4 p5 p6 p7) Rr
theorem gd:cT n m p0 p1 p2 p3 p4 p5 p6 p7=Option.bind (Option.bind (A9.kr (Y5 999999999) 0 (fk n m p0 p1 p2 p3 p4 p5 p6 p7) Rr) (kM 0)) (k6 [97] 2 1):=by kernel_rfl
theorem gr:A9.kr (Y5 999999999) 0 (fk n m p0 p1 p2 p3 p4 p5 p6 p7) Rr=ci (decide (2147483648<=n)) (SO 999999998 (fk n m p0 p1 p2 p3 p4 p5 p6 p7) n 22 2) (SO 999999998 (fk n m p0 p1 p2 p3 p4 p5 p6 p7) n 22 1):=by kernel_rfl
theorem gx (ty:Int):SO 999999998 (fk n m p0 p1 p2 p3 p4 p5 p6 p7) n 22 ty=gU (fk n m p0 p1 p2 p3 p4 p5 p6 p7) n ty:=by
 unfold SO Ha.kB ED.k
 rw [bA,Ae]
 kernel_rfl
theorem gi {ty:Int} (h:cV n ty):cT n m p0 p1 p2 p3 p4 p5 p6 p7=Ah 2 (ZL n m p0 p1 p2 p3 p4 p5 p6 p7) Rr:=by
 rw [gd,SR h (gr n m p0 p1 p2 p3 p4 p5 p6 p7) (gx n m p0 p1 p2 p3 p4 p5 p6 p7)]
 rcases h with ⟨rfl,_⟩|⟨rfl,_⟩
 ·kernel_rfl
 ·kernel_rfl
theorem gg:cU n m p0 p1 p2 p3 p4 p5 p6 p7=Option.bind (Option.bind (Option.bind (Option.bind (A9.kr (Y5 999999997) 2 (ZL n m p0 p1 p2 p3 p4 p5 p6 p7) Rr) (kM 2))
  fun y8=>(BR.k y8.1.1 1 3 true y8.2.1 y8.2.2.1).bind fun y9=>Ah (Dop.Ao.mk y9.1.1 1 0 0 false) y9.2.1 y9.2.2.1) (kM 3)) (k6 [98] 1 4):=by kernel_rfl
theorem gu:A9.kr (Y5 999999997) 2 (ZL n m p0 p1 p2 p3 p4 p5 p6 p7) Rr=ci (decide (2147483648<=m)) (SO 999999996 (ZL n m p0 p1 p2 p3 p4 p5 p6 p7) m p2 2) (SO 999999996 (ZL n m p0 p1 p2 p3 p4 p5 p6 p7) m p2 1):=by kernel_rfl
theorem gy (ty:Int):SO 999999996 (ZL n m p0 p1 p2 p3 p4 p5 p6 p7) m p2 ty=gU (ZL n m p0 p1 p2 p3 p4 p5 p6 p7) m ty:=by
 unfold SO Ha.kB ED.k
 rw [bA,Ae]
 kernel_rfl
theorem gj {ty:Int} (h:cV m ty):cU n m p0 p1 p2 p3 p4 p5 p6 p7=Ah 5 (me n m p0 p1 p2 p3 p4 p5 p6 p7) Rr:=by
 rw [gg,SR h (gu n m p0 p1 p2 p3 p4 p5 p6 p7) (gy n m p0 p1 p2 p3 p4 p5 p6 p7)]
 rcases h with ⟨rfl,_⟩|⟨rfl,_⟩
 ·kernel_rfl
 ·kernel_rfl
theorem gW:F5.k (cZ n m p0 p1 p2 p3 p4 p5 p6 p7)=kK [] [1,4,9] 0 999999 12 (cT n m p0 p1 p2 p3 p4 p5 p6 p7):=by kernel_rfl
theorem gX:kK [] [1,4,9] 0 999999 12 (Ah 2 (ZL n m p0 p1 p2 p3 p4 p5 p6 p7) Rr)=kK [2] [1,4,9] 1 999998 12 (cU n m p0 p1 p2 p3 p4 p5 p6 p7):=by kernel_rfl
theorem cg {ty uy:Int} (h:cV n ty) (k:cV m uy):F5.k (cZ n m p0 p1 p2 p3 p4 p5 p6 p7)=Js (E6 (IntKind.i32.wrap (IntKind.u32.wrap n)) (IntKind.i32.wrap (IntKind.u32.wrap m))) 0 0:=by
 rw [gW,gi n m p0 p1 p2 p3 p4 p5 p6 p7 h,gX,gj n m p0 p1 p2 p3 p4 p5 p6 p7 k]
 kernel_rfl
end
end Go.Proofs.Tryz
set_option maxRecDepth 1000000
set_option maxHeartbeats 1000000
namespace Go.Proofs.Tryz
open Go Go.En
abbrev Vw:=List (Nat×Dop.Tok)
def ZP:List UInt8:=[105,110,116,32,109,97,105,110,40,41,123,99,104,97,114,32,99]
def ZQ:List UInt8:=[105,110,116,32,109,97,105,110,40,41,123,117,110,115,105,103,110,101,100,32,97]
def SQ:List UInt8:=[59,105,110,116,32,98,61,40,105,110,116,41]
def Uu:List UInt8:=[59,114,101,116,117,114,110,32,99,59,125]
def QU:List UInt8:=[59,114,101,116,117,114,110,32,40,105,110,116,41,40,97,47,98,41,59,125]
def cW:Vw:=[(0,.mk 2 [105,110,116] 0 0),(1,.mk 1 [109,97,105,110] 0 0),(0,.mk 4 [40] 0 0),(0,.mk 4 [41] 0 0),(0,.mk 4 [123] 0 0),(0,.mk 2 [99,104,97,114] 0 0),(1,.mk 1 [99] 0 0)]
def cX:Vw:=[(0,.mk 2 [105,110,116] 0 0),(1,.mk 1 [109,97,105,110] 0 0),(0,.mk 4 [40] 0 0),(0,.mk 4 [41] 0 0),(0,.mk 4 [123] 0 0),(0,.mk 2 [117,110,115,105,103,110,101,100] 0 0),(1,.mk 1 [97] 0 0)]
def cY:Vw:=[(0,.mk 4 [59] 0 0),(0,.mk 2 [105,110,116] 0 0),(1,.mk 1 [98] 0 0),(0,.mk 4 [61] 0 0),(0,.mk 4 [40] 0 0),(0,.mk 2 [105,110,116] 0 0),(0,.mk 4 [41] 0 0)]
def gS:Vw:=[(0,.mk 4 [59] 0 0),(0,.mk 2 [114,101,116,117,114,110] 0 0),(1,.mk 1 [99] 0 0),(0,.mk 4 [59] 0 0),(0,.mk 4 [125] 0 0)]
def gT:Vw:=[(0,.mk 4 [59] 0 0),(0,.mk 2 [114,101,116,117,114,110] 0 0),(1,.mk 4 [40] 0 0),(0,.mk 2 [105,110,116] 0 0),(0,.mk 4 [41] 0 0),(0,.mk 4 [40] 0 0),(0,.mk 1 [97] 0 0),(0,.mk 4 [47] 0 0),(0,.mk 1 [98] 0 0),(0,.mk 4 [41] 0 0),(0,.mk 4 [59] 0 0),(0,.mk 4 [125] 0 0)]
abbrev SP:Vw:=[(0,.mk 4 [61] 0 0)]
abbrev ZM (w:List UInt8) (n:Int):Vw:=[(0,.mk 3 (w++[117]) n 0)]
def WJ (w:List UInt8) (n:Int):Vw:=cW++(SP++(ZM w n++gS))
def MJ (w:List UInt8) (n:Int) (w2:List UInt8) (m:Int):Vw:=cX++(SP++(ZM w n++(cY++(ZM w2 m++gT))))
theorem WM (t:List UInt8):(List.range t.length).map (fun i=>t.getD i 0)=t:=by
 apply List.ext_getElem
 ·simp
 ·intro i h1 h2
  simp only [List.getElem_map,List.getElem_range]
  rw [List.getD_eq_getElem?_getD,List.getElem?_eq_getElem h2];rfl
theorem WL {α:Type} {a b:Nat} {F G:List UInt8->α} (h: ∀ f:Nat->UInt8,((List.range b).map fun k=>F ((List.range (a+k)).map f))=(List.range b).map fun k=>G ((List.range (a+k)).map f)) (t:List UInt8) (h0:a<=t.length) (h1:t.length<a+b):F t=G t:=by
 have:=List.map_inj_left.1 (h fun i=>t.getD i 0) (t.length -a) (List.mem_range.2 (by omega))
 rwa [show a+(t.length -a)=t.length by omega,WM] at this
theorem gm (t:List UInt8) (h0:13<=t.length) (h1:t.length<23):VK 7 (ZP++61::t)=some (cW,61::t):=
 WL (a:=13) (b:=10) (F:=fun t=>VK 7 (ZP++61::t)) (G:=fun t=>some (cW,61::t)) (fun f=>by kernel_rfl) t h0 h1
theorem gn (t:List UInt8) (h0:36<=t.length) (h1:t.length<55):VK 7 (ZQ++61::t)=some (cX,61::t):=
 WL (a:=36) (b:=19) (F:=fun t=>VK 7 (ZQ++61::t)) (G:=fun t=>some (cX,61::t)) (fun f=>by kernel_rfl) t h0 h1
theorem gp (t:List UInt8) (h0:22<=t.length) (h1:t.length<32):VK 7 (SQ++t)=some (cY,t):=
 WL (a:=22) (b:=10) (F:=fun t=>VK 7 (SQ++t)) (G:=fun t=>some (cY,t)) (fun f=>by kernel_rfl) t h0 h1
theorem gk (f:Nat->UInt8):((List.range 420).map fun k=>VK 1 (61::UInt8.ofNat (48+k % 10)::(List.range (12+k / 10)).map f))=(List.range 420).map fun k=>some (SP,UInt8.ofNat (48+k % 10)::(List.range (12+k / 10)).map f):=by kernel_rfl
theorem gl (c:UInt8) (hc:Rs c) (t:List UInt8) (h0:12<=t.length) (h1:t.length<=53):VK 1 (61::c::t)=some (SP,c::t):=by
 have hc0:48<=c.toNat:=hc.1
 have hc1:c.toNat<=57:=hc.2
 have:=List.map_inj_left.1 (gk fun i=>t.getD i 0) (10*(t.length -12)+(c.toNat -48)) (List.mem_range.2 (by omega))
 rwa [show 48+(10*(t.length -12)+(c.toNat -48)) % 10=c.toNat by omega,show 12+(10*(t.length -12)+(c.toNat -48)) / 10=t.length by omega,WM,show UInt8.ofNat c.toNat=c from UInt8.ofNat_toNat] at this
theorem gY:VK 5 Uu=some (gS,[]):=by kernel_rfl
theorem gZ:VK 12 QU=some (gT,[]):=by kernel_rfl
def Nv (l:Vw) (i:Nat):Int:=Dop.Tok.at_ (List.getD (pl 0 l) i (.mk 0 [] 0 0))
theorem gz (w:List UInt8) (n:Int):m20.k (pl 0 (WJ w n)++[.mk 0 [] 0 (I (Kb (WJ w n)))])=Js (Y6 n (Nv (WJ w n) 10) (Nv (WJ w n) 11)) 0 0:=by kernel_rfl
theorem hC (w:List UInt8) (n:Int) (w2:List UInt8) (m:Int):m20.k (pl 0 (MJ w n w2 m)++[.mk 0 [] 0 (I (Kb (MJ w n w2 m)))])=Js (cZ n m (Nv (MJ w n w2 m) 10) (Nv (MJ w n w2 m) 13) (Nv (MJ w n w2 m) 16) (Nv (MJ w n w2 m) 18) (Nv (MJ w n w2 m) 19) (Nv (MJ w n w2 m) 23) (Nv (MJ w n w2 m) 24) (Nv (MJ w n w2 m) 25)) 0 0:=by kernel_rfl
end Go.Proofs.Tryz
