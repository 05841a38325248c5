/-
 EvalRows: the program around the row, checked.
-/
import Derived.Test.YtpjlciengdhjoaaGreatDoorMw
import Derived.Test.YtpjlciengdhjoaaGreatDoorMt
set_option maxRecDepth 1000000
set_option maxHeartbeats 100000000
namespace Go.Proofs
open Go Go.En Tryz
def Wh (m:Nat) (g:Nat->En.Dop.AV) (i:Int) (q:Nat->Int):En.Dop.HW:=.mk ((List.range (2*m+1)).map g++dG (2*m+1) i q) Eu (I (2*m+1+4))
def gP:List (List UInt8×En.Dop.Pa):=[([109,97,105,110],.mk [] 1)]
def pI (m:Nat) (g:Nat->En.Dop.AV) (i:Int) (q:Nat->Int):CH:=(Wh m g i q,(),[0,1],[],[],1,[],[[]],gP,(),.mk [] 0 0 0 0,0,(),(),0,[],0,0,0,())
noncomputable def kz (k:Int) (y6:Unit×(CK×CT×Unit)):Ot En.Dop.Hm Int Int:=ck (Al (0+1))<|(Tryz.Gs.kL 999997).2.1 [k] (I 1) (0+1) [] [] 0 [] (y6.2.1.1,(),y6.2.1.2.2.1,y6.2.1.2.2.2.1,y6.2.1.2.2.2.2.1,y6.2.1.2.2.2.2.2.1,y6.2.1.2.2.2.2.2.2.1,y6.2.1.2.2.2.2.2.2.2.1,y6.2.1.2.2.2.2.2.2.2.2.1,(),y6.2.1.2.2.2.2.2.2.2.2.2.2.1,y6.2.1.2.2.2.2.2.2.2.2.2.2.2.1,(),(),y6.2.1.2.2.2.2.2.2.2.2.2.2.2.2.2.2.1,y6.2.1.2.2.2.2.2.2.2.2.2.2.2.2.2.2.2.1,y6.2.1.2.2.2.2.2.2.2.2.2.2.2.2.2.2.2.2.1,y6.2.1.2.2.2.2.2.2.2.2.2.2.2.2.2.2.2.2.2.1,y6.2.1.2.2.2.2.2.2.2.2.2.2.2.2.2.2.2.2.2.2.1,()) y6.2.2.1
def pg (m:Nat):Prop:= ∀ (g:Nat->En.Dop.AV) (i:Int) (q:Nat->Int),Tryz.Gs.k (Wh m g i q)=Option.bind (Tryz.Dw.k (fZ (I (2*m+1+2)) (q 0)) (I (2*m+1+3)) (pI m g i q) C4) (kz (I (2*m+1+3)))
theorem nz {m:Nat} (hm:m<13):pg m:=by
 match m,hm with
 | 0,_|1,_|2,_|3,_|4,_|5,_|6,_|7,_|8,_|9,_|10,_|11,_|12,_=>exact fun g i q=>by as_aux_lemma=>kernel_rfl
 | m+13,h=>omega
def WR (m:Nat) (g:Nat->En.Dop.AV) (i:Int) (q:Nat->Int):CK:=(Wh m g i q,(),[0,1],[],[],1,[],[[]],gP,[],.mk [109,97,105,110] 0 0 0 0,1,[],[],0,[],0,0,0,())
def Qc (m:Nat) (g:Nat->En.Dop.AV) (i:Int) (q:Nat->Int):CK:=(Wh m g i q,(),[0,1],[],[],1,[],[[],[],[]],gP,[],.mk [109,97,105,110] 0 0 0 0,1,[],[],0,[],0,0,0,())
noncomputable def kx (m:Nat) (q:Nat->Int) (x:R2 Int CK CT):PZ CK CT:=Option.bind (Option.bind (Option.bind (Option.bind x C8)
   fun y3=>ck (Dc none (room 8 (([]:List Int).length+(y3.1.1::[]).length)))<|ck (Al (0+1))<|(Tryz.DN.kL (Bd Tryz.Cl.kS 999999998) 999999).1 ([]++y3.1.1::[]) [I (2*m+1)] (I 1) (0+1) y3.2.1 y3.2.2.1 (ir (I (2*m+1+1)) (q 4)))
   fun y9=>ck (Al (I (CK.names y9.2.2.1).length -1))<|ck (0<=I (CK.names y9.2.2.1).length -1/\I (CK.names y9.2.2.1).length -1<=I (CK.names y9.2.2.1).length)<|Ar y9.1.1 (CK.Dl y9.2.2.1 (List.take (I (CK.names y9.2.2.1).length -1).toNat (CK.names y9.2.2.1))) y9.2.2.2.1)
   fun y3=>ck ((0:Int)<=1/\1<=I (CK.names y3.2.1).length)<|(Tryz.Dw.kL 999999).2.1 [] y3.1.1 (CK.Dl y3.2.1 (List.take (Int.toNat 1) (CK.names y3.2.1))) y3.2.2.1
def nG (m:Nat):Prop:= ∀ (g:Nat->En.Dop.AV) (i:Int) (q:Nat->Int),Tryz.Bz.k (I (2*m+1+3)) (WR m g i q) C4=Wg (WR m g i q) C4->Tryz.Dw.k (fZ (I (2*m+1+2)) (q 0)) (I (2*m+1+3)) (pI m g i q) C4=kx m q (Tryz.KF.k (Yr i (q 5)) (I (2*m+1)) (Qc m g i q) C4)
theorem ny {m:Nat} (hm:m<13):nG m:=by
 match m,hm with
 | 0,_|1,_|2,_|3,_|4,_|5,_|6,_|7,_|8,_|9,_|10,_|11,_|12,_=>exact fun g i q h=>(congrArg (fun z=>Option.bind z _) h).trans (by as_aux_lemma=>kernel_rfl)
 | m+13,h=>omega
theorem cB (j n:Int) (z:Bool) (k:CK) (ms:List En.Dop.AV):Tryz.CS.k (.mk j 1 0 0 z) 1 n false (kk k ms) C4=Ar j (kk k ms) C4:=by kernel_rfl
abbrev Wd (kind a:Int):En.Dop.AV:=.mk kind a (-1) (-1) (-1) [] 0 0 0
def Oo (n:Nat) (l:List En.Dop.AV) (j:Int):En.Dop.Hm:=.mk [.mk [109,97,105,110] 0 0 0 (I (n+4))] [] 1 (l++[Wd 37 j,Wd 20 (I n),Wd 43 (I (n+1)),Wd 20 (I (n+2)),Wd 43 (I (n+3))])
def nF (m:Nat):Prop:= ∀ (g h:Nat->En.Dop.AV) (i j:Int) (q:Nat->Int),Option.bind (kx m q (Ar (I (2*m+1)) (kk (Qc m g i q) ((List.range (2*m+1)).map h++[Wd 37 j])) C4)) (kz (I (2*m+1+3)))=Kd (Oo (2*m+1) ((List.range (2*m+1)).map h) j) 0 0
theorem nx {m:Nat} (hm:m<13):nF m:=by
 match m,hm with
 | 0,_|1,_|2,_|3,_|4,_|5,_|6,_|7,_|8,_|9,_|10,_|11,_|12,_=>exact fun g h i j q=>by as_aux_lemma=>kernel_rfl
 | m+13,h=>omega
end Go.Proofs
