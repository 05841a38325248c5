/-
 EvalRows: the program 'int main(){return ROW;}', parsed.
-/
import Derived.Test.YtpjlciengdhjoaaGreatDoorMv
set_option maxRecDepth 100000
set_option maxHeartbeats 100000000
namespace Go.Proofs
open Go Go.En Tryz
def T6 (w:Nat->List UInt8) (x p:Nat->Int) (j:Nat):En.Dop.Tok:=if j % 2=0 then .mk 3 (w j) (x j) (p j) else .mk 4 (w j) 0 (p j)
def GJ (n:Nat) (w:Nat->List UInt8) (x p q:Nat->Int):List En.Dop.Tok:=[.mk 2 [105,110,116] 0 (q 0),.mk 1 [109,97,105,110] 0 (q 1),.mk 4 [40] 0 (q 2),.mk 4 [41] 0 (q 3),.mk 4 [123] 0 (q 4),.mk 2 [114,101,116,117,114,110] 0 (q 5)]++((List.range n).map (T6 w x p)++[.mk 4 [59] 0 (q 6),.mk 4 [125] 0 (q 7),.mk 0 [] 0 (q 8)])
abbrev Eu:List En.Dop.Fp:=[.mk 0 0 0 [],.mk 1 0 0 [],.mk 2 0 0 [],.mk 3 0 0 []]
section
variable {w:Nat->List UInt8} {x p q:Nat->Int} {ns ms:List En.Dop.AV} {i:Int}
def pJ (q5:Int) (y:(Int×Unit)×(PS×Unit)):R1 Int PS:=(Tryz.Dj.k (.mk 37 y.1.1 (-1) (-1) (-1) [] 0 0 q5) y.2.1).bind PF
def jC (m:Nat):Prop:= ∀ (r:Tryz.FY.T) (w:Nat->List UInt8) (x p q:Nat->Int),Tryz.Ee.kf r (ps (GJ (2*m+1) w x p q) 5 [] Eu 0 1)=Option.bind (Tryz.KG.k [59] (ps (GJ (2*m+1) w x p q) 6 [] Eu 0 1)) (pJ (q 5))
theorem gV {m:Nat} (hm:m<13):jC m:=by
 match m,hm with
 | 0,_|1,_|2,_|3,_|4,_|5,_|6,_|7,_|8,_|9,_|10,_|11,_|12,_=>exact fun r w x p q=>by as_aux_lemma=>kernel_rfl
 | m+13,h=>omega
def ky (q0:Int) (y:(Int×Unit)×(PS×Unit)):R1 Int PS:=(Tryz.Dj.k (.mk 50 (-1) y.1.1 (-1) (-1) [109,97,105,110] 0 1 q0) y.2.1).bind PF
def jE (m:Nat):Prop:= ∀ (w:Nat->List UInt8) (x p q:Nat->Int),Tryz.Oh.k (ps (GJ (2*m+1) w x p q) 0 [] Eu 0 0)=Option.bind (Tryz.FE.k (ps (GJ (2*m+1) w x p q) 4 [] Eu 0 0)) (ky (q 0))
theorem gY {m:Nat} (hm:m<13):jE m:=by
 match m,hm with
 | 0,_|1,_|2,_|3,_|4,_|5,_|6,_|7,_|8,_|9,_|10,_|11,_|12,_=>exact fun w x p q=>by as_aux_lemma=>kernel_rfl
 | m+13,h=>omega
end
end Go.Proofs
