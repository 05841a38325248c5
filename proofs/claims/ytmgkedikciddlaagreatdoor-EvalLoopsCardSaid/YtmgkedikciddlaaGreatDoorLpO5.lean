/-
 EvalLoops: what is told of a tree.
-/
import Derived.Test.YtmgkedikciddlaaGreatDoorMv
set_option maxRecDepth 1000000
set_option maxHeartbeats 1000000
namespace Go.Proofs.Tryz
open Go Go.En
theorem lpcat {α:Type} {F G:Nat->α} (h: ∀ e,e<5->((List.range 10).map fun j=>F (10*e+j))=(List.range 10).map fun j=>G (10*e+j)):(List.range 50).map F=(List.range 50).map G:=List.map_congr_left fun j hj=>by
 have hj:=List.mem_range.1 hj
 have:=List.map_inj_left.1 (h (j/10) (by omega)) (j%10) (List.mem_range.2 (by omega))
 rwa [show 10*(j/10)+j%10=j by omega] at this
theorem lpz00 (p:Nat->Int):((List.range 10).map fun j=>HE.k (YV (I (50*0+(10*0+j))) p))=(List.range 10).map fun j=>HJ (Rn (I (50*0+(10*0+j)))) 0 0:=by kernel_rfl
theorem lpz01 (p:Nat->Int):((List.range 10).map fun j=>HE.k (YV (I (50*0+(10*1+j))) p))=(List.range 10).map fun j=>HJ (Rn (I (50*0+(10*1+j)))) 0 0:=by kernel_rfl
theorem lpz02 (p:Nat->Int):((List.range 10).map fun j=>HE.k (YV (I (50*0+(10*2+j))) p))=(List.range 10).map fun j=>HJ (Rn (I (50*0+(10*2+j)))) 0 0:=by kernel_rfl
theorem lpz03 (p:Nat->Int):((List.range 10).map fun j=>HE.k (YV (I (50*0+(10*3+j))) p))=(List.range 10).map fun j=>HJ (Rn (I (50*0+(10*3+j)))) 0 0:=by kernel_rfl
theorem lpz04 (p:Nat->Int):((List.range 10).map fun j=>HE.k (YV (I (50*0+(10*4+j))) p))=(List.range 10).map fun j=>HJ (Rn (I (50*0+(10*4+j)))) 0 0:=by kernel_rfl
theorem bU:DV YV Rn 0:=fun p=>lpcat (F:=fun j=>HE.k (YV (I (50*0+j)) p)) (G:=fun j=>HJ (Rn (I (50*0+j))) 0 0) fun e h=>match e,h with |0,_=>lpz00 p |1,_=>lpz01 p |2,_=>lpz02 p |3,_=>lpz03 p |4,_=>lpz04 p|e+5,h=>absurd h (by omega)
theorem lpz10 (p:Nat->Int):((List.range 10).map fun j=>HE.k (YV (I (50*1+(10*0+j))) p))=(List.range 10).map fun j=>HJ (Rn (I (50*1+(10*0+j)))) 0 0:=by kernel_rfl
theorem lpz11 (p:Nat->Int):((List.range 10).map fun j=>HE.k (YV (I (50*1+(10*1+j))) p))=(List.range 10).map fun j=>HJ (Rn (I (50*1+(10*1+j)))) 0 0:=by kernel_rfl
theorem lpz12 (p:Nat->Int):((List.range 10).map fun j=>HE.k (YV (I (50*1+(10*2+j))) p))=(List.range 10).map fun j=>HJ (Rn (I (50*1+(10*2+j)))) 0 0:=by kernel_rfl
theorem lpz13 (p:Nat->Int):((List.range 10).map fun j=>HE.k (YV (I (50*1+(10*3+j))) p))=(List.range 10).map fun j=>HJ (Rn (I (50*1+(10*3+j)))) 0 0:=by kernel_rfl
theorem lpz14 (p:Nat->Int):((List.range 10).map fun j=>HE.k (YV (I (50*1+(10*4+j))) p))=(List.range 10).map fun j=>HJ (Rn (I (50*1+(10*4+j)))) 0 0:=by kernel_rfl
theorem bV:DV YV Rn 1:=fun p=>lpcat (F:=fun j=>HE.k (YV (I (50*1+j)) p)) (G:=fun j=>HJ (Rn (I (50*1+j))) 0 0) fun e h=>match e,h with |0,_=>lpz10 p |1,_=>lpz11 p |2,_=>lpz12 p |3,_=>lpz13 p |4,_=>lpz14 p|e+5,h=>absurd h (by omega)
theorem lpz20 (p:Nat->Int):((List.range 10).map fun j=>HE.k (YV (I (50*2+(10*0+j))) p))=(List.range 10).map fun j=>HJ (Rn (I (50*2+(10*0+j)))) 0 0:=by kernel_rfl
theorem lpz21 (p:Nat->Int):((List.range 10).map fun j=>HE.k (YV (I (50*2+(10*1+j))) p))=(List.range 10).map fun j=>HJ (Rn (I (50*2+(10*1+j)))) 0 0:=by kernel_rfl
theorem lpz22 (p:Nat->Int):((List.range 10).map fun j=>HE.k (YV (I (50*2+(10*2+j))) p))=(List.range 10).map fun j=>HJ (Rn (I (50*2+(10*2+j)))) 0 0:=by kernel_rfl
theorem lpz23 (p:Nat->Int):((List.range 10).map fun j=>HE.k (YV (I (50*2+(10*3+j))) p))=(List.range 10).map fun j=>HJ (Rn (I (50*2+(10*3+j)))) 0 0:=by kernel_rfl
theorem lpz24 (p:Nat->Int):((List.range 10).map fun j=>HE.k (YV (I (50*2+(10*4+j))) p))=(List.range 10).map fun j=>HJ (Rn (I (50*2+(10*4+j)))) 0 0:=by kernel_rfl
theorem bW:DV YV Rn 2:=fun p=>lpcat (F:=fun j=>HE.k (YV (I (50*2+j)) p)) (G:=fun j=>HJ (Rn (I (50*2+j))) 0 0) fun e h=>match e,h with |0,_=>lpz20 p |1,_=>lpz21 p |2,_=>lpz22 p |3,_=>lpz23 p |4,_=>lpz24 p|e+5,h=>absurd h (by omega)
theorem lpz30 (p:Nat->Int):((List.range 10).map fun j=>HE.k (YV (I (50*3+(10*0+j))) p))=(List.range 10).map fun j=>HJ (Rn (I (50*3+(10*0+j)))) 0 0:=by kernel_rfl
theorem lpz31 (p:Nat->Int):((List.range 10).map fun j=>HE.k (YV (I (50*3+(10*1+j))) p))=(List.range 10).map fun j=>HJ (Rn (I (50*3+(10*1+j)))) 0 0:=by kernel_rfl
theorem lpz32 (p:Nat->Int):((List.range 10).map fun j=>HE.k (YV (I (50*3+(10*2+j))) p))=(List.range 10).map fun j=>HJ (Rn (I (50*3+(10*2+j)))) 0 0:=by kernel_rfl
theorem lpz33 (p:Nat->Int):((List.range 10).map fun j=>HE.k (YV (I (50*3+(10*3+j))) p))=(List.range 10).map fun j=>HJ (Rn (I (50*3+(10*3+j)))) 0 0:=by kernel_rfl
theorem lpz34 (p:Nat->Int):((List.range 10).map fun j=>HE.k (YV (I (50*3+(10*4+j))) p))=(List.range 10).map fun j=>HJ (Rn (I (50*3+(10*4+j)))) 0 0:=by kernel_rfl
theorem bX:DV YV Rn 3:=fun p=>lpcat (F:=fun j=>HE.k (YV (I (50*3+j)) p)) (G:=fun j=>HJ (Rn (I (50*3+j))) 0 0) fun e h=>match e,h with |0,_=>lpz30 p |1,_=>lpz31 p |2,_=>lpz32 p |3,_=>lpz33 p |4,_=>lpz34 p|e+5,h=>absurd h (by omega)
theorem jy {u:Nat} (hu:u<200):m18.k (P4++(QA++(Lib.decDigits u++Rt)))=HJ (Rn (I u)) 0 0:=
 Ox bU bV bW bX j7 jr (by decide) (fun _ _=>by show 46<8192;decide) hu
end Go.Proofs.Tryz
