/-
 EvalSorts: the law.
-/
import Derived.Test.YtikecakpcfpghaaGreatDoorMv
import Derived.Test.YtikecakpcfpghaaGreatDoorMu
set_option linter.all false
set_option maxRecDepth 1000000
set_option maxHeartbeats 1000000
namespace Go.Proofs.Tryz
open Go Go.En
noncomputable abbrev jj (cs:List Int) (r:Dop.SO):Option ((Bool×Unit)×Unit):=m8.KE.OF 3000 bE 6 ((cs,(),()),((r,()),()))
noncomputable abbrev cT (b:Bool):Option ((Bool×Unit)×Unit):=m8.KE.OF 3000 bE 99 ((b,()),())
theorem jr (cs:List Int):m8.KE.Td 3000 bE m8.p.sp ((cs,()),())=
  if decide ((30:Int)<I cs.length)=true then some ((true,()),())
  else (RQ.k mO cs 100000).bind fun y3=>
   if (!decide (y3.1.2.1=(0:Int)))=true then some ((false,()),())
   else if (!decide (y3.1.1.end_=(1:Int)))=true then some ((false,()),())
   else if (!decide (y3.1.1.code=I cs.length))=true then some ((false,()),())
   else if (!decide (I y3.1.1.output.length=I cs.length))=true then some ((false,()),())
   else jj cs y3.1.1:=by kernel_rfl
theorem fS (cs:List Int) (r:Dop.SO):jj cs r=(jl ((cs,(),()),((r,()),()))).bind fun y=>cT y.1.1:=Env.VV (E:=m8.KE) (f0:=3000) (J:=bE) ((cs,(),()),((r,()),()))
theorem bN (b:Bool):cT b=some ((b,()),()):=Env.Wq (E:=m8.KE) (f0:=3000) (c:=99) (J:=bE) (show (99:Nat)≠6 by decide) (q:=m8.jc) (by kernel_rfl) ((b,()),()) (by kernel_rfl) (by kernel_rfl)
theorem V8 (cs:List Int) (hb: ∀ x∈cs,0<=x/\x<=255):m8.KE.Td 3000 bE m8.p.sp ((cs,()),())=some ((true,()),()):=by
 rw [jr]
 by_cases h:(30:Int)<I cs.length
 ·rw [if_pos (decide_eq_true h)]
 rw [if_neg (by rw [decide_eq_false h];simp)]
 have h30:cs.length<=30:=by simp only [I] at h;omega
 have hrun:=fZ cs hb h30 100000 rfl
 have hlen:=Mr cs []
 rw [List.length_nil,Nat.zero_add] at hlen
 have hbd:=S8 cs [] hb (fun x h=>by cases h)
 have hrs:=UF cs [] fun i k _ hk=>absurd hk (Nat.not_lt_zero k)
 have hcn:=fun v=>Mq v cs []
 generalize cs.foldl (fun l c=>DL c l) []=S at*
 have e:RQ.k mO cs 100000=JE (.mk 1 (I S.length) S) 0:=by
  unfold RQ.k
  rw [bP]
  show Option.bind (Ho.k bF cs 100000) _=_
  rw [hrun]
  rfl
 rw [e,Qe]
 dsimp only
 rw [if_neg (by simp),if_neg (by simp),if_neg (by rw [hlen];simp),if_neg (by rw [hlen];simp),fS]
 have hok:cu cs (.mk 1 (I S.length) S):=by
  refine ⟨hlen,h30,fun j hj=>?_,fun j hj=>?_,fun j hj=>?_,?_⟩
  ·rw [List.getD_eq_getElem?_getD,List.getElem?_eq_getElem hj];exact hb _ (List.getElem_mem hj)
  ·show 0<=S.getD j 0/\S.getD j 0<=255
   rw [List.getD_eq_getElem?_getD,List.getElem?_eq_getElem (by omega)];exact hbd _ (List.getElem_mem (by omega))
  ·exact hrs j (j+1) (by omega) (by omega)
  ·show JT S=JT cs
   unfold JT
   exact List.map_congr_left fun v _=>by rw [hcn];rfl
 unfold jl
 rw [if_pos hok]
 exact bN true
end Go.Proofs.Tryz
