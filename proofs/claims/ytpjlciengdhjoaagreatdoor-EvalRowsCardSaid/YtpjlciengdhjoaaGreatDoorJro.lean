/-
 The law 'EvalRows' returns true, whatever its arguments are, and leaves them as they were; the tied card. (Printed by gen_join.py.)
-/
import Derived.Test.YtpjlciengdhjoaaGreatDoorLjr
import Derived.Test.YtpjlciengdhjoaaGreatDoorMz
import Derived.Test.YtpjlciengdhjoaaGreatDoorCards
import Derived.Test.YtpjlciengdhjoaaGreatDoorTie
import Derived.SevenTiedAt
namespace Go.Proofs.YtpjlciengdhjoaaGreatDoor
open Go.ChangeShapes Go.WideShapes Go.ChangeAt Go.RowKit Go.En
theorem oO:Pf En.Dop.D4 Tryz.prog 30 [.fd (.sl 0),.fd (.sl 1)] Tryz.f3.params.toList=true:=by kernel_rfl
theorem nt:(Tryz.f3.params.toList.all fun t=>Tryz.prog.readableRec t && decide (t<Tryz.prog.types.size))=true:=by kernel_rfl
set_option maxRecDepth 100000 in
theorem Lt (os:Os) (started:os.Started) (H:Type) (enc:TypeId×Value->H):
  ReturnsInHanded {} Tryz.checked os 3 .any (fun w args=>(Rows.evalRowsSpec.pre enc Tryz.prog Tryz.f3 [] false w args/\laidMetH Tryz.prog EW w)/\sizedMet enc Tryz.prog Tryz.f3 (OpenSpec.ofChange Rows.evalRowsSpec) false w args)
   (Rows.evalRowsSpec.post enc Tryz.prog Tryz.f3 false true false false):=by
 refine Jf (C:=Tryz.checked) (X:=fun w _=>laidMetH Tryz.prog EW w) (fun _ _ _ hh h=>h.of_heap hh) ke started (by kernel_rfl) Tryz.func3
  (mN (enc:=enc) (os:=os) #[.slice none 0 0,.slice none 0 0] (by kernel_rfl) (by kernel_rfl) (by kernel_rfl) (by kernel_rfl) (by kernel_rfl)) ?_
 intro W base args ds gs before hval hW _ hz hL hsh _
 exact P4 (P:=Tryz.prog) (S:=En.Dop.D4) (N:=30) (t:=4) Tryz.ET.Kh (fun x hx=>Zg x.1 x.2.1) Vx oO nt (by kernel_rfl) (by kernel_rfl) rfl
  (fun ds h=>match ds,h with|[_,_],_=>rfl) hval hW hz (jl hL hsh)
theorem aq:laidOutB Tryz.checked.prog=true:=by kernel_rfl
theorem av:mapsRowed Tryz.checked.prog=true:=by kernel_rfl
theorem YA:Tryz.checked.prog.stopsHeard=true:=by kernel_rfl
theorem fH:Tryz.checked.prog.mayEnter=true:=by kernel_rfl
theorem ar:(Rows.evalRowsRow.lifted == Tryz.checked.prog.liftsFinal)=true:=by kernel_rfl
theorem YE:(Tryz.checked.prog.stops == [])=true:=by kernel_rfl
theorem YB:(Tryz.checked.prog.stopKnobs == [])=true:=by kernel_rfl
theorem jt:(Rows.evalRowsRow.inPlace == Tryz.checked.prog.inPlace 3)=true:=by kernel_rfl
theorem ju:(Rows.evalRowsRow.unfollowed == Tryz.checked.prog.unfollowed 3)=true:=by kernel_rfl
theorem fI:(Rows.evalRowsRow.recurses == Tryz.checked.prog.recurses 3)=true:=by kernel_rfl
theorem YD:(Rows.evalRowsRow.named == Tryz.checked.prog.varsNamed 3)=true:=by kernel_rfl
theorem ao:(Rows.evalRowsRow.plainKeys == Tryz.checked.prog.plainKeys)=true:=by kernel_rfl
theorem BF {a b:Bool} (ha:a=true) (hb:b=true):(a && b)=true:=by rw [ha,hb];rfl
theorem M9:joinedFacts Tryz.checked.prog 3 Tryz.f3 Rows.evalRowsSpec Rows.evalRowsRow=true:=by
 unfold joinedFacts
 exact BF (BF (BF (BF (BF (BF (BF (BF (BF (BF (BF (BF (BF (BF (BF (BF (BF (BF (BF (BF (BF (BF (BF (BF (BF (BF (BF (BF (BF (BF (BF (by kernel_rfl) aq) av) (by kernel_rfl)) (by kernel_rfl)) (by kernel_rfl)) YE) (by kernel_rfl)) YB) jt) ju) fI) YD)
  (by kernel_rfl)) (by kernel_rfl)) (by kernel_rfl)) (by kernel_rfl)) (by kernel_rfl)) (by kernel_rfl)) (by kernel_rfl)) (by kernel_rfl)) (by kernel_rfl)) ao) (by kernel_rfl)) YA) fH) ar) (by kernel_rfl)) (by kernel_rfl)) (by kernel_rfl)) (by kernel_rfl)) (by kernel_rfl)
theorem Pr:Rows.EvalRowsSaid:=
 OpenClaim.holds_of_wide 3 Tryz.f3 rfl rfl rfl rfl rfl rfl rfl ⟨rfl,rfl,rfl,rfl,rfl⟩ rfl rfl rfl rfl rfl (by kernel_rfl) Tryz.func3 M9
  (ip (by kernel_rfl)) (by unfold Func.isWrapper;first|(rw [if_pos (by decide+kernel)];kernel_rfl)|(rw [if_neg (by decide+kernel)];exact ⟨rfl,rfl⟩))
  (fun os started H enc _=>Lt os started H enc)
theorem au:Tryz.checked.prog.mainIs=some (true,("847ddafdc1b5ee500c832a72a303b88c5c27e6065857c461737dcfec68a55513" :String).toList):=by kernel_rfl
theorem YC:false=Tryz.checked.prog.looks []:=by kernel_rfl
theorem ak:false=Rows.evalRowsRow.goesBy Tryz.checked.prog:=by kernel_rfl
theorem jv:Rows.evalRowsRow.wfByText (OpenSpec.ofChange Rows.evalRowsSpec)=true:=by kernel_rfl
theorem jr:Tryz.prog.funcNamed "doppel/doppellaw06.EvalRows" =some 3:=by kernel_rfl
theorem aw:(Tryz.f3.params.toList.all fun u=>!Tryz.prog.wantsStandIn u)=true:=by kernel_rfl
theorem evalRows_holds:Rows.EvalRowsCardSaid:=
 Claim7.holds_tied_plain_at .later [] [.data,.listed,.data,.pinned,.pinned] true (true,"847ddafdc1b5ee500c832a72a303b88c5c27e6065857c461737dcfec68a55513") false
  Pr (fun _ h=>by cases h) jv (fun _ h=>by cases h) evalRows_row_tie rfl ⟨rfl,rfl⟩ au rfl
  (fun f fn hf hfn=>by
   obtain rfl:f=3:=Option.some.inj (jr.symm.trans hf) |>.symm
   obtain rfl:fn=Tryz.f3:=(Option.some.inj (Tryz.func3.symm.trans hfn)).symm
   exact ⟨YC,fun j t ht=>by
    have hm:t∈Tryz.f3.params.toList:=by simpa using Array.mem_of_getElem? ht
    exact (show Tryz.prog.wantsStandIn t=false by simpa using List.all_eq_true.1 aw t hm)⟩)
  ak
end Go.Proofs.YtpjlciengdhjoaaGreatDoor
