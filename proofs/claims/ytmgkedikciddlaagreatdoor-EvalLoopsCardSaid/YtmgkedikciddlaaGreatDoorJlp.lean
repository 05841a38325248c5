/-
 The law 'EvalLoops' returns true, whatever its arguments are, and leaves them as they were; the tied card. (Printed by gen_join.py.)
-/
import Derived.Test.YtmgkedikciddlaaGreatDoorLjp
import Derived.Test.YtmgkedikciddlaaGreatDoorLpL
import Derived.Test.YtmgkedikciddlaaGreatDoorCards
import Derived.Test.YtmgkedikciddlaaGreatDoorTie
import Derived.SevenTiedAt
namespace Go.Proofs.YtmgkedikciddlaaGreatDoor
open Go.ChangeShapes Go.WideShapes Go.ChangeAt Go.RowKit Go.En
theorem nW:PO En.Dop.D4 Tryz.prog 30 [.fd (.int .u8)] Tryz.f3.params.toList=true:=by kernel_rfl
theorem nH:(Tryz.f3.params.toList.all fun t=>Tryz.prog.readableRec t && decide (t<Tryz.prog.types.size))=true:=by kernel_rfl
set_option maxRecDepth 100000 in
theorem KZ (os:Os) (started:os.Started) (H:Type) (enc:TypeId×Value->H):
  ReturnsInHanded {} Tryz.checked os 3 .any (fun w args=>(Rows.evalLoopsSpec.pre enc Tryz.prog Tryz.f3 [] false w args/\laidMetH Tryz.prog EY w)/\sizedMet enc Tryz.prog Tryz.f3 (OpenSpec.ofChange Rows.evalLoopsSpec) false w args)
   (Rows.evalLoopsSpec.post enc Tryz.prog Tryz.f3 false true false false):=by
 refine JV (C:=Tryz.checked) (X:=fun w _=>laidMetH Tryz.prog EY w) (fun _ _ _ hh h=>h.of_heap hh) kF started (by kernel_rfl) Tryz.func3
  (lp (enc:=enc) (os:=os) #[.int .u8 0] (by kernel_rfl) (by kernel_rfl) (by kernel_rfl) (by kernel_rfl) (by kernel_rfl)) ?_
 intro W base args ds gs before hval hW _ hz hL hsh _
 exact Pn (P:=Tryz.prog) (S:=En.Dop.D4) (N:=30) (t:=4) Tryz.m15.Kh (fun x hx=>Tryz.Vz x.1 (eK hx.1)) Vq nW nH (by kernel_rfl) (by kernel_rfl) rfl
  (fun ds h=>match ds,h with|[_],_=>rfl) hval hW hz (jN hL hsh)
theorem aP:laidOutB Tryz.checked.prog=true:=by kernel_rfl
theorem aS:mapsRowed Tryz.checked.prog=true:=by kernel_rfl
theorem Xu:Tryz.checked.prog.stopsHeard=true:=by kernel_rfl
theorem fF:Tryz.checked.prog.mayEnter=true:=by kernel_rfl
theorem aQ:(Rows.evalLoopsRow.lifted == Tryz.checked.prog.liftsFinal)=true:=by kernel_rfl
theorem Xy:(Tryz.checked.prog.stops == [])=true:=by kernel_rfl
theorem Xv:(Tryz.checked.prog.stopKnobs == [])=true:=by kernel_rfl
theorem jT:(Rows.evalLoopsRow.inPlace == Tryz.checked.prog.inPlace 3)=true:=by kernel_rfl
theorem jU:(Rows.evalLoopsRow.unfollowed == Tryz.checked.prog.unfollowed 3)=true:=by kernel_rfl
theorem fG:(Rows.evalLoopsRow.recurses == Tryz.checked.prog.recurses 3)=true:=by kernel_rfl
theorem Xx:(Rows.evalLoopsRow.named == Tryz.checked.prog.varsNamed 3)=true:=by kernel_rfl
theorem aO:(Rows.evalLoopsRow.plainKeys == Tryz.checked.prog.plainKeys)=true:=by kernel_rfl
theorem BM {a b:Bool} (ha:a=true) (hb:b=true):(a && b)=true:=by rw [ha,hb];rfl
theorem Ld:joinedFacts Tryz.checked.prog 3 Tryz.f3 Rows.evalLoopsSpec Rows.evalLoopsRow=true:=by
 unfold joinedFacts
 exact BM (BM (BM (BM (BM (BM (BM (BM (BM (BM (BM (BM (BM (BM (BM (BM (BM (BM (BM (BM (BM (BM (BM (BM (BM (BM (BM (BM (BM (BM (BM (by kernel_rfl) aP) aS) (by kernel_rfl)) (by kernel_rfl)) (by kernel_rfl)) Xy) (by kernel_rfl)) Xv) jT) jU) fG) Xx)
  (by kernel_rfl)) (by kernel_rfl)) (by kernel_rfl)) (by kernel_rfl)) (by kernel_rfl)) (by kernel_rfl)) (by kernel_rfl)) (by kernel_rfl)) (by kernel_rfl)) aO) (by kernel_rfl)) Xu) fF) aQ) (by kernel_rfl)) (by kernel_rfl)) (by kernel_rfl)) (by kernel_rfl)) (by kernel_rfl)
theorem OW:Rows.EvalLoopsSaid:=
 OpenClaim.holds_of_wide 3 Tryz.f3 rfl rfl rfl rfl rfl rfl rfl ⟨rfl,rfl,rfl,rfl,rfl⟩ rfl rfl rfl rfl rfl (by kernel_rfl) Tryz.func3 Ld
  (of_decide_eq_true (by kernel_rfl)) (by unfold Func.isWrapper;first|(rw [if_pos (by decide+kernel)];kernel_rfl)|(rw [if_neg (by decide+kernel)];exact ⟨rfl,rfl⟩))
  (fun os started H enc _=>KZ os started H enc)
theorem aR:Tryz.checked.prog.mainIs=some (true,("27f43760dc76a00f18380e81352f1ed4eec42a6aa06bf70109930241e37e99b8" :String).toList):=by kernel_rfl
theorem Xw:false=Tryz.checked.prog.looks []:=by kernel_rfl
theorem aN:false=Rows.evalLoopsRow.goesBy Tryz.checked.prog:=by kernel_rfl
theorem jV:Rows.evalLoopsRow.wfByText (OpenSpec.ofChange Rows.evalLoopsSpec)=true:=by kernel_rfl
theorem jS:Tryz.prog.funcNamed "doppel/doppellaw06.EvalLoops" =some 3:=by kernel_rfl
theorem aT:(Tryz.f3.params.toList.all fun u=>!Tryz.prog.wantsStandIn u)=true:=by kernel_rfl
theorem evalLoops_holds:Rows.EvalLoopsCardSaid:=
 Claim7.holds_tied_plain_at .later [] [.data,.data,.data,.data,.listed,.data,.pinned,.pinned] true (true,"27f43760dc76a00f18380e81352f1ed4eec42a6aa06bf70109930241e37e99b8") false
  OW (fun _ h=>by cases h) jV (fun _ h=>by cases h) evalLoops_row_tie rfl ⟨rfl,rfl⟩ aR rfl
  (fun f fn hf hfn=>by
   obtain rfl:f=3:=Option.some.inj (jS.symm.trans hf) |>.symm
   obtain rfl:fn=Tryz.f3:=(Option.some.inj (Tryz.func3.symm.trans hfn)).symm
   exact ⟨Xw,fun j t ht=>by
    have hm:t∈Tryz.f3.params.toList:=by simpa using Array.mem_of_getElem? ht
    exact (show Tryz.prog.wantsStandIn t=false by simpa using List.all_eq_true.1 aT t hm)⟩)
  aN
end Go.Proofs.YtmgkedikciddlaaGreatDoor
