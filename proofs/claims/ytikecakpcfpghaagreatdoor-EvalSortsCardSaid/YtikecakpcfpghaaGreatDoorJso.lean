/-
 The law 'EvalSorts' returns true, whatever its arguments are, and leaves them as they were; the tied card. (Printed by gen_join.py.)
-/
import Derived.Test.YtikecakpcfpghaaGreatDoorLjs
import Derived.Test.YtikecakpcfpghaaGreatDoorSoL
import Derived.Test.YtikecakpcfpghaaGreatDoorCards
import Derived.Test.YtikecakpcfpghaaGreatDoorTie
import Derived.SevenTiedAt
namespace Go.Proofs.YtikecakpcfpghaaGreatDoor
open Go.ChangeShapes Go.WideShapes Go.ChangeAt Go.RowKit Go.En
theorem me:PB En.Dop.D4 Tryz.prog 30 [.fd (.sl 3)] Tryz.f3.params.toList=true:=by kernel_rfl
theorem mK:(Tryz.f3.params.toList.all fun t=>Tryz.prog.readableRec t && decide (t<Tryz.prog.types.size))=true:=by kernel_rfl
set_option maxRecDepth 100000 in
theorem KU (os:Os) (started:os.Started) (H:Type) (enc:TypeId×Value->H):
  ReturnsInHanded {} Tryz.checked os 3 .any (fun w args=>(Rows.evalSortsSpec.pre enc Tryz.prog Tryz.f3 [] false w args/\laidMetH Tryz.prog EO w)/\sizedMet enc Tryz.prog Tryz.f3 (OpenSpec.ofChange Rows.evalSortsSpec) false w args)
   (Rows.evalSortsSpec.post enc Tryz.prog Tryz.f3 false true false false):=by
 refine JH (C:=Tryz.checked) (X:=fun w _=>laidMetH Tryz.prog EO w) (fun _ _ _ hh h=>h.of_heap hh) jX started (by kernel_rfl) Tryz.func3
  (lI (enc:=enc) (os:=os) #[.slice none 0 0] (by kernel_rfl) (by kernel_rfl) (by kernel_rfl) (by kernel_rfl) (by kernel_rfl)) ?_
 intro W base args ds gs before hval hW _ hz hL hsh _
 exact Pa (P:=Tryz.prog) (S:=En.Dop.D4) (N:=30) (t:=4) Tryz.m8.Kh (fun x hx=>Tryz.V8 x.1 (dJ hx.1)) Vf me mK (by kernel_rfl) (by kernel_rfl) rfl
  (fun ds h=>match ds,h with|[_],_=>rfl) hval hW hz (iw hL hsh)
theorem aB:laidOutB Tryz.checked.prog=true:=by kernel_rfl
theorem aE:mapsRowed Tryz.checked.prog=true:=by kernel_rfl
theorem Xl:Tryz.checked.prog.stopsHeard=true:=by kernel_rfl
theorem dv:Tryz.checked.prog.mayEnter=true:=by kernel_rfl
theorem aC:(Rows.evalSortsRow.lifted == Tryz.checked.prog.liftsFinal)=true:=by kernel_rfl
theorem Xp:(Tryz.checked.prog.stops == [])=true:=by kernel_rfl
theorem Xm:(Tryz.checked.prog.stopKnobs == [])=true:=by kernel_rfl
theorem jC:(Rows.evalSortsRow.inPlace == Tryz.checked.prog.inPlace 3)=true:=by kernel_rfl
theorem jD:(Rows.evalSortsRow.unfollowed == Tryz.checked.prog.unfollowed 3)=true:=by kernel_rfl
theorem dw:(Rows.evalSortsRow.recurses == Tryz.checked.prog.recurses 3)=true:=by kernel_rfl
theorem Xo:(Rows.evalSortsRow.named == Tryz.checked.prog.varsNamed 3)=true:=by kernel_rfl
theorem aA:(Rows.evalSortsRow.plainKeys == Tryz.checked.prog.plainKeys)=true:=by kernel_rfl
theorem BH {a b:Bool} (ha:a=true) (hb:b=true):(a && b)=true:=by rw [ha,hb];rfl
theorem LU:joinedFacts Tryz.checked.prog 3 Tryz.f3 Rows.evalSortsSpec Rows.evalSortsRow=true:=by
 unfold joinedFacts
 exact BH (BH (BH (BH (BH (BH (BH (BH (BH (BH (BH (BH (BH (BH (BH (BH (BH (BH (BH (BH (BH (BH (BH (BH (BH (BH (BH (BH (BH (BH (BH (by kernel_rfl) aB) aE) (by kernel_rfl)) (by kernel_rfl)) (by kernel_rfl)) Xp) (by kernel_rfl)) Xm) jC) jD) dw) Xo)
  (by kernel_rfl)) (by kernel_rfl)) (by kernel_rfl)) (by kernel_rfl)) (by kernel_rfl)) (by kernel_rfl)) (by kernel_rfl)) (by kernel_rfl)) (by kernel_rfl)) aA) (by kernel_rfl)) Xl) dv) aC) (by kernel_rfl)) (by kernel_rfl)) (by kernel_rfl)) (by kernel_rfl)) (by kernel_rfl)
theorem ON:Rows.EvalSortsSaid:=
 OpenClaim.holds_of_wide 3 Tryz.f3 rfl rfl rfl rfl rfl rfl rfl ⟨rfl,rfl,rfl,rfl,rfl⟩ rfl rfl rfl rfl rfl (by kernel_rfl) Tryz.func3 LU
  (of_decide_eq_true (by kernel_rfl)) (by unfold Func.isWrapper;first|(rw [if_pos (by decide+kernel)];kernel_rfl)|(rw [if_neg (by decide+kernel)];exact ⟨rfl,rfl⟩))
  (fun os started H enc _=>KU os started H enc)
theorem aD:Tryz.checked.prog.mainIs=some (true,("b4a9a856e056b57627b21879009a38d98ed2231962f57341493af0d863b645de" :String).toList):=by kernel_rfl
theorem Xn:false=Tryz.checked.prog.looks []:=by kernel_rfl
theorem Z9:false=Rows.evalSortsRow.goesBy Tryz.checked.prog:=by kernel_rfl
theorem jE:Rows.evalSortsRow.wfByText (OpenSpec.ofChange Rows.evalSortsSpec)=true:=by kernel_rfl
theorem jB:Tryz.prog.funcNamed "doppel/doppellaw06.EvalSorts" =some 3:=by kernel_rfl
theorem aF:(Tryz.f3.params.toList.all fun u=>!Tryz.prog.wantsStandIn u)=true:=by kernel_rfl
theorem evalSorts_holds:Rows.EvalSortsCardSaid:=
 Claim7.holds_tied_plain_at .later [] [.data,.listed,.data,.pinned,.pinned] true (true,"b4a9a856e056b57627b21879009a38d98ed2231962f57341493af0d863b645de") false
  ON (fun _ h=>by cases h) jE (fun _ h=>by cases h) evalSorts_row_tie rfl ⟨rfl,rfl⟩ aD rfl
  (fun f fn hf hfn=>by
   obtain rfl:f=3:=Option.some.inj (jB.symm.trans hf) |>.symm
   obtain rfl:fn=Tryz.f3:=(Option.some.inj (Tryz.func3.symm.trans hfn)).symm
   exact ⟨Xn,fun j t ht=>by
    have hm:t∈Tryz.f3.params.toList:=by simpa using Array.mem_of_getElem? ht
    exact (show Tryz.prog.wantsStandIn t=false by simpa using List.all_eq_true.1 aF t hm)⟩)
  Z9
end Go.Proofs.YtikecakpcfpghaaGreatDoor
