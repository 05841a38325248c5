/-
 The law 'EvalAddresses' returns true, whatever its arguments are, and leaves them as they were; the tied card. (Printed by gen_join.py.)
-/
import Derived.Test.YtkpggdcpaeanaaaGreatDoorLja
import Derived.Test.YtkpggdcpaeanaaaGreatDoorAdrL
import Derived.Test.YtkpggdcpaeanaaaGreatDoorCards
import Derived.Test.YtkpggdcpaeanaaaGreatDoorTie
import Derived.SevenTiedAt
namespace Go.Proofs.YtkpggdcpaeanaaaGreatDoor
open Go.ChangeShapes Go.WideShapes Go.ChangeAt Go.RowKit Go.En
theorem jq:Ob En.Dop.D4 Tryz.prog 30 [.fd (.int .i64)] Tryz.f14.params.toList=true:=by kernel_rfl
theorem je:(Tryz.f14.params.toList.all fun t=>Tryz.prog.readableRec t && decide (t<Tryz.prog.types.size))=true:=by kernel_rfl
set_option maxRecDepth 100000 in
theorem HH (os:Os) (started:os.Started) (H:Type) (enc:TypeId×Value->H):
  ReturnsInHanded {} Tryz.checked os 14 .any (fun w args=>(Rows.evalAddressesSpec.pre enc Tryz.prog Tryz.f14 [] false w args/\laidMetH Tryz.prog D9 w)/\sizedMet enc Tryz.prog Tryz.f14 (OpenSpec.ofChange Rows.evalAddressesSpec) false w args)
   (Rows.evalAddressesSpec.post enc Tryz.prog Tryz.f14 false true false false):=by
 refine Iv (C:=Tryz.checked) (X:=fun w _=>laidMetH Tryz.prog D9 w) (fun _ _ _ hh h=>h.of_heap hh) gS started (by kernel_rfl) Tryz.func14
  (iX (enc:=enc) (os:=os) #[.int .i64 0] (by kernel_rfl) (by kernel_rfl) (by kernel_rfl) (by kernel_rfl) (by kernel_rfl)) ?_
 intro W base args ds gs before hval hW _ hz hL hsh _
 exact Oz (P:=Tryz.prog) (S:=En.Dop.D4) (N:=30) (t:=4) Tryz.m14.Kh (fun x hx=>Tryz.Ng x.1) Ud jq je (by kernel_rfl) (by kernel_rfl) rfl
  (fun ds h=>match ds,h with|[_],_=>rfl) hval hW hz (fj hL hsh)
theorem Y9:laidOutB Tryz.checked.prog=true:=by kernel_rfl
theorem ZC:mapsRowed Tryz.checked.prog=true:=by kernel_rfl
theorem Wc:Tryz.checked.prog.stopsHeard=true:=by kernel_rfl
theorem cM:Tryz.checked.prog.mayEnter=true:=by kernel_rfl
theorem ZA:(Rows.evalAddressesRow.lifted == Tryz.checked.prog.liftsFinal)=true:=by kernel_rfl
theorem Wg:(Tryz.checked.prog.stops == [])=true:=by kernel_rfl
theorem Wd:(Tryz.checked.prog.stopKnobs == [])=true:=by kernel_rfl
theorem fw:(Rows.evalAddressesRow.inPlace == Tryz.checked.prog.inPlace 14)=true:=by kernel_rfl
theorem fx:(Rows.evalAddressesRow.unfollowed == Tryz.checked.prog.unfollowed 14)=true:=by kernel_rfl
theorem cN:(Rows.evalAddressesRow.recurses == Tryz.checked.prog.recurses 14)=true:=by kernel_rfl
theorem Wf:(Rows.evalAddressesRow.named == Tryz.checked.prog.varsNamed 14)=true:=by kernel_rfl
theorem Y8:(Rows.evalAddressesRow.plainKeys == Tryz.checked.prog.plainKeys)=true:=by kernel_rfl
theorem A8 {a b:Bool} (ha:a=true) (hb:b=true):(a && b)=true:=by rw [ha,hb];rfl
theorem H6:joinedFacts Tryz.checked.prog 14 Tryz.f14 Rows.evalAddressesSpec Rows.evalAddressesRow=true:=by
 unfold joinedFacts
 exact A8 (A8 (A8 (A8 (A8 (A8 (A8 (A8 (A8 (A8 (A8 (A8 (A8 (A8 (A8 (A8 (A8 (A8 (A8 (A8 (A8 (A8 (A8 (A8 (A8 (A8 (A8 (A8 (A8 (A8 (A8 (by kernel_rfl) Y9) ZC) (by kernel_rfl)) (by kernel_rfl)) (by kernel_rfl)) Wg) (by kernel_rfl)) Wd) fw) fx) cN) Wf)
  (by kernel_rfl)) (by kernel_rfl)) (by kernel_rfl)) (by kernel_rfl)) (by kernel_rfl)) (by kernel_rfl)) (by kernel_rfl)) (by kernel_rfl)) (by kernel_rfl)) Y8) (by kernel_rfl)) Wc) cM) ZA) (by kernel_rfl)) (by kernel_rfl)) (by kernel_rfl)) (by kernel_rfl)) (by kernel_rfl)
theorem JH:Rows.EvalAddressesSaid:=
 OpenClaim.holds_of_wide 14 Tryz.f14 rfl rfl rfl rfl rfl rfl rfl ⟨rfl,rfl,rfl,rfl,rfl⟩ rfl rfl rfl rfl rfl (by kernel_rfl) Tryz.func14 H6
  (of_decide_eq_true (by kernel_rfl)) (by unfold Func.isWrapper;first|(rw [if_pos (by decide+kernel)];kernel_rfl)|(rw [if_neg (by decide+kernel)];exact ⟨rfl,rfl⟩))
  (fun os started H enc _=>HH os started H enc)
theorem ZB:Tryz.checked.prog.mainIs=some (true,("62268854c61a2c8f6d8cffc471d9ac404eac6616331ee5bbccb1a5c43aa59136" :String).toList):=by kernel_rfl
theorem We:false=Tryz.checked.prog.looks []:=by kernel_rfl
theorem Y7:false=Rows.evalAddressesRow.goesBy Tryz.checked.prog:=by kernel_rfl
theorem fy:Rows.evalAddressesRow.wfByText (OpenSpec.ofChange Rows.evalAddressesSpec)=true:=by kernel_rfl
theorem fq:Tryz.prog.funcNamed "doppel/doppellaw06.EvalAddresses" =some 14:=by kernel_rfl
theorem ZD:(Tryz.f14.params.toList.all fun u=>!Tryz.prog.wantsStandIn u)=true:=by kernel_rfl
theorem evalAddresses_holds:Rows.EvalAddressesCardSaid:=
 Claim7.holds_tied_plain_at .later [] [.data,.data,.data,.data,.listed,.data,.pinned,.pinned] true (true,"62268854c61a2c8f6d8cffc471d9ac404eac6616331ee5bbccb1a5c43aa59136") false
  JH (fun _ h=>by cases h) fy (fun _ h=>by cases h) evalAddresses_row_tie rfl ⟨rfl,rfl⟩ ZB rfl
  (fun f fn hf hfn=>by
   obtain rfl:f=14:=Option.some.inj (fq.symm.trans hf) |>.symm
   obtain rfl:fn=Tryz.f14:=(Option.some.inj (Tryz.func14.symm.trans hfn)).symm
   exact ⟨We,fun j t ht=>by
    have hm:t∈Tryz.f14.params.toList:=by simpa using Array.mem_of_getElem? ht
    exact (show Tryz.prog.wantsStandIn t=false by simpa using List.all_eq_true.1 ZD t hm)⟩)
  Y7
end Go.Proofs.YtkpggdcpaeanaaaGreatDoor
