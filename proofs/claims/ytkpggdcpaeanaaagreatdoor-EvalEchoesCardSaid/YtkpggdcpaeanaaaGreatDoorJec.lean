/-
 The law 'EvalEchoes' returns true, whatever its arguments are, and leaves them as they were; the tied card. (Printed by gen_join.py.)
-/
import Derived.Test.YtkpggdcpaeanaaaGreatDoorLje
import Derived.Test.YtkpggdcpaeanaaaGreatDoorEchL
import Derived.Test.YtkpggdcpaeanaaaGreatDoorCards
import Derived.Test.YtkpggdcpaeanaaaGreatDoorTie
import Derived.SevenTiedAt
namespace Go.Proofs.YtkpggdcpaeanaaaGreatDoor
open Go.ChangeShapes Go.WideShapes Go.ChangeAt Go.RowKit Go.En
theorem j4:Ol En.Dop.D4 Tryz.prog 30 [.fd (.sl 3),.fd (.int .u8)] Tryz.f13.params.toList=true:=by kernel_rfl
theorem jn:(Tryz.f13.params.toList.all fun t=>Tryz.prog.readableRec t && decide (t<Tryz.prog.types.size))=true:=by kernel_rfl
set_option maxRecDepth 100000 in
theorem JM (os:Os) (started:os.Started) (H:Type) (enc:TypeId×Value->H):
  ReturnsInHanded {} Tryz.checked os 13 .any (fun w args=>(Rows.evalEchoesSpec.pre enc Tryz.prog Tryz.f13 [] false w args/\laidMetH Tryz.prog ET w)/\sizedMet enc Tryz.prog Tryz.f13 (OpenSpec.ofChange Rows.evalEchoesSpec) false w args)
   (Rows.evalEchoesSpec.post enc Tryz.prog Tryz.f13 false true false false):=by
 refine I4 (C:=Tryz.checked) (X:=fun w _=>laidMetH Tryz.prog ET w) (fun _ _ _ hh h=>h.of_heap hh) gk started (by kernel_rfl) Tryz.func13
  (ir (enc:=enc) (os:=os) #[.slice none 0 0,.int .u8 0] (by kernel_rfl) (by kernel_rfl) (by kernel_rfl) (by kernel_rfl) (by kernel_rfl)) ?_
 intro W base args ds gs before hval hW _ hz hL hsh _
 exact O8 (P:=Tryz.prog) (S:=En.Dop.D4) (N:=30) (t:=4) Tryz.m13.Kh (fun x hx=>Tryz.SA x.1 x.2.1 (bL hx.1) (bK hx.2.1)) Um j4 jn (by kernel_rfl) (by kernel_rfl) rfl
  (fun ds h=>match ds,h with|[_,_],_=>rfl) hval hW hz (gE hL hsh)
theorem Y5:laidOutB Tryz.checked.prog=true:=by kernel_rfl
theorem Y8:mapsRowed Tryz.checked.prog=true:=by kernel_rfl
theorem Wa:Tryz.checked.prog.stopsHeard=true:=by kernel_rfl
theorem cV:Tryz.checked.prog.mayEnter=true:=by kernel_rfl
theorem Y6:(Rows.evalEchoesRow.lifted == Tryz.checked.prog.liftsFinal)=true:=by kernel_rfl
theorem We:(Tryz.checked.prog.stops == [])=true:=by kernel_rfl
theorem Wb:(Tryz.checked.prog.stopKnobs == [])=true:=by kernel_rfl
theorem gL:(Rows.evalEchoesRow.inPlace == Tryz.checked.prog.inPlace 13)=true:=by kernel_rfl
theorem gM:(Rows.evalEchoesRow.unfollowed == Tryz.checked.prog.unfollowed 13)=true:=by kernel_rfl
theorem cW:(Rows.evalEchoesRow.recurses == Tryz.checked.prog.recurses 13)=true:=by kernel_rfl
theorem Wd:(Rows.evalEchoesRow.named == Tryz.checked.prog.varsNamed 13)=true:=by kernel_rfl
theorem Y4:(Rows.evalEchoesRow.plainKeys == Tryz.checked.prog.plainKeys)=true:=by kernel_rfl
theorem BD {a b:Bool} (ha:a=true) (hb:b=true):(a && b)=true:=by rw [ha,hb];rfl
theorem J9:joinedFacts Tryz.checked.prog 13 Tryz.f13 Rows.evalEchoesSpec Rows.evalEchoesRow=true:=by
 unfold joinedFacts
 exact BD (BD (BD (BD (BD (BD (BD (BD (BD (BD (BD (BD (BD (BD (BD (BD (BD (BD (BD (BD (BD (BD (BD (BD (BD (BD (BD (BD (BD (BD (BD (by kernel_rfl) Y5) Y8) (by kernel_rfl)) (by kernel_rfl)) (by kernel_rfl)) We) (by kernel_rfl)) Wb) gL) gM) cW) Wd)
  (by kernel_rfl)) (by kernel_rfl)) (by kernel_rfl)) (by kernel_rfl)) (by kernel_rfl)) (by kernel_rfl)) (by kernel_rfl)) (by kernel_rfl)) (by kernel_rfl)) Y4) (by kernel_rfl)) Wa) cV) Y6) (by kernel_rfl)) (by kernel_rfl)) (by kernel_rfl)) (by kernel_rfl)) (by kernel_rfl)
theorem MR:Rows.EvalEchoesSaid:=
 OpenClaim.holds_of_wide 13 Tryz.f13 rfl rfl rfl rfl rfl rfl rfl ⟨rfl,rfl,rfl,rfl,rfl⟩ rfl rfl rfl rfl rfl (by kernel_rfl) Tryz.func13 J9
  (of_decide_eq_true (by kernel_rfl)) (by unfold Func.isWrapper;first|(rw [if_pos (by decide+kernel)];kernel_rfl)|(rw [if_neg (by decide+kernel)];exact ⟨rfl,rfl⟩))
  (fun os started H enc _=>JM os started H enc)
theorem Y7:Tryz.checked.prog.mainIs=some (true,("62268854c61a2c8f6d8cffc471d9ac404eac6616331ee5bbccb1a5c43aa59136" :String).toList):=by kernel_rfl
theorem Wc:false=Tryz.checked.prog.looks []:=by kernel_rfl
theorem Y3:false=Rows.evalEchoesRow.goesBy Tryz.checked.prog:=by kernel_rfl
theorem gN:Rows.evalEchoesRow.wfByText (OpenSpec.ofChange Rows.evalEchoesSpec)=true:=by kernel_rfl
theorem gK:Tryz.prog.funcNamed "doppel/doppellaw06.EvalEchoes" =some 13:=by kernel_rfl
theorem Y9:(Tryz.f13.params.toList.all fun u=>!Tryz.prog.wantsStandIn u)=true:=by kernel_rfl
theorem evalEchoes_holds:Rows.EvalEchoesCardSaid:=
 Claim7.holds_tied_plain_at .later [] [.data,.data,.data,.data,.listed,.data,.pinned,.pinned] true (true,"62268854c61a2c8f6d8cffc471d9ac404eac6616331ee5bbccb1a5c43aa59136") false
  MR (fun _ h=>by cases h) gN (fun _ h=>by cases h) evalEchoes_row_tie rfl ⟨rfl,rfl⟩ Y7 rfl
  (fun f fn hf hfn=>by
   obtain rfl:f=13:=Option.some.inj (gK.symm.trans hf) |>.symm
   obtain rfl:fn=Tryz.f13:=(Option.some.inj (Tryz.func13.symm.trans hfn)).symm
   exact ⟨Wc,fun j t ht=>by
    have hm:t∈Tryz.f13.params.toList:=by simpa using Array.mem_of_getElem? ht
    exact (show Tryz.prog.wantsStandIn t=false by simpa using List.all_eq_true.1 Y9 t hm)⟩)
  Y3
end Go.Proofs.YtkpggdcpaeanaaaGreatDoor
