/-
 The law 'CoreTypes' returns true, whatever its arguments are, and leaves them as they were; the tied card. (Printed by gen_join.py.)
-/
import Derived.Test.YtkpggdcpaeanaaaGreatDoorLjt
import Derived.Test.YtkpggdcpaeanaaaGreatDoorCtL
import Derived.Test.YtkpggdcpaeanaaaGreatDoorCards
import Derived.Test.YtkpggdcpaeanaaaGreatDoorTie
import Derived.SevenTiedAt
namespace Go.Proofs.YtkpggdcpaeanaaaGreatDoor
open Go.ChangeShapes Go.WideShapes Go.ChangeAt Go.RowKit Go.En
theorem gr:Nh En.Dop.D4 Tryz.prog 30 [.fd (.int .u8),.fd (.int .u8),.fd (.int .u8)] Tryz.f5.params.toList=true:=by kernel_rfl
theorem ga:(Tryz.f5.params.toList.all fun t=>Tryz.prog.readableRec t && decide (t<Tryz.prog.types.size))=true:=by kernel_rfl
set_option maxRecDepth 100000 in
theorem JS (os:Os) (started:os.Started) (H:Type) (enc:TypeId×Value→H):
  ReturnsInHanded {} Tryz.checked os 5 .any (fun w args=>(Rows.coreTypesSpec.pre enc Tryz.prog Tryz.f5 [] false w args∧laidMetH Tryz.prog D9 w)∧sizedMet enc Tryz.prog Tryz.f5 (OpenSpec.ofChange Rows.coreTypesSpec) false w args)
   (Rows.coreTypesSpec.post enc Tryz.prog Tryz.f5 false true false false):=by
 refine IN (C:=Tryz.checked) (X:=fun w _=>laidMetH Tryz.prog D9 w) (fun _ _ _ hh h=>h.of_heap hh) eP started (by kernel_rfl) Tryz.func5
  (fX (enc:=enc) (os:=os) #[.int .u8 0,.int .u8 0,.int .u8 0] (by kernel_rfl) (by kernel_rfl) (by kernel_rfl) (by kernel_rfl) (by kernel_rfl)) ?_
 intro W base args ds gs before hval hW _ hz hL hsh _
 exact N3 (P:=Tryz.prog) (S:=En.Dop.D4) (N:=30) (t:=4) Tryz.m5.Kh (fun x hx=>Tryz.Rx x.1 x.2.1 x.2.2.1 (Qr hx.1) (Qr hx.2.1) (Qr hx.2.2.1)) Te gr ga (by kernel_rfl) (by kernel_rfl) rfl
  (fun ds h=>match ds,h with|[_,_,_],_=>rfl) hval hW hz (dt hL hsh)
theorem Xq:laidOutB Tryz.checked.prog=true:=by kernel_rfl
theorem Xt:mapsRowed Tryz.checked.prog=true:=by kernel_rfl
theorem VT:Tryz.checked.prog.stopsHeard=true:=by kernel_rfl
theorem bC:Tryz.checked.prog.mayEnter=true:=by kernel_rfl
theorem Xr:(Rows.coreTypesRow.lifted == Tryz.checked.prog.liftsFinal)=true:=by kernel_rfl
theorem VX:(Tryz.checked.prog.stops == [])=true:=by kernel_rfl
theorem VU:(Tryz.checked.prog.stopKnobs == [])=true:=by kernel_rfl
theorem dz:(Rows.coreTypesRow.inPlace == Tryz.checked.prog.inPlace 5)=true:=by kernel_rfl
theorem eA:(Rows.coreTypesRow.unfollowed == Tryz.checked.prog.unfollowed 5)=true:=by kernel_rfl
theorem bD:(Rows.coreTypesRow.recurses == Tryz.checked.prog.recurses 5)=true:=by kernel_rfl
theorem VW:(Rows.coreTypesRow.named == Tryz.checked.prog.varsNamed 5)=true:=by kernel_rfl
theorem Xp:(Rows.coreTypesRow.plainKeys == Tryz.checked.prog.plainKeys)=true:=by kernel_rfl
theorem A7 {a b:Bool} (ha:a=true) (hb:b=true):(a && b)=true:=by rw [ha,hb];rfl
theorem KM:joinedFacts Tryz.checked.prog 5 Tryz.f5 Rows.coreTypesSpec Rows.coreTypesRow=true:=by
 unfold joinedFacts
 exact A7 (A7 (A7 (A7 (A7 (A7 (A7 (A7 (A7 (A7 (A7 (A7 (A7 (A7 (A7 (A7 (A7 (A7 (A7 (A7 (A7 (A7 (A7 (A7 (A7 (A7 (A7 (A7 (A7 (A7 (A7 (by kernel_rfl) Xq) Xt) (by kernel_rfl)) (by kernel_rfl)) (by kernel_rfl)) VX) (by kernel_rfl)) VU) dz) eA) bD) VW)
  (by kernel_rfl)) (by kernel_rfl)) (by kernel_rfl)) (by kernel_rfl)) (by kernel_rfl)) (by kernel_rfl)) (by kernel_rfl)) (by kernel_rfl)) (by kernel_rfl)) Xp) (by kernel_rfl)) VT) bC) Xr) (by kernel_rfl)) (by kernel_rfl)) (by kernel_rfl)) (by kernel_rfl)) (by kernel_rfl)
theorem Ml:Rows.CoreTypesSaid:=
 OpenClaim.holds_of_wide 5 Tryz.f5 rfl rfl rfl rfl rfl rfl rfl ⟨rfl,rfl,rfl,rfl,rfl⟩ rfl rfl rfl rfl rfl (by kernel_rfl) Tryz.func5 KM
  (of_decide_eq_true (by kernel_rfl)) (by unfold Func.isWrapper;first|(rw [if_pos (by decide+kernel)];kernel_rfl)|(rw [if_neg (by decide+kernel)];exact ⟨rfl,rfl⟩))
  (fun os started H enc _=>JS os started H enc)
theorem Xs:Tryz.checked.prog.mainIs=some (true,("62268854c61a2c8f6d8cffc471d9ac404eac6616331ee5bbccb1a5c43aa59136" :String).toList):=by kernel_rfl
theorem VV:false=Tryz.checked.prog.looks []:=by kernel_rfl
theorem Xo:false=Rows.coreTypesRow.goesBy Tryz.checked.prog:=by kernel_rfl
theorem eB:Rows.coreTypesRow.wfByText (OpenSpec.ofChange Rows.coreTypesSpec)=true:=by kernel_rfl
theorem dy:Tryz.prog.funcNamed "doppel/doppellaw05.CoreTypes" =some 5:=by kernel_rfl
theorem Xu:(Tryz.f5.params.toList.all fun u=>!Tryz.prog.wantsStandIn u)=true:=by kernel_rfl
theorem coreTypes_holds:Rows.CoreTypesCardSaid:=
 Claim7.holds_tied_plain_at .later [] [.data,.listed,.data,.pinned,.pinned] true (true,"62268854c61a2c8f6d8cffc471d9ac404eac6616331ee5bbccb1a5c43aa59136") false
  Ml (fun _ h=>by cases h) eB (fun _ h=>by cases h) coreTypes_row_tie rfl ⟨rfl,rfl⟩ Xs rfl
  (fun f fn hf hfn=>by
   obtain rfl:f=5:=Option.some.inj (dy.symm.trans hf) |>.symm
   obtain rfl:fn=Tryz.f5:=(Option.some.inj (Tryz.func5.symm.trans hfn)).symm
   exact ⟨VV,fun j t ht=>by
    have hm:t∈Tryz.f5.params.toList:=by simpa using Array.mem_of_getElem? ht
    exact (show Tryz.prog.wantsStandIn t=false by simpa using List.all_eq_true.1 Xu t hm)⟩)
  Xo
end Go.Proofs.YtkpggdcpaeanaaaGreatDoor
