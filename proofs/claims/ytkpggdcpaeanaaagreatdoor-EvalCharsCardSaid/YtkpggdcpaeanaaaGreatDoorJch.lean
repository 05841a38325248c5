/-
 The law 'EvalChars' returns true, whatever its arguments are, and leaves them as they were; the tied card. (Printed by gen_join.py.)
-/
import Derived.Test.YtkpggdcpaeanaaaGreatDoorLjh
import Derived.Test.YtkpggdcpaeanaaaGreatDoorChL
import Derived.Test.YtkpggdcpaeanaaaGreatDoorCards
import Derived.Test.YtkpggdcpaeanaaaGreatDoorTie
import Derived.SevenTiedAt
namespace Go.Proofs.YtkpggdcpaeanaaaGreatDoor
open Go.ChangeShapes Go.WideShapes Go.ChangeAt Go.RowKit Go.En
theorem lq:Ov En.Dop.D4 Tryz.prog 30 [.fd (.int .i64),.fd (.int .i64)] Tryz.f16.params.toList=true:=by kernel_rfl
theorem lT:(Tryz.f16.params.toList.all fun t=>Tryz.prog.readableRec t && decide (t<Tryz.prog.types.size))=true:=by kernel_rfl
set_option maxRecDepth 100000 in
theorem J7 (os:Os) (started:os.Started) (H:Type) (enc:TypeId×Value->H):
  ReturnsInHanded {} Tryz.checked os 16 .any (fun w args=>(Rows.evalCharsSpec.pre enc Tryz.prog Tryz.f16 [] false w args/\laidMetH Tryz.prog EI w)/\sizedMet enc Tryz.prog Tryz.f16 (OpenSpec.ofChange Rows.evalCharsSpec) false w args)
   (Rows.evalCharsSpec.post enc Tryz.prog Tryz.f16 false true false false):=by
 refine I6 (C:=Tryz.checked) (X:=fun w _=>laidMetH Tryz.prog EI w) (fun _ _ _ hh h=>h.of_heap hh) jC started (by kernel_rfl) Tryz.func16
  (kG (enc:=enc) (os:=os) #[.int .i64 0,.int .i64 0] (by kernel_rfl) (by kernel_rfl) (by kernel_rfl) (by kernel_rfl) (by kernel_rfl)) ?_
 intro W base args ds gs before hval hW _ hz hL hsh _
 exact PF (P:=Tryz.prog) (S:=En.Dop.D4) (N:=30) (t:=4) Tryz.m16.Kh (fun x hx=>Tryz.Uv x.1 x.2.1) U9 lq lT (by kernel_rfl) (by kernel_rfl) rfl
  (fun ds h=>match ds,h with|[_,_],_=>rfl) hval hW hz (iQ hL hsh)
theorem Zq:laidOutB Tryz.checked.prog=true:=by kernel_rfl
theorem Zt:mapsRowed Tryz.checked.prog=true:=by kernel_rfl
theorem XP:Tryz.checked.prog.stopsHeard=true:=by kernel_rfl
theorem dO:Tryz.checked.prog.mayEnter=true:=by kernel_rfl
theorem Zr:(Rows.evalCharsRow.lifted == Tryz.checked.prog.liftsFinal)=true:=by kernel_rfl
theorem XT:(Tryz.checked.prog.stops == [])=true:=by kernel_rfl
theorem XQ:(Tryz.checked.prog.stopKnobs == [])=true:=by kernel_rfl
theorem iX:(Rows.evalCharsRow.inPlace == Tryz.checked.prog.inPlace 16)=true:=by kernel_rfl
theorem iY:(Rows.evalCharsRow.unfollowed == Tryz.checked.prog.unfollowed 16)=true:=by kernel_rfl
theorem dP:(Rows.evalCharsRow.recurses == Tryz.checked.prog.recurses 16)=true:=by kernel_rfl
theorem XS:(Rows.evalCharsRow.named == Tryz.checked.prog.varsNamed 16)=true:=by kernel_rfl
theorem Zp:(Rows.evalCharsRow.plainKeys == Tryz.checked.prog.plainKeys)=true:=by kernel_rfl
theorem BC {a b:Bool} (ha:a=true) (hb:b=true):(a && b)=true:=by rw [ha,hb];rfl
theorem LA:joinedFacts Tryz.checked.prog 16 Tryz.f16 Rows.evalCharsSpec Rows.evalCharsRow=true:=by
 unfold joinedFacts
 exact BC (BC (BC (BC (BC (BC (BC (BC (BC (BC (BC (BC (BC (BC (BC (BC (BC (BC (BC (BC (BC (BC (BC (BC (BC (BC (BC (BC (BC (BC (BC (by kernel_rfl) Zq) Zt) (by kernel_rfl)) (by kernel_rfl)) (by kernel_rfl)) XT) (by kernel_rfl)) XQ) iX) iY) dP) XS)
  (by kernel_rfl)) (by kernel_rfl)) (by kernel_rfl)) (by kernel_rfl)) (by kernel_rfl)) (by kernel_rfl)) (by kernel_rfl)) (by kernel_rfl)) (by kernel_rfl)) Zp) (by kernel_rfl)) XP) dO) Zr) (by kernel_rfl)) (by kernel_rfl)) (by kernel_rfl)) (by kernel_rfl)) (by kernel_rfl)
theorem N3:Rows.EvalCharsSaid:=
 OpenClaim.holds_of_wide 16 Tryz.f16 rfl rfl rfl rfl rfl rfl rfl ⟨rfl,rfl,rfl,rfl,rfl⟩ rfl rfl rfl rfl rfl (by kernel_rfl) Tryz.func16 LA
  (of_decide_eq_true (by kernel_rfl)) (by unfold Func.isWrapper;first|(rw [if_pos (by decide+kernel)];kernel_rfl)|(rw [if_neg (by decide+kernel)];exact ⟨rfl,rfl⟩))
  (fun os started H enc _=>J7 os started H enc)
theorem Zs:Tryz.checked.prog.mainIs=some (true,("62268854c61a2c8f6d8cffc471d9ac404eac6616331ee5bbccb1a5c43aa59136" :String).toList):=by kernel_rfl
theorem XR:false=Tryz.checked.prog.looks []:=by kernel_rfl
theorem Zn:false=Rows.evalCharsRow.goesBy Tryz.checked.prog:=by kernel_rfl
theorem iZ:Rows.evalCharsRow.wfByText (OpenSpec.ofChange Rows.evalCharsSpec)=true:=by kernel_rfl
theorem iW:Tryz.prog.funcNamed "doppel/doppellaw06.EvalChars" =some 16:=by kernel_rfl
theorem Zu:(Tryz.f16.params.toList.all fun u=>!Tryz.prog.wantsStandIn u)=true:=by kernel_rfl
theorem evalChars_holds:Rows.EvalCharsCardSaid:=
 Claim7.holds_tied_plain_at .later [] [.data,.data,.data,.data,.listed,.data,.pinned,.pinned] true (true,"62268854c61a2c8f6d8cffc471d9ac404eac6616331ee5bbccb1a5c43aa59136") false
  N3 (fun _ h=>by cases h) iZ (fun _ h=>by cases h) evalChars_row_tie rfl ⟨rfl,rfl⟩ Zs rfl
  (fun f fn hf hfn=>by
   obtain rfl:f=16:=Option.some.inj (iW.symm.trans hf) |>.symm
   obtain rfl:fn=Tryz.f16:=(Option.some.inj (Tryz.func16.symm.trans hfn)).symm
   exact ⟨XR,fun j t ht=>by
    have hm:t∈Tryz.f16.params.toList:=by simpa using Array.mem_of_getElem? ht
    exact (show Tryz.prog.wantsStandIn t=false by simpa using List.all_eq_true.1 Zu t hm)⟩)
  Zn
end Go.Proofs.YtkpggdcpaeanaaaGreatDoor
