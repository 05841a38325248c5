/-
 From the row's cell 'laid' and the world's shape to what the contracts of the library ask of the world; the wrap that hands on both.
-/
import Derived.Test.YtpjlciengdhjoaaGreatDoorRows
import Derived.Test.YtpjlciengdhjoaaGreatDoorLb
import Derived.Test.YtpjlciengdhjoaaGreatDoorMg
import Derived.Lib.LaidTab
import Derived.Lib.LaidU8
import Derived.HandedShaped
import Derived.Shelf.Vars
import Derived.Lay
import Derived.LaidOnce
import Derived.MakeChecks
namespace Go.Proofs.YtpjlciengdhjoaaGreatDoor
open Go.ChangeShapes Go.WideShapes Go.ChangeAt Go.RowKit Go.En
section
variable {H:Type} {enc:TypeId×Value->H}
theorem Jf {a:Assume} {C:Checked} {os:Os} {f:FuncId} {fn:Func} {s:ChangeSpec} {conds:List PathCond} {apart fresh handsOn again:Bool} {X:World->Array Value->Prop}
  (hX: ∀ (w w':World) (args:Array Value),w.heap=w'.heap->X w args->X w' args)
  (own:ownKnob C.prog.godebug=none) (started:os.Started) (noInit:C.prog.inits.idxOf? f=none) (hfn:C.prog.funcs[f]?=some fn)
  (witness: ∃ (w:World) (tape:Tape) (i:Input),w.os=os/\(w.forCall tape i).Shaped C.prog/\i.vars=[]/\Input.okWide C.prog (w.forCall tape i) .any w.heap.size f i/\
   ((s.pre enc C.prog fn conds apart (w.forCall tape i).memory i.args/\X (w.forCall tape i).memory i.args)/\sizedMet enc C.prog fn (OpenSpec.ofChange s) apart (w.forCall tape i).memory i.args)/\a.holds C.prog (lone (Frame.enter C.prog f i.args .normal) [] (w.forCall tape i)))
  (contract: ∀ (W:World) (base:Nat) (args:Array Value) (ds gs:List (DataW H)) (before:List MemPlace),
   (∀ (j:Nat) t v,fn.params[j]?=some t->args[j]?=some v->Value.okWide C.prog W .any base t v)->
   DataW.Whole enc C.prog fn.params.toList s.vars apart W args.toList ds gs before->
   conds.all (PathCond.test C.prog ⟨fn.params.toList,ds,s.plain.varTypes C.prog,gs⟩)=true->
   (DataW.weightsEach C.prog (fn.params.toList++s.plain.varTypes C.prog) (ds++gs)).all (· <=reachBytes)=true->X W args->W.ShapedOpen C.prog->
   a.holds C.prog (lone (Frame.enter C.prog f args .normal) [] W)->
   Calls C.prog f args W fun e W'=> ∃ v,e=.returned v/\s.post enc C.prog fn apart fresh handsOn again W args v W'):
  ReturnsInHanded a C os f .any (fun w args=>(s.pre enc C.prog fn conds apart w args/\X w args)/\sizedMet enc C.prog fn (OpenSpec.ofChange s) apart w args) (s.post enc C.prog fn apart fresh handsOn again):=by
 refine returnsInHanded_of_calls own started noInit witness ?_
 intro w tape i _ hsh _ hok hpre hholds
 obtain ⟨_,_,_,fn',hfn',_,_,_,_,hval⟩:=hok
 have e:fn'=fn:=Option.some.inj (hfn'.symm.trans hfn)
 subst e
 obtain ⟨⟨⟨ds,gs,before,hw,hc⟩,hx⟩,hz⟩:=hpre
 have hw':=DataW.Whole.of_heap (w':=w.forCall tape i) (by rfl) hw
 refine (contract (w.forCall tape i) w.heap.size i.args ds gs before hval hw' hc (hz.weights hw) (hX _ _ _ (by rfl) hx) hsh hholds).mono fun e W' ⟨v,he,hp⟩=>?_
 subst he
 exact ChangeSpec.post_blind hp
end
theorem ke:ownKnob Tryz.prog.godebug=none:=by kernel_rfl
theorem Vx:laidOutB Tryz.prog=true:=by kernel_rfl
def EW:List (String×DataW Unit):=Rows.evalRowsRow.laid
theorem ds:(Rows.laid_strings_asciiSpace:DataW Unit)=Lib.tabData .u8 Lib.asciiSpaceTab:=by kernel_rfl
theorem NS (w:World):laidMetH Tryz.prog EW w=laidMet Tryz.prog EW w:=MakeChecks.laidMetH_plain _ _ _ (by kernel_rfl)
theorem Yn {n:String} {d:DataW Unit} (h:(n,d)∈EW) {W:World} (hm:laidMet Tryz.prog EW W):Lib.VarReads Tryz.prog W n d:=Lib.laidMet.reads hm h
theorem px {W:World} (h0:laidMetH Tryz.prog EW W) (hsh:W.ShapedOpen Tryz.prog):En.Dop.jB W:=by
 rw [NS] at h0
 have m (n:String) (d:DataW Unit) (i:Nat) (e:EW[i]?=some (n,d)):Lib.VarReads Tryz.prog W n d:=Yn (gc e) h0
 refine ⟨?_,?_,?_⟩
 ·obtain ⟨g,t,cs,fuel,p,hg,hty,hvar,hd⟩:=m "strings.asciiSpace" Rows.laid_strings_asciiSpace 2 rfl
  rw [ds] at hd
  obtain rfl:=Option.some.inj ((show Tryz.prog.globalNamed "strings.asciiSpace" =some 1 by kernel_rfl).symm.trans hg)
  obtain rfl:=Option.some.inj ((show (Tryz.prog.globals[1]?).map (·.type)=some 214 by kernel_rfl).symm.trans hty)
  have hcs:=Lib.cells_of_tab (e:=5) (n:=256) Tryz.underlying214 Tryz.underlying5 (by kernel_rfl) (by kernel_rfl) hd
  unfold Lib.TabIs
  rw [hvar,<- hcs]
 ·trivial
 ·exact cell_of_shapedOpen_int (P:=Tryz.prog) (g:=0) (t:=3) (zero:=#[.int .i64 0]) hsh (ip (by kernel_rfl)) (by kernel_rfl) rfl (by kernel_rfl) (by kernel_rfl) Tryz.underlying3
theorem jl {W:World} (h0:laidMetH Tryz.prog EW W) (hsh:W.ShapedOpen Tryz.prog):En.Dop.D4.inv (· <W.heap.size) W:=Mm.first (L:=En.Dop.jB) (px h0 hsh)
theorem kU (os:Os) (args:Array Value):laidMetH Tryz.prog EW ((World.laidAll Tryz.prog os EW).forCall (fun _ _=>0) ⟨#[],args,[]⟩).memory:=by
 rw [NS];exact laidMet_laidAll _ (by kernel_rfl) (by kernel_rfl)
theorem mN {H:Type} {enc:TypeId×Value->H} {os:Os} {f:FuncId} {fn:Func} {s:ChangeSpec} (args:Array Value)
  (hv:((World.laidAll Tryz.prog os EW).forCall (fun _ _=>0) ⟨#[],args,[]⟩).variablesZipB Tryz.prog=true)
  (hr:(((World.laidAll Tryz.prog os EW).forCall (fun _ _=>0) ⟨#[],args,[]⟩).heap.toList.drop Tryz.prog.globals.size).take ((begin Tryz.prog (fun _ _=>0) default).world.heap.size -Tryz.prog.globals.size)=
   (begin Tryz.prog (fun _ _=>0) default).world.heap.toList.drop Tryz.prog.globals.size)
  (hok:Input.okWideB Tryz.prog ((World.laidAll Tryz.prog os EW).forCall (fun _ _=>0) ⟨#[],args,[]⟩) f ⟨#[],args,[]⟩=true)
  (hpre:s.preB enc Tryz.prog fn [] false ((World.laidAll Tryz.prog os EW).forCall (fun _ _=>0) ⟨#[],args,[]⟩).memory args 8=true)
  (hsz:s.sizedB enc Tryz.prog fn false ((World.laidAll Tryz.prog os EW).forCall (fun _ _=>0) ⟨#[],args,[]⟩).memory args 8=true):
  ∃ (w:World) (tape:Tape) (i:Input),w.os=os/\(w.forCall tape i).Shaped Tryz.prog/\i.vars=[]/\Input.okWide Tryz.prog (w.forCall tape i) .any w.heap.size f i/\
   ((s.pre enc Tryz.prog fn [] false (w.forCall tape i).memory i.args/\laidMetH Tryz.prog EW (w.forCall tape i).memory)/\sizedMet enc Tryz.prog fn (OpenSpec.ofChange s) false (w.forCall tape i).memory i.args)/\({}:Assume).holds Tryz.prog (lone (Frame.enter Tryz.prog f i.args .normal) [] (w.forCall tape i)):=
 ⟨World.laidAll Tryz.prog os EW,fun _ _=>0,⟨#[],args,[]⟩,World.laidAll_os _ _ _,World.shaped_of_ZipB hv hr,(Input.okWide_of_okWideB (base:=0) hok).1,(Input.okWide_of_okWideB hok).2,⟨⟨ChangeSpec.pre_of_preB hpre,kU os _⟩,sizedMet_of_sizedB hsz⟩,by
  simp only [Assume.holds]
  exact ⟨by simp,by simp,fun _=>Modest.zero,by simp,by simp⟩⟩
end Go.Proofs.YtpjlciengdhjoaaGreatDoor
