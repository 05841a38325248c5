/-
 parser.within (a deferred call), at each of the functions that it is called with: contracts.
-/
import Derived.Test.YtkpggdcpaeanaaaGreatDoorMk
set_option maxRecDepth 100000
namespace Go.Proofs
open Go Go.En Go.RowKit
@[reducible] def pbT : Box := bxA
@[reducible] def wBx : List Box := [pbT,⟨1,89,[.al 0 0],false⟩]
abbrev PS' : Type := List Dop.Tok × Int × List Dop.Nde × List Dop.Typ × Int × Int × Int × Int × Unit
def sD (s : PS') (d : Int) : PS' := (s.1,s.2.1,s.2.2.1,s.2.2.2.1,s.2.2.2.2.1,d,s.2.2.2.2.2.2.1,s.2.2.2.2.2.2.2.1,())
abbrev MT : Type := En.Spec.D En.Dop.D4 ⟨[.al 0 0],[pbT]⟩ → Option (En.Spec.D En.Dop.D4 ⟨[.fd (.int .i64)],[pbT]⟩)
def wDec (r : Int) (s : PS') : Option (En.Spec.D En.Dop.D4 ⟨[.fd (.int .i64)],[pbT]⟩) :=
 if inR (s.2.2.2.2.2.1 - 1) = true then some ((r,()),(sD s (s.2.2.2.2.2.1 - 1),())) else none
def wTail (m : MT) (s : PS') : Option (En.Spec.D En.Dop.D4 ⟨[.fd (.int .i64)],[pbT]⟩) :=
 if (!decide (s.2.2.2.2.2.2.1 = 0)) = true then wDec (-1) s else (m (((),()),(s,()))).bind fun v => wDec v.1.1 v.2.1
noncomputable def Tryz.within (m : MT) (s : PS') : Option (En.Spec.D En.Dop.D4 ⟨[.fd (.int .i64)],[pbT]⟩) :=
 if inR (s.2.2.2.2.2.1 + 1) = true then
  if decide (100 < s.2.2.2.2.2.1 + 1) = true then
   (Tryz.m142 6 s.1 s.2.1 s.2.2.1 s.2.2.2.1 s.2.2.2.2.1 (s.2.2.2.2.2.1 + 1) s.2.2.2.2.2.2.1 s.2.2.2.2.2.2.2.1).bind fun y => wTail m y.2.1
  else wTail m (sD s (s.2.2.2.2.2.1 + 1))
 else none
@[reducible] noncomputable def w4 : Code := codeAt (bodyOf Tryz.prog 180) [0,1,1,1]
@[reducible] noncomputable def w5 : Code := codeAt (bodyOf Tryz.prog 180) [1,1,1,1]
noncomputable def regO (c : Code) : Array Oper := match c with
 | .region _ o _ => o
 | _ => #[]
noncomputable def w4o : Array Oper := regO w4
noncomputable def w5o : Array Oper := regO (codeAt w5 [0,0])
noncomputable def w6o : Array Oper := regO (codeAt w5 [0,0,1,0])
noncomputable def w7o : Array Oper := regO (codeAt w5 [0,1])
noncomputable def w77o : Array Oper := regO (bodyOf Tryz.prog 203)
theorem w4_eq : w4 = .region 4 w4o false := by kernel_rfl
theorem w5_eq : w5 = .seq (.seq (.region 5 w5o false) (.cond (.tmp 24) (.seq (.region 6 w6o false) .ret) .skip)) (.seq (.region 7 w7o false) .ret) := by kernel_rfl
theorem w77_eq : bodyOf Tryz.prog 203 = .region 0 w77o false := by kernel_rfl
noncomputable def w4a : Oper := (w4o.getD 0 default)
noncomputable def w4b : Oper := (w4o.getD 1 default)
theorem w4o_eq : w4o.toList = [w4a,w4b] := by kernel_rfl
theorem w4a_op : w4a.op = .makeFunc (.func 203) #[] #[.tmp 2] ∧ w4a.dst = some 19 ∧ w4a.guard = none := ⟨by kernel_rfl,by kernel_rfl,by kernel_rfl⟩
theorem w4b_op : w4b.op = .defer { callee := .value (.tmp 19),args := #[],argTypes := #[] } ∧ w4b.dst = none ∧ w4b.guard = none := ⟨by kernel_rfl,by kernel_rfl,by kernel_rfl⟩
def w77.p : Pln := ⟨[],2,⟨[.al 1 0],wBx⟩,⟨[],wBx⟩,false,[],[]⟩
noncomputable def w77.E : Env En.Dop.D4 := envOf Tryz.prog 203 Tryz.tb [] w77.p
theorem w77.ok : plnOk En.Dop.D4 Tryz.prog 203 w77.p = true := by kernel_rfl
theorem w77.seg (s : PS') : (segT w77.E 3000 w77o ⟨[.al 1 0],wBx⟩ ⟨[],wBx⟩ [0] [] 2 (((),()),(s,((),()),()))).eval (fun _ _ => none) =
  if inR (s.2.2.2.2.2.1 - 1) = true then some ((),(sD s (s.2.2.2.2.2.1 - 1),((),()),())) else none := by kernel_rfl
theorem callFunc_W (args : Array Value) (w : World) : (callFunc 203 args).run Tryz.prog w = .ok (.enter 203 args) w := run_callFunc (by kernel_rfl)
theorem w_parse (r : Int) (s : PS') : ∃ ps,En.Spec.parse (S := En.Dop.D4) ⟨[.fd (.int .i64)],[pbT]⟩ true [.v (.int .i64 r)] (En.Spec.enc (S := En.Dop.D4) ⟨[],wBx⟩ ((),(s,((),()),())) 2).2.1 (idm 1) 1 = some (((r,()),(s,())),ps) ∧ lk ps.m 0 = some 0 :=
 ⟨⟨(1,.blk 89 [.ptr 0 0]) :: (2,.sl 4 s.1) :: [],[(0,0)],[],1⟩,by kernel_rfl,by kernel_rfl⟩
theorem w_ret {f : Nat} {sp : En.Spec} {out : Out (sp.D En.Dop.D4) (En.Spec.D En.Dop.D4 ⟨[.fd (.int .i64)],[pbT]⟩)} {w : World} {D : Nat → Prop} {β : Nat → Nm} {o0 : List (Nat × En.Own En.Dop.D4)} (hkp : Keeps En.Dop.D4 w (blocksOf o0 β) D) {fn : Func} (hres : fn.results = #[.tmp 4]) {β2 : Nat → Nm} (hβ : β2 0 = β 0)
  {r : Int} {s : PS'} (hd : inR (s.2.2.2.2.2.1 - 1) = true) {a : Act} {W : World}
  (hh : Here En.Dop.D4 w (blocksOf o0 β) D ⟨[.fd (.int .i64)],wBx⟩ [4] 2 β2 27 ((r,()),(s,((),()),())) a W) :
  Leaves Tryz.prog fn a.tmps (CPost (S := En.Dop.D4) ⟨f,1,sp,⟨[.fd (.int .i64)],[pbT]⟩,false,out⟩ ((r,()),(sD s (s.2.2.2.2.2.1 - 1),())) w D β o0) [{ target := .fn (.func 203) #[.pointer (some ⟨(β2 1).blk,0,none⟩)],args := #[] }] .returning W := by
 obtain ⟨hE,_,_,fn7,hf7,hb7,hn7,hr7⟩ := env_ok (p := w77.p) (ct := []) Tryz.tbOk hct_nil w77.ok
 have hn7 : fn7.ntmps = 8 := hn7
 obtain ⟨⟨D1,β1,vs,o,n,he,h1,h2,h3,h4,h5⟩,hsz⟩ := hh
 have hr : a.tmps.getD 4 undef = .int .i64 r := by
  have hvs : vs = [.v (.int .i64 r)] := by
   have h : En.Spec.enc (S := En.Dop.D4) ⟨[.fd (.int .i64)],wBx⟩ ((r,()),(s,((),()),())) 2 = ([.v (.int .i64 r)],(En.Spec.enc (S := En.Dop.D4) ⟨[.fd (.int .i64)],wBx⟩ ((r,()),(s,((),()),())) 2).2.1,(En.Spec.enc (S := En.Dop.D4) ⟨[.fd (.int .i64)],wBx⟩ ((r,()),(s,((),()),())) 2).2.2) := by kernel_rfl
   rw [he] at h
   exact (Prod.mk.inj h).1
  subst hvs
  have := (h5 0 4 _ rfl rfl).2
  rw [this]; simp only [SV.den]
 have he7 : En.Spec.enc (S := En.Dop.D4) ⟨[.al 1 0],wBx⟩ (((),()),(s,((),()),())) 2 = ([.ptr 1 0],o,n) := by
  have h : En.Spec.enc (S := En.Dop.D4) ⟨[.al 1 0],wBx⟩ (((),()),(s,((),()),())) 2 = ([.ptr 1 0],(En.Spec.enc (S := En.Dop.D4) ⟨[.fd (.int .i64)],wBx⟩ ((r,()),(s,((),()),())) 2).2.1,(En.Spec.enc (S := En.Dop.D4) ⟨[.fd (.int .i64)],wBx⟩ ((r,()),(s,((),()),())) 2).2.2) := by kernel_rfl
  rw [h,he]
 have hseg := w77.seg s
 rw [if_pos hd] at hseg
 refine leaves_cons (by simp) (by rw [invoke]; exact callFunc_W _ _) ?_
 refine (callsD_of_wp (R := fun e w' => (∃ v,e = .returned v) ∧ ∃ a',Here En.Dop.D4 w (blocksOf o0 β) D ⟨[],wBx⟩ [] 2 β2 8 ((),(sD s (s.2.2.2.2.2.1 - 1),((),()),())) a' w') hf7 hb7 ?_).mono ?_
 ·rw [w77_eq]
  refine wp_region_list (seg_ok hE (by kernel_rfl) rfl hseg hkp ⟨⟨D1,β1,_,o,n,he7,h1,h2,?_,h4,?_⟩,?_⟩ ?_)
  ·simp only [onL,SV.on,and_true]; omega
  ·intro j t v hj hv
   cases j with
   | zero =>
    simp only [List.getElem?_cons_zero,Option.some.injEq] at hj hv; subst hj; subst hv
    refine ⟨by show 0 < 8; omega,?_⟩
    rw [Array.getD_eq_getD_getElem?,Array.getElem?_append_left (by simp)]
    simp [SV.den,h1 1 (by omega)]
   | succ j => simp at hj
  ·simp [hn7]; rfl
  ·intro a' W' hd' hh'
   refine ⟨hd',.tuple #[],results_none (by rw [← Array.toList_inj]; rw [hr7]; kernel_rfl) _ _ _,⟨_,rfl⟩,a',hh'⟩
 ·rintro e u w' ⟨rfl,⟨v,rfl⟩,a',⟨D2,β3,vs2,o2,n2,k1,k2,k3,k4,k5,_⟩,_⟩
  show ∃ v,(results fn a.tmps).run Tryz.prog w' = .ok v w' ∧ _
  refine ⟨.int .i64 r,by rw [← hr]; exact results_tmp hres _ _ _,?_⟩
  rcases he8 : En.Spec.enc (S := En.Dop.D4) ⟨[.fd (.int .i64)],[pbT]⟩ ((r,()),(sD s (s.2.2.2.2.2.1 - 1),())) 1 with ⟨rs,o5,n5⟩
  obtain ⟨ps,hps,hm0⟩ := w_parse r (sD s (s.2.2.2.2.2.1 - 1))
  have ho2 : o2 = (En.Spec.enc (S := En.Dop.D4) ⟨[],wBx⟩ ((),(sD s (s.2.2.2.2.2.1 - 1),((),()),())) 2).2.1 := by rw [k1]
  rw [← ho2] at hps
  obtain ⟨β5,b1,b2,b3,b4,b5,_⟩ := En.Spec.parse_ok k3 hps (by kernel_rfl) he8
  have hrs : rs = [.v (.int .i64 r)] := by
   have h : ∀ s' : PS',En.Spec.enc (S := En.Dop.D4) ⟨[.fd (.int .i64)],[pbT]⟩ ((r,()),(s',())) 1 = ([.v (.int .i64 r)],(En.Spec.enc (S := En.Dop.D4) ⟨[.fd (.int .i64)],[pbT]⟩ ((r,()),(s',())) 1).2.1,(En.Spec.enc (S := En.Dop.D4) ⟨[.fd (.int .i64)],[pbT]⟩ ((r,()),(s',())) 1).2.2) := fun s' => by kernel_rfl
   have h := h (sD s (s.2.2.2.2.2.1 - 1))
   rw [he8] at h
   exact (Prod.mk.inj h).1
  refine ⟨_,β5,rs,o5,n5,he8,?_,fun i hi => ?_,b2,b4,b5⟩
  ·rw [hrs]; simp only [resSV,SV.den]
  ·have hi0 : i = 0 := by have : i < 1 := hi; omega
   subst hi0
   rw [b1 0 (by omega) 0 hm0,k2 0 (by omega),hβ]
@[reducible] def w234.as : List Pat := [.fn 1000234 [(0,0)],.al 1 0]
@[reducible] def w234.bs : List Pat := [.fn 1000234 [(0,0)],.al 1 0,.fd .bool]
def w234.p : Pln := ⟨[(999998,⟨[[0,0,1,1,1],[0,1,1,1,1]],[1,2],2,⟨w234.as,wBx⟩⟩)],1,⟨[.al 0 0,.fn 1000234 [(0,0)]],[pbT]⟩,⟨[.fd (.int .i64)],[pbT]⟩,false,[],[]⟩
theorem w234.ok : plnOk En.Dop.D4 Tryz.prog 180 w234.p = true := by kernel_rfl
noncomputable def w234.k (m : MT) : Ctr En.Dop.D4 := ⟨234,1,⟨[.al 0 0],[pbT]⟩,⟨[.fd (.int .i64)],[pbT]⟩,false,.opt m⟩
noncomputable def w234.E (m : MT) : Env En.Dop.D4 := envOf Tryz.prog 180 Tryz.tb [Tryz.m142.c,w234.k m] w234.p
noncomputable def w234.c (m : MT) : Ctr En.Dop.D4 := ⟨180,1,⟨[.al 0 0,.fn 1000234 [(0,0)]],[pbT]⟩,⟨[.fd (.int .i64)],[pbT]⟩,false,.opt fun x => Tryz.within m x.2.1⟩
theorem w234.s5 (m : MT) (s : PS') : (segT (w234.E m) 3000 w5o ⟨w234.as,wBx⟩ ⟨w234.bs,wBx⟩ [1,2] [1,2,24] 2 (((),(),()),(s,((),()),()))).eval (fun _ _ => none) = some (((),(),(!decide (s.2.2.2.2.2.2.1 = 0)),()),(s,((),()),())) := by kernel_rfl
theorem w234.s6 (m : MT) (s : PS') (b : Bool) : (segT (w234.E m) 3000 w6o ⟨w234.bs,wBx⟩ ⟨[.fd (.int .i64)],wBx⟩ [1,2,24] [4] 2 (((),(),b,()),(s,((),()),()))).eval (fun _ _ => none) = some ((-1,()),(s,((),()),())) := by kernel_rfl
theorem w234.s7 (m : MT) (s : PS') (b : Bool) : (segT (w234.E m) 3000 w7o ⟨w234.bs,wBx⟩ ⟨[.fd (.int .i64)],wBx⟩ [1,2,24] [4] 2 (((),(),b,()),(s,((),()),()))).eval (fun _ _ => none) = (m (((),()),(s,()))).bind fun v => some ((v.1.1,()),(v.2.1,((),()),())) := by kernel_rfl
theorem w234.s0 (m : MT) (s : PS') (vs : List SV) (o : List (Nat × En.Own En.Dop.D4)) (n : Nat) (h : En.Spec.enc (S := En.Dop.D4) ⟨[.al 0 0,.fn 1000234 [(0,0)]],[pbT]⟩ (((),(),()),(s,())) 1 = (vs,o,n)) :
  (upT (w234.E m) 3000 ⟨w234.as,wBx⟩ [1,2] 1 2 999998 [[0,0,1,1,1],[0,1,1,1,1]] [.code [] (bodyOf Tryz.prog 180)] ⟨inSlots 0 vs,o,n,27⟩).eval (fun _ _ => none) =
  if inR (s.2.2.2.2.2.1 + 1) = true then
   if decide (100 < s.2.2.2.2.2.1 + 1) = true then
    (Tryz.m142 6 s.1 s.2.1 s.2.2.1 s.2.2.2.1 s.2.2.2.2.1 (s.2.2.2.2.2.1 + 1) s.2.2.2.2.2.2.1 s.2.2.2.2.2.2.2.1).bind fun y => some (((),(),()),(y.2.1,((),()),()))
   else some (((),(),()),(sD s (s.2.2.2.2.2.1 + 1),((),()),()))
  else none := by
 cases h
 kernel_rfl
theorem w234.tail {m : MT} (hE : (w234.E m).Ok Tryz.prog) {x : En.Spec.D En.Dop.D4 ⟨[.al 0 0,.fn 1000234 [(0,0)]],[pbT]⟩} {y : En.Spec.D En.Dop.D4 ⟨[.fd (.int .i64)],[pbT]⟩} {w : World} {D : Nat → Prop} {β : Nat → Nm} {o0 : List (Nat × En.Own En.Dop.D4)} (hkp : Keeps En.Dop.D4 w (blocksOf o0 β) D) {fn : Func} (hres : fn.results = #[.tmp 4]) {β2 : Nat → Nm} (hβ : β2 0 = β 0) {s : PS'} (hy : wTail m s = some y)
  {a : Act} {W : World} (hd : a.defers = []) (hh : Here En.Dop.D4 w (blocksOf o0 β) D ⟨w234.as,wBx⟩ [1,2] 2 β2 27 (((),(),()),(s,((),()),())) a W) :
  w4.wpIn Fence.wide 0 Tryz.prog (after Fence.wide Tryz.prog 0 [.code w5] (nPan (bodyPostD Tryz.prog fn (CPost (S := En.Dop.D4) (w234.c m) y w D β o0)))) a W := by
 have ht2 : a.tmps.getD 2 undef = .pointer (some ⟨(β2 1).blk,0,none⟩) := by
  obtain ⟨⟨D1,β1,vs,o,n,he,h1,h2,h3,h4,h5⟩,hsz⟩ := hh
  have hvs : vs = [.fn 1000234 [.ptr 0 0],.ptr 1 0] := by
   have h : En.Spec.enc (S := En.Dop.D4) ⟨w234.as,wBx⟩ (((),(),()),(s,((),()),())) 2 = ([.fn 1000234 [.ptr 0 0],.ptr 1 0],(En.Spec.enc (S := En.Dop.D4) ⟨w234.as,wBx⟩ (((),(),()),(s,((),()),())) 2).2.1,(En.Spec.enc (S := En.Dop.D4) ⟨w234.as,wBx⟩ (((),(),()),(s,((),()),())) 2).2.2) := by kernel_rfl
   rw [he] at h
   exact (Prod.mk.inj h).1
  subst hvs
  rw [(h5 1 2 _ rfl rfl).2,← h1 1 (by omega)]
  simp only [SV.den]
 obtain ⟨a1,a2,a3⟩ := w4a_op
 obtain ⟨b1,b2,b3⟩ := w4b_op
 have hsz := hh.sz
 rw [w4_eq]
 refine region_in (.inl rfl) ?_
 rw [w4o_eq]
 unfold wpList
 rw [if_pos (by simp [Region.wanted,a3])]
 refine .inl (wp_value (v := .func (.func 203) #[] #[.pointer (some ⟨(β2 1).blk,0,none⟩)]) (w' := W) ?_ ?_)
 ·simp [execOp,a1,Instr.makeFunc,Act.eval,← ht2]
 unfold wpList
 rw [if_pos (by simp [Region.wanted,b3])]
 refine .inl ?_
 have hex : (execOp (a.put w4a.dst (.func (.func 203) #[] #[.pointer (some ⟨(β2 1).blk,0,none⟩)])).eval w4b).run Tryz.prog W = .ok (.defer { target := .fn (.func 203) #[.pointer (some ⟨(β2 1).blk,0,none⟩)],args := #[] }) W := by
  have hev : (a.put w4a.dst (.func (.func 203) #[] #[.pointer (some ⟨(β2 1).blk,0,none⟩)])).eval (.tmp 19) = .func (.func 203) #[] #[.pointer (some ⟨(β2 1).blk,0,none⟩)] := by
   simp [Act.eval,Act.put,a2,Array.getD_eq_getD_getElem?,Array.getElem?_setIfInBounds,hsz]
  simp [execOp,b1,resolve,hev,Deferred.ofValue]
 unfold Oper.wp
 rw [hex,Oper.upon_defer,b2]
 simp only [wpList,after,Act.put,a2,hd]
 refine wpIn_wide.2 ?_
 rw [w5_eq]
 have hh2 : Here En.Dop.D4 w (blocksOf o0 β) D ⟨w234.as,wBx⟩ [1,2] 2 β2 27 (((),(),()),(s,((),()),())) { a.put (some 19) (.func (.func 203) #[] #[.pointer (some ⟨(β2 1).blk,0,none⟩)]) with defers := [{ target := .fn (.func 203) #[.pointer (some ⟨(β2 1).blk,0,none⟩)],args := #[] }] } W := hh.put (by decide)
 refine wp_seq (wp_seq (wp_region_list (seg_ok hE (by kernel_rfl) rfl (w234.s5 m s) hkp hh2 fun a3 W3 hd3 hh3 => ?_)))
 have ht24 : a3.eval (.tmp 24) = .bool (!decide (s.2.2.2.2.2.2.1 = 0)) := by
  obtain ⟨⟨D1,β1,vs,o,n,he,h1,h2,h3,h4,h5⟩,hsz⟩ := hh3
  have hvs : ∀ b : Bool,En.Spec.enc (S := En.Dop.D4) ⟨w234.bs,wBx⟩ (((),(),b,()),(s,((),()),())) 2 = ([.fn 1000234 [.ptr 0 0],.ptr 1 0,.b b],(En.Spec.enc (S := En.Dop.D4) ⟨w234.bs,wBx⟩ (((),(),b,()),(s,((),()),())) 2).2.1,(En.Spec.enc (S := En.Dop.D4) ⟨w234.bs,wBx⟩ (((),(),b,()),(s,((),()),())) 2).2.2) := fun b => by kernel_rfl
  have h := hvs (!decide (s.2.2.2.2.2.2.1 = 0))
  rw [he] at h
  have h := (Prod.mk.inj h).1
  subst h
  rw [show a3.eval (.tmp 24) = a3.tmps.getD 24 undef from rfl,(h5 2 24 _ rfl rfl).2]
  simp only [SV.den]
 unfold wTail at hy
 split at hy
 ·rename_i hb
  unfold wDec at hy
  split at hy
  case isFalse => cases hy
  rename_i hin
  cases hy
  refine wp_cond_true (by rw [ht24,hb]) (wp_seq (wp_region_list (seg_ok hE (by kernel_rfl) rfl (w234.s6 m s _) hkp hh3 fun a4 W4 hd4 hh4 => wp_ret ?_)))
  show Leaves _ _ _ _ _ _ _
  rw [hd4,hd3]
  exact w_ret hkp hres hβ hin hh4
 ·rename_i hb
  have hb : (!decide (s.2.2.2.2.2.2.1 = 0)) = false := by simpa using hb
  obtain ⟨v,hv,hy⟩ := Option.bind_eq_some_iff.1 hy
  unfold wDec at hy
  split at hy
  case isFalse => cases hy
  rename_i hin
  cases hy
  refine wp_cond_false (by rw [ht24,hb]) (wp_skip ?_)
  have h7 := w234.s7 m s (!decide (s.2.2.2.2.2.2.1 = 0))
  rw [hv] at h7
  refine wp_seq (wp_region_list (seg_ok hE (by kernel_rfl) rfl h7 hkp hh3 fun a4 W4 hd4 hh4 => wp_ret ?_))
  show Leaves _ _ _ _ _ _ _
  rw [hd4,hd3]
  exact w_ret hkp hres hβ hin hh4
theorem w234.holds {m : MT} (hm : (w234.k m).Holds Tryz.prog) : (w234.c m).Holds Tryz.prog := by
 obtain ⟨hE,hbod,hokB,fn,hf,hb,hn,hr⟩ := env_ok (p := w234.p) (ct := [Tryz.m142.c,w234.k m]) Tryz.tbOk (hct_cons Tryz.m142.holds (hct_cons hm hct_nil)) w234.ok
 have e1 : sizeOf' Tryz.prog 180 = 27 := by kernel_rfl
 have e2 : resOf' Tryz.prog 180 = [.tmp 4] := by kernel_rfl
 have hres : fn.results = #[.tmp 4] := by rw [e2] at hr; rw [← hr]
 refine ⟨hbod,hokB,fun h => (by cases h),fun x y hxy w D β vs o n he hg hon hn' hiv => ?_⟩
 have hxy : Tryz.within m x.2.1 = some y := hxy
 have hkp : Keeps En.Dop.D4 w (blocksOf o β) D := ⟨hiv,fun k hk => ⟨hg.dlt k hk,fun ⟨i,b,hi,hik⟩ => hg.off i b k hi hik hk⟩⟩
 have hlen : vs.length = 2 := En.Spec.enc_length he
 have hs0 := w234.s0 m x.2.1 vs o n he
 have key : ∀ s : PS',wTail m s = some y → (upT (w234.E m) 3000 ⟨w234.as,wBx⟩ [1,2] 1 2 999998 [[0,0,1,1,1],[0,1,1,1,1]] [.code [] (bodyOf Tryz.prog 180)] ⟨inSlots 0 vs,o,n,27⟩).eval (fun _ _ => none) = some (((),(),()),(s,((),()),())) → Calls Tryz.prog 180 (denL β vs).toArray w (CPost (w234.c m) y w D β o) := fun s hs hev =>
  VC.enterD (M := 0 + 3000) (bn := 1) hf hb (hn.trans e1) (by omega) hon hg (up_ok hE (k1 := [.code [0,1,1,1] w4,.code [1,1,1,1] w5]) (by kernel_rfl) (by kernel_rfl) (by omega) (k0 := [.code [] (bodyOf Tryz.prog 180)]) hev hkp (fun _ _ _ _ _ h => h) hn' rfl (fun z hz => by
   simp only [List.mem_cons,List.not_mem_nil,or_false] at hz
   subst hz; rfl) fun β2 a W hag hd hh => w234.tail (x := x) hE hkp hres (hag 0 (by omega)) hs hd hh)
 unfold Tryz.within at hxy
 split at hxy
 case isFalse => cases hxy
 rename_i h1
 rw [if_pos h1] at hs0
 split at hxy
 ·rename_i h2
  rw [if_pos h2] at hs0
  obtain ⟨z,hz,hy⟩ := Option.bind_eq_some_iff.1 hxy
  rw [hz] at hs0
  exact key _ hy hs0
 ·rename_i h2
  rw [if_neg h2] at hs0
  exact key _ hxy hs0
@[reducible] def w254.as : List Pat := [.fn 1000254 [(0,0)],.al 1 0]
@[reducible] def w254.bs : List Pat := [.fn 1000254 [(0,0)],.al 1 0,.fd .bool]
def w254.p : Pln := ⟨[(999998,⟨[[0,0,1,1,1],[0,1,1,1,1]],[1,2],2,⟨w254.as,wBx⟩⟩)],1,⟨[.al 0 0,.fn 1000254 [(0,0)]],[pbT]⟩,⟨[.fd (.int .i64)],[pbT]⟩,false,[],[]⟩
theorem w254.ok : plnOk En.Dop.D4 Tryz.prog 180 w254.p = true := by kernel_rfl
noncomputable def w254.k (m : MT) : Ctr En.Dop.D4 := ⟨254,1,⟨[.al 0 0],[pbT]⟩,⟨[.fd (.int .i64)],[pbT]⟩,false,.opt m⟩
noncomputable def w254.E (m : MT) : Env En.Dop.D4 := envOf Tryz.prog 180 Tryz.tb [Tryz.m142.c,w254.k m] w254.p
noncomputable def w254.c (m : MT) : Ctr En.Dop.D4 := ⟨180,1,⟨[.al 0 0,.fn 1000254 [(0,0)]],[pbT]⟩,⟨[.fd (.int .i64)],[pbT]⟩,false,.opt fun x => Tryz.within m x.2.1⟩
theorem w254.s5 (m : MT) (s : PS') : (segT (w254.E m) 3000 w5o ⟨w254.as,wBx⟩ ⟨w254.bs,wBx⟩ [1,2] [1,2,24] 2 (((),(),()),(s,((),()),()))).eval (fun _ _ => none) = some (((),(),(!decide (s.2.2.2.2.2.2.1 = 0)),()),(s,((),()),())) := by kernel_rfl
theorem w254.s6 (m : MT) (s : PS') (b : Bool) : (segT (w254.E m) 3000 w6o ⟨w254.bs,wBx⟩ ⟨[.fd (.int .i64)],wBx⟩ [1,2,24] [4] 2 (((),(),b,()),(s,((),()),()))).eval (fun _ _ => none) = some ((-1,()),(s,((),()),())) := by kernel_rfl
theorem w254.s7 (m : MT) (s : PS') (b : Bool) : (segT (w254.E m) 3000 w7o ⟨w254.bs,wBx⟩ ⟨[.fd (.int .i64)],wBx⟩ [1,2,24] [4] 2 (((),(),b,()),(s,((),()),()))).eval (fun _ _ => none) = (m (((),()),(s,()))).bind fun v => some ((v.1.1,()),(v.2.1,((),()),())) := by kernel_rfl
theorem w254.s0 (m : MT) (s : PS') (vs : List SV) (o : List (Nat × En.Own En.Dop.D4)) (n : Nat) (h : En.Spec.enc (S := En.Dop.D4) ⟨[.al 0 0,.fn 1000254 [(0,0)]],[pbT]⟩ (((),(),()),(s,())) 1 = (vs,o,n)) :
  (upT (w254.E m) 3000 ⟨w254.as,wBx⟩ [1,2] 1 2 999998 [[0,0,1,1,1],[0,1,1,1,1]] [.code [] (bodyOf Tryz.prog 180)] ⟨inSlots 0 vs,o,n,27⟩).eval (fun _ _ => none) =
  if inR (s.2.2.2.2.2.1 + 1) = true then
   if decide (100 < s.2.2.2.2.2.1 + 1) = true then
    (Tryz.m142 6 s.1 s.2.1 s.2.2.1 s.2.2.2.1 s.2.2.2.2.1 (s.2.2.2.2.2.1 + 1) s.2.2.2.2.2.2.1 s.2.2.2.2.2.2.2.1).bind fun y => some (((),(),()),(y.2.1,((),()),()))
   else some (((),(),()),(sD s (s.2.2.2.2.2.1 + 1),((),()),()))
  else none := by
 cases h
 kernel_rfl
theorem w254.tail {m : MT} (hE : (w254.E m).Ok Tryz.prog) {x : En.Spec.D En.Dop.D4 ⟨[.al 0 0,.fn 1000254 [(0,0)]],[pbT]⟩} {y : En.Spec.D En.Dop.D4 ⟨[.fd (.int .i64)],[pbT]⟩} {w : World} {D : Nat → Prop} {β : Nat → Nm} {o0 : List (Nat × En.Own En.Dop.D4)} (hkp : Keeps En.Dop.D4 w (blocksOf o0 β) D) {fn : Func} (hres : fn.results = #[.tmp 4]) {β2 : Nat → Nm} (hβ : β2 0 = β 0) {s : PS'} (hy : wTail m s = some y)
  {a : Act} {W : World} (hd : a.defers = []) (hh : Here En.Dop.D4 w (blocksOf o0 β) D ⟨w254.as,wBx⟩ [1,2] 2 β2 27 (((),(),()),(s,((),()),())) a W) :
  w4.wpIn Fence.wide 0 Tryz.prog (after Fence.wide Tryz.prog 0 [.code w5] (nPan (bodyPostD Tryz.prog fn (CPost (S := En.Dop.D4) (w254.c m) y w D β o0)))) a W := by
 have ht2 : a.tmps.getD 2 undef = .pointer (some ⟨(β2 1).blk,0,none⟩) := by
  obtain ⟨⟨D1,β1,vs,o,n,he,h1,h2,h3,h4,h5⟩,hsz⟩ := hh
  have hvs : vs = [.fn 1000254 [.ptr 0 0],.ptr 1 0] := by
   have h : En.Spec.enc (S := En.Dop.D4) ⟨w254.as,wBx⟩ (((),(),()),(s,((),()),())) 2 = ([.fn 1000254 [.ptr 0 0],.ptr 1 0],(En.Spec.enc (S := En.Dop.D4) ⟨w254.as,wBx⟩ (((),(),()),(s,((),()),())) 2).2.1,(En.Spec.enc (S := En.Dop.D4) ⟨w254.as,wBx⟩ (((),(),()),(s,((),()),())) 2).2.2) := by kernel_rfl
   rw [he] at h
   exact (Prod.mk.inj h).1
  subst hvs
  rw [(h5 1 2 _ rfl rfl).2,← h1 1 (by omega)]
  simp only [SV.den]
 obtain ⟨a1,a2,a3⟩ := w4a_op
 obtain ⟨b1,b2,b3⟩ := w4b_op
 have hsz := hh.sz
 rw [w4_eq]
 refine region_in (.inl rfl) ?_
 rw [w4o_eq]
 unfold wpList
 rw [if_pos (by simp [Region.wanted,a3])]
 refine .inl (wp_value (v := .func (.func 203) #[] #[.pointer (some ⟨(β2 1).blk,0,none⟩)]) (w' := W) ?_ ?_)
 ·simp [execOp,a1,Instr.makeFunc,Act.eval,← ht2]
 unfold wpList
 rw [if_pos (by simp [Region.wanted,b3])]
 refine .inl ?_
 have hex : (execOp (a.put w4a.dst (.func (.func 203) #[] #[.pointer (some ⟨(β2 1).blk,0,none⟩)])).eval w4b).run Tryz.prog W = .ok (.defer { target := .fn (.func 203) #[.pointer (some ⟨(β2 1).blk,0,none⟩)],args := #[] }) W := by
  have hev : (a.put w4a.dst (.func (.func 203) #[] #[.pointer (some ⟨(β2 1).blk,0,none⟩)])).eval (.tmp 19) = .func (.func 203) #[] #[.pointer (some ⟨(β2 1).blk,0,none⟩)] := by
   simp [Act.eval,Act.put,a2,Array.getD_eq_getD_getElem?,Array.getElem?_setIfInBounds,hsz]
  simp [execOp,b1,resolve,hev,Deferred.ofValue]
 unfold Oper.wp
 rw [hex,Oper.upon_defer,b2]
 simp only [wpList,after,Act.put,a2,hd]
 refine wpIn_wide.2 ?_
 rw [w5_eq]
 have hh2 : Here En.Dop.D4 w (blocksOf o0 β) D ⟨w254.as,wBx⟩ [1,2] 2 β2 27 (((),(),()),(s,((),()),())) { a.put (some 19) (.func (.func 203) #[] #[.pointer (some ⟨(β2 1).blk,0,none⟩)]) with defers := [{ target := .fn (.func 203) #[.pointer (some ⟨(β2 1).blk,0,none⟩)],args := #[] }] } W := hh.put (by decide)
 refine wp_seq (wp_seq (wp_region_list (seg_ok hE (by kernel_rfl) rfl (w254.s5 m s) hkp hh2 fun a3 W3 hd3 hh3 => ?_)))
 have ht24 : a3.eval (.tmp 24) = .bool (!decide (s.2.2.2.2.2.2.1 = 0)) := by
  obtain ⟨⟨D1,β1,vs,o,n,he,h1,h2,h3,h4,h5⟩,hsz⟩ := hh3
  have hvs : ∀ b : Bool,En.Spec.enc (S := En.Dop.D4) ⟨w254.bs,wBx⟩ (((),(),b,()),(s,((),()),())) 2 = ([.fn 1000254 [.ptr 0 0],.ptr 1 0,.b b],(En.Spec.enc (S := En.Dop.D4) ⟨w254.bs,wBx⟩ (((),(),b,()),(s,((),()),())) 2).2.1,(En.Spec.enc (S := En.Dop.D4) ⟨w254.bs,wBx⟩ (((),(),b,()),(s,((),()),())) 2).2.2) := fun b => by kernel_rfl
  have h := hvs (!decide (s.2.2.2.2.2.2.1 = 0))
  rw [he] at h
  have h := (Prod.mk.inj h).1
  subst h
  rw [show a3.eval (.tmp 24) = a3.tmps.getD 24 undef from rfl,(h5 2 24 _ rfl rfl).2]
  simp only [SV.den]
 unfold wTail at hy
 split at hy
 ·rename_i hb
  unfold wDec at hy
  split at hy
  case isFalse => cases hy
  rename_i hin
  cases hy
  refine wp_cond_true (by rw [ht24,hb]) (wp_seq (wp_region_list (seg_ok hE (by kernel_rfl) rfl (w254.s6 m s _) hkp hh3 fun a4 W4 hd4 hh4 => wp_ret ?_)))
  show Leaves _ _ _ _ _ _ _
  rw [hd4,hd3]
  exact w_ret hkp hres hβ hin hh4
 ·rename_i hb
  have hb : (!decide (s.2.2.2.2.2.2.1 = 0)) = false := by simpa using hb
  obtain ⟨v,hv,hy⟩ := Option.bind_eq_some_iff.1 hy
  unfold wDec at hy
  split at hy
  case isFalse => cases hy
  rename_i hin
  cases hy
  refine wp_cond_false (by rw [ht24,hb]) (wp_skip ?_)
  have h7 := w254.s7 m s (!decide (s.2.2.2.2.2.2.1 = 0))
  rw [hv] at h7
  refine wp_seq (wp_region_list (seg_ok hE (by kernel_rfl) rfl h7 hkp hh3 fun a4 W4 hd4 hh4 => wp_ret ?_))
  show Leaves _ _ _ _ _ _ _
  rw [hd4,hd3]
  exact w_ret hkp hres hβ hin hh4
theorem w254.holds {m : MT} (hm : (w254.k m).Holds Tryz.prog) : (w254.c m).Holds Tryz.prog := by
 obtain ⟨hE,hbod,hokB,fn,hf,hb,hn,hr⟩ := env_ok (p := w254.p) (ct := [Tryz.m142.c,w254.k m]) Tryz.tbOk (hct_cons Tryz.m142.holds (hct_cons hm hct_nil)) w254.ok
 have e1 : sizeOf' Tryz.prog 180 = 27 := by kernel_rfl
 have e2 : resOf' Tryz.prog 180 = [.tmp 4] := by kernel_rfl
 have hres : fn.results = #[.tmp 4] := by rw [e2] at hr; rw [← hr]
 refine ⟨hbod,hokB,fun h => (by cases h),fun x y hxy w D β vs o n he hg hon hn' hiv => ?_⟩
 have hxy : Tryz.within m x.2.1 = some y := hxy
 have hkp : Keeps En.Dop.D4 w (blocksOf o β) D := ⟨hiv,fun k hk => ⟨hg.dlt k hk,fun ⟨i,b,hi,hik⟩ => hg.off i b k hi hik hk⟩⟩
 have hlen : vs.length = 2 := En.Spec.enc_length he
 have hs0 := w254.s0 m x.2.1 vs o n he
 have key : ∀ s : PS',wTail m s = some y → (upT (w254.E m) 3000 ⟨w254.as,wBx⟩ [1,2] 1 2 999998 [[0,0,1,1,1],[0,1,1,1,1]] [.code [] (bodyOf Tryz.prog 180)] ⟨inSlots 0 vs,o,n,27⟩).eval (fun _ _ => none) = some (((),(),()),(s,((),()),())) → Calls Tryz.prog 180 (denL β vs).toArray w (CPost (w254.c m) y w D β o) := fun s hs hev =>
  VC.enterD (M := 0 + 3000) (bn := 1) hf hb (hn.trans e1) (by omega) hon hg (up_ok hE (k1 := [.code [0,1,1,1] w4,.code [1,1,1,1] w5]) (by kernel_rfl) (by kernel_rfl) (by omega) (k0 := [.code [] (bodyOf Tryz.prog 180)]) hev hkp (fun _ _ _ _ _ h => h) hn' rfl (fun z hz => by
   simp only [List.mem_cons,List.not_mem_nil,or_false] at hz
   subst hz; rfl) fun β2 a W hag hd hh => w254.tail (x := x) hE hkp hres (hag 0 (by omega)) hs hd hh)
 unfold Tryz.within at hxy
 split at hxy
 case isFalse => cases hxy
 rename_i h1
 rw [if_pos h1] at hs0
 split at hxy
 ·rename_i h2
  rw [if_pos h2] at hs0
  obtain ⟨z,hz,hy⟩ := Option.bind_eq_some_iff.1 hxy
  rw [hz] at hs0
  exact key _ hy hs0
 ·rename_i h2
  rw [if_neg h2] at hs0
  exact key _ hxy hs0
@[reducible] def w263.as : List Pat := [.fn 1000263 [(0,0)],.al 1 0]
@[reducible] def w263.bs : List Pat := [.fn 1000263 [(0,0)],.al 1 0,.fd .bool]
def w263.p : Pln := ⟨[(999998,⟨[[0,0,1,1,1],[0,1,1,1,1]],[1,2],2,⟨w263.as,wBx⟩⟩)],1,⟨[.al 0 0,.fn 1000263 [(0,0)]],[pbT]⟩,⟨[.fd (.int .i64)],[pbT]⟩,false,[],[]⟩
theorem w263.ok : plnOk En.Dop.D4 Tryz.prog 180 w263.p = true := by kernel_rfl
noncomputable def w263.k (m : MT) : Ctr En.Dop.D4 := ⟨263,1,⟨[.al 0 0],[pbT]⟩,⟨[.fd (.int .i64)],[pbT]⟩,false,.opt m⟩
noncomputable def w263.E (m : MT) : Env En.Dop.D4 := envOf Tryz.prog 180 Tryz.tb [Tryz.m142.c,w263.k m] w263.p
noncomputable def w263.c (m : MT) : Ctr En.Dop.D4 := ⟨180,1,⟨[.al 0 0,.fn 1000263 [(0,0)]],[pbT]⟩,⟨[.fd (.int .i64)],[pbT]⟩,false,.opt fun x => Tryz.within m x.2.1⟩
theorem w263.s5 (m : MT) (s : PS') : (segT (w263.E m) 3000 w5o ⟨w263.as,wBx⟩ ⟨w263.bs,wBx⟩ [1,2] [1,2,24] 2 (((),(),()),(s,((),()),()))).eval (fun _ _ => none) = some (((),(),(!decide (s.2.2.2.2.2.2.1 = 0)),()),(s,((),()),())) := by kernel_rfl
theorem w263.s6 (m : MT) (s : PS') (b : Bool) : (segT (w263.E m) 3000 w6o ⟨w263.bs,wBx⟩ ⟨[.fd (.int .i64)],wBx⟩ [1,2,24] [4] 2 (((),(),b,()),(s,((),()),()))).eval (fun _ _ => none) = some ((-1,()),(s,((),()),())) := by kernel_rfl
theorem w263.s7 (m : MT) (s : PS') (b : Bool) : (segT (w263.E m) 3000 w7o ⟨w263.bs,wBx⟩ ⟨[.fd (.int .i64)],wBx⟩ [1,2,24] [4] 2 (((),(),b,()),(s,((),()),()))).eval (fun _ _ => none) = (m (((),()),(s,()))).bind fun v => some ((v.1.1,()),(v.2.1,((),()),())) := by kernel_rfl
theorem w263.s0 (m : MT) (s : PS') (vs : List SV) (o : List (Nat × En.Own En.Dop.D4)) (n : Nat) (h : En.Spec.enc (S := En.Dop.D4) ⟨[.al 0 0,.fn 1000263 [(0,0)]],[pbT]⟩ (((),(),()),(s,())) 1 = (vs,o,n)) :
  (upT (w263.E m) 3000 ⟨w263.as,wBx⟩ [1,2] 1 2 999998 [[0,0,1,1,1],[0,1,1,1,1]] [.code [] (bodyOf Tryz.prog 180)] ⟨inSlots 0 vs,o,n,27⟩).eval (fun _ _ => none) =
  if inR (s.2.2.2.2.2.1 + 1) = true then
   if decide (100 < s.2.2.2.2.2.1 + 1) = true then
    (Tryz.m142 6 s.1 s.2.1 s.2.2.1 s.2.2.2.1 s.2.2.2.2.1 (s.2.2.2.2.2.1 + 1) s.2.2.2.2.2.2.1 s.2.2.2.2.2.2.2.1).bind fun y => some (((),(),()),(y.2.1,((),()),()))
   else some (((),(),()),(sD s (s.2.2.2.2.2.1 + 1),((),()),()))
  else none := by
 cases h
 kernel_rfl
theorem w263.tail {m : MT} (hE : (w263.E m).Ok Tryz.prog) {x : En.Spec.D En.Dop.D4 ⟨[.al 0 0,.fn 1000263 [(0,0)]],[pbT]⟩} {y : En.Spec.D En.Dop.D4 ⟨[.fd (.int .i64)],[pbT]⟩} {w : World} {D : Nat → Prop} {β : Nat → Nm} {o0 : List (Nat × En.Own En.Dop.D4)} (hkp : Keeps En.Dop.D4 w (blocksOf o0 β) D) {fn : Func} (hres : fn.results = #[.tmp 4]) {β2 : Nat → Nm} (hβ : β2 0 = β 0) {s : PS'} (hy : wTail m s = some y)
  {a : Act} {W : World} (hd : a.defers = []) (hh : Here En.Dop.D4 w (blocksOf o0 β) D ⟨w263.as,wBx⟩ [1,2] 2 β2 27 (((),(),()),(s,((),()),())) a W) :
  w4.wpIn Fence.wide 0 Tryz.prog (after Fence.wide Tryz.prog 0 [.code w5] (nPan (bodyPostD Tryz.prog fn (CPost (S := En.Dop.D4) (w263.c m) y w D β o0)))) a W := by
 have ht2 : a.tmps.getD 2 undef = .pointer (some ⟨(β2 1).blk,0,none⟩) := by
  obtain ⟨⟨D1,β1,vs,o,n,he,h1,h2,h3,h4,h5⟩,hsz⟩ := hh
  have hvs : vs = [.fn 1000263 [.ptr 0 0],.ptr 1 0] := by
   have h : En.Spec.enc (S := En.Dop.D4) ⟨w263.as,wBx⟩ (((),(),()),(s,((),()),())) 2 = ([.fn 1000263 [.ptr 0 0],.ptr 1 0],(En.Spec.enc (S := En.Dop.D4) ⟨w263.as,wBx⟩ (((),(),()),(s,((),()),())) 2).2.1,(En.Spec.enc (S := En.Dop.D4) ⟨w263.as,wBx⟩ (((),(),()),(s,((),()),())) 2).2.2) := by kernel_rfl
   rw [he] at h
   exact (Prod.mk.inj h).1
  subst hvs
  rw [(h5 1 2 _ rfl rfl).2,← h1 1 (by omega)]
  simp only [SV.den]
 obtain ⟨a1,a2,a3⟩ := w4a_op
 obtain ⟨b1,b2,b3⟩ := w4b_op
 have hsz := hh.sz
 rw [w4_eq]
 refine region_in (.inl rfl) ?_
 rw [w4o_eq]
 unfold wpList
 rw [if_pos (by simp [Region.wanted,a3])]
 refine .inl (wp_value (v := .func (.func 203) #[] #[.pointer (some ⟨(β2 1).blk,0,none⟩)]) (w' := W) ?_ ?_)
 ·simp [execOp,a1,Instr.makeFunc,Act.eval,← ht2]
 unfold wpList
 rw [if_pos (by simp [Region.wanted,b3])]
 refine .inl ?_
 have hex : (execOp (a.put w4a.dst (.func (.func 203) #[] #[.pointer (some ⟨(β2 1).blk,0,none⟩)])).eval w4b).run Tryz.prog W = .ok (.defer { target := .fn (.func 203) #[.pointer (some ⟨(β2 1).blk,0,none⟩)],args := #[] }) W := by
  have hev : (a.put w4a.dst (.func (.func 203) #[] #[.pointer (some ⟨(β2 1).blk,0,none⟩)])).eval (.tmp 19) = .func (.func 203) #[] #[.pointer (some ⟨(β2 1).blk,0,none⟩)] := by
   simp [Act.eval,Act.put,a2,Array.getD_eq_getD_getElem?,Array.getElem?_setIfInBounds,hsz]
  simp [execOp,b1,resolve,hev,Deferred.ofValue]
 unfold Oper.wp
 rw [hex,Oper.upon_defer,b2]
 simp only [wpList,after,Act.put,a2,hd]
 refine wpIn_wide.2 ?_
 rw [w5_eq]
 have hh2 : Here En.Dop.D4 w (blocksOf o0 β) D ⟨w263.as,wBx⟩ [1,2] 2 β2 27 (((),(),()),(s,((),()),())) { a.put (some 19) (.func (.func 203) #[] #[.pointer (some ⟨(β2 1).blk,0,none⟩)]) with defers := [{ target := .fn (.func 203) #[.pointer (some ⟨(β2 1).blk,0,none⟩)],args := #[] }] } W := hh.put (by decide)
 refine wp_seq (wp_seq (wp_region_list (seg_ok hE (by kernel_rfl) rfl (w263.s5 m s) hkp hh2 fun a3 W3 hd3 hh3 => ?_)))
 have ht24 : a3.eval (.tmp 24) = .bool (!decide (s.2.2.2.2.2.2.1 = 0)) := by
  obtain ⟨⟨D1,β1,vs,o,n,he,h1,h2,h3,h4,h5⟩,hsz⟩ := hh3
  have hvs : ∀ b : Bool,En.Spec.enc (S := En.Dop.D4) ⟨w263.bs,wBx⟩ (((),(),b,()),(s,((),()),())) 2 = ([.fn 1000263 [.ptr 0 0],.ptr 1 0,.b b],(En.Spec.enc (S := En.Dop.D4) ⟨w263.bs,wBx⟩ (((),(),b,()),(s,((),()),())) 2).2.1,(En.Spec.enc (S := En.Dop.D4) ⟨w263.bs,wBx⟩ (((),(),b,()),(s,((),()),())) 2).2.2) := fun b => by kernel_rfl
  have h := hvs (!decide (s.2.2.2.2.2.2.1 = 0))
  rw [he] at h
  have h := (Prod.mk.inj h).1
  subst h
  rw [show a3.eval (.tmp 24) = a3.tmps.getD 24 undef from rfl,(h5 2 24 _ rfl rfl).2]
  simp only [SV.den]
 unfold wTail at hy
 split at hy
 ·rename_i hb
  unfold wDec at hy
  split at hy
  case isFalse => cases hy
  rename_i hin
  cases hy
  refine wp_cond_true (by rw [ht24,hb]) (wp_seq (wp_region_list (seg_ok hE (by kernel_rfl) rfl (w263.s6 m s _) hkp hh3 fun a4 W4 hd4 hh4 => wp_ret ?_)))
  show Leaves _ _ _ _ _ _ _
  rw [hd4,hd3]
  exact w_ret hkp hres hβ hin hh4
 ·rename_i hb
  have hb : (!decide (s.2.2.2.2.2.2.1 = 0)) = false := by simpa using hb
  obtain ⟨v,hv,hy⟩ := Option.bind_eq_some_iff.1 hy
  unfold wDec at hy
  split at hy
  case isFalse => cases hy
  rename_i hin
  cases hy
  refine wp_cond_false (by rw [ht24,hb]) (wp_skip ?_)
  have h7 := w263.s7 m s (!decide (s.2.2.2.2.2.2.1 = 0))
  rw [hv] at h7
  refine wp_seq (wp_region_list (seg_ok hE (by kernel_rfl) rfl h7 hkp hh3 fun a4 W4 hd4 hh4 => wp_ret ?_))
  show Leaves _ _ _ _ _ _ _
  rw [hd4,hd3]
  exact w_ret hkp hres hβ hin hh4
theorem w263.holds {m : MT} (hm : (w263.k m).Holds Tryz.prog) : (w263.c m).Holds Tryz.prog := by
 obtain ⟨hE,hbod,hokB,fn,hf,hb,hn,hr⟩ := env_ok (p := w263.p) (ct := [Tryz.m142.c,w263.k m]) Tryz.tbOk (hct_cons Tryz.m142.holds (hct_cons hm hct_nil)) w263.ok
 have e1 : sizeOf' Tryz.prog 180 = 27 := by kernel_rfl
 have e2 : resOf' Tryz.prog 180 = [.tmp 4] := by kernel_rfl
 have hres : fn.results = #[.tmp 4] := by rw [e2] at hr; rw [← hr]
 refine ⟨hbod,hokB,fun h => (by cases h),fun x y hxy w D β vs o n he hg hon hn' hiv => ?_⟩
 have hxy : Tryz.within m x.2.1 = some y := hxy
 have hkp : Keeps En.Dop.D4 w (blocksOf o β) D := ⟨hiv,fun k hk => ⟨hg.dlt k hk,fun ⟨i,b,hi,hik⟩ => hg.off i b k hi hik hk⟩⟩
 have hlen : vs.length = 2 := En.Spec.enc_length he
 have hs0 := w263.s0 m x.2.1 vs o n he
 have key : ∀ s : PS',wTail m s = some y → (upT (w263.E m) 3000 ⟨w263.as,wBx⟩ [1,2] 1 2 999998 [[0,0,1,1,1],[0,1,1,1,1]] [.code [] (bodyOf Tryz.prog 180)] ⟨inSlots 0 vs,o,n,27⟩).eval (fun _ _ => none) = some (((),(),()),(s,((),()),())) → Calls Tryz.prog 180 (denL β vs).toArray w (CPost (w263.c m) y w D β o) := fun s hs hev =>
  VC.enterD (M := 0 + 3000) (bn := 1) hf hb (hn.trans e1) (by omega) hon hg (up_ok hE (k1 := [.code [0,1,1,1] w4,.code [1,1,1,1] w5]) (by kernel_rfl) (by kernel_rfl) (by omega) (k0 := [.code [] (bodyOf Tryz.prog 180)]) hev hkp (fun _ _ _ _ _ h => h) hn' rfl (fun z hz => by
   simp only [List.mem_cons,List.not_mem_nil,or_false] at hz
   subst hz; rfl) fun β2 a W hag hd hh => w263.tail (x := x) hE hkp hres (hag 0 (by omega)) hs hd hh)
 unfold Tryz.within at hxy
 split at hxy
 case isFalse => cases hxy
 rename_i h1
 rw [if_pos h1] at hs0
 split at hxy
 ·rename_i h2
  rw [if_pos h2] at hs0
  obtain ⟨z,hz,hy⟩ := Option.bind_eq_some_iff.1 hxy
  rw [hz] at hs0
  exact key _ hy hs0
 ·rename_i h2
  rw [if_neg h2] at hs0
  exact key _ hxy hs0
@[reducible] def w181.as : List Pat := [.fn 1000181 [(0,0)],.al 1 0]
@[reducible] def w181.bs : List Pat := [.fn 1000181 [(0,0)],.al 1 0,.fd .bool]
def w181.p : Pln := ⟨[(999998,⟨[[0,0,1,1,1],[0,1,1,1,1]],[1,2],2,⟨w181.as,wBx⟩⟩)],1,⟨[.al 0 0,.fn 1000181 [(0,0)]],[pbT]⟩,⟨[.fd (.int .i64)],[pbT]⟩,false,[],[]⟩
theorem w181.ok : plnOk En.Dop.D4 Tryz.prog 180 w181.p = true := by kernel_rfl
noncomputable def w181.k (m : MT) : Ctr En.Dop.D4 := ⟨181,1,⟨[.al 0 0],[pbT]⟩,⟨[.fd (.int .i64)],[pbT]⟩,false,.opt m⟩
noncomputable def w181.E (m : MT) : Env En.Dop.D4 := envOf Tryz.prog 180 Tryz.tb [Tryz.m142.c,w181.k m] w181.p
noncomputable def w181.c (m : MT) : Ctr En.Dop.D4 := ⟨180,1,⟨[.al 0 0,.fn 1000181 [(0,0)]],[pbT]⟩,⟨[.fd (.int .i64)],[pbT]⟩,false,.opt fun x => Tryz.within m x.2.1⟩
theorem w181.s5 (m : MT) (s : PS') : (segT (w181.E m) 3000 w5o ⟨w181.as,wBx⟩ ⟨w181.bs,wBx⟩ [1,2] [1,2,24] 2 (((),(),()),(s,((),()),()))).eval (fun _ _ => none) = some (((),(),(!decide (s.2.2.2.2.2.2.1 = 0)),()),(s,((),()),())) := by kernel_rfl
theorem w181.s6 (m : MT) (s : PS') (b : Bool) : (segT (w181.E m) 3000 w6o ⟨w181.bs,wBx⟩ ⟨[.fd (.int .i64)],wBx⟩ [1,2,24] [4] 2 (((),(),b,()),(s,((),()),()))).eval (fun _ _ => none) = some ((-1,()),(s,((),()),())) := by kernel_rfl
theorem w181.s7 (m : MT) (s : PS') (b : Bool) : (segT (w181.E m) 3000 w7o ⟨w181.bs,wBx⟩ ⟨[.fd (.int .i64)],wBx⟩ [1,2,24] [4] 2 (((),(),b,()),(s,((),()),()))).eval (fun _ _ => none) = (m (((),()),(s,()))).bind fun v => some ((v.1.1,()),(v.2.1,((),()),())) := by kernel_rfl
theorem w181.s0 (m : MT) (s : PS') (vs : List SV) (o : List (Nat × En.Own En.Dop.D4)) (n : Nat) (h : En.Spec.enc (S := En.Dop.D4) ⟨[.al 0 0,.fn 1000181 [(0,0)]],[pbT]⟩ (((),(),()),(s,())) 1 = (vs,o,n)) :
  (upT (w181.E m) 3000 ⟨w181.as,wBx⟩ [1,2] 1 2 999998 [[0,0,1,1,1],[0,1,1,1,1]] [.code [] (bodyOf Tryz.prog 180)] ⟨inSlots 0 vs,o,n,27⟩).eval (fun _ _ => none) =
  if inR (s.2.2.2.2.2.1 + 1) = true then
   if decide (100 < s.2.2.2.2.2.1 + 1) = true then
    (Tryz.m142 6 s.1 s.2.1 s.2.2.1 s.2.2.2.1 s.2.2.2.2.1 (s.2.2.2.2.2.1 + 1) s.2.2.2.2.2.2.1 s.2.2.2.2.2.2.2.1).bind fun y => some (((),(),()),(y.2.1,((),()),()))
   else some (((),(),()),(sD s (s.2.2.2.2.2.1 + 1),((),()),()))
  else none := by
 cases h
 kernel_rfl
theorem w181.tail {m : MT} (hE : (w181.E m).Ok Tryz.prog) {x : En.Spec.D En.Dop.D4 ⟨[.al 0 0,.fn 1000181 [(0,0)]],[pbT]⟩} {y : En.Spec.D En.Dop.D4 ⟨[.fd (.int .i64)],[pbT]⟩} {w : World} {D : Nat → Prop} {β : Nat → Nm} {o0 : List (Nat × En.Own En.Dop.D4)} (hkp : Keeps En.Dop.D4 w (blocksOf o0 β) D) {fn : Func} (hres : fn.results = #[.tmp 4]) {β2 : Nat → Nm} (hβ : β2 0 = β 0) {s : PS'} (hy : wTail m s = some y)
  {a : Act} {W : World} (hd : a.defers = []) (hh : Here En.Dop.D4 w (blocksOf o0 β) D ⟨w181.as,wBx⟩ [1,2] 2 β2 27 (((),(),()),(s,((),()),())) a W) :
  w4.wpIn Fence.wide 0 Tryz.prog (after Fence.wide Tryz.prog 0 [.code w5] (nPan (bodyPostD Tryz.prog fn (CPost (S := En.Dop.D4) (w181.c m) y w D β o0)))) a W := by
 have ht2 : a.tmps.getD 2 undef = .pointer (some ⟨(β2 1).blk,0,none⟩) := by
  obtain ⟨⟨D1,β1,vs,o,n,he,h1,h2,h3,h4,h5⟩,hsz⟩ := hh
  have hvs : vs = [.fn 1000181 [.ptr 0 0],.ptr 1 0] := by
   have h : En.Spec.enc (S := En.Dop.D4) ⟨w181.as,wBx⟩ (((),(),()),(s,((),()),())) 2 = ([.fn 1000181 [.ptr 0 0],.ptr 1 0],(En.Spec.enc (S := En.Dop.D4) ⟨w181.as,wBx⟩ (((),(),()),(s,((),()),())) 2).2.1,(En.Spec.enc (S := En.Dop.D4) ⟨w181.as,wBx⟩ (((),(),()),(s,((),()),())) 2).2.2) := by kernel_rfl
   rw [he] at h
   exact (Prod.mk.inj h).1
  subst hvs
  rw [(h5 1 2 _ rfl rfl).2,← h1 1 (by omega)]
  simp only [SV.den]
 obtain ⟨a1,a2,a3⟩ := w4a_op
 obtain ⟨b1,b2,b3⟩ := w4b_op
 have hsz := hh.sz
 rw [w4_eq]
 refine region_in (.inl rfl) ?_
 rw [w4o_eq]
 unfold wpList
 rw [if_pos (by simp [Region.wanted,a3])]
 refine .inl (wp_value (v := .func (.func 203) #[] #[.pointer (some ⟨(β2 1).blk,0,none⟩)]) (w' := W) ?_ ?_)
 ·simp [execOp,a1,Instr.makeFunc,Act.eval,← ht2]
 unfold wpList
 rw [if_pos (by simp [Region.wanted,b3])]
 refine .inl ?_
 have hex : (execOp (a.put w4a.dst (.func (.func 203) #[] #[.pointer (some ⟨(β2 1).blk,0,none⟩)])).eval w4b).run Tryz.prog W = .ok (.defer { target := .fn (.func 203) #[.pointer (some ⟨(β2 1).blk,0,none⟩)],args := #[] }) W := by
  have hev : (a.put w4a.dst (.func (.func 203) #[] #[.pointer (some ⟨(β2 1).blk,0,none⟩)])).eval (.tmp 19) = .func (.func 203) #[] #[.pointer (some ⟨(β2 1).blk,0,none⟩)] := by
   simp [Act.eval,Act.put,a2,Array.getD_eq_getD_getElem?,Array.getElem?_setIfInBounds,hsz]
  simp [execOp,b1,resolve,hev,Deferred.ofValue]
 unfold Oper.wp
 rw [hex,Oper.upon_defer,b2]
 simp only [wpList,after,Act.put,a2,hd]
 refine wpIn_wide.2 ?_
 rw [w5_eq]
 have hh2 : Here En.Dop.D4 w (blocksOf o0 β) D ⟨w181.as,wBx⟩ [1,2] 2 β2 27 (((),(),()),(s,((),()),())) { a.put (some 19) (.func (.func 203) #[] #[.pointer (some ⟨(β2 1).blk,0,none⟩)]) with defers := [{ target := .fn (.func 203) #[.pointer (some ⟨(β2 1).blk,0,none⟩)],args := #[] }] } W := hh.put (by decide)
 refine wp_seq (wp_seq (wp_region_list (seg_ok hE (by kernel_rfl) rfl (w181.s5 m s) hkp hh2 fun a3 W3 hd3 hh3 => ?_)))
 have ht24 : a3.eval (.tmp 24) = .bool (!decide (s.2.2.2.2.2.2.1 = 0)) := by
  obtain ⟨⟨D1,β1,vs,o,n,he,h1,h2,h3,h4,h5⟩,hsz⟩ := hh3
  have hvs : ∀ b : Bool,En.Spec.enc (S := En.Dop.D4) ⟨w181.bs,wBx⟩ (((),(),b,()),(s,((),()),())) 2 = ([.fn 1000181 [.ptr 0 0],.ptr 1 0,.b b],(En.Spec.enc (S := En.Dop.D4) ⟨w181.bs,wBx⟩ (((),(),b,()),(s,((),()),())) 2).2.1,(En.Spec.enc (S := En.Dop.D4) ⟨w181.bs,wBx⟩ (((),(),b,()),(s,((),()),())) 2).2.2) := fun b => by kernel_rfl
  have h := hvs (!decide (s.2.2.2.2.2.2.1 = 0))
  rw [he] at h
  have h := (Prod.mk.inj h).1
  subst h
  rw [show a3.eval (.tmp 24) = a3.tmps.getD 24 undef from rfl,(h5 2 24 _ rfl rfl).2]
  simp only [SV.den]
 unfold wTail at hy
 split at hy
 ·rename_i hb
  unfold wDec at hy
  split at hy
  case isFalse => cases hy
  rename_i hin
  cases hy
  refine wp_cond_true (by rw [ht24,hb]) (wp_seq (wp_region_list (seg_ok hE (by kernel_rfl) rfl (w181.s6 m s _) hkp hh3 fun a4 W4 hd4 hh4 => wp_ret ?_)))
  show Leaves _ _ _ _ _ _ _
  rw [hd4,hd3]
  exact w_ret hkp hres hβ hin hh4
 ·rename_i hb
  have hb : (!decide (s.2.2.2.2.2.2.1 = 0)) = false := by simpa using hb
  obtain ⟨v,hv,hy⟩ := Option.bind_eq_some_iff.1 hy
  unfold wDec at hy
  split at hy
  case isFalse => cases hy
  rename_i hin
  cases hy
  refine wp_cond_false (by rw [ht24,hb]) (wp_skip ?_)
  have h7 := w181.s7 m s (!decide (s.2.2.2.2.2.2.1 = 0))
  rw [hv] at h7
  refine wp_seq (wp_region_list (seg_ok hE (by kernel_rfl) rfl h7 hkp hh3 fun a4 W4 hd4 hh4 => wp_ret ?_))
  show Leaves _ _ _ _ _ _ _
  rw [hd4,hd3]
  exact w_ret hkp hres hβ hin hh4
theorem w181.holds {m : MT} (hm : (w181.k m).Holds Tryz.prog) : (w181.c m).Holds Tryz.prog := by
 obtain ⟨hE,hbod,hokB,fn,hf,hb,hn,hr⟩ := env_ok (p := w181.p) (ct := [Tryz.m142.c,w181.k m]) Tryz.tbOk (hct_cons Tryz.m142.holds (hct_cons hm hct_nil)) w181.ok
 have e1 : sizeOf' Tryz.prog 180 = 27 := by kernel_rfl
 have e2 : resOf' Tryz.prog 180 = [.tmp 4] := by kernel_rfl
 have hres : fn.results = #[.tmp 4] := by rw [e2] at hr; rw [← hr]
 refine ⟨hbod,hokB,fun h => (by cases h),fun x y hxy w D β vs o n he hg hon hn' hiv => ?_⟩
 have hxy : Tryz.within m x.2.1 = some y := hxy
 have hkp : Keeps En.Dop.D4 w (blocksOf o β) D := ⟨hiv,fun k hk => ⟨hg.dlt k hk,fun ⟨i,b,hi,hik⟩ => hg.off i b k hi hik hk⟩⟩
 have hlen : vs.length = 2 := En.Spec.enc_length he
 have hs0 := w181.s0 m x.2.1 vs o n he
 have key : ∀ s : PS',wTail m s = some y → (upT (w181.E m) 3000 ⟨w181.as,wBx⟩ [1,2] 1 2 999998 [[0,0,1,1,1],[0,1,1,1,1]] [.code [] (bodyOf Tryz.prog 180)] ⟨inSlots 0 vs,o,n,27⟩).eval (fun _ _ => none) = some (((),(),()),(s,((),()),())) → Calls Tryz.prog 180 (denL β vs).toArray w (CPost (w181.c m) y w D β o) := fun s hs hev =>
  VC.enterD (M := 0 + 3000) (bn := 1) hf hb (hn.trans e1) (by omega) hon hg (up_ok hE (k1 := [.code [0,1,1,1] w4,.code [1,1,1,1] w5]) (by kernel_rfl) (by kernel_rfl) (by omega) (k0 := [.code [] (bodyOf Tryz.prog 180)]) hev hkp (fun _ _ _ _ _ h => h) hn' rfl (fun z hz => by
   simp only [List.mem_cons,List.not_mem_nil,or_false] at hz
   subst hz; rfl) fun β2 a W hag hd hh => w181.tail (x := x) hE hkp hres (hag 0 (by omega)) hs hd hh)
 unfold Tryz.within at hxy
 split at hxy
 case isFalse => cases hxy
 rename_i h1
 rw [if_pos h1] at hs0
 split at hxy
 ·rename_i h2
  rw [if_pos h2] at hs0
  obtain ⟨z,hz,hy⟩ := Option.bind_eq_some_iff.1 hxy
  rw [hz] at hs0
  exact key _ hy hs0
 ·rename_i h2
  rw [if_neg h2] at hs0
  exact key _ hxy hs0
end Go.Proofs
