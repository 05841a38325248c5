/- parser.list: a range over slices.Backward, as a contract. -/
import Derived.Test.YtkpggdcpaeanaaaGreatDoorMh
import Derived.Test.YtkpggdcpaeanaaaGreatDoorMj
set_option maxRecDepth 100000
namespace Go.Proofs
open Go Go.En Go.RowKit
@[reducible] def pbS : Box := bxB
def Tryz.m47.p : Pln := ⟨[],1,⟨[.al 0 0,.fd (.sl 0)],[pbS]⟩,⟨[.fd (.int .i64)],[pbS]⟩,false,[(5,⟨[(0,true),(1,false),(2,true),(3,false),(4,true)],[5,1000008],[0,0,1,5,15,31],false⟩)],[(99,[])]⟩
noncomputable def Tryz.m47.E : Env En.Dop.D4 := envOf Tryz.prog 47 Tryz.tb [Tryz.m100.c,Tryz.m90.c,Tryz.m97.c] Tryz.m47.p
theorem Tryz.m47.ok : plnOk En.Dop.D4 Tryz.prog 47 Tryz.m47.p = true := by kernel_rfl
noncomputable def codeAt (body : Code) (a : List Nat) : Code := match atA body a with
 | some c => c
 | none => .skip
@[reducible] def lsQ : En.Spec := ⟨[],[pbS,⟨1,89,[.al 0 0],false⟩,⟨2,3,[.fd (.int .i64)],false⟩]⟩
@[reducible] def lsB : En.Spec := ⟨[.al 1 0,.al 2 0,.fd (.int .i64)],[pbS,⟨1,89,[.al 0 0],false⟩,⟨2,3,[.fd (.int .i64)],false⟩]⟩
noncomputable def Tryz.m47.step (x : Int) (y : En.Spec.D En.Dop.D4 lsQ) : Option (En.Spec.D En.Dop.D4 lsQ) :=
 (bodyT Tryz.m47.E 3000 [1,0,1,0,1,1] (codeAt (bodyOf Tryz.prog 47) [1,0,1,0,1,1]) lsB lsQ [2,5,7] 3 (((),(),x,()),y.2)).eval (fun _ _ => none)
@[reducible] noncomputable def rfA : Code := codeAt (bodyOf Tryz.prog 47) [0,0,1,0,1,1]
@[reducible] noncomputable def rfB : Code := codeAt (bodyOf Tryz.prog 47) [1,0,1,0,1,1]
@[reducible] noncomputable def rfZ : Code := codeAt (bodyOf Tryz.prog 47) [1,1,1]
noncomputable def Tryz.m47.go : List Int → En.Spec.D En.Dop.D4 lsQ → Option (En.Spec.D En.Dop.D4 lsQ)
 | [],y => some y
 | x :: r,y => (Tryz.m47.step x y).bind (Tryz.m47.go r)
theorem Tryz.m47.go_app : ∀ (l r : List Int) (y : En.Spec.D En.Dop.D4 lsQ),Tryz.m47.go (l ++ r) y = (Tryz.m47.go l y).bind (Tryz.m47.go r)
 | [],r,y => rfl
 | x :: l,r,y => by
  simp only [List.cons_append,Tryz.m47.go]
  cases Tryz.m47.step x y with
  | none => rfl
  | some z => exact Tryz.m47.go_app l r z
noncomputable def Tryz.m47.R (x : En.Spec.D En.Dop.D4 Tryz.m47.p.sp) : Option (En.Spec.D En.Dop.D4 Tryz.m47.p.rs) :=
 match decide (x.1.2.1.length < 9223372036854775807) with
 | true => (Tryz.m47.go x.1.2.1.reverse ((),(x.2.1,((),()),(-1,()),()))).bind fun y => some ((y.2.2.2.1.1,()),(y.2.1,()))
 | false => none
noncomputable def Tryz.m47.c : Ctr En.Dop.D4 := ⟨47,Tryz.m47.p.bn,Tryz.m47.p.sp,Tryz.m47.p.rs,Tryz.m47.p.flat,.opt Tryz.m47.R⟩
noncomputable def lsS (l : List Int) (x : En.Spec.D En.Dop.D4 ⟨[],[pbS]⟩) : St En.Dop.D4 := match En.Spec.enc (S := En.Dop.D4) ⟨[.al 0 0,.fd (.sl 0)],[pbS]⟩ (((),l,()),x.2) 1 with
 | (_,o,_) => ⟨[(0,.ptr 0 0),(1,.h 1),(2,.ptr 5 0),(4,.v (.int .i64 0)),(5,.ptr 6 0),(9,.h 1),(10,.fn 146 [.ptr 7 0])],(7,.blk 66 [.h 1]) :: (6,.blk 3 [.v (.int .i64 (-1))]) :: (5,.blk 89 [.ptr 0 0]) :: o,8,25⟩
theorem Tryz.m47.part (l : List Int) (x : En.Spec.D En.Dop.D4 ⟨[],[pbS]⟩) (vs : List SV) (o : List (Nat × En.Own En.Dop.D4)) (n : Nat) (h : En.Spec.enc (S := En.Dop.D4) ⟨[.al 0 0,.fd (.sl 0)],[pbS]⟩ (((),l,()),x.2) 1 = (vs,o,n)) :
  partT Tryz.m47.E 3000 [.code [] (bodyOf Tryz.prog 47)] ⟨inSlots 0 vs,o,n,25⟩ = .ret ([.code [0,1,0,1,1] (.rangeFunc (.tmp 10) #[11,12] rfA rfB),.blk 0,.code [1,1,1] rfZ],lsS l x) := by
 cases h
 kernel_rfl
noncomputable def rfAo : Oper := match rfA with
 | .region _ ⟨o :: _⟩ _ => o
 | _ => default
theorem rfA_eq : rfA = .region 3 #[rfAo] false := by kernel_rfl
theorem rfAo_op : rfAo.op = .assign (.tmp 12) := by kernel_rfl
theorem rfAo_dst : rfAo.dst = some 7 := by kernel_rfl
theorem rfAo_guard : rfAo.guard = none := by kernel_rfl
noncomputable def rfZo : Array Oper := match rfZ with
 | .seq (.region _ o _) _ => o
 | _ => #[]
theorem rfZ_eq : rfZ = .seq (.region 7 rfZo false) .ret := by kernel_rfl
theorem rfB_at : atA (bodyOf Tryz.prog 47) [1,0,1,0,1,1] = some rfB := by kernel_rfl
theorem rf_nd : noDefB (bodyOf Tryz.prog 47) = true := by kernel_rfl
theorem bwd_snd (l : List Int) : (bwd l).map Prod.snd = l.reverse := by
 apply List.ext_getElem
 ·simp [bwd,upto]
 ·intro i h1 h2
  have h3 : i < l.length := by simpa using h2
  simp [bwd,upto,List.getElem_reverse,List.getElem?_eq_getElem (show l.length - 1 - i < l.length by omega)]
theorem flat_int (l : List Int) : En.Dop.D4.flat 0 l = l.map fun n => FC.int .i64 n := by
 induction l with
 | nil => rfl
 | cons x r ih => exact congrArg (FC.int .i64 x :: ·) ih
theorem row_ints {w : World} {D : Nat → Prop} {l : List Int} {v : Value} (h : CellOk En.Dop.D4 w D (.sl 0 l) v) : (l = [] ∧ ∃ a c,v = .slice a 0 c) ∨ ∃ b off cap,v = .slice (some ⟨b,off,none⟩) l.length cap ∧ D b ∧ ∀ j,j < l.length → w.cell? ⟨b,off + j,none⟩ = some (.int .i64 (l[j]?.getD 0)) := by
 cases h with
 | nil σ a c => exact .inl ⟨rfl,a,c,rfl⟩
 | sl σ l b off c vs hb hlc hc hv =>
  refine .inr ⟨b,off,c,rfl,hb,fun j hj => ?_⟩
  have hf : (En.Dop.D4.flat 0 l)[j]? = some (.int .i64 l[j]) := by rw [flat_int]; simp [hj]
  rw [hc j _ hf]
  have := hv j _ hf
  cases hvj : vs j <;> rw [hvj] at this <;> cases this
  simp [hj]
theorem ls_parse (l : List Int) (x : En.Spec.D En.Dop.D4 ⟨[],[pbS]⟩) : ∃ ps,En.Spec.parse (S := En.Dop.D4) ⟨[.al 1 0,.al 2 0],lsQ.bx⟩ true [.ptr 5 0,.ptr 6 0] (lsS l x).o (idm 1) 3 = some ((((),(),()),(x.2.1,((),()),(-1,()),())),ps) ∧ lk ps.o 7 = some (.blk 66 [.h 1]) ∧ ps.bl = [] ∧ lk ps.m 1 = some 5 ∧ lk ps.m 2 = some 6 ∧ lk ps.m 0 = some 0 :=
 ⟨⟨(7,.blk 66 [.h 1]) :: (2,.sl 4 x.2.1.1) :: (1,.sl 0 l) :: [],[(2,6),(1,5),(0,0)],[],3⟩,by kernel_rfl,by kernel_rfl,by kernel_rfl,by kernel_rfl,by kernel_rfl,by kernel_rfl⟩
theorem ls_end (y : En.Spec.D En.Dop.D4 lsQ) : partT Tryz.m47.E 3000 [.ops rfZo rfZo.toList] ⟨[(2,.ptr 1 0),(5,.ptr 2 0)],(lsQ.enc (S := En.Dop.D4) y 3).2.1,(lsQ.enc (S := En.Dop.D4) y 3).2.2,25⟩ =
  .ret ([],⟨[(2,.ptr 1 0),(5,.ptr 2 0),(24,.v (.int .i64 y.2.2.2.1.1)),(4,.v (.int .i64 y.2.2.2.1.1))],(lsQ.enc (S := En.Dop.D4) y 3).2.1,(lsQ.enc (S := En.Dop.D4) y 3).2.2,25⟩) := by kernel_rfl
theorem ls_ret (y : En.Spec.D En.Dop.D4 lsQ) : ∃ ps,En.Spec.parse (S := En.Dop.D4) ⟨[.fd (.int .i64)],[pbS]⟩ true [.v (.int .i64 y.2.2.2.1.1)] (lsQ.enc (S := En.Dop.D4) y 3).2.1 (idm 1) 1 = some (((y.2.2.2.1.1,()),(y.2.1,())),ps) ∧ lk ps.m 0 = some 0 :=
 ⟨⟨(2,.blk 3 [.v (.int .i64 y.2.2.2.1.1)]) :: (1,.blk 89 [.ptr 0 0]) :: (3,.sl 4 y.2.1.1) :: [],[(0,0)],[],1⟩,by kernel_rfl,by kernel_rfl⟩
end Go.Proofs
/- parser.list: its contract holds. -/
set_option maxRecDepth 100000
namespace Go.Proofs
open Go Go.En Go.RowKit
theorem lsE : (Tryz.m47.E).Ok Tryz.prog ∧ bodied Tryz.prog 47 = true ∧ Tryz.m47.p.sp.okB Tryz.m47.p.bn = true ∧ ∃ fn,Tryz.prog.funcs[47]? = some fn ∧ fn.body = some (bodyOf Tryz.prog 47) ∧ fn.ntmps = 25 ∧ fn.results = #[.tmp 4] := by
 obtain ⟨h1,h2,h3,fn,h4,h5,h6,h7⟩ := env_ok (p := Tryz.m47.p) Tryz.tbOk (hct_cons Tryz.m100.holds (hct_cons Tryz.m90.holds (hct_cons Tryz.m97.holds hct_nil))) Tryz.m47.ok
 have e1 : sizeOf' Tryz.prog 47 = 25 := by kernel_rfl
 have e2 : resOf' Tryz.prog 47 = [.tmp 4] := by kernel_rfl
 refine ⟨h1,h2,h3,fn,h4,h5,h6.trans e1,?_⟩
 rw [e2] at h7
 rw [← h7]
theorem ls_assign {l : Nat} {x : Int × Int} {W : World} {a : Act} {K : Act → World → Prop} (hsz : a.tmps.size = 25)
  (h : ∀ a' : Act,a'.defers = [] → a'.tmps.size = 25 → (∀ t,t ≠ 7 → t ≠ 11 → t ≠ 12 → a'.tmps.getD t undef = a.tmps.getD t undef) → a'.tmps.getD 7 undef = .int .i64 x.2 → K a' W) :
  rfA.wpIn (Fence.wide.inRound l) 0 Tryz.prog (Exit.then K (fun _ _ _ => False)) { tmps := (#[11,12].zip #[Value.int .i64 x.1,Value.int .i64 x.2]).foldl (fun t (p,v) => t.setIfInBounds p v) a.tmps,defers := [] } W := by
 rw [rfA_eq]
 refine region_in (.inr ⟨⟨l,rfl⟩,fun ⟨_,_,h⟩ => h,fun j o ho => ?_⟩) ?_
 ·cases j with
  | zero => simp at ho; subst ho; unfold deferB; rw [rfAo_op]
  | succ j => simp at ho
 ·show wpList _ _ _ [rfAo] _ _
  unfold wpList
  rw [if_pos (by simp [Region.wanted,rfAo_guard])]
  refine .inl (wp_value (v := .int .i64 x.2) (w' := W) ?_ ?_)
  ·simp [execOp,rfAo_op,Act.eval,hsz]
  ·refine h _ rfl (by simp [Act.put,rfAo_dst,hsz]) (fun t h1 h2 h3 => ?_) ?_
   ·simp [Act.put,rfAo_dst,Array.getD_eq_getD_getElem?,Array.getElem?_setIfInBounds,Ne.symm h1,Ne.symm h2,Ne.symm h3]
   ·simp [Act.put,rfAo_dst,Array.getD_eq_getD_getElem?,Array.getElem?_setIfInBounds,hsz]
def lsI (w0 W : World) (F D0 K : Nat → Prop) (β2 : Nat → Nm) (y0 : En.Spec.D En.Dop.D4 lsQ) (pre : List (Int × Int)) (W' : World) : Prop :=
 ∃ y,Tryz.m47.go (pre.map Prod.snd) y0 = some y ∧ Mid w0 W F D0 K lsQ 3 β2 W.heap.size y W'
theorem ls_body {w0 W W' : World} {F D0 K : Nat → Prop} {β2 : Nat → Nm} {y0 yq : En.Spec.D En.Dop.D4 lsQ} (hkp : Keeps En.Dop.D4 w0 F D0) {xs pre rest : List (Int × Int)} {x : Int × Int} (hgo : Tryz.m47.go (xs.map Prod.snd) y0 = some yq) (hxs : xs = pre ++ x :: rest) (hI : lsI w0 W F D0 K β2 y0 pre W')
  {a' : Act} (hd : a'.defers = []) (hsz : a'.tmps.size = 25) (h2 : a'.tmps.getD 2 undef = .pointer (some ⟨(β2 1).blk,0,none⟩)) (h5 : a'.tmps.getD 5 undef = .pointer (some ⟨(β2 2).blk,0,none⟩)) (h7 : a'.tmps.getD 7 undef = .int .i64 x.2) (l : Nat) :
  rfB.wpIn (Fence.wide.inRound l) 0 Tryz.prog (rndPost W.heap.size (lsI w0 W F D0 K β2 y0) (fun _ _ _ => False) (pre ++ [x]) W') a' W' := by
 obtain ⟨y,hy,D,β,vs,o,n,e1,e2,e3,e4,e5,e6,e7,e8,e9⟩ := hI
 obtain ⟨hE,_,_,_⟩ := lsE
 have hst : ∃ y',Tryz.m47.step x.2 y = some y' := by
  rw [hxs,List.map_append,Tryz.m47.go_app,hy] at hgo
  simp only [Option.bind_some,List.map_cons,Tryz.m47.go] at hgo
  cases hs : Tryz.m47.step x.2 y with
  | none => rw [hs] at hgo; cases hgo
  | some y' => exact ⟨y',rfl⟩
 obtain ⟨y',hy'⟩ := hst
 have he : lsB.enc (S := En.Dop.D4) (((),(),x.2,()),y.2) 3 = ([.ptr 1 0,.ptr 2 0,.v (.int .i64 x.2)],o,n) := by
  have h : lsB.enc (S := En.Dop.D4) (((),(),x.2,()),y.2) 3 = ([.ptr 1 0,.ptr 2 0,.v (.int .i64 x.2)],(lsQ.enc (S := En.Dop.D4) y 3).2.1,(lsQ.enc (S := En.Dop.D4) y 3).2.2) := by kernel_rfl
  rw [h,e1]
 refine body_ok hE (f0 := 3000) (adr := [1,0,1,0,1,1]) rfB_at rf_nd (sp := lsB) (qe := lsQ) (ts := [2,5,7]) (bn := 3) (by kernel_rfl) (x := (((),(),x.2,()),y.2)) (y := y') hy' he e3.base ?_ e4 (e3.inv hkp) hd hsz ?_ (fun _ _ _ h => h) (fun ⟨_,_,h⟩ => h) ?_ l
 ·simp only [onL,SV.on,and_true]
  omega
 ·intro j t v hj hv
  match j with
  | 0 =>
   simp only [List.getElem?_cons_zero,Option.some.injEq] at hj hv; subst hj; subst hv
   exact ⟨by show 2 < 25; omega,by rw [h2,← e2 1 (by omega)]; simp only [SV.den]⟩
  | 1 =>
   simp only [List.getElem?_cons_succ,List.getElem?_cons_zero,Option.some.injEq] at hj hv; subst hj; subst hv
   exact ⟨by show 5 < 25; omega,by rw [h5,← e2 2 (by omega)]; simp only [SV.den]⟩
  | 2 =>
   simp only [List.getElem?_cons_succ,List.getElem?_cons_zero,Option.some.injEq] at hj hv; subst hj; subst hv
   exact ⟨by show 7 < 25; omega,by rw [h7]; simp only [SV.den]⟩
  | j + 3 => simp at hj
 ·intro a'' W'' D' β' vs' o' n' f1 f2 f3 f4
  obtain ⟨g1,g2⟩ := Mid.next e3 e2 e5 e6 e7 e8 e9 f1 f2 f3 f4
  refine ⟨g1,y',?_,g2⟩
  rw [List.map_append,Tryz.m47.go_app,hy]
  simp only [Option.bind_some,List.map_cons,List.map_nil,Tryz.m47.go,hy']
theorem ls_done {w : World} {D : Nat → Prop} {β : Nat → Nm} {o0 : List (Nat × En.Own En.Dop.D4)} (hkp : Keeps En.Dop.D4 w (blocksOf o0 β) D) {fn : Func} (hres : fn.results = #[.tmp 4]) {W W' : World} {K : Nat → Prop} {β2 : Nat → Nm} {yq : En.Spec.D En.Dop.D4 lsQ} (hβ : β2 0 = β 0) (hm : Mid w W (blocksOf o0 β) D K lsQ 3 β2 W.heap.size yq W')
  {a : Act} (hd : a.defers = []) (hsz : a.tmps.size = 25) (h2 : a.tmps.getD 2 undef = .pointer (some ⟨(β2 1).blk,0,none⟩)) (h5 : a.tmps.getD 5 undef = .pointer (some ⟨(β2 2).blk,0,none⟩)) (hK : W'.heap[W.heap.size]? = some (.deferred (some []))) :
  rfZ.wpIn Fence.wide 0 Tryz.prog (nPan (bodyPostM Fence.wide 2 Tryz.prog fn (CPost (S := En.Dop.D4) Tryz.m47.c ((yq.2.2.2.1.1,()),(yq.2.1,())) w D β o0))) { a with defers := { target := .collected W.heap.size,args := #[] } :: a.defers } W' := by
 obtain ⟨D',β',vs,o,n,e1,e2,e3,e4,e5,e6,e7,e8,e9⟩ := hm
 obtain ⟨hE,_,_,_⟩ := lsE
 refine wpIn_wide.2 ?_
 rw [rfZ_eq]
 refine wp_seq (wp_region_list ?_)
 have hkp' := e3.keeps hkp
 have ho : o = (lsQ.enc (S := En.Dop.D4) yq 3).2.1 := by rw [e1]
 have hn : n = (lsQ.enc (S := En.Dop.D4) yq 3).2.2 := by rw [e1]
 have hv := part_ok hE (w0 := W') (F := blocksOf o β') (D0 := D') (bn := 3) (β0 := β') (f0 := 3000) (k0 := [.ops rfZo rfZo.toList]) (s0 := ⟨[(2,.ptr 1 0),(5,.ptr 2 0)],o,n,25⟩)
  (Q := fun e a' w' => match e with
   | .normal => a'.defers = [] ∧ a'.tmps.getD 4 undef = .int .i64 yq.2.2.2.1.1 ∧ ∃ D2 β3,(∀ i,i < 3 → β3 i = β' i) ∧ GH W' (blocksOf o β') D' D2 o (· < n) β3 w'
   | _ => False) hkp' (fun _ _ _ _ _ h => h) e4 rfl (fun z hz => by
    simp only [List.mem_cons,List.not_mem_nil,or_false] at hz
    subst hz; trivial) (by
   subst ho; subst hn
   rw [ls_end]
   intro _ _ D2 β3 a' w' hag hg
   refine ⟨hg.defers,by rw [hg.tmps 4 (.v (.int .i64 yq.2.2.2.1.1)) rfl]; simp only [SV.den],D2,β3,hag,hg.gh⟩)
 have hl := hv D' β' { a with defers := [] } W' (fun _ _ => rfl) ⟨rfl,hsz,fun t x hx => ?_,fun t x hx => ?_,e3.base⟩
 ·simp only [List.map_cons,List.map_nil,AIt.it,after] at hl
  have hl2 := wpList_df (ds := [{ target := .collected W.heap.size,args := #[] }]) (Q' := Exit.then (Code.ret.wp Tryz.prog (nPan (bodyPostM Fence.wide 2 Tryz.prog fn (CPost (S := En.Dop.D4) Tryz.m47.c ((yq.2.2.2.1.1,()),(yq.2.1,())) w D β o0)))) (nPan (bodyPostM Fence.wide 2 Tryz.prog fn (CPost (S := En.Dop.D4) Tryz.m47.c ((yq.2.2.2.1.1,()),(yq.2.1,())) w D β o0)))) ?_ (fun _ _ _ h => h.elim) (fun ⟨_,_,h⟩ => h) hl
  ·rw [hd]; exact hl2
  ·rintro a' w' ⟨hd',hr,D2,β3,hag,hgh⟩
   refine wp_ret ?_
   obtain ⟨g1,g2⟩ := Mid.next e3 e2 e5 e6 e7 e8 e9 e1 hag hgh e4
   have hK' := (g1 W.heap.size (.inl rfl)).trans hK
   show LeavesInM _ _ _ _ _ _ _ _ _
   rw [hd']
   refine ⟨by simp,.inl ⟨_,_,rfl,run_takeDeferred hK',?_⟩⟩
   refine ⟨.int .i64 yq.2.2.2.1.1,by rw [← hr]; exact results_tmp hres _ _ _,?_⟩
   obtain ⟨D4,β4,vs4,o4,n4,f1,f2,f3,f4,_⟩ := g2.stable0 (.deferred none)
   rcases he : En.Spec.enc (S := En.Dop.D4) ⟨[.fd (.int .i64)],[pbS]⟩ ((yq.2.2.2.1.1,()),(yq.2.1,())) 1 with ⟨rs,o5,n5⟩
   have ho4 : o4 = (lsQ.enc (S := En.Dop.D4) yq 3).2.1 := by rw [f1]
   obtain ⟨ps,hps,hm0⟩ := ls_ret yq
   rw [← ho4] at hps
   obtain ⟨β5,b1,b2,b3,b4,b5,_⟩ := En.Spec.parse_ok f3 hps (by kernel_rfl) he
   have hrs : rs = [.v (.int .i64 yq.2.2.2.1.1)] := by
    have h : En.Spec.enc (S := En.Dop.D4) ⟨[.fd (.int .i64)],[pbS]⟩ ((yq.2.2.2.1.1,()),(yq.2.1,())) 1 = ([.v (.int .i64 yq.2.2.2.1.1)],(En.Spec.enc (S := En.Dop.D4) ⟨[.fd (.int .i64)],[pbS]⟩ ((yq.2.2.2.1.1,()),(yq.2.1,())) 1).2.1,(En.Spec.enc (S := En.Dop.D4) ⟨[.fd (.int .i64)],[pbS]⟩ ((yq.2.2.2.1.1,()),(yq.2.1,())) 1).2.2) := by kernel_rfl
    rw [he] at h
    exact (Prod.mk.inj h).1
   refine ⟨_,β5,rs,o5,n5,he,?_,fun i hi => ?_,b2,b4,b5⟩
   ·rw [hrs]; simp only [resSV,SV.den]
   ·have hi0 : i = 0 := by have : i < 1 := hi; omega
    subst hi0
    rw [b1 0 (by omega) 0 hm0,f2 0 (by omega),hβ]
 all_goals
  simp only [lk_cons] at hx
  split at hx
  ·rename_i he; subst he; cases hx
   first
    | (refine ⟨by show 2 < 25; omega,?_⟩; simp only [SV.on]; omega)
    | (rw [show ({ a with defers := [] } : Act).tmps.getD 2 undef = a.tmps.getD 2 undef from rfl,h2,← e2 1 (by omega)]; simp only [SV.den])
  ·split at hx
   ·rename_i he; subst he; cases hx
    first
     | (refine ⟨by show 5 < 25; omega,?_⟩; simp only [SV.on]; omega)
     | (rw [show ({ a with defers := [] } : Act).tmps.getD 5 undef = a.tmps.getD 5 undef from rfl,h5,← e2 2 (by omega)]; simp only [SV.den])
   ·simp [lk_nil] at hx
theorem callFunc_B (args : Array Value) (w : World) : (callFunc 146 args).run Tryz.prog w = .ok (.enter 146 args) w := run_callFunc (by kernel_rfl)
theorem Tryz.m47.holds : Tryz.m47.c.Holds Tryz.prog := by
 obtain ⟨hE,hbod,hokB,fn,hf,hb,hn',hres⟩ := lsE
 refine ⟨hbod,hokB,fun h => (by cases h),fun x y hxy w D β vs o n he hg hon hn hiv => ?_⟩
 have hxy : Tryz.m47.R x = some y := hxy
 unfold Tryz.m47.R at hxy
 split at hxy
 case h_2 => cases hxy
 rename_i hl
 have hl := of_decide_eq_true hl
 obtain ⟨yq,hgo,hy⟩ := Option.bind_eq_some_iff.1 hxy
 cases hy
 have hkp : Keeps En.Dop.D4 w (blocksOf o β) D := ⟨hiv,fun k hk => ⟨hg.dlt k hk,fun ⟨i,b,hi,hik⟩ => hg.off i b k hi hik hk⟩⟩
 have hx : x = (((),x.1.2.1,()),x.2) := rfl
 have he' : En.Spec.enc (S := En.Dop.D4) ⟨[.al 0 0,.fd (.sl 0)],[pbS]⟩ (((),x.1.2.1,()),x.2) 1 = (vs,o,n) := he
 have hlen : vs.length = 2 := En.Spec.enc_length he
 refine VC.enterM (M := 0 + 3000) (bn := 1) hf hb hn' (by omega) hon hg ?_
 refine part_ok hE hkp (fun _ _ _ _ _ h => h) (k0 := [.code [] (bodyOf Tryz.prog 47)]) (s0 := ⟨inSlots 0 vs,o,n,25⟩) hn rfl (fun z hz => by
  simp only [List.mem_cons,List.not_mem_nil,or_false] at hz
  subst hz; rfl) ?_
 rw [Tryz.m47.part x.1.2.1 ((),x.2) vs o n he']
 intro _ _ D1 β1 a W hβ1 hg1
 simp only [List.map_cons,List.map_nil,AIt.it,after]
 obtain ⟨ps,hps,hp7,hpbl,hm1,hm2,hm0⟩ := ls_parse x.1.2.1 ((),x.2)
 rcases hq : lsQ.enc (S := En.Dop.D4) ((),(x.2.1,((),()),(-1,()),())) 3 with ⟨vq,o2,n2⟩
 have he2 : En.Spec.enc (S := En.Dop.D4) ⟨[.al 1 0,.al 2 0],lsQ.bx⟩ (((),(),()),(x.2.1,((),()),(-1,()),())) 3 = ([.ptr 1 0,.ptr 2 0],o2,n2) := by
  have h : En.Spec.enc (S := En.Dop.D4) ⟨[.al 1 0,.al 2 0],lsQ.bx⟩ (((),(),()),(x.2.1,((),()),(-1,()),())) 3 = ([.ptr 1 0,.ptr 2 0],(lsQ.enc (S := En.Dop.D4) ((),(x.2.1,((),()),(-1,()),())) 3).2.1,(lsQ.enc (S := En.Dop.D4) ((),(x.2.1,((),()),(-1,()),())) 3).2.2) := by kernel_rfl
  rw [h,hq]
 obtain ⟨β2,b1,b2,_,_,b5,b6,b7,_,_⟩ := En.Spec.parse_ok hg1.gh hps (by kernel_rfl) he2
 have r1 := b1 1 (by omega) 5 hm1
 have r2 := b1 2 (by omega) 6 hm2
 have r0 := b1 0 (by omega) 0 hm0
 obtain ⟨Bs,hBs,hBh⟩ := hg1.gh.own 7 _ (show lk (lsS x.1.2.1 ((),x.2)).o 7 = some (.blk 66 [.h 1]) from rfl)
 obtain ⟨_,hrow⟩ := hg1.gh.own 1 _ (show lk (lsS x.1.2.1 ((),x.2)).o 1 = some (.sl 0 x.1.2.1) by kernel_rfl)
 have hblk : (β1 7).blk = Bs := by unfold Nm.blk; rw [hBs]; rfl
 have hBs' : Bs < W.heap.size := (Array.getElem?_eq_some_iff.1 hBh).1
 have hgd := b2.addD (r := Bs) (fun i b hi hk => b6 7 _ i b Bs hp7 (by rw [hpbl]; simp) hi (Nm.has_of hBs) hk) hBs' (hg1.gh.fresh 7 _ Bs (show lk (lsS x.1.2.1 ((),x.2)).o 7 = some (.blk 66 [.h 1]) from rfl) (Nm.has_of hBs))
 have hrd : ∀ W' : World,(∀ k,(Lent D1 β1 ps.bl k ∨ k = Bs) → W'.heap[k]? = W.heap[k]?) → BkRd Bs x.1.2.1 W' := fun W' hs => by
  have hc : W'.cell? ⟨Bs,0,none⟩ = some ((β1 1).sl) := by
   rw [World.cell?_of_block (w := W) (hs Bs (.inr rfl))]
   unfold World.cell?
   rw [hBh]
   simp [denL,SV.den]
  rcases row_ints hrow with ⟨h1,a',c,h2⟩ | ⟨b,off,cap,h2,h3,h4⟩
  ·exact .inl ⟨h1,a',c,by rw [hc,h2]⟩
  ·exact .inr ⟨b,off,cap,by rw [hc,h2],fun j hj => by rw [World.cell?_of_block (w := W) (hs b (.inl (.inl h3)))]; exact h4 j hj⟩
 have t2 : a.tmps.getD 2 undef = .pointer (some ⟨(β2 1).blk,0,none⟩) := by rw [hg1.tmps 2 (.ptr 5 0) rfl,r1]; simp only [SV.den]
 have t5 : a.tmps.getD 5 undef = .pointer (some ⟨(β2 2).blk,0,none⟩) := by rw [hg1.tmps 5 (.ptr 6 0) rfl,r2]; simp only [SV.den]
 have hsz : a.tmps.size = 25 := hg1.size
 have hgo' : Tryz.m47.go ((bwd x.1.2.1).map Prod.snd) ((),(x.2.1,((),()),(-1,()),())) = some yq := by rw [bwd_snd]; exact hgo
 refine wpIn_wide.2 (wpIn_wide.1 (range_law (gf := 146) (lb := #[.pointer (some ⟨Bs,0,none⟩)]) ?_ callFunc_B (Tryz.bk_iter Bs x.1.2.1 hl) (fun _ => rfl)
  (lsI w W (blocksOf o β) D (fun k => Lent D1 β1 ps.bl k ∨ k = Bs) β2 ((),(x.2.1,((),()),(-1,()),()))) (fun _ _ _ => False) (fun pre W' ob ⟨y,h1,h2⟩ hlt => ⟨y,h1,Mid.stable y W' ob h2 hlt⟩) (fun _ _ _ _ h _ => h)
  (fun pre W' ⟨_,_,_,_,_,_,_,_,_,_,_,_,_,_,_,h9⟩ => hrd W' h9) (fun ob ob' => ⟨_,rfl,Mid.first hq hgd b5 (fun _ h => h) ob ob'⟩)
  (fun x' a' => a'.defers = [] ∧ a'.tmps.size = 25 ∧ a'.tmps.getD 2 undef = .pointer (some ⟨(β2 1).blk,0,none⟩) ∧ a'.tmps.getD 5 undef = .pointer (some ⟨(β2 2).blk,0,none⟩) ∧ a'.tmps.getD 7 undef = .int .i64 x'.2) ?_ ?_ ?_ ?_))
 ·rw [show a.eval (.tmp 10) = a.tmps.getD 10 undef from rfl,hg1.tmps 10 (.fn 146 [.ptr 7 0]) rfl]
  simp only [SV.den,denL,fnV_plain (show Nat.ble 1000000 146 = false from rfl),hblk]
 ·intro l x' W' K hK
  exact ls_assign hsz fun a' h1 h2 h3 h4 => hK a' ⟨h1,h2,by rw [h3 2 (by decide) (by decide) (by decide)]; exact t2,by rw [h3 5 (by decide) (by decide) (by decide)]; exact t5,h4⟩
 ·rintro pre x' rest a' W' hxs _ hI ⟨h1,h2,h3,h4,h5⟩
  exact ls_body hkp hgo' hxs hI h1 h2 h3 h4 h5 _
 ·rintro W' ⟨y,h1,h2⟩ hK
  rw [hgo'] at h1
  cases h1
  simp only [after,Exit.inBlock]
  exact ls_done hkp hres (by rw [r0]; exact hβ1 0 (by omega)) h2 hg1.defers hsz t2 t5 hK
 ·exact fun _ _ _ _ h => h.elim
end Go.Proofs
