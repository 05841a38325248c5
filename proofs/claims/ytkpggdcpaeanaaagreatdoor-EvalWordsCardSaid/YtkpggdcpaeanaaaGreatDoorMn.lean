/- core.list: a range over slices.Backward, as a contract. -/
import Derived.Test.YtkpggdcpaeanaaaGreatDoorMk
import Derived.Test.YtkpggdcpaeanaaaGreatDoorMm
set_option maxRecDepth 100000
namespace Go.Proofs
open Go Go.En Go.RowKit
def Tryz.m136.p : Pln := ⟨[],2,⟨[.al 0 0,.fd (.sl 0)],[CK.b0,CT.b1]⟩,⟨[.fd (.int .i64)],[CK.b0,CT.b1]⟩,false,[],[(99,[])]⟩
noncomputable def Tryz.m136.E : Env En.Dop.D4 := envOf Tryz.prog 136 Tryz.tb [Tryz.m132.c] Tryz.m136.p
theorem Tryz.m136.ok : plnOk En.Dop.D4 Tryz.prog 136 Tryz.m136.p = true := by kernel_rfl
@[reducible] def clQ : En.Spec := ⟨[],[CK.b0,CT.b1,⟨2,126,[.al 0 0],false⟩,⟨3,3,[.fd (.int .i64)],false⟩]⟩
@[reducible] def clB : En.Spec := ⟨[.al 2 0,.al 3 0,.fd (.int .i64)],[CK.b0,CT.b1,⟨2,126,[.al 0 0],false⟩,⟨3,3,[.fd (.int .i64)],false⟩]⟩
noncomputable def Tryz.m136.step (x : Int) (y : En.Spec.D En.Dop.D4 clQ) : Option (En.Spec.D En.Dop.D4 clQ) :=
 (bodyT Tryz.m136.E 3000 [1,0,1,0,1,1] (codeAt (bodyOf Tryz.prog 136) [1,0,1,0,1,1]) clB clQ [2,5,7] 4 (((),(),x,()),y.2)).eval (fun _ _ => none)
@[reducible] noncomputable def cfA : Code := codeAt (bodyOf Tryz.prog 136) [0,0,1,0,1,1]
@[reducible] noncomputable def cfB : Code := codeAt (bodyOf Tryz.prog 136) [1,0,1,0,1,1]
@[reducible] noncomputable def cfZ : Code := codeAt (bodyOf Tryz.prog 136) [1,1,1]
noncomputable def Tryz.m136.go : List Int → En.Spec.D En.Dop.D4 clQ → Option (En.Spec.D En.Dop.D4 clQ)
 | [],y => some y
 | x :: r,y => (Tryz.m136.step x y).bind (Tryz.m136.go r)
theorem Tryz.m136.go_app : ∀ (l r : List Int) (y : En.Spec.D En.Dop.D4 clQ),Tryz.m136.go (l ++ r) y = (Tryz.m136.go l y).bind (Tryz.m136.go r)
 | [],r,y => rfl
 | x :: l,r,y => by
  simp only [List.cons_append,Tryz.m136.go]
  cases Tryz.m136.step x y with
  | none => rfl
  | some z => exact Tryz.m136.go_app l r z
noncomputable def Tryz.m136.R (x : En.Spec.D En.Dop.D4 Tryz.m136.p.sp) : Option (En.Spec.D En.Dop.D4 Tryz.m136.p.rs) :=
 match decide (x.1.2.1.length < 9223372036854775807) with
 | true => (Tryz.m136.go x.1.2.1.reverse ((),(x.2.1,x.2.2.1,((),()),(-1,()),()))).bind fun y => some ((y.2.2.2.2.1.1,()),(y.2.1,y.2.2.1,()))
 | false => none
noncomputable def Tryz.m136.c : Ctr En.Dop.D4 := ⟨136,Tryz.m136.p.bn,Tryz.m136.p.sp,Tryz.m136.p.rs,Tryz.m136.p.flat,.opt Tryz.m136.R⟩
noncomputable def clS (l : List Int) (x : En.Spec.D En.Dop.D4 ⟨[],[CK.b0,CT.b1]⟩) : St En.Dop.D4 := match En.Spec.enc (S := En.Dop.D4) ⟨[.al 0 0,.fd (.sl 0)],[CK.b0,CT.b1]⟩ (((),l,()),x.2) 2 with
 | (_,o,_) => ⟨[(0,.ptr 0 0),(1,.h 2),(2,.ptr 17 0),(4,.v (.int .i64 0)),(5,.ptr 18 0),(8,.h 2),(9,.fn 146 [.ptr 19 0])],(19,.blk 66 [.h 2]) :: (18,.blk 3 [.v (.int .i64 (-1))]) :: (17,.blk 126 [.ptr 0 0]) :: o,20,17⟩
theorem Tryz.m136.part (l : List Int) (x : En.Spec.D En.Dop.D4 ⟨[],[CK.b0,CT.b1]⟩) (vs : List SV) (o : List (Nat × En.Own En.Dop.D4)) (n : Nat) (h : En.Spec.enc (S := En.Dop.D4) ⟨[.al 0 0,.fd (.sl 0)],[CK.b0,CT.b1]⟩ (((),l,()),x.2) 2 = (vs,o,n)) :
  partT Tryz.m136.E 3000 [.code [] (bodyOf Tryz.prog 136)] ⟨inSlots 0 vs,o,n,17⟩ = .ret ([.code [0,1,0,1,1] (.rangeFunc (.tmp 9) #[10,11] cfA cfB),.blk 0,.code [1,1,1] cfZ],clS l x) := by
 cases h
 kernel_rfl
noncomputable def cfAo : Oper := match cfA with
 | .region _ ⟨o :: _⟩ _ => o
 | _ => default
theorem cfA_eq : cfA = .region 3 #[cfAo] false := by kernel_rfl
theorem cfAo_op : cfAo.op = .assign (.tmp 11) := by kernel_rfl
theorem cfAo_dst : cfAo.dst = some 7 := by kernel_rfl
theorem cfAo_guard : cfAo.guard = none := by kernel_rfl
noncomputable def cfZo : Array Oper := match cfZ with
 | .seq (.region _ o _) _ => o
 | _ => #[]
theorem cfZ_eq : cfZ = .seq (.region 5 cfZo false) .ret := by kernel_rfl
theorem cfB_at : atA (bodyOf Tryz.prog 136) [1,0,1,0,1,1] = some cfB := by kernel_rfl
theorem cf_nd : noDefB (bodyOf Tryz.prog 136) = true := by kernel_rfl
theorem cl_parse0 (l : List Int) (x : En.Spec.D En.Dop.D4 ⟨[],[CK.b0,CT.b1]⟩) : ((En.Spec.parse (S := En.Dop.D4) ⟨[.al 2 0,.al 3 0],clQ.bx⟩ true [.ptr 17 0,.ptr 18 0] (clS l x).o (idm 2) 4).map fun r => (r.1,lk r.2.o 19,r.2.bl,lk r.2.m 2,lk r.2.m 3,lk r.2.m 0,lk r.2.m 1)) =
  some ((((),(),()),(x.2.1,x.2.2.1,((),()),(-1,()),())),some (.blk 66 [.h 2]),[],some 17,some 18,some 0,some 1) := by kernel_rfl
theorem cl_parse (l : List Int) (x : En.Spec.D En.Dop.D4 ⟨[],[CK.b0,CT.b1]⟩) : ∃ ps,En.Spec.parse (S := En.Dop.D4) ⟨[.al 2 0,.al 3 0],clQ.bx⟩ true [.ptr 17 0,.ptr 18 0] (clS l x).o (idm 2) 4 = some ((((),(),()),(x.2.1,x.2.2.1,((),()),(-1,()),())),ps) ∧ lk ps.o 19 = some (.blk 66 [.h 2]) ∧ ps.bl = [] ∧ lk ps.m 2 = some 17 ∧ lk ps.m 3 = some 18 ∧ lk ps.m 0 = some 0 ∧ lk ps.m 1 = some 1 := by
 obtain ⟨⟨d,ps⟩,h1,h2⟩ := Option.map_eq_some_iff.1 (cl_parse0 l x)
 simp only [Prod.mk.injEq] at h2
 obtain ⟨h3,h4,h5,h6,h7,h8,h9⟩ := h2
 exact ⟨ps,h1.trans (by rw [← h3]),h4,h5,h6,h7,h8,h9⟩
theorem cl_end (y : En.Spec.D En.Dop.D4 clQ) : partT Tryz.m136.E 3000 [.ops cfZo cfZo.toList] ⟨[(2,.ptr 2 0),(5,.ptr 3 0)],(clQ.enc (S := En.Dop.D4) y 4).2.1,(clQ.enc (S := En.Dop.D4) y 4).2.2,17⟩ =
  .ret ([],⟨[(2,.ptr 2 0),(5,.ptr 3 0),(16,.v (.int .i64 y.2.2.2.2.1.1)),(4,.v (.int .i64 y.2.2.2.2.1.1))],(clQ.enc (S := En.Dop.D4) y 4).2.1,(clQ.enc (S := En.Dop.D4) y 4).2.2,17⟩) := by kernel_rfl
theorem cl_ret (y : En.Spec.D En.Dop.D4 clQ) : ∃ ps,En.Spec.parse (S := En.Dop.D4) ⟨[.fd (.int .i64)],[CK.b0,CT.b1]⟩ true [.v (.int .i64 y.2.2.2.2.1.1)] (clQ.enc (S := En.Dop.D4) y 4).2.1 (idm 2) 2 = some (((y.2.2.2.2.1.1,()),(y.2.1,y.2.2.1,())),ps) ∧ lk ps.m 0 = some 0 ∧ lk ps.m 1 = some 1 := by
 have h : ((En.Spec.parse (S := En.Dop.D4) ⟨[.fd (.int .i64)],[CK.b0,CT.b1]⟩ true [.v (.int .i64 y.2.2.2.2.1.1)] (clQ.enc (S := En.Dop.D4) y 4).2.1 (idm 2) 2).map fun r => (r.1,lk r.2.m 0,lk r.2.m 1)) = some (((y.2.2.2.2.1.1,()),(y.2.1,y.2.2.1,())),some 0,some 1) := by kernel_rfl
 obtain ⟨⟨d,ps⟩,h1,h2⟩ := Option.map_eq_some_iff.1 h
 simp only [Prod.mk.injEq] at h2
 obtain ⟨h3,h4,h5⟩ := h2
 exact ⟨ps,h1.trans (by rw [← h3]),h4,h5⟩
end Go.Proofs
/- core.list: its contract holds. -/
set_option maxRecDepth 100000
namespace Go.Proofs
open Go Go.En Go.RowKit
theorem clE : (Tryz.m136.E).Ok Tryz.prog ∧ bodied Tryz.prog 136 = true ∧ Tryz.m136.p.sp.okB Tryz.m136.p.bn = true ∧ ∃ fn,Tryz.prog.funcs[136]? = some fn ∧ fn.body = some (bodyOf Tryz.prog 136) ∧ fn.ntmps = 17 ∧ fn.results = #[.tmp 4] := by
 obtain ⟨h1,h2,h3,fn,h4,h5,h6,h7⟩ := env_ok (p := Tryz.m136.p) Tryz.tbOk (hct_cons Tryz.m132.holds hct_nil) Tryz.m136.ok
 have e1 : sizeOf' Tryz.prog 136 = 17 := by kernel_rfl
 have e2 : resOf' Tryz.prog 136 = [.tmp 4] := by kernel_rfl
 refine ⟨h1,h2,h3,fn,h4,h5,h6.trans e1,?_⟩
 rw [e2] at h7
 rw [← h7]
theorem cl_assign {l : Nat} {x : Int × Int} {W : World} {a : Act} {K : Act → World → Prop} (hsz : a.tmps.size = 17)
  (h : ∀ a' : Act,a'.defers = [] → a'.tmps.size = 17 → (∀ t,t ≠ 7 → t ≠ 10 → t ≠ 11 → a'.tmps.getD t undef = a.tmps.getD t undef) → a'.tmps.getD 7 undef = .int .i64 x.2 → K a' W) :
  cfA.wpIn (Fence.wide.inRound l) 0 Tryz.prog (Exit.then K (fun _ _ _ => False)) { tmps := (#[10,11].zip #[Value.int .i64 x.1,Value.int .i64 x.2]).foldl (fun t (p,v) => t.setIfInBounds p v) a.tmps,defers := [] } W := by
 rw [cfA_eq]
 refine region_in (.inr ⟨⟨l,rfl⟩,fun ⟨_,_,h⟩ => h,fun j o ho => ?_⟩) ?_
 ·cases j with
  | zero => simp at ho; subst ho; unfold deferB; rw [cfAo_op]
  | succ j => simp at ho
 ·show wpList _ _ _ [cfAo] _ _
  unfold wpList
  rw [if_pos (by simp [Region.wanted,cfAo_guard])]
  refine .inl (wp_value (v := .int .i64 x.2) (w' := W) ?_ ?_)
  ·simp [execOp,cfAo_op,Act.eval,hsz]
  ·refine h _ rfl (by simp [Act.put,cfAo_dst,hsz]) (fun t h1 h2 h3 => ?_) ?_
   ·simp [Act.put,cfAo_dst,Array.getD_eq_getD_getElem?,Array.getElem?_setIfInBounds,Ne.symm h1,Ne.symm h2,Ne.symm h3]
   ·simp [Act.put,cfAo_dst,Array.getD_eq_getD_getElem?,Array.getElem?_setIfInBounds,hsz]
def clI (w0 W : World) (F D0 K : Nat → Prop) (β2 : Nat → Nm) (y0 : En.Spec.D En.Dop.D4 clQ) (pre : List (Int × Int)) (W' : World) : Prop :=
 ∃ y,Tryz.m136.go (pre.map Prod.snd) y0 = some y ∧ Mid w0 W F D0 K clQ 4 β2 W.heap.size y W'
theorem cl_body {w0 W W' : World} {F D0 K : Nat → Prop} {β2 : Nat → Nm} {y0 yq : En.Spec.D En.Dop.D4 clQ} (hkp : Keeps En.Dop.D4 w0 F D0) {xs pre rest : List (Int × Int)} {x : Int × Int} (hgo : Tryz.m136.go (xs.map Prod.snd) y0 = some yq) (hxs : xs = pre ++ x :: rest) (hI : clI w0 W F D0 K β2 y0 pre W')
  {a' : Act} (hd : a'.defers = []) (hsz : a'.tmps.size = 17) (h2 : a'.tmps.getD 2 undef = .pointer (some ⟨(β2 2).blk,0,none⟩)) (h5 : a'.tmps.getD 5 undef = .pointer (some ⟨(β2 3).blk,0,none⟩)) (h7 : a'.tmps.getD 7 undef = .int .i64 x.2) (l : Nat) :
  cfB.wpIn (Fence.wide.inRound l) 0 Tryz.prog (rndPost W.heap.size (clI w0 W F D0 K β2 y0) (fun _ _ _ => False) (pre ++ [x]) W') a' W' := by
 obtain ⟨y,hy,D,β,vs,o,n,e1,e2,e3,e4,e5,e6,e7,e8,e9⟩ := hI
 obtain ⟨hE,_,_,_⟩ := clE
 have hst : ∃ y',Tryz.m136.step x.2 y = some y' := by
  rw [hxs,List.map_append,Tryz.m136.go_app,hy] at hgo
  simp only [Option.bind_some,List.map_cons,Tryz.m136.go] at hgo
  cases hs : Tryz.m136.step x.2 y with
  | none => rw [hs] at hgo; cases hgo
  | some y' => exact ⟨y',rfl⟩
 obtain ⟨y',hy'⟩ := hst
 have he : clB.enc (S := En.Dop.D4) (((),(),x.2,()),y.2) 4 = ([.ptr 2 0,.ptr 3 0,.v (.int .i64 x.2)],o,n) := by
  have h : clB.enc (S := En.Dop.D4) (((),(),x.2,()),y.2) 4 = ([.ptr 2 0,.ptr 3 0,.v (.int .i64 x.2)],(clQ.enc (S := En.Dop.D4) y 4).2.1,(clQ.enc (S := En.Dop.D4) y 4).2.2) := by kernel_rfl
  rw [h,e1]
 refine body_ok hE (f0 := 3000) (adr := [1,0,1,0,1,1]) cfB_at cf_nd (sp := clB) (qe := clQ) (ts := [2,5,7]) (bn := 4) (by kernel_rfl) (x := (((),(),x.2,()),y.2)) (y := y') hy' he e3.base ?_ e4 (e3.inv hkp) hd hsz ?_ (fun _ _ _ h => h) (fun ⟨_,_,h⟩ => h) ?_ l
 ·simp only [onL,SV.on,and_true]
  omega
 ·intro j t v hj hv
  match j with
  | 0 =>
   simp only [List.getElem?_cons_zero,Option.some.injEq] at hj hv; subst hj; subst hv
   exact ⟨by show 2 < 17; omega,by rw [h2,← e2 2 (by omega)]; simp only [SV.den]⟩
  | 1 =>
   simp only [List.getElem?_cons_succ,List.getElem?_cons_zero,Option.some.injEq] at hj hv; subst hj; subst hv
   exact ⟨by show 5 < 17; omega,by rw [h5,← e2 3 (by omega)]; simp only [SV.den]⟩
  | 2 =>
   simp only [List.getElem?_cons_succ,List.getElem?_cons_zero,Option.some.injEq] at hj hv; subst hj; subst hv
   exact ⟨by show 7 < 17; omega,by rw [h7]; simp only [SV.den]⟩
  | j + 3 => simp at hj
 ·intro a'' W'' D' β' vs' o' n' f1 f2 f3 f4
  obtain ⟨g1,g2⟩ := Mid.next e3 e2 e5 e6 e7 e8 e9 f1 f2 f3 f4
  refine ⟨g1,y',?_,g2⟩
  rw [List.map_append,Tryz.m136.go_app,hy]
  simp only [Option.bind_some,List.map_cons,List.map_nil,Tryz.m136.go,hy']
theorem cl_done {w : World} {D : Nat → Prop} {β : Nat → Nm} {o0 : List (Nat × En.Own En.Dop.D4)} (hkp : Keeps En.Dop.D4 w (blocksOf o0 β) D) {fn : Func} (hres : fn.results = #[.tmp 4]) {W W' : World} {K : Nat → Prop} {β2 : Nat → Nm} {yq : En.Spec.D En.Dop.D4 clQ} (hβ : ∀ i,i < 2 → β2 i = β i) (hm : Mid w W (blocksOf o0 β) D K clQ 4 β2 W.heap.size yq W')
  {a : Act} (hd : a.defers = []) (hsz : a.tmps.size = 17) (h2 : a.tmps.getD 2 undef = .pointer (some ⟨(β2 2).blk,0,none⟩)) (h5 : a.tmps.getD 5 undef = .pointer (some ⟨(β2 3).blk,0,none⟩)) (hK : W'.heap[W.heap.size]? = some (.deferred (some []))) :
  cfZ.wpIn Fence.wide 0 Tryz.prog (nPan (bodyPostM Fence.wide 2 Tryz.prog fn (CPost (S := En.Dop.D4) Tryz.m136.c ((yq.2.2.2.2.1.1,()),(yq.2.1,yq.2.2.1,())) w D β o0))) { a with defers := { target := .collected W.heap.size,args := #[] } :: a.defers } W' := by
 obtain ⟨D',β',vs,o,n,e1,e2,e3,e4,e5,e6,e7,e8,e9⟩ := hm
 obtain ⟨hE,_,_,_⟩ := clE
 refine wpIn_wide.2 ?_
 rw [cfZ_eq]
 refine wp_seq (wp_region_list ?_)
 have hkp' := e3.keeps hkp
 have ho : o = (clQ.enc (S := En.Dop.D4) yq 4).2.1 := by rw [e1]
 have hn : n = (clQ.enc (S := En.Dop.D4) yq 4).2.2 := by rw [e1]
 have hv := part_ok hE (w0 := W') (F := blocksOf o β') (D0 := D') (bn := 4) (β0 := β') (f0 := 3000) (k0 := [.ops cfZo cfZo.toList]) (s0 := ⟨[(2,.ptr 2 0),(5,.ptr 3 0)],o,n,17⟩)
  (Q := fun e a' w' => match e with
   | .normal => a'.defers = [] ∧ a'.tmps.getD 4 undef = .int .i64 yq.2.2.2.2.1.1 ∧ ∃ D2 β3,(∀ i,i < 4 → β3 i = β' i) ∧ GH W' (blocksOf o β') D' D2 o (· < n) β3 w'
   | _ => False) hkp' (fun _ _ _ _ _ h => h) e4 rfl (fun z hz => by
    simp only [List.mem_cons,List.not_mem_nil,or_false] at hz
    subst hz; trivial) (by
   subst ho; subst hn
   rw [cl_end]
   intro _ _ D2 β3 a' w' hag hg
   refine ⟨hg.defers,by rw [hg.tmps 4 (.v (.int .i64 yq.2.2.2.2.1.1)) rfl]; simp only [SV.den],D2,β3,hag,hg.gh⟩)
 have hl := hv D' β' { a with defers := [] } W' (fun _ _ => rfl) ⟨rfl,hsz,fun t x hx => ?_,fun t x hx => ?_,e3.base⟩
 ·simp only [List.map_cons,List.map_nil,AIt.it,after] at hl
  have hl2 := wpList_df (ds := [{ target := .collected W.heap.size,args := #[] }]) (Q' := Exit.then (Code.ret.wp Tryz.prog (nPan (bodyPostM Fence.wide 2 Tryz.prog fn (CPost (S := En.Dop.D4) Tryz.m136.c ((yq.2.2.2.2.1.1,()),(yq.2.1,yq.2.2.1,())) w D β o0)))) (nPan (bodyPostM Fence.wide 2 Tryz.prog fn (CPost (S := En.Dop.D4) Tryz.m136.c ((yq.2.2.2.2.1.1,()),(yq.2.1,yq.2.2.1,())) w D β o0)))) ?_ (fun _ _ _ h => h.elim) (fun ⟨_,_,h⟩ => h) hl
  ·rw [hd]; exact hl2
  ·rintro a' w' ⟨hd',hr,D2,β3,hag,hgh⟩
   refine wp_ret ?_
   obtain ⟨g1,g2⟩ := Mid.next e3 e2 e5 e6 e7 e8 e9 e1 hag hgh e4
   have hK' := (g1 W.heap.size (.inl rfl)).trans hK
   show LeavesInM _ _ _ _ _ _ _ _ _
   rw [hd']
   refine ⟨by simp,.inl ⟨_,_,rfl,run_takeDeferred hK',?_⟩⟩
   refine ⟨.int .i64 yq.2.2.2.2.1.1,by rw [← hr]; exact results_tmp hres _ _ _,?_⟩
   obtain ⟨D4,β4,vs4,o4,n4,f1,f2,f3,f4,_⟩ := g2.stable0 (.deferred none)
   rcases he : En.Spec.enc (S := En.Dop.D4) ⟨[.fd (.int .i64)],[CK.b0,CT.b1]⟩ ((yq.2.2.2.2.1.1,()),(yq.2.1,yq.2.2.1,())) 2 with ⟨rs,o5,n5⟩
   have ho4 : o4 = (clQ.enc (S := En.Dop.D4) yq 4).2.1 := by rw [f1]
   obtain ⟨ps,hps,hm0,hm1⟩ := cl_ret yq
   rw [← ho4] at hps
   obtain ⟨β5,b1,b2,b3,b4,b5,_⟩ := En.Spec.parse_ok f3 hps (by kernel_rfl) he
   have hrs : rs = [.v (.int .i64 yq.2.2.2.2.1.1)] := by
    have h : En.Spec.enc (S := En.Dop.D4) ⟨[.fd (.int .i64)],[CK.b0,CT.b1]⟩ ((yq.2.2.2.2.1.1,()),(yq.2.1,yq.2.2.1,())) 2 = ([.v (.int .i64 yq.2.2.2.2.1.1)],(En.Spec.enc (S := En.Dop.D4) ⟨[.fd (.int .i64)],[CK.b0,CT.b1]⟩ ((yq.2.2.2.2.1.1,()),(yq.2.1,yq.2.2.1,())) 2).2.1,(En.Spec.enc (S := En.Dop.D4) ⟨[.fd (.int .i64)],[CK.b0,CT.b1]⟩ ((yq.2.2.2.2.1.1,()),(yq.2.1,yq.2.2.1,())) 2).2.2) := by kernel_rfl
    rw [he] at h
    exact (Prod.mk.inj h).1
   refine ⟨_,β5,rs,o5,n5,he,?_,fun i hi => ?_,b2,b4,b5⟩
   ·rw [hrs]; simp only [resSV,SV.den]
   ·have hi2 : i < 2 := hi
    have hmi : lk ps.m i = some i := by
     match i,hi2 with
     | 0,_ => exact hm0
     | 1,_ => exact hm1
    rw [b1 i hi2 i hmi,f2 i (by omega),hβ i hi2]
 all_goals
  simp only [lk_cons] at hx
  split at hx
  ·rename_i he; subst he; cases hx
   first
    | (refine ⟨by show 2 < 17; omega,?_⟩; simp only [SV.on]; omega)
    | (rw [show ({ a with defers := [] } : Act).tmps.getD 2 undef = a.tmps.getD 2 undef from rfl,h2,← e2 2 (by omega)]; simp only [SV.den])
  ·split at hx
   ·rename_i he; subst he; cases hx
    first
     | (refine ⟨by show 5 < 17; omega,?_⟩; simp only [SV.on]; omega)
     | (rw [show ({ a with defers := [] } : Act).tmps.getD 5 undef = a.tmps.getD 5 undef from rfl,h5,← e2 3 (by omega)]; simp only [SV.den])
   ·simp [lk_nil] at hx
theorem callFunc_Bc (args : Array Value) (w : World) : (callFunc 146 args).run Tryz.prog w = .ok (.enter 146 args) w := run_callFunc (by kernel_rfl)
theorem Tryz.m136.holds : Tryz.m136.c.Holds Tryz.prog := by
 obtain ⟨hE,hbod,hokB,fn,hf,hb,hn',hres⟩ := clE
 refine ⟨hbod,hokB,fun h => (by cases h),fun x y hxy w D β vs o n he hg hon hn hiv => ?_⟩
 have hxy : Tryz.m136.R x = some y := hxy
 unfold Tryz.m136.R at hxy
 split at hxy
 case h_2 => cases hxy
 rename_i hl
 have hl := of_decide_eq_true hl
 obtain ⟨yq,hgo,hy⟩ := Option.bind_eq_some_iff.1 hxy
 cases hy
 have hkp : Keeps En.Dop.D4 w (blocksOf o β) D := ⟨hiv,fun k hk => ⟨hg.dlt k hk,fun ⟨i,b,hi,hik⟩ => hg.off i b k hi hik hk⟩⟩
 have hx : x = (((),x.1.2.1,()),x.2) := rfl
 have he' : En.Spec.enc (S := En.Dop.D4) ⟨[.al 0 0,.fd (.sl 0)],[CK.b0,CT.b1]⟩ (((),x.1.2.1,()),x.2) 2 = (vs,o,n) := he
 have hlen : vs.length = 2 := En.Spec.enc_length he
 refine VC.enterM (M := 0 + 3000) (bn := 2) hf hb hn' (by omega) hon hg ?_
 refine part_ok hE hkp (fun _ _ _ _ _ h => h) (k0 := [.code [] (bodyOf Tryz.prog 136)]) (s0 := ⟨inSlots 0 vs,o,n,17⟩) hn rfl (fun z hz => by
  simp only [List.mem_cons,List.not_mem_nil,or_false] at hz
  subst hz; rfl) ?_
 rw [Tryz.m136.part x.1.2.1 ((),x.2) vs o n he']
 intro _ _ D1 β1 a W hβ1 hg1
 simp only [List.map_cons,List.map_nil,AIt.it,after]
 obtain ⟨ps,hps,hp7,hpbl,hm1,hm2,hm0,hm01⟩ := cl_parse x.1.2.1 ((),x.2)
 rcases hq : clQ.enc (S := En.Dop.D4) ((),(x.2.1,x.2.2.1,((),()),(-1,()),())) 4 with ⟨vq,o2,n2⟩
 have he2 : En.Spec.enc (S := En.Dop.D4) ⟨[.al 2 0,.al 3 0],clQ.bx⟩ (((),(),()),(x.2.1,x.2.2.1,((),()),(-1,()),())) 4 = ([.ptr 2 0,.ptr 3 0],o2,n2) := by
  have h : En.Spec.enc (S := En.Dop.D4) ⟨[.al 2 0,.al 3 0],clQ.bx⟩ (((),(),()),(x.2.1,x.2.2.1,((),()),(-1,()),())) 4 = ([.ptr 2 0,.ptr 3 0],(clQ.enc (S := En.Dop.D4) ((),(x.2.1,x.2.2.1,((),()),(-1,()),())) 4).2.1,(clQ.enc (S := En.Dop.D4) ((),(x.2.1,x.2.2.1,((),()),(-1,()),())) 4).2.2) := by kernel_rfl
  rw [h,hq]
 obtain ⟨β2,b1,b2,_,_,b5,b6,b7,_,_⟩ := En.Spec.parse_ok hg1.gh hps (by kernel_rfl) he2
 have r1 := b1 2 (by omega) 17 hm1
 have r2 := b1 3 (by omega) 18 hm2
 have r0 := b1 0 (by omega) 0 hm0
 have r01 := b1 1 (by omega) 1 hm01
 obtain ⟨Bs,hBs,hBh⟩ := hg1.gh.own 19 _ (show lk (clS x.1.2.1 ((),x.2)).o 19 = some (.blk 66 [.h 2]) from rfl)
 obtain ⟨_,hrow⟩ := hg1.gh.own 2 _ (show lk (clS x.1.2.1 ((),x.2)).o 2 = some (.sl 0 x.1.2.1) by kernel_rfl)
 have hblk : (β1 19).blk = Bs := by unfold Nm.blk; rw [hBs]; rfl
 have hBs' : Bs < W.heap.size := (Array.getElem?_eq_some_iff.1 hBh).1
 have hgd := b2.addD (r := Bs) (fun i b hi hk => b6 19 _ i b Bs hp7 (by rw [hpbl]; simp) hi (Nm.has_of hBs) hk) hBs' (hg1.gh.fresh 19 _ Bs (show lk (clS x.1.2.1 ((),x.2)).o 19 = some (.blk 66 [.h 2]) from rfl) (Nm.has_of hBs))
 have hrd : ∀ W' : World,(∀ k,(Lent D1 β1 ps.bl k ∨ k = Bs) → W'.heap[k]? = W.heap[k]?) → BkRd Bs x.1.2.1 W' := fun W' hs => by
  have hc : W'.cell? ⟨Bs,0,none⟩ = some ((β1 2).sl) := by
   rw [World.cell?_of_block (w := W) (hs Bs (.inr rfl))]
   unfold World.cell?
   rw [hBh]
   simp [denL,SV.den]
  rcases row_ints hrow with ⟨h1,a',c,h2⟩ | ⟨b,off,cap,h2,h3,h4⟩
  ·exact .inl ⟨h1,a',c,by rw [hc,h2]⟩
  ·exact .inr ⟨b,off,cap,by rw [hc,h2],fun j hj => by rw [World.cell?_of_block (w := W) (hs b (.inl (.inl h3)))]; exact h4 j hj⟩
 have t2 : a.tmps.getD 2 undef = .pointer (some ⟨(β2 2).blk,0,none⟩) := by rw [hg1.tmps 2 (.ptr 17 0) rfl,r1]; simp only [SV.den]
 have t5 : a.tmps.getD 5 undef = .pointer (some ⟨(β2 3).blk,0,none⟩) := by rw [hg1.tmps 5 (.ptr 18 0) rfl,r2]; simp only [SV.den]
 have hsz : a.tmps.size = 17 := hg1.size
 have hgo' : Tryz.m136.go ((bwd x.1.2.1).map Prod.snd) ((),(x.2.1,x.2.2.1,((),()),(-1,()),())) = some yq := by rw [bwd_snd]; exact hgo
 refine wpIn_wide.2 (wpIn_wide.1 (range_law (gf := 146) (lb := #[.pointer (some ⟨Bs,0,none⟩)]) ?_ callFunc_Bc (Tryz.bk_iter Bs x.1.2.1 hl) (fun _ => rfl)
  (clI w W (blocksOf o β) D (fun k => Lent D1 β1 ps.bl k ∨ k = Bs) β2 ((),(x.2.1,x.2.2.1,((),()),(-1,()),()))) (fun _ _ _ => False) (fun pre W' ob ⟨y,h1,h2⟩ hlt => ⟨y,h1,Mid.stable y W' ob h2 hlt⟩) (fun _ _ _ _ h _ => h)
  (fun pre W' ⟨_,_,_,_,_,_,_,_,_,_,_,_,_,_,_,h9⟩ => hrd W' h9) (fun ob ob' => ⟨_,rfl,Mid.first hq hgd b5 (fun _ h => h) ob ob'⟩)
  (fun x' a' => a'.defers = [] ∧ a'.tmps.size = 17 ∧ a'.tmps.getD 2 undef = .pointer (some ⟨(β2 2).blk,0,none⟩) ∧ a'.tmps.getD 5 undef = .pointer (some ⟨(β2 3).blk,0,none⟩) ∧ a'.tmps.getD 7 undef = .int .i64 x'.2) ?_ ?_ ?_ ?_))
 ·rw [show a.eval (.tmp 9) = a.tmps.getD 9 undef from rfl,hg1.tmps 9 (.fn 146 [.ptr 19 0]) rfl]
  simp only [SV.den,denL,fnV_plain (show Nat.ble 1000000 146 = false from rfl),hblk]
 ·intro l x' W' K hK
  exact cl_assign hsz fun a' h1 h2 h3 h4 => hK a' ⟨h1,h2,by rw [h3 2 (by decide) (by decide) (by decide)]; exact t2,by rw [h3 5 (by decide) (by decide) (by decide)]; exact t5,h4⟩
 ·rintro pre x' rest a' W' hxs _ hI ⟨h1,h2,h3,h4,h5⟩
  exact cl_body hkp hgo' hxs hI h1 h2 h3 h4 h5 _
 ·rintro W' ⟨y,h1,h2⟩ hK
  rw [hgo'] at h1
  cases h1
  simp only [after,Exit.inBlock]
  exact cl_done hkp hres (fun i hi => by
   match i,hi with
   | 0,_ => rw [r0]; exact hβ1 0 (by omega)
   | 1,_ => rw [r01]; exact hβ1 1 (by omega)) h2 hg1.defers hsz t2 t5 hK
 ·exact fun _ _ _ _ h => h.elim
end Go.Proofs
