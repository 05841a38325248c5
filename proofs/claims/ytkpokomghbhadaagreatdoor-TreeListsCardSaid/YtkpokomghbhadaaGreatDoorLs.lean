/-
 parser.list: a range over slices.Backward, as a contract.
-/
import Derived.Test.YtkpokomghbhadaaGreatDoorBk
import Derived.Test.YtkpokomghbhadaaGreatDoorLfB
set_option maxRecDepth 100000
namespace Go.Proofs
open Go Go.En Go.RowKit
@[reducible] def pbS : Box := bxB
def Tryz.m34.p : Pln := ⟨[],1,⟨[.al 0 0,.fd (.sl 0)],[pbS]⟩,⟨[.fd (.int .i64)],[pbS]⟩,false,[(5,⟨[(0,true),(1,false),(2,true),(3,false),(4,true)],[5,1000008],[0,0,1,5,15,31],false⟩)],[(66,[])]⟩
noncomputable def Tryz.m34.E : Env En.Dop.D4 := envOf Tryz.prog 34 Tryz.tb [Tryz.m67.c,Tryz.m57.c,Tryz.m64.c] Tryz.m34.p
theorem Tryz.m34.ok : plnOk En.Dop.D4 Tryz.prog 34 Tryz.m34.p = true := by kernel_rfl
noncomputable def codeAt (body : Code) (a : List Nat) : Code := match atA body a with
 | some c => c
 | none => .skip
@[reducible] def lsQ : En.Spec := ⟨[],[pbS,⟨1,75,[.al 0 0],false⟩,⟨2,3,[.fd (.int .i64)],false⟩]⟩
@[reducible] def lsB : En.Spec := ⟨[.al 1 0,.al 2 0,.fd (.int .i64)],[pbS,⟨1,75,[.al 0 0],false⟩,⟨2,3,[.fd (.int .i64)],false⟩]⟩
noncomputable def Tryz.m34.step (x : Int) (y : En.Spec.D En.Dop.D4 lsQ) : Option (En.Spec.D En.Dop.D4 lsQ) :=
 (bodyT Tryz.m34.E 3000 [1,0,1,0,1,1] (codeAt (bodyOf Tryz.prog 34) [1,0,1,0,1,1]) lsB lsQ [2,5,7] 3 (((),(),x,()),y.2)).eval (fun _ _ => none)
theorem Tryz.m34.step_eq (x : Int) (l : List Dop.Tok) (at_ : Int) (N : List Dop.Nde) (T : List Dop.Typ) (top deep e when_ out : Int) :
  Tryz.m34.step x ((),((l,at_,N,T,top,deep,e,when_,()),((),()),(out,()),())) =
   (Tryz.m67 x l at_ N T top deep e when_).bind fun y =>
   (Tryz.m57 20 y.1.1).bind fun z =>
   (Tryz.m64 (Dop.Nde.mk z.1.1.kind x out z.1.1.c z.1.1.d z.1.1.text z.1.1.n z.1.1.type_ z.1.1.at_) y.2.1.1 y.2.1.2.1 y.2.1.2.2.1 y.2.1.2.2.2.1 y.2.1.2.2.2.2.1 y.2.1.2.2.2.2.2.1 y.2.1.2.2.2.2.2.2.1 y.2.1.2.2.2.2.2.2.2.1).bind fun v =>
   some ((),(v.2.1,((),()),(v.1.1,()),())) := by kernel_rfl
@[reducible] noncomputable def rfA : Code := codeAt (bodyOf Tryz.prog 34) [0,0,1,0,1,1]
@[reducible] noncomputable def rfB : Code := codeAt (bodyOf Tryz.prog 34) [1,0,1,0,1,1]
@[reducible] noncomputable def rfZ : Code := codeAt (bodyOf Tryz.prog 34) [1,1,1]
noncomputable def Tryz.m34.go : List Int → En.Spec.D En.Dop.D4 lsQ → Option (En.Spec.D En.Dop.D4 lsQ)
 | [],y => some y
 | x :: r,y => (Tryz.m34.step x y).bind (Tryz.m34.go r)
theorem Tryz.m34.go_app : ∀ (l r : List Int) (y : En.Spec.D En.Dop.D4 lsQ),Tryz.m34.go (l ++ r) y = (Tryz.m34.go l y).bind (Tryz.m34.go r)
 | [],r,y => rfl
 | x :: l,r,y => by
  simp only [List.cons_append,Tryz.m34.go]
  cases Tryz.m34.step x y with
  | none => rfl
  | some z => exact Tryz.m34.go_app l r z
noncomputable def Tryz.m34.R (x : En.Spec.D En.Dop.D4 Tryz.m34.p.sp) : Option (En.Spec.D En.Dop.D4 Tryz.m34.p.rs) :=
 match decide (x.1.2.1.length < 9223372036854775807) with
 | true => (Tryz.m34.go x.1.2.1.reverse ((),(x.2.1,((),()),(-1,()),()))).bind fun y => some ((y.2.2.2.1.1,()),(y.2.1,()))
 | false => none
noncomputable def Tryz.m34.c : Ctr En.Dop.D4 := ⟨34,Tryz.m34.p.bn,Tryz.m34.p.sp,Tryz.m34.p.rs,Tryz.m34.p.flat,.opt Tryz.m34.R⟩
noncomputable def lsS (l : List Int) (x : En.Spec.D En.Dop.D4 ⟨[],[pbS]⟩) : St En.Dop.D4 := match En.Spec.enc (S := En.Dop.D4) ⟨[.al 0 0,.fd (.sl 0)],[pbS]⟩ (((),l,()),x.2) 1 with
 | (_,o,_) => ⟨[(0,.ptr 0 0),(1,.h 1),(2,.ptr 5 0),(4,.v (.int .i64 0)),(5,.ptr 6 0),(9,.h 1),(10,.fn 85 [.ptr 7 0])],(7,.blk 30 [.h 1]) :: (6,.blk 3 [.v (.int .i64 (-1))]) :: (5,.blk 75 [.ptr 0 0]) :: o,8,25⟩
theorem Tryz.m34.part (l : List Int) (x : En.Spec.D En.Dop.D4 ⟨[],[pbS]⟩) (vs : List SV) (o : List (Nat × En.Own En.Dop.D4)) (n : Nat) (h : En.Spec.enc (S := En.Dop.D4) ⟨[.al 0 0,.fd (.sl 0)],[pbS]⟩ (((),l,()),x.2) 1 = (vs,o,n)) :
  partT Tryz.m34.E 3000 [.code [] (bodyOf Tryz.prog 34)] ⟨inSlots 0 vs,o,n,25⟩ = .ret ([.code [0,1,0,1,1] (.rangeFunc (.tmp 10) #[11,12] rfA rfB),.blk 0,.code [1,1,1] rfZ],lsS l x) := by
 cases h
 kernel_rfl
noncomputable def rfAo : Oper := match rfA with
 | .region _ ⟨o :: _⟩ _ => o
 | _ => default
theorem rfA_eq : rfA = .region 3 #[rfAo] false := by kernel_rfl
theorem rfAo_op : rfAo.op = .assign (.tmp 12) := by kernel_rfl
theorem rfAo_dst : rfAo.dst = some 7 := by kernel_rfl
theorem rfAo_guard : rfAo.guard = none := by kernel_rfl
noncomputable def rfZo : Array Oper := match rfZ with
 | .seq (.region _ o _) _ => o
 | _ => #[]
theorem rfZ_eq : rfZ = .seq (.region 7 rfZo false) .ret := by kernel_rfl
theorem rfB_at : atA (bodyOf Tryz.prog 34) [1,0,1,0,1,1] = some rfB := by kernel_rfl
theorem rf_nd : noDefB (bodyOf Tryz.prog 34) = true := by kernel_rfl
theorem bwd_snd (l : List Int) : (bwd l).map Prod.snd = l.reverse := by
 apply List.ext_getElem
 ·simp [bwd,upto]
 ·intro i h1 h2
  have h3 : i < l.length := by simpa using h2
  simp [bwd,upto,List.getElem_reverse,List.getElem?_eq_getElem (show l.length - 1 - i < l.length by omega)]
theorem flat_int (l : List Int) : En.Dop.D4.flat 0 l = l.map fun n => FC.int .i64 n := by
 induction l with
 | nil => rfl
 | cons x r ih => exact congrArg (FC.int .i64 x :: ·) ih
theorem row_ints {w : World} {D : Nat → Prop} {l : List Int} {v : Value} (h : CellOk En.Dop.D4 w D (.sl 0 l) v) : (l = [] ∧ ∃ a c,v = .slice a 0 c) ∨ ∃ b off cap,v = .slice (some ⟨b,off,none⟩) l.length cap ∧ D b ∧ ∀ j,j < l.length → w.cell? ⟨b,off + j,none⟩ = some (.int .i64 (l[j]?.getD 0)) := by
 cases h with
 | nil σ a c => exact .inl ⟨rfl,a,c,rfl⟩
 | sl σ l b off c vs hb hlc hc hv =>
  refine .inr ⟨b,off,c,rfl,hb,fun j hj => ?_⟩
  have hf : (En.Dop.D4.flat 0 l)[j]? = some (.int .i64 l[j]) := by rw [flat_int]; simp [hj]
  rw [hc j _ hf]
  have := hv j _ hf
  cases hvj : vs j <;> rw [hvj] at this <;> cases this
  simp [hj]
theorem ls_parse (l : List Int) (x : En.Spec.D En.Dop.D4 ⟨[],[pbS]⟩) : ∃ ps,En.Spec.parse (S := En.Dop.D4) ⟨[.al 1 0,.al 2 0],lsQ.bx⟩ true [.ptr 5 0,.ptr 6 0] (lsS l x).o (idm 1) 3 = some ((((),(),()),(x.2.1,((),()),(-1,()),())),ps) ∧ lk ps.o 7 = some (.blk 30 [.h 1]) ∧ ps.bl = [] ∧ lk ps.m 1 = some 5 ∧ lk ps.m 2 = some 6 ∧ lk ps.m 0 = some 0 :=
 ⟨⟨(7,.blk 30 [.h 1]) :: (2,.sl 4 x.2.1.1) :: (1,.sl 0 l) :: [],[(2,6),(1,5),(0,0)],[],3⟩,by kernel_rfl,by kernel_rfl,by kernel_rfl,by kernel_rfl,by kernel_rfl,by kernel_rfl⟩
theorem ls_end (y : En.Spec.D En.Dop.D4 lsQ) : partT Tryz.m34.E 3000 [.ops rfZo rfZo.toList] ⟨[(2,.ptr 1 0),(5,.ptr 2 0)],(lsQ.enc (S := En.Dop.D4) y 3).2.1,(lsQ.enc (S := En.Dop.D4) y 3).2.2,25⟩ =
  .ret ([],⟨[(2,.ptr 1 0),(5,.ptr 2 0),(24,.v (.int .i64 y.2.2.2.1.1)),(4,.v (.int .i64 y.2.2.2.1.1))],(lsQ.enc (S := En.Dop.D4) y 3).2.1,(lsQ.enc (S := En.Dop.D4) y 3).2.2,25⟩) := by kernel_rfl
theorem ls_ret (y : En.Spec.D En.Dop.D4 lsQ) : ∃ ps,En.Spec.parse (S := En.Dop.D4) ⟨[.fd (.int .i64)],[pbS]⟩ true [.v (.int .i64 y.2.2.2.1.1)] (lsQ.enc (S := En.Dop.D4) y 3).2.1 (idm 1) 1 = some (((y.2.2.2.1.1,()),(y.2.1,())),ps) ∧ lk ps.m 0 = some 0 :=
 ⟨⟨(2,.blk 3 [.v (.int .i64 y.2.2.2.1.1)]) :: (1,.blk 75 [.ptr 0 0]) :: (3,.sl 4 y.2.1.1) :: [],[(0,0)],[],1⟩,by kernel_rfl,by kernel_rfl⟩
end Go.Proofs
