/-
 A law that has a contract answers as its row says: the arguments are read (EnO), the contract tells true of all data that can be, and what was there stays as it was.
-/
import Derived.Test.YtkpokomghbhadaaGreatDoorEnO
namespace Go.En
open Go.RowKit Go.ChangeShapes Go.WideShapes
section
variable {S : Sig}
def RngA (S : Sig) : (as : List Pat) → PT S as → Prop
 | [],_ => True
 | .fd f :: r,x => Rng S (f.fc x.1) ∧ RngA S r x.2
 | .st τ :: r,x => (∀ f ∈ S.enc τ x.1,Rng S f) ∧ RngA S r x.2
 | _ :: r,x => RngA S r x.2
def isSt : Option TypeDesc → Bool
 | some (.struct _) => true
 | some (.array _ _) => true
 | _ => false
def isOne : Option TypeDesc → Bool
 | some (.int _) => true
 | some .bool => true
 | some .string => true
 | some (.slice _) => true
 | _ => false
def asB (S : Sig) (P : Program) (n : Nat) : List Pat → List TypeId → Bool
 | [],[] => true
 | .fd f :: r,t :: ts => isOne (P.underlying t) && tyB S P n t [f] && asB S P n r ts
 | .st τ :: r,t :: ts => isSt (P.underlying t) && tyB S P n t (S.fds τ) && asB S P n r ts
 | _,_ => false
variable {H : Type} {enc : TypeId × Value → H} {P : Program} {w : World} {spare : Nat → Bool} {held : Bool}
theorem cells_one {t : TypeId} {v : Value} {r : Reach} {b : Nat} (ht : isOne (P.underlying t) = true) (h : Value.okWide P w r b t v) : v.cells.toList = [v] := by
 unfold isOne at ht
 split at ht
 ·rename_i k hu; obtain ⟨n,rfl⟩ := okWide_int hu h; simp [Value.cells]
 ·rename_i hu; obtain ⟨n,rfl⟩ := okWide_bool hu h; simp [Value.cells]
 ·rename_i hu; obtain ⟨n,rfl⟩ := okWide_string hu h; simp [Value.cells]
 ·rename_i e hu; obtain ⟨a,n,c,rfl⟩ := okWide_slice hu h; simp [Value.cells]
 ·cases ht
theorem cells_st {t : TypeId} {v : Value} {r : Reach} {b : Nat} (ht : isSt (P.underlying t) = true) (h : Value.okWide P w r b t v) : ∃ cs,v = .agg cs := by
 unfold isSt at ht
 split at ht
 ·rename_i k hu; simp only [Value.okWide,hu] at h; obtain ⟨cs,h1,_⟩ := h; exact ⟨cs,h1⟩
 ·rename_i k e hu; simp only [Value.okWide,hu] at h; obtain ⟨cs,h1,_⟩ := h; exact ⟨cs,h1⟩
 ·cases ht
theorem fits_gh {F D0 D : Nat → Prop} (hD : D = (· < w.heap.size)) {fds : List Fd} {vs : List Value} (h : Fits S w fds vs) {n : Nat} {o : List (Nat × Own S)} {β : Nat → Nm} (hg : GH w F D0 D o (· < n) β w) :
  ∃ p : Ps S.T fds,(∀ f ∈ fcs fds p,Rng S f) ∧ ∀ cs o' n',unfc (fcs fds p) n o = (cs,o',n') → ∃ β',(∀ i,i < n → β i = β' i) ∧ GH w F D0 D o' (· < n') β' w ∧ denL β' cs = vs ∧ onL (· < n') cs ∧ n ≤ n' := by
 subst hD
 obtain ⟨l,⟨p,rfl⟩,h2,h3⟩ := h
 exact ⟨p,h3,fun cs o' n' hu => unfc_ok h2 hg hu⟩
theorem open_args {N : Nat} {D0 F : Nat → Prop} {D : Nat → Prop} (hD : D = (· < w.heap.size)) {r : Reach} {b : Nat} : ∀ (as : List Pat) (ts : List TypeId) (vs : List Value) (ds : List (DataW H)) (ps : List MemPlace),asB S P N as ts = true → DataW.TrodAll enc P w 0 spare held ts vs ds ps →
  (∀ (j : Nat) t v,ts[j]? = some t → vs[j]? = some v → Value.okWide P w r b t v) → (∀ z ∈ DataW.weightsEach P ts ds,z ≤ reachBytes) → ∀ (n : Nat) (o : List (Nat × Own S)) (β : Nat → Nm),GH w F D0 D o (· < n) β w →
  ∃ (x : PT S as) (cs : List SV) (o' : List (Nat × Own S)) (n' : Nat) (β' : Nat → Nm),encAs as x n o = (cs,o',n') ∧ GH w F D0 D o' (· < n') β' w ∧ denL β' cs = vs ∧ onL (· < n') cs ∧ (∀ i,i < n → β i = β' i) ∧ n ≤ n' ∧ RngA S as x
 | [],[],[],_,_,_,_,_,_,n,o,β,hg => ⟨(),[],o,n,β,rfl,hg,by simp [denL],trivial,fun _ _ => rfl,Nat.le_refl _,trivial⟩
 | [],[],_ :: _,[],_,_,h,_,_,n,o,β,hg => by simp [DataW.TrodAll] at h
 | [],[],_ :: _,_ :: _,_,_,h,_,_,n,o,β,hg => by simp [DataW.TrodAll] at h
 | [],_ :: _,_,_,_,h,_,_,_,_,_,_,_ => by simp [asB] at h
 | p :: _,[],_,_,_,h,_,_,_,_,_,_,_ => by cases p <;> simp [asB] at h
 | p :: q,t :: ts,[],ds,_,_,h,_,_,_,_,_,_ => by simp [DataW.TrodAll] at h
 | p :: q,t :: ts,v :: vs,[],_,_,h,_,_,_,_,_,_ => by simp [DataW.TrodAll] at h
 | p :: q,t :: ts,v :: vs,d :: ds,ps,h,ha,hv,hz,n,o,β,hg => by
  have hd : Light P t d := light_each hz 0 t d rfl rfl
  have hzr : ∀ z ∈ DataW.weightsEach P ts ds,z ≤ reachBytes := fun z h => hz z (by simp only [DataW.weightsEach]; exact List.mem_append_right _ h)
  obtain ⟨p1,p2,⟨fuel,h1⟩,h2,_⟩ := ha
  have hv0 := hv 0 t v rfl rfl
  have hvr : ∀ (j : Nat) t v,ts[j]? = some t → vs[j]? = some v → Value.okWide P w r b t v := fun j t v h1 h2 => hv (j + 1) t v (by simpa using h1) (by simpa using h2)
  cases p with
  | fd f =>
   simp only [asB,Bool.and_eq_true] at h
   obtain ⟨⟨k1,k2⟩,k3⟩ := h
   rw [cells_one k1 hv0] at h1
   obtain ⟨y,hy,hu⟩ := fits_gh hD (open_ty N t [f] [v] fuel _ k2 h1 hd) hg
   rcases hE : unfc (fcs [f] y) n o with ⟨cs1,o1,n1⟩
   obtain ⟨β1,b1,b2,b3,b4,b5⟩ := hu _ _ _ hE
   obtain ⟨x,cs,o',n',β',e1,e2,e3,e4,e5,e6,e7⟩ := open_args hD q ts vs ds p2 k3 h2 hvr hzr n1 o1 β1 b2
   have hlen : cs1.length = 1 := by have := congrArg List.length b3; rw [denL_length] at this; simpa using this
   match cs1,hlen with
   | [c],_ =>
    have hon : c.on (· < n1) := by simpa [onL] using b4
    refine ⟨(y.1,x),c :: cs,o',n',β',?_,e2,?_,?_,fun i hi => (b1 i hi).trans (e5 i (by omega)),by omega,?_⟩
    ·have hE' : unfc [f.fc y.1] n o = ([c],o1,n1) := hE
     simp only [encAs,encP,hE',e1,Pat.val]
    ·simp only [denL] at b3 ⊢
     rw [← den_congr (fun i hi => e5 i hi) c hon,e3]
     simp only [List.cons.injEq,and_true] at b3
     rw [b3]
    ·simp only [onL]
     exact ⟨on_mono (fun i hi => Nat.lt_of_lt_of_le hi e6) hon,e4⟩
    ·exact ⟨hy _ (by simp [fcs]),e7⟩
  | st τ =>
   simp only [asB,Bool.and_eq_true] at h
   obtain ⟨⟨k1,k2⟩,k3⟩ := h
   obtain ⟨ca,rfl⟩ := cells_st k1 hv0
   have hcl : (Value.agg ca).cells.toList = ca.toList := by simp [Value.cells]
   rw [hcl] at h1
   obtain ⟨y,hy,hun⟩ := fits_gh hD (open_ty N t (S.fds τ) ca.toList fuel _ k2 h1 hd) hg
   rcases hE : unfc (fcs (S.fds τ) y) n o with ⟨cs1,o1,n1⟩
   obtain ⟨β1,b1,b2,b3,b4,b5⟩ := hun _ _ _ hE
   obtain ⟨x,cs,o',n',β',e1,e2,e3,e4,e5,e6,e7⟩ := open_args hD q ts vs ds p2 k3 h2 hvr hzr n1 o1 β1 b2
   have hen : S.enc τ (S.of τ y) = fcs (S.fds τ) y := by unfold Sig.enc; rw [S.to_of]
   refine ⟨(S.of τ y,x),.agg cs1 :: cs,o',n',β',?_,e2,?_,?_,fun i hi => (b1 i hi).trans (e5 i (by omega)),by omega,?_⟩
   ·simp only [encAs,encP,hen,hE,e1,Pat.val]
   ·simp only [denL,SV.den]
    rw [← denL_congr (fun i hi => e5 i hi) cs1 b4,e3,b3]
   ·simp only [onL,SV.on]
    exact ⟨onL_mono (fun i hi => Nat.lt_of_lt_of_le hi e6) b4,e4⟩
   ·exact ⟨fun f hf => hy f (by rw [← hen]; exact hf),e7⟩
  | _ => simp [asB] at h
theorem law_calls {N : Nat} {f : Nat} {as : List Pat} {flat : Bool} {m : Spec.D S ⟨as,[]⟩ → Option (Spec.D S ⟨[.fd .bool],[]⟩)} (hc : Ctr.Holds P ⟨f,0,⟨as,[]⟩,⟨[.fd .bool],[]⟩,flat,.opt m⟩) (hm : ∀ x : PT S as,RngA S as x → m (x,()) = some ((true,()),()))
  {ts : List TypeId} {args : Array Value} {ds : List (DataW H)} {ps : List MemPlace} {r : Reach} {b : Nat} (hty : asB S P N as ts = true) (ha : DataW.TrodAll enc P w 0 spare held ts args.toList ds ps) (hv : ∀ (j : Nat) t v,ts[j]? = some t → args.toList[j]? = some v → Value.okWide P w r b t v) (hz : ∀ z ∈ DataW.weightsEach P ts ds,z ≤ reachBytes) (hiv : S.inv (· < w.heap.size) w) :
  Calls P f args w fun e w' => e = .returned (.bool true) ∧ Below w.heap.size w w' := by
 have hg0 : GH w (fun _ => False) (· < w.heap.size) (· < w.heap.size) ([] : List (Nat × Own S)) (· < 0) (fun _ => ⟨none,0,0,undef⟩) w :=
  ⟨fun i b h => by simp [lk_nil] at h,fun i b h => by simp [lk_nil] at h,fun i j b c k h => by simp [lk_nil] at h,fun i b k h => by simp [lk_nil] at h,fun i b k h => by simp [lk_nil] at h,fun i b k h => by simp [lk_nil] at h,fun k h => h,fun k h => .inl h,Frm.refl _ _,fun _ h => h⟩
 obtain ⟨x,cs,o,n,β,e1,e2,e3,e4,_,_,e7⟩ := open_args rfl as ts args.toList ds ps hty ha hv hz 0 [] _ hg0
 have hno : ∀ k,¬ blocksOf o β k := fun k ⟨i,b,h1,h2⟩ => by
  rcases e2.fresh i b k h1 h2 with h | h
  ·have := e2.lt i b k h1 h2; omega
  ·exact h
 have hg : GH w (blocksOf o β) (· < w.heap.size) (· < w.heap.size) o (· < n) β w :=
  ⟨e2.wfo,e2.own,e2.inj,fun i b k h1 h2 => .inr ⟨i,b,h1,h2⟩,e2.off,e2.lt,e2.dlt,fun k h => .inl h,Frm.refl _ _,fun _ h => h⟩
 have hen : Spec.enc (S := S) ⟨as,[]⟩ (x,()) 0 = (cs,o,n) := by simp only [Spec.enc,e1,encBx]
 have := hc.calls (x,()) ((true,()),()) (hm x e7) w (· < w.heap.size) β cs o n hen hg e4 (Nat.zero_le _) hiv
 rw [e3,Array.toArray_toList] at this
 refine this.mono fun e w' h => ?_
 obtain ⟨D',β',rs',o',n',h1,h2,_,h4,_,_⟩ := h
 have h1' : Spec.enc (S := S) ⟨[.fd .bool],[]⟩ ((true,()),()) 0 = ([.b true],[],0) := rfl
 rw [h1'] at h1
 simp only [Prod.mk.injEq] at h1
 obtain ⟨rfl,_,_⟩ := h1
 refine ⟨by rw [h2]; rfl,?_⟩
 exact ⟨h4.fr.os,h4.fr.tape,h4.fr.output,h4.fr.size,fun k hk => h4.fr.block k hk (hno k)⟩
theorem trodAll_below (hl : laidOutB P = true) {W W' : World} (hb : Below W.heap.size W W') : ∀ {ts : List TypeId} {vs : List Value} {ds : List (DataW H)} {ps : List MemPlace},(ts.all fun t => P.readableRec t && decide (t < P.types.size)) = true → DataW.TrodAll enc P W 0 (fun _ => true) true ts vs ds ps → (∀ x ∈ ps,x.block < W.heap.size) →
  DataW.TrodAll enc P W' 0 (fun b => decide (b < W.heap.size)) true ts vs ds ps
 | [],[],[],_,_,h,_ => h
 | [],[],_ :: _,_,_,h,_ => by simp [DataW.TrodAll] at h
 | [],_ :: _,[],_,_,h,_ => by simp [DataW.TrodAll] at h
 | [],_ :: _,_ :: _,_,_,h,_ => by simp [DataW.TrodAll] at h
 | _ :: _,[],_,_,_,h,_ => by simp [DataW.TrodAll] at h
 | _ :: _,_ :: _,[],_,_,h,_ => by simp [DataW.TrodAll] at h
 | t :: ts,v :: vs,d :: ds,ps,hr,h,hlt => by
  obtain ⟨p,q,h1,h2,rfl⟩ := h
  simp only [List.all_cons,Bool.and_eq_true,decide_eq_true_eq] at hr
  exact ⟨p,q,Below.trod hl hr.1.1 hr.1.2 h1 hb fun x hx => hlt x (List.mem_append_left _ hx),trodAll_below hl hb hr.2 h2 fun x hx => hlt x (List.mem_append_right _ hx),rfl⟩
theorem trodAll_len : ∀ {ts : List TypeId} {vs : List Value} {ds : List (DataW H)} {ps : List MemPlace},DataW.TrodAll enc P w 0 spare held ts vs ds ps → ds.length = ts.length
 | [],[],[],_,_ => rfl
 | [],[],_ :: _,_,h => by simp [DataW.TrodAll] at h
 | [],_ :: _,[],_,h => by simp [DataW.TrodAll] at h
 | [],_ :: _,_ :: _,_,h => by simp [DataW.TrodAll] at h
 | _ :: _,[],_,_,h => by simp [DataW.TrodAll] at h
 | _ :: _,_ :: _,[],_,h => by simp [DataW.TrodAll] at h
 | _ :: ts,_ :: vs,_ :: ds,_,h => by
  obtain ⟨_,_,_,h2,_⟩ := h
  simp [trodAll_len h2]
theorem each_app {z : Nat} : ∀ {ts : List TypeId} {ds : List (DataW H)} (us : List TypeId) (es : List (DataW H)),z ∈ DataW.weightsEach P ts ds → z ∈ DataW.weightsEach P (ts ++ us) (ds ++ es)
 | [],_,_,_,h => by simp [DataW.weightsEach] at h
 | _ :: _,[],_,_,h => by simp [DataW.weightsEach] at h
 | t :: ts,d :: ds,us,es,h => by
  simp only [DataW.weightsEach,List.cons_append] at h ⊢
  rcases List.mem_append.1 h with h | h
  ·exact List.mem_append_left _ h
  ·exact List.mem_append_right _ (each_app us es h)
theorem law_contract {s : ChangeSpec} {fn : Func} {f t N : Nat} {as : List Pat} {flat : Bool} {m : Spec.D S ⟨as,[]⟩ → Option (Spec.D S ⟨[.fd .bool],[]⟩)} (hc : Ctr.Holds P ⟨f,0,⟨as,[]⟩,⟨[.fd .bool],[]⟩,flat,.opt m⟩) (hm : ∀ x : PT S as,RngA S as x → m (x,()) = some ((true,()),()))
  (hl : laidOutB P = true) (hty : asB S P N as fn.params.toList = true) (hrd : (fn.params.toList.all fun t => P.readableRec t && decide (t < P.types.size)) = true) (hres : fn.resultTypes = #[t]) (ht : P.underlying t = some .bool) (hvars : s.vars = [])
  (hs : ∀ ds : List (DataW H),ds.length = fn.params.toList.length → s.fn H ds = { results := [.lit (.bool true)],args := ds })
  {W : World} {base : Nat} {args : Array Value} {ds gs : List (DataW H)} {before : List MemPlace} (hval : ∀ (j : Nat) t v,fn.params[j]? = some t → args[j]? = some v → Value.okWide P W .any base t v)
  (hW : DataW.Whole enc P fn.params.toList s.vars false W args.toList ds gs before) (hz : (DataW.weightsEach P (fn.params.toList ++ s.plain.varTypes P) (ds ++ gs)).all (· ≤ reachBytes) = true) (hiv : S.inv (· < W.heap.size) W) :
  Calls P f args W fun e W' => ∃ v,e = .returned v ∧ s.post enc P fn false true false false W args v W' := by
 have hW' := hW
 obtain ⟨p,q,hA,hV,rfl,hfz,hnd⟩ := hW
 rw [hvars] at hV
 obtain ⟨rfl,rfl⟩ := trodVars_none hV
 refine (law_calls (N := N) hc hm hty hA (fun j t v h1 h2 => hval j t v (by simpa using h1) (by simpa using h2)) (fun z h => of_decide_eq_true (List.all_eq_true.1 hz z (each_app _ _ h))) hiv).mono fun e W' ⟨he,hb⟩ => ?_
 refine ⟨_,he,ds,[],p ++ [],[],p,[],hW',?_,?_,?_,hb.frame _,fun h => by cases h⟩
 ·rw [List.append_nil,hs ds (trodAll_len hA),hres]
  exact ⟨[],[],shut_bool ht true,rfl,rfl⟩
 ·rw [List.append_nil,hs ds (trodAll_len hA)]
  exact trodAll_below hl hb hrd hA fun x hx => hW'.lt x (by simp [hx])
 ·rw [hvars,List.append_nil,hs ds (trodAll_len hA)]
  rfl
end
end Go.En
