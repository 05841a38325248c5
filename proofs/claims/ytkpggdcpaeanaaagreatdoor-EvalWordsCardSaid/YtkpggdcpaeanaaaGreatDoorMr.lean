/- A function of which a part is gone through by hand: from one cut to another one (Jump). Its model, its equations, that it is a contract. -/
import Derived.Test.YtkpggdcpaeanaaaGreatDoorMh
import Derived.Test.YtkpggdcpaeanaaaGreatDoorMq
namespace Go.En
open Go.RowKit
section
variable {S : Sig}
structure Jump (E : Env S) where
 c1 : Nat
 c2 : Nat
 q1 : Cut
 q2 : Cut
 h1 : lk E.cuts c1 = some q1
 h2 : lk E.cuts c2 = some q2
 g : q1.sp.D S → Option (q2.sp.D S)
def Jump.Ok (P : Program) {E : Env S} (J : Jump E) : Prop :=
 ∀ (Q : Exit → Act → World → Prop) (w0 : World) (F D0 : Nat → Prop) (β0 : Nat → Nm) (M : Nat) (x : J.q1.sp.D S) (y : J.q2.sp.D S),Keeps S w0 F D0 → (∀ c a d v w,Q (.panic c) (a.put d v) w → Q (.panic c) a w) → J.g x = some y → CutVC P Q w0 F D0 β0 M E J.q2 y → CutVC P Q w0 F D0 β0 M E J.q1 x
def Env.stepJ (E : Env S) (f0 : Nat) (J : Jump E) (c : Nat) (x : E.ι c) : Tr E.ι E.ρ :=
 if h : c = J.c1 then .bnd (J.g (unCut E J.c1 J.q1 J.h1 (h ▸ x))) fun y => .cut J.c2 (mkCut E J.c2 J.q2 J.h2 y) else E.step f0 c x
theorem Env.stepJ_jump {E : Env S} {f0 : Nat} {J : Jump E} (x : J.q1.sp.D S) : E.stepJ f0 J J.c1 (mkCut E J.c1 J.q1 J.h1 x) = .bnd (J.g x) fun y => .cut J.c2 (mkCut E J.c2 J.q2 J.h2 y) := by
 unfold Env.stepJ
 rw [dif_pos rfl]
 simp only [unCut_mk]
theorem Env.stepJ_mk {E : Env S} {f0 c : Nat} {J : Jump E} (hc : c ≠ J.c1) {q : Cut} (h : lk E.cuts c = some q) (x : q.sp.D S) : E.stepJ f0 J c (mkCut E c q h x) = startC E f0 q x := by
 unfold Env.stepJ
 rw [dif_neg hc,Env.step_mk]
variable {P : Program}
theorem fun_callsJ {E : Env S} (hE : E.Ok P) {J : Jump E} (hJ : J.Ok P) {f : FuncId} {fn : Func} {sp : Spec} (hf : P.funcs[f]? = some fn) (hb : fn.body = some E.body) (hn : fn.ntmps = E.sz) (hres : fn.results.toList = E.res) (hsz : sp.as.length ≤ E.sz) {f0 : Nat}
  {n : Nat} {x : sp.D S} {y : E.rs.D S} (h : (start0 E f0 sp x).eval (trun (E.stepJ f0 J) n) = some y) {flat : Bool} {w : World} {D : Nat → Prop} {β : Nat → Nm} {vs : List SV} {o : List (Nat × Own S)} {m : Nat} {out : Out (sp.D S) (E.rs.D S)} (he : sp.enc x E.bn = (vs,o,m)) (hg : GH w (blocksOf o β) D D o (· < m) β w) (hon : onL (· < m) vs) (hiv : S.inv D w) :
  Calls P f (denL β vs).toArray w (CPost ⟨f,E.bn,sp,E.rs,flat,out⟩ y w D β o) := by
 have hkp : Keeps S w (blocksOf o β) D := ⟨hiv,fun k hk => ⟨hg.dlt k hk,fun ⟨i,b,hi,hik⟩ => hg.off i b k hi hik hk⟩⟩
 have hr : ∀ y',y' = y → RetOk w (blocksOf o β) D E β (CPost ⟨f,E.bn,sp,E.rs,flat,out⟩ y w D β o) y' := by
  rintro y' rfl D' β' w' ws o' n' he' hβ hgh hon' hn'
  exact ⟨D',β',ws,o',n',he',rfl,hβ,hgh,hon',hn'⟩
 have key : ∀ n k q (h : lk E.cuts k = some q) (x : q.sp.D S),trun (E.stepJ f0 J) n k (mkCut E k q h x) = some y → CutVC P (bodyPost P fn (CPost ⟨f,E.bn,sp,E.rs,flat,out⟩ y w D β o)) w (blocksOf o β) D β (n * f0) E q x := by
  intro n
  induction n with
  | zero => intro k q h x hx; simp [trun] at hx
  | succ n ih =>
   intro k q h x hx
   by_cases hk1 : k = J.c1
   ·subst hk1
    have hq : q = J.q1 := by have := J.h1; rw [h] at this; cases this; rfl
    subst hq
    simp only [trun] at hx
    rw [Env.stepJ_jump] at hx
    simp only [Tr.eval] at hx
    obtain ⟨z,hz,hx⟩ := Option.bind_eq_some_iff.1 hx
    have := hJ _ _ _ _ _ _ x z hkp panicOk hz (ih J.c2 J.q2 J.h2 z hx)
    intro ks ws o' n' hk hq
    exact VC.more (by rw [Nat.succ_mul]; omega) (this ks ws o' n' hk hq)
   intro ks ws o' n' hk hq
   simp only [trun] at hx
   rw [Env.stepJ_mk hk1] at hx
   obtain ⟨_,h3,_,_⟩ := hE.cuts k q h
   have h2 := Tr.holds_of_eval hx
   unfold startC at h2
   rw [hk] at h2
   simp only [hq] at h2
   have := exec_sound hE (Kc := fun c x => trun (E.stepJ f0 J) n c x = some y) (Kr := (· = y)) f0 (fr := ⟨true,E.dr⟩) (frOk hkp hE hres hr (fun c q' h' x' hx' => ih c q' h' x' hx')) true ks ⟨q.ts.zip ws,o',n',E.sz⟩ (Nat.le_trans h3 (Spec.enc_le hq)) rfl (ofKeys_ok hk) h2
   rw [Nat.succ_mul]
   exact this
 have h2 := Tr.holds_of_eval h
 unfold start0 at h2
 rw [he] at h2
 have hvc := exec_sound hE (Kc := fun c x => trun (E.stepJ f0 J) n c x = some y) (Kr := (· = y)) f0 (fr := ⟨true,E.dr⟩) (frOk hkp hE hres hr (fun c q' h' x' hx' => key n c q' h' x' hx')) false [.code [] E.body] ⟨inSlots 0 vs,o,m,E.sz⟩ (Spec.enc_le he) rfl (fun z hz => by
  simp only [List.mem_cons,List.not_mem_nil,or_false] at hz
  subst hz
  rfl) h2
 exact VC.enter hf hb hn (by rw [Spec.enc_length he]; exact hsz) hon hg hvc
end
end Go.En
/- Functions of the seat, lifted: plan, model, contract, equations. Written by a program (Lift) that ran the layer's evaluation; Lean checks each line. -/
set_option maxRecDepth 100000
set_option maxHeartbeats 4000000
namespace Go.Proofs.Tryz
open Go Go.En
@[reducible] def m78.q9 : Cut := ⟨[[0,0,0,0,1,0,1,1,1,1,1,1,1,1],[0,1,0,0,1,0,1,1,1,1,1,1,1,1],[2,0,0,1,0,1,1,1,1,1,1,1,1],[1,0],[0,1,1,1,1,1,1,1,1,1]],[0,4,6,89,90,91],3,⟨[.al 0 0,.al 2 0,.own 0 3,.own 0 3,.fd (.int .i64),.fd (.int .i64)],[CK.b0,CT.b1,⟨2,56,[.st 5],false⟩]⟩⟩
@[reducible] def m78.q24 : Cut := ⟨[[0,0,1,1,1,1,1,1,1,1,1,1,1],[0,1,1,1,1,1,1,1,1,1,1,1,1]],[0,6,15],2,⟨[.al 0 0,.own 0 3,.fd (.int .i64)],[CK.b0,CT.b1]⟩⟩
@[reducible] def m78.q32 : Cut := ⟨[[0,1,1,1,1,1,1,1,1,1,1,1,1,1,1]],[0,6,15],2,⟨[.al 0 0,.own 0 3,.fd (.int .i64)],[CK.b0,CT.b1]⟩⟩
def m78.p : Pln := ⟨[(9,m78.q9),(24,m78.q24),(32,m78.q32)],2,⟨[.al 0 0,.st 5,.fd (.int .i64)],[CH.b0,CT.b1]⟩,⟨[],[CK.b0,CT.b1]⟩,false,[(1,⟨[(0,true),(1,true),(2,true),(3,false),(4,true),(5,true),(6,true),(7,true),(8,false),(9,true),(10,false),(11,false),(12,true),(13,true),(14,true)],[15,16,17,18],[0,0,0,4,12,0,32,96,224,0,512,2016,4064,4093,12285,28669,65535,131071,262143],false⟩),(5,⟨[(0,true),(1,true),(2,true),(3,true),(4,false),(5,true),(6,false),(7,false),(8,true),(9,false),(10,true),(11,true),(12,true)],[13],[0,0,2,6,14,0,32,126,254,510,1023,2047,4095,8191],false⟩),(8,⟨[(0,true),(1,true),(2,true),(3,false),(4,true),(5,false),(6,false),(7,false),(8,true)],[],[0,1,3,7,0,16,63,127,0],true⟩),(12,⟨[(0,true),(1,true),(2,true),(3,false),(4,true),(5,false),(6,false),(7,true),(8,true),(9,false),(10,false),(11,true)],[],[0,1,3,7,0,16,63,127,0,511,1023,2047],false⟩),(13,⟨[(0,true),(1,true),(2,true),(3,false),(4,true),(5,false),(6,false),(7,true)],[],[0,1,3,7,0,16,63,127],false⟩),(14,⟨[(0,true),(1,true),(2,true),(3,false),(4,false),(5,false),(6,true),(7,false),(8,false),(9,true),(10,true),(11,true),(12,false)],[13,14],[0,1,3,7,15,31,0,64,255,511,1023,1023,0,6143,16383],false⟩),(17,⟨[(0,true),(1,true),(2,true),(3,false),(4,false),(5,false),(6,true),(7,false),(8,true),(9,true),(10,true)],[11],[0,1,3,7,15,31,0,64,0,0,768,2047],false⟩),(33,⟨[(0,true),(1,true),(2,true),(3,true),(4,true),(5,false),(6,true),(7,true),(8,true),(9,false),(10,false)],[11,12,13,14,15],[0,0,2,6,14,30,0,64,192,448,960,2046,4095,8191,16383,32767],false⟩)],[]⟩
theorem m78.ok : plnOk En.Dop.D4 prog 78 m78.p = true := by kernel_rfl
end Go.Proofs.Tryz
