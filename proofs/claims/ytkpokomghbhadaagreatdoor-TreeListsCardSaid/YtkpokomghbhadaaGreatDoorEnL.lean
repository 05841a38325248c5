/-
 Contracts of functions that have no body of the program's own to be gone through here (the library's): out of what their calls come to.
-/
import Derived.Test.YtkpokomghbhadaaGreatDoorEn14
namespace Go.En
open Go.RowKit
section
variable {S : Sig} {P : Program}
theorem lib_ctr {f : Nat} {sp rs : Spec} {out : Out (sp.D S) (rs.D S)} (hb : bodied P f = true) (hok : sp.okB 0 = true) (hpl : rs.plain S = true)
  {A : sp.D S → Array Value} (hA : ∀ x,∃ vs,sp.enc x 0 = (vs,[],0) ∧ ∀ β,(denL β vs).toArray = A x)
  {B : rs.D S → Value} (hB : ∀ y,∃ rs',rs.enc y 0 = (rs',[],0) ∧ (∀ β,(resSV rs').den β = B y) ∧ onL (· < 0) rs')
  (hc : ∀ x y,out.gives x y → ∀ w D,S.inv D w → Calls P f (A x) w fun e w' => e = .returned (B y) ∧ Below w.heap.size w w') :
  Ctr.Holds P ⟨f,0,sp,rs,true,out⟩ := by
 refine ⟨hb,hok,fun _ => hpl,fun x y hxy w D β vs o n he hg hon hn hiv => ?_⟩
 obtain ⟨vs',h1,h2⟩ := hA x
 rw [h1] at he
 simp only [Prod.mk.injEq] at he
 obtain ⟨rfl,rfl,rfl⟩ := he
 rw [h2]
 refine (hc x y hxy w D hiv).mono fun e w' ⟨h3,h4⟩ => ?_
 obtain ⟨rs',h5,h6,h7⟩ := hB y
 exact ⟨D,β,rs',[],0,h5,by rw [h3,h6],fun _ _ => rfl,hg.step h4,h7,Nat.le_refl _⟩
variable {f : Nat} (hb : bodied P f = true)
include hb
theorem lib_ss_b {g : List UInt8 → List UInt8 → Bool} {p : List UInt8 → List UInt8 → Bool} (hc : ∀ a b w D,p a b = true → S.inv D w → Calls P f #[.string ⟨⟨a⟩⟩,.string ⟨⟨b⟩⟩] w fun e w' => e = .returned (.bool (g a b)) ∧ Below w.heap.size w w') :
  Ctr.Holds (S := S) P ⟨f,0,⟨[.fd .str,.fd .str],[]⟩,⟨[.fd .bool],[]⟩,true,.pre (fun x => p x.1.1 x.1.2.1) fun x => ((g x.1.1 x.1.2.1,()),())⟩ :=
 lib_ctr hb rfl rfl (A := fun x => #[.string ⟨⟨x.1.1⟩⟩,.string ⟨⟨x.1.2.1⟩⟩]) (fun _ => ⟨_,rfl,fun _ => rfl⟩) (B := fun y => .bool y.1.1) (fun _ => ⟨_,rfl,fun _ => rfl,trivial,trivial⟩)
  (fun x y h w D hiv => by obtain ⟨h1,rfl⟩ := h; exact hc _ _ w D h1 hiv)
theorem lib_ss_i {g : List UInt8 → List UInt8 → Int} {p : List UInt8 → List UInt8 → Bool} (hc : ∀ a b w D,p a b = true → S.inv D w → Calls P f #[.string ⟨⟨a⟩⟩,.string ⟨⟨b⟩⟩] w fun e w' => e = .returned (.int .i64 (g a b)) ∧ Below w.heap.size w w') :
  Ctr.Holds (S := S) P ⟨f,0,⟨[.fd .str,.fd .str],[]⟩,⟨[.fd (.int .i64)],[]⟩,true,.pre (fun x => p x.1.1 x.1.2.1) fun x => ((g x.1.1 x.1.2.1,()),())⟩ :=
 lib_ctr hb rfl rfl (A := fun x => #[.string ⟨⟨x.1.1⟩⟩,.string ⟨⟨x.1.2.1⟩⟩]) (fun _ => ⟨_,rfl,fun _ => rfl⟩) (B := fun y => .int .i64 y.1.1) (fun _ => ⟨_,rfl,fun _ => rfl,trivial,trivial⟩)
  (fun x y h w D hiv => by obtain ⟨h1,rfl⟩ := h; exact hc _ _ w D h1 hiv)
theorem lib_sc_i {g : List UInt8 → Int → Int} {p : List UInt8 → Int → Bool} (hc : ∀ a b w D,p a b = true → S.inv D w → Calls P f #[.string ⟨⟨a⟩⟩,.int .u8 b] w fun e w' => e = .returned (.int .i64 (g a b)) ∧ Below w.heap.size w w') :
  Ctr.Holds (S := S) P ⟨f,0,⟨[.fd .str,.fd (.int .u8)],[]⟩,⟨[.fd (.int .i64)],[]⟩,true,.pre (fun x => p x.1.1 x.1.2.1) fun x => ((g x.1.1 x.1.2.1,()),())⟩ :=
 lib_ctr hb rfl rfl (A := fun x => #[.string ⟨⟨x.1.1⟩⟩,.int .u8 x.1.2.1]) (fun _ => ⟨_,rfl,fun _ => rfl⟩) (B := fun y => .int .i64 y.1.1) (fun _ => ⟨_,rfl,fun _ => rfl,trivial,trivial⟩)
  (fun x y h w D hiv => by obtain ⟨h1,rfl⟩ := h; exact hc _ _ w D h1 hiv)
theorem lib_s_s {g : List UInt8 → List UInt8} {p : List UInt8 → Bool} (hc : ∀ a w D,p a = true → S.inv D w → Calls P f #[.string ⟨⟨a⟩⟩] w fun e w' => e = .returned (.string ⟨⟨g a⟩⟩) ∧ Below w.heap.size w w') :
  Ctr.Holds (S := S) P ⟨f,0,⟨[.fd .str],[]⟩,⟨[.fd .str],[]⟩,true,.pre (fun x => p x.1.1) fun x => ((g x.1.1,()),())⟩ :=
 lib_ctr hb rfl rfl (A := fun x => #[.string ⟨⟨x.1.1⟩⟩]) (fun _ => ⟨_,rfl,fun _ => rfl⟩) (B := fun y => .string ⟨⟨y.1.1⟩⟩) (fun _ => ⟨_,rfl,fun _ => rfl,trivial,trivial⟩)
  (fun x y h w D hiv => by obtain ⟨h1,rfl⟩ := h; exact hc _ w D h1 hiv)
theorem lib_s_os {τ : Nat} {E : TypeId} (emb : List UInt8 → S.T τ) (hemb : ∀ x,S.enc τ (emb x) = [.str x]) {g : List UInt8 → List (List UInt8)} {p : List UInt8 → Bool} (hlen : ∀ a,p a = true → (g a).length ≤ maxLen)
  (hc : ∀ a w D,p a = true → S.inv D w → Calls P f #[.string ⟨⟨a⟩⟩] w fun e w' => e = .returned (.slice (some ⟨w.heap.size,0,none⟩) (g a).length (g a).length) ∧ w' = w.alloc (.cells ((g a).map fun l => Value.string ⟨⟨l⟩⟩).toArray E)) :
  Ctr.Holds (S := S) P ⟨f,0,⟨[.fd .str],[]⟩,⟨[.own τ E],[]⟩,false,.pre (fun x => p x.1.1) fun x => (((g x.1.1).map emb,()),())⟩ := by
 have hsz : S.sz τ = 1 := by have := S.enc_length τ (emb []); rw [hemb] at this; exact this.symm
 refine ⟨hb,rfl,fun h => (by cases h),fun x y hxy w D β vs o n he hg hon hn hiv => ?_⟩
 obtain ⟨vs',h1,h2⟩ : ∃ vs,Spec.enc (S := S) ⟨[.fd .str],[]⟩ x 0 = (vs,[],0) ∧ ∀ β,(denL β vs).toArray = #[.string ⟨⟨x.1.1⟩⟩] := ⟨_,rfl,fun _ => rfl⟩
 rw [h1] at he
 simp only [Prod.mk.injEq] at he
 obtain ⟨rfl,rfl,rfl⟩ := he
 rw [h2]
 obtain ⟨hp,rfl⟩ := hxy
 refine (hc _ w D hp hiv).mono fun e w' ⟨h3,h4⟩ => ?_
 subst h4
 have hflat : ∀ l : List (List UInt8),S.flat τ (l.map emb) = l.map fun x => FC.str x := by
  intro l
  induction l with
  | nil => rfl
  | cons a r ih => simp only [List.map_cons,Sig.flat,List.flatMap_cons,hemb] at ih ⊢; rw [ih]; rfl
 obtain ⟨β',b1,b2,b3⟩ := hg.alloc (b := .tr τ E ((g x.1.1).map emb)) (ob := .cells ((g x.1.1).map fun l => Value.string ⟨⟨l⟩⟩).toArray E) (len := (g x.1.1).length) (cap := (g x.1.1).length) (n := 0) (by omega) trivial (fun β' _ _ => by
  refine ⟨by simp,(g x.1.1).map fun l => Value.string ⟨⟨l⟩⟩,⟨by simp [hsz],.inr ⟨w.heap.size,(g x.1.1).length,((g x.1.1).map fun l => Value.string ⟨⟨l⟩⟩).toArray,by simp,Nat.zero_le _,?_,by simp,hlen _ hp,by simp [hsz],?_⟩⟩,?_⟩
  ·show (w.heap.push _)[w.heap.size]? = _
   simp
  ·rw [hsz]; simp only [Nat.mul_one,List.length_map]; exact List.take_of_length_le (by simp)
  ·rw [hflat]
   refine ⟨by simp,fun i f v hf hv => ?_⟩
   rw [List.getElem?_map] at hf hv
   cases hgi : (g x.1.1)[i]? with
   | none => rw [hgi] at hf; simp at hf
   | some a =>
    rw [hgi] at hf hv
    simp only [Option.map_some,Option.some.injEq] at hf hv
    subst hf hv
    exact .str a)
 refine ⟨D,β',[.tr 0],[(0,.tr τ E ((g x.1.1).map emb))],1,rfl,?_,fun i hi => absurd hi (by omega),by rw [lt_or_eq] at b3; exact b3,⟨Nat.zero_lt_one,trivial⟩,by omega⟩
 rw [h3]
 simp [resSV,SV.den,b2]
end
end Go.En
