/-
 == between values of several cells (structs and arrays of integers, strings, truth values).
-/
import Derived.Test.YtkpokomghbhadaaGreatDoorEn2
namespace Go.En
open Go.RowKit
theorem beq_dec' {α : Type} [BEq α] [LawfulBEq α] [DecidableEq α] (a b : α) : (a == b) = decide (a = b) := by rw [Bool.eq_iff_iff]; simp
theorem run_size {P : Program} {e s : Nat} (h : (P.info? e).map (·.size) = some s) (w : World) : (sizeOf e).run P w = .ok s w := by
 cases hi : P.info? e with
 | none => simp [hi] at h
 | some i => simp only [hi,Option.map_some,Option.some.injEq] at h; simp [sizeOf,typeInfo,hi,h]
inductive LK where
 | int (k : IntKind)
 | bool
 | str
def kV : Value → Option LK
 | .int k _ => some (.int k)
 | .bool _ => some .bool
 | .string _ => some .str
 | _ => none
def eqB : Value → Value → Bool
 | .int _ a,.int _ b => decide (a = b)
 | .bool a,.bool b => a == b
 | .string ⟨⟨a⟩⟩,.string ⟨⟨b⟩⟩ => decide (a = b)
 | _,_ => false
def eqBs : List Value → List Value → Bool
 | x :: r,y :: q => eqB x y && eqBs r q
 | _,_ => true
def kindsV : List Value → List LK → Prop
 | [],[] => True
 | x :: r,k :: q => kV x = some k ∧ kindsV r q
 | _,_ => False
theorem kindsV_len : ∀ {l : List Value} {ks : List LK},kindsV l ks → l.length = ks.length
 | [],[],_ => rfl
 | _ :: _,_ :: _,h => by simp [kindsV_len h.2]
 | [],_ :: _,h => h.elim
 | _ :: _,[],h => h.elim
theorem kindsV_append : ∀ {l : List Value} {k1 k2 : List LK},kindsV l (k1 ++ k2) → kindsV (l.take k1.length) k1 ∧ kindsV (l.drop k1.length) k2
 | l,[],k2,h => by simpa [kindsV] using h
 | x :: r,k :: k1,k2,h => by
  obtain ⟨h1,h2⟩ := kindsV_append h.2
  exact ⟨⟨h.1,by simpa using h1⟩,by simpa using h2⟩
 | [],_ :: _,_,h => h.elim
theorem eqBs_append : ∀ (n : Nat) (l m : List Value),n ≤ l.length → n ≤ m.length → eqBs l m = (eqBs (l.take n) (m.take n) && eqBs (l.drop n) (m.drop n))
 | 0,l,m,_,_ => by simp [eqBs]
 | n + 1,x :: r,y :: q,h1,h2 => by
  simp only [List.length_cons] at h1 h2
  simp only [List.take_succ_cons,List.drop_succ_cons,eqBs]
  rw [eqBs_append n r q (by omega) (by omega),Bool.and_assoc]
 | n + 1,[],_,h1,_ => by simp at h1
 | n + 1,_ :: _,[],_,h2 => by simp at h2
def EqRun (P : Program) (d : Nat) (T : Nat) (ks : List LK) (ag : Bool) : Prop :=
 ∀ (xs ys : List Value) (w : World),kindsV xs ks → kindsV ys ks → (Op.equalIn d T (mkV ag xs) (mkV ag ys)).run P w = .ok (eqBs xs ys) w
section
variable {P : Program} {d T : Nat}
theorem kinds1 {xs : List Value} {k : LK} (h : kindsV xs [k]) : ∃ x,xs = [x] ∧ kV x = some k := by
 match xs,h with
 | [x],h => exact ⟨x,rfl,h.1⟩
theorem kV_int {x : Value} {k : IntKind} (h : kV x = some (.int k)) : ∃ n,x = .int k n := by
 cases x <;> simp [kV] at h
 subst h; exact ⟨_,rfl⟩
theorem kV_str {x : Value} (h : kV x = some .str) : ∃ n,x = .string ⟨⟨n⟩⟩ := by
 cases x <;> simp [kV] at h
 rename_i s; obtain ⟨⟨l⟩⟩ := s; exact ⟨l,rfl⟩
theorem eqrun_int {k : IntKind} (h : P.underlying T = some (.int k)) : EqRun P (d + 1) T [.int k] false := fun xs ys w h1 h2 => by
 obtain ⟨x,rfl,hx⟩ := kinds1 h1
 obtain ⟨y,rfl,hy⟩ := kinds1 h2
 obtain ⟨n,rfl⟩ := kV_int hx
 obtain ⟨m,rfl⟩ := kV_int hy
 simp [mkV,Op.equalIn,run_underlying h,beq_dec',eqBs,eqB]
theorem eqrun_str (h : P.underlying T = some .string) : EqRun P (d + 1) T [.str] false := fun xs ys w h1 h2 => by
 obtain ⟨x,rfl,hx⟩ := kinds1 h1
 obtain ⟨y,rfl,hy⟩ := kinds1 h2
 obtain ⟨n,rfl⟩ := kV_str hx
 obtain ⟨m,rfl⟩ := kV_str hy
 have e : ((⟨⟨n⟩⟩ : ByteArray) == ⟨⟨m⟩⟩) = decide (n = m) := by
  rw [beq_toListBytes,ByteArray.toList_eq,ByteArray.toList_eq]; exact beq_dec' n m
 simp [mkV,Op.equalIn,run_underlying h,eqBs,eqB,e]
inductive FldEq (P : Program) (d : Nat) : List Field → Nat → List LK → Prop where
 | nil {off : Nat} : FldEq P d [] off []
 | cons {f : Field} {r : List Field} {off : Nat} {ks ls : List LK} {ag : Bool} (hn : f.name ≠ "_") (ho : f.offset = off) (hs : (P.info? f.type).map (·.size) = some ks.length)
   (ha : ∀ w,(isAgg f.type).run P w = .ok ag w) (hag : ag = false → ks.length = 1) (h : EqRun P d f.type ks ag) (hr : FldEq P d r (off + ks.length) ls) : FldEq P d (f :: r) off (ks ++ ls)
theorem run_part_v {t : Nat} {xs : List Value} {off n : Nat} {ag : Bool} {w : World} (ha : ∀ w,(isAgg t).run P w = .ok ag w) (hs : (P.info? t).map (·.size) = some n) (hag : ag = false → n = 1) (hl : off + n ≤ xs.length) :
  (part t xs.toArray off).run P w = .ok (mkV ag ((xs.drop off).take n)) w := by
 unfold part
 rw [Sem.run_bind,ha w,Result.andThen_ok]
 cases ag with
 | true =>
  have e : xs.toArray.extract off (off + n) = ((xs.drop off).take n).toArray := by apply Array.ext'; simp
  simp only [if_true,Sem.run_bind,run_size hs,Result.andThen_ok,Sem.run_pure,mkV,e]
 | false =>
  have h1 := hag rfl
  subst h1
  have h2 : off < xs.length := by omega
  have h3 : (xs.drop off).take 1 = [xs[off]] := by
   rw [List.drop_eq_getElem_cons h2]; rfl
  simp [h2,mkV,h3]
theorem fldEq_run : ∀ {fs : List Field} {off : Nat} {ks : List LK},FldEq P d fs off ks → ∀ (xs ys : List Value) (w : World),kindsV (xs.drop off) ks → kindsV (ys.drop off) ks →
  (Op.eqFields d xs.toArray ys.toArray fs).run P w = .ok (eqBs (xs.drop off) (ys.drop off)) w
 | [],off,_,.nil,xs,ys,w,h1,h2 => by
  have h3 := kindsV_len h1
  have h4 := kindsV_len h2
  simp only [List.length_nil] at h3 h4
  rw [List.eq_nil_of_length_eq_zero h3,List.eq_nil_of_length_eq_zero h4]
  simp [Op.eqFields,eqBs]
 | f :: r,off,_,.cons (ks := ks) (ls := ls) (ag := ag) hn ho hs ha hag h hr,xs,ys,w,h1,h2 => by
  have h3 := kindsV_len h1
  have h4 := kindsV_len h2
  simp only [List.length_append,List.length_drop] at h3 h4
  obtain ⟨h5,h6⟩ := kindsV_append h1
  obtain ⟨h7,h8⟩ := kindsV_append h2
  rw [List.drop_drop] at h6 h8
  have ih := fldEq_run hr xs ys w h6 h8
  by_cases hk : ks.length = 0
  ·have hks := List.eq_nil_of_length_eq_zero hk
   subst hks
   have hag' : ag = true := by cases ag <;> simp_all
   subst hag'
   have p1 : (part f.type xs.toArray off).run P w = .ok (mkV true []) w := by
    unfold part
    rw [Sem.run_bind,ha w,Result.andThen_ok]
    simp [run_size hs,mkV]
   have p2 : (part f.type ys.toArray off).run P w = .ok (mkV true []) w := by
    unfold part
    rw [Sem.run_bind,ha w,Result.andThen_ok]
    simp [run_size hs,mkV]
   have e := h [] [] w trivial trivial
   simp only [List.length_nil,Nat.add_zero] at ih
   simp only [Op.eqFields,if_pos hn,Sem.run_bind,ho,p1,p2,Result.andThen_ok,e,eqBs,Bool.not_true,Bool.false_eq_true,if_false]
   exact ih
  ·have p1 := run_part_v (P := P) (w := w) (xs := xs) (off := off) ha hs hag (by omega)
   have p2 := run_part_v (P := P) (w := w) (xs := ys) (off := off) ha hs hag (by omega)
   have e := h _ _ w h5 h7
   rw [eqBs_append ks.length (xs.drop off) (ys.drop off) (by simp only [List.length_drop]; omega) (by simp only [List.length_drop]; omega)]
   simp only [Op.eqFields,if_pos hn,Sem.run_bind,ho,p1,p2,Result.andThen_ok,e]
   cases hb : eqBs ((xs.drop off).take ks.length) ((ys.drop off).take ks.length)
   ·simp
   ·simp only [Bool.not_true,Bool.false_eq_true,if_false,Bool.true_and]
    rw [List.drop_drop,List.drop_drop]
    exact ih
theorem eqrun_struct {fs : Array Field} {ks : List LK} (h : P.underlying T = some (.struct fs)) (hp : P.stoodInHeld T = false) (hf : FldEq P d fs.toList 0 ks) : EqRun P (d + 1) T ks true := fun xs ys w h1 h2 => by
 have hfs : P.fieldsOf T = fs := by simp [Program.fieldsOf,h]
 simp only [mkV,if_true]
 rw [run_equalIn_struct w d T _ _ (by rw [hfs]; exact h) hp,hfs]
 have := fldEq_run hf xs ys w (by simpa using h1) (by simpa using h2)
 simpa using this
def repK : Nat → List LK → List LK
 | 0,_ => []
 | n + 1,l => l ++ repK n l
theorem eqrun_array {len e : Nat} {ks : List LK} {ag : Bool} (h : P.underlying T = some (.array len e)) (hs : (P.info? e).map (·.size) = some ks.length) (ha : ∀ w,(isAgg e).run P w = .ok ag w) (hag : ag = false → ks.length = 1) (hr : EqRun P d e ks ag) :
  EqRun P (d + 1) T (repK len ks) true := fun xs ys w h1 h2 => by
 simp only [mkV,if_true,Op.equalIn,Sem.run_bind,run_underlying h,Result.andThen_ok,run_size hs]
 have key : ∀ (m k : Nat) (w : World),k + m = len → kindsV (xs.drop (k * ks.length)) (repK m ks) → kindsV (ys.drop (k * ks.length)) (repK m ks) →
   ((forIn (List.range' k m) (none,PUnit.unit) fun i (r : Option Bool × PUnit) => do
    let a ← part e xs.toArray (i * ks.length)
    let b ← part e ys.toArray (i * ks.length)
    let c ← Op.equalIn d e a b
    if (!c) = true then pure (ForInStep.done (some false,PUnit.unit)) else pure (ForInStep.yield (none,PUnit.unit)) : Sem (Option Bool × PUnit))).run P w =
   .ok (if eqBs (xs.drop (k * ks.length)) (ys.drop (k * ks.length)) then none else some false,PUnit.unit) w := by
  intro m
  induction m with
  | zero =>
   intro k w hk h3 h4
   have h5 := kindsV_len h3
   have h6 := kindsV_len h4
   simp only [repK,List.length_nil] at h5 h6
   rw [List.eq_nil_of_length_eq_zero h5,List.eq_nil_of_length_eq_zero h6]
   simp [eqBs]
  | succ m ih =>
   intro k w hk h3 h4
   have h5 := kindsV_len h3
   have h6 := kindsV_len h4
   simp only [repK,List.length_append,List.length_drop] at h5 h6
   obtain ⟨h7,h8⟩ := kindsV_append h3
   obtain ⟨h9,h10⟩ := kindsV_append h4
   rw [List.drop_drop] at h8 h10
   have e1 : k * ks.length + ks.length = (k + 1) * ks.length := (Nat.succ_mul k ks.length).symm
   rw [e1] at h8 h10
   have ih' := ih (k + 1) w (by omega) h8 h10
   have hlx : ks.length ≤ (xs.drop (k * ks.length)).length := by simp only [List.length_drop]; omega
   have hly : ks.length ≤ (ys.drop (k * ks.length)).length := by simp only [List.length_drop]; omega
   rw [eqBs_append ks.length _ _ hlx hly,List.drop_drop,List.drop_drop,e1]
   have p : ∀ zs : List Value,ks.length ≤ (zs.drop (k * ks.length)).length → ∀ w,(part e zs.toArray (k * ks.length)).run P w = .ok (mkV ag ((zs.drop (k * ks.length)).take ks.length)) w := fun zs hz w => by
    by_cases hk0 : ks.length = 0
    ·have hag' : ag = true := by cases ag <;> simp_all
     subst hag'
     unfold part
     rw [Sem.run_bind,ha w,Result.andThen_ok]
     simp [run_size hs,mkV,hk0]
    ·simp only [List.length_drop] at hz
     exact run_part_v ha hs hag (by omega)
   have e2 := hr _ _ w h7 h9
   simp only [List.range'_succ,List.forIn_cons,Sem.run_bind,p xs hlx,p ys hly,Result.andThen_ok,e2]
   cases hb : eqBs ((xs.drop (k * ks.length)).take ks.length) ((ys.drop (k * ks.length)).take ks.length)
   ·simp
   ·simp only [Bool.not_true,Bool.false_eq_true,if_false,Sem.run_pure,Result.andThen_ok,Bool.true_and]
    exact ih'
 have := key len 0 w (by omega) (by simpa using h1) (by simpa using h2)
 simp only [Nat.zero_mul,List.drop_zero] at this
 simp only [Std.Legacy.Range.forIn_eq_forIn_range',Std.Legacy.Range.size]
 have hr0 : (len - 0 + 1 - 1) / 1 = len := by rw [Nat.div_one]; omega
 rw [hr0]
 erw [this]
 cases eqBs xs ys <;> simp
end
structure EqOk (P : Program) (T : Nat) (ks : List LK) : Prop where
 run : EqRun P Op.maxDepth T ks true
 guard : P.eqGuardType P.depth T = false
end Go.En
