/-
  Layer 17, plain: a term's key, what is laid into the store, and that a key tells its term.
-/
import Derived.Test.YtpjjpcgnogpdmaaDoorLfA
namespace Go.Proofs.Law
open Go Go.En Go.Proofs

theorem I_eq (n : Nat) : I n = (n : Int) := rfl
theorem I_lt {a b : Nat} (h : a < b) : I a < I b := by simp only [I_eq]; omega
theorem I_nlt (a : Nat) : ¬ I a < I a := by simp only [I_eq]; omega
theorem I_nn (a : Nat) : (0 : Int) ≤ I a := by simp only [I_eq]; omega
theorem I_nat (a : Nat) : (I a).toNat = a := Int.toNat_natCast a
theorem I_s (a : Nat) : I a + 1 = I (a + 1) := by simp only [I_eq]; omega
theorem I_in {a b : Nat} (h : a < b) (hb : b < 1000000) : inR (I (a + 1)) = true := by rw [inR_iff]; simp only [I_eq]; omega
theorem drop_get {α : Type} {s : List α} {k : Nat} (d : α) (h : k < s.length) : s.drop k = s.getD k d :: s.drop (k + 1) := by
  rw [List.drop_eq_getElem_cons h]; simp [List.getD, h]
theorem room_s (bs n : Nat) (h : n * (bs + 1) ≤ 140737488355328) : room bs n = true := by simp only [room, decide_eq_true_eq]; exact h
theorem nDig (n : Nat) : ∀ k, n < 10 ^ (k + 1) → (Lib.decDigits n).length ≤ k + 1 := by
  intro k hk
  rw [Lib.decDigits_length]
  induction k generalizing n with
  | zero => rw [Lib.nDigits_small (by omega)]; exact Nat.le_refl _
  | succ k ih =>
    by_cases h : n < 10
    · rw [Lib.nDigits_small h]; omega
    · rw [Lib.nDigits_big h]
      have := ih (n / 10) (by rw [Nat.pow_succ] at hk; omega)
      omega
/-- A number of 64 bits. -/
def I64 (n : Int) : Prop := -9223372036854775808 ≤ n ∧ n ≤ 9223372036854775807
theorem itoa_len (n : Int) (h : I64 n) : (Lib.itoa n).length ≤ 21 := by
  unfold I64 at h
  unfold Lib.itoa
  split
  · have := nDig n.natAbs 19 (by omega)
    simp only [List.length_cons]; omega
  · have := nDig n.toNat 19 (by omega)
    omega

/-- The operations' names. -/
def opT : List (List UInt8) := Lib.fields (((97 : UInt8) :: (100 : UInt8) :: (100 : UInt8) :: (32 : UInt8) :: (115 : UInt8) :: (117 : UInt8) :: (98 : UInt8) :: (32 : UInt8) :: (109 : UInt8) :: (117 : UInt8) :: (108 : UInt8) :: (32 : UInt8) :: (100 : UInt8) :: (105 : UInt8) :: (118 : UInt8) :: (32 : UInt8) :: (114 : UInt8) :: (101 : UInt8) :: (109 : UInt8) :: (32 : UInt8) :: (100 : UInt8) :: (105 : UInt8) :: (118 : UInt8) :: (117 : UInt8) :: (32 : UInt8) :: (114 : UInt8) :: (101 : UInt8) :: (109 : UInt8) :: (117 : UInt8) :: (32 : UInt8) :: (97 : UInt8) :: (110 : UInt8) :: (100 : UInt8) :: (32 : UInt8) :: (111 : UInt8) :: (114 : UInt8) :: (32 : UInt8) :: (120 : UInt8) :: (111 : UInt8) :: (114 : UInt8) :: (32 : UInt8) :: (115 : UInt8) :: (104 : UInt8) :: (108 : UInt8) :: (32 : UInt8) :: @List.nil UInt8).append ((115 : UInt8) :: (104 : UInt8) :: (114 : UInt8) :: (32 : UInt8) :: (115 : UInt8) :: (104 : UInt8) :: (114 : UInt8) :: (117 : UInt8) :: (32 : UInt8) :: (101 : UInt8) :: (113 : UInt8) :: (32 : UInt8) :: (110 : UInt8) :: (101 : UInt8) :: (32 : UInt8) :: (108 : UInt8) :: (116 : UInt8) :: (32 : UInt8) :: (108 : UInt8) :: (101 : UInt8) :: (32 : UInt8) :: (108 : UInt8) :: (116 : UInt8) :: (117 : UInt8) :: (32 : UInt8) :: (108 : UInt8) :: (101 : UInt8) :: (117 : UInt8) :: (32 : UInt8) :: (110 : UInt8) :: (101 : UInt8) :: (103 : UInt8) :: (32 : UInt8) :: (110 : UInt8) :: (111 : UInt8) :: (116 : UInt8) :: (32 : UInt8) :: (108 : UInt8) :: (111 : UInt8) :: (119 : UInt8) :: (32 : UInt8) :: (122 : UInt8) :: (101 : UInt8) :: (114 : UInt8) :: (111 : UInt8) :: @List.nil UInt8))
def opNm (k : Nat) : List UInt8 := opT.getD (k - 1) []
theorem opNm_v : ∀ k : Nat, 1 ≤ k → k ≤ 23 → Tryd.m39 (k : Int) = some ((opNm k, ()), ())
  | 1, _, _ => Tryd.m39_eq _ |>.trans (by kernel_rfl)
  | 2, _, _ => Tryd.m39_eq _ |>.trans (by kernel_rfl)
  | 3, _, _ => Tryd.m39_eq _ |>.trans (by kernel_rfl)
  | 4, _, _ => Tryd.m39_eq _ |>.trans (by kernel_rfl)
  | 5, _, _ => Tryd.m39_eq _ |>.trans (by kernel_rfl)
  | 6, _, _ => Tryd.m39_eq _ |>.trans (by kernel_rfl)
  | 7, _, _ => Tryd.m39_eq _ |>.trans (by kernel_rfl)
  | 8, _, _ => Tryd.m39_eq _ |>.trans (by kernel_rfl)
  | 9, _, _ => Tryd.m39_eq _ |>.trans (by kernel_rfl)
  | 10, _, _ => Tryd.m39_eq _ |>.trans (by kernel_rfl)
  | 11, _, _ => Tryd.m39_eq _ |>.trans (by kernel_rfl)
  | 12, _, _ => Tryd.m39_eq _ |>.trans (by kernel_rfl)
  | 13, _, _ => Tryd.m39_eq _ |>.trans (by kernel_rfl)
  | 14, _, _ => Tryd.m39_eq _ |>.trans (by kernel_rfl)
  | 15, _, _ => Tryd.m39_eq _ |>.trans (by kernel_rfl)
  | 16, _, _ => Tryd.m39_eq _ |>.trans (by kernel_rfl)
  | 17, _, _ => Tryd.m39_eq _ |>.trans (by kernel_rfl)
  | 18, _, _ => Tryd.m39_eq _ |>.trans (by kernel_rfl)
  | 19, _, _ => Tryd.m39_eq _ |>.trans (by kernel_rfl)
  | 20, _, _ => Tryd.m39_eq _ |>.trans (by kernel_rfl)
  | 21, _, _ => Tryd.m39_eq _ |>.trans (by kernel_rfl)
  | 22, _, _ => Tryd.m39_eq _ |>.trans (by kernel_rfl)
  | 23, _, _ => Tryd.m39_eq _ |>.trans (by kernel_rfl)
  | k + 24, _, h => absurd h (by omega)
/-- What is told of names: short, a small letter first, no two alike. -/
def nmOk (k : Nat) : Bool := (opNm k).length ≤ 5 && (match opNm k with | b :: _ => Nat.ble 97 b.toNat | [] => false)
theorem nm_all : (List.range 23).all (fun k => nmOk (k + 1) && (List.range 23).all fun j => (j == k) || !(opNm (j + 1) == opNm (k + 1))) = true := by kernel_rfl
theorem nm_ok {k : Nat} (h1 : 1 ≤ k) (h2 : k ≤ 23) : nmOk k = true := by
  have h := List.all_eq_true.1 nm_all (k - 1) (List.mem_range.2 (by omega))
  rw [show k - 1 + 1 = k by omega] at h
  exact (Bool.and_eq_true_iff.1 h).1
theorem nm_inj {j k : Nat} (hj : 1 ≤ j ∧ j ≤ 23) (hk : 1 ≤ k ∧ k ≤ 23) (e : opNm j = opNm k) : j = k := by
  have h := List.all_eq_true.1 nm_all (k - 1) (List.mem_range.2 (by omega))
  have h2 := List.all_eq_true.1 (Bool.and_eq_true_iff.1 h).2 (j - 1) (List.mem_range.2 (by omega))
  rw [show j - 1 + 1 = j by omega, show k - 1 + 1 = k by omega, e] at h2
  have : j - 1 = k - 1 := by simpa using h2
  omega

/-- A term's head. -/
def headOf (x : En.Dop.Nod) : List UInt8 :=
  if x.kind = 0 then 35 :: Lib.itoa x.n
  else if x.kind = 1 then 32 :: x.name
  else if x.kind = 2 then 40 :: x.name
  else if x.kind = 3 then opNm x.op.toNat
  else 43 :: Lib.itoa x.n ++ numsL 44 x.fact
def keyOf (x : En.Dop.Nod) : List UInt8 := quoteL Lib.goPrintTabs (headOf x) ++ numsL 32 x.args
/-- A term that may be gone through. -/
structure Ok (x : En.Dop.Nod) : Prop where
  op : x.kind = 3 → 1 ≤ x.op ∧ x.op ≤ 23
  n : I64 x.n
  name : x.name.length ≤ 20
  args : x.args.length ≤ 20
  fact : x.fact.length ≤ 20
  argsI : ∀ a ∈ x.args, I64 a
  factI : ∀ a ∈ x.fact, I64 a
theorem nums_loop {α : Type} (s : List Int) (c : UInt8) (hs : s.length ≤ 20) (ha : ∀ a ∈ s, I64 a) (F : List UInt8 → Int → Option α) (R : List UInt8 → Option α)
    (hend : ∀ out, F out (I s.length) = R out)
    (hstep : ∀ (k : Nat) (out : List UInt8), k < s.length → out.length ≤ 9000 + 30 * k → F out (I k) = F (out ++ (c :: ([] : List UInt8) ++ Lib.itoa (s.getD k 0))) (I (k + 1))) :
    ∀ (n k : Nat) (out : List UInt8), k + n = s.length → out.length ≤ 9000 + 30 * k → F out (I k) = R (out ++ numsL c (s.drop k))
  | 0, k, out, e, _ => by
    have e : k = s.length := by omega
    subst e
    rw [hend, List.drop_eq_nil_of_le (Nat.le_refl _)]
    simp only [numsL, List.flatMap_nil, List.append_nil]
  | n + 1, k, out, e, ho => by
    have hk : k < s.length := by omega
    have hm : s.getD k 0 ∈ s := by simp [List.getD, hk]
    have hil := itoa_len _ (ha _ hm)
    have ih := nums_loop s c hs ha F R hend hstep n (k + 1) (out ++ (c :: ([] : List UInt8) ++ Lib.itoa (s.getD k 0))) (by omega) (by simp only [List.length_append, List.length_cons, List.length_nil]; omega)
    rw [hstep k out hk ho, ih, drop_get (0 : Int) hk]
    simp only [numsL, List.flatMap_cons, List.cons_append, List.nil_append, List.append_assoc]
theorem m26_loop (s : List Int) (hs : s.length ≤ 20) (ha : ∀ a ∈ s, I64 a) (out : List UInt8) (ho : out.length ≤ 9000) : Tryd.m26_12 out s (I s.length) 0 = some ((out ++ numsL 44 s, ()), ()) := by
  have := nums_loop s 44 hs ha (fun out k => Tryd.m26_12 out s (I s.length) k) (fun out => some ((out, ()), ())) (fun out => by
      rw [Tryd.m26_12_eq]; simp only [I_nlt, decide_false, Bool.false_eq_true, if_false]) (fun k out hk ho => by
      have hm : s.getD k 0 ∈ s := by simp [List.getD, hk]
      have hr := ha _ hm
      have hil := itoa_len _ hr
      have k1 : inI (s.getD k 0) = true := decide_eq_true hr
      have k2 : ((44 : UInt8) :: ([] : List UInt8)).length + (Lib.itoa (s.getD k 0)).length ≤ 9223372036854775807 := by simp only [List.length_cons, List.length_nil]; omega
      have k3 : out.length + ((44 : UInt8) :: ([] : List UInt8) ++ Lib.itoa (s.getD k 0)).length ≤ 9223372036854775807 := by simp only [List.length_append, List.length_cons, List.length_nil]; omega
      rw [Tryd.m26_12_eq]
      simp only [I_lt hk, I_nn, I_nat, I_s, I_in hk (show s.length < 1000000 by omega), and_self, decide_true, if_true, itoaK_eq, k1, k2, k3]) s.length 0 out (by omega) (by omega)
  simpa using this
theorem len_itoa' (c : UInt8) {n : Int} (h : I64 n) : ((c :: ([] : List UInt8)).length + (Lib.itoa n).length ≤ 9223372036854775807) := by
  have := itoa_len n h
  simp only [List.length_cons, List.length_nil]; omega
theorem len_name (c : UInt8) {l : List UInt8} (h : l.length ≤ 20) : ((c :: ([] : List UInt8)).length + l.length ≤ 9223372036854775807) := by
  simp only [List.length_cons, List.length_nil]; omega
theorem m26_v (x : En.Dop.Nod) (h : Ok x) : Tryd.m26 x = some ((headOf x, ()), ()) := by
  have hn : inI x.n = true := decide_eq_true h.n
  rw [Tryd.m26_eq]
  unfold headOf
  by_cases h0 : x.kind = 0
  · simp only [h0, decide_true, if_true, hn, itoaK_eq, len_itoa' 35 h.n]; rfl
  by_cases h1 : x.kind = 1
  · simp only [h1, decide_true, if_true, decide_false, Bool.false_eq_true, if_false, len_name 32 h.name, show ¬ ((1 : Int) = 0) by omega]; rfl
  by_cases h2 : x.kind = 2
  · simp only [h2, decide_true, if_true, decide_false, Bool.false_eq_true, if_false, len_name 40 h.name, show ¬ ((2 : Int) = 0) by omega, show ¬ ((2 : Int) = 1) by omega]; rfl
  by_cases h3 : x.kind = 3
  · have ho := h.op h3
    have := opNm_v x.op.toNat (by omega) (by omega)
    rw [Int.toNat_of_nonneg (by omega)] at this
    simp only [h3, decide_true, if_true, decide_false, Bool.false_eq_true, if_false, show ¬ ((3 : Int) = 0) by omega, show ¬ ((3 : Int) = 1) by omega, show ¬ ((3 : Int) = 2) by omega, this, Option.bind]
  · have hl := itoa_len x.n h.n
    simp only [h0, h1, h2, h3, decide_true, if_true, decide_false, Bool.false_eq_true, if_false, hn, itoaK_eq, len_itoa' 43 h.n]
    rw [m26_loop x.fact h.fact h.factI _ (by simp only [List.length_append, List.length_cons, List.length_nil]; omega)]
    rfl
theorem nums_len (c : UInt8) : ∀ (s : List Int), (∀ a ∈ s, I64 a) → (numsL c s).length ≤ 22 * s.length
  | [], _ => Nat.le_refl _
  | a :: r, h => by
    have h1 := itoa_len a (h a (by simp))
    have h2 := nums_len c r fun b hb => h b (by simp [hb])
    simp only [numsL, List.flatMap_cons, List.length_append, List.length_cons] at h2 ⊢
    omega
theorem head_len (x : En.Dop.Nod) (h : Ok x) : (headOf x).length ≤ 500 := by
  have h1 := itoa_len x.n h.n
  have h2 := nums_len 44 x.fact h.factI
  have h3 := h.name
  have h4 := h.fact
  unfold headOf
  split
  · simp only [List.length_cons]; omega
  split
  · simp only [List.length_cons]; omega
  split
  · simp only [List.length_cons]; omega
  split
  · rename_i hk
    have ho := h.op hk
    have := nm_ok (k := x.op.toNat) (by omega) (by omega)
    simp only [nmOk, Bool.and_eq_true, decide_eq_true_eq] at this
    omega
  · simp only [List.length_append, List.length_cons]; omega
/-- WHAT IS LAID INTO THE STORE. -/
theorem m12_v (x : En.Dop.Nod) (h : Ok x) (L : List En.Dop.Nod) (hL : L.length < 1000) (b : List (List UInt8 × Int)) :
    Tryd.m12 x L b = match mlookS b (keyOf x) with
      | some i => some ((i, ()), ((L, (b, ())), ()))
      | none => some ((I L.length, ()), ((L ++ [x], (mputS b (keyOf x) (I L.length), ())), ())) := by
  have hh := head_len x h
  have hq := quoteL_len Lib.goPrintTabs (headOf x)
  have hok : okQ (headOf x) = true := decide_eq_true (by omega)
  have hl := nums_loop x.args 32 h.args h.argsI (fun out k => Tryd.m12_3 out x.args (I x.args.length) k L b x) (fun out => Tryd.m12_3 out x.args (I x.args.length) (I x.args.length) L b x) (fun _ => rfl) (fun k out hk ho => by
      have hm : x.args.getD k 0 ∈ x.args := by simp [List.getD, hk]
      have hr := h.argsI _ hm
      have hil := itoa_len _ hr
      have k4 := h.args
      have k1 : inI (x.args.getD k 0) = true := decide_eq_true hr
      have k2 : ((32 : UInt8) :: ([] : List UInt8)).length + (Lib.itoa (x.args.getD k 0)).length ≤ 9223372036854775807 := by simp only [List.length_cons, List.length_nil]; omega
      have k3 : out.length + ((32 : UInt8) :: ([] : List UInt8) ++ Lib.itoa (x.args.getD k 0)).length ≤ 9223372036854775807 := by simp only [List.length_append, List.length_cons, List.length_nil]; omega
      rw [Tryd.m12_3_eq]
      simp only [I_lt hk, I_nn, I_nat, I_s, I_in hk (show x.args.length < 1000000 by omega), and_self, decide_true, if_true, itoaK_eq, k1, k2, k3]) x.args.length 0 (quoteL Lib.goPrintTabs (headOf x)) (by omega)
  have e0 : I 0 = 0 := rfl
  rw [e0] at hl
  rw [Tryd.m12_eq, m26_v x h]
  simp only [Option.bind, hok, if_true, quoteK_eq]
  rw [hl (by omega), Tryd.m12_3_eq]
  have hk : quoteL Lib.goPrintTabs (headOf x) ++ numsL 32 (List.drop 0 x.args) = keyOf x := rfl
  have r1 : room 88 (L.length + (x :: ([] : List En.Dop.Nod)).length) = true := room_s _ _ (by simp only [List.length_cons, List.length_nil]; omega)
  have r2 : I (L ++ x :: ([] : List En.Dop.Nod)).length - 1 = I L.length := by simp only [I_eq, List.length_append, List.length_cons, List.length_nil]; omega
  have r3 : inR (I L.length) = true := by rw [inR_iff]; simp only [I_eq]; omega
  have r4 : ¬ I L.length = 16384 := by simp only [I_eq]; omega
  rw [hk]
  cases mlookS b (keyOf x) with
  | some i => simp only [I_nlt, decide_false, Bool.false_eq_true, if_false, Option.isSome, if_true, Option.getD]
  | none => simp only [I_nlt, decide_false, Bool.false_eq_true, if_false, Option.isSome, andC, r1, r2, r3, r4, if_true]
/-! The store: its terms, and the keys by number. -/
theorem look_cons {α : Type} (k k' : List UInt8) (v : α) (r : List (List UInt8 × α)) : mlookS ((k, v) :: r) k' = if k' = k then some v else mlookS r k' := by
  show (match decide (k' = k) with | true => some v | false => mlookS r k') = _
  by_cases h : k' = k <;> simp [h]
theorem put_cons {α : Type} (k k' : List UInt8) (v v' : α) (r : List (List UInt8 × α)) : mputS ((k, v) :: r) k' v' = if k' = k then (k', v') :: r else (k, v) :: mputS r k' v' := by
  show (match decide (k' = k) with | true => (k', v') :: r | false => (k, v) :: mputS r k' v') = _
  by_cases h : k' = k <;> simp [h]
def byF : Nat → List En.Dop.Nod → List (List UInt8 × Int)
  | _, [] => []
  | k, x :: r => (keyOf x, I k) :: byF (k + 1) r
def findK : Nat → List UInt8 → List En.Dop.Nod → Option Nat
  | _, _, [] => none
  | k, q, y :: r => if q = keyOf y then some k else findK (k + 1) q r
theorem look_v (q : List UInt8) : ∀ (L : List En.Dop.Nod) (k : Nat), mlookS (byF k L) q = (findK k q L).map I
  | [], _ => rfl
  | y :: r, k => by
    simp only [byF, findK]
    rw [look_cons]
    split
    · rfl
    · exact look_v q r (k + 1)
theorem put_new (q : List UInt8) (x : En.Dop.Nod) (hx : keyOf x = q) : ∀ (L : List En.Dop.Nod) (k : Nat), findK k q L = none → mputS (byF k L) q (I (k + L.length)) = byF k (L ++ [x])
  | [], k, _ => by subst hx; rfl
  | y :: r, k, h => by
    simp only [findK] at h
    split at h
    · cases h
    rename_i hne
    simp only [byF, List.cons_append, List.length_cons]
    rw [put_cons, if_neg hne, ← put_new q x hx r (k + 1) h, show k + (r.length + 1) = k + 1 + r.length by omega]
/-- WHAT IS LAID INTO THE STORE: the old number, or a new one. -/
theorem put_v (x : En.Dop.Nod) (h : Ok x) (L : List En.Dop.Nod) (hL : L.length < 1000) :
    Tryd.m12 x L (byF 0 L) = match findK 0 (keyOf x) L with
      | some i => some ((I i, ()), ((L, (byF 0 L, ())), ()))
      | none => some ((I L.length, ()), ((L ++ [x], (byF 0 (L ++ [x]), ())), ())) := by
  rw [m12_v x h L hL, look_v]
  have hp := put_new (keyOf x) x rfl L 0
  rw [Nat.zero_add] at hp
  generalize hf : findK 0 (keyOf x) L = f at hp ⊢
  cases f with
  | some i => rfl
  | none => simp only [Option.map_none]; rw [hp rfl]
/-! A key tells its term. -/
theorem itoa_sep (n : Int) : ∀ c ∈ Lib.itoa n, c ≠ 44 := by
  intro c hc e
  subst e
  unfold Lib.itoa at hc
  split at hc
  · rcases List.mem_cons.1 hc with h | h
    · cases h
    · have := dec_digit _ _ h; revert this; decide
  · have := dec_digit _ _ hc; revert this; decide
theorem nums44 : ∀ {l m : List Int}, numsL 44 l = numsL 44 m → l = m
  | [], [], _ => rfl
  | [], b :: s, h => by simp [numsL] at h
  | a :: r, [], h => by simp [numsL] at h
  | a :: r, b :: s, h => by
    simp only [numsL, List.flatMap_cons, List.cons_append, List.cons.injEq, true_and] at h
    have key : Lib.itoa a = Lib.itoa b ∧ numsL 44 r = numsL 44 s := by
      cases r with
      | nil =>
        cases s with
        | nil => exact ⟨by simpa using h, rfl⟩
        | cons b' s' =>
          simp only [List.flatMap_nil, List.append_nil, List.flatMap_cons, List.cons_append] at h
          have : (44 : UInt8) ∈ Lib.itoa a := by rw [h]; simp
          exact absurd rfl (itoa_sep a _ this)
      | cons a' r' =>
        cases s with
        | nil =>
          simp only [List.flatMap_nil, List.append_nil, List.flatMap_cons, List.cons_append] at h
          have : (44 : UInt8) ∈ Lib.itoa b := by rw [← h]; simp
          exact absurd rfl (itoa_sep b _ this)
        | cons b' s' =>
          simp only [List.flatMap_cons, List.cons_append] at h
          obtain ⟨h1, h2⟩ := split_sep 44 (itoa_sep a) (itoa_sep b) h
          exact ⟨h1, by simp only [numsL, List.flatMap_cons, List.cons_append, h2]⟩
    rw [itoa_inj key.1, nums44 key.2]
theorem key_args {x y : En.Dop.Nod} (h : keyOf x = keyOf y) : headOf x = headOf y ∧ x.args = y.args := by
  obtain ⟨k1, k2⟩ := quoteL_inj _ h
  exact ⟨k1, numsL_inj k2⟩
end Go.Proofs.Law
