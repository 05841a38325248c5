/-
  Plain: strconv.Quote's text and strconv.Itoa's as functions that the kernel can run.
-/
import Derived.Test.YtpjjpcgnogpdmaaDoorQt
import Derived.Lib.TrimAscii
namespace Go.Proofs.Law
open Go Go.Lib

/-- A byte that stands for itself in a quoted text. -/
def plainB (b : UInt8) : Bool := Nat.ble 32 b.toNat && Nat.ble b.toNat 126 && !(Nat.beq b.toNat 34) && !(Nat.beq b.toNat 92)
def allPlain : List UInt8 → Bool
  | [] => true
  | b :: r => match plainB b with
    | true => allPlain r
    | false => false
theorem plain_step (T : PrintTabs) (b : UInt8) (r : List UInt8) (h : plainB b = true) : quoteStep T ⟨(b :: r).toArray⟩ = [(b.toNat : Int)] ∧ (decodeL (b :: r)).2 = 1 := by
  simp only [plainB, Bool.and_eq_true, Bool.not_eq_true', Nat.ble_eq] at h
  obtain ⟨⟨⟨h1, h2⟩, h3⟩, h4⟩ := h
  have h3' : b.toNat ≠ 34 := fun e => by rw [e] at h3; cases h3
  have h4' : b.toNat ≠ 92 := fun e => by rw [e] at h4; cases h4
  have hd : decodeL (b :: r) = (b.toNat, 1) := decodeL_ascii b r (by omega)
  refine ⟨?_, by rw [hd]⟩
  have hd' : Utf8.decode ⟨(b :: r).toArray⟩ 0 = (b.toNat, 1) := hd
  unfold quoteStep
  rw [hd', if_neg (by simp only [true_and]; omega)]
  unfold escRune
  have e1 : ¬ ((b.toNat : Int) = 34 ∨ (b.toNat : Int) = 92) := by omega
  have e2 : isPrintR T (b.toNat : Int) = true := by
    unfold isPrintR isPrintLatin
    rw [if_pos (by omega)]
    simp only [Bool.or_eq_true, Bool.and_eq_true, decide_eq_true_eq]
    omega
  rw [if_neg e1, if_pos e2]
  exact encodeRuneZ_one (by omega) (by omega)
theorem plain_from (T : PrintTabs) : ∀ (l : List UInt8) (f : Nat), allPlain l = true → l.length ≤ f → quoteFrom T f ⟨l.toArray⟩ = l.map fun b => (b.toNat : Int)
  | [], f, _, _ => quoteFrom_end T f _ (by show ¬ 0 < 0; omega)
  | b :: r, f, h, hf => by
    unfold allPlain at h
    split at h
    case h_2 => cases h
    rename_i hb
    obtain ⟨h1, h2⟩ := plain_step T b r hb
    rw [quoteFrom_step T f ⟨(b :: r).toArray⟩ (by show 0 < (b :: r).length; simp) (show (b :: r).length ≤ f from hf), h1]
    have e : (Utf8.decode ⟨(b :: r).toArray⟩ 0).2 = 1 := h2
    rw [e, extract_drop]
    show _ :: quoteFrom T (f - 1) ⟨r.toArray⟩ = _
    rw [plain_from T r (f - 1) h (by simp at hf; omega)]
    rfl
/-- A quoted text, as the kernel can run it where all its bytes are plain. -/
def quoteK (T : PrintTabs) (l : List UInt8) : List UInt8 := match allPlain l with
  | true => 34 :: (l ++ [34])
  | false => quoteL T l
theorem quoteK_eq (T : PrintTabs) (l : List UInt8) : quoteK T l = quoteL T l := by
  unfold quoteK
  split
  · rename_i h
    rw [quoteL_eq, plain_from T l l.length h (Nat.le_refl _), List.map_map]
    have : l.map ((fun n : Int => UInt8.ofNat n.toNat) ∘ fun b : UInt8 => (b.toNat : Int)) = l := by
      conv => rhs; rw [← List.map_id l]
      apply List.map_congr_left
      intro b _
      simp
    rw [this]
  · rfl
/-- Decimal digits by so many rounds. -/
def decK : Nat → Nat → List UInt8
  | 0, _ => []
  | f + 1, u => match Nat.ble u 9 with
    | true => [UInt8.ofNat (48 + u)]
    | false => decK f (u / 10) ++ [UInt8.ofNat (48 + u % 10)]
theorem decK_eq : ∀ (f u : Nat), u < 10 ^ f → 0 < f → decK f u = decDigits u
  | 0, u, _, h => absurd h (by omega)
  | f + 1, u, hu, _ => by
    unfold decK
    rw [decDigits]
    split
    · rename_i h
      have := Nat.le_of_ble_eq_true h
      rw [dif_pos (by omega)]
    · rename_i h
      have h' : ¬ u < 10 := fun e => by
        have : Nat.ble u 9 = true := Nat.ble_eq ▸ (show u ≤ 9 by omega)
        rw [this] at h; cases h
      rw [dif_neg h', decK_eq f (u / 10) (by rw [Nat.pow_succ] at hu; omega) (by
        cases f with
        | zero => simp at hu; omega
        | succ f => omega)]
def digK (u : Nat) : List UInt8 := match Nat.ble u 99999999999999999999 with
  | true => decK 20 u
  | false => decDigits u
theorem digK_eq (u : Nat) : digK u = decDigits u := by
  unfold digK
  split
  · rename_i h
    have := Nat.le_of_ble_eq_true h
    exact decK_eq 20 u (by omega) (by decide)
  · rfl
/-- strconv.Itoa as the kernel can run it. -/
def itoaK (n : Int) : List UInt8 := match n with
  | .ofNat u => digK u
  | .negSucc u => 45 :: digK (u + 1)
theorem itoaK_eq (n : Int) : itoaK n = itoa n := by
  unfold itoaK itoa
  cases n with
  | ofNat u => simp only [digK_eq]; rw [if_neg (by simp)]; rfl
  | negSucc u => simp only [digK_eq]; rw [if_pos (Int.negSucc_lt_zero u)]; rfl
end Go.Proofs.Law
