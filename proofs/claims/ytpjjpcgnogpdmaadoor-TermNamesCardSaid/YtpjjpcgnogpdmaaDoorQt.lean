/-
  Plain: strconv.Quote's text, and strconv.Itoa's, tell what they are of.
-/
import Derived.Lib.QuoteLoop
import Derived.Lib.MapLaws
import Derived.Lib.ItoaNum
import Derived.Laws.BytesArg
namespace Go.Proofs.Law
open Go Go.Lib

/-- What a piece of a quoted text is of: a rune, or a byte that begins none. -/
inductive Tok where
  | rune (r : Int)
  | bad (b : Int)
def unhex (d : Int) : Int := if d < 58 then d - 48 else d - 87
theorem unhex_hex {x : Nat} (h : x < 16) : unhex (hexDigit x) = x := by
  unfold unhex hexDigit
  split <;> split <;> omega
def parse4 (l : List Int) : Int := (unhex (l.getD 0 0) * 4096 + unhex (l.getD 1 0) * 256 + unhex (l.getD 2 0) * 16 + unhex (l.getD 3 0))
/-- A quoted text's first piece, and what is behind. -/
def piece : List Int → Option (Tok × List Int)
  | [] => none
  | b :: x =>
    if b = 92 then match x with
      | [] => none
      | c :: x =>
        if c = 34 ∨ c = 92 then some (.rune c, x)
        else if c = 97 then some (.rune 7, x) else if c = 98 then some (.rune 8, x) else if c = 102 then some (.rune 12, x) else if c = 110 then some (.rune 10, x)
        else if c = 114 then some (.rune 13, x) else if c = 116 then some (.rune 9, x) else if c = 118 then some (.rune 11, x)
        else if c = 120 then (let v := unhex (x.getD 0 0) * 16 + unhex (x.getD 1 0); some (if v < 128 then .rune v else .bad v, x.drop 2))
        else if c = 117 then some (.rune (parse4 x), x.drop 4)
        else some (.rune (parse4 x * 65536 + parse4 (x.drop 4)), x.drop 8)
    else if b < 128 then some (.rune b, x)
    else if b < 224 then some (.rune ((b - 192) * 64 + (x.getD 0 0 - 128)), x.drop 1)
    else if b < 240 then some (.rune ((b - 224) * 4096 + (x.getD 0 0 - 128) * 64 + (x.getD 1 0 - 128)), x.drop 2)
    else some (.rune ((b - 240) * 262144 + (x.getD 0 0 - 128) * 4096 + (x.getD 1 0 - 128) * 64 + (x.getD 2 0 - 128)), x.drop 3)
theorem hexDigits4 (r : Nat) (h : r < 65536) (x : List Int) : parse4 (hexDigits r 4 ++ x) = r := by
  simp only [hexDigits, List.cons_append, List.nil_append, parse4, List.getD_cons_zero, List.getD_cons_succ]
  rw [unhex_hex (Nat.mod_lt _ (by decide)), unhex_hex (Nat.mod_lt _ (by decide)), unhex_hex (Nat.mod_lt _ (by decide)), unhex_hex (Nat.mod_lt _ (by decide))]
  omega
theorem hexDigits8 (r : Nat) (h : r < 4294967296) (x : List Int) : parse4 (hexDigits r 8 ++ x) * 65536 + parse4 ((hexDigits r 8 ++ x).drop 4) = r := by
  simp only [hexDigits, List.cons_append, List.nil_append, parse4, List.getD_cons_zero, List.getD_cons_succ, List.drop_succ_cons, List.drop_zero]
  rw [unhex_hex (Nat.mod_lt _ (by decide)), unhex_hex (Nat.mod_lt _ (by decide)), unhex_hex (Nat.mod_lt _ (by decide)), unhex_hex (Nat.mod_lt _ (by decide)),
    unhex_hex (Nat.mod_lt _ (by decide)), unhex_hex (Nat.mod_lt _ (by decide)), unhex_hex (Nat.mod_lt _ (by decide)), unhex_hex (Nat.mod_lt _ (by decide))]
  omega
theorem piece_rune (T : PrintTabs) (r : Int) (hr : 0 ≤ r) (hv : validRune r = true) (hr2 : r ≤ 1114111) (x : List Int) : piece (escRune T r ++ x) = some (.rune r, x) := by
  have hv' : (0 ≤ r ∧ r < 55296) ∨ (57343 < r ∧ r ≤ 1114111) := by
    simp only [validRune, Bool.or_eq_true, Bool.and_eq_true, decide_eq_true_eq] at hv; omega
  unfold escRune
  by_cases c0 : r = 34 ∨ r = 92
  · rw [if_pos c0]
    simp only [List.cons_append, List.nil_append, piece, if_true, c0]
  rw [if_neg c0]
  by_cases cp : isPrintR T r = true
  · rw [if_pos cp]
    by_cases e1 : r ≤ 127
    · rw [encodeRuneZ_one hr e1]
      have h1 : ¬ r = 92 := fun e => c0 (.inr e)
      have h2 : r < 128 := by omega
      simp only [List.cons_append, List.nil_append, piece, h1, h2, if_false, if_true]
    by_cases e2 : r ≤ 2047
    · rw [encodeRuneZ_two (by omega) e2]
      have h1 : ¬ 192 + r / 64 = 92 := by omega
      have h2 : ¬ 192 + r / 64 < 128 := by omega
      have h3 : 192 + r / 64 < 224 := by omega
      simp only [List.cons_append, List.nil_append, piece, h1, h2, h3, if_false, if_true, List.getD_cons_zero, List.drop_succ_cons, List.drop_zero, Option.some.injEq, Prod.mk.injEq, Tok.rune.injEq, and_true]
      omega
    by_cases e3 : r ≤ 65535
    · rw [encodeRuneZ_three (by omega)]
      have h1 : ¬ 224 + r / 4096 = 92 := by omega
      have h2 : ¬ 224 + r / 4096 < 128 := by omega
      have h3 : ¬ 224 + r / 4096 < 224 := by omega
      have h4 : 224 + r / 4096 < 240 := by omega
      simp only [List.cons_append, List.nil_append, piece, h1, h2, h3, h4, if_false, if_true, List.getD_cons_zero, List.getD_cons_succ, List.drop_succ_cons, List.drop_zero, Option.some.injEq, Prod.mk.injEq, Tok.rune.injEq, and_true]
      omega
    · rw [show encodeRuneZ r = [240 + r / 262144, 128 + r / 4096 % 64, 128 + r / 64 % 64, 128 + r % 64] by
        unfold encodeRuneZ
        rw [if_neg (by omega), if_neg (by omega), if_neg (by omega), if_pos (by omega)]]
      have h1 : ¬ 240 + r / 262144 = 92 := by omega
      have h2 : ¬ 240 + r / 262144 < 128 := by omega
      have h3 : ¬ 240 + r / 262144 < 224 := by omega
      have h4 : ¬ 240 + r / 262144 < 240 := by omega
      simp only [List.cons_append, List.nil_append, piece, h1, h2, h3, h4, if_false, List.getD_cons_zero, List.getD_cons_succ, List.drop_succ_cons, List.drop_zero, Option.some.injEq, Prod.mk.injEq, Tok.rune.injEq, and_true]
      omega
  rw [if_neg cp]
  by_cases d1 : r = 7
  · subst d1; rfl
  rw [if_neg d1]
  by_cases d2 : r = 8
  · subst d2; rfl
  rw [if_neg d2]
  by_cases d3 : r = 12
  · subst d3; rfl
  rw [if_neg d3]
  by_cases d4 : r = 10
  · subst d4; rfl
  rw [if_neg d4]
  by_cases d5 : r = 13
  · subst d5; rfl
  rw [if_neg d5]
  by_cases d6 : r = 9
  · subst d6; rfl
  rw [if_neg d6]
  by_cases d7 : r = 11
  · subst d7; rfl
  rw [if_neg d7]
  by_cases d8 : r < 32 ∨ r = 127
  · rw [if_pos d8]
    have h1 : r.toNat / 16 < 16 := by omega
    have h2 : r.toNat % 16 < 16 := by omega
    have h3 : ((r.toNat / 16 : Nat) : Int) * 16 + ((r.toNat % 16 : Nat) : Int) = r := by omega
    have h4 : r < 128 := by omega
    show piece (92 :: 120 :: hexDigit (r.toNat / 16) :: hexDigit (r.toNat % 16) :: x) = _
    simp (decide := true) only [piece, if_true, if_false, List.getD_cons_zero, List.getD_cons_succ, unhex_hex h1, unhex_hex h2, h3, h4, List.drop_succ_cons, List.drop_zero]
  rw [if_neg d8, if_neg (by rw [hv]; decide)]
  by_cases d9 : r < 65536
  · rw [if_pos d9]
    have h1 := hexDigits4 r.toNat (by omega) x
    have h2 : (hexDigits r.toNat 4 ++ x).drop 4 = x := rfl
    show piece (92 :: 117 :: (hexDigits r.toNat 4 ++ x)) = _
    simp (decide := true) only [piece, if_true, if_false, h1, h2]
    rw [show ((r.toNat : Nat) : Int) = r by omega]
  · rw [if_neg d9]
    have h1 := hexDigits8 r.toNat (by omega) x
    have h2 : (hexDigits r.toNat 8 ++ x).drop 8 = x := rfl
    show piece (92 :: 85 :: (hexDigits r.toNat 8 ++ x)) = _
    simp (decide := true) only [piece, if_true, if_false, h1, h2]
    rw [show ((r.toNat : Nat) : Int) = r by omega]
/-- A text's first piece, as bytes. -/
def tok (l : List UInt8) : Tok := if (decodeL l).2 = 1 ∧ (decodeL l).1 = 65533 then .bad ((l.getD 0 0).toNat : Int) else .rune ((decodeL l).1 : Int)
theorem bad_high (l : List UInt8) (h : (decodeL l).2 = 1 ∧ (decodeL l).1 = 65533) : 128 ≤ (l.getD 0 0).toNat := by
  apply Classical.byContradiction
  intro hn
  rw [decodeL_N] at h
  unfold decodeN at h
  rw [if_pos (by omega)] at h
  have := h.2
  simp only at this
  omega
theorem get0 (l : List UInt8) : (⟨l.toArray⟩ : ByteArray).get! 0 = l.getD 0 0 := by
  cases l with
  | nil => rfl
  | cons a r => rfl
theorem piece_step (T : PrintTabs) (l : List UInt8) (_hne : l ≠ []) (x : List Int) : piece (quoteStep T ⟨l.toArray⟩ ++ x) = some (tok l, x) := by
  have hr := rune_valid ⟨l.toArray⟩
  unfold tok
  unfold quoteStep
  by_cases h : (decodeL l).2 = 1 ∧ (decodeL l).1 = 65533
  · have h0 : (Utf8.decode ⟨l.toArray⟩ 0).2 = 1 ∧ (Utf8.decode ⟨l.toArray⟩ 0).1 = 65533 := h
    rw [if_pos h0, if_pos h, get0]
    have hb := bad_high l h
    have hb2 := (l.getD 0 0).toNat_lt
    generalize (l.getD 0 0).toNat = b at hb hb2
    have h1 : b / 16 < 16 := by omega
    have h2 : b % 16 < 16 := by omega
    have h3 : ((b / 16 : Nat) : Int) * 16 + ((b % 16 : Nat) : Int) = b := by omega
    have h4 : ¬ (b : Int) < 128 := by omega
    show piece (92 :: 120 :: hexDigit (b / 16) :: hexDigit (b % 16) :: x) = _
    simp (decide := true) only [piece, if_true, if_false, List.getD_cons_zero, List.getD_cons_succ, unhex_hex h1, unhex_hex h2, h3, h4, List.drop_succ_cons, List.drop_zero]
  · have h0 : ¬ ((Utf8.decode ⟨l.toArray⟩ 0).2 = 1 ∧ (Utf8.decode ⟨l.toArray⟩ 0).1 = 65533) := h
    rw [if_neg h0, if_neg h]
    refine piece_rune T _ (by omega) hr ?_ x
    simp only [validRune, Bool.or_eq_true, Bool.and_eq_true, decide_eq_true_eq] at hr
    show ((decodeL l).1 : Int) ≤ 1114111
    have : (Utf8.decode ⟨l.toArray⟩ 0).1 = (decodeL l).1 := rfl
    omega
/-- The first bytes are what the piece says. -/
theorem tok_bytes (l : List UInt8) (hne : l ≠ []) : l.take (decodeL l).2 = match tok l with
    | .bad b => [b.toNat.toUInt8]
    | .rune r => encodeRune r := by
  unfold tok
  by_cases h : (decodeL l).2 = 1 ∧ (decodeL l).1 = 65533
  · rw [if_pos h, h.1]
    cases l with
    | nil => exact absurd rfl hne
    | cons a r => simp
  · rw [if_neg h]
    exact (encode_decode l hne (fun c => h ⟨c.2, c.1⟩)).symm
theorem extract_drop (l : List UInt8) (k : Nat) : (⟨l.toArray⟩ : ByteArray).extract k (⟨l.toArray⟩ : ByteArray).size = ⟨(l.drop k).toArray⟩ := by
  apply ByteArray.ext
  rw [ByteArray.data_extract]
  have hs : (⟨l.toArray⟩ : ByteArray).size = l.length := rfl
  apply Array.ext'
  rw [hs]
  simp only [Array.toList_extract, List.extract_eq_take_drop]
  by_cases h : k ≤ l.length
  · rw [List.take_of_length_le (by simp)]
  · rw [List.drop_eq_nil_of_le (by omega), List.take_nil]
/-- THE TEXT TELLS WHAT IT IS OF. -/
theorem quote_inj (T : PrintTabs) : ∀ (f g : Nat) (l m : List UInt8) (x y : List Int), l.length ≤ f → m.length ≤ g → quoteFrom T f ⟨l.toArray⟩ ++ 34 :: x = quoteFrom T g ⟨m.toArray⟩ ++ 34 :: y → l = m ∧ x = y := by
  have step : ∀ (f : Nat) (l : List UInt8), l ≠ [] → l.length ≤ f → ∃ k, f = k + 1 ∧ quoteFrom T f ⟨l.toArray⟩ = quoteStep T ⟨l.toArray⟩ ++ quoteFrom T k ⟨(l.drop (decodeL l).2).toArray⟩ ∧ (l.drop (decodeL l).2).length ≤ k := by
    intro f l hne hf
    have hl : 0 < l.length := List.length_pos_iff.2 hne
    cases f with
    | zero => omega
    | succ k =>
      refine ⟨k, rfl, ?_, ?_⟩
      · show (if 0 < (⟨l.toArray⟩ : ByteArray).size then _ else _) = _
        rw [if_pos (by show 0 < l.length; exact hl), extract_drop]
        rfl
      · have : 1 ≤ (decodeL l).2 := width_pos ⟨l.toArray⟩ 0
        rw [List.length_drop]; omega
  have nil_eq : ∀ (f : Nat), quoteFrom T f ⟨([] : List UInt8).toArray⟩ = [] := fun f => quoteFrom_end T f _ (by show ¬ 0 < 0; omega)
  have no34 : ∀ (l : List UInt8) (x y : List Int), l ≠ [] → quoteStep T ⟨l.toArray⟩ ++ x = 34 :: y → False := by
    intro l x y hne h
    have h1 := piece_step T l hne x
    rw [h] at h1
    have h2 : piece (34 :: y) = some (.rune 34, y) := rfl
    rw [h2] at h1
    simp only [Option.some.injEq, Prod.mk.injEq] at h1
    obtain ⟨h3, h4⟩ := h1
    subst h4
    have h5 : quoteStep T ⟨l.toArray⟩ = [34] := by
      have := congrArg List.length h
      have h6 : (quoteStep T ⟨l.toArray⟩).length = 1 := by simp only [List.length_append, List.length_cons] at this; omega
      match hq : quoteStep T ⟨l.toArray⟩, h6 with
      | [a], _ => rw [hq] at h; simp only [List.cons_append, List.nil_append, List.cons.injEq, and_true] at h; rw [h]
    unfold tok at h3
    unfold quoteStep at h5
    by_cases hb : (decodeL l).2 = 1 ∧ (decodeL l).1 = 65533
    · rw [if_pos hb] at h3; cases h3
    · rw [if_neg hb] at h3
      have hb' : ¬ ((Utf8.decode ⟨l.toArray⟩ 0).2 = 1 ∧ (Utf8.decode ⟨l.toArray⟩ 0).1 = 65533) := hb
      rw [if_neg hb'] at h5
      simp only [Tok.rune.injEq] at h3
      have h6 : (((Utf8.decode ⟨l.toArray⟩ 0).1 : Nat) : Int) = 34 := h3.symm
      rw [h6] at h5
      simp [escRune] at h5
  intro f
  induction f with
  | zero =>
    intro g l m x y hf hg h
    have : l = [] := List.length_eq_zero_iff.1 (by omega)
    subst this
    rw [nil_eq] at h
    by_cases hm : m = []
    · subst hm; rw [nil_eq] at h; simpa using h
    · obtain ⟨k, -, e, -⟩ := step g m hm hg
      rw [e, List.append_assoc] at h
      exact (no34 m _ _ hm h.symm).elim
  | succ f ih =>
    intro g l m x y hf hg h
    by_cases hl : l = []
    · subst hl
      rw [nil_eq] at h
      by_cases hm : m = []
      · subst hm; rw [nil_eq] at h; simpa using h
      · obtain ⟨k, -, e, -⟩ := step g m hm hg
        rw [e, List.append_assoc] at h
        exact (no34 m _ _ hm h.symm).elim
    · obtain ⟨k, e0, e, e2⟩ := step (f + 1) l hl hf
      have e0 : k = f := by omega
      subst e0
      rw [e, List.append_assoc] at h
      by_cases hm : m = []
      · subst hm
        rw [nil_eq] at h
        exact (no34 l _ _ hl h).elim
      · obtain ⟨j, -, e3, e4⟩ := step g m hm hg
        rw [e3, List.append_assoc] at h
        have h1 := piece_step T l hl (quoteFrom T k ⟨(l.drop (decodeL l).2).toArray⟩ ++ 34 :: x)
        have h2 := piece_step T m hm (quoteFrom T j ⟨(m.drop (decodeL m).2).toArray⟩ ++ 34 :: y)
        rw [h, h2] at h1
        simp only [Option.some.injEq, Prod.mk.injEq] at h1
        obtain ⟨h3, h4⟩ := h1
        obtain ⟨h5, h6⟩ := ih j _ _ x y e2 e4 h4.symm
        refine ⟨?_, h6⟩
        rw [← List.take_append_drop (decodeL l).2 l, ← List.take_append_drop (decodeL m).2 m, h5, tok_bytes l hl, tok_bytes m hm, h3]
end Go.Proofs.Law
namespace Go.Proofs.Law
open Go Go.Lib
def Byt (l : List Int) : Prop := ∀ z ∈ l, 0 ≤ z ∧ z < 256
theorem byt_hex {x : Nat} (h : x < 16) : 0 ≤ hexDigit x ∧ hexDigit x < 256 := by unfold hexDigit; split <;> omega
theorem byt_hexs (r : Nat) : ∀ n, Byt (hexDigits r n)
  | 0 => fun z hz => by simp [hexDigits] at hz
  | n + 1 => fun z hz => by
    simp only [hexDigits, List.mem_cons] at hz
    rcases hz with rfl | hz
    · exact byt_hex (Nat.mod_lt _ (by decide))
    · exact byt_hexs r n z hz
theorem byt_two {a b : Int} (h1 : 0 ≤ a ∧ a < 256) (h2 : 0 ≤ b ∧ b < 256) : Byt [a, b] := fun z hz => by
  simp only [List.mem_cons, List.not_mem_nil, or_false] at hz
  rcases hz with rfl | rfl <;> assumption
theorem byt_cons {a : Int} {l : List Int} (h1 : 0 ≤ a ∧ a < 256) (h2 : Byt l) : Byt (a :: l) := fun z hz => by
  rcases List.mem_cons.1 hz with rfl | hz
  · exact h1
  · exact h2 z hz
theorem byt_nil : Byt [] := fun z hz => by simp at hz
theorem byt_enc (r : Int) : Byt (encodeRuneZ r) := by
  unfold encodeRuneZ
  split
  · exact byt_cons (by omega) byt_nil
  split
  · exact byt_two (by omega) (by omega)
  split
  · exact byt_cons (by omega) (byt_two (by omega) (by omega))
  split
  · exact byt_cons (by omega) (byt_cons (by omega) (byt_two (by omega) (by omega)))
  · exact byt_cons (by omega) (byt_two (by omega) (by omega))
theorem byt_esc (T : PrintTabs) (r : Int) : Byt (escRune T r) := by
  unfold escRune
  by_cases c0 : r = 34 ∨ r = 92
  · rw [if_pos c0]; exact byt_two (by omega) (by omega)
  rw [if_neg c0]
  by_cases cp : isPrintR T r = true
  · rw [if_pos cp]; exact byt_enc r
  rw [if_neg cp]
  iterate 7 (split; exact byt_two (by omega) (by omega))
  split
  · exact byt_cons (by omega) (byt_cons (by omega) (byt_two (byt_hex (by omega)) (byt_hex (by omega))))
  split
  · exact byt_cons (by omega) (byt_cons (by omega) (byt_hexs _ _))
  split
  · exact byt_cons (by omega) (byt_cons (by omega) (byt_hexs _ _))
  · exact byt_cons (by omega) (byt_cons (by omega) (byt_hexs _ _))
theorem byt_step (T : PrintTabs) (s : ByteArray) : Byt (quoteStep T s) := by
  unfold quoteStep
  split
  · have := (s.get! 0).toNat_lt
    exact byt_cons (by omega) (byt_cons (by omega) (byt_two (byt_hex (by omega)) (byt_hex (by omega))))
  · exact byt_esc T _
theorem byt_app {l m : List Int} (h1 : Byt l) (h2 : Byt m) : Byt (l ++ m) := fun z hz => by
  rcases List.mem_append.1 hz with hz | hz
  · exact h1 z hz
  · exact h2 z hz
theorem byt_from (T : PrintTabs) : ∀ (f : Nat) (s : ByteArray), Byt (quoteFrom T f s)
  | 0, _ => byt_nil
  | f + 1, s => by
    unfold quoteFrom
    split
    · exact byt_app (byt_step T s) (byt_from T f _)
    · exact byt_nil
/-- A text as strconv.Quote writes it. -/
def quoteL (T : PrintTabs) (l : List UInt8) : List UInt8 := (strOfNums (quoteZ T ⟨l.toArray⟩)).data.toList
theorem quoteL_eq (T : PrintTabs) (l : List UInt8) : quoteL T l = 34 :: ((quoteFrom T l.length ⟨l.toArray⟩).map (fun n => UInt8.ofNat n.toNat) ++ [34]) := by
  simp [quoteL, strOfNums, quoteZ]
  rfl
theorem back_nums : ∀ {l : List Int}, Byt l → (l.map fun n => UInt8.ofNat n.toNat).map (fun b => (b.toNat : Int)) = l
  | [], _ => rfl
  | a :: r, h => by
    have h1 := h a (by simp)
    have h2 := back_nums (l := r) fun z hz => h z (by simp [hz])
    simp only [List.map_cons, h2, List.cons.injEq, and_true]
    simp only [UInt8.toNat_ofNat']
    omega
/-- strconv.Quote's TEXT, AND WHAT STANDS BEHIND IT, TELL WHAT THEY ARE OF. -/
theorem quoteL_inj (T : PrintTabs) {l m x y : List UInt8} (h : quoteL T l ++ x = quoteL T m ++ y) : l = m ∧ x = y := by
  rw [quoteL_eq, quoteL_eq] at h
  simp only [List.cons_append, List.append_assoc, List.cons.injEq, true_and, List.nil_append] at h
  have h' := congrArg (List.map fun b : UInt8 => (b.toNat : Int)) h
  simp only [List.map_append, List.map_cons, back_nums (byt_from T _ _)] at h'
  obtain ⟨h1, h2⟩ := quote_inj T _ _ l m _ _ (Nat.le_refl _) (Nat.le_refl _) h'
  refine ⟨h1, ?_⟩
  have key : ∀ {a b : List UInt8}, a.map (fun b => (b.toNat : Int)) = b.map (fun b => (b.toNat : Int)) → a = b := by
    intro a
    induction a with
    | nil => intro b hb; cases b with | nil => rfl | cons _ _ => simp at hb
    | cons p r ih =>
      intro b hb
      cases b with
      | nil => simp at hb
      | cons q t =>
        simp only [List.map_cons, List.cons.injEq] at hb
        have : p = q := UInt8.toNat_inj.1 (by omega)
        rw [this, ih hb.2]
  exact key h2
theorem quoteL_len (T : PrintTabs) (l : List UInt8) : (quoteL T l).length ≤ 10 * l.length + 2 := by
  have := quoteZ_length_le T ⟨l.toArray⟩
  have e : (quoteL T l).length = (quoteZ T ⟨l.toArray⟩).length := by simp [quoteL, strOfNums]
  rw [e]
  exact this
/-! Numerals. -/
theorem dec_digit (u : Nat) : ∀ c ∈ decDigits u, 48 ≤ c.toNat ∧ c.toNat ≤ 57 := by
  intro c hc
  rw [decDigits_eq] at hc
  simp only [List.mem_map] at hc
  obtain ⟨t, -, rfl⟩ := hc
  simp only [dg, UInt8.toNat_ofNat']
  omega
theorem itoa_char (n : Int) : ∀ c ∈ itoa n, c.toNat ≠ 32 ∧ c.toNat ≠ 10 ∧ c.toNat ≠ 34 := by
  intro c hc
  unfold itoa at hc
  split at hc
  · rcases List.mem_cons.1 hc with rfl | hc
    · decide
    · have := dec_digit _ c hc; omega
  · have := dec_digit _ c hc; omega
/-- What a row of digits counts. -/
def undec (l : List UInt8) : Nat := l.foldl (fun a c => a * 10 + (c.toNat - 48)) 0
theorem undec_app (l : List UInt8) (c : UInt8) : undec (l ++ [c]) = undec l * 10 + (c.toNat - 48) := by simp [undec]
theorem decDigits_step {u : Nat} (h : ¬ u < 10) : decDigits u = decDigits (u / 10) ++ [UInt8.ofNat (48 + u % 10)] := by
  rw [decDigits, dif_neg h]
theorem undec_dec : ∀ (k u : Nat), u ≤ k → undec (decDigits u) = u := by
  intro k
  induction k with
  | zero =>
    intro u hu
    have : u = 0 := by omega
    subst this
    rw [decDigits_one (by decide)]; rfl
  | succ k ih =>
    intro u hu
    by_cases h : u < 10
    · rw [decDigits_one h]
      have e : (UInt8.ofNat (48 + u)).toNat = 48 + u := by simp only [UInt8.toNat_ofNat']; omega
      simp only [undec, List.foldl_cons, List.foldl_nil, e]
      omega
    · rw [decDigits_step h, undec_app, ih (u / 10) (by omega)]
      have e : (UInt8.ofNat (48 + u % 10)).toNat = 48 + u % 10 := by simp only [UInt8.toNat_ofNat']; omega
      rw [e]; omega
theorem decDigits_inj {a b : Nat} (h : decDigits a = decDigits b) : a = b := by rw [← undec_dec a a (Nat.le_refl _), h, undec_dec b b (Nat.le_refl _)]
theorem itoa_inj {a b : Int} (h : itoa a = itoa b) : a = b := by
  have no : ∀ (u v : Nat), 45 :: decDigits u = decDigits v → False := fun u v e => by
    have := dec_digit v 45 (by rw [← e]; simp)
    exact absurd this.1 (by decide)
  unfold itoa at h
  split at h <;> split at h
  · have := decDigits_inj (List.cons.inj h).2; omega
  · exact (no _ _ h).elim
  · exact (no _ _ h.symm).elim
  · have := decDigits_inj h; omega
/-- Numerals, a sign in front of each that stands in none. -/
def numsL (sep : UInt8) (l : List Int) : List UInt8 := l.flatMap fun a => sep :: itoa a
theorem split_sep (sep : UInt8) : ∀ {a b x y : List UInt8}, (∀ c ∈ a, c ≠ sep) → (∀ c ∈ b, c ≠ sep) → a ++ sep :: x = b ++ sep :: y → a = b ∧ x = y
  | [], [], x, y, _, _, h => by simpa using h
  | [], d :: b, x, y, _, h2, h => by
    simp only [List.nil_append, List.cons_append, List.cons.injEq] at h
    exact absurd h.1.symm (h2 d (by simp))
  | d :: a, [], x, y, h1, _, h => by
    simp only [List.nil_append, List.cons_append, List.cons.injEq] at h
    exact absurd h.1 (h1 d (by simp))
  | d :: a, e :: b, x, y, h1, h2, h => by
    simp only [List.cons_append, List.cons.injEq] at h
    obtain ⟨k1, k2⟩ := split_sep sep (fun c hc => h1 c (by simp [hc])) (fun c hc => h2 c (by simp [hc])) h.2
    exact ⟨by rw [h.1, k1], k2⟩
theorem numsL_inj : ∀ {l m : List Int}, numsL 32 l = numsL 32 m → l = m
  | [], [], _ => rfl
  | [], b :: m, h => by simp [numsL] at h
  | a :: l, [], h => by simp [numsL] at h
  | a :: l, b :: m, h => by
    simp only [numsL, List.flatMap_cons, List.cons_append, List.cons.injEq, true_and] at h
    have h' : itoa a ++ numsL 32 l = itoa b ++ numsL 32 m := h
    have hc : ∀ (z : Int), ∀ c ∈ itoa z, c ≠ 32 := fun z c hc e => (itoa_char z c hc).1 (by rw [e]; rfl)
    have hd : ∀ (l : List Int), numsL 32 l = [] ∨ ∃ r, numsL 32 l = 32 :: r := fun l => by
      cases l with
      | nil => exact .inl rfl
      | cons z r => exact .inr ⟨_, rfl⟩
    rcases hd l with e1 | ⟨r1, e1⟩ <;> rcases hd m with e2 | ⟨r2, e2⟩
    · rw [e1, e2, List.append_nil, List.append_nil] at h'
      rw [itoa_inj h', numsL_inj (e1.trans e2.symm)]
    · rw [e1, e2, List.append_nil] at h'
      exact absurd rfl (hc a 32 (by rw [h']; simp))
    · rw [e1, e2, List.append_nil] at h'
      exact absurd rfl (hc b 32 (by rw [← h']; simp))
    · rw [e1, e2] at h'
      obtain ⟨k1, k2⟩ := split_sep 32 (hc a) (hc b) h'
      rw [itoa_inj k1, numsL_inj (e1.trans ((congrArg _ k2).trans e2.symm))]
end Go.Proofs.Law
