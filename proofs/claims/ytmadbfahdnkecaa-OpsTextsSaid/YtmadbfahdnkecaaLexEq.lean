/- What package lex computes, as the list of bytes says it; no condition but lengths. -/
import Derived.Test.YtmadbfahdnkecaaLexBytes
import Derived.Test.YtmadbfahdnkecaaQ30
import Derived.IntWalk
import Derived.Laws.Shifts
set_option linter.unusedVariables false
set_option linter.unusedSimpArgs false
namespace Go.Proofs.Ytmadbfahdnkecaa.Lex
open Go Go.RowKit Go.Proofs.YtmadbfahdnkecaaW.PrintWords Go.Proofs.Ytmadbfahdnkecaa.Q

theorem w64 (n : Int) (h : -9223372036854775808 ≤ n ∧ n ≤ 9223372036854775807) : wrap64 n = n := IntWalk.wrap64_in n h
theorem bt0 (s : ByteArray) (c : UInt8) (t : List UInt8) (h : L s = c :: t) : bt s 0 = (c.toNat : Int) := by
  have := bt_L s 0
  rw [h] at this
  simpa using this
theorem w32_bt (s : ByteArray) (i : Int) : wrap32 (bt s i) = bt s i := by
  have := bt_range s i
  exact IntWalk.wrap32_in _ (by omega)
theorem isE (s : ByteArray) : (s.toList = ([] : List UInt8)) ↔ L s = [] := by rw [L_toList]

theorem letter_f (c : UInt8) : lex_letter.f (c.toNat : Int) = some (le c) := by
  unfold lex_letter.f le
  by_cases h : (c.toNat : Int) ≥ 97
  · rw [if_pos h]
    congr 1
    rw [Bool.eq_iff_iff]
    simp only [decide_eq_true_eq]
    omega
  · rw [if_neg h]
    congr 1
    symm
    rw [decide_eq_false_iff_not]
    omega
theorem digit_f (c : UInt8) : lex_digit.f (c.toNat : Int) = some (di c) := by
  unfold lex_digit.f di
  by_cases h : (c.toNat : Int) ≥ 48
  · rw [if_pos h]
    congr 1
    rw [Bool.eq_iff_iff]
    simp only [decide_eq_true_eq]
    omega
  · rw [if_neg h]
    congr 1
    symm
    rw [decide_eq_false_iff_not]
    omega
theorem takeWhile_all {α : Type} (q : α → Bool) (l : List α) : ((l.takeWhile q).length = l.length) ↔ l.all q = true := by
  induction l with
  | nil => simp
  | cons a t ih =>
    rw [List.takeWhile_cons, List.all_cons]
    by_cases h : q a = true
    · rw [if_pos h]
      simp only [List.length_cons, h, Bool.true_and]
      rw [← ih]; omega
    · rw [if_neg h]
      simp [h]
theorem word_f (s : ByteArray) : lex_word.f s = some (isWord (L s)) := by
  unfold lex_word.f
  rcases hl : L s with _ | ⟨c, t⟩
  · rw [if_pos ((isE s).2 hl)]; rfl
  · rw [if_neg (by rw [isE, hl]; simp), if_pos (by rw [L_size, hl]; simp), w32_bt, bt0 s c t hl, letter_f]
    simp only [Option.bind_some]
    by_cases h : le c = true
    · rw [if_pos h]
      unfold headInner.f
      simp only [Option.bind_some]
      congr 1
      rw [isWord, h, Bool.true_and, ← hl, Bool.eq_iff_iff]
      rw [beq_iff_eq, L_size, L_size, headOf_L innerP inn innerP_inn, ← takeWhile_all]
      omega
    · rw [if_neg h]
      simp [isWord, h]

/-! within -/
theorem L_cut (a : ByteArray) (i n : Nat) : L (a.extract i (i + n)) = ((L a).drop i).take n := by
  rw [L_extract, Nat.add_sub_cancel_left]
/-- Does a list stand in another one, from a place on? -/
def inAt (b : List UInt8) : List UInt8 → Bool
  | [] => b.isPrefixOf []
  | c :: t => b.isPrefixOf (c :: t) || inAt b t
theorem prefix_take (b l : List UInt8) : b.isPrefixOf l = true ↔ (b.length ≤ l.length ∧ l.take b.length = b) := by
  rw [List.isPrefixOf_iff_prefix]
  constructor
  · rintro ⟨r, rfl⟩
    simp
  · rintro ⟨h1, h2⟩
    have h3 := List.take_append_drop b.length l
    rw [h2] at h3
    exact ⟨_, h3⟩
theorem inAt_short (b : List UInt8) : ∀ l : List UInt8, l.length < b.length → inAt b l = false
  | [], h => by
    cases b with
    | nil => simp at h
    | cons x y => rfl
  | c :: t, h => by
    simp only [inAt]
    rw [inAt_short b t (by simp at h; omega), Bool.or_false, Bool.eq_false_iff, ne_eq, prefix_take]
    omega
theorem within_l (a b : ByteArray) (hb : 1 ≤ b.size) (hs : a.size + b.size ≤ 4611686018427387904) : ∀ (m i : Nat), a.size ≤ m + i → i ≤ a.size + 1 → EvTo (fun k => lex_within.l0 k a b (i : Int)) (inAt (L b) ((L a).drop i)) := by
  intro m
  induction m with
  | zero =>
    intro i h1 h2
    refine EvTo.step (G := fun _ => some false) (fun k => ?_) (by
      rw [inAt_short _ _ (by rw [List.length_drop, ← L_size, ← L_size]; omega)]
      exact EvTo.now)
    simp only [lex_within.l0]
    rw [w64 _ (by omega), if_neg (by omega)]
  | succ m ih =>
    intro i h1 h2
    by_cases c : i + b.size ≤ a.size
    · by_cases e : ((L a).drop i).take b.size = L b
      · refine EvTo.step (G := fun _ => some true) (fun k => ?_) ?_
        · simp only [lex_within.l0]
          rw [w64 _ (by omega), if_pos (by omega), if_pos (by omega), if_pos (by omega)]
          have e1 : ((i : Int)).toNat = i := by omega
          have e2 : ((i : Int) + (b.size : Int)).toNat = i + b.size := by omega
          rw [e1, e2, L_toList, L_toList, L_cut, if_pos e]
        · have : inAt (L b) ((L a).drop i) = true := by
            rw [drop_getD (L a) i (by rw [← L_size]; omega)] at *
            simp only [inAt]
            rw [Bool.or_eq_true, prefix_take]
            refine Or.inl ⟨?_, ?_⟩
            · rw [← drop_getD (L a) i (by rw [← L_size]; omega), List.length_drop, ← L_size, ← L_size]; omega
            · rw [← L_size]; exact e
          rw [this]
          exact EvTo.now
      · refine EvTo.step (G := fun k => lex_within.l0 k a b ((i + 1 : Nat) : Int)) (fun k => ?_) ?_
        · simp only [lex_within.l0]
          rw [w64 _ (by omega), if_pos (by omega), if_pos (by omega), if_pos (by omega)]
          have e1 : ((i : Int)).toNat = i := by omega
          have e2 : ((i : Int) + (b.size : Int)).toNat = i + b.size := by omega
          rw [e1, e2, L_toList, L_toList, L_cut, if_neg e, w64 _ (by omega)]
          rfl
        · have : inAt (L b) ((L a).drop i) = inAt (L b) ((L a).drop (i + 1)) := by
            rw [drop_getD (L a) i (by rw [← L_size]; omega)]
            simp only [inAt]
            rw [← drop_getD (L a) i (by rw [← L_size]; omega)]
            have : List.isPrefixOf (L b) ((L a).drop i) = false := by
              rw [Bool.eq_false_iff, ne_eq, prefix_take]
              rintro ⟨_, q⟩
              rw [← L_size] at q
              exact e q
            rw [this, Bool.false_or]
          rw [this]
          exact ih (i + 1) (by omega) (by omega)
    · refine EvTo.step (G := fun _ => some false) (fun k => ?_) (by
        rw [inAt_short _ _ (by rw [List.length_drop, ← L_size, ← L_size]; omega)]
        exact EvTo.now)
      simp only [lex_within.l0]
      rw [w64 _ (by omega), if_neg (by omega)]
theorem within_f (a b : ByteArray) (hb : 1 ≤ b.size) (hs : a.size + b.size ≤ 4611686018427387904) : EvTo (fun k => lex_within.f k a b) (inAt (L b) (L a)) := by
  have := within_l a b hb hs a.size 0 (by omega) (by omega)
  simpa [lex_within.f] using this

/-! Key -/
def KT : List UInt8 := [32, 109, 111, 100, 117, 108, 101, 32, 117, 115, 101, 32, 102, 110, 32, 108, 101, 116, 32, 105, 102, 32, 101, 108, 115, 101, 32, 119, 104, 105, 108, 101, 32, 98, 114, 101, 97, 107, 32, 99, 111, 110, 116, 105, 110, 117, 101, 32, 114, 101, 116, 117, 114, 110, 32, 112, 117, 116, 32, 101, 109, 105, 116, 32, 121, 105, 101, 108, 100, 32, 110, 105, 108, 32, 115, 116, 97, 116, 101, 32, 115, 112, 97, 119, 110, 32, 108, 101, 110, 32, 110, 111, 116, 32, 97, 110, 100, 32, 111, 114, 32]
def KB : ByteArray := (⟨#[32, 109, 111, 100, 117, 108, 101, 32, 117, 115, 101, 32, 102, 110, 32, 108, 101, 116, 32, 105, 102, 32, 101, 108, 115, 101, 32, 119, 104, 105, 108, 101, 32, 98, 114, 101, 97, 107, 32, 99, 111, 110, 116, 105, 110, 117, 101, 32, 114, 101, 116, 117, 114, 110, 32, 112, 117, 116, 32, 101, 109, 105, 116, 32, 121, 105, 101, 108, 100, 32, 110, 105, 108, 32, 115, 116, 97, 116, 101, 32, 115, 112, 97, 119, 110, 32, 108, 101, 110, 32, 110, 111, 116, 32, 97, 110, 100, 32, 111, 114, 32]⟩ : ByteArray)
theorem KB_size : KB.size = 101 := rfl
def no32 (c : UInt8) : Bool := c != 32
/-- The words between blanks. -/
def wordsOf : List UInt8 → List (List UInt8)
  | [] => []
  | c :: t => if c == 32 && !(t.dropWhile no32).isEmpty then t.takeWhile no32 :: wordsOf t else wordsOf t
theorem words_KT : wordsOf KT = KEYS := by decide +kernel
theorem prefix_word : ∀ (s t : List UInt8), s.all no32 = true → (s ++ [32]).isPrefixOf t = (t.takeWhile no32 == s && !(t.dropWhile no32).isEmpty)
  | [], [], _ => rfl
  | [], c :: t, _ => by
    by_cases h : c = 32
    · subst h
      simp [List.takeWhile_cons, List.dropWhile_cons, no32, List.isPrefixOf]
    · have h2 : (32 == c) = false := beq_eq_false_iff_ne.2 (fun e => h e.symm)
      simp [List.takeWhile_cons, List.dropWhile_cons, no32, List.isPrefixOf, h, h2]
  | x :: s, [], _ => by simp [List.isPrefixOf]
  | x :: s, c :: t, hs => by
    simp only [List.all_cons, Bool.and_eq_true] at hs
    have ih := prefix_word s t hs.2
    rw [List.cons_append, List.isPrefixOf_cons_cons, ih]
    by_cases h : x = c
    · subst h
      rw [List.takeWhile_cons, List.dropWhile_cons, if_pos hs.1, if_pos hs.1]
      simp
    · have h2 : (x == c) = false := beq_eq_false_iff_ne.2 h
      rw [h2, Bool.false_and]
      symm
      rw [List.takeWhile_cons]
      split
      · have : (c :: t.takeWhile no32 == x :: s) = false := by
          apply beq_eq_false_iff_ne.2
          intro e
          exact h (List.cons.inj e).1.symm
        rw [this, Bool.false_and]
      · simp
theorem inAt_words (s : List UInt8) (hs : s.all no32 = true) : ∀ l : List UInt8, inAt (32 :: (s ++ [32])) l = (wordsOf l).contains s
  | [] => by simp [inAt, wordsOf, List.isPrefixOf]
  | c :: t => by
    rw [inAt, inAt_words s hs t, List.isPrefixOf_cons_cons, prefix_word s t hs, wordsOf]
    by_cases h : c = 32
    · subst h
      by_cases h2 : (t.dropWhile no32).isEmpty = true
      · simp [h2]
      · have h3 : (t.dropWhile no32).isEmpty = false := by simpa using h2
        rw [h3]
        simp only [Bool.not_false, Bool.and_true, beq_self_eq_true, Bool.true_and, if_true, List.contains_cons]
        rw [show (List.takeWhile no32 t == s) = (s == List.takeWhile no32 t) from Bool.eq_iff_iff.2 (by simp only [beq_iff_eq]; exact eq_comm)]
    · have h2 : (32 == c) = false := beq_eq_false_iff_ne.2 (fun e => h e.symm)
      have h3 : (c == 32) = false := beq_eq_false_iff_ne.2 h
      rw [h2, h3]
      simp
theorem word_no32 {s : List UInt8} (h : isWord s = true) : s.all no32 = true := by
  cases s with
  | nil => cases h
  | cons c t =>
    simp only [isWord, Bool.and_eq_true] at h
    rw [List.all_eq_true] at h ⊢
    intro x hx
    have h1 := h.2 x hx
    simp only [no32, bne_iff_ne, ne_eq]
    rintro rfl
    exact absurd h1 (by decide)
theorem key_word {s : List UInt8} (h : isKey s = true) : isWord s = true := by
  have : ∀ x ∈ KEYS, isWord x = true := by decide +kernel
  exact this s (List.contains_iff_mem.1 h)
theorem Key_f (s : ByteArray) (hs : s.size ≤ 140737488351232) : EvTo (fun k => lex_Key.f k s) (isKey (L s)) := by
  unfold lex_Key.f
  rw [word_f]
  simp only [Option.bind_some]
  by_cases h : isWord (L s) = true
  · rw [h]
    simp only [if_true]
    have e1 : ((⟨#[32]⟩ : ByteArray) ++ s).size = 1 + s.size := by rw [ByteArray.size_append]; rfl
    simp only [e1]
    refine EvTo.pos (by omega) (EvTo.pos (by omega) ?_)
    have h0 : ByteArray.size (⟨#[32]⟩ : ByteArray) = 1 := rfl
    have hw := within_f KB (((⟨#[32]⟩ : ByteArray) ++ s) ++ (⟨#[32]⟩ : ByteArray)) (by rw [ByteArray.size_append, e1]; omega) (by rw [ByteArray.size_append, e1, h0, KB_size]; omega)
    have e2 : L (((⟨#[32]⟩ : ByteArray) ++ s) ++ (⟨#[32]⟩ : ByteArray)) = 32 :: (L s ++ [32]) := by
      rw [L_append, L_append]; rfl
    rw [e2] at hw
    rw [show inAt (32 :: (L s ++ [32])) (L KB) = isKey (L s) from (inAt_words _ (word_no32 h) KT).trans (by rw [words_KT]; rfl)] at hw
    exact EvTo.bind (G := fun _ t => some t) hw EvTo.now
  · have h2 : isWord (L s) = false := by simpa using h
    have h3 : isKey (L s) = false := by
      rw [Bool.eq_false_iff]
      intro e
      exact h (key_word e)
    rw [h2, h3]
    simp only [Bool.false_eq_true, if_false]
    exact EvTo.now
theorem Name_f (s : ByteArray) (hs : s.size ≤ 140737488351232) : EvTo (fun k => lex_Name.f k s) (isName (L s)) := by
  unfold lex_Name.f
  rw [word_f]
  simp only [Option.bind_some]
  by_cases h : isWord (L s) = true
  · rw [h]
    simp only [if_true]
    by_cases h2 : (s.size : Int) ≤ 16
    · refine EvTo.pos h2 ?_
      have e : isName (L s) = !isKey (L s) := by
        unfold isName
        rw [h, show decide ((L s).length ≤ 16) = true from decide_eq_true (by rw [← L_size]; omega)]
        rfl
      rw [e]
      exact EvTo.bind (G := fun _ t => some (!t)) (Key_f s hs) EvTo.now
    · refine EvTo.neg h2 ?_
      have e : isName (L s) = false := by
        unfold isName
        rw [show decide ((L s).length ≤ 16) = false from decide_eq_false (by rw [← L_size]; omega)]
        simp
      rw [e]
      exact EvTo.now
  · have h2 : isWord (L s) = false := by simpa using h
    rw [h2]
    simp only [Bool.false_eq_true, if_false]
    have e : isName (L s) = false := by
      unfold isName
      rw [h2]; rfl
    rw [e]
    exact EvTo.now
end Go.Proofs.Ytmadbfahdnkecaa.Lex
