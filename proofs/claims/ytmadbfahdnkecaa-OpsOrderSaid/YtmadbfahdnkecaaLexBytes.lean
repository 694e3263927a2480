/- Strings and their lists of bytes; the longest beginnings and what is passed over, as functions of lists; no condition. -/
import Derived.Test.YtmadbfahdnkecaaLexSpec
import Derived.Test.YtmadbfahdnkecaaPass
import Derived.Laws.BytesArg
set_option linter.unusedVariables false
set_option linter.unusedSimpArgs false
namespace Go.Proofs.Ytmadbfahdnkecaa.Lex
open Go Go.RowKit Go.Proofs.YtmadbfahdnkecaaW.PrintWords

/-- A string's bytes. -/
def L (s : ByteArray) : List UInt8 := s.data.toList
theorem L_toList (s : ByteArray) : s.toList = L s := ByteArray.toList_eq s
theorem L_size (s : ByteArray) : s.size = (L s).length := by cases s; rfl
theorem L_inj {s t : ByteArray} (h : L s = L t) : s = t := by
  obtain ⟨⟨a⟩⟩ := s
  obtain ⟨⟨b⟩⟩ := t
  have h' : a = b := h
  rw [h']
theorem L_append (s t : ByteArray) : L (s ++ t) = L s ++ L t := by simp [L]
theorem L_extract (s : ByteArray) (a b : Nat) : L (s.extract a b) = ((L s).drop a).take (b - a) := by
  simp [L, List.extract_eq_take_drop]
theorem L_nil : L (⟨#[]⟩ : ByteArray) = [] := rfl
theorem L_ofNums (xs : List Int) : L (strOfNums xs) = xs.map fun n => UInt8.ofNat n.toNat := rfl
/-- The string of these bytes. -/
def S (l : List UInt8) : ByteArray := ⟨l.toArray⟩
theorem L_S (l : List UInt8) : L (S l) = l := rfl
theorem S_L (s : ByteArray) : S (L s) = s := L_inj (L_S _)
theorem bt_L (s : ByteArray) (i : Nat) : bt s (i : Int) = (((L s).getD i 0).toNat : Int) := by
  unfold bt
  simp only [Int.toNat_natCast]
  split
  · rename_i h
    have h2 : i < (L s).length := by rw [← L_size]; exact h
    rw [List.getD_eq_getElem?_getD, List.getElem?_eq_getElem h2]
    rfl
  · rename_i h
    have h2 : (L s).length ≤ i := by rw [← L_size]; omega
    rw [List.getD_eq_getElem?_getD, List.getElem?_eq_none h2]
    rfl
theorem byteAt_L (s : ByteArray) (i : Nat) : byteAt s i = ((L s).getD i 0).toNat := by
  have h := bt_L s i
  unfold bt at h
  unfold byteAt
  simp only [Int.toNat_natCast] at h
  split at h
  · rename_i c
    rw [dif_pos c]; omega
  · rename_i c
    rw [dif_neg c]; omega
theorem u8_iff (c d : UInt8) : ((c.toNat : Int) = (d.toNat : Int)) ↔ c = d := by
  rw [← UInt8.toNat_inj]; omega
theorem drop_getD (l : List UInt8) (i : Nat) (h : i < l.length) : l.drop i = l.getD i 0 :: l.drop (i + 1) := by
  rw [List.getD_eq_getElem?_getD, List.getElem?_eq_getElem h]
  exact List.drop_eq_getElem_cons h

/-! The kinds. -/
theorem blankP_bl (c : UInt8) : blankP (c.toNat : Int) = bl c := by
  have e1 := u8_iff c 32
  have e2 := u8_iff c 9
  have e3 := u8_iff c 10
  have e4 := u8_iff c 13
  simp only [UInt8.reduceToNat] at e1 e2 e3 e4
  unfold blankP bl
  rw [Bool.eq_iff_iff]
  simp only [decide_eq_true_eq, Bool.or_eq_true, beq_iff_eq, ← e1, ← e2, ← e3, ← e4]
  omega
theorem inlineP_10 (c : UInt8) : inlineP (c.toNat : Int) = !(c == 10) := by
  have e3 := u8_iff c 10
  simp only [UInt8.reduceToNat] at e3
  unfold inlineP
  rw [Bool.eq_iff_iff]
  simp only [decide_eq_true_eq, Bool.not_eq_true', beq_eq_false_iff_ne, ne_eq, ← e3]
  omega
theorem letterP_le (c : UInt8) : letterP (c.toNat : Int) = le c := by
  unfold letterP le
  rw [Bool.eq_iff_iff]
  simp only [decide_eq_true_eq]
  omega
theorem digitP_di (c : UInt8) : digitP (c.toNat : Int) = di c := by
  unfold digitP di
  rw [Bool.eq_iff_iff]
  simp only [decide_eq_true_eq]
  omega
theorem innerP_inn (c : UInt8) : innerP (c.toNat : Int) = inn c := by
  rw [inner_eq, letterP_le, digitP_di]
  have e := u8_iff c 95
  simp only [UInt8.reduceToNat] at e
  unfold inn
  rw [show ((c.toNat : Int) == 95) = (c == 95) by rw [Bool.eq_iff_iff]; simp only [beq_iff_eq, ← e]; omega]
  rw [Bool.or_assoc]

theorem hd_L (p : Int → Bool) (q : UInt8 → Bool) (pq : ∀ c : UInt8, p (c.toNat : Int) = q c) (s : ByteArray) : ∀ f i, s.size ≤ i + f → i ≤ s.size → hd p s f i = i + (((L s).drop i).takeWhile q).length := by
  intro f
  induction f with
  | zero =>
    intro i h1 h2
    rw [L_size] at h1
    simp [hd, List.drop_eq_nil_of_le (show (L s).length ≤ i by omega)]
  | succ f ih =>
    intro i h1 h2
    unfold hd
    by_cases c : i < s.size
    · rw [if_pos c]
      rw [drop_getD (L s) i (by rw [← L_size]; exact c), List.takeWhile_cons, byteAt_L, pq]
      by_cases q1 : q ((L s).getD i 0) = true
      · rw [if_pos q1, if_pos q1, ih (i + 1) (by omega) (by omega)]
        simp; omega
      · rw [if_neg q1, if_neg q1]; rfl
    · rw [if_neg c, List.drop_eq_nil_of_le (by rw [← L_size]; omega)]; rfl
theorem headLen_L (p : Int → Bool) (q : UInt8 → Bool) (pq : ∀ c : UInt8, p (c.toNat : Int) = q c) (s : ByteArray) : headLen p s = ((L s).takeWhile q).length := by
  unfold headLen
  rw [hd_L p q pq s s.size 0 (by omega) (by omega)]
  simp
theorem take_takeWhile {α : Type} (q : α → Bool) (l : List α) : l.take (l.takeWhile q).length = l.takeWhile q := by
  induction l with
  | nil => rfl
  | cons a t ih =>
    rw [List.takeWhile_cons]
    split
    · simp [ih]
    · rfl
theorem drop_takeWhile {α : Type} (q : α → Bool) (l : List α) : l.drop (l.takeWhile q).length = l.dropWhile q := by
  induction l with
  | nil => rfl
  | cons a t ih =>
    rw [List.takeWhile_cons, List.dropWhile_cons]
    split
    · simp [ih]
    · rfl
theorem headOf_L (p : Int → Bool) (q : UInt8 → Bool) (pq : ∀ c : UInt8, p (c.toNat : Int) = q c) (s : ByteArray) : L (headOf p s) = (L s).takeWhile q := by
  unfold headOf
  rw [L_extract, headLen_L p q pq]
  simp [take_takeWhile]
theorem dropHd_L (p : Int → Bool) (q : UInt8 → Bool) (pq : ∀ c : UInt8, p (c.toNat : Int) = q c) (s : ByteArray) : L (dropHd p s) = (L s).dropWhile q := by
  unfold dropHd
  rw [L_extract, headOf_size, headLen_L p q pq, drop_takeWhile, List.take_of_length_le]
  have := congrArg List.length (drop_takeWhile q (L s))
  rw [List.length_drop] at this
  rw [L_size]
  omega
theorem skp_blanks : ∀ (l : List UInt8), skp false l = skp false (l.dropWhile bl)
  | [] => rfl
  | c :: t => by
    by_cases h : bl c = true
    · rw [List.dropWhile_cons, if_pos h, ← skp_blanks t]
      simp [skp, h]
    · rw [List.dropWhile_cons, if_neg h]
theorem skp_line : ∀ (l : List UInt8), skp true l = skp false (l.dropWhile (fun c => !(c == 10)))
  | [] => rfl
  | c :: t => by
    by_cases h : c = 10
    · subst h
      simp [skp, List.dropWhile_cons, bl]
    · rw [List.dropWhile_cons, if_pos (by simp [h]), ← skp_line t]
      simp [skp, h]
theorem passS_L : ∀ (f : Nat) (s : ByteArray), s.size < f → L (passS f s) = skp false (L s) := by
  intro f
  induction f with
  | zero => intro s h; omega
  | succ f ih =>
    intro s h
    rw [skp_blanks, ← dropHd_L blankP bl blankP_bl s]
    simp only [passS]
    have ha : (dropHd blankP s).size ≤ s.size := by rw [dropHd_size]; omega
    have hb : ∀ c t, L (dropHd blankP s) = c :: t → bl c = false := by
      intro c t e
      rw [dropHd_L blankP bl blankP_bl s] at e
      have := List.head?_dropWhile_not bl (L s)
      rw [e] at this
      simpa using this
    generalize dropHd blankP s = a at *
    by_cases c : 0 < a.size ∧ byteAt a 0 = 35
    · rw [if_pos c]
      rw [ih _ (by have := dropHd_inline a c.1 c.2; omega), dropHd_L inlineP _ inlineP_10]
      rw [← skp_line]
      have c1 := c.1
      have c2 := c.2
      rw [byteAt_L] at c2
      rw [L_size] at c1
      rcases hl : L a with _ | ⟨x, t⟩
      · rw [hl] at c1; simp at c1
      · rw [hl] at c2
        simp only [List.getD_cons_zero] at c2
        have hx : x = 35 := by rw [← UInt8.toNat_inj]; exact c2
        subst hx
        simp [skp, bl]
    · rw [if_neg c]
      rcases hl : L a with _ | ⟨x, t⟩
      · rfl
      · have hx : bl x = false := hb x t hl
        have hx2 : x ≠ 35 := by
          intro e
          apply c
          rw [byteAt_L, L_size, hl]
          subst e
          simp
        simp [skp, hx, hx2]
theorem passOf_L (s : ByteArray) : L (passOf s) = skp false (L s) := passS_L _ s (by omega)
end Go.Proofs.Ytmadbfahdnkecaa.Lex
