/- What the document's lex computes, as the list of bytes says it: the small functions. -/
import Derived.Test.YtkcnpnkcahgniaaQ6
import Derived.Test.YtkcnpnkcahgniaaQ7
import Derived.Test.YtkcnpnkcahgniaaLexPlace
set_option linter.unusedVariables false
set_option linter.unusedSimpArgs false
namespace Go.Proofs.Ytkcnpnkcahgniaa.Lex
open Go Go.RowKit Go.Proofs.YtkcnpnkcahgniaaW.PrintWords Go.Proofs.Ytkcnpnkcahgniaa.Q

theorem rletter_f (c : UInt8) : chrysalisref08_letter.f (c.toNat : Int) = some (le c) := letter_f c
theorem rdigit_f (c : UInt8) : chrysalisref08_digit.f (c.toNat : Int) = some (di c) := digit_f c
theorem rblank_f (c : UInt8) : chrysalisref08_blank.f (c.toNat : Int) = some (bl c) := by
  have e1 : ((c.toNat : Int) = 32) ↔ c = 32 := u8_iff c 32
  have e2 : ((c.toNat : Int) = 9) ↔ c = 9 := u8_iff c 9
  have e3 : ((c.toNat : Int) = 10) ↔ c = 10 := u8_iff c 10
  have e4 : ((c.toNat : Int) = 13) ↔ c = 13 := u8_iff c 13
  unfold chrysalisref08_blank.f bl
  by_cases c1 : c = 32
  · rw [if_pos (e1.2 c1), c1]; rfl
  · rw [if_neg (fun h => c1 (e1.1 h))]
    by_cases c2 : c = 9
    · rw [if_pos (e2.2 c2), c2]; rfl
    · rw [if_neg (fun h => c2 (e2.1 h))]
      by_cases c3 : c = 10
      · rw [if_pos (e3.2 c3), c3]; rfl
      · rw [if_neg (fun h => c3 (e3.1 h))]
        congr 1
        rw [beq_eq_false_iff_ne.2 c1, beq_eq_false_iff_ne.2 c2, beq_eq_false_iff_ne.2 c3]
        simp only [Bool.false_or]
        rw [Bool.eq_iff_iff, beq_iff_eq, beq_iff_eq]
        exact e4

/-! skip -/
theorem rskip_l (s : ByteArray) (hs : s.size ≤ 140737488351232) : ∀ (m i : Nat), s.size = m + i →
    EvTo (fun k => chrysalisref08_skip.l0 k s (i : Int)) ((s.size - (skp false ((L s).drop i)).length : Nat) : Int) ∧ EvTo (fun k => chrysalisref08_skip.l1 k s (i : Int)) ((s.size - (skp true ((L s).drop i)).length : Nat) : Int) := by
  intro m
  induction m with
  | zero =>
    intro i h1
    have hd : (L s).drop i = [] := List.drop_eq_nil_of_le (by rw [← L_size]; omega)
    rw [hd]
    have h0 : EvTo (fun k => chrysalisref08_skip.l0 k s (i : Int)) ((s.size - (skp false []).length : Nat) : Int) := by
      refine EvTo.step (fun k => by rw [chrysalisref08_skip.l0]) ?_
      refine EvTo.neg (by omega) ?_
      refine EvTo.step (fun k => by rw [chrysalisref08_skip.j1]) ?_
      refine EvTo.neg (by simp) (EvTo.of_eq (fun k => ?_))
      simp only [skp, List.length_nil]
      congr 1
      omega
    refine ⟨h0, ?_⟩
    refine EvTo.step (fun k => by rw [chrysalisref08_skip.l1]) ?_
    exact EvTo.neg (by omega) h0
  | succ m ih =>
    intro i h1
    obtain ⟨ih0, ih1⟩ := ih (i + 1) (by omega)
    have hd := drop_getD (L s) i (by rw [← L_size]; omega)
    have hb := bt_L s i
    generalize (L s).getD i 0 = c at hd hb
    rw [hd]
    have hinc : wrap64 ((i : Int) + 1) = ((i + 1 : Nat) : Int) := inc i 0 (by omega)
    have e1 : ((c.toNat : Int) = 35) ↔ c = 35 := u8_iff c 35
    have e2 : ((c.toNat : Int) = 10) ↔ c = 10 := u8_iff c 10
    have hl : (skp false (c :: (L s).drop (i + 1))).length ≤ m + 1 := by
      have := skp_len (c :: (L s).drop (i + 1)) false
      simp only [List.length_cons, List.length_drop, ← L_size] at this
      omega
    have h0 : EvTo (fun k => chrysalisref08_skip.l0 k s (i : Int)) ((s.size - (skp false (c :: (L s).drop (i + 1))).length : Nat) : Int) := by
      refine EvTo.step (fun k => by rw [chrysalisref08_skip.l0]) ?_
      refine EvTo.pos (by omega) (EvTo.pos (by omega) ?_)
      simp only [hb, rblank_f, Option.bind_some]
      by_cases c1 : bl c = true
      · refine EvTo.pos c1 ?_
        refine EvTo.step (fun k => by rw [chrysalisref08_skip.j1]) ?_
        refine EvTo.pos rfl (EvTo.pos (by omega) (EvTo.pos (by omega) ?_))
        simp only [hb, hinc]
        refine EvTo.neg (fun h => ?_) ?_
        · rw [e1.1 h] at c1; exact absurd c1 (by decide)
        · have : skp false (c :: (L s).drop (i + 1)) = skp false ((L s).drop (i + 1)) := by simp [skp, c1]
          rw [this]
          exact ih0
      · refine EvTo.neg c1 ?_
        by_cases c2 : c = 35
        · rw [show ((c.toNat : Int) == 35) = true from beq_iff_eq.2 (e1.2 c2)]
          refine EvTo.step (fun k => by rw [chrysalisref08_skip.j1]) ?_
          refine EvTo.pos rfl (EvTo.pos (by omega) (EvTo.pos (by omega) ?_))
          simp only [hb, hinc]
          refine EvTo.pos (e1.2 c2) ?_
          refine EvTo.step (fun k => by rw [chrysalisref08_skip.l1]) ?_
          refine EvTo.pos (by omega) (EvTo.pos (by omega) ?_)
          simp only [hb, hinc]
          refine EvTo.neg (fun h => ?_) ?_
          · rw [c2] at h; exact absurd h (by decide)
          · have : skp false (c :: (L s).drop (i + 1)) = skp true ((L s).drop (i + 1)) := by subst c2; simp [skp, bl]
            rw [this]
            exact ih1
        · rw [show ((c.toNat : Int) == 35) = false from beq_eq_false_iff_ne.2 (fun h => c2 (e1.1 h))]
          refine EvTo.step (fun k => by rw [chrysalisref08_skip.j1]) ?_
          refine EvTo.neg (by simp) (EvTo.of_eq (fun k => ?_))
          have : skp false (c :: (L s).drop (i + 1)) = c :: (L s).drop (i + 1) := by simp [skp, c1, c2]
          rw [this, List.length_cons, List.length_drop, ← L_size]
          congr 1
          omega
    refine ⟨h0, ?_⟩
    refine EvTo.step (fun k => by rw [chrysalisref08_skip.l1]) ?_
    refine EvTo.pos (by omega) (EvTo.pos (by omega) ?_)
    simp only [hb, hinc]
    by_cases c1 : c = 10
    · refine EvTo.pos (e2.2 c1) ?_
      have : skp true (c :: (L s).drop (i + 1)) = skp false (c :: (L s).drop (i + 1)) := by subst c1; simp [skp, bl]
      rw [this]
      exact h0
    · refine EvTo.neg (fun h => c1 (e2.1 h)) ?_
      have : skp true (c :: (L s).drop (i + 1)) = skp true ((L s).drop (i + 1)) := by simp [skp, c1]
      rw [this]
      exact ih1
theorem rskip_f (s : ByteArray) (hs : s.size ≤ 140737488351232) (i : Nat) (hi : i ≤ s.size) : EvTo (fun k => chrysalisref08_skip.f k s (i : Int)) ((s.size - (skp false ((L s).drop i)).length : Nat) : Int) :=
  (rskip_l s hs (s.size - i) i (by omega)).1

/-! word -/
def wordN (l : List UInt8) : Nat := match l with | [] => 0 | c :: _ => if le c then (l.takeWhile inn).length else 0
theorem rword_l (s : ByteArray) (hs : s.size ≤ 140737488351232) (at' : Nat) : ∀ (m n : Nat), s.size = m + (at' + n) → 0 < n →
    EvTo (fun k => chrysalisref08_word.l0 k s (at' : Int) (n : Int)) ((n + (((L s).drop (at' + n)).takeWhile inn).length : Nat) : Int) := by
  intro m
  induction m with
  | zero =>
    intro n h1 h2
    rw [List.drop_eq_nil_of_le (by rw [← L_size]; omega)]
    have hw : wrap64 ((at' : Int) + (n : Int)) = ((at' + n : Nat) : Int) := by rw [w64 _ (by omega)]; omega
    refine EvTo.step (fun k => by rw [chrysalisref08_word.l0]) ?_
    simp only [hw]
    exact EvTo.neg (by omega) EvTo.now
  | succ m ih =>
    intro n h1 h2
    have hd := drop_getD (L s) (at' + n) (by rw [← L_size]; omega)
    have hb := bt_L s (at' + n)
    generalize (L s).getD (at' + n) 0 = c at hd hb
    have hw : wrap64 ((at' : Int) + (n : Int)) = ((at' + n : Nat) : Int) := by rw [w64 _ (by omega)]; omega
    have hinc : wrap64 ((n : Int) + 1) = ((n + 1 : Nat) : Int) := inc n 0 (by omega)
    have e1 : ((c.toNat : Int) = 95) ↔ c = 95 := u8_iff c 95
    have hnext : inn c = true → EvTo (fun k => chrysalisref08_word.l0 k s (at' : Int) ((n + 1 : Nat) : Int)) ((n + (((L s).drop (at' + n)).takeWhile inn).length : Nat) : Int) := by
      intro hi
      have := ih (n + 1) (by omega) (by omega)
      rw [hd, List.takeWhile_cons, if_pos hi, List.length_cons]
      have e : n + ((((L s).drop (at' + n + 1)).takeWhile inn).length + 1) = n + 1 + (((L s).drop (at' + (n + 1))).takeWhile inn).length := by
        rw [show at' + n + 1 = at' + (n + 1) by omega]; omega
      rw [e]
      exact this
    have hstop : inn c = false → (n + (((L s).drop (at' + n)).takeWhile inn).length) = n := by
      intro hi
      rw [hd, List.takeWhile_cons, if_neg (by rw [hi]; simp)]; rfl
    refine EvTo.step (fun k => by rw [chrysalisref08_word.l0]) ?_
    simp only [hw, hb, hinc, rletter_f, rdigit_f, Option.bind_some]
    refine EvTo.pos (by omega) (EvTo.pos (by omega) ?_)
    by_cases c1 : le c = true
    · exact EvTo.pos c1 (hnext (le_inn c1))
    · refine EvTo.neg c1 (EvTo.pos (by omega) ?_)
      by_cases c2 : di c = true
      · exact EvTo.pos c2 (hnext (by simp [inn, c2]))
      · refine EvTo.neg c2 ?_
        by_cases c3 : c = 95
        · exact EvTo.pos (e1.2 c3) (hnext (by simp [inn, c3]))
        · refine EvTo.neg (fun h => c3 (e1.1 h)) ?_
          rw [hstop (by simp [inn, c1, c2, c3])]
          exact EvTo.now
theorem rword_f (s : ByteArray) (hs : s.size ≤ 140737488351232) (at' : Nat) (ha : at' ≤ s.size) : EvTo (fun k => chrysalisref08_word.f k s (at' : Int)) ((wordN ((L s).drop at') : Nat) : Int) := by
  unfold chrysalisref08_word.f
  have hw : wrap64 ((at' : Int) + 0) = ((at' : Nat) : Int) := by rw [w64 _ (by omega)]; omega
  have hinc : wrap64 ((0 : Int) + 1) = ((1 : Nat) : Int) := by rw [w64 _ (by omega)]; rfl
  refine EvTo.step (fun k => by rw [chrysalisref08_word.l0]) ?_
  simp only [hw, hinc]
  by_cases h : at' < s.size
  · have hd := drop_getD (L s) at' (by rw [← L_size]; omega)
    have hb := bt_L s at'
    generalize (L s).getD at' 0 = c at hd hb
    simp only [hb, rletter_f, rdigit_f, Option.bind_some]
    refine EvTo.pos (by omega) (EvTo.pos (by omega) ?_)
    by_cases c1 : le c = true
    · refine EvTo.pos c1 ?_
      have := rword_l s hs at' (s.size - at' - 1) 1 (by omega) (by omega)
      rw [hd]
      simp only [wordN, c1, if_true, List.takeWhile_cons, le_inn c1, List.length_cons]
      rw [show (List.takeWhile inn (List.drop (at' + 1) (L s))).length + 1 = 1 + (List.takeWhile inn (List.drop (at' + 1) (L s))).length by omega]
      exact this
    · refine EvTo.neg c1 (EvTo.neg (by omega) ?_)
      rw [hd]
      simp only [wordN, c1]
      exact EvTo.now
  · refine EvTo.neg (by omega) ?_
    rw [List.drop_eq_nil_of_le (by rw [← L_size]; omega)]
    exact EvTo.now
end Go.Proofs.Ytkcnpnkcahgniaa.Lex
