/- The plain law of LexTexts. -/
import Derived.Test.YtkcnpnkcahgniaaQ20
import Derived.Test.YtkcnpnkcahgniaaLexRef4
set_option linter.unusedVariables false
set_option linter.unusedSimpArgs false
namespace Go.Proofs.Ytkcnpnkcahgniaa.Pure
open Go Go.RowKit Go.Proofs.YtkcnpnkcahgniaaW.PrintWords Go.Proofs.Ytkcnpnkcahgniaa.Q Go.Proofs.Ytkcnpnkcahgniaa.Lex

theorem flat2 (s : List UInt8) : (s.flatMap quo1).length ≤ 2 * s.length := by
  induction s with
  | nil => simp
  | cons c s ih =>
    rw [List.flatMap_cons, List.length_append]
    have : (quo1 c).length ≤ 2 := by
      unfold quo1
      repeat' split
      all_goals simp
    simp only [List.length_cons]
    omega
theorem tail_len : ∀ l : List S29, (∀ t ∈ l, t.f1.size ≤ 500) → (tailL (l.map wr)).length ≤ 1003 * l.length
  | [], _ => by simp [tailL]
  | t :: u, h => by
    have ih := tail_len u (fun x hx => h x (by simp [hx]))
    have ht := h t (by simp)
    rw [L_size] at ht
    have : (wr t).length ≤ 1002 := by
      unfold wr
      split
      · rw [quo_len]
        have := flat2 (L t.f1)
        omega
      · omega
    simp only [List.map_cons, tailL, List.length_append, List.length_cons]
    omega
theorem text_len (l : List S29) (h : ∀ t ∈ l, t.f1.size ≤ 500) : (textL (l.map wr)).length ≤ 1003 * l.length := by
  have := tail_len l h
  cases l with
  | nil => simp [textL]
  | cons t u => simp only [List.map_cons, tailL, textL, List.length_append, List.length_cons] at this ⊢; omega
theorem texts_l (l : List S29) (s : ByteArray) (hl : l.length ≤ 300) (hs : s.size ≤ 2000) : ∀ (m i : Nat), l.length = m + i → (∀ j (h : j < l.length), j < i → l[j].f1.size ≤ 500) → EvTo (fun k => chrysalislaw08_LexTexts.l0 k l s (i : Int)) true := by
  intro m
  induction m with
  | zero =>
    intro i h1 h2
    have hall : ∀ t ∈ l, t.f1.size ≤ 500 := by
      intro t ht
      obtain ⟨j, hj, rfl⟩ := List.getElem_of_mem ht
      exact h2 j hj (by omega)
    have htl := text_len l hall
    refine EvTo.step (fun k => by rw [chrysalislaw08_LexTexts.l0]) ?_
    refine EvTo.neg (by omega) (EvTo.bind (Text_f l (by omega) (fun t ht => by have := hall t ht; omega) (by omega)) (EvTo.bind (rText_f l (by omega) (fun t ht => by have := hall t ht; omega) (by omega)) (EvTo.pos rfl (EvTo.bind (Quote_f s (by omega)) (EvTo.bind (rQuote_f s (by omega)) (EvTo.pos rfl (EvTo.bind (Key_f s (by omega)) (EvTo.bind (rKey_f s) (EvTo.pos (beq_self_eq_true _) (EvTo.bind (Name_f s (by omega)) (EvTo.bind (rName_f s (by omega)) (EvTo.pos (beq_self_eq_true _) known_B))))))))))))
  | succ m ih =>
    intro i h1 h2
    have hi : i < l.length := by omega
    refine EvTo.step (fun k => by rw [chrysalislaw08_LexTexts.l0]) ?_
    refine EvTo.pos (by omega) (EvTo.pos (by omega) ?_)
    simp only [rd_get l i hi]
    by_cases c : (l[i].f1.size : Int) > 500
    · exact EvTo.pos c known_B
    · refine EvTo.neg c ?_
      rw [show wrap64 ((i : Int) + 1) = ((i + 1 : Nat) : Int) by rw [w64 _ (by omega)]; omega]
      refine ih (i + 1) (by omega) (fun j hj hji => ?_)
      by_cases e : j = i
      · subst e; omega
      · exact h2 j hj (by omega)
theorem LexTexts (l : List S29) (s : ByteArray) : ∃ k, chrysalislaw08_LexTexts.f k l s = some true := by
  apply EvTo.one (F := fun k => chrysalislaw08_LexTexts.f k l s)
  have hyes : EvTo (fun k => chrysalislaw08_LexTexts.j0 k l s true) true := by
    refine EvTo.step (fun k => by rw [chrysalislaw08_LexTexts.j0]) ?_
    exact EvTo.pos rfl known_B
  unfold chrysalislaw08_LexTexts.f
  by_cases h : (l.length : Int) > 300
  · exact EvTo.pos h hyes
  refine EvTo.neg h ?_
  by_cases h2 : (s.size : Int) > 2000
  · rw [decide_eq_true h2]; exact hyes
  rw [decide_eq_false h2]
  refine EvTo.step (fun k => by rw [chrysalislaw08_LexTexts.j0]) ?_
  refine EvTo.neg (by simp) ?_
  exact texts_l l s (by omega) (by omega) l.length 0 (by omega) (fun j _ h => by omega)
end Go.Proofs.Ytkcnpnkcahgniaa.Pure
