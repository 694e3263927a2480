/- When a value is right. -/
import Derived.Test.YtmadbfahdnkecaaOpsLaw
import Derived.Test.YtmadbfahdnkecaaQ9
import Derived.Test.YtmadbfahdnkecaaQ14
set_option linter.unusedVariables false
set_option linter.unusedSimpArgs false
namespace Go.Proofs.Ytmadbfahdnkecaa.Ops
open Go Go.RowKit Go.Proofs.YtmadbfahdnkecaaW.PrintWords Go.Proofs.Ytmadbfahdnkecaa.Q Go.Proofs.Ytmadbfahdnkecaa.Lex

/-- A value is right. -/
def isS (a : V) : Bool := if a.1 = 0 then (a.2.1 == 0 && (L a.2.2 == [])) else if a.1 = 2 then (a.2.1 == 0 && decide (a.2.2.size ≤ 1024)) else (decide (1 ≤ a.1 ∧ a.1 ≤ 5) && (L a.2.2 == []))
theorem refIs_S (a : V) : chrysalisref17_Is.f a.1 a.2.1 a.2.2 = some (isS a) := by
  unfold chrysalisref17_Is.f isS
  simp only [L_toList]
  by_cases h0 : a.1 = 0
  · rw [if_pos h0, if_pos h0]
    by_cases h : a.2.1 = 0 <;> simp [h]
  rw [if_neg h0, if_neg h0]
  by_cases h2 : a.1 = 2
  · rw [if_pos h2, if_pos h2]
    by_cases h : a.2.1 = 0
    · rw [if_pos h, h]
      have : decide ((a.2.2.size : Int) ≤ 1024) = decide (a.2.2.size ≤ 1024) := by
        by_cases q : a.2.2.size ≤ 1024
        · rw [decide_eq_true q, decide_eq_true (by omega)]
        · rw [decide_eq_false q, decide_eq_false (by omega)]
      rw [this]; rfl
    · rw [if_neg h]; simp [h]
  rw [if_neg h2, if_neg h2]
  by_cases h3 : a.1 ≥ 0
  · rw [if_pos h3]
    by_cases h4 : a.1 ≤ 5
    · rw [if_pos h4, decide_eq_true (show 1 ≤ a.1 ∧ a.1 ≤ 5 by omega)]; rfl
    · rw [if_neg h4, decide_eq_false (show ¬ (1 ≤ a.1 ∧ a.1 ≤ 5) by omega)]; rfl
  · rw [if_neg h3, decide_eq_false (show ¬ (1 ≤ a.1 ∧ a.1 ≤ 5) by omega)]; rfl
theorem opsIs_S (a : V) : ops_Is.f a.1 a.2.1 a.2.2 = some (isS a) := by
  unfold ops_Is.f isS
  simp only [L_toList]
  by_cases h0 : a.1 = 0
  · rw [if_pos h0, if_pos h0, h0]; rfl
  rw [if_neg h0, if_neg h0]
  by_cases h2 : a.1 = 2
  · rw [if_pos h2, if_pos h2]
    by_cases h : a.2.1 = 0
    · rw [if_pos h, h]
      have : decide ((a.2.2.size : Int) ≤ 1024) = decide (a.2.2.size ≤ 1024) := by
        by_cases q : a.2.2.size ≤ 1024
        · rw [decide_eq_true q, decide_eq_true (by omega)]
        · rw [decide_eq_false q, decide_eq_false (by omega)]
      rw [this]; rfl
    · rw [if_neg h]; simp [h]
  rw [if_neg h2, if_neg h2]
  by_cases h1 : a.1 = 1
  · rw [if_pos h1, decide_eq_true (show 1 ≤ a.1 ∧ a.1 ≤ 5 by omega)]; rfl
  rw [if_neg h1]
  by_cases h3 : a.1 = 3
  · rw [if_pos h3, decide_eq_true (show 1 ≤ a.1 ∧ a.1 ≤ 5 by omega)]; rfl
  rw [if_neg h3]
  by_cases h4 : a.1 = 4
  · rw [if_pos h4, decide_eq_true (show 1 ≤ a.1 ∧ a.1 ≤ 5 by omega)]; rfl
  rw [if_neg h4]
  by_cases h5 : a.1 = 5
  · rw [if_pos h5, decide_eq_true (show 1 ≤ a.1 ∧ a.1 ≤ 5 by omega)]; rfl
  rw [if_neg h5, decide_eq_false (show ¬ (1 ≤ a.1 ∧ a.1 ≤ 5) by omega)]; rfl

theorem rtruth_S (b : Bool) : chrysalisref17_truth.f b = some ((tr b).1, (tr b).2.1, (tr b).2.2.1) := by cases b <;> rfl

end Go.Proofs.Ytmadbfahdnkecaa.Ops
