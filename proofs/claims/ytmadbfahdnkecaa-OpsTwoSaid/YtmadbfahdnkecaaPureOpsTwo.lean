/- The plain law of OpsTwo. -/
import Derived.Test.YtmadbfahdnkecaaQ11
import Derived.Test.YtmadbfahdnkecaaOpsRef
set_option linter.unusedVariables false
set_option linter.unusedSimpArgs false
namespace Go.Proofs.Ytmadbfahdnkecaa.Pure
open Go Go.RowKit Go.Proofs.YtmadbfahdnkecaaW.PrintWords Go.Proofs.Ytmadbfahdnkecaa.Q Go.Proofs.Ytmadbfahdnkecaa.Lex Go.Proofs.Ytmadbfahdnkecaa.Ops

theorem num_form (o : List UInt8) (a b : Int) : (∃ n, numS o a b = whole n) ∨ (∃ c, c ≠ 0 ∧ numS o a b = bad c) := by
  unfold numS
  repeat' split
  all_goals first | exact .inl ⟨_, rfl⟩ | exact .inr ⟨_, by decide, rfl⟩
/-- An answer that is no fault is a right value. -/
theorem two_right (o : List UInt8) (a b : V) (h : (twoS o a b).2.2.2 = 0) : isS ((twoS o a b).1, (twoS o a b).2.1, (twoS o a b).2.2.1) = true := by
  have hw : ∀ n : Int, isS ((whole n).1, (whole n).2.1, (whole n).2.2.1) = true := fun n => by simp [isS, whole, L]
  have ht : ∀ q : Bool, isS ((tr q).1, (tr q).2.1, (tr q).2.2.1) = true := fun q => hw _
  have hbad : ∀ c : Int, c ≠ 0 → (bad c).2.2.2 = 0 → isS ((bad c).1, (bad c).2.1, (bad c).2.2.1) = true := fun c hc h => absurd h hc
  unfold twoS at h ⊢
  by_cases h0 : ¬ isOp o = true
  · rw [if_neg h0] at h ⊢; exact hbad _ (by decide) h
  have h0 := Classical.not_not.1 h0
  rw [if_pos h0] at h ⊢
  by_cases h1 : o = [61, 61]
  · rw [if_pos h1] at h ⊢; exact ht _
  rw [if_neg h1] at h ⊢
  by_cases h2 : o = [33, 61]
  · rw [if_pos h2] at h ⊢; exact ht _
  rw [if_neg h2] at h ⊢
  by_cases h3 : ¬ a.1 = b.1
  · rw [if_neg h3] at h ⊢; exact hbad _ (by decide) h
  have h3 := Classical.not_not.1 h3
  rw [if_pos h3] at h ⊢
  by_cases h4 : a.1 = 1
  · rw [if_pos h4] at h ⊢
    rcases num_form o a.2.1 b.2.1 with ⟨n, e⟩ | ⟨c, hc, e⟩
    · rw [e]; exact hw _
    · rw [e] at h ⊢; exact hbad _ hc h
  rw [if_neg h4] at h ⊢
  by_cases h5 : ¬ a.1 = 2
  · rw [if_neg h5] at h ⊢; exact hbad _ (by decide) h
  have h5 := Classical.not_not.1 h5
  rw [if_pos h5] at h ⊢
  unfold txtS at h ⊢
  by_cases c1 : o = [46, 46]
  · rw [if_pos c1] at h ⊢
    by_cases c : 1024 < a.2.2.size + b.2.2.size
    · rw [if_pos c] at h ⊢; exact hbad _ (by decide) h
    · rw [if_neg c]
      simp [isS]; omega
  rw [if_neg c1] at h ⊢
  by_cases c2 : o = [60]
  · rw [if_pos c2] at h ⊢; exact ht _
  rw [if_neg c2] at h ⊢
  by_cases c3 : o = [60, 61]
  · rw [if_pos c3] at h ⊢; exact ht _
  rw [if_neg c3] at h ⊢; exact hbad _ (by decide) h
theorem OpsTwo (o : ByteArray) (a b : V) : ∃ k, chrysalislaw17_OpsTwo.f k o a.1 a.2.1 a.2.2 b.1 b.2.1 b.2.2 = some true := by
  apply EvTo.one
  unfold chrysalislaw17_OpsTwo.f
  by_cases h0 : (o.size : Int) > 100
  · refine EvTo.pos h0 (EvTo.step (fun k => by rw [chrysalislaw17_OpsTwo.j0]) (EvTo.pos rfl known_B))
  refine EvTo.neg h0 ?_
  simp only [refIs_S, Option.bind_some]
  by_cases ha : ¬ isS a = true
  · refine EvTo.neg ha (EvTo.step (fun k => by rw [chrysalislaw17_OpsTwo.j0]) (EvTo.pos rfl known_B))
  have ha := Classical.not_not.1 ha
  refine EvTo.pos ha ?_
  refine EvTo.step (fun k => by rw [chrysalislaw17_OpsTwo.j0]) ?_
  by_cases hb : ¬ isS b = true
  · refine EvTo.pos (by simp [hb]) known_B
  have hb := Classical.not_not.1 hb
  refine EvTo.neg (by simp [hb]) ?_
  have hz : b.2.2.size ≤ 1024 := by
    unfold isS at hb
    have e : L b.2.2 = [] → b.2.2.size ≤ 1024 := fun h => by rw [L_size, h]; simp
    repeat' split at hb
    · simp only [Bool.and_eq_true, beq_iff_eq] at hb; exact e hb.2
    · simp only [Bool.and_eq_true, decide_eq_true_eq] at hb; exact hb.2
    · simp only [Bool.and_eq_true, beq_iff_eq] at hb; exact e hb.2
  refine EvTo.bind (two_E o a b (by omega)) ?_
  refine EvTo.bind (rTwo_E o a b ha hb) ?_
  refine EvTo.pos (by simp [L_toList]) (EvTo.pos rfl ?_)
  by_cases c : (twoS (L o) a b).2.2.2 = 0
  · refine EvTo.pos c ?_
    have h1 := opsIs_S ((twoS (L o) a b).1, (twoS (L o) a b).2.1, (twoS (L o) a b).2.2.1)
    have h2 := two_right (L o) a b c
    rw [h2] at h1
    simp only at h1
    refine EvTo.bind (EvTo.of_eq fun k => h1) ?_
    exact EvTo.pos rfl known_B
  · exact EvTo.neg c known_B
end Go.Proofs.Ytmadbfahdnkecaa.Pure
