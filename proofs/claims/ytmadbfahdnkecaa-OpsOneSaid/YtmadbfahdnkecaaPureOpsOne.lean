/- The plain law of OpsOne, and its walk, for every operation and every value. -/
import Derived.Test.YtmadbfahdnkecaaQ22
import Derived.Test.YtmadbfahdnkecaaOpsQuo
import Derived.Test.YtmadbfahdnkecaaQ17
import Derived.Test.YtmadbfahdnkecaaRowVal
set_option linter.unusedVariables false
set_option linter.unusedSimpArgs false
namespace Go.Proofs.Ytmadbfahdnkecaa.Pure
open Go Go.RowKit Go.Proofs.YtmadbfahdnkecaaW.PrintWords Go.Proofs.Ytmadbfahdnkecaa.Q Go.Proofs.Ytmadbfahdnkecaa.Lex Go.Proofs.Ytmadbfahdnkecaa.Ops

theorem rTruth_S (a : V) (h : isS a = true) : chrysalisref17_Truth.f a.1 a.2.1 a.2.2 = some (truthS a) := by
  unfold chrysalisref17_Truth.f truthS
  by_cases h0 : a.1 = 0
  · rw [if_pos h0, h0]; rfl
  rw [if_neg h0]
  have e0 : (a.1 == 0) = false := beq_eq_false_iff_ne.mpr h0
  rw [e0]
  by_cases h1 : a.1 = 1
  · rw [if_pos h1]
    unfold isS at h
    rw [if_neg h0, if_neg (by omega), Bool.and_eq_true] at h
    have e1 : (a.1 == 1) = true := beq_iff_eq.mpr h1
    rw [e1, h.2]
    by_cases c : a.2.1 = 0
    · simp [c]
    · have : (a.2.1 == 0) = false := beq_eq_false_iff_ne.mpr c
      simp [this, c]
  · rw [if_neg h1]
    have e1 : (a.1 == 1) = false := beq_eq_false_iff_ne.mpr h1
    rw [e1]; rfl
theorem rOne_E (o : ByteArray) (a : V) (h : isS a = true) : EvTo (fun k => chrysalisref17_One.f k o a.1 a.2.1 a.2.2) (oneS (L o) a) := by
  unfold chrysalisref17_One.f oneS
  simp only [rTruth_S a h, rtruth_S, Option.bind_some, L_toList]
  by_cases h1 : L o = [110, 111, 116]
  · rw [if_pos h1]; exact EvTo.pos h1 EvTo.now
  rw [if_neg h1]; refine EvTo.neg h1 ?_
  by_cases h2 : L o = [45]
  · rw [if_pos h2]; refine EvTo.pos h2 ?_
    refine EvTo.step (fun k => by rw [chrysalisref17_One.j0]) ?_
    by_cases c : a.1 = 1
    · rw [if_pos c]
      exact EvTo.pos (by simp [c]) EvTo.now
    · rw [if_neg c]
      refine EvTo.neg (by simp [c]) ?_
      refine EvTo.neg (by rw [L_toList, h2]; decide) ?_
      refine EvTo.step (fun k => by rw [chrysalisref17_One.j1]) ?_
      refine EvTo.neg (by simp) (EvTo.pos (by rw [L_toList]; exact h2) EvTo.now)
  rw [if_neg h2]; refine EvTo.neg h2 ?_
  refine EvTo.step (fun k => by rw [chrysalisref17_One.j0]) ?_
  refine EvTo.neg (by simp) ?_
  by_cases h3 : L o = [108, 101, 110]
  · rw [if_pos h3]
    refine EvTo.pos (by rw [L_toList]; exact h3) ?_
    refine EvTo.step (fun k => by rw [chrysalisref17_One.j1]) ?_
    by_cases c : a.1 = 2
    · rw [if_pos c]
      exact EvTo.pos (by simp [c]) EvTo.now
    · rw [if_neg c]
      exact EvTo.neg (by simp [c]) (EvTo.neg (by rw [L_toList]; exact h2) (EvTo.pos (by rw [L_toList]; exact h3) EvTo.now))
  · rw [if_neg h3]
    refine EvTo.neg (by rw [L_toList]; exact h3) ?_
    refine EvTo.step (fun k => by rw [chrysalisref17_One.j1]) ?_
    exact EvTo.neg (by simp) (EvTo.neg (by rw [L_toList]; exact h2) (EvTo.neg (by rw [L_toList]; exact h3) EvTo.now))
theorem key_same (a : V) : chrysalisref17_Key.f a.1 a.2.1 a.2.2 = some (a.1 == 1 || a.1 == 2) := by
  unfold chrysalisref17_Key.f
  by_cases h : a.1 = 1
  · rw [if_pos h, h]; rfl
  · rw [if_neg h, beq_eq_false_iff_ne.mpr h]; rfl
theorem OpsOne (o : ByteArray) (a : V) (hn : I64 a.2.1) : ∃ k, chrysalislaw17_OpsOne.f k o a.1 a.2.1 a.2.2 = some true := by
  apply EvTo.one
  unfold chrysalislaw17_OpsOne.f
  by_cases h0 : (o.size : Int) > 100
  · refine EvTo.pos h0 (EvTo.step (fun k => by rw [chrysalislaw17_OpsOne.j0]) (EvTo.pos rfl known_B))
  refine EvTo.neg h0 ?_
  refine EvTo.step (fun k => by rw [chrysalislaw17_OpsOne.j0]) ?_
  by_cases hz : (a.2.2.size : Int) > 2000
  · exact EvTo.pos (decide_eq_true hz) known_B
  refine EvTo.neg (by simpa using hz) ?_
  simp only [refIs_S, opsIs_S, Option.bind_some]
  by_cases ha : ¬ isS a = true
  · exact EvTo.neg ha (EvTo.neg ha known_B)
  have ha := Classical.not_not.1 ha
  refine EvTo.pos ha ?_
  refine EvTo.bind (one_E o a) ?_
  refine EvTo.bind (rOne_E o a ha) ?_
  refine EvTo.pos (by simp [L_toList]) (EvTo.pos rfl ?_)
  simp only [Truth_S, rTruth_S a ha, Option.bind_some]
  refine EvTo.pos (by simp) (EvTo.pos ha ?_)
  simp only [opsKey.f, key_same, Option.bind_some]
  refine EvTo.pos (by simp) ?_
  refine EvTo.bind (Show_E a hn (by omega)) ?_
  refine EvTo.bind (rShow_E a hn (by omega)) ?_
  exact EvTo.pos rfl known_B
end Go.Proofs.Ytmadbfahdnkecaa.Pure
namespace Go.Proofs.Ytmadbfahdnkecaa
open Go Go.RowKit Go.Proofs.YtmadbfahdnkecaaW.PrintWords Go.Proofs.Ytmadbfahdnkecaa.Q Go.Proofs.Ytmadbfahdnkecaa.Ops
theorem one_row (o : ByteArray) (a : V) (w : World) (_ : o.size ≤ 140737488351232) (ha : ValB a) :
    Calls Try.prog 7 #[.string o, .agg #[.int .i64 a.1, .int .i64 a.2.1, .string a.2.2]] w fun e w' => e = .returned (.bool true) ∧ Below w.heap.size w w' := by
  obtain ⟨k, hk⟩ := Pure.OpsOne o a ha.2.1
  exact chrysalislaw17_OpsOne.calls k o a.1 a.2.1 a.2.2 true w hk rfl
end Go.Proofs.Ytmadbfahdnkecaa
