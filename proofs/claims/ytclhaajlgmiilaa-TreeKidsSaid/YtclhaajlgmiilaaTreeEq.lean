/- What the functions of tree that laws lean on come to: lists that are alike, lists that are light, kinds; no program in sight. -/
import Derived.Test.YtclhaajlgmiilaaLexSpec
import Derived.Test.YtclhaajlgmiilaaQ19
import Derived.Test.YtclhaajlgmiilaaQ2
import Derived.Test.YtclhaajlgmiilaaQ18
set_option linter.unusedVariables false
set_option linter.unusedSimpArgs false
namespace Go.Proofs.Ytclhaajlgmiilaa.Tree
open Go Go.RowKit Go.Proofs.YtclhaajlgmiilaaW.PrintWords Go.Proofs.Ytclhaajlgmiilaa.Q Go.Proofs.Ytclhaajlgmiilaa.Lex

theorem known_E : EvTo (fun k => chrysalislaw09_known.f k) true := EvTo.of_one (fun k r h => chrysalislaw09_known.mono k r h) 120 chrysalislaw09_known.at
theorem known_B : EvTo (fun k => (chrysalislaw09_known.f k).bind fun t => some t) true := EvTo.bind known_E EvTo.now
theorem inc (i : Nat) (h : i + 1 ≤ 9223372036854775807) : wrap64 ((i : Int) + 1) = ((i + 1 : Nat) : Int) := by unfold wrap64; omega
theorem rd36 (l : List S36) (i : Nat) (h : i < l.length) : rd_T36 l (i : Int) = l[i] := by
  simp [rd_T36, List.getD_eq_getElem?_getD, List.getElem?_eq_getElem h]

/-- Nodes are light: few, their names and texts short. -/
def light (l : List S36) : Prop := l.length ≤ 2100 ∧ ∀ x ∈ l, x.f2.size ≤ 2000 ∧ x.f4.size ≤ 2000
theorem Light_l (l : List S36) (hl : l.length ≤ 2100) : ∀ (m i : Nat), l.length = m + i →
    ∃ b, EvTo (fun k => chrysalisref09_Light.l0 k l (i : Int)) b ∧ (b = true → ∀ j, i ≤ j → ∀ h : j < l.length, l[j].f2.size ≤ 2000 ∧ l[j].f4.size ≤ 2000) := by
  intro m
  induction m with
  | zero =>
    intro i h1
    refine ⟨true, EvTo.step (fun k => by rw [chrysalisref09_Light.l0]) (EvTo.neg (by omega) EvTo.now), fun _ j h2 h3 => by omega⟩
  | succ m ih =>
    intro i h1
    have hi : i < l.length := by omega
    by_cases c1 : (l[i].f2.size : Int) > 2000
    · refine ⟨false, EvTo.step (fun k => by rw [chrysalisref09_Light.l0]) (EvTo.pos (by omega) (EvTo.pos (by omega) ?_)), fun h => by cases h⟩
      rw [rd36 l i hi]
      exact EvTo.pos c1 EvTo.now
    by_cases c2 : (l[i].f4.size : Int) > 2000
    · refine ⟨false, EvTo.step (fun k => by rw [chrysalisref09_Light.l0]) (EvTo.pos (by omega) (EvTo.pos (by omega) ?_)), fun h => by cases h⟩
      rw [rd36 l i hi]
      exact EvTo.neg c1 (EvTo.pos c2 EvTo.now)
    obtain ⟨b, hb, hp⟩ := ih (i + 1) (by omega)
    refine ⟨b, EvTo.step (fun k => by rw [chrysalisref09_Light.l0]) (EvTo.pos (by omega) (EvTo.pos (by omega) ?_)), fun h j h2 h3 => ?_⟩
    · rw [rd36 l i hi, inc i (by omega)]
      exact EvTo.neg c1 (EvTo.neg c2 hb)
    · rcases Nat.eq_or_lt_of_le h2 with rfl | h2
      · exact ⟨by omega, by omega⟩
      · exact hp h j h2 h3
theorem Light_E (l : List S36) : ∃ b, EvTo (fun k => chrysalisref09_Light.f k l) b ∧ (b = true → light l) := by
  unfold chrysalisref09_Light.f
  by_cases c : (l.length : Int) > 2100
  · exact ⟨false, EvTo.pos c EvTo.now, fun h => by cases h⟩
  obtain ⟨b, hb, hp⟩ := Light_l l (by omega) l.length 0 (by omega)
  refine ⟨b, EvTo.neg c hb, fun h => ⟨by omega, fun x hx => ?_⟩⟩
  obtain ⟨j, hj, rfl⟩ := List.getElem_of_mem hx
  exact hp h j (Nat.zero_le _) hj

/-- Two nodes are alike. -/
def eqN (a b : S36) : Bool := a.f0 == b.f0 && (a.f1 == b.f1 && (a.f2.toList == b.f2.toList && (a.f3 == b.f3 && a.f4.toList == b.f4.toList)))
def eqL (a b : List S36) : Bool := decide (a.length = b.length) && (a.zip b).all fun p => eqN p.1 p.2
theorem neN (a b : S36) : (!(a.f0 == b.f0) || (!(a.f1 == b.f1) || (!(a.f2.toList == b.f2.toList) || (!(a.f3 == b.f3) || !(a.f4.toList == b.f4.toList))))) = !eqN a b := by
  unfold eqN
  cases (a.f0 == b.f0) <;> cases (a.f1 == b.f1) <;> cases (a.f2.toList == b.f2.toList) <;> cases (a.f3 == b.f3) <;> cases (a.f4.toList == b.f4.toList) <;> rfl
theorem eqN_self (a : S36) : eqN a a = true := by simp [eqN]
theorem eqL_self (a : List S36) : eqL a a = true := by
  unfold eqL
  rw [decide_eq_true rfl, Bool.true_and, List.all_eq_true]
  intro p hp
  have : p.1 = p.2 := by
    obtain ⟨i, hi, rfl⟩ := List.getElem_of_mem hp
    simp
  rw [this]; exact eqN_self _
theorem Same_l (a b : List S36) (hl : a.length = b.length) (ha : a.length ≤ 4611686018427387904) : ∀ (m i : Nat), a.length = m + i →
    EvTo (fun k => tree_Same.l0 k b a (a.length : Int) (i : Int)) (((a.drop i).zip (b.drop i)).all fun p => eqN p.1 p.2) := by
  intro m
  induction m with
  | zero =>
    intro i h1
    rw [List.drop_eq_nil_of_le (by omega)]
    refine EvTo.step (fun k => by rw [tree_Same.l0]) ?_
    exact EvTo.neg (by omega) EvTo.now
  | succ m ih =>
    intro i h1
    have hi : i < a.length := by omega
    have hi2 : i < b.length := by omega
    refine EvTo.step (fun k => by rw [tree_Same.l0]) ?_
    refine EvTo.pos (by omega) (EvTo.pos (by omega) (EvTo.pos (by omega) (EvTo.pos (by omega) ?_)))
    rw [rd36 a i hi, rd36 b i hi2, neN, inc i (by omega), List.drop_eq_getElem_cons hi, List.drop_eq_getElem_cons hi2, List.zip_cons_cons, List.all_cons]
    by_cases c : eqN a[i] b[i] = true
    · rw [c]
      exact EvTo.neg (by simp) (by simpa using ih (i + 1) (by omega))
    · rw [Bool.eq_false_iff.2 c]
      exact EvTo.pos (by simp) EvTo.now
theorem Same_E (a b : List S36) (ha : a.length ≤ 4611686018427387904) : EvTo (fun k => tree_Same.f k a b) (eqL a b) := by
  unfold tree_Same.f eqL
  by_cases c : a.length = b.length
  · refine EvTo.pos (by omega) ?_
    rw [decide_eq_true c, Bool.true_and]
    exact Same_l a b c ha a.length 0 (by omega)
  · refine EvTo.neg (by omega) ?_
    rw [decide_eq_false c]
    exact EvTo.now
end Go.Proofs.Ytclhaajlgmiilaa.Tree
