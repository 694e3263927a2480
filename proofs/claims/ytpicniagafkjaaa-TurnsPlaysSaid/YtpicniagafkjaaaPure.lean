/- Who goes on, as a plain function of what is ready, and its laws; no program in sight. -/
import Derived.Test.YtpicniagafkjaaaChan
set_option linter.unusedVariables false
set_option linter.unusedSimpArgs false
namespace Go.Proofs.Ytpicniagafkjaaa

def foldBest (l : List Int) : Option Int := l.foldl (fun o n => some (bst o n)) none
def aboveOf (has : Bool) (last : Int) (l : List Int) : List Int := l.filter (fun n => has && decide (last < n))
def nextOf (has : Bool) (last : Int) (l : List Int) : Option Int := match foldBest (aboveOf has last l) with | some n => some n | none => foldBest l

theorem foldBest_snoc (l : List Int) (n : Int) : foldBest (l ++ [n]) = some (bst (foldBest l) n) := by simp [foldBest]
theorem foldBest_nil : foldBest [] = none := rfl
theorem aboveOf_snoc (has : Bool) (last : Int) (l : List Int) (n : Int) : aboveOf has last (l ++ [n]) = if (has && decide (last < n)) = true then aboveOf has last l ++ [n] else aboveOf has last l := by
  unfold aboveOf
  rw [List.filter_append]
  by_cases h : (has && decide (last < n)) = true
  · simp [List.filter_cons, h]
  · simp [List.filter_cons, h]
theorem take_succ_getD (l : List Int) (k : Nat) (h : k < l.length) : l.take (k + 1) = l.take k ++ [l.getD k 0] := by
  rw [List.take_succ_eq_append_getElem h]
  simp [List.getD_eq_getElem?_getD, List.getElem?_eq_getElem h]

theorem snoc_ind {α : Type} {P : List α → Prop} (h0 : P []) (h1 : ∀ l x, P l → P (l ++ [x])) (l : List α) : P l := by
  have key : ∀ r : List α, P r.reverse := by
    intro r
    induction r with
    | nil => exact h0
    | cons x r ih => rw [List.reverse_cons]; exact h1 _ _ ih
  have := key l.reverse
  rwa [List.reverse_reverse] at this

/-- What foldBest tells: it is a member and least. -/
theorem foldBest_spec (l : List Int) : (foldBest l = none ∧ l = []) ∨ ∃ m, foldBest l = some m ∧ m ∈ l ∧ ∀ x ∈ l, m ≤ x := by
  refine snoc_ind (P := fun l => (foldBest l = none ∧ l = []) ∨ ∃ m, foldBest l = some m ∧ m ∈ l ∧ ∀ x ∈ l, m ≤ x) ?_ ?_ l
  · exact .inl ⟨rfl, rfl⟩
  · intro l n ih
    right
    rw [foldBest_snoc]
    rcases ih with ⟨h, rfl⟩ | ⟨m, h, hm, hl⟩
    · exact ⟨n, by rw [h]; rfl, by simp, by simp⟩
    · rw [h]
      unfold bst
      by_cases c : n < m
      · refine ⟨n, by simp [c], by simp, fun x hx => ?_⟩
        rcases List.mem_append.1 hx with hx | hx
        · have := hl x hx; omega
        · simp at hx; omega
      · refine ⟨m, by simp [c], by simp [hm], fun x hx => ?_⟩
        rcases List.mem_append.1 hx with hx | hx
        · exact hl x hx
        · simp at hx; omega
end Go.Proofs.Ytpicniagafkjaaa
