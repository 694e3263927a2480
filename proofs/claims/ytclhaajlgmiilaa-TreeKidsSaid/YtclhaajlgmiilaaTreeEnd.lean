/- Where a tree ends, which its nodes are, how many kids its first one has: what tree.End, Sub and Kids come to; and what a tree's end says of the trees within. -/
import Derived.Test.YtclhaajlgmiilaaTreeEq
import Derived.Test.YtclhaajlgmiilaaQ3
import Derived.Test.YtclhaajlgmiilaaQ4
import Derived.Test.YtclhaajlgmiilaaQ18
set_option linter.unusedVariables false
set_option linter.unusedSimpArgs false
namespace Go.Proofs.Ytclhaajlgmiilaa.Tree
open Go Go.RowKit Go.Proofs.YtclhaajlgmiilaaW.PrintWords Go.Proofs.Ytclhaajlgmiilaa.Q Go.Proofs.Ytclhaajlgmiilaa.Lex

/-- How many nodes stand there till so many trees are whole; each node's kids are at most so many. -/
def endF (n : Nat) : List S36 → Nat → Option Nat
  | [], _ => none
  | x :: t, w => if x.f1 < 0 ∨ (n : Int) < x.f1 then none else if w - 1 + x.f1.toNat = 0 then some 1 else (endF n t (w - 1 + x.f1.toNat)).map (· + 1)
def endV (i : Nat) : Option Nat → Int
  | none => -1
  | some m => ((i + m : Nat) : Int)
def endI (l : List S36) (i : Int) : Int := if i < 0 then -1 else endV i.toNat (endF l.length (l.drop i.toNat) 1)
theorem endV_map (i : Nat) (o : Option Nat) : endV i (o.map (· + 1)) = endV (i + 1) o := by
  cases o with
  | none => rfl
  | some m => simp only [Option.map_some, endV]; omega
theorem w64 {n : Int} (h : -9223372036854775808 ≤ n) (h2 : n ≤ 9223372036854775807) : wrap64 n = n := by unfold wrap64; omega
theorem End_l (l : List S36) (hl : l.length ≤ 2100) : ∀ (m i w : Nat), l.length = m + i → 1 ≤ w → w ≤ 1 + i * 2100 →
    EvTo (fun k => tree_End.l0 k l (i : Int) (w : Int)) (endV i (endF l.length (l.drop i) w)) := by
  intro m
  induction m with
  | zero =>
    intro i w h1 h2 h3
    rw [List.drop_eq_nil_of_le (by omega)]
    refine EvTo.step (fun k => by rw [tree_End.l0]) ?_
    exact EvTo.neg (by omega) EvTo.now
  | succ m ih =>
    intro i w h1 h2 h3
    have hi : i < l.length := by omega
    rw [List.drop_eq_getElem_cons hi]
    refine EvTo.step (fun k => by rw [tree_End.l0]) ?_
    refine EvTo.pos (by omega) (EvTo.pos (by omega) ?_)
    rw [rd36 l i hi]
    simp only [endF]
    by_cases c1 : l[i].f1 < 0
    · rw [if_pos (.inl c1)]
      refine EvTo.pos c1 ?_
      refine EvTo.step (fun k => by rw [tree_End.j1]) ?_
      exact EvTo.pos rfl EvTo.now
    refine EvTo.neg c1 ?_
    refine EvTo.step (fun k => by rw [tree_End.j1]) ?_
    by_cases c2 : (l.length : Int) < l[i].f1
    · rw [if_pos (.inr c2)]
      exact EvTo.pos (decide_eq_true c2) EvTo.now
    refine EvTo.neg (by simpa using c2) ?_
    rw [if_neg (by omega)]
    have e2 : wrap64 ((w : Int) + wrap64 (l[i].f1 - 1)) = ((w - 1 + l[i].f1.toNat : Nat) : Int) := by
      rw [w64 (n := l[i].f1 - 1) (by omega) (by omega), w64 (by omega) (by omega)]
      omega
    rw [e2, inc i (by omega)]
    by_cases c3 : w - 1 + l[i].f1.toNat = 0
    · rw [if_pos c3]
      refine EvTo.pos (by omega) (EvTo.of_eq fun k => ?_)
      simp only [endV]
    · rw [if_neg c3, endV_map]
      refine EvTo.neg (by omega) ?_
      exact ih (i + 1) _ (by omega) (by omega) (by omega)
theorem End_E (l : List S36) (hl : l.length ≤ 2100) (i : Int) : EvTo (fun k => tree_End.f k l i) (endI l i) := by
  unfold tree_End.f endI
  by_cases c : i < 0
  · rw [if_pos c]; exact EvTo.pos c EvTo.now
  rw [if_neg c]
  refine EvTo.neg c ?_
  by_cases c2 : i.toNat ≤ l.length
  · have h := End_l l hl (l.length - i.toNat) i.toNat 1 (by omega) (by omega) (by omega)
    rw [show ((i.toNat : Nat) : Int) = i by omega] at h
    exact h
  · rw [List.drop_eq_nil_of_le (by omega)]
    refine EvTo.step (fun k => by rw [tree_End.l0]) ?_
    exact EvTo.neg (by omega) EvTo.now

/-! What an end says. -/
theorem endF_le (n : Nat) : ∀ (t : List S36) (w m : Nat), endF n t w = some m → 1 ≤ m ∧ m ≤ t.length := by
  intro t
  induction t with
  | nil => intro w m h; cases h
  | cons x t ih =>
    intro w m h
    simp only [endF] at h
    split at h
    · cases h
    · split at h
      · cases h; simp
      · obtain ⟨q, hq, rfl⟩ := Option.map_eq_some_iff.1 h
        have := ih _ _ hq
        simp; omega
/-- Fewer trees are whole no later. -/
theorem endF_less (n : Nat) : ∀ (t : List S36) (w w' m : Nat), endF n t w = some m → 1 ≤ w' → w' ≤ w → ∃ m', m' ≤ m ∧ endF n t w' = some m' := by
  intro t
  induction t with
  | nil => intro w w' m h; cases h
  | cons x t ih =>
    intro w w' m h h1 h2
    simp only [endF] at h ⊢
    split at h
    · cases h
    · rename_i hc
      rw [if_neg hc]
      split at h
      · cases h
        exact ⟨1, Nat.le_refl _, by rw [if_pos (by omega)]⟩
      · obtain ⟨q, hq, rfl⟩ := Option.map_eq_some_iff.1 h
        by_cases c : w' - 1 + x.f1.toNat = 0
        · exact ⟨1, by omega, by rw [if_pos c]⟩
        · obtain ⟨m', hm, he⟩ := ih _ (w' - 1 + x.f1.toNat) _ hq (by omega) (by omega)
          exact ⟨m' + 1, by omega, by rw [if_neg c, he]; rfl⟩
/-- Each node within begins a tree that is whole. -/
theorem endF_in (n : Nat) : ∀ (t : List S36) (w m j : Nat), endF n t w = some m → 1 ≤ w → j < m → ∃ m', j + m' ≤ m ∧ endF n (t.drop j) 1 = some m' := by
  intro t
  induction t with
  | nil => intro w m j h; cases h
  | cons x t ih =>
    intro w m j h hw hj
    cases j with
    | zero =>
      obtain ⟨m', h1, h2⟩ := endF_less n _ w 1 m h (by omega) hw
      exact ⟨m', by omega, h2⟩
    | succ j =>
      simp only [endF] at h
      split at h
      · cases h
      · split at h
        · cases h; omega
        · obtain ⟨q, hq, rfl⟩ := Option.map_eq_some_iff.1 h
          obtain ⟨m', h1, h2⟩ := ih _ _ j hq (by omega) (by omega)
          exact ⟨m', by omega, by rw [List.drop_succ_cons]; exact h2⟩
/-- The nodes behind the end, and the bound, don't matter. -/
theorem endF_take (n : Nat) : ∀ (t : List S36) (w m : Nat), endF n t w = some m → 1 ≤ w → ∀ N : Nat, (∀ x ∈ t.take m, ¬ ((N : Int) < x.f1)) → endF N (t.take m) w = some m := by
  intro t
  induction t with
  | nil => intro w m h; cases h
  | cons x t ih =>
    intro w m h hw N hN
    simp only [endF] at h
    split at h
    · cases h
    · rename_i hc
      split at h
      · rename_i h0
        cases h
        simp only [List.take_succ_cons, List.take_zero, endF]
        rw [if_neg (fun q => q.elim (fun a => hc (.inl a)) (hN x (by simp))), if_pos h0]
      · rename_i h0
        obtain ⟨q, hq, rfl⟩ := Option.map_eq_some_iff.1 h
        simp only [List.take_succ_cons, endF]
        rw [if_neg (fun q => q.elim (fun a => hc (.inl a)) (hN x (by simp))), if_neg h0, ih _ _ hq (by omega) N (fun y hy => hN y (by simp [List.take_succ_cons, hy]))]
        rfl
/-- The kids of a tree's nodes are fewer than its nodes. -/
theorem endF_kids (n : Nat) : ∀ (t : List S36) (w m : Nat), endF n t w = some m → 1 ≤ w → ∀ x ∈ t.take m, 0 ≤ x.f1 ∧ (w : Int) + x.f1 ≤ m := by
  intro t
  induction t with
  | nil => intro w m h; cases h
  | cons x t ih =>
    intro w m h hw y hy
    have hlen : ∀ (t : List S36) (w m : Nat), endF n t w = some m → 1 ≤ w → w ≤ m := by
      intro t
      induction t with
      | nil => intro w m h; cases h
      | cons x t ih =>
        intro w m h hw
        simp only [endF] at h
        split at h
        · cases h
        · split at h
          · cases h; omega
          · obtain ⟨q, hq, rfl⟩ := Option.map_eq_some_iff.1 h
            have := ih _ _ hq (by omega)
            omega
    simp only [endF] at h
    split at h
    · cases h
    · rename_i hc
      split at h
      · cases h
        simp at hy
        subst hy
        omega
      · rename_i h0
        obtain ⟨q, hq, rfl⟩ := Option.map_eq_some_iff.1 h
        rw [List.take_succ_cons] at hy
        have h2 := hlen _ _ _ hq (by omega)
        rcases List.mem_cons.1 hy with rfl | hy
        · omega
        · have := ih _ _ hq (by omega) y hy
          omega
end Go.Proofs.Ytclhaajlgmiilaa.Tree
