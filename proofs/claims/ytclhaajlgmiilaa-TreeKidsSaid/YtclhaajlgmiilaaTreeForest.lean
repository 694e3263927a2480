/- Trees one behind the other, and how deep they are. -/
import Derived.Test.YtclhaajlgmiilaaTreeDepth
import Derived.Test.YtclhaajlgmiilaaTreeSub
set_option linter.unusedVariables false
set_option linter.unusedSimpArgs false
namespace Go.Proofs.Ytclhaajlgmiilaa.Tree
open Go Go.RowKit Go.Proofs.YtclhaajlgmiilaaW.PrintWords Go.Proofs.Ytclhaajlgmiilaa.Q Go.Proofs.Ytclhaajlgmiilaa.Lex

/-- So many trees, one behind the other, the deepest of them so deep. -/
inductive Fo : List S36 → Nat → Nat → Prop
  | nil : Fo [] 0 0
  | cons (x : S36) (t v : List S36) (w D1 D2 : Nat) (hx : 0 ≤ x.f1) (ht : Fo t x.f1.toNat D1) (hv : Fo v w D2) : Fo (x :: (t ++ v)) (w + 1) (max (1 + D1) D2)
theorem Fo.none {u : List S36} {D : Nat} (h : Fo u 0 D) : u = [] ∧ D = 0 := by
  cases h; exact ⟨rfl, rfl⟩
theorem Fo.split : ∀ (a b : Nat) (u : List S36) (D : Nat), Fo u (a + b) D → ∃ u1 u2 D1 D2, u = u1 ++ u2 ∧ Fo u1 a D1 ∧ Fo u2 b D2 ∧ D = max D1 D2 := by
  intro a
  induction a with
  | zero =>
    intro b u D h
    rw [Nat.zero_add] at h
    exact ⟨[], u, 0, D, rfl, Fo.nil, h, by omega⟩
  | succ a ih =>
    intro b u D h
    generalize hn : a + 1 + b = n at h
    cases h with
    | nil => omega
    | cons x t v w D1 D2 hx ht hv =>
      obtain rfl : w = a + b := by omega
      obtain ⟨v1, v2, E1, E2, rfl, h1, h2, rfl⟩ := ih b v D2 hv
      refine ⟨x :: (t ++ v1), v2, max (1 + D1) E1, E2, by simp, Fo.cons x t v1 a D1 E1 hx ht h1, h2, by omega⟩
/-- What is whole is so many trees. -/
theorem Fo.of_end (n : Nat) : ∀ (t : List S36) (w m : Nat), endF n t w = some m → 1 ≤ w → ∃ D, Fo (t.take m) w D := by
  intro t
  induction t with
  | nil => intro w m h; cases h
  | cons x t ih =>
    intro w m h hw
    simp only [endF] at h
    split at h
    · cases h
    · rename_i hc
      have hx : 0 ≤ x.f1 := by omega
      split at h
      · rename_i h0
        cases h
        obtain rfl : w = 1 := by omega
        have hk : x.f1.toNat = 0 := by omega
        exact ⟨_, Fo.cons x [] [] 0 0 0 hx (by rw [hk]; exact Fo.nil) Fo.nil⟩
      · obtain ⟨q, hq, rfl⟩ := Option.map_eq_some_iff.1 h
        obtain ⟨D, hD⟩ := ih _ _ hq (by omega)
        rw [Nat.add_comm] at hD
        obtain ⟨u1, u2, D1, D2, e, h1, h2, rfl⟩ := Fo.split _ _ _ _ hD
        rw [List.take_succ_cons, e]
        obtain ⟨w, rfl⟩ : ∃ v, w = v + 1 := ⟨w - 1, by omega⟩
        exact ⟨_, Fo.cons x u1 u2 w D1 D2 hx h1 h2⟩
/-- The end of so many trees, whatever stands behind. -/
theorem Fo.endF {n : Nat} {u : List S36} {w D : Nat} (h : Fo u w D) (hn : ∀ x ∈ u, ¬ ((n : Int) < x.f1)) : ∀ (rest : List S36) (c : Nat), 1 ≤ w + c →
    Tree.endF n (u ++ rest) (w + c) = if c = 0 then some u.length else (Tree.endF n rest c).map (· + u.length) := by
  induction h with
  | nil =>
    intro rest c hc
    rw [if_neg (by omega)]
    simp
  | cons x t v w D1 D2 hx ht hv ih1 ih2 =>
    intro rest c hc
    have hnx := hn x (by simp)
    simp only [List.cons_append, Tree.endF]
    rw [if_neg (by omega)]
    by_cases h0 : w + 1 + c - 1 + x.f1.toNat = 0
    · rw [if_pos h0]
      have hk : x.f1.toNat = 0 := by omega
      rw [hk] at ht
      obtain rfl : w = 0 := by omega
      rw [ht.none.1, hv.none.1, if_pos (by omega)]
      rfl
    · rw [if_neg h0, List.append_assoc, show w + 1 + c - 1 + x.f1.toNat = x.f1.toNat + (w + c) by omega,
        ih1 (fun y hy => hn y (by simp [hy])) (v ++ rest) (w + c) (by omega)]
      by_cases h1 : w + c = 0
      · rw [if_pos h1, if_pos (by omega)]
        obtain rfl : w = 0 := by omega
        rw [hv.none.1]; simp
      · rw [if_neg h1, ih2 (fun y hy => hn y (by simp [hy])) rest c (by omega)]
        by_cases h2 : c = 0
        · rw [if_pos h2, if_pos h2]
          simp; omega
        · rw [if_neg h2, if_neg h2, Option.map_map, Option.map_map]
          congr 1
          funext q
          simp; omega
/-- How deep: the nodes around count, too. -/
theorem Fo.depF {u : List S36} {w D : Nat} (h : Fo u w D) : ∀ (rest : List S36) (st : List Nat) (b : Nat), 1 ≤ w →
    Tree.depF (u ++ rest) ((w - 1) :: st) b = Tree.depF rest (close st) (max b (st.length + 1 + D)) := by
  induction h with
  | nil => intro rest st b hw; omega
  | cons x t v w D1 D2 hx ht hv ih1 ih2 =>
    intro rest st b _
    rw [Nat.add_sub_cancel]
    simp only [List.cons_append, List.append_assoc, Tree.depF, List.length_cons]
    have last : ∀ b', Tree.depF (v ++ rest) (close (w :: st)) b' = Tree.depF rest (close st) (max b' (if w = 0 then 0 else st.length + 1 + D2)) := by
      intro b'
      cases w with
      | zero => rw [hv.none.1]; simp [close]
      | succ w =>
        rw [if_neg (by omega)]
        exact ih2 rest st b' (by omega)
    cases hk : x.f1.toNat with
    | zero =>
      rw [hk] at ht
      rw [ht.none.1, ht.none.2]
      simp only [List.nil_append, close]
      rw [last]
      congr 1
      split
      · rename_i q; subst q; rw [hv.none.2]; omega
      · omega
    | succ k =>
      rw [hk] at ih1
      have h1 := ih1 (v ++ rest) (w :: st) (max b (st.length + 1 + 1)) (by omega)
      simp only [Nat.add_sub_cancel, List.length_cons] at h1
      simp only [close]
      rw [h1, last]
      congr 1
      split
      · rename_i q; subst q; rw [hv.none.2]; omega
      · omega
theorem Fo.depth {u : List S36} {D : Nat} (h : Fo u 1 D) : Tree.depF u [] 0 = D := by
  generalize hn : 1 = n at h
  cases h with
  | nil => omega
  | cons x t v w D1 D2 hx ht hv =>
    obtain rfl : w = 0 := by omega
    rw [hv.none.1, hv.none.2, List.append_nil]
    simp only [Tree.depF, List.length_nil]
    cases hk : x.f1.toNat with
    | zero =>
      rw [hk] at ht
      rw [ht.none.1, ht.none.2]
      simp [Tree.depF]
    | succ k =>
      rw [hk] at ht
      have h1 := ht.depF [] [] (max 0 (0 + 1)) (by omega)
      simp only [Nat.add_sub_cancel, List.append_nil, List.length_nil] at h1
      simp only [close]
      rw [h1]
      simp only [close, Tree.depF]
      omega
end Go.Proofs.Ytclhaajlgmiilaa.Tree
