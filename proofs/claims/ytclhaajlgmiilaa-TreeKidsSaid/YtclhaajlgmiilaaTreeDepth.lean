/- How deep nodes are: what tree.Depth comes to. -/
import Derived.Test.YtclhaajlgmiilaaTreeEnd
import Derived.Test.YtclhaajlgmiilaaQ5
set_option linter.unusedVariables false
set_option linter.unusedSimpArgs false
namespace Go.Proofs.Ytclhaajlgmiilaa.Tree
open Go Go.RowKit Go.Proofs.YtclhaajlgmiilaaW.PrintWords Go.Proofs.Ytclhaajlgmiilaa.Q Go.Proofs.Ytclhaajlgmiilaa.Lex

/-- The nodes around, with the kids that are missing, the innermost first: those that miss none are left. -/
def close : List Nat → List Nat
  | [] => []
  | 0 :: st => close st
  | (n + 1) :: st => n :: st
/-- The deepest, over nodes, from nodes around on. -/
def depF : List S36 → List Nat → Nat → Nat
  | [], _, b => b
  | x :: t, st, b => depF t (close (x.f1.toNat :: st)) (max b (st.length + 1))
/-- Each node begins a tree that is whole. -/
def wholeB (l : List S36) : Nat → Bool
  | 0 => true
  | m + 1 => (endF l.length (l.drop (l.length - (m + 1))) 1).isSome && wholeB l m
def ints (st : List Nat) : List Int := (st.map Int.ofNat).reverse
theorem ints_len (st : List Nat) : (ints st).length = st.length := by simp [ints]
theorem ints_cons (n : Nat) (st : List Nat) : ints (n :: st) = ints st ++ [(n : Int)] := by simp [ints]
theorem close_len : ∀ st : List Nat, (close st).length ≤ st.length
  | [] => Nat.le_refl _
  | 0 :: st => by simp only [close]; have := close_len st; simp; omega
  | (n + 1) :: st => by simp [close]
theorem close_mem : ∀ (st : List Nat) (B : Nat), (∀ n ∈ st, n ≤ B) → ∀ n ∈ close st, n ≤ B
  | [], _, _, n, h => by cases h
  | 0 :: st, B, hB, n, h => close_mem st B (fun m hm => hB m (by simp [hm])) n (by simpa [close] using h)
  | (q + 1) :: st, B, hB, n, h => by
    rcases List.mem_cons.1 (show n ∈ q :: st from h) with rfl | h
    · have := hB (n + 1) (by simp); omega
    · exact hB n (by simp [h])
theorem Depth_in (l : List S36) (hl : l.length ≤ 2100) (b : Int) (i : Nat) (hi : i + 1 ≤ 5000) (v : Int) : ∀ st : List Nat, st ≠ [] → st.length ≤ 5000 → (∀ n ∈ st, n ≤ 2100) →
    EvTo (fun k => tree_Depth.l0 k l b (ints (close st)) l (l.length : Int) ((i + 1 : Nat) : Int)) v → EvTo (fun k => tree_Depth.l1 k l b (ints st) l (l.length : Int) (i : Int)) v := by
  intro st
  induction st with
  | nil => intro h; exact absurd rfl h
  | cons n st ih =>
    intro _ hs hB h
    simp only [List.length_cons] at hs
    have hlen : ((ints (n :: st)).length : Int) = (st.length : Int) + 1 := by rw [ints_len]; simp
    refine EvTo.step (fun k => by rw [tree_Depth.l1]) ?_
    rw [hlen, show wrap64 ((st.length : Int) + 1 - 1) = (st.length : Int) by unfold wrap64; omega, inc i (by omega)]
    refine EvTo.pos (by omega) (EvTo.pos (by omega) ?_)
    have hrd : rd (ints (n :: st)) (st.length : Int) = (n : Int) := by
      rw [ints_cons]
      simp [rd, List.getD_eq_getElem?_getD, List.getElem?_append_right, ints_len]
    rw [hrd, Int.toNat_natCast]
    cases n with
    | zero =>
      refine EvTo.neg (by simp) (EvTo.pos (by omega) ?_)
      have ht : (ints (0 :: st)).take st.length = ints st := by
        rw [ints_cons]
        exact List.take_left' (ints_len st)
      simp only [ht, Option.bind_some]
      simp only [close] at h
      cases st with
      | nil => exact EvTo.pos rfl h
      | cons m st => exact EvTo.neg (by simp; omega) (ih (by simp) (by omega) (fun q hq => hB q (by simp [hq])) h)
    | succ n =>
      have hn := hB (n + 1) (by simp)
      refine EvTo.pos (by omega) ?_
      have hset : (ints ((n + 1) :: st)).set st.length (wrap64 (((n + 1 : Nat) : Int) - 1)) = ints (n :: st) := by
        rw [show wrap64 (((n + 1 : Nat) : Int) - 1) = (n : Int) by unfold wrap64; omega, ints_cons, ints_cons, List.set_append]
        simp [ints_len]
      rw [hset]
      exact h
theorem Depth_l (l : List S36) (hl : l.length ≤ 2100) : ∀ (m i : Nat) (st : List Nat) (b : Nat), l.length = m + i → st.length ≤ i → b ≤ i → (∀ n ∈ st, n ≤ 2100) →
    EvTo (fun k => tree_Depth.l0 k l (b : Int) (ints st) l (l.length : Int) (i : Int)) (if wholeB l m then (depF (l.drop i) st b : Int) else -1) := by
  intro m
  induction m with
  | zero =>
    intro i st b h1 h2 h3 h4
    rw [List.drop_eq_nil_of_le (by omega)]
    refine EvTo.step (fun k => by rw [tree_Depth.l0]) ?_
    exact EvTo.neg (by omega) EvTo.now
  | succ m ih =>
    intro i st b h1 h2 h3 h4
    have hi : i < l.length := by omega
    refine EvTo.step (fun k => by rw [tree_Depth.l0]) ?_
    refine EvTo.pos (by omega) (EvTo.pos (by omega) (EvTo.pos (by omega) ?_))
    refine EvTo.bind (End_E l hl (i : Int)) ?_
    have he : endI l (i : Int) = endV i (endF l.length (l.drop i) 1) := by
      unfold endI
      rw [if_neg (by omega), Int.toNat_natCast]
    rw [he]
    simp only [wholeB, show l.length - (m + 1) = i by omega]
    cases hF : endF l.length (l.drop i) 1 with
    | none => exact EvTo.pos (by simp [endV]) EvTo.now
    | some q =>
      refine EvTo.neg (by simp only [endV]; omega) (EvTo.pos (by rw [ints_len]; omega) ?_)
      rw [rd36 l i hi]
      have hk : 0 ≤ l[i].f1 ∧ l[i].f1 ≤ 2100 := by
        rw [List.drop_eq_getElem_cons hi] at hF
        simp only [endF] at hF
        split at hF
        · cases hF
        · omega
      have hpush : ints st ++ [l[i].f1] = ints (l[i].f1.toNat :: st) := by
        rw [ints_cons, Int.toNat_of_nonneg hk.1]
      simp only [hpush, Option.bind_some, Option.isSome_some, Bool.true_and]
      have hmx : mx (b : Int) ((ints (l[i].f1.toNat :: st)).length : Int) = ((max b (st.length + 1) : Nat) : Int) := by
        rw [ints_len]; unfold mx; simp only [List.length_cons]; split <;> omega
      rw [hmx]
      have hm : ∀ n ∈ l[i].f1.toNat :: st, n ≤ 2100 := by
        intro n hn
        rcases List.mem_cons.1 hn with rfl | hn
        · omega
        · exact h4 n hn
      refine Depth_in l hl _ i (by omega) _ _ (by simp) (by simp; omega) hm ?_
      rw [List.drop_eq_getElem_cons hi]
      have hcl := close_len (l[i].f1.toNat :: st)
      exact ih (i + 1) _ _ (by omega) (by simp only [List.length_cons] at hcl; omega) (by omega) (close_mem _ 2100 hm)
theorem Depth_E (l : List S36) (hl : l.length ≤ 2100) : EvTo (fun k => tree_Depth.f k l) (if wholeB l l.length then (depF l [] 0 : Int) else -1) := by
  have h := Depth_l l hl l.length 0 [] 0 (by omega) (by simp) (by omega) (by simp)
  exact h
theorem depF_le : ∀ (t : List S36) (st : List Nat) (b : Nat), b ≤ depF t st b
  | [], _, _ => Nat.le_refl _
  | x :: t, st, b => by
    have := depF_le t (close (x.f1.toNat :: st)) (max b (st.length + 1))
    simp only [depF]; omega
theorem wholeB_of (l : List S36) (m : Nat) (hm : m ≤ l.length) (h : ∀ j, j < l.length → (endF l.length (l.drop j) 1).isSome = true) : wholeB l m = true := by
  induction m with
  | zero => rfl
  | succ m ih =>
    simp only [wholeB]
    rw [h _ (by omega), ih (by omega)]; rfl
end Go.Proofs.Ytclhaajlgmiilaa.Tree
