/- What tree.Sub and Kids come to. -/
import Derived.Test.YtclhaajlgmiilaaTreeEnd
set_option linter.unusedVariables false
set_option linter.unusedSimpArgs false
namespace Go.Proofs.Ytclhaajlgmiilaa.Tree
open Go Go.RowKit Go.Proofs.YtclhaajlgmiilaaW.PrintWords Go.Proofs.Ytclhaajlgmiilaa.Q Go.Proofs.Ytclhaajlgmiilaa.Lex

def subL (l : List S36) (i : Int) : List S36 := if endI l i < 0 then [] else (l.take (endI l i).toNat).drop i.toNat
/-- An end that is there. -/
theorem endI_some {l : List S36} {i : Int} (h : ¬ endI l i < 0) : ∃ j m : Nat, i = j ∧ endF l.length (l.drop j) 1 = some m ∧ endI l i = ((j + m : Nat) : Int) ∧ 1 ≤ m ∧ j + m ≤ l.length := by
  have hi : ¬ i < 0 := by
    intro c
    unfold endI at h
    rw [if_pos c] at h
    omega
  unfold endI at h ⊢
  rw [if_neg hi] at h
  refine ⟨i.toNat, ?_⟩
  cases he : endF l.length (l.drop i.toNat) 1 with
  | none => rw [he] at h; simp [endV] at h
  | some m =>
    obtain ⟨h1, h2⟩ := endF_le _ _ _ _ he
    rw [List.length_drop] at h2
    refine ⟨m, by omega, rfl, ?_, h1, by omega⟩
    rw [if_neg hi]
    rfl
theorem endI_none {l : List S36} {i : Int} (h : endI l i < 0) : endI l i = -1 := by
  unfold endI at h ⊢
  split
  · rfl
  · rename_i c
    rw [if_neg c] at h
    cases he : endF l.length (l.drop i.toNat) 1 with
    | none => rfl
    | some m => rw [he] at h; simp only [endV] at h; omega
theorem sub_take {l : List S36} {j m : Nat} (h : j + m ≤ l.length) : (l.take (j + m)).drop j = (l.drop j).take m := by
  rw [List.drop_take, Nat.add_sub_cancel_left]
theorem Sub_E (l : List S36) (hl : l.length ≤ 2100) (i : Int) : EvTo (fun k => tree_Sub.f k l i) (subL l i) := by
  unfold tree_Sub.f
  refine EvTo.bind (End_E l hl i) ?_
  by_cases c : endI l i < 0
  · have hs : subL l i = [] := by unfold subL; rw [if_pos c]
    rw [hs]
    exact EvTo.pos c EvTo.now
  obtain ⟨j, m, rfl, _, he, h1, h2⟩ := endI_some c
  have hs : subL l (j : Int) = (l.take (j + m)).drop j := by
    unfold subL
    rw [if_neg c, he, Int.toNat_natCast, Int.toNat_natCast]
  rw [hs, he]
  refine EvTo.neg (by omega) (EvTo.pos (by omega) (EvTo.pos (by omega) (EvTo.pos (by omega) ?_)))
  simp only [Option.bind_some, Int.toNat_natCast]
  refine EvTo.pos ?_ (EvTo.of_eq fun k => by simp)
  simp only [List.length_nil, List.length_drop, List.length_take]
  omega
theorem Kids_l (l : List S36) (hl : l.length ≤ 2100) (i : Nat) (hi : i < l.length) (h0 : 0 ≤ l[i].f1) (h9 : l[i].f1 ≤ 2100) : ∀ (d : Nat) (acc : List Int) (at' : Int), l[i].f1.toNat = d + acc.length →
    ∃ r, EvTo (fun k => tree_Kids.l0 k l (i : Int) acc at') r ∧ r.length = l[i].f1.toNat := by
  intro d
  induction d with
  | zero =>
    intro acc at' h
    refine ⟨acc, ?_, by omega⟩
    refine EvTo.step (fun k => by rw [tree_Kids.l0]) ?_
    refine EvTo.pos (by omega) (EvTo.pos (by omega) ?_)
    rw [rd36 l i hi]
    exact EvTo.neg (by omega) EvTo.now
  | succ d ih =>
    intro acc at' h
    obtain ⟨r, h1, h2⟩ := ih (acc ++ [at']) (endI l at') (by simp; omega)
    refine ⟨r, ?_, h2⟩
    refine EvTo.step (fun k => by rw [tree_Kids.l0]) ?_
    refine EvTo.pos (by omega) (EvTo.pos (by omega) ?_)
    rw [rd36 l i hi]
    exact EvTo.pos (by omega) (EvTo.pos (by omega) (EvTo.bind (End_E l hl at') h1))
/-- A tree's first node has so many kids. -/
theorem Kids_len (l : List S36) (hl : l.length ≤ 2100) (j m : Nat) (h : endF l.length (l.drop j) 1 = some m) : ∃ hj : j < l.length, ∃ r, EvTo (fun k => tree_Kids.f k l (j : Int)) r ∧ r.length = l[j].f1.toNat := by
  have hle := endF_le _ _ _ _ h
  rw [List.length_drop] at hle
  have hj : j < l.length := by omega
  refine ⟨hj, ?_⟩
  have hk := endF_kids _ _ _ _ h (Nat.le_refl 1) l[j] (by obtain ⟨q, rfl⟩ : ∃ q, m = q + 1 := ⟨m - 1, by omega⟩; rw [List.drop_eq_getElem_cons hj, List.take_succ_cons]; exact List.mem_cons_self)
  have he : endI l (j : Int) = ((j + m : Nat) : Int) := by
    unfold endI
    rw [if_neg (by omega), Int.toNat_natCast, h]; rfl
  obtain ⟨r, h1, h2⟩ := Kids_l l hl j hj hk.1 (by omega) l[j].f1.toNat [] ((j + 1 : Nat) : Int) (by simp)
  refine ⟨r, ?_, h2⟩
  unfold tree_Kids.f
  refine EvTo.bind (End_E l hl (j : Int)) ?_
  rw [he, inc j (by omega)]
  exact EvTo.neg (by omega) h1
end Go.Proofs.Ytclhaajlgmiilaa.Tree
