/- The plain law of TreeSubs, and its walk, for all nodes and every place. -/
import Derived.Test.YtclhaajlgmiilaaTreeSub
import Derived.Test.YtclhaajlgmiilaaTreeDepth
import Derived.Test.YtclhaajlgmiilaaRowNodes
import Derived.Test.YtclhaajlgmiilaaQ39
set_option linter.unusedVariables false
set_option linter.unusedSimpArgs false
namespace Go.Proofs.Ytclhaajlgmiilaa.Tree
open Go Go.RowKit Go.Proofs.YtclhaajlgmiilaaW.PrintWords Go.Proofs.Ytclhaajlgmiilaa.Q Go.Proofs.Ytclhaajlgmiilaa.Lex

theorem TreeSubs (l : List S36) (i : Int) : ∃ k, chrysalislaw09_TreeSubs.f k l i = some true := by
  apply EvTo.one
  unfold chrysalislaw09_TreeSubs.f
  obtain ⟨x, hx, px⟩ := Light_E l
  refine EvTo.bind hx ?_
  cases x with
  | false => exact EvTo.neg (by simp) known_B
  | true =>
    have hl := (px rfl).1
    refine EvTo.pos rfl (EvTo.bind (Sub_E l hl i) ?_)
    by_cases c : endI l i < 0
    · have hs : subL l i = [] := by unfold subL; rw [if_pos c]
      rw [hs]
      refine EvTo.pos rfl (EvTo.bind (End_E l hl i) ?_)
      exact EvTo.pos (endI_none c) known_B
    obtain ⟨j, m, rfl, hF, he, h1, h2⟩ := endI_some c
    have hs : subL l (j : Int) = (l.drop j).take m := by
      unfold subL
      rw [if_neg c, he, Int.toNat_natCast, Int.toNat_natCast, sub_take h2]
    rw [hs]
    have hlen : ((l.drop j).take m).length = m := by rw [List.length_take, List.length_drop]; omega
    have hF2 : endF m ((l.drop j).take m) 1 = some m := endF_take _ _ _ _ hF (Nat.le_refl 1) m (fun y hy => by
      have := endF_kids _ _ _ _ hF (Nat.le_refl 1) y hy
      omega)
    have hw : wrap64 ((j : Int) + (((l.drop j).take m).length : Int)) = ((j + m : Nat) : Int) := by rw [hlen]; unfold wrap64; omega
    rw [hw]
    refine EvTo.neg (by rw [hlen]; omega) (EvTo.neg (by omega) (EvTo.neg (by omega) ?_))
    generalize hsd : (l.drop j).take m = s at *
    have hls : s.length ≤ 2100 := by omega
    refine EvTo.bind (End_E s hls 0) ?_
    have he0 : endI s 0 = (m : Int) := by
      unfold endI
      rw [if_neg (by omega)]
      simp only [Int.toNat_zero, List.drop_zero]
      rw [hlen, hF2]
      simp [endV]
    refine EvTo.pos (by rw [he0, hlen]) ?_
    refine EvTo.bind (End_E l hl (j : Int)) ?_
    refine EvTo.pos he (EvTo.pos (by omega) (EvTo.pos (by omega) (EvTo.pos (by omega) ?_)))
    rw [Int.toNat_natCast, Int.toNat_natCast, sub_take h2, hsd]
    refine EvTo.bind (Same_E s s (by omega)) ?_
    rw [eqL_self]
    refine EvTo.step (fun k => by rw [chrysalislaw09_TreeSubs.j0]) ?_
    refine EvTo.neg (by simp) ?_
    have hF3 : endF s.length (s.drop 0) 1 = some m := by rw [hlen, List.drop_zero]; exact hF2
    obtain ⟨hj0, r0, k0, n0⟩ := Kids_len s hls 0 m hF3
    obtain ⟨hj1, r1, k1, n1⟩ := Kids_len l hl j m hF
    have hfirst : s[0] = l[j] := by
      subst hsd
      simp
    refine EvTo.bind k0 (EvTo.bind k1 ?_)
    refine EvTo.pos (by rw [n0, n1, hfirst]) ?_
    refine EvTo.bind (Depth_E s hls) ?_
    have hwb : wholeB s s.length = true := wholeB_of s s.length (Nat.le_refl _) (fun q hq => by
      obtain ⟨m', _, e⟩ := endF_in _ _ _ _ q hF3 (Nat.le_refl 1) (by omega)
      rw [List.drop_zero] at e
      rw [e]; rfl)
    rw [hwb]
    refine EvTo.pos ?_ known_B
    rcases s with _ | ⟨y, t⟩
    · simp at hj0
    · have := depF_le t (close (y.f1.toNat :: [])) (max 0 (([] : List Nat).length + 1))
      have e : depF (y :: t) [] 0 = depF t (close (y.f1.toNat :: [])) (max 0 (([] : List Nat).length + 1)) := rfl
      rw [if_pos rfl, e]
      simp at this ⊢
      omega
end Go.Proofs.Ytclhaajlgmiilaa.Tree
namespace Go.Proofs.Ytclhaajlgmiilaa
open Go Go.RowKit Go.Proofs.YtclhaajlgmiilaaW.PrintWords Go.Proofs.Ytclhaajlgmiilaa.Q
theorem subs_row (A1 : Option Addr) (n1 c1 : Nat) (l1 : List S36) (i : Int) (w : World) (h1 : Kd.C k36 w A1 n1 l1) (b1 : (l1.length = n1 ∧ n1 ≤ c1) ∧ NodeB l1) (_ : (Lit.int .i64 i).wf = true) :
    Calls Try.prog 8 #[.slice A1 n1 c1, .int .i64 i] w fun e w' => e = .returned (.bool true) ∧ Below w.heap.size w w' := by
  obtain ⟨⟨rfl, hc1⟩, _⟩ := b1
  obtain ⟨k, hk⟩ := Tree.TreeSubs l1 i
  exact chrysalislaw09_TreeSubs.calls k A1 c1 l1 i true w h1 hc1 hk rfl
end Go.Proofs.Ytclhaajlgmiilaa
