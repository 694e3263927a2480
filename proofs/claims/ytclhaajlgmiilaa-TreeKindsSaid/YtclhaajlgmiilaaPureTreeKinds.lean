/- The plain law of TreeKinds, and its walk, for every kind and all nodes. -/
import Derived.Test.YtclhaajlgmiilaaTreeEq
import Derived.Test.YtclhaajlgmiilaaRowNodes
import Derived.Test.YtclhaajlgmiilaaQ36
set_option linter.unusedVariables false
set_option linter.unusedSimpArgs false
namespace Go.Proofs.Ytclhaajlgmiilaa.Tree
open Go Go.RowKit Go.Proofs.YtclhaajlgmiilaaW.PrintWords Go.Proofs.Ytclhaajlgmiilaa.Q Go.Proofs.Ytclhaajlgmiilaa.Lex

theorem rSame_l (a b : List S36) (hl : a.length = b.length) (ha : a.length ≤ 4611686018427387904) : ∀ (m i : Nat), a.length = m + i →
    EvTo (fun k => chrysalisref09_Same.l0 k a b (i : Int)) (((a.drop i).zip (b.drop i)).all fun p => eqN p.1 p.2) := by
  intro m
  induction m with
  | zero =>
    intro i h1
    rw [List.drop_eq_nil_of_le (by omega)]
    refine EvTo.step (fun k => by rw [chrysalisref09_Same.l0]) ?_
    exact EvTo.neg (by omega) EvTo.now
  | succ m ih =>
    intro i h1
    have hi : i < a.length := by omega
    have hi2 : i < b.length := by omega
    refine EvTo.step (fun k => by rw [chrysalisref09_Same.l0]) ?_
    refine EvTo.pos (by omega) (EvTo.pos (by omega) (EvTo.pos (by omega) ?_))
    rw [rd36 a i hi, rd36 b i hi2, neN, inc i (by omega), List.drop_eq_getElem_cons hi, List.drop_eq_getElem_cons hi2, List.zip_cons_cons, List.all_cons]
    by_cases c : eqN a[i] b[i] = true
    · rw [c]
      exact EvTo.neg (by simp) (by simpa using ih (i + 1) (by omega))
    · rw [Bool.eq_false_iff.2 c]
      exact EvTo.pos (by simp) EvTo.now
theorem rSame_E (a b : List S36) (ha : a.length ≤ 4611686018427387904) : EvTo (fun k => chrysalisref09_Same.f k a b) (eqL a b) := by
  unfold chrysalisref09_Same.f eqL
  by_cases c : a.length = b.length
  · refine EvTo.pos (by omega) ?_
    rw [decide_eq_true c, Bool.true_and]
    exact rSame_l a b c ha a.length 0 (by omega)
  · refine EvTo.neg (by omega) ?_
    rw [decide_eq_false c]
    exact EvTo.now
theorem TreeKinds (n : Int) (a b : List S36) : ∃ k, chrysalislaw09_TreeKinds.f k n a b = some true := by
  apply EvTo.one
  unfold chrysalislaw09_TreeKinds.f
  obtain ⟨x, hx, px⟩ := Light_E a
  obtain ⟨y, hy, py⟩ := Light_E b
  refine EvTo.bind hx ?_
  cases x with
  | false => exact EvTo.neg (by simp) (EvTo.step (fun k => by rw [chrysalislaw09_TreeKinds.j0]) (EvTo.pos rfl known_B))
  | true =>
    refine EvTo.pos rfl (EvTo.bind hy ?_)
    refine EvTo.step (fun k => by rw [chrysalislaw09_TreeKinds.j0]) ?_
    cases y with
    | false => exact EvTo.pos rfl known_B
    | true =>
      refine EvTo.neg (by simp) ?_
      have la := (px rfl).1
      have lb := (py rfl).1
      have e1 : ∃ q, tree_Expr.f n = some q ∧ chrysalisref09_Expr.f n = some q := by
        unfold tree_Expr.f chrysalisref09_Expr.f
        split <;> exact ⟨_, rfl, rfl⟩
      have e2 : ∃ q, tree_Stmt.f n = some q ∧ chrysalisref09_Stmt.f n = some q := by
        unfold tree_Stmt.f chrysalisref09_Stmt.f
        split <;> exact ⟨_, rfl, rfl⟩
      obtain ⟨q1, a1, b1⟩ := e1
      obtain ⟨q2, a2, b2⟩ := e2
      simp only [a1, b1, a2, b2, Option.bind_some]
      refine EvTo.pos (by simp) (EvTo.pos (by simp) ?_)
      refine EvTo.bind (Same_E a b (by omega)) (EvTo.bind (rSame_E a b (by omega)) ?_)
      refine EvTo.pos (by simp) ?_
      refine EvTo.bind (Same_E a a (by omega)) ?_
      exact EvTo.pos (eqL_self a) known_B
end Go.Proofs.Ytclhaajlgmiilaa.Tree
namespace Go.Proofs.Ytclhaajlgmiilaa
open Go Go.RowKit Go.Proofs.YtclhaajlgmiilaaW.PrintWords Go.Proofs.Ytclhaajlgmiilaa.Q
theorem kinds_row (n : Int) (A1 : Option Addr) (n1 c1 : Nat) (l1 : List S36) (A2 : Option Addr) (n2 c2 : Nat) (l2 : List S36) (w : World) (_ : (Lit.int .i64 n).wf = true)
    (h1 : Kd.C k36 w A1 n1 l1) (b1 : (l1.length = n1 ∧ n1 ≤ c1) ∧ NodeB l1) (h2 : Kd.C k36 w A2 n2 l2) (b2 : (l2.length = n2 ∧ n2 ≤ c2) ∧ NodeB l2) :
    Calls Try.prog 5 #[.int .i64 n, .slice A1 n1 c1, .slice A2 n2 c2] w fun e w' => e = .returned (.bool true) ∧ Below w.heap.size w w' := by
  obtain ⟨⟨rfl, hc1⟩, _⟩ := b1
  obtain ⟨⟨rfl, hc2⟩, _⟩ := b2
  obtain ⟨k, hk⟩ := Tree.TreeKinds n l1 l2
  exact chrysalislaw09_TreeKinds.calls k n A1 c1 l1 A2 c2 l2 true w h1 hc1 h2 hc2 hk rfl
end Go.Proofs.Ytclhaajlgmiilaa
