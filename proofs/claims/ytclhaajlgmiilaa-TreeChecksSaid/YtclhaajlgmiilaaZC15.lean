/- Walks over functions of the program, words for them, and what the functions come to; of each text only what this claim uses; no condition. -/
import Derived.Test.YtclhaajlgmiilaaZC0
import Derived.Test.YtclhaajlgmiilaaZC3
import Derived.Test.YtclhaajlgmiilaaZC13
import Derived.Test.YtclhaajlgmiilaaZC14
import Derived.ProofKit
import Derived.Deep.Slices

section
set_option linter.unusedVariables false
set_option linter.unusedSimpArgs false
namespace Go.Proofs.Ytclhaajlgmiilaa.Tree
open Go Go.RowKit Go.Proofs.YtclhaajlgmiilaaW.PrintWords Go.Proofs.Ytclhaajlgmiilaa.Q Go.Proofs.Ytclhaajlgmiilaa.Lex

theorem bare_E (a b : Int) (n : ByteArray) (v : Int) (t : ByteArray) : chrysalisref09_bare.f a b n v t = some ((L n).isEmpty && ((L t).isEmpty && v == 0)) := by
  unfold chrysalisref09_bare.f
  rw [L_toList, L_toList]
  cases L n with
  | nil =>
    rw [if_pos rfl]
    cases L t with
    | nil => rw [if_pos rfl]; rfl
    | cons c u => rw [if_neg (by simp)]; rfl
  | cons c u => rw [if_neg (by simp)]; rfl
theorem emp_L : (L (⟨#[]⟩ : ByteArray)).isEmpty = true := rfl
theorem fv5 (lo hi : Int) (x : S36) : fieldsV 5 true lo hi x = ((L x.f4).isEmpty && (isName (L x.f2) && decide (lo ≤ x.f3 ∧ x.f3 ≤ hi))) := by
  unfold fieldsV textS bitS
  rw [show Go.bits .and .i64 5 2 = 0 from by decide, show Go.bits .and .i64 5 8 = 0 from by decide, show Go.bits .and .i64 5 16 = 0 from by decide, show Go.bits .and .i64 5 32 = 0 from by decide, show Go.bits .and .i64 5 1 = 1 from by decide, show Go.bits .and .i64 5 4 = 4 from by decide]
  cases isName (L x.f2) <;> rfl
theorem fv7 (lo hi : Int) (x : S36) : fieldsV 7 true lo hi x = (isName (L x.f4) && (isName (L x.f2) && decide (lo ≤ x.f3 ∧ x.f3 ≤ hi))) := by
  unfold fieldsV textS bitS
  rw [show Go.bits .and .i64 7 2 = 2 from by decide, show Go.bits .and .i64 7 1 = 1 from by decide, show Go.bits .and .i64 7 4 = 4 from by decide]
  cases isName (L x.f2) <;> rfl
theorem fv1 (lo hi : Int) (x : S36) : fieldsV 1 true lo hi x = ((L x.f4).isEmpty && (isName (L x.f2) && x.f3 == 0)) := by
  unfold fieldsV textS bitS
  rw [show Go.bits .and .i64 1 2 = 0 from by decide, show Go.bits .and .i64 1 8 = 0 from by decide, show Go.bits .and .i64 1 16 = 0 from by decide, show Go.bits .and .i64 1 32 = 0 from by decide, show Go.bits .and .i64 1 1 = 1 from by decide, show Go.bits .and .i64 1 4 = 0 from by decide]
  cases isName (L x.f2) <;> rfl
theorem noname (s : List UInt8) (b : Bool) : ((false == isName s) && ((false || s.isEmpty) && b)) = (s.isEmpty && b) := by
  cases s with
  | nil => rfl
  | cons c t => simp
theorem fv4 (lo hi : Int) (x : S36) : fieldsV 4 true lo hi x = ((L x.f4).isEmpty && ((L x.f2).isEmpty && decide (lo ≤ x.f3 ∧ x.f3 ≤ hi))) := by
  unfold fieldsV textS bitS
  rw [show Go.bits .and .i64 4 2 = 0 from by decide, show Go.bits .and .i64 4 8 = 0 from by decide, show Go.bits .and .i64 4 16 = 0 from by decide, show Go.bits .and .i64 4 32 = 0 from by decide, show Go.bits .and .i64 4 1 = 0 from by decide, show Go.bits .and .i64 4 4 = 4 from by decide]
  rw [show ((0 : Int) != 0) = false from rfl, noname]; rfl
theorem fv32 (lo hi : Int) (x : S36) : fieldsV 32 true lo hi x = (decide (x.f4.size ≤ 1024) && ((L x.f2).isEmpty && x.f3 == 0)) := by
  unfold fieldsV textS bitS
  rw [show Go.bits .and .i64 32 2 = 0 from by decide, show Go.bits .and .i64 32 8 = 0 from by decide, show Go.bits .and .i64 32 16 = 0 from by decide, show Go.bits .and .i64 32 32 = 32 from by decide, show Go.bits .and .i64 32 1 = 0 from by decide, show Go.bits .and .i64 32 4 = 0 from by decide]
  rw [show ((0 : Int) != 0) = false from rfl, noname]; rfl
theorem fv3 (lo hi : Int) (x : S36) : fieldsV 3 true lo hi x = (isName (L x.f4) && (isName (L x.f2) && x.f3 == 0)) := by
  unfold fieldsV textS bitS
  rw [show Go.bits .and .i64 3 2 = 2 from by decide, show Go.bits .and .i64 3 1 = 1 from by decide, show Go.bits .and .i64 3 4 = 0 from by decide]
  cases isName (L x.f2) <;> rfl
theorem fv8 (lo hi : Int) (x : S36) : fieldsV 8 true lo hi x = (OPS.contains (L x.f4) && ((L x.f2).isEmpty && x.f3 == 0)) := by
  unfold fieldsV textS bitS
  rw [show Go.bits .and .i64 8 2 = 0 from by decide, show Go.bits .and .i64 8 8 = 8 from by decide, show Go.bits .and .i64 8 1 = 0 from by decide, show Go.bits .and .i64 8 4 = 0 from by decide]
  rw [show ((0 : Int) != 0) = false from rfl, noname]; rfl
theorem fv16 (lo hi : Int) (x : S36) : fieldsV 16 true lo hi x = (UNS.contains (L x.f4) && ((L x.f2).isEmpty && x.f3 == 0)) := by
  unfold fieldsV textS bitS
  rw [show Go.bits .and .i64 16 2 = 0 from by decide, show Go.bits .and .i64 16 8 = 0 from by decide, show Go.bits .and .i64 16 16 = 16 from by decide, show Go.bits .and .i64 16 1 = 0 from by decide, show Go.bits .and .i64 16 4 = 0 from by decide]
  rw [show ((0 : Int) != 0) = false from rfl, noname]; rfl
theorem fv0 (ok : Bool) (lo hi : Int) (x : S36) : fieldsV 0 ok lo hi x = (ok && ((L x.f4).isEmpty && ((L x.f2).isEmpty && x.f3 == 0))) := by
  unfold fieldsV textS bitS
  rw [show Go.bits .and .i64 0 2 = 0 from by decide, show Go.bits .and .i64 0 8 = 0 from by decide, show Go.bits .and .i64 0 16 = 0 from by decide, show Go.bits .and .i64 0 32 = 0 from by decide, show Go.bits .and .i64 0 1 = 0 from by decide, show Go.bits .and .i64 0 4 = 0 from by decide]
  rw [show ((0 : Int) != 0) = false from rfl, noname]; rfl
theorem ite_and {F : Nat → Option Bool} {v : Bool} {c : Prop} [Decidable c] (h : c → EvTo F v) : EvTo (fun k => if c then F k else some false) (decide c && v) := by
  by_cases hc : c
  · rw [decide_eq_true hc, Bool.true_and]; exact EvTo.pos hc (h hc)
  · rw [decide_eq_false hc, Bool.false_and]; exact EvTo.neg hc EvTo.now
theorem ite_andB {F : Nat → Option Bool} {v b : Bool} (h : EvTo F v) : EvTo (fun k => if b = true then F k else some false) (b && v) := by
  cases b
  · exact EvTo.neg (by simp) EvTo.now
  · exact EvTo.pos rfl h
theorem bare_R (a b : Int) (n : ByteArray) (v : Int) (t : ByteArray) : EvTo (fun _ => (chrysalisref09_bare.f a b n v t).bind fun t => some t) ((L n).isEmpty && ((L t).isEmpty && v == 0)) :=
  EvTo.of_eq fun _ => by rw [bare_E]; rfl
theorem op_l (s : ByteArray) (l : List ByteArray) (hl : l.length ≤ 1000) : ∀ (m i : Nat), l.length = m + i → EvTo (fun k => chrysalisref09_op.l0 k s l (i : Int)) (((l.drop i).map L).contains (L s)) := by
  intro m
  induction m with
  | zero =>
    intro i h1
    rw [List.drop_eq_nil_of_le (by omega)]
    refine EvTo.step (fun k => by rw [chrysalisref09_op.l0]) ?_
    exact EvTo.neg (by omega) EvTo.now
  | succ m ih =>
    intro i h1
    have hi : i < l.length := by omega
    refine EvTo.step (fun k => by rw [chrysalisref09_op.l0]) ?_
    refine EvTo.pos (by omega) (EvTo.pos (by omega) ?_)
    simp only [rd_list l i hi]
    rw [List.drop_eq_getElem_cons hi, List.map_cons, List.contains_cons]
    by_cases c : L l[i] = L s
    · refine EvTo.pos (by rw [L_toList, L_toList]; exact c) ?_
      rw [show (L s == L l[i]) = true from beq_iff_eq.2 c.symm]
      exact EvTo.now
    · refine EvTo.neg (by rw [L_toList, L_toList]; exact c) ?_
      rw [show (L s == L l[i]) = false from beq_eq_false_iff_ne.2 (fun e => c e.symm), Bool.false_or, Tree.inc i (by omega)]
      exact ih (i + 1) (by omega)
theorem op_E (s : ByteArray) : EvTo (fun k => chrysalisref09_op.f k s) (OPS.contains (L s)) := by
  unfold chrysalisref09_op.f
  exact op_l s _ (by simp) 12 0 (by simp)
theorem rfields_j (x : S36) (h2 : x.f3 ≤ 9223372036854775807) (b : Bool) (hb : b = decide (x.f0 = 3 ∨ x.f0 = 4 ∨ x.f0 = 6 ∨ x.f0 = 7 ∨ x.f0 = 21)) (c1 : x.f0 ≠ 1) (c2 : x.f0 ≠ 2) :
    EvTo (fun k => chrysalisref09_fields.j0 k (isName (L x.f2)) (isName (L x.f4)) x.f0 b x.f0 x.f1 x.f2 x.f3 x.f4 x.f0 x.f1 x.f2 x.f3 x.f4) (fieldsS x) := by
  refine EvTo.step (fun k => by rw [chrysalisref09_fields.j0]) ?_
  have hr : rangeS x.f0 = (0, 9223372036854775807) := by unfold rangeS; rw [if_neg c1, if_neg c2]
  unfold fieldsS
  rw [hr]
  by_cases c : x.f0 = 3 ∨ x.f0 = 4 ∨ x.f0 = 6 ∨ x.f0 = 7 ∨ x.f0 = 21
  · have hs : hasS x.f0 = (1, true) := by unfold hasS; rw [if_neg c1, if_neg c2, if_pos c]
    rw [hs, fv1, show ((L x.f4).isEmpty && (isName (L x.f2) && x.f3 == 0)) = (isName (L x.f2) && (true && ((L x.f4).isEmpty && x.f3 == 0))) from by cases isName (L x.f2) <;> cases (L x.f4).isEmpty <;> rfl]
    exact EvTo.pos (by rw [hb]; exact decide_eq_true c) (ite_andB (bare_R _ _ _ _ _))
  refine EvTo.neg (by rw [hb]; simpa using c) ?_
  by_cases c3 : x.f0 = 19
  · have hs : hasS x.f0 = (4, true) := by unfold hasS; rw [if_neg c1, if_neg c2, if_neg c, if_pos c3]
    rw [hs, fv4, show ((L x.f4).isEmpty && ((L x.f2).isEmpty && decide (0 ≤ x.f3 ∧ x.f3 ≤ 9223372036854775807))) = (decide (x.f3 ≥ 0) && ((L x.f2).isEmpty && ((L x.f4).isEmpty && true))) from by
      rw [show decide (0 ≤ x.f3 ∧ x.f3 ≤ 9223372036854775807) = decide (x.f3 ≥ 0) from by rw [decide_eq_decide]; omega]
      cases decide (x.f3 ≥ 0) <;> cases (L x.f4).isEmpty <;> cases (L x.f2).isEmpty <;> rfl]
    exact EvTo.pos c3 (ite_and fun _ => bare_R _ _ _ _ _)
  refine EvTo.neg c3 ?_
  by_cases c4 : x.f0 = 20
  · have hs : hasS x.f0 = (32, true) := by unfold hasS; rw [if_neg c1, if_neg c2, if_neg c, if_neg c3, if_pos c4]
    rw [hs, fv32, show (decide (x.f4.size ≤ 1024) && ((L x.f2).isEmpty && x.f3 == 0)) = (decide ((x.f4.size : Int) ≤ 1024) && ((L x.f2).isEmpty && (true && x.f3 == 0))) from by
      rw [show decide (x.f4.size ≤ 1024) = decide ((x.f4.size : Int) ≤ 1024) from by rw [decide_eq_decide]; omega]; rfl]
    exact EvTo.pos c4 (ite_and fun _ => bare_R _ _ _ _ _)
  refine EvTo.neg c4 ?_
  by_cases c5 : x.f0 = 23
  · have hs : hasS x.f0 = (3, true) := by unfold hasS; rw [if_neg c1, if_neg c2, if_neg c, if_neg c3, if_neg c4, if_pos c5]
    rw [hs, fv3, show (isName (L x.f4) && (isName (L x.f2) && x.f3 == 0)) = (isName (L x.f2) && (isName (L x.f4) && (true && (true && x.f3 == 0)))) from by cases isName (L x.f2) <;> cases isName (L x.f4) <;> rfl]
    exact EvTo.pos c5 (ite_andB (ite_andB (bare_R _ _ _ _ _)))
  refine EvTo.neg c5 ?_
  by_cases c6 : x.f0 = 27
  · have hs : hasS x.f0 = (8, true) := by unfold hasS; rw [if_neg c1, if_neg c2, if_neg c, if_neg c3, if_neg c4, if_neg c5, if_pos c6]
    rw [hs, fv8, show (OPS.contains (L x.f4) && ((L x.f2).isEmpty && x.f3 == 0)) = (OPS.contains (L x.f4) && ((L x.f2).isEmpty && (true && x.f3 == 0))) from rfl]
    exact EvTo.pos c6 (EvTo.bind (op_E x.f4) (ite_andB (bare_R _ _ _ _ _)))
  refine EvTo.neg c6 ?_
  by_cases c7 : x.f0 = 28
  · have hs : hasS x.f0 = (16, true) := by unfold hasS; rw [if_neg c1, if_neg c2, if_neg c, if_neg c3, if_neg c4, if_neg c5, if_neg c6, if_pos c7]
    rw [hs, fv16]
    refine EvTo.pos c7 ?_
    rw [L_toList]
    have hu : UNS.contains (L x.f4) = (L x.f4 == [45] || (L x.f4 == [110, 111, 116] || L x.f4 == [108, 101, 110])) := by simp only [UNS, List.contains_cons, List.contains_nil, Bool.or_false]
    have hbr := bare_R x.f0 x.f1 x.f2 x.f3 (⟨#[]⟩ : ByteArray)
    rw [emp_L, Bool.true_and] at hbr
    by_cases d1 : L x.f4 = [45]
    · rw [hu, show (L x.f4 == [45]) = true from beq_iff_eq.2 d1, Bool.true_or, Bool.true_and]
      exact EvTo.pos d1 hbr
    refine EvTo.neg d1 ?_
    by_cases d2 : L x.f4 = [110, 111, 116]
    · rw [hu, show (L x.f4 == [110, 111, 116]) = true from beq_iff_eq.2 d2, Bool.true_or, Bool.or_true, Bool.true_and]
      exact EvTo.pos d2 hbr
    refine EvTo.neg d2 ?_
    by_cases d3 : L x.f4 = [108, 101, 110]
    · rw [hu, show (L x.f4 == [108, 101, 110]) = true from beq_iff_eq.2 d3, Bool.or_true, Bool.or_true, Bool.true_and]
      exact EvTo.pos d3 hbr
    · rw [hu, beq_eq_false_iff_ne.2 d1, beq_eq_false_iff_ne.2 d2, beq_eq_false_iff_ne.2 d3]
      exact EvTo.neg d3 EvTo.now
  refine EvTo.neg c7 ?_
  have hs : hasS x.f0 = (0, decide (1 ≤ x.f0 ∧ x.f0 ≤ 30)) := by unfold hasS; rw [if_neg c1, if_neg c2, if_neg c, if_neg c3, if_neg c4, if_neg c5, if_neg c6, if_neg c7]
  rw [hs, fv0, show (decide (1 ≤ x.f0 ∧ x.f0 ≤ 30) && ((L x.f4).isEmpty && ((L x.f2).isEmpty && x.f3 == 0))) = (decide (x.f0 ≥ 1) && (decide (x.f0 ≤ 30) && ((L x.f2).isEmpty && ((L x.f4).isEmpty && x.f3 == 0)))) from by
    rw [show decide (1 ≤ x.f0 ∧ x.f0 ≤ 30) = (decide (x.f0 ≥ 1) && decide (x.f0 ≤ 30)) from Bool.decide_and _ _]
    cases decide (x.f0 ≥ 1) <;> cases decide (x.f0 ≤ 30) <;> cases (L x.f4).isEmpty <;> cases (L x.f2).isEmpty <;> rfl]
  exact ite_and fun _ => ite_and fun _ => bare_R _ _ _ _ _
theorem rfields_E (x : S36) (h2 : x.f2.size ≤ 2000) (h4 : x.f4.size ≤ 2000) (h3 : x.f3 ≤ 9223372036854775807) : EvTo (fun k => chrysalisref09_fields.f k x.f0 x.f1 x.f2 x.f3 x.f4) (fieldsS x) := by
  unfold chrysalisref09_fields.f
  refine EvTo.bind (rName_f x.f2 (by omega)) (EvTo.bind (rName_f x.f4 (by omega)) ?_)
  by_cases c1 : x.f0 = 1
  · have hs : hasS x.f0 = (5, true) := by unfold hasS; rw [if_pos c1]
    have hr : rangeS x.f0 = (1, 2147483647) := by unfold rangeS; rw [if_pos c1]
    unfold fieldsS
    rw [hs, hr, fv5, show ((L x.f4).isEmpty && (isName (L x.f2) && decide (1 ≤ x.f3 ∧ x.f3 ≤ 2147483647))) = (isName (L x.f2) && (decide (x.f3 ≥ 1) && (decide (x.f3 ≤ 2147483647) && (true && ((L x.f4).isEmpty && true))))) from by
      rw [show decide (1 ≤ x.f3 ∧ x.f3 ≤ 2147483647) = (decide (x.f3 ≥ 1) && decide (x.f3 ≤ 2147483647)) from Bool.decide_and _ _]
      cases isName (L x.f2) <;> cases decide (x.f3 ≥ 1) <;> cases decide (x.f3 ≤ 2147483647) <;> cases (L x.f4).isEmpty <;> rfl]
    exact EvTo.pos c1 (ite_andB (ite_and fun _ => ite_and fun _ => bare_R _ _ _ _ _))
  refine EvTo.neg c1 ?_
  by_cases c2 : x.f0 = 2
  · have hs : hasS x.f0 = (7, true) := by unfold hasS; rw [if_neg c1, if_pos c2]
    have hr : rangeS x.f0 = (0, 8) := by unfold rangeS; rw [if_neg c1, if_pos c2]
    unfold fieldsS
    rw [hs, hr, fv7, show (isName (L x.f4) && (isName (L x.f2) && decide (0 ≤ x.f3 ∧ x.f3 ≤ 8))) = (isName (L x.f2) && (isName (L x.f4) && (decide (x.f3 ≥ 0) && (decide (x.f3 ≤ 8) && (true && (true && true)))))) from by
      rw [show decide (0 ≤ x.f3 ∧ x.f3 ≤ 8) = (decide (x.f3 ≥ 0) && decide (x.f3 ≤ 8)) from Bool.decide_and _ _]
      cases isName (L x.f2) <;> cases isName (L x.f4) <;> cases decide (x.f3 ≥ 0) <;> cases decide (x.f3 ≤ 8) <;> rfl]
    exact EvTo.pos c2 (ite_andB (ite_andB (ite_and fun _ => ite_and fun _ => bare_R _ _ _ _ _)))
  refine EvTo.neg c2 ?_
  have go : ∀ b : Bool, b = decide (x.f0 = 3 ∨ x.f0 = 4 ∨ x.f0 = 6 ∨ x.f0 = 7 ∨ x.f0 = 21) → EvTo (fun k => chrysalisref09_fields.j0 k (isName (L x.f2)) (isName (L x.f4)) x.f0 b x.f0 x.f1 x.f2 x.f3 x.f4 x.f0 x.f1 x.f2 x.f3 x.f4) (fieldsS x) := fun b hb => rfields_j x h3 b hb c1 c2
  by_cases d1 : x.f0 = 3
  · exact EvTo.pos d1 (go _ (by simp [d1]))
  refine EvTo.neg d1 ?_
  by_cases d2 : x.f0 = 4
  · exact EvTo.pos d2 (go _ (by simp [d2]))
  refine EvTo.neg d2 ?_
  by_cases d3 : x.f0 = 6
  · exact EvTo.pos d3 (go _ (by simp [d3]))
  refine EvTo.neg d3 ?_
  by_cases d4 : x.f0 = 7
  · exact EvTo.pos d4 (go _ (by simp [d4]))
  exact EvTo.neg d4 (go _ (by rw [Bool.eq_iff_iff, beq_iff_eq, decide_eq_true_eq]; omega))

/-! Kids. -/
theorem rd_at (l : List Int) (i : Nat) (h : i < l.length) : rd l (i : Int) = l[i] := by simp [rd, List.getD_eq_getElem?_getD, List.getElem?_eq_getElem h]
theorem rStmt_E (a : Int) : chrysalisref09_Stmt.f a = some (stmtP a) := by
  unfold chrysalisref09_Stmt.f stmtP
  by_cases c : a ≥ 6
  · rw [if_pos c]; congr 1; rw [decide_eq_decide]; omega
  · rw [if_neg c]; congr 1; symm; exact decide_eq_false (by omega)
theorem rExpr_E (a : Int) : chrysalisref09_Expr.f a = some (exprP a) := by
  unfold chrysalisref09_Expr.f exprP
  by_cases c : a ≥ 18
  · rw [if_pos c]; congr 1; rw [decide_eq_decide]; omega
  · rw [if_neg c]; congr 1; symm; exact decide_eq_false (by omega)
theorem rexprs_l (l : List Int) (hl : l.length ≤ 4000) (lo hi : Nat) : ∀ (m i : Nat), l.length = m + i → EvTo (fun k => chrysalisref09_exprs.l0 k l (lo : Int) (hi : Int) (i : Int)) (decide (lo ≤ l.length ∧ l.length ≤ hi) && (l.drop i).all exprP) := by
  intro m
  induction m with
  | zero =>
    intro i h
    refine EvTo.step (fun k => by rw [chrysalisref09_exprs.l0]) ?_
    rw [List.drop_eq_nil_of_le (by omega), List.all_nil, Bool.and_true]
    refine EvTo.neg (by omega) ?_
    by_cases c : (l.length : Int) ≥ (lo : Int)
    · refine EvTo.pos c (EvTo.of_eq fun k => ?_)
      congr 1; rw [decide_eq_decide]; omega
    · refine EvTo.neg c ?_
      rw [decide_eq_false (by omega)]
      exact EvTo.now
  | succ m ih =>
    intro i h
    have hi : i < l.length := by omega
    refine EvTo.step (fun k => by rw [chrysalisref09_exprs.l0]) ?_
    refine EvTo.pos (by omega) (EvTo.pos (by omega) ?_)
    simp only [rd_at l i hi, rExpr_E, Option.bind_some]
    rw [inc i (by omega), List.drop_eq_getElem_cons hi, List.all_cons]
    cases exprP l[i] with
    | true =>
      rw [Bool.true_and]
      exact EvTo.pos rfl (ih (i + 1) (by omega))
    | false =>
      rw [Bool.false_and, Bool.and_false]
      exact EvTo.neg (by simp) EvTo.now
theorem rexprs_E (l : List Int) (hl : l.length ≤ 4000) (lo hi : Nat) : EvTo (fun k => (chrysalisref09_exprs.f k l (lo : Int) (hi : Int)).bind fun t => some t) (exS l lo hi) := by
  refine ret_E ?_
  have := rexprs_l l hl lo hi l.length 0 (by omega)
  exact this
theorem rmod_l (l : List Int) (hl : l.length ≤ 4000) : ∀ (m i : Nat) (p : Bool), l.length = m + i → (p = true ↔ 0 < i ∧ rd l ((i - 1 : Nat) : Int) = 3) →
    EvTo (fun k => chrysalisref09_kids.l0 k l (l.length : Int) (i : Int)) (if p then (l.drop i).all (· == 3) else modS (l.drop i)) := by
  intro m
  induction m with
  | zero =>
    intro i p h hp
    refine EvTo.step (fun k => by rw [chrysalisref09_kids.l0]) ?_
    rw [List.drop_eq_nil_of_le (by omega)]
    have : (if p = true then ([] : List Int).all (· == 3) else modS []) = true := by cases p <;> rfl
    rw [this]
    exact EvTo.neg (by omega) EvTo.now
  | succ m ih =>
    intro i p h hp
    have hi : i < l.length := by omega
    refine EvTo.step (fun k => by rw [chrysalisref09_kids.l0]) ?_
    refine EvTo.pos (by omega) (EvTo.pos (by omega) (EvTo.pos (by omega) ?_))
    rw [rd_at l i hi, inc i (by omega), List.drop_eq_getElem_cons hi]
    have hm2 : ∀ t : List Int, modS (2 :: t) = modS t := fun t => by unfold modS; rw [List.dropWhile_cons, if_pos (by decide)]
    have hm3 : ∀ (c : Int) (t : List Int), c ≠ 2 → modS (c :: t) = (c :: t).all (· == 3) := fun c t hc => by unfold modS; rw [List.dropWhile_cons, if_neg (by simpa using hc)]
    have hback : ∀ q : Bool, (q = true ↔ l[i] = 3) → (q = true ↔ 0 < i + 1 ∧ rd l ((i + 1 - 1 : Nat) : Int) = 3) := fun q hq => by
      rw [Nat.add_sub_cancel, rd_at l i hi]; exact hq.trans ⟨fun h => ⟨by omega, h⟩, fun h => h.2⟩
    by_cases c2 : l[i] = 2
    · refine EvTo.pos c2 ?_
      rw [c2]
      have go := ih (i + 1) false (by omega) (hback false (by rw [c2]; decide))
      by_cases c0 : (i : Int) > 0
      · rw [w64 (n := (i : Int) - 1) (by omega) (by omega), show (i : Int) - 1 = ((i - 1 : Nat) : Int) by omega]
        refine EvTo.pos c0 (EvTo.pos (by omega) (EvTo.pos (by omega) ?_))
        by_cases c3 : rd l ((i - 1 : Nat) : Int) = 3
        · have : p = true := hp.2 ⟨by omega, c3⟩
          rw [this]
          exact EvTo.pos c3 EvTo.now
        · have : p = false := by
            rw [Bool.eq_false_iff]; intro h; exact c3 (hp.1 h).2
          rw [this]
          refine EvTo.neg c3 ?_
          rw [if_neg (by simp), hm2]
          exact go
      · have : p = false := by
          rw [Bool.eq_false_iff]; intro h; have := (hp.1 h).1; omega
        rw [this]
        refine EvTo.neg c0 ?_
        rw [if_neg (by simp), hm2]
        exact go
    · refine EvTo.neg c2 ?_
      rw [hm3 _ _ c2]
      have : (if p = true then (l[i] :: l.drop (i + 1)).all (· == 3) else (l[i] :: l.drop (i + 1)).all (· == 3)) = (l[i] :: l.drop (i + 1)).all (· == 3) := by cases p <;> rfl
      rw [this]
      by_cases c3 : l[i] = 3
      · refine EvTo.pos c3 ?_
        have go := ih (i + 1) true (by omega) (hback true (by rw [c3]; decide))
        rw [List.all_cons, c3]
        by_cases c0 : (i : Int) > 0
        · exact EvTo.pos c0 go
        · exact EvTo.neg c0 go
      · refine EvTo.neg c3 ?_
        rw [List.all_cons, beq_eq_false_iff_ne.2 c3]
        exact EvTo.now
theorem rfun_l (l : List Int) (hl : l.length ≤ 4000) : ∀ (m i : Nat), l.length - 1 = m + i → EvTo (fun k => chrysalisref09_function.l0 k l (l.length : Int) (i : Int)) (((l.take (l.length - 1)).drop i).all (· == 4)) := by
  intro m
  induction m with
  | zero =>
    intro i h
    refine EvTo.step (fun k => by rw [chrysalisref09_function.l0]) ?_
    rw [List.drop_eq_nil_of_le (by rw [List.length_take]; omega), w64 (by omega) (by omega)]
    exact EvTo.neg (by omega) EvTo.now
  | succ m ih =>
    intro i h
    have hi : i < l.length := by omega
    have hi2 : i < (l.take (l.length - 1)).length := by rw [List.length_take]; omega
    refine EvTo.step (fun k => by rw [chrysalisref09_function.l0]) ?_
    rw [w64 (n := (l.length : Int) - 1) (by omega) (by omega)]
    refine EvTo.pos (by omega) (EvTo.pos (by omega) (EvTo.pos (by omega) ?_))
    rw [rd_at l i hi, inc i (by omega), List.drop_eq_getElem_cons hi2, List.all_cons, List.getElem_take]
    by_cases c : l[i] = 4
    · rw [c]
      exact EvTo.pos rfl (ih (i + 1) (by omega))
    · rw [beq_eq_false_iff_ne.2 c]
      exact EvTo.neg c EvTo.now
theorem rfunction_E (l : List Int) (hl : l.length ≤ 4000) : EvTo (fun k => (chrysalisref09_function.f k l).bind fun t => some t) (funS l) := by
  refine ret_E ?_
  unfold chrysalisref09_function.f funS
  by_cases c1 : l.length < 1
  · rw [decide_eq_false (by omega)]
    refine EvTo.pos (by omega) ?_
    refine EvTo.step (fun k => by rw [chrysalisref09_function.j0]) ?_
    exact EvTo.pos rfl EvTo.now
  refine EvTo.neg (by omega) ?_
  by_cases c2 : l.length > 9
  · rw [decide_eq_false (by omega)]
    refine EvTo.pos (by omega) ?_
    refine EvTo.step (fun k => by rw [chrysalisref09_function.j0]) ?_
    exact EvTo.pos rfl EvTo.now
  refine EvTo.neg (by omega) ?_
  rw [w64 (n := (l.length : Int) - 1) (by omega) (by omega), show (l.length : Int) - 1 = ((l.length - 1 : Nat) : Int) by omega, decide_eq_true (by omega), Bool.true_and]
  refine EvTo.pos (by omega) (EvTo.pos (by omega) ?_)
  refine EvTo.step (fun k => by rw [chrysalisref09_function.j0]) ?_
  by_cases c3 : rd l ((l.length - 1 : Nat) : Int) = 5
  · rw [c3]
    exact EvTo.neg (by simp) (rfun_l l hl (l.length - 1) 0 (by omega))
  · rw [beq_eq_false_iff_ne.2 c3]
    exact EvTo.pos (by simpa using c3) EvTo.now
theorem rstmts_l (l : List Int) (hl : l.length ≤ 4000) : ∀ (m i : Nat), l.length = m + i → EvTo (fun k => chrysalisref09_kids.l1 k l (l.length : Int) (i : Int)) ((l.drop i).all stmtP) := by
  intro m
  induction m with
  | zero =>
    intro i h
    refine EvTo.step (fun k => by rw [chrysalisref09_kids.l1]) ?_
    rw [List.drop_eq_nil_of_le (by omega)]
    exact EvTo.neg (by omega) EvTo.now
  | succ m ih =>
    intro i h
    have hi : i < l.length := by omega
    refine EvTo.step (fun k => by rw [chrysalisref09_kids.l1]) ?_
    refine EvTo.pos (by omega) (EvTo.pos (by omega) (EvTo.pos (by omega) ?_))
    simp only [rd_at l i hi, rStmt_E, Option.bind_some]
    rw [inc i (by omega), List.drop_eq_getElem_cons hi, List.all_cons]
    cases stmtP l[i] with
    | true => exact EvTo.pos rfl (ih (i + 1) (by omega))
    | false => exact EvTo.neg (by simp) EvTo.now
theorem rkids_j3 (a : Int) (l : List Int) (hl : l.length ≤ 4000) (b : Bool) (hb : b = decide (a = 6 ∨ a = 7 ∨ a = 13 ∨ a = 14 ∨ a = 15 ∨ a = 17 ∨ a = 28 ∨ a = 30)) (h1 : a ≠ 1) (h2 : ¬ (a = 3 ∨ a = 24)) (h3 : a ≠ 5) (h4 : a ≠ 9) (h5 : a ≠ 10) (h6 : a ≠ 8) :
    EvTo (fun k => chrysalisref09_kids.j3 k l (l.length : Int) a b) (kidsS a l) := by
  unfold kidsS
  rw [if_neg h1, if_neg h2, if_neg h3, if_neg h4, if_neg h5, if_neg h6]
  refine EvTo.step (fun k => by rw [chrysalisref09_kids.j3]) ?_
  by_cases c : a = 6 ∨ a = 7 ∨ a = 13 ∨ a = 14 ∨ a = 15 ∨ a = 17 ∨ a = 28 ∨ a = 30
  · rw [if_pos c]
    exact EvTo.pos (by rw [hb]; exact decide_eq_true c) (rexprs_E l hl 1 1)
  rw [if_neg c]
  refine EvTo.neg (by rw [hb]; simpa using c) ?_
  refine EvTo.both (fun _ => rexprs_E l hl 1 9) (fun _ => EvTo.both (fun _ => rexprs_E l hl 0 8) (fun _ => ?_))
  by_cases c3 : a = 26
  · rw [if_pos (Or.inl c3)]; exact EvTo.pos c3 (rexprs_E l hl 2 2)
  refine EvTo.neg c3 ?_
  by_cases c4 : a = 27
  · rw [if_pos (Or.inr c4)]; exact EvTo.pos c4 (rexprs_E l hl 2 2)
  rw [if_neg (show ¬ (a = 26 ∨ a = 27) by omega)]
  refine EvTo.neg c4 (EvTo.of_eq fun k => ?_)
  congr 1
  rw [Bool.eq_iff_iff, beq_iff_eq, decide_eq_true_eq]; omega
theorem rkids_j1 (a : Int) (l : List Int) (hl : l.length ≤ 4000) (b : Bool) (hb : b = decide (a = 3 ∨ a = 24)) (h1 : a ≠ 1) : EvTo (fun k => chrysalisref09_kids.j1 k l (l.length : Int) a b) (kidsS a l) := by
  refine EvTo.step (fun k => by rw [chrysalisref09_kids.j1]) ?_
  by_cases c : a = 3 ∨ a = 24
  · refine EvTo.pos (by rw [hb]; exact decide_eq_true c) ?_
    rw [show kidsS a l = funS l from by unfold kidsS; rw [if_neg h1, if_pos c]]
    exact rfunction_E l hl
  refine EvTo.neg (by rw [hb]; simpa using c) ?_
  by_cases c1 : a = 5
  · refine EvTo.pos c1 ?_
    rw [show kidsS a l = l.all stmtP from by unfold kidsS; rw [if_neg h1, if_neg c, if_pos c1]]
    exact rstmts_l l hl l.length 0 (by omega)
  refine EvTo.neg c1 ?_
  by_cases c8 : a = 8
  · refine EvTo.pos c8 ?_
    rw [show kidsS a l = exS l 3 3 from by unfold kidsS; rw [if_neg h1, if_neg c, if_neg c1, if_neg (by omega), if_neg (by omega), if_pos c8]]
    exact rexprs_E l hl 3 3
  refine EvTo.neg c8 ?_
  have five : ∀ (x y : Int) (t : List Int), (rd (x :: y :: t) 0 = x ∧ rd (x :: y :: t) 1 = y) := fun x y t => ⟨rfl, rfl⟩
  by_cases c9 : a = 9
  · refine EvTo.pos c9 ?_
    rw [show kidsS a l = ifS 3 l from by unfold kidsS; rw [if_neg h1, if_neg c, if_neg c1, if_pos c9]]
    refine EvTo.of_eq fun k => ?_
    rcases l with _ | ⟨x, _ | ⟨y, _ | ⟨z, _ | ⟨u, t⟩⟩⟩⟩
    · rfl
    · rfl
    · simp only [rExpr_E, Option.bind_some, ifS, (five x y []).1, (five x y []).2, List.length_cons, List.length_nil, List.drop_succ_cons, List.drop_zero, List.all_cons, List.all_nil]
      cases exprP x <;> simp
    · simp only [rExpr_E, Option.bind_some, ifS, (five x y [z]).1, (five x y [z]).2, show rd [x, y, z] 2 = z from rfl, List.length_cons, List.length_nil, List.drop_succ_cons, List.drop_zero, List.all_cons, List.all_nil]
      by_cases hz : z = 5
      · cases exprP x <;> simp [hz]
      · cases exprP x <;> simp [hz]
    · have : ((x :: y :: z :: u :: t).length : Int) = (t.length : Int) + 4 := by simp only [List.length_cons]; omega
      rw [this, if_neg (by omega), if_neg (by omega)]
      unfold ifS
      rw [decide_eq_false (by simp)]
      rfl
  refine EvTo.neg c9 ?_
  by_cases c10 : a = 10
  · refine EvTo.pos c10 ?_
    rw [show kidsS a l = ifS 2 l from by unfold kidsS; rw [if_neg h1, if_neg c, if_neg c1, if_neg c9, if_pos c10]]
    refine EvTo.of_eq fun k => ?_
    rcases l with _ | ⟨x, _ | ⟨y, _ | ⟨z, t⟩⟩⟩
    · rfl
    · rfl
    · simp only [rExpr_E, Option.bind_some, ifS, (five x y []).1, (five x y []).2, List.length_cons, List.length_nil, List.drop_succ_cons, List.drop_zero, List.all_cons, List.all_nil]
      cases exprP x <;> simp
    · have : ((x :: y :: z :: t).length : Int) = (t.length : Int) + 3 := by simp only [List.length_cons]; omega
      rw [this, if_neg (by omega)]
      unfold ifS
      rw [decide_eq_false (by simp)]
      rfl
  refine EvTo.neg c10 ?_
  have go : ∀ b : Bool, b = decide (a = 6 ∨ a = 7 ∨ a = 13 ∨ a = 14 ∨ a = 15 ∨ a = 17 ∨ a = 28 ∨ a = 30) → EvTo (fun k => chrysalisref09_kids.j3 k l (l.length : Int) a b) (kidsS a l) := fun b hb => rkids_j3 a l hl b hb h1 c c1 c9 c10 c8
  by_cases d1 : a = 6
  · exact EvTo.pos d1 (go _ (by simp [d1]))
  refine EvTo.neg d1 ?_
  by_cases d2 : a = 7
  · exact EvTo.pos d2 (go _ (by simp [d2]))
  refine EvTo.neg d2 ?_
  by_cases d3 : a = 13
  · exact EvTo.pos d3 (go _ (by simp [d3]))
  refine EvTo.neg d3 ?_
  by_cases d4 : a = 14
  · exact EvTo.pos d4 (go _ (by simp [d4]))
  refine EvTo.neg d4 ?_
  by_cases d5 : a = 15
  · exact EvTo.pos d5 (go _ (by simp [d5]))
  refine EvTo.neg d5 ?_
  by_cases d6 : a = 17
  · exact EvTo.pos d6 (go _ (by simp [d6]))
  refine EvTo.neg d6 ?_
  by_cases d7 : a = 28
  · exact EvTo.pos d7 (go _ (by simp [d7]))
  exact EvTo.neg d7 (go _ (by rw [Bool.eq_iff_iff, beq_iff_eq, decide_eq_true_eq]; omega))
theorem rkids_E (a : Int) (l : List Int) (hl : l.length ≤ 4000) : EvTo (fun k => chrysalisref09_kids.f k a l) (kidsS a l) := by
  unfold chrysalisref09_kids.f
  by_cases c : a = 1
  · refine EvTo.pos c ?_
    rw [show kidsS a l = modS l from by unfold kidsS; rw [if_pos c]]
    exact rmod_l l hl l.length 0 false (by omega) ⟨fun h => (by cases h), fun h => (by omega)⟩
  refine EvTo.neg c ?_
  by_cases d1 : a = 3
  · exact EvTo.pos d1 (rkids_j1 a l hl _ (by simp [d1]) c)
  exact EvTo.neg d1 (rkids_j1 a l hl _ (by rw [Bool.eq_iff_iff, beq_iff_eq, decide_eq_true_eq]; omega) c)

/-! Check. -/
theorem rCheck_l1 (l : List S36) (hl : l.length ≤ 2100) (hs : short l) (h3 : ∀ x ∈ l, x.f3 ≤ 9223372036854775807) (i : Nat) (hi : i < l.length) (ks : List Int) (hks : ks.length ≤ 2100) (hk : ∀ q ∈ ks, 0 ≤ q ∧ q < (l.length : Int)) (v : Int × Int)
    (hnext : EvTo (fun k => chrysalisref09_Check.l0 k l ((i + 1 : Nat) : Int)) v) : ∀ (m idx : Nat) (acc : List Int), ks.length = m + idx → acc.length = idx →
    EvTo (fun k => chrysalisref09_Check.l1 k l (i : Int) ks acc (idx : Int))
      (if fieldsS (rd_T36 l (i : Int)) && kidsS (rd_T36 l (i : Int)).f0 (acc ++ (ks.drop idx).map fun p => (rd_T36 l p).f0) then v else (4, (i : Int))) := by
  obtain ⟨h2, h4⟩ := short_rd hs i hi
  have h3i : (rd_T36 l (i : Int)).f3 ≤ 9223372036854775807 := by rw [rd36 l i hi]; exact h3 _ (List.getElem_mem hi)
  intro m
  induction m with
  | zero =>
    intro idx acc h1 ha
    refine EvTo.step (fun k => by rw [chrysalisref09_Check.l1]) ?_
    refine EvTo.neg (by omega) (EvTo.pos (by omega) (EvTo.pos (by omega) ?_))
    rw [List.drop_eq_nil_of_le (by omega), List.map_nil, List.append_nil]
    refine EvTo.bind (rfields_E _ h2 h4 h3i) ?_
    cases fieldsS (rd_T36 l (i : Int)) with
    | false => exact EvTo.neg (by simp) EvTo.now
    | true =>
      refine EvTo.pos rfl (EvTo.bind (rkids_E _ acc (by omega)) ?_)
      rw [Bool.true_and]
      cases kidsS (rd_T36 l (i : Int)).f0 acc with
      | false => exact EvTo.neg (by simp) EvTo.now
      | true =>
        refine EvTo.pos rfl ?_
        rw [inc i (by omega)]
        exact hnext
  | succ m ih =>
    intro idx acc h1 ha
    have hx : idx < ks.length := by omega
    have hq := hk _ (List.getElem_mem hx)
    refine EvTo.step (fun k => by rw [chrysalisref09_Check.l1]) ?_
    rw [rd_at ks idx hx, inc idx (by omega)]
    refine EvTo.pos (by omega) (EvTo.pos (by omega) (EvTo.pos hq.1 (EvTo.pos hq.2 (EvTo.pos (by omega) ?_))))
    have := ih (idx + 1) (acc ++ [(rd_T36 l ks[idx]).f0]) (by omega) (by simp [ha])
    rw [List.append_assoc] at this
    rw [List.drop_eq_getElem_cons hx, List.map_cons]
    exact this
theorem rKids_whole {l : List S36} (hl : l.length ≤ 2100) (h : Tree.endF l.length l 1 = some l.length) (i : Nat) (hi : i < l.length) :
    EvTo (fun k => chrysalisref09_Kids.f k l (i : Int)) (its l (rd_T36 l (i : Int)).f1.toNat ((i + 1 : Nat) : Int)) := by
  have := rKids_E l hl (i : Int)
  obtain ⟨m', _, e⟩ := endF_in _ _ _ _ i h (Nat.le_refl 1) hi
  have he : endI l (i : Int) = ((i + m' : Nat) : Int) := by
    unfold endI
    rw [if_neg (by omega), Int.toNat_natCast, e]; rfl
  unfold kidsI at this
  rw [if_neg (by rw [he]; omega)] at this
  exact this
theorem rCheck_l0 (l : List S36) (hl : l.length ≤ 2100) (hs : short l) (h3 : ∀ x ∈ l, x.f3 ≤ 9223372036854775807) (hw : endF l.length l 1 = some l.length) : ∀ (m i : Nat), l.length = m + i → EvTo (fun k => chrysalisref09_Check.l0 k l (i : Int)) (badS l m i) := by
  intro m
  induction m with
  | zero =>
    intro i h1
    refine EvTo.step (fun k => by rw [chrysalisref09_Check.l0]) ?_
    exact EvTo.neg (by omega) EvTo.now
  | succ m ih =>
    intro i h1
    have hi : i < l.length := by omega
    obtain ⟨_, hK1, hK2⟩ := Kids_whole hl hw i hi
    refine EvTo.step (fun k => by rw [chrysalisref09_Check.l0]) ?_
    refine EvTo.pos (by omega) (EvTo.bind (rKids_whole hl hw i hi) ?_)
    have := rCheck_l1 l hl hs h3 i hi _ hK1 (fun q hq => by have := hK2 q hq; omega) _ (ih (i + 1) (by omega)) _ 0 [] rfl rfl
    rw [List.drop_zero, List.nil_append] at this
    exact this
theorem rCheck_E (l : List S36) (hl : l.length ≤ 2100) (hs : short l) (h3 : ∀ x ∈ l, x.f3 ≤ 9223372036854775807) : EvTo (fun k => chrysalisref09_Check.f k l) (checkS l) := by
  unfold chrysalisref09_Check.f checkS
  by_cases c : 2000 < l.length
  · rw [if_pos c]; exact EvTo.pos (by omega) EvTo.now
  rw [if_neg c]
  refine EvTo.neg (by omega) (EvTo.bind (rEnd_E l hl 0) ?_)
  by_cases hw : endF l.length l 1 = some l.length
  · obtain ⟨he, hne⟩ := whole_end.2 hw
    have hlen : l.length ≠ 0 := fun h => hne (List.eq_nil_of_length_eq_zero h)
    rw [show wholeS l = true from decide_eq_true hw, if_neg (by simp)]
    refine EvTo.pos he ?_
    refine EvTo.step (fun k => by rw [chrysalisref09_Check.j0]) ?_
    refine EvTo.neg (by simp; omega) ?_
    have hwb : wholeB l l.length = true := wholeB_of l l.length (Nat.le_refl _) (fun q hq => by
      obtain ⟨m', _, e⟩ := endF_in _ _ _ _ q hw (Nat.le_refl 1) hq
      rw [e]; rfl)
    have hd := rDepth_E l hl
    rw [hwb, if_pos rfl] at hd
    refine EvTo.bind hd ?_
    by_cases c2 : 60 < depF l [] 0
    · rw [if_pos c2]; exact EvTo.pos (by omega) EvTo.now
    rw [if_neg c2]
    refine EvTo.neg (by omega) (EvTo.pos (by omega) ?_)
    by_cases c3 : (rd_T36 l 0).f0 = 1
    · rw [if_neg (fun q => q c3)]
      exact EvTo.pos c3 (rCheck_l0 l hl hs h3 hw l.length 0 (by omega))
    · rw [if_pos c3]
      exact EvTo.neg c3 EvTo.now
  · rw [show wholeS l = false from decide_eq_false hw, if_pos rfl]
    refine EvTo.neg (fun e => hw (whole_end.1 ⟨e, ?_⟩)) ?_
    · rintro rfl
      simp [endI, endF, endV] at e
    · refine EvTo.step (fun k => by rw [chrysalisref09_Check.j0]) ?_
      exact EvTo.pos rfl EvTo.now
end Go.Proofs.Ytclhaajlgmiilaa.Tree
end
section
set_option linter.unusedVariables false
set_option linter.unusedSimpArgs false
namespace Go.Proofs.Ytclhaajlgmiilaa
open Go.RowKit Go.ChangeShapes Go.WideShapes Go.Proofs.YtclhaajlgmiilaaW.PrintWords

/-- What reads as data of a type is of a kind. -/
def Opens {H : Type} (enc : TypeId × Value → H) (P : Program) (w : World) (t : TypeId) {α : Type} (d : Kd α) (B : α → Prop) : Prop :=
  ∀ (fuel : Nat) (cs : List Value) (x : DataW H × List MemPlace), DataW.trod enc P w 0 (fun _ => true) true fuel t cs = some x → ∃ a, d.K w a cs ∧ B a
/-- .. of a struct's fields, from one on. -/
def OpensF {H : Type} (enc : TypeId × Value → H) (P : Program) (w : World) (fs : List Field) (off : Nat) {α : Type} (d : Kd α) (B : α → Prop) : Prop :=
  ∀ (n : Nat) (cs : List Value) (xs : List (DataW H × List MemPlace)), xs.length = fs.length →
    (∀ (i : Nat) (f : Field), fs[i]? = some f → DataW.trod enc P w 0 (fun _ => true) true n f.type ((cs.drop f.offset).take (P.cellsOf f.type)) = xs[i]?) → cs.length = off + d.sz → ∃ a, d.K w a (cs.drop off) ∧ B a

section
variable {H : Type} {enc : TypeId × Value → H} {P : Program} {w : World} {t e : TypeId}

theorem Opens.int {k : IntKind} (ht : P.underlying t = some (.int k)) : Opens enc P w t (Kd.int k) (fun n => (Lit.int k n).wf = true) := by
  intro fuel cs x h
  obtain ⟨n, rfl, _, hw⟩ := DataW.trod_int ht h
  exact ⟨n, rfl, hw⟩
theorem Opens.string (ht : P.underlying t = some .string) : Opens enc P w t Kd.string (fun s => s.size ≤ maxLen) := by
  intro fuel cs x h
  obtain ⟨s, rfl, _, hs⟩ := DataW.trod_string ht h
  exact ⟨s, rfl, hs⟩
theorem Opens.bool (ht : P.underlying t = some .bool) : Opens enc P w t Kd.bool (fun _ => True) := by
  intro fuel cs x h
  obtain ⟨b, rfl, _⟩ := DataW.trod_bool ht h
  exact ⟨b, rfl, trivial⟩
theorem Opens.iso {α β : Type} {d : Kd α} {B : α → Prop} (h : Opens enc P w t d B) (f : β → α) (g : α → β) (hfg : ∀ a, f (g a) = a) : Opens enc P w t (Kd.iso d f) (fun b => B (f b)) := by
  intro fuel cs x hx
  obtain ⟨a, ha, hb⟩ := h fuel cs x hx
  exact ⟨g a, by show d.K w (f (g a)) cs; rw [hfg]; exact ha, by show B (f (g a)); rw [hfg]; exact hb⟩

theorem Opens.slice {α : Type} {d : Kd α} {B : α → Prop} (ht : P.underlying t = some (.slice e)) (hc : P.cellsOf e = d.sz) (he : Opens enc P w e d B) :
    Opens enc P w t (Kd.slice e d) (fun l => l.length ≤ maxLen ∧ ∀ a ∈ l, B a) := by
  intro fuel cs x h
  rcases Go.Deep.open_slice ht h with ⟨rfl, _⟩ | ⟨a, len, cap, m, n, D, Pl, rfl, _, hl, hm, hmm, _, hx⟩
  · exact ⟨[], ⟨none, 0, rfl, Nat.le_refl _, rfl, by simp, fun h => absurd h (by simp)⟩, by simp, by simp⟩
  · have hlm : len ≤ m := by simp at hmm; omega
    have each : ∀ i, i < len → ∃ q : α × List Value, q.2.length = d.sz ∧ d.K w q.1 q.2 ∧ (∀ j u, q.2[j]? = some u → w.cell? (a.add (i * d.sz + j)) = some u) ∧ B q.1 := by
      intro i hi
      obtain ⟨cs', h1, h2⟩ := hx i (by omega)
      obtain ⟨b, hb, hB⟩ := he n cs' _ h2
      obtain ⟨_, h4, h5⟩ := World.cells?_some h1
      refine ⟨(b, cs'), by rw [← hc]; exact h4, hb, fun j u hu => ?_, hB⟩
      have hj : j < cs'.length := (List.getElem?_eq_some_iff.1 hu).1
      have := h5 j (by omega)
      rw [Go.Deep.add_add, hc] at this
      rw [this, hu]
    by_cases hz : len = 0
    · subst hz
      exact ⟨[], ⟨some a, cap, rfl, Nat.zero_le _, rfl, by simp, fun h => absurd h (by simp)⟩, by simp, by simp⟩
    obtain ⟨q0, _⟩ := each 0 (by omega)
    have : Inhabited (α × List Value) := ⟨q0⟩
    obtain ⟨q, hq⟩ := Go.Deep.choose_lt each
    refine ⟨(List.range len).map fun i => (q i).1, ⟨some a, cap, by simp, by simpa using hl, by simp, ?_, ?_⟩, ?_, ?_⟩
    · simp; unfold maxLen at hm; omega
    · intro _
      refine ⟨a, rfl, fun j p hp => ?_⟩
      simp only [List.getElem?_map, List.getElem?_range, Option.map_eq_some_iff] at hp
      obtain ⟨i, hi, rfl⟩ := hp
      have hj : j < len := by
        by_cases c : j < len
        · exact c
        · simp [c] at hi
      have hi' : i = j := by simpa [hj] using hi.symm
      subst hi'
      exact ⟨(q i).2, (hq i hj).1, (hq i hj).2.1, (hq i hj).2.2.1⟩
    · simp; omega
    · intro b hb
      simp only [List.mem_map, List.mem_range] at hb
      obtain ⟨i, hi, rfl⟩ := hb
      exact (hq i hi).2.2.2

theorem OpensF.last {α : Type} {d : Kd α} {B : α → Prop} {f : Field} {off : Nat} (ho : f.offset = off) (hc : P.cellsOf f.type = d.sz) (h : Opens enc P w f.type d B) : OpensF enc P w [f] off d B := by
  intro n cs xs hl hx hcs
  match xs, hl with
  | [x], _ =>
    have h0 := hx 0 f rfl
    rw [ho, hc, List.take_of_length_le (by simp; omega)] at h0
    exact h n _ _ h0
theorem OpensF.cons {α β : Type} {d : Kd α} {d' : Kd β} {B : α → Prop} {B' : β → Prop} {f : Field} {fs : List Field} {off : Nat} (ho : f.offset = off) (hc : P.cellsOf f.type = d.sz) (h : Opens enc P w f.type d B)
    (hr : OpensF enc P w fs (off + d.sz) d' B') : OpensF enc P w (f :: fs) off (Kd.pair d d') (fun x => B x.1 ∧ B' x.2) := by
  intro n cs xs hl hx hcs
  match xs, hl with
  | x :: xs, hl =>
    have h0 := hx 0 f rfl
    rw [ho, hc] at h0
    obtain ⟨a, ha, hB⟩ := h n _ _ h0
    have hcs' : cs.length = off + (d.sz + d'.sz) := hcs
    obtain ⟨b, hb, hB'⟩ := hr n cs xs (by simpa using hl) (fun i g hg => by simpa using hx (i + 1) g (by simpa using hg)) (by omega)
    refine ⟨(a, b), ⟨(cs.drop off).take d.sz, cs.drop (off + d.sz), ?_, ha, hb⟩, hB, hB'⟩
    rw [← List.drop_drop, List.take_append_drop]
theorem Opens.struct {α : Type} {d : Kd α} {B : α → Prop} {fs : Array Field} (ht : P.underlying t = some (.struct fs)) (hc : P.cellsOf t = d.sz) (h : OpensF enc P w fs.toList 0 d B) : Opens enc P w t d B := by
  intro fuel cs x hx
  obtain ⟨xs, n, _, _, h1, h2, h3⟩ := DataW.trod_struct ht hx
  have := h n cs xs (by simpa using h2) (fun i f hf => h3 i f (by simpa using hf)) (by omega)
  simpa using this
end
end Go.Proofs.Ytclhaajlgmiilaa
end
section
set_option linter.unusedVariables false
set_option linter.unusedSimpArgs false
namespace Go.Proofs.Ytclhaajlgmiilaa
open Go.RowKit Go.ChangeShapes Go.WideShapes Go.Proofs.YtclhaajlgmiilaaW.PrintWords Go.Proofs.Ytclhaajlgmiilaa.Q

def NodeB (l : List S36) : Prop := l.length ≤ maxLen ∧ ∀ x ∈ l, (Lit.int .i64 x.f0).wf = true ∧ (Lit.int .i64 x.f1).wf = true ∧ x.f2.size ≤ maxLen ∧ (Lit.int .i64 x.f3).wf = true ∧ x.f4.size ≤ maxLen
theorem opens_node {H : Type} (enc : TypeId × Value → H) (w : World) : Opens enc Try.prog w 36 k36 (fun x => (Lit.int .i64 x.f0).wf = true ∧ (Lit.int .i64 x.f1).wf = true ∧ x.f2.size ≤ maxLen ∧ (Lit.int .i64 x.f3).wf = true ∧ x.f4.size ≤ maxLen) :=
  Opens.iso (Opens.struct Try.underlying36 (by kernel_rfl) (OpensF.cons rfl (by kernel_rfl) (Opens.int Try.underlying3) (OpensF.cons rfl (by kernel_rfl) (Opens.int Try.underlying3) (OpensF.cons rfl (by kernel_rfl) (Opens.string Try.underlying9) (OpensF.cons rfl (by kernel_rfl) (Opens.int Try.underlying2) (OpensF.last rfl (by kernel_rfl) (Opens.string Try.underlying9)))))))
    (fun x : S36 => (x.f0, x.f1, x.f2, x.f3, x.f4)) (fun t => ⟨t.1, t.2.1, t.2.2.1, t.2.2.2.1, t.2.2.2.2⟩) (fun _ => rfl)
theorem opens_nodes {H : Type} (enc : TypeId × Value → H) (w : World) : Opens enc Try.prog w 22 (Kd.slice 36 k36) NodeB := Opens.slice (H := H) (enc := enc) (w := w) Try.underlying22 (by kernel_rfl) (opens_node enc w)
end Go.Proofs.Ytclhaajlgmiilaa
end
section
set_option linter.unusedVariables false
set_option linter.unusedSimpArgs false
namespace Go.Proofs.Ytclhaajlgmiilaa.Tree
open Go Go.RowKit Go.Proofs.YtclhaajlgmiilaaW.PrintWords Go.Proofs.Ytclhaajlgmiilaa.Q Go.Proofs.Ytclhaajlgmiilaa.Lex

theorem TreeChecks (l : List S36) (h3 : ∀ x ∈ l, x.f3 ≤ 9223372036854775807) : ∃ k, chrysalislaw09_TreeChecks.f k l = some true := by
  apply EvTo.one
  unfold chrysalislaw09_TreeChecks.f
  obtain ⟨x, hx, px⟩ := Light_E l
  refine EvTo.bind hx ?_
  cases x with
  | false => exact EvTo.neg (by simp) known_B
  | true =>
    obtain ⟨hl, hs⟩ := px rfl
    exact EvTo.pos rfl (EvTo.bind (Check_E l hl hs) (EvTo.bind (rCheck_E l hl hs h3) (EvTo.pos rfl (EvTo.pos rfl known_B))))
end Go.Proofs.Ytclhaajlgmiilaa.Tree
namespace Go.Proofs.Ytclhaajlgmiilaa
open Go Go.RowKit Go.Proofs.YtclhaajlgmiilaaW.PrintWords Go.Proofs.Ytclhaajlgmiilaa.Q
theorem checks_row (A1 : Option Addr) (n1 c1 : Nat) (l1 : List S36) (w : World) (h1 : Kd.C k36 w A1 n1 l1) (b1 : (l1.length = n1 ∧ n1 ≤ c1) ∧ NodeB l1) :
    Calls Try.prog 3 #[.slice A1 n1 c1] w fun e w' => e = .returned (.bool true) ∧ Below w.heap.size w w' := by
  obtain ⟨⟨rfl, hc1⟩, hb⟩ := b1
  obtain ⟨k, hk⟩ := Tree.TreeChecks l1 (fun x hx => by
    have := (hb.2 x hx).2.2.2.1
    simp only [Lit.wf, Bool.and_eq_true, decide_eq_true_eq] at this
    exact this.2)
  exact chrysalislaw09_TreeChecks.calls k A1 c1 l1 true w h1 hc1 hk rfl
end Go.Proofs.Ytclhaajlgmiilaa
end
