/- Walks over functions of the program, words for them, and what the functions come to; of each text only what this claim uses; no condition. -/
import Derived.Test.YtkbhkonenkgfoaaGreatZPT0
import Derived.Test.YtkbhkonenkgfoaaGreatZPT11
import Derived.Test.YtkbhkonenkgfoaaGreatZPT14
import Derived.Test.YtkbhkonenkgfoaaGreatZPT16
import Derived.Test.YtkbhkonenkgfoaaGreatZPT17
import Derived.ProofKit
import Derived.Deep.Slices
section
set_option linter.unusedVariables false
set_option linter.unusedSimpArgs false
namespace Go.Proofs.YtkbhkonenkgfoaaGreat.Tree
open Go Go.RowKit Go.Proofs.YtkbhkonenkgfoaaGreatW.PrintWords Go.Proofs.YtkbhkonenkgfoaaGreat.Q Go.Proofs.YtkbhkonenkgfoaaGreat.Lex
theorem IW (a b : Int) (n : ByteArray) (v : Int) (t : ByteArray) : cu.f a b n v t = some ((L n).isEmpty && ((L t).isEmpty && v == 0)) := by
 unfold cu.f
 rw [iV, iV]
 cases L n with
 | nil =>
  rw [if_pos rfl]
  cases L t with
  | nil => rw [if_pos rfl]; rfl
  | cons c u => rw [if_neg (by simp)]; rfl
 | cons c u => rw [if_neg (by simp)]; rfl
theorem Ju : (L (⟨#[]⟩ : ByteArray)).isEmpty = true := rfl
theorem fv5 (lo hi : Int) (x : S29) : ji 5 true lo hi x = ((L x.f4).isEmpty && (fQ (L x.f2) && decide (lo ≤ x.f3 ∧ x.f3 ≤ hi))) := by
 unfold ji textS oH
 rw [show Go.bits .and .i64 5 2 = 0 from by decide, show Go.bits .and .i64 5 8 = 0 from by decide, show Go.bits .and .i64 5 16 = 0 from by decide, show Go.bits .and .i64 5 32 = 0 from by decide, show Go.bits .and .i64 5 1 = 1 from by decide, show Go.bits .and .i64 5 4 = 4 from by decide]
 cases fQ (L x.f2) <;> rfl
theorem fv7 (lo hi : Int) (x : S29) : ji 7 true lo hi x = (fQ (L x.f4) && (fQ (L x.f2) && decide (lo ≤ x.f3 ∧ x.f3 ≤ hi))) := by
 unfold ji textS oH
 rw [show Go.bits .and .i64 7 2 = 2 from by decide, show Go.bits .and .i64 7 1 = 1 from by decide, show Go.bits .and .i64 7 4 = 4 from by decide]
 cases fQ (L x.f2) <;> rfl
theorem fv1 (lo hi : Int) (x : S29) : ji 1 true lo hi x = ((L x.f4).isEmpty && (fQ (L x.f2) && x.f3 == 0)) := by
 unfold ji textS oH
 rw [show Go.bits .and .i64 1 2 = 0 from by decide, show Go.bits .and .i64 1 8 = 0 from by decide, show Go.bits .and .i64 1 16 = 0 from by decide, show Go.bits .and .i64 1 32 = 0 from by decide, show Go.bits .and .i64 1 1 = 1 from by decide, show Go.bits .and .i64 1 4 = 0 from by decide]
 cases fQ (L x.f2) <;> rfl
theorem vw (s : List UInt8) (b : Bool) : ((false == fQ s) && ((false || s.isEmpty) && b)) = (s.isEmpty && b) := by
 cases s with
 | nil => rfl
 | cons c t => simp
theorem fv4 (lo hi : Int) (x : S29) : ji 4 true lo hi x = ((L x.f4).isEmpty && ((L x.f2).isEmpty && decide (lo ≤ x.f3 ∧ x.f3 ≤ hi))) := by
 unfold ji textS oH
 rw [show Go.bits .and .i64 4 2 = 0 from by decide, show Go.bits .and .i64 4 8 = 0 from by decide, show Go.bits .and .i64 4 16 = 0 from by decide, show Go.bits .and .i64 4 32 = 0 from by decide, show Go.bits .and .i64 4 1 = 0 from by decide, show Go.bits .and .i64 4 4 = 4 from by decide]
 rw [show ((0 : Int) != 0) = false from rfl, vw]; rfl
theorem JP (lo hi : Int) (x : S29) : ji 32 true lo hi x = (decide (x.f4.size ≤ 1024) && ((L x.f2).isEmpty && x.f3 == 0)) := by
 unfold ji textS oH
 rw [show Go.bits .and .i64 32 2 = 0 from by decide, show Go.bits .and .i64 32 8 = 0 from by decide, show Go.bits .and .i64 32 16 = 0 from by decide, show Go.bits .and .i64 32 32 = 32 from by decide, show Go.bits .and .i64 32 1 = 0 from by decide, show Go.bits .and .i64 32 4 = 0 from by decide]
 rw [show ((0 : Int) != 0) = false from rfl, vw]; rfl
theorem fv3 (lo hi : Int) (x : S29) : ji 3 true lo hi x = (fQ (L x.f4) && (fQ (L x.f2) && x.f3 == 0)) := by
 unfold ji textS oH
 rw [show Go.bits .and .i64 3 2 = 2 from by decide, show Go.bits .and .i64 3 1 = 1 from by decide, show Go.bits .and .i64 3 4 = 0 from by decide]
 cases fQ (L x.f2) <;> rfl
theorem fv8 (lo hi : Int) (x : S29) : ji 8 true lo hi x = (OPS.contains (L x.f4) && ((L x.f2).isEmpty && x.f3 == 0)) := by
 unfold ji textS oH
 rw [show Go.bits .and .i64 8 2 = 0 from by decide, show Go.bits .and .i64 8 8 = 8 from by decide, show Go.bits .and .i64 8 1 = 0 from by decide, show Go.bits .and .i64 8 4 = 0 from by decide]
 rw [show ((0 : Int) != 0) = false from rfl, vw]; rfl
theorem JQ (lo hi : Int) (x : S29) : ji 16 true lo hi x = (UNS.contains (L x.f4) && ((L x.f2).isEmpty && x.f3 == 0)) := by
 unfold ji textS oH
 rw [show Go.bits .and .i64 16 2 = 0 from by decide, show Go.bits .and .i64 16 8 = 0 from by decide, show Go.bits .and .i64 16 16 = 16 from by decide, show Go.bits .and .i64 16 1 = 0 from by decide, show Go.bits .and .i64 16 4 = 0 from by decide]
 rw [show ((0 : Int) != 0) = false from rfl, vw]; rfl
theorem fv0 (ok : Bool) (lo hi : Int) (x : S29) : ji 0 ok lo hi x = (ok && ((L x.f4).isEmpty && ((L x.f2).isEmpty && x.f3 == 0))) := by
 unfold ji textS oH
 rw [show Go.bits .and .i64 0 2 = 0 from by decide, show Go.bits .and .i64 0 8 = 0 from by decide, show Go.bits .and .i64 0 16 = 0 from by decide, show Go.bits .and .i64 0 32 = 0 from by decide, show Go.bits .and .i64 0 1 = 0 from by decide, show Go.bits .and .i64 0 4 = 0 from by decide]
 rw [show ((0 : Int) != 0) = false from rfl, vw]; rfl
theorem ou {F : Nat → Option Bool} {v : Bool} {c : Prop} [Decidable c] (h : c → ah F v) : ah (fun k => if c then F k else some false) (decide c && v) := by
 by_cases hc : c
 ·rw [decide_eq_true hc, Bool.true_and]; exact ah.pos hc (h hc)
 rw [decide_eq_false hc, Bool.false_and]; exact ah.neg hc ah.now
theorem nM {F : Nat → Option Bool} {v b : Bool} (h : ah F v) : ah (fun k => if b = true then F k else some false) (b && v) := by
 cases b
 ·exact ah.neg (by simp) ah.now
 exact ah.pos rfl h
theorem pK (a b : Int) (n : ByteArray) (v : Int) (t : ByteArray) : ah (fun _ => (cu.f a b n v t).bind fun t => some t) ((L n).isEmpty && ((L t).isEmpty && v == 0)) :=
 ah.lh fun _ => by rw [IW]; rfl
theorem JG (s : ByteArray) (l : List ByteArray) (hl : l.length ≤ 1000) : ∀ (m i : Nat), l.length = m + i → ah (fun k => dm.l0 k s l (i : Int)) (((l.drop i).map L).contains (L s)) := by
 intro m
 induction m with
 | zero =>
  intro i h1
  rw [List.drop_eq_nil_of_le (by omega)]
  refine ah.step (fun k => by rw [dm.l0]) ?_
  exact ah.neg (by omega) ah.now
 | succ m ih =>
  intro i h1
  have hi : i < l.length := by omega
  refine ah.step (fun k => by rw [dm.l0]) ?_
  refine ah.pos (by omega) (ah.pos (by omega) ?_)
  simp only [AZ l i hi]
  rw [List.drop_eq_getElem_cons hi, List.map_cons, List.contains_cons]
  by_cases c : L l[i] = L s
  ·refine ah.pos Z44 ?_
   rw [show (L s == L l[i]) = true from beq_iff_eq.2 c.symm]
   exact ah.now
  refine ah.neg Z44 ?_
  rw [show (L s == L l[i]) = false from beq_eq_false_iff_ne.2 (fun e => c e.symm), Bool.false_or, Tree.inc i (by omega)]
  exact ih (i + 1) (by omega)
theorem JH (s : ByteArray) : ah (fun k => dm.f k s) (OPS.contains (L s)) := by
 unfold dm.f
 exact JG s _ (by simp) 12 0 (by simp)
theorem Cc (x : S29) (h2 : x.f3 ≤ 9223372036854775807) (b : Bool) (hb : b = decide (x.f0 = 3 ∨ x.f0 = 4 ∨ x.f0 = 6 ∨ x.f0 = 7 ∨ x.f0 = 21)) (c1 : x.f0 ≠ 1) (c2 : x.f0 ≠ 2) :
 ah (fun k => bi.j0 k (fQ (L x.f2)) (fQ (L x.f4)) x.f0 b x.f0 x.f1 x.f2 x.f3 x.f4 x.f0 x.f1 x.f2 x.f3 x.f4) (kY x) := by
 refine ah.step (fun k => by rw [bi.j0]) ?_
 have hr : rangeS x.f0 = (0, 9223372036854775807) := by unfold rangeS; rw [if_neg c1, if_neg c2]
 unfold kY
 rw [hr]
 by_cases c : x.f0 = 3 ∨ x.f0 = 4 ∨ x.f0 = 6 ∨ x.f0 = 7 ∨ x.f0 = 21
 ·have hs : mV x.f0 = (1, true) := by unfold mV; rw [if_neg c1, if_neg c2, if_pos c]
  rw [hs, fv1, show ((L x.f4).isEmpty && (fQ (L x.f2) && x.f3 == 0)) = (fQ (L x.f2) && (true && ((L x.f4).isEmpty && x.f3 == 0))) from by cases fQ (L x.f2) <;> cases (L x.f4).isEmpty <;> rfl]
  exact ah.pos Z34 (nM (pK _ _ _ _ _))
 refine ah.neg (by rw [hb]; simpa using c) ?_
 by_cases c3 : x.f0 = 19
 ·have hs : mV x.f0 = (4, true) := by unfold mV; rw [if_neg c1, if_neg c2, if_neg c, if_pos c3]
  rw [hs, fv4, show ((L x.f4).isEmpty && ((L x.f2).isEmpty && decide (0 ≤ x.f3 ∧ x.f3 ≤ 9223372036854775807))) = (decide (x.f3 ≥ 0) && ((L x.f2).isEmpty && ((L x.f4).isEmpty && true))) from by
   rw [show decide (0 ≤ x.f3 ∧ x.f3 ≤ 9223372036854775807) = decide (x.f3 ≥ 0) from by rw [decide_eq_decide]; omega]
   cases decide (x.f3 ≥ 0) <;> cases (L x.f4).isEmpty <;> cases (L x.f2).isEmpty <;> rfl]
  exact ah.pos c3 (ou fun _ => pK _ _ _ _ _)
 refine ah.neg c3 ?_
 by_cases c4 : x.f0 = 20
 ·have hs : mV x.f0 = (32, true) := by unfold mV; rw [if_neg c1, if_neg c2, if_neg c, if_neg c3, if_pos c4]
  rw [hs, JP, show (decide (x.f4.size ≤ 1024) && ((L x.f2).isEmpty && x.f3 == 0)) = (decide ((x.f4.size : Int) ≤ 1024) && ((L x.f2).isEmpty && (true && x.f3 == 0))) from by
   rw [show decide (x.f4.size ≤ 1024) = decide ((x.f4.size : Int) ≤ 1024) from by rw [decide_eq_decide]; omega]; rfl]
  exact ah.pos c4 (ou fun _ => pK _ _ _ _ _)
 refine ah.neg c4 ?_
 by_cases c5 : x.f0 = 23
 ·have hs : mV x.f0 = (3, true) := by unfold mV; rw [if_neg c1, if_neg c2, if_neg c, if_neg c3, if_neg c4, if_pos c5]
  rw [hs, fv3, show (fQ (L x.f4) && (fQ (L x.f2) && x.f3 == 0)) = (fQ (L x.f2) && (fQ (L x.f4) && (true && (true && x.f3 == 0)))) from by cases fQ (L x.f2) <;> cases fQ (L x.f4) <;> rfl]
  exact ah.pos c5 (nM (nM (pK _ _ _ _ _)))
 refine ah.neg c5 ?_
 by_cases c6 : x.f0 = 27
 ·have hs : mV x.f0 = (8, true) := by unfold mV; rw [if_neg c1, if_neg c2, if_neg c, if_neg c3, if_neg c4, if_neg c5, if_pos c6]
  rw [hs, fv8, show (OPS.contains (L x.f4) && ((L x.f2).isEmpty && x.f3 == 0)) = (OPS.contains (L x.f4) && ((L x.f2).isEmpty && (true && x.f3 == 0))) from rfl]
  exact ah.pos c6 (ah.bind (JH x.f4) (nM (pK _ _ _ _ _)))
 refine ah.neg c6 ?_
 by_cases c7 : x.f0 = 28
 ·have hs : mV x.f0 = (16, true) := by unfold mV; rw [if_neg c1, if_neg c2, if_neg c, if_neg c3, if_neg c4, if_neg c5, if_neg c6, if_pos c7]
  rw [hs, JQ]
  refine ah.pos c7 ?_
  rw [iV]
  have hu : UNS.contains (L x.f4) = (L x.f4 == [45] || (L x.f4 == [110, 111, 116] || L x.f4 == [108, 101, 110])) := by simp only [UNS, List.contains_cons, List.contains_nil, Bool.or_false]
  have hbr := pK x.f0 x.f1 x.f2 x.f3 (⟨#[]⟩ : ByteArray)
  rw [Ju, Bool.true_and] at hbr
  by_cases d1 : L x.f4 = [45]
  ·rw [hu, show (L x.f4 == [45]) = true from beq_iff_eq.2 d1, Bool.true_or, Bool.true_and]
   exact ah.pos d1 hbr
  refine ah.neg d1 ?_
  by_cases d2 : L x.f4 = [110, 111, 116]
  ·rw [hu, show (L x.f4 == [110, 111, 116]) = true from beq_iff_eq.2 d2, Bool.true_or, Bool.or_true, Bool.true_and]
   exact ah.pos d2 hbr
  refine ah.neg d2 ?_
  by_cases d3 : L x.f4 = [108, 101, 110]
  ·rw [hu, show (L x.f4 == [108, 101, 110]) = true from beq_iff_eq.2 d3, Bool.or_true, Bool.or_true, Bool.true_and]
   exact ah.pos d3 hbr
  rw [hu, beq_eq_false_iff_ne.2 d1, beq_eq_false_iff_ne.2 d2, beq_eq_false_iff_ne.2 d3]
  exact ah.neg d3 ah.now
 refine ah.neg c7 ?_
 have hs : mV x.f0 = (0, decide (1 ≤ x.f0 ∧ x.f0 ≤ 30)) := by unfold mV; rw [if_neg c1, if_neg c2, if_neg c, if_neg c3, if_neg c4, if_neg c5, if_neg c6, if_neg c7]
 rw [hs, fv0, show (decide (1 ≤ x.f0 ∧ x.f0 ≤ 30) && ((L x.f4).isEmpty && ((L x.f2).isEmpty && x.f3 == 0))) = (decide (x.f0 ≥ 1) && (decide (x.f0 ≤ 30) && ((L x.f2).isEmpty && ((L x.f4).isEmpty && x.f3 == 0)))) from by
  rw [show decide (1 ≤ x.f0 ∧ x.f0 ≤ 30) = (decide (x.f0 ≥ 1) && decide (x.f0 ≤ 30)) from Bool.decide_and _ _]
  cases decide (x.f0 ≥ 1) <;> cases decide (x.f0 ≤ 30) <;> cases (L x.f4).isEmpty <;> cases (L x.f2).isEmpty <;> rfl]
 exact ou fun _ => ou fun _ => pK _ _ _ _ _
theorem Ce (x : S29) (h2 : x.f2.size ≤ 3000) (h4 : x.f4.size ≤ 3000) (h3 : x.f3 ≤ 9223372036854775807) : ah (fun k => bi.f k x.f0 x.f1 x.f2 x.f3 x.f4) (kY x) := by
 unfold bi.f
 refine ah.bind (Bc x.f2 (by omega)) (ah.bind (Bc x.f4 (by omega)) ?_)
 by_cases c1 : x.f0 = 1
 ·have hs : mV x.f0 = (5, true) := by unfold mV; rw [if_pos c1]
  have hr : rangeS x.f0 = (1, 2147483647) := by unfold rangeS; rw [if_pos c1]
  unfold kY
  rw [hs, hr, fv5, show ((L x.f4).isEmpty && (fQ (L x.f2) && decide (1 ≤ x.f3 ∧ x.f3 ≤ 2147483647))) = (fQ (L x.f2) && (decide (x.f3 ≥ 1) && (decide (x.f3 ≤ 2147483647) && (true && ((L x.f4).isEmpty && true))))) from by
   rw [show decide (1 ≤ x.f3 ∧ x.f3 ≤ 2147483647) = (decide (x.f3 ≥ 1) && decide (x.f3 ≤ 2147483647)) from Bool.decide_and _ _]
   cases fQ (L x.f2) <;> cases decide (x.f3 ≥ 1) <;> cases decide (x.f3 ≤ 2147483647) <;> cases (L x.f4).isEmpty <;> rfl]
  exact ah.pos c1 (nM (ou fun _ => ou fun _ => pK _ _ _ _ _))
 refine ah.neg c1 ?_
 by_cases c2 : x.f0 = 2
 ·have hs : mV x.f0 = (7, true) := by unfold mV; rw [if_neg c1, if_pos c2]
  have hr : rangeS x.f0 = (0, 8) := by unfold rangeS; rw [if_neg c1, if_pos c2]
  unfold kY
  rw [hs, hr, fv7, show (fQ (L x.f4) && (fQ (L x.f2) && decide (0 ≤ x.f3 ∧ x.f3 ≤ 8))) = (fQ (L x.f2) && (fQ (L x.f4) && (decide (x.f3 ≥ 0) && (decide (x.f3 ≤ 8) && (true && (true && true)))))) from by
   rw [show decide (0 ≤ x.f3 ∧ x.f3 ≤ 8) = (decide (x.f3 ≥ 0) && decide (x.f3 ≤ 8)) from Bool.decide_and _ _]
   cases fQ (L x.f2) <;> cases fQ (L x.f4) <;> cases decide (x.f3 ≥ 0) <;> cases decide (x.f3 ≤ 8) <;> rfl]
  exact ah.pos c2 (nM (nM (ou fun _ => ou fun _ => pK _ _ _ _ _)))
 refine ah.neg c2 ?_
 have go : ∀ b : Bool, b = decide (x.f0 = 3 ∨ x.f0 = 4 ∨ x.f0 = 6 ∨ x.f0 = 7 ∨ x.f0 = 21) → ah (fun k => bi.j0 k (fQ (L x.f2)) (fQ (L x.f4)) x.f0 b x.f0 x.f1 x.f2 x.f3 x.f4 x.f0 x.f1 x.f2 x.f3 x.f4) (kY x) := fun b hb => Cc x h3 b hb c1 c2
 by_cases d1 : x.f0 = 3
 ·exact ah.pos d1 (go _ (by simp [d1]))
 refine ah.neg d1 ?_
 by_cases d2 : x.f0 = 4
 ·exact ah.pos d2 (go _ (by simp [d2]))
 refine ah.neg d2 ?_
 by_cases d3 : x.f0 = 6
 ·exact ah.pos d3 (go _ (by simp [d3]))
 refine ah.neg d3 ?_
 by_cases d4 : x.f0 = 7
 ·exact ah.pos d4 (go _ (by simp [d4]))
 exact ah.neg d4 (go _ Z31)
/-! Kids. -/
theorem wO (l : List Int) (i : Nat) (h : i < l.length) : rd l (i : Int) = l[i] := by simp [rd, List.getD_eq_getElem?_getD, List.getElem?_eq_getElem h]
theorem FY (a : Int) : gQ.f a = some (kZ a) := by
 unfold gQ.f kZ
 by_cases c : a ≥ 6
 ·rw [if_pos c]; congr 1; rw [decide_eq_decide]; omega
 rw [if_neg c]; congr 1; symm; exact decide_eq_false (by omega)
theorem uz (a : Int) : dX.f a = some (kE a) := by
 unfold dX.f kE
 by_cases c : a ≥ 18
 ·rw [if_pos c]; congr 1; rw [decide_eq_decide]; omega
 rw [if_neg c]; congr 1; symm; exact decide_eq_false (by omega)
theorem DD (l : List Int) (hl : l.length ≤ 200000) (lo hi : Nat) : ∀ (m i : Nat), l.length = m + i → ah (fun k => aZ.l0 k l (lo : Int) (hi : Int) (i : Int)) (decide (lo ≤ l.length ∧ l.length ≤ hi) && (l.drop i).all kE) := by
 intro m
 induction m with
 | zero =>
  intro i h
  refine ah.step (fun k => by rw [aZ.l0]) ?_
  rw [List.drop_eq_nil_of_le (by omega), List.all_nil, Bool.and_true]
  refine ah.neg (by omega) ?_
  by_cases c : (l.length : Int) ≥ (lo : Int)
  ·refine ah.pos c (ah.lh fun k => ?_)
   congr 1; rw [decide_eq_decide]; omega
  refine ah.neg c ?_
  rw [decide_eq_false (by omega)]
  exact ah.now
 | succ m ih =>
  intro i h
  have hi : i < l.length := by omega
  refine ah.step (fun k => by rw [aZ.l0]) ?_
  refine ah.pos (by omega) (ah.pos (by omega) ?_)
  simp only [wO l i hi, uz, Option.bind_some]
  rw [inc i (by omega), List.drop_eq_getElem_cons hi, List.all_cons]
  cases kE l[i] with
  | true =>
   rw [Bool.true_and]
   exact ah.pos rfl (ih (i + 1) (by omega))
  | false =>
   rw [Bool.false_and, Bool.and_false]
   exact ah.neg (by simp) ah.now
theorem oL (l : List Int) (hl : l.length ≤ 200000) (lo hi : Nat) : ah (fun k => (aZ.f k l (lo : Int) (hi : Int)).bind fun t => some t) (exS l lo hi) := by
 refine qN ?_
 have := DD l hl lo hi l.length 0 (by omega)
 exact this
theorem Il (l : List Int) (hl : l.length ≤ 200000) : ∀ (m i : Nat) (p : Bool), l.length = m + i → (p = true ↔ 0 < i ∧ rd l ((i - 1 : Nat) : Int) = 3) →
 ah (fun k => au.l0 k l (l.length : Int) (i : Int)) (if p then (l.drop i).all (· == 3) else qc (l.drop i)) := by
 intro m
 induction m with
 | zero =>
  intro i p h hp
  refine ah.step (fun k => by rw [au.l0]) ?_
  rw [List.drop_eq_nil_of_le (by omega)]
  have : (if p = true then ([] : List Int).all (· == 3) else qc []) = true := by cases p <;> rfl
  rw [this]
  exact ah.neg (by omega) ah.now
 | succ m ih =>
  intro i p h hp
  have hi : i < l.length := by omega
  refine ah.step (fun k => by rw [au.l0]) ?_
  refine ah.pos (by omega) (ah.pos (by omega) (ah.pos (by omega) ?_))
  rw [wO l i hi, inc i (by omega), List.drop_eq_getElem_cons hi]
  have hm2 : ∀ t : List Int, qc (2 :: t) = qc t := fun t => by unfold qc; rw [List.dropWhile_cons, if_pos (by decide)]
  have hm3 : ∀ (c : Int) (t : List Int), c ≠ 2 → qc (c :: t) = (c :: t).all (· == 3) := fun c t hc => by unfold qc; rw [List.dropWhile_cons, if_neg (by simpa using hc)]
  have hback : ∀ q : Bool, (q = true ↔ l[i] = 3) → (q = true ↔ 0 < i + 1 ∧ rd l ((i + 1 - 1 : Nat) : Int) = 3) := fun q hq => by
   rw [Nat.add_sub_cancel, wO l i hi]; exact hq.trans ⟨fun h => ⟨by omega, h⟩, fun h => h.2⟩
  by_cases c2 : l[i] = 2
  ·refine ah.pos c2 ?_
   rw [c2]
   have go := ih (i + 1) false (by omega) (hback false (by rw [c2]; decide))
   by_cases c0 : (i : Int) > 0
   ·rw [w64 (n := (i : Int) - 1) (by omega) (by omega), show (i : Int) - 1 = ((i - 1 : Nat) : Int) by omega]
    refine ah.pos c0 (ah.pos (by omega) (ah.pos (by omega) ?_))
    by_cases c3 : rd l ((i - 1 : Nat) : Int) = 3
    ·have : p = true := hp.2 ⟨by omega, c3⟩
     rw [this]
     exact ah.pos c3 ah.now
    have : p = false := by
     rw [Bool.eq_false_iff]; intro h; exact c3 (hp.1 h).2
    rw [this]
    refine ah.neg c3 ?_
    rw [if_neg (by simp), hm2]
    exact go
   have : p = false := by
    rw [Bool.eq_false_iff]; intro h; have := (hp.1 h).1; omega
   rw [this]
   refine ah.neg c0 ?_
   rw [if_neg (by simp), hm2]
   exact go
  refine ah.neg c2 ?_
  rw [hm3 _ _ c2]
  have : (if p = true then (l[i] :: l.drop (i + 1)).all (· == 3) else (l[i] :: l.drop (i + 1)).all (· == 3)) = (l[i] :: l.drop (i + 1)).all (· == 3) := by cases p <;> rfl
  rw [this]
  by_cases c3 : l[i] = 3
  ·refine ah.pos c3 ?_
   have go := ih (i + 1) true (by omega) (hback true (by rw [c3]; decide))
   rw [List.all_cons, c3]
   by_cases c0 : (i : Int) > 0
   ·exact ah.pos c0 go
   exact ah.neg c0 go
  refine ah.neg c3 ?_
  rw [List.all_cons, beq_eq_false_iff_ne.2 c3]
  exact ah.now
theorem Io (l : List Int) (hl : l.length ≤ 200000) : ∀ (m i : Nat), l.length - 1 = m + i → ah (fun k => aK.l0 k l (l.length : Int) (i : Int)) (((l.take (l.length - 1)).drop i).all (· == 4)) := by
 intro m
 induction m with
 | zero =>
  intro i h
  refine ah.step (fun k => by rw [aK.l0]) ?_
  rw [List.drop_eq_nil_of_le (by rw [List.length_take]; omega), w64 (by omega) (by omega)]
  exact ah.neg (by omega) ah.now
 | succ m ih =>
  intro i h
  have hi : i < l.length := by omega
  have hi2 : i < (l.take (l.length - 1)).length := by rw [List.length_take]; omega
  refine ah.step (fun k => by rw [aK.l0]) ?_
  rw [w64 (n := (l.length : Int) - 1) (by omega) (by omega)]
  refine ah.pos (by omega) (ah.pos (by omega) (ah.pos (by omega) ?_))
  rw [wO l i hi, inc i (by omega), List.drop_eq_getElem_cons hi2, List.all_cons, List.getElem_take]
  by_cases c : l[i] = 4
  ·rw [c]
   exact ah.pos rfl (ih (i + 1) (by omega))
  rw [beq_eq_false_iff_ne.2 c]
  exact ah.neg c ah.now
theorem yE (l : List Int) (hl : l.length ≤ 200000) : ah (fun k => (aK.f k l).bind fun t => some t) (Am l) := by
 refine qN ?_
 unfold aK.f Am
 by_cases c1 : l.length < 1
 ·rw [decide_eq_false (by omega)]
  refine ah.pos (by omega) ?_
  refine ah.step (fun k => by rw [aK.j0]) ?_
  exact ah.pos rfl ah.now
 refine ah.neg (by omega) ?_
 by_cases c2 : l.length > 9
 ·rw [decide_eq_false (by omega)]
  refine ah.pos (by omega) ?_
  refine ah.step (fun k => by rw [aK.j0]) ?_
  exact ah.pos rfl ah.now
 refine ah.neg (by omega) ?_
 rw [w64 (n := (l.length : Int) - 1) (by omega) (by omega), show (l.length : Int) - 1 = ((l.length - 1 : Nat) : Int) by omega, decide_eq_true (by omega), Bool.true_and]
 refine ah.pos (by omega) (ah.pos (by omega) ?_)
 refine ah.step (fun k => by rw [aK.j0]) ?_
 by_cases c3 : rd l ((l.length - 1 : Nat) : Int) = 5
 ·rw [c3]
  exact ah.neg (by simp) (Io l hl (l.length - 1) 0 (by omega))
 rw [beq_eq_false_iff_ne.2 c3]
 exact ah.pos (by simpa using c3) ah.now
theorem D8 (l : List Int) (hl : l.length ≤ 200000) : ∀ (m i : Nat), l.length = m + i → ah (fun k => au.l1 k l (l.length : Int) (i : Int)) ((l.drop i).all kZ) := by
 intro m
 induction m with
 | zero =>
  intro i h
  refine ah.step (fun k => by rw [au.l1]) ?_
  rw [List.drop_eq_nil_of_le (by omega)]
  exact ah.neg (by omega) ah.now
 | succ m ih =>
  intro i h
  have hi : i < l.length := by omega
  refine ah.step (fun k => by rw [au.l1]) ?_
  refine ah.pos (by omega) (ah.pos (by omega) (ah.pos (by omega) ?_))
  simp only [wO l i hi, FY, Option.bind_some]
  rw [inc i (by omega), List.drop_eq_getElem_cons hi, List.all_cons]
  cases kZ l[i] with
  | true => exact ah.pos rfl (ih (i + 1) (by omega))
  | false => exact ah.neg (by simp) ah.now
theorem DC (a : Int) (l : List Int) (hl : l.length ≤ 200000) (b : Bool) (hb : b = decide (a = 6 ∨ a = 7 ∨ a = 13 ∨ a = 14 ∨ a = 15 ∨ a = 17 ∨ a = 28 ∨ a = 30)) (h1 : a ≠ 1) (h2 : ¬ (a = 3 ∨ a = 24)) (h3 : a ≠ 5) (h4 : a ≠ 9) (h5 : a ≠ 10) (h6 : a ≠ 8) :
 ah (fun k => au.j3 k l (l.length : Int) a b) (iY a l) := by
 unfold iY
 rw [if_neg h1, if_neg h2, if_neg h3, if_neg h4, if_neg h5, if_neg h6]
 refine ah.step (fun k => by rw [au.j3]) ?_
 by_cases c : a = 6 ∨ a = 7 ∨ a = 13 ∨ a = 14 ∨ a = 15 ∨ a = 17 ∨ a = 28 ∨ a = 30
 ·rw [if_pos c]
  exact ah.pos Z34 (oL l hl 1 1)
 rw [if_neg c]
 refine ah.neg (by rw [hb]; simpa using c) ?_
 refine ah.both (fun _ => oL l hl 1 9) (fun _ => ah.both (fun _ => oL l hl 0 8) (fun _ => ?_))
 by_cases c3 : a = 26
 ·rw [if_pos (Or.inl c3)]; exact ah.pos c3 (oL l hl 2 2)
 refine ah.neg c3 ?_
 by_cases c4 : a = 27
 ·rw [if_pos (Or.inr c4)]; exact ah.pos c4 (oL l hl 2 2)
 rw [if_neg (show ¬ (a = 26 ∨ a = 27) by omega)]
 refine ah.neg c4 (ah.lh fun k => ?_)
 congr 1
 rw [Bool.eq_iff_iff, beq_iff_eq, decide_eq_true_eq]; omega
theorem yD (a : Int) (l : List Int) (hl : l.length ≤ 200000) (b : Bool) (hb : b = decide (a = 3 ∨ a = 24)) (h1 : a ≠ 1) : ah (fun k => au.j1 k l (l.length : Int) a b) (iY a l) := by
 refine ah.step (fun k => by rw [au.j1]) ?_
 by_cases c : a = 3 ∨ a = 24
 ·refine ah.pos Z34 ?_
  rw [show iY a l = Am l from by unfold iY; rw [if_neg h1, if_pos c]]
  exact yE l hl
 refine ah.neg (by rw [hb]; simpa using c) ?_
 by_cases c1 : a = 5
 ·refine ah.pos c1 ?_
  rw [show iY a l = l.all kZ from by unfold iY; rw [if_neg h1, if_neg c, if_pos c1]]
  exact D8 l hl l.length 0 (by omega)
 refine ah.neg c1 ?_
 by_cases c8 : a = 8
 ·refine ah.pos c8 ?_
  rw [show iY a l = exS l 3 3 from by unfold iY; rw [if_neg h1, if_neg c, if_neg c1, if_neg (by omega), if_neg (by omega), if_pos c8]]
  exact oL l hl 3 3
 refine ah.neg c8 ?_
 have five : ∀ (x y : Int) (t : List Int), (rd (x :: y :: t) 0 = x ∧ rd (x :: y :: t) 1 = y) := fun x y t => ⟨rfl, rfl⟩
 by_cases c9 : a = 9
 ·refine ah.pos c9 ?_
  rw [show iY a l = ifS 3 l from by unfold iY; rw [if_neg h1, if_neg c, if_neg c1, if_pos c9]]
  refine ah.lh fun k => ?_
  rcases l with _ | ⟨x, _ | ⟨y, _ | ⟨z, _ | ⟨u, t⟩⟩⟩⟩
  ·rfl
  ·rfl
  ·simp only [uz, Option.bind_some, ifS, (five x y []).1, (five x y []).2, List.length_cons, List.length_nil, List.drop_succ_cons, List.drop_zero, List.all_cons, List.all_nil]
   cases kE x <;> simp
  ·simp only [uz, Option.bind_some, ifS, (five x y [z]).1, (five x y [z]).2, show rd [x, y, z] 2 = z from rfl, List.length_cons, List.length_nil, List.drop_succ_cons, List.drop_zero, List.all_cons, List.all_nil]
   by_cases hz : z = 5
   ·cases kE x <;> simp [hz]
   cases kE x <;> simp [hz]
  have : ((x :: y :: z :: u :: t).length : Int) = (t.length : Int) + 4 := by simp only [List.length_cons]; omega
  rw [this, if_neg (by omega), if_neg (by omega)]
  unfold ifS
  rw [decide_eq_false (by simp)]
  rfl
 refine ah.neg c9 ?_
 by_cases c10 : a = 10
 ·refine ah.pos c10 ?_
  rw [show iY a l = ifS 2 l from by unfold iY; rw [if_neg h1, if_neg c, if_neg c1, if_neg c9, if_pos c10]]
  refine ah.lh fun k => ?_
  rcases l with _ | ⟨x, _ | ⟨y, _ | ⟨z, t⟩⟩⟩
  ·rfl
  ·rfl
  ·simp only [uz, Option.bind_some, ifS, (five x y []).1, (five x y []).2, List.length_cons, List.length_nil, List.drop_succ_cons, List.drop_zero, List.all_cons, List.all_nil]
   cases kE x <;> simp
  have : ((x :: y :: z :: t).length : Int) = (t.length : Int) + 3 := by simp only [List.length_cons]; omega
  rw [this, if_neg (by omega)]
  unfold ifS
  rw [decide_eq_false (by simp)]
  rfl
 refine ah.neg c10 ?_
 have go : ∀ b : Bool, b = decide (a = 6 ∨ a = 7 ∨ a = 13 ∨ a = 14 ∨ a = 15 ∨ a = 17 ∨ a = 28 ∨ a = 30) → ah (fun k => au.j3 k l (l.length : Int) a b) (iY a l) := fun b hb => DC a l hl b hb h1 c c1 c9 c10 c8
 by_cases d1 : a = 6
 ·exact ah.pos d1 (go _ (by simp [d1]))
 refine ah.neg d1 ?_
 by_cases d2 : a = 7
 ·exact ah.pos d2 (go _ (by simp [d2]))
 refine ah.neg d2 ?_
 by_cases d3 : a = 13
 ·exact ah.pos d3 (go _ (by simp [d3]))
 refine ah.neg d3 ?_
 by_cases d4 : a = 14
 ·exact ah.pos d4 (go _ (by simp [d4]))
 refine ah.neg d4 ?_
 by_cases d5 : a = 15
 ·exact ah.pos d5 (go _ (by simp [d5]))
 refine ah.neg d5 ?_
 by_cases d6 : a = 17
 ·exact ah.pos d6 (go _ (by simp [d6]))
 refine ah.neg d6 ?_
 by_cases d7 : a = 28
 ·exact ah.pos d7 (go _ (by simp [d7]))
 exact ah.neg d7 (go _ Z31)
theorem FN (a : Int) (l : List Int) (hl : l.length ≤ 200000) : ah (fun k => au.f k a l) (iY a l) := by
 unfold au.f
 by_cases c : a = 1
 ·refine ah.pos c ?_
  rw [show iY a l = qc l from by unfold iY; rw [if_pos c]]
  exact Il l hl l.length 0 false (by omega) ⟨fun h => (by cases h), fun h => (by omega)⟩
 refine ah.neg c ?_
 by_cases d1 : a = 3
 ·exact ah.pos d1 (yD a l hl _ (by simp [d1]) c)
 exact ah.neg d1 (yD a l hl _ Z31 c)
/-! Check. -/
theorem C9 (l : List S29) (hl : l.length ≤ 100000) (hs : short l) (h3 : ∀ x ∈ l, x.f3 ≤ 9223372036854775807) (i : Nat) (hi : i < l.length) (ks : List Int) (hks : ks.length ≤ 100000) (hk : ∀ q ∈ ks, 0 ≤ q ∧ q < (l.length : Int)) (v : Int × Int)
 (hnext : ah (fun k => aN.l0 k l ((i + 1 : Nat) : Int)) v) : ∀ (m idx : Nat) (acc : List Int), ks.length = m + idx → acc.length = idx →
 ah (fun k => aN.l1 k l (i : Int) ks acc (idx : Int))
  (if kY (ax l (i : Int)) && iY (ax l (i : Int)).f0 (acc ++ (ks.drop idx).map fun p => (ax l p).f0) then v else (4, (i : Int))) := by
 obtain ⟨h2, h4⟩ := yB hs i hi
 have h3i : (ax l (i : Int)).f3 ≤ 9223372036854775807 := by rw [rE l i hi]; exact h3 _ (List.getElem_mem hi)
 intro m
 induction m with
 | zero =>
  intro idx acc h1 ha
  refine ah.step (fun k => by rw [aN.l1]) ?_
  refine ah.neg (by omega) (ah.pos (by omega) (ah.pos (by omega) ?_))
  rw [List.drop_eq_nil_of_le (by omega), List.map_nil, List.append_nil]
  refine ah.bind (Ce _ h2 h4 h3i) ?_
  cases kY (ax l (i : Int)) with
  | false => exact ah.neg (by simp) ah.now
  | true =>
   refine ah.pos rfl (ah.bind (FN _ acc (by omega)) ?_)
   rw [Bool.true_and]
   cases iY (ax l (i : Int)).f0 acc with
   | false => exact ah.neg (by simp) ah.now
   | true =>
    refine ah.pos rfl ?_
    rw [inc i (by omega)]
    exact hnext
 | succ m ih =>
  intro idx acc h1 ha
  have hx : idx < ks.length := by omega
  have hq := hk _ (List.getElem_mem hx)
  refine ah.step (fun k => by rw [aN.l1]) ?_
  rw [wO ks idx hx, inc idx (by omega)]
  refine ah.pos (by omega) (ah.pos (by omega) (ah.pos hq.1 (ah.pos hq.2 (ah.pos (by omega) ?_))))
  have := ih (idx + 1) (acc ++ [(ax l ks[idx]).f0]) (by omega) (by simp [ha])
  rw [List.append_assoc] at this
  rw [List.drop_eq_getElem_cons hx, List.map_cons]
  exact this
theorem yO {l : List S29} (hl : l.length ≤ 100000) (h : Tree.jD l.length l 1 = some l.length) (i : Nat) (hi : i < l.length) :
 ah (fun k => bz.f k l (i : Int)) (its l (ax l (i : Int)).f1.toNat ((i + 1 : Nat) : Int)) := by
 have := Bd l hl (i : Int)
 obtain ⟨m', _, e⟩ := uB _ _ _ _ i h (Nat.le_refl 1) hi
 have he : jV l (i : Int) = ((i + m' : Nat) : Int) := by
  unfold jV
  rw [if_neg (by omega), Int.toNat_natCast, e]; rfl
 unfold qf at this
 rw [if_neg (by rw [he]; omega)] at this
 exact this
theorem CB (l : List S29) (hl : l.length ≤ 100000) (hs : short l) (h3 : ∀ x ∈ l, x.f3 ≤ 9223372036854775807) (hw : jD l.length l 1 = some l.length) : ∀ (m i : Nat), l.length = m + i → ah (fun k => aN.l0 k l (i : Int)) (GI l m i) := by
 intro m
 induction m with
 | zero =>
  intro i h1
  refine ah.step (fun k => by rw [aN.l0]) ?_
  exact ah.neg (by omega) ah.now
 | succ m ih =>
  intro i h1
  have hi : i < l.length := by omega
  obtain ⟨_, hK1, hK2⟩ := wu hl hw i hi
  refine ah.step (fun k => by rw [aN.l0]) ?_
  refine ah.pos (by omega) (ah.bind (yO hl hw i hi) ?_)
  have := C9 l hl hs h3 i hi _ hK1 (fun q hq => by have := hK2 q hq; omega) _ (ih (i + 1) (by omega)) _ 0 [] rfl rfl
  rw [List.drop_zero, List.nil_append] at this
  exact this
theorem DV (l : List S29) (hl : l.length ≤ 100000) (hs : short l) (h3 : ∀ x ∈ l, x.f3 ≤ 9223372036854775807) : ah (fun k => aN.f k l) (lY l) := by
 unfold aN.f lY
 by_cases c : 2000 < l.length
 ·rw [if_pos c]; exact ah.pos (by omega) ah.now
 rw [if_neg c]
 refine ah.neg (by omega) (ah.bind (uU l hl 0) ?_)
 by_cases hw : jD l.length l 1 = some l.length
 ·obtain ⟨he, hne⟩ := qy.2 hw
  have hlen : l.length ≠ 0 := fun h => hne (List.eq_nil_of_length_eq_zero h)
  rw [show uI l = true from decide_eq_true hw, if_neg (by simp)]
  refine ah.pos he ?_
  refine ah.step (fun k => by rw [aN.j0]) ?_
  refine ah.neg (by simp; omega) ?_
  have hwb : nH l l.length = true := wI l l.length (Nat.le_refl _) (fun q hq => by
   obtain ⟨m', _, e⟩ := uB _ _ _ _ q hw (Nat.le_refl 1) hq
   rw [e]; rfl)
  have hd := DU l hl
  rw [hwb, if_pos rfl] at hd
  refine ah.bind hd ?_
  by_cases c2 : 60 < rZ l [] 0
  ·rw [if_pos c2]; exact ah.pos (by omega) ah.now
  rw [if_neg c2]
  refine ah.neg (by omega) (ah.pos (by omega) ?_)
  by_cases c3 : (ax l 0).f0 = 1
  ·rw [if_neg (fun q => q c3)]
   exact ah.pos c3 (CB l hl hs h3 hw l.length 0 (by omega))
  rw [if_pos c3]
  exact ah.neg c3 ah.now
 rw [show uI l = false from decide_eq_false hw, if_pos rfl]
 refine ah.neg (fun e => hw (qy.1 ⟨e, ?_⟩)) ?_
 ·rintro rfl
  simp [jV, jD, pG] at e
 refine ah.step (fun k => by rw [aN.j0]) ?_
 exact ah.pos rfl ah.now
end Go.Proofs.YtkbhkonenkgfoaaGreat.Tree
end
section
set_option linter.unusedVariables false
set_option linter.unusedSimpArgs false
namespace Go.Proofs.YtkbhkonenkgfoaaGreat.Par
open Go Go.RowKit Go.Proofs.YtkbhkonenkgfoaaGreatW.PrintWords Go.Proofs.YtkbhkonenkgfoaaGreat.Q Go.Proofs.YtkbhkonenkgfoaaGreat.Lex Go.Proofs.YtkbhkonenkgfoaaGreat.Tree
variable {ts : List S37} {S : PF} {FF : Nat → iC}
theorem xA (acc : List (List S29)) (q : Int) (nm : ByteArray) (v : Int) (h1 : acc.length ≤ 100000) (h2 : acc.flatten.length ≤ 1000000) : ah (fun k => aJ.l1 (FF k) k acc nm v ts q true) (nd 1 nm v E acc, q, true) := by
 refine ah.step (fun k => by rw [aJ.l1, mg]) ?_
 simp only [Option.bind_some]
 exact ah.neg (by simp) (kK (by omega) (by omega) ah.now)
theorem rC (acc : List (List S29)) (q : Int) (nm : ByteArray) (v : Int) (h1 : acc.length ≤ 100000) (h2 : acc.flatten.length ≤ 1000000) : ah (fun k => aJ.l0 (FF k) k acc nm v ts q true) (nd 1 nm v E acc, q, true) := by
 refine ah.step (fun k => by rw [aJ.l0, mg]) ?_
 simp only [Option.bind_some]
 exact ah.neg (by simp) (xA (FF := fun k => FF (k + 1)) acc q nm v h1 h2)
theorem BQ (acc : List (List S29)) (x : S29) (p : Nat) (nm : ByteArray) (v : Int) (h : acc.flatten.length + acc.length + 2 ≤ 2 * p) (hp : p ≤ 50000) :
 ∃ y, sz y ≤ 2 * (p - 0) + 3 ∧ ah (fun k => if acc.length < 5864062014805 then aJ.l0 (FF (k + 1)) k (acc ++ [[x]]) nm v ts (p : Int) true else none) (y, (p : Int), true) :=
 ⟨nd 1 nm v E (acc ++ [[x]]), by unfold sz; rw [dQ, ik]; simp only [List.length_cons, List.length_nil]; omega, ah.pos (by omega) (rC (FF := fun k => FF (k + 1)) _ _ nm v (by rw [jC]; omega) (by rw [ik]; simp only [List.length_cons, List.length_nil]; omega))⟩
theorem zn {β : Type} (F : PF) (N : Nat) (k : Int) (nm : ByteArray) (f : List S29 → Ps β) (l : List S37) : bnd (lM F N k nm) f l = bnd (CZ F N) (fun ks => f (nd k nm 0 E ks)) l := by
 have h := ul F N k nm l
 unfold bnd at h ⊢
 rw [h]
 cases CZ F N l <;> rfl
theorem Ia {β : Type} (f : List S29 → Ps β) (l : List S37) : bnd BR f l = bnd (Par.need 1) (fun a => bnd (must [46]) fun _ => bnd (Par.need 1) fun b => bnd (must [47]) fun _ => bnd (Par.need 2) fun c => bnd (must [59]) fun _ => f (nd 2 a.f1 c.f2 b.f1 [])) l := by
 have bb : ∀ {α γ : Type} (p : Ps α) (g : α → Ps γ) (h : γ → Ps β) (l : List S37), bnd (bnd p g) h l = bnd p (fun a => bnd (g a) h) l := by
  intro α γ p g h l
  unfold bnd
  cases p l <;> rfl
 have bb' : ∀ {α γ : Type} (p : Ps α) (g : α → Ps γ) (h : γ → Ps β), bnd (bnd p g) h = bnd p (fun a => bnd (g a) h) := fun p g h => funext fun l => bb p g h l
 have re : ∀ {α : Type} (a : α) (h : α → Ps β), bnd (ret a) h = h a := fun a h => rfl
 unfold BR
 simp only [bb', re]
theorem FO (hts : ts.length ≤ 40000) (N : Nat) (nm : ByteArray) (v : Int) : ∀ (n : Nat) (FF : Nat → iC) (I : IhR S FF) (H : OkR FF) (acc : List (List S29)) (q : Nat), q ≤ ts.length → acc.flatten.length + acc.length + 2 ≤ 2 * (q - 0) →
 aj ts 0 3 sz (fun k => aJ.l1 (FF k) k acc nm v ts (q : Int) false) (uk S N nm v n acc (ts.drop q)) := by
 intro n
 induction n with
 | zero => intro FF I H acc q hq hs; trivial
 | succ n ih =>
  intro FF I H acc q hq hs
  unfold uk
  refine aj.step (fun k => by rw [aJ.l1]) ?_
  refine aj.jh _ _ (fD _ _ rfl) (by simp) hq hts (fun h1 => ?_) (fun hn => ?_)
  ·refine aj.pos rfl ?_
   dsimp only
   refine aj.pV 1 h1 hts (by omega) (fun t h2 _ => ?_) ?_
   ·dsimp only
    rw [zn]
    refine aj.bind (tZ hts I.shift H.shift N _ h2) (fun ks p g1 g2 g3 => ?_) (fun ks p g1 g2 g3 => ?_)
    ·unfold szK at g3
     dsimp only
     refine aj.evB (tu 3 t.f1 0 E 0 ks (by omega) (by omega)) ?_
     refine aj.pos (by omega) ?_
     exact ih (fun k => FF (k + 1)) I.shift H.shift (acc ++ [nd 3 t.f1 0 E ks]) p g2 (by rw [ik, jC, dQ]; omega)
    unfold szK at g3
    dsimp only
    exact ⟨nd 1 nm v E (acc ++ [nd 3 t.f1 0 E ks]), by omega, by unfold sz; rw [dQ, ik, dQ]; omega, kK (by omega) (by omega) (ah.pos (by omega) (xA (FF := fun k => FF (k + 1)) _ _ nm v (by rw [jC]; omega) (by rw [ik, dQ]; omega)))⟩
   dsimp only
   have hl : (nd 3 E 0 E [nd 5 E 0 E []]).length = 2 := rfl
   exact ⟨nd 1 nm v E (acc ++ [nd 3 E 0 E [nd 5 E 0 E []]]), by unfold sz; rw [dQ, ik, hl]; omega, ah.bind wC (kK (by simp) (by simp [nd]) (ah.pos (by omega) (xA (FF := fun k => FF (k + 1)) _ _ nm v (by rw [jC]; omega) (by rw [ik]; exact (show acc.flatten.length + (nd 3 E 0 E [nd 5 E 0 E []]).length ≤ 1000000 by rw [hl]; omega)))))⟩
  refine aj.neg (by simp) ?_
  exact aj.join (q := 0) (by omega) hq hts (by omega) (by omega)
theorem FB (hts : ts.length ≤ 40000) (N : Nat) (nm : ByteArray) (v : Int) : ∀ (n : Nat) (FF : Nat → iC) (I : IhR S FF) (H : OkR FF) (acc : List (List S29)) (q : Nat), q ≤ ts.length → acc.flatten.length + acc.length + 2 ≤ 2 * (q - 0) →
 aj ts 0 3 sz (fun k => aJ.l0 (FF k) k acc nm v ts (q : Int) false) (tN S N nm v n acc (ts.drop q)) := by
 intro n
 induction n with
 | zero => intro FF I H acc q hq hs; trivial
 | succ n ih =>
  intro FF I H acc q hq hs
  unfold tN
  refine aj.step (fun k => by rw [aJ.l0]) ?_
  refine aj.jh _ _ (fD _ _ rfl) (by simp) hq hts (fun h1 => ?_) (fun hn => ?_)
  ·refine aj.pos rfl ?_
   dsimp only
   rw [Ia]
   refine aj.pV 1 h1 hts (by omega) (fun a h1 _ => ?_) ?_
   ·dsimp only
    refine aj.kU ⟨#[46]⟩ [46] (fD _ _ rfl) (by simp) h1 hts (by omega) (fun h2 => ?_) ?_
    ·dsimp only
     refine aj.pV 1 h2 hts (by omega) (fun b h3 _ => ?_) ?_
     ·dsimp only
      refine aj.kU ⟨#[47]⟩ [47] (fD _ _ rfl) (by simp) h3 hts (by omega) (fun h4 => ?_) ?_
      ·dsimp only
       refine aj.pV 2 h4 hts (by omega) (fun c h5 _ => ?_) ?_
       ·dsimp only
        refine aj.kU ⟨#[59]⟩ [59] (fD _ _ rfl) (by simp) h5 hts (by omega) (fun h6 => ?_) ?_
        ·dsimp only
         refine aj.pos (by omega) ?_
         have hl : (nd 2 a.f1 c.f2 b.f1 []).length = 1 := rfl
         exact ih (fun k => FF (k + 1)) I.shift H.shift (acc ++ [nd 2 a.f1 c.f2 b.f1 []]) _ h6 (by rw [ik, jC, hl]; omega)
        exact BQ acc _ _ nm v (by omega) (by omega)
       dsimp only
       simp only [gy, Option.bind_some]
       exact BQ acc _ _ nm v (by omega) (by omega)
      dsimp only
      simp only [gy, lL, Option.bind_some]
      exact BQ acc _ _ nm v (by omega) (by omega)
     dsimp only
     simp only [gy, lL, Option.bind_some]
     exact BQ acc _ _ nm v (by omega) (by omega)
    dsimp only
    simp only [gy, lL, Option.bind_some]
    exact BQ acc _ _ nm v (by omega) (by omega)
   dsimp only
   simp only [gy, lL, Option.bind_some]
   exact BQ acc _ _ nm v (by omega) (by omega)
  refine aj.neg (by simp) ?_
  exact FO hts N nm v N (fun k => FF (k + 1)) I.shift H.shift acc q hq hs
theorem Cb (hts : ts.length ≤ 40000) (I : IhR S FF) (H : OkR FF) (N : Nat) :
 aj ts 0 3 sz (fun k => aJ.f (FF k) k ts 0 false) (kG S N ts) := by
 have sB : ∀ (nm : ByteArray) (v : Int), sz (nd 1 nm v E []) = 2 := fun nm v => rfl
 have key : aj ts 0 3 sz (fun k => aJ.f (FF k) k ts ((0 : Nat) : Int) false) (kG S N (ts.drop 0)) := by
  unfold aJ.f kG
  refine aj.kU ⟨#[109, 111, 100, 117, 108, 101]⟩ [109, 111, 100, 117, 108, 101] (fD _ _ rfl) (by simp) (by omega) hts (by omega) (fun h1 => ?_) ?_
  ·dsimp only
   refine aj.pV 1 h1 hts (by omega) (fun t h2 _ => ?_) ?_
   ·dsimp only
    refine aj.pV 2 h2 hts (by omega) (fun u h3 _ => ?_) ?_
    ·dsimp only
     refine aj.kU ⟨#[59]⟩ [59] (fD _ _ rfl) (by simp) h3 hts (by omega) (fun h4 => ?_) ?_
     ·dsimp only
      exact FB hts N t.f1 u.f2 N FF I H [] _ h4 Z14
     dsimp only
     exact ⟨_, by rw [sB]; omega, rC [] _ _ _ (by simp) (by simp)⟩
    dsimp only
    simp only [gy, lL, Option.bind_some]
    exact ⟨_, by rw [sB]; omega, rC [] _ _ _ (by simp) (by simp)⟩
   dsimp only
   simp only [gy, lL, Option.bind_some]
   exact ⟨_, by rw [sB]; omega, rC [] _ _ _ (by simp) (by simp)⟩
  dsimp only
  simp only [gy, lL, Option.bind_some]
  exact ⟨_, by rw [sB]; omega, rC [] _ _ _ (by simp) (by simp)⟩
 exact key
theorem yU (ts : List S37) (hp : small ts) (hl : ts.length ≤ 40000) (p : Nat) : qW ts (p : Int) = some (plS ts (ts.drop p)) := by
 have h := xG ts hp hl p false
 have key : ∀ i (hi : i < ts.length), dY ts (i : Int) = ts[i] := by
  intro i hi
  obtain ⟨_, h2, _⟩ := lI ts i _ _ (List.drop_eq_getElem_cons hi)
  exact h2
 unfold qW plS
 by_cases c : p < ts.length
 ·rw [if_pos (by omega), if_pos (by omega), key p c, List.drop_eq_getElem_cons c]
 rw [if_neg (by omega), List.drop_eq_nil_of_le (by omega)]
 by_cases d : 0 < ts.length
 ·have e : (ts.length : Int) - 1 = ((ts.length - 1 : Nat) : Int) := by omega
  have h := hp _ (List.getElem_mem (show ts.length - 1 < ts.length by omega))
  rw [if_pos (by omega), if_pos (by omega), e, key _ (by omega), Tree.w64 (by omega) (by omega), List.getLast?_eq_getElem?, List.getElem?_eq_getElem (by omega)]
 rw [if_neg (by omega), List.length_eq_zero_iff.1 (by omega : ts.length = 0)]; rfl
theorem FC (ts : List S37) (hts : ts.length ≤ 40000) (hp : small ts) (n : Nat) (hn : Fn KN ts.length (kG (oC n) n ts)) : ah (fun k => jP.f k ts) (GL ts (kG (oC n) n ts)) := by
 have hT := Cb hts (IR n) rH n
 match hr : kG (oC n) n ts, hn, hT with
 | .ok (x, r), ⟨_, _, h3⟩, ⟨p, _, hp2, hd, hs, hE⟩ =>
  unfold sz at hs
  unfold jP.f
  by_cases c : p < ts.length
  ·have h1 := yU ts hp hts p
   cases r with
   | nil => rw [List.drop_eq_nil_iff] at hd; omega
   | cons t u =>
    refine ah.bind hE (ah.neg (by simp) (ah.pos (show (p : Int) < (ts.length : Int) by omega) ?_))
    dsimp only
    rw [h1, hd]
    exact ah.now
  rw [List.drop_eq_nil_of_le (by omega)] at hd
  subst hd
  have hC := DV x (by omega) (fun y hy => (h3.1.2 y hy).1) (fun y hy => (h3.1.2 y hy).2)
  show ah _ (if (lY x).1 = 0 then (x, 0, 0) else ([], (lY x).1, 0))
  by_cases d : (lY x).1 = 0
  ·rw [if_pos d]
   exact ah.bind hE (ah.neg (by simp) (ah.neg (show ¬ (p : Int) < (ts.length : Int) by omega) (ah.bind hC (ah.pos d ah.now))))
  rw [if_neg d]
  exact ah.bind hE (ah.neg (by simp) (ah.neg (show ¬ (p : Int) < (ts.length : Int) by omega) (ah.bind hC (ah.neg d ah.now))))
 | .error (some r), _, ⟨x, p, _, _, hd, _, hE⟩ =>
  have h1 := yU ts hp hts p
  unfold jP.f
  refine ah.bind hE (ah.pos rfl ?_)
  dsimp only
  rw [h1, hd]
  exact ah.now
end Go.Proofs.YtkbhkonenkgfoaaGreat.Par
end
section
set_option linter.unusedVariables false
set_option linter.unusedSimpArgs false
namespace Go.Proofs.YtkbhkonenkgfoaaGreat.Par
open Go Go.RowKit Go.Proofs.YtkbhkonenkgfoaaGreatW.PrintWords Go.Proofs.YtkbhkonenkgfoaaGreat.Q Go.Proofs.YtkbhkonenkgfoaaGreat.Lex Go.Proofs.YtkbhkonenkgfoaaGreat.Tree
theorem Gv : ah (fun k => bP.f k) true := ah.I7 (fun k r h => bP.mono k r h) 300 bP.at
theorem Bo : ah (fun k => (bP.f k).bind fun t => some t) true := ah.bind Gv ah.now
theorem Ij (x : List S29) (hx : x.length ≤ 100000) : ∀ (m i : Nat), x.length = m + i → ah (fun k => bV.l0 k x x (i : Int)) true := by
 intro m
 induction m with
 | zero =>
  intro i h
  refine ah.step (fun k => by rw [bV.l0]) ?_
  exact ah.neg (by omega) ah.now
 | succ m ih =>
  intro i h
  refine ah.step (fun k => by rw [bV.l0]) ?_
  rw [Tree.inc i (by omega)]
  exact ah.pos (by omega) (ah.pos (by omega) (ah.pos (by omega) (ah.neg (by simp) (ih (i + 1) (by omega)))))
theorem Ik (x : List S29) (hx : x.length ≤ 100000) : ah (fun k => bV.f k x x) true := by
 unfold bV.f
 exact ah.pos rfl (Ij x hx x.length 0 (by omega))
def zY (t : S37) : Prop := t.f1.size ≤ 2000 ∧ t.f3 ≤ 1099511627776
theorem Gt (ts : List S37) (hl : ts.length ≤ 1500) : ∀ (m i : Nat), ts.length = m + i → (∀ t ∈ ts.take i, zY t) → (∀ t ∈ ts, zY t) ∧ ah (fun k => bf.l0 k ts (i : Int)) true ∨ ah (fun k => bf.l0 k ts (i : Int)) false := by
 intro m
 induction m with
 | zero =>
  intro i h hi
  rw [List.take_of_length_le (by omega)] at hi
  refine Or.inl ⟨hi, ah.step (fun k => by rw [bf.l0]) ?_⟩
  exact ah.neg (by omega) ah.now
 | succ m ih =>
  intro i h hi
  have hq : i < ts.length := by omega
  obtain ⟨_, e2, _⟩ := lI ts i _ _ (List.drop_eq_getElem_cons hq)
  by_cases c1 : ((ts[i].f1).size : Int) > 2000
  ·refine Or.inr (ah.step (fun k => by rw [bf.l0]) ?_)
   rw [e2]
   exact ah.pos (by omega) (ah.pos (by omega) (ah.pos c1 ah.now))
  by_cases c2 : ts[i].f3 > 1099511627776
  ·refine Or.inr (ah.step (fun k => by rw [bf.l0]) ?_)
   rw [e2]
   exact ah.pos (by omega) (ah.pos (by omega) (ah.neg c1 (ah.pos c2 ah.now)))
  have st : ∀ v, ah (fun k => bf.l0 k ts ((i + 1 : Nat) : Int)) v → ah (fun k => bf.l0 k ts (i : Int)) v := by
   intro v hv
   refine ah.step (fun k => by rw [bf.l0]) ?_
   rw [e2, Tree.inc i (by omega)]
   exact ah.pos (by omega) (ah.pos (by omega) (ah.neg c1 (ah.neg c2 hv)))
  have hi' : ∀ t ∈ ts.take (i + 1), zY t := by
   intro t ht
   rw [List.take_succ_eq_append_getElem hq, List.mem_append, List.mem_singleton] at ht
   rcases ht with ht | rfl
   ·exact hi t ht
   exact ⟨by omega, by omega⟩
  rcases ih (i + 1) (by omega) hi' with ⟨g1, g2⟩ | g
  ·exact Or.inl ⟨g1, st _ g2⟩
  exact Or.inr (st _ g)
theorem ES (ts : List S37) (r : R (List S29)) : (GL ts r).1.length ≤ 2000 := by
 unfold GL
 split
 ·rename_i x
  by_cases c : (lY x).1 = 0
  ·rw [if_pos c]
   unfold lY at c
   by_cases d : 2000 < x.length
   ·rw [if_pos d] at c; exact absurd c (by simp)
   exact Nat.le_of_not_lt d
  rw [if_neg c]; simp
 all_goals simp
theorem tokens (ts : List S37) (h : ∀ x ∈ ts, x.f2 ≤ 9223372036854775807 ∧ -9223372036854775808 ≤ x.f3) : ah (fun k => dV.f k ts) true := by
 unfold dV.f
 have no : ah (fun k => bf.f k ts) false → ah (fun k => (bf.f k ts).bind fun t1409 => (if t1409 = true then ((iH.f k ts).bind fun bt1411 => ((jP.f k ts).bind fun bt1416 => ((bV.f k bt1411.1 bt1416.1).bind fun t1421 => (if t1421 = true then (if bt1411.2.1 = bt1416.2.1 then (if bt1411.2.2 = bt1416.2.2 then ((bP.f k).bind fun t1422 => (some t1422)) else (some false)) else (some false)) else (some false))))) else ((bP.f k).bind fun t1410 => (some t1410)))) true :=
  fun g => ah.bind g (ah.neg (by simp) Bo)
 by_cases hl : (ts.length : Int) > 1500
 ·exact no (by unfold bf.f; exact ah.pos hl ah.now)
 have hl' : ts.length ≤ 1500 := by omega
 rcases Gt ts hl' ts.length 0 (by omega) (by simp) with ⟨g1, g2⟩ | g
 ·refine ah.bind (v := true) (by unfold bf.f; exact ah.neg hl g2) (ah.pos rfl ?_)
  have hp : small ts := fun t ht => ⟨(h t ht).2, by have := (g1 t ht).2; omega⟩
  have hB : TB ts := fun t ht => ⟨by have := (g1 t ht).1; omega, (h t ht).1⟩
  obtain ⟨n0, hr⟩ := rounds 1500
  have hn := (hr n0 (Nat.le_refl _)).2 ts hl' hB
  refine ah.bind (Ic ts (by omega) hp n0 hn) (ah.bind (FC ts (by omega) hp n0 hn) ?_)
  exact ah.bind (Ik _ (by have := ES ts (kG (oC n0) n0 ts); omega)) (ah.pos rfl (ah.pos rfl (ah.pos rfl Bo)))
 exact no (by unfold bf.f; exact ah.neg hl g)
end Go.Proofs.YtkbhkonenkgfoaaGreat.Par
namespace Go.Proofs.YtkbhkonenkgfoaaGreat.Pure
open Go Go.RowKit Go.Proofs.YtkbhkonenkgfoaaGreatW.PrintWords Go.Proofs.YtkbhkonenkgfoaaGreat.Q Go.Proofs.YtkbhkonenkgfoaaGreat.Lex Go.Proofs.YtkbhkonenkgfoaaGreat.Tree Go.Proofs.YtkbhkonenkgfoaaGreat.Par
theorem ParseTokens (ts : List S37) (h : ∀ x ∈ ts, x.f2 ≤ 9223372036854775807 ∧ -9223372036854775808 ≤ x.f3) : ∃ k, dV.f k ts = some true := ah.one (F := fun k => dV.f k ts) (Par.tokens ts h)
end Go.Proofs.YtkbhkonenkgfoaaGreat.Pure
end
section
set_option linter.unusedVariables false
set_option linter.unusedSimpArgs false
namespace Go.Proofs.YtkbhkonenkgfoaaGreat
open Go.RowKit Go.ChangeShapes Go.WideShapes Go.Proofs.YtkbhkonenkgfoaaGreatW.PrintWords
/-- What reads as data of a type is of a kind. -/
def kL {H : Type} (enc : TypeId × Value → H) (P : Program) (w : World) (t : TypeId) {α : Type} (d : Kd α) (B : α → Prop) : Prop :=
 ∀ (fuel : Nat) (cs : List Value) (x : DataW H × List MemPlace), DataW.trod enc P w 0 (fun _ => true) true fuel t cs = some x → ∃ a, d.K w a cs ∧ B a
/-- .. of a struct's fields, from one on. -/
def oI {H : Type} (enc : TypeId × Value → H) (P : Program) (w : World) (fs : List Field) (off : Nat) {α : Type} (d : Kd α) (B : α → Prop) : Prop :=
 ∀ (n : Nat) (cs : List Value) (xs : List (DataW H × List MemPlace)), xs.length = fs.length →
  (∀ (i : Nat) (f : Field), fs[i]? = some f → DataW.trod enc P w 0 (fun _ => true) true n f.type ((cs.drop f.offset).take (P.cellsOf f.type)) = xs[i]?) → cs.length = off + d.sz → ∃ a, d.K w a (cs.drop off) ∧ B a
section
variable {H : Type} {enc : TypeId × Value → H} {P : Program} {w : World} {t e : TypeId}
theorem kL.int {k : IntKind} (ht : P.underlying t = some (.int k)) : kL enc P w t (Kd.int k) (fun n => (Lit.int k n).wf = true) := by
 intro fuel cs x h
 obtain ⟨n, rfl, _, hw⟩ := DataW.trod_int ht h
 exact ⟨n, rfl, hw⟩
theorem kL.string (ht : P.underlying t = some .string) : kL enc P w t Kd.string (fun s => s.size ≤ maxLen) := by
 intro fuel cs x h
 obtain ⟨s, rfl, _, hs⟩ := DataW.trod_string ht h
 exact ⟨s, rfl, hs⟩
theorem kL.bool (ht : P.underlying t = some .bool) : kL enc P w t Kd.bool (fun _ => True) := by
 intro fuel cs x h
 obtain ⟨b, rfl, _⟩ := DataW.trod_bool ht h
 exact ⟨b, rfl, trivial⟩
theorem kL.iso {α β : Type} {d : Kd α} {B : α → Prop} (h : kL enc P w t d B) (f : β → α) (g : α → β) (hfg : ∀ a, f (g a) = a) : kL enc P w t (Kd.iso d f) (fun b => B (f b)) := by
 intro fuel cs x hx
 obtain ⟨a, ha, hb⟩ := h fuel cs x hx
 exact ⟨g a, by show d.K w (f (g a)) cs; rw [hfg]; exact ha, by show B (f (g a)); rw [hfg]; exact hb⟩
theorem kL.slice {α : Type} {d : Kd α} {B : α → Prop} (ht : P.underlying t = some (.slice e)) (hc : P.cellsOf e = d.sz) (he : kL enc P w e d B) :
 kL enc P w t (Kd.slice e d) (fun l => l.length ≤ maxLen ∧ ∀ a ∈ l, B a) := by
 intro fuel cs x h
 rcases Go.Deep.open_slice ht h with ⟨rfl, _⟩ | ⟨a, len, cap, m, n, D, Pl, rfl, _, hl, hm, hmm, _, hx⟩
 ·exact ⟨[], ⟨none, 0, rfl, Nat.le_refl _, rfl, by simp, fun h => absurd h (by simp)⟩, by simp, by simp⟩
 have hlm : len ≤ m := by simp at hmm; omega
 have each : ∀ i, i < len → ∃ q : α × List Value, q.2.length = d.sz ∧ d.K w q.1 q.2 ∧ (∀ j u, q.2[j]? = some u → w.cell? (a.add (i * d.sz + j)) = some u) ∧ B q.1 := by
  intro i hi
  obtain ⟨cs', h1, h2⟩ := hx i (by omega)
  obtain ⟨b, hb, hB⟩ := he n cs' _ h2
  obtain ⟨_, h4, h5⟩ := World.cells?_some h1
  refine ⟨(b, cs'), by rw [← hc]; exact h4, hb, fun j u hu => ?_, hB⟩
  have hj : j < cs'.length := (List.getElem?_eq_some_iff.1 hu).1
  have := h5 j (by omega)
  rw [Go.Deep.add_add, hc] at this
  rw [this, hu]
 by_cases hz : len = 0
 ·subst hz
  exact ⟨[], ⟨some a, cap, rfl, Nat.zero_le _, rfl, by simp, fun h => absurd h (by simp)⟩, by simp, by simp⟩
 obtain ⟨q0, _⟩ := each 0 (by omega)
 have : Inhabited (α × List Value) := ⟨q0⟩
 obtain ⟨q, hq⟩ := Go.Deep.choose_lt each
 refine ⟨(List.range len).map fun i => (q i).1, ⟨some a, cap, by simp, by simpa using hl, by simp, ?_, ?_⟩, ?_, ?_⟩
 ·simp; unfold maxLen at hm; omega
 ·intro _
  refine ⟨a, rfl, fun j p hp => ?_⟩
  simp only [List.getElem?_map, List.getElem?_range, Option.map_eq_some_iff] at hp
  obtain ⟨i, hi, rfl⟩ := hp
  have hj : j < len := by
   by_cases c : j < len
   ·exact c
   simp [c] at hi
  have hi' : i = j := by simpa [hj] using hi.symm
  subst hi'
  exact ⟨(q i).2, (hq i hj).1, (hq i hj).2.1, (hq i hj).2.2.1⟩
 ·simp; omega
 intro b hb
 simp only [List.mem_map, List.mem_range] at hb
 obtain ⟨i, hi, rfl⟩ := hb
 exact (hq i hi).2.2.2
theorem oI.last {α : Type} {d : Kd α} {B : α → Prop} {f : Field} {off : Nat} (ho : f.offset = off) (hc : P.cellsOf f.type = d.sz) (h : kL enc P w f.type d B) : oI enc P w [f] off d B := by
 intro n cs xs hl hx hcs
 match xs, hl with
 | [x], _ =>
  have h0 := hx 0 f rfl
  rw [ho, hc, List.take_of_length_le (by simp; omega)] at h0
  exact h n _ _ h0
theorem oI.cons {α β : Type} {d : Kd α} {d' : Kd β} {B : α → Prop} {B' : β → Prop} {f : Field} {fs : List Field} {off : Nat} (ho : f.offset = off) (hc : P.cellsOf f.type = d.sz) (h : kL enc P w f.type d B)
 (hr : oI enc P w fs (off + d.sz) d' B') : oI enc P w (f :: fs) off (Kd.pair d d') (fun x => B x.1 ∧ B' x.2) := by
 intro n cs xs hl hx hcs
 match xs, hl with
 | x :: xs, hl =>
  have h0 := hx 0 f rfl
  rw [ho, hc] at h0
  obtain ⟨a, ha, hB⟩ := h n _ _ h0
  have hcs' : cs.length = off + (d.sz + d'.sz) := hcs
  obtain ⟨b, hb, hB'⟩ := hr n cs xs (by simpa using hl) (fun i g hg => by simpa using hx (i + 1) g (by simpa using hg)) (by omega)
  refine ⟨(a, b), ⟨(cs.drop off).take d.sz, cs.drop (off + d.sz), ?_, ha, hb⟩, hB, hB'⟩
  rw [← List.drop_drop, List.take_append_drop]
theorem kL.struct {α : Type} {d : Kd α} {B : α → Prop} {fs : Array Field} (ht : P.underlying t = some (.struct fs)) (hc : P.cellsOf t = d.sz) (h : oI enc P w fs.toList 0 d B) : kL enc P w t d B := by
 intro fuel cs x hx
 obtain ⟨xs, n, _, _, h1, h2, h3⟩ := DataW.trod_struct ht hx
 have := h n cs xs (by simpa using h2) (fun i f hf => h3 i f (by simpa using hf)) (by omega)
 simpa using this
end
end Go.Proofs.YtkbhkonenkgfoaaGreat
end
section
set_option linter.unusedVariables false
set_option linter.unusedSimpArgs false
namespace Go.Proofs.YtkbhkonenkgfoaaGreat
open Go.RowKit Go.ChangeShapes Go.WideShapes Go.Proofs.YtkbhkonenkgfoaaGreatW.PrintWords Go.Proofs.YtkbhkonenkgfoaaGreat.Q
def IY (l : List S37) : Prop := l.length ≤ maxLen ∧ ∀ x ∈ l, (Lit.int .i64 x.f0).wf = true ∧ x.f1.size ≤ maxLen ∧ (Lit.int .i64 x.f2).wf = true ∧ (Lit.int .i64 x.f3).wf = true
theorem CO {H : Type} (enc : TypeId × Value → H) (w : World) : kL enc Tryz.prog w 37 k37 (fun x => (Lit.int .i64 x.f0).wf = true ∧ x.f1.size ≤ maxLen ∧ (Lit.int .i64 x.f2).wf = true ∧ (Lit.int .i64 x.f3).wf = true) :=
 kL.iso (kL.struct Tryz.underlying37 (by kernel_rfl) (oI.cons rfl (by kernel_rfl) (kL.int Tryz.underlying3) (oI.cons rfl (by kernel_rfl) (kL.string Tryz.underlying9) (oI.cons rfl (by kernel_rfl) (kL.int Tryz.underlying2) (oI.last rfl (by kernel_rfl) (kL.int Tryz.underlying3))))))
  (fun x : S37 => (x.f0, x.f1, x.f2, x.f3)) (fun t => ⟨t.1, t.2.1, t.2.2.1, t.2.2.2⟩) (fun _ => rfl)
theorem zX {H : Type} (enc : TypeId × Value → H) (w : World) : kL enc Tryz.prog w 31 (Kd.slice 37 k37) IY := kL.slice (H := H) (enc := enc) (w := w) Tryz.underlying31 (by kernel_rfl) (CO enc w)
theorem zL (A : Option Addr) (len cap : Nat) (l : List S37) (w : World) (h : Kd.C k37 w A len l) (hb : (l.length = len ∧ len ≤ cap) ∧ IY l) :
 Calls Tryz.prog 4 #[.slice A len cap] w fun e w' => e = .returned (.bool true) ∧ Below w.heap.size w w' := by
 obtain ⟨⟨rfl, hc⟩, hB⟩ := hb
 obtain ⟨k, hk⟩ := Pure.ParseTokens l (fun x hx => by
  obtain ⟨_, _, h2, h3⟩ := hB.2 x hx
  simp only [Lit.wf, Bool.and_eq_true, decide_eq_true_eq] at h2 h3
  exact ⟨Int.le_trans h2.2 (by decide), h3.1⟩)
 exact dV.calls k A cap l true w h hc hk
end Go.Proofs.YtkbhkonenkgfoaaGreat
end
