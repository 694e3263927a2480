/- What the document's answer for operations of two comes to; when a value is right. -/
import Derived.Test.YtmadbfahdnkecaaOpsLaw
import Derived.Test.YtmadbfahdnkecaaQ10
import Derived.Test.YtmadbfahdnkecaaQ11
set_option linter.unusedVariables false
set_option linter.unusedSimpArgs false
namespace Go.Proofs.Ytmadbfahdnkecaa.Ops
open Go Go.RowKit Go.Proofs.YtmadbfahdnkecaaW.PrintWords Go.Proofs.Ytmadbfahdnkecaa.Q Go.Proofs.Ytmadbfahdnkecaa.Lex

/-- A value is right. -/
def isS (a : V) : Bool := if a.1 = 0 then (a.2.1 == 0 && (L a.2.2 == [])) else if a.1 = 2 then (a.2.1 == 0 && decide (a.2.2.size ≤ 1024)) else (decide (1 ≤ a.1 ∧ a.1 ≤ 5) && (L a.2.2 == []))
theorem refIs_S (a : V) : chrysalisref17_Is.f a.1 a.2.1 a.2.2 = some (isS a) := by
  unfold chrysalisref17_Is.f isS
  simp only [L_toList]
  by_cases h0 : a.1 = 0
  · rw [if_pos h0, if_pos h0]
    by_cases h : a.2.1 = 0 <;> simp [h]
  rw [if_neg h0, if_neg h0]
  by_cases h2 : a.1 = 2
  · rw [if_pos h2, if_pos h2]
    by_cases h : a.2.1 = 0
    · rw [if_pos h, h]
      have : decide ((a.2.2.size : Int) ≤ 1024) = decide (a.2.2.size ≤ 1024) := by
        by_cases q : a.2.2.size ≤ 1024
        · rw [decide_eq_true q, decide_eq_true (by omega)]
        · rw [decide_eq_false q, decide_eq_false (by omega)]
      rw [this]; rfl
    · rw [if_neg h]; simp [h]
  rw [if_neg h2, if_neg h2]
  by_cases h3 : a.1 ≥ 0
  · rw [if_pos h3]
    by_cases h4 : a.1 ≤ 5
    · rw [if_pos h4, decide_eq_true (show 1 ≤ a.1 ∧ a.1 ≤ 5 by omega)]; rfl
    · rw [if_neg h4, decide_eq_false (show ¬ (1 ≤ a.1 ∧ a.1 ≤ 5) by omega)]; rfl
  · rw [if_neg h3, decide_eq_false (show ¬ (1 ≤ a.1 ∧ a.1 ≤ 5) by omega)]; rfl
theorem opsIs_S (a : V) : ops_Is.f a.1 a.2.1 a.2.2 = some (isS a) := by
  unfold ops_Is.f isS
  simp only [L_toList]
  by_cases h0 : a.1 = 0
  · rw [if_pos h0, if_pos h0, h0]; rfl
  rw [if_neg h0, if_neg h0]
  by_cases h2 : a.1 = 2
  · rw [if_pos h2, if_pos h2]
    by_cases h : a.2.1 = 0
    · rw [if_pos h, h]
      have : decide ((a.2.2.size : Int) ≤ 1024) = decide (a.2.2.size ≤ 1024) := by
        by_cases q : a.2.2.size ≤ 1024
        · rw [decide_eq_true q, decide_eq_true (by omega)]
        · rw [decide_eq_false q, decide_eq_false (by omega)]
      rw [this]; rfl
    · rw [if_neg h]; simp [h]
  rw [if_neg h2, if_neg h2]
  by_cases h1 : a.1 = 1
  · rw [if_pos h1, decide_eq_true (show 1 ≤ a.1 ∧ a.1 ≤ 5 by omega)]; rfl
  rw [if_neg h1]
  by_cases h3 : a.1 = 3
  · rw [if_pos h3, decide_eq_true (show 1 ≤ a.1 ∧ a.1 ≤ 5 by omega)]; rfl
  rw [if_neg h3]
  by_cases h4 : a.1 = 4
  · rw [if_pos h4, decide_eq_true (show 1 ≤ a.1 ∧ a.1 ≤ 5 by omega)]; rfl
  rw [if_neg h4]
  by_cases h5 : a.1 = 5
  · rw [if_pos h5, decide_eq_true (show 1 ≤ a.1 ∧ a.1 ≤ 5 by omega)]; rfl
  rw [if_neg h5, decide_eq_false (show ¬ (1 ≤ a.1 ∧ a.1 ≤ 5) by omega)]; rfl

theorem inc' (i : Nat) (h : i + 1 ≤ 9223372036854775807) : wrap64 ((i : Int) + 1) = ((i + 1 : Nat) : Int) := by unfold wrap64; omega
theorem rd_list' (l : List ByteArray) (i : Nat) (h : i < l.length) : rdOf ByteArray.empty l (i : Int) = l[i] := by
  simp [rdOf, List.getD_eq_getElem?_getD, List.getElem?_eq_getElem h]
theorem rtwo_l (s : ByteArray) (l : List ByteArray) (hl : l.length ≤ 1000) : ∀ (m i : Nat), l.length = m + i →
    EvTo (fun k => chrysalisref17_two.l0 k s l (i : Int)) (((l.drop i).map L).contains (L s)) := by
  intro m
  induction m with
  | zero =>
    intro i h1
    rw [List.drop_eq_nil_of_le (by omega)]
    refine EvTo.step (fun k => by rw [chrysalisref17_two.l0]) ?_
    exact EvTo.neg (by omega) EvTo.now
  | succ m ih =>
    intro i h1
    have hi : i < l.length := by omega
    refine EvTo.step (fun k => by rw [chrysalisref17_two.l0]) ?_
    refine EvTo.pos (by omega) (EvTo.pos (by omega) ?_)
    simp only [rd_list' l i hi]
    rw [List.drop_eq_getElem_cons hi, List.map_cons, List.contains_cons]
    by_cases c : L l[i] = L s
    · refine EvTo.pos (by rw [L_toList, L_toList]; exact c) ?_
      rw [show (L s == L l[i]) = true from beq_iff_eq.2 c.symm]
      exact EvTo.now
    · refine EvTo.neg (by rw [L_toList, L_toList]; exact c) ?_
      rw [show (L s == L l[i]) = false from beq_eq_false_iff_ne.2 (fun e => c e.symm), Bool.false_or, inc' i (by omega)]
      exact ih (i + 1) (by omega)
theorem rtwo_E (o : ByteArray) : EvTo (fun k => chrysalisref17_two.f k o) (isOp (L o)) := by
  have h := rtwo_l o [(⟨#[43]⟩ : ByteArray), (⟨#[45]⟩ : ByteArray), (⟨#[42]⟩ : ByteArray), (⟨#[47]⟩ : ByteArray), (⟨#[37]⟩ : ByteArray), (⟨#[46, 46]⟩ : ByteArray), (⟨#[61, 61]⟩ : ByteArray), (⟨#[33, 61]⟩ : ByteArray), (⟨#[60]⟩ : ByteArray), (⟨#[60, 61]⟩ : ByteArray)] (by simp) 10 0 (by simp)
  have e : isOp (L o) = (([(⟨#[43]⟩ : ByteArray), (⟨#[45]⟩ : ByteArray), (⟨#[42]⟩ : ByteArray), (⟨#[47]⟩ : ByteArray), (⟨#[37]⟩ : ByteArray), (⟨#[46, 46]⟩ : ByteArray), (⟨#[61, 61]⟩ : ByteArray), (⟨#[33, 61]⟩ : ByteArray), (⟨#[60]⟩ : ByteArray), (⟨#[60, 61]⟩ : ByteArray)].drop 0).map L).contains (L o) := by
    rw [Bool.eq_iff_iff]
    unfold isOp
    rw [decide_eq_true_eq]
    simp [L]
  rw [e]
  exact h
theorem rtruth_S (b : Bool) : chrysalisref17_truth.f b = some ((tr b).1, (tr b).2.1, (tr b).2.2.1) := by cases b <;> rfl

theorem rless_l (a b : ByteArray) (ha : a.size ≤ 140737488355328) (hb : b.size ≤ 140737488355328) : ∀ (m i : Nat), a.size + b.size = m + 2 * i → i ≤ a.size → i ≤ b.size →
    EvTo (fun k => chrysalisref17_less.l0 k a b (i : Int)) (if (L a).take i = (L b).take i then Op.bytesLess ((L a).drop i) ((L b).drop i) else Op.bytesLess ((L a).drop i) ((L b).drop i)) := by
  intro m
  induction m using Nat.strongRecOn with
  | _ m ih =>
    intro i h1 h2 h3
    rw [ite_self]
    have la := L_size a
    have lb := L_size b
    refine EvTo.step (fun k => by rw [chrysalisref17_less.l0]) ?_
    by_cases ca : i < a.size
    · refine EvTo.pos (by omega) ?_
      refine EvTo.step (fun k => by rw [chrysalisref17_less.j1]) ?_
      have da := drop_getD (L a) i (by omega)
      by_cases cb : i < b.size
      · have db := drop_getD (L b) i (by omega)
        refine EvTo.pos (by simp; omega) (EvTo.pos (by omega) (EvTo.pos (by omega) (EvTo.pos (by omega) ?_)))
        rw [bt_L, bt_L]
        generalize (L a).getD i 0 = x at da
        generalize (L b).getD i 0 = y at db
        rw [da, db]
        simp only [Op.bytesLess]
        by_cases e : x = y
        · subst e
          refine EvTo.pos rfl ?_
          rw [inc' i (by omega)]
          have h := ih (m - 2) (by omega) (i + 1) (by omega) (by omega) (by omega)
          rw [ite_self] at h
          have nl : ¬ x < x := fun q => by have := UInt8.lt_iff_toNat_lt.1 q; omega
          simpa [nl] using h
        · refine EvTo.neg (fun h => e ((u8_iff x y).1 h)) ?_
          refine EvTo.of_eq (fun k => ?_)
          congr 1
          have : decide ((x.toNat : Int) < (y.toNat : Int)) = decide (x < y) := by
            by_cases q : x < y
            · have := UInt8.lt_iff_toNat_lt.1 q
              rw [decide_eq_true q, decide_eq_true (by omega)]
            · have : ¬ x.toNat < y.toNat := fun z => q (UInt8.lt_iff_toNat_lt.2 z)
              rw [decide_eq_false q, decide_eq_false (by omega)]
          rw [this]
          simp [e]
      · refine EvTo.neg (by simp; omega) (EvTo.of_eq (fun k => ?_))
        rw [show (L b).drop i = [] from List.drop_eq_nil_of_le (by omega), da, decide_eq_false (show ¬ (a.size : Int) < (b.size : Int) by omega)]
        rfl
    · refine EvTo.neg (by omega) ?_
      refine EvTo.step (fun k => by rw [chrysalisref17_less.j1]) ?_
      refine EvTo.neg (by simp) (EvTo.of_eq (fun k => ?_))
      rw [show (L a).drop i = [] from List.drop_eq_nil_of_le (by omega)]
      by_cases cb : i < b.size
      · rw [drop_getD (L b) i (by omega), decide_eq_true (show (a.size : Int) < (b.size : Int) by omega)]
        rfl
      · rw [show (L b).drop i = [] from List.drop_eq_nil_of_le (by omega), decide_eq_false (show ¬ (a.size : Int) < (b.size : Int) by omega)]
        rfl
theorem rless_E (a b : ByteArray) (ha : a.size ≤ 140737488355328) (hb : b.size ≤ 140737488355328) : EvTo (fun k => chrysalisref17_less.f k a b) (lt a b) := by
  have := rless_l a b ha hb (a.size + b.size) 0 (by omega) (by omega) (by omega)
  simpa [chrysalisref17_less.f, lt] using this
theorem ev_of_eq {α : Type} {F : Nat → Option α} {v u : α} (h : EvTo F v) (e : v = u) : EvTo F u := e ▸ h
theorem rints_E (o : ByteArray) (a b : Int) (ho : isOp (L o) = true) (h1 : L o ≠ [61, 61]) (h2 : L o ≠ [33, 61]) : EvTo (fun k => chrysalisref17_ints.f k o a b) (numS (L o) a b) := by
  unfold chrysalisref17_ints.f numS
  simp only [chrysalisref17_Int.f, rtruth_S, Option.bind_some, L_toList]
  by_cases c1 : L o = [43]
  · rw [if_pos c1]; exact EvTo.pos c1 EvTo.now
  rw [if_neg c1]; refine EvTo.neg c1 ?_
  by_cases c2 : L o = [45]
  · rw [if_pos c2]; exact EvTo.pos c2 EvTo.now
  rw [if_neg c2]; refine EvTo.neg c2 ?_
  by_cases c3 : L o = [42]
  · rw [if_pos c3]; exact EvTo.pos c3 EvTo.now
  rw [if_neg c3]; refine EvTo.neg c3 ?_
  by_cases c4 : L o = [60]
  · refine EvTo.pos c4 (EvTo.of_eq fun k => ?_)
    rw [c4]; rfl
  refine EvTo.neg c4 ?_
  by_cases c5 : L o = [60, 61]
  · refine EvTo.pos c5 (EvTo.of_eq fun k => ?_)
    rw [c5]; rfl
  refine EvTo.neg c5 ?_
  by_cases c6 : L o = [46, 46]
  · refine EvTo.pos c6 (EvTo.of_eq fun k => ?_)
    rw [c6]; rfl
  refine EvTo.neg c6 ?_
  have hlast : L o = [47] ∨ L o = [37] := by
    unfold isOp at ho
    rw [decide_eq_true_eq] at ho
    rcases ho with h | h | h | h | h | h | h | h | h | h <;> first | exact absurd h (by assumption) | exact .inl h | exact .inr h
  have key : (if L o = [47] then (if b = 0 then bad 2 else whole (wrap64 (Int.tdiv a b))) else if L o = [37] then (if b = 0 then bad 2 else whole (Int.tmod a b)) else if L o = [60] then tr (decide (a < b)) else if L o = [60, 61] then tr (decide (a ≤ b)) else bad 1)
      = if b = 0 then bad 2 else if L o = [47] then whole (wrap64 (Int.tdiv a b)) else whole (Int.tmod a b) := by
    rcases hlast with h | h
    · rw [if_pos h, if_pos h]
    · have hn : ¬ L o = [47] := by rw [h]; decide
      rw [if_neg hn, if_pos h, if_neg hn]
  rw [key]
  by_cases c7 : b = 0
  · rw [if_pos c7]; exact EvTo.pos c7 EvTo.now
  rw [if_neg c7]; refine EvTo.neg c7 ?_
  by_cases c8 : b = -1
  · refine EvTo.pos c8 ?_
    refine EvTo.step (fun k => by rw [chrysalisref17_ints.j0]) ?_
    by_cases c9 : L o = [47]
    · rw [if_pos c9]
      refine EvTo.pos (by simp [c9]) (EvTo.of_eq fun k => ?_)
      simp only [chrysalisref17_Int.f, Option.bind_some]
      rw [c8, Int.tdiv_neg, Int.tdiv_one]; rfl
    · rw [if_neg c9]
      refine EvTo.neg (by simp [c9]) (EvTo.pos c8 (EvTo.of_eq fun k => ?_))
      simp only [chrysalisref17_Int.f, Option.bind_some]
      rw [c8, Int.tmod_neg, Int.tmod_one]; rfl
  · refine EvTo.neg c8 ?_
    refine EvTo.step (fun k => by rw [chrysalisref17_ints.j0]) ?_
    refine EvTo.neg (by simp) (EvTo.neg c8 ?_)
    simp only [chrysalisref17_Int.f, Option.bind_some, L_toList]
    by_cases c9 : L o = [47]
    · simp only [if_pos c9]
      exact EvTo.neg c7 EvTo.now
    · simp only [if_neg c9]
      exact EvTo.neg c7 EvTo.now
theorem rtexts_E (o a b : ByteArray) (ha : a.size ≤ 1024) (hb : b.size ≤ 1024) : EvTo (fun k => chrysalisref17_texts.f k o a b) (txtS (L o) a b) := by
  unfold chrysalisref17_texts.f txtS
  simp only [chrysalisref17_Text.f, rtruth_S, Option.bind_some, L_toList]
  have e : wrap64 ((a.size : Int) + (b.size : Int)) = (a.size : Int) + (b.size : Int) := by unfold wrap64; omega
  by_cases c1 : L o = [46, 46]
  · refine EvTo.pos c1 (EvTo.neg (by omega) (EvTo.neg (by omega) ?_))
    rw [if_pos c1, e]
    by_cases c : 1024 < a.size + b.size
    · rw [if_pos c]; exact EvTo.pos (by omega) EvTo.now
    · rw [if_neg c]; exact EvTo.neg (by omega) (EvTo.pos (by omega) EvTo.now)
  refine EvTo.neg c1 ?_
  rw [if_neg c1]
  by_cases c2 : L o = [60]
  · rw [if_pos c2]
    exact EvTo.pos c2 (EvTo.bind (rless_E a b (by omega) (by omega)) EvTo.now)
  refine EvTo.neg c2 ?_
  rw [if_neg c2]
  by_cases c3 : L o = [60, 61]
  · rw [if_pos c3]
    exact EvTo.pos c3 (EvTo.bind (rless_E b a (by omega) (by omega)) EvTo.now)
  rw [if_neg c3]
  exact EvTo.neg c3 EvTo.now
theorem isS_txt {a : V} (h : isS a = true) (h2 : a.1 = 2) : a.2.2.size ≤ 1024 := by
  unfold isS at h
  rw [if_neg (by omega), if_pos h2, Bool.and_eq_true, decide_eq_true_eq] at h
  exact h.2
theorem rTwo_E (o : ByteArray) (a b : V) (ha : isS a = true) (hb : isS b = true) : EvTo (fun k => chrysalisref17_Two.f k o a.1 a.2.1 a.2.2 b.1 b.2.1 b.2.2) (twoS (L o) a b) := by
  unfold chrysalisref17_Two.f
  refine EvTo.bind (rtwo_E o) ?_
  unfold twoS
  simp only [rtruth_S, Option.bind_some, L_toList]
  by_cases h0 : ¬ isOp (L o) = true
  · rw [if_neg h0]; exact EvTo.neg h0 EvTo.now
  have h0 := Classical.not_not.1 h0
  rw [if_pos h0]; refine EvTo.pos h0 ?_
  by_cases h1 : L o = [61, 61]
  · rw [if_pos h1]; exact EvTo.pos h1 EvTo.now
  rw [if_neg h1]; refine EvTo.neg h1 ?_
  by_cases h2 : L o = [33, 61]
  · rw [if_pos h2]; refine EvTo.pos h2 ?_
    have e : (!(a.1 == b.1) || (!(a.2.1 == b.2.1) || !(L a.2.2 == L b.2.2))) = !sameV a b := by
      unfold sameV
      cases (a.1 == b.1) <;> cases (a.2.1 == b.2.1) <;> cases (L a.2.2 == L b.2.2) <;> rfl
    rw [e]
    exact EvTo.now
  rw [if_neg h2]; refine EvTo.neg h2 ?_
  by_cases h3 : a.1 = 1
  · refine EvTo.pos h3 ?_
    refine EvTo.step (fun k => by rw [chrysalisref17_Two.j0]) ?_
    by_cases h4 : b.1 = 1
    · rw [if_pos (by omega), if_pos h3]
      exact EvTo.pos (by simp [h4]) (EvTo.bind (rints_E o a.2.1 b.2.1 h0 h1 h2) EvTo.now)
    · rw [if_neg (by omega)]
      exact EvTo.neg (by simp [h4]) (EvTo.neg (by omega) EvTo.now)
  · refine EvTo.neg h3 ?_
    refine EvTo.step (fun k => by rw [chrysalisref17_Two.j0]) ?_
    refine EvTo.neg (by simp) ?_
    by_cases h4 : a.1 = 2
    · refine EvTo.pos h4 ?_
      by_cases h5 : b.1 = 2
      · rw [if_pos (by omega), if_neg h3, if_pos h4]
        exact EvTo.pos h5 (EvTo.bind (rtexts_E o a.2.2 b.2.2 (isS_txt ha h4) (isS_txt hb h5)) EvTo.now)
      · rw [if_neg (by omega)]
        exact EvTo.neg h5 EvTo.now
    · refine EvTo.neg h4 ?_
      refine EvTo.of_eq fun k => ?_
      repeat' split
      all_goals first | rfl | (exfalso; omega)
end Go.Proofs.Ytmadbfahdnkecaa.Ops
