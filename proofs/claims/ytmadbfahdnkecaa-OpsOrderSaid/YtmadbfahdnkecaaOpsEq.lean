/- What operations of values come to, in plain words, and that the functions of ops come to it; no program in sight; no condition but sizes. -/
import Derived.Test.YtmadbfahdnkecaaLexBytes
import Derived.Test.YtmadbfahdnkecaaQ4
import Derived.Test.YtmadbfahdnkecaaQ7
import Derived.Test.YtmadbfahdnkecaaQ6
set_option linter.unusedVariables false
set_option linter.unusedSimpArgs false
namespace Go.Proofs.Ytmadbfahdnkecaa.Ops
open Go Go.RowKit Go.Proofs.YtmadbfahdnkecaaW.PrintWords Go.Proofs.Ytmadbfahdnkecaa.Q Go.Proofs.Ytmadbfahdnkecaa.Lex

/-- A value: its kind, its number, its text. -/
abbrev V := Int × Int × ByteArray
/-- An answer: a value, and a code. -/
abbrev R := Int × Int × ByteArray × Int
def int (n : Int) : V := (1, n, ⟨#[]⟩)
def txt (s : ByteArray) : V := (2, 0, s)
def whole (n : Int) : R := (1, n, ⟨#[]⟩, 0)
def bad (c : Int) : R := (0, 0, ⟨#[]⟩, c)
def tr (b : Bool) : R := whole (if b then 1 else 0)
/-- Less, of texts. -/
def lt (a b : ByteArray) : Bool := Op.bytesLess (L a) (L b)
def sameV (a b : V) : Bool := a.1 == b.1 && (a.2.1 == b.2.1 && (L a.2.2 == L b.2.2))
theorem sameV_iff (a b : V) : sameV a b = true ↔ a = b := by
  obtain ⟨a0, a1, a2⟩ := a
  obtain ⟨b0, b1, b2⟩ := b
  simp only [sameV, Bool.and_eq_true, beq_iff_eq, Prod.mk.injEq]
  constructor
  · rintro ⟨rfl, rfl, h⟩; exact ⟨rfl, rfl, L_inj h⟩
  · rintro ⟨rfl, rfl, rfl⟩; exact ⟨rfl, rfl, rfl⟩
def isOp (o : List UInt8) : Bool := decide (o = [43] ∨ o = [45] ∨ o = [42] ∨ o = [47] ∨ o = [37] ∨ o = [46, 46] ∨ o = [61, 61] ∨ o = [33, 61] ∨ o = [60] ∨ o = [60, 61])
def numS (o : List UInt8) (a b : Int) : R :=
  if o = [43] then whole (wrap64 (a + b)) else if o = [45] then whole (wrap64 (a - b)) else if o = [42] then whole (wrap64 (a * b))
  else if o = [47] then (if b = 0 then bad 2 else whole (wrap64 (Int.tdiv a b))) else if o = [37] then (if b = 0 then bad 2 else whole (Int.tmod a b))
  else if o = [60] then tr (decide (a < b)) else if o = [60, 61] then tr (decide (a ≤ b)) else bad 1
def txtS (o : List UInt8) (a b : ByteArray) : R :=
  if o = [46, 46] then (if 1024 < a.size + b.size then bad 3 else (2, 0, a ++ b, 0)) else if o = [60] then tr (lt a b) else if o = [60, 61] then tr (!lt b a) else bad 1
def twoS (o : List UInt8) (a b : V) : R :=
  if isOp o = true then
    if o = [61, 61] then tr (sameV a b) else if o = [33, 61] then tr (!sameV a b)
    else if a.1 = b.1 then (if a.1 = 1 then numS o a.2.1 b.2.1 else if a.1 = 2 then txtS o a.2.2 b.2.2 else bad 1) else bad 1
  else bad 12
def truthS (a : V) : Bool := !(a.1 == 0) && !(a.1 == 1 && a.2.1 == 0 && (L a.2.2 == []))
def oneS (o : List UInt8) (a : V) : R :=
  if o = [110, 111, 116] then tr (!truthS a)
  else if o = [45] then (if a.1 = 1 then whole (wrap64 (-a.2.1)) else bad 1)
  else if o = [108, 101, 110] then (if a.1 = 2 then whole (a.2.2.size : Int) else bad 1)
  else bad 12

theorem known_S (o : ByteArray) : ops_known.f o = some (isOp (L o)) := by
  unfold ops_known.f isOp
  simp only [L_toList]
  repeat' split
  all_goals simp_all
theorem whole_S (n : Int) : ops_whole.f n = some (whole n) := rfl
theorem bad_S (n : Int) : ops_bad.f n = some (bad n) := rfl
theorem eta4 {α β γ δ : Type} (x : α × β × γ × δ) : (x.1, x.2.1, x.2.2.1, x.2.2.2) = x := rfl
theorem truth_S (b : Bool) : ops_truth.f b = some (tr b) := by cases b <;> rfl
theorem divide_S (o : ByteArray) (a b : Int) : ops_divide.f o a b = some (if b = 0 then bad 2 else if L o = [47] then whole (wrap64 (Int.tdiv a b)) else whole (Int.tmod a b)) := by
  unfold ops_divide.f
  simp only [whole_S, bad_S, Option.bind_some, L_toList]
  repeat' split
  all_goals rfl
theorem numbers_E (o : ByteArray) (a b : Int) : EvTo (fun k => ops_numbers.f k o a b) (numS (L o) a b) := by
  unfold ops_numbers.f numS
  simp only [whole_S, Option.bind_some, L_toList]
  by_cases h1 : L o = [43]
  · rw [if_pos h1]; exact EvTo.pos h1 EvTo.now
  rw [if_neg h1]; refine EvTo.neg h1 ?_
  by_cases h2 : L o = [45]
  · rw [if_pos h2]; exact EvTo.pos h2 EvTo.now
  rw [if_neg h2]; refine EvTo.neg h2 ?_
  by_cases h3 : L o = [42]
  · rw [if_pos h3]; exact EvTo.pos h3 EvTo.now
  rw [if_neg h3]; refine EvTo.neg h3 ?_
  by_cases h4 : L o = [47]
  · rw [if_pos h4]
    refine EvTo.pos h4 ?_
    refine EvTo.step (fun k => by rw [ops_numbers.j0]) ?_
    refine EvTo.pos (by simp [h4]) ?_
    simp only [divide_S, Option.bind_some]
    rw [if_pos h4]
    exact EvTo.now
  rw [if_neg h4]; refine EvTo.neg h4 ?_
  refine EvTo.step (fun k => by rw [ops_numbers.j0]) ?_
  by_cases h5 : L o = [37]
  · rw [if_pos h5]
    refine EvTo.pos (by simp [h5]) ?_
    simp only [divide_S, Option.bind_some]
    rw [if_neg h4]
    exact EvTo.now
  rw [if_neg h5]
  refine EvTo.neg (by simp [h5]) ?_
  simp only [L_toList, truth_S, bad_S, Option.bind_some]
  refine EvTo.of_eq (fun k => ?_)
  repeat' split
  all_goals rfl
theorem texts_S (o a b : ByteArray) (hb : b.size ≤ 140737488355328) : ops_texts.f o a b = some (txtS (L o) a b) := by
  unfold ops_texts.f txtS
  simp only [truth_S, bad_S, Option.bind_some, L_toList]
  have e : wrap64 (1024 - (b.size : Int)) = 1024 - (b.size : Int) := by unfold wrap64; omega
  by_cases h1 : L o = [46, 46]
  · rw [if_pos h1, if_pos h1, e]
    by_cases h : 1024 < a.size + b.size
    · rw [if_pos (by omega), if_pos h]
    · rw [if_neg (by omega), if_neg h, if_pos (by omega)]
  rw [if_neg h1, if_neg h1]
  repeat' split
  all_goals rfl
theorem two_E (o : ByteArray) (a b : V) (hb : b.2.2.size ≤ 140737488355328) : EvTo (fun k => ops_Two.f k o a.1 a.2.1 a.2.2 b.1 b.2.1 b.2.2) (twoS (L o) a b) := by
  unfold ops_Two.f twoS
  simp only [known_S, Option.bind_some, truth_S, bad_S, L_toList, texts_S o a.2.2 b.2.2 hb]
  by_cases h0 : ¬ isOp (L o) = true
  · rw [if_neg h0]; exact EvTo.neg h0 EvTo.now
  have h0 := Classical.not_not.1 h0
  rw [if_pos h0]; refine EvTo.pos h0 ?_
  by_cases h1 : L o = [61, 61]
  · rw [if_pos h1]; exact EvTo.pos h1 EvTo.now
  rw [if_neg h1]; refine EvTo.neg h1 ?_
  by_cases h2 : L o = [33, 61]
  · rw [if_pos h2]; refine EvTo.pos h2 ?_
    have e : (!(a.1 == b.1) || (!(a.2.1 == b.2.1) || !(L a.2.2 == L b.2.2))) = !sameV a b := by
      unfold sameV
      cases (a.1 == b.1) <;> cases (a.2.1 == b.2.1) <;> cases (L a.2.2 == L b.2.2) <;> rfl
    rw [e]
    exact EvTo.now
  rw [if_neg h2]; refine EvTo.neg h2 ?_
  by_cases h3 : ¬ a.1 = b.1
  · rw [if_neg h3]; exact EvTo.neg h3 EvTo.now
  have h3 := Classical.not_not.1 h3
  rw [if_pos h3]; refine EvTo.pos h3 ?_
  by_cases h4 : a.1 = 1
  · rw [if_pos h4]; refine EvTo.pos h4 ?_
    exact EvTo.bind (numbers_E o a.2.1 b.2.1) EvTo.now
  rw [if_neg h4]; refine EvTo.neg h4 ?_
  refine EvTo.of_eq (fun k => ?_)
  repeat' split
  all_goals rfl
theorem Truth_S (a : V) : ops_Truth.f a.1 a.2.1 a.2.2 = some (truthS a) := by
  unfold ops_Truth.f truthS
  simp only [L_toList]
  by_cases h : a.1 = 0
  · rw [if_pos h]; simp [h]
  · rw [if_neg h]
    have e : (a.1 == 0) = false := beq_eq_false_iff_ne.mpr h
    rw [e]
    cases (a.1 == 1) <;> cases (a.2.1 == 0) <;> cases (L a.2.2 == ([] : List UInt8)) <;> rfl
theorem one_E (o : ByteArray) (a : V) : EvTo (fun k => ops_One.f k o a.1 a.2.1 a.2.2) (oneS (L o) a) := by
  unfold ops_One.f oneS
  simp only [Truth_S, truth_S, Option.bind_some, L_toList]
  by_cases h1 : L o = [110, 111, 116]
  · rw [if_pos h1]; exact EvTo.pos h1 EvTo.now
  rw [if_neg h1]; refine EvTo.neg h1 ?_
  by_cases h2 : L o = [45]
  · rw [if_pos h2]; refine EvTo.pos h2 ?_
    refine EvTo.step (fun k => by rw [ops_One.j0]) ?_
    refine EvTo.neg (by simp) ?_
    simp only [whole_S, bad_S, Option.bind_some, L_toList]
    refine EvTo.of_eq (fun k => ?_)
    repeat' split
    all_goals first | rfl | (exfalso; simp_all; done) | (exfalso; omega)
  rw [if_neg h2]; refine EvTo.neg h2 ?_
  refine EvTo.step (fun k => by rw [ops_One.j0]) ?_
  simp only [whole_S, bad_S, Option.bind_some, L_toList]
  refine EvTo.of_eq (fun k => ?_)
  repeat' split
  all_goals first | rfl | (exfalso; simp_all; done) | (exfalso; omega)
end Go.Proofs.Ytmadbfahdnkecaa.Ops
