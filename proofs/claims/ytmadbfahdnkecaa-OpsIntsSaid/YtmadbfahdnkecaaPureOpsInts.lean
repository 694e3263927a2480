/- The plain law of OpsInts. -/
import Derived.Test.YtmadbfahdnkecaaQ16
import Derived.Test.YtmadbfahdnkecaaOpsLaw
set_option linter.unusedVariables false
set_option linter.unusedSimpArgs false
namespace Go.Proofs.Ytmadbfahdnkecaa.Pure
open Go Go.RowKit Go.Proofs.YtmadbfahdnkecaaW.PrintWords Go.Proofs.Ytmadbfahdnkecaa.Q Go.Proofs.Ytmadbfahdnkecaa.Lex Go.Proofs.Ytmadbfahdnkecaa.Ops

theorem ints_E (o : ByteArray) (a b : Int) : EvTo (fun k => ops_Two.f k o 1 a ⟨#[]⟩ 1 b ⟨#[]⟩) (twoS (L o) (int a) (int b)) := two_E o (int a) (int b) (by show (0 : Nat) ≤ _; omega)
theorem add_E (a b : Int) : EvTo (fun k => ops_Two.f k ⟨#[43]⟩ 1 a ⟨#[]⟩ 1 b ⟨#[]⟩) (whole (wrap64 (a + b))) := ints_E _ a b
theorem sub_E (a b : Int) : EvTo (fun k => ops_Two.f k ⟨#[45]⟩ 1 a ⟨#[]⟩ 1 b ⟨#[]⟩) (whole (wrap64 (a - b))) := ints_E _ a b
theorem mul_E (a b : Int) : EvTo (fun k => ops_Two.f k ⟨#[42]⟩ 1 a ⟨#[]⟩ 1 b ⟨#[]⟩) (whole (wrap64 (a * b))) := ints_E _ a b
theorem quo_E (a b : Int) : EvTo (fun k => ops_Two.f k ⟨#[47]⟩ 1 a ⟨#[]⟩ 1 b ⟨#[]⟩) (if b = 0 then bad 2 else whole (wrap64 (Int.tdiv a b))) := ints_E _ a b
theorem rem_E (a b : Int) : EvTo (fun k => ops_Two.f k ⟨#[37]⟩ 1 a ⟨#[]⟩ 1 b ⟨#[]⟩) (if b = 0 then bad 2 else whole (Int.tmod a b)) := ints_E _ a b
theorem lss_E (a b : Int) : EvTo (fun k => ops_Two.f k ⟨#[60]⟩ 1 a ⟨#[]⟩ 1 b ⟨#[]⟩) (whole (if a < b then 1 else 0)) := by
  have h := ints_E ⟨#[60]⟩ a b
  rwa [show twoS (L ⟨#[60]⟩) (int a) (int b) = whole (if a < b then 1 else 0) by
    show tr (decide (a < b)) = _
    by_cases c : a < b <;> simp [tr, c]] at h
theorem eql_E (a b : Int) : EvTo (fun k => ops_Two.f k ⟨#[61, 61]⟩ 1 a ⟨#[]⟩ 1 b ⟨#[]⟩) (whole (if a = b then 1 else 0)) := by
  have h := ints_E ⟨#[61, 61]⟩ a b
  rwa [show twoS (L ⟨#[61, 61]⟩) (int a) (int b) = whole (if a = b then 1 else 0) by
    show tr (sameV (int a) (int b)) = _
    by_cases c : a = b <;> simp [tr, sameV, int, c]] at h

theorem back {a b : Int} (h : I64 a) : wrap64 (wrap64 (wrap64 (Int.tdiv a b) * b) + Int.tmod a b) = a := by
  obtain ⟨t, ht⟩ := wrap_by (Int.tdiv a b)
  obtain ⟨u, hu⟩ := wrap_by (wrap64 (Int.tdiv a b) * b)
  refine wrap_of (t := t * b + u) ?_ h
  rw [hu, ht, Int.add_mul, Int.mul_assoc, Int.mul_add]
  have := Int.tdiv_mul_add_tmod a b
  omega
theorem OpsInts : chrysalislaw17_OpsInts.Pure := by
  intro a b ha hb
  have ha := i64_of_wf ha
  have hb := i64_of_wf hb
  apply EvTo.one
  unfold chrysalislaw17_OpsInts.f
  simp only [chrysalisref17_Int.f, Option.bind_some]
  refine EvTo.bind (add_E a b) ?_
  refine EvTo.bind (sub_E _ b) ?_
  refine EvTo.bind (lss_E a b) ?_
  refine EvTo.bind (lss_E b a) ?_
  refine EvTo.bind (eql_E a b) ?_
  refine EvTo.pos rfl ?_
  refine EvTo.pos rfl ?_
  have e1 : wrap64 (wrap64 (a + b) - b) = a := by
    obtain ⟨t, ht⟩ := wrap_by (a + b)
    exact wrap_of (t := t) (by omega) ha
  refine EvTo.neg ?_ ?_
  · simp only [whole, e1, L_toList]; simp
  refine EvTo.pos rfl ?_
  refine EvTo.pos rfl ?_
  refine EvTo.pos rfl ?_
  have e2 : wrap64 (wrap64 ((if a < b then 1 else 0) + (if b < a then 1 else 0)) + (if a = b then 1 else 0)) = 1 := by
    rcases Int.lt_trichotomy a b with h | h | h
    · rw [if_pos h, if_neg (by omega), if_neg (by omega)]; unfold wrap64; omega
    · subst h; rw [if_neg (by omega), if_pos rfl]; unfold wrap64; omega
    · rw [if_neg (by omega), if_pos h, if_neg (by omega)]; unfold wrap64; omega
  refine EvTo.step (fun k => by rw [chrysalislaw17_OpsInts.j0]) ?_
  refine EvTo.neg ?_ ?_
  · simp only [whole, e2]; simp
  refine EvTo.bind (quo_E a b) ?_
  refine EvTo.bind (rem_E a b) ?_
  by_cases h0 : b = 0
  · refine EvTo.pos h0 ?_
    rw [if_pos h0, if_pos h0]
    refine EvTo.pos rfl ?_
    refine EvTo.pos rfl ?_
    exact known_B
  refine EvTo.neg h0 ?_
  rw [if_neg h0, if_neg h0]
  refine EvTo.bind (mul_E _ b) ?_
  refine EvTo.bind (add_E _ _) ?_
  refine EvTo.pos rfl ?_
  refine EvTo.pos rfl ?_
  refine EvTo.pos rfl ?_
  refine EvTo.pos rfl ?_
  refine EvTo.pos ?_ known_B
  have e3 := back (b := b) ha
  simp only [whole, e3, L_toList]; simp
end Go.Proofs.Ytmadbfahdnkecaa.Pure
