/- What the laws of layer 17 lean on: the known calls, ints of a value, sums beyond the bounds. -/
import Derived.Test.YtmadbfahdnkecaaOpsEq
import Derived.Test.YtmadbfahdnkecaaQ8
set_option linter.unusedVariables false
set_option linter.unusedSimpArgs false
namespace Go.Proofs.Ytmadbfahdnkecaa.Ops
open Go Go.RowKit Go.Proofs.YtmadbfahdnkecaaW.PrintWords Go.Proofs.Ytmadbfahdnkecaa.Q Go.Proofs.Ytmadbfahdnkecaa.Lex

theorem known_E : EvTo (fun k => chrysalislaw17_known.f k) true := EvTo.of_one (fun k r h => chrysalislaw17_known.mono k r h) 300 chrysalislaw17_known.at
theorem known_B : EvTo (fun k => (chrysalislaw17_known.f k).bind fun t => some t) true := EvTo.bind known_E EvTo.now

/-- An int of 64 bits. -/
def I64 (n : Int) : Prop := -9223372036854775808 ≤ n ∧ n ≤ 9223372036854775807
theorem i64_of_wf {n : Int} (h : (Lit.int .i64 n).wf = true) : I64 n := by
  simp only [Lit.wf, Bool.and_eq_true, decide_eq_true_eq] at h
  exact h
theorem wf_of_i64 {n : Int} (h : I64 n) : (Lit.int .i64 n).wf = true := by
  simp only [Lit.wf, Bool.and_eq_true, decide_eq_true_eq]
  exact h
theorem wrap_id {n : Int} (h : I64 n) : wrap64 n = n := by
  unfold I64 at h
  unfold wrap64
  omega
theorem wrap_i64 (n : Int) : I64 (wrap64 n) := by
  unfold I64 wrap64
  omega
/-- It differs by so many times 2^64. -/
theorem wrap_by (n : Int) : ∃ t, wrap64 n = n + 18446744073709551616 * t := by
  refine ⟨-((n + 9223372036854775808) / 18446744073709551616), ?_⟩
  unfold wrap64
  omega
theorem wrap_of {n m t : Int} (h : n = m + 18446744073709551616 * t) (hm : I64 m) : wrap64 n = m := by
  unfold I64 at hm
  unfold wrap64
  omega
end Go.Proofs.Ytmadbfahdnkecaa.Ops
