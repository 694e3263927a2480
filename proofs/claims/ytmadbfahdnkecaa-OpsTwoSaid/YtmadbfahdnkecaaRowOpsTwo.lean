/- The walk of OpsTwo, for every operation and all values. -/
import Derived.Test.YtmadbfahdnkecaaPureOpsTwo
import Derived.Test.YtmadbfahdnkecaaRowVal
set_option linter.unusedVariables false
set_option linter.unusedSimpArgs false
namespace Go.Proofs.Ytmadbfahdnkecaa
open Go Go.RowKit Go.Proofs.YtmadbfahdnkecaaW.PrintWords Go.Proofs.Ytmadbfahdnkecaa.Q Go.Proofs.Ytmadbfahdnkecaa.Ops

theorem two_row (o : ByteArray) (a b : V) (w : World) (_ : o.size ≤ 140737488351232) (_ : ValB a) (_ : ValB b) :
    Calls Try.prog 6 #[.string o, .agg #[.int .i64 a.1, .int .i64 a.2.1, .string a.2.2], .agg #[.int .i64 b.1, .int .i64 b.2.1, .string b.2.2]] w fun e w' => e = .returned (.bool true) ∧ Below w.heap.size w w' := by
  obtain ⟨k, hk⟩ := Pure.OpsTwo o a b
  exact chrysalislaw17_OpsTwo.calls k o a.1 a.2.1 a.2.2 b.1 b.2.1 b.2.2 true w hk rfl
end Go.Proofs.Ytmadbfahdnkecaa
