/- A value by value, as an argument, read as its kind, its number and its text; arrays of three ints and of three texts. -/
import Derived.Test.YtmadbfahdnkecaaOpen
import Derived.Test.YtmadbfahdnkecaaOpsLaw
set_option linter.unusedVariables false
set_option linter.unusedSimpArgs false
namespace Go.Proofs.Ytmadbfahdnkecaa
open Go Go.RowKit Go.ChangeShapes Go.WideShapes Go.Proofs.YtmadbfahdnkecaaW.PrintWords Go.Proofs.Ytmadbfahdnkecaa.Ops

def ValB (a : V) : Prop := I64 a.1 ∧ I64 a.2.1 ∧ a.2.2.size ≤ maxLen
theorem opens_val {H : Type} (enc : TypeId × Value → H) (w : World) : Opens enc Try.prog w 23 (Kd.pair (Kd.int .i64) (Kd.pair (Kd.int .i64) Kd.string)) (fun x => (Lit.int .i64 x.1).wf = true ∧ (Lit.int .i64 x.2.1).wf = true ∧ x.2.2.size ≤ maxLen) :=
  Opens.struct Try.underlying23 (by kernel_rfl) (OpensF.cons rfl (by kernel_rfl) (Opens.int Try.underlying3) (OpensF.cons rfl (by kernel_rfl) (Opens.int Try.underlying2) (OpensF.last rfl (by kernel_rfl) (Opens.string Try.underlying9))))
theorem val_open {H : Type} {enc : TypeId × Value → H} {W : World} {cs : Array Value} {d : DataW H} {p : List MemPlace} (h : DataW.Trod enc Try.prog W 0 (fun _ => true) true 23 (.agg cs) d p) :
    ∃ a : V, cs = #[.int .i64 a.1, .int .i64 a.2.1, .string a.2.2] ∧ ValB a := by
  obtain ⟨fuel, hf⟩ := h
  obtain ⟨a, ⟨_, _, e, h1, ⟨_, _, e2, h2, h3⟩⟩, hb⟩ := opens_val enc W fuel _ _ hf
  refine ⟨a, ?_, i64_of_wf hb.1, i64_of_wf hb.2.1, hb.2.2⟩
  have h1 : _ = [Value.int .i64 a.1] := h1
  have h2 : _ = [Value.int .i64 a.2.1] := h2
  have h3 : _ = [Value.string a.2.2] := h3
  rw [e2, h1, h2, h3] at e
  have e : cs.toList = [Value.int .i64 a.1, Value.int .i64 a.2.1, Value.string a.2.2] := e
  obtain ⟨l⟩ := cs
  exact congrArg Array.mk e
end Go.Proofs.Ytmadbfahdnkecaa
