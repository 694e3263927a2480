/- Nodes as an argument, read as a list of them. -/
import Derived.Test.YtclhaajlgmiilaaOpen
import Derived.Test.YtclhaajlgmiilaaQ0
set_option linter.unusedVariables false
set_option linter.unusedSimpArgs false
namespace Go.Proofs.Ytclhaajlgmiilaa
open Go.RowKit Go.ChangeShapes Go.WideShapes Go.Proofs.YtclhaajlgmiilaaW.PrintWords Go.Proofs.Ytclhaajlgmiilaa.Q

def NodeB (l : List S36) : Prop := l.length ≤ maxLen ∧ ∀ x ∈ l, (Lit.int .i64 x.f0).wf = true ∧ (Lit.int .i64 x.f1).wf = true ∧ x.f2.size ≤ maxLen ∧ (Lit.int .i64 x.f3).wf = true ∧ x.f4.size ≤ maxLen
theorem opens_node {H : Type} (enc : TypeId × Value → H) (w : World) : Opens enc Try.prog w 36 k36 (fun x => (Lit.int .i64 x.f0).wf = true ∧ (Lit.int .i64 x.f1).wf = true ∧ x.f2.size ≤ maxLen ∧ (Lit.int .i64 x.f3).wf = true ∧ x.f4.size ≤ maxLen) :=
  Opens.iso (Opens.struct Try.underlying36 (by kernel_rfl) (OpensF.cons rfl (by kernel_rfl) (Opens.int Try.underlying3) (OpensF.cons rfl (by kernel_rfl) (Opens.int Try.underlying3) (OpensF.cons rfl (by kernel_rfl) (Opens.string Try.underlying9) (OpensF.cons rfl (by kernel_rfl) (Opens.int Try.underlying2) (OpensF.last rfl (by kernel_rfl) (Opens.string Try.underlying9)))))))
    (fun x : S36 => (x.f0, x.f1, x.f2, x.f3, x.f4)) (fun t => ⟨t.1, t.2.1, t.2.2.1, t.2.2.2.1, t.2.2.2.2⟩) (fun _ => rfl)
theorem opens_nodes {H : Type} (enc : TypeId × Value → H) (w : World) : Opens enc Try.prog w 22 (Kd.slice 36 k36) NodeB := Opens.slice (H := H) (enc := enc) (w := w) Try.underlying22 (by kernel_rfl) (opens_node enc w)
end Go.Proofs.Ytclhaajlgmiilaa
