/- The walk of LexTexts, for every list of tokens and every text. -/
import Derived.Test.YtkcnpnkcahgniaaPureLexTexts
import Derived.Test.YtkcnpnkcahgniaaOpen
set_option linter.unusedVariables false
set_option linter.unusedSimpArgs false
namespace Go.Proofs.Ytkcnpnkcahgniaa
open Go.RowKit Go.ChangeShapes Go.WideShapes Go.Proofs.YtkcnpnkcahgniaaW.PrintWords Go.Proofs.Ytkcnpnkcahgniaa.Q

def TokB (l : List S29) : Prop := l.length ≤ maxLen ∧ ∀ x ∈ l, (Lit.int .i64 x.f0).wf = true ∧ x.f1.size ≤ maxLen ∧ (Lit.int .i64 x.f2).wf = true ∧ (Lit.int .i64 x.f3).wf = true
theorem opens_tok {H : Type} (enc : TypeId × Value → H) (w : World) : Opens enc Try.prog w 29 k29 (fun x => (Lit.int .i64 x.f0).wf = true ∧ x.f1.size ≤ maxLen ∧ (Lit.int .i64 x.f2).wf = true ∧ (Lit.int .i64 x.f3).wf = true) :=
  Opens.iso (Opens.struct Try.underlying29 (by kernel_rfl) (OpensF.cons rfl (by kernel_rfl) (Opens.int Try.underlying3) (OpensF.cons rfl (by kernel_rfl) (Opens.string Try.underlying9) (OpensF.cons rfl (by kernel_rfl) (Opens.int Try.underlying2) (OpensF.last rfl (by kernel_rfl) (Opens.int Try.underlying3))))))
    (fun x : S29 => (x.f0, x.f1, x.f2, x.f3)) (fun t => ⟨t.1, t.2.1, t.2.2.1, t.2.2.2⟩) (fun _ => rfl)
theorem opens_toks {H : Type} (enc : TypeId × Value → H) (w : World) : Opens enc Try.prog w 23 (Kd.slice 29 k29) TokB := Opens.slice (H := H) (enc := enc) (w := w) Try.underlying23 (by kernel_rfl) (opens_tok enc w)
theorem texts_row (A : Option Addr) (len cap : Nat) (l : List S29) (s : ByteArray) (w : World) (h : Kd.C k29 w A len l) (hb : (l.length = len ∧ len ≤ cap) ∧ TokB l) (_ : s.size ≤ 140737488351232) :
    Calls Try.prog 8 #[.slice A len cap, .string s] w fun e w' => e = .returned (.bool true) ∧ Below w.heap.size w w' := by
  obtain ⟨⟨rfl, hc⟩, _⟩ := hb
  obtain ⟨k, hk⟩ := Pure.LexTexts l s
  exact chrysalislaw08_LexTexts.calls k A cap l s true w h hc hk
end Go.Proofs.Ytkcnpnkcahgniaa
