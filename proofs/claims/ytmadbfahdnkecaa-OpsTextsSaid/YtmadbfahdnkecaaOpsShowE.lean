/- What ops.Show comes to; the texts quoted as layer 8 quotes them. -/
import Derived.Test.YtmadbfahdnkecaaOpsLaw
import Derived.Test.YtmadbfahdnkecaaLexEq2
import Derived.Test.YtmadbfahdnkecaaQ6
set_option linter.unusedVariables false
set_option linter.unusedSimpArgs false
namespace Go.Proofs.Ytmadbfahdnkecaa.Ops
open Go Go.RowKit Go.Proofs.YtmadbfahdnkecaaW.PrintWords Go.Proofs.Ytmadbfahdnkecaa.Q Go.Proofs.Ytmadbfahdnkecaa.Lex

/-- A value as text. -/
def showS (a : V) : ByteArray := if a.1 = 1 then strOfNums (digitNums a.2.1) else if a.1 = 2 then S (quo (L a.2.2)) else if a.1 = 3 then ⟨#[116, 97, 98, 108, 101]⟩ else if a.1 = 4 then ⟨#[102, 110]⟩ else if a.1 = 5 then ⟨#[99, 111]⟩ else ⟨#[110, 105, 108]⟩
theorem Show_E (a : V) (hn : I64 a.2.1) (hs : a.2.2.size ≤ 70368744177000) : EvTo (fun k => ops_Show.f k a.1 a.2.1 a.2.2) (showS a) := by
  unfold ops_Show.f showS
  have hd : opsDigits.f a.2.1 = some (strOfNums (digitNums a.2.1)) := by unfold opsDigits.f; exact if_pos hn
  simp only [hd, Option.bind_some]
  by_cases c1 : a.1 = 1
  · rw [if_pos c1]; exact EvTo.pos c1 EvTo.now
  rw [if_neg c1]; refine EvTo.neg c1 ?_
  by_cases c2 : a.1 = 2
  · rw [if_pos c2]; exact EvTo.pos c2 (EvTo.bind (Quote_f _ hs) EvTo.now)
  rw [if_neg c2]; refine EvTo.neg c2 (EvTo.of_eq fun k => ?_)
  repeat' split
  all_goals rfl
end Go.Proofs.Ytmadbfahdnkecaa.Ops
