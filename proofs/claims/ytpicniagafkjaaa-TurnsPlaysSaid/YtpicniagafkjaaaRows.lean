/-
  No cell of these rows narrows 'for every input' (looked for: loops, veiled, ifaces, maps, wideKeys, modest, calm, conditions, laid).
  DERIVED. THE GIVEN ROWS OF THIS SEAT. 4 by the template 'for every input the law returns true; each argument reads behind the call as it read before'; 0 by the template 'total and deterministic' (their statements: YtpicniagafkjaaaTotals.lean).
  GIVEN WITH THE SEED: the statements are not yours to turn. If you find one false, say at which input.
  Laid BY PROGRAM, IN A SANDBOX (cutbox-rows.mjs): the forced cells as the released guide's own fill.sh prints them over the translation acb8da8890f10432… (all of the seat's roots in one cut). By AI agents, Wed Nov 11 2026. No macro, syntax, notation, axiom, sorry.
-/
import Derived.Test.YtpicniagafkjaaaChecked
import GoSem.Claim
import GoSem.ClaimJoined
import GoSem.ClaimMapViews
import Derived.JoinedTies
import Derived.KernelRfl
namespace Go.Proofs.Ytpicniagafkjaaa
/- THE CELL 'sum', in the pinned program and in every row, IS THE sha256 OF THE DUMP (.gsa) THAT YtpicniagafkjaaaProg.lean LOADS. Nothing in Lean hashes anything: it is a label: what it is worth is what the hold of that sum in a sandbox is worth. -/
noncomputable def Try.pinned : Pinned := { name := "ytpicniagafkjaaa", sum := "acb8da8890f10432239d435551fc3080101c98ca10d5b32e37eb209535f87f3b", checked := Try.checked }
namespace Rows
def none {H : Type} : Left H := { results := [], args := [] }

/-- 'chrysalislaw28.TurnsRound': WHATEVER THE INPUT: true; the input reads as it did. -/
def turnsRoundSpec : ChangeSpec := { name := "turnsRound", fn := fun _ => fun
  | [d1, d2] => { results := [.lit (.bool true)], args := [d1, d2] }
  | _ => none }
def turnsRoundRow : OpenClaim := { program := "ytpicniagafkjaaa", sum := "acb8da8890f10432239d435551fc3080101c98ca10d5b32e37eb209535f87f3b", func := "chrysalis/chrysalislaw28.TurnsRound", spec := "turnsRound", apart := false }
def TurnsRoundSaid : Prop := turnsRoundRow.holds Try.pinned (OpenSpec.ofChange turnsRoundSpec)

/-- ITS FALSE NEIGHBOUR: 'it returns false'. Refute it at one input. -/
def turnsRoundWrong : ChangeSpec := { name := "turnsRound", fn := fun _ => fun
  | [d1, d2] => { results := [.lit (.bool false)], args := [d1, d2] }
  | _ => none }
def TurnsRoundWrongFalsely : Prop := turnsRoundRow.holds Try.pinned (OpenSpec.ofChange turnsRoundWrong)

/-- 'chrysalislaw28.TurnsLeast': WHATEVER THE INPUT: true; the input reads as it did. -/
def turnsLeastSpec : ChangeSpec := { name := "turnsLeast", fn := fun _ => fun
  | [d1, d2] => { results := [.lit (.bool true)], args := [d1, d2] }
  | _ => none }
def turnsLeastRow : OpenClaim := { program := "ytpicniagafkjaaa", sum := "acb8da8890f10432239d435551fc3080101c98ca10d5b32e37eb209535f87f3b", func := "chrysalis/chrysalislaw28.TurnsLeast", spec := "turnsLeast", apart := false }
def TurnsLeastSaid : Prop := turnsLeastRow.holds Try.pinned (OpenSpec.ofChange turnsLeastSpec)

/-- ITS FALSE NEIGHBOUR: 'it returns false'. Refute it at one input. -/
def turnsLeastWrong : ChangeSpec := { name := "turnsLeast", fn := fun _ => fun
  | [d1, d2] => { results := [.lit (.bool false)], args := [d1, d2] }
  | _ => none }
def TurnsLeastWrongFalsely : Prop := turnsLeastRow.holds Try.pinned (OpenSpec.ofChange turnsLeastWrong)

/-- 'chrysalislaw28.TurnsPlays': WHATEVER THE INPUT: true; the input reads as it did. -/
def turnsPlaysSpec : ChangeSpec := { name := "turnsPlays", fn := fun _ => fun
  | [d] => { results := [.lit (.bool true)], args := [d] }
  | _ => none }
def turnsPlaysRow : OpenClaim := { program := "ytpicniagafkjaaa", sum := "acb8da8890f10432239d435551fc3080101c98ca10d5b32e37eb209535f87f3b", func := "chrysalis/chrysalislaw28.TurnsPlays", spec := "turnsPlays", apart := false }
def TurnsPlaysSaid : Prop := turnsPlaysRow.holds Try.pinned (OpenSpec.ofChange turnsPlaysSpec)

/-- ITS FALSE NEIGHBOUR: 'it returns false'. Refute it at one input. -/
def turnsPlaysWrong : ChangeSpec := { name := "turnsPlays", fn := fun _ => fun
  | [d] => { results := [.lit (.bool false)], args := [d] }
  | _ => none }
def TurnsPlaysWrongFalsely : Prop := turnsPlaysRow.holds Try.pinned (OpenSpec.ofChange turnsPlaysWrong)

/-- 'chrysalislaw28.TurnsNil': WHATEVER THE INPUT: true; the input reads as it did. -/
def turnsNilSpec : ChangeSpec := { name := "turnsNil", fn := fun _ => fun
  | [d1, d2] => { results := [.lit (.bool true)], args := [d1, d2] }
  | _ => none }
def turnsNilRow : OpenClaim := { program := "ytpicniagafkjaaa", sum := "acb8da8890f10432239d435551fc3080101c98ca10d5b32e37eb209535f87f3b", func := "chrysalis/chrysalislaw28.TurnsNil", spec := "turnsNil", apart := false }
def TurnsNilSaid : Prop := turnsNilRow.holds Try.pinned (OpenSpec.ofChange turnsNilSpec)

/-- ITS FALSE NEIGHBOUR: 'it returns false'. Refute it at one input. -/
def turnsNilWrong : ChangeSpec := { name := "turnsNil", fn := fun _ => fun
  | [d1, d2] => { results := [.lit (.bool false)], args := [d1, d2] }
  | _ => none }
def TurnsNilWrongFalsely : Prop := turnsNilRow.holds Try.pinned (OpenSpec.ofChange turnsNilWrong)

/- THE SECOND FORM. 'bulk': how many values and letters a reading holds, each counted each time it is reached (what is shared counts as often as it is met; a slice's spare places count too). A statement '..UptoSaid' is the law's where the arguments, and the package variables that the reading takes, are together of bulk at most 1048576: NARROWER than '..Said'. Prove '..Said' where nothing that the law and all that it calls make is longer than what came in: it says more and counts as full. Else prove '..UptoSaid'. A law counts once. -/
mutual
def uptoBulk {H : Type} : DataW H → Nat
  | .lit (.string bytes) => bytes.length + 1
  | .lit _ => 1
  | .nil => 1
  | .ptr d => uptoBulk d + 1
  | .slice elems spare => uptoBulkAll elems + uptoBulkAll spare + 1
  | .agg parts => uptoBulkAll parts + 1
  | .iface _ d => uptoBulk d + 1
  | .map entries => uptoBulkEntries entries + 1
  | .held _ => 1
def uptoBulkAll {H : Type} : List (DataW H) → Nat
  | [] => 0
  | d :: r => uptoBulk d + uptoBulkAll r
def uptoBulkEntries {H : Type} : List (Lit × DataW H) → Nat
  | [] => 0
  | x :: r => uptoBulkEntry x + uptoBulkEntries r
def uptoBulkEntry {H : Type} : Lit × DataW H → Nat
  | (.string bytes, d) => bytes.length + uptoBulk d + 1
  | (_, d) => uptoBulk d + 1
 end
def uptoSmall : (H : Type) → List (DataW H) → Bool := fun _ ds => decide (uptoBulkAll ds ≤ 1048576)
def OpenSpec.upto (s : _root_.Go.ChangeSpec) : _root_.Go.OpenSpec := { _root_.Go.OpenSpec.ofChange s with cond := some uptoSmall }

/-- 'chrysalislaw28.TurnsRound', WHERE WHAT IT READS IS OF BULK AT MOST 1048576: true; the input reads as it did. -/
def turnsRoundUptoRow : OpenClaim := { program := "ytpicniagafkjaaa", sum := "acb8da8890f10432239d435551fc3080101c98ca10d5b32e37eb209535f87f3b", func := "chrysalis/chrysalislaw28.TurnsRound", spec := "turnsRound", apart := false, narrowed := true }
def TurnsRoundUptoSaid : Prop := turnsRoundUptoRow.holds Try.pinned (OpenSpec.upto turnsRoundSpec)

/-- 'chrysalislaw28.TurnsLeast', WHERE WHAT IT READS IS OF BULK AT MOST 1048576: true; the input reads as it did. -/
def turnsLeastUptoRow : OpenClaim := { program := "ytpicniagafkjaaa", sum := "acb8da8890f10432239d435551fc3080101c98ca10d5b32e37eb209535f87f3b", func := "chrysalis/chrysalislaw28.TurnsLeast", spec := "turnsLeast", apart := false, narrowed := true }
def TurnsLeastUptoSaid : Prop := turnsLeastUptoRow.holds Try.pinned (OpenSpec.upto turnsLeastSpec)

/-- 'chrysalislaw28.TurnsPlays', WHERE WHAT IT READS IS OF BULK AT MOST 1048576: true; the input reads as it did. -/
def turnsPlaysUptoRow : OpenClaim := { program := "ytpicniagafkjaaa", sum := "acb8da8890f10432239d435551fc3080101c98ca10d5b32e37eb209535f87f3b", func := "chrysalis/chrysalislaw28.TurnsPlays", spec := "turnsPlays", apart := false, narrowed := true }
def TurnsPlaysUptoSaid : Prop := turnsPlaysUptoRow.holds Try.pinned (OpenSpec.upto turnsPlaysSpec)

/-- 'chrysalislaw28.TurnsNil', WHERE WHAT IT READS IS OF BULK AT MOST 1048576: true; the input reads as it did. -/
def turnsNilUptoRow : OpenClaim := { program := "ytpicniagafkjaaa", sum := "acb8da8890f10432239d435551fc3080101c98ca10d5b32e37eb209535f87f3b", func := "chrysalis/chrysalislaw28.TurnsNil", spec := "turnsNil", apart := false, narrowed := true }
def TurnsNilUptoSaid : Prop := turnsNilUptoRow.holds Try.pinned (OpenSpec.upto turnsNilSpec)

end Rows
end Go.Proofs.Ytpicniagafkjaaa
