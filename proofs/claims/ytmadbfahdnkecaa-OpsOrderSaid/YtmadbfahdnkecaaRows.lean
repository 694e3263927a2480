/-
  No cell of these rows narrows 'for every input' (looked for: loops, veiled, ifaces, maps, wideKeys, modest, calm, conditions, laid).
  DERIVED. THE GIVEN ROWS OF THIS SEAT. 6 by the template 'for every input the law returns true; each argument reads behind the call as it read before'; 0 by the template 'total and deterministic' (their statements: YtmadbfahdnkecaaTotals.lean).
  GIVEN WITH THE SEED: the statements are not yours to turn. If you find one false, say at which input.
  Laid BY PROGRAM, IN A SANDBOX (cutbox-rows.mjs): the forced cells as the released guide's own fill.sh prints them over the translation 52ec9010c9b49b18… (all of the seat's roots in one cut). By AI agents, Wed Nov 11 2026. No macro, syntax, notation, axiom, sorry.
-/
import Derived.Test.YtmadbfahdnkecaaChecked
import GoSem.Claim
import GoSem.ClaimJoined
import GoSem.ClaimMapViews
import Derived.JoinedTies
import Derived.KernelRfl
namespace Go.Proofs.Ytmadbfahdnkecaa
/- THE CELL 'sum', in the pinned program and in every row, IS THE sha256 OF THE DUMP (.gsa) THAT YtmadbfahdnkecaaProg.lean LOADS. Nothing in Lean hashes anything: it is a label: what it is worth is what the hold of that sum in a sandbox is worth. -/
noncomputable def Try.pinned : Pinned := { name := "ytmadbfahdnkecaa", sum := "52ec9010c9b49b18e6e1ede6a4d4d474cecaea1a8b3e89f89c694c39b7ca130c", checked := Try.checked }
namespace Rows
def none {H : Type} : Left H := { results := [], args := [] }

/-- 'chrysalislaw17.OpsInts': WHATEVER THE INPUT: true; the input reads as it did. -/
def opsIntsSpec : ChangeSpec := { name := "opsInts", fn := fun _ => fun
  | [d1, d2] => { results := [.lit (.bool true)], args := [d1, d2] }
  | _ => none }
def opsIntsRow : OpenClaim := { program := "ytmadbfahdnkecaa", sum := "52ec9010c9b49b18e6e1ede6a4d4d474cecaea1a8b3e89f89c694c39b7ca130c", func := "chrysalis/chrysalislaw17.OpsInts", spec := "opsInts", apart := false }
def OpsIntsSaid : Prop := opsIntsRow.holds Try.pinned (OpenSpec.ofChange opsIntsSpec)

/-- ITS FALSE NEIGHBOUR: 'it returns false'. Refute it at one input. -/
def opsIntsWrong : ChangeSpec := { name := "opsInts", fn := fun _ => fun
  | [d1, d2] => { results := [.lit (.bool false)], args := [d1, d2] }
  | _ => none }
def OpsIntsWrongFalsely : Prop := opsIntsRow.holds Try.pinned (OpenSpec.ofChange opsIntsWrong)

/-- 'chrysalislaw17.OpsOrder': WHATEVER THE INPUT: true; the input reads as it did. -/
def opsOrderSpec : ChangeSpec := { name := "opsOrder", fn := fun _ => fun
  | [d1, d2] => { results := [.lit (.bool true)], args := [d1, d2] }
  | _ => none }
def opsOrderRow : OpenClaim := { program := "ytmadbfahdnkecaa", sum := "52ec9010c9b49b18e6e1ede6a4d4d474cecaea1a8b3e89f89c694c39b7ca130c", func := "chrysalis/chrysalislaw17.OpsOrder", spec := "opsOrder", apart := false }
def OpsOrderSaid : Prop := opsOrderRow.holds Try.pinned (OpenSpec.ofChange opsOrderSpec)

/-- ITS FALSE NEIGHBOUR: 'it returns false'. Refute it at one input. -/
def opsOrderWrong : ChangeSpec := { name := "opsOrder", fn := fun _ => fun
  | [d1, d2] => { results := [.lit (.bool false)], args := [d1, d2] }
  | _ => none }
def OpsOrderWrongFalsely : Prop := opsOrderRow.holds Try.pinned (OpenSpec.ofChange opsOrderWrong)

/-- 'chrysalislaw17.OpsShows': WHATEVER THE INPUT: true; the input reads as it did. -/
def opsShowsSpec : ChangeSpec := { name := "opsShows", fn := fun _ => fun
  | [d1, d2] => { results := [.lit (.bool true)], args := [d1, d2] }
  | _ => none }
def opsShowsRow : OpenClaim := { program := "ytmadbfahdnkecaa", sum := "52ec9010c9b49b18e6e1ede6a4d4d474cecaea1a8b3e89f89c694c39b7ca130c", func := "chrysalis/chrysalislaw17.OpsShows", spec := "opsShows", apart := false }
def OpsShowsSaid : Prop := opsShowsRow.holds Try.pinned (OpenSpec.ofChange opsShowsSpec)

/-- ITS FALSE NEIGHBOUR: 'it returns false'. Refute it at one input. -/
def opsShowsWrong : ChangeSpec := { name := "opsShows", fn := fun _ => fun
  | [d1, d2] => { results := [.lit (.bool false)], args := [d1, d2] }
  | _ => none }
def OpsShowsWrongFalsely : Prop := opsShowsRow.holds Try.pinned (OpenSpec.ofChange opsShowsWrong)

/-- 'chrysalislaw17.OpsTwo': WHATEVER THE INPUT: true; the input reads as it did. -/
def opsTwoSpec : ChangeSpec := { name := "opsTwo", fn := fun _ => fun
  | [d1, d2, d3] => { results := [.lit (.bool true)], args := [d1, d2, d3] }
  | _ => none }
def opsTwoRow : OpenClaim := { program := "ytmadbfahdnkecaa", sum := "52ec9010c9b49b18e6e1ede6a4d4d474cecaea1a8b3e89f89c694c39b7ca130c", func := "chrysalis/chrysalislaw17.OpsTwo", spec := "opsTwo", apart := false }
def OpsTwoSaid : Prop := opsTwoRow.holds Try.pinned (OpenSpec.ofChange opsTwoSpec)

/-- ITS FALSE NEIGHBOUR: 'it returns false'. Refute it at one input. -/
def opsTwoWrong : ChangeSpec := { name := "opsTwo", fn := fun _ => fun
  | [d1, d2, d3] => { results := [.lit (.bool false)], args := [d1, d2, d3] }
  | _ => none }
def OpsTwoWrongFalsely : Prop := opsTwoRow.holds Try.pinned (OpenSpec.ofChange opsTwoWrong)

/-- 'chrysalislaw17.OpsOne': WHATEVER THE INPUT: true; the input reads as it did. -/
def opsOneSpec : ChangeSpec := { name := "opsOne", fn := fun _ => fun
  | [d1, d2] => { results := [.lit (.bool true)], args := [d1, d2] }
  | _ => none }
def opsOneRow : OpenClaim := { program := "ytmadbfahdnkecaa", sum := "52ec9010c9b49b18e6e1ede6a4d4d474cecaea1a8b3e89f89c694c39b7ca130c", func := "chrysalis/chrysalislaw17.OpsOne", spec := "opsOne", apart := false }
def OpsOneSaid : Prop := opsOneRow.holds Try.pinned (OpenSpec.ofChange opsOneSpec)

/-- ITS FALSE NEIGHBOUR: 'it returns false'. Refute it at one input. -/
def opsOneWrong : ChangeSpec := { name := "opsOne", fn := fun _ => fun
  | [d1, d2] => { results := [.lit (.bool false)], args := [d1, d2] }
  | _ => none }
def OpsOneWrongFalsely : Prop := opsOneRow.holds Try.pinned (OpenSpec.ofChange opsOneWrong)

/-- 'chrysalislaw17.OpsTexts': WHATEVER THE INPUT: true; the input reads as it did. -/
def opsTextsSpec : ChangeSpec := { name := "opsTexts", fn := fun _ => fun
  | [d1, d2] => { results := [.lit (.bool true)], args := [d1, d2] }
  | _ => none }
def opsTextsRow : OpenClaim := { program := "ytmadbfahdnkecaa", sum := "52ec9010c9b49b18e6e1ede6a4d4d474cecaea1a8b3e89f89c694c39b7ca130c", func := "chrysalis/chrysalislaw17.OpsTexts", spec := "opsTexts", unfollowed := true, recurses := true, apart := false }
def OpsTextsSaid : Prop := opsTextsRow.holds Try.pinned (OpenSpec.ofChange opsTextsSpec)

/-- ITS FALSE NEIGHBOUR: 'it returns false'. Refute it at one input. -/
def opsTextsWrong : ChangeSpec := { name := "opsTexts", fn := fun _ => fun
  | [d1, d2] => { results := [.lit (.bool false)], args := [d1, d2] }
  | _ => none }
def OpsTextsWrongFalsely : Prop := opsTextsRow.holds Try.pinned (OpenSpec.ofChange opsTextsWrong)

/- THE SECOND FORM. 'bulk': how many values and letters a reading holds, each counted each time it is reached (what is shared counts as often as it is met; a slice's spare places count too). A statement '..UptoSaid' is the law's where the arguments, and the package variables that the reading takes, are together of bulk at most 1048576: NARROWER than '..Said'. Prove '..Said' where nothing that the law and all that it calls make is longer than what came in: it says more and counts as full. Else prove '..UptoSaid'. A law counts once. -/
mutual
def uptoBulk {H : Type} : DataW H → Nat
  | .lit (.string bytes) => bytes.length + 1
  | .lit _ => 1
  | .nil => 1
  | .ptr d => uptoBulk d + 1
  | .slice elems spare => uptoBulkAll elems + uptoBulkAll spare + 1
  | .agg parts => uptoBulkAll parts + 1
  | .iface _ d => uptoBulk d + 1
  | .map entries => uptoBulkEntries entries + 1
  | .held _ => 1
def uptoBulkAll {H : Type} : List (DataW H) → Nat
  | [] => 0
  | d :: r => uptoBulk d + uptoBulkAll r
def uptoBulkEntries {H : Type} : List (Lit × DataW H) → Nat
  | [] => 0
  | x :: r => uptoBulkEntry x + uptoBulkEntries r
def uptoBulkEntry {H : Type} : Lit × DataW H → Nat
  | (.string bytes, d) => bytes.length + uptoBulk d + 1
  | (_, d) => uptoBulk d + 1
 end
def uptoSmall : (H : Type) → List (DataW H) → Bool := fun _ ds => decide (uptoBulkAll ds ≤ 1048576)
def OpenSpec.upto (s : _root_.Go.ChangeSpec) : _root_.Go.OpenSpec := { _root_.Go.OpenSpec.ofChange s with cond := some uptoSmall }

/-- 'chrysalislaw17.OpsInts', WHERE WHAT IT READS IS OF BULK AT MOST 1048576: true; the input reads as it did. -/
def opsIntsUptoRow : OpenClaim := { program := "ytmadbfahdnkecaa", sum := "52ec9010c9b49b18e6e1ede6a4d4d474cecaea1a8b3e89f89c694c39b7ca130c", func := "chrysalis/chrysalislaw17.OpsInts", spec := "opsInts", apart := false, narrowed := true }
def OpsIntsUptoSaid : Prop := opsIntsUptoRow.holds Try.pinned (OpenSpec.upto opsIntsSpec)

/-- 'chrysalislaw17.OpsOrder', WHERE WHAT IT READS IS OF BULK AT MOST 1048576: true; the input reads as it did. -/
def opsOrderUptoRow : OpenClaim := { program := "ytmadbfahdnkecaa", sum := "52ec9010c9b49b18e6e1ede6a4d4d474cecaea1a8b3e89f89c694c39b7ca130c", func := "chrysalis/chrysalislaw17.OpsOrder", spec := "opsOrder", apart := false, narrowed := true }
def OpsOrderUptoSaid : Prop := opsOrderUptoRow.holds Try.pinned (OpenSpec.upto opsOrderSpec)

/-- 'chrysalislaw17.OpsShows', WHERE WHAT IT READS IS OF BULK AT MOST 1048576: true; the input reads as it did. -/
def opsShowsUptoRow : OpenClaim := { program := "ytmadbfahdnkecaa", sum := "52ec9010c9b49b18e6e1ede6a4d4d474cecaea1a8b3e89f89c694c39b7ca130c", func := "chrysalis/chrysalislaw17.OpsShows", spec := "opsShows", apart := false, narrowed := true }
def OpsShowsUptoSaid : Prop := opsShowsUptoRow.holds Try.pinned (OpenSpec.upto opsShowsSpec)

/-- 'chrysalislaw17.OpsTwo', WHERE WHAT IT READS IS OF BULK AT MOST 1048576: true; the input reads as it did. -/
def opsTwoUptoRow : OpenClaim := { program := "ytmadbfahdnkecaa", sum := "52ec9010c9b49b18e6e1ede6a4d4d474cecaea1a8b3e89f89c694c39b7ca130c", func := "chrysalis/chrysalislaw17.OpsTwo", spec := "opsTwo", apart := false, narrowed := true }
def OpsTwoUptoSaid : Prop := opsTwoUptoRow.holds Try.pinned (OpenSpec.upto opsTwoSpec)

/-- 'chrysalislaw17.OpsOne', WHERE WHAT IT READS IS OF BULK AT MOST 1048576: true; the input reads as it did. -/
def opsOneUptoRow : OpenClaim := { program := "ytmadbfahdnkecaa", sum := "52ec9010c9b49b18e6e1ede6a4d4d474cecaea1a8b3e89f89c694c39b7ca130c", func := "chrysalis/chrysalislaw17.OpsOne", spec := "opsOne", apart := false, narrowed := true }
def OpsOneUptoSaid : Prop := opsOneUptoRow.holds Try.pinned (OpenSpec.upto opsOneSpec)

/-- 'chrysalislaw17.OpsTexts', WHERE WHAT IT READS IS OF BULK AT MOST 1048576: true; the input reads as it did. -/
def opsTextsUptoRow : OpenClaim := { program := "ytmadbfahdnkecaa", sum := "52ec9010c9b49b18e6e1ede6a4d4d474cecaea1a8b3e89f89c694c39b7ca130c", func := "chrysalis/chrysalislaw17.OpsTexts", spec := "opsTexts", unfollowed := true, recurses := true, apart := false, narrowed := true }
def OpsTextsUptoSaid : Prop := opsTextsUptoRow.holds Try.pinned (OpenSpec.upto opsTextsSpec)

end Rows
end Go.Proofs.Ytmadbfahdnkecaa
