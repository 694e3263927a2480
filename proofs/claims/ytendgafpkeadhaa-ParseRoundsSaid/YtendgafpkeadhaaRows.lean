/-
  No cell of these rows narrows 'for every input' (looked for: loops, veiled, ifaces, maps, wideKeys, modest, calm, conditions, laid).
  DERIVED. THE GIVEN ROWS OF THIS SEAT. 5 by the template 'for every input the law returns true; each argument reads behind the call as it read before'; 0 by the template 'total and deterministic' (their statements: YtendgafpkeadhaaTotals.lean).
  GIVEN WITH THE SEED: the statements are not yours to turn. If you find one false, say at which input.
  Laid BY PROGRAM, IN A SANDBOX (cutbox-rows.mjs): the forced cells as the released guide's own fill.sh prints them over the translation 2b69b5f82857a46b… (all of the seat's roots in one cut). By AI agents, Wed Nov 11 2026. No macro, syntax, notation, axiom, sorry.
-/
import Derived.Test.YtendgafpkeadhaaChecked
import GoSem.Claim
import GoSem.ClaimJoined
import GoSem.ClaimMapViews
import Derived.JoinedTies
import Derived.KernelRfl
namespace Go.Proofs.Ytendgafpkeadhaa
/- THE CELL 'sum', in the pinned program and in every row, IS THE sha256 OF THE DUMP (.gsa) THAT YtendgafpkeadhaaProg.lean LOADS. Nothing in Lean hashes anything: it is a label: what it is worth is what the hold of that sum in a sandbox is worth. -/
noncomputable def Try.pinned : Pinned := { name := "ytendgafpkeadhaa", sum := "2b69b5f82857a46beb598cdeb7ef235815258a40740e008953438f9c9984b7a0", checked := Try.checked }
namespace Rows
def none {H : Type} : Left H := { results := [], args := [] }

/-- 'chrysalislaw10.ParseRight': WHATEVER THE INPUT: true; the input reads as it did. -/
def parseRightSpec : ChangeSpec := { name := "parseRight", fn := fun _ => fun
  | [d] => { results := [.lit (.bool true)], args := [d] }
  | _ => none }
def parseRightRow : OpenClaim := { program := "ytendgafpkeadhaa", sum := "2b69b5f82857a46beb598cdeb7ef235815258a40740e008953438f9c9984b7a0", func := "chrysalis/chrysalislaw10.ParseRight", spec := "parseRight", unfollowed := true, recurses := true, apart := false }
def ParseRightSaid : Prop := parseRightRow.holds Try.pinned (OpenSpec.ofChange parseRightSpec)

/-- ITS FALSE NEIGHBOUR: 'it returns false'. Refute it at one input. -/
def parseRightWrong : ChangeSpec := { name := "parseRight", fn := fun _ => fun
  | [d] => { results := [.lit (.bool false)], args := [d] }
  | _ => none }
def ParseRightWrongFalsely : Prop := parseRightRow.holds Try.pinned (OpenSpec.ofChange parseRightWrong)

/-- 'chrysalislaw10.ParseRounds': WHATEVER THE INPUT: true; the input reads as it did. -/
def parseRoundsSpec : ChangeSpec := { name := "parseRounds", fn := fun _ => fun
  | [d1, d2] => { results := [.lit (.bool true)], args := [d1, d2] }
  | _ => none }
def parseRoundsRow : OpenClaim := { program := "ytendgafpkeadhaa", sum := "2b69b5f82857a46beb598cdeb7ef235815258a40740e008953438f9c9984b7a0", func := "chrysalis/chrysalislaw10.ParseRounds", spec := "parseRounds", unfollowed := true, recurses := true, apart := false }
def ParseRoundsSaid : Prop := parseRoundsRow.holds Try.pinned (OpenSpec.ofChange parseRoundsSpec)

/-- ITS FALSE NEIGHBOUR: 'it returns false'. Refute it at one input. -/
def parseRoundsWrong : ChangeSpec := { name := "parseRounds", fn := fun _ => fun
  | [d1, d2] => { results := [.lit (.bool false)], args := [d1, d2] }
  | _ => none }
def ParseRoundsWrongFalsely : Prop := parseRoundsRow.holds Try.pinned (OpenSpec.ofChange parseRoundsWrong)

/-- 'chrysalislaw10.ParseFirst': WHATEVER THE INPUT: true; the input reads as it did. -/
def parseFirstSpec : ChangeSpec := { name := "parseFirst", fn := fun _ => fun
  | [d1, d2] => { results := [.lit (.bool true)], args := [d1, d2] }
  | _ => none }
def parseFirstRow : OpenClaim := { program := "ytendgafpkeadhaa", sum := "2b69b5f82857a46beb598cdeb7ef235815258a40740e008953438f9c9984b7a0", func := "chrysalis/chrysalislaw10.ParseFirst", spec := "parseFirst", unfollowed := true, recurses := true, apart := false }
def ParseFirstSaid : Prop := parseFirstRow.holds Try.pinned (OpenSpec.ofChange parseFirstSpec)

/-- ITS FALSE NEIGHBOUR: 'it returns false'. Refute it at one input. -/
def parseFirstWrong : ChangeSpec := { name := "parseFirst", fn := fun _ => fun
  | [d1, d2] => { results := [.lit (.bool false)], args := [d1, d2] }
  | _ => none }
def ParseFirstWrongFalsely : Prop := parseFirstRow.holds Try.pinned (OpenSpec.ofChange parseFirstWrong)

/-- 'chrysalislaw10.ParseMore': WHATEVER THE INPUT: true; the input reads as it did. -/
def parseMoreSpec : ChangeSpec := { name := "parseMore", fn := fun _ => fun
  | [d1, d2] => { results := [.lit (.bool true)], args := [d1, d2] }
  | _ => none }
def parseMoreRow : OpenClaim := { program := "ytendgafpkeadhaa", sum := "2b69b5f82857a46beb598cdeb7ef235815258a40740e008953438f9c9984b7a0", func := "chrysalis/chrysalislaw10.ParseMore", spec := "parseMore", unfollowed := true, recurses := true, apart := false }
def ParseMoreSaid : Prop := parseMoreRow.holds Try.pinned (OpenSpec.ofChange parseMoreSpec)

/-- ITS FALSE NEIGHBOUR: 'it returns false'. Refute it at one input. -/
def parseMoreWrong : ChangeSpec := { name := "parseMore", fn := fun _ => fun
  | [d1, d2] => { results := [.lit (.bool false)], args := [d1, d2] }
  | _ => none }
def ParseMoreWrongFalsely : Prop := parseMoreRow.holds Try.pinned (OpenSpec.ofChange parseMoreWrong)

/-- 'chrysalislaw10.ParseSpaces': WHATEVER THE INPUT: true; the input reads as it did. -/
def parseSpacesSpec : ChangeSpec := { name := "parseSpaces", fn := fun _ => fun
  | [d] => { results := [.lit (.bool true)], args := [d] }
  | _ => none }
def parseSpacesRow : OpenClaim := { program := "ytendgafpkeadhaa", sum := "2b69b5f82857a46beb598cdeb7ef235815258a40740e008953438f9c9984b7a0", func := "chrysalis/chrysalislaw10.ParseSpaces", spec := "parseSpaces", unfollowed := true, recurses := true, apart := false }
def ParseSpacesSaid : Prop := parseSpacesRow.holds Try.pinned (OpenSpec.ofChange parseSpacesSpec)

/-- ITS FALSE NEIGHBOUR: 'it returns false'. Refute it at one input. -/
def parseSpacesWrong : ChangeSpec := { name := "parseSpaces", fn := fun _ => fun
  | [d] => { results := [.lit (.bool false)], args := [d] }
  | _ => none }
def ParseSpacesWrongFalsely : Prop := parseSpacesRow.holds Try.pinned (OpenSpec.ofChange parseSpacesWrong)

/- THE SECOND FORM. 'bulk': how many values and letters a reading holds, each counted each time it is reached (what is shared counts as often as it is met; a slice's spare places count too). A statement '..UptoSaid' is the law's where the arguments, and the package variables that the reading takes, are together of bulk at most 1048576: NARROWER than '..Said'. Prove '..Said' where nothing that the law and all that it calls make is longer than what came in: it says more and counts as full. Else prove '..UptoSaid'. A law counts once. -/
mutual
def uptoBulk {H : Type} : DataW H → Nat
  | .lit (.string bytes) => bytes.length + 1
  | .lit _ => 1
  | .nil => 1
  | .ptr d => uptoBulk d + 1
  | .slice elems spare => uptoBulkAll elems + uptoBulkAll spare + 1
  | .agg parts => uptoBulkAll parts + 1
  | .iface _ d => uptoBulk d + 1
  | .map entries => uptoBulkEntries entries + 1
  | .held _ => 1
def uptoBulkAll {H : Type} : List (DataW H) → Nat
  | [] => 0
  | d :: r => uptoBulk d + uptoBulkAll r
def uptoBulkEntries {H : Type} : List (Lit × DataW H) → Nat
  | [] => 0
  | x :: r => uptoBulkEntry x + uptoBulkEntries r
def uptoBulkEntry {H : Type} : Lit × DataW H → Nat
  | (.string bytes, d) => bytes.length + uptoBulk d + 1
  | (_, d) => uptoBulk d + 1
 end
def uptoSmall : (H : Type) → List (DataW H) → Bool := fun _ ds => decide (uptoBulkAll ds ≤ 1048576)
def OpenSpec.upto (s : _root_.Go.ChangeSpec) : _root_.Go.OpenSpec := { _root_.Go.OpenSpec.ofChange s with cond := some uptoSmall }

/-- 'chrysalislaw10.ParseRight', WHERE WHAT IT READS IS OF BULK AT MOST 1048576: true; the input reads as it did. -/
def parseRightUptoRow : OpenClaim := { program := "ytendgafpkeadhaa", sum := "2b69b5f82857a46beb598cdeb7ef235815258a40740e008953438f9c9984b7a0", func := "chrysalis/chrysalislaw10.ParseRight", spec := "parseRight", unfollowed := true, recurses := true, apart := false, narrowed := true }
def ParseRightUptoSaid : Prop := parseRightUptoRow.holds Try.pinned (OpenSpec.upto parseRightSpec)

/-- 'chrysalislaw10.ParseRounds', WHERE WHAT IT READS IS OF BULK AT MOST 1048576: true; the input reads as it did. -/
def parseRoundsUptoRow : OpenClaim := { program := "ytendgafpkeadhaa", sum := "2b69b5f82857a46beb598cdeb7ef235815258a40740e008953438f9c9984b7a0", func := "chrysalis/chrysalislaw10.ParseRounds", spec := "parseRounds", unfollowed := true, recurses := true, apart := false, narrowed := true }
def ParseRoundsUptoSaid : Prop := parseRoundsUptoRow.holds Try.pinned (OpenSpec.upto parseRoundsSpec)

/-- 'chrysalislaw10.ParseFirst', WHERE WHAT IT READS IS OF BULK AT MOST 1048576: true; the input reads as it did. -/
def parseFirstUptoRow : OpenClaim := { program := "ytendgafpkeadhaa", sum := "2b69b5f82857a46beb598cdeb7ef235815258a40740e008953438f9c9984b7a0", func := "chrysalis/chrysalislaw10.ParseFirst", spec := "parseFirst", unfollowed := true, recurses := true, apart := false, narrowed := true }
def ParseFirstUptoSaid : Prop := parseFirstUptoRow.holds Try.pinned (OpenSpec.upto parseFirstSpec)

/-- 'chrysalislaw10.ParseMore', WHERE WHAT IT READS IS OF BULK AT MOST 1048576: true; the input reads as it did. -/
def parseMoreUptoRow : OpenClaim := { program := "ytendgafpkeadhaa", sum := "2b69b5f82857a46beb598cdeb7ef235815258a40740e008953438f9c9984b7a0", func := "chrysalis/chrysalislaw10.ParseMore", spec := "parseMore", unfollowed := true, recurses := true, apart := false, narrowed := true }
def ParseMoreUptoSaid : Prop := parseMoreUptoRow.holds Try.pinned (OpenSpec.upto parseMoreSpec)

/-- 'chrysalislaw10.ParseSpaces', WHERE WHAT IT READS IS OF BULK AT MOST 1048576: true; the input reads as it did. -/
def parseSpacesUptoRow : OpenClaim := { program := "ytendgafpkeadhaa", sum := "2b69b5f82857a46beb598cdeb7ef235815258a40740e008953438f9c9984b7a0", func := "chrysalis/chrysalislaw10.ParseSpaces", spec := "parseSpaces", unfollowed := true, recurses := true, apart := false, narrowed := true }
def ParseSpacesUptoSaid : Prop := parseSpacesUptoRow.holds Try.pinned (OpenSpec.upto parseSpacesSpec)

end Rows
end Go.Proofs.Ytendgafpkeadhaa
