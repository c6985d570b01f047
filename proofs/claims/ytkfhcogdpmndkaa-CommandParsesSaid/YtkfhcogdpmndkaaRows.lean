/-
  No cell of these rows narrows 'for every input' (looked for: loops, veiled, ifaces, maps, wideKeys, modest, calm, conditions, laid).
  DERIVED. THE GIVEN ROWS OF THIS SEAT. 4 by the template 'for every input the law returns true; each argument reads behind the call as it read before'; 0 by the template 'total and deterministic' (their statements: YtkfhcogdpmndkaaTotals.lean).
  GIVEN WITH THE SEED: the statements are not yours to turn. If you find one false, say at which input.
  Laid BY PROGRAM, IN A SANDBOX (cutbox-rows.mjs): the forced cells as the released guide's own fill.sh prints them over the translation 2b89fbfd14615a31… (all of the seat's roots in one cut). By AI agents, Wed Nov 11 2026. No macro, syntax, notation, axiom, sorry.
-/
import Derived.Test.YtkfhcogdpmndkaaChecked
import GoSem.Claim
import GoSem.ClaimJoined
import GoSem.ClaimMapViews
import Derived.JoinedTies
import Derived.KernelRfl
namespace Go.Proofs.Ytkfhcogdpmndkaa
/- THE CELL 'sum', in the pinned program and in every row, IS THE sha256 OF THE DUMP (.gsa) THAT YtkfhcogdpmndkaaProg.lean LOADS. Nothing in Lean hashes anything: it is a label: what it is worth is what the hold of that sum in a sandbox is worth. -/
noncomputable def Try.pinned : Pinned := { name := "ytkfhcogdpmndkaa", sum := "2b89fbfd14615a31505df5706bc84cabded63826a86d699efab119cfa5a8eaf5", checked := Try.checked }
namespace Rows
def none {H : Type} : Left H := { results := [], args := [] }

/-- 'pontagelaw27.CommandApart': WHATEVER THE INPUT: true; the input reads as it did. -/
def commandApartSpec : ChangeSpec := { name := "commandApart", fn := fun _ => fun
  | [d1, d2] => { results := [.lit (.bool true)], args := [d1, d2] }
  | _ => none }
def commandApartRow : OpenClaim := { program := "ytkfhcogdpmndkaa", sum := "2b89fbfd14615a31505df5706bc84cabded63826a86d699efab119cfa5a8eaf5", func := "pontage/pontagelaw27.CommandApart", spec := "commandApart", apart := false }
def CommandApartSaid : Prop := commandApartRow.holds Try.pinned (OpenSpec.ofChange commandApartSpec)

/-- ITS FALSE NEIGHBOUR: 'it returns false'. Refute it at one input. -/
def commandApartWrong : ChangeSpec := { name := "commandApart", fn := fun _ => fun
  | [d1, d2] => { results := [.lit (.bool false)], args := [d1, d2] }
  | _ => none }
def CommandApartWrongFalsely : Prop := commandApartRow.holds Try.pinned (OpenSpec.ofChange commandApartWrong)

/-- 'pontagelaw27.CommandAnswers': WHATEVER THE INPUT: true; the input reads as it did. -/
def commandAnswersSpec : ChangeSpec := { name := "commandAnswers", fn := fun _ => fun
  | [d1, d2, d3] => { results := [.lit (.bool true)], args := [d1, d2, d3] }
  | _ => none }
def commandAnswersRow : OpenClaim := { program := "ytkfhcogdpmndkaa", sum := "2b89fbfd14615a31505df5706bc84cabded63826a86d699efab119cfa5a8eaf5", func := "pontage/pontagelaw27.CommandAnswers", spec := "commandAnswers", unfollowed := true, recurses := true, apart := false }
def CommandAnswersSaid : Prop := commandAnswersRow.holds Try.pinned (OpenSpec.ofChange commandAnswersSpec)

/-- ITS FALSE NEIGHBOUR: 'it returns false'. Refute it at one input. -/
def commandAnswersWrong : ChangeSpec := { name := "commandAnswers", fn := fun _ => fun
  | [d1, d2, d3] => { results := [.lit (.bool false)], args := [d1, d2, d3] }
  | _ => none }
def CommandAnswersWrongFalsely : Prop := commandAnswersRow.holds Try.pinned (OpenSpec.ofChange commandAnswersWrong)

/-- 'pontagelaw27.CommandWrites': WHATEVER THE INPUT: true; the input reads as it did. -/
def commandWritesSpec : ChangeSpec := { name := "commandWrites", fn := fun _ => fun
  | [d] => { results := [.lit (.bool true)], args := [d] }
  | _ => none }
def commandWritesRow : OpenClaim := { program := "ytkfhcogdpmndkaa", sum := "2b89fbfd14615a31505df5706bc84cabded63826a86d699efab119cfa5a8eaf5", func := "pontage/pontagelaw27.CommandWrites", spec := "commandWrites", unfollowed := true, recurses := true, apart := false }
def CommandWritesSaid : Prop := commandWritesRow.holds Try.pinned (OpenSpec.ofChange commandWritesSpec)

/-- ITS FALSE NEIGHBOUR: 'it returns false'. Refute it at one input. -/
def commandWritesWrong : ChangeSpec := { name := "commandWrites", fn := fun _ => fun
  | [d] => { results := [.lit (.bool false)], args := [d] }
  | _ => none }
def CommandWritesWrongFalsely : Prop := commandWritesRow.holds Try.pinned (OpenSpec.ofChange commandWritesWrong)

/-- 'pontagelaw27.CommandParses': WHATEVER THE INPUT: true; the input reads as it did. -/
def commandParsesSpec : ChangeSpec := { name := "commandParses", fn := fun _ => fun
  | [d] => { results := [.lit (.bool true)], args := [d] }
  | _ => none }
def commandParsesRow : OpenClaim := { program := "ytkfhcogdpmndkaa", sum := "2b89fbfd14615a31505df5706bc84cabded63826a86d699efab119cfa5a8eaf5", func := "pontage/pontagelaw27.CommandParses", spec := "commandParses", unfollowed := true, recurses := true, apart := false }
def CommandParsesSaid : Prop := commandParsesRow.holds Try.pinned (OpenSpec.ofChange commandParsesSpec)

/-- ITS FALSE NEIGHBOUR: 'it returns false'. Refute it at one input. -/
def commandParsesWrong : ChangeSpec := { name := "commandParses", fn := fun _ => fun
  | [d] => { results := [.lit (.bool false)], args := [d] }
  | _ => none }
def CommandParsesWrongFalsely : Prop := commandParsesRow.holds Try.pinned (OpenSpec.ofChange commandParsesWrong)

/- THE SECOND FORM. 'bulk': how many values and letters a reading holds, each counted each time it is reached (what is shared counts as often as it is met; a slice's spare places count too). A statement '..UptoSaid' is the law's where the arguments, and the package variables that the reading takes, are together of bulk at most 1048576: NARROWER than '..Said'. Prove '..Said' where nothing that the law and all that it calls make is longer than what came in: it says more and counts as full. Else prove '..UptoSaid'. A law counts once. -/
mutual
def uptoBulk {H : Type} : DataW H → Nat
  | .lit (.string bytes) => bytes.length + 1
  | .lit _ => 1
  | .nil => 1
  | .ptr d => uptoBulk d + 1
  | .slice elems spare => uptoBulkAll elems + uptoBulkAll spare + 1
  | .agg parts => uptoBulkAll parts + 1
  | .iface _ d => uptoBulk d + 1
  | .map entries => uptoBulkEntries entries + 1
  | .held _ => 1
def uptoBulkAll {H : Type} : List (DataW H) → Nat
  | [] => 0
  | d :: r => uptoBulk d + uptoBulkAll r
def uptoBulkEntries {H : Type} : List (Lit × DataW H) → Nat
  | [] => 0
  | x :: r => uptoBulkEntry x + uptoBulkEntries r
def uptoBulkEntry {H : Type} : Lit × DataW H → Nat
  | (.string bytes, d) => bytes.length + uptoBulk d + 1
  | (_, d) => uptoBulk d + 1
 end
def uptoSmall : (H : Type) → List (DataW H) → Bool := fun _ ds => decide (uptoBulkAll ds ≤ 1048576)
def OpenSpec.upto (s : _root_.Go.ChangeSpec) : _root_.Go.OpenSpec := { _root_.Go.OpenSpec.ofChange s with cond := some uptoSmall }

/-- 'pontagelaw27.CommandApart', WHERE WHAT IT READS IS OF BULK AT MOST 1048576: true; the input reads as it did. -/
def commandApartUptoRow : OpenClaim := { program := "ytkfhcogdpmndkaa", sum := "2b89fbfd14615a31505df5706bc84cabded63826a86d699efab119cfa5a8eaf5", func := "pontage/pontagelaw27.CommandApart", spec := "commandApart", apart := false, narrowed := true }
def CommandApartUptoSaid : Prop := commandApartUptoRow.holds Try.pinned (OpenSpec.upto commandApartSpec)

/-- 'pontagelaw27.CommandAnswers', WHERE WHAT IT READS IS OF BULK AT MOST 1048576: true; the input reads as it did. -/
def commandAnswersUptoRow : OpenClaim := { program := "ytkfhcogdpmndkaa", sum := "2b89fbfd14615a31505df5706bc84cabded63826a86d699efab119cfa5a8eaf5", func := "pontage/pontagelaw27.CommandAnswers", spec := "commandAnswers", unfollowed := true, recurses := true, apart := false, narrowed := true }
def CommandAnswersUptoSaid : Prop := commandAnswersUptoRow.holds Try.pinned (OpenSpec.upto commandAnswersSpec)

/-- 'pontagelaw27.CommandWrites', WHERE WHAT IT READS IS OF BULK AT MOST 1048576: true; the input reads as it did. -/
def commandWritesUptoRow : OpenClaim := { program := "ytkfhcogdpmndkaa", sum := "2b89fbfd14615a31505df5706bc84cabded63826a86d699efab119cfa5a8eaf5", func := "pontage/pontagelaw27.CommandWrites", spec := "commandWrites", unfollowed := true, recurses := true, apart := false, narrowed := true }
def CommandWritesUptoSaid : Prop := commandWritesUptoRow.holds Try.pinned (OpenSpec.upto commandWritesSpec)

/-- 'pontagelaw27.CommandParses', WHERE WHAT IT READS IS OF BULK AT MOST 1048576: true; the input reads as it did. -/
def commandParsesUptoRow : OpenClaim := { program := "ytkfhcogdpmndkaa", sum := "2b89fbfd14615a31505df5706bc84cabded63826a86d699efab119cfa5a8eaf5", func := "pontage/pontagelaw27.CommandParses", spec := "commandParses", unfollowed := true, recurses := true, apart := false, narrowed := true }
def CommandParsesUptoSaid : Prop := commandParsesUptoRow.holds Try.pinned (OpenSpec.upto commandParsesSpec)

end Rows
end Go.Proofs.Ytkfhcogdpmndkaa
