/-
  No cell of these rows narrows 'for every input' (looked for: loops, veiled, ifaces, maps, wideKeys, modest, calm, conditions, laid).
  DERIVED. THE GIVEN ROWS OF THIS SEAT. 4 by the template 'for every input the law returns true; each argument reads behind the call as it read before'; 0 by the template 'total and deterministic' (their statements: YtdepaaphgfapjaaTotals.lean).
  GIVEN WITH THE SEED: the statements are not yours to turn. If you find one false, say at which input.
  Laid BY PROGRAM, IN A SANDBOX (cutbox-rows.mjs): the forced cells as the released guide's own fill.sh prints them over the translation c6eb5150be7be44e… (all of the seat's roots in one cut). By AI agents, Wed Nov 11 2026. No macro, syntax, notation, axiom, sorry.
-/
import Derived.Test.YtdepaaphgfapjaaChecked
import GoSem.Claim
import GoSem.ClaimJoined
import GoSem.ClaimMapViews
import Derived.JoinedTies
import Derived.KernelRfl
namespace Go.Proofs.Ytdepaaphgfapjaa
/- THE CELL 'sum', in the pinned program and in every row, IS THE sha256 OF THE DUMP (.gsa) THAT YtdepaaphgfapjaaProg.lean LOADS. Nothing in Lean hashes anything: it is a label: what it is worth is what the hold of that sum in a sandbox is worth. -/
noncomputable def Try.pinned : Pinned := { name := "ytdepaaphgfapjaa", sum := "c6eb5150be7be44ee8374b935c143d35ea9d09eb77db52e171fbded8ff9e39d1", checked := Try.checked }
namespace Rows
def none {H : Type} : Left H := { results := [], args := [] }

/-- 'pontagelaw07.HeaderApart': WHATEVER THE INPUT: true; the input reads as it did. -/
def headerApartSpec : ChangeSpec := { name := "headerApart", fn := fun _ => fun
  | [d1, d2] => { results := [.lit (.bool true)], args := [d1, d2] }
  | _ => none }
def headerApartRow : OpenClaim := { program := "ytdepaaphgfapjaa", sum := "c6eb5150be7be44ee8374b935c143d35ea9d09eb77db52e171fbded8ff9e39d1", func := "pontage/pontagelaw07.HeaderApart", spec := "headerApart", inPlace := ["internal/bytealg.IndexByteString"], unfollowed := true, recurses := true, apart := false }
def HeaderApartSaid : Prop := headerApartRow.holds Try.pinned (OpenSpec.ofChange headerApartSpec)

/-- ITS FALSE NEIGHBOUR: 'it returns false'. Refute it at one input. -/
def headerApartWrong : ChangeSpec := { name := "headerApart", fn := fun _ => fun
  | [d1, d2] => { results := [.lit (.bool false)], args := [d1, d2] }
  | _ => none }
def HeaderApartWrongFalsely : Prop := headerApartRow.holds Try.pinned (OpenSpec.ofChange headerApartWrong)

/-- 'pontagelaw07.HeaderChecks': WHATEVER THE INPUT: true; the input reads as it did. -/
def headerChecksSpec : ChangeSpec := { name := "headerChecks", fn := fun _ => fun
  | [d1, d2] => { results := [.lit (.bool true)], args := [d1, d2] }
  | _ => none }
def headerChecksRow : OpenClaim := { program := "ytdepaaphgfapjaa", sum := "c6eb5150be7be44ee8374b935c143d35ea9d09eb77db52e171fbded8ff9e39d1", func := "pontage/pontagelaw07.HeaderChecks", spec := "headerChecks", inPlace := ["internal/bytealg.IndexByteString"], unfollowed := true, recurses := true, apart := false }
def HeaderChecksSaid : Prop := headerChecksRow.holds Try.pinned (OpenSpec.ofChange headerChecksSpec)

/-- ITS FALSE NEIGHBOUR: 'it returns false'. Refute it at one input. -/
def headerChecksWrong : ChangeSpec := { name := "headerChecks", fn := fun _ => fun
  | [d1, d2] => { results := [.lit (.bool false)], args := [d1, d2] }
  | _ => none }
def HeaderChecksWrongFalsely : Prop := headerChecksRow.holds Try.pinned (OpenSpec.ofChange headerChecksWrong)

/-- 'pontagelaw07.HeaderMines': WHATEVER THE INPUT: true; the input reads as it did. -/
def headerMinesSpec : ChangeSpec := { name := "headerMines", fn := fun _ => fun
  | [d1, d2] => { results := [.lit (.bool true)], args := [d1, d2] }
  | _ => none }
def headerMinesRow : OpenClaim := { program := "ytdepaaphgfapjaa", sum := "c6eb5150be7be44ee8374b935c143d35ea9d09eb77db52e171fbded8ff9e39d1", func := "pontage/pontagelaw07.HeaderMines", spec := "headerMines", inPlace := ["internal/bytealg.IndexByteString"], unfollowed := true, recurses := true, apart := false }
def HeaderMinesSaid : Prop := headerMinesRow.holds Try.pinned (OpenSpec.ofChange headerMinesSpec)

/-- ITS FALSE NEIGHBOUR: 'it returns false'. Refute it at one input. -/
def headerMinesWrong : ChangeSpec := { name := "headerMines", fn := fun _ => fun
  | [d1, d2] => { results := [.lit (.bool false)], args := [d1, d2] }
  | _ => none }
def HeaderMinesWrongFalsely : Prop := headerMinesRow.holds Try.pinned (OpenSpec.ofChange headerMinesWrong)

/-- 'pontagelaw07.HeaderBytes': WHATEVER THE INPUT: true; the input reads as it did. -/
def headerBytesSpec : ChangeSpec := { name := "headerBytes", fn := fun _ => fun
  | [d1, d2] => { results := [.lit (.bool true)], args := [d1, d2] }
  | _ => none }
def headerBytesRow : OpenClaim := { program := "ytdepaaphgfapjaa", sum := "c6eb5150be7be44ee8374b935c143d35ea9d09eb77db52e171fbded8ff9e39d1", func := "pontage/pontagelaw07.HeaderBytes", spec := "headerBytes", inPlace := ["internal/bytealg.IndexByteString"], unfollowed := true, recurses := true, apart := false }
def HeaderBytesSaid : Prop := headerBytesRow.holds Try.pinned (OpenSpec.ofChange headerBytesSpec)

/-- ITS FALSE NEIGHBOUR: 'it returns false'. Refute it at one input. -/
def headerBytesWrong : ChangeSpec := { name := "headerBytes", fn := fun _ => fun
  | [d1, d2] => { results := [.lit (.bool false)], args := [d1, d2] }
  | _ => none }
def HeaderBytesWrongFalsely : Prop := headerBytesRow.holds Try.pinned (OpenSpec.ofChange headerBytesWrong)

/- THE SECOND FORM. 'bulk': how many values and letters a reading holds, each counted each time it is reached (what is shared counts as often as it is met; a slice's spare places count too). A statement '..UptoSaid' is the law's where the arguments, and the package variables that the reading takes, are together of bulk at most 1048576: NARROWER than '..Said'. Prove '..Said' where nothing that the law and all that it calls make is longer than what came in: it says more and counts as full. Else prove '..UptoSaid'. A law counts once. -/
mutual
def uptoBulk {H : Type} : DataW H → Nat
  | .lit (.string bytes) => bytes.length + 1
  | .lit _ => 1
  | .nil => 1
  | .ptr d => uptoBulk d + 1
  | .slice elems spare => uptoBulkAll elems + uptoBulkAll spare + 1
  | .agg parts => uptoBulkAll parts + 1
  | .iface _ d => uptoBulk d + 1
  | .map entries => uptoBulkEntries entries + 1
  | .held _ => 1
def uptoBulkAll {H : Type} : List (DataW H) → Nat
  | [] => 0
  | d :: r => uptoBulk d + uptoBulkAll r
def uptoBulkEntries {H : Type} : List (Lit × DataW H) → Nat
  | [] => 0
  | x :: r => uptoBulkEntry x + uptoBulkEntries r
def uptoBulkEntry {H : Type} : Lit × DataW H → Nat
  | (.string bytes, d) => bytes.length + uptoBulk d + 1
  | (_, d) => uptoBulk d + 1
 end
def uptoSmall : (H : Type) → List (DataW H) → Bool := fun _ ds => decide (uptoBulkAll ds ≤ 1048576)
def OpenSpec.upto (s : _root_.Go.ChangeSpec) : _root_.Go.OpenSpec := { _root_.Go.OpenSpec.ofChange s with cond := some uptoSmall }

/-- 'pontagelaw07.HeaderApart', WHERE WHAT IT READS IS OF BULK AT MOST 1048576: true; the input reads as it did. -/
def headerApartUptoRow : OpenClaim := { program := "ytdepaaphgfapjaa", sum := "c6eb5150be7be44ee8374b935c143d35ea9d09eb77db52e171fbded8ff9e39d1", func := "pontage/pontagelaw07.HeaderApart", spec := "headerApart", inPlace := ["internal/bytealg.IndexByteString"], unfollowed := true, recurses := true, apart := false, narrowed := true }
def HeaderApartUptoSaid : Prop := headerApartUptoRow.holds Try.pinned (OpenSpec.upto headerApartSpec)

/-- 'pontagelaw07.HeaderChecks', WHERE WHAT IT READS IS OF BULK AT MOST 1048576: true; the input reads as it did. -/
def headerChecksUptoRow : OpenClaim := { program := "ytdepaaphgfapjaa", sum := "c6eb5150be7be44ee8374b935c143d35ea9d09eb77db52e171fbded8ff9e39d1", func := "pontage/pontagelaw07.HeaderChecks", spec := "headerChecks", inPlace := ["internal/bytealg.IndexByteString"], unfollowed := true, recurses := true, apart := false, narrowed := true }
def HeaderChecksUptoSaid : Prop := headerChecksUptoRow.holds Try.pinned (OpenSpec.upto headerChecksSpec)

/-- 'pontagelaw07.HeaderMines', WHERE WHAT IT READS IS OF BULK AT MOST 1048576: true; the input reads as it did. -/
def headerMinesUptoRow : OpenClaim := { program := "ytdepaaphgfapjaa", sum := "c6eb5150be7be44ee8374b935c143d35ea9d09eb77db52e171fbded8ff9e39d1", func := "pontage/pontagelaw07.HeaderMines", spec := "headerMines", inPlace := ["internal/bytealg.IndexByteString"], unfollowed := true, recurses := true, apart := false, narrowed := true }
def HeaderMinesUptoSaid : Prop := headerMinesUptoRow.holds Try.pinned (OpenSpec.upto headerMinesSpec)

/-- 'pontagelaw07.HeaderBytes', WHERE WHAT IT READS IS OF BULK AT MOST 1048576: true; the input reads as it did. -/
def headerBytesUptoRow : OpenClaim := { program := "ytdepaaphgfapjaa", sum := "c6eb5150be7be44ee8374b935c143d35ea9d09eb77db52e171fbded8ff9e39d1", func := "pontage/pontagelaw07.HeaderBytes", spec := "headerBytes", inPlace := ["internal/bytealg.IndexByteString"], unfollowed := true, recurses := true, apart := false, narrowed := true }
def HeaderBytesUptoSaid : Prop := headerBytesUptoRow.holds Try.pinned (OpenSpec.upto headerBytesSpec)

end Rows
end Go.Proofs.Ytdepaaphgfapjaa
