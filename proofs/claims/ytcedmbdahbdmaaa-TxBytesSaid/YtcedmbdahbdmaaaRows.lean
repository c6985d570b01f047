/-
  No cell of these rows narrows 'for every input' (looked for: loops, veiled, ifaces, maps, wideKeys, modest, calm, conditions, laid).
  DERIVED. THE GIVEN ROWS OF THIS SEAT. 4 by the template 'for every input the law returns true; each argument reads behind the call as it read before'; 0 by the template 'total and deterministic' (their statements: YtcedmbdahbdmaaaTotals.lean).
  GIVEN WITH THE SEED: the statements are not yours to turn. If you find one false, say at which input.
  Laid BY PROGRAM, IN A SANDBOX (cutbox-rows.mjs): the forced cells as the released guide's own fill.sh prints them over the translation c4858684ac6dc6bf… (all of the seat's roots in one cut). By AI agents, Wed Nov 11 2026. No macro, syntax, notation, axiom, sorry.
-/
import Derived.Test.YtcedmbdahbdmaaaChecked
import GoSem.Claim
import GoSem.ClaimJoined
import GoSem.ClaimMapViews
import Derived.JoinedTies
import Derived.KernelRfl
namespace Go.Proofs.Ytcedmbdahbdmaaa
/- THE CELL 'sum', in the pinned program and in every row, IS THE sha256 OF THE DUMP (.gsa) THAT YtcedmbdahbdmaaaProg.lean LOADS. Nothing in Lean hashes anything: it is a label: what it is worth is what the hold of that sum in a sandbox is worth. -/
noncomputable def Try.pinned : Pinned := { name := "ytcedmbdahbdmaaa", sum := "c4858684ac6dc6bf47103aa568b84b490a55449ea77d2fae8e9ad4eec3a963b2", checked := Try.checked }
namespace Rows
def none {H : Type} : Left H := { results := [], args := [] }

/-- 'pontagelaw09.TxPays': WHATEVER THE INPUT: true; the input reads as it did. -/
def txPaysSpec : ChangeSpec := { name := "txPays", fn := fun _ => fun
  | [d1, d2] => { results := [.lit (.bool true)], args := [d1, d2] }
  | _ => none }
def txPaysRow : OpenClaim := { program := "ytcedmbdahbdmaaa", sum := "c4858684ac6dc6bf47103aa568b84b490a55449ea77d2fae8e9ad4eec3a963b2", func := "pontage/pontagelaw09.TxPays", spec := "txPays", unfollowed := true, recurses := true, apart := false }
def TxPaysSaid : Prop := txPaysRow.holds Try.pinned (OpenSpec.ofChange txPaysSpec)

/-- ITS FALSE NEIGHBOUR: 'it returns false'. Refute it at one input. -/
def txPaysWrong : ChangeSpec := { name := "txPays", fn := fun _ => fun
  | [d1, d2] => { results := [.lit (.bool false)], args := [d1, d2] }
  | _ => none }
def TxPaysWrongFalsely : Prop := txPaysRow.holds Try.pinned (OpenSpec.ofChange txPaysWrong)

/-- 'pontagelaw09.TxApart': WHATEVER THE INPUT: true; the input reads as it did. -/
def txApartSpec : ChangeSpec := { name := "txApart", fn := fun _ => fun
  | [d1, d2, d3] => { results := [.lit (.bool true)], args := [d1, d2, d3] }
  | _ => none }
def txApartRow : OpenClaim := { program := "ytcedmbdahbdmaaa", sum := "c4858684ac6dc6bf47103aa568b84b490a55449ea77d2fae8e9ad4eec3a963b2", func := "pontage/pontagelaw09.TxApart", spec := "txApart", unfollowed := true, recurses := true, apart := false }
def TxApartSaid : Prop := txApartRow.holds Try.pinned (OpenSpec.ofChange txApartSpec)

/-- ITS FALSE NEIGHBOUR: 'it returns false'. Refute it at one input. -/
def txApartWrong : ChangeSpec := { name := "txApart", fn := fun _ => fun
  | [d1, d2, d3] => { results := [.lit (.bool false)], args := [d1, d2, d3] }
  | _ => none }
def TxApartWrongFalsely : Prop := txApartRow.holds Try.pinned (OpenSpec.ofChange txApartWrong)

/-- 'pontagelaw09.TxParses': WHATEVER THE INPUT: true; the input reads as it did. -/
def txParsesSpec : ChangeSpec := { name := "txParses", fn := fun _ => fun
  | [d] => { results := [.lit (.bool true)], args := [d] }
  | _ => none }
def txParsesRow : OpenClaim := { program := "ytcedmbdahbdmaaa", sum := "c4858684ac6dc6bf47103aa568b84b490a55449ea77d2fae8e9ad4eec3a963b2", func := "pontage/pontagelaw09.TxParses", spec := "txParses", unfollowed := true, recurses := true, apart := false }
def TxParsesSaid : Prop := txParsesRow.holds Try.pinned (OpenSpec.ofChange txParsesSpec)

/-- ITS FALSE NEIGHBOUR: 'it returns false'. Refute it at one input. -/
def txParsesWrong : ChangeSpec := { name := "txParses", fn := fun _ => fun
  | [d] => { results := [.lit (.bool false)], args := [d] }
  | _ => none }
def TxParsesWrongFalsely : Prop := txParsesRow.holds Try.pinned (OpenSpec.ofChange txParsesWrong)

/-- 'pontagelaw09.TxBytes': WHATEVER THE INPUT: true; the input reads as it did. -/
def txBytesSpec : ChangeSpec := { name := "txBytes", fn := fun _ => fun
  | [d] => { results := [.lit (.bool true)], args := [d] }
  | _ => none }
def txBytesRow : OpenClaim := { program := "ytcedmbdahbdmaaa", sum := "c4858684ac6dc6bf47103aa568b84b490a55449ea77d2fae8e9ad4eec3a963b2", func := "pontage/pontagelaw09.TxBytes", spec := "txBytes", unfollowed := true, recurses := true, apart := false }
def TxBytesSaid : Prop := txBytesRow.holds Try.pinned (OpenSpec.ofChange txBytesSpec)

/-- ITS FALSE NEIGHBOUR: 'it returns false'. Refute it at one input. -/
def txBytesWrong : ChangeSpec := { name := "txBytes", fn := fun _ => fun
  | [d] => { results := [.lit (.bool false)], args := [d] }
  | _ => none }
def TxBytesWrongFalsely : Prop := txBytesRow.holds Try.pinned (OpenSpec.ofChange txBytesWrong)

/- THE SECOND FORM. 'bulk': how many values and letters a reading holds, each counted each time it is reached (what is shared counts as often as it is met; a slice's spare places count too). A statement '..UptoSaid' is the law's where the arguments, and the package variables that the reading takes, are together of bulk at most 1048576: NARROWER than '..Said'. Prove '..Said' where nothing that the law and all that it calls make is longer than what came in: it says more and counts as full. Else prove '..UptoSaid'. A law counts once. -/
mutual
def uptoBulk {H : Type} : DataW H → Nat
  | .lit (.string bytes) => bytes.length + 1
  | .lit _ => 1
  | .nil => 1
  | .ptr d => uptoBulk d + 1
  | .slice elems spare => uptoBulkAll elems + uptoBulkAll spare + 1
  | .agg parts => uptoBulkAll parts + 1
  | .iface _ d => uptoBulk d + 1
  | .map entries => uptoBulkEntries entries + 1
  | .held _ => 1
def uptoBulkAll {H : Type} : List (DataW H) → Nat
  | [] => 0
  | d :: r => uptoBulk d + uptoBulkAll r
def uptoBulkEntries {H : Type} : List (Lit × DataW H) → Nat
  | [] => 0
  | x :: r => uptoBulkEntry x + uptoBulkEntries r
def uptoBulkEntry {H : Type} : Lit × DataW H → Nat
  | (.string bytes, d) => bytes.length + uptoBulk d + 1
  | (_, d) => uptoBulk d + 1
 end
def uptoSmall : (H : Type) → List (DataW H) → Bool := fun _ ds => decide (uptoBulkAll ds ≤ 1048576)
def OpenSpec.upto (s : _root_.Go.ChangeSpec) : _root_.Go.OpenSpec := { _root_.Go.OpenSpec.ofChange s with cond := some uptoSmall }

/-- 'pontagelaw09.TxPays', WHERE WHAT IT READS IS OF BULK AT MOST 1048576: true; the input reads as it did. -/
def txPaysUptoRow : OpenClaim := { program := "ytcedmbdahbdmaaa", sum := "c4858684ac6dc6bf47103aa568b84b490a55449ea77d2fae8e9ad4eec3a963b2", func := "pontage/pontagelaw09.TxPays", spec := "txPays", unfollowed := true, recurses := true, apart := false, narrowed := true }
def TxPaysUptoSaid : Prop := txPaysUptoRow.holds Try.pinned (OpenSpec.upto txPaysSpec)

/-- 'pontagelaw09.TxApart', WHERE WHAT IT READS IS OF BULK AT MOST 1048576: true; the input reads as it did. -/
def txApartUptoRow : OpenClaim := { program := "ytcedmbdahbdmaaa", sum := "c4858684ac6dc6bf47103aa568b84b490a55449ea77d2fae8e9ad4eec3a963b2", func := "pontage/pontagelaw09.TxApart", spec := "txApart", unfollowed := true, recurses := true, apart := false, narrowed := true }
def TxApartUptoSaid : Prop := txApartUptoRow.holds Try.pinned (OpenSpec.upto txApartSpec)

/-- 'pontagelaw09.TxParses', WHERE WHAT IT READS IS OF BULK AT MOST 1048576: true; the input reads as it did. -/
def txParsesUptoRow : OpenClaim := { program := "ytcedmbdahbdmaaa", sum := "c4858684ac6dc6bf47103aa568b84b490a55449ea77d2fae8e9ad4eec3a963b2", func := "pontage/pontagelaw09.TxParses", spec := "txParses", unfollowed := true, recurses := true, apart := false, narrowed := true }
def TxParsesUptoSaid : Prop := txParsesUptoRow.holds Try.pinned (OpenSpec.upto txParsesSpec)

/-- 'pontagelaw09.TxBytes', WHERE WHAT IT READS IS OF BULK AT MOST 1048576: true; the input reads as it did. -/
def txBytesUptoRow : OpenClaim := { program := "ytcedmbdahbdmaaa", sum := "c4858684ac6dc6bf47103aa568b84b490a55449ea77d2fae8e9ad4eec3a963b2", func := "pontage/pontagelaw09.TxBytes", spec := "txBytes", unfollowed := true, recurses := true, apart := false, narrowed := true }
def TxBytesUptoSaid : Prop := txBytesUptoRow.holds Try.pinned (OpenSpec.upto txBytesSpec)

end Rows
end Go.Proofs.Ytcedmbdahbdmaaa
