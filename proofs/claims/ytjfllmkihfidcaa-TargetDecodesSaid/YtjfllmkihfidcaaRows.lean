/-
  No cell of these rows narrows 'for every input' (looked for: loops, veiled, ifaces, maps, wideKeys, modest, calm, conditions, laid).
  DERIVED. THE GIVEN ROWS OF THIS SEAT. 4 by the template 'for every input the law returns true; each argument reads behind the call as it read before'; 0 by the template 'total and deterministic' (their statements: YtjfllmkihfidcaaTotals.lean).
  GIVEN WITH THE SEED: the statements are not yours to turn. If you find one false, say at which input.
  Laid BY PROGRAM, IN A SANDBOX (cutbox-rows.mjs): the forced cells as the released guide's own fill.sh prints them over the translation 4398c9860cec3904… (all of the seat's roots in one cut). By AI agents, Wed Nov 11 2026. No macro, syntax, notation, axiom, sorry.
-/
import Derived.Test.YtjfllmkihfidcaaChecked
import GoSem.Claim
import GoSem.ClaimJoined
import GoSem.ClaimMapViews
import Derived.JoinedTies
import Derived.KernelRfl
namespace Go.Proofs.Ytjfllmkihfidcaa
/- THE CELL 'sum', in the pinned program and in every row, IS THE sha256 OF THE DUMP (.gsa) THAT YtjfllmkihfidcaaProg.lean LOADS. Nothing in Lean hashes anything: it is a label: what it is worth is what the hold of that sum in a sandbox is worth. -/
noncomputable def Try.pinned : Pinned := { name := "ytjfllmkihfidcaa", sum := "4398c9860cec39048be2fc5b150344b7e2ed1c9374d262e368d085d619139955", checked := Try.checked }
namespace Rows
def none {H : Type} : Left H := { results := [], args := [] }

/-- 'pontagelaw06.TargetWorks': WHATEVER THE INPUT: true; the input reads as it did. -/
def targetWorksSpec : ChangeSpec := { name := "targetWorks", fn := fun _ => fun
  | [d1, d2, d3] => { results := [.lit (.bool true)], args := [d1, d2, d3] }
  | _ => none }
def targetWorksRow : OpenClaim := { program := "ytjfllmkihfidcaa", sum := "4398c9860cec39048be2fc5b150344b7e2ed1c9374d262e368d085d619139955", func := "pontage/pontagelaw06.TargetWorks", spec := "targetWorks", inPlace := ["math/bits.Add64", "math/bits.Sub64"], recurses := true, apart := false }
def TargetWorksSaid : Prop := targetWorksRow.holds Try.pinned (OpenSpec.ofChange targetWorksSpec)

/-- ITS FALSE NEIGHBOUR: 'it returns false'. Refute it at one input. -/
def targetWorksWrong : ChangeSpec := { name := "targetWorks", fn := fun _ => fun
  | [d1, d2, d3] => { results := [.lit (.bool false)], args := [d1, d2, d3] }
  | _ => none }
def TargetWorksWrongFalsely : Prop := targetWorksRow.holds Try.pinned (OpenSpec.ofChange targetWorksWrong)

/-- 'pontagelaw06.TargetOrder': WHATEVER THE INPUT: true; the input reads as it did. -/
def targetOrderSpec : ChangeSpec := { name := "targetOrder", fn := fun _ => fun
  | [d1, d2, d3] => { results := [.lit (.bool true)], args := [d1, d2, d3] }
  | _ => none }
def targetOrderRow : OpenClaim := { program := "ytjfllmkihfidcaa", sum := "4398c9860cec39048be2fc5b150344b7e2ed1c9374d262e368d085d619139955", func := "pontage/pontagelaw06.TargetOrder", spec := "targetOrder", inPlace := ["math/bits.Add64", "math/bits.Sub64"], recurses := true, apart := false }
def TargetOrderSaid : Prop := targetOrderRow.holds Try.pinned (OpenSpec.ofChange targetOrderSpec)

/-- ITS FALSE NEIGHBOUR: 'it returns false'. Refute it at one input. -/
def targetOrderWrong : ChangeSpec := { name := "targetOrder", fn := fun _ => fun
  | [d1, d2, d3] => { results := [.lit (.bool false)], args := [d1, d2, d3] }
  | _ => none }
def TargetOrderWrongFalsely : Prop := targetOrderRow.holds Try.pinned (OpenSpec.ofChange targetOrderWrong)

/-- 'pontagelaw06.TargetDecodes': WHATEVER THE INPUT: true; the input reads as it did. -/
def targetDecodesSpec : ChangeSpec := { name := "targetDecodes", fn := fun _ => fun
  | [d1, d2] => { results := [.lit (.bool true)], args := [d1, d2] }
  | _ => none }
def targetDecodesRow : OpenClaim := { program := "ytjfllmkihfidcaa", sum := "4398c9860cec39048be2fc5b150344b7e2ed1c9374d262e368d085d619139955", func := "pontage/pontagelaw06.TargetDecodes", spec := "targetDecodes", inPlace := ["math/bits.Add64", "math/bits.Sub64"], recurses := true, apart := false }
def TargetDecodesSaid : Prop := targetDecodesRow.holds Try.pinned (OpenSpec.ofChange targetDecodesSpec)

/-- ITS FALSE NEIGHBOUR: 'it returns false'. Refute it at one input. -/
def targetDecodesWrong : ChangeSpec := { name := "targetDecodes", fn := fun _ => fun
  | [d1, d2] => { results := [.lit (.bool false)], args := [d1, d2] }
  | _ => none }
def TargetDecodesWrongFalsely : Prop := targetDecodesRow.holds Try.pinned (OpenSpec.ofChange targetDecodesWrong)

/-- 'pontagelaw06.TargetScales': WHATEVER THE INPUT: true; the input reads as it did. -/
def targetScalesSpec : ChangeSpec := { name := "targetScales", fn := fun _ => fun
  | [d1, d2, d3, d4] => { results := [.lit (.bool true)], args := [d1, d2, d3, d4] }
  | _ => none }
def targetScalesRow : OpenClaim := { program := "ytjfllmkihfidcaa", sum := "4398c9860cec39048be2fc5b150344b7e2ed1c9374d262e368d085d619139955", func := "pontage/pontagelaw06.TargetScales", spec := "targetScales", inPlace := ["math/bits.Add64", "math/bits.Sub64"], recurses := true, apart := false }
def TargetScalesSaid : Prop := targetScalesRow.holds Try.pinned (OpenSpec.ofChange targetScalesSpec)

/-- ITS FALSE NEIGHBOUR: 'it returns false'. Refute it at one input. -/
def targetScalesWrong : ChangeSpec := { name := "targetScales", fn := fun _ => fun
  | [d1, d2, d3, d4] => { results := [.lit (.bool false)], args := [d1, d2, d3, d4] }
  | _ => none }
def TargetScalesWrongFalsely : Prop := targetScalesRow.holds Try.pinned (OpenSpec.ofChange targetScalesWrong)

/- THE SECOND FORM. 'bulk': how many values and letters a reading holds, each counted each time it is reached (what is shared counts as often as it is met; a slice's spare places count too). A statement '..UptoSaid' is the law's where the arguments, and the package variables that the reading takes, are together of bulk at most 1048576: NARROWER than '..Said'. Prove '..Said' where nothing that the law and all that it calls make is longer than what came in: it says more and counts as full. Else prove '..UptoSaid'. A law counts once. -/
mutual
def uptoBulk {H : Type} : DataW H → Nat
  | .lit (.string bytes) => bytes.length + 1
  | .lit _ => 1
  | .nil => 1
  | .ptr d => uptoBulk d + 1
  | .slice elems spare => uptoBulkAll elems + uptoBulkAll spare + 1
  | .agg parts => uptoBulkAll parts + 1
  | .iface _ d => uptoBulk d + 1
  | .map entries => uptoBulkEntries entries + 1
  | .held _ => 1
def uptoBulkAll {H : Type} : List (DataW H) → Nat
  | [] => 0
  | d :: r => uptoBulk d + uptoBulkAll r
def uptoBulkEntries {H : Type} : List (Lit × DataW H) → Nat
  | [] => 0
  | x :: r => uptoBulkEntry x + uptoBulkEntries r
def uptoBulkEntry {H : Type} : Lit × DataW H → Nat
  | (.string bytes, d) => bytes.length + uptoBulk d + 1
  | (_, d) => uptoBulk d + 1
 end
def uptoSmall : (H : Type) → List (DataW H) → Bool := fun _ ds => decide (uptoBulkAll ds ≤ 1048576)
def OpenSpec.upto (s : _root_.Go.ChangeSpec) : _root_.Go.OpenSpec := { _root_.Go.OpenSpec.ofChange s with cond := some uptoSmall }

/-- 'pontagelaw06.TargetWorks', WHERE WHAT IT READS IS OF BULK AT MOST 1048576: true; the input reads as it did. -/
def targetWorksUptoRow : OpenClaim := { program := "ytjfllmkihfidcaa", sum := "4398c9860cec39048be2fc5b150344b7e2ed1c9374d262e368d085d619139955", func := "pontage/pontagelaw06.TargetWorks", spec := "targetWorks", inPlace := ["math/bits.Add64", "math/bits.Sub64"], recurses := true, apart := false, narrowed := true }
def TargetWorksUptoSaid : Prop := targetWorksUptoRow.holds Try.pinned (OpenSpec.upto targetWorksSpec)

/-- 'pontagelaw06.TargetOrder', WHERE WHAT IT READS IS OF BULK AT MOST 1048576: true; the input reads as it did. -/
def targetOrderUptoRow : OpenClaim := { program := "ytjfllmkihfidcaa", sum := "4398c9860cec39048be2fc5b150344b7e2ed1c9374d262e368d085d619139955", func := "pontage/pontagelaw06.TargetOrder", spec := "targetOrder", inPlace := ["math/bits.Add64", "math/bits.Sub64"], recurses := true, apart := false, narrowed := true }
def TargetOrderUptoSaid : Prop := targetOrderUptoRow.holds Try.pinned (OpenSpec.upto targetOrderSpec)

/-- 'pontagelaw06.TargetDecodes', WHERE WHAT IT READS IS OF BULK AT MOST 1048576: true; the input reads as it did. -/
def targetDecodesUptoRow : OpenClaim := { program := "ytjfllmkihfidcaa", sum := "4398c9860cec39048be2fc5b150344b7e2ed1c9374d262e368d085d619139955", func := "pontage/pontagelaw06.TargetDecodes", spec := "targetDecodes", inPlace := ["math/bits.Add64", "math/bits.Sub64"], recurses := true, apart := false, narrowed := true }
def TargetDecodesUptoSaid : Prop := targetDecodesUptoRow.holds Try.pinned (OpenSpec.upto targetDecodesSpec)

/-- 'pontagelaw06.TargetScales', WHERE WHAT IT READS IS OF BULK AT MOST 1048576: true; the input reads as it did. -/
def targetScalesUptoRow : OpenClaim := { program := "ytjfllmkihfidcaa", sum := "4398c9860cec39048be2fc5b150344b7e2ed1c9374d262e368d085d619139955", func := "pontage/pontagelaw06.TargetScales", spec := "targetScales", inPlace := ["math/bits.Add64", "math/bits.Sub64"], recurses := true, apart := false, narrowed := true }
def TargetScalesUptoSaid : Prop := targetScalesUptoRow.holds Try.pinned (OpenSpec.upto targetScalesSpec)

end Rows
end Go.Proofs.Ytjfllmkihfidcaa
