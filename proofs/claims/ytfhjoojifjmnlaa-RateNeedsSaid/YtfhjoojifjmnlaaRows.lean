/-
  No cell of these rows narrows 'for every input' (looked for: loops, veiled, ifaces, maps, wideKeys, modest, calm, conditions, laid).
  DERIVED. THE GIVEN ROWS OF THIS SEAT. 4 by the template 'for every input the law returns true; each argument reads behind the call as it read before'; 0 by the template 'total and deterministic' (their statements: YtfhjoojifjmnlaaTotals.lean).
  GIVEN WITH THE SEED: the statements are not yours to turn. If you find one false, say at which input.
  Laid BY PROGRAM, IN A SANDBOX (cutbox-rows.mjs): the forced cells as the released guide's own fill.sh prints them over the translation 77926a3bf9316d5a… (all of the seat's roots in one cut). By AI agents, Wed Nov 11 2026. No macro, syntax, notation, axiom, sorry.
-/
import Derived.Test.YtfhjoojifjmnlaaChecked
import GoSem.Claim
import GoSem.ClaimJoined
import GoSem.ClaimMapViews
import Derived.JoinedTies
import Derived.KernelRfl
namespace Go.Proofs.Ytfhjoojifjmnlaa
/- THE CELL 'sum', in the pinned program and in every row, IS THE sha256 OF THE DUMP (.gsa) THAT YtfhjoojifjmnlaaProg.lean LOADS. Nothing in Lean hashes anything: it is a label: what it is worth is what the hold of that sum in a sandbox is worth. -/
noncomputable def Try.pinned : Pinned := { name := "ytfhjoojifjmnlaa", sum := "77926a3bf9316d5ad2cf5384e9abd17ad5d56a1f164bb6cd83fddb08f597375c", checked := Try.checked }
namespace Rows
def none {H : Type} : Left H := { results := [], args := [] }

/-- 'pontagelaw05.RateOrder': WHATEVER THE INPUT: true; the input reads as it did. -/
def rateOrderSpec : ChangeSpec := { name := "rateOrder", fn := fun _ => fun
  | [d1, d2, d3, d4, d5, d6, d7, d8] => { results := [.lit (.bool true)], args := [d1, d2, d3, d4, d5, d6, d7, d8] }
  | _ => none }
def rateOrderRow : OpenClaim := { program := "ytfhjoojifjmnlaa", sum := "77926a3bf9316d5ad2cf5384e9abd17ad5d56a1f164bb6cd83fddb08f597375c", func := "pontage/pontagelaw05.RateOrder", spec := "rateOrder", inPlace := ["math/bits.Sub64", "math/bits.Add64"], recurses := true, apart := false }
def RateOrderSaid : Prop := rateOrderRow.holds Try.pinned (OpenSpec.ofChange rateOrderSpec)

/-- ITS FALSE NEIGHBOUR: 'it returns false'. Refute it at one input. -/
def rateOrderWrong : ChangeSpec := { name := "rateOrder", fn := fun _ => fun
  | [d1, d2, d3, d4, d5, d6, d7, d8] => { results := [.lit (.bool false)], args := [d1, d2, d3, d4, d5, d6, d7, d8] }
  | _ => none }
def RateOrderWrongFalsely : Prop := rateOrderRow.holds Try.pinned (OpenSpec.ofChange rateOrderWrong)

/-- 'pontagelaw05.RateValues': WHATEVER THE INPUT: true; the input reads as it did. -/
def rateValuesSpec : ChangeSpec := { name := "rateValues", fn := fun _ => fun
  | [d1, d2, d3] => { results := [.lit (.bool true)], args := [d1, d2, d3] }
  | _ => none }
def rateValuesRow : OpenClaim := { program := "ytfhjoojifjmnlaa", sum := "77926a3bf9316d5ad2cf5384e9abd17ad5d56a1f164bb6cd83fddb08f597375c", func := "pontage/pontagelaw05.RateValues", spec := "rateValues", inPlace := ["math/bits.Sub64", "math/bits.Add64"], recurses := true, apart := false }
def RateValuesSaid : Prop := rateValuesRow.holds Try.pinned (OpenSpec.ofChange rateValuesSpec)

/-- ITS FALSE NEIGHBOUR: 'it returns false'. Refute it at one input. -/
def rateValuesWrong : ChangeSpec := { name := "rateValues", fn := fun _ => fun
  | [d1, d2, d3] => { results := [.lit (.bool false)], args := [d1, d2, d3] }
  | _ => none }
def RateValuesWrongFalsely : Prop := rateValuesRow.holds Try.pinned (OpenSpec.ofChange rateValuesWrong)

/-- 'pontagelaw05.RateBands': WHATEVER THE INPUT: true; the input reads as it did. -/
def rateBandsSpec : ChangeSpec := { name := "rateBands", fn := fun _ => fun
  | [d1, d2, d3, d4, d5] => { results := [.lit (.bool true)], args := [d1, d2, d3, d4, d5] }
  | _ => none }
def rateBandsRow : OpenClaim := { program := "ytfhjoojifjmnlaa", sum := "77926a3bf9316d5ad2cf5384e9abd17ad5d56a1f164bb6cd83fddb08f597375c", func := "pontage/pontagelaw05.RateBands", spec := "rateBands", inPlace := ["math/bits.Sub64", "math/bits.Add64"], recurses := true, apart := false }
def RateBandsSaid : Prop := rateBandsRow.holds Try.pinned (OpenSpec.ofChange rateBandsSpec)

/-- ITS FALSE NEIGHBOUR: 'it returns false'. Refute it at one input. -/
def rateBandsWrong : ChangeSpec := { name := "rateBands", fn := fun _ => fun
  | [d1, d2, d3, d4, d5] => { results := [.lit (.bool false)], args := [d1, d2, d3, d4, d5] }
  | _ => none }
def RateBandsWrongFalsely : Prop := rateBandsRow.holds Try.pinned (OpenSpec.ofChange rateBandsWrong)

/-- 'pontagelaw05.RateNeeds': WHATEVER THE INPUT: true; the input reads as it did. -/
def rateNeedsSpec : ChangeSpec := { name := "rateNeeds", fn := fun _ => fun
  | [d1, d2, d3] => { results := [.lit (.bool true)], args := [d1, d2, d3] }
  | _ => none }
def rateNeedsRow : OpenClaim := { program := "ytfhjoojifjmnlaa", sum := "77926a3bf9316d5ad2cf5384e9abd17ad5d56a1f164bb6cd83fddb08f597375c", func := "pontage/pontagelaw05.RateNeeds", spec := "rateNeeds", inPlace := ["math/bits.Sub64", "math/bits.Add64"], recurses := true, apart := false }
def RateNeedsSaid : Prop := rateNeedsRow.holds Try.pinned (OpenSpec.ofChange rateNeedsSpec)

/-- ITS FALSE NEIGHBOUR: 'it returns false'. Refute it at one input. -/
def rateNeedsWrong : ChangeSpec := { name := "rateNeeds", fn := fun _ => fun
  | [d1, d2, d3] => { results := [.lit (.bool false)], args := [d1, d2, d3] }
  | _ => none }
def RateNeedsWrongFalsely : Prop := rateNeedsRow.holds Try.pinned (OpenSpec.ofChange rateNeedsWrong)

/- THE SECOND FORM. 'bulk': how many values and letters a reading holds, each counted each time it is reached (what is shared counts as often as it is met; a slice's spare places count too). A statement '..UptoSaid' is the law's where the arguments, and the package variables that the reading takes, are together of bulk at most 1048576: NARROWER than '..Said'. Prove '..Said' where nothing that the law and all that it calls make is longer than what came in: it says more and counts as full. Else prove '..UptoSaid'. A law counts once. -/
mutual
def uptoBulk {H : Type} : DataW H → Nat
  | .lit (.string bytes) => bytes.length + 1
  | .lit _ => 1
  | .nil => 1
  | .ptr d => uptoBulk d + 1
  | .slice elems spare => uptoBulkAll elems + uptoBulkAll spare + 1
  | .agg parts => uptoBulkAll parts + 1
  | .iface _ d => uptoBulk d + 1
  | .map entries => uptoBulkEntries entries + 1
  | .held _ => 1
def uptoBulkAll {H : Type} : List (DataW H) → Nat
  | [] => 0
  | d :: r => uptoBulk d + uptoBulkAll r
def uptoBulkEntries {H : Type} : List (Lit × DataW H) → Nat
  | [] => 0
  | x :: r => uptoBulkEntry x + uptoBulkEntries r
def uptoBulkEntry {H : Type} : Lit × DataW H → Nat
  | (.string bytes, d) => bytes.length + uptoBulk d + 1
  | (_, d) => uptoBulk d + 1
 end
def uptoSmall : (H : Type) → List (DataW H) → Bool := fun _ ds => decide (uptoBulkAll ds ≤ 1048576)
def OpenSpec.upto (s : _root_.Go.ChangeSpec) : _root_.Go.OpenSpec := { _root_.Go.OpenSpec.ofChange s with cond := some uptoSmall }

/-- 'pontagelaw05.RateOrder', WHERE WHAT IT READS IS OF BULK AT MOST 1048576: true; the input reads as it did. -/
def rateOrderUptoRow : OpenClaim := { program := "ytfhjoojifjmnlaa", sum := "77926a3bf9316d5ad2cf5384e9abd17ad5d56a1f164bb6cd83fddb08f597375c", func := "pontage/pontagelaw05.RateOrder", spec := "rateOrder", inPlace := ["math/bits.Sub64", "math/bits.Add64"], recurses := true, apart := false, narrowed := true }
def RateOrderUptoSaid : Prop := rateOrderUptoRow.holds Try.pinned (OpenSpec.upto rateOrderSpec)

/-- 'pontagelaw05.RateValues', WHERE WHAT IT READS IS OF BULK AT MOST 1048576: true; the input reads as it did. -/
def rateValuesUptoRow : OpenClaim := { program := "ytfhjoojifjmnlaa", sum := "77926a3bf9316d5ad2cf5384e9abd17ad5d56a1f164bb6cd83fddb08f597375c", func := "pontage/pontagelaw05.RateValues", spec := "rateValues", inPlace := ["math/bits.Sub64", "math/bits.Add64"], recurses := true, apart := false, narrowed := true }
def RateValuesUptoSaid : Prop := rateValuesUptoRow.holds Try.pinned (OpenSpec.upto rateValuesSpec)

/-- 'pontagelaw05.RateBands', WHERE WHAT IT READS IS OF BULK AT MOST 1048576: true; the input reads as it did. -/
def rateBandsUptoRow : OpenClaim := { program := "ytfhjoojifjmnlaa", sum := "77926a3bf9316d5ad2cf5384e9abd17ad5d56a1f164bb6cd83fddb08f597375c", func := "pontage/pontagelaw05.RateBands", spec := "rateBands", inPlace := ["math/bits.Sub64", "math/bits.Add64"], recurses := true, apart := false, narrowed := true }
def RateBandsUptoSaid : Prop := rateBandsUptoRow.holds Try.pinned (OpenSpec.upto rateBandsSpec)

/-- 'pontagelaw05.RateNeeds', WHERE WHAT IT READS IS OF BULK AT MOST 1048576: true; the input reads as it did. -/
def rateNeedsUptoRow : OpenClaim := { program := "ytfhjoojifjmnlaa", sum := "77926a3bf9316d5ad2cf5384e9abd17ad5d56a1f164bb6cd83fddb08f597375c", func := "pontage/pontagelaw05.RateNeeds", spec := "rateNeeds", inPlace := ["math/bits.Sub64", "math/bits.Add64"], recurses := true, apart := false, narrowed := true }
def RateNeedsUptoSaid : Prop := rateNeedsUptoRow.holds Try.pinned (OpenSpec.upto rateNeedsSpec)

end Rows
end Go.Proofs.Ytfhjoojifjmnlaa
