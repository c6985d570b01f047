/-
  No cell of these rows narrows 'for every input' (looked for: loops, veiled, ifaces, maps, wideKeys, modest, calm, conditions, laid).
  DERIVED. THE GIVEN ROWS OF THIS SEAT. 2 by the template 'for every input the law returns true; each argument reads behind the call as it read before'; 0 by the template 'total and deterministic' (their statements: YtljfofnpjmlobaaTotals.lean).
  GIVEN WITH THE SEED: the statements are not yours to turn. If you find one false, say at which input.
  Laid BY PROGRAM, IN A SANDBOX (cutbox-rows.mjs): the forced cells as the released guide's own fill.sh prints them over the translation 55a1f0586a382064… (all of the seat's roots in one cut). By AI agents, Wed Nov 11 2026. No macro, syntax, notation, axiom, sorry.
-/
import Derived.Test.YtljfofnpjmlobaaChecked
import GoSem.Claim
import GoSem.ClaimJoined
import GoSem.ClaimMapViews
import Derived.JoinedTies
import Derived.KernelRfl
namespace Go.Proofs.Ytljfofnpjmlobaa
/- THE CELL 'sum', in the pinned program and in every row, IS THE sha256 OF THE DUMP (.gsa) THAT YtljfofnpjmlobaaProg.lean LOADS. Nothing in Lean hashes anything: it is a label: what it is worth is what the hold of that sum in a sandbox is worth. -/
noncomputable def Try.pinned : Pinned := { name := "ytljfofnpjmlobaa", sum := "55a1f0586a382064e19f38fdc234d08fafd6bd6c4b487b17c7ae8caca24148b3", checked := Try.checked }
namespace Rows
def none {H : Type} : Left H := { results := [], args := [] }

/-- 'pontagelaw17.OracleBounds': WHATEVER THE INPUT: true; the input reads as it did. -/
def oracleBoundsSpec : ChangeSpec := { name := "oracleBounds", fn := fun _ => fun
  | [d1, d2, d3, d4, d5] => { results := [.lit (.bool true)], args := [d1, d2, d3, d4, d5] }
  | _ => none }
def oracleBoundsRow : OpenClaim := { program := "ytljfofnpjmlobaa", sum := "55a1f0586a382064e19f38fdc234d08fafd6bd6c4b487b17c7ae8caca24148b3", func := "pontage/pontagelaw17.OracleBounds", spec := "oracleBounds", inPlace := ["math/bits.Sub64", "math/bits.Add64"], recurses := true, apart := false }
def OracleBoundsSaid : Prop := oracleBoundsRow.holds Try.pinned (OpenSpec.ofChange oracleBoundsSpec)

/-- ITS FALSE NEIGHBOUR: 'it returns false'. Refute it at one input. -/
def oracleBoundsWrong : ChangeSpec := { name := "oracleBounds", fn := fun _ => fun
  | [d1, d2, d3, d4, d5] => { results := [.lit (.bool false)], args := [d1, d2, d3, d4, d5] }
  | _ => none }
def OracleBoundsWrongFalsely : Prop := oracleBoundsRow.holds Try.pinned (OpenSpec.ofChange oracleBoundsWrong)

/-- 'pontagelaw17.OraclePlays': WHATEVER THE INPUT: true; the input reads as it did. -/
def oraclePlaysSpec : ChangeSpec := { name := "oraclePlays", fn := fun _ => fun
  | [d1, d2] => { results := [.lit (.bool true)], args := [d1, d2] }
  | _ => none }
def oraclePlaysRow : OpenClaim := { program := "ytljfofnpjmlobaa", sum := "55a1f0586a382064e19f38fdc234d08fafd6bd6c4b487b17c7ae8caca24148b3", func := "pontage/pontagelaw17.OraclePlays", spec := "oraclePlays", inPlace := ["math/bits.Sub64", "math/bits.Add64"], recurses := true, apart := false }
def OraclePlaysSaid : Prop := oraclePlaysRow.holds Try.pinned (OpenSpec.ofChange oraclePlaysSpec)

/-- ITS FALSE NEIGHBOUR: 'it returns false'. Refute it at one input. -/
def oraclePlaysWrong : ChangeSpec := { name := "oraclePlays", fn := fun _ => fun
  | [d1, d2] => { results := [.lit (.bool false)], args := [d1, d2] }
  | _ => none }
def OraclePlaysWrongFalsely : Prop := oraclePlaysRow.holds Try.pinned (OpenSpec.ofChange oraclePlaysWrong)

/- THE SECOND FORM. 'bulk': how many values and letters a reading holds, each counted each time it is reached (what is shared counts as often as it is met; a slice's spare places count too). A statement '..UptoSaid' is the law's where the arguments, and the package variables that the reading takes, are together of bulk at most 1048576: NARROWER than '..Said'. Prove '..Said' where nothing that the law and all that it calls make is longer than what came in: it says more and counts as full. Else prove '..UptoSaid'. A law counts once. -/
mutual
def uptoBulk {H : Type} : DataW H → Nat
  | .lit (.string bytes) => bytes.length + 1
  | .lit _ => 1
  | .nil => 1
  | .ptr d => uptoBulk d + 1
  | .slice elems spare => uptoBulkAll elems + uptoBulkAll spare + 1
  | .agg parts => uptoBulkAll parts + 1
  | .iface _ d => uptoBulk d + 1
  | .map entries => uptoBulkEntries entries + 1
  | .held _ => 1
def uptoBulkAll {H : Type} : List (DataW H) → Nat
  | [] => 0
  | d :: r => uptoBulk d + uptoBulkAll r
def uptoBulkEntries {H : Type} : List (Lit × DataW H) → Nat
  | [] => 0
  | x :: r => uptoBulkEntry x + uptoBulkEntries r
def uptoBulkEntry {H : Type} : Lit × DataW H → Nat
  | (.string bytes, d) => bytes.length + uptoBulk d + 1
  | (_, d) => uptoBulk d + 1
 end
def uptoSmall : (H : Type) → List (DataW H) → Bool := fun _ ds => decide (uptoBulkAll ds ≤ 1048576)
def OpenSpec.upto (s : _root_.Go.ChangeSpec) : _root_.Go.OpenSpec := { _root_.Go.OpenSpec.ofChange s with cond := some uptoSmall }

/-- 'pontagelaw17.OracleBounds', WHERE WHAT IT READS IS OF BULK AT MOST 1048576: true; the input reads as it did. -/
def oracleBoundsUptoRow : OpenClaim := { program := "ytljfofnpjmlobaa", sum := "55a1f0586a382064e19f38fdc234d08fafd6bd6c4b487b17c7ae8caca24148b3", func := "pontage/pontagelaw17.OracleBounds", spec := "oracleBounds", inPlace := ["math/bits.Sub64", "math/bits.Add64"], recurses := true, apart := false, narrowed := true }
def OracleBoundsUptoSaid : Prop := oracleBoundsUptoRow.holds Try.pinned (OpenSpec.upto oracleBoundsSpec)

/-- 'pontagelaw17.OraclePlays', WHERE WHAT IT READS IS OF BULK AT MOST 1048576: true; the input reads as it did. -/
def oraclePlaysUptoRow : OpenClaim := { program := "ytljfofnpjmlobaa", sum := "55a1f0586a382064e19f38fdc234d08fafd6bd6c4b487b17c7ae8caca24148b3", func := "pontage/pontagelaw17.OraclePlays", spec := "oraclePlays", inPlace := ["math/bits.Sub64", "math/bits.Add64"], recurses := true, apart := false, narrowed := true }
def OraclePlaysUptoSaid : Prop := oraclePlaysUptoRow.holds Try.pinned (OpenSpec.upto oraclePlaysSpec)

end Rows
end Go.Proofs.Ytljfofnpjmlobaa
