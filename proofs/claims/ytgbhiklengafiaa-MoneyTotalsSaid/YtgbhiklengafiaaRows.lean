/-
  No cell of these rows narrows 'for every input' (looked for: loops, veiled, ifaces, maps, wideKeys, modest, calm, conditions, laid).
  DERIVED. THE GIVEN ROWS OF THIS SEAT. 4 by the template 'for every input the law returns true; each argument reads behind the call as it read before'; 0 by the template 'total and deterministic' (their statements: YtgbhiklengafiaaTotals.lean).
  GIVEN WITH THE SEED: the statements are not yours to turn. If you find one false, say at which input.
  Laid BY PROGRAM, IN A SANDBOX (cutbox-rows.mjs): the forced cells as the released guide's own fill.sh prints them over the translation d9eb00a64d58985f… (all of the seat's roots in one cut). By AI agents, Wed Nov 11 2026. No macro, syntax, notation, axiom, sorry.
-/
import Derived.Test.YtgbhiklengafiaaChecked
import GoSem.Claim
import GoSem.ClaimJoined
import GoSem.ClaimMapViews
import Derived.JoinedTies
import Derived.KernelRfl
namespace Go.Proofs.Ytgbhiklengafiaa
/- THE CELL 'sum', in the pinned program and in every row, IS THE sha256 OF THE DUMP (.gsa) THAT YtgbhiklengafiaaProg.lean LOADS. Nothing in Lean hashes anything: it is a label: what it is worth is what the hold of that sum in a sandbox is worth. -/
noncomputable def Try.pinned : Pinned := { name := "ytgbhiklengafiaa", sum := "d9eb00a64d58985f57adb44a043355e2f0d1688069141b0b9841e313168b6562", checked := Try.checked }
namespace Rows
def none {H : Type} : Left H := { results := [], args := [] }

/-- 'pontagelaw04.MoneyRounds': WHATEVER THE INPUT: true; the input reads as it did. -/
def moneyRoundsSpec : ChangeSpec := { name := "moneyRounds", fn := fun _ => fun
  | [d1, d2, d3, d4] => { results := [.lit (.bool true)], args := [d1, d2, d3, d4] }
  | _ => none }
def moneyRoundsRow : OpenClaim := { program := "ytgbhiklengafiaa", sum := "d9eb00a64d58985f57adb44a043355e2f0d1688069141b0b9841e313168b6562", func := "pontage/pontagelaw04.MoneyRounds", spec := "moneyRounds", inPlace := ["math/bits.Sub64", "math/bits.Add64"], recurses := true, apart := false }
def MoneyRoundsSaid : Prop := moneyRoundsRow.holds Try.pinned (OpenSpec.ofChange moneyRoundsSpec)

/-- ITS FALSE NEIGHBOUR: 'it returns false'. Refute it at one input. -/
def moneyRoundsWrong : ChangeSpec := { name := "moneyRounds", fn := fun _ => fun
  | [d1, d2, d3, d4] => { results := [.lit (.bool false)], args := [d1, d2, d3, d4] }
  | _ => none }
def MoneyRoundsWrongFalsely : Prop := moneyRoundsRow.holds Try.pinned (OpenSpec.ofChange moneyRoundsWrong)

/-- 'pontagelaw04.MoneyParts': WHATEVER THE INPUT: true; the input reads as it did. -/
def moneyPartsSpec : ChangeSpec := { name := "moneyParts", fn := fun _ => fun
  | [d1, d2, d3, d4] => { results := [.lit (.bool true)], args := [d1, d2, d3, d4] }
  | _ => none }
def moneyPartsRow : OpenClaim := { program := "ytgbhiklengafiaa", sum := "d9eb00a64d58985f57adb44a043355e2f0d1688069141b0b9841e313168b6562", func := "pontage/pontagelaw04.MoneyParts", spec := "moneyParts", inPlace := ["math/bits.Sub64", "math/bits.Add64"], recurses := true, apart := false }
def MoneyPartsSaid : Prop := moneyPartsRow.holds Try.pinned (OpenSpec.ofChange moneyPartsSpec)

/-- ITS FALSE NEIGHBOUR: 'it returns false'. Refute it at one input. -/
def moneyPartsWrong : ChangeSpec := { name := "moneyParts", fn := fun _ => fun
  | [d1, d2, d3, d4] => { results := [.lit (.bool false)], args := [d1, d2, d3, d4] }
  | _ => none }
def MoneyPartsWrongFalsely : Prop := moneyPartsRow.holds Try.pinned (OpenSpec.ofChange moneyPartsWrong)

/-- 'pontagelaw04.MoneySums': WHATEVER THE INPUT: true; the input reads as it did. -/
def moneySumsSpec : ChangeSpec := { name := "moneySums", fn := fun _ => fun
  | [d1, d2] => { results := [.lit (.bool true)], args := [d1, d2] }
  | _ => none }
def moneySumsRow : OpenClaim := { program := "ytgbhiklengafiaa", sum := "d9eb00a64d58985f57adb44a043355e2f0d1688069141b0b9841e313168b6562", func := "pontage/pontagelaw04.MoneySums", spec := "moneySums", inPlace := ["math/bits.Sub64", "math/bits.Add64"], recurses := true, apart := false }
def MoneySumsSaid : Prop := moneySumsRow.holds Try.pinned (OpenSpec.ofChange moneySumsSpec)

/-- ITS FALSE NEIGHBOUR: 'it returns false'. Refute it at one input. -/
def moneySumsWrong : ChangeSpec := { name := "moneySums", fn := fun _ => fun
  | [d1, d2] => { results := [.lit (.bool false)], args := [d1, d2] }
  | _ => none }
def MoneySumsWrongFalsely : Prop := moneySumsRow.holds Try.pinned (OpenSpec.ofChange moneySumsWrong)

/-- 'pontagelaw04.MoneyTotals': WHATEVER THE INPUT: true; the input reads as it did. -/
def moneyTotalsSpec : ChangeSpec := { name := "moneyTotals", fn := fun _ => fun
  | [d] => { results := [.lit (.bool true)], args := [d] }
  | _ => none }
def moneyTotalsRow : OpenClaim := { program := "ytgbhiklengafiaa", sum := "d9eb00a64d58985f57adb44a043355e2f0d1688069141b0b9841e313168b6562", func := "pontage/pontagelaw04.MoneyTotals", spec := "moneyTotals", inPlace := ["math/bits.Sub64", "math/bits.Add64"], unfollowed := true, recurses := true, apart := false }
def MoneyTotalsSaid : Prop := moneyTotalsRow.holds Try.pinned (OpenSpec.ofChange moneyTotalsSpec)

/-- ITS FALSE NEIGHBOUR: 'it returns false'. Refute it at one input. -/
def moneyTotalsWrong : ChangeSpec := { name := "moneyTotals", fn := fun _ => fun
  | [d] => { results := [.lit (.bool false)], args := [d] }
  | _ => none }
def MoneyTotalsWrongFalsely : Prop := moneyTotalsRow.holds Try.pinned (OpenSpec.ofChange moneyTotalsWrong)

/- THE SECOND FORM. 'bulk': how many values and letters a reading holds, each counted each time it is reached (what is shared counts as often as it is met; a slice's spare places count too). A statement '..UptoSaid' is the law's where the arguments, and the package variables that the reading takes, are together of bulk at most 1048576: NARROWER than '..Said'. Prove '..Said' where nothing that the law and all that it calls make is longer than what came in: it says more and counts as full. Else prove '..UptoSaid'. A law counts once. -/
mutual
def uptoBulk {H : Type} : DataW H → Nat
  | .lit (.string bytes) => bytes.length + 1
  | .lit _ => 1
  | .nil => 1
  | .ptr d => uptoBulk d + 1
  | .slice elems spare => uptoBulkAll elems + uptoBulkAll spare + 1
  | .agg parts => uptoBulkAll parts + 1
  | .iface _ d => uptoBulk d + 1
  | .map entries => uptoBulkEntries entries + 1
  | .held _ => 1
def uptoBulkAll {H : Type} : List (DataW H) → Nat
  | [] => 0
  | d :: r => uptoBulk d + uptoBulkAll r
def uptoBulkEntries {H : Type} : List (Lit × DataW H) → Nat
  | [] => 0
  | x :: r => uptoBulkEntry x + uptoBulkEntries r
def uptoBulkEntry {H : Type} : Lit × DataW H → Nat
  | (.string bytes, d) => bytes.length + uptoBulk d + 1
  | (_, d) => uptoBulk d + 1
 end
def uptoSmall : (H : Type) → List (DataW H) → Bool := fun _ ds => decide (uptoBulkAll ds ≤ 1048576)
def OpenSpec.upto (s : _root_.Go.ChangeSpec) : _root_.Go.OpenSpec := { _root_.Go.OpenSpec.ofChange s with cond := some uptoSmall }

/-- 'pontagelaw04.MoneyRounds', WHERE WHAT IT READS IS OF BULK AT MOST 1048576: true; the input reads as it did. -/
def moneyRoundsUptoRow : OpenClaim := { program := "ytgbhiklengafiaa", sum := "d9eb00a64d58985f57adb44a043355e2f0d1688069141b0b9841e313168b6562", func := "pontage/pontagelaw04.MoneyRounds", spec := "moneyRounds", inPlace := ["math/bits.Sub64", "math/bits.Add64"], recurses := true, apart := false, narrowed := true }
def MoneyRoundsUptoSaid : Prop := moneyRoundsUptoRow.holds Try.pinned (OpenSpec.upto moneyRoundsSpec)

/-- 'pontagelaw04.MoneyParts', WHERE WHAT IT READS IS OF BULK AT MOST 1048576: true; the input reads as it did. -/
def moneyPartsUptoRow : OpenClaim := { program := "ytgbhiklengafiaa", sum := "d9eb00a64d58985f57adb44a043355e2f0d1688069141b0b9841e313168b6562", func := "pontage/pontagelaw04.MoneyParts", spec := "moneyParts", inPlace := ["math/bits.Sub64", "math/bits.Add64"], recurses := true, apart := false, narrowed := true }
def MoneyPartsUptoSaid : Prop := moneyPartsUptoRow.holds Try.pinned (OpenSpec.upto moneyPartsSpec)

/-- 'pontagelaw04.MoneySums', WHERE WHAT IT READS IS OF BULK AT MOST 1048576: true; the input reads as it did. -/
def moneySumsUptoRow : OpenClaim := { program := "ytgbhiklengafiaa", sum := "d9eb00a64d58985f57adb44a043355e2f0d1688069141b0b9841e313168b6562", func := "pontage/pontagelaw04.MoneySums", spec := "moneySums", inPlace := ["math/bits.Sub64", "math/bits.Add64"], recurses := true, apart := false, narrowed := true }
def MoneySumsUptoSaid : Prop := moneySumsUptoRow.holds Try.pinned (OpenSpec.upto moneySumsSpec)

/-- 'pontagelaw04.MoneyTotals', WHERE WHAT IT READS IS OF BULK AT MOST 1048576: true; the input reads as it did. -/
def moneyTotalsUptoRow : OpenClaim := { program := "ytgbhiklengafiaa", sum := "d9eb00a64d58985f57adb44a043355e2f0d1688069141b0b9841e313168b6562", func := "pontage/pontagelaw04.MoneyTotals", spec := "moneyTotals", inPlace := ["math/bits.Sub64", "math/bits.Add64"], unfollowed := true, recurses := true, apart := false, narrowed := true }
def MoneyTotalsUptoSaid : Prop := moneyTotalsUptoRow.holds Try.pinned (OpenSpec.upto moneyTotalsSpec)

end Rows
end Go.Proofs.Ytgbhiklengafiaa
