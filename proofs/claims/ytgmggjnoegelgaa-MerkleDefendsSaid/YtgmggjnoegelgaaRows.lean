/-
  No cell of these rows narrows 'for every input' (looked for: loops, veiled, ifaces, maps, wideKeys, modest, calm, conditions, laid).
  DERIVED. THE GIVEN ROWS OF THIS SEAT. 4 by the template 'for every input the law returns true; each argument reads behind the call as it read before'; 0 by the template 'total and deterministic' (their statements: YtgmggjnoegelgaaTotals.lean).
  GIVEN WITH THE SEED: the statements are not yours to turn. If you find one false, say at which input.
  Laid BY PROGRAM, IN A SANDBOX (cutbox-rows.mjs): the forced cells as the released guide's own fill.sh prints them over the translation f51b6395510ee4b5… (all of the seat's roots in one cut). By AI agents, Wed Nov 11 2026. No macro, syntax, notation, axiom, sorry.
-/
import Derived.Test.YtgmggjnoegelgaaChecked
import GoSem.Claim
import GoSem.ClaimJoined
import GoSem.ClaimMapViews
import Derived.JoinedTies
import Derived.KernelRfl
namespace Go.Proofs.Ytgmggjnoegelgaa
/- THE CELL 'sum', in the pinned program and in every row, IS THE sha256 OF THE DUMP (.gsa) THAT YtgmggjnoegelgaaProg.lean LOADS. Nothing in Lean hashes anything: it is a label: what it is worth is what the hold of that sum in a sandbox is worth. -/
noncomputable def Try.pinned : Pinned := { name := "ytgmggjnoegelgaa", sum := "f51b6395510ee4b552dce44ff7c269608bc6ce4805e0fd4fd8ace1d6b9855428", checked := Try.checked }
namespace Rows
def none {H : Type} : Left H := { results := [], args := [] }

/-- 'pontagelaw10.MerkleRoots': WHATEVER THE INPUT: true; the input reads as it did. -/
def merkleRootsSpec : ChangeSpec := { name := "merkleRoots", fn := fun _ => fun
  | [d1, d2] => { results := [.lit (.bool true)], args := [d1, d2] }
  | _ => none }
def merkleRootsRow : OpenClaim := { program := "ytgmggjnoegelgaa", sum := "f51b6395510ee4b552dce44ff7c269608bc6ce4805e0fd4fd8ace1d6b9855428", func := "pontage/pontagelaw10.MerkleRoots", spec := "merkleRoots", unfollowed := true, recurses := true, apart := false }
def MerkleRootsSaid : Prop := merkleRootsRow.holds Try.pinned (OpenSpec.ofChange merkleRootsSpec)

/-- ITS FALSE NEIGHBOUR: 'it returns false'. Refute it at one input. -/
def merkleRootsWrong : ChangeSpec := { name := "merkleRoots", fn := fun _ => fun
  | [d1, d2] => { results := [.lit (.bool false)], args := [d1, d2] }
  | _ => none }
def MerkleRootsWrongFalsely : Prop := merkleRootsRow.holds Try.pinned (OpenSpec.ofChange merkleRootsWrong)

/-- 'pontagelaw10.MerkleDefends': WHATEVER THE INPUT: true; the input reads as it did. -/
def merkleDefendsSpec : ChangeSpec := { name := "merkleDefends", fn := fun _ => fun
  | [d] => { results := [.lit (.bool true)], args := [d] }
  | _ => none }
def merkleDefendsRow : OpenClaim := { program := "ytgmggjnoegelgaa", sum := "f51b6395510ee4b552dce44ff7c269608bc6ce4805e0fd4fd8ace1d6b9855428", func := "pontage/pontagelaw10.MerkleDefends", spec := "merkleDefends", unfollowed := true, recurses := true, apart := false }
def MerkleDefendsSaid : Prop := merkleDefendsRow.holds Try.pinned (OpenSpec.ofChange merkleDefendsSpec)

/-- ITS FALSE NEIGHBOUR: 'it returns false'. Refute it at one input. -/
def merkleDefendsWrong : ChangeSpec := { name := "merkleDefends", fn := fun _ => fun
  | [d] => { results := [.lit (.bool false)], args := [d] }
  | _ => none }
def MerkleDefendsWrongFalsely : Prop := merkleDefendsRow.holds Try.pinned (OpenSpec.ofChange merkleDefendsWrong)

/-- 'pontagelaw10.MerkleClimbs': WHATEVER THE INPUT: true; the input reads as it did. -/
def merkleClimbsSpec : ChangeSpec := { name := "merkleClimbs", fn := fun _ => fun
  | [d1, d2, d3, d4, d5] => { results := [.lit (.bool true)], args := [d1, d2, d3, d4, d5] }
  | _ => none }
def merkleClimbsRow : OpenClaim := { program := "ytgmggjnoegelgaa", sum := "f51b6395510ee4b552dce44ff7c269608bc6ce4805e0fd4fd8ace1d6b9855428", func := "pontage/pontagelaw10.MerkleClimbs", spec := "merkleClimbs", unfollowed := true, recurses := true, apart := false }
def MerkleClimbsSaid : Prop := merkleClimbsRow.holds Try.pinned (OpenSpec.ofChange merkleClimbsSpec)

/-- ITS FALSE NEIGHBOUR: 'it returns false'. Refute it at one input. -/
def merkleClimbsWrong : ChangeSpec := { name := "merkleClimbs", fn := fun _ => fun
  | [d1, d2, d3, d4, d5] => { results := [.lit (.bool false)], args := [d1, d2, d3, d4, d5] }
  | _ => none }
def MerkleClimbsWrongFalsely : Prop := merkleClimbsRow.holds Try.pinned (OpenSpec.ofChange merkleClimbsWrong)

/-- 'pontagelaw10.MerkleProves': WHATEVER THE INPUT: true; the input reads as it did. -/
def merkleProvesSpec : ChangeSpec := { name := "merkleProves", fn := fun _ => fun
  | [d1, d2, d3] => { results := [.lit (.bool true)], args := [d1, d2, d3] }
  | _ => none }
def merkleProvesRow : OpenClaim := { program := "ytgmggjnoegelgaa", sum := "f51b6395510ee4b552dce44ff7c269608bc6ce4805e0fd4fd8ace1d6b9855428", func := "pontage/pontagelaw10.MerkleProves", spec := "merkleProves", unfollowed := true, recurses := true, apart := false }
def MerkleProvesSaid : Prop := merkleProvesRow.holds Try.pinned (OpenSpec.ofChange merkleProvesSpec)

/-- ITS FALSE NEIGHBOUR: 'it returns false'. Refute it at one input. -/
def merkleProvesWrong : ChangeSpec := { name := "merkleProves", fn := fun _ => fun
  | [d1, d2, d3] => { results := [.lit (.bool false)], args := [d1, d2, d3] }
  | _ => none }
def MerkleProvesWrongFalsely : Prop := merkleProvesRow.holds Try.pinned (OpenSpec.ofChange merkleProvesWrong)

/- THE SECOND FORM. 'bulk': how many values and letters a reading holds, each counted each time it is reached (what is shared counts as often as it is met; a slice's spare places count too). A statement '..UptoSaid' is the law's where the arguments, and the package variables that the reading takes, are together of bulk at most 1048576: NARROWER than '..Said'. Prove '..Said' where nothing that the law and all that it calls make is longer than what came in: it says more and counts as full. Else prove '..UptoSaid'. A law counts once. -/
mutual
def uptoBulk {H : Type} : DataW H → Nat
  | .lit (.string bytes) => bytes.length + 1
  | .lit _ => 1
  | .nil => 1
  | .ptr d => uptoBulk d + 1
  | .slice elems spare => uptoBulkAll elems + uptoBulkAll spare + 1
  | .agg parts => uptoBulkAll parts + 1
  | .iface _ d => uptoBulk d + 1
  | .map entries => uptoBulkEntries entries + 1
  | .held _ => 1
def uptoBulkAll {H : Type} : List (DataW H) → Nat
  | [] => 0
  | d :: r => uptoBulk d + uptoBulkAll r
def uptoBulkEntries {H : Type} : List (Lit × DataW H) → Nat
  | [] => 0
  | x :: r => uptoBulkEntry x + uptoBulkEntries r
def uptoBulkEntry {H : Type} : Lit × DataW H → Nat
  | (.string bytes, d) => bytes.length + uptoBulk d + 1
  | (_, d) => uptoBulk d + 1
 end
def uptoSmall : (H : Type) → List (DataW H) → Bool := fun _ ds => decide (uptoBulkAll ds ≤ 1048576)
def OpenSpec.upto (s : _root_.Go.ChangeSpec) : _root_.Go.OpenSpec := { _root_.Go.OpenSpec.ofChange s with cond := some uptoSmall }

/-- 'pontagelaw10.MerkleRoots', WHERE WHAT IT READS IS OF BULK AT MOST 1048576: true; the input reads as it did. -/
def merkleRootsUptoRow : OpenClaim := { program := "ytgmggjnoegelgaa", sum := "f51b6395510ee4b552dce44ff7c269608bc6ce4805e0fd4fd8ace1d6b9855428", func := "pontage/pontagelaw10.MerkleRoots", spec := "merkleRoots", unfollowed := true, recurses := true, apart := false, narrowed := true }
def MerkleRootsUptoSaid : Prop := merkleRootsUptoRow.holds Try.pinned (OpenSpec.upto merkleRootsSpec)

/-- 'pontagelaw10.MerkleDefends', WHERE WHAT IT READS IS OF BULK AT MOST 1048576: true; the input reads as it did. -/
def merkleDefendsUptoRow : OpenClaim := { program := "ytgmggjnoegelgaa", sum := "f51b6395510ee4b552dce44ff7c269608bc6ce4805e0fd4fd8ace1d6b9855428", func := "pontage/pontagelaw10.MerkleDefends", spec := "merkleDefends", unfollowed := true, recurses := true, apart := false, narrowed := true }
def MerkleDefendsUptoSaid : Prop := merkleDefendsUptoRow.holds Try.pinned (OpenSpec.upto merkleDefendsSpec)

/-- 'pontagelaw10.MerkleClimbs', WHERE WHAT IT READS IS OF BULK AT MOST 1048576: true; the input reads as it did. -/
def merkleClimbsUptoRow : OpenClaim := { program := "ytgmggjnoegelgaa", sum := "f51b6395510ee4b552dce44ff7c269608bc6ce4805e0fd4fd8ace1d6b9855428", func := "pontage/pontagelaw10.MerkleClimbs", spec := "merkleClimbs", unfollowed := true, recurses := true, apart := false, narrowed := true }
def MerkleClimbsUptoSaid : Prop := merkleClimbsUptoRow.holds Try.pinned (OpenSpec.upto merkleClimbsSpec)

/-- 'pontagelaw10.MerkleProves', WHERE WHAT IT READS IS OF BULK AT MOST 1048576: true; the input reads as it did. -/
def merkleProvesUptoRow : OpenClaim := { program := "ytgmggjnoegelgaa", sum := "f51b6395510ee4b552dce44ff7c269608bc6ce4805e0fd4fd8ace1d6b9855428", func := "pontage/pontagelaw10.MerkleProves", spec := "merkleProves", unfollowed := true, recurses := true, apart := false, narrowed := true }
def MerkleProvesUptoSaid : Prop := merkleProvesUptoRow.holds Try.pinned (OpenSpec.upto merkleProvesSpec)

end Rows
end Go.Proofs.Ytgmggjnoegelgaa
