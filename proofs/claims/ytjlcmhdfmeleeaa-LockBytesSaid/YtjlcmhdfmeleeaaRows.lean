/-
  No cell of these rows narrows 'for every input' (looked for: loops, veiled, ifaces, maps, wideKeys, modest, calm, conditions, laid).
  DERIVED. THE GIVEN ROWS OF THIS SEAT. 3 by the template 'for every input the law returns true; each argument reads behind the call as it read before'; 0 by the template 'total and deterministic' (their statements: YtjlcmhdfmeleeaaTotals.lean).
  GIVEN WITH THE SEED: the statements are not yours to turn. If you find one false, say at which input.
  Laid BY PROGRAM, IN A SANDBOX (cutbox-rows.mjs): the forced cells as the released guide's own fill.sh prints them over the translation 0c29e4c8329132ff… (all of the seat's roots in one cut). By AI agents, Wed Nov 11 2026. No macro, syntax, notation, axiom, sorry.
-/
import Derived.Test.YtjlcmhdfmeleeaaChecked
import GoSem.Claim
import GoSem.ClaimJoined
import GoSem.ClaimMapViews
import Derived.JoinedTies
import Derived.KernelRfl
namespace Go.Proofs.Ytjlcmhdfmeleeaa
/- THE CELL 'sum', in the pinned program and in every row, IS THE sha256 OF THE DUMP (.gsa) THAT YtjlcmhdfmeleeaaProg.lean LOADS. Nothing in Lean hashes anything: it is a label: what it is worth is what the hold of that sum in a sandbox is worth. -/
noncomputable def Try.pinned : Pinned := { name := "ytjlcmhdfmeleeaa", sum := "0c29e4c8329132ff39fa5a573e29a338f4df3b46ebcba0dace9e9553fde94e01", checked := Try.checked }
namespace Rows
def none {H : Type} : Left H := { results := [], args := [] }

/-- 'pontagelaw08.LockApart': WHATEVER THE INPUT: true; the input reads as it did. -/
def lockApartSpec : ChangeSpec := { name := "lockApart", fn := fun _ => fun
  | [d1, d2, d3, d4] => { results := [.lit (.bool true)], args := [d1, d2, d3, d4] }
  | _ => none }
def lockApartRow : OpenClaim := { program := "ytjlcmhdfmeleeaa", sum := "0c29e4c8329132ff39fa5a573e29a338f4df3b46ebcba0dace9e9553fde94e01", func := "pontage/pontagelaw08.LockApart", spec := "lockApart", apart := false }
def LockApartSaid : Prop := lockApartRow.holds Try.pinned (OpenSpec.ofChange lockApartSpec)

/-- ITS FALSE NEIGHBOUR: 'it returns false'. Refute it at one input. -/
def lockApartWrong : ChangeSpec := { name := "lockApart", fn := fun _ => fun
  | [d1, d2, d3, d4] => { results := [.lit (.bool false)], args := [d1, d2, d3, d4] }
  | _ => none }
def LockApartWrongFalsely : Prop := lockApartRow.holds Try.pinned (OpenSpec.ofChange lockApartWrong)

/-- 'pontagelaw08.LockParses': WHATEVER THE INPUT: true; the input reads as it did. -/
def lockParsesSpec : ChangeSpec := { name := "lockParses", fn := fun _ => fun
  | [d] => { results := [.lit (.bool true)], args := [d] }
  | _ => none }
def lockParsesRow : OpenClaim := { program := "ytjlcmhdfmeleeaa", sum := "0c29e4c8329132ff39fa5a573e29a338f4df3b46ebcba0dace9e9553fde94e01", func := "pontage/pontagelaw08.LockParses", spec := "lockParses", apart := false }
def LockParsesSaid : Prop := lockParsesRow.holds Try.pinned (OpenSpec.ofChange lockParsesSpec)

/-- ITS FALSE NEIGHBOUR: 'it returns false'. Refute it at one input. -/
def lockParsesWrong : ChangeSpec := { name := "lockParses", fn := fun _ => fun
  | [d] => { results := [.lit (.bool false)], args := [d] }
  | _ => none }
def LockParsesWrongFalsely : Prop := lockParsesRow.holds Try.pinned (OpenSpec.ofChange lockParsesWrong)

/-- 'pontagelaw08.LockBytes': WHATEVER THE INPUT: true; the input reads as it did. -/
def lockBytesSpec : ChangeSpec := { name := "lockBytes", fn := fun _ => fun
  | [d1, d2, d3] => { results := [.lit (.bool true)], args := [d1, d2, d3] }
  | _ => none }
def lockBytesRow : OpenClaim := { program := "ytjlcmhdfmeleeaa", sum := "0c29e4c8329132ff39fa5a573e29a338f4df3b46ebcba0dace9e9553fde94e01", func := "pontage/pontagelaw08.LockBytes", spec := "lockBytes", apart := false }
def LockBytesSaid : Prop := lockBytesRow.holds Try.pinned (OpenSpec.ofChange lockBytesSpec)

/-- ITS FALSE NEIGHBOUR: 'it returns false'. Refute it at one input. -/
def lockBytesWrong : ChangeSpec := { name := "lockBytes", fn := fun _ => fun
  | [d1, d2, d3] => { results := [.lit (.bool false)], args := [d1, d2, d3] }
  | _ => none }
def LockBytesWrongFalsely : Prop := lockBytesRow.holds Try.pinned (OpenSpec.ofChange lockBytesWrong)

/- THE SECOND FORM. 'bulk': how many values and letters a reading holds, each counted each time it is reached (what is shared counts as often as it is met; a slice's spare places count too). A statement '..UptoSaid' is the law's where the arguments, and the package variables that the reading takes, are together of bulk at most 1048576: NARROWER than '..Said'. Prove '..Said' where nothing that the law and all that it calls make is longer than what came in: it says more and counts as full. Else prove '..UptoSaid'. A law counts once. -/
mutual
def uptoBulk {H : Type} : DataW H → Nat
  | .lit (.string bytes) => bytes.length + 1
  | .lit _ => 1
  | .nil => 1
  | .ptr d => uptoBulk d + 1
  | .slice elems spare => uptoBulkAll elems + uptoBulkAll spare + 1
  | .agg parts => uptoBulkAll parts + 1
  | .iface _ d => uptoBulk d + 1
  | .map entries => uptoBulkEntries entries + 1
  | .held _ => 1
def uptoBulkAll {H : Type} : List (DataW H) → Nat
  | [] => 0
  | d :: r => uptoBulk d + uptoBulkAll r
def uptoBulkEntries {H : Type} : List (Lit × DataW H) → Nat
  | [] => 0
  | x :: r => uptoBulkEntry x + uptoBulkEntries r
def uptoBulkEntry {H : Type} : Lit × DataW H → Nat
  | (.string bytes, d) => bytes.length + uptoBulk d + 1
  | (_, d) => uptoBulk d + 1
 end
def uptoSmall : (H : Type) → List (DataW H) → Bool := fun _ ds => decide (uptoBulkAll ds ≤ 1048576)
def OpenSpec.upto (s : _root_.Go.ChangeSpec) : _root_.Go.OpenSpec := { _root_.Go.OpenSpec.ofChange s with cond := some uptoSmall }

/-- 'pontagelaw08.LockApart', WHERE WHAT IT READS IS OF BULK AT MOST 1048576: true; the input reads as it did. -/
def lockApartUptoRow : OpenClaim := { program := "ytjlcmhdfmeleeaa", sum := "0c29e4c8329132ff39fa5a573e29a338f4df3b46ebcba0dace9e9553fde94e01", func := "pontage/pontagelaw08.LockApart", spec := "lockApart", apart := false, narrowed := true }
def LockApartUptoSaid : Prop := lockApartUptoRow.holds Try.pinned (OpenSpec.upto lockApartSpec)

/-- 'pontagelaw08.LockParses', WHERE WHAT IT READS IS OF BULK AT MOST 1048576: true; the input reads as it did. -/
def lockParsesUptoRow : OpenClaim := { program := "ytjlcmhdfmeleeaa", sum := "0c29e4c8329132ff39fa5a573e29a338f4df3b46ebcba0dace9e9553fde94e01", func := "pontage/pontagelaw08.LockParses", spec := "lockParses", apart := false, narrowed := true }
def LockParsesUptoSaid : Prop := lockParsesUptoRow.holds Try.pinned (OpenSpec.upto lockParsesSpec)

/-- 'pontagelaw08.LockBytes', WHERE WHAT IT READS IS OF BULK AT MOST 1048576: true; the input reads as it did. -/
def lockBytesUptoRow : OpenClaim := { program := "ytjlcmhdfmeleeaa", sum := "0c29e4c8329132ff39fa5a573e29a338f4df3b46ebcba0dace9e9553fde94e01", func := "pontage/pontagelaw08.LockBytes", spec := "lockBytes", apart := false, narrowed := true }
def LockBytesUptoSaid : Prop := lockBytesUptoRow.holds Try.pinned (OpenSpec.upto lockBytesSpec)

end Rows
end Go.Proofs.Ytjlcmhdfmeleeaa
