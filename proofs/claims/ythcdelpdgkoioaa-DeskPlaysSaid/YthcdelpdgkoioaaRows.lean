/-
  No cell of these rows narrows 'for every input' (looked for: loops, veiled, ifaces, maps, wideKeys, modest, calm, conditions, laid).
  DERIVED. THE GIVEN ROWS OF THIS SEAT. 3 by the template 'for every input the law returns true; each argument reads behind the call as it read before'; 0 by the template 'total and deterministic' (their statements: YthcdelpdgkoioaaTotals.lean).
  GIVEN WITH THE SEED: the statements are not yours to turn. If you find one false, say at which input.
  Laid BY PROGRAM, IN A SANDBOX (cutbox-rows.mjs): the forced cells as the released guide's own fill.sh prints them over the translation 5160d5aa2073ca82… (all of the seat's roots in one cut). By AI agents, Wed Nov 11 2026. No macro, syntax, notation, axiom, sorry.
-/
import Derived.Test.YthcdelpdgkoioaaChecked
import GoSem.Claim
import GoSem.ClaimJoined
import GoSem.ClaimMapViews
import Derived.JoinedTies
import Derived.KernelRfl
namespace Go.Proofs.Ythcdelpdgkoioaa
/- THE CELL 'sum', in the pinned program and in every row, IS THE sha256 OF THE DUMP (.gsa) THAT YthcdelpdgkoioaaProg.lean LOADS. Nothing in Lean hashes anything: it is a label: what it is worth is what the hold of that sum in a sandbox is worth. -/
noncomputable def Try.pinned : Pinned := { name := "ythcdelpdgkoioaa", sum := "5160d5aa2073ca82243c146274d02c2bbe2ec57b5135444e41b939f8a10d9a1d", checked := Try.checked }
namespace Rows
def none {H : Type} : Left H := { results := [], args := [] }

/-- 'pontagelaw21.DeskWaits': WHATEVER THE INPUT: true; the input reads as it did. -/
def deskWaitsSpec : ChangeSpec := { name := "deskWaits", fn := fun _ => fun
  | [d1, d2, d3, d4, d5] => { results := [.lit (.bool true)], args := [d1, d2, d3, d4, d5] }
  | _ => none }
def deskWaitsRow : OpenClaim := { program := "ythcdelpdgkoioaa", sum := "5160d5aa2073ca82243c146274d02c2bbe2ec57b5135444e41b939f8a10d9a1d", func := "pontage/pontagelaw21.DeskWaits", spec := "deskWaits", apart := false }
def DeskWaitsSaid : Prop := deskWaitsRow.holds Try.pinned (OpenSpec.ofChange deskWaitsSpec)

/-- ITS FALSE NEIGHBOUR: 'it returns false'. Refute it at one input. -/
def deskWaitsWrong : ChangeSpec := { name := "deskWaits", fn := fun _ => fun
  | [d1, d2, d3, d4, d5] => { results := [.lit (.bool false)], args := [d1, d2, d3, d4, d5] }
  | _ => none }
def DeskWaitsWrongFalsely : Prop := deskWaitsRow.holds Try.pinned (OpenSpec.ofChange deskWaitsWrong)

/-- 'pontagelaw21.DeskPlays': WHATEVER THE INPUT: true; the input reads as it did. -/
def deskPlaysSpec : ChangeSpec := { name := "deskPlays", fn := fun _ => fun
  | [d1, d2, d3] => { results := [.lit (.bool true)], args := [d1, d2, d3] }
  | _ => none }
def deskPlaysRow : OpenClaim := { program := "ythcdelpdgkoioaa", sum := "5160d5aa2073ca82243c146274d02c2bbe2ec57b5135444e41b939f8a10d9a1d", func := "pontage/pontagelaw21.DeskPlays", spec := "deskPlays", apart := false }
def DeskPlaysSaid : Prop := deskPlaysRow.holds Try.pinned (OpenSpec.ofChange deskPlaysSpec)

/-- ITS FALSE NEIGHBOUR: 'it returns false'. Refute it at one input. -/
def deskPlaysWrong : ChangeSpec := { name := "deskPlays", fn := fun _ => fun
  | [d1, d2, d3] => { results := [.lit (.bool false)], args := [d1, d2, d3] }
  | _ => none }
def DeskPlaysWrongFalsely : Prop := deskPlaysRow.holds Try.pinned (OpenSpec.ofChange deskPlaysWrong)

/-- 'pontagelaw21.DeskNone': WHATEVER THE INPUT: true; the input reads as it did. -/
def deskNoneSpec : ChangeSpec := { name := "deskNone", fn := fun _ => fun
  | [d1, d2, d3, d4] => { results := [.lit (.bool true)], args := [d1, d2, d3, d4] }
  | _ => none }
def deskNoneRow : OpenClaim := { program := "ythcdelpdgkoioaa", sum := "5160d5aa2073ca82243c146274d02c2bbe2ec57b5135444e41b939f8a10d9a1d", func := "pontage/pontagelaw21.DeskNone", spec := "deskNone", unfollowed := true, recurses := true, apart := false }
def DeskNoneSaid : Prop := deskNoneRow.holds Try.pinned (OpenSpec.ofChange deskNoneSpec)

/-- ITS FALSE NEIGHBOUR: 'it returns false'. Refute it at one input. -/
def deskNoneWrong : ChangeSpec := { name := "deskNone", fn := fun _ => fun
  | [d1, d2, d3, d4] => { results := [.lit (.bool false)], args := [d1, d2, d3, d4] }
  | _ => none }
def DeskNoneWrongFalsely : Prop := deskNoneRow.holds Try.pinned (OpenSpec.ofChange deskNoneWrong)

/- THE SECOND FORM. 'bulk': how many values and letters a reading holds, each counted each time it is reached (what is shared counts as often as it is met; a slice's spare places count too). A statement '..UptoSaid' is the law's where the arguments, and the package variables that the reading takes, are together of bulk at most 1048576: NARROWER than '..Said'. Prove '..Said' where nothing that the law and all that it calls make is longer than what came in: it says more and counts as full. Else prove '..UptoSaid'. A law counts once. -/
mutual
def uptoBulk {H : Type} : DataW H → Nat
  | .lit (.string bytes) => bytes.length + 1
  | .lit _ => 1
  | .nil => 1
  | .ptr d => uptoBulk d + 1
  | .slice elems spare => uptoBulkAll elems + uptoBulkAll spare + 1
  | .agg parts => uptoBulkAll parts + 1
  | .iface _ d => uptoBulk d + 1
  | .map entries => uptoBulkEntries entries + 1
  | .held _ => 1
def uptoBulkAll {H : Type} : List (DataW H) → Nat
  | [] => 0
  | d :: r => uptoBulk d + uptoBulkAll r
def uptoBulkEntries {H : Type} : List (Lit × DataW H) → Nat
  | [] => 0
  | x :: r => uptoBulkEntry x + uptoBulkEntries r
def uptoBulkEntry {H : Type} : Lit × DataW H → Nat
  | (.string bytes, d) => bytes.length + uptoBulk d + 1
  | (_, d) => uptoBulk d + 1
 end
def uptoSmall : (H : Type) → List (DataW H) → Bool := fun _ ds => decide (uptoBulkAll ds ≤ 1048576)
def OpenSpec.upto (s : _root_.Go.ChangeSpec) : _root_.Go.OpenSpec := { _root_.Go.OpenSpec.ofChange s with cond := some uptoSmall }

/-- 'pontagelaw21.DeskWaits', WHERE WHAT IT READS IS OF BULK AT MOST 1048576: true; the input reads as it did. -/
def deskWaitsUptoRow : OpenClaim := { program := "ythcdelpdgkoioaa", sum := "5160d5aa2073ca82243c146274d02c2bbe2ec57b5135444e41b939f8a10d9a1d", func := "pontage/pontagelaw21.DeskWaits", spec := "deskWaits", apart := false, narrowed := true }
def DeskWaitsUptoSaid : Prop := deskWaitsUptoRow.holds Try.pinned (OpenSpec.upto deskWaitsSpec)

/-- 'pontagelaw21.DeskPlays', WHERE WHAT IT READS IS OF BULK AT MOST 1048576: true; the input reads as it did. -/
def deskPlaysUptoRow : OpenClaim := { program := "ythcdelpdgkoioaa", sum := "5160d5aa2073ca82243c146274d02c2bbe2ec57b5135444e41b939f8a10d9a1d", func := "pontage/pontagelaw21.DeskPlays", spec := "deskPlays", apart := false, narrowed := true }
def DeskPlaysUptoSaid : Prop := deskPlaysUptoRow.holds Try.pinned (OpenSpec.upto deskPlaysSpec)

/-- 'pontagelaw21.DeskNone', WHERE WHAT IT READS IS OF BULK AT MOST 1048576: true; the input reads as it did. -/
def deskNoneUptoRow : OpenClaim := { program := "ythcdelpdgkoioaa", sum := "5160d5aa2073ca82243c146274d02c2bbe2ec57b5135444e41b939f8a10d9a1d", func := "pontage/pontagelaw21.DeskNone", spec := "deskNone", unfollowed := true, recurses := true, apart := false, narrowed := true }
def DeskNoneUptoSaid : Prop := deskNoneUptoRow.holds Try.pinned (OpenSpec.upto deskNoneSpec)

end Rows
end Go.Proofs.Ythcdelpdgkoioaa
