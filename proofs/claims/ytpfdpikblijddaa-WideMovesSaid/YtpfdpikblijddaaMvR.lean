/- WideMoves: the row. -/
import Derived.Test.YtpfdpikblijddaaRows
import Derived.Test.YtpfdpikblijddaaGh
import Derived.Test.YtpfdpikblijddaaWr
import Derived.Test.YtpfdpikblijddaaMv
import Derived.WalkKit
import Derived.ProofKit
import Derived.OpenShut
import Derived.ShutString
import Derived.ChangeOld
import Derived.Below
namespace Go.Proofs.Ytpfdpikblijddaa
open Go.ChangeShapes Go.WideShapes Go.ChangeAt Go.RowKit
open Go.ChangeMaps (open_string shut_string)
set_option linter.unusedVariables false
theorem wideMoves_own : ownKnob Try.prog.godebug = none := by kernel_rfl
theorem wideMoves_laidOut : laidOutB Try.prog = true := by kernel_rfl
set_option maxRecDepth 100000 in
theorem wideMoves_lifted (os : Os) (started : os.Started) (H : Type) (enc : TypeId × Value → H) :
    ReturnsInHanded {} Try.checked os 4 .any (Rows.wideMovesSpec.pre6 enc Try.prog Try.f4 Rows.wideMovesRow.domain false) (Rows.wideMovesSpec.post enc Try.prog Try.f4 false true false false) := by
  refine returnsInHanded_of_change (C := Try.checked) wideMoves_own started (by kernel_rfl) Try.func4
    (ChangeSpec.witness6 (enc := enc) (C := Try.checked) false ⟨#[], #[.agg #[.int .u64 0, .int .u64 0, .int .u64 0, .int .u64 0], .agg #[.int .u64 0, .int .u64 0, .int .u64 0, .int .u64 0], .int .i64 0], []⟩ 12 (by kernel_rfl) (by kernel_rfl) (by kernel_rfl) (by kernel_rfl)) ?_
  intro W base args ds gs before hval0 hW hcnd _
  have hval : ∀ (j : Nat) t v, Try.f4.params[j]? = some t → args[j]? = some v → Value.okWide Try.prog W .any base t v := hval0
  have hW' := hW
  obtain ⟨p, q, hA0, hV, rfl, hfz, hnd⟩ := hW
  have hA : DataW.TrodAll enc Try.prog W 0 (fun _ => true) true Try.f4.params.toList args.toList ds p := hA0
  rw [Try.params4] at hA hval
  obtain ⟨v0, vs0, d0, ds0, p0, q0, hargs, rfl, rfl, h0, r0⟩ := trodAll_cons hA
  obtain ⟨v1, vs1, d1, ds1, p1, q1, rfl, rfl, rfl, h1, r1⟩ := trodAll_cons r0
  obtain ⟨v2, vs2, d2, ds2, p2, q2, rfl, rfl, rfl, h2, r2⟩ := trodAll_cons r1
  obtain ⟨rfl, rfl, rfl⟩ := trodAll_nil r2
  obtain rfl : args = #[v0, v1, v2] := by cases args; simp_all
  obtain ⟨rfl, rfl⟩ := trodVars_none hV
  have k0 := h0
  have lt0 : ∀ x ∈ p0, x.block < W.heap.size := by obtain ⟨m, hm⟩ := k0; exact DataW.trod_lt m _ _ _ hm
  have k1 := h1
  have lt1 : ∀ x ∈ p1, x.block < W.heap.size := by obtain ⟨m, hm⟩ := k1; exact DataW.trod_lt m _ _ _ hm
  have k2 := h2
  have lt2 : ∀ x ∈ p2, x.block < W.heap.size := by obtain ⟨m, hm⟩ := k2; exact DataW.trod_lt m _ _ _ hm
  obtain ⟨cs0, rfl, hl0⟩ := open_agg (by kernel_rfl) (show Try.prog.cellsOf 24 = 4 by kernel_rfl) (hval 0 24 _ rfl rfl)
  obtain ⟨fu0, hf0⟩ := h0
  have lv0 := open_leaves 1 (by rw [List.toList_toArray] at *; exact hl0.trans (show Try.prog.cellsOf 24 = 4 by kernel_rfl).symm) (by kernel_rfl) hf0 (ls := (List.range 4).map fun i => (i, 22)) (by kernel_rfl)
  obtain ⟨x0, hx0, rfl⟩ := words_of hl0 (fun i hi => (lv0 (i, 22) (by simpa using hi)).u64 Try.underlying22)
  obtain ⟨cs1, rfl, hl1⟩ := open_agg (by kernel_rfl) (show Try.prog.cellsOf 24 = 4 by kernel_rfl) (hval 1 24 _ rfl rfl)
  obtain ⟨fu1, hf1⟩ := h1
  have lv1 := open_leaves 1 (by rw [List.toList_toArray] at *; exact hl1.trans (show Try.prog.cellsOf 24 = 4 by kernel_rfl).symm) (by kernel_rfl) hf1 (ls := (List.range 4).map fun i => (i, 22)) (by kernel_rfl)
  obtain ⟨x1, hx1, rfl⟩ := words_of hl1 (fun i hi => (lv1 (i, 22) (by simpa using hi)).u64 Try.underlying22)
  obtain ⟨n2, rfl, wf2⟩ := open_int' Try.underlying3 (hval 2 3 _ rfl rfl) h2
  clear hA0 hval0
  refine (WideMoves_calls x0 x1 n2 hx0 hx1 W).mono fun e W' ⟨he, hh⟩ => ?_
  have bel := hh.below
  subst he
  exact ⟨_, rfl, _, _, _, [], _, [], hW', trodAll_mk1 (shut_bool Try.underlying4 _), (trodAll_cons_mk (Below.trod wideMoves_laidOut (by kernel_rfl) (of_decide_eq_true (by kernel_rfl)) k0 bel lt0) (trodAll_cons_mk (Below.trod wideMoves_laidOut (by kernel_rfl) (of_decide_eq_true (by kernel_rfl)) k1 bel lt1) (trodAll_cons_mk (Below.trod wideMoves_laidOut (by kernel_rfl) (of_decide_eq_true (by kernel_rfl)) k2 bel lt2) trodAll_mk0))), rfl, bel.frame _, fun h => by cases h⟩
theorem wideMoves_over : Rows.wideMovesRow.holds Try.pinned (OpenSpec.ofChange Rows.wideMovesSpec) :=
  OpenClaim.holds_of_wide 4 Try.f4 rfl rfl rfl rfl rfl rfl rfl ⟨rfl, rfl, rfl, rfl, rfl⟩ rfl rfl rfl rfl rfl (by kernel_rfl) Try.func4 (by kernel_rfl)
    (of_decide_eq_true (by kernel_rfl)) (by unfold Func.isWrapper; first | (rw [if_pos (by decide +kernel)]; kernel_rfl) | (rw [if_neg (by decide +kernel)]; exact ⟨rfl, rfl⟩))
    (fun os started H enc _ => wideMoves_lifted os started H enc)
/-- The given statement. -/
theorem wideMoves_proved : Rows.WideMovesSaid := wideMoves_over
end Go.Proofs.Ytpfdpikblijddaa
