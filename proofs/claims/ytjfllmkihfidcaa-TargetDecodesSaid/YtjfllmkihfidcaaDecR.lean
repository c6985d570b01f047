/- TargetDecodes: the row. -/
import Derived.Test.YtjfllmkihfidcaaRows
import Derived.Test.YtjfllmkihfidcaaGh
import Derived.Test.YtjfllmkihfidcaaWr
import Derived.Test.YtjfllmkihfidcaaDecL
import Derived.WalkKit
import Derived.ProofKit
import Derived.OpenShut
import Derived.ShutString
import Derived.ChangeOld
import Derived.Below
namespace Go.Proofs.Ytjfllmkihfidcaa
open Go.ChangeShapes Go.WideShapes Go.ChangeAt Go.RowKit
open Go.ChangeMaps (open_string shut_string)
set_option linter.unusedVariables false
theorem targetDecodes_own : ownKnob Try.prog.godebug = none := by kernel_rfl
theorem targetDecodes_laidOut : laidOutB Try.prog = true := by kernel_rfl
set_option maxRecDepth 100000 in
theorem targetDecodes_lifted (os : Os) (started : os.Started) (H : Type) (enc : TypeId × Value → H) :
    ReturnsInHanded {} Try.checked os 5 .any (Rows.targetDecodesSpec.pre6 enc Try.prog Try.f5 Rows.targetDecodesRow.domain false) (Rows.targetDecodesSpec.post enc Try.prog Try.f5 false true false false) := by
  refine returnsInHanded_of_change (C := Try.checked) targetDecodes_own started (by kernel_rfl) Try.func5
    (ChangeSpec.witness6 (enc := enc) (C := Try.checked) false ⟨#[], #[.int .u32 0, .agg #[.int .u64 0, .int .u64 0, .int .u64 0, .int .u64 0]], []⟩ 12 (by kernel_rfl) (by kernel_rfl) (by kernel_rfl) (by kernel_rfl)) ?_
  intro W base args ds gs before hval0 hW hcnd _
  have hval : ∀ (j : Nat) t v, Try.f5.params[j]? = some t → args[j]? = some v → Value.okWide Try.prog W .any base t v := hval0
  have hW' := hW
  obtain ⟨p, q, hA0, hV, rfl, hfz, hnd⟩ := hW
  have hA : DataW.TrodAll enc Try.prog W 0 (fun _ => true) true Try.f5.params.toList args.toList ds p := hA0
  rw [Try.params5] at hA hval
  obtain ⟨v0, vs0, d0, ds0, p0, q0, hargs, rfl, rfl, h0, r0⟩ := trodAll_cons hA
  obtain ⟨v1, vs1, d1, ds1, p1, q1, rfl, rfl, rfl, h1, r1⟩ := trodAll_cons r0
  obtain ⟨rfl, rfl, rfl⟩ := trodAll_nil r1
  obtain rfl : args = #[v0, v1] := by cases args; simp_all
  obtain ⟨rfl, rfl⟩ := trodVars_none hV
  have k0 := h0
  have lt0 : ∀ x ∈ p0, x.block < W.heap.size := by obtain ⟨m, hm⟩ := k0; exact DataW.trod_lt m _ _ _ hm
  have k1 := h1
  have lt1 : ∀ x ∈ p1, x.block < W.heap.size := by obtain ⟨m, hm⟩ := k1; exact DataW.trod_lt m _ _ _ hm
  obtain ⟨m0, rfl, wf0⟩ := open_int' Try.underlying41 (hval 0 41 _ rfl rfl) h0
  obtain ⟨n0, rfl, hn0⟩ := u32_nat wf0
  obtain ⟨cs1, rfl, hl1⟩ := open_agg (by kernel_rfl) (show Try.prog.cellsOf 24 = 4 by kernel_rfl) (hval 1 24 _ rfl rfl)
  obtain ⟨fu1, hf1⟩ := h1
  have lv1 := open_leaves 1 (by rw [List.toList_toArray] at *; exact hl1.trans (show Try.prog.cellsOf 24 = 4 by kernel_rfl).symm) (by kernel_rfl) hf1 (ls := (List.range 4).map fun i => (i, 22)) (by kernel_rfl)
  obtain ⟨x1, hx1, rfl⟩ := words_of hl1 (fun i hi => (lv1 (i, 22) (by simpa using hi)).u64 Try.underlying22)
  clear hA0 hval0
  refine (TargetDecodes_calls n0 x1 hn0 hx1 W).mono fun e W' ⟨he, hh⟩ => ?_
  have bel := hh.below
  subst he
  exact ⟨_, rfl, _, _, _, [], _, [], hW', trodAll_mk1 (shut_bool Try.underlying4 _), (trodAll_cons_mk (Below.trod targetDecodes_laidOut (by kernel_rfl) (of_decide_eq_true (by kernel_rfl)) k0 bel lt0) (trodAll_cons_mk (Below.trod targetDecodes_laidOut (by kernel_rfl) (of_decide_eq_true (by kernel_rfl)) k1 bel lt1) trodAll_mk0)), rfl, bel.frame _, fun h => by cases h⟩
theorem targetDecodes_over : Rows.targetDecodesRow.holds Try.pinned (OpenSpec.ofChange Rows.targetDecodesSpec) :=
  OpenClaim.holds_of_wide 5 Try.f5 rfl rfl rfl rfl rfl rfl rfl ⟨rfl, rfl, rfl, rfl, rfl⟩ rfl rfl rfl rfl rfl (by kernel_rfl) Try.func5 (by kernel_rfl)
    (of_decide_eq_true (by kernel_rfl)) (by unfold Func.isWrapper; first | (rw [if_pos (by decide +kernel)]; kernel_rfl) | (rw [if_neg (by decide +kernel)]; exact ⟨rfl, rfl⟩))
    (fun os started H enc _ => targetDecodes_lifted os started H enc)
/-- The given statement. -/
theorem targetDecodes_proved : Rows.TargetDecodesSaid := targetDecodes_over
end Go.Proofs.Ytjfllmkihfidcaa
