/- OraclePlays: the row. -/
import Derived.Test.YtljfofnpjmlobaaRows
import Derived.Test.YtljfofnpjmlobaaGh
import Derived.Test.YtljfofnpjmlobaaWr
import Derived.Test.YtljfofnpjmlobaaNd
import Derived.Test.YtljfofnpjmlobaaPlays
import Derived.WalkKit
import Derived.ProofKit
import Derived.OpenShut
import Derived.ShutString
import Derived.ChangeOld
import Derived.Below
namespace Go.Proofs.Ytljfofnpjmlobaa
open Go.ChangeShapes Go.WideShapes Go.ChangeAt Go.RowKit
open Go.ChangeMaps (open_string shut_string)
set_option linter.unusedVariables false
theorem oraclePlays_own : ownKnob Try.prog.godebug = none := by kernel_rfl
theorem oraclePlays_laidOut : laidOutB Try.prog = true := by kernel_rfl
set_option maxRecDepth 100000 in
theorem oraclePlays_lifted (os : Os) (started : os.Started) (H : Type) (enc : TypeId × Value → H) :
    ReturnsInHanded {} Try.checked os 4 .any (Rows.oraclePlaysSpec.pre6 enc Try.prog Try.f4 Rows.oraclePlaysRow.domain false) (Rows.oraclePlaysSpec.post enc Try.prog Try.f4 false true false false) := by
  refine returnsInHanded_of_change (C := Try.checked) oraclePlays_own started (by kernel_rfl) Try.func4
    (ChangeSpec.witness6 (enc := enc) (C := Try.checked) false ⟨#[], #[.agg #[.int .u64 0, .int .u64 0], .slice none 0 0], []⟩ 12 (by kernel_rfl) (by kernel_rfl) (by kernel_rfl) (by kernel_rfl)) ?_
  intro W base args ds gs before hval0 hW hcnd _
  have hval : ∀ (j : Nat) t v, Try.f4.params[j]? = some t → args[j]? = some v → Value.okWide Try.prog W .any base t v := hval0
  have hW' := hW
  obtain ⟨p, q, hA0, hV, rfl, hfz, hnd⟩ := hW
  have hA : DataW.TrodAll enc Try.prog W 0 (fun _ => true) true Try.f4.params.toList args.toList ds p := hA0
  rw [Try.params4] at hA hval
  obtain ⟨v0, vs0, d0, ds0, p0, q0, hargs, rfl, rfl, h0, r0⟩ := trodAll_cons hA
  obtain ⟨v1, vs1, d1, ds1, p1, q1, rfl, rfl, rfl, h1, r1⟩ := trodAll_cons r0
  obtain ⟨rfl, rfl, rfl⟩ := trodAll_nil r1
  obtain rfl : args = #[v0, v1] := by cases args; simp_all
  obtain ⟨rfl, rfl⟩ := trodVars_none hV
  have k0 := h0
  have lt0 : ∀ x ∈ p0, x.block < W.heap.size := by obtain ⟨m, hm⟩ := k0; exact DataW.trod_lt m _ _ _ hm
  have k1 := h1
  have lt1 : ∀ x ∈ p1, x.block < W.heap.size := by obtain ⟨m, hm⟩ := k1; exact DataW.trod_lt m _ _ _ hm
  obtain ⟨cs0, rfl, hl0⟩ := open_agg (by kernel_rfl) (show Try.prog.cellsOf 30 = 2 by kernel_rfl) (hval 0 30 _ rfl rfl)
  obtain ⟨fu0, hf0⟩ := h0
  have lv0 := open_leaves 1 (by rw [List.toList_toArray] at *; exact hl0.trans (show Try.prog.cellsOf 30 = 2 by kernel_rfl).symm) (by kernel_rfl) hf0 (ls := (List.range 2).map fun i => (i, 22)) (by kernel_rfl)
  obtain ⟨f0, hfl0, rfl⟩ := nums_of 2 hl0 (fun i hi => (lv0 (i, 22) (by simpa using hi)).u64 Try.underlying22)
  rw [show (List.range 2).map (fun i => Value.int .u64 ((f0 i : Nat) : Int)) = [.int .u64 ((f0 0 : Nat) : Int), .int .u64 ((f0 1 : Nat) : Int)] from rfl]
  obtain ⟨a1, len1, cap1, rfl⟩ := okWide_slice Try.underlying37 (hval 1 37 _ rfl rfl)
  obtain ⟨fu1, hfz1⟩ := h1
  obtain ⟨A1, N1, c1, xs1, kk1, ff1, gg1, hcs1, rd1, hx1, hnc1, hcm1, hk1, hf1, hg1, hel1⟩ := open_uuu Try.underlying37 (by kernel_rfl) (by kernel_rfl) (by kernel_rfl) Try.underlying23 Try.underlying22 Try.underlying22 hfz1
  simp [Value.cells] at hcs1
  obtain ⟨rfl, rfl, rfl⟩ := hcs1
  clear hA0 hval0
  refine (OraclePlays_calls (f0 0) (f0 1) (hfl0 0) (hfl0 1) a1 len1 cap1 xs1 kk1 ff1 gg1 W rd1 hx1 (Nat.le_trans hnc1 hcm1) hk1 hf1 hg1 hel1).mono fun e W' ⟨he, hh⟩ => ?_
  have bel := hh.below
  subst he
  exact ⟨_, rfl, _, _, _, [], _, [], hW', trodAll_mk1 (shut_bool Try.underlying4 _), (trodAll_cons_mk (Below.trod oraclePlays_laidOut (by kernel_rfl) (of_decide_eq_true (by kernel_rfl)) k0 bel lt0) (trodAll_cons_mk (Below.trod oraclePlays_laidOut (by kernel_rfl) (of_decide_eq_true (by kernel_rfl)) k1 bel lt1) trodAll_mk0)), rfl, bel.frame _, fun h => by cases h⟩
theorem oraclePlays_over : Rows.oraclePlaysRow.holds Try.pinned (OpenSpec.ofChange Rows.oraclePlaysSpec) :=
  OpenClaim.holds_of_wide 4 Try.f4 rfl rfl rfl rfl rfl rfl rfl ⟨rfl, rfl, rfl, rfl, rfl⟩ rfl rfl rfl rfl rfl (by kernel_rfl) Try.func4 (by kernel_rfl)
    (of_decide_eq_true (by kernel_rfl)) (by unfold Func.isWrapper; first | (rw [if_pos (by decide +kernel)]; kernel_rfl) | (rw [if_neg (by decide +kernel)]; exact ⟨rfl, rfl⟩))
    (fun os started H enc _ => oraclePlays_lifted os started H enc)
/-- The given statement. -/
theorem oraclePlays_proved : Rows.OraclePlaysSaid := oraclePlays_over
end Go.Proofs.Ytljfofnpjmlobaa
