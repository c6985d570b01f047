/- CommandApart: the row. -/
import Derived.Test.YtkfhcogdpmndkaaRows
import Derived.Test.YtkfhcogdpmndkaaGh
import Derived.Test.YtkfhcogdpmndkaaWr
import Derived.Test.YtkfhcogdpmndkaaApa
import Derived.WalkKit
import Derived.ProofKit
import Derived.OpenShut
import Derived.ShutString
import Derived.ChangeOld
import Derived.Below
namespace Go.Proofs.Ytkfhcogdpmndkaa
open Go.ChangeShapes Go.WideShapes Go.ChangeAt Go.RowKit
open Go.ChangeMaps (open_string shut_string)
set_option linter.unusedVariables false
theorem commandApart_own : ownKnob Try.prog.godebug = none := by kernel_rfl
theorem commandApart_laidOut : laidOutB Try.prog = true := by kernel_rfl
set_option maxRecDepth 100000 in
theorem commandApart_lifted (os : Os) (started : os.Started) (H : Type) (enc : TypeId × Value → H) :
    ReturnsInHanded {} Try.checked os 3 .any (Rows.commandApartSpec.pre6 enc Try.prog Try.f3 Rows.commandApartRow.domain false) (Rows.commandApartSpec.post enc Try.prog Try.f3 false true false false) := by
  refine returnsInHanded_of_change (C := Try.checked) commandApart_own started (by kernel_rfl) Try.func3
    (ChangeSpec.witness6 (enc := enc) (C := Try.checked) false ⟨#[], #[.agg #[.int .u8 0, .int .u8 0, .int .u8 0, .int .u64 0, .int .u64 0, .int .u8 0, .int .u8 0, .int .u8 0, .int .u8 0, .int .u8 0, .int .u8 0, .int .u8 0, .int .u8 0, .int .u8 0, .int .u8 0, .int .u8 0, .int .u8 0, .int .u8 0, .int .u8 0, .int .u8 0, .int .u8 0, .int .u8 0, .int .u8 0, .int .u8 0, .int .u8 0, .bool false, .slice none 0 0], .agg #[.int .u8 0, .int .u8 0, .int .u8 0, .int .u64 0, .int .u64 0, .int .u8 0, .int .u8 0, .int .u8 0, .int .u8 0, .int .u8 0, .int .u8 0, .int .u8 0, .int .u8 0, .int .u8 0, .int .u8 0, .int .u8 0, .int .u8 0, .int .u8 0, .int .u8 0, .int .u8 0, .int .u8 0, .int .u8 0, .int .u8 0, .int .u8 0, .int .u8 0, .bool false, .slice none 0 0]], []⟩ 12 (by kernel_rfl) (by kernel_rfl) (by kernel_rfl) (by kernel_rfl)) ?_
  intro W base args ds gs before hval0 hW hcnd _
  have hval : ∀ (j : Nat) t v, Try.f3.params[j]? = some t → args[j]? = some v → Value.okWide Try.prog W .any base t v := hval0
  have hW' := hW
  obtain ⟨p, q, hA0, hV, rfl, hfz, hnd⟩ := hW
  have hA : DataW.TrodAll enc Try.prog W 0 (fun _ => true) true Try.f3.params.toList args.toList ds p := hA0
  rw [Try.params3] at hA hval
  obtain ⟨v0, vs0, d0, ds0, p0, q0, hargs, rfl, rfl, h0, r0⟩ := trodAll_cons hA
  obtain ⟨v1, vs1, d1, ds1, p1, q1, rfl, rfl, rfl, h1, r1⟩ := trodAll_cons r0
  obtain ⟨rfl, rfl, rfl⟩ := trodAll_nil r1
  obtain rfl : args = #[v0, v1] := by cases args; simp_all
  obtain ⟨rfl, rfl⟩ := trodVars_none hV
  have k0 := h0
  have lt0 : ∀ x ∈ p0, x.block < W.heap.size := by obtain ⟨m, hm⟩ := k0; exact DataW.trod_lt m _ _ _ hm
  have k1 := h1
  have lt1 : ∀ x ∈ p1, x.block < W.heap.size := by obtain ⟨m, hm⟩ := k1; exact DataW.trod_lt m _ _ _ hm
  obtain ⟨cs0, rfl, hl0⟩ := open_agg (by kernel_rfl) (show Try.prog.cellsOf 28 = 27 by kernel_rfl) (hval 0 28 _ rfl rfl)
  obtain ⟨fu0, hf0⟩ := h0
  have lv0 := open_leaves 2 (by rw [List.toList_toArray] at *; exact hl0.trans (show Try.prog.cellsOf 28 = 27 by kernel_rfl).symm) (by kernel_rfl) hf0 (ls := [(0, 5), (1, 22), (2, 22), (3, 23), (4, 23), (5, 5), (6, 5), (7, 5), (8, 5), (9, 5), (10, 5), (11, 5), (12, 5), (13, 5), (14, 5), (15, 5), (16, 5), (17, 5), (18, 5), (19, 5), (20, 5), (21, 5), (22, 5), (23, 5), (24, 5), (25, 4), (26, 26)]) (by kernel_rfl)
  obtain ⟨o0, g0_0⟩ := (lv0 (0, 5) (by simp)).u8 Try.underlying5
  obtain ⟨wh0, g1_0⟩ := (lv0 (1, 22) (by simp)).u8 Try.underlying22
  obtain ⟨t0, g2_0⟩ := (lv0 (2, 22) (by simp)).u8 Try.underlying22
  obtain ⟨am0, g3_0, ham0⟩ := (lv0 (3, 23) (by simp)).u64 Try.underlying23
  obtain ⟨id0, g4_0, hid0⟩ := (lv0 (4, 23) (by simp)).u64 Try.underlying23
  obtain ⟨ad0, gad_0⟩ := u8s_fun (cs := _) 5 20 (fun i hi => (lv0 (5 + i, 5) (by first | (simp; omega) | (revert i; decide))).u8 Try.underlying5)
  obtain ⟨ag0, g25_0⟩ := (lv0 (25, 4) (by simp)).bool Try.underlying4
  obtain ⟨Bd0, bd0, bc0, g26_0, hBd0, hbl0, hbm0⟩ := (lv0 (26, 26) (by simp)).bytes Try.underlying26 Try.underlying5 (by kernel_rfl)
  obtain rfl := open_cmd hl0 g0_0 g1_0 g2_0 g3_0 g4_0 gad_0 g25_0 g26_0
  obtain ⟨cs1, rfl, hl1⟩ := open_agg (by kernel_rfl) (show Try.prog.cellsOf 28 = 27 by kernel_rfl) (hval 1 28 _ rfl rfl)
  obtain ⟨fu1, hf1⟩ := h1
  have lv1 := open_leaves 2 (by rw [List.toList_toArray] at *; exact hl1.trans (show Try.prog.cellsOf 28 = 27 by kernel_rfl).symm) (by kernel_rfl) hf1 (ls := [(0, 5), (1, 22), (2, 22), (3, 23), (4, 23), (5, 5), (6, 5), (7, 5), (8, 5), (9, 5), (10, 5), (11, 5), (12, 5), (13, 5), (14, 5), (15, 5), (16, 5), (17, 5), (18, 5), (19, 5), (20, 5), (21, 5), (22, 5), (23, 5), (24, 5), (25, 4), (26, 26)]) (by kernel_rfl)
  obtain ⟨o1, g0_1⟩ := (lv1 (0, 5) (by simp)).u8 Try.underlying5
  obtain ⟨wh1, g1_1⟩ := (lv1 (1, 22) (by simp)).u8 Try.underlying22
  obtain ⟨t1, g2_1⟩ := (lv1 (2, 22) (by simp)).u8 Try.underlying22
  obtain ⟨am1, g3_1, ham1⟩ := (lv1 (3, 23) (by simp)).u64 Try.underlying23
  obtain ⟨id1, g4_1, hid1⟩ := (lv1 (4, 23) (by simp)).u64 Try.underlying23
  obtain ⟨ad1, gad_1⟩ := u8s_fun (cs := _) 5 20 (fun i hi => (lv1 (5 + i, 5) (by first | (simp; omega) | (revert i; decide))).u8 Try.underlying5)
  obtain ⟨ag1, g25_1⟩ := (lv1 (25, 4) (by simp)).bool Try.underlying4
  obtain ⟨Bd1, bd1, bc1, g26_1, hBd1, hbl1, hbm1⟩ := (lv1 (26, 26) (by simp)).bytes Try.underlying26 Try.underlying5 (by kernel_rfl)
  obtain rfl := open_cmd hl1 g0_1 g1_1 g2_1 g3_1 g4_1 gad_1 g25_1 g26_1
  clear hA0 hval0
  refine (CommandApart_calls o0 wh0 t0 am0 id0 ad0 ag0 Bd0 bd0 bc0 o1 wh1 t1 am1 id1 ad1 ag1 Bd1 bd1 bc1 W ham0 hid0 hBd0 ham1 hid1 hBd1).mono fun e W' ⟨he, hh⟩ => ?_
  have bel := hh.below
  subst he
  exact ⟨_, rfl, _, _, _, [], _, [], hW', trodAll_mk1 (shut_bool Try.underlying4 _), (trodAll_cons_mk (Below.trod commandApart_laidOut (by kernel_rfl) (of_decide_eq_true (by kernel_rfl)) k0 bel lt0) (trodAll_cons_mk (Below.trod commandApart_laidOut (by kernel_rfl) (of_decide_eq_true (by kernel_rfl)) k1 bel lt1) trodAll_mk0)), rfl, bel.frame _, fun h => by cases h⟩
theorem commandApart_over : Rows.commandApartRow.holds Try.pinned (OpenSpec.ofChange Rows.commandApartSpec) :=
  OpenClaim.holds_of_wide 3 Try.f3 rfl rfl rfl rfl rfl rfl rfl ⟨rfl, rfl, rfl, rfl, rfl⟩ rfl rfl rfl rfl rfl (by kernel_rfl) Try.func3 (by kernel_rfl)
    (of_decide_eq_true (by kernel_rfl)) (by unfold Func.isWrapper; first | (rw [if_pos (by decide +kernel)]; kernel_rfl) | (rw [if_neg (by decide +kernel)]; exact ⟨rfl, rfl⟩))
    (fun os started H enc _ => commandApart_lifted os started H enc)
/-- The given statement. -/
theorem commandApart_proved : Rows.CommandApartSaid := commandApart_over
end Go.Proofs.Ytkfhcogdpmndkaa
