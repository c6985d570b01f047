/- HeaderApart: the row. -/
import Derived.Test.YtdepaaphgfapjaaRows
import Derived.Test.YtdepaaphgfapjaaGh
import Derived.Test.YtdepaaphgfapjaaWr
import Derived.Test.YtdepaaphgfapjaaApa
import Derived.WalkKit
import Derived.ProofKit
import Derived.OpenShut
import Derived.ShutString
import Derived.ChangeOld
import Derived.Below
namespace Go.Proofs.Ytdepaaphgfapjaa
open Go.ChangeShapes Go.WideShapes Go.ChangeAt Go.RowKit
open Go.ChangeMaps (open_string shut_string)
set_option linter.unusedVariables false
theorem headerApart_own : ownKnob Try.prog.godebug = none := by kernel_rfl
theorem headerApart_laidOut : laidOutB Try.prog = true := by kernel_rfl
set_option maxRecDepth 100000 in
theorem headerApart_lifted (os : Os) (started : os.Started) (H : Type) (enc : TypeId × Value → H) :
    ReturnsInHanded {} Try.checked os 3 .any (Rows.headerApartSpec.pre6 enc Try.prog Try.f3 Rows.headerApartRow.domain false) (Rows.headerApartSpec.post enc Try.prog Try.f3 false true false false) := by
  refine returnsInHanded_of_change (C := Try.checked) headerApart_own started (by kernel_rfl) Try.func3
    (ChangeSpec.witness6 (enc := enc) (C := Try.checked) false ⟨#[], #[.agg #[.int .u32 0, .int .u8 0, .int .u8 0, .int .u8 0, .int .u8 0, .int .u8 0, .int .u8 0, .int .u8 0, .int .u8 0, .int .u8 0, .int .u8 0, .int .u8 0, .int .u8 0, .int .u8 0, .int .u8 0, .int .u8 0, .int .u8 0, .int .u8 0, .int .u8 0, .int .u8 0, .int .u8 0, .int .u8 0, .int .u8 0, .int .u8 0, .int .u8 0, .int .u8 0, .int .u8 0, .int .u8 0, .int .u8 0, .int .u8 0, .int .u8 0, .int .u8 0, .int .u8 0, .int .u8 0, .int .u8 0, .int .u8 0, .int .u8 0, .int .u8 0, .int .u8 0, .int .u8 0, .int .u8 0, .int .u8 0, .int .u8 0, .int .u8 0, .int .u8 0, .int .u8 0, .int .u8 0, .int .u8 0, .int .u8 0, .int .u8 0, .int .u8 0, .int .u8 0, .int .u8 0, .int .u8 0, .int .u8 0, .int .u8 0, .int .u8 0, .int .u8 0, .int .u8 0, .int .u8 0, .int .u8 0, .int .u8 0, .int .u8 0, .int .u8 0, .int .u8 0, .int .u32 0, .int .u32 0, .int .u32 0], .agg #[.int .u32 0, .int .u8 0, .int .u8 0, .int .u8 0, .int .u8 0, .int .u8 0, .int .u8 0, .int .u8 0, .int .u8 0, .int .u8 0, .int .u8 0, .int .u8 0, .int .u8 0, .int .u8 0, .int .u8 0, .int .u8 0, .int .u8 0, .int .u8 0, .int .u8 0, .int .u8 0, .int .u8 0, .int .u8 0, .int .u8 0, .int .u8 0, .int .u8 0, .int .u8 0, .int .u8 0, .int .u8 0, .int .u8 0, .int .u8 0, .int .u8 0, .int .u8 0, .int .u8 0, .int .u8 0, .int .u8 0, .int .u8 0, .int .u8 0, .int .u8 0, .int .u8 0, .int .u8 0, .int .u8 0, .int .u8 0, .int .u8 0, .int .u8 0, .int .u8 0, .int .u8 0, .int .u8 0, .int .u8 0, .int .u8 0, .int .u8 0, .int .u8 0, .int .u8 0, .int .u8 0, .int .u8 0, .int .u8 0, .int .u8 0, .int .u8 0, .int .u8 0, .int .u8 0, .int .u8 0, .int .u8 0, .int .u8 0, .int .u8 0, .int .u8 0, .int .u8 0, .int .u32 0, .int .u32 0, .int .u32 0]], []⟩ 12 (by kernel_rfl) (by kernel_rfl) (by kernel_rfl) (by kernel_rfl)) ?_
  intro W base args ds gs before hval0 hW hcnd _
  have hval : ∀ (j : Nat) t v, Try.f3.params[j]? = some t → args[j]? = some v → Value.okWide Try.prog W .any base t v := hval0
  have hW' := hW
  obtain ⟨p, q, hA0, hV, rfl, hfz, hnd⟩ := hW
  have hA : DataW.TrodAll enc Try.prog W 0 (fun _ => true) true Try.f3.params.toList args.toList ds p := hA0
  rw [Try.params3] at hA hval
  obtain ⟨v0, vs0, d0, ds0, p0, q0, hargs, rfl, rfl, h0, r0⟩ := trodAll_cons hA
  obtain ⟨v1, vs1, d1, ds1, p1, q1, rfl, rfl, rfl, h1, r1⟩ := trodAll_cons r0
  obtain ⟨rfl, rfl, rfl⟩ := trodAll_nil r1
  obtain rfl : args = #[v0, v1] := by cases args; simp_all
  obtain ⟨rfl, rfl⟩ := trodVars_none hV
  have k0 := h0
  have lt0 : ∀ x ∈ p0, x.block < W.heap.size := by obtain ⟨m, hm⟩ := k0; exact DataW.trod_lt m _ _ _ hm
  have k1 := h1
  have lt1 : ∀ x ∈ p1, x.block < W.heap.size := by obtain ⟨m, hm⟩ := k1; exact DataW.trod_lt m _ _ _ hm
  obtain ⟨cs0, rfl, hl0⟩ := open_agg (by kernel_rfl) (show Try.prog.cellsOf 26 = 68 by kernel_rfl) (hval 0 26 _ rfl rfl)
  obtain ⟨fu0, hf0⟩ := h0
  have lv0 := open_leaves 2 (by rw [List.toList_toArray] at *; exact hl0.trans (show Try.prog.cellsOf 26 = 68 by kernel_rfl).symm) (by kernel_rfl) hf0 (ls := [(0, 22), (1, 5), (2, 5), (3, 5), (4, 5), (5, 5), (6, 5), (7, 5), (8, 5), (9, 5), (10, 5), (11, 5), (12, 5), (13, 5), (14, 5), (15, 5), (16, 5), (17, 5), (18, 5), (19, 5), (20, 5), (21, 5), (22, 5), (23, 5), (24, 5), (25, 5), (26, 5), (27, 5), (28, 5), (29, 5), (30, 5), (31, 5), (32, 5), (33, 5), (34, 5), (35, 5), (36, 5), (37, 5), (38, 5), (39, 5), (40, 5), (41, 5), (42, 5), (43, 5), (44, 5), (45, 5), (46, 5), (47, 5), (48, 5), (49, 5), (50, 5), (51, 5), (52, 5), (53, 5), (54, 5), (55, 5), (56, 5), (57, 5), (58, 5), (59, 5), (60, 5), (61, 5), (62, 5), (63, 5), (64, 5), (65, 22), (66, 22), (67, 22)]) (by kernel_rfl)
  obtain ⟨v_0, g0_0, hv_0⟩ := (lv0 (0, 22) (by simp)).u32 Try.underlying22
  obtain ⟨t_0, g65_0, ht_0⟩ := (lv0 (65, 22) (by simp)).u32 Try.underlying22
  obtain ⟨b_0, g66_0, hb_0⟩ := (lv0 (66, 22) (by simp)).u32 Try.underlying22
  obtain ⟨n_0, g67_0, hn_0⟩ := (lv0 (67, 22) (by simp)).u32 Try.underlying22
  obtain ⟨f_0, hf_0⟩ := u8s_fun (cs := _) 1 32 (fun i hi => (lv0 (1 + i, 5) (by first | (simp; omega) | (revert i; decide))).u8 Try.underlying5)
  obtain ⟨g_0, hg_0⟩ := u8s_fun (cs := _) 33 32 (fun i hi => (lv0 (33 + i, 5) (by first | (simp; omega) | (revert i; decide))).u8 Try.underlying5)
  obtain rfl := open_head hl0 g0_0 hf_0 hg_0 g65_0 g66_0 g67_0
  obtain ⟨cs1, rfl, hl1⟩ := open_agg (by kernel_rfl) (show Try.prog.cellsOf 26 = 68 by kernel_rfl) (hval 1 26 _ rfl rfl)
  obtain ⟨fu1, hf1⟩ := h1
  have lv1 := open_leaves 2 (by rw [List.toList_toArray] at *; exact hl1.trans (show Try.prog.cellsOf 26 = 68 by kernel_rfl).symm) (by kernel_rfl) hf1 (ls := [(0, 22), (1, 5), (2, 5), (3, 5), (4, 5), (5, 5), (6, 5), (7, 5), (8, 5), (9, 5), (10, 5), (11, 5), (12, 5), (13, 5), (14, 5), (15, 5), (16, 5), (17, 5), (18, 5), (19, 5), (20, 5), (21, 5), (22, 5), (23, 5), (24, 5), (25, 5), (26, 5), (27, 5), (28, 5), (29, 5), (30, 5), (31, 5), (32, 5), (33, 5), (34, 5), (35, 5), (36, 5), (37, 5), (38, 5), (39, 5), (40, 5), (41, 5), (42, 5), (43, 5), (44, 5), (45, 5), (46, 5), (47, 5), (48, 5), (49, 5), (50, 5), (51, 5), (52, 5), (53, 5), (54, 5), (55, 5), (56, 5), (57, 5), (58, 5), (59, 5), (60, 5), (61, 5), (62, 5), (63, 5), (64, 5), (65, 22), (66, 22), (67, 22)]) (by kernel_rfl)
  obtain ⟨v_1, g0_1, hv_1⟩ := (lv1 (0, 22) (by simp)).u32 Try.underlying22
  obtain ⟨t_1, g65_1, ht_1⟩ := (lv1 (65, 22) (by simp)).u32 Try.underlying22
  obtain ⟨b_1, g66_1, hb_1⟩ := (lv1 (66, 22) (by simp)).u32 Try.underlying22
  obtain ⟨n_1, g67_1, hn_1⟩ := (lv1 (67, 22) (by simp)).u32 Try.underlying22
  obtain ⟨f_1, hf_1⟩ := u8s_fun (cs := _) 1 32 (fun i hi => (lv1 (1 + i, 5) (by first | (simp; omega) | (revert i; decide))).u8 Try.underlying5)
  obtain ⟨g_1, hg_1⟩ := u8s_fun (cs := _) 33 32 (fun i hi => (lv1 (33 + i, 5) (by first | (simp; omega) | (revert i; decide))).u8 Try.underlying5)
  obtain rfl := open_head hl1 g0_1 hf_1 hg_1 g65_1 g66_1 g67_1
  clear hA0 hval0
  refine (HeaderApart_calls v_0 ((List.range 32).map f_0) ((List.range 32).map g_0) t_0 b_0 n_0 v_1 ((List.range 32).map f_1) ((List.range 32).map g_1) t_1 b_1 n_1 W (by simp) (by simp) hv_0 ht_0 hb_0 hn_0 (by simp) (by simp) hv_1 ht_1 hb_1 hn_1).mono fun e W' ⟨he, hh⟩ => ?_
  have bel := hh.below
  subst he
  exact ⟨_, rfl, _, _, _, [], _, [], hW', trodAll_mk1 (shut_bool Try.underlying4 _), (trodAll_cons_mk (Below.trod headerApart_laidOut (by kernel_rfl) (of_decide_eq_true (by kernel_rfl)) k0 bel lt0) (trodAll_cons_mk (Below.trod headerApart_laidOut (by kernel_rfl) (of_decide_eq_true (by kernel_rfl)) k1 bel lt1) trodAll_mk0)), rfl, bel.frame _, fun h => by cases h⟩
theorem headerApart_over : Rows.headerApartRow.holds Try.pinned (OpenSpec.ofChange Rows.headerApartSpec) :=
  OpenClaim.holds_of_wide 3 Try.f3 rfl rfl rfl rfl rfl rfl rfl ⟨rfl, rfl, rfl, rfl, rfl⟩ rfl rfl rfl rfl rfl (by kernel_rfl) Try.func3 (by kernel_rfl)
    (of_decide_eq_true (by kernel_rfl)) (by unfold Func.isWrapper; first | (rw [if_pos (by decide +kernel)]; kernel_rfl) | (rw [if_neg (by decide +kernel)]; exact ⟨rfl, rfl⟩))
    (fun os started H enc _ => headerApart_lifted os started H enc)
/-- The given statement. -/
theorem headerApart_proved : Rows.HeaderApartSaid := headerApart_over
end Go.Proofs.Ytdepaaphgfapjaa
