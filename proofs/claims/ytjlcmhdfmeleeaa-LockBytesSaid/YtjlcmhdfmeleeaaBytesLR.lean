/- LockBytes: the row. -/
import Derived.Test.YtjlcmhdfmeleeaaRows
import Derived.Test.YtjlcmhdfmeleeaaGh
import Derived.Test.YtjlcmhdfmeleeaaBytesL
import Derived.WalkKit
import Derived.ProofKit
import Derived.OpenShut
import Derived.ShutString
import Derived.ChangeOld
import Derived.Below
namespace Go.Proofs.Ytjlcmhdfmeleeaa
open Go.ChangeShapes Go.WideShapes Go.ChangeAt Go.RowKit
open Go.ChangeMaps (open_string shut_string)
set_option linter.unusedVariables false
theorem lockBytes_own : ownKnob Try.prog.godebug = none := by kernel_rfl
theorem lockBytes_laidOut : laidOutB Try.prog = true := by kernel_rfl
set_option maxRecDepth 100000 in
theorem lockBytes_lifted (os : Os) (started : os.Started) (H : Type) (enc : TypeId × Value → H) :
    ReturnsInHanded {} Try.checked os 5 .any (Rows.lockBytesSpec.pre6 enc Try.prog Try.f5 Rows.lockBytesRow.domain false) (Rows.lockBytesSpec.post enc Try.prog Try.f5 false true false false) := by
  refine returnsInHanded_of_change (C := Try.checked) lockBytes_own started (by kernel_rfl) Try.func5
    (ChangeSpec.witness6 (enc := enc) (C := Try.checked) false ⟨#[], #[.int .i64 0, .agg #[.int .u8 0, .int .u8 0, .int .u8 0, .int .u8 0, .int .u8 0, .int .u8 0, .int .u8 0, .int .u8 0, .int .u8 0, .int .u8 0, .int .u8 0, .int .u8 0, .int .u8 0, .int .u8 0, .int .u8 0, .int .u8 0, .int .u8 0, .int .u8 0, .int .u8 0, .int .u8 0], .slice none 0 0], []⟩ 12 (by kernel_rfl) (by kernel_rfl) (by kernel_rfl) (by kernel_rfl)) ?_
  intro W base args ds gs before hval0 hW hcnd _
  have hval : ∀ (j : Nat) t v, Try.f5.params[j]? = some t → args[j]? = some v → Value.okWide Try.prog W .any base t v := hval0
  have hW' := hW
  obtain ⟨p, q, hA0, hV, rfl, hfz, hnd⟩ := hW
  have hA : DataW.TrodAll enc Try.prog W 0 (fun _ => true) true Try.f5.params.toList args.toList ds p := hA0
  rw [Try.params5] at hA hval
  obtain ⟨v0, vs0, d0, ds0, p0, q0, hargs, rfl, rfl, h0, r0⟩ := trodAll_cons hA
  obtain ⟨v1, vs1, d1, ds1, p1, q1, rfl, rfl, rfl, h1, r1⟩ := trodAll_cons r0
  obtain ⟨v2, vs2, d2, ds2, p2, q2, rfl, rfl, rfl, h2, r2⟩ := trodAll_cons r1
  obtain ⟨rfl, rfl, rfl⟩ := trodAll_nil r2
  obtain rfl : args = #[v0, v1, v2] := by cases args; simp_all
  obtain ⟨rfl, rfl⟩ := trodVars_none hV
  have k0 := h0
  have lt0 : ∀ x ∈ p0, x.block < W.heap.size := by obtain ⟨m, hm⟩ := k0; exact DataW.trod_lt m _ _ _ hm
  have k1 := h1
  have lt1 : ∀ x ∈ p1, x.block < W.heap.size := by obtain ⟨m, hm⟩ := k1; exact DataW.trod_lt m _ _ _ hm
  have k2 := h2
  have lt2 : ∀ x ∈ p2, x.block < W.heap.size := by obtain ⟨m, hm⟩ := k2; exact DataW.trod_lt m _ _ _ hm
  obtain ⟨n0, rfl, wf0⟩ := open_int' Try.underlying3 (hval 0 3 _ rfl rfl) h0
  obtain ⟨cs1, rfl, hl1⟩ := open_agg (by kernel_rfl) (show Try.prog.cellsOf 23 = 20 by kernel_rfl) (hval 1 23 _ rfl rfl)
  obtain ⟨fu1, hf1⟩ := h1
  have lv1 := open_leaves 1 (by rw [List.toList_toArray] at *; exact hl1.trans (show Try.prog.cellsOf 23 = 20 by kernel_rfl).symm) (by kernel_rfl) hf1 (ls := (List.range 20).map fun i => (i, 5)) (by kernel_rfl)
  obtain ⟨f1, rfl⟩ := bytes_of 20 hl1 (fun i hi => (lv1 (i, 5) (by simpa using hi)).u8 Try.underlying5)
  rw [show (List.range 20).map (fun i => Value.int .u8 ((f1 i).toNat : Int)) = [.int .u8 ((f1 0).toNat : Int), .int .u8 ((f1 1).toNat : Int), .int .u8 ((f1 2).toNat : Int), .int .u8 ((f1 3).toNat : Int), .int .u8 ((f1 4).toNat : Int), .int .u8 ((f1 5).toNat : Int), .int .u8 ((f1 6).toNat : Int), .int .u8 ((f1 7).toNat : Int), .int .u8 ((f1 8).toNat : Int), .int .u8 ((f1 9).toNat : Int), .int .u8 ((f1 10).toNat : Int), .int .u8 ((f1 11).toNat : Int), .int .u8 ((f1 12).toNat : Int), .int .u8 ((f1 13).toNat : Int), .int .u8 ((f1 14).toNat : Int), .int .u8 ((f1 15).toNat : Int), .int .u8 ((f1 16).toNat : Int), .int .u8 ((f1 17).toNat : Int), .int .u8 ((f1 18).toNat : Int), .int .u8 ((f1 19).toNat : Int)] from rfl]
  obtain ⟨a2, len2, cap2, rfl⟩ := okWide_slice Try.underlying24 (hval 2 24 _ rfl rfl)
  obtain ⟨fu2, hf2⟩ := h2
  obtain ⟨A2, bs2, c2, hcs2, rd2, hc2, hm2⟩ := open_u8s Try.underlying24 Try.underlying5 (by kernel_rfl) hf2
  simp [Value.cells] at hcs2
  obtain ⟨rfl, rfl, rfl⟩ := hcs2
  clear hA0 hval0
  refine (LockBytes_calls n0 (f1 0) (f1 1) (f1 2) (f1 3) (f1 4) (f1 5) (f1 6) (f1 7) (f1 8) (f1 9) (f1 10) (f1 11) (f1 12) (f1 13) (f1 14) (f1 15) (f1 16) (f1 17) (f1 18) (f1 19) bs2 a2 cap2 W rd2).mono fun e W' ⟨he, hh⟩ => ?_
  have bel := hh.below
  subst he
  exact ⟨_, rfl, _, _, _, [], _, [], hW', trodAll_mk1 (shut_bool Try.underlying4 _), (trodAll_cons_mk (Below.trod lockBytes_laidOut (by kernel_rfl) (of_decide_eq_true (by kernel_rfl)) k0 bel lt0) (trodAll_cons_mk (Below.trod lockBytes_laidOut (by kernel_rfl) (of_decide_eq_true (by kernel_rfl)) k1 bel lt1) (trodAll_cons_mk (Below.trod lockBytes_laidOut (by kernel_rfl) (of_decide_eq_true (by kernel_rfl)) k2 bel lt2) trodAll_mk0))), rfl, bel.frame _, fun h => by cases h⟩
theorem lockBytes_over : Rows.lockBytesRow.holds Try.pinned (OpenSpec.ofChange Rows.lockBytesSpec) :=
  OpenClaim.holds_of_wide 5 Try.f5 rfl rfl rfl rfl rfl rfl rfl ⟨rfl, rfl, rfl, rfl, rfl⟩ rfl rfl rfl rfl rfl (by kernel_rfl) Try.func5 (by kernel_rfl)
    (of_decide_eq_true (by kernel_rfl)) (by unfold Func.isWrapper; first | (rw [if_pos (by decide +kernel)]; kernel_rfl) | (rw [if_neg (by decide +kernel)]; exact ⟨rfl, rfl⟩))
    (fun os started H enc _ => lockBytes_lifted os started H enc)
/-- The given statement. -/
theorem lockBytes_proved : Rows.LockBytesSaid := lockBytes_over
end Go.Proofs.Ytjlcmhdfmeleeaa
