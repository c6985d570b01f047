/- DigestTexts: the row. -/
import Derived.Test.YtfflicgmgadcmaaRows
import Derived.Test.YtfflicgmgadcmaaGh
import Derived.Test.YtfflicgmgadcmaaWr
import Derived.Test.YtfflicgmgadcmaaTxts
import Derived.WalkKit
import Derived.ProofKit
import Derived.OpenShut
import Derived.ShutString
import Derived.ChangeOld
import Derived.Below
namespace Go.Proofs.Ytfflicgmgadcmaa
open Go.ChangeShapes Go.WideShapes Go.ChangeAt Go.RowKit
open Go.ChangeMaps (open_string shut_string)
set_option linter.unusedVariables false
theorem digestTexts_own : ownKnob Try.prog.godebug = none := by kernel_rfl
theorem digestTexts_laidOut : laidOutB Try.prog = true := by kernel_rfl
set_option maxRecDepth 100000 in
theorem digestTexts_lifted (os : Os) (started : os.Started) (H : Type) (enc : TypeId × Value → H) :
    ReturnsInHanded {} Try.checked os 4 .any (Rows.digestTextsSpec.pre6 enc Try.prog Try.f4 Rows.digestTextsRow.domain false) (Rows.digestTextsSpec.post enc Try.prog Try.f4 false true false false) := by
  refine returnsInHanded_of_change (C := Try.checked) digestTexts_own started (by kernel_rfl) Try.func4
    (ChangeSpec.witness6 (enc := enc) (C := Try.checked) false ⟨#[], #[.agg #[.int .u8 0, .int .u8 0, .int .u8 0, .int .u8 0, .int .u8 0, .int .u8 0, .int .u8 0, .int .u8 0, .int .u8 0, .int .u8 0, .int .u8 0, .int .u8 0, .int .u8 0, .int .u8 0, .int .u8 0, .int .u8 0, .int .u8 0, .int .u8 0, .int .u8 0, .int .u8 0, .int .u8 0, .int .u8 0, .int .u8 0, .int .u8 0, .int .u8 0, .int .u8 0, .int .u8 0, .int .u8 0, .int .u8 0, .int .u8 0, .int .u8 0, .int .u8 0], .string ⟨#[]⟩], []⟩ 12 (by kernel_rfl) (by kernel_rfl) (by kernel_rfl) (by kernel_rfl)) ?_
  intro W base args ds gs before hval0 hW hcnd _
  have hval : ∀ (j : Nat) t v, Try.f4.params[j]? = some t → args[j]? = some v → Value.okWide Try.prog W .any base t v := hval0
  have hW' := hW
  obtain ⟨p, q, hA0, hV, rfl, hfz, hnd⟩ := hW
  have hA : DataW.TrodAll enc Try.prog W 0 (fun _ => true) true Try.f4.params.toList args.toList ds p := hA0
  rw [Try.params4] at hA hval
  obtain ⟨v0, vs0, d0, ds0, p0, q0, hargs, rfl, rfl, h0, r0⟩ := trodAll_cons hA
  obtain ⟨v1, vs1, d1, ds1, p1, q1, rfl, rfl, rfl, h1, r1⟩ := trodAll_cons r0
  obtain ⟨rfl, rfl, rfl⟩ := trodAll_nil r1
  obtain rfl : args = #[v0, v1] := by cases args; simp_all
  obtain ⟨rfl, rfl⟩ := trodVars_none hV
  have k0 := h0
  have lt0 : ∀ x ∈ p0, x.block < W.heap.size := by obtain ⟨m, hm⟩ := k0; exact DataW.trod_lt m _ _ _ hm
  have k1 := h1
  have lt1 : ∀ x ∈ p1, x.block < W.heap.size := by obtain ⟨m, hm⟩ := k1; exact DataW.trod_lt m _ _ _ hm
  obtain ⟨cs0, rfl, hl0⟩ := open_agg (by kernel_rfl) (show Try.prog.cellsOf 25 = 32 by kernel_rfl) (hval 0 25 _ rfl rfl)
  obtain ⟨fu0, hf0⟩ := h0
  have lv0 := open_leaves 1 (by rw [List.toList_toArray] at *; exact hl0.trans (show Try.prog.cellsOf 25 = 32 by kernel_rfl).symm) (by kernel_rfl) hf0 (ls := (List.range 32).map fun i => (i, 5)) (by kernel_rfl)
  obtain ⟨f0, rfl⟩ := bytes_of 32 hl0 (fun i hi => (lv0 (i, 5) (by simpa using hi)).u8 Try.underlying5)
  rw [show (List.range 32).map (fun i => Value.int .u8 ((f0 i).toNat : Int)) = [.int .u8 ((f0 0).toNat : Int), .int .u8 ((f0 1).toNat : Int), .int .u8 ((f0 2).toNat : Int), .int .u8 ((f0 3).toNat : Int), .int .u8 ((f0 4).toNat : Int), .int .u8 ((f0 5).toNat : Int), .int .u8 ((f0 6).toNat : Int), .int .u8 ((f0 7).toNat : Int), .int .u8 ((f0 8).toNat : Int), .int .u8 ((f0 9).toNat : Int), .int .u8 ((f0 10).toNat : Int), .int .u8 ((f0 11).toNat : Int), .int .u8 ((f0 12).toNat : Int), .int .u8 ((f0 13).toNat : Int), .int .u8 ((f0 14).toNat : Int), .int .u8 ((f0 15).toNat : Int), .int .u8 ((f0 16).toNat : Int), .int .u8 ((f0 17).toNat : Int), .int .u8 ((f0 18).toNat : Int), .int .u8 ((f0 19).toNat : Int), .int .u8 ((f0 20).toNat : Int), .int .u8 ((f0 21).toNat : Int), .int .u8 ((f0 22).toNat : Int), .int .u8 ((f0 23).toNat : Int), .int .u8 ((f0 24).toNat : Int), .int .u8 ((f0 25).toNat : Int), .int .u8 ((f0 26).toNat : Int), .int .u8 ((f0 27).toNat : Int), .int .u8 ((f0 28).toNat : Int), .int .u8 ((f0 29).toNat : Int), .int .u8 ((f0 30).toNat : Int), .int .u8 ((f0 31).toNat : Int)] from rfl]
  obtain ⟨s1, rfl, _, _, hs1⟩ := open_string Try.underlying9 (hval 1 9 _ rfl rfl) h1
  obtain ⟨sb1, rfl⟩ : ∃ sb, s1 = strOf sb := ⟨s1.data.toList, by simp [strOf]⟩
  rw [strOf_size] at hs1
  clear hA0 hval0
  refine (DigestTexts_calls ((List.range 32).map f0) (by simp) sb1 hs1 W).mono fun e W' ⟨he, hh⟩ => ?_
  have bel := hh.below
  subst he
  exact ⟨_, rfl, _, _, _, [], _, [], hW', trodAll_mk1 (shut_bool Try.underlying4 _), (trodAll_cons_mk (Below.trod digestTexts_laidOut (by kernel_rfl) (of_decide_eq_true (by kernel_rfl)) k0 bel lt0) (trodAll_cons_mk (Below.trod digestTexts_laidOut (by kernel_rfl) (of_decide_eq_true (by kernel_rfl)) k1 bel lt1) trodAll_mk0)), rfl, bel.frame _, fun h => by cases h⟩
theorem digestTexts_over : Rows.digestTextsRow.holds Try.pinned (OpenSpec.ofChange Rows.digestTextsSpec) :=
  OpenClaim.holds_of_wide 4 Try.f4 rfl rfl rfl rfl rfl rfl rfl ⟨rfl, rfl, rfl, rfl, rfl⟩ rfl rfl rfl rfl rfl (by kernel_rfl) Try.func4 (by kernel_rfl)
    (of_decide_eq_true (by kernel_rfl)) (by unfold Func.isWrapper; first | (rw [if_pos (by decide +kernel)]; kernel_rfl) | (rw [if_neg (by decide +kernel)]; exact ⟨rfl, rfl⟩))
    (fun os started H enc _ => digestTexts_lifted os started H enc)
/-- The given statement. -/
theorem digestTexts_proved : Rows.DigestTextsSaid := digestTexts_over
end Go.Proofs.Ytfflicgmgadcmaa
