/- The contracts of package rate. -/
import Derived.Test.YtljfofnpjmlobaaMoney
import Derived.Test.YtljfofnpjmlobaaNb
namespace Go.Proofs.Ytljfofnpjmlobaa
open Go.RowKit
theorem PRight_calls (p : Nat) (w : World) : Calls Try.prog 13 #[.int .u64 (p : Int)] w fun e w' => e = .returned (.bool (decide (1 ≤ p ∧ p ≤ 1099511627776))) ∧ Hp w [] [] w' := by
  refine calls_G (args := [.int .u64 (p : Int)]) Try.func13 rfl Try.ntmps13 rfl ?_
  intro Q0 hRet hNor hPan
  have H := Hp.start w
  have H : Hp w [] [] w := H
  refine G.seqK fun K1 hK2 => ?_
  refine G.region ?_
  refine GL.run (j := 1) 1 [0] [(0, .int .u64 (p : Int))] (by kernel_rfl) rfl ?_
  refine GL.k rfl hK2 (fun _ _ h => h) ?_
  refine G.seqK fun K3 hK4 => ?_
  refine G.region ?_
  refine GL.run (j := 3) 3 [0, 5] [(0, .int .u64 (p : Int)), (5, .bool (decide (1 ≤ (p : Int))))] (by kernel_rfl) rfl ?_
  cases hb5 : (decide (1 ≤ (p : Int)))
  · skip
    have hb5f := of_decide_eq_false hb5
    refine GL.run (j := 7) 4 [2] [(2, .bool false)] (by kernel_rfl) rfl ?_
    refine GL.k rfl hK4 (fun _ _ h => h) ?_
    refine G.ret ?_
    intro F_ hF_ hM_
    refine hRet _ _ (bodyPost_1 rfl (RV.tmp rfl) ?_ F_ hF_ hM_)
    have e0 : (false : Bool) = decide (1 ≤ p ∧ p ≤ 1099511627776) := by
      rw [Bool.eq_iff_iff]
      simp only [decide_eq_true_eq, Bool.true_eq_false, Bool.false_eq_true, true_iff, false_iff]
      omega
    rw [e0]
    exact ⟨rfl, H.sub (List.nil_sublist _)⟩
  · skip
    have hb5f := of_decide_eq_true hb5
    refine GL.run (j := 7) 4 [2] [(2, .bool (decide ((p : Int) ≤ 1099511627776)))] (by kernel_rfl) rfl ?_
    refine GL.k rfl hK4 (fun _ _ h => h) ?_
    refine G.ret ?_
    intro F_ hF_ hM_
    refine hRet _ _ (bodyPost_1 rfl (RV.tmp rfl) ?_ F_ hF_ hM_)
    have e0 : ((decide ((p : Int) ≤ 1099511627776)) : Bool) = decide (1 ≤ p ∧ p ≤ 1099511627776) := by
      rw [Bool.eq_iff_iff]
      simp only [decide_eq_true_eq, Bool.true_eq_false, Bool.false_eq_true, true_iff, false_iff]
      omega
    rw [e0]
    exact ⟨rfl, H.sub (List.nil_sublist _)⟩
end Go.Proofs.Ytljfofnpjmlobaa
