/- The chapter's example. -/
import Derived.Test.YtfhjoojifjmnlaaRate
namespace Go.Proofs.Ytfhjoojifjmnlaa
open Go.RowKit
theorem lives_calls (w : World) : Calls Try.prog 7 #[] w fun e w' => e = .returned (.bool true) ∧ Hp w [] [] w' := by
  refine calls_G (args := []) Try.func7 rfl Try.ntmps7 rfl ?_
  intro Q0 hRet hNor hPan
  have H := Hp.start w
  have H : Hp w [] [] w := H
  refine G.seqK fun K1 hK2 => ?_
  refine G.region ?_
  refine GL.run (j := 1) 1 [] [] (by kernel_rfl) rfl ?_
  refine GL.k rfl hK2 (fun _ _ h => h) ?_
  refine G.seqK fun K3 hK4 => ?_
  refine G.region ?_
  refine GL.call (j := 1) (Value_down_calls 50000000 5000 (by decide) (by decide) w) (by kernel_rfl) rfl (fun e_ w5 hR => ?_)
  obtain ⟨rfl, H7⟩ := hR
  have H6 : Hp w [] [] w5 := H.callNil H7
  refine ⟨_, rfl, [4], [(4, .tuple #[.int .u64 (((valV 50000000 5000 false) : Nat) : Int), .int .i64 (((valE 50000000 5000 false) : Nat) : Int)])], by kernel_rfl, ?_⟩
  refine GL.run (j := 6) 5 [1, 2] [(1, .int .u64 (((valV 50000000 5000 false) : Nat) : Int)), (2, .int .i64 (((valE 50000000 5000 false) : Nat) : Int))] (by kernel_rfl) rfl ?_
  refine GL.k rfl hK4 (fun _ _ h => h) ?_
  refine G.seqK fun K8 hK9 => ?_
  refine G.region ?_
  refine GL.run (j := 3) 3 [1, 9] [(1, .int .u64 (((valV 50000000 5000 false) : Nat) : Int)), (9, .bool ((((valE 50000000 5000 false) : Nat) : Int) == 0))] (by kernel_rfl) rfl ?_
  have hb10 : ((((valE 50000000 5000 false) : Nat) : Int) == 0) = true := by kernel_rfl
  rw [hb10]
  refine GL.run (j := 7) 4 [13] [(13, .bool ((((valV 50000000 5000 false) : Nat) : Int) == 2500))] (by kernel_rfl) rfl ?_
  have hb11 : ((((valV 50000000 5000 false) : Nat) : Int) == 2500) = true := by kernel_rfl
  rw [hb11]
  refine GL.call (j := 8) (Enough_calls 7500 100000000 5000 1500 (by decide) (by decide) (by decide) (by decide) w5) (by kernel_rfl) rfl (fun e_ w12 hR => ?_)
  obtain ⟨rfl, H14⟩ := hR
  have H13 : Hp w [] [] w12 := H6.callNil H14
  refine ⟨_, rfl, [13, 14], [(13, .bool true), (14, .bool (enough 7500 100000000 5000 1500))], by kernel_rfl, ?_⟩
  refine GL.run (j := 10) 2 [16] [(16, .bool (enough 7500 100000000 5000 1500))] (by kernel_rfl) rfl ?_
  have hb15 : (enough 7500 100000000 5000 1500) = true := by kernel_rfl
  rw [hb15]
  refine GL.call (j := 11) (Enough_calls 7499 100000000 5000 1500 (by decide) (by decide) (by decide) (by decide) w12) (by kernel_rfl) rfl (fun e_ w16 hR => ?_)
  obtain ⟨rfl, H18⟩ := hR
  have H17 : Hp w [] [] w16 := H13.callNil H18
  refine ⟨_, rfl, [16, 17], [(16, .bool true), (17, .bool (enough 7499 100000000 5000 1500))], by kernel_rfl, ?_⟩
  refine GL.run (j := 14) 3 [0] [(0, .bool (!(enough 7499 100000000 5000 1500)))] (by kernel_rfl) rfl ?_
  refine GL.k rfl hK9 (fun _ _ h => h) ?_
  refine G.ret ?_
  intro F_ hF_ hM_
  refine hRet _ _ (bodyPost_1 rfl (RV.tmp rfl) ?_ F_ hF_ hM_)
  have hb19 : (!(enough 7499 100000000 5000 1500)) = true := by rw [show (enough 7499 100000000 5000 1500) = false from by kernel_rfl]; rfl
  rw [hb19]
  exact ⟨rfl, H17.sub (List.nil_sublist _)⟩
end Go.Proofs.Ytfhjoojifjmnlaa
