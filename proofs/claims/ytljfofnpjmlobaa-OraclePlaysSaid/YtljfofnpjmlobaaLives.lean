/- The chapter's example. -/
import Derived.Test.YtljfofnpjmlobaaOracle
namespace Go.Proofs.Ytljfofnpjmlobaa
open Go.RowKit
theorem lives_calls (w : World) : Calls Try.prog 5 #[] w fun e w' => e = .returned (.bool true) ∧ Hp w [] [] w' := by
  have hMX : MX = 4611686018427387904 := rfl
  have hK0 : K = 18446744073709551616 := rfl
  have hK40 : K4 = 115792089237316195423570985008687907853269984665640564039457584007913129639936 := rfl
  refine calls_G (args := []) Try.func5 rfl Try.ntmps5 rfl ?_
  intro Q0 hRet hNor hPan
  have H := Hp.start w
  have H : Hp w [] [] w := H
  refine G.seqK fun K1 hK2 => ?_
  refine G.region ?_
  refine GL.run (j := 1) 1 [] [] (by kernel_rfl) rfl ?_
  refine GL.k rfl hK2 (fun _ _ h => h) ?_
  refine G.seqK fun K3 hK4 => ?_
  refine G.region ?_
  refine GL.run (j := 1) 1 [7] [(7, .agg #[.int .u64 100, .int .u64 5])] (by kernel_rfl) rfl ?_
  refine GL.call (j := 2) (New_calls 100 5 (by omega) (by omega) w) (by kernel_rfl) rfl (fun e_ w6 hR => ?_)
  obtain ⟨p5, rfl, H8⟩ := hR
  have H7 : Hp w [] [.blk p5 [.int .u64 100, .int .u64 5, .int .u64 0, .int .u64 0] 46] w6 := H.callNew H8
  refine ⟨_, rfl, [8], [(8, .tuple #[pt p5 0, .int .i64 0])], by kernel_rfl, ?_⟩
  refine GL.run (j := 7) 5 [1, 2] [(1, pt p5 0), (2, .int .i64 0)] (by kernel_rfl) rfl ?_
  refine GL.k rfl hK4 (fun _ _ h => h) ?_
  refine G.seqK fun K9 hK10 => ?_
  refine G.region ?_
  refine GL.run (j := 1) 1 [1, 2, 11] [(1, pt p5 0), (2, .int .i64 0), (11, pt p5 0)] (by kernel_rfl) rfl ?_
  have hcw11 := set_cases 100 0 0 1000 0
  obtain ⟨b1, b2⟩ := bounds_none 100
  have e0 : setE 100 0 0 1000 0 = 0 := by omega
  have e1 : setP 100 0 0 1000 0 = 1000 := by omega
  have e2 : setT 100 0 0 1000 0 = 0 := by omega
  refine GL.call (j := 2) (Set_calls p5 100 5 0 0 1000 0 (by omega) (by omega) (by omega) (by omega) (by omega) w6 (H7.blkAt 0 rfl)) (by kernel_rfl) rfl (fun e_ w11 hR => ?_)
  obtain ⟨he_, H13⟩ := hR
  rw [e0] at he_
  subst he_
  rw [e1, e2] at H13
  have H12 : Hp w [] [.blk p5 [.int .u64 100, .int .u64 5, .int .u64 1000, .int .u64 0] 46] w11 := H7.callIn 0 rfl H13
  refine ⟨_, rfl, [1, 2, 12], [(1, pt p5 0), (2, .int .i64 0), (12, .int .i64 0)], by kernel_rfl, ?_⟩
  refine GL.run (j := 3) 1 [1, 2, 3] [(1, pt p5 0), (2, .int .i64 0), (3, .int .i64 0)] (by kernel_rfl) rfl ?_
  refine GL.k rfl hK10 (fun _ _ h => h) ?_
  refine G.seqK fun K14 hK15 => ?_
  refine G.region ?_
  refine GL.run (j := 1) 1 [2, 3, 14] [(2, .int .i64 0), (3, .int .i64 0), (14, pt p5 0)] (by kernel_rfl) rfl ?_
  refine GL.call (j := 2) (Bounds_calls p5 100 5 1000 0 (by omega) (by omega) w11 (H12.blkAt 0 rfl)) (by kernel_rfl) rfl (fun e_ w16 hR => ?_)
  obtain ⟨rfl, H18⟩ := hR
  have H17 : Hp w [] [.blk p5 [.int .u64 100, .int .u64 5, .int .u64 1000, .int .u64 0] 46] w16 := H12.callIn 0 rfl H18
  refine ⟨_, rfl, [2, 3, 15], [(2, .int .i64 0), (3, .int .i64 0), (15, .tuple #[.int .u64 (((lowV 100 1000) : Nat) : Int), .int .u64 (((highV 100 1000) : Nat) : Int)])], by kernel_rfl, ?_⟩
  refine GL.run (j := 7) 5 [2, 3, 4, 5] [(2, .int .i64 0), (3, .int .i64 0), (4, .int .u64 (((lowV 100 1000) : Nat) : Int)), (5, .int .u64 (((highV 100 1000) : Nat) : Int))] (by kernel_rfl) rfl ?_
  refine GL.k rfl hK15 (fun _ _ h => h) ?_
  refine G.seqK fun K19 hK20 => ?_
  refine G.region ?_
  refine GL.run (j := 11) 11 [5, 28] [(5, .int .u64 (((highV 100 1000) : Nat) : Int)), (28, .bool ((((lowV 100 1000) : Nat) : Int) == 900))] (by kernel_rfl) rfl ?_
  have hb21 : ((((lowV 100 1000) : Nat) : Int) == 900) = true := by kernel_rfl
  rw [hb21]
  refine GL.run (j := 15) 4 [0] [(0, .bool ((((highV 100 1000) : Nat) : Int) == 1100))] (by kernel_rfl) rfl ?_
  refine GL.k rfl hK20 (fun _ _ h => h) ?_
  refine G.ret ?_
  intro F_ hF_ hM_
  refine hRet _ _ (bodyPost_1 rfl (RV.tmp rfl) ?_ F_ hF_ hM_)
  have hb22 : ((((highV 100 1000) : Nat) : Int) == 1100) = true := by kernel_rfl
  rw [hb22]
  exact ⟨rfl, H17.sub (List.nil_sublist _)⟩
end Go.Proofs.Ytljfofnpjmlobaa
