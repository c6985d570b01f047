/- The chapter's example. -/
import Derived.Test.YtjfmibmmebdliaaPool
namespace Go.Proofs.Ytjfmibmmebdliaa
open Go.RowKit
theorem lives_calls (w : World) : Calls Try.prog 5 #[] w fun e w' => e = .returned (.bool true) ∧ Hp w [] [] w' := by
  refine calls_G (args := []) Try.func5 rfl Try.ntmps5 rfl ?_
  intro Q0 hRet hNor hPan
  have H := Hp.start w
  have H : Hp w [] [] w := H
  refine G.seqK fun K1 hK2 => ?_
  refine G.region ?_
  refine GL.run (j := 1) 1 [] [] (by kernel_rfl) rfl ?_
  refine GL.k rfl hK2 (fun _ _ h => h) ?_
  refine G.seqK fun K3 hK4 => ?_
  refine G.region ?_
  refine GL.run (j := 1) 1 [4] [(4, .agg #[.int .u64 10, .int .u64 4])] (by kernel_rfl) rfl ?_
  obtain ⟨p5, w6, r7, H8⟩ := H.alloc (P := Try.prog) 26 [.int .u64 0, .int .u64 0] (by kernel_rfl)
  have H8 : Hp w [] [.blk p5 [.int .u64 0, .int .u64 0] 26] w6 := H8
  refine GL.sem (j := 2) (r7) [1, 4] [(1, pt p5 0), (4, .agg #[.int .u64 10, .int .u64 4])] (by kernel_rfl) (by kernel_rfl) rfl ?_
  obtain ⟨w9, r10, H11⟩ := H8.stA (P := Try.prog) (o := 0) (vs := [.int .u64 10, .int .u64 4]) (ty := 26) (m := 2) 0 rfl (by kernel_rfl) rfl (by simp) (by simp [Value.oneCell'])
  have H11 : Hp w [] [.blk p5 [.int .u64 10, .int .u64 4] 26] w9 := H11
  refine GL.semU (j := 3) r10 [1] [(1, pt p5 0)] (by kernel_rfl) rfl rfl rfl ?_
  refine GL.k rfl hK4 (fun _ _ h => h) ?_
  refine G.seqK fun K12 hK13 => ?_
  refine G.region ?_
  refine GL.call (j := 1) (Burn_calls p5 10 4 1 (by decide) (by decide) (by decide) w9 (H11.blkAt 0 rfl)) (by kernel_rfl) rfl (fun e_ w14 hR => ?_)
  obtain ⟨rfl, H16⟩ := hR
  have H15 : Hp w [] [.blk p5 [.int .u64 (((10 - shV 10 4 1) : Nat) : Int), .int .u64 (((shI 10 4 1) : Nat) : Int)] 26] w14 := H11.callIn 0 rfl H16
  refine ⟨_, rfl, [1, 6], [(1, pt p5 0), (6, .tuple #[.int .u64 (((shV 10 4 1) : Nat) : Int), .int .i64 (((shE 10 4 1) : Nat) : Int)])], by kernel_rfl, ?_⟩
  refine GL.run (j := 6) 5 [1, 2, 3] [(1, pt p5 0), (2, .int .u64 (((shV 10 4 1) : Nat) : Int)), (3, .int .i64 (((shE 10 4 1) : Nat) : Int))] (by kernel_rfl) rfl ?_
  refine GL.k rfl hK13 (fun _ _ h => h) ?_
  refine G.seqK fun K17 hK18 => ?_
  refine G.region ?_
  refine GL.run (j := 3) 3 [1, 2, 11] [(1, pt p5 0), (2, .int .u64 (((shV 10 4 1) : Nat) : Int)), (11, .bool ((((shE 10 4 1) : Nat) : Int) == 0))] (by kernel_rfl) rfl ?_
  have hb19 : ((((shE 10 4 1) : Nat) : Int) == 0) = true := by kernel_rfl
  rw [hb19]
  refine GL.run (j := 7) 4 [1, 15] [(1, pt p5 0), (15, .bool ((((shV 10 4 1) : Nat) : Int) == 2))] (by kernel_rfl) rfl ?_
  have hb20 : ((((shV 10 4 1) : Nat) : Int) == 2) = true := by kernel_rfl
  rw [hb20]
  refine GL.run (j := 8) 1 [1, 15, 16] [(1, pt p5 0), (15, .bool true), (16, pt p5 0)] (by kernel_rfl) rfl ?_
  refine GL.sem (j := 9) (H15.ld (o := 0) (ty := 23) (v := .int .u64 (((10 - shV 10 4 1) : Nat) : Int)) 0 rfl (by kernel_rfl) rfl) [1, 15, 17] [(1, pt p5 0), (15, .bool true), (17, .int .u64 (((10 - shV 10 4 1) : Nat) : Int))] (by kernel_rfl) (by kernel_rfl) rfl ?_
  refine GL.run (j := 12) 3 [1, 20] [(1, pt p5 0), (20, .bool ((((10 - shV 10 4 1) : Nat) : Int) == 8))] (by kernel_rfl) rfl ?_
  have hb21 : ((((10 - shV 10 4 1) : Nat) : Int) == 8) = true := by kernel_rfl
  rw [hb21]
  refine GL.run (j := 13) 1 [20, 21] [(20, .bool true), (21, pt p5 1)] (by kernel_rfl) rfl ?_
  refine GL.sem (j := 14) (H15.ld (o := 1) (ty := 23) (v := .int .u64 (((shI 10 4 1) : Nat) : Int)) 0 rfl (by kernel_rfl) rfl) [20, 22] [(20, .bool true), (22, .int .u64 (((shI 10 4 1) : Nat) : Int))] (by kernel_rfl) (by kernel_rfl) rfl ?_
  refine GL.run (j := 17) 3 [0] [(0, .bool ((((shI 10 4 1) : Nat) : Int) == 3))] (by kernel_rfl) rfl ?_
  refine GL.k rfl hK18 (fun _ _ h => h) ?_
  refine G.ret ?_
  intro F_ hF_ hM_
  refine hRet _ _ (bodyPost_1 rfl (RV.tmp rfl) ?_ F_ hF_ hM_)
  have hb22 : ((((shI 10 4 1) : Nat) : Int) == 3) = true := by kernel_rfl
  rw [hb22]
  exact ⟨rfl, H15.sub (List.nil_sublist _)⟩
end Go.Proofs.Ytjfmibmmebdliaa
