/- The contracts of package wide: moved. -/
import Derived.Test.YtljfofnpjmlobaaWideB
namespace Go.Proofs.Ytljfofnpjmlobaa
open Go.RowKit
theorem Left_0 (x r : Nat) (hx : x < K4) (hr : r < 64) (w : World) : Calls Try.prog 28 #[wv x, .int .i64 ((r : Nat) : Int)] w fun e w' => e = .returned (wv (x * 2 ^ r % K4)) ∧ Hp w [] [] w' := by
  refine calls_G (args := [wv x, .int .i64 (r : Int)]) Try.func28 rfl Try.ntmps28 rfl ?_
  intro Q0 hRet hNor hPan
  have H := Hp.start w
  have H : Hp w [] [] w := H
  refine G.seqK fun K1 hK2 => ?_
  refine G.region ?_
  obtain ⟨p3, w4, r5, H6⟩ := H.box (P := Try.prog) 55 [.int .u64 (wd x 0 : Int), .int .u64 (wd x 1 : Int), .int .u64 (wd x 2 : Int), .int .u64 (wd x 3 : Int)] (wv x) rfl
  have H6 : Hp w [] [.blk p3 [.int .u64 (wd x 0 : Int), .int .u64 (wd x 1 : Int), .int .u64 (wd x 2 : Int), .int .u64 (wd x 3 : Int)] 55] w4 := H6
  refine GL.sem (j := 1) (r5) [1, 2] [(1, .int .i64 (r : Int)), (2, pt p3 0)] (by kernel_rfl) (by kernel_rfl) rfl ?_
  obtain ⟨p7, w8, r9, H10⟩ := H6.alloc (P := Try.prog) 55 [.int .u64 0, .int .u64 0, .int .u64 0, .int .u64 0] (by kernel_rfl)
  have H10 : Hp w [] [.blk p3 [.int .u64 (wd x 0 : Int), .int .u64 (wd x 1 : Int), .int .u64 (wd x 2 : Int), .int .u64 (wd x 3 : Int)] 55, .blk p7 [.int .u64 0, .int .u64 0, .int .u64 0, .int .u64 0] 55] w8 := H10
  refine GL.sem (j := 2) (r9) [1, 2, 4] [(1, .int .i64 (r : Int)), (2, pt p3 0), (4, pt p7 0)] (by kernel_rfl) (by kernel_rfl) rfl ?_
  refine GL.k rfl hK2 (fun _ _ h => h) ?_
  refine G.seqK fun K11 hK12 => ?_
  refine G.block ?_
  refine G.seqK fun K13 hK14 => ?_
  refine G.region ?_
  refine GL.run (j := 3) 3 [1, 2, 4, 12] [(1, .int .i64 (r : Int)), (2, pt p3 0), (4, pt p7 0), (12, .bool (decide ((r : Int) ≤ (-256))))] (by kernel_rfl) rfl ?_
  have hb15 : (decide ((r : Int) ≤ (-256))) = false := decide_eq_false (by omega)
  rw [hb15]
  refine GL.run (j := 7) 4 [1, 2, 4, 9] [(1, .int .i64 (r : Int)), (2, pt p3 0), (4, pt p7 0), (9, .bool (decide (256 ≤ (r : Int))))] (by kernel_rfl) rfl ?_
  refine GL.k rfl hK14 (fun _ _ h => h) ?_
  have hb16 : (decide (256 ≤ (r : Int))) = false := decide_eq_false (by omega)
  rw [hb16]
  refine G.no rfl ?_
  refine G.seqK fun K17 hK18 => ?_
  refine G.region ?_
  refine GL.run (j := 3) 3 [1, 2, 4, 17] [(1, .int .i64 (r : Int)), (2, pt p3 0), (4, pt p7 0), (17, .bool (decide ((r : Int) < 0)))] (by kernel_rfl) rfl ?_
  refine GL.k rfl hK18 (fun _ _ h => h) ?_
  have hb19 : (decide ((r : Int) < 0)) = false := decide_eq_false (by omega)
  rw [hb19]
  refine G.no rfl ?_
  refine G.skipK hK12 (fun _ _ h => h) ?_
  refine G.seqK fun K20 hK21 => ?_
  refine G.region ?_
  obtain ⟨p22, w23, r24, H25⟩ := H10.alloc (P := Try.prog) 55 [.int .u64 0, .int .u64 0, .int .u64 0, .int .u64 0] (by kernel_rfl)
  have H25 : Hp w [] [.blk p3 [.int .u64 (wd x 0 : Int), .int .u64 (wd x 1 : Int), .int .u64 (wd x 2 : Int), .int .u64 (wd x 3 : Int)] 55, .blk p7 [.int .u64 0, .int .u64 0, .int .u64 0, .int .u64 0] 55, .blk p22 [.int .u64 0, .int .u64 0, .int .u64 0, .int .u64 0] 55] w23 := H25
  refine GL.sem (j := 1) (r24) [1, 2, 4, 5] [(1, .int .i64 (r : Int)), (2, pt p3 0), (4, pt p7 0), (5, pt p22 0)] (by kernel_rfl) (by kernel_rfl) rfl ?_
  refine GL.k rfl hK21 (fun _ _ h => h) ?_
  refine G.seqK fun K26 hK27 => ?_
  refine G.region ?_
  refine GL.run (j := 1) 1 [1, 2, 4, 5, 24] [(1, .int .i64 (r : Int)), (2, pt p3 0), (4, pt p7 0), (5, pt p22 0), (24, .int .i64 (r : Int))] (by kernel_rfl) rfl ?_
  refine GL.sem (j := 2) (run_quo64 (P := Try.prog) (t := 3) (n := r) (q := 0) (r := r) (by omega) hr (by omega) _) [1, 2, 4, 5, 25] [(1, .int .i64 (r : Int)), (2, pt p3 0), (4, pt p7 0), (5, pt p22 0), (25, .int .i64 0)] (by kernel_rfl) (by kernel_rfl) rfl ?_
  refine GL.run (j := 3) 1 [2, 4, 5, 25, 26] [(2, pt p3 0), (4, pt p7 0), (5, pt p22 0), (25, .int .i64 0), (26, .int .i64 (r : Int))] (by kernel_rfl) rfl ?_
  refine GL.sem (j := 4) (run_rem64 (P := Try.prog) (t := 3) (n := r) (q := 0) (r := r) (by omega) hr _) [2, 4, 5, 25, 27] [(2, pt p3 0), (4, pt p7 0), (5, pt p22 0), (25, .int .i64 0), (27, .int .i64 (r : Int))] (by kernel_rfl) (by kernel_rfl) rfl ?_
  refine GL.run (j := 6) 2 [2, 4, 5, 6, 7] [(2, pt p3 0), (4, pt p7 0), (5, pt p22 0), (6, .int .i64 0), (7, .int .i64 (r : Int))] (by kernel_rfl) rfl ?_
  refine GL.k rfl hK27 (fun _ _ h => h) ?_
  refine G.seqK fun K28 hK29 => ?_
  refine G.seqK fun K30 hK31 => ?_
  refine G.region ?_
  refine GL.run (j := 2) 2 [2, 4, 5, 6, 7, 8] [(2, pt p3 0), (4, pt p7 0), (5, pt p22 0), (6, .int .i64 0), (7, .int .i64 (r : Int)), (8, .int .i64 0)] (by kernel_rfl) rfl ?_
  refine GL.k rfl hK31 (fun _ _ h => h) ?_
  refine G.block ?_
  refine G.unroll 5 ?_
  refine G.seqK fun K32 hK33 => ?_
  refine G.seqK fun K34 hK35 => ?_
  refine G.region ?_
  refine GL.run (j := 2) 2 [2, 4, 5, 6, 7, 8, 30] [(2, pt p3 0), (4, pt p7 0), (5, pt p22 0), (6, .int .i64 0), (7, .int .i64 (r : Int)), (8, .int .i64 0), (30, .bool true)] (by kernel_rfl) rfl ?_
  refine GL.k rfl hK35 (fun _ _ h => h) ?_
  refine G.yes rfl ?_
  refine G.skipK hK33 (fun _ _ h => h) ?_
  refine G.seqK fun K36 hK37 => ?_
  refine G.block ?_
  refine G.seqK fun K38 hK39 => ?_
  refine G.region ?_
  refine GL.run (j := 5) 5 [2, 4, 5, 6, 7, 8, 33, 37] [(2, pt p3 0), (4, pt p7 0), (5, pt p22 0), (6, .int .i64 0), (7, .int .i64 (r : Int)), (8, .int .i64 0), (33, .int .i64 0), (37, pt p3 0)] (by kernel_rfl) rfl ?_
  refine GL.sem (j := 6) (H25.ld (o := 0) (ty := 22) (v := .int .u64 (wd x 0 : Int)) 0 rfl (by kernel_rfl) rfl) [2, 4, 5, 6, 7, 8, 33, 38] [(2, pt p3 0), (4, pt p7 0), (5, pt p22 0), (6, .int .i64 0), (7, .int .i64 (r : Int)), (8, .int .i64 0), (33, .int .i64 0), (38, .int .u64 (wd x 0 : Int))] (by kernel_rfl) (by kernel_rfl) rfl ?_
  refine GL.run (j := 7) 1 [2, 4, 5, 6, 7, 8, 33, 38, 39] [(2, pt p3 0), (4, pt p7 0), (5, pt p22 0), (6, .int .i64 0), (7, .int .i64 (r : Int)), (8, .int .i64 0), (33, .int .i64 0), (38, .int .u64 (wd x 0 : Int)), (39, .int .i64 (r : Int))] (by kernel_rfl) rfl ?_
  refine GL.sem (j := 8) (run_shlN (P := Try.prog) (k' := .i64) (t := 22) (a := (wd x 0)) (r := r) (by omega) _) [2, 4, 5, 6, 7, 8, 33, 40] [(2, pt p3 0), (4, pt p7 0), (5, pt p22 0), (6, .int .i64 0), (7, .int .i64 (r : Int)), (8, .int .i64 0), (33, .int .i64 0), (40, .int .u64 (((wd x 0) * 2 ^ r % K : Nat) : Int))] (by kernel_rfl) (by kernel_rfl) rfl ?_
  refine GL.run (j := 9) 1 [2, 4, 5, 6, 7, 8, 40, 41] [(2, pt p3 0), (4, pt p7 0), (5, pt p22 0), (6, .int .i64 0), (7, .int .i64 (r : Int)), (8, .int .i64 0), (40, .int .u64 (((wd x 0) * 2 ^ r % K : Nat) : Int)), (41, pt p22 0)] (by kernel_rfl) rfl ?_
  obtain ⟨w40, r41, H42⟩ := H25.st (P := Try.prog) (o := 0) (ty := 22) (v := .int .u64 (((wd x 0) * 2 ^ r % K : Nat) : Int)) 2 rfl (by kernel_rfl) (by simp) rfl
  have H42 : Hp w [] [.blk p3 [.int .u64 (wd x 0 : Int), .int .u64 (wd x 1 : Int), .int .u64 (wd x 2 : Int), .int .u64 (wd x 3 : Int)] 55, .blk p7 [.int .u64 0, .int .u64 0, .int .u64 0, .int .u64 0] 55, .blk p22 [.int .u64 (((wd x 0) * 2 ^ r % K : Nat) : Int), .int .u64 0, .int .u64 0, .int .u64 0] 55] w40 := H42
  refine GL.semU (j := 10) r41 [2, 4, 5, 6, 7, 8] [(2, pt p3 0), (4, pt p7 0), (5, pt p22 0), (6, .int .i64 0), (7, .int .i64 (r : Int)), (8, .int .i64 0)] (by kernel_rfl) rfl rfl rfl ?_
  refine GL.k rfl hK39 (fun _ _ h => h) ?_
  refine G.seqK fun K43 hK44 => ?_
  refine G.region ?_
  refine GL.run (j := 7) 7 [2, 4, 5, 6, 7, 8, 48] [(2, pt p3 0), (4, pt p7 0), (5, pt p22 0), (6, .int .i64 0), (7, .int .i64 (r : Int)), (8, .int .i64 0), (48, .bool false)] (by kernel_rfl) rfl ?_
  refine GL.k rfl hK44 (fun _ _ h => h) ?_
  refine G.no rfl ?_
  refine G.skipK hK37 (fun _ _ h => h) ?_
  refine G.region ?_
  refine GL.run (j := 3) 3 [2, 4, 5, 6, 7, 8] [(2, pt p3 0), (4, pt p7 0), (5, pt p22 0), (6, .int .i64 0), (7, .int .i64 (r : Int)), (8, .int .i64 1)] (by kernel_rfl) rfl ?_
  refine GL.round rfl ?_
  refine G.seqK fun K45 hK46 => ?_
  refine G.seqK fun K47 hK48 => ?_
  refine G.region ?_
  refine GL.run (j := 2) 2 [2, 4, 5, 6, 7, 8, 30] [(2, pt p3 0), (4, pt p7 0), (5, pt p22 0), (6, .int .i64 0), (7, .int .i64 (r : Int)), (8, .int .i64 1), (30, .bool true)] (by kernel_rfl) rfl ?_
  refine GL.k rfl hK48 (fun _ _ h => h) ?_
  refine G.yes rfl ?_
  refine G.skipK hK46 (fun _ _ h => h) ?_
  refine G.seqK fun K49 hK50 => ?_
  refine G.block ?_
  refine G.seqK fun K51 hK52 => ?_
  refine G.region ?_
  refine GL.run (j := 5) 5 [2, 4, 5, 6, 7, 8, 33, 37] [(2, pt p3 0), (4, pt p7 0), (5, pt p22 0), (6, .int .i64 0), (7, .int .i64 (r : Int)), (8, .int .i64 1), (33, .int .i64 1), (37, pt p3 1)] (by kernel_rfl) rfl ?_
  refine GL.sem (j := 6) (H42.ld (o := 1) (ty := 22) (v := .int .u64 (wd x 1 : Int)) 0 rfl (by kernel_rfl) rfl) [2, 4, 5, 6, 7, 8, 33, 38] [(2, pt p3 0), (4, pt p7 0), (5, pt p22 0), (6, .int .i64 0), (7, .int .i64 (r : Int)), (8, .int .i64 1), (33, .int .i64 1), (38, .int .u64 (wd x 1 : Int))] (by kernel_rfl) (by kernel_rfl) rfl ?_
  refine GL.run (j := 7) 1 [2, 4, 5, 6, 7, 8, 33, 38, 39] [(2, pt p3 0), (4, pt p7 0), (5, pt p22 0), (6, .int .i64 0), (7, .int .i64 (r : Int)), (8, .int .i64 1), (33, .int .i64 1), (38, .int .u64 (wd x 1 : Int)), (39, .int .i64 (r : Int))] (by kernel_rfl) rfl ?_
  refine GL.sem (j := 8) (run_shlN (P := Try.prog) (k' := .i64) (t := 22) (a := (wd x 1)) (r := r) (by omega) _) [2, 4, 5, 6, 7, 8, 33, 40] [(2, pt p3 0), (4, pt p7 0), (5, pt p22 0), (6, .int .i64 0), (7, .int .i64 (r : Int)), (8, .int .i64 1), (33, .int .i64 1), (40, .int .u64 (((wd x 1) * 2 ^ r % K : Nat) : Int))] (by kernel_rfl) (by kernel_rfl) rfl ?_
  refine GL.run (j := 9) 1 [2, 4, 5, 6, 7, 8, 40, 41] [(2, pt p3 0), (4, pt p7 0), (5, pt p22 0), (6, .int .i64 0), (7, .int .i64 (r : Int)), (8, .int .i64 1), (40, .int .u64 (((wd x 1) * 2 ^ r % K : Nat) : Int)), (41, pt p22 1)] (by kernel_rfl) rfl ?_
  obtain ⟨w53, r54, H55⟩ := H42.st (P := Try.prog) (o := 1) (ty := 22) (v := .int .u64 (((wd x 1) * 2 ^ r % K : Nat) : Int)) 2 rfl (by kernel_rfl) (by simp) rfl
  have H55 : Hp w [] [.blk p3 [.int .u64 (wd x 0 : Int), .int .u64 (wd x 1 : Int), .int .u64 (wd x 2 : Int), .int .u64 (wd x 3 : Int)] 55, .blk p7 [.int .u64 0, .int .u64 0, .int .u64 0, .int .u64 0] 55, .blk p22 [.int .u64 (((wd x 0) * 2 ^ r % K : Nat) : Int), .int .u64 (((wd x 1) * 2 ^ r % K : Nat) : Int), .int .u64 0, .int .u64 0] 55] w53 := H55
  refine GL.semU (j := 10) r54 [2, 4, 5, 6, 7, 8] [(2, pt p3 0), (4, pt p7 0), (5, pt p22 0), (6, .int .i64 0), (7, .int .i64 (r : Int)), (8, .int .i64 1)] (by kernel_rfl) rfl rfl rfl ?_
  refine GL.k rfl hK52 (fun _ _ h => h) ?_
  refine G.seqK fun K56 hK57 => ?_
  refine G.region ?_
  refine GL.run (j := 7) 7 [2, 4, 5, 6, 7, 8, 48] [(2, pt p3 0), (4, pt p7 0), (5, pt p22 0), (6, .int .i64 0), (7, .int .i64 (r : Int)), (8, .int .i64 1), (48, .bool (decide (0 < (r : Int))))] (by kernel_rfl) rfl ?_
  refine GL.k rfl hK57 (fun _ _ h => h) ?_
  cases hb58 : (decide (0 < (r : Int)))
  · skip
    have hb58f := of_decide_eq_false hb58
    refine G.no rfl ?_
    refine G.skipK hK50 (fun _ _ h => h) ?_
    refine G.region ?_
    refine GL.run (j := 3) 3 [2, 4, 5, 6, 7, 8] [(2, pt p3 0), (4, pt p7 0), (5, pt p22 0), (6, .int .i64 0), (7, .int .i64 (r : Int)), (8, .int .i64 2)] (by kernel_rfl) rfl ?_
    refine GL.round rfl ?_
    refine G.seqK fun K59 hK60 => ?_
    refine G.seqK fun K61 hK62 => ?_
    refine G.region ?_
    refine GL.run (j := 2) 2 [2, 4, 5, 6, 7, 8, 30] [(2, pt p3 0), (4, pt p7 0), (5, pt p22 0), (6, .int .i64 0), (7, .int .i64 (r : Int)), (8, .int .i64 2), (30, .bool true)] (by kernel_rfl) rfl ?_
    refine GL.k rfl hK62 (fun _ _ h => h) ?_
    refine G.yes rfl ?_
    refine G.skipK hK60 (fun _ _ h => h) ?_
    refine G.seqK fun K63 hK64 => ?_
    refine G.block ?_
    refine G.seqK fun K65 hK66 => ?_
    refine G.region ?_
    refine GL.run (j := 5) 5 [2, 4, 5, 6, 7, 8, 33, 37] [(2, pt p3 0), (4, pt p7 0), (5, pt p22 0), (6, .int .i64 0), (7, .int .i64 (r : Int)), (8, .int .i64 2), (33, .int .i64 2), (37, pt p3 2)] (by kernel_rfl) rfl ?_
    refine GL.sem (j := 6) (H55.ld (o := 2) (ty := 22) (v := .int .u64 (wd x 2 : Int)) 0 rfl (by kernel_rfl) rfl) [2, 4, 5, 6, 7, 8, 33, 38] [(2, pt p3 0), (4, pt p7 0), (5, pt p22 0), (6, .int .i64 0), (7, .int .i64 (r : Int)), (8, .int .i64 2), (33, .int .i64 2), (38, .int .u64 (wd x 2 : Int))] (by kernel_rfl) (by kernel_rfl) rfl ?_
    refine GL.run (j := 7) 1 [2, 4, 5, 6, 7, 8, 33, 38, 39] [(2, pt p3 0), (4, pt p7 0), (5, pt p22 0), (6, .int .i64 0), (7, .int .i64 (r : Int)), (8, .int .i64 2), (33, .int .i64 2), (38, .int .u64 (wd x 2 : Int)), (39, .int .i64 (r : Int))] (by kernel_rfl) rfl ?_
    refine GL.sem (j := 8) (run_shlN (P := Try.prog) (k' := .i64) (t := 22) (a := (wd x 2)) (r := r) (by omega) _) [2, 4, 5, 6, 7, 8, 33, 40] [(2, pt p3 0), (4, pt p7 0), (5, pt p22 0), (6, .int .i64 0), (7, .int .i64 (r : Int)), (8, .int .i64 2), (33, .int .i64 2), (40, .int .u64 (((wd x 2) * 2 ^ r % K : Nat) : Int))] (by kernel_rfl) (by kernel_rfl) rfl ?_
    refine GL.run (j := 9) 1 [2, 4, 5, 6, 7, 8, 40, 41] [(2, pt p3 0), (4, pt p7 0), (5, pt p22 0), (6, .int .i64 0), (7, .int .i64 (r : Int)), (8, .int .i64 2), (40, .int .u64 (((wd x 2) * 2 ^ r % K : Nat) : Int)), (41, pt p22 2)] (by kernel_rfl) rfl ?_
    obtain ⟨w67, r68, H69⟩ := H55.st (P := Try.prog) (o := 2) (ty := 22) (v := .int .u64 (((wd x 2) * 2 ^ r % K : Nat) : Int)) 2 rfl (by kernel_rfl) (by simp) rfl
    have H69 : Hp w [] [.blk p3 [.int .u64 (wd x 0 : Int), .int .u64 (wd x 1 : Int), .int .u64 (wd x 2 : Int), .int .u64 (wd x 3 : Int)] 55, .blk p7 [.int .u64 0, .int .u64 0, .int .u64 0, .int .u64 0] 55, .blk p22 [.int .u64 (((wd x 0) * 2 ^ r % K : Nat) : Int), .int .u64 (((wd x 1) * 2 ^ r % K : Nat) : Int), .int .u64 (((wd x 2) * 2 ^ r % K : Nat) : Int), .int .u64 0] 55] w67 := H69
    refine GL.semU (j := 10) r68 [2, 4, 5, 6, 7, 8] [(2, pt p3 0), (4, pt p7 0), (5, pt p22 0), (6, .int .i64 0), (7, .int .i64 (r : Int)), (8, .int .i64 2)] (by kernel_rfl) rfl rfl rfl ?_
    refine GL.k rfl hK66 (fun _ _ h => h) ?_
    refine G.seqK fun K70 hK71 => ?_
    refine G.region ?_
    refine GL.run (j := 7) 7 [2, 4, 5, 6, 7, 8, 48] [(2, pt p3 0), (4, pt p7 0), (5, pt p22 0), (6, .int .i64 0), (7, .int .i64 (r : Int)), (8, .int .i64 2), (48, .bool (decide (0 < (r : Int))))] (by kernel_rfl) rfl ?_
    refine GL.k rfl hK71 (fun _ _ h => h) ?_
    have hb72 : (decide (0 < (r : Int))) = false := by assumption
    rw [hb72]
    refine G.no rfl ?_
    refine G.skipK hK64 (fun _ _ h => h) ?_
    refine G.region ?_
    refine GL.run (j := 3) 3 [2, 4, 5, 6, 7, 8] [(2, pt p3 0), (4, pt p7 0), (5, pt p22 0), (6, .int .i64 0), (7, .int .i64 (r : Int)), (8, .int .i64 3)] (by kernel_rfl) rfl ?_
    refine GL.round rfl ?_
    refine G.seqK fun K73 hK74 => ?_
    refine G.seqK fun K75 hK76 => ?_
    refine G.region ?_
    refine GL.run (j := 2) 2 [2, 4, 5, 6, 7, 8, 30] [(2, pt p3 0), (4, pt p7 0), (5, pt p22 0), (6, .int .i64 0), (7, .int .i64 (r : Int)), (8, .int .i64 3), (30, .bool true)] (by kernel_rfl) rfl ?_
    refine GL.k rfl hK76 (fun _ _ h => h) ?_
    refine G.yes rfl ?_
    refine G.skipK hK74 (fun _ _ h => h) ?_
    refine G.seqK fun K77 hK78 => ?_
    refine G.block ?_
    refine G.seqK fun K79 hK80 => ?_
    refine G.region ?_
    refine GL.run (j := 5) 5 [2, 4, 5, 6, 7, 8, 33, 37] [(2, pt p3 0), (4, pt p7 0), (5, pt p22 0), (6, .int .i64 0), (7, .int .i64 (r : Int)), (8, .int .i64 3), (33, .int .i64 3), (37, pt p3 3)] (by kernel_rfl) rfl ?_
    refine GL.sem (j := 6) (H69.ld (o := 3) (ty := 22) (v := .int .u64 (wd x 3 : Int)) 0 rfl (by kernel_rfl) rfl) [2, 4, 5, 6, 7, 8, 33, 38] [(2, pt p3 0), (4, pt p7 0), (5, pt p22 0), (6, .int .i64 0), (7, .int .i64 (r : Int)), (8, .int .i64 3), (33, .int .i64 3), (38, .int .u64 (wd x 3 : Int))] (by kernel_rfl) (by kernel_rfl) rfl ?_
    refine GL.run (j := 7) 1 [2, 4, 5, 6, 7, 8, 33, 38, 39] [(2, pt p3 0), (4, pt p7 0), (5, pt p22 0), (6, .int .i64 0), (7, .int .i64 (r : Int)), (8, .int .i64 3), (33, .int .i64 3), (38, .int .u64 (wd x 3 : Int)), (39, .int .i64 (r : Int))] (by kernel_rfl) rfl ?_
    refine GL.sem (j := 8) (run_shlN (P := Try.prog) (k' := .i64) (t := 22) (a := (wd x 3)) (r := r) (by omega) _) [2, 4, 5, 6, 7, 8, 33, 40] [(2, pt p3 0), (4, pt p7 0), (5, pt p22 0), (6, .int .i64 0), (7, .int .i64 (r : Int)), (8, .int .i64 3), (33, .int .i64 3), (40, .int .u64 (((wd x 3) * 2 ^ r % K : Nat) : Int))] (by kernel_rfl) (by kernel_rfl) rfl ?_
    refine GL.run (j := 9) 1 [2, 4, 5, 6, 7, 8, 40, 41] [(2, pt p3 0), (4, pt p7 0), (5, pt p22 0), (6, .int .i64 0), (7, .int .i64 (r : Int)), (8, .int .i64 3), (40, .int .u64 (((wd x 3) * 2 ^ r % K : Nat) : Int)), (41, pt p22 3)] (by kernel_rfl) rfl ?_
    obtain ⟨w81, r82, H83⟩ := H69.st (P := Try.prog) (o := 3) (ty := 22) (v := .int .u64 (((wd x 3) * 2 ^ r % K : Nat) : Int)) 2 rfl (by kernel_rfl) (by simp) rfl
    have H83 : Hp w [] [.blk p3 [.int .u64 (wd x 0 : Int), .int .u64 (wd x 1 : Int), .int .u64 (wd x 2 : Int), .int .u64 (wd x 3 : Int)] 55, .blk p7 [.int .u64 0, .int .u64 0, .int .u64 0, .int .u64 0] 55, .blk p22 [.int .u64 (((wd x 0) * 2 ^ r % K : Nat) : Int), .int .u64 (((wd x 1) * 2 ^ r % K : Nat) : Int), .int .u64 (((wd x 2) * 2 ^ r % K : Nat) : Int), .int .u64 (((wd x 3) * 2 ^ r % K : Nat) : Int)] 55] w81 := H83
    refine GL.semU (j := 10) r82 [2, 4, 5, 6, 7, 8] [(2, pt p3 0), (4, pt p7 0), (5, pt p22 0), (6, .int .i64 0), (7, .int .i64 (r : Int)), (8, .int .i64 3)] (by kernel_rfl) rfl rfl rfl ?_
    refine GL.k rfl hK80 (fun _ _ h => h) ?_
    refine G.seqK fun K84 hK85 => ?_
    refine G.region ?_
    refine GL.run (j := 7) 7 [2, 4, 5, 6, 7, 8, 48] [(2, pt p3 0), (4, pt p7 0), (5, pt p22 0), (6, .int .i64 0), (7, .int .i64 (r : Int)), (8, .int .i64 3), (48, .bool (decide (0 < (r : Int))))] (by kernel_rfl) rfl ?_
    refine GL.k rfl hK85 (fun _ _ h => h) ?_
    have hb86 : (decide (0 < (r : Int))) = false := by assumption
    rw [hb86]
    refine G.no rfl ?_
    refine G.skipK hK78 (fun _ _ h => h) ?_
    refine G.region ?_
    refine GL.run (j := 3) 3 [2, 4, 5, 6, 7, 8] [(2, pt p3 0), (4, pt p7 0), (5, pt p22 0), (6, .int .i64 0), (7, .int .i64 (r : Int)), (8, .int .i64 4)] (by kernel_rfl) rfl ?_
    refine GL.round rfl ?_
    refine G.seqK fun K87 hK88 => ?_
    refine G.seqK fun K89 hK90 => ?_
    refine G.region ?_
    refine GL.run (j := 2) 2 [2, 4, 5, 6, 7, 8, 30] [(2, pt p3 0), (4, pt p7 0), (5, pt p22 0), (6, .int .i64 0), (7, .int .i64 (r : Int)), (8, .int .i64 4), (30, .bool false)] (by kernel_rfl) rfl ?_
    refine GL.k rfl hK90 (fun _ _ h => h) ?_
    refine G.no rfl ?_
    refine G.exitK hK29 (fun _ _ h => h) ?_
    refine G.seqK fun K91 hK92 => ?_
    refine G.region ?_
    refine GL.sem (j := 1) (H83.ldA (o := 0) (ty := 55) (m := 4) (sub := [.int .u64 (((wd x 0) * 2 ^ r % K : Nat) : Int), .int .u64 (((wd x 1) * 2 ^ r % K : Nat) : Int), .int .u64 (((wd x 2) * 2 ^ r % K : Nat) : Int), .int .u64 (((wd x 3) * 2 ^ r % K : Nat) : Int)]) 2 rfl (by kernel_rfl) rfl rfl) [4, 63] [(4, pt p7 0), (63, .agg #[.int .u64 (((wd x 0) * 2 ^ r % K : Nat) : Int), .int .u64 (((wd x 1) * 2 ^ r % K : Nat) : Int), .int .u64 (((wd x 2) * 2 ^ r % K : Nat) : Int), .int .u64 (((wd x 3) * 2 ^ r % K : Nat) : Int)])] (by kernel_rfl) (by kernel_rfl) rfl ?_
    obtain ⟨w93, r94, H95⟩ := H83.stA (P := Try.prog) (o := 0) (vs := [.int .u64 (((wd x 0) * 2 ^ r % K : Nat) : Int), .int .u64 (((wd x 1) * 2 ^ r % K : Nat) : Int), .int .u64 (((wd x 2) * 2 ^ r % K : Nat) : Int), .int .u64 (((wd x 3) * 2 ^ r % K : Nat) : Int)]) (ty := 55) (m := 4) 1 rfl (by kernel_rfl) rfl (by simp) (by simp [Value.oneCell'])
    have H95 : Hp w [] [.blk p3 [.int .u64 (wd x 0 : Int), .int .u64 (wd x 1 : Int), .int .u64 (wd x 2 : Int), .int .u64 (wd x 3 : Int)] 55, .blk p7 [.int .u64 (((wd x 0) * 2 ^ r % K : Nat) : Int), .int .u64 (((wd x 1) * 2 ^ r % K : Nat) : Int), .int .u64 (((wd x 2) * 2 ^ r % K : Nat) : Int), .int .u64 (((wd x 3) * 2 ^ r % K : Nat) : Int)] 55, .blk p22 [.int .u64 (((wd x 0) * 2 ^ r % K : Nat) : Int), .int .u64 (((wd x 1) * 2 ^ r % K : Nat) : Int), .int .u64 (((wd x 2) * 2 ^ r % K : Nat) : Int), .int .u64 (((wd x 3) * 2 ^ r % K : Nat) : Int)] 55] w93 := H95
    refine GL.semU (j := 2) r94 [4] [(4, pt p7 0)] (by kernel_rfl) rfl rfl rfl ?_
    refine GL.k rfl hK92 (fun _ _ h => h) ?_
    refine G.ret ?_
    intro F_ hF_ hM_
    refine hRet _ _ (bodyPost_1 rfl (RV.cell rfl (H95.ldA (o := 0) (ty := 55) (m := 4) (sub := [.int .u64 (((wd x 0) * 2 ^ r % K : Nat) : Int), .int .u64 (((wd x 1) * 2 ^ r % K : Nat) : Int), .int .u64 (((wd x 2) * 2 ^ r % K : Nat) : Int), .int .u64 (((wd x 3) * 2 ^ r % K : Nat) : Int)]) 1 rfl (by kernel_rfl) rfl rfl)) ?_ F_ hF_ hM_)
    rw [← left_fin0' hx (show r = 0 by omega)]
    exact ⟨rfl, H95.sub (List.nil_sublist _)⟩
  · skip
    have hb58f := of_decide_eq_true hb58
    refine G.yes rfl ?_
    refine G.tail 14 (by kernel_rfl) (by kernel_rfl) ?_
    have H96 := H55.drew
    generalize ({ w53 with drawn := w53.drawn + 1 } : World) = w97 at H96 ⊢
    refine GS.run (j := 2) 2 [2, 4, 5, 6, 7, 8, 49, 50] [(2, pt p3 0), (4, pt p7 0), (5, pt p22 0), (6, .int .i64 0), (7, .int .i64 (r : Int)), (8, .int .i64 1), (49, .int .i64 1), (50, pt p22 1)] (by kernel_rfl) rfl rfl ?_
    refine GS.sem (j := 3) (H96.ld (o := 1) (ty := 22) (v := .int .u64 (((wd x 1) * 2 ^ r % K : Nat) : Int)) 2 rfl (by kernel_rfl) rfl) [2, 4, 5, 6, 7, 8, 49, 51] [(2, pt p3 0), (4, pt p7 0), (5, pt p22 0), (6, .int .i64 0), (7, .int .i64 (r : Int)), (8, .int .i64 1), (49, .int .i64 1), (51, .int .u64 (((wd x 1) * 2 ^ r % K : Nat) : Int))] (by kernel_rfl) (by kernel_rfl) rfl rfl ?_
    refine GS.run (j := 8) 5 [2, 4, 5, 6, 7, 8, 49, 51, 56] [(2, pt p3 0), (4, pt p7 0), (5, pt p22 0), (6, .int .i64 0), (7, .int .i64 (r : Int)), (8, .int .i64 1), (49, .int .i64 1), (51, .int .u64 (((wd x 1) * 2 ^ r % K : Nat) : Int)), (56, pt p3 0)] (by kernel_rfl) rfl rfl ?_
    refine GS.sem (j := 9) (H96.ld (o := 0) (ty := 22) (v := .int .u64 (wd x 0 : Int)) 0 rfl (by kernel_rfl) rfl) [2, 4, 5, 6, 7, 8, 49, 51, 57] [(2, pt p3 0), (4, pt p7 0), (5, pt p22 0), (6, .int .i64 0), (7, .int .i64 (r : Int)), (8, .int .i64 1), (49, .int .i64 1), (51, .int .u64 (((wd x 1) * 2 ^ r % K : Nat) : Int)), (57, .int .u64 (wd x 0 : Int))] (by kernel_rfl) (by kernel_rfl) rfl rfl ?_
    refine GS.run (j := 11) 2 [2, 4, 5, 6, 7, 8, 49, 51, 57, 59] [(2, pt p3 0), (4, pt p7 0), (5, pt p22 0), (6, .int .i64 0), (7, .int .i64 (r : Int)), (8, .int .i64 1), (49, .int .i64 1), (51, .int .u64 (((wd x 1) * 2 ^ r % K : Nat) : Int)), (57, .int .u64 (wd x 0 : Int)), (59, .int .i64 (IntKind.i64.wrap (64 - (r : Int))))] (by kernel_rfl) rfl rfl ?_
    have e98 : (IntKind.i64.wrap (64 - (r : Int))) = ((64 - r : Nat) : Int) := by rw [in_i64 (by omega)]; omega
    refine GS.eq (M' := [(2, pt p3 0), (4, pt p7 0), (5, pt p22 0), (6, .int .i64 0), (7, .int .i64 (r : Int)), (8, .int .i64 1), (49, .int .i64 1), (51, .int .u64 (((wd x 1) * 2 ^ r % K : Nat) : Int)), (57, .int .u64 (wd x 0 : Int)), (59, .int .i64 ((64 - r : Nat) : Int))]) (by rw [e98]) ?_
    clear e98
    refine GS.sem (j := 12) (run_shrN (P := Try.prog) (k' := .i64) (t := 22) (a := (wd x 0)) (r := (64 - r)) (by omega) _) [2, 4, 5, 6, 7, 8, 49, 51, 60] [(2, pt p3 0), (4, pt p7 0), (5, pt p22 0), (6, .int .i64 0), (7, .int .i64 (r : Int)), (8, .int .i64 1), (49, .int .i64 1), (51, .int .u64 (((wd x 1) * 2 ^ r % K : Nat) : Int)), (60, .int .u64 (((wd x 0) / 2 ^ (64 - r) : Nat) : Int))] (by kernel_rfl) (by kernel_rfl) rfl rfl ?_
    refine GS.run (j := 14) 2 [2, 4, 5, 6, 7, 8, 61, 62] [(2, pt p3 0), (4, pt p7 0), (5, pt p22 0), (6, .int .i64 0), (7, .int .i64 (r : Int)), (8, .int .i64 1), (61, .int .u64 (Go.bits .or .u64 (((wd x 1) * 2 ^ r % K : Nat) : Int) (((wd x 0) / 2 ^ (64 - r) : Nat) : Int))), (62, pt p22 1)] (by kernel_rfl) rfl rfl ?_
    have e99 : (Go.bits .or .u64 (((wd x 1) * 2 ^ r % K : Nat) : Int) (((wd x 0) / 2 ^ (64 - r) : Nat) : Int)) = (((wd x 1) * 2 ^ r % K + (wd x 0) * 2 ^ r / K : Nat) : Int) := or_shift (wd_lt _ _) (by omega)
    refine GS.eq (M' := [(2, pt p3 0), (4, pt p7 0), (5, pt p22 0), (6, .int .i64 0), (7, .int .i64 (r : Int)), (8, .int .i64 1), (61, .int .u64 (((wd x 1) * 2 ^ r % K + (wd x 0) * 2 ^ r / K : Nat) : Int)), (62, pt p22 1)]) (by rw [e99]) ?_
    clear e99
    refine GS.tail rfl ?_
    obtain ⟨w100, r101, H102⟩ := H96.st (P := Try.prog) (o := 1) (ty := 22) (v := .int .u64 (((wd x 1) * 2 ^ r % K + (wd x 0) * 2 ^ r / K : Nat) : Int)) 2 rfl (by kernel_rfl) (by simp) rfl
    have H102 : Hp w [] [.blk p3 [.int .u64 (wd x 0 : Int), .int .u64 (wd x 1 : Int), .int .u64 (wd x 2 : Int), .int .u64 (wd x 3 : Int)] 55, .blk p7 [.int .u64 0, .int .u64 0, .int .u64 0, .int .u64 0] 55, .blk p22 [.int .u64 (((wd x 0) * 2 ^ r % K : Nat) : Int), .int .u64 (((wd x 1) * 2 ^ r % K + (wd x 0) * 2 ^ r / K : Nat) : Int), .int .u64 0, .int .u64 0] 55] w100 := H102
    refine GL.semU (j := 15) r101 [2, 4, 5, 6, 7, 8] [(2, pt p3 0), (4, pt p7 0), (5, pt p22 0), (6, .int .i64 0), (7, .int .i64 (r : Int)), (8, .int .i64 1)] (by kernel_rfl) rfl rfl rfl ?_
    refine GL.k rfl hK50 (fun _ _ h => h) ?_
    refine G.region ?_
    refine GL.run (j := 3) 3 [2, 4, 5, 6, 7, 8] [(2, pt p3 0), (4, pt p7 0), (5, pt p22 0), (6, .int .i64 0), (7, .int .i64 (r : Int)), (8, .int .i64 2)] (by kernel_rfl) rfl ?_
    refine GL.round rfl ?_
    refine G.seqK fun K103 hK104 => ?_
    refine G.seqK fun K105 hK106 => ?_
    refine G.region ?_
    refine GL.run (j := 2) 2 [2, 4, 5, 6, 7, 8, 30] [(2, pt p3 0), (4, pt p7 0), (5, pt p22 0), (6, .int .i64 0), (7, .int .i64 (r : Int)), (8, .int .i64 2), (30, .bool true)] (by kernel_rfl) rfl ?_
    refine GL.k rfl hK106 (fun _ _ h => h) ?_
    refine G.yes rfl ?_
    refine G.skipK hK104 (fun _ _ h => h) ?_
    refine G.seqK fun K107 hK108 => ?_
    refine G.block ?_
    refine G.seqK fun K109 hK110 => ?_
    refine G.region ?_
    refine GL.run (j := 5) 5 [2, 4, 5, 6, 7, 8, 33, 37] [(2, pt p3 0), (4, pt p7 0), (5, pt p22 0), (6, .int .i64 0), (7, .int .i64 (r : Int)), (8, .int .i64 2), (33, .int .i64 2), (37, pt p3 2)] (by kernel_rfl) rfl ?_
    refine GL.sem (j := 6) (H102.ld (o := 2) (ty := 22) (v := .int .u64 (wd x 2 : Int)) 0 rfl (by kernel_rfl) rfl) [2, 4, 5, 6, 7, 8, 33, 38] [(2, pt p3 0), (4, pt p7 0), (5, pt p22 0), (6, .int .i64 0), (7, .int .i64 (r : Int)), (8, .int .i64 2), (33, .int .i64 2), (38, .int .u64 (wd x 2 : Int))] (by kernel_rfl) (by kernel_rfl) rfl ?_
    refine GL.run (j := 7) 1 [2, 4, 5, 6, 7, 8, 33, 38, 39] [(2, pt p3 0), (4, pt p7 0), (5, pt p22 0), (6, .int .i64 0), (7, .int .i64 (r : Int)), (8, .int .i64 2), (33, .int .i64 2), (38, .int .u64 (wd x 2 : Int)), (39, .int .i64 (r : Int))] (by kernel_rfl) rfl ?_
    refine GL.sem (j := 8) (run_shlN (P := Try.prog) (k' := .i64) (t := 22) (a := (wd x 2)) (r := r) (by omega) _) [2, 4, 5, 6, 7, 8, 33, 40] [(2, pt p3 0), (4, pt p7 0), (5, pt p22 0), (6, .int .i64 0), (7, .int .i64 (r : Int)), (8, .int .i64 2), (33, .int .i64 2), (40, .int .u64 (((wd x 2) * 2 ^ r % K : Nat) : Int))] (by kernel_rfl) (by kernel_rfl) rfl ?_
    refine GL.run (j := 9) 1 [2, 4, 5, 6, 7, 8, 40, 41] [(2, pt p3 0), (4, pt p7 0), (5, pt p22 0), (6, .int .i64 0), (7, .int .i64 (r : Int)), (8, .int .i64 2), (40, .int .u64 (((wd x 2) * 2 ^ r % K : Nat) : Int)), (41, pt p22 2)] (by kernel_rfl) rfl ?_
    obtain ⟨w111, r112, H113⟩ := H102.st (P := Try.prog) (o := 2) (ty := 22) (v := .int .u64 (((wd x 2) * 2 ^ r % K : Nat) : Int)) 2 rfl (by kernel_rfl) (by simp) rfl
    have H113 : Hp w [] [.blk p3 [.int .u64 (wd x 0 : Int), .int .u64 (wd x 1 : Int), .int .u64 (wd x 2 : Int), .int .u64 (wd x 3 : Int)] 55, .blk p7 [.int .u64 0, .int .u64 0, .int .u64 0, .int .u64 0] 55, .blk p22 [.int .u64 (((wd x 0) * 2 ^ r % K : Nat) : Int), .int .u64 (((wd x 1) * 2 ^ r % K + (wd x 0) * 2 ^ r / K : Nat) : Int), .int .u64 (((wd x 2) * 2 ^ r % K : Nat) : Int), .int .u64 0] 55] w111 := H113
    refine GL.semU (j := 10) r112 [2, 4, 5, 6, 7, 8] [(2, pt p3 0), (4, pt p7 0), (5, pt p22 0), (6, .int .i64 0), (7, .int .i64 (r : Int)), (8, .int .i64 2)] (by kernel_rfl) rfl rfl rfl ?_
    refine GL.k rfl hK110 (fun _ _ h => h) ?_
    refine G.seqK fun K114 hK115 => ?_
    refine G.region ?_
    refine GL.run (j := 7) 7 [2, 4, 5, 6, 7, 8, 48] [(2, pt p3 0), (4, pt p7 0), (5, pt p22 0), (6, .int .i64 0), (7, .int .i64 (r : Int)), (8, .int .i64 2), (48, .bool (decide (0 < (r : Int))))] (by kernel_rfl) rfl ?_
    refine GL.k rfl hK115 (fun _ _ h => h) ?_
    have hb116 : (decide (0 < (r : Int))) = true := by assumption
    rw [hb116]
    refine G.yes rfl ?_
    refine G.tail 14 (by kernel_rfl) (by kernel_rfl) ?_
    have H117 := H113.drew
    generalize ({ w111 with drawn := w111.drawn + 1 } : World) = w118 at H117 ⊢
    refine GS.run (j := 2) 2 [2, 4, 5, 6, 7, 8, 49, 50] [(2, pt p3 0), (4, pt p7 0), (5, pt p22 0), (6, .int .i64 0), (7, .int .i64 (r : Int)), (8, .int .i64 2), (49, .int .i64 2), (50, pt p22 2)] (by kernel_rfl) rfl rfl ?_
    refine GS.sem (j := 3) (H117.ld (o := 2) (ty := 22) (v := .int .u64 (((wd x 2) * 2 ^ r % K : Nat) : Int)) 2 rfl (by kernel_rfl) rfl) [2, 4, 5, 6, 7, 8, 49, 51] [(2, pt p3 0), (4, pt p7 0), (5, pt p22 0), (6, .int .i64 0), (7, .int .i64 (r : Int)), (8, .int .i64 2), (49, .int .i64 2), (51, .int .u64 (((wd x 2) * 2 ^ r % K : Nat) : Int))] (by kernel_rfl) (by kernel_rfl) rfl rfl ?_
    refine GS.run (j := 8) 5 [2, 4, 5, 6, 7, 8, 49, 51, 56] [(2, pt p3 0), (4, pt p7 0), (5, pt p22 0), (6, .int .i64 0), (7, .int .i64 (r : Int)), (8, .int .i64 2), (49, .int .i64 2), (51, .int .u64 (((wd x 2) * 2 ^ r % K : Nat) : Int)), (56, pt p3 1)] (by kernel_rfl) rfl rfl ?_
    refine GS.sem (j := 9) (H117.ld (o := 1) (ty := 22) (v := .int .u64 (wd x 1 : Int)) 0 rfl (by kernel_rfl) rfl) [2, 4, 5, 6, 7, 8, 49, 51, 57] [(2, pt p3 0), (4, pt p7 0), (5, pt p22 0), (6, .int .i64 0), (7, .int .i64 (r : Int)), (8, .int .i64 2), (49, .int .i64 2), (51, .int .u64 (((wd x 2) * 2 ^ r % K : Nat) : Int)), (57, .int .u64 (wd x 1 : Int))] (by kernel_rfl) (by kernel_rfl) rfl rfl ?_
    refine GS.run (j := 11) 2 [2, 4, 5, 6, 7, 8, 49, 51, 57, 59] [(2, pt p3 0), (4, pt p7 0), (5, pt p22 0), (6, .int .i64 0), (7, .int .i64 (r : Int)), (8, .int .i64 2), (49, .int .i64 2), (51, .int .u64 (((wd x 2) * 2 ^ r % K : Nat) : Int)), (57, .int .u64 (wd x 1 : Int)), (59, .int .i64 (IntKind.i64.wrap (64 - (r : Int))))] (by kernel_rfl) rfl rfl ?_
    have e119 : (IntKind.i64.wrap (64 - (r : Int))) = ((64 - r : Nat) : Int) := by rw [in_i64 (by omega)]; omega
    refine GS.eq (M' := [(2, pt p3 0), (4, pt p7 0), (5, pt p22 0), (6, .int .i64 0), (7, .int .i64 (r : Int)), (8, .int .i64 2), (49, .int .i64 2), (51, .int .u64 (((wd x 2) * 2 ^ r % K : Nat) : Int)), (57, .int .u64 (wd x 1 : Int)), (59, .int .i64 ((64 - r : Nat) : Int))]) (by rw [e119]) ?_
    clear e119
    refine GS.sem (j := 12) (run_shrN (P := Try.prog) (k' := .i64) (t := 22) (a := (wd x 1)) (r := (64 - r)) (by omega) _) [2, 4, 5, 6, 7, 8, 49, 51, 60] [(2, pt p3 0), (4, pt p7 0), (5, pt p22 0), (6, .int .i64 0), (7, .int .i64 (r : Int)), (8, .int .i64 2), (49, .int .i64 2), (51, .int .u64 (((wd x 2) * 2 ^ r % K : Nat) : Int)), (60, .int .u64 (((wd x 1) / 2 ^ (64 - r) : Nat) : Int))] (by kernel_rfl) (by kernel_rfl) rfl rfl ?_
    refine GS.run (j := 14) 2 [2, 4, 5, 6, 7, 8, 61, 62] [(2, pt p3 0), (4, pt p7 0), (5, pt p22 0), (6, .int .i64 0), (7, .int .i64 (r : Int)), (8, .int .i64 2), (61, .int .u64 (Go.bits .or .u64 (((wd x 2) * 2 ^ r % K : Nat) : Int) (((wd x 1) / 2 ^ (64 - r) : Nat) : Int))), (62, pt p22 2)] (by kernel_rfl) rfl rfl ?_
    have e120 : (Go.bits .or .u64 (((wd x 2) * 2 ^ r % K : Nat) : Int) (((wd x 1) / 2 ^ (64 - r) : Nat) : Int)) = (((wd x 2) * 2 ^ r % K + (wd x 1) * 2 ^ r / K : Nat) : Int) := or_shift (wd_lt _ _) (by omega)
    refine GS.eq (M' := [(2, pt p3 0), (4, pt p7 0), (5, pt p22 0), (6, .int .i64 0), (7, .int .i64 (r : Int)), (8, .int .i64 2), (61, .int .u64 (((wd x 2) * 2 ^ r % K + (wd x 1) * 2 ^ r / K : Nat) : Int)), (62, pt p22 2)]) (by rw [e120]) ?_
    clear e120
    refine GS.tail rfl ?_
    obtain ⟨w121, r122, H123⟩ := H117.st (P := Try.prog) (o := 2) (ty := 22) (v := .int .u64 (((wd x 2) * 2 ^ r % K + (wd x 1) * 2 ^ r / K : Nat) : Int)) 2 rfl (by kernel_rfl) (by simp) rfl
    have H123 : Hp w [] [.blk p3 [.int .u64 (wd x 0 : Int), .int .u64 (wd x 1 : Int), .int .u64 (wd x 2 : Int), .int .u64 (wd x 3 : Int)] 55, .blk p7 [.int .u64 0, .int .u64 0, .int .u64 0, .int .u64 0] 55, .blk p22 [.int .u64 (((wd x 0) * 2 ^ r % K : Nat) : Int), .int .u64 (((wd x 1) * 2 ^ r % K + (wd x 0) * 2 ^ r / K : Nat) : Int), .int .u64 (((wd x 2) * 2 ^ r % K + (wd x 1) * 2 ^ r / K : Nat) : Int), .int .u64 0] 55] w121 := H123
    refine GL.semU (j := 15) r122 [2, 4, 5, 6, 7, 8] [(2, pt p3 0), (4, pt p7 0), (5, pt p22 0), (6, .int .i64 0), (7, .int .i64 (r : Int)), (8, .int .i64 2)] (by kernel_rfl) rfl rfl rfl ?_
    refine GL.k rfl hK108 (fun _ _ h => h) ?_
    refine G.region ?_
    refine GL.run (j := 3) 3 [2, 4, 5, 6, 7, 8] [(2, pt p3 0), (4, pt p7 0), (5, pt p22 0), (6, .int .i64 0), (7, .int .i64 (r : Int)), (8, .int .i64 3)] (by kernel_rfl) rfl ?_
    refine GL.round rfl ?_
    refine G.seqK fun K124 hK125 => ?_
    refine G.seqK fun K126 hK127 => ?_
    refine G.region ?_
    refine GL.run (j := 2) 2 [2, 4, 5, 6, 7, 8, 30] [(2, pt p3 0), (4, pt p7 0), (5, pt p22 0), (6, .int .i64 0), (7, .int .i64 (r : Int)), (8, .int .i64 3), (30, .bool true)] (by kernel_rfl) rfl ?_
    refine GL.k rfl hK127 (fun _ _ h => h) ?_
    refine G.yes rfl ?_
    refine G.skipK hK125 (fun _ _ h => h) ?_
    refine G.seqK fun K128 hK129 => ?_
    refine G.block ?_
    refine G.seqK fun K130 hK131 => ?_
    refine G.region ?_
    refine GL.run (j := 5) 5 [2, 4, 5, 6, 7, 8, 33, 37] [(2, pt p3 0), (4, pt p7 0), (5, pt p22 0), (6, .int .i64 0), (7, .int .i64 (r : Int)), (8, .int .i64 3), (33, .int .i64 3), (37, pt p3 3)] (by kernel_rfl) rfl ?_
    refine GL.sem (j := 6) (H123.ld (o := 3) (ty := 22) (v := .int .u64 (wd x 3 : Int)) 0 rfl (by kernel_rfl) rfl) [2, 4, 5, 6, 7, 8, 33, 38] [(2, pt p3 0), (4, pt p7 0), (5, pt p22 0), (6, .int .i64 0), (7, .int .i64 (r : Int)), (8, .int .i64 3), (33, .int .i64 3), (38, .int .u64 (wd x 3 : Int))] (by kernel_rfl) (by kernel_rfl) rfl ?_
    refine GL.run (j := 7) 1 [2, 4, 5, 6, 7, 8, 33, 38, 39] [(2, pt p3 0), (4, pt p7 0), (5, pt p22 0), (6, .int .i64 0), (7, .int .i64 (r : Int)), (8, .int .i64 3), (33, .int .i64 3), (38, .int .u64 (wd x 3 : Int)), (39, .int .i64 (r : Int))] (by kernel_rfl) rfl ?_
    refine GL.sem (j := 8) (run_shlN (P := Try.prog) (k' := .i64) (t := 22) (a := (wd x 3)) (r := r) (by omega) _) [2, 4, 5, 6, 7, 8, 33, 40] [(2, pt p3 0), (4, pt p7 0), (5, pt p22 0), (6, .int .i64 0), (7, .int .i64 (r : Int)), (8, .int .i64 3), (33, .int .i64 3), (40, .int .u64 (((wd x 3) * 2 ^ r % K : Nat) : Int))] (by kernel_rfl) (by kernel_rfl) rfl ?_
    refine GL.run (j := 9) 1 [2, 4, 5, 6, 7, 8, 40, 41] [(2, pt p3 0), (4, pt p7 0), (5, pt p22 0), (6, .int .i64 0), (7, .int .i64 (r : Int)), (8, .int .i64 3), (40, .int .u64 (((wd x 3) * 2 ^ r % K : Nat) : Int)), (41, pt p22 3)] (by kernel_rfl) rfl ?_
    obtain ⟨w132, r133, H134⟩ := H123.st (P := Try.prog) (o := 3) (ty := 22) (v := .int .u64 (((wd x 3) * 2 ^ r % K : Nat) : Int)) 2 rfl (by kernel_rfl) (by simp) rfl
    have H134 : Hp w [] [.blk p3 [.int .u64 (wd x 0 : Int), .int .u64 (wd x 1 : Int), .int .u64 (wd x 2 : Int), .int .u64 (wd x 3 : Int)] 55, .blk p7 [.int .u64 0, .int .u64 0, .int .u64 0, .int .u64 0] 55, .blk p22 [.int .u64 (((wd x 0) * 2 ^ r % K : Nat) : Int), .int .u64 (((wd x 1) * 2 ^ r % K + (wd x 0) * 2 ^ r / K : Nat) : Int), .int .u64 (((wd x 2) * 2 ^ r % K + (wd x 1) * 2 ^ r / K : Nat) : Int), .int .u64 (((wd x 3) * 2 ^ r % K : Nat) : Int)] 55] w132 := H134
    refine GL.semU (j := 10) r133 [2, 4, 5, 6, 7, 8] [(2, pt p3 0), (4, pt p7 0), (5, pt p22 0), (6, .int .i64 0), (7, .int .i64 (r : Int)), (8, .int .i64 3)] (by kernel_rfl) rfl rfl rfl ?_
    refine GL.k rfl hK131 (fun _ _ h => h) ?_
    refine G.seqK fun K135 hK136 => ?_
    refine G.region ?_
    refine GL.run (j := 7) 7 [2, 4, 5, 6, 7, 8, 48] [(2, pt p3 0), (4, pt p7 0), (5, pt p22 0), (6, .int .i64 0), (7, .int .i64 (r : Int)), (8, .int .i64 3), (48, .bool (decide (0 < (r : Int))))] (by kernel_rfl) rfl ?_
    refine GL.k rfl hK136 (fun _ _ h => h) ?_
    have hb137 : (decide (0 < (r : Int))) = true := by assumption
    rw [hb137]
    refine G.yes rfl ?_
    refine G.tail 14 (by kernel_rfl) (by kernel_rfl) ?_
    have H138 := H134.drew
    generalize ({ w132 with drawn := w132.drawn + 1 } : World) = w139 at H138 ⊢
    refine GS.run (j := 2) 2 [2, 4, 5, 6, 7, 8, 49, 50] [(2, pt p3 0), (4, pt p7 0), (5, pt p22 0), (6, .int .i64 0), (7, .int .i64 (r : Int)), (8, .int .i64 3), (49, .int .i64 3), (50, pt p22 3)] (by kernel_rfl) rfl rfl ?_
    refine GS.sem (j := 3) (H138.ld (o := 3) (ty := 22) (v := .int .u64 (((wd x 3) * 2 ^ r % K : Nat) : Int)) 2 rfl (by kernel_rfl) rfl) [2, 4, 5, 6, 7, 8, 49, 51] [(2, pt p3 0), (4, pt p7 0), (5, pt p22 0), (6, .int .i64 0), (7, .int .i64 (r : Int)), (8, .int .i64 3), (49, .int .i64 3), (51, .int .u64 (((wd x 3) * 2 ^ r % K : Nat) : Int))] (by kernel_rfl) (by kernel_rfl) rfl rfl ?_
    refine GS.run (j := 8) 5 [2, 4, 5, 6, 7, 8, 49, 51, 56] [(2, pt p3 0), (4, pt p7 0), (5, pt p22 0), (6, .int .i64 0), (7, .int .i64 (r : Int)), (8, .int .i64 3), (49, .int .i64 3), (51, .int .u64 (((wd x 3) * 2 ^ r % K : Nat) : Int)), (56, pt p3 2)] (by kernel_rfl) rfl rfl ?_
    refine GS.sem (j := 9) (H138.ld (o := 2) (ty := 22) (v := .int .u64 (wd x 2 : Int)) 0 rfl (by kernel_rfl) rfl) [2, 4, 5, 6, 7, 8, 49, 51, 57] [(2, pt p3 0), (4, pt p7 0), (5, pt p22 0), (6, .int .i64 0), (7, .int .i64 (r : Int)), (8, .int .i64 3), (49, .int .i64 3), (51, .int .u64 (((wd x 3) * 2 ^ r % K : Nat) : Int)), (57, .int .u64 (wd x 2 : Int))] (by kernel_rfl) (by kernel_rfl) rfl rfl ?_
    refine GS.run (j := 11) 2 [2, 4, 5, 6, 7, 8, 49, 51, 57, 59] [(2, pt p3 0), (4, pt p7 0), (5, pt p22 0), (6, .int .i64 0), (7, .int .i64 (r : Int)), (8, .int .i64 3), (49, .int .i64 3), (51, .int .u64 (((wd x 3) * 2 ^ r % K : Nat) : Int)), (57, .int .u64 (wd x 2 : Int)), (59, .int .i64 (IntKind.i64.wrap (64 - (r : Int))))] (by kernel_rfl) rfl rfl ?_
    have e140 : (IntKind.i64.wrap (64 - (r : Int))) = ((64 - r : Nat) : Int) := by rw [in_i64 (by omega)]; omega
    refine GS.eq (M' := [(2, pt p3 0), (4, pt p7 0), (5, pt p22 0), (6, .int .i64 0), (7, .int .i64 (r : Int)), (8, .int .i64 3), (49, .int .i64 3), (51, .int .u64 (((wd x 3) * 2 ^ r % K : Nat) : Int)), (57, .int .u64 (wd x 2 : Int)), (59, .int .i64 ((64 - r : Nat) : Int))]) (by rw [e140]) ?_
    clear e140
    refine GS.sem (j := 12) (run_shrN (P := Try.prog) (k' := .i64) (t := 22) (a := (wd x 2)) (r := (64 - r)) (by omega) _) [2, 4, 5, 6, 7, 8, 49, 51, 60] [(2, pt p3 0), (4, pt p7 0), (5, pt p22 0), (6, .int .i64 0), (7, .int .i64 (r : Int)), (8, .int .i64 3), (49, .int .i64 3), (51, .int .u64 (((wd x 3) * 2 ^ r % K : Nat) : Int)), (60, .int .u64 (((wd x 2) / 2 ^ (64 - r) : Nat) : Int))] (by kernel_rfl) (by kernel_rfl) rfl rfl ?_
    refine GS.run (j := 14) 2 [2, 4, 5, 6, 7, 8, 61, 62] [(2, pt p3 0), (4, pt p7 0), (5, pt p22 0), (6, .int .i64 0), (7, .int .i64 (r : Int)), (8, .int .i64 3), (61, .int .u64 (Go.bits .or .u64 (((wd x 3) * 2 ^ r % K : Nat) : Int) (((wd x 2) / 2 ^ (64 - r) : Nat) : Int))), (62, pt p22 3)] (by kernel_rfl) rfl rfl ?_
    have e141 : (Go.bits .or .u64 (((wd x 3) * 2 ^ r % K : Nat) : Int) (((wd x 2) / 2 ^ (64 - r) : Nat) : Int)) = (((wd x 3) * 2 ^ r % K + (wd x 2) * 2 ^ r / K : Nat) : Int) := or_shift (wd_lt _ _) (by omega)
    refine GS.eq (M' := [(2, pt p3 0), (4, pt p7 0), (5, pt p22 0), (6, .int .i64 0), (7, .int .i64 (r : Int)), (8, .int .i64 3), (61, .int .u64 (((wd x 3) * 2 ^ r % K + (wd x 2) * 2 ^ r / K : Nat) : Int)), (62, pt p22 3)]) (by rw [e141]) ?_
    clear e141
    refine GS.tail rfl ?_
    obtain ⟨w142, r143, H144⟩ := H138.st (P := Try.prog) (o := 3) (ty := 22) (v := .int .u64 (((wd x 3) * 2 ^ r % K + (wd x 2) * 2 ^ r / K : Nat) : Int)) 2 rfl (by kernel_rfl) (by simp) rfl
    have H144 : Hp w [] [.blk p3 [.int .u64 (wd x 0 : Int), .int .u64 (wd x 1 : Int), .int .u64 (wd x 2 : Int), .int .u64 (wd x 3 : Int)] 55, .blk p7 [.int .u64 0, .int .u64 0, .int .u64 0, .int .u64 0] 55, .blk p22 [.int .u64 (((wd x 0) * 2 ^ r % K : Nat) : Int), .int .u64 (((wd x 1) * 2 ^ r % K + (wd x 0) * 2 ^ r / K : Nat) : Int), .int .u64 (((wd x 2) * 2 ^ r % K + (wd x 1) * 2 ^ r / K : Nat) : Int), .int .u64 (((wd x 3) * 2 ^ r % K + (wd x 2) * 2 ^ r / K : Nat) : Int)] 55] w142 := H144
    refine GL.semU (j := 15) r143 [2, 4, 5, 6, 7, 8] [(2, pt p3 0), (4, pt p7 0), (5, pt p22 0), (6, .int .i64 0), (7, .int .i64 (r : Int)), (8, .int .i64 3)] (by kernel_rfl) rfl rfl rfl ?_
    refine GL.k rfl hK129 (fun _ _ h => h) ?_
    refine G.region ?_
    refine GL.run (j := 3) 3 [2, 4, 5, 6, 7, 8] [(2, pt p3 0), (4, pt p7 0), (5, pt p22 0), (6, .int .i64 0), (7, .int .i64 (r : Int)), (8, .int .i64 4)] (by kernel_rfl) rfl ?_
    refine GL.round rfl ?_
    refine G.seqK fun K145 hK146 => ?_
    refine G.seqK fun K147 hK148 => ?_
    refine G.region ?_
    refine GL.run (j := 2) 2 [2, 4, 5, 6, 7, 8, 30] [(2, pt p3 0), (4, pt p7 0), (5, pt p22 0), (6, .int .i64 0), (7, .int .i64 (r : Int)), (8, .int .i64 4), (30, .bool false)] (by kernel_rfl) rfl ?_
    refine GL.k rfl hK148 (fun _ _ h => h) ?_
    refine G.no rfl ?_
    refine G.exitK hK29 (fun _ _ h => h) ?_
    refine G.seqK fun K149 hK150 => ?_
    refine G.region ?_
    refine GL.sem (j := 1) (H144.ldA (o := 0) (ty := 55) (m := 4) (sub := [.int .u64 (((wd x 0) * 2 ^ r % K : Nat) : Int), .int .u64 (((wd x 1) * 2 ^ r % K + (wd x 0) * 2 ^ r / K : Nat) : Int), .int .u64 (((wd x 2) * 2 ^ r % K + (wd x 1) * 2 ^ r / K : Nat) : Int), .int .u64 (((wd x 3) * 2 ^ r % K + (wd x 2) * 2 ^ r / K : Nat) : Int)]) 2 rfl (by kernel_rfl) rfl rfl) [4, 63] [(4, pt p7 0), (63, .agg #[.int .u64 (((wd x 0) * 2 ^ r % K : Nat) : Int), .int .u64 (((wd x 1) * 2 ^ r % K + (wd x 0) * 2 ^ r / K : Nat) : Int), .int .u64 (((wd x 2) * 2 ^ r % K + (wd x 1) * 2 ^ r / K : Nat) : Int), .int .u64 (((wd x 3) * 2 ^ r % K + (wd x 2) * 2 ^ r / K : Nat) : Int)])] (by kernel_rfl) (by kernel_rfl) rfl ?_
    obtain ⟨w151, r152, H153⟩ := H144.stA (P := Try.prog) (o := 0) (vs := [.int .u64 (((wd x 0) * 2 ^ r % K : Nat) : Int), .int .u64 (((wd x 1) * 2 ^ r % K + (wd x 0) * 2 ^ r / K : Nat) : Int), .int .u64 (((wd x 2) * 2 ^ r % K + (wd x 1) * 2 ^ r / K : Nat) : Int), .int .u64 (((wd x 3) * 2 ^ r % K + (wd x 2) * 2 ^ r / K : Nat) : Int)]) (ty := 55) (m := 4) 1 rfl (by kernel_rfl) rfl (by simp) (by simp [Value.oneCell'])
    have H153 : Hp w [] [.blk p3 [.int .u64 (wd x 0 : Int), .int .u64 (wd x 1 : Int), .int .u64 (wd x 2 : Int), .int .u64 (wd x 3 : Int)] 55, .blk p7 [.int .u64 (((wd x 0) * 2 ^ r % K : Nat) : Int), .int .u64 (((wd x 1) * 2 ^ r % K + (wd x 0) * 2 ^ r / K : Nat) : Int), .int .u64 (((wd x 2) * 2 ^ r % K + (wd x 1) * 2 ^ r / K : Nat) : Int), .int .u64 (((wd x 3) * 2 ^ r % K + (wd x 2) * 2 ^ r / K : Nat) : Int)] 55, .blk p22 [.int .u64 (((wd x 0) * 2 ^ r % K : Nat) : Int), .int .u64 (((wd x 1) * 2 ^ r % K + (wd x 0) * 2 ^ r / K : Nat) : Int), .int .u64 (((wd x 2) * 2 ^ r % K + (wd x 1) * 2 ^ r / K : Nat) : Int), .int .u64 (((wd x 3) * 2 ^ r % K + (wd x 2) * 2 ^ r / K : Nat) : Int)] 55] w151 := H153
    refine GL.semU (j := 2) r152 [4] [(4, pt p7 0)] (by kernel_rfl) rfl rfl rfl ?_
    refine GL.k rfl hK150 (fun _ _ h => h) ?_
    refine G.ret ?_
    intro F_ hF_ hM_
    refine hRet _ _ (bodyPost_1 rfl (RV.cell rfl (H153.ldA (o := 0) (ty := 55) (m := 4) (sub := [.int .u64 (((wd x 0) * 2 ^ r % K : Nat) : Int), .int .u64 (((wd x 1) * 2 ^ r % K + (wd x 0) * 2 ^ r / K : Nat) : Int), .int .u64 (((wd x 2) * 2 ^ r % K + (wd x 1) * 2 ^ r / K : Nat) : Int), .int .u64 (((wd x 3) * 2 ^ r % K + (wd x 2) * 2 ^ r / K : Nat) : Int)]) 1 rfl (by kernel_rfl) rfl rfl)) ?_ F_ hF_ hM_)
    rw [← left_fin0 hx (show r ≤ 64 by omega)]
    exact ⟨rfl, H153.sub (List.nil_sublist _)⟩
end Go.Proofs.Ytljfofnpjmlobaa
