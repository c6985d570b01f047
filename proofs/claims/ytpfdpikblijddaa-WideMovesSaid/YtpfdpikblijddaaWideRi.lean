/- Wide numbers moved down by any number of bits, and the other way. -/
import Derived.Test.YtpfdpikblijddaaWideLe
namespace Go.Proofs.Ytpfdpikblijddaa
open Go.RowKit
theorem Right_q0 (x r : Nat) (hx : x < K4) (hr : r < 64) (w : World) : Calls Try.prog 20 #[wv x, .int .i64 ((64 * 0 + r : Nat) : Int)] w fun e w' => e = .returned (wv (x / 2 ^ (64 * 0 + r))) ∧ Hp w [] [] w' := by
  refine calls_G (args := [wv x, .int .i64 ((64 * 0 + r : Nat) : Int)]) Try.func20 rfl Try.ntmps20 rfl ?_
  intro Q0 hRet hNor hPan
  have H := Hp.start w
  have H : Hp w [] [] w := H
  refine G.seqK fun K1 hK2 => ?_
  refine G.region ?_
  obtain ⟨p3, w4, r5, H6⟩ := H.box (P := Try.prog) 24 (wl x) (wv x) rfl
  have H6 : Hp w [] [.blk p3 (wl x) 24] w4 := H6
  refine GL.sem (j := 1) (r5) [1, 2] [(1, .int .i64 ((64 * 0 + r : Nat) : Int)), (2, pt p3 0)] (by kernel_rfl) (by kernel_rfl) rfl ?_
  obtain ⟨p7, w8, r9, H10⟩ := H6.alloc (P := Try.prog) 24 z4 (by kernel_rfl)
  have H10 : Hp w [] [.blk p3 (wl x) 24, .blk p7 z4 24] w8 := H10
  refine GL.sem (j := 2) (r9) [1, 2, 4] [(1, .int .i64 ((64 * 0 + r : Nat) : Int)), (2, pt p3 0), (4, pt p7 0)] (by kernel_rfl) (by kernel_rfl) rfl ?_
  refine GL.k rfl hK2 (fun _ _ h => h) ?_
  refine G.seqK fun K11 hK12 => ?_
  refine G.block ?_
  refine G.seqK fun K13 hK14 => ?_
  refine G.region ?_
  refine GL.run (j := 3) 3 [1, 2, 4, 12] [(1, .int .i64 ((64 * 0 + r : Nat) : Int)), (2, pt p3 0), (4, pt p7 0), (12, .bool (decide (((64 * 0 + r : Nat) : Int) ≤ (-256))))] (by kernel_rfl) rfl ?_
  have hb15 : (decide (((64 * 0 + r : Nat) : Int) ≤ (-256))) = false := decide_eq_false (by omega)
  rw [hb15]
  refine GL.run (j := 7) 4 [1, 2, 4, 9] [(1, .int .i64 ((64 * 0 + r : Nat) : Int)), (2, pt p3 0), (4, pt p7 0), (9, .bool (decide (256 ≤ ((64 * 0 + r : Nat) : Int))))] (by kernel_rfl) rfl ?_
  refine GL.k rfl hK14 (fun _ _ h => h) ?_
  have hb16 : (decide (256 ≤ ((64 * 0 + r : Nat) : Int))) = false := decide_eq_false (by omega)
  rw [hb16]
  refine G.no rfl ?_
  refine G.seqK fun K17 hK18 => ?_
  refine G.region ?_
  refine GL.run (j := 3) 3 [1, 2, 4, 17] [(1, .int .i64 ((64 * 0 + r : Nat) : Int)), (2, pt p3 0), (4, pt p7 0), (17, .bool (decide (((64 * 0 + r : Nat) : Int) < 0)))] (by kernel_rfl) rfl ?_
  refine GL.k rfl hK18 (fun _ _ h => h) ?_
  have hb19 : (decide (((64 * 0 + r : Nat) : Int) < 0)) = false := decide_eq_false (by omega)
  rw [hb19]
  refine G.no rfl ?_
  refine G.skipK hK12 (fun _ _ h => h) ?_
  refine G.seqK fun K20 hK21 => ?_
  refine G.region ?_
  obtain ⟨p22, w23, r24, H25⟩ := H10.alloc (P := Try.prog) 24 z4 (by kernel_rfl)
  have H25 : Hp w [] [.blk p3 (wl x) 24, .blk p7 z4 24, .blk p22 z4 24] w23 := H25
  refine GL.sem (j := 1) (r24) [1, 2, 4, 5] [(1, .int .i64 ((64 * 0 + r : Nat) : Int)), (2, pt p3 0), (4, pt p7 0), (5, pt p22 0)] (by kernel_rfl) (by kernel_rfl) rfl ?_
  refine GL.k rfl hK21 (fun _ _ h => h) ?_
  refine G.seqK fun K26 hK27 => ?_
  refine G.region ?_
  refine GL.run (j := 1) 1 [1, 2, 4, 5, 24] [(1, .int .i64 ((64 * 0 + r : Nat) : Int)), (2, pt p3 0), (4, pt p7 0), (5, pt p22 0), (24, .int .i64 ((64 * 0 + r : Nat) : Int))] (by kernel_rfl) rfl ?_
  refine GL.sem (j := 2) (run_quo64 (P := Try.prog) (t := 3) (n := (64 * 0 + r)) (q := 0) (r := r) (by omega) hr (by omega) _) [1, 2, 4, 5, 25] [(1, .int .i64 ((64 * 0 + r : Nat) : Int)), (2, pt p3 0), (4, pt p7 0), (5, pt p22 0), (25, .int .i64 0)] (by kernel_rfl) (by kernel_rfl) rfl ?_
  refine GL.run (j := 3) 1 [2, 4, 5, 25, 26] [(2, pt p3 0), (4, pt p7 0), (5, pt p22 0), (25, .int .i64 0), (26, .int .i64 ((64 * 0 + r : Nat) : Int))] (by kernel_rfl) rfl ?_
  refine GL.sem (j := 4) (run_rem64 (P := Try.prog) (t := 3) (n := (64 * 0 + r)) (q := 0) (r := r) (by omega) hr _) [2, 4, 5, 25, 27] [(2, pt p3 0), (4, pt p7 0), (5, pt p22 0), (25, .int .i64 0), (27, .int .i64 (r : Int))] (by kernel_rfl) (by kernel_rfl) rfl ?_
  refine GL.run (j := 6) 2 [2, 4, 5, 6, 7] [(2, pt p3 0), (4, pt p7 0), (5, pt p22 0), (6, .int .i64 0), (7, .int .i64 (r : Int))] (by kernel_rfl) rfl ?_
  refine GL.k rfl hK27 (fun _ _ h => h) ?_
  refine G.seqK fun K28 hK29 => ?_
  refine G.seqK fun K30 hK31 => ?_
  refine G.region ?_
  refine GL.run (j := 1) 1 [2, 4, 5, 6, 7, 8] [(2, pt p3 0), (4, pt p7 0), (5, pt p22 0), (6, .int .i64 0), (7, .int .i64 (r : Int)), (8, .int .i64 0)] (by kernel_rfl) rfl ?_
  refine GL.k rfl hK31 (fun _ _ h => h) ?_
  refine G.block ?_
  refine G.unroll 5 ?_
  refine G.seqK fun K32 hK33 => ?_
  refine G.seqK fun K34 hK35 => ?_
  refine G.region ?_
  refine GL.run (j := 4) 4 [2, 4, 5, 6, 7, 8, 31] [(2, pt p3 0), (4, pt p7 0), (5, pt p22 0), (6, .int .i64 0), (7, .int .i64 (r : Int)), (8, .int .i64 0), (31, .bool true)] (by kernel_rfl) rfl ?_
  refine GL.k rfl hK35 (fun _ _ h => h) ?_
  refine G.yes rfl ?_
  refine G.skipK hK33 (fun _ _ h => h) ?_
  refine G.seqK fun K36 hK37 => ?_
  refine G.block ?_
  refine G.seqK fun K38 hK39 => ?_
  refine G.region ?_
  refine GL.run (j := 5) 5 [2, 4, 5, 6, 7, 8, 34, 38] [(2, pt p3 0), (4, pt p7 0), (5, pt p22 0), (6, .int .i64 0), (7, .int .i64 (r : Int)), (8, .int .i64 0), (34, .int .i64 0), (38, pt p3 0)] (by kernel_rfl) rfl ?_
  refine GL.sem (j := 6) (H25.ld (o := 0) (ty := 22) (v := .int .u64 (wd x 0 : Int)) 0 rfl (by kernel_rfl) rfl) [2, 4, 5, 6, 7, 8, 34, 39] [(2, pt p3 0), (4, pt p7 0), (5, pt p22 0), (6, .int .i64 0), (7, .int .i64 (r : Int)), (8, .int .i64 0), (34, .int .i64 0), (39, .int .u64 (wd x 0 : Int))] (by kernel_rfl) (by kernel_rfl) rfl ?_
  refine GL.run (j := 7) 1 [2, 4, 5, 6, 7, 8, 34, 39, 40] [(2, pt p3 0), (4, pt p7 0), (5, pt p22 0), (6, .int .i64 0), (7, .int .i64 (r : Int)), (8, .int .i64 0), (34, .int .i64 0), (39, .int .u64 (wd x 0 : Int)), (40, .int .i64 (r : Int))] (by kernel_rfl) rfl ?_
  refine GL.sem (j := 8) (run_shrN (P := Try.prog) (k' := .i64) (t := 22) (a := (wd x 0)) (r := r) (by omega) _) [2, 4, 5, 6, 7, 8, 34, 41] [(2, pt p3 0), (4, pt p7 0), (5, pt p22 0), (6, .int .i64 0), (7, .int .i64 (r : Int)), (8, .int .i64 0), (34, .int .i64 0), (41, .int .u64 (((wd x 0) / 2 ^ r : Nat) : Int))] (by kernel_rfl) (by kernel_rfl) rfl ?_
  refine GL.run (j := 9) 1 [2, 4, 5, 6, 7, 8, 41, 42] [(2, pt p3 0), (4, pt p7 0), (5, pt p22 0), (6, .int .i64 0), (7, .int .i64 (r : Int)), (8, .int .i64 0), (41, .int .u64 (((wd x 0) / 2 ^ r : Nat) : Int)), (42, pt p22 0)] (by kernel_rfl) rfl ?_
  obtain ⟨w40, r41, H42⟩ := H25.st (P := Try.prog) (o := 0) (ty := 22) (v := .int .u64 (((wd x 0) / 2 ^ r : Nat) : Int)) 2 rfl (by kernel_rfl) (by decide) rfl
  have H42 : Hp w [] [.blk p3 (wl x) 24, .blk p7 z4 24, .blk p22 [.int .u64 (((wd x 0) / 2 ^ r : Nat) : Int), .int .u64 0, .int .u64 0, .int .u64 0] 24] w40 := H42
  refine GL.semU (j := 10) r41 [2, 4, 5, 6, 7, 8] [(2, pt p3 0), (4, pt p7 0), (5, pt p22 0), (6, .int .i64 0), (7, .int .i64 (r : Int)), (8, .int .i64 0)] (by kernel_rfl) rfl rfl rfl ?_
  refine GL.k rfl hK39 (fun _ _ h => h) ?_
  refine G.seqK fun K43 hK44 => ?_
  refine G.region ?_
  refine GL.run (j := 9) 9 [2, 4, 5, 6, 7, 8, 51] [(2, pt p3 0), (4, pt p7 0), (5, pt p22 0), (6, .int .i64 0), (7, .int .i64 (r : Int)), (8, .int .i64 0), (51, .bool (decide (0 < (r : Int))))] (by kernel_rfl) rfl ?_
  refine GL.k rfl hK44 (fun _ _ h => h) ?_
  cases hb45 : (decide (0 < (r : Int)))
  · skip
    have hb45f := of_decide_eq_false hb45
    refine G.no rfl ?_
    refine G.skipK hK37 (fun _ _ h => h) ?_
    refine G.region ?_
    refine GL.run (j := 3) 3 [2, 4, 5, 6, 7, 8] [(2, pt p3 0), (4, pt p7 0), (5, pt p22 0), (6, .int .i64 0), (7, .int .i64 (r : Int)), (8, .int .i64 1)] (by kernel_rfl) rfl ?_
    refine GL.round rfl ?_
    refine G.seqK fun K46 hK47 => ?_
    refine G.seqK fun K48 hK49 => ?_
    refine G.region ?_
    refine GL.run (j := 4) 4 [2, 4, 5, 6, 7, 8, 31] [(2, pt p3 0), (4, pt p7 0), (5, pt p22 0), (6, .int .i64 0), (7, .int .i64 (r : Int)), (8, .int .i64 1), (31, .bool true)] (by kernel_rfl) rfl ?_
    refine GL.k rfl hK49 (fun _ _ h => h) ?_
    refine G.yes rfl ?_
    refine G.skipK hK47 (fun _ _ h => h) ?_
    refine G.seqK fun K50 hK51 => ?_
    refine G.block ?_
    refine G.seqK fun K52 hK53 => ?_
    refine G.region ?_
    refine GL.run (j := 5) 5 [2, 4, 5, 6, 7, 8, 34, 38] [(2, pt p3 0), (4, pt p7 0), (5, pt p22 0), (6, .int .i64 0), (7, .int .i64 (r : Int)), (8, .int .i64 1), (34, .int .i64 1), (38, pt p3 1)] (by kernel_rfl) rfl ?_
    refine GL.sem (j := 6) (H42.ld (o := 1) (ty := 22) (v := .int .u64 (wd x 1 : Int)) 0 rfl (by kernel_rfl) rfl) [2, 4, 5, 6, 7, 8, 34, 39] [(2, pt p3 0), (4, pt p7 0), (5, pt p22 0), (6, .int .i64 0), (7, .int .i64 (r : Int)), (8, .int .i64 1), (34, .int .i64 1), (39, .int .u64 (wd x 1 : Int))] (by kernel_rfl) (by kernel_rfl) rfl ?_
    refine GL.run (j := 7) 1 [2, 4, 5, 6, 7, 8, 34, 39, 40] [(2, pt p3 0), (4, pt p7 0), (5, pt p22 0), (6, .int .i64 0), (7, .int .i64 (r : Int)), (8, .int .i64 1), (34, .int .i64 1), (39, .int .u64 (wd x 1 : Int)), (40, .int .i64 (r : Int))] (by kernel_rfl) rfl ?_
    refine GL.sem (j := 8) (run_shrN (P := Try.prog) (k' := .i64) (t := 22) (a := (wd x 1)) (r := r) (by omega) _) [2, 4, 5, 6, 7, 8, 34, 41] [(2, pt p3 0), (4, pt p7 0), (5, pt p22 0), (6, .int .i64 0), (7, .int .i64 (r : Int)), (8, .int .i64 1), (34, .int .i64 1), (41, .int .u64 (((wd x 1) / 2 ^ r : Nat) : Int))] (by kernel_rfl) (by kernel_rfl) rfl ?_
    refine GL.run (j := 9) 1 [2, 4, 5, 6, 7, 8, 41, 42] [(2, pt p3 0), (4, pt p7 0), (5, pt p22 0), (6, .int .i64 0), (7, .int .i64 (r : Int)), (8, .int .i64 1), (41, .int .u64 (((wd x 1) / 2 ^ r : Nat) : Int)), (42, pt p22 1)] (by kernel_rfl) rfl ?_
    obtain ⟨w54, r55, H56⟩ := H42.st (P := Try.prog) (o := 1) (ty := 22) (v := .int .u64 (((wd x 1) / 2 ^ r : Nat) : Int)) 2 rfl (by kernel_rfl) (by simp) rfl
    have H56 : Hp w [] [.blk p3 (wl x) 24, .blk p7 z4 24, .blk p22 [.int .u64 (((wd x 0) / 2 ^ r : Nat) : Int), .int .u64 (((wd x 1) / 2 ^ r : Nat) : Int), .int .u64 0, .int .u64 0] 24] w54 := H56
    refine GL.semU (j := 10) r55 [2, 4, 5, 6, 7, 8] [(2, pt p3 0), (4, pt p7 0), (5, pt p22 0), (6, .int .i64 0), (7, .int .i64 (r : Int)), (8, .int .i64 1)] (by kernel_rfl) rfl rfl rfl ?_
    refine GL.k rfl hK53 (fun _ _ h => h) ?_
    refine G.seqK fun K57 hK58 => ?_
    refine G.region ?_
    refine GL.run (j := 9) 9 [2, 4, 5, 6, 7, 8, 51] [(2, pt p3 0), (4, pt p7 0), (5, pt p22 0), (6, .int .i64 0), (7, .int .i64 (r : Int)), (8, .int .i64 1), (51, .bool (decide (0 < (r : Int))))] (by kernel_rfl) rfl ?_
    refine GL.k rfl hK58 (fun _ _ h => h) ?_
    have hb59 : (decide (0 < (r : Int))) = false := by assumption
    rw [hb59]
    refine G.no rfl ?_
    refine G.skipK hK51 (fun _ _ h => h) ?_
    refine G.region ?_
    refine GL.run (j := 3) 3 [2, 4, 5, 6, 7, 8] [(2, pt p3 0), (4, pt p7 0), (5, pt p22 0), (6, .int .i64 0), (7, .int .i64 (r : Int)), (8, .int .i64 2)] (by kernel_rfl) rfl ?_
    refine GL.round rfl ?_
    refine G.seqK fun K60 hK61 => ?_
    refine G.seqK fun K62 hK63 => ?_
    refine G.region ?_
    refine GL.run (j := 4) 4 [2, 4, 5, 6, 7, 8, 31] [(2, pt p3 0), (4, pt p7 0), (5, pt p22 0), (6, .int .i64 0), (7, .int .i64 (r : Int)), (8, .int .i64 2), (31, .bool true)] (by kernel_rfl) rfl ?_
    refine GL.k rfl hK63 (fun _ _ h => h) ?_
    refine G.yes rfl ?_
    refine G.skipK hK61 (fun _ _ h => h) ?_
    refine G.seqK fun K64 hK65 => ?_
    refine G.block ?_
    refine G.seqK fun K66 hK67 => ?_
    refine G.region ?_
    refine GL.run (j := 5) 5 [2, 4, 5, 6, 7, 8, 34, 38] [(2, pt p3 0), (4, pt p7 0), (5, pt p22 0), (6, .int .i64 0), (7, .int .i64 (r : Int)), (8, .int .i64 2), (34, .int .i64 2), (38, pt p3 2)] (by kernel_rfl) rfl ?_
    refine GL.sem (j := 6) (H56.ld (o := 2) (ty := 22) (v := .int .u64 (wd x 2 : Int)) 0 rfl (by kernel_rfl) rfl) [2, 4, 5, 6, 7, 8, 34, 39] [(2, pt p3 0), (4, pt p7 0), (5, pt p22 0), (6, .int .i64 0), (7, .int .i64 (r : Int)), (8, .int .i64 2), (34, .int .i64 2), (39, .int .u64 (wd x 2 : Int))] (by kernel_rfl) (by kernel_rfl) rfl ?_
    refine GL.run (j := 7) 1 [2, 4, 5, 6, 7, 8, 34, 39, 40] [(2, pt p3 0), (4, pt p7 0), (5, pt p22 0), (6, .int .i64 0), (7, .int .i64 (r : Int)), (8, .int .i64 2), (34, .int .i64 2), (39, .int .u64 (wd x 2 : Int)), (40, .int .i64 (r : Int))] (by kernel_rfl) rfl ?_
    refine GL.sem (j := 8) (run_shrN (P := Try.prog) (k' := .i64) (t := 22) (a := (wd x 2)) (r := r) (by omega) _) [2, 4, 5, 6, 7, 8, 34, 41] [(2, pt p3 0), (4, pt p7 0), (5, pt p22 0), (6, .int .i64 0), (7, .int .i64 (r : Int)), (8, .int .i64 2), (34, .int .i64 2), (41, .int .u64 (((wd x 2) / 2 ^ r : Nat) : Int))] (by kernel_rfl) (by kernel_rfl) rfl ?_
    refine GL.run (j := 9) 1 [2, 4, 5, 6, 7, 8, 41, 42] [(2, pt p3 0), (4, pt p7 0), (5, pt p22 0), (6, .int .i64 0), (7, .int .i64 (r : Int)), (8, .int .i64 2), (41, .int .u64 (((wd x 2) / 2 ^ r : Nat) : Int)), (42, pt p22 2)] (by kernel_rfl) rfl ?_
    obtain ⟨w68, r69, H70⟩ := H56.st (P := Try.prog) (o := 2) (ty := 22) (v := .int .u64 (((wd x 2) / 2 ^ r : Nat) : Int)) 2 rfl (by kernel_rfl) (by simp) rfl
    have H70 : Hp w [] [.blk p3 (wl x) 24, .blk p7 z4 24, .blk p22 [.int .u64 (((wd x 0) / 2 ^ r : Nat) : Int), .int .u64 (((wd x 1) / 2 ^ r : Nat) : Int), .int .u64 (((wd x 2) / 2 ^ r : Nat) : Int), .int .u64 0] 24] w68 := H70
    refine GL.semU (j := 10) r69 [2, 4, 5, 6, 7, 8] [(2, pt p3 0), (4, pt p7 0), (5, pt p22 0), (6, .int .i64 0), (7, .int .i64 (r : Int)), (8, .int .i64 2)] (by kernel_rfl) rfl rfl rfl ?_
    refine GL.k rfl hK67 (fun _ _ h => h) ?_
    refine G.seqK fun K71 hK72 => ?_
    refine G.region ?_
    refine GL.run (j := 9) 9 [2, 4, 5, 6, 7, 8, 51] [(2, pt p3 0), (4, pt p7 0), (5, pt p22 0), (6, .int .i64 0), (7, .int .i64 (r : Int)), (8, .int .i64 2), (51, .bool (decide (0 < (r : Int))))] (by kernel_rfl) rfl ?_
    refine GL.k rfl hK72 (fun _ _ h => h) ?_
    have hb73 : (decide (0 < (r : Int))) = false := by assumption
    rw [hb73]
    refine G.no rfl ?_
    refine G.skipK hK65 (fun _ _ h => h) ?_
    refine G.region ?_
    refine GL.run (j := 3) 3 [2, 4, 5, 6, 7, 8] [(2, pt p3 0), (4, pt p7 0), (5, pt p22 0), (6, .int .i64 0), (7, .int .i64 (r : Int)), (8, .int .i64 3)] (by kernel_rfl) rfl ?_
    refine GL.round rfl ?_
    refine G.seqK fun K74 hK75 => ?_
    refine G.seqK fun K76 hK77 => ?_
    refine G.region ?_
    refine GL.run (j := 4) 4 [2, 4, 5, 6, 7, 8, 31] [(2, pt p3 0), (4, pt p7 0), (5, pt p22 0), (6, .int .i64 0), (7, .int .i64 (r : Int)), (8, .int .i64 3), (31, .bool true)] (by kernel_rfl) rfl ?_
    refine GL.k rfl hK77 (fun _ _ h => h) ?_
    refine G.yes rfl ?_
    refine G.skipK hK75 (fun _ _ h => h) ?_
    refine G.seqK fun K78 hK79 => ?_
    refine G.block ?_
    refine G.seqK fun K80 hK81 => ?_
    refine G.region ?_
    refine GL.run (j := 5) 5 [2, 4, 5, 6, 7, 8, 34, 38] [(2, pt p3 0), (4, pt p7 0), (5, pt p22 0), (6, .int .i64 0), (7, .int .i64 (r : Int)), (8, .int .i64 3), (34, .int .i64 3), (38, pt p3 3)] (by kernel_rfl) rfl ?_
    refine GL.sem (j := 6) (H70.ld (o := 3) (ty := 22) (v := .int .u64 (wd x 3 : Int)) 0 rfl (by kernel_rfl) rfl) [2, 4, 5, 6, 7, 8, 34, 39] [(2, pt p3 0), (4, pt p7 0), (5, pt p22 0), (6, .int .i64 0), (7, .int .i64 (r : Int)), (8, .int .i64 3), (34, .int .i64 3), (39, .int .u64 (wd x 3 : Int))] (by kernel_rfl) (by kernel_rfl) rfl ?_
    refine GL.run (j := 7) 1 [2, 4, 5, 6, 7, 8, 34, 39, 40] [(2, pt p3 0), (4, pt p7 0), (5, pt p22 0), (6, .int .i64 0), (7, .int .i64 (r : Int)), (8, .int .i64 3), (34, .int .i64 3), (39, .int .u64 (wd x 3 : Int)), (40, .int .i64 (r : Int))] (by kernel_rfl) rfl ?_
    refine GL.sem (j := 8) (run_shrN (P := Try.prog) (k' := .i64) (t := 22) (a := (wd x 3)) (r := r) (by omega) _) [2, 4, 5, 6, 7, 8, 34, 41] [(2, pt p3 0), (4, pt p7 0), (5, pt p22 0), (6, .int .i64 0), (7, .int .i64 (r : Int)), (8, .int .i64 3), (34, .int .i64 3), (41, .int .u64 (((wd x 3) / 2 ^ r : Nat) : Int))] (by kernel_rfl) (by kernel_rfl) rfl ?_
    refine GL.run (j := 9) 1 [2, 4, 5, 6, 7, 8, 41, 42] [(2, pt p3 0), (4, pt p7 0), (5, pt p22 0), (6, .int .i64 0), (7, .int .i64 (r : Int)), (8, .int .i64 3), (41, .int .u64 (((wd x 3) / 2 ^ r : Nat) : Int)), (42, pt p22 3)] (by kernel_rfl) rfl ?_
    obtain ⟨w82, r83, H84⟩ := H70.st (P := Try.prog) (o := 3) (ty := 22) (v := .int .u64 (((wd x 3) / 2 ^ r : Nat) : Int)) 2 rfl (by kernel_rfl) (by simp) rfl
    have H84 : Hp w [] [.blk p3 (wl x) 24, .blk p7 z4 24, .blk p22 [.int .u64 (((wd x 0) / 2 ^ r : Nat) : Int), .int .u64 (((wd x 1) / 2 ^ r : Nat) : Int), .int .u64 (((wd x 2) / 2 ^ r : Nat) : Int), .int .u64 (((wd x 3) / 2 ^ r : Nat) : Int)] 24] w82 := H84
    refine GL.semU (j := 10) r83 [2, 4, 5, 6, 7, 8] [(2, pt p3 0), (4, pt p7 0), (5, pt p22 0), (6, .int .i64 0), (7, .int .i64 (r : Int)), (8, .int .i64 3)] (by kernel_rfl) rfl rfl rfl ?_
    refine GL.k rfl hK81 (fun _ _ h => h) ?_
    refine G.seqK fun K85 hK86 => ?_
    refine G.region ?_
    refine GL.run (j := 9) 9 [2, 4, 5, 6, 7, 8, 51] [(2, pt p3 0), (4, pt p7 0), (5, pt p22 0), (6, .int .i64 0), (7, .int .i64 (r : Int)), (8, .int .i64 3), (51, .bool false)] (by kernel_rfl) rfl ?_
    refine GL.k rfl hK86 (fun _ _ h => h) ?_
    refine G.no rfl ?_
    refine G.skipK hK79 (fun _ _ h => h) ?_
    refine G.region ?_
    refine GL.run (j := 3) 3 [2, 4, 5, 6, 7, 8] [(2, pt p3 0), (4, pt p7 0), (5, pt p22 0), (6, .int .i64 0), (7, .int .i64 (r : Int)), (8, .int .i64 4)] (by kernel_rfl) rfl ?_
    refine GL.round rfl ?_
    refine G.seqK fun K87 hK88 => ?_
    refine G.seqK fun K89 hK90 => ?_
    refine G.region ?_
    refine GL.run (j := 4) 4 [2, 4, 5, 6, 7, 8, 31] [(2, pt p3 0), (4, pt p7 0), (5, pt p22 0), (6, .int .i64 0), (7, .int .i64 (r : Int)), (8, .int .i64 4), (31, .bool false)] (by kernel_rfl) rfl ?_
    refine GL.k rfl hK90 (fun _ _ h => h) ?_
    refine G.no rfl ?_
    refine G.exitK hK29 (fun _ _ h => h) ?_
    refine G.seqK fun K91 hK92 => ?_
    refine G.region ?_
    refine GL.sem (j := 1) (H84.ldA (o := 0) (ty := 24) (m := 4) (sub := [.int .u64 (((wd x 0) / 2 ^ r : Nat) : Int), .int .u64 (((wd x 1) / 2 ^ r : Nat) : Int), .int .u64 (((wd x 2) / 2 ^ r : Nat) : Int), .int .u64 (((wd x 3) / 2 ^ r : Nat) : Int)]) 2 rfl (by kernel_rfl) rfl rfl) [4, 66] [(4, pt p7 0), (66, .agg #[.int .u64 (((wd x 0) / 2 ^ r : Nat) : Int), .int .u64 (((wd x 1) / 2 ^ r : Nat) : Int), .int .u64 (((wd x 2) / 2 ^ r : Nat) : Int), .int .u64 (((wd x 3) / 2 ^ r : Nat) : Int)])] (by kernel_rfl) (by kernel_rfl) rfl ?_
    obtain ⟨w93, r94, H95⟩ := H84.stA (P := Try.prog) (o := 0) (vs := [.int .u64 (((wd x 0) / 2 ^ r : Nat) : Int), .int .u64 (((wd x 1) / 2 ^ r : Nat) : Int), .int .u64 (((wd x 2) / 2 ^ r : Nat) : Int), .int .u64 (((wd x 3) / 2 ^ r : Nat) : Int)]) (ty := 24) (m := 4) 1 rfl (by kernel_rfl) rfl (by first | decide | simp) (by simp [Value.oneCell'])
    have H95 : Hp w [] [.blk p3 (wl x) 24, .blk p7 [.int .u64 (((wd x 0) / 2 ^ r : Nat) : Int), .int .u64 (((wd x 1) / 2 ^ r : Nat) : Int), .int .u64 (((wd x 2) / 2 ^ r : Nat) : Int), .int .u64 (((wd x 3) / 2 ^ r : Nat) : Int)] 24, .blk p22 [.int .u64 (((wd x 0) / 2 ^ r : Nat) : Int), .int .u64 (((wd x 1) / 2 ^ r : Nat) : Int), .int .u64 (((wd x 2) / 2 ^ r : Nat) : Int), .int .u64 (((wd x 3) / 2 ^ r : Nat) : Int)] 24] w93 := H95
    refine GL.semU (j := 2) r94 [4] [(4, pt p7 0)] (by kernel_rfl) rfl rfl rfl ?_
    refine GL.k rfl hK92 (fun _ _ h => h) ?_
    refine G.ret ?_
    intro F_ hF_ hM_
    refine hRet _ _ (bodyPost_1 rfl (RV.cell rfl (H95.ldA (o := 0) (ty := 24) (m := 4) (sub := [.int .u64 (((wd x 0) / 2 ^ r : Nat) : Int), .int .u64 (((wd x 1) / 2 ^ r : Nat) : Int), .int .u64 (((wd x 2) / 2 ^ r : Nat) : Int), .int .u64 (((wd x 3) / 2 ^ r : Nat) : Int)]) 1 rfl (by kernel_rfl) rfl rfl)) ?_ F_ hF_ hM_)
    rw [← right_fin0' hx (show r = 0 by omega)]
    exact ⟨rfl, H95.sub (List.nil_sublist _)⟩
  · skip
    have hb45f := of_decide_eq_true hb45
    refine G.yes rfl ?_
    refine G.tail 14 (by kernel_rfl) (by kernel_rfl) ?_
    have H96 := H42.drew
    generalize ({ w40 with drawn := w40.drawn + 1 } : World) = w97 at H96 ⊢
    refine GS.run (j := 2) 2 [2, 4, 5, 6, 7, 8, 52, 53] [(2, pt p3 0), (4, pt p7 0), (5, pt p22 0), (6, .int .i64 0), (7, .int .i64 (r : Int)), (8, .int .i64 0), (52, .int .i64 0), (53, pt p22 0)] (by kernel_rfl) rfl rfl ?_
    refine GS.sem (j := 3) (H96.ld (o := 0) (ty := 22) (v := .int .u64 (((wd x 0) / 2 ^ r : Nat) : Int)) 2 rfl (by kernel_rfl) rfl) [2, 4, 5, 6, 7, 8, 52, 54] [(2, pt p3 0), (4, pt p7 0), (5, pt p22 0), (6, .int .i64 0), (7, .int .i64 (r : Int)), (8, .int .i64 0), (52, .int .i64 0), (54, .int .u64 (((wd x 0) / 2 ^ r : Nat) : Int))] (by kernel_rfl) (by kernel_rfl) rfl rfl ?_
    refine GS.run (j := 8) 5 [2, 4, 5, 6, 7, 8, 52, 54, 59] [(2, pt p3 0), (4, pt p7 0), (5, pt p22 0), (6, .int .i64 0), (7, .int .i64 (r : Int)), (8, .int .i64 0), (52, .int .i64 0), (54, .int .u64 (((wd x 0) / 2 ^ r : Nat) : Int)), (59, pt p3 1)] (by kernel_rfl) rfl rfl ?_
    refine GS.sem (j := 9) (H96.ld (o := 1) (ty := 22) (v := .int .u64 (wd x 1 : Int)) 0 rfl (by kernel_rfl) rfl) [2, 4, 5, 6, 7, 8, 52, 54, 60] [(2, pt p3 0), (4, pt p7 0), (5, pt p22 0), (6, .int .i64 0), (7, .int .i64 (r : Int)), (8, .int .i64 0), (52, .int .i64 0), (54, .int .u64 (((wd x 0) / 2 ^ r : Nat) : Int)), (60, .int .u64 (wd x 1 : Int))] (by kernel_rfl) (by kernel_rfl) rfl rfl ?_
    refine GS.run (j := 11) 2 [2, 4, 5, 6, 7, 8, 52, 54, 60, 62] [(2, pt p3 0), (4, pt p7 0), (5, pt p22 0), (6, .int .i64 0), (7, .int .i64 (r : Int)), (8, .int .i64 0), (52, .int .i64 0), (54, .int .u64 (((wd x 0) / 2 ^ r : Nat) : Int)), (60, .int .u64 (wd x 1 : Int)), (62, .int .i64 (IntKind.i64.wrap (64 - (r : Int))))] (by kernel_rfl) rfl rfl ?_
    have e98 : (IntKind.i64.wrap (64 - (r : Int))) = ((64 - r : Nat) : Int) := by rw [in_i64 (by omega)]; omega
    refine GS.eq (M' := [(2, pt p3 0), (4, pt p7 0), (5, pt p22 0), (6, .int .i64 0), (7, .int .i64 (r : Int)), (8, .int .i64 0), (52, .int .i64 0), (54, .int .u64 (((wd x 0) / 2 ^ r : Nat) : Int)), (60, .int .u64 (wd x 1 : Int)), (62, .int .i64 ((64 - r : Nat) : Int))]) (by rw [e98]) ?_
    clear e98
    refine GS.sem (j := 12) (run_shlN (P := Try.prog) (k' := .i64) (t := 22) (a := (wd x 1)) (r := (64 - r)) (by omega) _) [2, 4, 5, 6, 7, 8, 52, 54, 63] [(2, pt p3 0), (4, pt p7 0), (5, pt p22 0), (6, .int .i64 0), (7, .int .i64 (r : Int)), (8, .int .i64 0), (52, .int .i64 0), (54, .int .u64 (((wd x 0) / 2 ^ r : Nat) : Int)), (63, .int .u64 (((wd x 1) * 2 ^ (64 - r) % K : Nat) : Int))] (by kernel_rfl) (by kernel_rfl) rfl rfl ?_
    refine GS.run (j := 14) 2 [2, 4, 5, 6, 7, 8, 64, 65] [(2, pt p3 0), (4, pt p7 0), (5, pt p22 0), (6, .int .i64 0), (7, .int .i64 (r : Int)), (8, .int .i64 0), (64, .int .u64 (Go.bits .or .u64 (((wd x 0) / 2 ^ r : Nat) : Int) (((wd x 1) * 2 ^ (64 - r) % K : Nat) : Int))), (65, pt p22 0)] (by kernel_rfl) rfl rfl ?_
    have e99 : (Go.bits .or .u64 (((wd x 0) / 2 ^ r : Nat) : Int) (((wd x 1) * 2 ^ (64 - r) % K : Nat) : Int)) = (((wd x 0) / 2 ^ r + (wd x 1) * 2 ^ (64 - r) % K : Nat) : Int) := or_shiftR (wd_lt _ _) (by omega)
    refine GS.eq (M' := [(2, pt p3 0), (4, pt p7 0), (5, pt p22 0), (6, .int .i64 0), (7, .int .i64 (r : Int)), (8, .int .i64 0), (64, .int .u64 (((wd x 0) / 2 ^ r + (wd x 1) * 2 ^ (64 - r) % K : Nat) : Int)), (65, pt p22 0)]) (by rw [e99]) ?_
    clear e99
    refine GS.tail rfl ?_
    obtain ⟨w100, r101, H102⟩ := H96.st (P := Try.prog) (o := 0) (ty := 22) (v := .int .u64 (((wd x 0) / 2 ^ r + (wd x 1) * 2 ^ (64 - r) % K : Nat) : Int)) 2 rfl (by kernel_rfl) (by simp) rfl
    have H102 : Hp w [] [.blk p3 (wl x) 24, .blk p7 z4 24, .blk p22 [.int .u64 (((wd x 0) / 2 ^ r + (wd x 1) * 2 ^ (64 - r) % K : Nat) : Int), .int .u64 0, .int .u64 0, .int .u64 0] 24] w100 := H102
    refine GL.semU (j := 15) r101 [2, 4, 5, 6, 7, 8] [(2, pt p3 0), (4, pt p7 0), (5, pt p22 0), (6, .int .i64 0), (7, .int .i64 (r : Int)), (8, .int .i64 0)] (by kernel_rfl) rfl rfl rfl ?_
    refine GL.k rfl hK37 (fun _ _ h => h) ?_
    refine G.region ?_
    refine GL.run (j := 3) 3 [2, 4, 5, 6, 7, 8] [(2, pt p3 0), (4, pt p7 0), (5, pt p22 0), (6, .int .i64 0), (7, .int .i64 (r : Int)), (8, .int .i64 1)] (by kernel_rfl) rfl ?_
    refine GL.round rfl ?_
    refine G.seqK fun K103 hK104 => ?_
    refine G.seqK fun K105 hK106 => ?_
    refine G.region ?_
    refine GL.run (j := 4) 4 [2, 4, 5, 6, 7, 8, 31] [(2, pt p3 0), (4, pt p7 0), (5, pt p22 0), (6, .int .i64 0), (7, .int .i64 (r : Int)), (8, .int .i64 1), (31, .bool true)] (by kernel_rfl) rfl ?_
    refine GL.k rfl hK106 (fun _ _ h => h) ?_
    refine G.yes rfl ?_
    refine G.skipK hK104 (fun _ _ h => h) ?_
    refine G.seqK fun K107 hK108 => ?_
    refine G.block ?_
    refine G.seqK fun K109 hK110 => ?_
    refine G.region ?_
    refine GL.run (j := 5) 5 [2, 4, 5, 6, 7, 8, 34, 38] [(2, pt p3 0), (4, pt p7 0), (5, pt p22 0), (6, .int .i64 0), (7, .int .i64 (r : Int)), (8, .int .i64 1), (34, .int .i64 1), (38, pt p3 1)] (by kernel_rfl) rfl ?_
    refine GL.sem (j := 6) (H102.ld (o := 1) (ty := 22) (v := .int .u64 (wd x 1 : Int)) 0 rfl (by kernel_rfl) rfl) [2, 4, 5, 6, 7, 8, 34, 39] [(2, pt p3 0), (4, pt p7 0), (5, pt p22 0), (6, .int .i64 0), (7, .int .i64 (r : Int)), (8, .int .i64 1), (34, .int .i64 1), (39, .int .u64 (wd x 1 : Int))] (by kernel_rfl) (by kernel_rfl) rfl ?_
    refine GL.run (j := 7) 1 [2, 4, 5, 6, 7, 8, 34, 39, 40] [(2, pt p3 0), (4, pt p7 0), (5, pt p22 0), (6, .int .i64 0), (7, .int .i64 (r : Int)), (8, .int .i64 1), (34, .int .i64 1), (39, .int .u64 (wd x 1 : Int)), (40, .int .i64 (r : Int))] (by kernel_rfl) rfl ?_
    refine GL.sem (j := 8) (run_shrN (P := Try.prog) (k' := .i64) (t := 22) (a := (wd x 1)) (r := r) (by omega) _) [2, 4, 5, 6, 7, 8, 34, 41] [(2, pt p3 0), (4, pt p7 0), (5, pt p22 0), (6, .int .i64 0), (7, .int .i64 (r : Int)), (8, .int .i64 1), (34, .int .i64 1), (41, .int .u64 (((wd x 1) / 2 ^ r : Nat) : Int))] (by kernel_rfl) (by kernel_rfl) rfl ?_
    refine GL.run (j := 9) 1 [2, 4, 5, 6, 7, 8, 41, 42] [(2, pt p3 0), (4, pt p7 0), (5, pt p22 0), (6, .int .i64 0), (7, .int .i64 (r : Int)), (8, .int .i64 1), (41, .int .u64 (((wd x 1) / 2 ^ r : Nat) : Int)), (42, pt p22 1)] (by kernel_rfl) rfl ?_
    obtain ⟨w111, r112, H113⟩ := H102.st (P := Try.prog) (o := 1) (ty := 22) (v := .int .u64 (((wd x 1) / 2 ^ r : Nat) : Int)) 2 rfl (by kernel_rfl) (by simp) rfl
    have H113 : Hp w [] [.blk p3 (wl x) 24, .blk p7 z4 24, .blk p22 [.int .u64 (((wd x 0) / 2 ^ r + (wd x 1) * 2 ^ (64 - r) % K : Nat) : Int), .int .u64 (((wd x 1) / 2 ^ r : Nat) : Int), .int .u64 0, .int .u64 0] 24] w111 := H113
    refine GL.semU (j := 10) r112 [2, 4, 5, 6, 7, 8] [(2, pt p3 0), (4, pt p7 0), (5, pt p22 0), (6, .int .i64 0), (7, .int .i64 (r : Int)), (8, .int .i64 1)] (by kernel_rfl) rfl rfl rfl ?_
    refine GL.k rfl hK110 (fun _ _ h => h) ?_
    refine G.seqK fun K114 hK115 => ?_
    refine G.region ?_
    refine GL.run (j := 9) 9 [2, 4, 5, 6, 7, 8, 51] [(2, pt p3 0), (4, pt p7 0), (5, pt p22 0), (6, .int .i64 0), (7, .int .i64 (r : Int)), (8, .int .i64 1), (51, .bool (decide (0 < (r : Int))))] (by kernel_rfl) rfl ?_
    refine GL.k rfl hK115 (fun _ _ h => h) ?_
    have hb116 : (decide (0 < (r : Int))) = true := by assumption
    rw [hb116]
    refine G.yes rfl ?_
    refine G.tail 14 (by kernel_rfl) (by kernel_rfl) ?_
    have H117 := H113.drew
    generalize ({ w111 with drawn := w111.drawn + 1 } : World) = w118 at H117 ⊢
    refine GS.run (j := 2) 2 [2, 4, 5, 6, 7, 8, 52, 53] [(2, pt p3 0), (4, pt p7 0), (5, pt p22 0), (6, .int .i64 0), (7, .int .i64 (r : Int)), (8, .int .i64 1), (52, .int .i64 1), (53, pt p22 1)] (by kernel_rfl) rfl rfl ?_
    refine GS.sem (j := 3) (H117.ld (o := 1) (ty := 22) (v := .int .u64 (((wd x 1) / 2 ^ r : Nat) : Int)) 2 rfl (by kernel_rfl) rfl) [2, 4, 5, 6, 7, 8, 52, 54] [(2, pt p3 0), (4, pt p7 0), (5, pt p22 0), (6, .int .i64 0), (7, .int .i64 (r : Int)), (8, .int .i64 1), (52, .int .i64 1), (54, .int .u64 (((wd x 1) / 2 ^ r : Nat) : Int))] (by kernel_rfl) (by kernel_rfl) rfl rfl ?_
    refine GS.run (j := 8) 5 [2, 4, 5, 6, 7, 8, 52, 54, 59] [(2, pt p3 0), (4, pt p7 0), (5, pt p22 0), (6, .int .i64 0), (7, .int .i64 (r : Int)), (8, .int .i64 1), (52, .int .i64 1), (54, .int .u64 (((wd x 1) / 2 ^ r : Nat) : Int)), (59, pt p3 2)] (by kernel_rfl) rfl rfl ?_
    refine GS.sem (j := 9) (H117.ld (o := 2) (ty := 22) (v := .int .u64 (wd x 2 : Int)) 0 rfl (by kernel_rfl) rfl) [2, 4, 5, 6, 7, 8, 52, 54, 60] [(2, pt p3 0), (4, pt p7 0), (5, pt p22 0), (6, .int .i64 0), (7, .int .i64 (r : Int)), (8, .int .i64 1), (52, .int .i64 1), (54, .int .u64 (((wd x 1) / 2 ^ r : Nat) : Int)), (60, .int .u64 (wd x 2 : Int))] (by kernel_rfl) (by kernel_rfl) rfl rfl ?_
    refine GS.run (j := 11) 2 [2, 4, 5, 6, 7, 8, 52, 54, 60, 62] [(2, pt p3 0), (4, pt p7 0), (5, pt p22 0), (6, .int .i64 0), (7, .int .i64 (r : Int)), (8, .int .i64 1), (52, .int .i64 1), (54, .int .u64 (((wd x 1) / 2 ^ r : Nat) : Int)), (60, .int .u64 (wd x 2 : Int)), (62, .int .i64 (IntKind.i64.wrap (64 - (r : Int))))] (by kernel_rfl) rfl rfl ?_
    have e119 : (IntKind.i64.wrap (64 - (r : Int))) = ((64 - r : Nat) : Int) := by rw [in_i64 (by omega)]; omega
    refine GS.eq (M' := [(2, pt p3 0), (4, pt p7 0), (5, pt p22 0), (6, .int .i64 0), (7, .int .i64 (r : Int)), (8, .int .i64 1), (52, .int .i64 1), (54, .int .u64 (((wd x 1) / 2 ^ r : Nat) : Int)), (60, .int .u64 (wd x 2 : Int)), (62, .int .i64 ((64 - r : Nat) : Int))]) (by rw [e119]) ?_
    clear e119
    refine GS.sem (j := 12) (run_shlN (P := Try.prog) (k' := .i64) (t := 22) (a := (wd x 2)) (r := (64 - r)) (by omega) _) [2, 4, 5, 6, 7, 8, 52, 54, 63] [(2, pt p3 0), (4, pt p7 0), (5, pt p22 0), (6, .int .i64 0), (7, .int .i64 (r : Int)), (8, .int .i64 1), (52, .int .i64 1), (54, .int .u64 (((wd x 1) / 2 ^ r : Nat) : Int)), (63, .int .u64 (((wd x 2) * 2 ^ (64 - r) % K : Nat) : Int))] (by kernel_rfl) (by kernel_rfl) rfl rfl ?_
    refine GS.run (j := 14) 2 [2, 4, 5, 6, 7, 8, 64, 65] [(2, pt p3 0), (4, pt p7 0), (5, pt p22 0), (6, .int .i64 0), (7, .int .i64 (r : Int)), (8, .int .i64 1), (64, .int .u64 (Go.bits .or .u64 (((wd x 1) / 2 ^ r : Nat) : Int) (((wd x 2) * 2 ^ (64 - r) % K : Nat) : Int))), (65, pt p22 1)] (by kernel_rfl) rfl rfl ?_
    have e120 : (Go.bits .or .u64 (((wd x 1) / 2 ^ r : Nat) : Int) (((wd x 2) * 2 ^ (64 - r) % K : Nat) : Int)) = (((wd x 1) / 2 ^ r + (wd x 2) * 2 ^ (64 - r) % K : Nat) : Int) := or_shiftR (wd_lt _ _) (by omega)
    refine GS.eq (M' := [(2, pt p3 0), (4, pt p7 0), (5, pt p22 0), (6, .int .i64 0), (7, .int .i64 (r : Int)), (8, .int .i64 1), (64, .int .u64 (((wd x 1) / 2 ^ r + (wd x 2) * 2 ^ (64 - r) % K : Nat) : Int)), (65, pt p22 1)]) (by rw [e120]) ?_
    clear e120
    refine GS.tail rfl ?_
    obtain ⟨w121, r122, H123⟩ := H117.st (P := Try.prog) (o := 1) (ty := 22) (v := .int .u64 (((wd x 1) / 2 ^ r + (wd x 2) * 2 ^ (64 - r) % K : Nat) : Int)) 2 rfl (by kernel_rfl) (by simp) rfl
    have H123 : Hp w [] [.blk p3 (wl x) 24, .blk p7 z4 24, .blk p22 [.int .u64 (((wd x 0) / 2 ^ r + (wd x 1) * 2 ^ (64 - r) % K : Nat) : Int), .int .u64 (((wd x 1) / 2 ^ r + (wd x 2) * 2 ^ (64 - r) % K : Nat) : Int), .int .u64 0, .int .u64 0] 24] w121 := H123
    refine GL.semU (j := 15) r122 [2, 4, 5, 6, 7, 8] [(2, pt p3 0), (4, pt p7 0), (5, pt p22 0), (6, .int .i64 0), (7, .int .i64 (r : Int)), (8, .int .i64 1)] (by kernel_rfl) rfl rfl rfl ?_
    refine GL.k rfl hK108 (fun _ _ h => h) ?_
    refine G.region ?_
    refine GL.run (j := 3) 3 [2, 4, 5, 6, 7, 8] [(2, pt p3 0), (4, pt p7 0), (5, pt p22 0), (6, .int .i64 0), (7, .int .i64 (r : Int)), (8, .int .i64 2)] (by kernel_rfl) rfl ?_
    refine GL.round rfl ?_
    refine G.seqK fun K124 hK125 => ?_
    refine G.seqK fun K126 hK127 => ?_
    refine G.region ?_
    refine GL.run (j := 4) 4 [2, 4, 5, 6, 7, 8, 31] [(2, pt p3 0), (4, pt p7 0), (5, pt p22 0), (6, .int .i64 0), (7, .int .i64 (r : Int)), (8, .int .i64 2), (31, .bool true)] (by kernel_rfl) rfl ?_
    refine GL.k rfl hK127 (fun _ _ h => h) ?_
    refine G.yes rfl ?_
    refine G.skipK hK125 (fun _ _ h => h) ?_
    refine G.seqK fun K128 hK129 => ?_
    refine G.block ?_
    refine G.seqK fun K130 hK131 => ?_
    refine G.region ?_
    refine GL.run (j := 5) 5 [2, 4, 5, 6, 7, 8, 34, 38] [(2, pt p3 0), (4, pt p7 0), (5, pt p22 0), (6, .int .i64 0), (7, .int .i64 (r : Int)), (8, .int .i64 2), (34, .int .i64 2), (38, pt p3 2)] (by kernel_rfl) rfl ?_
    refine GL.sem (j := 6) (H123.ld (o := 2) (ty := 22) (v := .int .u64 (wd x 2 : Int)) 0 rfl (by kernel_rfl) rfl) [2, 4, 5, 6, 7, 8, 34, 39] [(2, pt p3 0), (4, pt p7 0), (5, pt p22 0), (6, .int .i64 0), (7, .int .i64 (r : Int)), (8, .int .i64 2), (34, .int .i64 2), (39, .int .u64 (wd x 2 : Int))] (by kernel_rfl) (by kernel_rfl) rfl ?_
    refine GL.run (j := 7) 1 [2, 4, 5, 6, 7, 8, 34, 39, 40] [(2, pt p3 0), (4, pt p7 0), (5, pt p22 0), (6, .int .i64 0), (7, .int .i64 (r : Int)), (8, .int .i64 2), (34, .int .i64 2), (39, .int .u64 (wd x 2 : Int)), (40, .int .i64 (r : Int))] (by kernel_rfl) rfl ?_
    refine GL.sem (j := 8) (run_shrN (P := Try.prog) (k' := .i64) (t := 22) (a := (wd x 2)) (r := r) (by omega) _) [2, 4, 5, 6, 7, 8, 34, 41] [(2, pt p3 0), (4, pt p7 0), (5, pt p22 0), (6, .int .i64 0), (7, .int .i64 (r : Int)), (8, .int .i64 2), (34, .int .i64 2), (41, .int .u64 (((wd x 2) / 2 ^ r : Nat) : Int))] (by kernel_rfl) (by kernel_rfl) rfl ?_
    refine GL.run (j := 9) 1 [2, 4, 5, 6, 7, 8, 41, 42] [(2, pt p3 0), (4, pt p7 0), (5, pt p22 0), (6, .int .i64 0), (7, .int .i64 (r : Int)), (8, .int .i64 2), (41, .int .u64 (((wd x 2) / 2 ^ r : Nat) : Int)), (42, pt p22 2)] (by kernel_rfl) rfl ?_
    obtain ⟨w132, r133, H134⟩ := H123.st (P := Try.prog) (o := 2) (ty := 22) (v := .int .u64 (((wd x 2) / 2 ^ r : Nat) : Int)) 2 rfl (by kernel_rfl) (by simp) rfl
    have H134 : Hp w [] [.blk p3 (wl x) 24, .blk p7 z4 24, .blk p22 [.int .u64 (((wd x 0) / 2 ^ r + (wd x 1) * 2 ^ (64 - r) % K : Nat) : Int), .int .u64 (((wd x 1) / 2 ^ r + (wd x 2) * 2 ^ (64 - r) % K : Nat) : Int), .int .u64 (((wd x 2) / 2 ^ r : Nat) : Int), .int .u64 0] 24] w132 := H134
    refine GL.semU (j := 10) r133 [2, 4, 5, 6, 7, 8] [(2, pt p3 0), (4, pt p7 0), (5, pt p22 0), (6, .int .i64 0), (7, .int .i64 (r : Int)), (8, .int .i64 2)] (by kernel_rfl) rfl rfl rfl ?_
    refine GL.k rfl hK131 (fun _ _ h => h) ?_
    refine G.seqK fun K135 hK136 => ?_
    refine G.region ?_
    refine GL.run (j := 9) 9 [2, 4, 5, 6, 7, 8, 51] [(2, pt p3 0), (4, pt p7 0), (5, pt p22 0), (6, .int .i64 0), (7, .int .i64 (r : Int)), (8, .int .i64 2), (51, .bool (decide (0 < (r : Int))))] (by kernel_rfl) rfl ?_
    refine GL.k rfl hK136 (fun _ _ h => h) ?_
    have hb137 : (decide (0 < (r : Int))) = true := by assumption
    rw [hb137]
    refine G.yes rfl ?_
    refine G.tail 14 (by kernel_rfl) (by kernel_rfl) ?_
    have H138 := H134.drew
    generalize ({ w132 with drawn := w132.drawn + 1 } : World) = w139 at H138 ⊢
    refine GS.run (j := 2) 2 [2, 4, 5, 6, 7, 8, 52, 53] [(2, pt p3 0), (4, pt p7 0), (5, pt p22 0), (6, .int .i64 0), (7, .int .i64 (r : Int)), (8, .int .i64 2), (52, .int .i64 2), (53, pt p22 2)] (by kernel_rfl) rfl rfl ?_
    refine GS.sem (j := 3) (H138.ld (o := 2) (ty := 22) (v := .int .u64 (((wd x 2) / 2 ^ r : Nat) : Int)) 2 rfl (by kernel_rfl) rfl) [2, 4, 5, 6, 7, 8, 52, 54] [(2, pt p3 0), (4, pt p7 0), (5, pt p22 0), (6, .int .i64 0), (7, .int .i64 (r : Int)), (8, .int .i64 2), (52, .int .i64 2), (54, .int .u64 (((wd x 2) / 2 ^ r : Nat) : Int))] (by kernel_rfl) (by kernel_rfl) rfl rfl ?_
    refine GS.run (j := 8) 5 [2, 4, 5, 6, 7, 8, 52, 54, 59] [(2, pt p3 0), (4, pt p7 0), (5, pt p22 0), (6, .int .i64 0), (7, .int .i64 (r : Int)), (8, .int .i64 2), (52, .int .i64 2), (54, .int .u64 (((wd x 2) / 2 ^ r : Nat) : Int)), (59, pt p3 3)] (by kernel_rfl) rfl rfl ?_
    refine GS.sem (j := 9) (H138.ld (o := 3) (ty := 22) (v := .int .u64 (wd x 3 : Int)) 0 rfl (by kernel_rfl) rfl) [2, 4, 5, 6, 7, 8, 52, 54, 60] [(2, pt p3 0), (4, pt p7 0), (5, pt p22 0), (6, .int .i64 0), (7, .int .i64 (r : Int)), (8, .int .i64 2), (52, .int .i64 2), (54, .int .u64 (((wd x 2) / 2 ^ r : Nat) : Int)), (60, .int .u64 (wd x 3 : Int))] (by kernel_rfl) (by kernel_rfl) rfl rfl ?_
    refine GS.run (j := 11) 2 [2, 4, 5, 6, 7, 8, 52, 54, 60, 62] [(2, pt p3 0), (4, pt p7 0), (5, pt p22 0), (6, .int .i64 0), (7, .int .i64 (r : Int)), (8, .int .i64 2), (52, .int .i64 2), (54, .int .u64 (((wd x 2) / 2 ^ r : Nat) : Int)), (60, .int .u64 (wd x 3 : Int)), (62, .int .i64 (IntKind.i64.wrap (64 - (r : Int))))] (by kernel_rfl) rfl rfl ?_
    have e140 : (IntKind.i64.wrap (64 - (r : Int))) = ((64 - r : Nat) : Int) := by rw [in_i64 (by omega)]; omega
    refine GS.eq (M' := [(2, pt p3 0), (4, pt p7 0), (5, pt p22 0), (6, .int .i64 0), (7, .int .i64 (r : Int)), (8, .int .i64 2), (52, .int .i64 2), (54, .int .u64 (((wd x 2) / 2 ^ r : Nat) : Int)), (60, .int .u64 (wd x 3 : Int)), (62, .int .i64 ((64 - r : Nat) : Int))]) (by rw [e140]) ?_
    clear e140
    refine GS.sem (j := 12) (run_shlN (P := Try.prog) (k' := .i64) (t := 22) (a := (wd x 3)) (r := (64 - r)) (by omega) _) [2, 4, 5, 6, 7, 8, 52, 54, 63] [(2, pt p3 0), (4, pt p7 0), (5, pt p22 0), (6, .int .i64 0), (7, .int .i64 (r : Int)), (8, .int .i64 2), (52, .int .i64 2), (54, .int .u64 (((wd x 2) / 2 ^ r : Nat) : Int)), (63, .int .u64 (((wd x 3) * 2 ^ (64 - r) % K : Nat) : Int))] (by kernel_rfl) (by kernel_rfl) rfl rfl ?_
    refine GS.run (j := 14) 2 [2, 4, 5, 6, 7, 8, 64, 65] [(2, pt p3 0), (4, pt p7 0), (5, pt p22 0), (6, .int .i64 0), (7, .int .i64 (r : Int)), (8, .int .i64 2), (64, .int .u64 (Go.bits .or .u64 (((wd x 2) / 2 ^ r : Nat) : Int) (((wd x 3) * 2 ^ (64 - r) % K : Nat) : Int))), (65, pt p22 2)] (by kernel_rfl) rfl rfl ?_
    have e141 : (Go.bits .or .u64 (((wd x 2) / 2 ^ r : Nat) : Int) (((wd x 3) * 2 ^ (64 - r) % K : Nat) : Int)) = (((wd x 2) / 2 ^ r + (wd x 3) * 2 ^ (64 - r) % K : Nat) : Int) := or_shiftR (wd_lt _ _) (by omega)
    refine GS.eq (M' := [(2, pt p3 0), (4, pt p7 0), (5, pt p22 0), (6, .int .i64 0), (7, .int .i64 (r : Int)), (8, .int .i64 2), (64, .int .u64 (((wd x 2) / 2 ^ r + (wd x 3) * 2 ^ (64 - r) % K : Nat) : Int)), (65, pt p22 2)]) (by rw [e141]) ?_
    clear e141
    refine GS.tail rfl ?_
    obtain ⟨w142, r143, H144⟩ := H138.st (P := Try.prog) (o := 2) (ty := 22) (v := .int .u64 (((wd x 2) / 2 ^ r + (wd x 3) * 2 ^ (64 - r) % K : Nat) : Int)) 2 rfl (by kernel_rfl) (by simp) rfl
    have H144 : Hp w [] [.blk p3 (wl x) 24, .blk p7 z4 24, .blk p22 [.int .u64 (((wd x 0) / 2 ^ r + (wd x 1) * 2 ^ (64 - r) % K : Nat) : Int), .int .u64 (((wd x 1) / 2 ^ r + (wd x 2) * 2 ^ (64 - r) % K : Nat) : Int), .int .u64 (((wd x 2) / 2 ^ r + (wd x 3) * 2 ^ (64 - r) % K : Nat) : Int), .int .u64 0] 24] w142 := H144
    refine GL.semU (j := 15) r143 [2, 4, 5, 6, 7, 8] [(2, pt p3 0), (4, pt p7 0), (5, pt p22 0), (6, .int .i64 0), (7, .int .i64 (r : Int)), (8, .int .i64 2)] (by kernel_rfl) rfl rfl rfl ?_
    refine GL.k rfl hK129 (fun _ _ h => h) ?_
    refine G.region ?_
    refine GL.run (j := 3) 3 [2, 4, 5, 6, 7, 8] [(2, pt p3 0), (4, pt p7 0), (5, pt p22 0), (6, .int .i64 0), (7, .int .i64 (r : Int)), (8, .int .i64 3)] (by kernel_rfl) rfl ?_
    refine GL.round rfl ?_
    refine G.seqK fun K145 hK146 => ?_
    refine G.seqK fun K147 hK148 => ?_
    refine G.region ?_
    refine GL.run (j := 4) 4 [2, 4, 5, 6, 7, 8, 31] [(2, pt p3 0), (4, pt p7 0), (5, pt p22 0), (6, .int .i64 0), (7, .int .i64 (r : Int)), (8, .int .i64 3), (31, .bool true)] (by kernel_rfl) rfl ?_
    refine GL.k rfl hK148 (fun _ _ h => h) ?_
    refine G.yes rfl ?_
    refine G.skipK hK146 (fun _ _ h => h) ?_
    refine G.seqK fun K149 hK150 => ?_
    refine G.block ?_
    refine G.seqK fun K151 hK152 => ?_
    refine G.region ?_
    refine GL.run (j := 5) 5 [2, 4, 5, 6, 7, 8, 34, 38] [(2, pt p3 0), (4, pt p7 0), (5, pt p22 0), (6, .int .i64 0), (7, .int .i64 (r : Int)), (8, .int .i64 3), (34, .int .i64 3), (38, pt p3 3)] (by kernel_rfl) rfl ?_
    refine GL.sem (j := 6) (H144.ld (o := 3) (ty := 22) (v := .int .u64 (wd x 3 : Int)) 0 rfl (by kernel_rfl) rfl) [2, 4, 5, 6, 7, 8, 34, 39] [(2, pt p3 0), (4, pt p7 0), (5, pt p22 0), (6, .int .i64 0), (7, .int .i64 (r : Int)), (8, .int .i64 3), (34, .int .i64 3), (39, .int .u64 (wd x 3 : Int))] (by kernel_rfl) (by kernel_rfl) rfl ?_
    refine GL.run (j := 7) 1 [2, 4, 5, 6, 7, 8, 34, 39, 40] [(2, pt p3 0), (4, pt p7 0), (5, pt p22 0), (6, .int .i64 0), (7, .int .i64 (r : Int)), (8, .int .i64 3), (34, .int .i64 3), (39, .int .u64 (wd x 3 : Int)), (40, .int .i64 (r : Int))] (by kernel_rfl) rfl ?_
    refine GL.sem (j := 8) (run_shrN (P := Try.prog) (k' := .i64) (t := 22) (a := (wd x 3)) (r := r) (by omega) _) [2, 4, 5, 6, 7, 8, 34, 41] [(2, pt p3 0), (4, pt p7 0), (5, pt p22 0), (6, .int .i64 0), (7, .int .i64 (r : Int)), (8, .int .i64 3), (34, .int .i64 3), (41, .int .u64 (((wd x 3) / 2 ^ r : Nat) : Int))] (by kernel_rfl) (by kernel_rfl) rfl ?_
    refine GL.run (j := 9) 1 [2, 4, 5, 6, 7, 8, 41, 42] [(2, pt p3 0), (4, pt p7 0), (5, pt p22 0), (6, .int .i64 0), (7, .int .i64 (r : Int)), (8, .int .i64 3), (41, .int .u64 (((wd x 3) / 2 ^ r : Nat) : Int)), (42, pt p22 3)] (by kernel_rfl) rfl ?_
    obtain ⟨w153, r154, H155⟩ := H144.st (P := Try.prog) (o := 3) (ty := 22) (v := .int .u64 (((wd x 3) / 2 ^ r : Nat) : Int)) 2 rfl (by kernel_rfl) (by simp) rfl
    have H155 : Hp w [] [.blk p3 (wl x) 24, .blk p7 z4 24, .blk p22 [.int .u64 (((wd x 0) / 2 ^ r + (wd x 1) * 2 ^ (64 - r) % K : Nat) : Int), .int .u64 (((wd x 1) / 2 ^ r + (wd x 2) * 2 ^ (64 - r) % K : Nat) : Int), .int .u64 (((wd x 2) / 2 ^ r + (wd x 3) * 2 ^ (64 - r) % K : Nat) : Int), .int .u64 (((wd x 3) / 2 ^ r : Nat) : Int)] 24] w153 := H155
    refine GL.semU (j := 10) r154 [2, 4, 5, 6, 7, 8] [(2, pt p3 0), (4, pt p7 0), (5, pt p22 0), (6, .int .i64 0), (7, .int .i64 (r : Int)), (8, .int .i64 3)] (by kernel_rfl) rfl rfl rfl ?_
    refine GL.k rfl hK152 (fun _ _ h => h) ?_
    refine G.seqK fun K156 hK157 => ?_
    refine G.region ?_
    refine GL.run (j := 9) 9 [2, 4, 5, 6, 7, 8, 51] [(2, pt p3 0), (4, pt p7 0), (5, pt p22 0), (6, .int .i64 0), (7, .int .i64 (r : Int)), (8, .int .i64 3), (51, .bool false)] (by kernel_rfl) rfl ?_
    refine GL.k rfl hK157 (fun _ _ h => h) ?_
    refine G.no rfl ?_
    refine G.skipK hK150 (fun _ _ h => h) ?_
    refine G.region ?_
    refine GL.run (j := 3) 3 [2, 4, 5, 6, 7, 8] [(2, pt p3 0), (4, pt p7 0), (5, pt p22 0), (6, .int .i64 0), (7, .int .i64 (r : Int)), (8, .int .i64 4)] (by kernel_rfl) rfl ?_
    refine GL.round rfl ?_
    refine G.seqK fun K158 hK159 => ?_
    refine G.seqK fun K160 hK161 => ?_
    refine G.region ?_
    refine GL.run (j := 4) 4 [2, 4, 5, 6, 7, 8, 31] [(2, pt p3 0), (4, pt p7 0), (5, pt p22 0), (6, .int .i64 0), (7, .int .i64 (r : Int)), (8, .int .i64 4), (31, .bool false)] (by kernel_rfl) rfl ?_
    refine GL.k rfl hK161 (fun _ _ h => h) ?_
    refine G.no rfl ?_
    refine G.exitK hK29 (fun _ _ h => h) ?_
    refine G.seqK fun K162 hK163 => ?_
    refine G.region ?_
    refine GL.sem (j := 1) (H155.ldA (o := 0) (ty := 24) (m := 4) (sub := [.int .u64 (((wd x 0) / 2 ^ r + (wd x 1) * 2 ^ (64 - r) % K : Nat) : Int), .int .u64 (((wd x 1) / 2 ^ r + (wd x 2) * 2 ^ (64 - r) % K : Nat) : Int), .int .u64 (((wd x 2) / 2 ^ r + (wd x 3) * 2 ^ (64 - r) % K : Nat) : Int), .int .u64 (((wd x 3) / 2 ^ r : Nat) : Int)]) 2 rfl (by kernel_rfl) rfl rfl) [4, 66] [(4, pt p7 0), (66, .agg #[.int .u64 (((wd x 0) / 2 ^ r + (wd x 1) * 2 ^ (64 - r) % K : Nat) : Int), .int .u64 (((wd x 1) / 2 ^ r + (wd x 2) * 2 ^ (64 - r) % K : Nat) : Int), .int .u64 (((wd x 2) / 2 ^ r + (wd x 3) * 2 ^ (64 - r) % K : Nat) : Int), .int .u64 (((wd x 3) / 2 ^ r : Nat) : Int)])] (by kernel_rfl) (by kernel_rfl) rfl ?_
    obtain ⟨w164, r165, H166⟩ := H155.stA (P := Try.prog) (o := 0) (vs := [.int .u64 (((wd x 0) / 2 ^ r + (wd x 1) * 2 ^ (64 - r) % K : Nat) : Int), .int .u64 (((wd x 1) / 2 ^ r + (wd x 2) * 2 ^ (64 - r) % K : Nat) : Int), .int .u64 (((wd x 2) / 2 ^ r + (wd x 3) * 2 ^ (64 - r) % K : Nat) : Int), .int .u64 (((wd x 3) / 2 ^ r : Nat) : Int)]) (ty := 24) (m := 4) 1 rfl (by kernel_rfl) rfl (by first | decide | simp) (by simp [Value.oneCell'])
    have H166 : Hp w [] [.blk p3 (wl x) 24, .blk p7 [.int .u64 (((wd x 0) / 2 ^ r + (wd x 1) * 2 ^ (64 - r) % K : Nat) : Int), .int .u64 (((wd x 1) / 2 ^ r + (wd x 2) * 2 ^ (64 - r) % K : Nat) : Int), .int .u64 (((wd x 2) / 2 ^ r + (wd x 3) * 2 ^ (64 - r) % K : Nat) : Int), .int .u64 (((wd x 3) / 2 ^ r : Nat) : Int)] 24, .blk p22 [.int .u64 (((wd x 0) / 2 ^ r + (wd x 1) * 2 ^ (64 - r) % K : Nat) : Int), .int .u64 (((wd x 1) / 2 ^ r + (wd x 2) * 2 ^ (64 - r) % K : Nat) : Int), .int .u64 (((wd x 2) / 2 ^ r + (wd x 3) * 2 ^ (64 - r) % K : Nat) : Int), .int .u64 (((wd x 3) / 2 ^ r : Nat) : Int)] 24] w164 := H166
    refine GL.semU (j := 2) r165 [4] [(4, pt p7 0)] (by kernel_rfl) rfl rfl rfl ?_
    refine GL.k rfl hK163 (fun _ _ h => h) ?_
    refine G.ret ?_
    intro F_ hF_ hM_
    refine hRet _ _ (bodyPost_1 rfl (RV.cell rfl (H166.ldA (o := 0) (ty := 24) (m := 4) (sub := [.int .u64 (((wd x 0) / 2 ^ r + (wd x 1) * 2 ^ (64 - r) % K : Nat) : Int), .int .u64 (((wd x 1) / 2 ^ r + (wd x 2) * 2 ^ (64 - r) % K : Nat) : Int), .int .u64 (((wd x 2) / 2 ^ r + (wd x 3) * 2 ^ (64 - r) % K : Nat) : Int), .int .u64 (((wd x 3) / 2 ^ r : Nat) : Int)]) 1 rfl (by kernel_rfl) rfl rfl)) ?_ F_ hF_ hM_)
    rw [← right_fin0 hx (show r ≤ 64 by omega)]
    exact ⟨rfl, H166.sub (List.nil_sublist _)⟩
theorem Right_q1 (x r : Nat) (hx : x < K4) (hr : r < 64) (w : World) : Calls Try.prog 20 #[wv x, .int .i64 ((64 * 1 + r : Nat) : Int)] w fun e w' => e = .returned (wv (x / 2 ^ (64 * 1 + r))) ∧ Hp w [] [] w' := by
  refine calls_G (args := [wv x, .int .i64 ((64 * 1 + r : Nat) : Int)]) Try.func20 rfl Try.ntmps20 rfl ?_
  intro Q0 hRet hNor hPan
  have H := Hp.start w
  have H : Hp w [] [] w := H
  refine G.seqK fun K1 hK2 => ?_
  refine G.region ?_
  obtain ⟨p3, w4, r5, H6⟩ := H.box (P := Try.prog) 24 (wl x) (wv x) rfl
  have H6 : Hp w [] [.blk p3 (wl x) 24] w4 := H6
  refine GL.sem (j := 1) (r5) [1, 2] [(1, .int .i64 ((64 * 1 + r : Nat) : Int)), (2, pt p3 0)] (by kernel_rfl) (by kernel_rfl) rfl ?_
  obtain ⟨p7, w8, r9, H10⟩ := H6.alloc (P := Try.prog) 24 z4 (by kernel_rfl)
  have H10 : Hp w [] [.blk p3 (wl x) 24, .blk p7 z4 24] w8 := H10
  refine GL.sem (j := 2) (r9) [1, 2, 4] [(1, .int .i64 ((64 * 1 + r : Nat) : Int)), (2, pt p3 0), (4, pt p7 0)] (by kernel_rfl) (by kernel_rfl) rfl ?_
  refine GL.k rfl hK2 (fun _ _ h => h) ?_
  refine G.seqK fun K11 hK12 => ?_
  refine G.block ?_
  refine G.seqK fun K13 hK14 => ?_
  refine G.region ?_
  refine GL.run (j := 3) 3 [1, 2, 4, 12] [(1, .int .i64 ((64 * 1 + r : Nat) : Int)), (2, pt p3 0), (4, pt p7 0), (12, .bool (decide (((64 * 1 + r : Nat) : Int) ≤ (-256))))] (by kernel_rfl) rfl ?_
  have hb15 : (decide (((64 * 1 + r : Nat) : Int) ≤ (-256))) = false := decide_eq_false (by omega)
  rw [hb15]
  refine GL.run (j := 7) 4 [1, 2, 4, 9] [(1, .int .i64 ((64 * 1 + r : Nat) : Int)), (2, pt p3 0), (4, pt p7 0), (9, .bool (decide (256 ≤ ((64 * 1 + r : Nat) : Int))))] (by kernel_rfl) rfl ?_
  refine GL.k rfl hK14 (fun _ _ h => h) ?_
  have hb16 : (decide (256 ≤ ((64 * 1 + r : Nat) : Int))) = false := decide_eq_false (by omega)
  rw [hb16]
  refine G.no rfl ?_
  refine G.seqK fun K17 hK18 => ?_
  refine G.region ?_
  refine GL.run (j := 3) 3 [1, 2, 4, 17] [(1, .int .i64 ((64 * 1 + r : Nat) : Int)), (2, pt p3 0), (4, pt p7 0), (17, .bool (decide (((64 * 1 + r : Nat) : Int) < 0)))] (by kernel_rfl) rfl ?_
  refine GL.k rfl hK18 (fun _ _ h => h) ?_
  have hb19 : (decide (((64 * 1 + r : Nat) : Int) < 0)) = false := decide_eq_false (by omega)
  rw [hb19]
  refine G.no rfl ?_
  refine G.skipK hK12 (fun _ _ h => h) ?_
  refine G.seqK fun K20 hK21 => ?_
  refine G.region ?_
  obtain ⟨p22, w23, r24, H25⟩ := H10.alloc (P := Try.prog) 24 z4 (by kernel_rfl)
  have H25 : Hp w [] [.blk p3 (wl x) 24, .blk p7 z4 24, .blk p22 z4 24] w23 := H25
  refine GL.sem (j := 1) (r24) [1, 2, 4, 5] [(1, .int .i64 ((64 * 1 + r : Nat) : Int)), (2, pt p3 0), (4, pt p7 0), (5, pt p22 0)] (by kernel_rfl) (by kernel_rfl) rfl ?_
  refine GL.k rfl hK21 (fun _ _ h => h) ?_
  refine G.seqK fun K26 hK27 => ?_
  refine G.region ?_
  refine GL.run (j := 1) 1 [1, 2, 4, 5, 24] [(1, .int .i64 ((64 * 1 + r : Nat) : Int)), (2, pt p3 0), (4, pt p7 0), (5, pt p22 0), (24, .int .i64 ((64 * 1 + r : Nat) : Int))] (by kernel_rfl) rfl ?_
  refine GL.sem (j := 2) (run_quo64 (P := Try.prog) (t := 3) (n := (64 * 1 + r)) (q := 1) (r := r) (by omega) hr (by omega) _) [1, 2, 4, 5, 25] [(1, .int .i64 ((64 * 1 + r : Nat) : Int)), (2, pt p3 0), (4, pt p7 0), (5, pt p22 0), (25, .int .i64 1)] (by kernel_rfl) (by kernel_rfl) rfl ?_
  refine GL.run (j := 3) 1 [2, 4, 5, 25, 26] [(2, pt p3 0), (4, pt p7 0), (5, pt p22 0), (25, .int .i64 1), (26, .int .i64 ((64 * 1 + r : Nat) : Int))] (by kernel_rfl) rfl ?_
  refine GL.sem (j := 4) (run_rem64 (P := Try.prog) (t := 3) (n := (64 * 1 + r)) (q := 1) (r := r) (by omega) hr _) [2, 4, 5, 25, 27] [(2, pt p3 0), (4, pt p7 0), (5, pt p22 0), (25, .int .i64 1), (27, .int .i64 (r : Int))] (by kernel_rfl) (by kernel_rfl) rfl ?_
  refine GL.run (j := 6) 2 [2, 4, 5, 6, 7] [(2, pt p3 0), (4, pt p7 0), (5, pt p22 0), (6, .int .i64 1), (7, .int .i64 (r : Int))] (by kernel_rfl) rfl ?_
  refine GL.k rfl hK27 (fun _ _ h => h) ?_
  refine G.seqK fun K28 hK29 => ?_
  refine G.seqK fun K30 hK31 => ?_
  refine G.region ?_
  refine GL.run (j := 1) 1 [2, 4, 5, 6, 7, 8] [(2, pt p3 0), (4, pt p7 0), (5, pt p22 0), (6, .int .i64 1), (7, .int .i64 (r : Int)), (8, .int .i64 0)] (by kernel_rfl) rfl ?_
  refine GL.k rfl hK31 (fun _ _ h => h) ?_
  refine G.block ?_
  refine G.unroll 5 ?_
  refine G.seqK fun K32 hK33 => ?_
  refine G.seqK fun K34 hK35 => ?_
  refine G.region ?_
  refine GL.run (j := 4) 4 [2, 4, 5, 6, 7, 8, 31] [(2, pt p3 0), (4, pt p7 0), (5, pt p22 0), (6, .int .i64 1), (7, .int .i64 (r : Int)), (8, .int .i64 0), (31, .bool true)] (by kernel_rfl) rfl ?_
  refine GL.k rfl hK35 (fun _ _ h => h) ?_
  refine G.yes rfl ?_
  refine G.skipK hK33 (fun _ _ h => h) ?_
  refine G.seqK fun K36 hK37 => ?_
  refine G.block ?_
  refine G.seqK fun K38 hK39 => ?_
  refine G.region ?_
  refine GL.run (j := 5) 5 [2, 4, 5, 6, 7, 8, 34, 38] [(2, pt p3 0), (4, pt p7 0), (5, pt p22 0), (6, .int .i64 1), (7, .int .i64 (r : Int)), (8, .int .i64 0), (34, .int .i64 0), (38, pt p3 1)] (by kernel_rfl) rfl ?_
  refine GL.sem (j := 6) (H25.ld (o := 1) (ty := 22) (v := .int .u64 (wd x 1 : Int)) 0 rfl (by kernel_rfl) rfl) [2, 4, 5, 6, 7, 8, 34, 39] [(2, pt p3 0), (4, pt p7 0), (5, pt p22 0), (6, .int .i64 1), (7, .int .i64 (r : Int)), (8, .int .i64 0), (34, .int .i64 0), (39, .int .u64 (wd x 1 : Int))] (by kernel_rfl) (by kernel_rfl) rfl ?_
  refine GL.run (j := 7) 1 [2, 4, 5, 6, 7, 8, 34, 39, 40] [(2, pt p3 0), (4, pt p7 0), (5, pt p22 0), (6, .int .i64 1), (7, .int .i64 (r : Int)), (8, .int .i64 0), (34, .int .i64 0), (39, .int .u64 (wd x 1 : Int)), (40, .int .i64 (r : Int))] (by kernel_rfl) rfl ?_
  refine GL.sem (j := 8) (run_shrN (P := Try.prog) (k' := .i64) (t := 22) (a := (wd x 1)) (r := r) (by omega) _) [2, 4, 5, 6, 7, 8, 34, 41] [(2, pt p3 0), (4, pt p7 0), (5, pt p22 0), (6, .int .i64 1), (7, .int .i64 (r : Int)), (8, .int .i64 0), (34, .int .i64 0), (41, .int .u64 (((wd x 1) / 2 ^ r : Nat) : Int))] (by kernel_rfl) (by kernel_rfl) rfl ?_
  refine GL.run (j := 9) 1 [2, 4, 5, 6, 7, 8, 41, 42] [(2, pt p3 0), (4, pt p7 0), (5, pt p22 0), (6, .int .i64 1), (7, .int .i64 (r : Int)), (8, .int .i64 0), (41, .int .u64 (((wd x 1) / 2 ^ r : Nat) : Int)), (42, pt p22 0)] (by kernel_rfl) rfl ?_
  obtain ⟨w40, r41, H42⟩ := H25.st (P := Try.prog) (o := 0) (ty := 22) (v := .int .u64 (((wd x 1) / 2 ^ r : Nat) : Int)) 2 rfl (by kernel_rfl) (by decide) rfl
  have H42 : Hp w [] [.blk p3 (wl x) 24, .blk p7 z4 24, .blk p22 [.int .u64 (((wd x 1) / 2 ^ r : Nat) : Int), .int .u64 0, .int .u64 0, .int .u64 0] 24] w40 := H42
  refine GL.semU (j := 10) r41 [2, 4, 5, 6, 7, 8] [(2, pt p3 0), (4, pt p7 0), (5, pt p22 0), (6, .int .i64 1), (7, .int .i64 (r : Int)), (8, .int .i64 0)] (by kernel_rfl) rfl rfl rfl ?_
  refine GL.k rfl hK39 (fun _ _ h => h) ?_
  refine G.seqK fun K43 hK44 => ?_
  refine G.region ?_
  refine GL.run (j := 9) 9 [2, 4, 5, 6, 7, 8, 51] [(2, pt p3 0), (4, pt p7 0), (5, pt p22 0), (6, .int .i64 1), (7, .int .i64 (r : Int)), (8, .int .i64 0), (51, .bool (decide (0 < (r : Int))))] (by kernel_rfl) rfl ?_
  refine GL.k rfl hK44 (fun _ _ h => h) ?_
  cases hb45 : (decide (0 < (r : Int)))
  · skip
    have hb45f := of_decide_eq_false hb45
    refine G.no rfl ?_
    refine G.skipK hK37 (fun _ _ h => h) ?_
    refine G.region ?_
    refine GL.run (j := 3) 3 [2, 4, 5, 6, 7, 8] [(2, pt p3 0), (4, pt p7 0), (5, pt p22 0), (6, .int .i64 1), (7, .int .i64 (r : Int)), (8, .int .i64 1)] (by kernel_rfl) rfl ?_
    refine GL.round rfl ?_
    refine G.seqK fun K46 hK47 => ?_
    refine G.seqK fun K48 hK49 => ?_
    refine G.region ?_
    refine GL.run (j := 4) 4 [2, 4, 5, 6, 7, 8, 31] [(2, pt p3 0), (4, pt p7 0), (5, pt p22 0), (6, .int .i64 1), (7, .int .i64 (r : Int)), (8, .int .i64 1), (31, .bool true)] (by kernel_rfl) rfl ?_
    refine GL.k rfl hK49 (fun _ _ h => h) ?_
    refine G.yes rfl ?_
    refine G.skipK hK47 (fun _ _ h => h) ?_
    refine G.seqK fun K50 hK51 => ?_
    refine G.block ?_
    refine G.seqK fun K52 hK53 => ?_
    refine G.region ?_
    refine GL.run (j := 5) 5 [2, 4, 5, 6, 7, 8, 34, 38] [(2, pt p3 0), (4, pt p7 0), (5, pt p22 0), (6, .int .i64 1), (7, .int .i64 (r : Int)), (8, .int .i64 1), (34, .int .i64 1), (38, pt p3 2)] (by kernel_rfl) rfl ?_
    refine GL.sem (j := 6) (H42.ld (o := 2) (ty := 22) (v := .int .u64 (wd x 2 : Int)) 0 rfl (by kernel_rfl) rfl) [2, 4, 5, 6, 7, 8, 34, 39] [(2, pt p3 0), (4, pt p7 0), (5, pt p22 0), (6, .int .i64 1), (7, .int .i64 (r : Int)), (8, .int .i64 1), (34, .int .i64 1), (39, .int .u64 (wd x 2 : Int))] (by kernel_rfl) (by kernel_rfl) rfl ?_
    refine GL.run (j := 7) 1 [2, 4, 5, 6, 7, 8, 34, 39, 40] [(2, pt p3 0), (4, pt p7 0), (5, pt p22 0), (6, .int .i64 1), (7, .int .i64 (r : Int)), (8, .int .i64 1), (34, .int .i64 1), (39, .int .u64 (wd x 2 : Int)), (40, .int .i64 (r : Int))] (by kernel_rfl) rfl ?_
    refine GL.sem (j := 8) (run_shrN (P := Try.prog) (k' := .i64) (t := 22) (a := (wd x 2)) (r := r) (by omega) _) [2, 4, 5, 6, 7, 8, 34, 41] [(2, pt p3 0), (4, pt p7 0), (5, pt p22 0), (6, .int .i64 1), (7, .int .i64 (r : Int)), (8, .int .i64 1), (34, .int .i64 1), (41, .int .u64 (((wd x 2) / 2 ^ r : Nat) : Int))] (by kernel_rfl) (by kernel_rfl) rfl ?_
    refine GL.run (j := 9) 1 [2, 4, 5, 6, 7, 8, 41, 42] [(2, pt p3 0), (4, pt p7 0), (5, pt p22 0), (6, .int .i64 1), (7, .int .i64 (r : Int)), (8, .int .i64 1), (41, .int .u64 (((wd x 2) / 2 ^ r : Nat) : Int)), (42, pt p22 1)] (by kernel_rfl) rfl ?_
    obtain ⟨w54, r55, H56⟩ := H42.st (P := Try.prog) (o := 1) (ty := 22) (v := .int .u64 (((wd x 2) / 2 ^ r : Nat) : Int)) 2 rfl (by kernel_rfl) (by simp) rfl
    have H56 : Hp w [] [.blk p3 (wl x) 24, .blk p7 z4 24, .blk p22 [.int .u64 (((wd x 1) / 2 ^ r : Nat) : Int), .int .u64 (((wd x 2) / 2 ^ r : Nat) : Int), .int .u64 0, .int .u64 0] 24] w54 := H56
    refine GL.semU (j := 10) r55 [2, 4, 5, 6, 7, 8] [(2, pt p3 0), (4, pt p7 0), (5, pt p22 0), (6, .int .i64 1), (7, .int .i64 (r : Int)), (8, .int .i64 1)] (by kernel_rfl) rfl rfl rfl ?_
    refine GL.k rfl hK53 (fun _ _ h => h) ?_
    refine G.seqK fun K57 hK58 => ?_
    refine G.region ?_
    refine GL.run (j := 9) 9 [2, 4, 5, 6, 7, 8, 51] [(2, pt p3 0), (4, pt p7 0), (5, pt p22 0), (6, .int .i64 1), (7, .int .i64 (r : Int)), (8, .int .i64 1), (51, .bool (decide (0 < (r : Int))))] (by kernel_rfl) rfl ?_
    refine GL.k rfl hK58 (fun _ _ h => h) ?_
    have hb59 : (decide (0 < (r : Int))) = false := by assumption
    rw [hb59]
    refine G.no rfl ?_
    refine G.skipK hK51 (fun _ _ h => h) ?_
    refine G.region ?_
    refine GL.run (j := 3) 3 [2, 4, 5, 6, 7, 8] [(2, pt p3 0), (4, pt p7 0), (5, pt p22 0), (6, .int .i64 1), (7, .int .i64 (r : Int)), (8, .int .i64 2)] (by kernel_rfl) rfl ?_
    refine GL.round rfl ?_
    refine G.seqK fun K60 hK61 => ?_
    refine G.seqK fun K62 hK63 => ?_
    refine G.region ?_
    refine GL.run (j := 4) 4 [2, 4, 5, 6, 7, 8, 31] [(2, pt p3 0), (4, pt p7 0), (5, pt p22 0), (6, .int .i64 1), (7, .int .i64 (r : Int)), (8, .int .i64 2), (31, .bool true)] (by kernel_rfl) rfl ?_
    refine GL.k rfl hK63 (fun _ _ h => h) ?_
    refine G.yes rfl ?_
    refine G.skipK hK61 (fun _ _ h => h) ?_
    refine G.seqK fun K64 hK65 => ?_
    refine G.block ?_
    refine G.seqK fun K66 hK67 => ?_
    refine G.region ?_
    refine GL.run (j := 5) 5 [2, 4, 5, 6, 7, 8, 34, 38] [(2, pt p3 0), (4, pt p7 0), (5, pt p22 0), (6, .int .i64 1), (7, .int .i64 (r : Int)), (8, .int .i64 2), (34, .int .i64 2), (38, pt p3 3)] (by kernel_rfl) rfl ?_
    refine GL.sem (j := 6) (H56.ld (o := 3) (ty := 22) (v := .int .u64 (wd x 3 : Int)) 0 rfl (by kernel_rfl) rfl) [2, 4, 5, 6, 7, 8, 34, 39] [(2, pt p3 0), (4, pt p7 0), (5, pt p22 0), (6, .int .i64 1), (7, .int .i64 (r : Int)), (8, .int .i64 2), (34, .int .i64 2), (39, .int .u64 (wd x 3 : Int))] (by kernel_rfl) (by kernel_rfl) rfl ?_
    refine GL.run (j := 7) 1 [2, 4, 5, 6, 7, 8, 34, 39, 40] [(2, pt p3 0), (4, pt p7 0), (5, pt p22 0), (6, .int .i64 1), (7, .int .i64 (r : Int)), (8, .int .i64 2), (34, .int .i64 2), (39, .int .u64 (wd x 3 : Int)), (40, .int .i64 (r : Int))] (by kernel_rfl) rfl ?_
    refine GL.sem (j := 8) (run_shrN (P := Try.prog) (k' := .i64) (t := 22) (a := (wd x 3)) (r := r) (by omega) _) [2, 4, 5, 6, 7, 8, 34, 41] [(2, pt p3 0), (4, pt p7 0), (5, pt p22 0), (6, .int .i64 1), (7, .int .i64 (r : Int)), (8, .int .i64 2), (34, .int .i64 2), (41, .int .u64 (((wd x 3) / 2 ^ r : Nat) : Int))] (by kernel_rfl) (by kernel_rfl) rfl ?_
    refine GL.run (j := 9) 1 [2, 4, 5, 6, 7, 8, 41, 42] [(2, pt p3 0), (4, pt p7 0), (5, pt p22 0), (6, .int .i64 1), (7, .int .i64 (r : Int)), (8, .int .i64 2), (41, .int .u64 (((wd x 3) / 2 ^ r : Nat) : Int)), (42, pt p22 2)] (by kernel_rfl) rfl ?_
    obtain ⟨w68, r69, H70⟩ := H56.st (P := Try.prog) (o := 2) (ty := 22) (v := .int .u64 (((wd x 3) / 2 ^ r : Nat) : Int)) 2 rfl (by kernel_rfl) (by simp) rfl
    have H70 : Hp w [] [.blk p3 (wl x) 24, .blk p7 z4 24, .blk p22 [.int .u64 (((wd x 1) / 2 ^ r : Nat) : Int), .int .u64 (((wd x 2) / 2 ^ r : Nat) : Int), .int .u64 (((wd x 3) / 2 ^ r : Nat) : Int), .int .u64 0] 24] w68 := H70
    refine GL.semU (j := 10) r69 [2, 4, 5, 6, 7, 8] [(2, pt p3 0), (4, pt p7 0), (5, pt p22 0), (6, .int .i64 1), (7, .int .i64 (r : Int)), (8, .int .i64 2)] (by kernel_rfl) rfl rfl rfl ?_
    refine GL.k rfl hK67 (fun _ _ h => h) ?_
    refine G.seqK fun K71 hK72 => ?_
    refine G.region ?_
    refine GL.run (j := 9) 9 [2, 4, 5, 6, 7, 8, 51] [(2, pt p3 0), (4, pt p7 0), (5, pt p22 0), (6, .int .i64 1), (7, .int .i64 (r : Int)), (8, .int .i64 2), (51, .bool false)] (by kernel_rfl) rfl ?_
    refine GL.k rfl hK72 (fun _ _ h => h) ?_
    refine G.no rfl ?_
    refine G.skipK hK65 (fun _ _ h => h) ?_
    refine G.region ?_
    refine GL.run (j := 3) 3 [2, 4, 5, 6, 7, 8] [(2, pt p3 0), (4, pt p7 0), (5, pt p22 0), (6, .int .i64 1), (7, .int .i64 (r : Int)), (8, .int .i64 3)] (by kernel_rfl) rfl ?_
    refine GL.round rfl ?_
    refine G.seqK fun K73 hK74 => ?_
    refine G.seqK fun K75 hK76 => ?_
    refine G.region ?_
    refine GL.run (j := 4) 4 [2, 4, 5, 6, 7, 8, 31] [(2, pt p3 0), (4, pt p7 0), (5, pt p22 0), (6, .int .i64 1), (7, .int .i64 (r : Int)), (8, .int .i64 3), (31, .bool false)] (by kernel_rfl) rfl ?_
    refine GL.k rfl hK76 (fun _ _ h => h) ?_
    refine G.no rfl ?_
    refine G.exitK hK29 (fun _ _ h => h) ?_
    refine G.seqK fun K77 hK78 => ?_
    refine G.region ?_
    refine GL.sem (j := 1) (H70.ldA (o := 0) (ty := 24) (m := 4) (sub := [.int .u64 (((wd x 1) / 2 ^ r : Nat) : Int), .int .u64 (((wd x 2) / 2 ^ r : Nat) : Int), .int .u64 (((wd x 3) / 2 ^ r : Nat) : Int), .int .u64 0]) 2 rfl (by kernel_rfl) rfl rfl) [4, 66] [(4, pt p7 0), (66, .agg #[.int .u64 (((wd x 1) / 2 ^ r : Nat) : Int), .int .u64 (((wd x 2) / 2 ^ r : Nat) : Int), .int .u64 (((wd x 3) / 2 ^ r : Nat) : Int), .int .u64 0])] (by kernel_rfl) (by kernel_rfl) rfl ?_
    obtain ⟨w79, r80, H81⟩ := H70.stA (P := Try.prog) (o := 0) (vs := [.int .u64 (((wd x 1) / 2 ^ r : Nat) : Int), .int .u64 (((wd x 2) / 2 ^ r : Nat) : Int), .int .u64 (((wd x 3) / 2 ^ r : Nat) : Int), .int .u64 0]) (ty := 24) (m := 4) 1 rfl (by kernel_rfl) rfl (by first | decide | simp) (by simp [Value.oneCell'])
    have H81 : Hp w [] [.blk p3 (wl x) 24, .blk p7 [.int .u64 (((wd x 1) / 2 ^ r : Nat) : Int), .int .u64 (((wd x 2) / 2 ^ r : Nat) : Int), .int .u64 (((wd x 3) / 2 ^ r : Nat) : Int), .int .u64 0] 24, .blk p22 [.int .u64 (((wd x 1) / 2 ^ r : Nat) : Int), .int .u64 (((wd x 2) / 2 ^ r : Nat) : Int), .int .u64 (((wd x 3) / 2 ^ r : Nat) : Int), .int .u64 0] 24] w79 := H81
    refine GL.semU (j := 2) r80 [4] [(4, pt p7 0)] (by kernel_rfl) rfl rfl rfl ?_
    refine GL.k rfl hK78 (fun _ _ h => h) ?_
    refine G.ret ?_
    intro F_ hF_ hM_
    refine hRet _ _ (bodyPost_1 rfl (RV.cell rfl (H81.ldA (o := 0) (ty := 24) (m := 4) (sub := [.int .u64 (((wd x 1) / 2 ^ r : Nat) : Int), .int .u64 (((wd x 2) / 2 ^ r : Nat) : Int), .int .u64 (((wd x 3) / 2 ^ r : Nat) : Int), .int .u64 0]) 1 rfl (by kernel_rfl) rfl rfl)) ?_ F_ hF_ hM_)
    rw [← right_fin1' hx (show r = 0 by omega)]
    exact ⟨rfl, H81.sub (List.nil_sublist _)⟩
  · skip
    have hb45f := of_decide_eq_true hb45
    refine G.yes rfl ?_
    refine G.tail 14 (by kernel_rfl) (by kernel_rfl) ?_
    have H82 := H42.drew
    generalize ({ w40 with drawn := w40.drawn + 1 } : World) = w83 at H82 ⊢
    refine GS.run (j := 2) 2 [2, 4, 5, 6, 7, 8, 52, 53] [(2, pt p3 0), (4, pt p7 0), (5, pt p22 0), (6, .int .i64 1), (7, .int .i64 (r : Int)), (8, .int .i64 0), (52, .int .i64 0), (53, pt p22 0)] (by kernel_rfl) rfl rfl ?_
    refine GS.sem (j := 3) (H82.ld (o := 0) (ty := 22) (v := .int .u64 (((wd x 1) / 2 ^ r : Nat) : Int)) 2 rfl (by kernel_rfl) rfl) [2, 4, 5, 6, 7, 8, 52, 54] [(2, pt p3 0), (4, pt p7 0), (5, pt p22 0), (6, .int .i64 1), (7, .int .i64 (r : Int)), (8, .int .i64 0), (52, .int .i64 0), (54, .int .u64 (((wd x 1) / 2 ^ r : Nat) : Int))] (by kernel_rfl) (by kernel_rfl) rfl rfl ?_
    refine GS.run (j := 8) 5 [2, 4, 5, 6, 7, 8, 52, 54, 59] [(2, pt p3 0), (4, pt p7 0), (5, pt p22 0), (6, .int .i64 1), (7, .int .i64 (r : Int)), (8, .int .i64 0), (52, .int .i64 0), (54, .int .u64 (((wd x 1) / 2 ^ r : Nat) : Int)), (59, pt p3 2)] (by kernel_rfl) rfl rfl ?_
    refine GS.sem (j := 9) (H82.ld (o := 2) (ty := 22) (v := .int .u64 (wd x 2 : Int)) 0 rfl (by kernel_rfl) rfl) [2, 4, 5, 6, 7, 8, 52, 54, 60] [(2, pt p3 0), (4, pt p7 0), (5, pt p22 0), (6, .int .i64 1), (7, .int .i64 (r : Int)), (8, .int .i64 0), (52, .int .i64 0), (54, .int .u64 (((wd x 1) / 2 ^ r : Nat) : Int)), (60, .int .u64 (wd x 2 : Int))] (by kernel_rfl) (by kernel_rfl) rfl rfl ?_
    refine GS.run (j := 11) 2 [2, 4, 5, 6, 7, 8, 52, 54, 60, 62] [(2, pt p3 0), (4, pt p7 0), (5, pt p22 0), (6, .int .i64 1), (7, .int .i64 (r : Int)), (8, .int .i64 0), (52, .int .i64 0), (54, .int .u64 (((wd x 1) / 2 ^ r : Nat) : Int)), (60, .int .u64 (wd x 2 : Int)), (62, .int .i64 (IntKind.i64.wrap (64 - (r : Int))))] (by kernel_rfl) rfl rfl ?_
    have e84 : (IntKind.i64.wrap (64 - (r : Int))) = ((64 - r : Nat) : Int) := by rw [in_i64 (by omega)]; omega
    refine GS.eq (M' := [(2, pt p3 0), (4, pt p7 0), (5, pt p22 0), (6, .int .i64 1), (7, .int .i64 (r : Int)), (8, .int .i64 0), (52, .int .i64 0), (54, .int .u64 (((wd x 1) / 2 ^ r : Nat) : Int)), (60, .int .u64 (wd x 2 : Int)), (62, .int .i64 ((64 - r : Nat) : Int))]) (by rw [e84]) ?_
    clear e84
    refine GS.sem (j := 12) (run_shlN (P := Try.prog) (k' := .i64) (t := 22) (a := (wd x 2)) (r := (64 - r)) (by omega) _) [2, 4, 5, 6, 7, 8, 52, 54, 63] [(2, pt p3 0), (4, pt p7 0), (5, pt p22 0), (6, .int .i64 1), (7, .int .i64 (r : Int)), (8, .int .i64 0), (52, .int .i64 0), (54, .int .u64 (((wd x 1) / 2 ^ r : Nat) : Int)), (63, .int .u64 (((wd x 2) * 2 ^ (64 - r) % K : Nat) : Int))] (by kernel_rfl) (by kernel_rfl) rfl rfl ?_
    refine GS.run (j := 14) 2 [2, 4, 5, 6, 7, 8, 64, 65] [(2, pt p3 0), (4, pt p7 0), (5, pt p22 0), (6, .int .i64 1), (7, .int .i64 (r : Int)), (8, .int .i64 0), (64, .int .u64 (Go.bits .or .u64 (((wd x 1) / 2 ^ r : Nat) : Int) (((wd x 2) * 2 ^ (64 - r) % K : Nat) : Int))), (65, pt p22 0)] (by kernel_rfl) rfl rfl ?_
    have e85 : (Go.bits .or .u64 (((wd x 1) / 2 ^ r : Nat) : Int) (((wd x 2) * 2 ^ (64 - r) % K : Nat) : Int)) = (((wd x 1) / 2 ^ r + (wd x 2) * 2 ^ (64 - r) % K : Nat) : Int) := or_shiftR (wd_lt _ _) (by omega)
    refine GS.eq (M' := [(2, pt p3 0), (4, pt p7 0), (5, pt p22 0), (6, .int .i64 1), (7, .int .i64 (r : Int)), (8, .int .i64 0), (64, .int .u64 (((wd x 1) / 2 ^ r + (wd x 2) * 2 ^ (64 - r) % K : Nat) : Int)), (65, pt p22 0)]) (by rw [e85]) ?_
    clear e85
    refine GS.tail rfl ?_
    obtain ⟨w86, r87, H88⟩ := H82.st (P := Try.prog) (o := 0) (ty := 22) (v := .int .u64 (((wd x 1) / 2 ^ r + (wd x 2) * 2 ^ (64 - r) % K : Nat) : Int)) 2 rfl (by kernel_rfl) (by simp) rfl
    have H88 : Hp w [] [.blk p3 (wl x) 24, .blk p7 z4 24, .blk p22 [.int .u64 (((wd x 1) / 2 ^ r + (wd x 2) * 2 ^ (64 - r) % K : Nat) : Int), .int .u64 0, .int .u64 0, .int .u64 0] 24] w86 := H88
    refine GL.semU (j := 15) r87 [2, 4, 5, 6, 7, 8] [(2, pt p3 0), (4, pt p7 0), (5, pt p22 0), (6, .int .i64 1), (7, .int .i64 (r : Int)), (8, .int .i64 0)] (by kernel_rfl) rfl rfl rfl ?_
    refine GL.k rfl hK37 (fun _ _ h => h) ?_
    refine G.region ?_
    refine GL.run (j := 3) 3 [2, 4, 5, 6, 7, 8] [(2, pt p3 0), (4, pt p7 0), (5, pt p22 0), (6, .int .i64 1), (7, .int .i64 (r : Int)), (8, .int .i64 1)] (by kernel_rfl) rfl ?_
    refine GL.round rfl ?_
    refine G.seqK fun K89 hK90 => ?_
    refine G.seqK fun K91 hK92 => ?_
    refine G.region ?_
    refine GL.run (j := 4) 4 [2, 4, 5, 6, 7, 8, 31] [(2, pt p3 0), (4, pt p7 0), (5, pt p22 0), (6, .int .i64 1), (7, .int .i64 (r : Int)), (8, .int .i64 1), (31, .bool true)] (by kernel_rfl) rfl ?_
    refine GL.k rfl hK92 (fun _ _ h => h) ?_
    refine G.yes rfl ?_
    refine G.skipK hK90 (fun _ _ h => h) ?_
    refine G.seqK fun K93 hK94 => ?_
    refine G.block ?_
    refine G.seqK fun K95 hK96 => ?_
    refine G.region ?_
    refine GL.run (j := 5) 5 [2, 4, 5, 6, 7, 8, 34, 38] [(2, pt p3 0), (4, pt p7 0), (5, pt p22 0), (6, .int .i64 1), (7, .int .i64 (r : Int)), (8, .int .i64 1), (34, .int .i64 1), (38, pt p3 2)] (by kernel_rfl) rfl ?_
    refine GL.sem (j := 6) (H88.ld (o := 2) (ty := 22) (v := .int .u64 (wd x 2 : Int)) 0 rfl (by kernel_rfl) rfl) [2, 4, 5, 6, 7, 8, 34, 39] [(2, pt p3 0), (4, pt p7 0), (5, pt p22 0), (6, .int .i64 1), (7, .int .i64 (r : Int)), (8, .int .i64 1), (34, .int .i64 1), (39, .int .u64 (wd x 2 : Int))] (by kernel_rfl) (by kernel_rfl) rfl ?_
    refine GL.run (j := 7) 1 [2, 4, 5, 6, 7, 8, 34, 39, 40] [(2, pt p3 0), (4, pt p7 0), (5, pt p22 0), (6, .int .i64 1), (7, .int .i64 (r : Int)), (8, .int .i64 1), (34, .int .i64 1), (39, .int .u64 (wd x 2 : Int)), (40, .int .i64 (r : Int))] (by kernel_rfl) rfl ?_
    refine GL.sem (j := 8) (run_shrN (P := Try.prog) (k' := .i64) (t := 22) (a := (wd x 2)) (r := r) (by omega) _) [2, 4, 5, 6, 7, 8, 34, 41] [(2, pt p3 0), (4, pt p7 0), (5, pt p22 0), (6, .int .i64 1), (7, .int .i64 (r : Int)), (8, .int .i64 1), (34, .int .i64 1), (41, .int .u64 (((wd x 2) / 2 ^ r : Nat) : Int))] (by kernel_rfl) (by kernel_rfl) rfl ?_
    refine GL.run (j := 9) 1 [2, 4, 5, 6, 7, 8, 41, 42] [(2, pt p3 0), (4, pt p7 0), (5, pt p22 0), (6, .int .i64 1), (7, .int .i64 (r : Int)), (8, .int .i64 1), (41, .int .u64 (((wd x 2) / 2 ^ r : Nat) : Int)), (42, pt p22 1)] (by kernel_rfl) rfl ?_
    obtain ⟨w97, r98, H99⟩ := H88.st (P := Try.prog) (o := 1) (ty := 22) (v := .int .u64 (((wd x 2) / 2 ^ r : Nat) : Int)) 2 rfl (by kernel_rfl) (by simp) rfl
    have H99 : Hp w [] [.blk p3 (wl x) 24, .blk p7 z4 24, .blk p22 [.int .u64 (((wd x 1) / 2 ^ r + (wd x 2) * 2 ^ (64 - r) % K : Nat) : Int), .int .u64 (((wd x 2) / 2 ^ r : Nat) : Int), .int .u64 0, .int .u64 0] 24] w97 := H99
    refine GL.semU (j := 10) r98 [2, 4, 5, 6, 7, 8] [(2, pt p3 0), (4, pt p7 0), (5, pt p22 0), (6, .int .i64 1), (7, .int .i64 (r : Int)), (8, .int .i64 1)] (by kernel_rfl) rfl rfl rfl ?_
    refine GL.k rfl hK96 (fun _ _ h => h) ?_
    refine G.seqK fun K100 hK101 => ?_
    refine G.region ?_
    refine GL.run (j := 9) 9 [2, 4, 5, 6, 7, 8, 51] [(2, pt p3 0), (4, pt p7 0), (5, pt p22 0), (6, .int .i64 1), (7, .int .i64 (r : Int)), (8, .int .i64 1), (51, .bool (decide (0 < (r : Int))))] (by kernel_rfl) rfl ?_
    refine GL.k rfl hK101 (fun _ _ h => h) ?_
    have hb102 : (decide (0 < (r : Int))) = true := by assumption
    rw [hb102]
    refine G.yes rfl ?_
    refine G.tail 14 (by kernel_rfl) (by kernel_rfl) ?_
    have H103 := H99.drew
    generalize ({ w97 with drawn := w97.drawn + 1 } : World) = w104 at H103 ⊢
    refine GS.run (j := 2) 2 [2, 4, 5, 6, 7, 8, 52, 53] [(2, pt p3 0), (4, pt p7 0), (5, pt p22 0), (6, .int .i64 1), (7, .int .i64 (r : Int)), (8, .int .i64 1), (52, .int .i64 1), (53, pt p22 1)] (by kernel_rfl) rfl rfl ?_
    refine GS.sem (j := 3) (H103.ld (o := 1) (ty := 22) (v := .int .u64 (((wd x 2) / 2 ^ r : Nat) : Int)) 2 rfl (by kernel_rfl) rfl) [2, 4, 5, 6, 7, 8, 52, 54] [(2, pt p3 0), (4, pt p7 0), (5, pt p22 0), (6, .int .i64 1), (7, .int .i64 (r : Int)), (8, .int .i64 1), (52, .int .i64 1), (54, .int .u64 (((wd x 2) / 2 ^ r : Nat) : Int))] (by kernel_rfl) (by kernel_rfl) rfl rfl ?_
    refine GS.run (j := 8) 5 [2, 4, 5, 6, 7, 8, 52, 54, 59] [(2, pt p3 0), (4, pt p7 0), (5, pt p22 0), (6, .int .i64 1), (7, .int .i64 (r : Int)), (8, .int .i64 1), (52, .int .i64 1), (54, .int .u64 (((wd x 2) / 2 ^ r : Nat) : Int)), (59, pt p3 3)] (by kernel_rfl) rfl rfl ?_
    refine GS.sem (j := 9) (H103.ld (o := 3) (ty := 22) (v := .int .u64 (wd x 3 : Int)) 0 rfl (by kernel_rfl) rfl) [2, 4, 5, 6, 7, 8, 52, 54, 60] [(2, pt p3 0), (4, pt p7 0), (5, pt p22 0), (6, .int .i64 1), (7, .int .i64 (r : Int)), (8, .int .i64 1), (52, .int .i64 1), (54, .int .u64 (((wd x 2) / 2 ^ r : Nat) : Int)), (60, .int .u64 (wd x 3 : Int))] (by kernel_rfl) (by kernel_rfl) rfl rfl ?_
    refine GS.run (j := 11) 2 [2, 4, 5, 6, 7, 8, 52, 54, 60, 62] [(2, pt p3 0), (4, pt p7 0), (5, pt p22 0), (6, .int .i64 1), (7, .int .i64 (r : Int)), (8, .int .i64 1), (52, .int .i64 1), (54, .int .u64 (((wd x 2) / 2 ^ r : Nat) : Int)), (60, .int .u64 (wd x 3 : Int)), (62, .int .i64 (IntKind.i64.wrap (64 - (r : Int))))] (by kernel_rfl) rfl rfl ?_
    have e105 : (IntKind.i64.wrap (64 - (r : Int))) = ((64 - r : Nat) : Int) := by rw [in_i64 (by omega)]; omega
    refine GS.eq (M' := [(2, pt p3 0), (4, pt p7 0), (5, pt p22 0), (6, .int .i64 1), (7, .int .i64 (r : Int)), (8, .int .i64 1), (52, .int .i64 1), (54, .int .u64 (((wd x 2) / 2 ^ r : Nat) : Int)), (60, .int .u64 (wd x 3 : Int)), (62, .int .i64 ((64 - r : Nat) : Int))]) (by rw [e105]) ?_
    clear e105
    refine GS.sem (j := 12) (run_shlN (P := Try.prog) (k' := .i64) (t := 22) (a := (wd x 3)) (r := (64 - r)) (by omega) _) [2, 4, 5, 6, 7, 8, 52, 54, 63] [(2, pt p3 0), (4, pt p7 0), (5, pt p22 0), (6, .int .i64 1), (7, .int .i64 (r : Int)), (8, .int .i64 1), (52, .int .i64 1), (54, .int .u64 (((wd x 2) / 2 ^ r : Nat) : Int)), (63, .int .u64 (((wd x 3) * 2 ^ (64 - r) % K : Nat) : Int))] (by kernel_rfl) (by kernel_rfl) rfl rfl ?_
    refine GS.run (j := 14) 2 [2, 4, 5, 6, 7, 8, 64, 65] [(2, pt p3 0), (4, pt p7 0), (5, pt p22 0), (6, .int .i64 1), (7, .int .i64 (r : Int)), (8, .int .i64 1), (64, .int .u64 (Go.bits .or .u64 (((wd x 2) / 2 ^ r : Nat) : Int) (((wd x 3) * 2 ^ (64 - r) % K : Nat) : Int))), (65, pt p22 1)] (by kernel_rfl) rfl rfl ?_
    have e106 : (Go.bits .or .u64 (((wd x 2) / 2 ^ r : Nat) : Int) (((wd x 3) * 2 ^ (64 - r) % K : Nat) : Int)) = (((wd x 2) / 2 ^ r + (wd x 3) * 2 ^ (64 - r) % K : Nat) : Int) := or_shiftR (wd_lt _ _) (by omega)
    refine GS.eq (M' := [(2, pt p3 0), (4, pt p7 0), (5, pt p22 0), (6, .int .i64 1), (7, .int .i64 (r : Int)), (8, .int .i64 1), (64, .int .u64 (((wd x 2) / 2 ^ r + (wd x 3) * 2 ^ (64 - r) % K : Nat) : Int)), (65, pt p22 1)]) (by rw [e106]) ?_
    clear e106
    refine GS.tail rfl ?_
    obtain ⟨w107, r108, H109⟩ := H103.st (P := Try.prog) (o := 1) (ty := 22) (v := .int .u64 (((wd x 2) / 2 ^ r + (wd x 3) * 2 ^ (64 - r) % K : Nat) : Int)) 2 rfl (by kernel_rfl) (by simp) rfl
    have H109 : Hp w [] [.blk p3 (wl x) 24, .blk p7 z4 24, .blk p22 [.int .u64 (((wd x 1) / 2 ^ r + (wd x 2) * 2 ^ (64 - r) % K : Nat) : Int), .int .u64 (((wd x 2) / 2 ^ r + (wd x 3) * 2 ^ (64 - r) % K : Nat) : Int), .int .u64 0, .int .u64 0] 24] w107 := H109
    refine GL.semU (j := 15) r108 [2, 4, 5, 6, 7, 8] [(2, pt p3 0), (4, pt p7 0), (5, pt p22 0), (6, .int .i64 1), (7, .int .i64 (r : Int)), (8, .int .i64 1)] (by kernel_rfl) rfl rfl rfl ?_
    refine GL.k rfl hK94 (fun _ _ h => h) ?_
    refine G.region ?_
    refine GL.run (j := 3) 3 [2, 4, 5, 6, 7, 8] [(2, pt p3 0), (4, pt p7 0), (5, pt p22 0), (6, .int .i64 1), (7, .int .i64 (r : Int)), (8, .int .i64 2)] (by kernel_rfl) rfl ?_
    refine GL.round rfl ?_
    refine G.seqK fun K110 hK111 => ?_
    refine G.seqK fun K112 hK113 => ?_
    refine G.region ?_
    refine GL.run (j := 4) 4 [2, 4, 5, 6, 7, 8, 31] [(2, pt p3 0), (4, pt p7 0), (5, pt p22 0), (6, .int .i64 1), (7, .int .i64 (r : Int)), (8, .int .i64 2), (31, .bool true)] (by kernel_rfl) rfl ?_
    refine GL.k rfl hK113 (fun _ _ h => h) ?_
    refine G.yes rfl ?_
    refine G.skipK hK111 (fun _ _ h => h) ?_
    refine G.seqK fun K114 hK115 => ?_
    refine G.block ?_
    refine G.seqK fun K116 hK117 => ?_
    refine G.region ?_
    refine GL.run (j := 5) 5 [2, 4, 5, 6, 7, 8, 34, 38] [(2, pt p3 0), (4, pt p7 0), (5, pt p22 0), (6, .int .i64 1), (7, .int .i64 (r : Int)), (8, .int .i64 2), (34, .int .i64 2), (38, pt p3 3)] (by kernel_rfl) rfl ?_
    refine GL.sem (j := 6) (H109.ld (o := 3) (ty := 22) (v := .int .u64 (wd x 3 : Int)) 0 rfl (by kernel_rfl) rfl) [2, 4, 5, 6, 7, 8, 34, 39] [(2, pt p3 0), (4, pt p7 0), (5, pt p22 0), (6, .int .i64 1), (7, .int .i64 (r : Int)), (8, .int .i64 2), (34, .int .i64 2), (39, .int .u64 (wd x 3 : Int))] (by kernel_rfl) (by kernel_rfl) rfl ?_
    refine GL.run (j := 7) 1 [2, 4, 5, 6, 7, 8, 34, 39, 40] [(2, pt p3 0), (4, pt p7 0), (5, pt p22 0), (6, .int .i64 1), (7, .int .i64 (r : Int)), (8, .int .i64 2), (34, .int .i64 2), (39, .int .u64 (wd x 3 : Int)), (40, .int .i64 (r : Int))] (by kernel_rfl) rfl ?_
    refine GL.sem (j := 8) (run_shrN (P := Try.prog) (k' := .i64) (t := 22) (a := (wd x 3)) (r := r) (by omega) _) [2, 4, 5, 6, 7, 8, 34, 41] [(2, pt p3 0), (4, pt p7 0), (5, pt p22 0), (6, .int .i64 1), (7, .int .i64 (r : Int)), (8, .int .i64 2), (34, .int .i64 2), (41, .int .u64 (((wd x 3) / 2 ^ r : Nat) : Int))] (by kernel_rfl) (by kernel_rfl) rfl ?_
    refine GL.run (j := 9) 1 [2, 4, 5, 6, 7, 8, 41, 42] [(2, pt p3 0), (4, pt p7 0), (5, pt p22 0), (6, .int .i64 1), (7, .int .i64 (r : Int)), (8, .int .i64 2), (41, .int .u64 (((wd x 3) / 2 ^ r : Nat) : Int)), (42, pt p22 2)] (by kernel_rfl) rfl ?_
    obtain ⟨w118, r119, H120⟩ := H109.st (P := Try.prog) (o := 2) (ty := 22) (v := .int .u64 (((wd x 3) / 2 ^ r : Nat) : Int)) 2 rfl (by kernel_rfl) (by simp) rfl
    have H120 : Hp w [] [.blk p3 (wl x) 24, .blk p7 z4 24, .blk p22 [.int .u64 (((wd x 1) / 2 ^ r + (wd x 2) * 2 ^ (64 - r) % K : Nat) : Int), .int .u64 (((wd x 2) / 2 ^ r + (wd x 3) * 2 ^ (64 - r) % K : Nat) : Int), .int .u64 (((wd x 3) / 2 ^ r : Nat) : Int), .int .u64 0] 24] w118 := H120
    refine GL.semU (j := 10) r119 [2, 4, 5, 6, 7, 8] [(2, pt p3 0), (4, pt p7 0), (5, pt p22 0), (6, .int .i64 1), (7, .int .i64 (r : Int)), (8, .int .i64 2)] (by kernel_rfl) rfl rfl rfl ?_
    refine GL.k rfl hK117 (fun _ _ h => h) ?_
    refine G.seqK fun K121 hK122 => ?_
    refine G.region ?_
    refine GL.run (j := 9) 9 [2, 4, 5, 6, 7, 8, 51] [(2, pt p3 0), (4, pt p7 0), (5, pt p22 0), (6, .int .i64 1), (7, .int .i64 (r : Int)), (8, .int .i64 2), (51, .bool false)] (by kernel_rfl) rfl ?_
    refine GL.k rfl hK122 (fun _ _ h => h) ?_
    refine G.no rfl ?_
    refine G.skipK hK115 (fun _ _ h => h) ?_
    refine G.region ?_
    refine GL.run (j := 3) 3 [2, 4, 5, 6, 7, 8] [(2, pt p3 0), (4, pt p7 0), (5, pt p22 0), (6, .int .i64 1), (7, .int .i64 (r : Int)), (8, .int .i64 3)] (by kernel_rfl) rfl ?_
    refine GL.round rfl ?_
    refine G.seqK fun K123 hK124 => ?_
    refine G.seqK fun K125 hK126 => ?_
    refine G.region ?_
    refine GL.run (j := 4) 4 [2, 4, 5, 6, 7, 8, 31] [(2, pt p3 0), (4, pt p7 0), (5, pt p22 0), (6, .int .i64 1), (7, .int .i64 (r : Int)), (8, .int .i64 3), (31, .bool false)] (by kernel_rfl) rfl ?_
    refine GL.k rfl hK126 (fun _ _ h => h) ?_
    refine G.no rfl ?_
    refine G.exitK hK29 (fun _ _ h => h) ?_
    refine G.seqK fun K127 hK128 => ?_
    refine G.region ?_
    refine GL.sem (j := 1) (H120.ldA (o := 0) (ty := 24) (m := 4) (sub := [.int .u64 (((wd x 1) / 2 ^ r + (wd x 2) * 2 ^ (64 - r) % K : Nat) : Int), .int .u64 (((wd x 2) / 2 ^ r + (wd x 3) * 2 ^ (64 - r) % K : Nat) : Int), .int .u64 (((wd x 3) / 2 ^ r : Nat) : Int), .int .u64 0]) 2 rfl (by kernel_rfl) rfl rfl) [4, 66] [(4, pt p7 0), (66, .agg #[.int .u64 (((wd x 1) / 2 ^ r + (wd x 2) * 2 ^ (64 - r) % K : Nat) : Int), .int .u64 (((wd x 2) / 2 ^ r + (wd x 3) * 2 ^ (64 - r) % K : Nat) : Int), .int .u64 (((wd x 3) / 2 ^ r : Nat) : Int), .int .u64 0])] (by kernel_rfl) (by kernel_rfl) rfl ?_
    obtain ⟨w129, r130, H131⟩ := H120.stA (P := Try.prog) (o := 0) (vs := [.int .u64 (((wd x 1) / 2 ^ r + (wd x 2) * 2 ^ (64 - r) % K : Nat) : Int), .int .u64 (((wd x 2) / 2 ^ r + (wd x 3) * 2 ^ (64 - r) % K : Nat) : Int), .int .u64 (((wd x 3) / 2 ^ r : Nat) : Int), .int .u64 0]) (ty := 24) (m := 4) 1 rfl (by kernel_rfl) rfl (by first | decide | simp) (by simp [Value.oneCell'])
    have H131 : Hp w [] [.blk p3 (wl x) 24, .blk p7 [.int .u64 (((wd x 1) / 2 ^ r + (wd x 2) * 2 ^ (64 - r) % K : Nat) : Int), .int .u64 (((wd x 2) / 2 ^ r + (wd x 3) * 2 ^ (64 - r) % K : Nat) : Int), .int .u64 (((wd x 3) / 2 ^ r : Nat) : Int), .int .u64 0] 24, .blk p22 [.int .u64 (((wd x 1) / 2 ^ r + (wd x 2) * 2 ^ (64 - r) % K : Nat) : Int), .int .u64 (((wd x 2) / 2 ^ r + (wd x 3) * 2 ^ (64 - r) % K : Nat) : Int), .int .u64 (((wd x 3) / 2 ^ r : Nat) : Int), .int .u64 0] 24] w129 := H131
    refine GL.semU (j := 2) r130 [4] [(4, pt p7 0)] (by kernel_rfl) rfl rfl rfl ?_
    refine GL.k rfl hK128 (fun _ _ h => h) ?_
    refine G.ret ?_
    intro F_ hF_ hM_
    refine hRet _ _ (bodyPost_1 rfl (RV.cell rfl (H131.ldA (o := 0) (ty := 24) (m := 4) (sub := [.int .u64 (((wd x 1) / 2 ^ r + (wd x 2) * 2 ^ (64 - r) % K : Nat) : Int), .int .u64 (((wd x 2) / 2 ^ r + (wd x 3) * 2 ^ (64 - r) % K : Nat) : Int), .int .u64 (((wd x 3) / 2 ^ r : Nat) : Int), .int .u64 0]) 1 rfl (by kernel_rfl) rfl rfl)) ?_ F_ hF_ hM_)
    rw [← right_fin1 hx (show r ≤ 64 by omega)]
    exact ⟨rfl, H131.sub (List.nil_sublist _)⟩
theorem Right_q2 (x r : Nat) (hx : x < K4) (hr : r < 64) (w : World) : Calls Try.prog 20 #[wv x, .int .i64 ((64 * 2 + r : Nat) : Int)] w fun e w' => e = .returned (wv (x / 2 ^ (64 * 2 + r))) ∧ Hp w [] [] w' := by
  refine calls_G (args := [wv x, .int .i64 ((64 * 2 + r : Nat) : Int)]) Try.func20 rfl Try.ntmps20 rfl ?_
  intro Q0 hRet hNor hPan
  have H := Hp.start w
  have H : Hp w [] [] w := H
  refine G.seqK fun K1 hK2 => ?_
  refine G.region ?_
  obtain ⟨p3, w4, r5, H6⟩ := H.box (P := Try.prog) 24 (wl x) (wv x) rfl
  have H6 : Hp w [] [.blk p3 (wl x) 24] w4 := H6
  refine GL.sem (j := 1) (r5) [1, 2] [(1, .int .i64 ((64 * 2 + r : Nat) : Int)), (2, pt p3 0)] (by kernel_rfl) (by kernel_rfl) rfl ?_
  obtain ⟨p7, w8, r9, H10⟩ := H6.alloc (P := Try.prog) 24 z4 (by kernel_rfl)
  have H10 : Hp w [] [.blk p3 (wl x) 24, .blk p7 z4 24] w8 := H10
  refine GL.sem (j := 2) (r9) [1, 2, 4] [(1, .int .i64 ((64 * 2 + r : Nat) : Int)), (2, pt p3 0), (4, pt p7 0)] (by kernel_rfl) (by kernel_rfl) rfl ?_
  refine GL.k rfl hK2 (fun _ _ h => h) ?_
  refine G.seqK fun K11 hK12 => ?_
  refine G.block ?_
  refine G.seqK fun K13 hK14 => ?_
  refine G.region ?_
  refine GL.run (j := 3) 3 [1, 2, 4, 12] [(1, .int .i64 ((64 * 2 + r : Nat) : Int)), (2, pt p3 0), (4, pt p7 0), (12, .bool (decide (((64 * 2 + r : Nat) : Int) ≤ (-256))))] (by kernel_rfl) rfl ?_
  have hb15 : (decide (((64 * 2 + r : Nat) : Int) ≤ (-256))) = false := decide_eq_false (by omega)
  rw [hb15]
  refine GL.run (j := 7) 4 [1, 2, 4, 9] [(1, .int .i64 ((64 * 2 + r : Nat) : Int)), (2, pt p3 0), (4, pt p7 0), (9, .bool (decide (256 ≤ ((64 * 2 + r : Nat) : Int))))] (by kernel_rfl) rfl ?_
  refine GL.k rfl hK14 (fun _ _ h => h) ?_
  have hb16 : (decide (256 ≤ ((64 * 2 + r : Nat) : Int))) = false := decide_eq_false (by omega)
  rw [hb16]
  refine G.no rfl ?_
  refine G.seqK fun K17 hK18 => ?_
  refine G.region ?_
  refine GL.run (j := 3) 3 [1, 2, 4, 17] [(1, .int .i64 ((64 * 2 + r : Nat) : Int)), (2, pt p3 0), (4, pt p7 0), (17, .bool (decide (((64 * 2 + r : Nat) : Int) < 0)))] (by kernel_rfl) rfl ?_
  refine GL.k rfl hK18 (fun _ _ h => h) ?_
  have hb19 : (decide (((64 * 2 + r : Nat) : Int) < 0)) = false := decide_eq_false (by omega)
  rw [hb19]
  refine G.no rfl ?_
  refine G.skipK hK12 (fun _ _ h => h) ?_
  refine G.seqK fun K20 hK21 => ?_
  refine G.region ?_
  obtain ⟨p22, w23, r24, H25⟩ := H10.alloc (P := Try.prog) 24 z4 (by kernel_rfl)
  have H25 : Hp w [] [.blk p3 (wl x) 24, .blk p7 z4 24, .blk p22 z4 24] w23 := H25
  refine GL.sem (j := 1) (r24) [1, 2, 4, 5] [(1, .int .i64 ((64 * 2 + r : Nat) : Int)), (2, pt p3 0), (4, pt p7 0), (5, pt p22 0)] (by kernel_rfl) (by kernel_rfl) rfl ?_
  refine GL.k rfl hK21 (fun _ _ h => h) ?_
  refine G.seqK fun K26 hK27 => ?_
  refine G.region ?_
  refine GL.run (j := 1) 1 [1, 2, 4, 5, 24] [(1, .int .i64 ((64 * 2 + r : Nat) : Int)), (2, pt p3 0), (4, pt p7 0), (5, pt p22 0), (24, .int .i64 ((64 * 2 + r : Nat) : Int))] (by kernel_rfl) rfl ?_
  refine GL.sem (j := 2) (run_quo64 (P := Try.prog) (t := 3) (n := (64 * 2 + r)) (q := 2) (r := r) (by omega) hr (by omega) _) [1, 2, 4, 5, 25] [(1, .int .i64 ((64 * 2 + r : Nat) : Int)), (2, pt p3 0), (4, pt p7 0), (5, pt p22 0), (25, .int .i64 2)] (by kernel_rfl) (by kernel_rfl) rfl ?_
  refine GL.run (j := 3) 1 [2, 4, 5, 25, 26] [(2, pt p3 0), (4, pt p7 0), (5, pt p22 0), (25, .int .i64 2), (26, .int .i64 ((64 * 2 + r : Nat) : Int))] (by kernel_rfl) rfl ?_
  refine GL.sem (j := 4) (run_rem64 (P := Try.prog) (t := 3) (n := (64 * 2 + r)) (q := 2) (r := r) (by omega) hr _) [2, 4, 5, 25, 27] [(2, pt p3 0), (4, pt p7 0), (5, pt p22 0), (25, .int .i64 2), (27, .int .i64 (r : Int))] (by kernel_rfl) (by kernel_rfl) rfl ?_
  refine GL.run (j := 6) 2 [2, 4, 5, 6, 7] [(2, pt p3 0), (4, pt p7 0), (5, pt p22 0), (6, .int .i64 2), (7, .int .i64 (r : Int))] (by kernel_rfl) rfl ?_
  refine GL.k rfl hK27 (fun _ _ h => h) ?_
  refine G.seqK fun K28 hK29 => ?_
  refine G.seqK fun K30 hK31 => ?_
  refine G.region ?_
  refine GL.run (j := 1) 1 [2, 4, 5, 6, 7, 8] [(2, pt p3 0), (4, pt p7 0), (5, pt p22 0), (6, .int .i64 2), (7, .int .i64 (r : Int)), (8, .int .i64 0)] (by kernel_rfl) rfl ?_
  refine GL.k rfl hK31 (fun _ _ h => h) ?_
  refine G.block ?_
  refine G.unroll 5 ?_
  refine G.seqK fun K32 hK33 => ?_
  refine G.seqK fun K34 hK35 => ?_
  refine G.region ?_
  refine GL.run (j := 4) 4 [2, 4, 5, 6, 7, 8, 31] [(2, pt p3 0), (4, pt p7 0), (5, pt p22 0), (6, .int .i64 2), (7, .int .i64 (r : Int)), (8, .int .i64 0), (31, .bool true)] (by kernel_rfl) rfl ?_
  refine GL.k rfl hK35 (fun _ _ h => h) ?_
  refine G.yes rfl ?_
  refine G.skipK hK33 (fun _ _ h => h) ?_
  refine G.seqK fun K36 hK37 => ?_
  refine G.block ?_
  refine G.seqK fun K38 hK39 => ?_
  refine G.region ?_
  refine GL.run (j := 5) 5 [2, 4, 5, 6, 7, 8, 34, 38] [(2, pt p3 0), (4, pt p7 0), (5, pt p22 0), (6, .int .i64 2), (7, .int .i64 (r : Int)), (8, .int .i64 0), (34, .int .i64 0), (38, pt p3 2)] (by kernel_rfl) rfl ?_
  refine GL.sem (j := 6) (H25.ld (o := 2) (ty := 22) (v := .int .u64 (wd x 2 : Int)) 0 rfl (by kernel_rfl) rfl) [2, 4, 5, 6, 7, 8, 34, 39] [(2, pt p3 0), (4, pt p7 0), (5, pt p22 0), (6, .int .i64 2), (7, .int .i64 (r : Int)), (8, .int .i64 0), (34, .int .i64 0), (39, .int .u64 (wd x 2 : Int))] (by kernel_rfl) (by kernel_rfl) rfl ?_
  refine GL.run (j := 7) 1 [2, 4, 5, 6, 7, 8, 34, 39, 40] [(2, pt p3 0), (4, pt p7 0), (5, pt p22 0), (6, .int .i64 2), (7, .int .i64 (r : Int)), (8, .int .i64 0), (34, .int .i64 0), (39, .int .u64 (wd x 2 : Int)), (40, .int .i64 (r : Int))] (by kernel_rfl) rfl ?_
  refine GL.sem (j := 8) (run_shrN (P := Try.prog) (k' := .i64) (t := 22) (a := (wd x 2)) (r := r) (by omega) _) [2, 4, 5, 6, 7, 8, 34, 41] [(2, pt p3 0), (4, pt p7 0), (5, pt p22 0), (6, .int .i64 2), (7, .int .i64 (r : Int)), (8, .int .i64 0), (34, .int .i64 0), (41, .int .u64 (((wd x 2) / 2 ^ r : Nat) : Int))] (by kernel_rfl) (by kernel_rfl) rfl ?_
  refine GL.run (j := 9) 1 [2, 4, 5, 6, 7, 8, 41, 42] [(2, pt p3 0), (4, pt p7 0), (5, pt p22 0), (6, .int .i64 2), (7, .int .i64 (r : Int)), (8, .int .i64 0), (41, .int .u64 (((wd x 2) / 2 ^ r : Nat) : Int)), (42, pt p22 0)] (by kernel_rfl) rfl ?_
  obtain ⟨w40, r41, H42⟩ := H25.st (P := Try.prog) (o := 0) (ty := 22) (v := .int .u64 (((wd x 2) / 2 ^ r : Nat) : Int)) 2 rfl (by kernel_rfl) (by decide) rfl
  have H42 : Hp w [] [.blk p3 (wl x) 24, .blk p7 z4 24, .blk p22 [.int .u64 (((wd x 2) / 2 ^ r : Nat) : Int), .int .u64 0, .int .u64 0, .int .u64 0] 24] w40 := H42
  refine GL.semU (j := 10) r41 [2, 4, 5, 6, 7, 8] [(2, pt p3 0), (4, pt p7 0), (5, pt p22 0), (6, .int .i64 2), (7, .int .i64 (r : Int)), (8, .int .i64 0)] (by kernel_rfl) rfl rfl rfl ?_
  refine GL.k rfl hK39 (fun _ _ h => h) ?_
  refine G.seqK fun K43 hK44 => ?_
  refine G.region ?_
  refine GL.run (j := 9) 9 [2, 4, 5, 6, 7, 8, 51] [(2, pt p3 0), (4, pt p7 0), (5, pt p22 0), (6, .int .i64 2), (7, .int .i64 (r : Int)), (8, .int .i64 0), (51, .bool (decide (0 < (r : Int))))] (by kernel_rfl) rfl ?_
  refine GL.k rfl hK44 (fun _ _ h => h) ?_
  cases hb45 : (decide (0 < (r : Int)))
  · skip
    have hb45f := of_decide_eq_false hb45
    refine G.no rfl ?_
    refine G.skipK hK37 (fun _ _ h => h) ?_
    refine G.region ?_
    refine GL.run (j := 3) 3 [2, 4, 5, 6, 7, 8] [(2, pt p3 0), (4, pt p7 0), (5, pt p22 0), (6, .int .i64 2), (7, .int .i64 (r : Int)), (8, .int .i64 1)] (by kernel_rfl) rfl ?_
    refine GL.round rfl ?_
    refine G.seqK fun K46 hK47 => ?_
    refine G.seqK fun K48 hK49 => ?_
    refine G.region ?_
    refine GL.run (j := 4) 4 [2, 4, 5, 6, 7, 8, 31] [(2, pt p3 0), (4, pt p7 0), (5, pt p22 0), (6, .int .i64 2), (7, .int .i64 (r : Int)), (8, .int .i64 1), (31, .bool true)] (by kernel_rfl) rfl ?_
    refine GL.k rfl hK49 (fun _ _ h => h) ?_
    refine G.yes rfl ?_
    refine G.skipK hK47 (fun _ _ h => h) ?_
    refine G.seqK fun K50 hK51 => ?_
    refine G.block ?_
    refine G.seqK fun K52 hK53 => ?_
    refine G.region ?_
    refine GL.run (j := 5) 5 [2, 4, 5, 6, 7, 8, 34, 38] [(2, pt p3 0), (4, pt p7 0), (5, pt p22 0), (6, .int .i64 2), (7, .int .i64 (r : Int)), (8, .int .i64 1), (34, .int .i64 1), (38, pt p3 3)] (by kernel_rfl) rfl ?_
    refine GL.sem (j := 6) (H42.ld (o := 3) (ty := 22) (v := .int .u64 (wd x 3 : Int)) 0 rfl (by kernel_rfl) rfl) [2, 4, 5, 6, 7, 8, 34, 39] [(2, pt p3 0), (4, pt p7 0), (5, pt p22 0), (6, .int .i64 2), (7, .int .i64 (r : Int)), (8, .int .i64 1), (34, .int .i64 1), (39, .int .u64 (wd x 3 : Int))] (by kernel_rfl) (by kernel_rfl) rfl ?_
    refine GL.run (j := 7) 1 [2, 4, 5, 6, 7, 8, 34, 39, 40] [(2, pt p3 0), (4, pt p7 0), (5, pt p22 0), (6, .int .i64 2), (7, .int .i64 (r : Int)), (8, .int .i64 1), (34, .int .i64 1), (39, .int .u64 (wd x 3 : Int)), (40, .int .i64 (r : Int))] (by kernel_rfl) rfl ?_
    refine GL.sem (j := 8) (run_shrN (P := Try.prog) (k' := .i64) (t := 22) (a := (wd x 3)) (r := r) (by omega) _) [2, 4, 5, 6, 7, 8, 34, 41] [(2, pt p3 0), (4, pt p7 0), (5, pt p22 0), (6, .int .i64 2), (7, .int .i64 (r : Int)), (8, .int .i64 1), (34, .int .i64 1), (41, .int .u64 (((wd x 3) / 2 ^ r : Nat) : Int))] (by kernel_rfl) (by kernel_rfl) rfl ?_
    refine GL.run (j := 9) 1 [2, 4, 5, 6, 7, 8, 41, 42] [(2, pt p3 0), (4, pt p7 0), (5, pt p22 0), (6, .int .i64 2), (7, .int .i64 (r : Int)), (8, .int .i64 1), (41, .int .u64 (((wd x 3) / 2 ^ r : Nat) : Int)), (42, pt p22 1)] (by kernel_rfl) rfl ?_
    obtain ⟨w54, r55, H56⟩ := H42.st (P := Try.prog) (o := 1) (ty := 22) (v := .int .u64 (((wd x 3) / 2 ^ r : Nat) : Int)) 2 rfl (by kernel_rfl) (by simp) rfl
    have H56 : Hp w [] [.blk p3 (wl x) 24, .blk p7 z4 24, .blk p22 [.int .u64 (((wd x 2) / 2 ^ r : Nat) : Int), .int .u64 (((wd x 3) / 2 ^ r : Nat) : Int), .int .u64 0, .int .u64 0] 24] w54 := H56
    refine GL.semU (j := 10) r55 [2, 4, 5, 6, 7, 8] [(2, pt p3 0), (4, pt p7 0), (5, pt p22 0), (6, .int .i64 2), (7, .int .i64 (r : Int)), (8, .int .i64 1)] (by kernel_rfl) rfl rfl rfl ?_
    refine GL.k rfl hK53 (fun _ _ h => h) ?_
    refine G.seqK fun K57 hK58 => ?_
    refine G.region ?_
    refine GL.run (j := 9) 9 [2, 4, 5, 6, 7, 8, 51] [(2, pt p3 0), (4, pt p7 0), (5, pt p22 0), (6, .int .i64 2), (7, .int .i64 (r : Int)), (8, .int .i64 1), (51, .bool false)] (by kernel_rfl) rfl ?_
    refine GL.k rfl hK58 (fun _ _ h => h) ?_
    refine G.no rfl ?_
    refine G.skipK hK51 (fun _ _ h => h) ?_
    refine G.region ?_
    refine GL.run (j := 3) 3 [2, 4, 5, 6, 7, 8] [(2, pt p3 0), (4, pt p7 0), (5, pt p22 0), (6, .int .i64 2), (7, .int .i64 (r : Int)), (8, .int .i64 2)] (by kernel_rfl) rfl ?_
    refine GL.round rfl ?_
    refine G.seqK fun K59 hK60 => ?_
    refine G.seqK fun K61 hK62 => ?_
    refine G.region ?_
    refine GL.run (j := 4) 4 [2, 4, 5, 6, 7, 8, 31] [(2, pt p3 0), (4, pt p7 0), (5, pt p22 0), (6, .int .i64 2), (7, .int .i64 (r : Int)), (8, .int .i64 2), (31, .bool false)] (by kernel_rfl) rfl ?_
    refine GL.k rfl hK62 (fun _ _ h => h) ?_
    refine G.no rfl ?_
    refine G.exitK hK29 (fun _ _ h => h) ?_
    refine G.seqK fun K63 hK64 => ?_
    refine G.region ?_
    refine GL.sem (j := 1) (H56.ldA (o := 0) (ty := 24) (m := 4) (sub := [.int .u64 (((wd x 2) / 2 ^ r : Nat) : Int), .int .u64 (((wd x 3) / 2 ^ r : Nat) : Int), .int .u64 0, .int .u64 0]) 2 rfl (by kernel_rfl) rfl rfl) [4, 66] [(4, pt p7 0), (66, .agg #[.int .u64 (((wd x 2) / 2 ^ r : Nat) : Int), .int .u64 (((wd x 3) / 2 ^ r : Nat) : Int), .int .u64 0, .int .u64 0])] (by kernel_rfl) (by kernel_rfl) rfl ?_
    obtain ⟨w65, r66, H67⟩ := H56.stA (P := Try.prog) (o := 0) (vs := [.int .u64 (((wd x 2) / 2 ^ r : Nat) : Int), .int .u64 (((wd x 3) / 2 ^ r : Nat) : Int), .int .u64 0, .int .u64 0]) (ty := 24) (m := 4) 1 rfl (by kernel_rfl) rfl (by first | decide | simp) (by simp [Value.oneCell'])
    have H67 : Hp w [] [.blk p3 (wl x) 24, .blk p7 [.int .u64 (((wd x 2) / 2 ^ r : Nat) : Int), .int .u64 (((wd x 3) / 2 ^ r : Nat) : Int), .int .u64 0, .int .u64 0] 24, .blk p22 [.int .u64 (((wd x 2) / 2 ^ r : Nat) : Int), .int .u64 (((wd x 3) / 2 ^ r : Nat) : Int), .int .u64 0, .int .u64 0] 24] w65 := H67
    refine GL.semU (j := 2) r66 [4] [(4, pt p7 0)] (by kernel_rfl) rfl rfl rfl ?_
    refine GL.k rfl hK64 (fun _ _ h => h) ?_
    refine G.ret ?_
    intro F_ hF_ hM_
    refine hRet _ _ (bodyPost_1 rfl (RV.cell rfl (H67.ldA (o := 0) (ty := 24) (m := 4) (sub := [.int .u64 (((wd x 2) / 2 ^ r : Nat) : Int), .int .u64 (((wd x 3) / 2 ^ r : Nat) : Int), .int .u64 0, .int .u64 0]) 1 rfl (by kernel_rfl) rfl rfl)) ?_ F_ hF_ hM_)
    rw [← right_fin2' hx (show r = 0 by omega)]
    exact ⟨rfl, H67.sub (List.nil_sublist _)⟩
  · skip
    have hb45f := of_decide_eq_true hb45
    refine G.yes rfl ?_
    refine G.tail 14 (by kernel_rfl) (by kernel_rfl) ?_
    have H68 := H42.drew
    generalize ({ w40 with drawn := w40.drawn + 1 } : World) = w69 at H68 ⊢
    refine GS.run (j := 2) 2 [2, 4, 5, 6, 7, 8, 52, 53] [(2, pt p3 0), (4, pt p7 0), (5, pt p22 0), (6, .int .i64 2), (7, .int .i64 (r : Int)), (8, .int .i64 0), (52, .int .i64 0), (53, pt p22 0)] (by kernel_rfl) rfl rfl ?_
    refine GS.sem (j := 3) (H68.ld (o := 0) (ty := 22) (v := .int .u64 (((wd x 2) / 2 ^ r : Nat) : Int)) 2 rfl (by kernel_rfl) rfl) [2, 4, 5, 6, 7, 8, 52, 54] [(2, pt p3 0), (4, pt p7 0), (5, pt p22 0), (6, .int .i64 2), (7, .int .i64 (r : Int)), (8, .int .i64 0), (52, .int .i64 0), (54, .int .u64 (((wd x 2) / 2 ^ r : Nat) : Int))] (by kernel_rfl) (by kernel_rfl) rfl rfl ?_
    refine GS.run (j := 8) 5 [2, 4, 5, 6, 7, 8, 52, 54, 59] [(2, pt p3 0), (4, pt p7 0), (5, pt p22 0), (6, .int .i64 2), (7, .int .i64 (r : Int)), (8, .int .i64 0), (52, .int .i64 0), (54, .int .u64 (((wd x 2) / 2 ^ r : Nat) : Int)), (59, pt p3 3)] (by kernel_rfl) rfl rfl ?_
    refine GS.sem (j := 9) (H68.ld (o := 3) (ty := 22) (v := .int .u64 (wd x 3 : Int)) 0 rfl (by kernel_rfl) rfl) [2, 4, 5, 6, 7, 8, 52, 54, 60] [(2, pt p3 0), (4, pt p7 0), (5, pt p22 0), (6, .int .i64 2), (7, .int .i64 (r : Int)), (8, .int .i64 0), (52, .int .i64 0), (54, .int .u64 (((wd x 2) / 2 ^ r : Nat) : Int)), (60, .int .u64 (wd x 3 : Int))] (by kernel_rfl) (by kernel_rfl) rfl rfl ?_
    refine GS.run (j := 11) 2 [2, 4, 5, 6, 7, 8, 52, 54, 60, 62] [(2, pt p3 0), (4, pt p7 0), (5, pt p22 0), (6, .int .i64 2), (7, .int .i64 (r : Int)), (8, .int .i64 0), (52, .int .i64 0), (54, .int .u64 (((wd x 2) / 2 ^ r : Nat) : Int)), (60, .int .u64 (wd x 3 : Int)), (62, .int .i64 (IntKind.i64.wrap (64 - (r : Int))))] (by kernel_rfl) rfl rfl ?_
    have e70 : (IntKind.i64.wrap (64 - (r : Int))) = ((64 - r : Nat) : Int) := by rw [in_i64 (by omega)]; omega
    refine GS.eq (M' := [(2, pt p3 0), (4, pt p7 0), (5, pt p22 0), (6, .int .i64 2), (7, .int .i64 (r : Int)), (8, .int .i64 0), (52, .int .i64 0), (54, .int .u64 (((wd x 2) / 2 ^ r : Nat) : Int)), (60, .int .u64 (wd x 3 : Int)), (62, .int .i64 ((64 - r : Nat) : Int))]) (by rw [e70]) ?_
    clear e70
    refine GS.sem (j := 12) (run_shlN (P := Try.prog) (k' := .i64) (t := 22) (a := (wd x 3)) (r := (64 - r)) (by omega) _) [2, 4, 5, 6, 7, 8, 52, 54, 63] [(2, pt p3 0), (4, pt p7 0), (5, pt p22 0), (6, .int .i64 2), (7, .int .i64 (r : Int)), (8, .int .i64 0), (52, .int .i64 0), (54, .int .u64 (((wd x 2) / 2 ^ r : Nat) : Int)), (63, .int .u64 (((wd x 3) * 2 ^ (64 - r) % K : Nat) : Int))] (by kernel_rfl) (by kernel_rfl) rfl rfl ?_
    refine GS.run (j := 14) 2 [2, 4, 5, 6, 7, 8, 64, 65] [(2, pt p3 0), (4, pt p7 0), (5, pt p22 0), (6, .int .i64 2), (7, .int .i64 (r : Int)), (8, .int .i64 0), (64, .int .u64 (Go.bits .or .u64 (((wd x 2) / 2 ^ r : Nat) : Int) (((wd x 3) * 2 ^ (64 - r) % K : Nat) : Int))), (65, pt p22 0)] (by kernel_rfl) rfl rfl ?_
    have e71 : (Go.bits .or .u64 (((wd x 2) / 2 ^ r : Nat) : Int) (((wd x 3) * 2 ^ (64 - r) % K : Nat) : Int)) = (((wd x 2) / 2 ^ r + (wd x 3) * 2 ^ (64 - r) % K : Nat) : Int) := or_shiftR (wd_lt _ _) (by omega)
    refine GS.eq (M' := [(2, pt p3 0), (4, pt p7 0), (5, pt p22 0), (6, .int .i64 2), (7, .int .i64 (r : Int)), (8, .int .i64 0), (64, .int .u64 (((wd x 2) / 2 ^ r + (wd x 3) * 2 ^ (64 - r) % K : Nat) : Int)), (65, pt p22 0)]) (by rw [e71]) ?_
    clear e71
    refine GS.tail rfl ?_
    obtain ⟨w72, r73, H74⟩ := H68.st (P := Try.prog) (o := 0) (ty := 22) (v := .int .u64 (((wd x 2) / 2 ^ r + (wd x 3) * 2 ^ (64 - r) % K : Nat) : Int)) 2 rfl (by kernel_rfl) (by simp) rfl
    have H74 : Hp w [] [.blk p3 (wl x) 24, .blk p7 z4 24, .blk p22 [.int .u64 (((wd x 2) / 2 ^ r + (wd x 3) * 2 ^ (64 - r) % K : Nat) : Int), .int .u64 0, .int .u64 0, .int .u64 0] 24] w72 := H74
    refine GL.semU (j := 15) r73 [2, 4, 5, 6, 7, 8] [(2, pt p3 0), (4, pt p7 0), (5, pt p22 0), (6, .int .i64 2), (7, .int .i64 (r : Int)), (8, .int .i64 0)] (by kernel_rfl) rfl rfl rfl ?_
    refine GL.k rfl hK37 (fun _ _ h => h) ?_
    refine G.region ?_
    refine GL.run (j := 3) 3 [2, 4, 5, 6, 7, 8] [(2, pt p3 0), (4, pt p7 0), (5, pt p22 0), (6, .int .i64 2), (7, .int .i64 (r : Int)), (8, .int .i64 1)] (by kernel_rfl) rfl ?_
    refine GL.round rfl ?_
    refine G.seqK fun K75 hK76 => ?_
    refine G.seqK fun K77 hK78 => ?_
    refine G.region ?_
    refine GL.run (j := 4) 4 [2, 4, 5, 6, 7, 8, 31] [(2, pt p3 0), (4, pt p7 0), (5, pt p22 0), (6, .int .i64 2), (7, .int .i64 (r : Int)), (8, .int .i64 1), (31, .bool true)] (by kernel_rfl) rfl ?_
    refine GL.k rfl hK78 (fun _ _ h => h) ?_
    refine G.yes rfl ?_
    refine G.skipK hK76 (fun _ _ h => h) ?_
    refine G.seqK fun K79 hK80 => ?_
    refine G.block ?_
    refine G.seqK fun K81 hK82 => ?_
    refine G.region ?_
    refine GL.run (j := 5) 5 [2, 4, 5, 6, 7, 8, 34, 38] [(2, pt p3 0), (4, pt p7 0), (5, pt p22 0), (6, .int .i64 2), (7, .int .i64 (r : Int)), (8, .int .i64 1), (34, .int .i64 1), (38, pt p3 3)] (by kernel_rfl) rfl ?_
    refine GL.sem (j := 6) (H74.ld (o := 3) (ty := 22) (v := .int .u64 (wd x 3 : Int)) 0 rfl (by kernel_rfl) rfl) [2, 4, 5, 6, 7, 8, 34, 39] [(2, pt p3 0), (4, pt p7 0), (5, pt p22 0), (6, .int .i64 2), (7, .int .i64 (r : Int)), (8, .int .i64 1), (34, .int .i64 1), (39, .int .u64 (wd x 3 : Int))] (by kernel_rfl) (by kernel_rfl) rfl ?_
    refine GL.run (j := 7) 1 [2, 4, 5, 6, 7, 8, 34, 39, 40] [(2, pt p3 0), (4, pt p7 0), (5, pt p22 0), (6, .int .i64 2), (7, .int .i64 (r : Int)), (8, .int .i64 1), (34, .int .i64 1), (39, .int .u64 (wd x 3 : Int)), (40, .int .i64 (r : Int))] (by kernel_rfl) rfl ?_
    refine GL.sem (j := 8) (run_shrN (P := Try.prog) (k' := .i64) (t := 22) (a := (wd x 3)) (r := r) (by omega) _) [2, 4, 5, 6, 7, 8, 34, 41] [(2, pt p3 0), (4, pt p7 0), (5, pt p22 0), (6, .int .i64 2), (7, .int .i64 (r : Int)), (8, .int .i64 1), (34, .int .i64 1), (41, .int .u64 (((wd x 3) / 2 ^ r : Nat) : Int))] (by kernel_rfl) (by kernel_rfl) rfl ?_
    refine GL.run (j := 9) 1 [2, 4, 5, 6, 7, 8, 41, 42] [(2, pt p3 0), (4, pt p7 0), (5, pt p22 0), (6, .int .i64 2), (7, .int .i64 (r : Int)), (8, .int .i64 1), (41, .int .u64 (((wd x 3) / 2 ^ r : Nat) : Int)), (42, pt p22 1)] (by kernel_rfl) rfl ?_
    obtain ⟨w83, r84, H85⟩ := H74.st (P := Try.prog) (o := 1) (ty := 22) (v := .int .u64 (((wd x 3) / 2 ^ r : Nat) : Int)) 2 rfl (by kernel_rfl) (by simp) rfl
    have H85 : Hp w [] [.blk p3 (wl x) 24, .blk p7 z4 24, .blk p22 [.int .u64 (((wd x 2) / 2 ^ r + (wd x 3) * 2 ^ (64 - r) % K : Nat) : Int), .int .u64 (((wd x 3) / 2 ^ r : Nat) : Int), .int .u64 0, .int .u64 0] 24] w83 := H85
    refine GL.semU (j := 10) r84 [2, 4, 5, 6, 7, 8] [(2, pt p3 0), (4, pt p7 0), (5, pt p22 0), (6, .int .i64 2), (7, .int .i64 (r : Int)), (8, .int .i64 1)] (by kernel_rfl) rfl rfl rfl ?_
    refine GL.k rfl hK82 (fun _ _ h => h) ?_
    refine G.seqK fun K86 hK87 => ?_
    refine G.region ?_
    refine GL.run (j := 9) 9 [2, 4, 5, 6, 7, 8, 51] [(2, pt p3 0), (4, pt p7 0), (5, pt p22 0), (6, .int .i64 2), (7, .int .i64 (r : Int)), (8, .int .i64 1), (51, .bool false)] (by kernel_rfl) rfl ?_
    refine GL.k rfl hK87 (fun _ _ h => h) ?_
    refine G.no rfl ?_
    refine G.skipK hK80 (fun _ _ h => h) ?_
    refine G.region ?_
    refine GL.run (j := 3) 3 [2, 4, 5, 6, 7, 8] [(2, pt p3 0), (4, pt p7 0), (5, pt p22 0), (6, .int .i64 2), (7, .int .i64 (r : Int)), (8, .int .i64 2)] (by kernel_rfl) rfl ?_
    refine GL.round rfl ?_
    refine G.seqK fun K88 hK89 => ?_
    refine G.seqK fun K90 hK91 => ?_
    refine G.region ?_
    refine GL.run (j := 4) 4 [2, 4, 5, 6, 7, 8, 31] [(2, pt p3 0), (4, pt p7 0), (5, pt p22 0), (6, .int .i64 2), (7, .int .i64 (r : Int)), (8, .int .i64 2), (31, .bool false)] (by kernel_rfl) rfl ?_
    refine GL.k rfl hK91 (fun _ _ h => h) ?_
    refine G.no rfl ?_
    refine G.exitK hK29 (fun _ _ h => h) ?_
    refine G.seqK fun K92 hK93 => ?_
    refine G.region ?_
    refine GL.sem (j := 1) (H85.ldA (o := 0) (ty := 24) (m := 4) (sub := [.int .u64 (((wd x 2) / 2 ^ r + (wd x 3) * 2 ^ (64 - r) % K : Nat) : Int), .int .u64 (((wd x 3) / 2 ^ r : Nat) : Int), .int .u64 0, .int .u64 0]) 2 rfl (by kernel_rfl) rfl rfl) [4, 66] [(4, pt p7 0), (66, .agg #[.int .u64 (((wd x 2) / 2 ^ r + (wd x 3) * 2 ^ (64 - r) % K : Nat) : Int), .int .u64 (((wd x 3) / 2 ^ r : Nat) : Int), .int .u64 0, .int .u64 0])] (by kernel_rfl) (by kernel_rfl) rfl ?_
    obtain ⟨w94, r95, H96⟩ := H85.stA (P := Try.prog) (o := 0) (vs := [.int .u64 (((wd x 2) / 2 ^ r + (wd x 3) * 2 ^ (64 - r) % K : Nat) : Int), .int .u64 (((wd x 3) / 2 ^ r : Nat) : Int), .int .u64 0, .int .u64 0]) (ty := 24) (m := 4) 1 rfl (by kernel_rfl) rfl (by first | decide | simp) (by simp [Value.oneCell'])
    have H96 : Hp w [] [.blk p3 (wl x) 24, .blk p7 [.int .u64 (((wd x 2) / 2 ^ r + (wd x 3) * 2 ^ (64 - r) % K : Nat) : Int), .int .u64 (((wd x 3) / 2 ^ r : Nat) : Int), .int .u64 0, .int .u64 0] 24, .blk p22 [.int .u64 (((wd x 2) / 2 ^ r + (wd x 3) * 2 ^ (64 - r) % K : Nat) : Int), .int .u64 (((wd x 3) / 2 ^ r : Nat) : Int), .int .u64 0, .int .u64 0] 24] w94 := H96
    refine GL.semU (j := 2) r95 [4] [(4, pt p7 0)] (by kernel_rfl) rfl rfl rfl ?_
    refine GL.k rfl hK93 (fun _ _ h => h) ?_
    refine G.ret ?_
    intro F_ hF_ hM_
    refine hRet _ _ (bodyPost_1 rfl (RV.cell rfl (H96.ldA (o := 0) (ty := 24) (m := 4) (sub := [.int .u64 (((wd x 2) / 2 ^ r + (wd x 3) * 2 ^ (64 - r) % K : Nat) : Int), .int .u64 (((wd x 3) / 2 ^ r : Nat) : Int), .int .u64 0, .int .u64 0]) 1 rfl (by kernel_rfl) rfl rfl)) ?_ F_ hF_ hM_)
    rw [← right_fin2 hx (show r ≤ 64 by omega)]
    exact ⟨rfl, H96.sub (List.nil_sublist _)⟩
theorem Right_q3 (x r : Nat) (hx : x < K4) (hr : r < 64) (w : World) : Calls Try.prog 20 #[wv x, .int .i64 ((64 * 3 + r : Nat) : Int)] w fun e w' => e = .returned (wv (x / 2 ^ (64 * 3 + r))) ∧ Hp w [] [] w' := by
  refine calls_G (args := [wv x, .int .i64 ((64 * 3 + r : Nat) : Int)]) Try.func20 rfl Try.ntmps20 rfl ?_
  intro Q0 hRet hNor hPan
  have H := Hp.start w
  have H : Hp w [] [] w := H
  refine G.seqK fun K1 hK2 => ?_
  refine G.region ?_
  obtain ⟨p3, w4, r5, H6⟩ := H.box (P := Try.prog) 24 (wl x) (wv x) rfl
  have H6 : Hp w [] [.blk p3 (wl x) 24] w4 := H6
  refine GL.sem (j := 1) (r5) [1, 2] [(1, .int .i64 ((64 * 3 + r : Nat) : Int)), (2, pt p3 0)] (by kernel_rfl) (by kernel_rfl) rfl ?_
  obtain ⟨p7, w8, r9, H10⟩ := H6.alloc (P := Try.prog) 24 z4 (by kernel_rfl)
  have H10 : Hp w [] [.blk p3 (wl x) 24, .blk p7 z4 24] w8 := H10
  refine GL.sem (j := 2) (r9) [1, 2, 4] [(1, .int .i64 ((64 * 3 + r : Nat) : Int)), (2, pt p3 0), (4, pt p7 0)] (by kernel_rfl) (by kernel_rfl) rfl ?_
  refine GL.k rfl hK2 (fun _ _ h => h) ?_
  refine G.seqK fun K11 hK12 => ?_
  refine G.block ?_
  refine G.seqK fun K13 hK14 => ?_
  refine G.region ?_
  refine GL.run (j := 3) 3 [1, 2, 4, 12] [(1, .int .i64 ((64 * 3 + r : Nat) : Int)), (2, pt p3 0), (4, pt p7 0), (12, .bool (decide (((64 * 3 + r : Nat) : Int) ≤ (-256))))] (by kernel_rfl) rfl ?_
  have hb15 : (decide (((64 * 3 + r : Nat) : Int) ≤ (-256))) = false := decide_eq_false (by omega)
  rw [hb15]
  refine GL.run (j := 7) 4 [1, 2, 4, 9] [(1, .int .i64 ((64 * 3 + r : Nat) : Int)), (2, pt p3 0), (4, pt p7 0), (9, .bool (decide (256 ≤ ((64 * 3 + r : Nat) : Int))))] (by kernel_rfl) rfl ?_
  refine GL.k rfl hK14 (fun _ _ h => h) ?_
  have hb16 : (decide (256 ≤ ((64 * 3 + r : Nat) : Int))) = false := decide_eq_false (by omega)
  rw [hb16]
  refine G.no rfl ?_
  refine G.seqK fun K17 hK18 => ?_
  refine G.region ?_
  refine GL.run (j := 3) 3 [1, 2, 4, 17] [(1, .int .i64 ((64 * 3 + r : Nat) : Int)), (2, pt p3 0), (4, pt p7 0), (17, .bool (decide (((64 * 3 + r : Nat) : Int) < 0)))] (by kernel_rfl) rfl ?_
  refine GL.k rfl hK18 (fun _ _ h => h) ?_
  have hb19 : (decide (((64 * 3 + r : Nat) : Int) < 0)) = false := decide_eq_false (by omega)
  rw [hb19]
  refine G.no rfl ?_
  refine G.skipK hK12 (fun _ _ h => h) ?_
  refine G.seqK fun K20 hK21 => ?_
  refine G.region ?_
  obtain ⟨p22, w23, r24, H25⟩ := H10.alloc (P := Try.prog) 24 z4 (by kernel_rfl)
  have H25 : Hp w [] [.blk p3 (wl x) 24, .blk p7 z4 24, .blk p22 z4 24] w23 := H25
  refine GL.sem (j := 1) (r24) [1, 2, 4, 5] [(1, .int .i64 ((64 * 3 + r : Nat) : Int)), (2, pt p3 0), (4, pt p7 0), (5, pt p22 0)] (by kernel_rfl) (by kernel_rfl) rfl ?_
  refine GL.k rfl hK21 (fun _ _ h => h) ?_
  refine G.seqK fun K26 hK27 => ?_
  refine G.region ?_
  refine GL.run (j := 1) 1 [1, 2, 4, 5, 24] [(1, .int .i64 ((64 * 3 + r : Nat) : Int)), (2, pt p3 0), (4, pt p7 0), (5, pt p22 0), (24, .int .i64 ((64 * 3 + r : Nat) : Int))] (by kernel_rfl) rfl ?_
  refine GL.sem (j := 2) (run_quo64 (P := Try.prog) (t := 3) (n := (64 * 3 + r)) (q := 3) (r := r) (by omega) hr (by omega) _) [1, 2, 4, 5, 25] [(1, .int .i64 ((64 * 3 + r : Nat) : Int)), (2, pt p3 0), (4, pt p7 0), (5, pt p22 0), (25, .int .i64 3)] (by kernel_rfl) (by kernel_rfl) rfl ?_
  refine GL.run (j := 3) 1 [2, 4, 5, 25, 26] [(2, pt p3 0), (4, pt p7 0), (5, pt p22 0), (25, .int .i64 3), (26, .int .i64 ((64 * 3 + r : Nat) : Int))] (by kernel_rfl) rfl ?_
  refine GL.sem (j := 4) (run_rem64 (P := Try.prog) (t := 3) (n := (64 * 3 + r)) (q := 3) (r := r) (by omega) hr _) [2, 4, 5, 25, 27] [(2, pt p3 0), (4, pt p7 0), (5, pt p22 0), (25, .int .i64 3), (27, .int .i64 (r : Int))] (by kernel_rfl) (by kernel_rfl) rfl ?_
  refine GL.run (j := 6) 2 [2, 4, 5, 6, 7] [(2, pt p3 0), (4, pt p7 0), (5, pt p22 0), (6, .int .i64 3), (7, .int .i64 (r : Int))] (by kernel_rfl) rfl ?_
  refine GL.k rfl hK27 (fun _ _ h => h) ?_
  refine G.seqK fun K28 hK29 => ?_
  refine G.seqK fun K30 hK31 => ?_
  refine G.region ?_
  refine GL.run (j := 1) 1 [2, 4, 5, 6, 7, 8] [(2, pt p3 0), (4, pt p7 0), (5, pt p22 0), (6, .int .i64 3), (7, .int .i64 (r : Int)), (8, .int .i64 0)] (by kernel_rfl) rfl ?_
  refine GL.k rfl hK31 (fun _ _ h => h) ?_
  refine G.block ?_
  refine G.unroll 5 ?_
  refine G.seqK fun K32 hK33 => ?_
  refine G.seqK fun K34 hK35 => ?_
  refine G.region ?_
  refine GL.run (j := 4) 4 [2, 4, 5, 6, 7, 8, 31] [(2, pt p3 0), (4, pt p7 0), (5, pt p22 0), (6, .int .i64 3), (7, .int .i64 (r : Int)), (8, .int .i64 0), (31, .bool true)] (by kernel_rfl) rfl ?_
  refine GL.k rfl hK35 (fun _ _ h => h) ?_
  refine G.yes rfl ?_
  refine G.skipK hK33 (fun _ _ h => h) ?_
  refine G.seqK fun K36 hK37 => ?_
  refine G.block ?_
  refine G.seqK fun K38 hK39 => ?_
  refine G.region ?_
  refine GL.run (j := 5) 5 [2, 4, 5, 6, 7, 8, 34, 38] [(2, pt p3 0), (4, pt p7 0), (5, pt p22 0), (6, .int .i64 3), (7, .int .i64 (r : Int)), (8, .int .i64 0), (34, .int .i64 0), (38, pt p3 3)] (by kernel_rfl) rfl ?_
  refine GL.sem (j := 6) (H25.ld (o := 3) (ty := 22) (v := .int .u64 (wd x 3 : Int)) 0 rfl (by kernel_rfl) rfl) [2, 4, 5, 6, 7, 8, 34, 39] [(2, pt p3 0), (4, pt p7 0), (5, pt p22 0), (6, .int .i64 3), (7, .int .i64 (r : Int)), (8, .int .i64 0), (34, .int .i64 0), (39, .int .u64 (wd x 3 : Int))] (by kernel_rfl) (by kernel_rfl) rfl ?_
  refine GL.run (j := 7) 1 [2, 4, 5, 6, 7, 8, 34, 39, 40] [(2, pt p3 0), (4, pt p7 0), (5, pt p22 0), (6, .int .i64 3), (7, .int .i64 (r : Int)), (8, .int .i64 0), (34, .int .i64 0), (39, .int .u64 (wd x 3 : Int)), (40, .int .i64 (r : Int))] (by kernel_rfl) rfl ?_
  refine GL.sem (j := 8) (run_shrN (P := Try.prog) (k' := .i64) (t := 22) (a := (wd x 3)) (r := r) (by omega) _) [2, 4, 5, 6, 7, 8, 34, 41] [(2, pt p3 0), (4, pt p7 0), (5, pt p22 0), (6, .int .i64 3), (7, .int .i64 (r : Int)), (8, .int .i64 0), (34, .int .i64 0), (41, .int .u64 (((wd x 3) / 2 ^ r : Nat) : Int))] (by kernel_rfl) (by kernel_rfl) rfl ?_
  refine GL.run (j := 9) 1 [2, 4, 5, 6, 7, 8, 41, 42] [(2, pt p3 0), (4, pt p7 0), (5, pt p22 0), (6, .int .i64 3), (7, .int .i64 (r : Int)), (8, .int .i64 0), (41, .int .u64 (((wd x 3) / 2 ^ r : Nat) : Int)), (42, pt p22 0)] (by kernel_rfl) rfl ?_
  obtain ⟨w40, r41, H42⟩ := H25.st (P := Try.prog) (o := 0) (ty := 22) (v := .int .u64 (((wd x 3) / 2 ^ r : Nat) : Int)) 2 rfl (by kernel_rfl) (by decide) rfl
  have H42 : Hp w [] [.blk p3 (wl x) 24, .blk p7 z4 24, .blk p22 [.int .u64 (((wd x 3) / 2 ^ r : Nat) : Int), .int .u64 0, .int .u64 0, .int .u64 0] 24] w40 := H42
  refine GL.semU (j := 10) r41 [2, 4, 5, 6, 7, 8] [(2, pt p3 0), (4, pt p7 0), (5, pt p22 0), (6, .int .i64 3), (7, .int .i64 (r : Int)), (8, .int .i64 0)] (by kernel_rfl) rfl rfl rfl ?_
  refine GL.k rfl hK39 (fun _ _ h => h) ?_
  refine G.seqK fun K43 hK44 => ?_
  refine G.region ?_
  refine GL.run (j := 9) 9 [2, 4, 5, 6, 7, 8, 51] [(2, pt p3 0), (4, pt p7 0), (5, pt p22 0), (6, .int .i64 3), (7, .int .i64 (r : Int)), (8, .int .i64 0), (51, .bool false)] (by kernel_rfl) rfl ?_
  refine GL.k rfl hK44 (fun _ _ h => h) ?_
  refine G.no rfl ?_
  refine G.skipK hK37 (fun _ _ h => h) ?_
  refine G.region ?_
  refine GL.run (j := 3) 3 [2, 4, 5, 6, 7, 8] [(2, pt p3 0), (4, pt p7 0), (5, pt p22 0), (6, .int .i64 3), (7, .int .i64 (r : Int)), (8, .int .i64 1)] (by kernel_rfl) rfl ?_
  refine GL.round rfl ?_
  refine G.seqK fun K45 hK46 => ?_
  refine G.seqK fun K47 hK48 => ?_
  refine G.region ?_
  refine GL.run (j := 4) 4 [2, 4, 5, 6, 7, 8, 31] [(2, pt p3 0), (4, pt p7 0), (5, pt p22 0), (6, .int .i64 3), (7, .int .i64 (r : Int)), (8, .int .i64 1), (31, .bool false)] (by kernel_rfl) rfl ?_
  refine GL.k rfl hK48 (fun _ _ h => h) ?_
  refine G.no rfl ?_
  refine G.exitK hK29 (fun _ _ h => h) ?_
  refine G.seqK fun K49 hK50 => ?_
  refine G.region ?_
  refine GL.sem (j := 1) (H42.ldA (o := 0) (ty := 24) (m := 4) (sub := [.int .u64 (((wd x 3) / 2 ^ r : Nat) : Int), .int .u64 0, .int .u64 0, .int .u64 0]) 2 rfl (by kernel_rfl) rfl rfl) [4, 66] [(4, pt p7 0), (66, .agg #[.int .u64 (((wd x 3) / 2 ^ r : Nat) : Int), .int .u64 0, .int .u64 0, .int .u64 0])] (by kernel_rfl) (by kernel_rfl) rfl ?_
  obtain ⟨w51, r52, H53⟩ := H42.stA (P := Try.prog) (o := 0) (vs := [.int .u64 (((wd x 3) / 2 ^ r : Nat) : Int), .int .u64 0, .int .u64 0, .int .u64 0]) (ty := 24) (m := 4) 1 rfl (by kernel_rfl) rfl (by first | decide | simp) (by simp [Value.oneCell'])
  have H53 : Hp w [] [.blk p3 (wl x) 24, .blk p7 [.int .u64 (((wd x 3) / 2 ^ r : Nat) : Int), .int .u64 0, .int .u64 0, .int .u64 0] 24, .blk p22 [.int .u64 (((wd x 3) / 2 ^ r : Nat) : Int), .int .u64 0, .int .u64 0, .int .u64 0] 24] w51 := H53
  refine GL.semU (j := 2) r52 [4] [(4, pt p7 0)] (by kernel_rfl) rfl rfl rfl ?_
  refine GL.k rfl hK50 (fun _ _ h => h) ?_
  refine G.ret ?_
  intro F_ hF_ hM_
  refine hRet _ _ (bodyPost_1 rfl (RV.cell rfl (H53.ldA (o := 0) (ty := 24) (m := 4) (sub := [.int .u64 (((wd x 3) / 2 ^ r : Nat) : Int), .int .u64 0, .int .u64 0, .int .u64 0]) 1 rfl (by kernel_rfl) rfl rfl)) ?_ F_ hF_ hM_)
  rw [← right_fin3 hx (show r ≤ 64 by omega)]
  exact ⟨rfl, H53.sub (List.nil_sublist _)⟩
theorem Right_big (x n : Nat) (hn : 256 ≤ n) (w : World) : Calls Try.prog 20 #[wv x, .int .i64 (n : Int)] w fun e w' => e = .returned (wv 0) ∧ Hp w [] [] w' := by
  refine calls_G (args := [wv x, .int .i64 (n : Int)]) Try.func20 rfl Try.ntmps20 rfl ?_
  intro Q0 hRet hNor hPan
  have H := Hp.start w
  have H : Hp w [] [] w := H
  refine G.seqK fun K1 hK2 => ?_
  refine G.region ?_
  obtain ⟨p3, w4, r5, H6⟩ := H.box (P := Try.prog) 24 (wl x) (wv x) rfl
  have H6 : Hp w [] [.blk p3 (wl x) 24] w4 := H6
  refine GL.sem (j := 1) (r5) [1, 2] [(1, .int .i64 (n : Int)), (2, pt p3 0)] (by kernel_rfl) (by kernel_rfl) rfl ?_
  obtain ⟨p7, w8, r9, H10⟩ := H6.alloc (P := Try.prog) 24 z4 (by kernel_rfl)
  have H10 : Hp w [] [.blk p3 (wl x) 24, .blk p7 z4 24] w8 := H10
  refine GL.sem (j := 2) (r9) [1, 2, 4] [(1, .int .i64 (n : Int)), (2, pt p3 0), (4, pt p7 0)] (by kernel_rfl) (by kernel_rfl) rfl ?_
  refine GL.k rfl hK2 (fun _ _ h => h) ?_
  refine G.seqK fun K11 hK12 => ?_
  refine G.block ?_
  refine G.seqK fun K13 hK14 => ?_
  refine G.region ?_
  refine GL.run (j := 3) 3 [1, 2, 4, 12] [(1, .int .i64 (n : Int)), (2, pt p3 0), (4, pt p7 0), (12, .bool (decide ((n : Int) ≤ (-256))))] (by kernel_rfl) rfl ?_
  have hb15 : (decide ((n : Int) ≤ (-256))) = false := decide_eq_false (by omega)
  rw [hb15]
  refine GL.run (j := 7) 4 [1, 2, 4, 9] [(1, .int .i64 (n : Int)), (2, pt p3 0), (4, pt p7 0), (9, .bool (decide (256 ≤ (n : Int))))] (by kernel_rfl) rfl ?_
  refine GL.k rfl hK14 (fun _ _ h => h) ?_
  have hb16 : (decide (256 ≤ (n : Int))) = true := decide_eq_true (by omega)
  rw [hb16]
  refine G.yes rfl ?_
  refine G.seqK fun K17 hK18 => ?_
  refine G.region ?_
  refine GL.run (j := 1) 1 [4, 16] [(4, pt p7 0), (16, .agg #[.int .u64 0, .int .u64 0, .int .u64 0, .int .u64 0])] (by kernel_rfl) rfl ?_
  obtain ⟨w19, r20, H21⟩ := H10.stA (P := Try.prog) (o := 0) (vs := z4) (ty := 24) (m := 4) 1 rfl (by kernel_rfl) rfl (by first | decide | simp) (z4_one)
  have H21 : Hp w [] [.blk p3 (wl x) 24, .blk p7 z4 24] w19 := H21
  refine GL.semU (j := 2) r20 [4] [(4, pt p7 0)] (by kernel_rfl) rfl rfl rfl ?_
  refine GL.k rfl hK18 (fun _ _ h => h) ?_
  refine G.ret ?_
  intro F_ hF_ hM_
  refine hRet _ _ (bodyPost_1 rfl (RV.cell rfl (H21.ldA (o := 0) (ty := 24) (m := 4) (sub := z4) 1 rfl (by kernel_rfl) rfl rfl)) ?_ F_ hF_ hM_)
  exact ⟨rfl, H21.sub (List.nil_sublist _)⟩
theorem Right_calls (x n : Nat) (hx : x < K4) (w : World) : Calls Try.prog 20 #[wv x, .int .i64 (n : Int)] w fun e w' => e = .returned (wv (x / 2 ^ n)) ∧ Hp w [] [] w' := by
  by_cases h : 256 ≤ n
  · rw [right_big hx h]
    exact Right_big x n h w
  · have hq : n / 64 = 0 ∨ n / 64 = 1 ∨ n / 64 = 2 ∨ n / 64 = 3 := by omega
    have hr : n % 64 < 64 := Nat.mod_lt _ (by decide)
    rcases hq with hq | hq | hq | hq
    · have := Right_q0 x (n % 64) hx hr w
      rwa [show 64 * 0 + n % 64 = n by omega] at this
    · have := Right_q1 x (n % 64) hx hr w
      rwa [show 64 * 1 + n % 64 = n by omega] at this
    · have := Right_q2 x (n % 64) hx hr w
      rwa [show 64 * 2 + n % 64 = n by omega] at this
    · have := Right_q3 x (n % 64) hx hr w
      rwa [show 64 * 3 + n % 64 = n by omega] at this
theorem Left_low (x n : Nat) (hn : 256 ≤ n) (w : World) : Calls Try.prog 18 #[wv x, .int .i64 (-(n : Int))] w fun e w' => e = .returned (wv 0) ∧ Hp w [] [] w' := by
  refine calls_G (args := [wv x, .int .i64 (-(n : Int))]) Try.func18 rfl Try.ntmps18 rfl ?_
  intro Q0 hRet hNor hPan
  have H := Hp.start w
  have H : Hp w [] [] w := H
  refine G.seqK fun K1 hK2 => ?_
  refine G.region ?_
  obtain ⟨p3, w4, r5, H6⟩ := H.box (P := Try.prog) 24 (wl x) (wv x) rfl
  have H6 : Hp w [] [.blk p3 (wl x) 24] w4 := H6
  refine GL.sem (j := 1) (r5) [1, 2] [(1, .int .i64 (-(n : Int))), (2, pt p3 0)] (by kernel_rfl) (by kernel_rfl) rfl ?_
  obtain ⟨p7, w8, r9, H10⟩ := H6.alloc (P := Try.prog) 24 z4 (by kernel_rfl)
  have H10 : Hp w [] [.blk p3 (wl x) 24, .blk p7 z4 24] w8 := H10
  refine GL.sem (j := 2) (r9) [1, 2, 4] [(1, .int .i64 (-(n : Int))), (2, pt p3 0), (4, pt p7 0)] (by kernel_rfl) (by kernel_rfl) rfl ?_
  refine GL.k rfl hK2 (fun _ _ h => h) ?_
  refine G.seqK fun K11 hK12 => ?_
  refine G.block ?_
  refine G.seqK fun K13 hK14 => ?_
  refine G.region ?_
  refine GL.run (j := 3) 3 [1, 2, 4, 12] [(1, .int .i64 (-(n : Int))), (2, pt p3 0), (4, pt p7 0), (12, .bool (decide ((-(n : Int)) ≤ (-256))))] (by kernel_rfl) rfl ?_
  have hb15 : (decide ((-(n : Int)) ≤ (-256))) = true := decide_eq_true (by omega)
  rw [hb15]
  refine GL.run (j := 7) 4 [1, 2, 4, 9] [(1, .int .i64 (-(n : Int))), (2, pt p3 0), (4, pt p7 0), (9, .bool true)] (by kernel_rfl) rfl ?_
  refine GL.k rfl hK14 (fun _ _ h => h) ?_
  refine G.yes rfl ?_
  refine G.seqK fun K16 hK17 => ?_
  refine G.region ?_
  refine GL.run (j := 1) 1 [4, 16] [(4, pt p7 0), (16, .agg #[.int .u64 0, .int .u64 0, .int .u64 0, .int .u64 0])] (by kernel_rfl) rfl ?_
  obtain ⟨w18, r19, H20⟩ := H10.stA (P := Try.prog) (o := 0) (vs := z4) (ty := 24) (m := 4) 1 rfl (by kernel_rfl) rfl (by first | decide | simp) (z4_one)
  have H20 : Hp w [] [.blk p3 (wl x) 24, .blk p7 z4 24] w18 := H20
  refine GL.semU (j := 2) r19 [4] [(4, pt p7 0)] (by kernel_rfl) rfl rfl rfl ?_
  refine GL.k rfl hK17 (fun _ _ h => h) ?_
  refine G.ret ?_
  intro F_ hF_ hM_
  refine hRet _ _ (bodyPost_1 rfl (RV.cell rfl (H20.ldA (o := 0) (ty := 24) (m := 4) (sub := z4) 1 rfl (by kernel_rfl) rfl rfl)) ?_ F_ hF_ hM_)
  exact ⟨rfl, H20.sub (List.nil_sublist _)⟩
theorem Right_low (x n : Nat) (hn : 256 ≤ n) (w : World) : Calls Try.prog 20 #[wv x, .int .i64 (-(n : Int))] w fun e w' => e = .returned (wv 0) ∧ Hp w [] [] w' := by
  refine calls_G (args := [wv x, .int .i64 (-(n : Int))]) Try.func20 rfl Try.ntmps20 rfl ?_
  intro Q0 hRet hNor hPan
  have H := Hp.start w
  have H : Hp w [] [] w := H
  refine G.seqK fun K1 hK2 => ?_
  refine G.region ?_
  obtain ⟨p3, w4, r5, H6⟩ := H.box (P := Try.prog) 24 (wl x) (wv x) rfl
  have H6 : Hp w [] [.blk p3 (wl x) 24] w4 := H6
  refine GL.sem (j := 1) (r5) [1, 2] [(1, .int .i64 (-(n : Int))), (2, pt p3 0)] (by kernel_rfl) (by kernel_rfl) rfl ?_
  obtain ⟨p7, w8, r9, H10⟩ := H6.alloc (P := Try.prog) 24 z4 (by kernel_rfl)
  have H10 : Hp w [] [.blk p3 (wl x) 24, .blk p7 z4 24] w8 := H10
  refine GL.sem (j := 2) (r9) [1, 2, 4] [(1, .int .i64 (-(n : Int))), (2, pt p3 0), (4, pt p7 0)] (by kernel_rfl) (by kernel_rfl) rfl ?_
  refine GL.k rfl hK2 (fun _ _ h => h) ?_
  refine G.seqK fun K11 hK12 => ?_
  refine G.block ?_
  refine G.seqK fun K13 hK14 => ?_
  refine G.region ?_
  refine GL.run (j := 3) 3 [1, 2, 4, 12] [(1, .int .i64 (-(n : Int))), (2, pt p3 0), (4, pt p7 0), (12, .bool (decide ((-(n : Int)) ≤ (-256))))] (by kernel_rfl) rfl ?_
  have hb15 : (decide ((-(n : Int)) ≤ (-256))) = true := decide_eq_true (by omega)
  rw [hb15]
  refine GL.run (j := 7) 4 [1, 2, 4, 9] [(1, .int .i64 (-(n : Int))), (2, pt p3 0), (4, pt p7 0), (9, .bool true)] (by kernel_rfl) rfl ?_
  refine GL.k rfl hK14 (fun _ _ h => h) ?_
  refine G.yes rfl ?_
  refine G.seqK fun K16 hK17 => ?_
  refine G.region ?_
  refine GL.run (j := 1) 1 [4, 16] [(4, pt p7 0), (16, .agg #[.int .u64 0, .int .u64 0, .int .u64 0, .int .u64 0])] (by kernel_rfl) rfl ?_
  obtain ⟨w18, r19, H20⟩ := H10.stA (P := Try.prog) (o := 0) (vs := z4) (ty := 24) (m := 4) 1 rfl (by kernel_rfl) rfl (by first | decide | simp) (z4_one)
  have H20 : Hp w [] [.blk p3 (wl x) 24, .blk p7 z4 24] w18 := H20
  refine GL.semU (j := 2) r19 [4] [(4, pt p7 0)] (by kernel_rfl) rfl rfl rfl ?_
  refine GL.k rfl hK17 (fun _ _ h => h) ?_
  refine G.ret ?_
  intro F_ hF_ hM_
  refine hRet _ _ (bodyPost_1 rfl (RV.cell rfl (H20.ldA (o := 0) (ty := 24) (m := 4) (sub := z4) 1 rfl (by kernel_rfl) rfl rfl)) ?_ F_ hF_ hM_)
  exact ⟨rfl, H20.sub (List.nil_sublist _)⟩
theorem Left_neg0 (x n : Nat) (hx : x < K4) (hn : 1 ≤ n) (hn2 : n < 256) (w : World) : Calls Try.prog 18 #[wv x, .int .i64 (-(n : Int))] w fun e w' => e = .returned (wv (x / 2 ^ n)) ∧ Hp w [] [] w' := by
  refine calls_G (args := [wv x, .int .i64 (-(n : Int))]) Try.func18 rfl Try.ntmps18 rfl ?_
  intro Q0 hRet hNor hPan
  have H := Hp.start w
  have H : Hp w [] [] w := H
  refine G.seqK fun K1 hK2 => ?_
  refine G.region ?_
  obtain ⟨p3, w4, r5, H6⟩ := H.box (P := Try.prog) 24 (wl x) (wv x) rfl
  have H6 : Hp w [] [.blk p3 (wl x) 24] w4 := H6
  refine GL.sem (j := 1) (r5) [1, 2] [(1, .int .i64 (-(n : Int))), (2, pt p3 0)] (by kernel_rfl) (by kernel_rfl) rfl ?_
  obtain ⟨p7, w8, r9, H10⟩ := H6.alloc (P := Try.prog) 24 z4 (by kernel_rfl)
  have H10 : Hp w [] [.blk p3 (wl x) 24, .blk p7 z4 24] w8 := H10
  refine GL.sem (j := 2) (r9) [1, 2, 4] [(1, .int .i64 (-(n : Int))), (2, pt p3 0), (4, pt p7 0)] (by kernel_rfl) (by kernel_rfl) rfl ?_
  refine GL.k rfl hK2 (fun _ _ h => h) ?_
  refine G.seqK fun K11 hK12 => ?_
  refine G.block ?_
  refine G.seqK fun K13 hK14 => ?_
  refine G.region ?_
  refine GL.run (j := 3) 3 [1, 2, 4, 12] [(1, .int .i64 (-(n : Int))), (2, pt p3 0), (4, pt p7 0), (12, .bool (decide ((-(n : Int)) ≤ (-256))))] (by kernel_rfl) rfl ?_
  have hb15 : (decide ((-(n : Int)) ≤ (-256))) = false := decide_eq_false (by omega)
  rw [hb15]
  refine GL.run (j := 7) 4 [1, 2, 4, 9] [(1, .int .i64 (-(n : Int))), (2, pt p3 0), (4, pt p7 0), (9, .bool (decide (256 ≤ (-(n : Int)))))] (by kernel_rfl) rfl ?_
  refine GL.k rfl hK14 (fun _ _ h => h) ?_
  have hb16 : (decide (256 ≤ (-(n : Int)))) = false := decide_eq_false (by omega)
  rw [hb16]
  refine G.no rfl ?_
  refine G.seqK fun K17 hK18 => ?_
  refine G.region ?_
  refine GL.run (j := 3) 3 [1, 2, 4, 17] [(1, .int .i64 (-(n : Int))), (2, pt p3 0), (4, pt p7 0), (17, .bool (decide ((-(n : Int)) < 0)))] (by kernel_rfl) rfl ?_
  refine GL.k rfl hK18 (fun _ _ h => h) ?_
  have hb19 : (decide ((-(n : Int)) < 0)) = true := decide_eq_true (by omega)
  rw [hb19]
  refine G.yes rfl ?_
  refine G.seqK fun K20 hK21 => ?_
  refine G.region ?_
  refine GL.sem (j := 1) (H10.ldA (o := 0) (ty := 24) (m := 4) (sub := (wl x)) 0 rfl (by kernel_rfl) rfl rfl) [1, 4, 20] [(1, .int .i64 (-(n : Int))), (4, pt p7 0), (20, wv x)] (by kernel_rfl) (by kernel_rfl) rfl ?_
  refine GL.run (j := 3) 2 [4, 20, 22] [(4, pt p7 0), (20, wv x), (22, .int .i64 (IntKind.i64.wrap (0 - (-(n : Int)))))] (by kernel_rfl) rfl ?_
  have e22 : (IntKind.i64.wrap (0 - (-(n : Int)))) = (n : Int) := by rw [in_i64 (by omega)]; omega
  refine GL.eq (M' := [(4, pt p7 0), (20, wv x), (22, .int .i64 (n : Int))]) (by rw [e22]) ?_
  clear e22
  refine GL.call (j := 4) (Right_calls x n hx w8) (by kernel_rfl) rfl (fun e_ w23 hR => ?_)
  obtain ⟨rfl, H25⟩ := hR
  have H24 : Hp w [] [.blk p3 (wl x) 24, .blk p7 z4 24] w23 := H10.callNil H25
  refine ⟨_, rfl, [4, 23], [(4, pt p7 0), (23, wv (x / 2 ^ n))], by kernel_rfl, ?_⟩
  obtain ⟨w26, r27, H28⟩ := H24.stA (P := Try.prog) (o := 0) (vs := (wl (x / 2 ^ n))) (ty := 24) (m := 4) 1 rfl (by kernel_rfl) rfl (by first | decide | simp) (wl_one _)
  have H28 : Hp w [] [.blk p3 (wl x) 24, .blk p7 (wl (x / 2 ^ n)) 24] w26 := H28
  refine GL.semU (j := 5) r27 [4] [(4, pt p7 0)] (by kernel_rfl) rfl rfl rfl ?_
  refine GL.k rfl hK21 (fun _ _ h => h) ?_
  refine G.ret ?_
  intro F_ hF_ hM_
  refine hRet _ _ (bodyPost_1 rfl (RV.cell rfl (H28.ldA (o := 0) (ty := 24) (m := 4) (sub := (wl (x / 2 ^ n))) 1 rfl (by kernel_rfl) rfl rfl)) ?_ F_ hF_ hM_)
  exact ⟨rfl, H28.sub (List.nil_sublist _)⟩
theorem Left_neg (x n : Nat) (hx : x < K4) (hn : 1 ≤ n) (w : World) : Calls Try.prog 18 #[wv x, .int .i64 (-(n : Int))] w fun e w' => e = .returned (wv (x / 2 ^ n)) ∧ Hp w [] [] w' := by
  by_cases h : 256 ≤ n
  · rw [right_big hx h]
    exact Left_low x n h w
  · exact Left_neg0 x n hx hn (by omega) w
theorem Right_neg0 (x n : Nat) (hx : x < K4) (hn : 1 ≤ n) (hn2 : n < 256) (w : World) : Calls Try.prog 20 #[wv x, .int .i64 (-(n : Int))] w fun e w' => e = .returned (wv (x * 2 ^ n % K4)) ∧ Hp w [] [] w' := by
  refine calls_G (args := [wv x, .int .i64 (-(n : Int))]) Try.func20 rfl Try.ntmps20 rfl ?_
  intro Q0 hRet hNor hPan
  have H := Hp.start w
  have H : Hp w [] [] w := H
  refine G.seqK fun K1 hK2 => ?_
  refine G.region ?_
  obtain ⟨p3, w4, r5, H6⟩ := H.box (P := Try.prog) 24 (wl x) (wv x) rfl
  have H6 : Hp w [] [.blk p3 (wl x) 24] w4 := H6
  refine GL.sem (j := 1) (r5) [1, 2] [(1, .int .i64 (-(n : Int))), (2, pt p3 0)] (by kernel_rfl) (by kernel_rfl) rfl ?_
  obtain ⟨p7, w8, r9, H10⟩ := H6.alloc (P := Try.prog) 24 z4 (by kernel_rfl)
  have H10 : Hp w [] [.blk p3 (wl x) 24, .blk p7 z4 24] w8 := H10
  refine GL.sem (j := 2) (r9) [1, 2, 4] [(1, .int .i64 (-(n : Int))), (2, pt p3 0), (4, pt p7 0)] (by kernel_rfl) (by kernel_rfl) rfl ?_
  refine GL.k rfl hK2 (fun _ _ h => h) ?_
  refine G.seqK fun K11 hK12 => ?_
  refine G.block ?_
  refine G.seqK fun K13 hK14 => ?_
  refine G.region ?_
  refine GL.run (j := 3) 3 [1, 2, 4, 12] [(1, .int .i64 (-(n : Int))), (2, pt p3 0), (4, pt p7 0), (12, .bool (decide ((-(n : Int)) ≤ (-256))))] (by kernel_rfl) rfl ?_
  have hb15 : (decide ((-(n : Int)) ≤ (-256))) = false := decide_eq_false (by omega)
  rw [hb15]
  refine GL.run (j := 7) 4 [1, 2, 4, 9] [(1, .int .i64 (-(n : Int))), (2, pt p3 0), (4, pt p7 0), (9, .bool (decide (256 ≤ (-(n : Int)))))] (by kernel_rfl) rfl ?_
  refine GL.k rfl hK14 (fun _ _ h => h) ?_
  have hb16 : (decide (256 ≤ (-(n : Int)))) = false := decide_eq_false (by omega)
  rw [hb16]
  refine G.no rfl ?_
  refine G.seqK fun K17 hK18 => ?_
  refine G.region ?_
  refine GL.run (j := 3) 3 [1, 2, 4, 17] [(1, .int .i64 (-(n : Int))), (2, pt p3 0), (4, pt p7 0), (17, .bool (decide ((-(n : Int)) < 0)))] (by kernel_rfl) rfl ?_
  refine GL.k rfl hK18 (fun _ _ h => h) ?_
  have hb19 : (decide ((-(n : Int)) < 0)) = true := decide_eq_true (by omega)
  rw [hb19]
  refine G.yes rfl ?_
  refine G.seqK fun K20 hK21 => ?_
  refine G.region ?_
  refine GL.sem (j := 1) (H10.ldA (o := 0) (ty := 24) (m := 4) (sub := (wl x)) 0 rfl (by kernel_rfl) rfl rfl) [1, 4, 20] [(1, .int .i64 (-(n : Int))), (4, pt p7 0), (20, wv x)] (by kernel_rfl) (by kernel_rfl) rfl ?_
  refine GL.run (j := 3) 2 [4, 20, 22] [(4, pt p7 0), (20, wv x), (22, .int .i64 (IntKind.i64.wrap (0 - (-(n : Int)))))] (by kernel_rfl) rfl ?_
  have e22 : (IntKind.i64.wrap (0 - (-(n : Int)))) = (n : Int) := by rw [in_i64 (by omega)]; omega
  refine GL.eq (M' := [(4, pt p7 0), (20, wv x), (22, .int .i64 (n : Int))]) (by rw [e22]) ?_
  clear e22
  refine GL.call (j := 4) (Left_calls x n hx w8) (by kernel_rfl) rfl (fun e_ w23 hR => ?_)
  obtain ⟨rfl, H25⟩ := hR
  have H24 : Hp w [] [.blk p3 (wl x) 24, .blk p7 z4 24] w23 := H10.callNil H25
  refine ⟨_, rfl, [4, 23], [(4, pt p7 0), (23, wv (x * 2 ^ n % K4))], by kernel_rfl, ?_⟩
  obtain ⟨w26, r27, H28⟩ := H24.stA (P := Try.prog) (o := 0) (vs := (wl (x * 2 ^ n % K4))) (ty := 24) (m := 4) 1 rfl (by kernel_rfl) rfl (by first | decide | simp) (wl_one _)
  have H28 : Hp w [] [.blk p3 (wl x) 24, .blk p7 (wl (x * 2 ^ n % K4)) 24] w26 := H28
  refine GL.semU (j := 5) r27 [4] [(4, pt p7 0)] (by kernel_rfl) rfl rfl rfl ?_
  refine GL.k rfl hK21 (fun _ _ h => h) ?_
  refine G.ret ?_
  intro F_ hF_ hM_
  refine hRet _ _ (bodyPost_1 rfl (RV.cell rfl (H28.ldA (o := 0) (ty := 24) (m := 4) (sub := (wl (x * 2 ^ n % K4))) 1 rfl (by kernel_rfl) rfl rfl)) ?_ F_ hF_ hM_)
  exact ⟨rfl, H28.sub (List.nil_sublist _)⟩
theorem Right_neg (x n : Nat) (hx : x < K4) (hn : 1 ≤ n) (w : World) : Calls Try.prog 20 #[wv x, .int .i64 (-(n : Int))] w fun e w' => e = .returned (wv (x * 2 ^ n % K4)) ∧ Hp w [] [] w' := by
  by_cases h : 256 ≤ n
  · rw [left_big h]
    exact Right_low x n h w
  · exact Right_neg0 x n hx hn (by omega) w
end Go.Proofs.Ytpfdpikblijddaa
