/- Part 2 of what headerMines_proved stands on. -/
import Derived.Test.YtdepaaphgfapjaaZm1
set_option linter.unusedVariables false
set_option maxRecDepth 100000
namespace Go.Proofs.Ytdepaaphgfapjaa
open Go.RowKit
theorem Left_q0 (x r : Nat) (hx : x < K4) (hr : r < 64) (w : World) : Calls Try.prog 53 #[wv x, .int .i64 ((64 * 0 + r : Nat) : Int)] w fun e w' => e = .returned (wv (x * 2 ^ (64 * 0 + r) % K4)) ∧ Hp w [] [] w' := by
 refine calls_G (args := [wv x, vi (64 * 0 + r)]) Try.func53 rfl Try.ntmps53 rfl ?_
 intro Q0 hRet hNor hPan
 have H := Hp.start w
 refine G.sr fun K1 hK2 => ?_
 obtain ⟨p3, w4, r5, H6⟩ := H.box (P := Try.prog) 33 (wl x) (wv x) rfl
 refine GL.s 1 (r5) [(1, vi (64 * 0 + r)), (2, pt p3 0)] ?_
 obtain ⟨p7, w8, r9, H10⟩ := H6.alloc (P := Try.prog) 33 z4 (by kernel_rfl)
 refine GL.s 2 (r9) [(1, vi (64 * 0 + r)), (2, pt p3 0), (4, pt p7 0)] ?_
 refine GL.q hK2 ?_
 refine G.seqK fun K11 hK12 => ?_
 refine G.block ?_
 refine G.sr fun K13 hK14 => ?_
 refine GL.r 3 3 [(1, vi (64 * 0 + r)), (2, pt p3 0), (4, pt p7 0), (12, .bool (decide (((64 * 0 + r : Nat) : Int) ≤ (-256))))] ?_
 have hb15 : (decide (((64 * 0 + r : Nat) : Int) ≤ (-256))) = false := decide_eq_false (by omega)
 rw [hb15]
 refine GL.r 7 4 [(1, vi (64 * 0 + r)), (2, pt p3 0), (4, pt p7 0), (9, .bool (decide (256 ≤ ((64 * 0 + r : Nat) : Int))))] ?_
 refine GL.q hK14 ?_
 have hb16 : (decide (256 ≤ ((64 * 0 + r : Nat) : Int))) = false := decide_eq_false (by omega)
 rw [hb16]
 refine G.no rfl ?_
 refine G.sr fun K17 hK18 => ?_
 refine GL.r 3 3 [(1, vi (64 * 0 + r)), (2, pt p3 0), (4, pt p7 0), (17, .bool (decide (((64 * 0 + r : Nat) : Int) < 0)))] ?_
 refine GL.q hK18 ?_
 have hb19 : (decide (((64 * 0 + r : Nat) : Int) < 0)) = false := decide_eq_false (by omega)
 rw [hb19]
 refine G.no rfl ?_
 refine G.skipK hK12 (fun _ _ h => h) ?_
 refine G.sr fun K20 hK21 => ?_
 obtain ⟨p22, w23, r24, H25⟩ := H10.alloc (P := Try.prog) 33 z4 (by kernel_rfl)
 refine GL.s 1 (r24) [(1, vi (64 * 0 + r)), (2, pt p3 0), (4, pt p7 0), (5, pt p22 0)] ?_
 refine GL.q hK21 ?_
 refine G.sr fun K26 hK27 => ?_
 refine GL.r 1 1 [(1, vi (64 * 0 + r)), (2, pt p3 0), (4, pt p7 0), (5, pt p22 0), (24, vi (64 * 0 + r))] ?_
 refine GL.s 2 (run_quo64 (P := Try.prog) (t := 3) (n := (64 * 0 + r)) (q := 0) (r := r) (by omega) hr (by omega) _) [(1, vi (64 * 0 + r)), (2, pt p3 0), (4, pt p7 0), (5, pt p22 0), (25, li 0)] ?_
 refine GL.r 3 1 [(2, pt p3 0), (4, pt p7 0), (5, pt p22 0), (25, li 0), (26, vi (64 * 0 + r))] ?_
 refine GL.s 4 (run_rem64 (P := Try.prog) (t := 3) (n := (64 * 0 + r)) (q := 0) (r := r) (by omega) hr _) [(2, pt p3 0), (4, pt p7 0), (5, pt p22 0), (25, li 0), (27, vi r)] ?_
 refine GL.r 6 2 [(2, pt p3 0), (4, pt p7 0), (5, pt p22 0), (6, li 0), (7, vi r)] ?_
 refine GL.q hK27 ?_
 refine G.seqK fun K28 hK29 => ?_
 refine G.sr fun K30 hK31 => ?_
 refine GL.r 2 2 [(2, pt p3 0), (4, pt p7 0), (5, pt p22 0), (6, li 0), (7, vi r), (8, li 0)] ?_
 refine GL.q hK31 ?_
 refine G.block ?_
 refine G.unroll 5 ?_
 refine G.seqK fun K32 hK33 => ?_
 refine G.sr fun K34 hK35 => ?_
 refine GL.r 2 2 [(2, pt p3 0), (4, pt p7 0), (5, pt p22 0), (6, li 0), (7, vi r), (8, li 0), (30, .bool true)] ?_
 refine GL.q hK35 ?_
 refine G.yes rfl ?_
 refine G.skipK hK33 (fun _ _ h => h) ?_
 refine G.seqK fun K36 hK37 => ?_
 refine G.block ?_
 refine G.sr fun K38 hK39 => ?_
 refine GL.r 5 5 [(2, pt p3 0), (4, pt p7 0), (5, pt p22 0), (6, li 0), (7, vi r), (8, li 0), (33, li 0), (37, pt p3 0)] ?_
 refine GL.s 6 (H25.ld (o := 0) (ty := 31) (v := vu (wd x 0)) 0 rfl (by kernel_rfl) rfl) [(2, pt p3 0), (4, pt p7 0), (5, pt p22 0), (6, li 0), (7, vi r), (8, li 0), (33, li 0), (38, vu (wd x 0))] ?_
 refine GL.r 7 1 [(2, pt p3 0), (4, pt p7 0), (5, pt p22 0), (6, li 0), (7, vi r), (8, li 0), (33, li 0), (38, vu (wd x 0)), (39, vi r)] ?_
 refine GL.s 8 (run_shlN (P := Try.prog) (k' := .i64) (t := 31) (a := (wd x 0)) (r := r) (by omega) _) [(2, pt p3 0), (4, pt p7 0), (5, pt p22 0), (6, li 0), (7, vi r), (8, li 0), (33, li 0), (40, vu ((wd x 0) * 2 ^ r % K))] ?_
 refine GL.r 9 1 [(2, pt p3 0), (4, pt p7 0), (5, pt p22 0), (6, li 0), (7, vi r), (8, li 0), (40, vu ((wd x 0) * 2 ^ r % K)), (41, pt p22 0)] ?_
 obtain ⟨w40, r41, H42⟩ := H25.st (P := Try.prog) (o := 0) (ty := 31) (v := vu ((wd x 0) * 2 ^ r % K)) 2 rfl (by kernel_rfl) (by decide) rfl
 refine GL.u 10 r41 [(2, pt p3 0), (4, pt p7 0), (5, pt p22 0), (6, li 0), (7, vi r), (8, li 0)] ?_
 refine GL.q hK39 ?_
 refine G.sr fun K43 hK44 => ?_
 refine GL.r 7 7 [(2, pt p3 0), (4, pt p7 0), (5, pt p22 0), (6, li 0), (7, vi r), (8, li 0), (48, .bool false)] ?_
 refine GL.q hK44 ?_
 refine G.no rfl ?_
 refine G.skipK hK37 (fun _ _ h => h) ?_
 refine G.region ?_
 refine GL.r 3 3 [(2, pt p3 0), (4, pt p7 0), (5, pt p22 0), (6, li 0), (7, vi r), (8, li 1)] ?_
 refine GL.round rfl ?_
 refine G.seqK fun K45 hK46 => ?_
 refine G.sr fun K47 hK48 => ?_
 refine GL.r 2 2 [(2, pt p3 0), (4, pt p7 0), (5, pt p22 0), (6, li 0), (7, vi r), (8, li 1), (30, .bool true)] ?_
 refine GL.q hK48 ?_
 refine G.yes rfl ?_
 refine G.skipK hK46 (fun _ _ h => h) ?_
 refine G.seqK fun K49 hK50 => ?_
 refine G.block ?_
 refine G.sr fun K51 hK52 => ?_
 refine GL.r 5 5 [(2, pt p3 0), (4, pt p7 0), (5, pt p22 0), (6, li 0), (7, vi r), (8, li 1), (33, li 1), (37, pt p3 1)] ?_
 refine GL.s 6 (H42.ld (o := 1) (ty := 31) (v := vu (wd x 1)) 0 rfl (by kernel_rfl) rfl) [(2, pt p3 0), (4, pt p7 0), (5, pt p22 0), (6, li 0), (7, vi r), (8, li 1), (33, li 1), (38, vu (wd x 1))] ?_
 refine GL.r 7 1 [(2, pt p3 0), (4, pt p7 0), (5, pt p22 0), (6, li 0), (7, vi r), (8, li 1), (33, li 1), (38, vu (wd x 1)), (39, vi r)] ?_
 refine GL.s 8 (run_shlN (P := Try.prog) (k' := .i64) (t := 31) (a := (wd x 1)) (r := r) (by omega) _) [(2, pt p3 0), (4, pt p7 0), (5, pt p22 0), (6, li 0), (7, vi r), (8, li 1), (33, li 1), (40, vu ((wd x 1) * 2 ^ r % K))] ?_
 refine GL.r 9 1 [(2, pt p3 0), (4, pt p7 0), (5, pt p22 0), (6, li 0), (7, vi r), (8, li 1), (40, vu ((wd x 1) * 2 ^ r % K)), (41, pt p22 1)] ?_
 obtain ⟨w53, r54, H55⟩ := H42.st (P := Try.prog) (o := 1) (ty := 31) (v := vu ((wd x 1) * 2 ^ r % K)) 2 rfl (by kernel_rfl) (by simp) rfl
 refine GL.u 10 r54 [(2, pt p3 0), (4, pt p7 0), (5, pt p22 0), (6, li 0), (7, vi r), (8, li 1)] ?_
 refine GL.q hK52 ?_
 refine G.sr fun K56 hK57 => ?_
 refine GL.r 7 7 [(2, pt p3 0), (4, pt p7 0), (5, pt p22 0), (6, li 0), (7, vi r), (8, li 1), (48, .bool (decide (0 < (r : Int))))] ?_
 refine GL.q hK57 ?_
 cases hb58 : (decide (0 < (r : Int)))
 · skip
   have hb58f := of_decide_eq_false hb58
   refine G.no rfl ?_
   refine G.skipK hK50 (fun _ _ h => h) ?_
   refine G.region ?_
   refine GL.r 3 3 [(2, pt p3 0), (4, pt p7 0), (5, pt p22 0), (6, li 0), (7, vi r), (8, li 2)] ?_
   refine GL.round rfl ?_
   refine G.seqK fun K59 hK60 => ?_
   refine G.sr fun K61 hK62 => ?_
   refine GL.r 2 2 [(2, pt p3 0), (4, pt p7 0), (5, pt p22 0), (6, li 0), (7, vi r), (8, li 2), (30, .bool true)] ?_
   refine GL.q hK62 ?_
   refine G.yes rfl ?_
   refine G.skipK hK60 (fun _ _ h => h) ?_
   refine G.seqK fun K63 hK64 => ?_
   refine G.block ?_
   refine G.sr fun K65 hK66 => ?_
   refine GL.r 5 5 [(2, pt p3 0), (4, pt p7 0), (5, pt p22 0), (6, li 0), (7, vi r), (8, li 2), (33, li 2), (37, pt p3 2)] ?_
   refine GL.s 6 (H55.ld (o := 2) (ty := 31) (v := vu (wd x 2)) 0 rfl (by kernel_rfl) rfl) [(2, pt p3 0), (4, pt p7 0), (5, pt p22 0), (6, li 0), (7, vi r), (8, li 2), (33, li 2), (38, vu (wd x 2))] ?_
   refine GL.r 7 1 [(2, pt p3 0), (4, pt p7 0), (5, pt p22 0), (6, li 0), (7, vi r), (8, li 2), (33, li 2), (38, vu (wd x 2)), (39, vi r)] ?_
   refine GL.s 8 (run_shlN (P := Try.prog) (k' := .i64) (t := 31) (a := (wd x 2)) (r := r) (by omega) _) [(2, pt p3 0), (4, pt p7 0), (5, pt p22 0), (6, li 0), (7, vi r), (8, li 2), (33, li 2), (40, vu ((wd x 2) * 2 ^ r % K))] ?_
   refine GL.r 9 1 [(2, pt p3 0), (4, pt p7 0), (5, pt p22 0), (6, li 0), (7, vi r), (8, li 2), (40, vu ((wd x 2) * 2 ^ r % K)), (41, pt p22 2)] ?_
   obtain ⟨w67, r68, H69⟩ := H55.st (P := Try.prog) (o := 2) (ty := 31) (v := vu ((wd x 2) * 2 ^ r % K)) 2 rfl (by kernel_rfl) (by simp) rfl
   refine GL.u 10 r68 [(2, pt p3 0), (4, pt p7 0), (5, pt p22 0), (6, li 0), (7, vi r), (8, li 2)] ?_
   refine GL.q hK66 ?_
   refine G.sr fun K70 hK71 => ?_
   refine GL.r 7 7 [(2, pt p3 0), (4, pt p7 0), (5, pt p22 0), (6, li 0), (7, vi r), (8, li 2), (48, .bool (decide (0 < (r : Int))))] ?_
   refine GL.q hK71 ?_
   have hb72 : (decide (0 < (r : Int))) = false := by assumption
   rw [hb72]
   refine G.no rfl ?_
   refine G.skipK hK64 (fun _ _ h => h) ?_
   refine G.region ?_
   refine GL.r 3 3 [(2, pt p3 0), (4, pt p7 0), (5, pt p22 0), (6, li 0), (7, vi r), (8, li 3)] ?_
   refine GL.round rfl ?_
   refine G.seqK fun K73 hK74 => ?_
   refine G.sr fun K75 hK76 => ?_
   refine GL.r 2 2 [(2, pt p3 0), (4, pt p7 0), (5, pt p22 0), (6, li 0), (7, vi r), (8, li 3), (30, .bool true)] ?_
   refine GL.q hK76 ?_
   refine G.yes rfl ?_
   refine G.skipK hK74 (fun _ _ h => h) ?_
   refine G.seqK fun K77 hK78 => ?_
   refine G.block ?_
   refine G.sr fun K79 hK80 => ?_
   refine GL.r 5 5 [(2, pt p3 0), (4, pt p7 0), (5, pt p22 0), (6, li 0), (7, vi r), (8, li 3), (33, li 3), (37, pt p3 3)] ?_
   refine GL.s 6 (H69.ld (o := 3) (ty := 31) (v := vu (wd x 3)) 0 rfl (by kernel_rfl) rfl) [(2, pt p3 0), (4, pt p7 0), (5, pt p22 0), (6, li 0), (7, vi r), (8, li 3), (33, li 3), (38, vu (wd x 3))] ?_
   refine GL.r 7 1 [(2, pt p3 0), (4, pt p7 0), (5, pt p22 0), (6, li 0), (7, vi r), (8, li 3), (33, li 3), (38, vu (wd x 3)), (39, vi r)] ?_
   refine GL.s 8 (run_shlN (P := Try.prog) (k' := .i64) (t := 31) (a := (wd x 3)) (r := r) (by omega) _) [(2, pt p3 0), (4, pt p7 0), (5, pt p22 0), (6, li 0), (7, vi r), (8, li 3), (33, li 3), (40, vu ((wd x 3) * 2 ^ r % K))] ?_
   refine GL.r 9 1 [(2, pt p3 0), (4, pt p7 0), (5, pt p22 0), (6, li 0), (7, vi r), (8, li 3), (40, vu ((wd x 3) * 2 ^ r % K)), (41, pt p22 3)] ?_
   obtain ⟨w81, r82, H83⟩ := H69.st (P := Try.prog) (o := 3) (ty := 31) (v := vu ((wd x 3) * 2 ^ r % K)) 2 rfl (by kernel_rfl) (by simp) rfl
   refine GL.u 10 r82 [(2, pt p3 0), (4, pt p7 0), (5, pt p22 0), (6, li 0), (7, vi r), (8, li 3)] ?_
   refine GL.q hK80 ?_
   refine G.sr fun K84 hK85 => ?_
   refine GL.r 7 7 [(2, pt p3 0), (4, pt p7 0), (5, pt p22 0), (6, li 0), (7, vi r), (8, li 3), (48, .bool (decide (0 < (r : Int))))] ?_
   refine GL.q hK85 ?_
   have hb86 : (decide (0 < (r : Int))) = false := by assumption
   rw [hb86]
   refine G.no rfl ?_
   refine G.skipK hK78 (fun _ _ h => h) ?_
   refine G.region ?_
   refine GL.r 3 3 [(2, pt p3 0), (4, pt p7 0), (5, pt p22 0), (6, li 0), (7, vi r), (8, li 4)] ?_
   refine GL.round rfl ?_
   refine G.seqK fun K87 hK88 => ?_
   refine G.sr fun K89 hK90 => ?_
   refine GL.r 2 2 [(2, pt p3 0), (4, pt p7 0), (5, pt p22 0), (6, li 0), (7, vi r), (8, li 4), (30, .bool false)] ?_
   refine GL.q hK90 ?_
   refine G.no rfl ?_
   refine G.exitK hK29 (fun _ _ h => h) ?_
   refine G.sr fun K91 hK92 => ?_
   refine GL.s 1 (H83.ldA (o := 0) (ty := 33) (m := 4) (sub := [vu ((wd x 0) * 2 ^ r % K), vu ((wd x 1) * 2 ^ r % K), vu ((wd x 2) * 2 ^ r % K), vu ((wd x 3) * 2 ^ r % K)]) 2 rfl (by kernel_rfl) rfl rfl) [(4, pt p7 0), (63, .agg #[vu ((wd x 0) * 2 ^ r % K), vu ((wd x 1) * 2 ^ r % K), vu ((wd x 2) * 2 ^ r % K), vu ((wd x 3) * 2 ^ r % K)])] ?_
   obtain ⟨w93, r94, H95⟩ := H83.stA (P := Try.prog) (o := 0) (vs := [vu ((wd x 0) * 2 ^ r % K), vu ((wd x 1) * 2 ^ r % K), vu ((wd x 2) * 2 ^ r % K), vu ((wd x 3) * 2 ^ r % K)]) (ty := 33) (m := 4) 1 rfl (by kernel_rfl) rfl (by first | decide | simp) (by simp [Value.oneCell'])
   refine GL.u 2 r94 [(4, pt p7 0)] ?_
   refine GL.q hK92 ?_
   refine G.ret fun F_ hF_ hM_ => hRet _ _ (bodyPost_1 rfl (RV.cell rfl (H95.ldA (o := 0) (ty := 33) (m := 4) (sub := [vu ((wd x 0) * 2 ^ r % K), vu ((wd x 1) * 2 ^ r % K), vu ((wd x 2) * 2 ^ r % K), vu ((wd x 3) * 2 ^ r % K)]) 1 rfl (by kernel_rfl) rfl rfl)) ?_ F_ hF_ hM_)
   rw [show 64 * 0 + r = r by omega]
   rw [← left_fin0' hx (show r = 0 by omega)]
   exact ⟨rfl, H95.sub (List.nil_sublist _)⟩
 · skip
   have hb58f := of_decide_eq_true hb58
   refine G.yes rfl ?_
   refine G.tail 14 (by kernel_rfl) (by kernel_rfl) ?_
   have H96 := H55.drew
   generalize ({ w53 with drawn := w53.drawn + 1 } : World) = w97 at H96 ⊢
   refine GS.r 2 2 [(2, pt p3 0), (4, pt p7 0), (5, pt p22 0), (6, li 0), (7, vi r), (8, li 1), (49, li 1), (50, pt p22 1)] ?_
   refine GS.s 3 (H96.ld (o := 1) (ty := 31) (v := vu ((wd x 1) * 2 ^ r % K)) 2 rfl (by kernel_rfl) rfl) [(2, pt p3 0), (4, pt p7 0), (5, pt p22 0), (6, li 0), (7, vi r), (8, li 1), (49, li 1), (51, vu ((wd x 1) * 2 ^ r % K))] ?_
   refine GS.r 8 5 [(2, pt p3 0), (4, pt p7 0), (5, pt p22 0), (6, li 0), (7, vi r), (8, li 1), (49, li 1), (51, vu ((wd x 1) * 2 ^ r % K)), (56, pt p3 0)] ?_
   refine GS.s 9 (H96.ld (o := 0) (ty := 31) (v := vu (wd x 0)) 0 rfl (by kernel_rfl) rfl) [(2, pt p3 0), (4, pt p7 0), (5, pt p22 0), (6, li 0), (7, vi r), (8, li 1), (49, li 1), (51, vu ((wd x 1) * 2 ^ r % K)), (57, vu (wd x 0))] ?_
   refine GS.r 11 2 [(2, pt p3 0), (4, pt p7 0), (5, pt p22 0), (6, li 0), (7, vi r), (8, li 1), (49, li 1), (51, vu ((wd x 1) * 2 ^ r % K)), (57, vu (wd x 0)), (59, li (IntKind.i64.wrap (64 - (r : Int))))] ?_
   have e98 : (IntKind.i64.wrap (64 - (r : Int))) = ((64 - r : Nat) : Int) := by rw [in_i64 (by omega)]; omega
   rw [e98]
   clear e98
   refine GS.s 12 (run_shrN (P := Try.prog) (k' := .i64) (t := 31) (a := (wd x 0)) (r := (64 - r)) (by omega) _) [(2, pt p3 0), (4, pt p7 0), (5, pt p22 0), (6, li 0), (7, vi r), (8, li 1), (49, li 1), (51, vu ((wd x 1) * 2 ^ r % K)), (60, vu ((wd x 0) / 2 ^ (64 - r)))] ?_
   refine GS.r 14 2 [(2, pt p3 0), (4, pt p7 0), (5, pt p22 0), (6, li 0), (7, vi r), (8, li 1), (61, lu (Go.bits .or .u64 (((wd x 1) * 2 ^ r % K : Nat) : Int) (((wd x 0) / 2 ^ (64 - r) : Nat) : Int))), (62, pt p22 1)] ?_
   have e99 : (Go.bits .or .u64 (((wd x 1) * 2 ^ r % K : Nat) : Int) (((wd x 0) / 2 ^ (64 - r) : Nat) : Int)) = (((wd x 1) * 2 ^ r % K + (wd x 0) * 2 ^ r / K : Nat) : Int) := or_shift (wd_lt _ _) (by omega)
   rw [e99]
   clear e99
   refine GS.tail rfl ?_
   obtain ⟨w100, r101, H102⟩ := H96.st (P := Try.prog) (o := 1) (ty := 31) (v := vu ((wd x 1) * 2 ^ r % K + (wd x 0) * 2 ^ r / K)) 2 rfl (by kernel_rfl) (by simp) rfl
   refine GL.u 15 r101 [(2, pt p3 0), (4, pt p7 0), (5, pt p22 0), (6, li 0), (7, vi r), (8, li 1)] ?_
   refine GL.q hK50 ?_
   refine G.region ?_
   refine GL.r 3 3 [(2, pt p3 0), (4, pt p7 0), (5, pt p22 0), (6, li 0), (7, vi r), (8, li 2)] ?_
   refine GL.round rfl ?_
   refine G.seqK fun K103 hK104 => ?_
   refine G.sr fun K105 hK106 => ?_
   refine GL.r 2 2 [(2, pt p3 0), (4, pt p7 0), (5, pt p22 0), (6, li 0), (7, vi r), (8, li 2), (30, .bool true)] ?_
   refine GL.q hK106 ?_
   refine G.yes rfl ?_
   refine G.skipK hK104 (fun _ _ h => h) ?_
   refine G.seqK fun K107 hK108 => ?_
   refine G.block ?_
   refine G.sr fun K109 hK110 => ?_
   refine GL.r 5 5 [(2, pt p3 0), (4, pt p7 0), (5, pt p22 0), (6, li 0), (7, vi r), (8, li 2), (33, li 2), (37, pt p3 2)] ?_
   refine GL.s 6 (H102.ld (o := 2) (ty := 31) (v := vu (wd x 2)) 0 rfl (by kernel_rfl) rfl) [(2, pt p3 0), (4, pt p7 0), (5, pt p22 0), (6, li 0), (7, vi r), (8, li 2), (33, li 2), (38, vu (wd x 2))] ?_
   refine GL.r 7 1 [(2, pt p3 0), (4, pt p7 0), (5, pt p22 0), (6, li 0), (7, vi r), (8, li 2), (33, li 2), (38, vu (wd x 2)), (39, vi r)] ?_
   refine GL.s 8 (run_shlN (P := Try.prog) (k' := .i64) (t := 31) (a := (wd x 2)) (r := r) (by omega) _) [(2, pt p3 0), (4, pt p7 0), (5, pt p22 0), (6, li 0), (7, vi r), (8, li 2), (33, li 2), (40, vu ((wd x 2) * 2 ^ r % K))] ?_
   refine GL.r 9 1 [(2, pt p3 0), (4, pt p7 0), (5, pt p22 0), (6, li 0), (7, vi r), (8, li 2), (40, vu ((wd x 2) * 2 ^ r % K)), (41, pt p22 2)] ?_
   obtain ⟨w111, r112, H113⟩ := H102.st (P := Try.prog) (o := 2) (ty := 31) (v := vu ((wd x 2) * 2 ^ r % K)) 2 rfl (by kernel_rfl) (by simp) rfl
   refine GL.u 10 r112 [(2, pt p3 0), (4, pt p7 0), (5, pt p22 0), (6, li 0), (7, vi r), (8, li 2)] ?_
   refine GL.q hK110 ?_
   refine G.sr fun K114 hK115 => ?_
   refine GL.r 7 7 [(2, pt p3 0), (4, pt p7 0), (5, pt p22 0), (6, li 0), (7, vi r), (8, li 2), (48, .bool (decide (0 < (r : Int))))] ?_
   refine GL.q hK115 ?_
   have hb116 : (decide (0 < (r : Int))) = true := by assumption
   rw [hb116]
   refine G.yes rfl ?_
   refine G.tail 14 (by kernel_rfl) (by kernel_rfl) ?_
   have H117 := H113.drew
   generalize ({ w111 with drawn := w111.drawn + 1 } : World) = w118 at H117 ⊢
   refine GS.r 2 2 [(2, pt p3 0), (4, pt p7 0), (5, pt p22 0), (6, li 0), (7, vi r), (8, li 2), (49, li 2), (50, pt p22 2)] ?_
   refine GS.s 3 (H117.ld (o := 2) (ty := 31) (v := vu ((wd x 2) * 2 ^ r % K)) 2 rfl (by kernel_rfl) rfl) [(2, pt p3 0), (4, pt p7 0), (5, pt p22 0), (6, li 0), (7, vi r), (8, li 2), (49, li 2), (51, vu ((wd x 2) * 2 ^ r % K))] ?_
   refine GS.r 8 5 [(2, pt p3 0), (4, pt p7 0), (5, pt p22 0), (6, li 0), (7, vi r), (8, li 2), (49, li 2), (51, vu ((wd x 2) * 2 ^ r % K)), (56, pt p3 1)] ?_
   refine GS.s 9 (H117.ld (o := 1) (ty := 31) (v := vu (wd x 1)) 0 rfl (by kernel_rfl) rfl) [(2, pt p3 0), (4, pt p7 0), (5, pt p22 0), (6, li 0), (7, vi r), (8, li 2), (49, li 2), (51, vu ((wd x 2) * 2 ^ r % K)), (57, vu (wd x 1))] ?_
   refine GS.r 11 2 [(2, pt p3 0), (4, pt p7 0), (5, pt p22 0), (6, li 0), (7, vi r), (8, li 2), (49, li 2), (51, vu ((wd x 2) * 2 ^ r % K)), (57, vu (wd x 1)), (59, li (IntKind.i64.wrap (64 - (r : Int))))] ?_
   have e119 : (IntKind.i64.wrap (64 - (r : Int))) = ((64 - r : Nat) : Int) := by rw [in_i64 (by omega)]; omega
   rw [e119]
   clear e119
   refine GS.s 12 (run_shrN (P := Try.prog) (k' := .i64) (t := 31) (a := (wd x 1)) (r := (64 - r)) (by omega) _) [(2, pt p3 0), (4, pt p7 0), (5, pt p22 0), (6, li 0), (7, vi r), (8, li 2), (49, li 2), (51, vu ((wd x 2) * 2 ^ r % K)), (60, vu ((wd x 1) / 2 ^ (64 - r)))] ?_
   refine GS.r 14 2 [(2, pt p3 0), (4, pt p7 0), (5, pt p22 0), (6, li 0), (7, vi r), (8, li 2), (61, lu (Go.bits .or .u64 (((wd x 2) * 2 ^ r % K : Nat) : Int) (((wd x 1) / 2 ^ (64 - r) : Nat) : Int))), (62, pt p22 2)] ?_
   have e120 : (Go.bits .or .u64 (((wd x 2) * 2 ^ r % K : Nat) : Int) (((wd x 1) / 2 ^ (64 - r) : Nat) : Int)) = (((wd x 2) * 2 ^ r % K + (wd x 1) * 2 ^ r / K : Nat) : Int) := or_shift (wd_lt _ _) (by omega)
   rw [e120]
   clear e120
   refine GS.tail rfl ?_
   obtain ⟨w121, r122, H123⟩ := H117.st (P := Try.prog) (o := 2) (ty := 31) (v := vu ((wd x 2) * 2 ^ r % K + (wd x 1) * 2 ^ r / K)) 2 rfl (by kernel_rfl) (by simp) rfl
   refine GL.u 15 r122 [(2, pt p3 0), (4, pt p7 0), (5, pt p22 0), (6, li 0), (7, vi r), (8, li 2)] ?_
   refine GL.q hK108 ?_
   refine G.region ?_
   refine GL.r 3 3 [(2, pt p3 0), (4, pt p7 0), (5, pt p22 0), (6, li 0), (7, vi r), (8, li 3)] ?_
   refine GL.round rfl ?_
   refine G.seqK fun K124 hK125 => ?_
   refine G.sr fun K126 hK127 => ?_
   refine GL.r 2 2 [(2, pt p3 0), (4, pt p7 0), (5, pt p22 0), (6, li 0), (7, vi r), (8, li 3), (30, .bool true)] ?_
   refine GL.q hK127 ?_
   refine G.yes rfl ?_
   refine G.skipK hK125 (fun _ _ h => h) ?_
   refine G.seqK fun K128 hK129 => ?_
   refine G.block ?_
   refine G.sr fun K130 hK131 => ?_
   refine GL.r 5 5 [(2, pt p3 0), (4, pt p7 0), (5, pt p22 0), (6, li 0), (7, vi r), (8, li 3), (33, li 3), (37, pt p3 3)] ?_
   refine GL.s 6 (H123.ld (o := 3) (ty := 31) (v := vu (wd x 3)) 0 rfl (by kernel_rfl) rfl) [(2, pt p3 0), (4, pt p7 0), (5, pt p22 0), (6, li 0), (7, vi r), (8, li 3), (33, li 3), (38, vu (wd x 3))] ?_
   refine GL.r 7 1 [(2, pt p3 0), (4, pt p7 0), (5, pt p22 0), (6, li 0), (7, vi r), (8, li 3), (33, li 3), (38, vu (wd x 3)), (39, vi r)] ?_
   refine GL.s 8 (run_shlN (P := Try.prog) (k' := .i64) (t := 31) (a := (wd x 3)) (r := r) (by omega) _) [(2, pt p3 0), (4, pt p7 0), (5, pt p22 0), (6, li 0), (7, vi r), (8, li 3), (33, li 3), (40, vu ((wd x 3) * 2 ^ r % K))] ?_
   refine GL.r 9 1 [(2, pt p3 0), (4, pt p7 0), (5, pt p22 0), (6, li 0), (7, vi r), (8, li 3), (40, vu ((wd x 3) * 2 ^ r % K)), (41, pt p22 3)] ?_
   obtain ⟨w132, r133, H134⟩ := H123.st (P := Try.prog) (o := 3) (ty := 31) (v := vu ((wd x 3) * 2 ^ r % K)) 2 rfl (by kernel_rfl) (by simp) rfl
   refine GL.u 10 r133 [(2, pt p3 0), (4, pt p7 0), (5, pt p22 0), (6, li 0), (7, vi r), (8, li 3)] ?_
   refine GL.q hK131 ?_
   refine G.sr fun K135 hK136 => ?_
   refine GL.r 7 7 [(2, pt p3 0), (4, pt p7 0), (5, pt p22 0), (6, li 0), (7, vi r), (8, li 3), (48, .bool (decide (0 < (r : Int))))] ?_
   refine GL.q hK136 ?_
   have hb137 : (decide (0 < (r : Int))) = true := by assumption
   rw [hb137]
   refine G.yes rfl ?_
   refine G.tail 14 (by kernel_rfl) (by kernel_rfl) ?_
   have H138 := H134.drew
   generalize ({ w132 with drawn := w132.drawn + 1 } : World) = w139 at H138 ⊢
   refine GS.r 2 2 [(2, pt p3 0), (4, pt p7 0), (5, pt p22 0), (6, li 0), (7, vi r), (8, li 3), (49, li 3), (50, pt p22 3)] ?_
   refine GS.s 3 (H138.ld (o := 3) (ty := 31) (v := vu ((wd x 3) * 2 ^ r % K)) 2 rfl (by kernel_rfl) rfl) [(2, pt p3 0), (4, pt p7 0), (5, pt p22 0), (6, li 0), (7, vi r), (8, li 3), (49, li 3), (51, vu ((wd x 3) * 2 ^ r % K))] ?_
   refine GS.r 8 5 [(2, pt p3 0), (4, pt p7 0), (5, pt p22 0), (6, li 0), (7, vi r), (8, li 3), (49, li 3), (51, vu ((wd x 3) * 2 ^ r % K)), (56, pt p3 2)] ?_
   refine GS.s 9 (H138.ld (o := 2) (ty := 31) (v := vu (wd x 2)) 0 rfl (by kernel_rfl) rfl) [(2, pt p3 0), (4, pt p7 0), (5, pt p22 0), (6, li 0), (7, vi r), (8, li 3), (49, li 3), (51, vu ((wd x 3) * 2 ^ r % K)), (57, vu (wd x 2))] ?_
   refine GS.r 11 2 [(2, pt p3 0), (4, pt p7 0), (5, pt p22 0), (6, li 0), (7, vi r), (8, li 3), (49, li 3), (51, vu ((wd x 3) * 2 ^ r % K)), (57, vu (wd x 2)), (59, li (IntKind.i64.wrap (64 - (r : Int))))] ?_
   have e140 : (IntKind.i64.wrap (64 - (r : Int))) = ((64 - r : Nat) : Int) := by rw [in_i64 (by omega)]; omega
   rw [e140]
   clear e140
   refine GS.s 12 (run_shrN (P := Try.prog) (k' := .i64) (t := 31) (a := (wd x 2)) (r := (64 - r)) (by omega) _) [(2, pt p3 0), (4, pt p7 0), (5, pt p22 0), (6, li 0), (7, vi r), (8, li 3), (49, li 3), (51, vu ((wd x 3) * 2 ^ r % K)), (60, vu ((wd x 2) / 2 ^ (64 - r)))] ?_
   refine GS.r 14 2 [(2, pt p3 0), (4, pt p7 0), (5, pt p22 0), (6, li 0), (7, vi r), (8, li 3), (61, lu (Go.bits .or .u64 (((wd x 3) * 2 ^ r % K : Nat) : Int) (((wd x 2) / 2 ^ (64 - r) : Nat) : Int))), (62, pt p22 3)] ?_
   have e141 : (Go.bits .or .u64 (((wd x 3) * 2 ^ r % K : Nat) : Int) (((wd x 2) / 2 ^ (64 - r) : Nat) : Int)) = (((wd x 3) * 2 ^ r % K + (wd x 2) * 2 ^ r / K : Nat) : Int) := or_shift (wd_lt _ _) (by omega)
   rw [e141]
   clear e141
   refine GS.tail rfl ?_
   obtain ⟨w142, r143, H144⟩ := H138.st (P := Try.prog) (o := 3) (ty := 31) (v := vu ((wd x 3) * 2 ^ r % K + (wd x 2) * 2 ^ r / K)) 2 rfl (by kernel_rfl) (by simp) rfl
   refine GL.u 15 r143 [(2, pt p3 0), (4, pt p7 0), (5, pt p22 0), (6, li 0), (7, vi r), (8, li 3)] ?_
   refine GL.q hK129 ?_
   refine G.region ?_
   refine GL.r 3 3 [(2, pt p3 0), (4, pt p7 0), (5, pt p22 0), (6, li 0), (7, vi r), (8, li 4)] ?_
   refine GL.round rfl ?_
   refine G.seqK fun K145 hK146 => ?_
   refine G.sr fun K147 hK148 => ?_
   refine GL.r 2 2 [(2, pt p3 0), (4, pt p7 0), (5, pt p22 0), (6, li 0), (7, vi r), (8, li 4), (30, .bool false)] ?_
   refine GL.q hK148 ?_
   refine G.no rfl ?_
   refine G.exitK hK29 (fun _ _ h => h) ?_
   refine G.sr fun K149 hK150 => ?_
   refine GL.s 1 (H144.ldA (o := 0) (ty := 33) (m := 4) (sub := [vu ((wd x 0) * 2 ^ r % K), vu ((wd x 1) * 2 ^ r % K + (wd x 0) * 2 ^ r / K), vu ((wd x 2) * 2 ^ r % K + (wd x 1) * 2 ^ r / K), vu ((wd x 3) * 2 ^ r % K + (wd x 2) * 2 ^ r / K)]) 2 rfl (by kernel_rfl) rfl rfl) [(4, pt p7 0), (63, .agg #[vu ((wd x 0) * 2 ^ r % K), vu ((wd x 1) * 2 ^ r % K + (wd x 0) * 2 ^ r / K), vu ((wd x 2) * 2 ^ r % K + (wd x 1) * 2 ^ r / K), vu ((wd x 3) * 2 ^ r % K + (wd x 2) * 2 ^ r / K)])] ?_
   obtain ⟨w151, r152, H153⟩ := H144.stA (P := Try.prog) (o := 0) (vs := [vu ((wd x 0) * 2 ^ r % K), vu ((wd x 1) * 2 ^ r % K + (wd x 0) * 2 ^ r / K), vu ((wd x 2) * 2 ^ r % K + (wd x 1) * 2 ^ r / K), vu ((wd x 3) * 2 ^ r % K + (wd x 2) * 2 ^ r / K)]) (ty := 33) (m := 4) 1 rfl (by kernel_rfl) rfl (by first | decide | simp) (by simp [Value.oneCell'])
   refine GL.u 2 r152 [(4, pt p7 0)] ?_
   refine GL.q hK150 ?_
   refine G.ret fun F_ hF_ hM_ => hRet _ _ (bodyPost_1 rfl (RV.cell rfl (H153.ldA (o := 0) (ty := 33) (m := 4) (sub := [vu ((wd x 0) * 2 ^ r % K), vu ((wd x 1) * 2 ^ r % K + (wd x 0) * 2 ^ r / K), vu ((wd x 2) * 2 ^ r % K + (wd x 1) * 2 ^ r / K), vu ((wd x 3) * 2 ^ r % K + (wd x 2) * 2 ^ r / K)]) 1 rfl (by kernel_rfl) rfl rfl)) ?_ F_ hF_ hM_)
   rw [show 64 * 0 + r = r by omega]
   rw [← left_fin0 hx (show r ≤ 64 by omega)]
   exact ⟨rfl, H153.sub (List.nil_sublist _)⟩
theorem Left_q1 (x r : Nat) (hx : x < K4) (hr : r < 64) (w : World) : Calls Try.prog 53 #[wv x, .int .i64 ((64 * 1 + r : Nat) : Int)] w fun e w' => e = .returned (wv (x * 2 ^ (64 * 1 + r) % K4)) ∧ Hp w [] [] w' := by
 refine calls_G (args := [wv x, vi (64 * 1 + r)]) Try.func53 rfl Try.ntmps53 rfl ?_
 intro Q0 hRet hNor hPan
 have H := Hp.start w
 refine G.sr fun K1 hK2 => ?_
 obtain ⟨p3, w4, r5, H6⟩ := H.box (P := Try.prog) 33 (wl x) (wv x) rfl
 refine GL.s 1 (r5) [(1, vi (64 * 1 + r)), (2, pt p3 0)] ?_
 obtain ⟨p7, w8, r9, H10⟩ := H6.alloc (P := Try.prog) 33 z4 (by kernel_rfl)
 refine GL.s 2 (r9) [(1, vi (64 * 1 + r)), (2, pt p3 0), (4, pt p7 0)] ?_
 refine GL.q hK2 ?_
 refine G.seqK fun K11 hK12 => ?_
 refine G.block ?_
 refine G.sr fun K13 hK14 => ?_
 refine GL.r 3 3 [(1, vi (64 * 1 + r)), (2, pt p3 0), (4, pt p7 0), (12, .bool (decide (((64 * 1 + r : Nat) : Int) ≤ (-256))))] ?_
 have hb15 : (decide (((64 * 1 + r : Nat) : Int) ≤ (-256))) = false := decide_eq_false (by omega)
 rw [hb15]
 refine GL.r 7 4 [(1, vi (64 * 1 + r)), (2, pt p3 0), (4, pt p7 0), (9, .bool (decide (256 ≤ ((64 * 1 + r : Nat) : Int))))] ?_
 refine GL.q hK14 ?_
 have hb16 : (decide (256 ≤ ((64 * 1 + r : Nat) : Int))) = false := decide_eq_false (by omega)
 rw [hb16]
 refine G.no rfl ?_
 refine G.sr fun K17 hK18 => ?_
 refine GL.r 3 3 [(1, vi (64 * 1 + r)), (2, pt p3 0), (4, pt p7 0), (17, .bool (decide (((64 * 1 + r : Nat) : Int) < 0)))] ?_
 refine GL.q hK18 ?_
 have hb19 : (decide (((64 * 1 + r : Nat) : Int) < 0)) = false := decide_eq_false (by omega)
 rw [hb19]
 refine G.no rfl ?_
 refine G.skipK hK12 (fun _ _ h => h) ?_
 refine G.sr fun K20 hK21 => ?_
 obtain ⟨p22, w23, r24, H25⟩ := H10.alloc (P := Try.prog) 33 z4 (by kernel_rfl)
 refine GL.s 1 (r24) [(1, vi (64 * 1 + r)), (2, pt p3 0), (4, pt p7 0), (5, pt p22 0)] ?_
 refine GL.q hK21 ?_
 refine G.sr fun K26 hK27 => ?_
 refine GL.r 1 1 [(1, vi (64 * 1 + r)), (2, pt p3 0), (4, pt p7 0), (5, pt p22 0), (24, vi (64 * 1 + r))] ?_
 refine GL.s 2 (run_quo64 (P := Try.prog) (t := 3) (n := (64 * 1 + r)) (q := 1) (r := r) (by omega) hr (by omega) _) [(1, vi (64 * 1 + r)), (2, pt p3 0), (4, pt p7 0), (5, pt p22 0), (25, li 1)] ?_
 refine GL.r 3 1 [(2, pt p3 0), (4, pt p7 0), (5, pt p22 0), (25, li 1), (26, vi (64 * 1 + r))] ?_
 refine GL.s 4 (run_rem64 (P := Try.prog) (t := 3) (n := (64 * 1 + r)) (q := 1) (r := r) (by omega) hr _) [(2, pt p3 0), (4, pt p7 0), (5, pt p22 0), (25, li 1), (27, vi r)] ?_
 refine GL.r 6 2 [(2, pt p3 0), (4, pt p7 0), (5, pt p22 0), (6, li 1), (7, vi r)] ?_
 refine GL.q hK27 ?_
 refine G.seqK fun K28 hK29 => ?_
 refine G.sr fun K30 hK31 => ?_
 refine GL.r 2 2 [(2, pt p3 0), (4, pt p7 0), (5, pt p22 0), (6, li 1), (7, vi r), (8, li 1)] ?_
 refine GL.q hK31 ?_
 refine G.block ?_
 refine G.unroll 5 ?_
 refine G.seqK fun K32 hK33 => ?_
 refine G.sr fun K34 hK35 => ?_
 refine GL.r 2 2 [(2, pt p3 0), (4, pt p7 0), (5, pt p22 0), (6, li 1), (7, vi r), (8, li 1), (30, .bool true)] ?_
 refine GL.q hK35 ?_
 refine G.yes rfl ?_
 refine G.skipK hK33 (fun _ _ h => h) ?_
 refine G.seqK fun K36 hK37 => ?_
 refine G.block ?_
 refine G.sr fun K38 hK39 => ?_
 refine GL.r 5 5 [(2, pt p3 0), (4, pt p7 0), (5, pt p22 0), (6, li 1), (7, vi r), (8, li 1), (33, li 1), (37, pt p3 0)] ?_
 refine GL.s 6 (H25.ld (o := 0) (ty := 31) (v := vu (wd x 0)) 0 rfl (by kernel_rfl) rfl) [(2, pt p3 0), (4, pt p7 0), (5, pt p22 0), (6, li 1), (7, vi r), (8, li 1), (33, li 1), (38, vu (wd x 0))] ?_
 refine GL.r 7 1 [(2, pt p3 0), (4, pt p7 0), (5, pt p22 0), (6, li 1), (7, vi r), (8, li 1), (33, li 1), (38, vu (wd x 0)), (39, vi r)] ?_
 refine GL.s 8 (run_shlN (P := Try.prog) (k' := .i64) (t := 31) (a := (wd x 0)) (r := r) (by omega) _) [(2, pt p3 0), (4, pt p7 0), (5, pt p22 0), (6, li 1), (7, vi r), (8, li 1), (33, li 1), (40, vu ((wd x 0) * 2 ^ r % K))] ?_
 refine GL.r 9 1 [(2, pt p3 0), (4, pt p7 0), (5, pt p22 0), (6, li 1), (7, vi r), (8, li 1), (40, vu ((wd x 0) * 2 ^ r % K)), (41, pt p22 1)] ?_
 obtain ⟨w40, r41, H42⟩ := H25.st (P := Try.prog) (o := 1) (ty := 31) (v := vu ((wd x 0) * 2 ^ r % K)) 2 rfl (by kernel_rfl) (by decide) rfl
 refine GL.u 10 r41 [(2, pt p3 0), (4, pt p7 0), (5, pt p22 0), (6, li 1), (7, vi r), (8, li 1)] ?_
 refine GL.q hK39 ?_
 refine G.sr fun K43 hK44 => ?_
 refine GL.r 7 7 [(2, pt p3 0), (4, pt p7 0), (5, pt p22 0), (6, li 1), (7, vi r), (8, li 1), (48, .bool false)] ?_
 refine GL.q hK44 ?_
 refine G.no rfl ?_
 refine G.skipK hK37 (fun _ _ h => h) ?_
 refine G.region ?_
 refine GL.r 3 3 [(2, pt p3 0), (4, pt p7 0), (5, pt p22 0), (6, li 1), (7, vi r), (8, li 2)] ?_
 refine GL.round rfl ?_
 refine G.seqK fun K45 hK46 => ?_
 refine G.sr fun K47 hK48 => ?_
 refine GL.r 2 2 [(2, pt p3 0), (4, pt p7 0), (5, pt p22 0), (6, li 1), (7, vi r), (8, li 2), (30, .bool true)] ?_
 refine GL.q hK48 ?_
 refine G.yes rfl ?_
 refine G.skipK hK46 (fun _ _ h => h) ?_
 refine G.seqK fun K49 hK50 => ?_
 refine G.block ?_
 refine G.sr fun K51 hK52 => ?_
 refine GL.r 5 5 [(2, pt p3 0), (4, pt p7 0), (5, pt p22 0), (6, li 1), (7, vi r), (8, li 2), (33, li 2), (37, pt p3 1)] ?_
 refine GL.s 6 (H42.ld (o := 1) (ty := 31) (v := vu (wd x 1)) 0 rfl (by kernel_rfl) rfl) [(2, pt p3 0), (4, pt p7 0), (5, pt p22 0), (6, li 1), (7, vi r), (8, li 2), (33, li 2), (38, vu (wd x 1))] ?_
 refine GL.r 7 1 [(2, pt p3 0), (4, pt p7 0), (5, pt p22 0), (6, li 1), (7, vi r), (8, li 2), (33, li 2), (38, vu (wd x 1)), (39, vi r)] ?_
 refine GL.s 8 (run_shlN (P := Try.prog) (k' := .i64) (t := 31) (a := (wd x 1)) (r := r) (by omega) _) [(2, pt p3 0), (4, pt p7 0), (5, pt p22 0), (6, li 1), (7, vi r), (8, li 2), (33, li 2), (40, vu ((wd x 1) * 2 ^ r % K))] ?_
 refine GL.r 9 1 [(2, pt p3 0), (4, pt p7 0), (5, pt p22 0), (6, li 1), (7, vi r), (8, li 2), (40, vu ((wd x 1) * 2 ^ r % K)), (41, pt p22 2)] ?_
 obtain ⟨w53, r54, H55⟩ := H42.st (P := Try.prog) (o := 2) (ty := 31) (v := vu ((wd x 1) * 2 ^ r % K)) 2 rfl (by kernel_rfl) (by simp) rfl
 refine GL.u 10 r54 [(2, pt p3 0), (4, pt p7 0), (5, pt p22 0), (6, li 1), (7, vi r), (8, li 2)] ?_
 refine GL.q hK52 ?_
 refine G.sr fun K56 hK57 => ?_
 refine GL.r 7 7 [(2, pt p3 0), (4, pt p7 0), (5, pt p22 0), (6, li 1), (7, vi r), (8, li 2), (48, .bool (decide (0 < (r : Int))))] ?_
 refine GL.q hK57 ?_
 cases hb58 : (decide (0 < (r : Int)))
 · skip
   have hb58f := of_decide_eq_false hb58
   refine G.no rfl ?_
   refine G.skipK hK50 (fun _ _ h => h) ?_
   refine G.region ?_
   refine GL.r 3 3 [(2, pt p3 0), (4, pt p7 0), (5, pt p22 0), (6, li 1), (7, vi r), (8, li 3)] ?_
   refine GL.round rfl ?_
   refine G.seqK fun K59 hK60 => ?_
   refine G.sr fun K61 hK62 => ?_
   refine GL.r 2 2 [(2, pt p3 0), (4, pt p7 0), (5, pt p22 0), (6, li 1), (7, vi r), (8, li 3), (30, .bool true)] ?_
   refine GL.q hK62 ?_
   refine G.yes rfl ?_
   refine G.skipK hK60 (fun _ _ h => h) ?_
   refine G.seqK fun K63 hK64 => ?_
   refine G.block ?_
   refine G.sr fun K65 hK66 => ?_
   refine GL.r 5 5 [(2, pt p3 0), (4, pt p7 0), (5, pt p22 0), (6, li 1), (7, vi r), (8, li 3), (33, li 3), (37, pt p3 2)] ?_
   refine GL.s 6 (H55.ld (o := 2) (ty := 31) (v := vu (wd x 2)) 0 rfl (by kernel_rfl) rfl) [(2, pt p3 0), (4, pt p7 0), (5, pt p22 0), (6, li 1), (7, vi r), (8, li 3), (33, li 3), (38, vu (wd x 2))] ?_
   refine GL.r 7 1 [(2, pt p3 0), (4, pt p7 0), (5, pt p22 0), (6, li 1), (7, vi r), (8, li 3), (33, li 3), (38, vu (wd x 2)), (39, vi r)] ?_
   refine GL.s 8 (run_shlN (P := Try.prog) (k' := .i64) (t := 31) (a := (wd x 2)) (r := r) (by omega) _) [(2, pt p3 0), (4, pt p7 0), (5, pt p22 0), (6, li 1), (7, vi r), (8, li 3), (33, li 3), (40, vu ((wd x 2) * 2 ^ r % K))] ?_
   refine GL.r 9 1 [(2, pt p3 0), (4, pt p7 0), (5, pt p22 0), (6, li 1), (7, vi r), (8, li 3), (40, vu ((wd x 2) * 2 ^ r % K)), (41, pt p22 3)] ?_
   obtain ⟨w67, r68, H69⟩ := H55.st (P := Try.prog) (o := 3) (ty := 31) (v := vu ((wd x 2) * 2 ^ r % K)) 2 rfl (by kernel_rfl) (by simp) rfl
   refine GL.u 10 r68 [(2, pt p3 0), (4, pt p7 0), (5, pt p22 0), (6, li 1), (7, vi r), (8, li 3)] ?_
   refine GL.q hK66 ?_
   refine G.sr fun K70 hK71 => ?_
   refine GL.r 7 7 [(2, pt p3 0), (4, pt p7 0), (5, pt p22 0), (6, li 1), (7, vi r), (8, li 3), (48, .bool (decide (0 < (r : Int))))] ?_
   refine GL.q hK71 ?_
   have hb72 : (decide (0 < (r : Int))) = false := by assumption
   rw [hb72]
   refine G.no rfl ?_
   refine G.skipK hK64 (fun _ _ h => h) ?_
   refine G.region ?_
   refine GL.r 3 3 [(2, pt p3 0), (4, pt p7 0), (5, pt p22 0), (6, li 1), (7, vi r), (8, li 4)] ?_
   refine GL.round rfl ?_
   refine G.seqK fun K73 hK74 => ?_
   refine G.sr fun K75 hK76 => ?_
   refine GL.r 2 2 [(2, pt p3 0), (4, pt p7 0), (5, pt p22 0), (6, li 1), (7, vi r), (8, li 4), (30, .bool false)] ?_
   refine GL.q hK76 ?_
   refine G.no rfl ?_
   refine G.exitK hK29 (fun _ _ h => h) ?_
   refine G.sr fun K77 hK78 => ?_
   refine GL.s 1 (H69.ldA (o := 0) (ty := 33) (m := 4) (sub := [lu 0, vu ((wd x 0) * 2 ^ r % K), vu ((wd x 1) * 2 ^ r % K), vu ((wd x 2) * 2 ^ r % K)]) 2 rfl (by kernel_rfl) rfl rfl) [(4, pt p7 0), (63, .agg #[lu 0, vu ((wd x 0) * 2 ^ r % K), vu ((wd x 1) * 2 ^ r % K), vu ((wd x 2) * 2 ^ r % K)])] ?_
   obtain ⟨w79, r80, H81⟩ := H69.stA (P := Try.prog) (o := 0) (vs := [lu 0, vu ((wd x 0) * 2 ^ r % K), vu ((wd x 1) * 2 ^ r % K), vu ((wd x 2) * 2 ^ r % K)]) (ty := 33) (m := 4) 1 rfl (by kernel_rfl) rfl (by first | decide | simp) (by simp [Value.oneCell'])
   refine GL.u 2 r80 [(4, pt p7 0)] ?_
   refine GL.q hK78 ?_
   refine G.ret fun F_ hF_ hM_ => hRet _ _ (bodyPost_1 rfl (RV.cell rfl (H81.ldA (o := 0) (ty := 33) (m := 4) (sub := [lu 0, vu ((wd x 0) * 2 ^ r % K), vu ((wd x 1) * 2 ^ r % K), vu ((wd x 2) * 2 ^ r % K)]) 1 rfl (by kernel_rfl) rfl rfl)) ?_ F_ hF_ hM_)
   rw [← left_fin1' hx (show r = 0 by omega)]
   exact ⟨rfl, H81.sub (List.nil_sublist _)⟩
 · skip
   have hb58f := of_decide_eq_true hb58
   refine G.yes rfl ?_
   refine G.tail 14 (by kernel_rfl) (by kernel_rfl) ?_
   have H82 := H55.drew
   generalize ({ w53 with drawn := w53.drawn + 1 } : World) = w83 at H82 ⊢
   refine GS.r 2 2 [(2, pt p3 0), (4, pt p7 0), (5, pt p22 0), (6, li 1), (7, vi r), (8, li 2), (49, li 2), (50, pt p22 2)] ?_
   refine GS.s 3 (H82.ld (o := 2) (ty := 31) (v := vu ((wd x 1) * 2 ^ r % K)) 2 rfl (by kernel_rfl) rfl) [(2, pt p3 0), (4, pt p7 0), (5, pt p22 0), (6, li 1), (7, vi r), (8, li 2), (49, li 2), (51, vu ((wd x 1) * 2 ^ r % K))] ?_
   refine GS.r 8 5 [(2, pt p3 0), (4, pt p7 0), (5, pt p22 0), (6, li 1), (7, vi r), (8, li 2), (49, li 2), (51, vu ((wd x 1) * 2 ^ r % K)), (56, pt p3 0)] ?_
   refine GS.s 9 (H82.ld (o := 0) (ty := 31) (v := vu (wd x 0)) 0 rfl (by kernel_rfl) rfl) [(2, pt p3 0), (4, pt p7 0), (5, pt p22 0), (6, li 1), (7, vi r), (8, li 2), (49, li 2), (51, vu ((wd x 1) * 2 ^ r % K)), (57, vu (wd x 0))] ?_
   refine GS.r 11 2 [(2, pt p3 0), (4, pt p7 0), (5, pt p22 0), (6, li 1), (7, vi r), (8, li 2), (49, li 2), (51, vu ((wd x 1) * 2 ^ r % K)), (57, vu (wd x 0)), (59, li (IntKind.i64.wrap (64 - (r : Int))))] ?_
   have e84 : (IntKind.i64.wrap (64 - (r : Int))) = ((64 - r : Nat) : Int) := by rw [in_i64 (by omega)]; omega
   rw [e84]
   clear e84
   refine GS.s 12 (run_shrN (P := Try.prog) (k' := .i64) (t := 31) (a := (wd x 0)) (r := (64 - r)) (by omega) _) [(2, pt p3 0), (4, pt p7 0), (5, pt p22 0), (6, li 1), (7, vi r), (8, li 2), (49, li 2), (51, vu ((wd x 1) * 2 ^ r % K)), (60, vu ((wd x 0) / 2 ^ (64 - r)))] ?_
   refine GS.r 14 2 [(2, pt p3 0), (4, pt p7 0), (5, pt p22 0), (6, li 1), (7, vi r), (8, li 2), (61, lu (Go.bits .or .u64 (((wd x 1) * 2 ^ r % K : Nat) : Int) (((wd x 0) / 2 ^ (64 - r) : Nat) : Int))), (62, pt p22 2)] ?_
   have e85 : (Go.bits .or .u64 (((wd x 1) * 2 ^ r % K : Nat) : Int) (((wd x 0) / 2 ^ (64 - r) : Nat) : Int)) = (((wd x 1) * 2 ^ r % K + (wd x 0) * 2 ^ r / K : Nat) : Int) := or_shift (wd_lt _ _) (by omega)
   rw [e85]
   clear e85
   refine GS.tail rfl ?_
   obtain ⟨w86, r87, H88⟩ := H82.st (P := Try.prog) (o := 2) (ty := 31) (v := vu ((wd x 1) * 2 ^ r % K + (wd x 0) * 2 ^ r / K)) 2 rfl (by kernel_rfl) (by simp) rfl
   refine GL.u 15 r87 [(2, pt p3 0), (4, pt p7 0), (5, pt p22 0), (6, li 1), (7, vi r), (8, li 2)] ?_
   refine GL.q hK50 ?_
   refine G.region ?_
   refine GL.r 3 3 [(2, pt p3 0), (4, pt p7 0), (5, pt p22 0), (6, li 1), (7, vi r), (8, li 3)] ?_
   refine GL.round rfl ?_
   refine G.seqK fun K89 hK90 => ?_
   refine G.sr fun K91 hK92 => ?_
   refine GL.r 2 2 [(2, pt p3 0), (4, pt p7 0), (5, pt p22 0), (6, li 1), (7, vi r), (8, li 3), (30, .bool true)] ?_
   refine GL.q hK92 ?_
   refine G.yes rfl ?_
   refine G.skipK hK90 (fun _ _ h => h) ?_
   refine G.seqK fun K93 hK94 => ?_
   refine G.block ?_
   refine G.sr fun K95 hK96 => ?_
   refine GL.r 5 5 [(2, pt p3 0), (4, pt p7 0), (5, pt p22 0), (6, li 1), (7, vi r), (8, li 3), (33, li 3), (37, pt p3 2)] ?_
   refine GL.s 6 (H88.ld (o := 2) (ty := 31) (v := vu (wd x 2)) 0 rfl (by kernel_rfl) rfl) [(2, pt p3 0), (4, pt p7 0), (5, pt p22 0), (6, li 1), (7, vi r), (8, li 3), (33, li 3), (38, vu (wd x 2))] ?_
   refine GL.r 7 1 [(2, pt p3 0), (4, pt p7 0), (5, pt p22 0), (6, li 1), (7, vi r), (8, li 3), (33, li 3), (38, vu (wd x 2)), (39, vi r)] ?_
   refine GL.s 8 (run_shlN (P := Try.prog) (k' := .i64) (t := 31) (a := (wd x 2)) (r := r) (by omega) _) [(2, pt p3 0), (4, pt p7 0), (5, pt p22 0), (6, li 1), (7, vi r), (8, li 3), (33, li 3), (40, vu ((wd x 2) * 2 ^ r % K))] ?_
   refine GL.r 9 1 [(2, pt p3 0), (4, pt p7 0), (5, pt p22 0), (6, li 1), (7, vi r), (8, li 3), (40, vu ((wd x 2) * 2 ^ r % K)), (41, pt p22 3)] ?_
   obtain ⟨w97, r98, H99⟩ := H88.st (P := Try.prog) (o := 3) (ty := 31) (v := vu ((wd x 2) * 2 ^ r % K)) 2 rfl (by kernel_rfl) (by simp) rfl
   refine GL.u 10 r98 [(2, pt p3 0), (4, pt p7 0), (5, pt p22 0), (6, li 1), (7, vi r), (8, li 3)] ?_
   refine GL.q hK96 ?_
   refine G.sr fun K100 hK101 => ?_
   refine GL.r 7 7 [(2, pt p3 0), (4, pt p7 0), (5, pt p22 0), (6, li 1), (7, vi r), (8, li 3), (48, .bool (decide (0 < (r : Int))))] ?_
   refine GL.q hK101 ?_
   have hb102 : (decide (0 < (r : Int))) = true := by assumption
   rw [hb102]
   refine G.yes rfl ?_
   refine G.tail 14 (by kernel_rfl) (by kernel_rfl) ?_
   have H103 := H99.drew
   generalize ({ w97 with drawn := w97.drawn + 1 } : World) = w104 at H103 ⊢
   refine GS.r 2 2 [(2, pt p3 0), (4, pt p7 0), (5, pt p22 0), (6, li 1), (7, vi r), (8, li 3), (49, li 3), (50, pt p22 3)] ?_
   refine GS.s 3 (H103.ld (o := 3) (ty := 31) (v := vu ((wd x 2) * 2 ^ r % K)) 2 rfl (by kernel_rfl) rfl) [(2, pt p3 0), (4, pt p7 0), (5, pt p22 0), (6, li 1), (7, vi r), (8, li 3), (49, li 3), (51, vu ((wd x 2) * 2 ^ r % K))] ?_
   refine GS.r 8 5 [(2, pt p3 0), (4, pt p7 0), (5, pt p22 0), (6, li 1), (7, vi r), (8, li 3), (49, li 3), (51, vu ((wd x 2) * 2 ^ r % K)), (56, pt p3 1)] ?_
   refine GS.s 9 (H103.ld (o := 1) (ty := 31) (v := vu (wd x 1)) 0 rfl (by kernel_rfl) rfl) [(2, pt p3 0), (4, pt p7 0), (5, pt p22 0), (6, li 1), (7, vi r), (8, li 3), (49, li 3), (51, vu ((wd x 2) * 2 ^ r % K)), (57, vu (wd x 1))] ?_
   refine GS.r 11 2 [(2, pt p3 0), (4, pt p7 0), (5, pt p22 0), (6, li 1), (7, vi r), (8, li 3), (49, li 3), (51, vu ((wd x 2) * 2 ^ r % K)), (57, vu (wd x 1)), (59, li (IntKind.i64.wrap (64 - (r : Int))))] ?_
   have e105 : (IntKind.i64.wrap (64 - (r : Int))) = ((64 - r : Nat) : Int) := by rw [in_i64 (by omega)]; omega
   rw [e105]
   clear e105
   refine GS.s 12 (run_shrN (P := Try.prog) (k' := .i64) (t := 31) (a := (wd x 1)) (r := (64 - r)) (by omega) _) [(2, pt p3 0), (4, pt p7 0), (5, pt p22 0), (6, li 1), (7, vi r), (8, li 3), (49, li 3), (51, vu ((wd x 2) * 2 ^ r % K)), (60, vu ((wd x 1) / 2 ^ (64 - r)))] ?_
   refine GS.r 14 2 [(2, pt p3 0), (4, pt p7 0), (5, pt p22 0), (6, li 1), (7, vi r), (8, li 3), (61, lu (Go.bits .or .u64 (((wd x 2) * 2 ^ r % K : Nat) : Int) (((wd x 1) / 2 ^ (64 - r) : Nat) : Int))), (62, pt p22 3)] ?_
   have e106 : (Go.bits .or .u64 (((wd x 2) * 2 ^ r % K : Nat) : Int) (((wd x 1) / 2 ^ (64 - r) : Nat) : Int)) = (((wd x 2) * 2 ^ r % K + (wd x 1) * 2 ^ r / K : Nat) : Int) := or_shift (wd_lt _ _) (by omega)
   rw [e106]
   clear e106
   refine GS.tail rfl ?_
   obtain ⟨w107, r108, H109⟩ := H103.st (P := Try.prog) (o := 3) (ty := 31) (v := vu ((wd x 2) * 2 ^ r % K + (wd x 1) * 2 ^ r / K)) 2 rfl (by kernel_rfl) (by simp) rfl
   refine GL.u 15 r108 [(2, pt p3 0), (4, pt p7 0), (5, pt p22 0), (6, li 1), (7, vi r), (8, li 3)] ?_
   refine GL.q hK94 ?_
   refine G.region ?_
   refine GL.r 3 3 [(2, pt p3 0), (4, pt p7 0), (5, pt p22 0), (6, li 1), (7, vi r), (8, li 4)] ?_
   refine GL.round rfl ?_
   refine G.seqK fun K110 hK111 => ?_
   refine G.sr fun K112 hK113 => ?_
   refine GL.r 2 2 [(2, pt p3 0), (4, pt p7 0), (5, pt p22 0), (6, li 1), (7, vi r), (8, li 4), (30, .bool false)] ?_
   refine GL.q hK113 ?_
   refine G.no rfl ?_
   refine G.exitK hK29 (fun _ _ h => h) ?_
   refine G.sr fun K114 hK115 => ?_
   refine GL.s 1 (H109.ldA (o := 0) (ty := 33) (m := 4) (sub := [lu 0, vu ((wd x 0) * 2 ^ r % K), vu ((wd x 1) * 2 ^ r % K + (wd x 0) * 2 ^ r / K), vu ((wd x 2) * 2 ^ r % K + (wd x 1) * 2 ^ r / K)]) 2 rfl (by kernel_rfl) rfl rfl) [(4, pt p7 0), (63, .agg #[lu 0, vu ((wd x 0) * 2 ^ r % K), vu ((wd x 1) * 2 ^ r % K + (wd x 0) * 2 ^ r / K), vu ((wd x 2) * 2 ^ r % K + (wd x 1) * 2 ^ r / K)])] ?_
   obtain ⟨w116, r117, H118⟩ := H109.stA (P := Try.prog) (o := 0) (vs := [lu 0, vu ((wd x 0) * 2 ^ r % K), vu ((wd x 1) * 2 ^ r % K + (wd x 0) * 2 ^ r / K), vu ((wd x 2) * 2 ^ r % K + (wd x 1) * 2 ^ r / K)]) (ty := 33) (m := 4) 1 rfl (by kernel_rfl) rfl (by first | decide | simp) (by simp [Value.oneCell'])
   refine GL.u 2 r117 [(4, pt p7 0)] ?_
   refine GL.q hK115 ?_
   refine G.ret fun F_ hF_ hM_ => hRet _ _ (bodyPost_1 rfl (RV.cell rfl (H118.ldA (o := 0) (ty := 33) (m := 4) (sub := [lu 0, vu ((wd x 0) * 2 ^ r % K), vu ((wd x 1) * 2 ^ r % K + (wd x 0) * 2 ^ r / K), vu ((wd x 2) * 2 ^ r % K + (wd x 1) * 2 ^ r / K)]) 1 rfl (by kernel_rfl) rfl rfl)) ?_ F_ hF_ hM_)
   rw [← left_fin1 hx (show r ≤ 64 by omega)]
   exact ⟨rfl, H118.sub (List.nil_sublist _)⟩
theorem Left_q2 (x r : Nat) (hx : x < K4) (hr : r < 64) (w : World) : Calls Try.prog 53 #[wv x, .int .i64 ((64 * 2 + r : Nat) : Int)] w fun e w' => e = .returned (wv (x * 2 ^ (64 * 2 + r) % K4)) ∧ Hp w [] [] w' := by
 refine calls_G (args := [wv x, vi (64 * 2 + r)]) Try.func53 rfl Try.ntmps53 rfl ?_
 intro Q0 hRet hNor hPan
 have H := Hp.start w
 refine G.sr fun K1 hK2 => ?_
 obtain ⟨p3, w4, r5, H6⟩ := H.box (P := Try.prog) 33 (wl x) (wv x) rfl
 refine GL.s 1 (r5) [(1, vi (64 * 2 + r)), (2, pt p3 0)] ?_
 obtain ⟨p7, w8, r9, H10⟩ := H6.alloc (P := Try.prog) 33 z4 (by kernel_rfl)
 refine GL.s 2 (r9) [(1, vi (64 * 2 + r)), (2, pt p3 0), (4, pt p7 0)] ?_
 refine GL.q hK2 ?_
 refine G.seqK fun K11 hK12 => ?_
 refine G.block ?_
 refine G.sr fun K13 hK14 => ?_
 refine GL.r 3 3 [(1, vi (64 * 2 + r)), (2, pt p3 0), (4, pt p7 0), (12, .bool (decide (((64 * 2 + r : Nat) : Int) ≤ (-256))))] ?_
 have hb15 : (decide (((64 * 2 + r : Nat) : Int) ≤ (-256))) = false := decide_eq_false (by omega)
 rw [hb15]
 refine GL.r 7 4 [(1, vi (64 * 2 + r)), (2, pt p3 0), (4, pt p7 0), (9, .bool (decide (256 ≤ ((64 * 2 + r : Nat) : Int))))] ?_
 refine GL.q hK14 ?_
 have hb16 : (decide (256 ≤ ((64 * 2 + r : Nat) : Int))) = false := decide_eq_false (by omega)
 rw [hb16]
 refine G.no rfl ?_
 refine G.sr fun K17 hK18 => ?_
 refine GL.r 3 3 [(1, vi (64 * 2 + r)), (2, pt p3 0), (4, pt p7 0), (17, .bool (decide (((64 * 2 + r : Nat) : Int) < 0)))] ?_
 refine GL.q hK18 ?_
 have hb19 : (decide (((64 * 2 + r : Nat) : Int) < 0)) = false := decide_eq_false (by omega)
 rw [hb19]
 refine G.no rfl ?_
 refine G.skipK hK12 (fun _ _ h => h) ?_
 refine G.sr fun K20 hK21 => ?_
 obtain ⟨p22, w23, r24, H25⟩ := H10.alloc (P := Try.prog) 33 z4 (by kernel_rfl)
 refine GL.s 1 (r24) [(1, vi (64 * 2 + r)), (2, pt p3 0), (4, pt p7 0), (5, pt p22 0)] ?_
 refine GL.q hK21 ?_
 refine G.sr fun K26 hK27 => ?_
 refine GL.r 1 1 [(1, vi (64 * 2 + r)), (2, pt p3 0), (4, pt p7 0), (5, pt p22 0), (24, vi (64 * 2 + r))] ?_
 refine GL.s 2 (run_quo64 (P := Try.prog) (t := 3) (n := (64 * 2 + r)) (q := 2) (r := r) (by omega) hr (by omega) _) [(1, vi (64 * 2 + r)), (2, pt p3 0), (4, pt p7 0), (5, pt p22 0), (25, li 2)] ?_
 refine GL.r 3 1 [(2, pt p3 0), (4, pt p7 0), (5, pt p22 0), (25, li 2), (26, vi (64 * 2 + r))] ?_
 refine GL.s 4 (run_rem64 (P := Try.prog) (t := 3) (n := (64 * 2 + r)) (q := 2) (r := r) (by omega) hr _) [(2, pt p3 0), (4, pt p7 0), (5, pt p22 0), (25, li 2), (27, vi r)] ?_
 refine GL.r 6 2 [(2, pt p3 0), (4, pt p7 0), (5, pt p22 0), (6, li 2), (7, vi r)] ?_
 refine GL.q hK27 ?_
 refine G.seqK fun K28 hK29 => ?_
 refine G.sr fun K30 hK31 => ?_
 refine GL.r 2 2 [(2, pt p3 0), (4, pt p7 0), (5, pt p22 0), (6, li 2), (7, vi r), (8, li 2)] ?_
 refine GL.q hK31 ?_
 refine G.block ?_
 refine G.unroll 5 ?_
 refine G.seqK fun K32 hK33 => ?_
 refine G.sr fun K34 hK35 => ?_
 refine GL.r 2 2 [(2, pt p3 0), (4, pt p7 0), (5, pt p22 0), (6, li 2), (7, vi r), (8, li 2), (30, .bool true)] ?_
 refine GL.q hK35 ?_
 refine G.yes rfl ?_
 refine G.skipK hK33 (fun _ _ h => h) ?_
 refine G.seqK fun K36 hK37 => ?_
 refine G.block ?_
 refine G.sr fun K38 hK39 => ?_
 refine GL.r 5 5 [(2, pt p3 0), (4, pt p7 0), (5, pt p22 0), (6, li 2), (7, vi r), (8, li 2), (33, li 2), (37, pt p3 0)] ?_
 refine GL.s 6 (H25.ld (o := 0) (ty := 31) (v := vu (wd x 0)) 0 rfl (by kernel_rfl) rfl) [(2, pt p3 0), (4, pt p7 0), (5, pt p22 0), (6, li 2), (7, vi r), (8, li 2), (33, li 2), (38, vu (wd x 0))] ?_
 refine GL.r 7 1 [(2, pt p3 0), (4, pt p7 0), (5, pt p22 0), (6, li 2), (7, vi r), (8, li 2), (33, li 2), (38, vu (wd x 0)), (39, vi r)] ?_
 refine GL.s 8 (run_shlN (P := Try.prog) (k' := .i64) (t := 31) (a := (wd x 0)) (r := r) (by omega) _) [(2, pt p3 0), (4, pt p7 0), (5, pt p22 0), (6, li 2), (7, vi r), (8, li 2), (33, li 2), (40, vu ((wd x 0) * 2 ^ r % K))] ?_
 refine GL.r 9 1 [(2, pt p3 0), (4, pt p7 0), (5, pt p22 0), (6, li 2), (7, vi r), (8, li 2), (40, vu ((wd x 0) * 2 ^ r % K)), (41, pt p22 2)] ?_
 obtain ⟨w40, r41, H42⟩ := H25.st (P := Try.prog) (o := 2) (ty := 31) (v := vu ((wd x 0) * 2 ^ r % K)) 2 rfl (by kernel_rfl) (by decide) rfl
 refine GL.u 10 r41 [(2, pt p3 0), (4, pt p7 0), (5, pt p22 0), (6, li 2), (7, vi r), (8, li 2)] ?_
 refine GL.q hK39 ?_
 refine G.sr fun K43 hK44 => ?_
 refine GL.r 7 7 [(2, pt p3 0), (4, pt p7 0), (5, pt p22 0), (6, li 2), (7, vi r), (8, li 2), (48, .bool false)] ?_
 refine GL.q hK44 ?_
 refine G.no rfl ?_
 refine G.skipK hK37 (fun _ _ h => h) ?_
 refine G.region ?_
 refine GL.r 3 3 [(2, pt p3 0), (4, pt p7 0), (5, pt p22 0), (6, li 2), (7, vi r), (8, li 3)] ?_
 refine GL.round rfl ?_
 refine G.seqK fun K45 hK46 => ?_
 refine G.sr fun K47 hK48 => ?_
 refine GL.r 2 2 [(2, pt p3 0), (4, pt p7 0), (5, pt p22 0), (6, li 2), (7, vi r), (8, li 3), (30, .bool true)] ?_
 refine GL.q hK48 ?_
 refine G.yes rfl ?_
 refine G.skipK hK46 (fun _ _ h => h) ?_
 refine G.seqK fun K49 hK50 => ?_
 refine G.block ?_
 refine G.sr fun K51 hK52 => ?_
 refine GL.r 5 5 [(2, pt p3 0), (4, pt p7 0), (5, pt p22 0), (6, li 2), (7, vi r), (8, li 3), (33, li 3), (37, pt p3 1)] ?_
 refine GL.s 6 (H42.ld (o := 1) (ty := 31) (v := vu (wd x 1)) 0 rfl (by kernel_rfl) rfl) [(2, pt p3 0), (4, pt p7 0), (5, pt p22 0), (6, li 2), (7, vi r), (8, li 3), (33, li 3), (38, vu (wd x 1))] ?_
 refine GL.r 7 1 [(2, pt p3 0), (4, pt p7 0), (5, pt p22 0), (6, li 2), (7, vi r), (8, li 3), (33, li 3), (38, vu (wd x 1)), (39, vi r)] ?_
 refine GL.s 8 (run_shlN (P := Try.prog) (k' := .i64) (t := 31) (a := (wd x 1)) (r := r) (by omega) _) [(2, pt p3 0), (4, pt p7 0), (5, pt p22 0), (6, li 2), (7, vi r), (8, li 3), (33, li 3), (40, vu ((wd x 1) * 2 ^ r % K))] ?_
 refine GL.r 9 1 [(2, pt p3 0), (4, pt p7 0), (5, pt p22 0), (6, li 2), (7, vi r), (8, li 3), (40, vu ((wd x 1) * 2 ^ r % K)), (41, pt p22 3)] ?_
 obtain ⟨w53, r54, H55⟩ := H42.st (P := Try.prog) (o := 3) (ty := 31) (v := vu ((wd x 1) * 2 ^ r % K)) 2 rfl (by kernel_rfl) (by simp) rfl
 refine GL.u 10 r54 [(2, pt p3 0), (4, pt p7 0), (5, pt p22 0), (6, li 2), (7, vi r), (8, li 3)] ?_
 refine GL.q hK52 ?_
 refine G.sr fun K56 hK57 => ?_
 refine GL.r 7 7 [(2, pt p3 0), (4, pt p7 0), (5, pt p22 0), (6, li 2), (7, vi r), (8, li 3), (48, .bool (decide (0 < (r : Int))))] ?_
 refine GL.q hK57 ?_
 cases hb58 : (decide (0 < (r : Int)))
 · skip
   have hb58f := of_decide_eq_false hb58
   refine G.no rfl ?_
   refine G.skipK hK50 (fun _ _ h => h) ?_
   refine G.region ?_
   refine GL.r 3 3 [(2, pt p3 0), (4, pt p7 0), (5, pt p22 0), (6, li 2), (7, vi r), (8, li 4)] ?_
   refine GL.round rfl ?_
   refine G.seqK fun K59 hK60 => ?_
   refine G.sr fun K61 hK62 => ?_
   refine GL.r 2 2 [(2, pt p3 0), (4, pt p7 0), (5, pt p22 0), (6, li 2), (7, vi r), (8, li 4), (30, .bool false)] ?_
   refine GL.q hK62 ?_
   refine G.no rfl ?_
   refine G.exitK hK29 (fun _ _ h => h) ?_
   refine G.sr fun K63 hK64 => ?_
   refine GL.s 1 (H55.ldA (o := 0) (ty := 33) (m := 4) (sub := [lu 0, lu 0, vu ((wd x 0) * 2 ^ r % K), vu ((wd x 1) * 2 ^ r % K)]) 2 rfl (by kernel_rfl) rfl rfl) [(4, pt p7 0), (63, .agg #[lu 0, lu 0, vu ((wd x 0) * 2 ^ r % K), vu ((wd x 1) * 2 ^ r % K)])] ?_
   obtain ⟨w65, r66, H67⟩ := H55.stA (P := Try.prog) (o := 0) (vs := [lu 0, lu 0, vu ((wd x 0) * 2 ^ r % K), vu ((wd x 1) * 2 ^ r % K)]) (ty := 33) (m := 4) 1 rfl (by kernel_rfl) rfl (by first | decide | simp) (by simp [Value.oneCell'])
   refine GL.u 2 r66 [(4, pt p7 0)] ?_
   refine GL.q hK64 ?_
   refine G.ret fun F_ hF_ hM_ => hRet _ _ (bodyPost_1 rfl (RV.cell rfl (H67.ldA (o := 0) (ty := 33) (m := 4) (sub := [lu 0, lu 0, vu ((wd x 0) * 2 ^ r % K), vu ((wd x 1) * 2 ^ r % K)]) 1 rfl (by kernel_rfl) rfl rfl)) ?_ F_ hF_ hM_)
   rw [← left_fin2' hx (show r = 0 by omega)]
   exact ⟨rfl, H67.sub (List.nil_sublist _)⟩
 · skip
   have hb58f := of_decide_eq_true hb58
   refine G.yes rfl ?_
   refine G.tail 14 (by kernel_rfl) (by kernel_rfl) ?_
   have H68 := H55.drew
   generalize ({ w53 with drawn := w53.drawn + 1 } : World) = w69 at H68 ⊢
   refine GS.r 2 2 [(2, pt p3 0), (4, pt p7 0), (5, pt p22 0), (6, li 2), (7, vi r), (8, li 3), (49, li 3), (50, pt p22 3)] ?_
   refine GS.s 3 (H68.ld (o := 3) (ty := 31) (v := vu ((wd x 1) * 2 ^ r % K)) 2 rfl (by kernel_rfl) rfl) [(2, pt p3 0), (4, pt p7 0), (5, pt p22 0), (6, li 2), (7, vi r), (8, li 3), (49, li 3), (51, vu ((wd x 1) * 2 ^ r % K))] ?_
   refine GS.r 8 5 [(2, pt p3 0), (4, pt p7 0), (5, pt p22 0), (6, li 2), (7, vi r), (8, li 3), (49, li 3), (51, vu ((wd x 1) * 2 ^ r % K)), (56, pt p3 0)] ?_
   refine GS.s 9 (H68.ld (o := 0) (ty := 31) (v := vu (wd x 0)) 0 rfl (by kernel_rfl) rfl) [(2, pt p3 0), (4, pt p7 0), (5, pt p22 0), (6, li 2), (7, vi r), (8, li 3), (49, li 3), (51, vu ((wd x 1) * 2 ^ r % K)), (57, vu (wd x 0))] ?_
   refine GS.r 11 2 [(2, pt p3 0), (4, pt p7 0), (5, pt p22 0), (6, li 2), (7, vi r), (8, li 3), (49, li 3), (51, vu ((wd x 1) * 2 ^ r % K)), (57, vu (wd x 0)), (59, li (IntKind.i64.wrap (64 - (r : Int))))] ?_
   have e70 : (IntKind.i64.wrap (64 - (r : Int))) = ((64 - r : Nat) : Int) := by rw [in_i64 (by omega)]; omega
   rw [e70]
   clear e70
   refine GS.s 12 (run_shrN (P := Try.prog) (k' := .i64) (t := 31) (a := (wd x 0)) (r := (64 - r)) (by omega) _) [(2, pt p3 0), (4, pt p7 0), (5, pt p22 0), (6, li 2), (7, vi r), (8, li 3), (49, li 3), (51, vu ((wd x 1) * 2 ^ r % K)), (60, vu ((wd x 0) / 2 ^ (64 - r)))] ?_
   refine GS.r 14 2 [(2, pt p3 0), (4, pt p7 0), (5, pt p22 0), (6, li 2), (7, vi r), (8, li 3), (61, lu (Go.bits .or .u64 (((wd x 1) * 2 ^ r % K : Nat) : Int) (((wd x 0) / 2 ^ (64 - r) : Nat) : Int))), (62, pt p22 3)] ?_
   have e71 : (Go.bits .or .u64 (((wd x 1) * 2 ^ r % K : Nat) : Int) (((wd x 0) / 2 ^ (64 - r) : Nat) : Int)) = (((wd x 1) * 2 ^ r % K + (wd x 0) * 2 ^ r / K : Nat) : Int) := or_shift (wd_lt _ _) (by omega)
   rw [e71]
   clear e71
   refine GS.tail rfl ?_
   obtain ⟨w72, r73, H74⟩ := H68.st (P := Try.prog) (o := 3) (ty := 31) (v := vu ((wd x 1) * 2 ^ r % K + (wd x 0) * 2 ^ r / K)) 2 rfl (by kernel_rfl) (by simp) rfl
   refine GL.u 15 r73 [(2, pt p3 0), (4, pt p7 0), (5, pt p22 0), (6, li 2), (7, vi r), (8, li 3)] ?_
   refine GL.q hK50 ?_
   refine G.region ?_
   refine GL.r 3 3 [(2, pt p3 0), (4, pt p7 0), (5, pt p22 0), (6, li 2), (7, vi r), (8, li 4)] ?_
   refine GL.round rfl ?_
   refine G.seqK fun K75 hK76 => ?_
   refine G.sr fun K77 hK78 => ?_
   refine GL.r 2 2 [(2, pt p3 0), (4, pt p7 0), (5, pt p22 0), (6, li 2), (7, vi r), (8, li 4), (30, .bool false)] ?_
   refine GL.q hK78 ?_
   refine G.no rfl ?_
   refine G.exitK hK29 (fun _ _ h => h) ?_
   refine G.sr fun K79 hK80 => ?_
   refine GL.s 1 (H74.ldA (o := 0) (ty := 33) (m := 4) (sub := [lu 0, lu 0, vu ((wd x 0) * 2 ^ r % K), vu ((wd x 1) * 2 ^ r % K + (wd x 0) * 2 ^ r / K)]) 2 rfl (by kernel_rfl) rfl rfl) [(4, pt p7 0), (63, .agg #[lu 0, lu 0, vu ((wd x 0) * 2 ^ r % K), vu ((wd x 1) * 2 ^ r % K + (wd x 0) * 2 ^ r / K)])] ?_
   obtain ⟨w81, r82, H83⟩ := H74.stA (P := Try.prog) (o := 0) (vs := [lu 0, lu 0, vu ((wd x 0) * 2 ^ r % K), vu ((wd x 1) * 2 ^ r % K + (wd x 0) * 2 ^ r / K)]) (ty := 33) (m := 4) 1 rfl (by kernel_rfl) rfl (by first | decide | simp) (by simp [Value.oneCell'])
   refine GL.u 2 r82 [(4, pt p7 0)] ?_
   refine GL.q hK80 ?_
   refine G.ret fun F_ hF_ hM_ => hRet _ _ (bodyPost_1 rfl (RV.cell rfl (H83.ldA (o := 0) (ty := 33) (m := 4) (sub := [lu 0, lu 0, vu ((wd x 0) * 2 ^ r % K), vu ((wd x 1) * 2 ^ r % K + (wd x 0) * 2 ^ r / K)]) 1 rfl (by kernel_rfl) rfl rfl)) ?_ F_ hF_ hM_)
   rw [← left_fin2 hx (show r ≤ 64 by omega)]
   exact ⟨rfl, H83.sub (List.nil_sublist _)⟩
theorem Left_q3 (x r : Nat) (hx : x < K4) (hr : r < 64) (w : World) : Calls Try.prog 53 #[wv x, .int .i64 ((64 * 3 + r : Nat) : Int)] w fun e w' => e = .returned (wv (x * 2 ^ (64 * 3 + r) % K4)) ∧ Hp w [] [] w' := by
 refine calls_G (args := [wv x, vi (64 * 3 + r)]) Try.func53 rfl Try.ntmps53 rfl ?_
 intro Q0 hRet hNor hPan
 have H := Hp.start w
 refine G.sr fun K1 hK2 => ?_
 obtain ⟨p3, w4, r5, H6⟩ := H.box (P := Try.prog) 33 (wl x) (wv x) rfl
 refine GL.s 1 (r5) [(1, vi (64 * 3 + r)), (2, pt p3 0)] ?_
 obtain ⟨p7, w8, r9, H10⟩ := H6.alloc (P := Try.prog) 33 z4 (by kernel_rfl)
 refine GL.s 2 (r9) [(1, vi (64 * 3 + r)), (2, pt p3 0), (4, pt p7 0)] ?_
 refine GL.q hK2 ?_
 refine G.seqK fun K11 hK12 => ?_
 refine G.block ?_
 refine G.sr fun K13 hK14 => ?_
 refine GL.r 3 3 [(1, vi (64 * 3 + r)), (2, pt p3 0), (4, pt p7 0), (12, .bool (decide (((64 * 3 + r : Nat) : Int) ≤ (-256))))] ?_
 have hb15 : (decide (((64 * 3 + r : Nat) : Int) ≤ (-256))) = false := decide_eq_false (by omega)
 rw [hb15]
 refine GL.r 7 4 [(1, vi (64 * 3 + r)), (2, pt p3 0), (4, pt p7 0), (9, .bool (decide (256 ≤ ((64 * 3 + r : Nat) : Int))))] ?_
 refine GL.q hK14 ?_
 have hb16 : (decide (256 ≤ ((64 * 3 + r : Nat) : Int))) = false := decide_eq_false (by omega)
 rw [hb16]
 refine G.no rfl ?_
 refine G.sr fun K17 hK18 => ?_
 refine GL.r 3 3 [(1, vi (64 * 3 + r)), (2, pt p3 0), (4, pt p7 0), (17, .bool (decide (((64 * 3 + r : Nat) : Int) < 0)))] ?_
 refine GL.q hK18 ?_
 have hb19 : (decide (((64 * 3 + r : Nat) : Int) < 0)) = false := decide_eq_false (by omega)
 rw [hb19]
 refine G.no rfl ?_
 refine G.skipK hK12 (fun _ _ h => h) ?_
 refine G.sr fun K20 hK21 => ?_
 obtain ⟨p22, w23, r24, H25⟩ := H10.alloc (P := Try.prog) 33 z4 (by kernel_rfl)
 refine GL.s 1 (r24) [(1, vi (64 * 3 + r)), (2, pt p3 0), (4, pt p7 0), (5, pt p22 0)] ?_
 refine GL.q hK21 ?_
 refine G.sr fun K26 hK27 => ?_
 refine GL.r 1 1 [(1, vi (64 * 3 + r)), (2, pt p3 0), (4, pt p7 0), (5, pt p22 0), (24, vi (64 * 3 + r))] ?_
 refine GL.s 2 (run_quo64 (P := Try.prog) (t := 3) (n := (64 * 3 + r)) (q := 3) (r := r) (by omega) hr (by omega) _) [(1, vi (64 * 3 + r)), (2, pt p3 0), (4, pt p7 0), (5, pt p22 0), (25, li 3)] ?_
 refine GL.r 3 1 [(2, pt p3 0), (4, pt p7 0), (5, pt p22 0), (25, li 3), (26, vi (64 * 3 + r))] ?_
 refine GL.s 4 (run_rem64 (P := Try.prog) (t := 3) (n := (64 * 3 + r)) (q := 3) (r := r) (by omega) hr _) [(2, pt p3 0), (4, pt p7 0), (5, pt p22 0), (25, li 3), (27, vi r)] ?_
 refine GL.r 6 2 [(2, pt p3 0), (4, pt p7 0), (5, pt p22 0), (6, li 3), (7, vi r)] ?_
 refine GL.q hK27 ?_
 refine G.seqK fun K28 hK29 => ?_
 refine G.sr fun K30 hK31 => ?_
 refine GL.r 2 2 [(2, pt p3 0), (4, pt p7 0), (5, pt p22 0), (6, li 3), (7, vi r), (8, li 3)] ?_
 refine GL.q hK31 ?_
 refine G.block ?_
 refine G.unroll 5 ?_
 refine G.seqK fun K32 hK33 => ?_
 refine G.sr fun K34 hK35 => ?_
 refine GL.r 2 2 [(2, pt p3 0), (4, pt p7 0), (5, pt p22 0), (6, li 3), (7, vi r), (8, li 3), (30, .bool true)] ?_
 refine GL.q hK35 ?_
 refine G.yes rfl ?_
 refine G.skipK hK33 (fun _ _ h => h) ?_
 refine G.seqK fun K36 hK37 => ?_
 refine G.block ?_
 refine G.sr fun K38 hK39 => ?_
 refine GL.r 5 5 [(2, pt p3 0), (4, pt p7 0), (5, pt p22 0), (6, li 3), (7, vi r), (8, li 3), (33, li 3), (37, pt p3 0)] ?_
 refine GL.s 6 (H25.ld (o := 0) (ty := 31) (v := vu (wd x 0)) 0 rfl (by kernel_rfl) rfl) [(2, pt p3 0), (4, pt p7 0), (5, pt p22 0), (6, li 3), (7, vi r), (8, li 3), (33, li 3), (38, vu (wd x 0))] ?_
 refine GL.r 7 1 [(2, pt p3 0), (4, pt p7 0), (5, pt p22 0), (6, li 3), (7, vi r), (8, li 3), (33, li 3), (38, vu (wd x 0)), (39, vi r)] ?_
 refine GL.s 8 (run_shlN (P := Try.prog) (k' := .i64) (t := 31) (a := (wd x 0)) (r := r) (by omega) _) [(2, pt p3 0), (4, pt p7 0), (5, pt p22 0), (6, li 3), (7, vi r), (8, li 3), (33, li 3), (40, vu ((wd x 0) * 2 ^ r % K))] ?_
 refine GL.r 9 1 [(2, pt p3 0), (4, pt p7 0), (5, pt p22 0), (6, li 3), (7, vi r), (8, li 3), (40, vu ((wd x 0) * 2 ^ r % K)), (41, pt p22 3)] ?_
 obtain ⟨w40, r41, H42⟩ := H25.st (P := Try.prog) (o := 3) (ty := 31) (v := vu ((wd x 0) * 2 ^ r % K)) 2 rfl (by kernel_rfl) (by decide) rfl
 refine GL.u 10 r41 [(2, pt p3 0), (4, pt p7 0), (5, pt p22 0), (6, li 3), (7, vi r), (8, li 3)] ?_
 refine GL.q hK39 ?_
 refine G.sr fun K43 hK44 => ?_
 refine GL.r 7 7 [(2, pt p3 0), (4, pt p7 0), (5, pt p22 0), (6, li 3), (7, vi r), (8, li 3), (48, .bool false)] ?_
 refine GL.q hK44 ?_
 refine G.no rfl ?_
 refine G.skipK hK37 (fun _ _ h => h) ?_
 refine G.region ?_
 refine GL.r 3 3 [(2, pt p3 0), (4, pt p7 0), (5, pt p22 0), (6, li 3), (7, vi r), (8, li 4)] ?_
 refine GL.round rfl ?_
 refine G.seqK fun K45 hK46 => ?_
 refine G.sr fun K47 hK48 => ?_
 refine GL.r 2 2 [(2, pt p3 0), (4, pt p7 0), (5, pt p22 0), (6, li 3), (7, vi r), (8, li 4), (30, .bool false)] ?_
 refine GL.q hK48 ?_
 refine G.no rfl ?_
 refine G.exitK hK29 (fun _ _ h => h) ?_
 refine G.sr fun K49 hK50 => ?_
 refine GL.s 1 (H42.ldA (o := 0) (ty := 33) (m := 4) (sub := [lu 0, lu 0, lu 0, vu ((wd x 0) * 2 ^ r % K)]) 2 rfl (by kernel_rfl) rfl rfl) [(4, pt p7 0), (63, .agg #[lu 0, lu 0, lu 0, vu ((wd x 0) * 2 ^ r % K)])] ?_
 obtain ⟨w51, r52, H53⟩ := H42.stA (P := Try.prog) (o := 0) (vs := [lu 0, lu 0, lu 0, vu ((wd x 0) * 2 ^ r % K)]) (ty := 33) (m := 4) 1 rfl (by kernel_rfl) rfl (by first | decide | simp) (by simp [Value.oneCell'])
 refine GL.u 2 r52 [(4, pt p7 0)] ?_
 refine GL.q hK50 ?_
 refine G.ret fun F_ hF_ hM_ => hRet _ _ (bodyPost_1 rfl (RV.cell rfl (H53.ldA (o := 0) (ty := 33) (m := 4) (sub := [lu 0, lu 0, lu 0, vu ((wd x 0) * 2 ^ r % K)]) 1 rfl (by kernel_rfl) rfl rfl)) ?_ F_ hF_ hM_)
 rw [← left_fin3 hx (show r ≤ 64 by omega)]
 exact ⟨rfl, H53.sub (List.nil_sublist _)⟩
theorem Left_big (x n : Nat) (hn : 256 ≤ n) (w : World) : Calls Try.prog 53 #[wv x, .int .i64 (n : Int)] w fun e w' => e = .returned (wv 0) ∧ Hp w [] [] w' := by
 refine calls_G (args := [wv x, vi n]) Try.func53 rfl Try.ntmps53 rfl ?_
 intro Q0 hRet hNor hPan
 have H := Hp.start w
 refine G.sr fun K1 hK2 => ?_
 obtain ⟨p3, w4, r5, H6⟩ := H.box (P := Try.prog) 33 (wl x) (wv x) rfl
 refine GL.s 1 (r5) [(1, vi n), (2, pt p3 0)] ?_
 obtain ⟨p7, w8, r9, H10⟩ := H6.alloc (P := Try.prog) 33 z4 (by kernel_rfl)
 refine GL.s 2 (r9) [(1, vi n), (2, pt p3 0), (4, pt p7 0)] ?_
 refine GL.q hK2 ?_
 refine G.seqK fun K11 hK12 => ?_
 refine G.block ?_
 refine G.sr fun K13 hK14 => ?_
 refine GL.r 3 3 [(1, vi n), (2, pt p3 0), (4, pt p7 0), (12, .bool (decide ((n : Int) ≤ (-256))))] ?_
 have hb15 : (decide ((n : Int) ≤ (-256))) = false := decide_eq_false (by omega)
 rw [hb15]
 refine GL.r 7 4 [(1, vi n), (2, pt p3 0), (4, pt p7 0), (9, .bool (decide (256 ≤ (n : Int))))] ?_
 refine GL.q hK14 ?_
 have hb16 : (decide (256 ≤ (n : Int))) = true := decide_eq_true (by omega)
 rw [hb16]
 refine G.yes rfl ?_
 refine G.sr fun K17 hK18 => ?_
 refine GL.r 1 1 [(4, pt p7 0), (16, .agg #[lu 0, lu 0, lu 0, lu 0])] ?_
 obtain ⟨w19, r20, H21⟩ := H10.stA (P := Try.prog) (o := 0) (vs := z4) (ty := 33) (m := 4) 1 rfl (by kernel_rfl) rfl (by first | decide | simp) (z4_one)
 refine GL.u 2 r20 [(4, pt p7 0)] ?_
 refine GL.q hK18 ?_
 refine G.ret fun F_ hF_ hM_ => hRet _ _ (bodyPost_1 rfl (RV.cell rfl (H21.ldA (o := 0) (ty := 33) (m := 4) (sub := z4) 1 rfl (by kernel_rfl) rfl rfl)) ?_ F_ hF_ hM_)
 exact ⟨rfl, H21.sub (List.nil_sublist _)⟩
theorem Left_calls (x n : Nat) (hx : x < K4) (w : World) : Calls Try.prog 53 #[wv x, .int .i64 (n : Int)] w fun e w' => e = .returned (wv (x * 2 ^ n % K4)) ∧ Hp w [] [] w' := by
 by_cases h : 256 ≤ n
 · rw [left_big h]
   exact Left_big x n h w
 · have hq : n / 64 = 0 ∨ n / 64 = 1 ∨ n / 64 = 2 ∨ n / 64 = 3 := by omega
   have hr : n % 64 < 64 := Nat.mod_lt _ (by decide)
   rcases hq with hq | hq | hq | hq
   · have := Left_q0 x (n % 64) hx hr w
     rwa [show 64 * 0 + n % 64 = n by omega] at this
   · have := Left_q1 x (n % 64) hx hr w
     rwa [show 64 * 1 + n % 64 = n by omega] at this
   · have := Left_q2 x (n % 64) hx hr w
     rwa [show 64 * 2 + n % 64 = n by omega] at this
   · have := Left_q3 x (n % 64) hx hr w
     rwa [show 64 * 3 + n % 64 = n by omega] at this
end Go.Proofs.Ytdepaaphgfapjaa
set_option maxRecDepth 100000
namespace Go.Proofs.Ytdepaaphgfapjaa
open Go.RowKit
def decT (b : Nat) : Nat := if 3 ≤ b / 16777216 then b % 8388608 * 2 ^ (8 * (b / 16777216 - 3)) % K4 else b % 8388608 / 2 ^ (8 * (3 - b / 16777216))
def decE (b : Nat) : Nat := if b / 8388608 % 2 = 1 ∧ b % 8388608 ≠ 0 then 6 else if 3 < b / 16777216 ∧ 256 < bl (b % 8388608) + 8 * (b / 16777216 - 3) then 6 else if decT b = 0 then 6 else 0
def decR (b : Nat) : Nat := if decE b = 0 then decT b else 0
theorem decT_lt (b : Nat) : decT b < K4 := by
 unfold decT
 split
 · exact Nat.mod_lt _ (by decide)
 · refine Nat.lt_of_le_of_lt (Nat.div_le_self _ _) (Nat.lt_trans (Nat.mod_lt _ (by decide)) (by decide))
theorem decR_lt (b : Nat) : decR b < K4 := by
 unfold decR
 split
 · exact decT_lt b
 · decide
theorem u32_and23 {b : Nat} (hb : b < 4294967296) : Go.bits .and .u32 (b : Int) 8388607 = ((b % 8388608 : Nat) : Int) := by
 have h := (bits_nat .u32 32 (by decide) (fun n h0 h1 => by rw [IntKind.wrap_u32]; omega) b 8388607 (by simpa using hb) (by decide)).1
 rw [show (8388607 : Int) = ((8388607 : Nat) : Int) from rfl, h, show (8388607 : Nat) = 2 ^ 23 - 1 from rfl, Nat.and_two_pow_sub_one_eq_mod]
theorem u32_bit23 {b : Nat} (hb : b < 4294967296) : Go.bits .and .u32 (b : Int) 8388608 = ((b / 8388608 % 2 * 8388608 : Nat) : Int) := by
 have h := (bits_nat .u32 32 (by decide) (fun n h0 h1 => by rw [IntKind.wrap_u32]; omega) b 8388608 (by simpa using hb) (by decide)).1
 rw [show (8388608 : Int) = ((8388608 : Nat) : Int) from rfl, h]
 congr 1
 rw [show (8388608 : Nat) = 2 ^ 23 from rfl]
 refine Nat.eq_of_testBit_eq (fun j => ?_)
 rw [Nat.testBit_and, Nat.testBit_two_pow]
 have h2 : b / 2 ^ 23 % 2 < 2 := Nat.mod_lt _ (by decide)
 have hb23 : Nat.testBit b 23 = decide (b / 2 ^ 23 % 2 = 1) := Nat.testBit_eq_decide_div_mod_eq
 rcases (show b / 2 ^ 23 % 2 = 0 ∨ b / 2 ^ 23 % 2 = 1 by omega) with h3 | h3
 · rw [h3, Nat.zero_mul, Nat.zero_testBit]
   by_cases hj : 23 = j
   · subst hj
     rw [hb23, h3]
     rfl
   · rw [decide_eq_false hj, Bool.and_false]
 · rw [h3, Nat.one_mul, Nat.testBit_two_pow]
   by_cases hj : 23 = j
   · subst hj
     rw [hb23, h3]
     rfl
   · rw [decide_eq_false hj, Bool.and_false]
theorem Decode_big (b : Nat) (hb : b < 4294967296) (hX : 3 ≤ b / 16777216) (w : World) : Calls Try.prog 33 #[.int .u32 (b : Int)] w fun e w' => e = .returned (.tuple #[wv (decR b), .int .i64 ((decE b : Nat) : Int)]) ∧ Hp w [] [] w' := by
 have hMX : MX = 4611686018427387904 := rfl
 have hK0 : K = 18446744073709551616 := rfl
 have hK40 : K4 = 115792089237316195423570985008687907853269984665640564039457584007913129639936 := rfl
 have hbl := bl_le (k := 23) (show b % 8388608 < 2 ^ 23 from Nat.mod_lt _ (by decide))
 refine calls_G (args := [vw b]) Try.func33 rfl Try.ntmps33 rfl ?_
 intro Q0 hRet hNor hPan
 have H := Hp.start w
 refine G.sr fun K1 hK2 => ?_
 obtain ⟨p3, w4, r5, H6⟩ := H.alloc (P := Try.prog) 33 z4 (by kernel_rfl)
 refine GL.s 1 (r5) [(0, vw b), (2, pt p3 0)] ?_
 refine GL.r 2 1 [(0, vw b), (2, pt p3 0)] ?_
 refine GL.q hK2 ?_
 refine G.sr fun K7 hK8 => ?_
 refine GL.r 6 6 [(0, vw b), (2, pt p3 0), (9, li (IntKind.i64.wrap (Int.fdiv (b : Int) (2 ^ 24)))), (12, lu (IntKind.u64.wrap (Go.bits .and .u32 (b : Int) 8388607)))] ?_
 have e9 : (Int.fdiv (b : Int) (2 ^ 24)) = ((b / 16777216 : Nat) : Int) := n_shr b 24
 have e10 : (IntKind.i64.wrap ((b / 16777216 : Nat) : Int)) = ((b / 16777216 : Nat) : Int) := in_i64 (by omega)
 have e11 : (Go.bits .and .u32 (b : Int) 8388607) = ((b % 8388608 : Nat) : Int) := u32_and23 hb
 have e12 : (IntKind.u64.wrap ((b % 8388608 : Nat) : Int)) = ((b % 8388608 : Nat) : Int) := in_u64 (by omega)
 rw [e9, e10, e11, e12]
 clear e9 e10 e11 e12
 refine GL.call (j := 7) (Of_calls (b % 8388608) (show b % 8388608 < K from Nat.lt_trans (Nat.mod_lt _ (by decide : 0 < 8388608)) (by decide)) w4) (by kernel_rfl) rfl (fun e_ w13 hR => ?_)
 obtain ⟨he_, H15⟩ := hR
 obtain ⟨n16, hn17⟩ : ∃ v : Nat, v = b % 8388608 := ⟨_, rfl⟩
 rw [← hn17] at he_
 have n16l : n16 < K4 := by rw [hn17]; exact Nat.lt_trans (show b % 8388608 < K from Nat.lt_trans (Nat.mod_lt _ (by decide : 0 < 8388608)) (by decide)) (by decide)
 subst he_
 have H14 : Hp w [] [.blk p3 z4 33] w13 := H6.callNil H15
 refine ⟨_, rfl, [0, 2, 9, 13], [(0, vw b), (2, pt p3 0), (9, vi (b / 16777216)), (13, wv n16)], by kernel_rfl, ?_⟩
 obtain ⟨p18, w19, r20, H21⟩ := H14.alloc (P := Try.prog) 33 z4 (by kernel_rfl)
 refine GL.s 8 (r20) [(0, vw b), (2, pt p3 0), (5, pt p18 0), (9, vi (b / 16777216)), (13, wv n16)] ?_
 refine GL.r 9 1 [(0, vw b), (2, pt p3 0), (4, vi (b / 16777216)), (5, pt p18 0), (13, wv n16)] ?_
 obtain ⟨w22, r23, H24⟩ := H21.stA (P := Try.prog) (o := 0) (vs := (wl n16)) (ty := 33) (m := 4) 1 rfl (by kernel_rfl) rfl (by first | decide | simp) (wl_one _)
 refine GL.u 10 r23 [(0, vw b), (2, pt p3 0), (4, vi (b / 16777216)), (5, pt p18 0)] ?_
 refine GL.q hK8 ?_
 refine G.seqK fun K25 hK26 => ?_
 refine G.sr fun K27 hK28 => ?_
 refine GL.r 4 4 [(2, pt p3 0), (4, vi (b / 16777216)), (5, pt p18 0), (17, .bool ((Go.bits .and .u32 (b : Int) 8388608) != 0))] ?_
 have e29 : (Go.bits .and .u32 (b : Int) 8388608) = ((b / 8388608 % 2 * 8388608 : Nat) : Int) := u32_bit23 hb
 rw [e29]
 clear e29
 cases hb30 : (((b / 8388608 % 2 * 8388608 : Nat) : Int) != 0)
 · skip
   have hb30f : ((b / 8388608 % 2 * 8388608 : Nat) : Int) = 0 := bne_eq_false_iff_eq.1 hb30
   refine GL.r 8 4 [(2, pt p3 0), (4, vi (b / 16777216)), (5, pt p18 0), (21, .bool false)] ?_
   refine GL.q hK28 ?_
   refine G.no rfl ?_
   refine G.skipK hK26 (fun _ _ h => h) ?_
   refine G.seqK fun K31 hK32 => ?_
   refine G.sr fun K33 hK34 => ?_
   refine GL.r 3 3 [(2, pt p3 0), (4, vi (b / 16777216)), (5, pt p18 0), (25, .bool (decide (3 < ((b / 16777216 : Nat) : Int))))] ?_
   cases hb35 : (decide (3 < ((b / 16777216 : Nat) : Int)))
   · skip
     have hb35f := of_decide_eq_false hb35
     refine GL.r 11 8 [(2, pt p3 0), (4, vi (b / 16777216)), (5, pt p18 0), (33, .bool false)] ?_
     refine GL.q hK34 ?_
     refine G.no rfl ?_
     refine G.skipK hK32 (fun _ _ h => h) ?_
     refine G.sr fun K36 hK37 => ?_
     refine GL.s 1 (H24.ldA (o := 0) (ty := 33) (m := 4) (sub := (wl n16)) 1 rfl (by kernel_rfl) rfl rfl) [(2, pt p3 0), (4, vi (b / 16777216)), (35, wv n16)] ?_
     refine GL.r 4 3 [(2, pt p3 0), (35, wv n16), (38, li (IntKind.i64.wrap (8 * (IntKind.i64.wrap (((b / 16777216 : Nat) : Int) - 3)))))] ?_
     have e38 : (IntKind.i64.wrap (((b / 16777216 : Nat) : Int) - 3)) = ((b / 16777216 - 3 : Nat) : Int) := by rw [in_i64 (by omega)]; omega
     have e39 : (IntKind.i64.wrap (8 * ((b / 16777216 - 3 : Nat) : Int))) = ((8 * (b / 16777216 - 3) : Nat) : Int) := by rw [in_i64 (by omega)]; omega
     rw [e38, e39]
     clear e38 e39
     refine GL.call (j := 5) (Left_calls n16 (8 * (b / 16777216 - 3)) n16l w22) (by kernel_rfl) rfl (fun e_ w40 hR => ?_)
     obtain ⟨he_, H42⟩ := hR
     obtain ⟨n43, hn44⟩ : ∃ v : Nat, v = n16 * 2 ^ (8 * (b / 16777216 - 3)) % K4 := ⟨_, rfl⟩
     rw [← hn44] at he_
     have n43l : n43 < K4 := by rw [hn44]; exact Nat.mod_lt _ (by decide)
     subst he_
     have H41 : Hp w [] [.blk p3 z4 33, .blk p18 (wl n16) 33] w40 := H24.callNil H42
     refine ⟨_, rfl, [2, 39], [(2, pt p3 0), (39, wv n43)], by kernel_rfl, ?_⟩
     obtain ⟨p45, w46, r47, H48⟩ := H41.alloc (P := Try.prog) 33 z4 (by kernel_rfl)
     refine GL.s 6 (r47) [(2, pt p3 0), (6, pt p45 0), (39, wv n43)] ?_
     obtain ⟨w49, r50, H51⟩ := H48.stA (P := Try.prog) (o := 0) (vs := (wl n43)) (ty := 33) (m := 4) 2 rfl (by kernel_rfl) rfl (by first | decide | simp) (wl_one _)
     refine GL.u 7 r50 [(2, pt p3 0), (6, pt p45 0)] ?_
     refine GL.q hK37 ?_
     refine G.seqK fun K52 hK53 => ?_
     refine G.sr fun K54 hK55 => ?_
     refine GL.s 1 (H51.ldA (o := 0) (ty := 33) (m := 4) (sub := (wl n43)) 2 rfl (by kernel_rfl) rfl rfl) [(2, pt p3 0), (6, pt p45 0), (40, wv n43)] ?_
     refine GL.r 2 1 [(2, pt p3 0), (6, pt p45 0), (40, wv n43), (41, .agg #[lu 0, lu 0, lu 0, lu 0])] ?_
     refine GL.s 3 (run_arr_eql (P := Try.prog) (t := 33) (n := 4) (k := .u64) (x := (.tmp 40)) (y := (.tmp 41)) (by kernel_rfl) [(wd n43 0 : Int), (wd n43 1 : Int), (wd n43 2 : Int), (wd n43 3 : Int)] [0, 0, 0, 0] rfl rfl _) [(2, pt p3 0), (6, pt p45 0), (42, .bool (decide (([(wd n43 0 : Int), (wd n43 1 : Int), (wd n43 2 : Int), (wd n43 3 : Int)] : List Int) = [0, 0, 0, 0])))] ?_
     refine GL.q hK55 ?_
     cases hb56 : (decide (([(wd n43 0 : Int), (wd n43 1 : Int), (wd n43 2 : Int), (wd n43 3 : Int)] : List Int) = [0, 0, 0, 0]))
     · skip
       have hb56f := of_decide_eq_false hb56
       have hz : n43 ≠ 0 := fun h => hb56f ((wv_eq (y := 0) n43l (by decide)).2 h)
       have hT : decT b = n43 := by rw [decT, if_pos (by omega), ← hn17, ← hn44]
       refine G.no rfl ?_
       refine G.skipK hK53 (fun _ _ h => h) ?_
       refine G.sr fun K57 hK58 => ?_
       refine GL.s 1 (H51.ldA (o := 0) (ty := 33) (m := 4) (sub := (wl n43)) 2 rfl (by kernel_rfl) rfl rfl) [(2, pt p3 0), (44, wv n43)] ?_
       obtain ⟨w59, r60, H61⟩ := H51.stA (P := Try.prog) (o := 0) (vs := (wl n43)) (ty := 33) (m := 4) 0 rfl (by kernel_rfl) rfl (by first | decide | simp) (wl_one _)
       refine GL.u 2 r60 [(2, pt p3 0)] ?_
       refine GL.r 3 1 [(2, pt p3 0), (3, li 0)] ?_
       refine GL.q hK58 ?_
       refine G.ret fun F_ hF_ hM_ => hRet _ _ (bodyPost_2 rfl (RV.cell rfl (H61.ldA (o := 0) (ty := 33) (m := 4) (sub := (wl n43)) 0 rfl (by kernel_rfl) rfl rfl)) (RV.tmp rfl) ?_ F_ hF_ hM_)
       have cE : decE b = 0 := by rw [decE, if_neg (by omega), if_neg (by omega), if_neg (by rw [hT]; exact hz)]
       have cR : decR b = n43 := by rw [decR, if_pos cE, hT]
       rw [cE, cR]
       exact ⟨rfl, H61.sub (List.nil_sublist _)⟩
     · skip
       have hb56f := of_decide_eq_true hb56
       have hz : n43 = 0 := (wv_eq (y := 0) n43l (by decide)).1 hb56f
       have hT : decT b = n43 := by rw [decT, if_pos (by omega), ← hn17, ← hn44]
       refine G.yes rfl ?_
       refine G.sr fun K62 hK63 => ?_
       refine GL.s 1 (H51.ldA (o := 0) (ty := 33) (m := 4) (sub := (wl n43)) 2 rfl (by kernel_rfl) rfl rfl) [(2, pt p3 0), (43, wv n43)] ?_
       obtain ⟨w64, r65, H66⟩ := H51.stA (P := Try.prog) (o := 0) (vs := (wl n43)) (ty := 33) (m := 4) 0 rfl (by kernel_rfl) rfl (by first | decide | simp) (wl_one _)
       refine GL.u 2 r65 [(2, pt p3 0)] ?_
       refine GL.r 3 1 [(2, pt p3 0), (3, li 6)] ?_
       refine GL.q hK63 ?_
       refine G.ret fun F_ hF_ hM_ => hRet _ _ (bodyPost_2 rfl (RV.cell rfl (H66.ldA (o := 0) (ty := 33) (m := 4) (sub := (wl n43)) 0 rfl (by kernel_rfl) rfl rfl)) (RV.tmp rfl) ?_ F_ hF_ hM_)
       have cE : decE b = 6 := by
         rw [decE, if_neg (by omega), if_neg (by omega), if_pos (by rw [hT]; exact hz)]
       have cR : decR b = 0 := by rw [decR, if_neg (by omega)]
       rw [show n43 = 0 from hz]
       rw [cE, cR]
       exact ⟨rfl, H66.sub (List.nil_sublist _)⟩
   · skip
     have hb35f := of_decide_eq_true hb35
     refine GL.s 4 (H24.ldA (o := 0) (ty := 33) (m := 4) (sub := (wl n16)) 1 rfl (by kernel_rfl) rfl rfl) [(2, pt p3 0), (4, vi (b / 16777216)), (5, pt p18 0), (25, .bool true), (26, wv n16)] ?_
     have hbm : bl n16 ≤ 23 := by rw [hn17]; exact hbl
     refine GL.call (j := 5) (Bits_calls n16 n16l w22) (by kernel_rfl) rfl (fun e_ w67 hR => ?_)
     obtain ⟨he_, H69⟩ := hR
     subst he_
     have H68 : Hp w [] [.blk p3 z4 33, .blk p18 (wl n16) 33] w67 := H24.callNil H69
     refine ⟨_, rfl, [2, 4, 5, 25, 27], [(2, pt p3 0), (4, vi (b / 16777216)), (5, pt p18 0), (25, .bool true), (27, vi (bl n16))], by kernel_rfl, ?_⟩
     refine GL.r 11 6 [(2, pt p3 0), (4, vi (b / 16777216)), (5, pt p18 0), (33, .bool (decide (256 < (IntKind.i64.wrap (((bl n16 : Nat) : Int) + (IntKind.i64.wrap (8 * (IntKind.i64.wrap (((b / 16777216 : Nat) : Int) - 3)))))))))] ?_
     have e70 : (IntKind.i64.wrap (((b / 16777216 : Nat) : Int) - 3)) = ((b / 16777216 - 3 : Nat) : Int) := by rw [in_i64 (by omega)]; omega
     have e71 : (IntKind.i64.wrap (8 * ((b / 16777216 - 3 : Nat) : Int))) = ((8 * (b / 16777216 - 3) : Nat) : Int) := by rw [in_i64 (by omega)]; omega
     have e72 : (IntKind.i64.wrap (((bl n16 : Nat) : Int) + ((8 * (b / 16777216 - 3) : Nat) : Int))) = (((bl n16) + (8 * (b / 16777216 - 3)) : Nat) : Int) := by rw [in_i64 (by omega)]; omega
     rw [e70, e71, e72]
     clear e70 e71 e72
     refine GL.q hK34 ?_
     cases hb73 : (decide (256 < (((bl n16) + (8 * (b / 16777216 - 3)) : Nat) : Int)))
     · skip
       have hb73f := of_decide_eq_false hb73
       have hbn : bl n16 = bl (b % 8388608) := by rw [hn17]
       refine G.no rfl ?_
       refine G.skipK hK32 (fun _ _ h => h) ?_
       refine G.sr fun K74 hK75 => ?_
       refine GL.s 1 (H68.ldA (o := 0) (ty := 33) (m := 4) (sub := (wl n16)) 1 rfl (by kernel_rfl) rfl rfl) [(2, pt p3 0), (4, vi (b / 16777216)), (35, wv n16)] ?_
       refine GL.r 4 3 [(2, pt p3 0), (35, wv n16), (38, li (IntKind.i64.wrap (8 * (IntKind.i64.wrap (((b / 16777216 : Nat) : Int) - 3)))))] ?_
       have e76 : (IntKind.i64.wrap (((b / 16777216 : Nat) : Int) - 3)) = ((b / 16777216 - 3 : Nat) : Int) := by rw [in_i64 (by omega)]; omega
       have e77 : (IntKind.i64.wrap (8 * ((b / 16777216 - 3 : Nat) : Int))) = ((8 * (b / 16777216 - 3) : Nat) : Int) := by rw [in_i64 (by omega)]; omega
       rw [e76, e77]
       clear e76 e77
       refine GL.call (j := 5) (Left_calls n16 (8 * (b / 16777216 - 3)) n16l w67) (by kernel_rfl) rfl (fun e_ w78 hR => ?_)
       obtain ⟨he_, H80⟩ := hR
       obtain ⟨n81, hn82⟩ : ∃ v : Nat, v = n16 * 2 ^ (8 * (b / 16777216 - 3)) % K4 := ⟨_, rfl⟩
       rw [← hn82] at he_
       have n81l : n81 < K4 := by rw [hn82]; exact Nat.mod_lt _ (by decide)
       subst he_
       have H79 : Hp w [] [.blk p3 z4 33, .blk p18 (wl n16) 33] w78 := H68.callNil H80
       refine ⟨_, rfl, [2, 39], [(2, pt p3 0), (39, wv n81)], by kernel_rfl, ?_⟩
       obtain ⟨p83, w84, r85, H86⟩ := H79.alloc (P := Try.prog) 33 z4 (by kernel_rfl)
       refine GL.s 6 (r85) [(2, pt p3 0), (6, pt p83 0), (39, wv n81)] ?_
       obtain ⟨w87, r88, H89⟩ := H86.stA (P := Try.prog) (o := 0) (vs := (wl n81)) (ty := 33) (m := 4) 2 rfl (by kernel_rfl) rfl (by first | decide | simp) (wl_one _)
       refine GL.u 7 r88 [(2, pt p3 0), (6, pt p83 0)] ?_
       refine GL.q hK75 ?_
       refine G.seqK fun K90 hK91 => ?_
       refine G.sr fun K92 hK93 => ?_
       refine GL.s 1 (H89.ldA (o := 0) (ty := 33) (m := 4) (sub := (wl n81)) 2 rfl (by kernel_rfl) rfl rfl) [(2, pt p3 0), (6, pt p83 0), (40, wv n81)] ?_
       refine GL.r 2 1 [(2, pt p3 0), (6, pt p83 0), (40, wv n81), (41, .agg #[lu 0, lu 0, lu 0, lu 0])] ?_
       refine GL.s 3 (run_arr_eql (P := Try.prog) (t := 33) (n := 4) (k := .u64) (x := (.tmp 40)) (y := (.tmp 41)) (by kernel_rfl) [(wd n81 0 : Int), (wd n81 1 : Int), (wd n81 2 : Int), (wd n81 3 : Int)] [0, 0, 0, 0] rfl rfl _) [(2, pt p3 0), (6, pt p83 0), (42, .bool (decide (([(wd n81 0 : Int), (wd n81 1 : Int), (wd n81 2 : Int), (wd n81 3 : Int)] : List Int) = [0, 0, 0, 0])))] ?_
       refine GL.q hK93 ?_
       cases hb94 : (decide (([(wd n81 0 : Int), (wd n81 1 : Int), (wd n81 2 : Int), (wd n81 3 : Int)] : List Int) = [0, 0, 0, 0]))
       · skip
         have hb94f := of_decide_eq_false hb94
         have hz : n81 ≠ 0 := fun h => hb94f ((wv_eq (y := 0) n81l (by decide)).2 h)
         have hT : decT b = n81 := by rw [decT, if_pos (by omega), ← hn17, ← hn82]
         refine G.no rfl ?_
         refine G.skipK hK91 (fun _ _ h => h) ?_
         refine G.sr fun K95 hK96 => ?_
         refine GL.s 1 (H89.ldA (o := 0) (ty := 33) (m := 4) (sub := (wl n81)) 2 rfl (by kernel_rfl) rfl rfl) [(2, pt p3 0), (44, wv n81)] ?_
         obtain ⟨w97, r98, H99⟩ := H89.stA (P := Try.prog) (o := 0) (vs := (wl n81)) (ty := 33) (m := 4) 0 rfl (by kernel_rfl) rfl (by first | decide | simp) (wl_one _)
         refine GL.u 2 r98 [(2, pt p3 0)] ?_
         refine GL.r 3 1 [(2, pt p3 0), (3, li 0)] ?_
         refine GL.q hK96 ?_
         refine G.ret fun F_ hF_ hM_ => hRet _ _ (bodyPost_2 rfl (RV.cell rfl (H99.ldA (o := 0) (ty := 33) (m := 4) (sub := (wl n81)) 0 rfl (by kernel_rfl) rfl rfl)) (RV.tmp rfl) ?_ F_ hF_ hM_)
         have cE : decE b = 0 := by rw [decE, if_neg (by omega), if_neg (by omega), if_neg (by rw [hT]; exact hz)]
         have cR : decR b = n81 := by rw [decR, if_pos cE, hT]
         rw [cE, cR]
         exact ⟨rfl, H99.sub (List.nil_sublist _)⟩
       · skip
         have hb94f := of_decide_eq_true hb94
         have hz : n81 = 0 := (wv_eq (y := 0) n81l (by decide)).1 hb94f
         have hT : decT b = n81 := by rw [decT, if_pos (by omega), ← hn17, ← hn82]
         refine G.yes rfl ?_
         refine G.sr fun K100 hK101 => ?_
         refine GL.s 1 (H89.ldA (o := 0) (ty := 33) (m := 4) (sub := (wl n81)) 2 rfl (by kernel_rfl) rfl rfl) [(2, pt p3 0), (43, wv n81)] ?_
         obtain ⟨w102, r103, H104⟩ := H89.stA (P := Try.prog) (o := 0) (vs := (wl n81)) (ty := 33) (m := 4) 0 rfl (by kernel_rfl) rfl (by first | decide | simp) (wl_one _)
         refine GL.u 2 r103 [(2, pt p3 0)] ?_
         refine GL.r 3 1 [(2, pt p3 0), (3, li 6)] ?_
         refine GL.q hK101 ?_
         refine G.ret fun F_ hF_ hM_ => hRet _ _ (bodyPost_2 rfl (RV.cell rfl (H104.ldA (o := 0) (ty := 33) (m := 4) (sub := (wl n81)) 0 rfl (by kernel_rfl) rfl rfl)) (RV.tmp rfl) ?_ F_ hF_ hM_)
         have cE : decE b = 6 := by
           rw [decE, if_neg (by omega), if_neg (by omega), if_pos (by rw [hT]; exact hz)]
         have cR : decR b = 0 := by rw [decR, if_neg (by omega)]
         rw [show n81 = 0 from hz]
         rw [cE, cR]
         exact ⟨rfl, H104.sub (List.nil_sublist _)⟩
     · skip
       have hb73f := of_decide_eq_true hb73
       have hbn : bl n16 = bl (b % 8388608) := by rw [hn17]
       refine G.yes rfl ?_
       refine G.sr fun K105 hK106 => ?_
       refine GL.r 1 1 [(2, pt p3 0), (34, .agg #[lu 0, lu 0, lu 0, lu 0])] ?_
       obtain ⟨w107, r108, H109⟩ := H68.stA (P := Try.prog) (o := 0) (vs := z4) (ty := 33) (m := 4) 0 rfl (by kernel_rfl) rfl (by first | decide | simp) (z4_one)
       refine GL.u 2 r108 [(2, pt p3 0)] ?_
       refine GL.r 3 1 [(2, pt p3 0), (3, li 6)] ?_
       refine GL.q hK106 ?_
       refine G.ret fun F_ hF_ hM_ => hRet _ _ (bodyPost_2 rfl (RV.cell rfl (H109.ldA (o := 0) (ty := 33) (m := 4) (sub := z4) 0 rfl (by kernel_rfl) rfl rfl)) (RV.tmp rfl) ?_ F_ hF_ hM_)
       have cE : decE b = 6 := by
         rw [decE, if_neg (by omega), if_pos (by omega)]
       have cR : decR b = 0 := by rw [decR, if_neg (by omega)]
       rw [cE, cR]
       exact ⟨rfl, H109.sub (List.nil_sublist _)⟩
 · skip
   have hb30f : ((b / 8388608 % 2 * 8388608 : Nat) : Int) ≠ 0 := bne_iff_ne.1 hb30
   refine GL.s 5 (H24.ldA (o := 0) (ty := 33) (m := 4) (sub := (wl n16)) 1 rfl (by kernel_rfl) rfl rfl) [(2, pt p3 0), (4, vi (b / 16777216)), (5, pt p18 0), (17, .bool true), (18, wv n16)] ?_
   refine GL.r 6 1 [(2, pt p3 0), (4, vi (b / 16777216)), (5, pt p18 0), (17, .bool true), (18, wv n16), (19, .agg #[lu 0, lu 0, lu 0, lu 0])] ?_
   refine GL.s 7 (run_arr_neq (P := Try.prog) (t := 33) (n := 4) (k := .u64) (x := (.tmp 18)) (y := (.tmp 19)) (by kernel_rfl) [(wd n16 0 : Int), (wd n16 1 : Int), (wd n16 2 : Int), (wd n16 3 : Int)] [0, 0, 0, 0] rfl rfl _) [(2, pt p3 0), (4, vi (b / 16777216)), (5, pt p18 0), (17, .bool true), (20, .bool (!(decide (([(wd n16 0 : Int), (wd n16 1 : Int), (wd n16 2 : Int), (wd n16 3 : Int)] : List Int) = [0, 0, 0, 0]))))] ?_
   refine GL.r 8 1 [(2, pt p3 0), (4, vi (b / 16777216)), (5, pt p18 0), (21, .bool (!(decide (([(wd n16 0 : Int), (wd n16 1 : Int), (wd n16 2 : Int), (wd n16 3 : Int)] : List Int) = [0, 0, 0, 0]))))] ?_
   refine GL.q hK28 ?_
   cases hb110 : (decide (([(wd n16 0 : Int), (wd n16 1 : Int), (wd n16 2 : Int), (wd n16 3 : Int)] : List Int) = [0, 0, 0, 0]))
   · skip
     have hb110f := of_decide_eq_false hb110
     have hm0 : n16 ≠ 0 := fun h => hb110f ((wv_eq (y := 0) n16l (by decide)).2 h)
     rw [hn17] at hm0
     refine G.yes rfl ?_
     refine G.sr fun K111 hK112 => ?_
     refine GL.r 1 1 [(2, pt p3 0), (22, .agg #[lu 0, lu 0, lu 0, lu 0])] ?_
     obtain ⟨w113, r114, H115⟩ := H24.stA (P := Try.prog) (o := 0) (vs := z4) (ty := 33) (m := 4) 0 rfl (by kernel_rfl) rfl (by first | decide | simp) (z4_one)
     refine GL.u 2 r114 [(2, pt p3 0)] ?_
     refine GL.r 3 1 [(2, pt p3 0), (3, li 6)] ?_
     refine GL.q hK112 ?_
     refine G.ret fun F_ hF_ hM_ => hRet _ _ (bodyPost_2 rfl (RV.cell rfl (H115.ldA (o := 0) (ty := 33) (m := 4) (sub := z4) 0 rfl (by kernel_rfl) rfl rfl)) (RV.tmp rfl) ?_ F_ hF_ hM_)
     have cE : decE b = 6 := by
       rw [decE, if_pos (by omega)]
     have cR : decR b = 0 := by rw [decR, if_neg (by omega)]
     rw [cE, cR]
     exact ⟨rfl, H115.sub (List.nil_sublist _)⟩
   · skip
     have hb110f := of_decide_eq_true hb110
     have hm0 : n16 = 0 := (wv_eq (y := 0) n16l (by decide)).1 hb110f
     rw [hn17] at hm0
     refine G.no rfl ?_
     refine G.skipK hK26 (fun _ _ h => h) ?_
     refine G.seqK fun K116 hK117 => ?_
     refine G.sr fun K118 hK119 => ?_
     refine GL.r 3 3 [(2, pt p3 0), (4, vi (b / 16777216)), (5, pt p18 0), (25, .bool (decide (3 < ((b / 16777216 : Nat) : Int))))] ?_
     cases hb120 : (decide (3 < ((b / 16777216 : Nat) : Int)))
     · skip
       have hb120f := of_decide_eq_false hb120
       refine GL.r 11 8 [(2, pt p3 0), (4, vi (b / 16777216)), (5, pt p18 0), (33, .bool false)] ?_
       refine GL.q hK119 ?_
       refine G.no rfl ?_
       refine G.skipK hK117 (fun _ _ h => h) ?_
       refine G.sr fun K121 hK122 => ?_
       refine GL.s 1 (H24.ldA (o := 0) (ty := 33) (m := 4) (sub := (wl n16)) 1 rfl (by kernel_rfl) rfl rfl) [(2, pt p3 0), (4, vi (b / 16777216)), (35, wv n16)] ?_
       refine GL.r 4 3 [(2, pt p3 0), (35, wv n16), (38, li (IntKind.i64.wrap (8 * (IntKind.i64.wrap (((b / 16777216 : Nat) : Int) - 3)))))] ?_
       have e123 : (IntKind.i64.wrap (((b / 16777216 : Nat) : Int) - 3)) = ((b / 16777216 - 3 : Nat) : Int) := by rw [in_i64 (by omega)]; omega
       have e124 : (IntKind.i64.wrap (8 * ((b / 16777216 - 3 : Nat) : Int))) = ((8 * (b / 16777216 - 3) : Nat) : Int) := by rw [in_i64 (by omega)]; omega
       rw [e123, e124]
       clear e123 e124
       refine GL.call (j := 5) (Left_calls n16 (8 * (b / 16777216 - 3)) n16l w22) (by kernel_rfl) rfl (fun e_ w125 hR => ?_)
       obtain ⟨he_, H127⟩ := hR
       obtain ⟨n128, hn129⟩ : ∃ v : Nat, v = n16 * 2 ^ (8 * (b / 16777216 - 3)) % K4 := ⟨_, rfl⟩
       rw [← hn129] at he_
       have n128l : n128 < K4 := by rw [hn129]; exact Nat.mod_lt _ (by decide)
       subst he_
       have H126 : Hp w [] [.blk p3 z4 33, .blk p18 (wl n16) 33] w125 := H24.callNil H127
       refine ⟨_, rfl, [2, 39], [(2, pt p3 0), (39, wv n128)], by kernel_rfl, ?_⟩
       obtain ⟨p130, w131, r132, H133⟩ := H126.alloc (P := Try.prog) 33 z4 (by kernel_rfl)
       refine GL.s 6 (r132) [(2, pt p3 0), (6, pt p130 0), (39, wv n128)] ?_
       obtain ⟨w134, r135, H136⟩ := H133.stA (P := Try.prog) (o := 0) (vs := (wl n128)) (ty := 33) (m := 4) 2 rfl (by kernel_rfl) rfl (by first | decide | simp) (wl_one _)
       refine GL.u 7 r135 [(2, pt p3 0), (6, pt p130 0)] ?_
       refine GL.q hK122 ?_
       refine G.seqK fun K137 hK138 => ?_
       refine G.sr fun K139 hK140 => ?_
       refine GL.s 1 (H136.ldA (o := 0) (ty := 33) (m := 4) (sub := (wl n128)) 2 rfl (by kernel_rfl) rfl rfl) [(2, pt p3 0), (6, pt p130 0), (40, wv n128)] ?_
       refine GL.r 2 1 [(2, pt p3 0), (6, pt p130 0), (40, wv n128), (41, .agg #[lu 0, lu 0, lu 0, lu 0])] ?_
       refine GL.s 3 (run_arr_eql (P := Try.prog) (t := 33) (n := 4) (k := .u64) (x := (.tmp 40)) (y := (.tmp 41)) (by kernel_rfl) [(wd n128 0 : Int), (wd n128 1 : Int), (wd n128 2 : Int), (wd n128 3 : Int)] [0, 0, 0, 0] rfl rfl _) [(2, pt p3 0), (6, pt p130 0), (42, .bool (decide (([(wd n128 0 : Int), (wd n128 1 : Int), (wd n128 2 : Int), (wd n128 3 : Int)] : List Int) = [0, 0, 0, 0])))] ?_
       refine GL.q hK140 ?_
       cases hb141 : (decide (([(wd n128 0 : Int), (wd n128 1 : Int), (wd n128 2 : Int), (wd n128 3 : Int)] : List Int) = [0, 0, 0, 0]))
       · skip
         have hb141f := of_decide_eq_false hb141
         have hz : n128 ≠ 0 := fun h => hb141f ((wv_eq (y := 0) n128l (by decide)).2 h)
         have hT : decT b = n128 := by rw [decT, if_pos (by omega), ← hn17, ← hn129]
         refine G.no rfl ?_
         refine G.skipK hK138 (fun _ _ h => h) ?_
         refine G.sr fun K142 hK143 => ?_
         refine GL.s 1 (H136.ldA (o := 0) (ty := 33) (m := 4) (sub := (wl n128)) 2 rfl (by kernel_rfl) rfl rfl) [(2, pt p3 0), (44, wv n128)] ?_
         obtain ⟨w144, r145, H146⟩ := H136.stA (P := Try.prog) (o := 0) (vs := (wl n128)) (ty := 33) (m := 4) 0 rfl (by kernel_rfl) rfl (by first | decide | simp) (wl_one _)
         refine GL.u 2 r145 [(2, pt p3 0)] ?_
         refine GL.r 3 1 [(2, pt p3 0), (3, li 0)] ?_
         refine GL.q hK143 ?_
         refine G.ret fun F_ hF_ hM_ => hRet _ _ (bodyPost_2 rfl (RV.cell rfl (H146.ldA (o := 0) (ty := 33) (m := 4) (sub := (wl n128)) 0 rfl (by kernel_rfl) rfl rfl)) (RV.tmp rfl) ?_ F_ hF_ hM_)
         have cE : decE b = 0 := by rw [decE, if_neg (by omega), if_neg (by omega), if_neg (by rw [hT]; exact hz)]
         have cR : decR b = n128 := by rw [decR, if_pos cE, hT]
         rw [cE, cR]
         exact ⟨rfl, H146.sub (List.nil_sublist _)⟩
       · skip
         have hb141f := of_decide_eq_true hb141
         have hz : n128 = 0 := (wv_eq (y := 0) n128l (by decide)).1 hb141f
         have hT : decT b = n128 := by rw [decT, if_pos (by omega), ← hn17, ← hn129]
         refine G.yes rfl ?_
         refine G.sr fun K147 hK148 => ?_
         refine GL.s 1 (H136.ldA (o := 0) (ty := 33) (m := 4) (sub := (wl n128)) 2 rfl (by kernel_rfl) rfl rfl) [(2, pt p3 0), (43, wv n128)] ?_
         obtain ⟨w149, r150, H151⟩ := H136.stA (P := Try.prog) (o := 0) (vs := (wl n128)) (ty := 33) (m := 4) 0 rfl (by kernel_rfl) rfl (by first | decide | simp) (wl_one _)
         refine GL.u 2 r150 [(2, pt p3 0)] ?_
         refine GL.r 3 1 [(2, pt p3 0), (3, li 6)] ?_
         refine GL.q hK148 ?_
         refine G.ret fun F_ hF_ hM_ => hRet _ _ (bodyPost_2 rfl (RV.cell rfl (H151.ldA (o := 0) (ty := 33) (m := 4) (sub := (wl n128)) 0 rfl (by kernel_rfl) rfl rfl)) (RV.tmp rfl) ?_ F_ hF_ hM_)
         have cE : decE b = 6 := by
           rw [decE, if_neg (by omega), if_neg (by omega), if_pos (by rw [hT]; exact hz)]
         have cR : decR b = 0 := by rw [decR, if_neg (by omega)]
         rw [show n128 = 0 from hz]
         rw [cE, cR]
         exact ⟨rfl, H151.sub (List.nil_sublist _)⟩
     · skip
       have hb120f := of_decide_eq_true hb120
       refine GL.s 4 (H24.ldA (o := 0) (ty := 33) (m := 4) (sub := (wl n16)) 1 rfl (by kernel_rfl) rfl rfl) [(2, pt p3 0), (4, vi (b / 16777216)), (5, pt p18 0), (25, .bool true), (26, wv n16)] ?_
       have hbm : bl n16 ≤ 23 := by rw [hn17]; exact hbl
       refine GL.call (j := 5) (Bits_calls n16 n16l w22) (by kernel_rfl) rfl (fun e_ w152 hR => ?_)
       obtain ⟨he_, H154⟩ := hR
       subst he_
       have H153 : Hp w [] [.blk p3 z4 33, .blk p18 (wl n16) 33] w152 := H24.callNil H154
       refine ⟨_, rfl, [2, 4, 5, 25, 27], [(2, pt p3 0), (4, vi (b / 16777216)), (5, pt p18 0), (25, .bool true), (27, vi (bl n16))], by kernel_rfl, ?_⟩
       refine GL.r 11 6 [(2, pt p3 0), (4, vi (b / 16777216)), (5, pt p18 0), (33, .bool (decide (256 < (IntKind.i64.wrap (((bl n16 : Nat) : Int) + (IntKind.i64.wrap (8 * (IntKind.i64.wrap (((b / 16777216 : Nat) : Int) - 3)))))))))] ?_
       have e155 : (IntKind.i64.wrap (((b / 16777216 : Nat) : Int) - 3)) = ((b / 16777216 - 3 : Nat) : Int) := by rw [in_i64 (by omega)]; omega
       have e156 : (IntKind.i64.wrap (8 * ((b / 16777216 - 3 : Nat) : Int))) = ((8 * (b / 16777216 - 3) : Nat) : Int) := by rw [in_i64 (by omega)]; omega
       have e157 : (IntKind.i64.wrap (((bl n16 : Nat) : Int) + ((8 * (b / 16777216 - 3) : Nat) : Int))) = (((bl n16) + (8 * (b / 16777216 - 3)) : Nat) : Int) := by rw [in_i64 (by omega)]; omega
       rw [e155, e156, e157]
       clear e155 e156 e157
       refine GL.q hK119 ?_
       cases hb158 : (decide (256 < (((bl n16) + (8 * (b / 16777216 - 3)) : Nat) : Int)))
       · skip
         have hb158f := of_decide_eq_false hb158
         have hbn : bl n16 = bl (b % 8388608) := by rw [hn17]
         refine G.no rfl ?_
         refine G.skipK hK117 (fun _ _ h => h) ?_
         refine G.sr fun K159 hK160 => ?_
         refine GL.s 1 (H153.ldA (o := 0) (ty := 33) (m := 4) (sub := (wl n16)) 1 rfl (by kernel_rfl) rfl rfl) [(2, pt p3 0), (4, vi (b / 16777216)), (35, wv n16)] ?_
         refine GL.r 4 3 [(2, pt p3 0), (35, wv n16), (38, li (IntKind.i64.wrap (8 * (IntKind.i64.wrap (((b / 16777216 : Nat) : Int) - 3)))))] ?_
         have e161 : (IntKind.i64.wrap (((b / 16777216 : Nat) : Int) - 3)) = ((b / 16777216 - 3 : Nat) : Int) := by rw [in_i64 (by omega)]; omega
         have e162 : (IntKind.i64.wrap (8 * ((b / 16777216 - 3 : Nat) : Int))) = ((8 * (b / 16777216 - 3) : Nat) : Int) := by rw [in_i64 (by omega)]; omega
         rw [e161, e162]
         clear e161 e162
         refine GL.call (j := 5) (Left_calls n16 (8 * (b / 16777216 - 3)) n16l w152) (by kernel_rfl) rfl (fun e_ w163 hR => ?_)
         obtain ⟨he_, H165⟩ := hR
         obtain ⟨n166, hn167⟩ : ∃ v : Nat, v = n16 * 2 ^ (8 * (b / 16777216 - 3)) % K4 := ⟨_, rfl⟩
         rw [← hn167] at he_
         have n166l : n166 < K4 := by rw [hn167]; exact Nat.mod_lt _ (by decide)
         subst he_
         have H164 : Hp w [] [.blk p3 z4 33, .blk p18 (wl n16) 33] w163 := H153.callNil H165
         refine ⟨_, rfl, [2, 39], [(2, pt p3 0), (39, wv n166)], by kernel_rfl, ?_⟩
         obtain ⟨p168, w169, r170, H171⟩ := H164.alloc (P := Try.prog) 33 z4 (by kernel_rfl)
         refine GL.s 6 (r170) [(2, pt p3 0), (6, pt p168 0), (39, wv n166)] ?_
         obtain ⟨w172, r173, H174⟩ := H171.stA (P := Try.prog) (o := 0) (vs := (wl n166)) (ty := 33) (m := 4) 2 rfl (by kernel_rfl) rfl (by first | decide | simp) (wl_one _)
         refine GL.u 7 r173 [(2, pt p3 0), (6, pt p168 0)] ?_
         refine GL.q hK160 ?_
         refine G.seqK fun K175 hK176 => ?_
         refine G.sr fun K177 hK178 => ?_
         refine GL.s 1 (H174.ldA (o := 0) (ty := 33) (m := 4) (sub := (wl n166)) 2 rfl (by kernel_rfl) rfl rfl) [(2, pt p3 0), (6, pt p168 0), (40, wv n166)] ?_
         refine GL.r 2 1 [(2, pt p3 0), (6, pt p168 0), (40, wv n166), (41, .agg #[lu 0, lu 0, lu 0, lu 0])] ?_
         refine GL.s 3 (run_arr_eql (P := Try.prog) (t := 33) (n := 4) (k := .u64) (x := (.tmp 40)) (y := (.tmp 41)) (by kernel_rfl) [(wd n166 0 : Int), (wd n166 1 : Int), (wd n166 2 : Int), (wd n166 3 : Int)] [0, 0, 0, 0] rfl rfl _) [(2, pt p3 0), (6, pt p168 0), (42, .bool (decide (([(wd n166 0 : Int), (wd n166 1 : Int), (wd n166 2 : Int), (wd n166 3 : Int)] : List Int) = [0, 0, 0, 0])))] ?_
         refine GL.q hK178 ?_
         cases hb179 : (decide (([(wd n166 0 : Int), (wd n166 1 : Int), (wd n166 2 : Int), (wd n166 3 : Int)] : List Int) = [0, 0, 0, 0]))
         · skip
           have hb179f := of_decide_eq_false hb179
           have hz : n166 ≠ 0 := fun h => hb179f ((wv_eq (y := 0) n166l (by decide)).2 h)
           have hT : decT b = n166 := by rw [decT, if_pos (by omega), ← hn17, ← hn167]
           refine G.no rfl ?_
           refine G.skipK hK176 (fun _ _ h => h) ?_
           refine G.sr fun K180 hK181 => ?_
           refine GL.s 1 (H174.ldA (o := 0) (ty := 33) (m := 4) (sub := (wl n166)) 2 rfl (by kernel_rfl) rfl rfl) [(2, pt p3 0), (44, wv n166)] ?_
           obtain ⟨w182, r183, H184⟩ := H174.stA (P := Try.prog) (o := 0) (vs := (wl n166)) (ty := 33) (m := 4) 0 rfl (by kernel_rfl) rfl (by first | decide | simp) (wl_one _)
           refine GL.u 2 r183 [(2, pt p3 0)] ?_
           refine GL.r 3 1 [(2, pt p3 0), (3, li 0)] ?_
           refine GL.q hK181 ?_
           refine G.ret fun F_ hF_ hM_ => hRet _ _ (bodyPost_2 rfl (RV.cell rfl (H184.ldA (o := 0) (ty := 33) (m := 4) (sub := (wl n166)) 0 rfl (by kernel_rfl) rfl rfl)) (RV.tmp rfl) ?_ F_ hF_ hM_)
           have cE : decE b = 0 := by rw [decE, if_neg (by omega), if_neg (by omega), if_neg (by rw [hT]; exact hz)]
           have cR : decR b = n166 := by rw [decR, if_pos cE, hT]
           rw [cE, cR]
           exact ⟨rfl, H184.sub (List.nil_sublist _)⟩
         · skip
           have hb179f := of_decide_eq_true hb179
           have hz : n166 = 0 := (wv_eq (y := 0) n166l (by decide)).1 hb179f
           have hT : decT b = n166 := by rw [decT, if_pos (by omega), ← hn17, ← hn167]
           refine G.yes rfl ?_
           refine G.sr fun K185 hK186 => ?_
           refine GL.s 1 (H174.ldA (o := 0) (ty := 33) (m := 4) (sub := (wl n166)) 2 rfl (by kernel_rfl) rfl rfl) [(2, pt p3 0), (43, wv n166)] ?_
           obtain ⟨w187, r188, H189⟩ := H174.stA (P := Try.prog) (o := 0) (vs := (wl n166)) (ty := 33) (m := 4) 0 rfl (by kernel_rfl) rfl (by first | decide | simp) (wl_one _)
           refine GL.u 2 r188 [(2, pt p3 0)] ?_
           refine GL.r 3 1 [(2, pt p3 0), (3, li 6)] ?_
           refine GL.q hK186 ?_
           refine G.ret fun F_ hF_ hM_ => hRet _ _ (bodyPost_2 rfl (RV.cell rfl (H189.ldA (o := 0) (ty := 33) (m := 4) (sub := (wl n166)) 0 rfl (by kernel_rfl) rfl rfl)) (RV.tmp rfl) ?_ F_ hF_ hM_)
           have cE : decE b = 6 := by
             rw [decE, if_neg (by omega), if_neg (by omega), if_pos (by rw [hT]; exact hz)]
           have cR : decR b = 0 := by rw [decR, if_neg (by omega)]
           rw [show n166 = 0 from hz]
           rw [cE, cR]
           exact ⟨rfl, H189.sub (List.nil_sublist _)⟩
       · skip
         have hb158f := of_decide_eq_true hb158
         have hbn : bl n16 = bl (b % 8388608) := by rw [hn17]
         refine G.yes rfl ?_
         refine G.sr fun K190 hK191 => ?_
         refine GL.r 1 1 [(2, pt p3 0), (34, .agg #[lu 0, lu 0, lu 0, lu 0])] ?_
         obtain ⟨w192, r193, H194⟩ := H153.stA (P := Try.prog) (o := 0) (vs := z4) (ty := 33) (m := 4) 0 rfl (by kernel_rfl) rfl (by first | decide | simp) (z4_one)
         refine GL.u 2 r193 [(2, pt p3 0)] ?_
         refine GL.r 3 1 [(2, pt p3 0), (3, li 6)] ?_
         refine GL.q hK191 ?_
         refine G.ret fun F_ hF_ hM_ => hRet _ _ (bodyPost_2 rfl (RV.cell rfl (H194.ldA (o := 0) (ty := 33) (m := 4) (sub := z4) 0 rfl (by kernel_rfl) rfl rfl)) (RV.tmp rfl) ?_ F_ hF_ hM_)
         have cE : decE b = 6 := by
           rw [decE, if_neg (by omega), if_pos (by omega)]
         have cR : decR b = 0 := by rw [decR, if_neg (by omega)]
         rw [cE, cR]
         exact ⟨rfl, H194.sub (List.nil_sublist _)⟩
end Go.Proofs.Ytdepaaphgfapjaa
set_option maxRecDepth 100000
namespace Go.Proofs.Ytdepaaphgfapjaa
open Go.RowKit
theorem Right_q0 (x r : Nat) (hx : x < K4) (hr : r < 64) (w : World) : Calls Try.prog 66 #[wv x, .int .i64 ((64 * 0 + r : Nat) : Int)] w fun e w' => e = .returned (wv (x / 2 ^ (64 * 0 + r))) ∧ Hp w [] [] w' := by
 refine calls_G (args := [wv x, vi (64 * 0 + r)]) Try.func66 rfl Try.ntmps66 rfl ?_
 intro Q0 hRet hNor hPan
 have H := Hp.start w
 refine G.sr fun K1 hK2 => ?_
 obtain ⟨p3, w4, r5, H6⟩ := H.box (P := Try.prog) 33 (wl x) (wv x) rfl
 refine GL.s 1 (r5) [(1, vi (64 * 0 + r)), (2, pt p3 0)] ?_
 obtain ⟨p7, w8, r9, H10⟩ := H6.alloc (P := Try.prog) 33 z4 (by kernel_rfl)
 refine GL.s 2 (r9) [(1, vi (64 * 0 + r)), (2, pt p3 0), (4, pt p7 0)] ?_
 refine GL.q hK2 ?_
 refine G.seqK fun K11 hK12 => ?_
 refine G.block ?_
 refine G.sr fun K13 hK14 => ?_
 refine GL.r 3 3 [(1, vi (64 * 0 + r)), (2, pt p3 0), (4, pt p7 0), (12, .bool (decide (((64 * 0 + r : Nat) : Int) ≤ (-256))))] ?_
 have hb15 : (decide (((64 * 0 + r : Nat) : Int) ≤ (-256))) = false := decide_eq_false (by omega)
 rw [hb15]
 refine GL.r 7 4 [(1, vi (64 * 0 + r)), (2, pt p3 0), (4, pt p7 0), (9, .bool (decide (256 ≤ ((64 * 0 + r : Nat) : Int))))] ?_
 refine GL.q hK14 ?_
 have hb16 : (decide (256 ≤ ((64 * 0 + r : Nat) : Int))) = false := decide_eq_false (by omega)
 rw [hb16]
 refine G.no rfl ?_
 refine G.sr fun K17 hK18 => ?_
 refine GL.r 3 3 [(1, vi (64 * 0 + r)), (2, pt p3 0), (4, pt p7 0), (17, .bool (decide (((64 * 0 + r : Nat) : Int) < 0)))] ?_
 refine GL.q hK18 ?_
 have hb19 : (decide (((64 * 0 + r : Nat) : Int) < 0)) = false := decide_eq_false (by omega)
 rw [hb19]
 refine G.no rfl ?_
 refine G.skipK hK12 (fun _ _ h => h) ?_
 refine G.sr fun K20 hK21 => ?_
 obtain ⟨p22, w23, r24, H25⟩ := H10.alloc (P := Try.prog) 33 z4 (by kernel_rfl)
 refine GL.s 1 (r24) [(1, vi (64 * 0 + r)), (2, pt p3 0), (4, pt p7 0), (5, pt p22 0)] ?_
 refine GL.q hK21 ?_
 refine G.sr fun K26 hK27 => ?_
 refine GL.r 1 1 [(1, vi (64 * 0 + r)), (2, pt p3 0), (4, pt p7 0), (5, pt p22 0), (24, vi (64 * 0 + r))] ?_
 refine GL.s 2 (run_quo64 (P := Try.prog) (t := 3) (n := (64 * 0 + r)) (q := 0) (r := r) (by omega) hr (by omega) _) [(1, vi (64 * 0 + r)), (2, pt p3 0), (4, pt p7 0), (5, pt p22 0), (25, li 0)] ?_
 refine GL.r 3 1 [(2, pt p3 0), (4, pt p7 0), (5, pt p22 0), (25, li 0), (26, vi (64 * 0 + r))] ?_
 refine GL.s 4 (run_rem64 (P := Try.prog) (t := 3) (n := (64 * 0 + r)) (q := 0) (r := r) (by omega) hr _) [(2, pt p3 0), (4, pt p7 0), (5, pt p22 0), (25, li 0), (27, vi r)] ?_
 refine GL.r 6 2 [(2, pt p3 0), (4, pt p7 0), (5, pt p22 0), (6, li 0), (7, vi r)] ?_
 refine GL.q hK27 ?_
 refine G.seqK fun K28 hK29 => ?_
 refine G.sr fun K30 hK31 => ?_
 refine GL.r 1 1 [(2, pt p3 0), (4, pt p7 0), (5, pt p22 0), (6, li 0), (7, vi r), (8, li 0)] ?_
 refine GL.q hK31 ?_
 refine G.block ?_
 refine G.unroll 5 ?_
 refine G.seqK fun K32 hK33 => ?_
 refine G.sr fun K34 hK35 => ?_
 refine GL.r 4 4 [(2, pt p3 0), (4, pt p7 0), (5, pt p22 0), (6, li 0), (7, vi r), (8, li 0), (31, .bool true)] ?_
 refine GL.q hK35 ?_
 refine G.yes rfl ?_
 refine G.skipK hK33 (fun _ _ h => h) ?_
 refine G.seqK fun K36 hK37 => ?_
 refine G.block ?_
 refine G.sr fun K38 hK39 => ?_
 refine GL.r 5 5 [(2, pt p3 0), (4, pt p7 0), (5, pt p22 0), (6, li 0), (7, vi r), (8, li 0), (34, li 0), (38, pt p3 0)] ?_
 refine GL.s 6 (H25.ld (o := 0) (ty := 31) (v := vu (wd x 0)) 0 rfl (by kernel_rfl) rfl) [(2, pt p3 0), (4, pt p7 0), (5, pt p22 0), (6, li 0), (7, vi r), (8, li 0), (34, li 0), (39, vu (wd x 0))] ?_
 refine GL.r 7 1 [(2, pt p3 0), (4, pt p7 0), (5, pt p22 0), (6, li 0), (7, vi r), (8, li 0), (34, li 0), (39, vu (wd x 0)), (40, vi r)] ?_
 refine GL.s 8 (run_shrN (P := Try.prog) (k' := .i64) (t := 31) (a := (wd x 0)) (r := r) (by omega) _) [(2, pt p3 0), (4, pt p7 0), (5, pt p22 0), (6, li 0), (7, vi r), (8, li 0), (34, li 0), (41, vu ((wd x 0) / 2 ^ r))] ?_
 refine GL.r 9 1 [(2, pt p3 0), (4, pt p7 0), (5, pt p22 0), (6, li 0), (7, vi r), (8, li 0), (41, vu ((wd x 0) / 2 ^ r)), (42, pt p22 0)] ?_
 obtain ⟨w40, r41, H42⟩ := H25.st (P := Try.prog) (o := 0) (ty := 31) (v := vu ((wd x 0) / 2 ^ r)) 2 rfl (by kernel_rfl) (by decide) rfl
 refine GL.u 10 r41 [(2, pt p3 0), (4, pt p7 0), (5, pt p22 0), (6, li 0), (7, vi r), (8, li 0)] ?_
 refine GL.q hK39 ?_
 refine G.sr fun K43 hK44 => ?_
 refine GL.r 9 9 [(2, pt p3 0), (4, pt p7 0), (5, pt p22 0), (6, li 0), (7, vi r), (8, li 0), (51, .bool (decide (0 < (r : Int))))] ?_
 refine GL.q hK44 ?_
 cases hb45 : (decide (0 < (r : Int)))
 · skip
   have hb45f := of_decide_eq_false hb45
   refine G.no rfl ?_
   refine G.skipK hK37 (fun _ _ h => h) ?_
   refine G.region ?_
   refine GL.r 3 3 [(2, pt p3 0), (4, pt p7 0), (5, pt p22 0), (6, li 0), (7, vi r), (8, li 1)] ?_
   refine GL.round rfl ?_
   refine G.seqK fun K46 hK47 => ?_
   refine G.sr fun K48 hK49 => ?_
   refine GL.r 4 4 [(2, pt p3 0), (4, pt p7 0), (5, pt p22 0), (6, li 0), (7, vi r), (8, li 1), (31, .bool true)] ?_
   refine GL.q hK49 ?_
   refine G.yes rfl ?_
   refine G.skipK hK47 (fun _ _ h => h) ?_
   refine G.seqK fun K50 hK51 => ?_
   refine G.block ?_
   refine G.sr fun K52 hK53 => ?_
   refine GL.r 5 5 [(2, pt p3 0), (4, pt p7 0), (5, pt p22 0), (6, li 0), (7, vi r), (8, li 1), (34, li 1), (38, pt p3 1)] ?_
   refine GL.s 6 (H42.ld (o := 1) (ty := 31) (v := vu (wd x 1)) 0 rfl (by kernel_rfl) rfl) [(2, pt p3 0), (4, pt p7 0), (5, pt p22 0), (6, li 0), (7, vi r), (8, li 1), (34, li 1), (39, vu (wd x 1))] ?_
   refine GL.r 7 1 [(2, pt p3 0), (4, pt p7 0), (5, pt p22 0), (6, li 0), (7, vi r), (8, li 1), (34, li 1), (39, vu (wd x 1)), (40, vi r)] ?_
   refine GL.s 8 (run_shrN (P := Try.prog) (k' := .i64) (t := 31) (a := (wd x 1)) (r := r) (by omega) _) [(2, pt p3 0), (4, pt p7 0), (5, pt p22 0), (6, li 0), (7, vi r), (8, li 1), (34, li 1), (41, vu ((wd x 1) / 2 ^ r))] ?_
   refine GL.r 9 1 [(2, pt p3 0), (4, pt p7 0), (5, pt p22 0), (6, li 0), (7, vi r), (8, li 1), (41, vu ((wd x 1) / 2 ^ r)), (42, pt p22 1)] ?_
   obtain ⟨w54, r55, H56⟩ := H42.st (P := Try.prog) (o := 1) (ty := 31) (v := vu ((wd x 1) / 2 ^ r)) 2 rfl (by kernel_rfl) (by simp) rfl
   refine GL.u 10 r55 [(2, pt p3 0), (4, pt p7 0), (5, pt p22 0), (6, li 0), (7, vi r), (8, li 1)] ?_
   refine GL.q hK53 ?_
   refine G.sr fun K57 hK58 => ?_
   refine GL.r 9 9 [(2, pt p3 0), (4, pt p7 0), (5, pt p22 0), (6, li 0), (7, vi r), (8, li 1), (51, .bool (decide (0 < (r : Int))))] ?_
   refine GL.q hK58 ?_
   have hb59 : (decide (0 < (r : Int))) = false := by assumption
   rw [hb59]
   refine G.no rfl ?_
   refine G.skipK hK51 (fun _ _ h => h) ?_
   refine G.region ?_
   refine GL.r 3 3 [(2, pt p3 0), (4, pt p7 0), (5, pt p22 0), (6, li 0), (7, vi r), (8, li 2)] ?_
   refine GL.round rfl ?_
   refine G.seqK fun K60 hK61 => ?_
   refine G.sr fun K62 hK63 => ?_
   refine GL.r 4 4 [(2, pt p3 0), (4, pt p7 0), (5, pt p22 0), (6, li 0), (7, vi r), (8, li 2), (31, .bool true)] ?_
   refine GL.q hK63 ?_
   refine G.yes rfl ?_
   refine G.skipK hK61 (fun _ _ h => h) ?_
   refine G.seqK fun K64 hK65 => ?_
   refine G.block ?_
   refine G.sr fun K66 hK67 => ?_
   refine GL.r 5 5 [(2, pt p3 0), (4, pt p7 0), (5, pt p22 0), (6, li 0), (7, vi r), (8, li 2), (34, li 2), (38, pt p3 2)] ?_
   refine GL.s 6 (H56.ld (o := 2) (ty := 31) (v := vu (wd x 2)) 0 rfl (by kernel_rfl) rfl) [(2, pt p3 0), (4, pt p7 0), (5, pt p22 0), (6, li 0), (7, vi r), (8, li 2), (34, li 2), (39, vu (wd x 2))] ?_
   refine GL.r 7 1 [(2, pt p3 0), (4, pt p7 0), (5, pt p22 0), (6, li 0), (7, vi r), (8, li 2), (34, li 2), (39, vu (wd x 2)), (40, vi r)] ?_
   refine GL.s 8 (run_shrN (P := Try.prog) (k' := .i64) (t := 31) (a := (wd x 2)) (r := r) (by omega) _) [(2, pt p3 0), (4, pt p7 0), (5, pt p22 0), (6, li 0), (7, vi r), (8, li 2), (34, li 2), (41, vu ((wd x 2) / 2 ^ r))] ?_
   refine GL.r 9 1 [(2, pt p3 0), (4, pt p7 0), (5, pt p22 0), (6, li 0), (7, vi r), (8, li 2), (41, vu ((wd x 2) / 2 ^ r)), (42, pt p22 2)] ?_
   obtain ⟨w68, r69, H70⟩ := H56.st (P := Try.prog) (o := 2) (ty := 31) (v := vu ((wd x 2) / 2 ^ r)) 2 rfl (by kernel_rfl) (by simp) rfl
   refine GL.u 10 r69 [(2, pt p3 0), (4, pt p7 0), (5, pt p22 0), (6, li 0), (7, vi r), (8, li 2)] ?_
   refine GL.q hK67 ?_
   refine G.sr fun K71 hK72 => ?_
   refine GL.r 9 9 [(2, pt p3 0), (4, pt p7 0), (5, pt p22 0), (6, li 0), (7, vi r), (8, li 2), (51, .bool (decide (0 < (r : Int))))] ?_
   refine GL.q hK72 ?_
   have hb73 : (decide (0 < (r : Int))) = false := by assumption
   rw [hb73]
   refine G.no rfl ?_
   refine G.skipK hK65 (fun _ _ h => h) ?_
   refine G.region ?_
   refine GL.r 3 3 [(2, pt p3 0), (4, pt p7 0), (5, pt p22 0), (6, li 0), (7, vi r), (8, li 3)] ?_
   refine GL.round rfl ?_
   refine G.seqK fun K74 hK75 => ?_
   refine G.sr fun K76 hK77 => ?_
   refine GL.r 4 4 [(2, pt p3 0), (4, pt p7 0), (5, pt p22 0), (6, li 0), (7, vi r), (8, li 3), (31, .bool true)] ?_
   refine GL.q hK77 ?_
   refine G.yes rfl ?_
   refine G.skipK hK75 (fun _ _ h => h) ?_
   refine G.seqK fun K78 hK79 => ?_
   refine G.block ?_
   refine G.sr fun K80 hK81 => ?_
   refine GL.r 5 5 [(2, pt p3 0), (4, pt p7 0), (5, pt p22 0), (6, li 0), (7, vi r), (8, li 3), (34, li 3), (38, pt p3 3)] ?_
   refine GL.s 6 (H70.ld (o := 3) (ty := 31) (v := vu (wd x 3)) 0 rfl (by kernel_rfl) rfl) [(2, pt p3 0), (4, pt p7 0), (5, pt p22 0), (6, li 0), (7, vi r), (8, li 3), (34, li 3), (39, vu (wd x 3))] ?_
   refine GL.r 7 1 [(2, pt p3 0), (4, pt p7 0), (5, pt p22 0), (6, li 0), (7, vi r), (8, li 3), (34, li 3), (39, vu (wd x 3)), (40, vi r)] ?_
   refine GL.s 8 (run_shrN (P := Try.prog) (k' := .i64) (t := 31) (a := (wd x 3)) (r := r) (by omega) _) [(2, pt p3 0), (4, pt p7 0), (5, pt p22 0), (6, li 0), (7, vi r), (8, li 3), (34, li 3), (41, vu ((wd x 3) / 2 ^ r))] ?_
   refine GL.r 9 1 [(2, pt p3 0), (4, pt p7 0), (5, pt p22 0), (6, li 0), (7, vi r), (8, li 3), (41, vu ((wd x 3) / 2 ^ r)), (42, pt p22 3)] ?_
   obtain ⟨w82, r83, H84⟩ := H70.st (P := Try.prog) (o := 3) (ty := 31) (v := vu ((wd x 3) / 2 ^ r)) 2 rfl (by kernel_rfl) (by simp) rfl
   refine GL.u 10 r83 [(2, pt p3 0), (4, pt p7 0), (5, pt p22 0), (6, li 0), (7, vi r), (8, li 3)] ?_
   refine GL.q hK81 ?_
   refine G.sr fun K85 hK86 => ?_
   refine GL.r 9 9 [(2, pt p3 0), (4, pt p7 0), (5, pt p22 0), (6, li 0), (7, vi r), (8, li 3), (51, .bool false)] ?_
   refine GL.q hK86 ?_
   refine G.no rfl ?_
   refine G.skipK hK79 (fun _ _ h => h) ?_
   refine G.region ?_
   refine GL.r 3 3 [(2, pt p3 0), (4, pt p7 0), (5, pt p22 0), (6, li 0), (7, vi r), (8, li 4)] ?_
   refine GL.round rfl ?_
   refine G.seqK fun K87 hK88 => ?_
   refine G.sr fun K89 hK90 => ?_
   refine GL.r 4 4 [(2, pt p3 0), (4, pt p7 0), (5, pt p22 0), (6, li 0), (7, vi r), (8, li 4), (31, .bool false)] ?_
   refine GL.q hK90 ?_
   refine G.no rfl ?_
   refine G.exitK hK29 (fun _ _ h => h) ?_
   refine G.sr fun K91 hK92 => ?_
   refine GL.s 1 (H84.ldA (o := 0) (ty := 33) (m := 4) (sub := [vu ((wd x 0) / 2 ^ r), vu ((wd x 1) / 2 ^ r), vu ((wd x 2) / 2 ^ r), vu ((wd x 3) / 2 ^ r)]) 2 rfl (by kernel_rfl) rfl rfl) [(4, pt p7 0), (66, .agg #[vu ((wd x 0) / 2 ^ r), vu ((wd x 1) / 2 ^ r), vu ((wd x 2) / 2 ^ r), vu ((wd x 3) / 2 ^ r)])] ?_
   obtain ⟨w93, r94, H95⟩ := H84.stA (P := Try.prog) (o := 0) (vs := [vu ((wd x 0) / 2 ^ r), vu ((wd x 1) / 2 ^ r), vu ((wd x 2) / 2 ^ r), vu ((wd x 3) / 2 ^ r)]) (ty := 33) (m := 4) 1 rfl (by kernel_rfl) rfl (by first | decide | simp) (by simp [Value.oneCell'])
   refine GL.u 2 r94 [(4, pt p7 0)] ?_
   refine GL.q hK92 ?_
   refine G.ret fun F_ hF_ hM_ => hRet _ _ (bodyPost_1 rfl (RV.cell rfl (H95.ldA (o := 0) (ty := 33) (m := 4) (sub := [vu ((wd x 0) / 2 ^ r), vu ((wd x 1) / 2 ^ r), vu ((wd x 2) / 2 ^ r), vu ((wd x 3) / 2 ^ r)]) 1 rfl (by kernel_rfl) rfl rfl)) ?_ F_ hF_ hM_)
   rw [← right_fin0' hx (show r = 0 by omega)]
   exact ⟨rfl, H95.sub (List.nil_sublist _)⟩
 · skip
   have hb45f := of_decide_eq_true hb45
   refine G.yes rfl ?_
   refine G.tail 14 (by kernel_rfl) (by kernel_rfl) ?_
   have H96 := H42.drew
   generalize ({ w40 with drawn := w40.drawn + 1 } : World) = w97 at H96 ⊢
   refine GS.r 2 2 [(2, pt p3 0), (4, pt p7 0), (5, pt p22 0), (6, li 0), (7, vi r), (8, li 0), (52, li 0), (53, pt p22 0)] ?_
   refine GS.s 3 (H96.ld (o := 0) (ty := 31) (v := vu ((wd x 0) / 2 ^ r)) 2 rfl (by kernel_rfl) rfl) [(2, pt p3 0), (4, pt p7 0), (5, pt p22 0), (6, li 0), (7, vi r), (8, li 0), (52, li 0), (54, vu ((wd x 0) / 2 ^ r))] ?_
   refine GS.r 8 5 [(2, pt p3 0), (4, pt p7 0), (5, pt p22 0), (6, li 0), (7, vi r), (8, li 0), (52, li 0), (54, vu ((wd x 0) / 2 ^ r)), (59, pt p3 1)] ?_
   refine GS.s 9 (H96.ld (o := 1) (ty := 31) (v := vu (wd x 1)) 0 rfl (by kernel_rfl) rfl) [(2, pt p3 0), (4, pt p7 0), (5, pt p22 0), (6, li 0), (7, vi r), (8, li 0), (52, li 0), (54, vu ((wd x 0) / 2 ^ r)), (60, vu (wd x 1))] ?_
   refine GS.r 11 2 [(2, pt p3 0), (4, pt p7 0), (5, pt p22 0), (6, li 0), (7, vi r), (8, li 0), (52, li 0), (54, vu ((wd x 0) / 2 ^ r)), (60, vu (wd x 1)), (62, li (IntKind.i64.wrap (64 - (r : Int))))] ?_
   have e98 : (IntKind.i64.wrap (64 - (r : Int))) = ((64 - r : Nat) : Int) := by rw [in_i64 (by omega)]; omega
   rw [e98]
   clear e98
   refine GS.s 12 (run_shlN (P := Try.prog) (k' := .i64) (t := 31) (a := (wd x 1)) (r := (64 - r)) (by omega) _) [(2, pt p3 0), (4, pt p7 0), (5, pt p22 0), (6, li 0), (7, vi r), (8, li 0), (52, li 0), (54, vu ((wd x 0) / 2 ^ r)), (63, vu ((wd x 1) * 2 ^ (64 - r) % K))] ?_
   refine GS.r 14 2 [(2, pt p3 0), (4, pt p7 0), (5, pt p22 0), (6, li 0), (7, vi r), (8, li 0), (64, lu (Go.bits .or .u64 (((wd x 0) / 2 ^ r : Nat) : Int) (((wd x 1) * 2 ^ (64 - r) % K : Nat) : Int))), (65, pt p22 0)] ?_
   have e99 : (Go.bits .or .u64 (((wd x 0) / 2 ^ r : Nat) : Int) (((wd x 1) * 2 ^ (64 - r) % K : Nat) : Int)) = (((wd x 0) / 2 ^ r + (wd x 1) * 2 ^ (64 - r) % K : Nat) : Int) := or_shiftR (wd_lt _ _) (by omega)
   rw [e99]
   clear e99
   refine GS.tail rfl ?_
   obtain ⟨w100, r101, H102⟩ := H96.st (P := Try.prog) (o := 0) (ty := 31) (v := vu ((wd x 0) / 2 ^ r + (wd x 1) * 2 ^ (64 - r) % K)) 2 rfl (by kernel_rfl) (by simp) rfl
   refine GL.u 15 r101 [(2, pt p3 0), (4, pt p7 0), (5, pt p22 0), (6, li 0), (7, vi r), (8, li 0)] ?_
   refine GL.q hK37 ?_
   refine G.region ?_
   refine GL.r 3 3 [(2, pt p3 0), (4, pt p7 0), (5, pt p22 0), (6, li 0), (7, vi r), (8, li 1)] ?_
   refine GL.round rfl ?_
   refine G.seqK fun K103 hK104 => ?_
   refine G.sr fun K105 hK106 => ?_
   refine GL.r 4 4 [(2, pt p3 0), (4, pt p7 0), (5, pt p22 0), (6, li 0), (7, vi r), (8, li 1), (31, .bool true)] ?_
   refine GL.q hK106 ?_
   refine G.yes rfl ?_
   refine G.skipK hK104 (fun _ _ h => h) ?_
   refine G.seqK fun K107 hK108 => ?_
   refine G.block ?_
   refine G.sr fun K109 hK110 => ?_
   refine GL.r 5 5 [(2, pt p3 0), (4, pt p7 0), (5, pt p22 0), (6, li 0), (7, vi r), (8, li 1), (34, li 1), (38, pt p3 1)] ?_
   refine GL.s 6 (H102.ld (o := 1) (ty := 31) (v := vu (wd x 1)) 0 rfl (by kernel_rfl) rfl) [(2, pt p3 0), (4, pt p7 0), (5, pt p22 0), (6, li 0), (7, vi r), (8, li 1), (34, li 1), (39, vu (wd x 1))] ?_
   refine GL.r 7 1 [(2, pt p3 0), (4, pt p7 0), (5, pt p22 0), (6, li 0), (7, vi r), (8, li 1), (34, li 1), (39, vu (wd x 1)), (40, vi r)] ?_
   refine GL.s 8 (run_shrN (P := Try.prog) (k' := .i64) (t := 31) (a := (wd x 1)) (r := r) (by omega) _) [(2, pt p3 0), (4, pt p7 0), (5, pt p22 0), (6, li 0), (7, vi r), (8, li 1), (34, li 1), (41, vu ((wd x 1) / 2 ^ r))] ?_
   refine GL.r 9 1 [(2, pt p3 0), (4, pt p7 0), (5, pt p22 0), (6, li 0), (7, vi r), (8, li 1), (41, vu ((wd x 1) / 2 ^ r)), (42, pt p22 1)] ?_
   obtain ⟨w111, r112, H113⟩ := H102.st (P := Try.prog) (o := 1) (ty := 31) (v := vu ((wd x 1) / 2 ^ r)) 2 rfl (by kernel_rfl) (by simp) rfl
   refine GL.u 10 r112 [(2, pt p3 0), (4, pt p7 0), (5, pt p22 0), (6, li 0), (7, vi r), (8, li 1)] ?_
   refine GL.q hK110 ?_
   refine G.sr fun K114 hK115 => ?_
   refine GL.r 9 9 [(2, pt p3 0), (4, pt p7 0), (5, pt p22 0), (6, li 0), (7, vi r), (8, li 1), (51, .bool (decide (0 < (r : Int))))] ?_
   refine GL.q hK115 ?_
   have hb116 : (decide (0 < (r : Int))) = true := by assumption
   rw [hb116]
   refine G.yes rfl ?_
   refine G.tail 14 (by kernel_rfl) (by kernel_rfl) ?_
   have H117 := H113.drew
   generalize ({ w111 with drawn := w111.drawn + 1 } : World) = w118 at H117 ⊢
   refine GS.r 2 2 [(2, pt p3 0), (4, pt p7 0), (5, pt p22 0), (6, li 0), (7, vi r), (8, li 1), (52, li 1), (53, pt p22 1)] ?_
   refine GS.s 3 (H117.ld (o := 1) (ty := 31) (v := vu ((wd x 1) / 2 ^ r)) 2 rfl (by kernel_rfl) rfl) [(2, pt p3 0), (4, pt p7 0), (5, pt p22 0), (6, li 0), (7, vi r), (8, li 1), (52, li 1), (54, vu ((wd x 1) / 2 ^ r))] ?_
   refine GS.r 8 5 [(2, pt p3 0), (4, pt p7 0), (5, pt p22 0), (6, li 0), (7, vi r), (8, li 1), (52, li 1), (54, vu ((wd x 1) / 2 ^ r)), (59, pt p3 2)] ?_
   refine GS.s 9 (H117.ld (o := 2) (ty := 31) (v := vu (wd x 2)) 0 rfl (by kernel_rfl) rfl) [(2, pt p3 0), (4, pt p7 0), (5, pt p22 0), (6, li 0), (7, vi r), (8, li 1), (52, li 1), (54, vu ((wd x 1) / 2 ^ r)), (60, vu (wd x 2))] ?_
   refine GS.r 11 2 [(2, pt p3 0), (4, pt p7 0), (5, pt p22 0), (6, li 0), (7, vi r), (8, li 1), (52, li 1), (54, vu ((wd x 1) / 2 ^ r)), (60, vu (wd x 2)), (62, li (IntKind.i64.wrap (64 - (r : Int))))] ?_
   have e119 : (IntKind.i64.wrap (64 - (r : Int))) = ((64 - r : Nat) : Int) := by rw [in_i64 (by omega)]; omega
   rw [e119]
   clear e119
   refine GS.s 12 (run_shlN (P := Try.prog) (k' := .i64) (t := 31) (a := (wd x 2)) (r := (64 - r)) (by omega) _) [(2, pt p3 0), (4, pt p7 0), (5, pt p22 0), (6, li 0), (7, vi r), (8, li 1), (52, li 1), (54, vu ((wd x 1) / 2 ^ r)), (63, vu ((wd x 2) * 2 ^ (64 - r) % K))] ?_
   refine GS.r 14 2 [(2, pt p3 0), (4, pt p7 0), (5, pt p22 0), (6, li 0), (7, vi r), (8, li 1), (64, lu (Go.bits .or .u64 (((wd x 1) / 2 ^ r : Nat) : Int) (((wd x 2) * 2 ^ (64 - r) % K : Nat) : Int))), (65, pt p22 1)] ?_
   have e120 : (Go.bits .or .u64 (((wd x 1) / 2 ^ r : Nat) : Int) (((wd x 2) * 2 ^ (64 - r) % K : Nat) : Int)) = (((wd x 1) / 2 ^ r + (wd x 2) * 2 ^ (64 - r) % K : Nat) : Int) := or_shiftR (wd_lt _ _) (by omega)
   rw [e120]
   clear e120
   refine GS.tail rfl ?_
   obtain ⟨w121, r122, H123⟩ := H117.st (P := Try.prog) (o := 1) (ty := 31) (v := vu ((wd x 1) / 2 ^ r + (wd x 2) * 2 ^ (64 - r) % K)) 2 rfl (by kernel_rfl) (by simp) rfl
   refine GL.u 15 r122 [(2, pt p3 0), (4, pt p7 0), (5, pt p22 0), (6, li 0), (7, vi r), (8, li 1)] ?_
   refine GL.q hK108 ?_
   refine G.region ?_
   refine GL.r 3 3 [(2, pt p3 0), (4, pt p7 0), (5, pt p22 0), (6, li 0), (7, vi r), (8, li 2)] ?_
   refine GL.round rfl ?_
   refine G.seqK fun K124 hK125 => ?_
   refine G.sr fun K126 hK127 => ?_
   refine GL.r 4 4 [(2, pt p3 0), (4, pt p7 0), (5, pt p22 0), (6, li 0), (7, vi r), (8, li 2), (31, .bool true)] ?_
   refine GL.q hK127 ?_
   refine G.yes rfl ?_
   refine G.skipK hK125 (fun _ _ h => h) ?_
   refine G.seqK fun K128 hK129 => ?_
   refine G.block ?_
   refine G.sr fun K130 hK131 => ?_
   refine GL.r 5 5 [(2, pt p3 0), (4, pt p7 0), (5, pt p22 0), (6, li 0), (7, vi r), (8, li 2), (34, li 2), (38, pt p3 2)] ?_
   refine GL.s 6 (H123.ld (o := 2) (ty := 31) (v := vu (wd x 2)) 0 rfl (by kernel_rfl) rfl) [(2, pt p3 0), (4, pt p7 0), (5, pt p22 0), (6, li 0), (7, vi r), (8, li 2), (34, li 2), (39, vu (wd x 2))] ?_
   refine GL.r 7 1 [(2, pt p3 0), (4, pt p7 0), (5, pt p22 0), (6, li 0), (7, vi r), (8, li 2), (34, li 2), (39, vu (wd x 2)), (40, vi r)] ?_
   refine GL.s 8 (run_shrN (P := Try.prog) (k' := .i64) (t := 31) (a := (wd x 2)) (r := r) (by omega) _) [(2, pt p3 0), (4, pt p7 0), (5, pt p22 0), (6, li 0), (7, vi r), (8, li 2), (34, li 2), (41, vu ((wd x 2) / 2 ^ r))] ?_
   refine GL.r 9 1 [(2, pt p3 0), (4, pt p7 0), (5, pt p22 0), (6, li 0), (7, vi r), (8, li 2), (41, vu ((wd x 2) / 2 ^ r)), (42, pt p22 2)] ?_
   obtain ⟨w132, r133, H134⟩ := H123.st (P := Try.prog) (o := 2) (ty := 31) (v := vu ((wd x 2) / 2 ^ r)) 2 rfl (by kernel_rfl) (by simp) rfl
   refine GL.u 10 r133 [(2, pt p3 0), (4, pt p7 0), (5, pt p22 0), (6, li 0), (7, vi r), (8, li 2)] ?_
   refine GL.q hK131 ?_
   refine G.sr fun K135 hK136 => ?_
   refine GL.r 9 9 [(2, pt p3 0), (4, pt p7 0), (5, pt p22 0), (6, li 0), (7, vi r), (8, li 2), (51, .bool (decide (0 < (r : Int))))] ?_
   refine GL.q hK136 ?_
   have hb137 : (decide (0 < (r : Int))) = true := by assumption
   rw [hb137]
   refine G.yes rfl ?_
   refine G.tail 14 (by kernel_rfl) (by kernel_rfl) ?_
   have H138 := H134.drew
   generalize ({ w132 with drawn := w132.drawn + 1 } : World) = w139 at H138 ⊢
   refine GS.r 2 2 [(2, pt p3 0), (4, pt p7 0), (5, pt p22 0), (6, li 0), (7, vi r), (8, li 2), (52, li 2), (53, pt p22 2)] ?_
   refine GS.s 3 (H138.ld (o := 2) (ty := 31) (v := vu ((wd x 2) / 2 ^ r)) 2 rfl (by kernel_rfl) rfl) [(2, pt p3 0), (4, pt p7 0), (5, pt p22 0), (6, li 0), (7, vi r), (8, li 2), (52, li 2), (54, vu ((wd x 2) / 2 ^ r))] ?_
   refine GS.r 8 5 [(2, pt p3 0), (4, pt p7 0), (5, pt p22 0), (6, li 0), (7, vi r), (8, li 2), (52, li 2), (54, vu ((wd x 2) / 2 ^ r)), (59, pt p3 3)] ?_
   refine GS.s 9 (H138.ld (o := 3) (ty := 31) (v := vu (wd x 3)) 0 rfl (by kernel_rfl) rfl) [(2, pt p3 0), (4, pt p7 0), (5, pt p22 0), (6, li 0), (7, vi r), (8, li 2), (52, li 2), (54, vu ((wd x 2) / 2 ^ r)), (60, vu (wd x 3))] ?_
   refine GS.r 11 2 [(2, pt p3 0), (4, pt p7 0), (5, pt p22 0), (6, li 0), (7, vi r), (8, li 2), (52, li 2), (54, vu ((wd x 2) / 2 ^ r)), (60, vu (wd x 3)), (62, li (IntKind.i64.wrap (64 - (r : Int))))] ?_
   have e140 : (IntKind.i64.wrap (64 - (r : Int))) = ((64 - r : Nat) : Int) := by rw [in_i64 (by omega)]; omega
   rw [e140]
   clear e140
   refine GS.s 12 (run_shlN (P := Try.prog) (k' := .i64) (t := 31) (a := (wd x 3)) (r := (64 - r)) (by omega) _) [(2, pt p3 0), (4, pt p7 0), (5, pt p22 0), (6, li 0), (7, vi r), (8, li 2), (52, li 2), (54, vu ((wd x 2) / 2 ^ r)), (63, vu ((wd x 3) * 2 ^ (64 - r) % K))] ?_
   refine GS.r 14 2 [(2, pt p3 0), (4, pt p7 0), (5, pt p22 0), (6, li 0), (7, vi r), (8, li 2), (64, lu (Go.bits .or .u64 (((wd x 2) / 2 ^ r : Nat) : Int) (((wd x 3) * 2 ^ (64 - r) % K : Nat) : Int))), (65, pt p22 2)] ?_
   have e141 : (Go.bits .or .u64 (((wd x 2) / 2 ^ r : Nat) : Int) (((wd x 3) * 2 ^ (64 - r) % K : Nat) : Int)) = (((wd x 2) / 2 ^ r + (wd x 3) * 2 ^ (64 - r) % K : Nat) : Int) := or_shiftR (wd_lt _ _) (by omega)
   rw [e141]
   clear e141
   refine GS.tail rfl ?_
   obtain ⟨w142, r143, H144⟩ := H138.st (P := Try.prog) (o := 2) (ty := 31) (v := vu ((wd x 2) / 2 ^ r + (wd x 3) * 2 ^ (64 - r) % K)) 2 rfl (by kernel_rfl) (by simp) rfl
   refine GL.u 15 r143 [(2, pt p3 0), (4, pt p7 0), (5, pt p22 0), (6, li 0), (7, vi r), (8, li 2)] ?_
   refine GL.q hK129 ?_
   refine G.region ?_
   refine GL.r 3 3 [(2, pt p3 0), (4, pt p7 0), (5, pt p22 0), (6, li 0), (7, vi r), (8, li 3)] ?_
   refine GL.round rfl ?_
   refine G.seqK fun K145 hK146 => ?_
   refine G.sr fun K147 hK148 => ?_
   refine GL.r 4 4 [(2, pt p3 0), (4, pt p7 0), (5, pt p22 0), (6, li 0), (7, vi r), (8, li 3), (31, .bool true)] ?_
   refine GL.q hK148 ?_
   refine G.yes rfl ?_
   refine G.skipK hK146 (fun _ _ h => h) ?_
   refine G.seqK fun K149 hK150 => ?_
   refine G.block ?_
   refine G.sr fun K151 hK152 => ?_
   refine GL.r 5 5 [(2, pt p3 0), (4, pt p7 0), (5, pt p22 0), (6, li 0), (7, vi r), (8, li 3), (34, li 3), (38, pt p3 3)] ?_
   refine GL.s 6 (H144.ld (o := 3) (ty := 31) (v := vu (wd x 3)) 0 rfl (by kernel_rfl) rfl) [(2, pt p3 0), (4, pt p7 0), (5, pt p22 0), (6, li 0), (7, vi r), (8, li 3), (34, li 3), (39, vu (wd x 3))] ?_
   refine GL.r 7 1 [(2, pt p3 0), (4, pt p7 0), (5, pt p22 0), (6, li 0), (7, vi r), (8, li 3), (34, li 3), (39, vu (wd x 3)), (40, vi r)] ?_
   refine GL.s 8 (run_shrN (P := Try.prog) (k' := .i64) (t := 31) (a := (wd x 3)) (r := r) (by omega) _) [(2, pt p3 0), (4, pt p7 0), (5, pt p22 0), (6, li 0), (7, vi r), (8, li 3), (34, li 3), (41, vu ((wd x 3) / 2 ^ r))] ?_
   refine GL.r 9 1 [(2, pt p3 0), (4, pt p7 0), (5, pt p22 0), (6, li 0), (7, vi r), (8, li 3), (41, vu ((wd x 3) / 2 ^ r)), (42, pt p22 3)] ?_
   obtain ⟨w153, r154, H155⟩ := H144.st (P := Try.prog) (o := 3) (ty := 31) (v := vu ((wd x 3) / 2 ^ r)) 2 rfl (by kernel_rfl) (by simp) rfl
   refine GL.u 10 r154 [(2, pt p3 0), (4, pt p7 0), (5, pt p22 0), (6, li 0), (7, vi r), (8, li 3)] ?_
   refine GL.q hK152 ?_
   refine G.sr fun K156 hK157 => ?_
   refine GL.r 9 9 [(2, pt p3 0), (4, pt p7 0), (5, pt p22 0), (6, li 0), (7, vi r), (8, li 3), (51, .bool false)] ?_
   refine GL.q hK157 ?_
   refine G.no rfl ?_
   refine G.skipK hK150 (fun _ _ h => h) ?_
   refine G.region ?_
   refine GL.r 3 3 [(2, pt p3 0), (4, pt p7 0), (5, pt p22 0), (6, li 0), (7, vi r), (8, li 4)] ?_
   refine GL.round rfl ?_
   refine G.seqK fun K158 hK159 => ?_
   refine G.sr fun K160 hK161 => ?_
   refine GL.r 4 4 [(2, pt p3 0), (4, pt p7 0), (5, pt p22 0), (6, li 0), (7, vi r), (8, li 4), (31, .bool false)] ?_
   refine GL.q hK161 ?_
   refine G.no rfl ?_
   refine G.exitK hK29 (fun _ _ h => h) ?_
   refine G.sr fun K162 hK163 => ?_
   refine GL.s 1 (H155.ldA (o := 0) (ty := 33) (m := 4) (sub := [vu ((wd x 0) / 2 ^ r + (wd x 1) * 2 ^ (64 - r) % K), vu ((wd x 1) / 2 ^ r + (wd x 2) * 2 ^ (64 - r) % K), vu ((wd x 2) / 2 ^ r + (wd x 3) * 2 ^ (64 - r) % K), vu ((wd x 3) / 2 ^ r)]) 2 rfl (by kernel_rfl) rfl rfl) [(4, pt p7 0), (66, .agg #[vu ((wd x 0) / 2 ^ r + (wd x 1) * 2 ^ (64 - r) % K), vu ((wd x 1) / 2 ^ r + (wd x 2) * 2 ^ (64 - r) % K), vu ((wd x 2) / 2 ^ r + (wd x 3) * 2 ^ (64 - r) % K), vu ((wd x 3) / 2 ^ r)])] ?_
   obtain ⟨w164, r165, H166⟩ := H155.stA (P := Try.prog) (o := 0) (vs := [vu ((wd x 0) / 2 ^ r + (wd x 1) * 2 ^ (64 - r) % K), vu ((wd x 1) / 2 ^ r + (wd x 2) * 2 ^ (64 - r) % K), vu ((wd x 2) / 2 ^ r + (wd x 3) * 2 ^ (64 - r) % K), vu ((wd x 3) / 2 ^ r)]) (ty := 33) (m := 4) 1 rfl (by kernel_rfl) rfl (by first | decide | simp) (by simp [Value.oneCell'])
   refine GL.u 2 r165 [(4, pt p7 0)] ?_
   refine GL.q hK163 ?_
   refine G.ret fun F_ hF_ hM_ => hRet _ _ (bodyPost_1 rfl (RV.cell rfl (H166.ldA (o := 0) (ty := 33) (m := 4) (sub := [vu ((wd x 0) / 2 ^ r + (wd x 1) * 2 ^ (64 - r) % K), vu ((wd x 1) / 2 ^ r + (wd x 2) * 2 ^ (64 - r) % K), vu ((wd x 2) / 2 ^ r + (wd x 3) * 2 ^ (64 - r) % K), vu ((wd x 3) / 2 ^ r)]) 1 rfl (by kernel_rfl) rfl rfl)) ?_ F_ hF_ hM_)
   rw [← right_fin0 hx (show r ≤ 64 by omega)]
   exact ⟨rfl, H166.sub (List.nil_sublist _)⟩
theorem Right_q1 (x r : Nat) (hx : x < K4) (hr : r < 64) (w : World) : Calls Try.prog 66 #[wv x, .int .i64 ((64 * 1 + r : Nat) : Int)] w fun e w' => e = .returned (wv (x / 2 ^ (64 * 1 + r))) ∧ Hp w [] [] w' := by
 refine calls_G (args := [wv x, vi (64 * 1 + r)]) Try.func66 rfl Try.ntmps66 rfl ?_
 intro Q0 hRet hNor hPan
 have H := Hp.start w
 refine G.sr fun K1 hK2 => ?_
 obtain ⟨p3, w4, r5, H6⟩ := H.box (P := Try.prog) 33 (wl x) (wv x) rfl
 refine GL.s 1 (r5) [(1, vi (64 * 1 + r)), (2, pt p3 0)] ?_
 obtain ⟨p7, w8, r9, H10⟩ := H6.alloc (P := Try.prog) 33 z4 (by kernel_rfl)
 refine GL.s 2 (r9) [(1, vi (64 * 1 + r)), (2, pt p3 0), (4, pt p7 0)] ?_
 refine GL.q hK2 ?_
 refine G.seqK fun K11 hK12 => ?_
 refine G.block ?_
 refine G.sr fun K13 hK14 => ?_
 refine GL.r 3 3 [(1, vi (64 * 1 + r)), (2, pt p3 0), (4, pt p7 0), (12, .bool (decide (((64 * 1 + r : Nat) : Int) ≤ (-256))))] ?_
 have hb15 : (decide (((64 * 1 + r : Nat) : Int) ≤ (-256))) = false := decide_eq_false (by omega)
 rw [hb15]
 refine GL.r 7 4 [(1, vi (64 * 1 + r)), (2, pt p3 0), (4, pt p7 0), (9, .bool (decide (256 ≤ ((64 * 1 + r : Nat) : Int))))] ?_
 refine GL.q hK14 ?_
 have hb16 : (decide (256 ≤ ((64 * 1 + r : Nat) : Int))) = false := decide_eq_false (by omega)
 rw [hb16]
 refine G.no rfl ?_
 refine G.sr fun K17 hK18 => ?_
 refine GL.r 3 3 [(1, vi (64 * 1 + r)), (2, pt p3 0), (4, pt p7 0), (17, .bool (decide (((64 * 1 + r : Nat) : Int) < 0)))] ?_
 refine GL.q hK18 ?_
 have hb19 : (decide (((64 * 1 + r : Nat) : Int) < 0)) = false := decide_eq_false (by omega)
 rw [hb19]
 refine G.no rfl ?_
 refine G.skipK hK12 (fun _ _ h => h) ?_
 refine G.sr fun K20 hK21 => ?_
 obtain ⟨p22, w23, r24, H25⟩ := H10.alloc (P := Try.prog) 33 z4 (by kernel_rfl)
 refine GL.s 1 (r24) [(1, vi (64 * 1 + r)), (2, pt p3 0), (4, pt p7 0), (5, pt p22 0)] ?_
 refine GL.q hK21 ?_
 refine G.sr fun K26 hK27 => ?_
 refine GL.r 1 1 [(1, vi (64 * 1 + r)), (2, pt p3 0), (4, pt p7 0), (5, pt p22 0), (24, vi (64 * 1 + r))] ?_
 refine GL.s 2 (run_quo64 (P := Try.prog) (t := 3) (n := (64 * 1 + r)) (q := 1) (r := r) (by omega) hr (by omega) _) [(1, vi (64 * 1 + r)), (2, pt p3 0), (4, pt p7 0), (5, pt p22 0), (25, li 1)] ?_
 refine GL.r 3 1 [(2, pt p3 0), (4, pt p7 0), (5, pt p22 0), (25, li 1), (26, vi (64 * 1 + r))] ?_
 refine GL.s 4 (run_rem64 (P := Try.prog) (t := 3) (n := (64 * 1 + r)) (q := 1) (r := r) (by omega) hr _) [(2, pt p3 0), (4, pt p7 0), (5, pt p22 0), (25, li 1), (27, vi r)] ?_
 refine GL.r 6 2 [(2, pt p3 0), (4, pt p7 0), (5, pt p22 0), (6, li 1), (7, vi r)] ?_
 refine GL.q hK27 ?_
 refine G.seqK fun K28 hK29 => ?_
 refine G.sr fun K30 hK31 => ?_
 refine GL.r 1 1 [(2, pt p3 0), (4, pt p7 0), (5, pt p22 0), (6, li 1), (7, vi r), (8, li 0)] ?_
 refine GL.q hK31 ?_
 refine G.block ?_
 refine G.unroll 5 ?_
 refine G.seqK fun K32 hK33 => ?_
 refine G.sr fun K34 hK35 => ?_
 refine GL.r 4 4 [(2, pt p3 0), (4, pt p7 0), (5, pt p22 0), (6, li 1), (7, vi r), (8, li 0), (31, .bool true)] ?_
 refine GL.q hK35 ?_
 refine G.yes rfl ?_
 refine G.skipK hK33 (fun _ _ h => h) ?_
 refine G.seqK fun K36 hK37 => ?_
 refine G.block ?_
 refine G.sr fun K38 hK39 => ?_
 refine GL.r 5 5 [(2, pt p3 0), (4, pt p7 0), (5, pt p22 0), (6, li 1), (7, vi r), (8, li 0), (34, li 0), (38, pt p3 1)] ?_
 refine GL.s 6 (H25.ld (o := 1) (ty := 31) (v := vu (wd x 1)) 0 rfl (by kernel_rfl) rfl) [(2, pt p3 0), (4, pt p7 0), (5, pt p22 0), (6, li 1), (7, vi r), (8, li 0), (34, li 0), (39, vu (wd x 1))] ?_
 refine GL.r 7 1 [(2, pt p3 0), (4, pt p7 0), (5, pt p22 0), (6, li 1), (7, vi r), (8, li 0), (34, li 0), (39, vu (wd x 1)), (40, vi r)] ?_
 refine GL.s 8 (run_shrN (P := Try.prog) (k' := .i64) (t := 31) (a := (wd x 1)) (r := r) (by omega) _) [(2, pt p3 0), (4, pt p7 0), (5, pt p22 0), (6, li 1), (7, vi r), (8, li 0), (34, li 0), (41, vu ((wd x 1) / 2 ^ r))] ?_
 refine GL.r 9 1 [(2, pt p3 0), (4, pt p7 0), (5, pt p22 0), (6, li 1), (7, vi r), (8, li 0), (41, vu ((wd x 1) / 2 ^ r)), (42, pt p22 0)] ?_
 obtain ⟨w40, r41, H42⟩ := H25.st (P := Try.prog) (o := 0) (ty := 31) (v := vu ((wd x 1) / 2 ^ r)) 2 rfl (by kernel_rfl) (by decide) rfl
 refine GL.u 10 r41 [(2, pt p3 0), (4, pt p7 0), (5, pt p22 0), (6, li 1), (7, vi r), (8, li 0)] ?_
 refine GL.q hK39 ?_
 refine G.sr fun K43 hK44 => ?_
 refine GL.r 9 9 [(2, pt p3 0), (4, pt p7 0), (5, pt p22 0), (6, li 1), (7, vi r), (8, li 0), (51, .bool (decide (0 < (r : Int))))] ?_
 refine GL.q hK44 ?_
 cases hb45 : (decide (0 < (r : Int)))
 · skip
   have hb45f := of_decide_eq_false hb45
   refine G.no rfl ?_
   refine G.skipK hK37 (fun _ _ h => h) ?_
   refine G.region ?_
   refine GL.r 3 3 [(2, pt p3 0), (4, pt p7 0), (5, pt p22 0), (6, li 1), (7, vi r), (8, li 1)] ?_
   refine GL.round rfl ?_
   refine G.seqK fun K46 hK47 => ?_
   refine G.sr fun K48 hK49 => ?_
   refine GL.r 4 4 [(2, pt p3 0), (4, pt p7 0), (5, pt p22 0), (6, li 1), (7, vi r), (8, li 1), (31, .bool true)] ?_
   refine GL.q hK49 ?_
   refine G.yes rfl ?_
   refine G.skipK hK47 (fun _ _ h => h) ?_
   refine G.seqK fun K50 hK51 => ?_
   refine G.block ?_
   refine G.sr fun K52 hK53 => ?_
   refine GL.r 5 5 [(2, pt p3 0), (4, pt p7 0), (5, pt p22 0), (6, li 1), (7, vi r), (8, li 1), (34, li 1), (38, pt p3 2)] ?_
   refine GL.s 6 (H42.ld (o := 2) (ty := 31) (v := vu (wd x 2)) 0 rfl (by kernel_rfl) rfl) [(2, pt p3 0), (4, pt p7 0), (5, pt p22 0), (6, li 1), (7, vi r), (8, li 1), (34, li 1), (39, vu (wd x 2))] ?_
   refine GL.r 7 1 [(2, pt p3 0), (4, pt p7 0), (5, pt p22 0), (6, li 1), (7, vi r), (8, li 1), (34, li 1), (39, vu (wd x 2)), (40, vi r)] ?_
   refine GL.s 8 (run_shrN (P := Try.prog) (k' := .i64) (t := 31) (a := (wd x 2)) (r := r) (by omega) _) [(2, pt p3 0), (4, pt p7 0), (5, pt p22 0), (6, li 1), (7, vi r), (8, li 1), (34, li 1), (41, vu ((wd x 2) / 2 ^ r))] ?_
   refine GL.r 9 1 [(2, pt p3 0), (4, pt p7 0), (5, pt p22 0), (6, li 1), (7, vi r), (8, li 1), (41, vu ((wd x 2) / 2 ^ r)), (42, pt p22 1)] ?_
   obtain ⟨w54, r55, H56⟩ := H42.st (P := Try.prog) (o := 1) (ty := 31) (v := vu ((wd x 2) / 2 ^ r)) 2 rfl (by kernel_rfl) (by simp) rfl
   refine GL.u 10 r55 [(2, pt p3 0), (4, pt p7 0), (5, pt p22 0), (6, li 1), (7, vi r), (8, li 1)] ?_
   refine GL.q hK53 ?_
   refine G.sr fun K57 hK58 => ?_
   refine GL.r 9 9 [(2, pt p3 0), (4, pt p7 0), (5, pt p22 0), (6, li 1), (7, vi r), (8, li 1), (51, .bool (decide (0 < (r : Int))))] ?_
   refine GL.q hK58 ?_
   have hb59 : (decide (0 < (r : Int))) = false := by assumption
   rw [hb59]
   refine G.no rfl ?_
   refine G.skipK hK51 (fun _ _ h => h) ?_
   refine G.region ?_
   refine GL.r 3 3 [(2, pt p3 0), (4, pt p7 0), (5, pt p22 0), (6, li 1), (7, vi r), (8, li 2)] ?_
   refine GL.round rfl ?_
   refine G.seqK fun K60 hK61 => ?_
   refine G.sr fun K62 hK63 => ?_
   refine GL.r 4 4 [(2, pt p3 0), (4, pt p7 0), (5, pt p22 0), (6, li 1), (7, vi r), (8, li 2), (31, .bool true)] ?_
   refine GL.q hK63 ?_
   refine G.yes rfl ?_
   refine G.skipK hK61 (fun _ _ h => h) ?_
   refine G.seqK fun K64 hK65 => ?_
   refine G.block ?_
   refine G.sr fun K66 hK67 => ?_
   refine GL.r 5 5 [(2, pt p3 0), (4, pt p7 0), (5, pt p22 0), (6, li 1), (7, vi r), (8, li 2), (34, li 2), (38, pt p3 3)] ?_
   refine GL.s 6 (H56.ld (o := 3) (ty := 31) (v := vu (wd x 3)) 0 rfl (by kernel_rfl) rfl) [(2, pt p3 0), (4, pt p7 0), (5, pt p22 0), (6, li 1), (7, vi r), (8, li 2), (34, li 2), (39, vu (wd x 3))] ?_
   refine GL.r 7 1 [(2, pt p3 0), (4, pt p7 0), (5, pt p22 0), (6, li 1), (7, vi r), (8, li 2), (34, li 2), (39, vu (wd x 3)), (40, vi r)] ?_
   refine GL.s 8 (run_shrN (P := Try.prog) (k' := .i64) (t := 31) (a := (wd x 3)) (r := r) (by omega) _) [(2, pt p3 0), (4, pt p7 0), (5, pt p22 0), (6, li 1), (7, vi r), (8, li 2), (34, li 2), (41, vu ((wd x 3) / 2 ^ r))] ?_
   refine GL.r 9 1 [(2, pt p3 0), (4, pt p7 0), (5, pt p22 0), (6, li 1), (7, vi r), (8, li 2), (41, vu ((wd x 3) / 2 ^ r)), (42, pt p22 2)] ?_
   obtain ⟨w68, r69, H70⟩ := H56.st (P := Try.prog) (o := 2) (ty := 31) (v := vu ((wd x 3) / 2 ^ r)) 2 rfl (by kernel_rfl) (by simp) rfl
   refine GL.u 10 r69 [(2, pt p3 0), (4, pt p7 0), (5, pt p22 0), (6, li 1), (7, vi r), (8, li 2)] ?_
   refine GL.q hK67 ?_
   refine G.sr fun K71 hK72 => ?_
   refine GL.r 9 9 [(2, pt p3 0), (4, pt p7 0), (5, pt p22 0), (6, li 1), (7, vi r), (8, li 2), (51, .bool false)] ?_
   refine GL.q hK72 ?_
   refine G.no rfl ?_
   refine G.skipK hK65 (fun _ _ h => h) ?_
   refine G.region ?_
   refine GL.r 3 3 [(2, pt p3 0), (4, pt p7 0), (5, pt p22 0), (6, li 1), (7, vi r), (8, li 3)] ?_
   refine GL.round rfl ?_
   refine G.seqK fun K73 hK74 => ?_
   refine G.sr fun K75 hK76 => ?_
   refine GL.r 4 4 [(2, pt p3 0), (4, pt p7 0), (5, pt p22 0), (6, li 1), (7, vi r), (8, li 3), (31, .bool false)] ?_
   refine GL.q hK76 ?_
   refine G.no rfl ?_
   refine G.exitK hK29 (fun _ _ h => h) ?_
   refine G.sr fun K77 hK78 => ?_
   refine GL.s 1 (H70.ldA (o := 0) (ty := 33) (m := 4) (sub := [vu ((wd x 1) / 2 ^ r), vu ((wd x 2) / 2 ^ r), vu ((wd x 3) / 2 ^ r), lu 0]) 2 rfl (by kernel_rfl) rfl rfl) [(4, pt p7 0), (66, .agg #[vu ((wd x 1) / 2 ^ r), vu ((wd x 2) / 2 ^ r), vu ((wd x 3) / 2 ^ r), lu 0])] ?_
   obtain ⟨w79, r80, H81⟩ := H70.stA (P := Try.prog) (o := 0) (vs := [vu ((wd x 1) / 2 ^ r), vu ((wd x 2) / 2 ^ r), vu ((wd x 3) / 2 ^ r), lu 0]) (ty := 33) (m := 4) 1 rfl (by kernel_rfl) rfl (by first | decide | simp) (by simp [Value.oneCell'])
   refine GL.u 2 r80 [(4, pt p7 0)] ?_
   refine GL.q hK78 ?_
   refine G.ret fun F_ hF_ hM_ => hRet _ _ (bodyPost_1 rfl (RV.cell rfl (H81.ldA (o := 0) (ty := 33) (m := 4) (sub := [vu ((wd x 1) / 2 ^ r), vu ((wd x 2) / 2 ^ r), vu ((wd x 3) / 2 ^ r), lu 0]) 1 rfl (by kernel_rfl) rfl rfl)) ?_ F_ hF_ hM_)
   rw [← right_fin1' hx (show r = 0 by omega)]
   exact ⟨rfl, H81.sub (List.nil_sublist _)⟩
 · skip
   have hb45f := of_decide_eq_true hb45
   refine G.yes rfl ?_
   refine G.tail 14 (by kernel_rfl) (by kernel_rfl) ?_
   have H82 := H42.drew
   generalize ({ w40 with drawn := w40.drawn + 1 } : World) = w83 at H82 ⊢
   refine GS.r 2 2 [(2, pt p3 0), (4, pt p7 0), (5, pt p22 0), (6, li 1), (7, vi r), (8, li 0), (52, li 0), (53, pt p22 0)] ?_
   refine GS.s 3 (H82.ld (o := 0) (ty := 31) (v := vu ((wd x 1) / 2 ^ r)) 2 rfl (by kernel_rfl) rfl) [(2, pt p3 0), (4, pt p7 0), (5, pt p22 0), (6, li 1), (7, vi r), (8, li 0), (52, li 0), (54, vu ((wd x 1) / 2 ^ r))] ?_
   refine GS.r 8 5 [(2, pt p3 0), (4, pt p7 0), (5, pt p22 0), (6, li 1), (7, vi r), (8, li 0), (52, li 0), (54, vu ((wd x 1) / 2 ^ r)), (59, pt p3 2)] ?_
   refine GS.s 9 (H82.ld (o := 2) (ty := 31) (v := vu (wd x 2)) 0 rfl (by kernel_rfl) rfl) [(2, pt p3 0), (4, pt p7 0), (5, pt p22 0), (6, li 1), (7, vi r), (8, li 0), (52, li 0), (54, vu ((wd x 1) / 2 ^ r)), (60, vu (wd x 2))] ?_
   refine GS.r 11 2 [(2, pt p3 0), (4, pt p7 0), (5, pt p22 0), (6, li 1), (7, vi r), (8, li 0), (52, li 0), (54, vu ((wd x 1) / 2 ^ r)), (60, vu (wd x 2)), (62, li (IntKind.i64.wrap (64 - (r : Int))))] ?_
   have e84 : (IntKind.i64.wrap (64 - (r : Int))) = ((64 - r : Nat) : Int) := by rw [in_i64 (by omega)]; omega
   rw [e84]
   clear e84
   refine GS.s 12 (run_shlN (P := Try.prog) (k' := .i64) (t := 31) (a := (wd x 2)) (r := (64 - r)) (by omega) _) [(2, pt p3 0), (4, pt p7 0), (5, pt p22 0), (6, li 1), (7, vi r), (8, li 0), (52, li 0), (54, vu ((wd x 1) / 2 ^ r)), (63, vu ((wd x 2) * 2 ^ (64 - r) % K))] ?_
   refine GS.r 14 2 [(2, pt p3 0), (4, pt p7 0), (5, pt p22 0), (6, li 1), (7, vi r), (8, li 0), (64, lu (Go.bits .or .u64 (((wd x 1) / 2 ^ r : Nat) : Int) (((wd x 2) * 2 ^ (64 - r) % K : Nat) : Int))), (65, pt p22 0)] ?_
   have e85 : (Go.bits .or .u64 (((wd x 1) / 2 ^ r : Nat) : Int) (((wd x 2) * 2 ^ (64 - r) % K : Nat) : Int)) = (((wd x 1) / 2 ^ r + (wd x 2) * 2 ^ (64 - r) % K : Nat) : Int) := or_shiftR (wd_lt _ _) (by omega)
   rw [e85]
   clear e85
   refine GS.tail rfl ?_
   obtain ⟨w86, r87, H88⟩ := H82.st (P := Try.prog) (o := 0) (ty := 31) (v := vu ((wd x 1) / 2 ^ r + (wd x 2) * 2 ^ (64 - r) % K)) 2 rfl (by kernel_rfl) (by simp) rfl
   refine GL.u 15 r87 [(2, pt p3 0), (4, pt p7 0), (5, pt p22 0), (6, li 1), (7, vi r), (8, li 0)] ?_
   refine GL.q hK37 ?_
   refine G.region ?_
   refine GL.r 3 3 [(2, pt p3 0), (4, pt p7 0), (5, pt p22 0), (6, li 1), (7, vi r), (8, li 1)] ?_
   refine GL.round rfl ?_
   refine G.seqK fun K89 hK90 => ?_
   refine G.sr fun K91 hK92 => ?_
   refine GL.r 4 4 [(2, pt p3 0), (4, pt p7 0), (5, pt p22 0), (6, li 1), (7, vi r), (8, li 1), (31, .bool true)] ?_
   refine GL.q hK92 ?_
   refine G.yes rfl ?_
   refine G.skipK hK90 (fun _ _ h => h) ?_
   refine G.seqK fun K93 hK94 => ?_
   refine G.block ?_
   refine G.sr fun K95 hK96 => ?_
   refine GL.r 5 5 [(2, pt p3 0), (4, pt p7 0), (5, pt p22 0), (6, li 1), (7, vi r), (8, li 1), (34, li 1), (38, pt p3 2)] ?_
   refine GL.s 6 (H88.ld (o := 2) (ty := 31) (v := vu (wd x 2)) 0 rfl (by kernel_rfl) rfl) [(2, pt p3 0), (4, pt p7 0), (5, pt p22 0), (6, li 1), (7, vi r), (8, li 1), (34, li 1), (39, vu (wd x 2))] ?_
   refine GL.r 7 1 [(2, pt p3 0), (4, pt p7 0), (5, pt p22 0), (6, li 1), (7, vi r), (8, li 1), (34, li 1), (39, vu (wd x 2)), (40, vi r)] ?_
   refine GL.s 8 (run_shrN (P := Try.prog) (k' := .i64) (t := 31) (a := (wd x 2)) (r := r) (by omega) _) [(2, pt p3 0), (4, pt p7 0), (5, pt p22 0), (6, li 1), (7, vi r), (8, li 1), (34, li 1), (41, vu ((wd x 2) / 2 ^ r))] ?_
   refine GL.r 9 1 [(2, pt p3 0), (4, pt p7 0), (5, pt p22 0), (6, li 1), (7, vi r), (8, li 1), (41, vu ((wd x 2) / 2 ^ r)), (42, pt p22 1)] ?_
   obtain ⟨w97, r98, H99⟩ := H88.st (P := Try.prog) (o := 1) (ty := 31) (v := vu ((wd x 2) / 2 ^ r)) 2 rfl (by kernel_rfl) (by simp) rfl
   refine GL.u 10 r98 [(2, pt p3 0), (4, pt p7 0), (5, pt p22 0), (6, li 1), (7, vi r), (8, li 1)] ?_
   refine GL.q hK96 ?_
   refine G.sr fun K100 hK101 => ?_
   refine GL.r 9 9 [(2, pt p3 0), (4, pt p7 0), (5, pt p22 0), (6, li 1), (7, vi r), (8, li 1), (51, .bool (decide (0 < (r : Int))))] ?_
   refine GL.q hK101 ?_
   have hb102 : (decide (0 < (r : Int))) = true := by assumption
   rw [hb102]
   refine G.yes rfl ?_
   refine G.tail 14 (by kernel_rfl) (by kernel_rfl) ?_
   have H103 := H99.drew
   generalize ({ w97 with drawn := w97.drawn + 1 } : World) = w104 at H103 ⊢
   refine GS.r 2 2 [(2, pt p3 0), (4, pt p7 0), (5, pt p22 0), (6, li 1), (7, vi r), (8, li 1), (52, li 1), (53, pt p22 1)] ?_
   refine GS.s 3 (H103.ld (o := 1) (ty := 31) (v := vu ((wd x 2) / 2 ^ r)) 2 rfl (by kernel_rfl) rfl) [(2, pt p3 0), (4, pt p7 0), (5, pt p22 0), (6, li 1), (7, vi r), (8, li 1), (52, li 1), (54, vu ((wd x 2) / 2 ^ r))] ?_
   refine GS.r 8 5 [(2, pt p3 0), (4, pt p7 0), (5, pt p22 0), (6, li 1), (7, vi r), (8, li 1), (52, li 1), (54, vu ((wd x 2) / 2 ^ r)), (59, pt p3 3)] ?_
   refine GS.s 9 (H103.ld (o := 3) (ty := 31) (v := vu (wd x 3)) 0 rfl (by kernel_rfl) rfl) [(2, pt p3 0), (4, pt p7 0), (5, pt p22 0), (6, li 1), (7, vi r), (8, li 1), (52, li 1), (54, vu ((wd x 2) / 2 ^ r)), (60, vu (wd x 3))] ?_
   refine GS.r 11 2 [(2, pt p3 0), (4, pt p7 0), (5, pt p22 0), (6, li 1), (7, vi r), (8, li 1), (52, li 1), (54, vu ((wd x 2) / 2 ^ r)), (60, vu (wd x 3)), (62, li (IntKind.i64.wrap (64 - (r : Int))))] ?_
   have e105 : (IntKind.i64.wrap (64 - (r : Int))) = ((64 - r : Nat) : Int) := by rw [in_i64 (by omega)]; omega
   rw [e105]
   clear e105
   refine GS.s 12 (run_shlN (P := Try.prog) (k' := .i64) (t := 31) (a := (wd x 3)) (r := (64 - r)) (by omega) _) [(2, pt p3 0), (4, pt p7 0), (5, pt p22 0), (6, li 1), (7, vi r), (8, li 1), (52, li 1), (54, vu ((wd x 2) / 2 ^ r)), (63, vu ((wd x 3) * 2 ^ (64 - r) % K))] ?_
   refine GS.r 14 2 [(2, pt p3 0), (4, pt p7 0), (5, pt p22 0), (6, li 1), (7, vi r), (8, li 1), (64, lu (Go.bits .or .u64 (((wd x 2) / 2 ^ r : Nat) : Int) (((wd x 3) * 2 ^ (64 - r) % K : Nat) : Int))), (65, pt p22 1)] ?_
   have e106 : (Go.bits .or .u64 (((wd x 2) / 2 ^ r : Nat) : Int) (((wd x 3) * 2 ^ (64 - r) % K : Nat) : Int)) = (((wd x 2) / 2 ^ r + (wd x 3) * 2 ^ (64 - r) % K : Nat) : Int) := or_shiftR (wd_lt _ _) (by omega)
   rw [e106]
   clear e106
   refine GS.tail rfl ?_
   obtain ⟨w107, r108, H109⟩ := H103.st (P := Try.prog) (o := 1) (ty := 31) (v := vu ((wd x 2) / 2 ^ r + (wd x 3) * 2 ^ (64 - r) % K)) 2 rfl (by kernel_rfl) (by simp) rfl
   refine GL.u 15 r108 [(2, pt p3 0), (4, pt p7 0), (5, pt p22 0), (6, li 1), (7, vi r), (8, li 1)] ?_
   refine GL.q hK94 ?_
   refine G.region ?_
   refine GL.r 3 3 [(2, pt p3 0), (4, pt p7 0), (5, pt p22 0), (6, li 1), (7, vi r), (8, li 2)] ?_
   refine GL.round rfl ?_
   refine G.seqK fun K110 hK111 => ?_
   refine G.sr fun K112 hK113 => ?_
   refine GL.r 4 4 [(2, pt p3 0), (4, pt p7 0), (5, pt p22 0), (6, li 1), (7, vi r), (8, li 2), (31, .bool true)] ?_
   refine GL.q hK113 ?_
   refine G.yes rfl ?_
   refine G.skipK hK111 (fun _ _ h => h) ?_
   refine G.seqK fun K114 hK115 => ?_
   refine G.block ?_
   refine G.sr fun K116 hK117 => ?_
   refine GL.r 5 5 [(2, pt p3 0), (4, pt p7 0), (5, pt p22 0), (6, li 1), (7, vi r), (8, li 2), (34, li 2), (38, pt p3 3)] ?_
   refine GL.s 6 (H109.ld (o := 3) (ty := 31) (v := vu (wd x 3)) 0 rfl (by kernel_rfl) rfl) [(2, pt p3 0), (4, pt p7 0), (5, pt p22 0), (6, li 1), (7, vi r), (8, li 2), (34, li 2), (39, vu (wd x 3))] ?_
   refine GL.r 7 1 [(2, pt p3 0), (4, pt p7 0), (5, pt p22 0), (6, li 1), (7, vi r), (8, li 2), (34, li 2), (39, vu (wd x 3)), (40, vi r)] ?_
   refine GL.s 8 (run_shrN (P := Try.prog) (k' := .i64) (t := 31) (a := (wd x 3)) (r := r) (by omega) _) [(2, pt p3 0), (4, pt p7 0), (5, pt p22 0), (6, li 1), (7, vi r), (8, li 2), (34, li 2), (41, vu ((wd x 3) / 2 ^ r))] ?_
   refine GL.r 9 1 [(2, pt p3 0), (4, pt p7 0), (5, pt p22 0), (6, li 1), (7, vi r), (8, li 2), (41, vu ((wd x 3) / 2 ^ r)), (42, pt p22 2)] ?_
   obtain ⟨w118, r119, H120⟩ := H109.st (P := Try.prog) (o := 2) (ty := 31) (v := vu ((wd x 3) / 2 ^ r)) 2 rfl (by kernel_rfl) (by simp) rfl
   refine GL.u 10 r119 [(2, pt p3 0), (4, pt p7 0), (5, pt p22 0), (6, li 1), (7, vi r), (8, li 2)] ?_
   refine GL.q hK117 ?_
   refine G.sr fun K121 hK122 => ?_
   refine GL.r 9 9 [(2, pt p3 0), (4, pt p7 0), (5, pt p22 0), (6, li 1), (7, vi r), (8, li 2), (51, .bool false)] ?_
   refine GL.q hK122 ?_
   refine G.no rfl ?_
   refine G.skipK hK115 (fun _ _ h => h) ?_
   refine G.region ?_
   refine GL.r 3 3 [(2, pt p3 0), (4, pt p7 0), (5, pt p22 0), (6, li 1), (7, vi r), (8, li 3)] ?_
   refine GL.round rfl ?_
   refine G.seqK fun K123 hK124 => ?_
   refine G.sr fun K125 hK126 => ?_
   refine GL.r 4 4 [(2, pt p3 0), (4, pt p7 0), (5, pt p22 0), (6, li 1), (7, vi r), (8, li 3), (31, .bool false)] ?_
   refine GL.q hK126 ?_
   refine G.no rfl ?_
   refine G.exitK hK29 (fun _ _ h => h) ?_
   refine G.sr fun K127 hK128 => ?_
   refine GL.s 1 (H120.ldA (o := 0) (ty := 33) (m := 4) (sub := [vu ((wd x 1) / 2 ^ r + (wd x 2) * 2 ^ (64 - r) % K), vu ((wd x 2) / 2 ^ r + (wd x 3) * 2 ^ (64 - r) % K), vu ((wd x 3) / 2 ^ r), lu 0]) 2 rfl (by kernel_rfl) rfl rfl) [(4, pt p7 0), (66, .agg #[vu ((wd x 1) / 2 ^ r + (wd x 2) * 2 ^ (64 - r) % K), vu ((wd x 2) / 2 ^ r + (wd x 3) * 2 ^ (64 - r) % K), vu ((wd x 3) / 2 ^ r), lu 0])] ?_
   obtain ⟨w129, r130, H131⟩ := H120.stA (P := Try.prog) (o := 0) (vs := [vu ((wd x 1) / 2 ^ r + (wd x 2) * 2 ^ (64 - r) % K), vu ((wd x 2) / 2 ^ r + (wd x 3) * 2 ^ (64 - r) % K), vu ((wd x 3) / 2 ^ r), lu 0]) (ty := 33) (m := 4) 1 rfl (by kernel_rfl) rfl (by first | decide | simp) (by simp [Value.oneCell'])
   refine GL.u 2 r130 [(4, pt p7 0)] ?_
   refine GL.q hK128 ?_
   refine G.ret fun F_ hF_ hM_ => hRet _ _ (bodyPost_1 rfl (RV.cell rfl (H131.ldA (o := 0) (ty := 33) (m := 4) (sub := [vu ((wd x 1) / 2 ^ r + (wd x 2) * 2 ^ (64 - r) % K), vu ((wd x 2) / 2 ^ r + (wd x 3) * 2 ^ (64 - r) % K), vu ((wd x 3) / 2 ^ r), lu 0]) 1 rfl (by kernel_rfl) rfl rfl)) ?_ F_ hF_ hM_)
   rw [← right_fin1 hx (show r ≤ 64 by omega)]
   exact ⟨rfl, H131.sub (List.nil_sublist _)⟩
theorem Right_q2 (x r : Nat) (hx : x < K4) (hr : r < 64) (w : World) : Calls Try.prog 66 #[wv x, .int .i64 ((64 * 2 + r : Nat) : Int)] w fun e w' => e = .returned (wv (x / 2 ^ (64 * 2 + r))) ∧ Hp w [] [] w' := by
 refine calls_G (args := [wv x, vi (64 * 2 + r)]) Try.func66 rfl Try.ntmps66 rfl ?_
 intro Q0 hRet hNor hPan
 have H := Hp.start w
 refine G.sr fun K1 hK2 => ?_
 obtain ⟨p3, w4, r5, H6⟩ := H.box (P := Try.prog) 33 (wl x) (wv x) rfl
 refine GL.s 1 (r5) [(1, vi (64 * 2 + r)), (2, pt p3 0)] ?_
 obtain ⟨p7, w8, r9, H10⟩ := H6.alloc (P := Try.prog) 33 z4 (by kernel_rfl)
 refine GL.s 2 (r9) [(1, vi (64 * 2 + r)), (2, pt p3 0), (4, pt p7 0)] ?_
 refine GL.q hK2 ?_
 refine G.seqK fun K11 hK12 => ?_
 refine G.block ?_
 refine G.sr fun K13 hK14 => ?_
 refine GL.r 3 3 [(1, vi (64 * 2 + r)), (2, pt p3 0), (4, pt p7 0), (12, .bool (decide (((64 * 2 + r : Nat) : Int) ≤ (-256))))] ?_
 have hb15 : (decide (((64 * 2 + r : Nat) : Int) ≤ (-256))) = false := decide_eq_false (by omega)
 rw [hb15]
 refine GL.r 7 4 [(1, vi (64 * 2 + r)), (2, pt p3 0), (4, pt p7 0), (9, .bool (decide (256 ≤ ((64 * 2 + r : Nat) : Int))))] ?_
 refine GL.q hK14 ?_
 have hb16 : (decide (256 ≤ ((64 * 2 + r : Nat) : Int))) = false := decide_eq_false (by omega)
 rw [hb16]
 refine G.no rfl ?_
 refine G.sr fun K17 hK18 => ?_
 refine GL.r 3 3 [(1, vi (64 * 2 + r)), (2, pt p3 0), (4, pt p7 0), (17, .bool (decide (((64 * 2 + r : Nat) : Int) < 0)))] ?_
 refine GL.q hK18 ?_
 have hb19 : (decide (((64 * 2 + r : Nat) : Int) < 0)) = false := decide_eq_false (by omega)
 rw [hb19]
 refine G.no rfl ?_
 refine G.skipK hK12 (fun _ _ h => h) ?_
 refine G.sr fun K20 hK21 => ?_
 obtain ⟨p22, w23, r24, H25⟩ := H10.alloc (P := Try.prog) 33 z4 (by kernel_rfl)
 refine GL.s 1 (r24) [(1, vi (64 * 2 + r)), (2, pt p3 0), (4, pt p7 0), (5, pt p22 0)] ?_
 refine GL.q hK21 ?_
 refine G.sr fun K26 hK27 => ?_
 refine GL.r 1 1 [(1, vi (64 * 2 + r)), (2, pt p3 0), (4, pt p7 0), (5, pt p22 0), (24, vi (64 * 2 + r))] ?_
 refine GL.s 2 (run_quo64 (P := Try.prog) (t := 3) (n := (64 * 2 + r)) (q := 2) (r := r) (by omega) hr (by omega) _) [(1, vi (64 * 2 + r)), (2, pt p3 0), (4, pt p7 0), (5, pt p22 0), (25, li 2)] ?_
 refine GL.r 3 1 [(2, pt p3 0), (4, pt p7 0), (5, pt p22 0), (25, li 2), (26, vi (64 * 2 + r))] ?_
 refine GL.s 4 (run_rem64 (P := Try.prog) (t := 3) (n := (64 * 2 + r)) (q := 2) (r := r) (by omega) hr _) [(2, pt p3 0), (4, pt p7 0), (5, pt p22 0), (25, li 2), (27, vi r)] ?_
 refine GL.r 6 2 [(2, pt p3 0), (4, pt p7 0), (5, pt p22 0), (6, li 2), (7, vi r)] ?_
 refine GL.q hK27 ?_
 refine G.seqK fun K28 hK29 => ?_
 refine G.sr fun K30 hK31 => ?_
 refine GL.r 1 1 [(2, pt p3 0), (4, pt p7 0), (5, pt p22 0), (6, li 2), (7, vi r), (8, li 0)] ?_
 refine GL.q hK31 ?_
 refine G.block ?_
 refine G.unroll 5 ?_
 refine G.seqK fun K32 hK33 => ?_
 refine G.sr fun K34 hK35 => ?_
 refine GL.r 4 4 [(2, pt p3 0), (4, pt p7 0), (5, pt p22 0), (6, li 2), (7, vi r), (8, li 0), (31, .bool true)] ?_
 refine GL.q hK35 ?_
 refine G.yes rfl ?_
 refine G.skipK hK33 (fun _ _ h => h) ?_
 refine G.seqK fun K36 hK37 => ?_
 refine G.block ?_
 refine G.sr fun K38 hK39 => ?_
 refine GL.r 5 5 [(2, pt p3 0), (4, pt p7 0), (5, pt p22 0), (6, li 2), (7, vi r), (8, li 0), (34, li 0), (38, pt p3 2)] ?_
 refine GL.s 6 (H25.ld (o := 2) (ty := 31) (v := vu (wd x 2)) 0 rfl (by kernel_rfl) rfl) [(2, pt p3 0), (4, pt p7 0), (5, pt p22 0), (6, li 2), (7, vi r), (8, li 0), (34, li 0), (39, vu (wd x 2))] ?_
 refine GL.r 7 1 [(2, pt p3 0), (4, pt p7 0), (5, pt p22 0), (6, li 2), (7, vi r), (8, li 0), (34, li 0), (39, vu (wd x 2)), (40, vi r)] ?_
 refine GL.s 8 (run_shrN (P := Try.prog) (k' := .i64) (t := 31) (a := (wd x 2)) (r := r) (by omega) _) [(2, pt p3 0), (4, pt p7 0), (5, pt p22 0), (6, li 2), (7, vi r), (8, li 0), (34, li 0), (41, vu ((wd x 2) / 2 ^ r))] ?_
 refine GL.r 9 1 [(2, pt p3 0), (4, pt p7 0), (5, pt p22 0), (6, li 2), (7, vi r), (8, li 0), (41, vu ((wd x 2) / 2 ^ r)), (42, pt p22 0)] ?_
 obtain ⟨w40, r41, H42⟩ := H25.st (P := Try.prog) (o := 0) (ty := 31) (v := vu ((wd x 2) / 2 ^ r)) 2 rfl (by kernel_rfl) (by decide) rfl
 refine GL.u 10 r41 [(2, pt p3 0), (4, pt p7 0), (5, pt p22 0), (6, li 2), (7, vi r), (8, li 0)] ?_
 refine GL.q hK39 ?_
 refine G.sr fun K43 hK44 => ?_
 refine GL.r 9 9 [(2, pt p3 0), (4, pt p7 0), (5, pt p22 0), (6, li 2), (7, vi r), (8, li 0), (51, .bool (decide (0 < (r : Int))))] ?_
 refine GL.q hK44 ?_
 cases hb45 : (decide (0 < (r : Int)))
 · skip
   have hb45f := of_decide_eq_false hb45
   refine G.no rfl ?_
   refine G.skipK hK37 (fun _ _ h => h) ?_
   refine G.region ?_
   refine GL.r 3 3 [(2, pt p3 0), (4, pt p7 0), (5, pt p22 0), (6, li 2), (7, vi r), (8, li 1)] ?_
   refine GL.round rfl ?_
   refine G.seqK fun K46 hK47 => ?_
   refine G.sr fun K48 hK49 => ?_
   refine GL.r 4 4 [(2, pt p3 0), (4, pt p7 0), (5, pt p22 0), (6, li 2), (7, vi r), (8, li 1), (31, .bool true)] ?_
   refine GL.q hK49 ?_
   refine G.yes rfl ?_
   refine G.skipK hK47 (fun _ _ h => h) ?_
   refine G.seqK fun K50 hK51 => ?_
   refine G.block ?_
   refine G.sr fun K52 hK53 => ?_
   refine GL.r 5 5 [(2, pt p3 0), (4, pt p7 0), (5, pt p22 0), (6, li 2), (7, vi r), (8, li 1), (34, li 1), (38, pt p3 3)] ?_
   refine GL.s 6 (H42.ld (o := 3) (ty := 31) (v := vu (wd x 3)) 0 rfl (by kernel_rfl) rfl) [(2, pt p3 0), (4, pt p7 0), (5, pt p22 0), (6, li 2), (7, vi r), (8, li 1), (34, li 1), (39, vu (wd x 3))] ?_
   refine GL.r 7 1 [(2, pt p3 0), (4, pt p7 0), (5, pt p22 0), (6, li 2), (7, vi r), (8, li 1), (34, li 1), (39, vu (wd x 3)), (40, vi r)] ?_
   refine GL.s 8 (run_shrN (P := Try.prog) (k' := .i64) (t := 31) (a := (wd x 3)) (r := r) (by omega) _) [(2, pt p3 0), (4, pt p7 0), (5, pt p22 0), (6, li 2), (7, vi r), (8, li 1), (34, li 1), (41, vu ((wd x 3) / 2 ^ r))] ?_
   refine GL.r 9 1 [(2, pt p3 0), (4, pt p7 0), (5, pt p22 0), (6, li 2), (7, vi r), (8, li 1), (41, vu ((wd x 3) / 2 ^ r)), (42, pt p22 1)] ?_
   obtain ⟨w54, r55, H56⟩ := H42.st (P := Try.prog) (o := 1) (ty := 31) (v := vu ((wd x 3) / 2 ^ r)) 2 rfl (by kernel_rfl) (by simp) rfl
   refine GL.u 10 r55 [(2, pt p3 0), (4, pt p7 0), (5, pt p22 0), (6, li 2), (7, vi r), (8, li 1)] ?_
   refine GL.q hK53 ?_
   refine G.sr fun K57 hK58 => ?_
   refine GL.r 9 9 [(2, pt p3 0), (4, pt p7 0), (5, pt p22 0), (6, li 2), (7, vi r), (8, li 1), (51, .bool false)] ?_
   refine GL.q hK58 ?_
   refine G.no rfl ?_
   refine G.skipK hK51 (fun _ _ h => h) ?_
   refine G.region ?_
   refine GL.r 3 3 [(2, pt p3 0), (4, pt p7 0), (5, pt p22 0), (6, li 2), (7, vi r), (8, li 2)] ?_
   refine GL.round rfl ?_
   refine G.seqK fun K59 hK60 => ?_
   refine G.sr fun K61 hK62 => ?_
   refine GL.r 4 4 [(2, pt p3 0), (4, pt p7 0), (5, pt p22 0), (6, li 2), (7, vi r), (8, li 2), (31, .bool false)] ?_
   refine GL.q hK62 ?_
   refine G.no rfl ?_
   refine G.exitK hK29 (fun _ _ h => h) ?_
   refine G.sr fun K63 hK64 => ?_
   refine GL.s 1 (H56.ldA (o := 0) (ty := 33) (m := 4) (sub := [vu ((wd x 2) / 2 ^ r), vu ((wd x 3) / 2 ^ r), lu 0, lu 0]) 2 rfl (by kernel_rfl) rfl rfl) [(4, pt p7 0), (66, .agg #[vu ((wd x 2) / 2 ^ r), vu ((wd x 3) / 2 ^ r), lu 0, lu 0])] ?_
   obtain ⟨w65, r66, H67⟩ := H56.stA (P := Try.prog) (o := 0) (vs := [vu ((wd x 2) / 2 ^ r), vu ((wd x 3) / 2 ^ r), lu 0, lu 0]) (ty := 33) (m := 4) 1 rfl (by kernel_rfl) rfl (by first | decide | simp) (by simp [Value.oneCell'])
   refine GL.u 2 r66 [(4, pt p7 0)] ?_
   refine GL.q hK64 ?_
   refine G.ret fun F_ hF_ hM_ => hRet _ _ (bodyPost_1 rfl (RV.cell rfl (H67.ldA (o := 0) (ty := 33) (m := 4) (sub := [vu ((wd x 2) / 2 ^ r), vu ((wd x 3) / 2 ^ r), lu 0, lu 0]) 1 rfl (by kernel_rfl) rfl rfl)) ?_ F_ hF_ hM_)
   rw [← right_fin2' hx (show r = 0 by omega)]
   exact ⟨rfl, H67.sub (List.nil_sublist _)⟩
 · skip
   have hb45f := of_decide_eq_true hb45
   refine G.yes rfl ?_
   refine G.tail 14 (by kernel_rfl) (by kernel_rfl) ?_
   have H68 := H42.drew
   generalize ({ w40 with drawn := w40.drawn + 1 } : World) = w69 at H68 ⊢
   refine GS.r 2 2 [(2, pt p3 0), (4, pt p7 0), (5, pt p22 0), (6, li 2), (7, vi r), (8, li 0), (52, li 0), (53, pt p22 0)] ?_
   refine GS.s 3 (H68.ld (o := 0) (ty := 31) (v := vu ((wd x 2) / 2 ^ r)) 2 rfl (by kernel_rfl) rfl) [(2, pt p3 0), (4, pt p7 0), (5, pt p22 0), (6, li 2), (7, vi r), (8, li 0), (52, li 0), (54, vu ((wd x 2) / 2 ^ r))] ?_
   refine GS.r 8 5 [(2, pt p3 0), (4, pt p7 0), (5, pt p22 0), (6, li 2), (7, vi r), (8, li 0), (52, li 0), (54, vu ((wd x 2) / 2 ^ r)), (59, pt p3 3)] ?_
   refine GS.s 9 (H68.ld (o := 3) (ty := 31) (v := vu (wd x 3)) 0 rfl (by kernel_rfl) rfl) [(2, pt p3 0), (4, pt p7 0), (5, pt p22 0), (6, li 2), (7, vi r), (8, li 0), (52, li 0), (54, vu ((wd x 2) / 2 ^ r)), (60, vu (wd x 3))] ?_
   refine GS.r 11 2 [(2, pt p3 0), (4, pt p7 0), (5, pt p22 0), (6, li 2), (7, vi r), (8, li 0), (52, li 0), (54, vu ((wd x 2) / 2 ^ r)), (60, vu (wd x 3)), (62, li (IntKind.i64.wrap (64 - (r : Int))))] ?_
   have e70 : (IntKind.i64.wrap (64 - (r : Int))) = ((64 - r : Nat) : Int) := by rw [in_i64 (by omega)]; omega
   rw [e70]
   clear e70
   refine GS.s 12 (run_shlN (P := Try.prog) (k' := .i64) (t := 31) (a := (wd x 3)) (r := (64 - r)) (by omega) _) [(2, pt p3 0), (4, pt p7 0), (5, pt p22 0), (6, li 2), (7, vi r), (8, li 0), (52, li 0), (54, vu ((wd x 2) / 2 ^ r)), (63, vu ((wd x 3) * 2 ^ (64 - r) % K))] ?_
   refine GS.r 14 2 [(2, pt p3 0), (4, pt p7 0), (5, pt p22 0), (6, li 2), (7, vi r), (8, li 0), (64, lu (Go.bits .or .u64 (((wd x 2) / 2 ^ r : Nat) : Int) (((wd x 3) * 2 ^ (64 - r) % K : Nat) : Int))), (65, pt p22 0)] ?_
   have e71 : (Go.bits .or .u64 (((wd x 2) / 2 ^ r : Nat) : Int) (((wd x 3) * 2 ^ (64 - r) % K : Nat) : Int)) = (((wd x 2) / 2 ^ r + (wd x 3) * 2 ^ (64 - r) % K : Nat) : Int) := or_shiftR (wd_lt _ _) (by omega)
   rw [e71]
   clear e71
   refine GS.tail rfl ?_
   obtain ⟨w72, r73, H74⟩ := H68.st (P := Try.prog) (o := 0) (ty := 31) (v := vu ((wd x 2) / 2 ^ r + (wd x 3) * 2 ^ (64 - r) % K)) 2 rfl (by kernel_rfl) (by simp) rfl
   refine GL.u 15 r73 [(2, pt p3 0), (4, pt p7 0), (5, pt p22 0), (6, li 2), (7, vi r), (8, li 0)] ?_
   refine GL.q hK37 ?_
   refine G.region ?_
   refine GL.r 3 3 [(2, pt p3 0), (4, pt p7 0), (5, pt p22 0), (6, li 2), (7, vi r), (8, li 1)] ?_
   refine GL.round rfl ?_
   refine G.seqK fun K75 hK76 => ?_
   refine G.sr fun K77 hK78 => ?_
   refine GL.r 4 4 [(2, pt p3 0), (4, pt p7 0), (5, pt p22 0), (6, li 2), (7, vi r), (8, li 1), (31, .bool true)] ?_
   refine GL.q hK78 ?_
   refine G.yes rfl ?_
   refine G.skipK hK76 (fun _ _ h => h) ?_
   refine G.seqK fun K79 hK80 => ?_
   refine G.block ?_
   refine G.sr fun K81 hK82 => ?_
   refine GL.r 5 5 [(2, pt p3 0), (4, pt p7 0), (5, pt p22 0), (6, li 2), (7, vi r), (8, li 1), (34, li 1), (38, pt p3 3)] ?_
   refine GL.s 6 (H74.ld (o := 3) (ty := 31) (v := vu (wd x 3)) 0 rfl (by kernel_rfl) rfl) [(2, pt p3 0), (4, pt p7 0), (5, pt p22 0), (6, li 2), (7, vi r), (8, li 1), (34, li 1), (39, vu (wd x 3))] ?_
   refine GL.r 7 1 [(2, pt p3 0), (4, pt p7 0), (5, pt p22 0), (6, li 2), (7, vi r), (8, li 1), (34, li 1), (39, vu (wd x 3)), (40, vi r)] ?_
   refine GL.s 8 (run_shrN (P := Try.prog) (k' := .i64) (t := 31) (a := (wd x 3)) (r := r) (by omega) _) [(2, pt p3 0), (4, pt p7 0), (5, pt p22 0), (6, li 2), (7, vi r), (8, li 1), (34, li 1), (41, vu ((wd x 3) / 2 ^ r))] ?_
   refine GL.r 9 1 [(2, pt p3 0), (4, pt p7 0), (5, pt p22 0), (6, li 2), (7, vi r), (8, li 1), (41, vu ((wd x 3) / 2 ^ r)), (42, pt p22 1)] ?_
   obtain ⟨w83, r84, H85⟩ := H74.st (P := Try.prog) (o := 1) (ty := 31) (v := vu ((wd x 3) / 2 ^ r)) 2 rfl (by kernel_rfl) (by simp) rfl
   refine GL.u 10 r84 [(2, pt p3 0), (4, pt p7 0), (5, pt p22 0), (6, li 2), (7, vi r), (8, li 1)] ?_
   refine GL.q hK82 ?_
   refine G.sr fun K86 hK87 => ?_
   refine GL.r 9 9 [(2, pt p3 0), (4, pt p7 0), (5, pt p22 0), (6, li 2), (7, vi r), (8, li 1), (51, .bool false)] ?_
   refine GL.q hK87 ?_
   refine G.no rfl ?_
   refine G.skipK hK80 (fun _ _ h => h) ?_
   refine G.region ?_
   refine GL.r 3 3 [(2, pt p3 0), (4, pt p7 0), (5, pt p22 0), (6, li 2), (7, vi r), (8, li 2)] ?_
   refine GL.round rfl ?_
   refine G.seqK fun K88 hK89 => ?_
   refine G.sr fun K90 hK91 => ?_
   refine GL.r 4 4 [(2, pt p3 0), (4, pt p7 0), (5, pt p22 0), (6, li 2), (7, vi r), (8, li 2), (31, .bool false)] ?_
   refine GL.q hK91 ?_
   refine G.no rfl ?_
   refine G.exitK hK29 (fun _ _ h => h) ?_
   refine G.sr fun K92 hK93 => ?_
   refine GL.s 1 (H85.ldA (o := 0) (ty := 33) (m := 4) (sub := [vu ((wd x 2) / 2 ^ r + (wd x 3) * 2 ^ (64 - r) % K), vu ((wd x 3) / 2 ^ r), lu 0, lu 0]) 2 rfl (by kernel_rfl) rfl rfl) [(4, pt p7 0), (66, .agg #[vu ((wd x 2) / 2 ^ r + (wd x 3) * 2 ^ (64 - r) % K), vu ((wd x 3) / 2 ^ r), lu 0, lu 0])] ?_
   obtain ⟨w94, r95, H96⟩ := H85.stA (P := Try.prog) (o := 0) (vs := [vu ((wd x 2) / 2 ^ r + (wd x 3) * 2 ^ (64 - r) % K), vu ((wd x 3) / 2 ^ r), lu 0, lu 0]) (ty := 33) (m := 4) 1 rfl (by kernel_rfl) rfl (by first | decide | simp) (by simp [Value.oneCell'])
   refine GL.u 2 r95 [(4, pt p7 0)] ?_
   refine GL.q hK93 ?_
   refine G.ret fun F_ hF_ hM_ => hRet _ _ (bodyPost_1 rfl (RV.cell rfl (H96.ldA (o := 0) (ty := 33) (m := 4) (sub := [vu ((wd x 2) / 2 ^ r + (wd x 3) * 2 ^ (64 - r) % K), vu ((wd x 3) / 2 ^ r), lu 0, lu 0]) 1 rfl (by kernel_rfl) rfl rfl)) ?_ F_ hF_ hM_)
   rw [← right_fin2 hx (show r ≤ 64 by omega)]
   exact ⟨rfl, H96.sub (List.nil_sublist _)⟩
theorem Right_q3 (x r : Nat) (hx : x < K4) (hr : r < 64) (w : World) : Calls Try.prog 66 #[wv x, .int .i64 ((64 * 3 + r : Nat) : Int)] w fun e w' => e = .returned (wv (x / 2 ^ (64 * 3 + r))) ∧ Hp w [] [] w' := by
 refine calls_G (args := [wv x, vi (64 * 3 + r)]) Try.func66 rfl Try.ntmps66 rfl ?_
 intro Q0 hRet hNor hPan
 have H := Hp.start w
 refine G.sr fun K1 hK2 => ?_
 obtain ⟨p3, w4, r5, H6⟩ := H.box (P := Try.prog) 33 (wl x) (wv x) rfl
 refine GL.s 1 (r5) [(1, vi (64 * 3 + r)), (2, pt p3 0)] ?_
 obtain ⟨p7, w8, r9, H10⟩ := H6.alloc (P := Try.prog) 33 z4 (by kernel_rfl)
 refine GL.s 2 (r9) [(1, vi (64 * 3 + r)), (2, pt p3 0), (4, pt p7 0)] ?_
 refine GL.q hK2 ?_
 refine G.seqK fun K11 hK12 => ?_
 refine G.block ?_
 refine G.sr fun K13 hK14 => ?_
 refine GL.r 3 3 [(1, vi (64 * 3 + r)), (2, pt p3 0), (4, pt p7 0), (12, .bool (decide (((64 * 3 + r : Nat) : Int) ≤ (-256))))] ?_
 have hb15 : (decide (((64 * 3 + r : Nat) : Int) ≤ (-256))) = false := decide_eq_false (by omega)
 rw [hb15]
 refine GL.r 7 4 [(1, vi (64 * 3 + r)), (2, pt p3 0), (4, pt p7 0), (9, .bool (decide (256 ≤ ((64 * 3 + r : Nat) : Int))))] ?_
 refine GL.q hK14 ?_
 have hb16 : (decide (256 ≤ ((64 * 3 + r : Nat) : Int))) = false := decide_eq_false (by omega)
 rw [hb16]
 refine G.no rfl ?_
 refine G.sr fun K17 hK18 => ?_
 refine GL.r 3 3 [(1, vi (64 * 3 + r)), (2, pt p3 0), (4, pt p7 0), (17, .bool (decide (((64 * 3 + r : Nat) : Int) < 0)))] ?_
 refine GL.q hK18 ?_
 have hb19 : (decide (((64 * 3 + r : Nat) : Int) < 0)) = false := decide_eq_false (by omega)
 rw [hb19]
 refine G.no rfl ?_
 refine G.skipK hK12 (fun _ _ h => h) ?_
 refine G.sr fun K20 hK21 => ?_
 obtain ⟨p22, w23, r24, H25⟩ := H10.alloc (P := Try.prog) 33 z4 (by kernel_rfl)
 refine GL.s 1 (r24) [(1, vi (64 * 3 + r)), (2, pt p3 0), (4, pt p7 0), (5, pt p22 0)] ?_
 refine GL.q hK21 ?_
 refine G.sr fun K26 hK27 => ?_
 refine GL.r 1 1 [(1, vi (64 * 3 + r)), (2, pt p3 0), (4, pt p7 0), (5, pt p22 0), (24, vi (64 * 3 + r))] ?_
 refine GL.s 2 (run_quo64 (P := Try.prog) (t := 3) (n := (64 * 3 + r)) (q := 3) (r := r) (by omega) hr (by omega) _) [(1, vi (64 * 3 + r)), (2, pt p3 0), (4, pt p7 0), (5, pt p22 0), (25, li 3)] ?_
 refine GL.r 3 1 [(2, pt p3 0), (4, pt p7 0), (5, pt p22 0), (25, li 3), (26, vi (64 * 3 + r))] ?_
 refine GL.s 4 (run_rem64 (P := Try.prog) (t := 3) (n := (64 * 3 + r)) (q := 3) (r := r) (by omega) hr _) [(2, pt p3 0), (4, pt p7 0), (5, pt p22 0), (25, li 3), (27, vi r)] ?_
 refine GL.r 6 2 [(2, pt p3 0), (4, pt p7 0), (5, pt p22 0), (6, li 3), (7, vi r)] ?_
 refine GL.q hK27 ?_
 refine G.seqK fun K28 hK29 => ?_
 refine G.sr fun K30 hK31 => ?_
 refine GL.r 1 1 [(2, pt p3 0), (4, pt p7 0), (5, pt p22 0), (6, li 3), (7, vi r), (8, li 0)] ?_
 refine GL.q hK31 ?_
 refine G.block ?_
 refine G.unroll 5 ?_
 refine G.seqK fun K32 hK33 => ?_
 refine G.sr fun K34 hK35 => ?_
 refine GL.r 4 4 [(2, pt p3 0), (4, pt p7 0), (5, pt p22 0), (6, li 3), (7, vi r), (8, li 0), (31, .bool true)] ?_
 refine GL.q hK35 ?_
 refine G.yes rfl ?_
 refine G.skipK hK33 (fun _ _ h => h) ?_
 refine G.seqK fun K36 hK37 => ?_
 refine G.block ?_
 refine G.sr fun K38 hK39 => ?_
 refine GL.r 5 5 [(2, pt p3 0), (4, pt p7 0), (5, pt p22 0), (6, li 3), (7, vi r), (8, li 0), (34, li 0), (38, pt p3 3)] ?_
 refine GL.s 6 (H25.ld (o := 3) (ty := 31) (v := vu (wd x 3)) 0 rfl (by kernel_rfl) rfl) [(2, pt p3 0), (4, pt p7 0), (5, pt p22 0), (6, li 3), (7, vi r), (8, li 0), (34, li 0), (39, vu (wd x 3))] ?_
 refine GL.r 7 1 [(2, pt p3 0), (4, pt p7 0), (5, pt p22 0), (6, li 3), (7, vi r), (8, li 0), (34, li 0), (39, vu (wd x 3)), (40, vi r)] ?_
 refine GL.s 8 (run_shrN (P := Try.prog) (k' := .i64) (t := 31) (a := (wd x 3)) (r := r) (by omega) _) [(2, pt p3 0), (4, pt p7 0), (5, pt p22 0), (6, li 3), (7, vi r), (8, li 0), (34, li 0), (41, vu ((wd x 3) / 2 ^ r))] ?_
 refine GL.r 9 1 [(2, pt p3 0), (4, pt p7 0), (5, pt p22 0), (6, li 3), (7, vi r), (8, li 0), (41, vu ((wd x 3) / 2 ^ r)), (42, pt p22 0)] ?_
 obtain ⟨w40, r41, H42⟩ := H25.st (P := Try.prog) (o := 0) (ty := 31) (v := vu ((wd x 3) / 2 ^ r)) 2 rfl (by kernel_rfl) (by decide) rfl
 refine GL.u 10 r41 [(2, pt p3 0), (4, pt p7 0), (5, pt p22 0), (6, li 3), (7, vi r), (8, li 0)] ?_
 refine GL.q hK39 ?_
 refine G.sr fun K43 hK44 => ?_
 refine GL.r 9 9 [(2, pt p3 0), (4, pt p7 0), (5, pt p22 0), (6, li 3), (7, vi r), (8, li 0), (51, .bool false)] ?_
 refine GL.q hK44 ?_
 refine G.no rfl ?_
 refine G.skipK hK37 (fun _ _ h => h) ?_
 refine G.region ?_
 refine GL.r 3 3 [(2, pt p3 0), (4, pt p7 0), (5, pt p22 0), (6, li 3), (7, vi r), (8, li 1)] ?_
 refine GL.round rfl ?_
 refine G.seqK fun K45 hK46 => ?_
 refine G.sr fun K47 hK48 => ?_
 refine GL.r 4 4 [(2, pt p3 0), (4, pt p7 0), (5, pt p22 0), (6, li 3), (7, vi r), (8, li 1), (31, .bool false)] ?_
 refine GL.q hK48 ?_
 refine G.no rfl ?_
 refine G.exitK hK29 (fun _ _ h => h) ?_
 refine G.sr fun K49 hK50 => ?_
 refine GL.s 1 (H42.ldA (o := 0) (ty := 33) (m := 4) (sub := [vu ((wd x 3) / 2 ^ r), lu 0, lu 0, lu 0]) 2 rfl (by kernel_rfl) rfl rfl) [(4, pt p7 0), (66, .agg #[vu ((wd x 3) / 2 ^ r), lu 0, lu 0, lu 0])] ?_
 obtain ⟨w51, r52, H53⟩ := H42.stA (P := Try.prog) (o := 0) (vs := [vu ((wd x 3) / 2 ^ r), lu 0, lu 0, lu 0]) (ty := 33) (m := 4) 1 rfl (by kernel_rfl) rfl (by first | decide | simp) (by simp [Value.oneCell'])
 refine GL.u 2 r52 [(4, pt p7 0)] ?_
 refine GL.q hK50 ?_
 refine G.ret fun F_ hF_ hM_ => hRet _ _ (bodyPost_1 rfl (RV.cell rfl (H53.ldA (o := 0) (ty := 33) (m := 4) (sub := [vu ((wd x 3) / 2 ^ r), lu 0, lu 0, lu 0]) 1 rfl (by kernel_rfl) rfl rfl)) ?_ F_ hF_ hM_)
 rw [← right_fin3 hx (show r ≤ 64 by omega)]
 exact ⟨rfl, H53.sub (List.nil_sublist _)⟩
theorem Right_big (x n : Nat) (hn : 256 ≤ n) (w : World) : Calls Try.prog 66 #[wv x, .int .i64 (n : Int)] w fun e w' => e = .returned (wv 0) ∧ Hp w [] [] w' := by
 refine calls_G (args := [wv x, vi n]) Try.func66 rfl Try.ntmps66 rfl ?_
 intro Q0 hRet hNor hPan
 have H := Hp.start w
 refine G.sr fun K1 hK2 => ?_
 obtain ⟨p3, w4, r5, H6⟩ := H.box (P := Try.prog) 33 (wl x) (wv x) rfl
 refine GL.s 1 (r5) [(1, vi n), (2, pt p3 0)] ?_
 obtain ⟨p7, w8, r9, H10⟩ := H6.alloc (P := Try.prog) 33 z4 (by kernel_rfl)
 refine GL.s 2 (r9) [(1, vi n), (2, pt p3 0), (4, pt p7 0)] ?_
 refine GL.q hK2 ?_
 refine G.seqK fun K11 hK12 => ?_
 refine G.block ?_
 refine G.sr fun K13 hK14 => ?_
 refine GL.r 3 3 [(1, vi n), (2, pt p3 0), (4, pt p7 0), (12, .bool (decide ((n : Int) ≤ (-256))))] ?_
 have hb15 : (decide ((n : Int) ≤ (-256))) = false := decide_eq_false (by omega)
 rw [hb15]
 refine GL.r 7 4 [(1, vi n), (2, pt p3 0), (4, pt p7 0), (9, .bool (decide (256 ≤ (n : Int))))] ?_
 refine GL.q hK14 ?_
 have hb16 : (decide (256 ≤ (n : Int))) = true := decide_eq_true (by omega)
 rw [hb16]
 refine G.yes rfl ?_
 refine G.sr fun K17 hK18 => ?_
 refine GL.r 1 1 [(4, pt p7 0), (16, .agg #[lu 0, lu 0, lu 0, lu 0])] ?_
 obtain ⟨w19, r20, H21⟩ := H10.stA (P := Try.prog) (o := 0) (vs := z4) (ty := 33) (m := 4) 1 rfl (by kernel_rfl) rfl (by first | decide | simp) (z4_one)
 refine GL.u 2 r20 [(4, pt p7 0)] ?_
 refine GL.q hK18 ?_
 refine G.ret fun F_ hF_ hM_ => hRet _ _ (bodyPost_1 rfl (RV.cell rfl (H21.ldA (o := 0) (ty := 33) (m := 4) (sub := z4) 1 rfl (by kernel_rfl) rfl rfl)) ?_ F_ hF_ hM_)
 exact ⟨rfl, H21.sub (List.nil_sublist _)⟩
theorem Right_calls (x n : Nat) (hx : x < K4) (w : World) : Calls Try.prog 66 #[wv x, .int .i64 (n : Int)] w fun e w' => e = .returned (wv (x / 2 ^ n)) ∧ Hp w [] [] w' := by
 by_cases h : 256 ≤ n
 · rw [right_big hx h]
   exact Right_big x n h w
 · have hq : n / 64 = 0 ∨ n / 64 = 1 ∨ n / 64 = 2 ∨ n / 64 = 3 := by omega
   have hr : n % 64 < 64 := Nat.mod_lt _ (by decide)
   rcases hq with hq | hq | hq | hq
   · have := Right_q0 x (n % 64) hx hr w
     rwa [show 64 * 0 + n % 64 = n by omega] at this
   · have := Right_q1 x (n % 64) hx hr w
     rwa [show 64 * 1 + n % 64 = n by omega] at this
   · have := Right_q2 x (n % 64) hx hr w
     rwa [show 64 * 2 + n % 64 = n by omega] at this
   · have := Right_q3 x (n % 64) hx hr w
     rwa [show 64 * 3 + n % 64 = n by omega] at this
theorem Left_low (x n : Nat) (hn : 256 ≤ n) (w : World) : Calls Try.prog 53 #[wv x, .int .i64 (-(n : Int))] w fun e w' => e = .returned (wv 0) ∧ Hp w [] [] w' := by
 refine calls_G (args := [wv x, li (-(n : Int))]) Try.func53 rfl Try.ntmps53 rfl ?_
 intro Q0 hRet hNor hPan
 have H := Hp.start w
 refine G.sr fun K1 hK2 => ?_
 obtain ⟨p3, w4, r5, H6⟩ := H.box (P := Try.prog) 33 (wl x) (wv x) rfl
 refine GL.s 1 (r5) [(1, li (-(n : Int))), (2, pt p3 0)] ?_
 obtain ⟨p7, w8, r9, H10⟩ := H6.alloc (P := Try.prog) 33 z4 (by kernel_rfl)
 refine GL.s 2 (r9) [(1, li (-(n : Int))), (2, pt p3 0), (4, pt p7 0)] ?_
 refine GL.q hK2 ?_
 refine G.seqK fun K11 hK12 => ?_
 refine G.block ?_
 refine G.sr fun K13 hK14 => ?_
 refine GL.r 3 3 [(1, li (-(n : Int))), (2, pt p3 0), (4, pt p7 0), (12, .bool (decide ((-(n : Int)) ≤ (-256))))] ?_
 have hb15 : (decide ((-(n : Int)) ≤ (-256))) = true := decide_eq_true (by omega)
 rw [hb15]
 refine GL.r 7 4 [(1, li (-(n : Int))), (2, pt p3 0), (4, pt p7 0), (9, .bool true)] ?_
 refine GL.q hK14 ?_
 refine G.yes rfl ?_
 refine G.sr fun K16 hK17 => ?_
 refine GL.r 1 1 [(4, pt p7 0), (16, .agg #[lu 0, lu 0, lu 0, lu 0])] ?_
 obtain ⟨w18, r19, H20⟩ := H10.stA (P := Try.prog) (o := 0) (vs := z4) (ty := 33) (m := 4) 1 rfl (by kernel_rfl) rfl (by first | decide | simp) (z4_one)
 refine GL.u 2 r19 [(4, pt p7 0)] ?_
 refine GL.q hK17 ?_
 refine G.ret fun F_ hF_ hM_ => hRet _ _ (bodyPost_1 rfl (RV.cell rfl (H20.ldA (o := 0) (ty := 33) (m := 4) (sub := z4) 1 rfl (by kernel_rfl) rfl rfl)) ?_ F_ hF_ hM_)
 exact ⟨rfl, H20.sub (List.nil_sublist _)⟩
theorem Left_neg0 (x n : Nat) (hx : x < K4) (hn : 1 ≤ n) (hn2 : n < 256) (w : World) : Calls Try.prog 53 #[wv x, .int .i64 (-(n : Int))] w fun e w' => e = .returned (wv (x / 2 ^ n)) ∧ Hp w [] [] w' := by
 refine calls_G (args := [wv x, li (-(n : Int))]) Try.func53 rfl Try.ntmps53 rfl ?_
 intro Q0 hRet hNor hPan
 have H := Hp.start w
 refine G.sr fun K1 hK2 => ?_
 obtain ⟨p3, w4, r5, H6⟩ := H.box (P := Try.prog) 33 (wl x) (wv x) rfl
 refine GL.s 1 (r5) [(1, li (-(n : Int))), (2, pt p3 0)] ?_
 obtain ⟨p7, w8, r9, H10⟩ := H6.alloc (P := Try.prog) 33 z4 (by kernel_rfl)
 refine GL.s 2 (r9) [(1, li (-(n : Int))), (2, pt p3 0), (4, pt p7 0)] ?_
 refine GL.q hK2 ?_
 refine G.seqK fun K11 hK12 => ?_
 refine G.block ?_
 refine G.sr fun K13 hK14 => ?_
 refine GL.r 3 3 [(1, li (-(n : Int))), (2, pt p3 0), (4, pt p7 0), (12, .bool (decide ((-(n : Int)) ≤ (-256))))] ?_
 have hb15 : (decide ((-(n : Int)) ≤ (-256))) = false := decide_eq_false (by omega)
 rw [hb15]
 refine GL.r 7 4 [(1, li (-(n : Int))), (2, pt p3 0), (4, pt p7 0), (9, .bool (decide (256 ≤ (-(n : Int)))))] ?_
 refine GL.q hK14 ?_
 have hb16 : (decide (256 ≤ (-(n : Int)))) = false := decide_eq_false (by omega)
 rw [hb16]
 refine G.no rfl ?_
 refine G.sr fun K17 hK18 => ?_
 refine GL.r 3 3 [(1, li (-(n : Int))), (2, pt p3 0), (4, pt p7 0), (17, .bool (decide ((-(n : Int)) < 0)))] ?_
 refine GL.q hK18 ?_
 have hb19 : (decide ((-(n : Int)) < 0)) = true := decide_eq_true (by omega)
 rw [hb19]
 refine G.yes rfl ?_
 refine G.sr fun K20 hK21 => ?_
 refine GL.s 1 (H10.ldA (o := 0) (ty := 33) (m := 4) (sub := (wl x)) 0 rfl (by kernel_rfl) rfl rfl) [(1, li (-(n : Int))), (4, pt p7 0), (20, wv x)] ?_
 refine GL.r 3 2 [(4, pt p7 0), (20, wv x), (22, li (IntKind.i64.wrap (0 - (-(n : Int)))))] ?_
 have e22 : (IntKind.i64.wrap (0 - (-(n : Int)))) = (n : Int) := by rw [in_i64 (by omega)]; omega
 rw [e22]
 clear e22
 refine GL.call (j := 4) (Right_calls x n hx w8) (by kernel_rfl) rfl (fun e_ w23 hR => ?_)
 obtain ⟨rfl, H25⟩ := hR
 have H24 : Hp w [] [.blk p3 (wl x) 33, .blk p7 z4 33] w23 := H10.callNil H25
 refine ⟨_, rfl, [4, 23], [(4, pt p7 0), (23, wv (x / 2 ^ n))], by kernel_rfl, ?_⟩
 obtain ⟨w26, r27, H28⟩ := H24.stA (P := Try.prog) (o := 0) (vs := (wl (x / 2 ^ n))) (ty := 33) (m := 4) 1 rfl (by kernel_rfl) rfl (by first | decide | simp) (wl_one _)
 refine GL.u 5 r27 [(4, pt p7 0)] ?_
 refine GL.q hK21 ?_
 refine G.ret fun F_ hF_ hM_ => hRet _ _ (bodyPost_1 rfl (RV.cell rfl (H28.ldA (o := 0) (ty := 33) (m := 4) (sub := (wl (x / 2 ^ n))) 1 rfl (by kernel_rfl) rfl rfl)) ?_ F_ hF_ hM_)
 exact ⟨rfl, H28.sub (List.nil_sublist _)⟩
theorem Left_neg (x n : Nat) (hx : x < K4) (hn : 1 ≤ n) (w : World) : Calls Try.prog 53 #[wv x, .int .i64 (-(n : Int))] w fun e w' => e = .returned (wv (x / 2 ^ n)) ∧ Hp w [] [] w' := by
 by_cases h : 256 ≤ n
 · rw [right_big hx h]
   exact Left_low x n h w
 · exact Left_neg0 x n hx hn (by omega) w
end Go.Proofs.Ytdepaaphgfapjaa
set_option maxRecDepth 100000
namespace Go.Proofs.Ytdepaaphgfapjaa
open Go.RowKit
theorem Decode_small (b : Nat) (hb : b < 4294967296) (hX : ¬ 3 ≤ b / 16777216) (w : World) : Calls Try.prog 33 #[.int .u32 (b : Int)] w fun e w' => e = .returned (.tuple #[wv (decR b), .int .i64 ((decE b : Nat) : Int)]) ∧ Hp w [] [] w' := by
 have hMX : MX = 4611686018427387904 := rfl
 have hK0 : K = 18446744073709551616 := rfl
 have hK40 : K4 = 115792089237316195423570985008687907853269984665640564039457584007913129639936 := rfl
 have hbl := bl_le (k := 23) (show b % 8388608 < 2 ^ 23 from Nat.mod_lt _ (by decide))
 refine calls_G (args := [vw b]) Try.func33 rfl Try.ntmps33 rfl ?_
 intro Q0 hRet hNor hPan
 have H := Hp.start w
 refine G.sr fun K1 hK2 => ?_
 obtain ⟨p3, w4, r5, H6⟩ := H.alloc (P := Try.prog) 33 z4 (by kernel_rfl)
 refine GL.s 1 (r5) [(0, vw b), (2, pt p3 0)] ?_
 refine GL.r 2 1 [(0, vw b), (2, pt p3 0)] ?_
 refine GL.q hK2 ?_
 refine G.sr fun K7 hK8 => ?_
 refine GL.r 6 6 [(0, vw b), (2, pt p3 0), (9, li (IntKind.i64.wrap (Int.fdiv (b : Int) (2 ^ 24)))), (12, lu (IntKind.u64.wrap (Go.bits .and .u32 (b : Int) 8388607)))] ?_
 have e9 : (Int.fdiv (b : Int) (2 ^ 24)) = ((b / 16777216 : Nat) : Int) := n_shr b 24
 have e10 : (IntKind.i64.wrap ((b / 16777216 : Nat) : Int)) = ((b / 16777216 : Nat) : Int) := in_i64 (by omega)
 have e11 : (Go.bits .and .u32 (b : Int) 8388607) = ((b % 8388608 : Nat) : Int) := u32_and23 hb
 have e12 : (IntKind.u64.wrap ((b % 8388608 : Nat) : Int)) = ((b % 8388608 : Nat) : Int) := in_u64 (by omega)
 rw [e9, e10, e11, e12]
 clear e9 e10 e11 e12
 refine GL.call (j := 7) (Of_calls (b % 8388608) (show b % 8388608 < K from Nat.lt_trans (Nat.mod_lt _ (by decide : 0 < 8388608)) (by decide)) w4) (by kernel_rfl) rfl (fun e_ w13 hR => ?_)
 obtain ⟨he_, H15⟩ := hR
 obtain ⟨n16, hn17⟩ : ∃ v : Nat, v = b % 8388608 := ⟨_, rfl⟩
 rw [← hn17] at he_
 have n16l : n16 < K4 := by rw [hn17]; exact Nat.lt_trans (show b % 8388608 < K from Nat.lt_trans (Nat.mod_lt _ (by decide : 0 < 8388608)) (by decide)) (by decide)
 subst he_
 have H14 : Hp w [] [.blk p3 z4 33] w13 := H6.callNil H15
 refine ⟨_, rfl, [0, 2, 9, 13], [(0, vw b), (2, pt p3 0), (9, vi (b / 16777216)), (13, wv n16)], by kernel_rfl, ?_⟩
 obtain ⟨p18, w19, r20, H21⟩ := H14.alloc (P := Try.prog) 33 z4 (by kernel_rfl)
 refine GL.s 8 (r20) [(0, vw b), (2, pt p3 0), (5, pt p18 0), (9, vi (b / 16777216)), (13, wv n16)] ?_
 refine GL.r 9 1 [(0, vw b), (2, pt p3 0), (4, vi (b / 16777216)), (5, pt p18 0), (13, wv n16)] ?_
 obtain ⟨w22, r23, H24⟩ := H21.stA (P := Try.prog) (o := 0) (vs := (wl n16)) (ty := 33) (m := 4) 1 rfl (by kernel_rfl) rfl (by first | decide | simp) (wl_one _)
 refine GL.u 10 r23 [(0, vw b), (2, pt p3 0), (4, vi (b / 16777216)), (5, pt p18 0)] ?_
 refine GL.q hK8 ?_
 refine G.seqK fun K25 hK26 => ?_
 refine G.sr fun K27 hK28 => ?_
 refine GL.r 4 4 [(2, pt p3 0), (4, vi (b / 16777216)), (5, pt p18 0), (17, .bool ((Go.bits .and .u32 (b : Int) 8388608) != 0))] ?_
 have e29 : (Go.bits .and .u32 (b : Int) 8388608) = ((b / 8388608 % 2 * 8388608 : Nat) : Int) := u32_bit23 hb
 rw [e29]
 clear e29
 cases hb30 : (((b / 8388608 % 2 * 8388608 : Nat) : Int) != 0)
 · skip
   have hb30f : ((b / 8388608 % 2 * 8388608 : Nat) : Int) = 0 := bne_eq_false_iff_eq.1 hb30
   refine GL.r 8 4 [(2, pt p3 0), (4, vi (b / 16777216)), (5, pt p18 0), (21, .bool false)] ?_
   refine GL.q hK28 ?_
   refine G.no rfl ?_
   refine G.skipK hK26 (fun _ _ h => h) ?_
   refine G.seqK fun K31 hK32 => ?_
   refine G.sr fun K33 hK34 => ?_
   refine GL.r 3 3 [(2, pt p3 0), (4, vi (b / 16777216)), (5, pt p18 0), (25, .bool (decide (3 < ((b / 16777216 : Nat) : Int))))] ?_
   cases hb35 : (decide (3 < ((b / 16777216 : Nat) : Int)))
   · skip
     have hb35f := of_decide_eq_false hb35
     refine GL.r 11 8 [(2, pt p3 0), (4, vi (b / 16777216)), (5, pt p18 0), (33, .bool false)] ?_
     refine GL.q hK34 ?_
     refine G.no rfl ?_
     refine G.skipK hK32 (fun _ _ h => h) ?_
     refine G.sr fun K36 hK37 => ?_
     refine GL.s 1 (H24.ldA (o := 0) (ty := 33) (m := 4) (sub := (wl n16)) 1 rfl (by kernel_rfl) rfl rfl) [(2, pt p3 0), (4, vi (b / 16777216)), (35, wv n16)] ?_
     refine GL.r 4 3 [(2, pt p3 0), (35, wv n16), (38, li (IntKind.i64.wrap (8 * (IntKind.i64.wrap (((b / 16777216 : Nat) : Int) - 3)))))] ?_
     have e38 : (IntKind.i64.wrap (((b / 16777216 : Nat) : Int) - 3)) = (-((3 - b / 16777216 : Nat) : Int)) := by rw [in_i64 (by omega)]; omega
     have e39 : (IntKind.i64.wrap (8 * (-((3 - b / 16777216 : Nat) : Int)))) = (-((8 * (3 - b / 16777216) : Nat) : Int)) := by rw [in_i64 (by omega)]; omega
     rw [e38, e39]
     clear e38 e39
     refine GL.call (j := 5) (Left_neg n16 (8 * (3 - b / 16777216)) n16l (by omega) w22) (by kernel_rfl) rfl (fun e_ w40 hR => ?_)
     obtain ⟨rfl, H42⟩ := hR
     have H41 : Hp w [] [.blk p3 z4 33, .blk p18 (wl n16) 33] w40 := H24.callNil H42
     refine ⟨_, rfl, [2, 39], [(2, pt p3 0), (39, wv (n16 / 2 ^ (8 * (3 - b / 16777216))))], by kernel_rfl, ?_⟩
     obtain ⟨p43, w44, r45, H46⟩ := H41.alloc (P := Try.prog) 33 z4 (by kernel_rfl)
     refine GL.s 6 (r45) [(2, pt p3 0), (6, pt p43 0), (39, wv (n16 / 2 ^ (8 * (3 - b / 16777216))))] ?_
     obtain ⟨w47, r48, H49⟩ := H46.stA (P := Try.prog) (o := 0) (vs := (wl (n16 / 2 ^ (8 * (3 - b / 16777216))))) (ty := 33) (m := 4) 2 rfl (by kernel_rfl) rfl (by first | decide | simp) (wl_one _)
     refine GL.u 7 r48 [(2, pt p3 0), (6, pt p43 0)] ?_
     refine GL.q hK37 ?_
     refine G.seqK fun K50 hK51 => ?_
     refine G.sr fun K52 hK53 => ?_
     refine GL.s 1 (H49.ldA (o := 0) (ty := 33) (m := 4) (sub := (wl (n16 / 2 ^ (8 * (3 - b / 16777216))))) 2 rfl (by kernel_rfl) rfl rfl) [(2, pt p3 0), (6, pt p43 0), (40, wv (n16 / 2 ^ (8 * (3 - b / 16777216))))] ?_
     refine GL.r 2 1 [(2, pt p3 0), (6, pt p43 0), (40, wv (n16 / 2 ^ (8 * (3 - b / 16777216)))), (41, .agg #[lu 0, lu 0, lu 0, lu 0])] ?_
     refine GL.s 3 (run_arr_eql (P := Try.prog) (t := 33) (n := 4) (k := .u64) (x := (.tmp 40)) (y := (.tmp 41)) (by kernel_rfl) [(wd (n16 / 2 ^ (8 * (3 - b / 16777216))) 0 : Int), (wd (n16 / 2 ^ (8 * (3 - b / 16777216))) 1 : Int), (wd (n16 / 2 ^ (8 * (3 - b / 16777216))) 2 : Int), (wd (n16 / 2 ^ (8 * (3 - b / 16777216))) 3 : Int)] [0, 0, 0, 0] rfl rfl _) [(2, pt p3 0), (6, pt p43 0), (42, .bool (decide (([(wd (n16 / 2 ^ (8 * (3 - b / 16777216))) 0 : Int), (wd (n16 / 2 ^ (8 * (3 - b / 16777216))) 1 : Int), (wd (n16 / 2 ^ (8 * (3 - b / 16777216))) 2 : Int), (wd (n16 / 2 ^ (8 * (3 - b / 16777216))) 3 : Int)] : List Int) = [0, 0, 0, 0])))] ?_
     refine GL.q hK53 ?_
     cases hb54 : (decide (([(wd (n16 / 2 ^ (8 * (3 - b / 16777216))) 0 : Int), (wd (n16 / 2 ^ (8 * (3 - b / 16777216))) 1 : Int), (wd (n16 / 2 ^ (8 * (3 - b / 16777216))) 2 : Int), (wd (n16 / 2 ^ (8 * (3 - b / 16777216))) 3 : Int)] : List Int) = [0, 0, 0, 0]))
     · skip
       have hb54f := of_decide_eq_false hb54
       have hz : (n16 / 2 ^ (8 * (3 - b / 16777216))) ≠ 0 := fun h => hb54f ((wv_eq (y := 0) (Nat.lt_of_le_of_lt (Nat.div_le_self _ _) n16l) (by decide)).2 h)
       have hT : decT b = (n16 / 2 ^ (8 * (3 - b / 16777216))) := by rw [decT, if_neg (by omega), ← hn17]
       refine G.no rfl ?_
       refine G.skipK hK51 (fun _ _ h => h) ?_
       refine G.sr fun K55 hK56 => ?_
       refine GL.s 1 (H49.ldA (o := 0) (ty := 33) (m := 4) (sub := (wl (n16 / 2 ^ (8 * (3 - b / 16777216))))) 2 rfl (by kernel_rfl) rfl rfl) [(2, pt p3 0), (44, wv (n16 / 2 ^ (8 * (3 - b / 16777216))))] ?_
       obtain ⟨w57, r58, H59⟩ := H49.stA (P := Try.prog) (o := 0) (vs := (wl (n16 / 2 ^ (8 * (3 - b / 16777216))))) (ty := 33) (m := 4) 0 rfl (by kernel_rfl) rfl (by first | decide | simp) (wl_one _)
       refine GL.u 2 r58 [(2, pt p3 0)] ?_
       refine GL.r 3 1 [(2, pt p3 0), (3, li 0)] ?_
       refine GL.q hK56 ?_
       refine G.ret fun F_ hF_ hM_ => hRet _ _ (bodyPost_2 rfl (RV.cell rfl (H59.ldA (o := 0) (ty := 33) (m := 4) (sub := (wl (n16 / 2 ^ (8 * (3 - b / 16777216))))) 0 rfl (by kernel_rfl) rfl rfl)) (RV.tmp rfl) ?_ F_ hF_ hM_)
       have cE : decE b = 0 := by rw [decE, if_neg (by omega), if_neg (by omega), if_neg (by rw [hT]; exact hz)]
       have cR : decR b = (n16 / 2 ^ (8 * (3 - b / 16777216))) := by rw [decR, if_pos cE, hT]
       rw [cE, cR]
       exact ⟨rfl, H59.sub (List.nil_sublist _)⟩
     · skip
       have hb54f := of_decide_eq_true hb54
       have hz : (n16 / 2 ^ (8 * (3 - b / 16777216))) = 0 := (wv_eq (y := 0) (Nat.lt_of_le_of_lt (Nat.div_le_self _ _) n16l) (by decide)).1 hb54f
       have hT : decT b = (n16 / 2 ^ (8 * (3 - b / 16777216))) := by rw [decT, if_neg (by omega), ← hn17]
       refine G.yes rfl ?_
       refine G.sr fun K60 hK61 => ?_
       refine GL.s 1 (H49.ldA (o := 0) (ty := 33) (m := 4) (sub := (wl (n16 / 2 ^ (8 * (3 - b / 16777216))))) 2 rfl (by kernel_rfl) rfl rfl) [(2, pt p3 0), (43, wv (n16 / 2 ^ (8 * (3 - b / 16777216))))] ?_
       obtain ⟨w62, r63, H64⟩ := H49.stA (P := Try.prog) (o := 0) (vs := (wl (n16 / 2 ^ (8 * (3 - b / 16777216))))) (ty := 33) (m := 4) 0 rfl (by kernel_rfl) rfl (by first | decide | simp) (wl_one _)
       refine GL.u 2 r63 [(2, pt p3 0)] ?_
       refine GL.r 3 1 [(2, pt p3 0), (3, li 6)] ?_
       refine GL.q hK61 ?_
       refine G.ret fun F_ hF_ hM_ => hRet _ _ (bodyPost_2 rfl (RV.cell rfl (H64.ldA (o := 0) (ty := 33) (m := 4) (sub := (wl (n16 / 2 ^ (8 * (3 - b / 16777216))))) 0 rfl (by kernel_rfl) rfl rfl)) (RV.tmp rfl) ?_ F_ hF_ hM_)
       have cE : decE b = 6 := by
         rw [decE, if_neg (by omega), if_neg (by omega), if_pos (by rw [hT]; exact hz)]
       have cR : decR b = 0 := by rw [decR, if_neg (by omega)]
       rw [show (n16 / 2 ^ (8 * (3 - b / 16777216))) = 0 from hz]
       rw [cE, cR]
       exact ⟨rfl, H64.sub (List.nil_sublist _)⟩
   · skip
     have hb35f := of_decide_eq_true hb35
     refine GL.s 4 (H24.ldA (o := 0) (ty := 33) (m := 4) (sub := (wl n16)) 1 rfl (by kernel_rfl) rfl rfl) [(2, pt p3 0), (4, vi (b / 16777216)), (5, pt p18 0), (25, .bool true), (26, wv n16)] ?_
     have hbm : bl n16 ≤ 23 := by rw [hn17]; exact hbl
     refine GL.call (j := 5) (Bits_calls n16 n16l w22) (by kernel_rfl) rfl (fun e_ w65 hR => ?_)
     obtain ⟨he_, H67⟩ := hR
     subst he_
     have H66 : Hp w [] [.blk p3 z4 33, .blk p18 (wl n16) 33] w65 := H24.callNil H67
     refine ⟨_, rfl, [2, 4, 5, 25, 27], [(2, pt p3 0), (4, vi (b / 16777216)), (5, pt p18 0), (25, .bool true), (27, vi (bl n16))], by kernel_rfl, ?_⟩
     refine GL.r 11 6 [(2, pt p3 0), (4, vi (b / 16777216)), (5, pt p18 0), (33, .bool (decide (256 < (IntKind.i64.wrap (((bl n16 : Nat) : Int) + (IntKind.i64.wrap (8 * (IntKind.i64.wrap (((b / 16777216 : Nat) : Int) - 3)))))))))] ?_
     have e68 : (IntKind.i64.wrap (((b / 16777216 : Nat) : Int) - 3)) = (-((3 - b / 16777216 : Nat) : Int)) := by rw [in_i64 (by omega)]; omega
     have e69 : (IntKind.i64.wrap (8 * (-((3 - b / 16777216 : Nat) : Int)))) = (-((8 * (3 - b / 16777216) : Nat) : Int)) := by rw [in_i64 (by omega)]; omega
     have e70 : (IntKind.i64.wrap (((bl n16 : Nat) : Int) + (-((8 * (3 - b / 16777216) : Nat) : Int)))) = (((bl n16 : Nat) : Int) + (-((8 * (3 - b / 16777216) : Nat) : Int))) := in_i64 (by omega)
     rw [e68, e69, e70]
     clear e68 e69 e70
     refine GL.q hK34 ?_
     cases hb71 : (decide (256 < (((bl n16 : Nat) : Int) + (-((8 * (3 - b / 16777216) : Nat) : Int)))))
     · skip
       have hb71f := of_decide_eq_false hb71
       have hbn : bl n16 = bl (b % 8388608) := by rw [hn17]
       refine G.no rfl ?_
       refine G.skipK hK32 (fun _ _ h => h) ?_
       refine G.sr fun K72 hK73 => ?_
       refine GL.s 1 (H66.ldA (o := 0) (ty := 33) (m := 4) (sub := (wl n16)) 1 rfl (by kernel_rfl) rfl rfl) [(2, pt p3 0), (4, vi (b / 16777216)), (35, wv n16)] ?_
       refine GL.r 4 3 [(2, pt p3 0), (35, wv n16), (38, li (IntKind.i64.wrap (8 * (IntKind.i64.wrap (((b / 16777216 : Nat) : Int) - 3)))))] ?_
       have e74 : (IntKind.i64.wrap (((b / 16777216 : Nat) : Int) - 3)) = (-((3 - b / 16777216 : Nat) : Int)) := by rw [in_i64 (by omega)]; omega
       have e75 : (IntKind.i64.wrap (8 * (-((3 - b / 16777216 : Nat) : Int)))) = (-((8 * (3 - b / 16777216) : Nat) : Int)) := by rw [in_i64 (by omega)]; omega
       rw [e74, e75]
       clear e74 e75
       refine GL.call (j := 5) (Left_neg n16 (8 * (3 - b / 16777216)) n16l (by omega) w65) (by kernel_rfl) rfl (fun e_ w76 hR => ?_)
       obtain ⟨rfl, H78⟩ := hR
       have H77 : Hp w [] [.blk p3 z4 33, .blk p18 (wl n16) 33] w76 := H66.callNil H78
       refine ⟨_, rfl, [2, 39], [(2, pt p3 0), (39, wv (n16 / 2 ^ (8 * (3 - b / 16777216))))], by kernel_rfl, ?_⟩
       obtain ⟨p79, w80, r81, H82⟩ := H77.alloc (P := Try.prog) 33 z4 (by kernel_rfl)
       refine GL.s 6 (r81) [(2, pt p3 0), (6, pt p79 0), (39, wv (n16 / 2 ^ (8 * (3 - b / 16777216))))] ?_
       obtain ⟨w83, r84, H85⟩ := H82.stA (P := Try.prog) (o := 0) (vs := (wl (n16 / 2 ^ (8 * (3 - b / 16777216))))) (ty := 33) (m := 4) 2 rfl (by kernel_rfl) rfl (by first | decide | simp) (wl_one _)
       refine GL.u 7 r84 [(2, pt p3 0), (6, pt p79 0)] ?_
       refine GL.q hK73 ?_
       refine G.seqK fun K86 hK87 => ?_
       refine G.sr fun K88 hK89 => ?_
       refine GL.s 1 (H85.ldA (o := 0) (ty := 33) (m := 4) (sub := (wl (n16 / 2 ^ (8 * (3 - b / 16777216))))) 2 rfl (by kernel_rfl) rfl rfl) [(2, pt p3 0), (6, pt p79 0), (40, wv (n16 / 2 ^ (8 * (3 - b / 16777216))))] ?_
       refine GL.r 2 1 [(2, pt p3 0), (6, pt p79 0), (40, wv (n16 / 2 ^ (8 * (3 - b / 16777216)))), (41, .agg #[lu 0, lu 0, lu 0, lu 0])] ?_
       refine GL.s 3 (run_arr_eql (P := Try.prog) (t := 33) (n := 4) (k := .u64) (x := (.tmp 40)) (y := (.tmp 41)) (by kernel_rfl) [(wd (n16 / 2 ^ (8 * (3 - b / 16777216))) 0 : Int), (wd (n16 / 2 ^ (8 * (3 - b / 16777216))) 1 : Int), (wd (n16 / 2 ^ (8 * (3 - b / 16777216))) 2 : Int), (wd (n16 / 2 ^ (8 * (3 - b / 16777216))) 3 : Int)] [0, 0, 0, 0] rfl rfl _) [(2, pt p3 0), (6, pt p79 0), (42, .bool (decide (([(wd (n16 / 2 ^ (8 * (3 - b / 16777216))) 0 : Int), (wd (n16 / 2 ^ (8 * (3 - b / 16777216))) 1 : Int), (wd (n16 / 2 ^ (8 * (3 - b / 16777216))) 2 : Int), (wd (n16 / 2 ^ (8 * (3 - b / 16777216))) 3 : Int)] : List Int) = [0, 0, 0, 0])))] ?_
       refine GL.q hK89 ?_
       cases hb90 : (decide (([(wd (n16 / 2 ^ (8 * (3 - b / 16777216))) 0 : Int), (wd (n16 / 2 ^ (8 * (3 - b / 16777216))) 1 : Int), (wd (n16 / 2 ^ (8 * (3 - b / 16777216))) 2 : Int), (wd (n16 / 2 ^ (8 * (3 - b / 16777216))) 3 : Int)] : List Int) = [0, 0, 0, 0]))
       · skip
         have hb90f := of_decide_eq_false hb90
         have hz : (n16 / 2 ^ (8 * (3 - b / 16777216))) ≠ 0 := fun h => hb90f ((wv_eq (y := 0) (Nat.lt_of_le_of_lt (Nat.div_le_self _ _) n16l) (by decide)).2 h)
         have hT : decT b = (n16 / 2 ^ (8 * (3 - b / 16777216))) := by rw [decT, if_neg (by omega), ← hn17]
         refine G.no rfl ?_
         refine G.skipK hK87 (fun _ _ h => h) ?_
         refine G.sr fun K91 hK92 => ?_
         refine GL.s 1 (H85.ldA (o := 0) (ty := 33) (m := 4) (sub := (wl (n16 / 2 ^ (8 * (3 - b / 16777216))))) 2 rfl (by kernel_rfl) rfl rfl) [(2, pt p3 0), (44, wv (n16 / 2 ^ (8 * (3 - b / 16777216))))] ?_
         obtain ⟨w93, r94, H95⟩ := H85.stA (P := Try.prog) (o := 0) (vs := (wl (n16 / 2 ^ (8 * (3 - b / 16777216))))) (ty := 33) (m := 4) 0 rfl (by kernel_rfl) rfl (by first | decide | simp) (wl_one _)
         refine GL.u 2 r94 [(2, pt p3 0)] ?_
         refine GL.r 3 1 [(2, pt p3 0), (3, li 0)] ?_
         refine GL.q hK92 ?_
         refine G.ret fun F_ hF_ hM_ => hRet _ _ (bodyPost_2 rfl (RV.cell rfl (H95.ldA (o := 0) (ty := 33) (m := 4) (sub := (wl (n16 / 2 ^ (8 * (3 - b / 16777216))))) 0 rfl (by kernel_rfl) rfl rfl)) (RV.tmp rfl) ?_ F_ hF_ hM_)
         have cE : decE b = 0 := by rw [decE, if_neg (by omega), if_neg (by omega), if_neg (by rw [hT]; exact hz)]
         have cR : decR b = (n16 / 2 ^ (8 * (3 - b / 16777216))) := by rw [decR, if_pos cE, hT]
         rw [cE, cR]
         exact ⟨rfl, H95.sub (List.nil_sublist _)⟩
       · skip
         have hb90f := of_decide_eq_true hb90
         have hz : (n16 / 2 ^ (8 * (3 - b / 16777216))) = 0 := (wv_eq (y := 0) (Nat.lt_of_le_of_lt (Nat.div_le_self _ _) n16l) (by decide)).1 hb90f
         have hT : decT b = (n16 / 2 ^ (8 * (3 - b / 16777216))) := by rw [decT, if_neg (by omega), ← hn17]
         refine G.yes rfl ?_
         refine G.sr fun K96 hK97 => ?_
         refine GL.s 1 (H85.ldA (o := 0) (ty := 33) (m := 4) (sub := (wl (n16 / 2 ^ (8 * (3 - b / 16777216))))) 2 rfl (by kernel_rfl) rfl rfl) [(2, pt p3 0), (43, wv (n16 / 2 ^ (8 * (3 - b / 16777216))))] ?_
         obtain ⟨w98, r99, H100⟩ := H85.stA (P := Try.prog) (o := 0) (vs := (wl (n16 / 2 ^ (8 * (3 - b / 16777216))))) (ty := 33) (m := 4) 0 rfl (by kernel_rfl) rfl (by first | decide | simp) (wl_one _)
         refine GL.u 2 r99 [(2, pt p3 0)] ?_
         refine GL.r 3 1 [(2, pt p3 0), (3, li 6)] ?_
         refine GL.q hK97 ?_
         refine G.ret fun F_ hF_ hM_ => hRet _ _ (bodyPost_2 rfl (RV.cell rfl (H100.ldA (o := 0) (ty := 33) (m := 4) (sub := (wl (n16 / 2 ^ (8 * (3 - b / 16777216))))) 0 rfl (by kernel_rfl) rfl rfl)) (RV.tmp rfl) ?_ F_ hF_ hM_)
         have cE : decE b = 6 := by
           rw [decE, if_neg (by omega), if_neg (by omega), if_pos (by rw [hT]; exact hz)]
         have cR : decR b = 0 := by rw [decR, if_neg (by omega)]
         rw [show (n16 / 2 ^ (8 * (3 - b / 16777216))) = 0 from hz]
         rw [cE, cR]
         exact ⟨rfl, H100.sub (List.nil_sublist _)⟩
     · skip
       have hb71f := of_decide_eq_true hb71
       have hbn : bl n16 = bl (b % 8388608) := by rw [hn17]
       refine G.yes rfl ?_
       refine G.sr fun K101 hK102 => ?_
       refine GL.r 1 1 [(2, pt p3 0), (34, .agg #[lu 0, lu 0, lu 0, lu 0])] ?_
       obtain ⟨w103, r104, H105⟩ := H66.stA (P := Try.prog) (o := 0) (vs := z4) (ty := 33) (m := 4) 0 rfl (by kernel_rfl) rfl (by first | decide | simp) (z4_one)
       refine GL.u 2 r104 [(2, pt p3 0)] ?_
       refine GL.r 3 1 [(2, pt p3 0), (3, li 6)] ?_
       refine GL.q hK102 ?_
       refine G.ret fun F_ hF_ hM_ => hRet _ _ (bodyPost_2 rfl (RV.cell rfl (H105.ldA (o := 0) (ty := 33) (m := 4) (sub := z4) 0 rfl (by kernel_rfl) rfl rfl)) (RV.tmp rfl) ?_ F_ hF_ hM_)
       have cE : decE b = 6 := by
         rw [decE, if_neg (by omega), if_pos (by omega)]
       have cR : decR b = 0 := by rw [decR, if_neg (by omega)]
       rw [cE, cR]
       exact ⟨rfl, H105.sub (List.nil_sublist _)⟩
 · skip
   have hb30f : ((b / 8388608 % 2 * 8388608 : Nat) : Int) ≠ 0 := bne_iff_ne.1 hb30
   refine GL.s 5 (H24.ldA (o := 0) (ty := 33) (m := 4) (sub := (wl n16)) 1 rfl (by kernel_rfl) rfl rfl) [(2, pt p3 0), (4, vi (b / 16777216)), (5, pt p18 0), (17, .bool true), (18, wv n16)] ?_
   refine GL.r 6 1 [(2, pt p3 0), (4, vi (b / 16777216)), (5, pt p18 0), (17, .bool true), (18, wv n16), (19, .agg #[lu 0, lu 0, lu 0, lu 0])] ?_
   refine GL.s 7 (run_arr_neq (P := Try.prog) (t := 33) (n := 4) (k := .u64) (x := (.tmp 18)) (y := (.tmp 19)) (by kernel_rfl) [(wd n16 0 : Int), (wd n16 1 : Int), (wd n16 2 : Int), (wd n16 3 : Int)] [0, 0, 0, 0] rfl rfl _) [(2, pt p3 0), (4, vi (b / 16777216)), (5, pt p18 0), (17, .bool true), (20, .bool (!(decide (([(wd n16 0 : Int), (wd n16 1 : Int), (wd n16 2 : Int), (wd n16 3 : Int)] : List Int) = [0, 0, 0, 0]))))] ?_
   refine GL.r 8 1 [(2, pt p3 0), (4, vi (b / 16777216)), (5, pt p18 0), (21, .bool (!(decide (([(wd n16 0 : Int), (wd n16 1 : Int), (wd n16 2 : Int), (wd n16 3 : Int)] : List Int) = [0, 0, 0, 0]))))] ?_
   refine GL.q hK28 ?_
   cases hb106 : (decide (([(wd n16 0 : Int), (wd n16 1 : Int), (wd n16 2 : Int), (wd n16 3 : Int)] : List Int) = [0, 0, 0, 0]))
   · skip
     have hb106f := of_decide_eq_false hb106
     have hm0 : n16 ≠ 0 := fun h => hb106f ((wv_eq (y := 0) n16l (by decide)).2 h)
     rw [hn17] at hm0
     refine G.yes rfl ?_
     refine G.sr fun K107 hK108 => ?_
     refine GL.r 1 1 [(2, pt p3 0), (22, .agg #[lu 0, lu 0, lu 0, lu 0])] ?_
     obtain ⟨w109, r110, H111⟩ := H24.stA (P := Try.prog) (o := 0) (vs := z4) (ty := 33) (m := 4) 0 rfl (by kernel_rfl) rfl (by first | decide | simp) (z4_one)
     refine GL.u 2 r110 [(2, pt p3 0)] ?_
     refine GL.r 3 1 [(2, pt p3 0), (3, li 6)] ?_
     refine GL.q hK108 ?_
     refine G.ret fun F_ hF_ hM_ => hRet _ _ (bodyPost_2 rfl (RV.cell rfl (H111.ldA (o := 0) (ty := 33) (m := 4) (sub := z4) 0 rfl (by kernel_rfl) rfl rfl)) (RV.tmp rfl) ?_ F_ hF_ hM_)
     have cE : decE b = 6 := by
       rw [decE, if_pos (by omega)]
     have cR : decR b = 0 := by rw [decR, if_neg (by omega)]
     rw [cE, cR]
     exact ⟨rfl, H111.sub (List.nil_sublist _)⟩
   · skip
     have hb106f := of_decide_eq_true hb106
     have hm0 : n16 = 0 := (wv_eq (y := 0) n16l (by decide)).1 hb106f
     rw [hn17] at hm0
     refine G.no rfl ?_
     refine G.skipK hK26 (fun _ _ h => h) ?_
     refine G.seqK fun K112 hK113 => ?_
     refine G.sr fun K114 hK115 => ?_
     refine GL.r 3 3 [(2, pt p3 0), (4, vi (b / 16777216)), (5, pt p18 0), (25, .bool (decide (3 < ((b / 16777216 : Nat) : Int))))] ?_
     cases hb116 : (decide (3 < ((b / 16777216 : Nat) : Int)))
     · skip
       have hb116f := of_decide_eq_false hb116
       refine GL.r 11 8 [(2, pt p3 0), (4, vi (b / 16777216)), (5, pt p18 0), (33, .bool false)] ?_
       refine GL.q hK115 ?_
       refine G.no rfl ?_
       refine G.skipK hK113 (fun _ _ h => h) ?_
       refine G.sr fun K117 hK118 => ?_
       refine GL.s 1 (H24.ldA (o := 0) (ty := 33) (m := 4) (sub := (wl n16)) 1 rfl (by kernel_rfl) rfl rfl) [(2, pt p3 0), (4, vi (b / 16777216)), (35, wv n16)] ?_
       refine GL.r 4 3 [(2, pt p3 0), (35, wv n16), (38, li (IntKind.i64.wrap (8 * (IntKind.i64.wrap (((b / 16777216 : Nat) : Int) - 3)))))] ?_
       have e119 : (IntKind.i64.wrap (((b / 16777216 : Nat) : Int) - 3)) = (-((3 - b / 16777216 : Nat) : Int)) := by rw [in_i64 (by omega)]; omega
       have e120 : (IntKind.i64.wrap (8 * (-((3 - b / 16777216 : Nat) : Int)))) = (-((8 * (3 - b / 16777216) : Nat) : Int)) := by rw [in_i64 (by omega)]; omega
       rw [e119, e120]
       clear e119 e120
       refine GL.call (j := 5) (Left_neg n16 (8 * (3 - b / 16777216)) n16l (by omega) w22) (by kernel_rfl) rfl (fun e_ w121 hR => ?_)
       obtain ⟨rfl, H123⟩ := hR
       have H122 : Hp w [] [.blk p3 z4 33, .blk p18 (wl n16) 33] w121 := H24.callNil H123
       refine ⟨_, rfl, [2, 39], [(2, pt p3 0), (39, wv (n16 / 2 ^ (8 * (3 - b / 16777216))))], by kernel_rfl, ?_⟩
       obtain ⟨p124, w125, r126, H127⟩ := H122.alloc (P := Try.prog) 33 z4 (by kernel_rfl)
       refine GL.s 6 (r126) [(2, pt p3 0), (6, pt p124 0), (39, wv (n16 / 2 ^ (8 * (3 - b / 16777216))))] ?_
       obtain ⟨w128, r129, H130⟩ := H127.stA (P := Try.prog) (o := 0) (vs := (wl (n16 / 2 ^ (8 * (3 - b / 16777216))))) (ty := 33) (m := 4) 2 rfl (by kernel_rfl) rfl (by first | decide | simp) (wl_one _)
       refine GL.u 7 r129 [(2, pt p3 0), (6, pt p124 0)] ?_
       refine GL.q hK118 ?_
       refine G.seqK fun K131 hK132 => ?_
       refine G.sr fun K133 hK134 => ?_
       refine GL.s 1 (H130.ldA (o := 0) (ty := 33) (m := 4) (sub := (wl (n16 / 2 ^ (8 * (3 - b / 16777216))))) 2 rfl (by kernel_rfl) rfl rfl) [(2, pt p3 0), (6, pt p124 0), (40, wv (n16 / 2 ^ (8 * (3 - b / 16777216))))] ?_
       refine GL.r 2 1 [(2, pt p3 0), (6, pt p124 0), (40, wv (n16 / 2 ^ (8 * (3 - b / 16777216)))), (41, .agg #[lu 0, lu 0, lu 0, lu 0])] ?_
       refine GL.s 3 (run_arr_eql (P := Try.prog) (t := 33) (n := 4) (k := .u64) (x := (.tmp 40)) (y := (.tmp 41)) (by kernel_rfl) [(wd (n16 / 2 ^ (8 * (3 - b / 16777216))) 0 : Int), (wd (n16 / 2 ^ (8 * (3 - b / 16777216))) 1 : Int), (wd (n16 / 2 ^ (8 * (3 - b / 16777216))) 2 : Int), (wd (n16 / 2 ^ (8 * (3 - b / 16777216))) 3 : Int)] [0, 0, 0, 0] rfl rfl _) [(2, pt p3 0), (6, pt p124 0), (42, .bool (decide (([(wd (n16 / 2 ^ (8 * (3 - b / 16777216))) 0 : Int), (wd (n16 / 2 ^ (8 * (3 - b / 16777216))) 1 : Int), (wd (n16 / 2 ^ (8 * (3 - b / 16777216))) 2 : Int), (wd (n16 / 2 ^ (8 * (3 - b / 16777216))) 3 : Int)] : List Int) = [0, 0, 0, 0])))] ?_
       refine GL.q hK134 ?_
       cases hb135 : (decide (([(wd (n16 / 2 ^ (8 * (3 - b / 16777216))) 0 : Int), (wd (n16 / 2 ^ (8 * (3 - b / 16777216))) 1 : Int), (wd (n16 / 2 ^ (8 * (3 - b / 16777216))) 2 : Int), (wd (n16 / 2 ^ (8 * (3 - b / 16777216))) 3 : Int)] : List Int) = [0, 0, 0, 0]))
       · skip
         have hb135f := of_decide_eq_false hb135
         have hz : (n16 / 2 ^ (8 * (3 - b / 16777216))) ≠ 0 := fun h => hb135f ((wv_eq (y := 0) (Nat.lt_of_le_of_lt (Nat.div_le_self _ _) n16l) (by decide)).2 h)
         have hT : decT b = (n16 / 2 ^ (8 * (3 - b / 16777216))) := by rw [decT, if_neg (by omega), ← hn17]
         refine G.no rfl ?_
         refine G.skipK hK132 (fun _ _ h => h) ?_
         refine G.sr fun K136 hK137 => ?_
         refine GL.s 1 (H130.ldA (o := 0) (ty := 33) (m := 4) (sub := (wl (n16 / 2 ^ (8 * (3 - b / 16777216))))) 2 rfl (by kernel_rfl) rfl rfl) [(2, pt p3 0), (44, wv (n16 / 2 ^ (8 * (3 - b / 16777216))))] ?_
         obtain ⟨w138, r139, H140⟩ := H130.stA (P := Try.prog) (o := 0) (vs := (wl (n16 / 2 ^ (8 * (3 - b / 16777216))))) (ty := 33) (m := 4) 0 rfl (by kernel_rfl) rfl (by first | decide | simp) (wl_one _)
         refine GL.u 2 r139 [(2, pt p3 0)] ?_
         refine GL.r 3 1 [(2, pt p3 0), (3, li 0)] ?_
         refine GL.q hK137 ?_
         refine G.ret fun F_ hF_ hM_ => hRet _ _ (bodyPost_2 rfl (RV.cell rfl (H140.ldA (o := 0) (ty := 33) (m := 4) (sub := (wl (n16 / 2 ^ (8 * (3 - b / 16777216))))) 0 rfl (by kernel_rfl) rfl rfl)) (RV.tmp rfl) ?_ F_ hF_ hM_)
         have cE : decE b = 0 := by rw [decE, if_neg (by omega), if_neg (by omega), if_neg (by rw [hT]; exact hz)]
         have cR : decR b = (n16 / 2 ^ (8 * (3 - b / 16777216))) := by rw [decR, if_pos cE, hT]
         rw [cE, cR]
         exact ⟨rfl, H140.sub (List.nil_sublist _)⟩
       · skip
         have hb135f := of_decide_eq_true hb135
         have hz : (n16 / 2 ^ (8 * (3 - b / 16777216))) = 0 := (wv_eq (y := 0) (Nat.lt_of_le_of_lt (Nat.div_le_self _ _) n16l) (by decide)).1 hb135f
         have hT : decT b = (n16 / 2 ^ (8 * (3 - b / 16777216))) := by rw [decT, if_neg (by omega), ← hn17]
         refine G.yes rfl ?_
         refine G.sr fun K141 hK142 => ?_
         refine GL.s 1 (H130.ldA (o := 0) (ty := 33) (m := 4) (sub := (wl (n16 / 2 ^ (8 * (3 - b / 16777216))))) 2 rfl (by kernel_rfl) rfl rfl) [(2, pt p3 0), (43, wv (n16 / 2 ^ (8 * (3 - b / 16777216))))] ?_
         obtain ⟨w143, r144, H145⟩ := H130.stA (P := Try.prog) (o := 0) (vs := (wl (n16 / 2 ^ (8 * (3 - b / 16777216))))) (ty := 33) (m := 4) 0 rfl (by kernel_rfl) rfl (by first | decide | simp) (wl_one _)
         refine GL.u 2 r144 [(2, pt p3 0)] ?_
         refine GL.r 3 1 [(2, pt p3 0), (3, li 6)] ?_
         refine GL.q hK142 ?_
         refine G.ret fun F_ hF_ hM_ => hRet _ _ (bodyPost_2 rfl (RV.cell rfl (H145.ldA (o := 0) (ty := 33) (m := 4) (sub := (wl (n16 / 2 ^ (8 * (3 - b / 16777216))))) 0 rfl (by kernel_rfl) rfl rfl)) (RV.tmp rfl) ?_ F_ hF_ hM_)
         have cE : decE b = 6 := by
           rw [decE, if_neg (by omega), if_neg (by omega), if_pos (by rw [hT]; exact hz)]
         have cR : decR b = 0 := by rw [decR, if_neg (by omega)]
         rw [show (n16 / 2 ^ (8 * (3 - b / 16777216))) = 0 from hz]
         rw [cE, cR]
         exact ⟨rfl, H145.sub (List.nil_sublist _)⟩
     · skip
       have hb116f := of_decide_eq_true hb116
       refine GL.s 4 (H24.ldA (o := 0) (ty := 33) (m := 4) (sub := (wl n16)) 1 rfl (by kernel_rfl) rfl rfl) [(2, pt p3 0), (4, vi (b / 16777216)), (5, pt p18 0), (25, .bool true), (26, wv n16)] ?_
       have hbm : bl n16 ≤ 23 := by rw [hn17]; exact hbl
       refine GL.call (j := 5) (Bits_calls n16 n16l w22) (by kernel_rfl) rfl (fun e_ w146 hR => ?_)
       obtain ⟨he_, H148⟩ := hR
       subst he_
       have H147 : Hp w [] [.blk p3 z4 33, .blk p18 (wl n16) 33] w146 := H24.callNil H148
       refine ⟨_, rfl, [2, 4, 5, 25, 27], [(2, pt p3 0), (4, vi (b / 16777216)), (5, pt p18 0), (25, .bool true), (27, vi (bl n16))], by kernel_rfl, ?_⟩
       refine GL.r 11 6 [(2, pt p3 0), (4, vi (b / 16777216)), (5, pt p18 0), (33, .bool (decide (256 < (IntKind.i64.wrap (((bl n16 : Nat) : Int) + (IntKind.i64.wrap (8 * (IntKind.i64.wrap (((b / 16777216 : Nat) : Int) - 3)))))))))] ?_
       have e149 : (IntKind.i64.wrap (((b / 16777216 : Nat) : Int) - 3)) = (-((3 - b / 16777216 : Nat) : Int)) := by rw [in_i64 (by omega)]; omega
       have e150 : (IntKind.i64.wrap (8 * (-((3 - b / 16777216 : Nat) : Int)))) = (-((8 * (3 - b / 16777216) : Nat) : Int)) := by rw [in_i64 (by omega)]; omega
       have e151 : (IntKind.i64.wrap (((bl n16 : Nat) : Int) + (-((8 * (3 - b / 16777216) : Nat) : Int)))) = (((bl n16 : Nat) : Int) + (-((8 * (3 - b / 16777216) : Nat) : Int))) := in_i64 (by omega)
       rw [e149, e150, e151]
       clear e149 e150 e151
       refine GL.q hK115 ?_
       cases hb152 : (decide (256 < (((bl n16 : Nat) : Int) + (-((8 * (3 - b / 16777216) : Nat) : Int)))))
       · skip
         have hb152f := of_decide_eq_false hb152
         have hbn : bl n16 = bl (b % 8388608) := by rw [hn17]
         refine G.no rfl ?_
         refine G.skipK hK113 (fun _ _ h => h) ?_
         refine G.sr fun K153 hK154 => ?_
         refine GL.s 1 (H147.ldA (o := 0) (ty := 33) (m := 4) (sub := (wl n16)) 1 rfl (by kernel_rfl) rfl rfl) [(2, pt p3 0), (4, vi (b / 16777216)), (35, wv n16)] ?_
         refine GL.r 4 3 [(2, pt p3 0), (35, wv n16), (38, li (IntKind.i64.wrap (8 * (IntKind.i64.wrap (((b / 16777216 : Nat) : Int) - 3)))))] ?_
         have e155 : (IntKind.i64.wrap (((b / 16777216 : Nat) : Int) - 3)) = (-((3 - b / 16777216 : Nat) : Int)) := by rw [in_i64 (by omega)]; omega
         have e156 : (IntKind.i64.wrap (8 * (-((3 - b / 16777216 : Nat) : Int)))) = (-((8 * (3 - b / 16777216) : Nat) : Int)) := by rw [in_i64 (by omega)]; omega
         rw [e155, e156]
         clear e155 e156
         refine GL.call (j := 5) (Left_neg n16 (8 * (3 - b / 16777216)) n16l (by omega) w146) (by kernel_rfl) rfl (fun e_ w157 hR => ?_)
         obtain ⟨rfl, H159⟩ := hR
         have H158 : Hp w [] [.blk p3 z4 33, .blk p18 (wl n16) 33] w157 := H147.callNil H159
         refine ⟨_, rfl, [2, 39], [(2, pt p3 0), (39, wv (n16 / 2 ^ (8 * (3 - b / 16777216))))], by kernel_rfl, ?_⟩
         obtain ⟨p160, w161, r162, H163⟩ := H158.alloc (P := Try.prog) 33 z4 (by kernel_rfl)
         refine GL.s 6 (r162) [(2, pt p3 0), (6, pt p160 0), (39, wv (n16 / 2 ^ (8 * (3 - b / 16777216))))] ?_
         obtain ⟨w164, r165, H166⟩ := H163.stA (P := Try.prog) (o := 0) (vs := (wl (n16 / 2 ^ (8 * (3 - b / 16777216))))) (ty := 33) (m := 4) 2 rfl (by kernel_rfl) rfl (by first | decide | simp) (wl_one _)
         refine GL.u 7 r165 [(2, pt p3 0), (6, pt p160 0)] ?_
         refine GL.q hK154 ?_
         refine G.seqK fun K167 hK168 => ?_
         refine G.sr fun K169 hK170 => ?_
         refine GL.s 1 (H166.ldA (o := 0) (ty := 33) (m := 4) (sub := (wl (n16 / 2 ^ (8 * (3 - b / 16777216))))) 2 rfl (by kernel_rfl) rfl rfl) [(2, pt p3 0), (6, pt p160 0), (40, wv (n16 / 2 ^ (8 * (3 - b / 16777216))))] ?_
         refine GL.r 2 1 [(2, pt p3 0), (6, pt p160 0), (40, wv (n16 / 2 ^ (8 * (3 - b / 16777216)))), (41, .agg #[lu 0, lu 0, lu 0, lu 0])] ?_
         refine GL.s 3 (run_arr_eql (P := Try.prog) (t := 33) (n := 4) (k := .u64) (x := (.tmp 40)) (y := (.tmp 41)) (by kernel_rfl) [(wd (n16 / 2 ^ (8 * (3 - b / 16777216))) 0 : Int), (wd (n16 / 2 ^ (8 * (3 - b / 16777216))) 1 : Int), (wd (n16 / 2 ^ (8 * (3 - b / 16777216))) 2 : Int), (wd (n16 / 2 ^ (8 * (3 - b / 16777216))) 3 : Int)] [0, 0, 0, 0] rfl rfl _) [(2, pt p3 0), (6, pt p160 0), (42, .bool (decide (([(wd (n16 / 2 ^ (8 * (3 - b / 16777216))) 0 : Int), (wd (n16 / 2 ^ (8 * (3 - b / 16777216))) 1 : Int), (wd (n16 / 2 ^ (8 * (3 - b / 16777216))) 2 : Int), (wd (n16 / 2 ^ (8 * (3 - b / 16777216))) 3 : Int)] : List Int) = [0, 0, 0, 0])))] ?_
         refine GL.q hK170 ?_
         cases hb171 : (decide (([(wd (n16 / 2 ^ (8 * (3 - b / 16777216))) 0 : Int), (wd (n16 / 2 ^ (8 * (3 - b / 16777216))) 1 : Int), (wd (n16 / 2 ^ (8 * (3 - b / 16777216))) 2 : Int), (wd (n16 / 2 ^ (8 * (3 - b / 16777216))) 3 : Int)] : List Int) = [0, 0, 0, 0]))
         · skip
           have hb171f := of_decide_eq_false hb171
           have hz : (n16 / 2 ^ (8 * (3 - b / 16777216))) ≠ 0 := fun h => hb171f ((wv_eq (y := 0) (Nat.lt_of_le_of_lt (Nat.div_le_self _ _) n16l) (by decide)).2 h)
           have hT : decT b = (n16 / 2 ^ (8 * (3 - b / 16777216))) := by rw [decT, if_neg (by omega), ← hn17]
           refine G.no rfl ?_
           refine G.skipK hK168 (fun _ _ h => h) ?_
           refine G.sr fun K172 hK173 => ?_
           refine GL.s 1 (H166.ldA (o := 0) (ty := 33) (m := 4) (sub := (wl (n16 / 2 ^ (8 * (3 - b / 16777216))))) 2 rfl (by kernel_rfl) rfl rfl) [(2, pt p3 0), (44, wv (n16 / 2 ^ (8 * (3 - b / 16777216))))] ?_
           obtain ⟨w174, r175, H176⟩ := H166.stA (P := Try.prog) (o := 0) (vs := (wl (n16 / 2 ^ (8 * (3 - b / 16777216))))) (ty := 33) (m := 4) 0 rfl (by kernel_rfl) rfl (by first | decide | simp) (wl_one _)
           refine GL.u 2 r175 [(2, pt p3 0)] ?_
           refine GL.r 3 1 [(2, pt p3 0), (3, li 0)] ?_
           refine GL.q hK173 ?_
           refine G.ret fun F_ hF_ hM_ => hRet _ _ (bodyPost_2 rfl (RV.cell rfl (H176.ldA (o := 0) (ty := 33) (m := 4) (sub := (wl (n16 / 2 ^ (8 * (3 - b / 16777216))))) 0 rfl (by kernel_rfl) rfl rfl)) (RV.tmp rfl) ?_ F_ hF_ hM_)
           have cE : decE b = 0 := by rw [decE, if_neg (by omega), if_neg (by omega), if_neg (by rw [hT]; exact hz)]
           have cR : decR b = (n16 / 2 ^ (8 * (3 - b / 16777216))) := by rw [decR, if_pos cE, hT]
           rw [cE, cR]
           exact ⟨rfl, H176.sub (List.nil_sublist _)⟩
         · skip
           have hb171f := of_decide_eq_true hb171
           have hz : (n16 / 2 ^ (8 * (3 - b / 16777216))) = 0 := (wv_eq (y := 0) (Nat.lt_of_le_of_lt (Nat.div_le_self _ _) n16l) (by decide)).1 hb171f
           have hT : decT b = (n16 / 2 ^ (8 * (3 - b / 16777216))) := by rw [decT, if_neg (by omega), ← hn17]
           refine G.yes rfl ?_
           refine G.sr fun K177 hK178 => ?_
           refine GL.s 1 (H166.ldA (o := 0) (ty := 33) (m := 4) (sub := (wl (n16 / 2 ^ (8 * (3 - b / 16777216))))) 2 rfl (by kernel_rfl) rfl rfl) [(2, pt p3 0), (43, wv (n16 / 2 ^ (8 * (3 - b / 16777216))))] ?_
           obtain ⟨w179, r180, H181⟩ := H166.stA (P := Try.prog) (o := 0) (vs := (wl (n16 / 2 ^ (8 * (3 - b / 16777216))))) (ty := 33) (m := 4) 0 rfl (by kernel_rfl) rfl (by first | decide | simp) (wl_one _)
           refine GL.u 2 r180 [(2, pt p3 0)] ?_
           refine GL.r 3 1 [(2, pt p3 0), (3, li 6)] ?_
           refine GL.q hK178 ?_
           refine G.ret fun F_ hF_ hM_ => hRet _ _ (bodyPost_2 rfl (RV.cell rfl (H181.ldA (o := 0) (ty := 33) (m := 4) (sub := (wl (n16 / 2 ^ (8 * (3 - b / 16777216))))) 0 rfl (by kernel_rfl) rfl rfl)) (RV.tmp rfl) ?_ F_ hF_ hM_)
           have cE : decE b = 6 := by
             rw [decE, if_neg (by omega), if_neg (by omega), if_pos (by rw [hT]; exact hz)]
           have cR : decR b = 0 := by rw [decR, if_neg (by omega)]
           rw [show (n16 / 2 ^ (8 * (3 - b / 16777216))) = 0 from hz]
           rw [cE, cR]
           exact ⟨rfl, H181.sub (List.nil_sublist _)⟩
       · skip
         have hb152f := of_decide_eq_true hb152
         have hbn : bl n16 = bl (b % 8388608) := by rw [hn17]
         refine G.yes rfl ?_
         refine G.sr fun K182 hK183 => ?_
         refine GL.r 1 1 [(2, pt p3 0), (34, .agg #[lu 0, lu 0, lu 0, lu 0])] ?_
         obtain ⟨w184, r185, H186⟩ := H147.stA (P := Try.prog) (o := 0) (vs := z4) (ty := 33) (m := 4) 0 rfl (by kernel_rfl) rfl (by first | decide | simp) (z4_one)
         refine GL.u 2 r185 [(2, pt p3 0)] ?_
         refine GL.r 3 1 [(2, pt p3 0), (3, li 6)] ?_
         refine GL.q hK183 ?_
         refine G.ret fun F_ hF_ hM_ => hRet _ _ (bodyPost_2 rfl (RV.cell rfl (H186.ldA (o := 0) (ty := 33) (m := 4) (sub := z4) 0 rfl (by kernel_rfl) rfl rfl)) (RV.tmp rfl) ?_ F_ hF_ hM_)
         have cE : decE b = 6 := by
           rw [decE, if_neg (by omega), if_pos (by omega)]
         have cR : decR b = 0 := by rw [decR, if_neg (by omega)]
         rw [cE, cR]
         exact ⟨rfl, H186.sub (List.nil_sublist _)⟩
theorem Decode_calls (b : Nat) (hb : b < 4294967296) (w : World) : Calls Try.prog 33 #[.int .u32 (b : Int)] w fun e w' => e = .returned (.tuple #[wv (decR b), .int .i64 ((decE b : Nat) : Int)]) ∧ Hp w [] [] w' := by
 by_cases h : 3 ≤ b / 16777216
 · exact Decode_big b hb h w
 · exact Decode_small b hb h w
end Go.Proofs.Ytdepaaphgfapjaa
namespace Go.Proofs.Ytdepaaphgfapjaa
open Go.RowKit
def putB : Nat → Nat → List UInt8
 | _, 0 => []
 | x, n + 1 => UInt8.ofNat x :: putB (x / 256) n
def getB : List UInt8 → Nat
 | [] => 0
 | b :: bs => b.toNat + 256 * getB bs
theorem putB_length : ∀ (n x : Nat), (putB x n).length = n
 | 0, _ => rfl
 | n + 1, x => by rw [putB, List.length_cons, putB_length n]
theorem u8_ofNat (x : Nat) : (UInt8.ofNat x).toNat = x % 256 := by simp
theorem n_byte (x : Nat) : IntKind.u8.wrap (x : Int) = (((UInt8.ofNat x).toNat : Nat) : Int) := by rw [IntKind.wrap_u8, u8_ofNat]; omega
theorem putB_snoc : ∀ (i x : Nat), putB x (i + 1) = putB x i ++ [UInt8.ofNat (x / 256 ^ i)]
 | 0, x => by simp [putB]
 | i + 1, x => by
   rw [putB, putB_snoc i (x / 256), putB, Nat.pow_succ, Nat.mul_comm, ← Nat.div_div_eq_div_mul]
   rfl
theorem getB_lt : ∀ bs : List UInt8, getB bs < 256 ^ bs.length
 | [] => by simp [getB]
 | b :: bs => by
   have h1 := getB_lt bs
   have h2 := UInt8.toNat_lt b
   rw [getB, List.length_cons, Nat.pow_succ]
   omega
theorem getB_put : ∀ (n x : Nat), getB (putB x n) = x % 256 ^ n
 | 0, x => by simp [getB, putB, Nat.mod_one]
 | n + 1, x => by rw [putB, getB, getB_put n, u8_ofNat, Nat.pow_succ, Nat.mul_comm (256 ^ n), Nat.mod_mul]
theorem getB_drop {bs : List UInt8} {k : Nat} {b : UInt8} (h : bs[k]? = some b) : getB (bs.drop k) = b.toNat + 256 * getB (bs.drop (k + 1)) := by
 obtain ⟨hk, hx⟩ := List.getElem?_eq_some_iff.1 h
 rw [List.drop_eq_getElem_cons hk, hx, getB]
section
variable {P : Program} {w0 w w' : World} {S : List Nat} {A B A' : List Ent}
theorem Hp.startL (H : Hp w0 S (A ++ B) w) : Hp w (ids A) A w :=
 ⟨rfl, rfl, rfl, Nat.le_refl _, fun _ _ _ => rfl, fun e he => H.ents e (List.mem_append_left _ he), fun _ hk => .inr hk, by have := H.nd; rw [ids_append] at this; exact (List.nodup_append.1 this).1⟩
theorem Hp.callL (H : Hp w0 S (A ++ B) w) (H' : Hp w (ids A) A' w') : Hp w0 S (A' ++ B) w' := by
 have hnd := H.nd
 rw [ids_append] at hnd
 obtain ⟨n1, n2, n3⟩ := List.nodup_append.1 hnd
 refine ⟨H'.os.trans H.os, H'.tape.trans H.tape, H'.output.trans H.output, Nat.le_trans H.size H'.size, ?_, ?_, ?_, ?_⟩
 · intro k hk hS
   refine (H'.keep k (Nat.lt_of_lt_of_le hk H.size) (fun hin => ?_)).trans (H.keep k hk hS)
   rcases H.old k (by rw [ids_append]; exact List.mem_append_left _ hin) with h | h
   · omega
   · exact hS h
 · intro e he
   rcases List.mem_append.1 he with he | he
   · exact H'.ents e he
   · have hh := H.ents e (List.mem_append_right _ he)
     refine Ent.same hh (fun k hk => H'.keep k (Ent.lt hh k hk) (fun hin => ?_))
     exact n3 k hin k (ids_mem he hk) rfl
 · intro k hk
   rw [ids_append] at hk
   rcases List.mem_append.1 hk with hk | hk
   · rcases H'.old k hk with h | h
     · exact .inl (Nat.le_trans H.size h)
     · exact H.old k (by rw [ids_append]; exact List.mem_append_left _ h)
   · exact H.old k (by rw [ids_append]; exact List.mem_append_right _ hk)
 · rw [ids_append]
   refine List.nodup_append.2 ⟨H'.nd, n2, fun a ha b hb hab => ?_⟩
   subst hab
   rcases H'.old a ha with h | h
   · have := H.lt a (by rw [ids_append]; exact List.mem_append_right _ hb)
     omega
   · exact n3 a h a hb rfl
end
def Cut (R : Option Addr) (whole : List UInt8) (A' : Option Addr) (rest : List UInt8) : Prop := ∀ W, RdS W R (by8 whole) → RdS W A' (by8 rest)
theorem Cut.refl (R : Option Addr) (whole : List UInt8) : Cut R whole R whole := fun _ h => h
theorem Cut.drop {R A' : Option Addr} {whole rest : List UInt8} {cap : Nat} (h : Cut R whole A' rest) (n : Nat) (hc : rest.length ≤ cap) : Cut R whole (if cap = n then A' else A'.map (·.add n)) (rest.drop n) := fun W hW => RdS.drop8 (h W hW) n hc rfl
end Go.Proofs.Ytdepaaphgfapjaa
namespace Go.Proofs.Ytdepaaphgfapjaa
open Go.RowKit
section
variable {P : Program} {w0 w w' : World} {S : List Nat} {L A' B' : List Ent}
def RdO (w : World) (S : List Nat) (A : Option Addr) (xs : List Value) : Prop :=
 ∀ W : World, w.heap.size ≤ W.heap.size → (∀ k, k < w.heap.size → k ∉ S → W.heap[k]? = w.heap[k]?) → RdS W A xs
theorem RdO.hp {A : Option Addr} {xs : List Value} (h : RdO w S A xs) (H : Hp w S L w') : RdS w' A xs := h w' H.size H.keep
theorem RdO.row (H : Hp w0 S (A' ++ B') w) (i : Nat) {R : Option Addr} {n c e : Nat} {xs : List Value} (hL : B'[i]? = some (.row R n c e 1 xs)) : RdO w (ids A') R xs := by
 have hr : RdS w R xs := RdS.row (H.ents _ (List.mem_append_right _ (List.mem_of_getElem? hL)))
 have hnd := H.nd
 rw [ids_append] at hnd
 obtain ⟨_, _, n3⟩ := List.nodup_append.1 hnd
 intro W hs hk
 rcases hr with h | ⟨a, hA, ha, hc⟩
 · exact .inl h
 · refine .inr ⟨a, hA, Nat.lt_of_lt_of_le ha hs, fun j v hv => ?_⟩
   have hb : (a.add j).block = a.block := add_block a j
   rw [World.cell?_of_block (w := w) (hk (a.add j).block (by rw [hb]; exact ha) (fun hin => ?_))]
   · exact hc j v hv
   · rw [hb] at hin
     exact n3 _ hin _ (ids_mem (List.mem_of_getElem? hL) (by subst hA; simp [Ent.ids])) rfl
end
end Go.Proofs.Ytdepaaphgfapjaa
namespace Go.Proofs.Ytdepaaphgfapjaa
open Go.RowKit
def FR (r : Option Nat) : Fence := { Fence.wide with round := r }
def noDef (ops : Array Oper) : Bool := ops.toList.all fun o => !isDefer o.op
def RL (P : Program) (ops : Array Oper) (r : Option Nat) (ds : List Deferred) (Q : Exit → Act → World → Prop) (i n : Nat) (M : FM) (w : World) : Prop :=
 noDef ops = true → ∀ F : Array Value, F.size = n → Fits F M → wpListIn (FR r) 0 P ops Q (ops.toList.drop i) ⟨F, ds⟩ w
def RG (P : Program) (c : Code) (r : Option Nat) (ds : List Deferred) (Q : Exit → Act → World → Prop) (n : Nat) (M : FM) (w : World) : Prop :=
 ∀ F : Array Value, F.size = n → Fits F M → c.wpIn (FR r) 0 P Q ⟨F, ds⟩ w
theorem put_ds {F : Array Value} {ds : List Deferred} {d : Option Nat} {v : Value} : (⟨F, ds⟩ : Act).put d v = ⟨((⟨F, []⟩ : Act).put d v).tmps, ds⟩ := by cases d <;> rfl
theorem callsFR {P : Program} {f : FuncId} {args : Array Value} {w : World} {R : Ending → World → Prop} {r : Option Nat} {n : Nat} (h : Calls P f args w R) : CallsIn (FR r) n P f args w R := (callsIn_wide (n := n)).2 h
section
variable {P : Program} {ops : Array Oper} {r : Option Nat} {ds : List Deferred} {Q : Exit → Act → World → Prop} {i n : Nat} {M M' : FM} {w w' : World}
theorem noDef_at {o : Oper} (hd : noDef ops = true) (ho : ops[i]? = some o) : ∀ c, o.op ≠ .defer c := by
 intro c hc
 have h1 : o ∈ ops.toList := List.mem_of_getElem? (i := i) (by simpa using ho)
 have h2 := List.all_eq_true.1 hd o h1
 rw [hc] at h2
 simp [isDefer] at h2
theorem RL.step {o : Oper} {v : Value} (ho : ops[i]? = some o) (hg : gdM ops M o = some true)
   (hr : ∀ F : Array Value, F.size = n → Fits F M → (execOp (⟨F, []⟩ : Act).eval o).run P w = .ok (.value v) w')
   (hp : putM n M o.dst v = some M') (h : RL P ops r ds Q (i + 1) n M' w') : RL P ops r ds Q i n M w := by
 intro hnd F hF hM
 rw [drop_at ho]
 refine wpListIn_step fun K hK => ?_
 show if Region.wanted o (yielded ops F) then _ else _
 rw [gdM_fits hM hg, if_pos rfl]
 refine ⟨fun _ _ => trivial, ?_⟩
 rw [Oper.semAt_eq _ _ _ (noDef_at hnd ho)]
 have hr' : (execOp (⟨F, ds⟩ : Act).eval o).run P w = .ok (.value v) w' := hr F hF hM
 rw [hr']
 show K _ _
 have hp' := hM.put (d := o.dst) (v := v) (M' := M') (by rw [hF]; exact hp)
 rw [put_ds]
 exact hK _ _ (h hnd _ (by rw [hp'.2.1, hF]) hp'.1)
theorem RL.skip_ {o : Oper} (ho : ops[i]? = some o) (hg : gdM ops M o = some false) (hp : putM n M o.dst undef = some M') (h : RL P ops r ds Q (i + 1) n M' w) : RL P ops r ds Q i n M w := by
 intro hnd F hF hM
 rw [drop_at ho]
 refine wpListIn_step fun K hK => ?_
 show if Region.wanted o (yielded ops F) then _ else _
 rw [gdM_fits hM hg]
 simp only [Bool.false_eq_true, if_false]
 refine ⟨fun _ _ => trivial, ?_⟩
 have hp' := hM.put (d := o.dst) (v := undef) (M' := M') (by rw [hF]; exact hp)
 rw [put_ds]
 exact hK _ _ (h hnd _ (by rw [hp'.2.1, hF]) hp'.1)
theorem RL.batch_ : ∀ {k i : Nat} {M M' : FM}, batch P ops n k i M = some M' → RL P ops r ds Q (i + k) n M' w → RL P ops r ds Q i n M w
 | 0, i, M, M', hb, h => by
   simp [batch] at hb
   subst hb
   exact h
 | k + 1, i, M, M', hb, h => by
   have h' : RL P ops r ds Q (i + 1 + k) n M' w := by rwa [show i + 1 + k = i + (k + 1) from by omega]
   unfold batch at hb
   split at hb
   · cases hb
   · rename_i o ho
     split at hb
     · cases hb
     · rename_i hg
       split at hb
       · rename_i M1 hp
         exact RL.skip_ ho hg hp (RL.batch_ hb h')
       · cases hb
     · rename_i hg
       split at hb
       · rename_i hk
         split at hb
         · rename_i v hv
           split at hb
           · rename_i M1 hp
             refine RL.step ho hg (fun F hF hM => ?_) hp (RL.batch_ hb h')
             rw [known_exec hM hk]
             unfold opPev at hv
             split at hv
             · rename_i u hu
               injection hv with hv
               subst hv
               exact pev_run hu w
             · cases hv
           · cases hb
         · cases hb
       · cases hb
theorem RL.fit {ts : List Nat} (hp : pick ts M = some M') (h : RL P ops r ds Q i n M' w) : RL P ops r ds Q i n M w := fun hnd F hF hM => h hnd F hF (hM.pick hp)
theorem RL.run (k : Nat) (ts : List Nat) (M' : FM) {j : Nat} (hb : (batch P ops n k i M).bind (pick ts) = some M') (hj : i + k = j) (h : RL P ops r ds Q j n M' w) : RL P ops r ds Q i n M w := by
 subst hj
 cases hm : batch P ops n k i M with
 | none => rw [hm] at hb; cases hb
 | some M1 =>
   rw [hm] at hb
   exact RL.batch_ hm (RL.fit hb h)
theorem RL.eq {M' : FM} (he : M = M') (h : RL P ops r ds Q i n M' w) : RL P ops r ds Q i n M w := he ▸ h
theorem RG.eq {c : Code} {M' : FM} (he : M = M') (h : RG P c r ds Q n M' w) : RG P c r ds Q n M w := he ▸ h
theorem RG.fit {c : Code} (ts : List Nat) (hp : pick ts M = some M') (h : RG P c r ds Q n M' w) : RG P c r ds Q n M w := fun F hF hM => h F hF (hM.pick hp)
theorem RL.done (hi : Nat.ble ops.size i = true) (h : ∀ F : Array Value, F.size = n → Fits F M → Q .normal ⟨F, ds⟩ w) : RL P ops r ds Q i n M w := by
 intro _ F hF hM
 rw [List.drop_eq_nil_of_le (by simpa using Nat.le_of_ble_eq_true hi)]
 exact wpListIn_nil (h F hF hM)
theorem RL.semN {s : Sem Next} {v : Value} (hr : s.run P w = .ok (.value v) w') (ts : List Nat) (M' : FM) (hs : semAt ops M i = some s) (hp : (putM n M (dstAt ops i) v).bind (pick ts) = some M')
   {j : Nat} (hj : i + 1 = j) (h : RL P ops r ds Q j n M' w') : RL P ops r ds Q i n M w := by
 subst hj
 obtain ⟨o, ho, hg, hk, he, hd⟩ := semAt_spec hs
 obtain ⟨M1, h1, h2⟩ := putM_bind hp
 rw [hd] at h1
 exact RL.step ho hg (fun F hF hM => by rw [known_exec hM hk, he]; exact hr) h1 (RL.fit h2 h)
theorem RL.sem {s : Sem Value} {v : Value} (hr : s.run P w = .ok v w') (ts : List Nat) (M' : FM) (hs : semAt ops M i = some (vN s)) (hp : (putM n M (dstAt ops i) v).bind (pick ts) = some M')
   {j : Nat} (hj : i + 1 = j) (h : RL P ops r ds Q j n M' w') : RL P ops r ds Q i n M w :=
 RL.semN (by simp [vN, hr]) ts M' hs hp hj h
theorem RL.semU {s : Sem Unit} (hr : s.run P w = .ok () w') (ts : List Nat) (M' : FM) (hs : semAt ops M i = some (uN s)) (hd : dstAt ops i = none) (hp : pick ts M = some M')
   {j : Nat} (hj : i + 1 = j) (h : RL P ops r ds Q j n M' w') : RL P ops r ds Q i n M w := by
 subst hj
 obtain ⟨o, ho, hg, hk, he, hd'⟩ := semAt_spec hs
 rw [hd] at hd'
 intro hnd F hF hM
 rw [drop_at ho]
 refine wpListIn_step fun K hK => ?_
 show if Region.wanted o (yielded ops F) then _ else _
 rw [gdM_fits hM hg, if_pos rfl]
 refine ⟨fun _ _ => trivial, ?_⟩
 rw [Oper.semAt_eq _ _ _ (noDef_at hnd ho)]
 have hr' : (execOp (⟨F, ds⟩ : Act).eval o).run P w = .ok .skip w' := by
   show (execOp (⟨F, []⟩ : Act).eval o).run P w = _
   rw [known_exec hM hk, he]
   simp [uN, hr]
 rw [hr']
 show K _ _
 rw [← hd']
 exact hK _ _ (h hnd F hF (hM.pick hp))
theorem RL.call {f : FuncId} {args : Array Value} {R : Ending → World → Prop} (hc : Calls P f args w R) (hs : (semAt ops M i).bind (pev P) = some (.enter f args)) {j : Nat} (hj : i + 1 = j)
   (h : ∀ e w', R e w' → ∃ v, e = .returned v ∧ ∃ ts M', (putM n M (dstAt ops i) v).bind (pick ts) = some M' ∧ RL P ops r ds Q j n M' w') : RL P ops r ds Q i n M w := by
 subst hj
 cases hsm : semAt ops M i with
 | none => rw [hsm] at hs; cases hs
 | some s =>
   rw [hsm] at hs
   obtain ⟨o, ho, hg, hk, he, hd⟩ := semAt_spec hsm
   intro hnd F hF hM
   rw [drop_at ho]
   refine wpListIn_step fun K hK => ?_
   show if Region.wanted o (yielded ops F) then _ else _
   rw [gdM_fits hM hg, if_pos rfl]
   refine ⟨fun _ _ => trivial, ?_⟩
   rw [Oper.semAt_eq _ _ _ (noDef_at hnd ho)]
   have hr' : (execOp (⟨F, ds⟩ : Act).eval o).run P w = .ok (.enter f args) w := by
     show (execOp (⟨F, []⟩ : Act).eval o).run P w = _
     rw [known_exec hM hk, he]
     exact pev_run hs w
   rw [hr']
   refine ⟨fun h => (by cases h), ?_⟩
   refine (callsFR hc).mono fun e w' hR => ?_
   obtain ⟨v, rfl, ts, M', hp, hG⟩ := h e w' hR
   obtain ⟨M1, h1, h2⟩ := putM_bind hp
   rw [hd] at h1
   have hp' := hM.put (d := o.dst) (v := v) (M' := M1) (by rw [hF]; exact h1)
   show K _ _
   rw [put_ds]
   exact hK _ _ (hG hnd _ (by rw [hp'.2.1, hF]) (hp'.1.pick h2))
theorem RL.yield {l : Nat} {args : Array Value} {R : Ending → World → Prop} (hy : YieldAt (FR none) 0 P l args w R) (hs : semAt ops M i = some (Instr.yield l args)) {j : Nat} (hj : i + 1 = j)
   (h : ∀ e w', R e w' → ∃ v, e = .returned v ∧ ∃ ts M', (putM n M (dstAt ops i) v).bind (pick ts) = some M' ∧ RL P ops r ds Q j n M' w') : RL P ops r ds Q i n M w := by
 subst hj
 obtain ⟨fn, tmps, assign, body, hrun, hR0⟩ := hy
 obtain ⟨o, ho, hg, hk, he, hd⟩ := semAt_spec hs
 intro hnd F hF hM
 rw [drop_at ho]
 refine wpListIn_step fun K hK => ?_
 show if Region.wanted o (yielded ops F) then _ else _
 rw [gdM_fits hM hg, if_pos rfl]
 refine ⟨fun _ _ => trivial, ?_⟩
 rw [Oper.semAt_eq _ _ _ (noDef_at hnd ho)]
 have hr' : (execOp (⟨F, ds⟩ : Act).eval o).run P w = .ok (.round l fn tmps assign body) w := by
   show (execOp (⟨F, []⟩ : Act).eval o).run P w = _
   rw [known_exec hM hk, he]
   exact hrun
 rw [hr']
 refine ⟨fun h => (by cases h), ?_⟩
 have hR1 : RoundIn (FR r) 0 P l fn tmps assign body w R := hR0
 refine hR1.mono fun e w' hR => ?_
 obtain ⟨v, rfl, ts, M', hp, hG⟩ := h e w' hR
 obtain ⟨M1, h1, h2⟩ := putM_bind hp
 rw [hd] at h1
 have hp' := hM.put (d := o.dst) (v := v) (M' := M1) (by rw [hF]; exact h1)
 show K _ _
 rw [put_ds]
 exact hK _ _ (hG hnd _ (by rw [hp'.2.1, hF]) (hp'.1.pick h2))
theorem RG.region {id : Nat} (hnd : noDef ops = true) (h : RL P ops r ds Q 0 n M w) : RG P (.region id ops false) r ds Q n M w := fun F hF hM =>
 wpIn_region_list (by simpa using h hnd F hF hM)
theorem RG.block {id : Nat} {c : Code} (h : RG P c r ds (Exit.inBlock id Q) n M w) : RG P (.block id c) r ds Q n M w := fun F hF hM => wpIn_block (h F hF hM)
theorem RG.cond {c : Operand} {x y : Code} {b : Bool} (hc : evM M c = some (.bool b)) (hx : b = true → RG P x r ds Q n M w) (hy : b = false → RG P y r ds Q n M w) : RG P (.cond c x y) r ds Q n M w := by
 intro F hF hM
 refine wpIn_cond (t := b) (evM_fits hM hc) ?_
 cases b
 · exact hy rfl F hF hM
 · exact hx rfl F hF hM
theorem RG.yes {c : Operand} {x y : Code} (hc : evM M c = some (.bool true)) (hx : RG P x r ds Q n M w) : RG P (.cond c x y) r ds Q n M w := RG.cond hc (fun _ => hx) (fun h => by cases h)
theorem RG.no {c : Operand} {x y : Code} (hc : evM M c = some (.bool false)) (hy : RG P y r ds Q n M w) : RG P (.cond c x y) r ds Q n M w := RG.cond hc (fun h => by cases h) (fun _ => hy)
theorem RG.ret (h : ∀ F : Array Value, F.size = n → Fits F M → Q .ret ⟨F, ds⟩ w) : RG P .ret r ds Q n M w := fun F hF hM => wpIn_ret (h F hF hM)
theorem RL.k {Q' : Exit → Act → World → Prop} {K : Act → World → Prop} {b : Code} (hi : Nat.ble ops.size i = true) (hK : ∀ a w, b.wpIn (FR r) 0 P Q' a w → K a w) (hq : ∀ a w, K a w → Q .normal a w)
   (h : RG P b r ds Q' n M w) : RL P ops r ds Q i n M w := RL.done hi fun F hF hM => hq _ _ (hK _ _ (h F hF hM))
theorem RG.kk {Q' : Exit → Act → World → Prop} {K : Act → World → Prop} {b : Code} (hK : ∀ a w, b.wpIn (FR r) 0 P Q' a w → K a w) (hq : ∀ a w, K a w → Q .normal a w)
   (h : RG P b r ds Q' n M w) : ∀ F : Array Value, F.size = n → Fits F M → Q .normal ⟨F, ds⟩ w := fun F hF hM => hq _ _ (hK _ _ (h F hF hM))
theorem RG.skipK {Q' : Exit → Act → World → Prop} {K : Act → World → Prop} {b : Code} (hK : ∀ a w, b.wpIn (FR r) 0 P Q' a w → K a w) (hq : ∀ a w, K a w → Q .normal a w)
   (h : RG P b r ds Q' n M w) : RG P .skip r ds Q n M w := fun F hF hM => wpIn_skip (hq _ _ (hK _ _ (h F hF hM)))
theorem RG.exitK {Q' : Exit → Act → World → Prop} {K : Act → World → Prop} {b : Code} {id : Nat} (hK : ∀ a w, b.wpIn (FR r) 0 P Q' a w → K a w) (hq : ∀ a w, K a w → Q (.exit id) a w)
   (h : RG P b r ds Q' n M w) : RG P (.exit id) r ds Q n M w := fun F hF hM => wpIn_exit (hq _ _ (hK _ _ (h F hF hM)))
theorem RG.seqK {a b : Code} (h : ∀ K : Act → World → Prop, (∀ a w, b.wpIn (FR r) 0 P Q a w → K a w) → RG P a r ds (Exit.then K Q) n M w) : RG P (.seq a b) r ds Q n M w := fun F hF hM =>
 wpIn_seq_k fun K hK => h K hK F hF hM
def AgainR (n : Nat) (ds : List Deferred) {X : Type} (Mx : X → FM) (J : X → World → Prop) (μ : X → Nat) (x : X) : Act → World → Prop :=
 fun a w => ∃ x', μ x' < μ x ∧ J x' w ∧ ∃ F : Array Value, a = ⟨F, ds⟩ ∧ F.size = n ∧ Fits F (Mx x')
theorem RG.loop {X : Type} {c : Code} (Mx : X → FM) (J : X → World → Prop) (μ : X → Nat) (x0 : X) (ts : List Nat) (hM : pick ts M = some (Mx x0)) (hJ : J x0 w)
   (hstep : ∀ x w, J x w → RG P c r ds (Exit.then (AgainR n ds Mx J μ x) Q) n (Mx x) w) : RG P (.loop c) r ds Q n M w := by
 have key : ∀ m x w, μ x ≤ m → J x w → ∀ F : Array Value, F.size = n → Fits F (Mx x) → Code.roundsIn (FR r) 0 P c Q (m + 1) ⟨F, ds⟩ w := by
   intro m
   induction m with
   | zero =>
     intro x w hm hx F hF hFit
     rw [roundsIn_succ]
     refine wpIn_mono (hstep x w hx F hF hFit) ?_
     intro e a' w' hq
     cases e with
     | normal =>
       obtain ⟨x', hlt, _⟩ := hq
       omega
     | _ => exact hq
   | succ m ih =>
     intro x w hm hx F hF hFit
     rw [roundsIn_succ]
     refine wpIn_mono (hstep x w hx F hF hFit) ?_
     intro e a' w' hq
     cases e with
     | normal =>
       obtain ⟨x', hlt, hJ', F', rfl, hF', hfit'⟩ := hq
       exact ih x' w' (by omega) hJ' F' hF' hfit'
     | _ => exact hq
 intro F hF hFit
 exact wpIn_loop_rounds _ (key (μ x0) x0 w (Nat.le_refl _) hJ F hF (hFit.pick hM))
theorem RL.again {X : Type} {Mx : X → FM} {J : X → World → Prop} {μ : X → Nat} {x : X} {Q : Exit → Act → World → Prop} (x' : X) (ts : List Nat) (hi : Nat.ble ops.size i = true) (hp : pick ts M = some (Mx x')) (hμ : μ x' < μ x) (hJ : J x' w) :
   RL P ops r ds (Exit.then (AgainR n ds Mx J μ x) Q) i n M w :=
 RL.done hi fun F hF hM => ⟨x', hμ, hJ, F, rfl, hF, hM.pick hp⟩
theorem RL.round {c : Code} {Q : Exit → Act → World → Prop} {k : Nat} (hi : Nat.ble ops.size i = true) (h : RG P c r ds (Exit.then (Code.roundsIn (FR r) 0 P c Q k) Q) n M w) : RL P ops r ds (Exit.then (Code.roundsIn (FR r) 0 P c Q (k + 1)) Q) i n M w :=
 RL.done hi fun F hF hM => h F hF hM
def MK (D : Nat) : Deferred := { target := .collected D, args := #[] }
def DF : Obj := .deferred (some [])
theorem calls_R {f : FuncId} {fn : Func} {c : Code} {args : List Value} {R : Ending → World → Prop} (hf : P.funcs[f]? = some fn) (hb : fn.body = some c) (hn : fn.ntmps = n) (hl : Nat.ble args.length n = true)
   (h : ∀ Q : Exit → Act → World → Prop, (∀ a w, bodyPostM (FR none) 0 P fn R .ret a w → Q .ret a w) → (∀ a w, bodyPostM (FR none) 0 P fn R .ret a w → Q .normal a w) → RG P c none [] Q n (argsM 0 args) w) : Calls P f args.toArray w R := by
 refine (callsIn_wide (n := 0)).1 ?_
 refine callsIn_of_wp_marks (F := Fence.wide) hf hb trivial ?_ rfl
 refine h (bodyPostM (FR none) 0 P fn R) (fun _ _ h => h) (fun _ _ h => h) _ ?_ ?_
 · have := Nat.le_of_ble_eq_true hl
   simp [hn]; omega
 · exact fits_args args _ args 0 (fun j => by left; simp)
theorem postM_0 {fn : Func} {R : Ending → World → Prop} (hr : fn.results = #[]) (h : R (.returned (.tuple #[])) w) :
   ∀ F : Array Value, F.size = n → Fits F M → bodyPostM (FR none) 0 P fn R .ret ⟨F, []⟩ w := fun F _ _ =>
 ⟨.tuple #[], by simp [results, hr], h⟩
theorem postK_1 {fn : Func} {R : Ending → World → Prop} {q : ResultVar} {v : Value} {D : Nat} (hD : w.heap[D]? = some DF) (hr : fn.results = #[q]) (hv : RV P M (w.putObj D (.deferred none)) q v) (h : R (.returned v) (w.putObj D (.deferred none))) :
   ∀ F : Array Value, F.size = n → Fits F M → bodyPostM (FR none) 0 P fn R .ret ⟨F, [MK D]⟩ w := fun F _ hM =>
 ⟨by simp, .inl ⟨D, _, rfl, run_takeDeferred hD, v, by rw [results_resOf, hr]; simp only [Sem.run_bind, run_mapM1 (hv.run hM), Result.andThen_ok]; rfl, h⟩⟩
end
section
variable {P : Program} {w0 w : World} {S : List Nat} {L : List Ent}
theorem Hp.objAt (H : Hp w0 S L w) (i : Nat) {k : Nat} {o : Obj} (hL : L[i]? = some (.obj k o)) : w.heap[k]? = some o := H.ents _ (List.mem_of_getElem? hL)
theorem Hp.putObj (H : Hp w0 S L w) (i : Nat) {k : Nat} {o : Obj} (o' : Obj) (hL : L[i]? = some (.obj k o)) : Hp w0 S (L.set i (.obj k o')) (w.putObj k o') := by
 have h1 := H.objAt i hL
 have hlt := (Array.getElem?_eq_some_iff.1 h1).1
 exact H.turn i hL rfl (World.putObj_heap_same hlt) rfl rfl rfl (by simp) (fun j _ hj => World.putObj_heap_other (by simpa [Ent.ids] using hj))
theorem Hp.newObj (H : Hp w0 S L w) (o : Obj) : Hp w0 S (L ++ [.obj w.heap.size o]) (w.alloc o) := by
 refine H.callNew (L' := [.obj w.heap.size o]) ⟨rfl, rfl, rfl, by simp, fun k hk _ => heap_alloc_old w _ hk, ?_, ?_, by simp [ids, Ent.ids]⟩
 · intro e he
   simp at he
   subst he
   exact World.alloc_heap_new w o
 · intro k hk
   simp [ids, Ent.ids] at hk
   omega
theorem set_last2 {α : Type} (A : List α) (x y z : α) : (A ++ [x, y]).set (A.length + 1) z = A ++ [x, z] := by
 rw [List.set_append_right _ _ (by omega)]
 simp
theorem Hp.turnLast {A : List Ent} {e : Ent} {k : Nat} {o : Obj} (H : Hp w0 S (A ++ [e, .obj k o]) w) (o' : Obj) : Hp w0 S (A ++ [e, .obj k o']) (w.putObj k o') := by
 have h := H.putObj (A.length + 1) (k := k) (o := o) o' (by simp)
 rwa [set_last2] at h
theorem Hp.last {A : List Ent} {e : Ent} {k : Nat} {o : Obj} (H : Hp w0 S (A ++ [e, .obj k o]) w) : w.heap[k]? = some o := H.objAt (A.length + 1) (by simp)
theorem Hp.dropLast {A : List Ent} {e : Ent} {k : Nat} {o : Obj} (H : Hp w0 S (A ++ [e, .obj k o]) w) : Hp w0 S (A ++ [e]) w := by
 refine H.sub ?_
 refine List.Sublist.append_left ?_ A
 exact List.Sublist.cons_cons _ (List.nil_sublist _)
end
def Iter (P : Program) (gf : Nat) (lb : Array Value) (N : Nat) (enc : Nat → Array Value) (Rd : World → Prop) : Prop :=
 ∀ (l : Nat) (J : Nat → World → Prop) (Jx : World → Prop), (∀ k W, J k W → Rd W) → (∀ k W W', J k W → Below W.heap.size W W' → J k W') →
   (∀ k W, k < N → J k W → YieldAt (FR none) 0 P l (enc k) W fun e W' => (e = .returned (.bool true) ∧ J (k + 1) W') ∨ (e = .returned (.bool false) ∧ Jx W')) →
   ∀ W, J 0 W → Calls P gf (#[.func (.yield l) #[] #[]] ++ lb) W fun e W' => (∃ v, e = .returned v) ∧ (J N W' ∨ Jx W')
theorem yield_cases {A B : World → Prop} {e : Ending} {w : World} (h : (e = .returned (.bool true) ∧ A w) ∨ (e = .returned (.bool false) ∧ B w)) : ∃ b : Bool, e = .returned (.bool b) ∧ (b = true → A w) ∧ (b = false → B w) := by
 rcases h with ⟨rfl, h⟩ | ⟨rfl, h⟩
 · exact ⟨true, rfl, fun _ => h, fun h => by cases h⟩
 · exact ⟨false, rfl, fun h => (by cases h), fun _ => h⟩
def RoundQ (w0 : World) (S : List Nat) {Xt : Type} (inv : Nat → Xt → Prop) (Lx : Nat → Xt → List Ent) (invr : Xt → Prop) (Lr : Xt → List Ent) (k : Nat) (E : List Ent) : Exit → Act → World → Prop
 | .normal, _, W => ∃ x, inv (k + 1) x ∧ Hp w0 S (Lx (k + 1) x ++ E) W
 | .ret, _, W => ∃ x, invr x ∧ Hp w0 S (Lr x ++ E) W
 | _, _, _ => False
section
variable {P : Program} {n : Nat} {M : FM} {w w0 : World} {S : List Nat} {L : List Ent} {Q : Exit → Act → World → Prop}
def putL (n : Nat) : List (Nat × Value) → FM → Option FM
 | [], M => some M
 | (p, v) :: l, M => match putM n M (some p) v with
   | some M' => putL n l M'
   | none => none
theorem putL_fits : ∀ (l : List (Nat × Value)) {M M' : FM} {F : Array Value}, F.size = n → Fits F M → putL n l M = some M' →
   (l.foldl (fun t (q : Nat × Value) => t.setIfInBounds q.1 q.2) F).size = n ∧ Fits (l.foldl (fun t (q : Nat × Value) => t.setIfInBounds q.1 q.2) F) M'
 | [], M, M', F, hF, hM, h => by
   simp only [putL, Option.some.injEq] at h
   subst h
   exact ⟨hF, hM⟩
 | (p, v) :: l, M, M', F, hF, hM, h => by
   unfold putL at h
   split at h
   · rename_i M1 h1
     have hp := hM.put (d := some p) (v := v) (M' := M1) (by rw [hF]; exact h1)
     exact putL_fits l (by simpa [Act.put] using hp.2.1.trans hF) (by simpa [Act.put] using hp.1) h
   · cases h
theorem RG.range {g : Operand} {ps : Array Tmp} {assign body : Code} {gf : Nat} {lb : Array Value} (H : Hp w0 S L w) (hg : evM M g = some (.func (.func gf) #[] lb)) (he : ∀ args w, (callFunc gf args).run P w = .ok (.enter gf args) w)
   {Xt : Type} (inv : Nat → Xt → Prop) (Lx : Nat → Xt → List Ent) (invr : Xt → Prop) (Lr : Xt → List Ent) {N : Nat} {enc : Nat → Array Value} {Rd : World → Prop} (hit : Iter P gf lb N enc Rd) (hps : ∀ k, (enc k).size = ps.size)
   (x0 : Xt) (h0 : inv 0 x0) (hL0 : Lx 0 x0 = L) (hRd : ∀ k x E W, inv k x → Hp w0 S (Lx k x ++ E) W → Rd W)
   (Mb : Nat → FM) (hMb : ∀ k, putL n (ps.toList.zip (enc k).toList) M = some (Mb k))
   (hround : ∀ (D l : Nat) (oR oB : Obj) (k : Nat) (x : Xt) (W : World) (K : Act → World → Prop), k < N → inv k x → Hp w0 S (Lx k x ++ [.obj D DF, .obj l oR]) W →
     (∀ (F : Array Value) (M' : FM) (L' : List Ent) (W' : World), F.size = n → Fits F M' → Hp w0 S (L' ++ [.obj D DF, .obj l oR]) W' →
       (∀ W'', Hp w0 S (L' ++ [.obj D DF, .obj l oB]) W'' → RG P body (some l) [] (RoundQ w0 S inv Lx invr Lr k [.obj D DF, .obj l oB]) n M' W'') → K ⟨F, []⟩ W') →
     RG P assign (some l) [] (Exit.then K (fun _ _ _ => False)) n (Mb k) W)
   (hdone : ∀ (D : Nat) (x : Xt) (W : World), inv N x → Hp w0 S (Lx N x ++ [.obj D DF]) W → ∀ F : Array Value, F.size = n → Fits F M → Q .normal ⟨F, [MK D]⟩ W)
   (hstop : ∀ (D : Nat) (x : Xt) (W : World), invr x → Hp w0 S (Lr x ++ [.obj D DF]) W → ∀ F : Array Value, F.size = n → Fits F M → Q .ret ⟨F, [MK D]⟩ W) :
   RG P (.rangeFunc g ps assign body) none [] Q n M w := by
 intro F hF hM
 refine wpIn_rangeFunc ?_
 intro fn _
 have hev : (⟨F, []⟩ : Act).eval g = .func (.func gf) #[] lb := evM_fits hM hg
 obtain ⟨rec, hrec⟩ : ∃ rec : LoopState → Option Code → Loop, rec = fun st pe => { state := st, pending := pe, fn, tmps := F, params := ps, assign, body, defers := w.heap.size } := ⟨_, rfl⟩
 have H1 := (H.newObj DF).newObj (.loop (rec .ready none))
 rw [List.append_assoc] at H1
 obtain ⟨W1, hW1⟩ : ∃ W1, (w.alloc DF).alloc (.loop (rec .ready none)) = W1 := ⟨_, rfl⟩
 rw [hW1, World.size_alloc] at H1
 refine ⟨w.heap.size + 1, [MK w.heap.size], W1, { target := .fn (.func gf) lb, args := #[.func (.yield (w.heap.size + 1)) #[] #[]] }, W1, gf, #[.func (.yield (w.heap.size + 1)) #[] #[]] ++ lb, W1, ?_, ?_, fun _ _ => trivial, ?_, fun h => (by cases h), ?_⟩
 · rw [← hW1, hrec]
   exact run_enterLoop_outer _ _ _ _ _
 · simp only [resolve, hev]
   simp [go_sem]
 · simp [invoke, go_sem, he]
 · generalize w.heap.size = D at *
   have hyield : ∀ k W, k < N → (∃ x, inv k x ∧ Hp w0 S (Lx k x ++ [.obj D DF, .obj (D + 1) (.loop (rec .ready none))]) W) → YieldAt (FR none) 0 P (D + 1) (enc k) W fun e W' =>
       (e = .returned (.bool true) ∧ ∃ x, inv (k + 1) x ∧ Hp w0 S (Lx (k + 1) x ++ [.obj D DF, .obj (D + 1) (.loop (rec .ready none))]) W') ∨
       (e = .returned (.bool false) ∧ ∃ x, invr x ∧ Hp w0 S (Lr x ++ [.obj D DF, .obj (D + 1) (.loop (rec .done (some .ret)))]) W') := by
     rintro k W hk ⟨x, hx, HW⟩
     have hl := HW.last
     have hy := run_yield (P := P) (args := enc k) hl (by rw [hrec]; exact hps k)
     rw [hrec] at hy
     refine ⟨fn, _, assign, body, hy, roundIn_of_wpIn (F := FR none) trivial ?_⟩
     have hfit : ((ps.zip (enc k)).foldl (fun t (p, v) => t.setIfInBounds p v) F).size = n ∧ Fits ((ps.zip (enc k)).foldl (fun t (p, v) => t.setIfInBounds p v) F) (Mb k) := by
       have h2 := putL_fits _ hF hM (hMb k)
       rw [← Array.foldl_toList, Array.toList_zip]
       exact h2
     refine hround D (D + 1) (.loop (rec .ready none)) (.loop { rec .ready none with state := .busy }) k x W _ hk hx HW ?_ _ hfit.1 hfit.2
     intro F' M' L' W' hF' hM' HW' hbody
     have hl' := HW'.last
     refine ⟨_, run_beginRound hl' (by rw [hrec]), ?_⟩
     have HB := HW'.turnLast (.loop { rec .ready none with state := .busy })
     refine wpIn_mono (hbody _ HB F' hF' hM') ?_
     intro e a3 W3 hp
     cases e with
     | normal =>
       obtain ⟨x', hx', H3⟩ := hp
       have hl3 := H3.last
       have hr := run_endRound (P := P) none hl3
       rw [hrec] at hr
       refine ⟨_, _, hr, .inl ⟨rfl, x', hx', ?_⟩⟩
       have H4 := H3.turnLast (.loop (rec .ready none))
       rw [hrec] at H4 ⊢
       exact H4
     | ret =>
       obtain ⟨x', hx', H3⟩ := hp
       have hl3 := H3.last
       have hr := run_endRound (P := P) (some .ret) hl3
       rw [hrec] at hr
       refine ⟨_, _, hr, .inr ⟨rfl, x', hx', ?_⟩⟩
       have H4 := H3.turnLast (.loop (rec .done (some .ret)))
       rw [hrec] at H4 ⊢
       exact H4
     | _ => exact hp.elim
   refine (callsFR (hit (D + 1) (fun k W => ∃ x, inv k x ∧ Hp w0 S (Lx k x ++ [.obj D DF, .obj (D + 1) (.loop (rec .ready none))]) W)
     (fun W => ∃ x, invr x ∧ Hp w0 S (Lr x ++ [.obj D DF, .obj (D + 1) (.loop (rec .done (some .ret)))]) W)
     (fun k W ⟨x, hx, HW⟩ => hRd k x _ W hx HW) (fun k W W' ⟨x, hx, HW⟩ hb => ⟨x, hx, HW.step hb⟩) hyield W1 ⟨x0, h0, by rw [hL0]; exact H1⟩)).mono ?_
   rintro e W2 ⟨⟨v, rfl⟩, (⟨x, hx, HW⟩ | ⟨x, hx, HW⟩)⟩
   · have hl := HW.last
     have hr := run_endLoop (P := P) hl (by rw [hrec]; simp)
     rw [hrec] at hr
     exact ⟨none, _, hr, hdone D x _ hx (HW.turnLast _).dropLast F hF hM⟩
   · have hl := HW.last
     have hr := run_endLoop (P := P) hl (by rw [hrec]; simp)
     rw [hrec] at hr
     exact ⟨some .ret, _, hr, wpIn_ret (hstop D x _ hx (HW.turnLast _).dropLast F hF hM)⟩
end
end Go.Proofs.Ytdepaaphgfapjaa
namespace Go.Proofs.Ytdepaaphgfapjaa
open Go.RowKit
section
variable {P : Program} {w0 w w' : World} {S : List Nat} {L A' B' : List Ent}
theorem RdO.blk (H : Hp w0 S (A' ++ B') w) (i : Nat) {b o : Nat} {cs : List Value} {t : TypeId} (n : Nat) {xs : List Value} (hL : B'[i]? = some (.blk b cs t)) (hx : (cs.drop o).take n = xs) : RdO w (ids A') (some ⟨b, o, none⟩) xs := by
 have hb : Blk w b cs t := H.ents _ (List.mem_append_right _ (List.mem_of_getElem? hL))
 have hnd := H.nd
 rw [ids_append] at hnd
 obtain ⟨_, _, n3⟩ := List.nodup_append.1 hnd
 intro W hs hk
 have hb' : Blk W b cs t := hb.same (hk b hb.lt (fun hin => n3 _ hin _ (ids_mem (List.mem_of_getElem? hL) (by simp [Ent.ids])) rfl))
 exact RdS.blk hb' o n hx
theorem Hp.strRange (H : Hp w0 S L w) {t : TypeId} (ht : isStr P t = true) (s : ByteArray) :
   ∃ k w', (Instr.range t (.string s)).run P w = .ok (.pointer (some ⟨k, 0, none⟩)) w' ∧ Hp w0 S (L ++ [.obj k (.stringIter s 0)]) w' := by
 refine ⟨w.heap.size, w.alloc (.stringIter s 0), ?_, H.callNew ⟨rfl, rfl, rfl, by simp, fun k hk _ => heap_alloc_old w _ hk, ?_, ?_, by simp [ids, Ent.ids]⟩⟩
 · simp [Instr.range, run_underlying (isStr_spec ht)]
 · intro x hx
   simp at hx
   subst hx
   exact heap_alloc_new w _
 · intro k hk
   simp [ids, Ent.ids] at hk
   omega
theorem decode_plain {bs : List UInt8} {pos : Nat} {b : UInt8} (hb : bs[pos]? = some b) (h8 : b.toNat < 128) : Utf8.decode (strOf bs) pos = (b.toNat, 1) := by
 have hlt := (List.getElem?_eq_some_iff.1 hb).1
 have e : (strOf bs).get! (pos + 0) = b := by
   rw [Nat.add_zero]
   show (strOf bs).data[pos]! = b
   have : (strOf bs).data = bs.toArray := rfl
   rw [this]
   simp [hb]
 unfold Utf8.decode
 simp only [e]
 rw [if_pos h8]
theorem Hp.strOver (H : Hp w0 S L w) (i : Nat) {k : Nat} {bs : List UInt8} (hL : L[i]? = some (.obj k (.stringIter (strOf bs) bs.length))) (ty : TypeId) :
   (Instr.next (.pointer (some ⟨k, 0, none⟩)) true ty).run P w = .ok (.tuple #[.bool false]) w := by
 have ho := H.objAt i hL
 have hsz : (strOf bs).size = bs.length := by simp [strOf, ByteArray.size]
 simp [Instr.next, getObj, Sem.run, ho, hsz]
def deepEq (P : Program) (m : Nat) (t : TypeId) : Bool := P.keyTypeAt m t && !(P.eqGuardType P.depth t)
theorem run_deep_eql {m t : Nat} {x y : Operand} (ht : deepEq P m t = true) (hm : m ≤ 10000) {cs ds : List Value} {lc ld : List Lit} (hf : Value.formed P t (.agg cs.toArray) = true) (hg : Value.formed P t (.agg ds.toArray) = true)
   (hc : P.keyLits m t cs = some lc) (hd : P.keyLits m t ds = some ld) (w : World) :
   ∃ r : Bool, (do eqGuard .eql t x y (.agg cs.toArray) (.agg ds.toArray); binOp .eql t (.agg cs.toArray) (.agg ds.toArray) : Sem Value).run P w = .ok (.bool r) w ∧ (r = true ↔ lc = ld) := by
 simp only [deepEq, Bool.and_eq_true, Bool.not_eq_true'] at ht
 obtain ⟨r, h1, h2⟩ := run_equalIn_deep (P := P) (10000 - m) m t ht.1 w m m (.agg cs.toArray) (.agg ds.toArray) lc ld hf hg (by simpa [Value.cells] using hc) (by simpa [Value.cells] using hd)
 refine ⟨r, ?_, h2⟩
 rw [show 10000 - m + m = 10000 by omega] at h1
 simp only [Sem.run_bind, run_eqGuard_agg w .eql t x y _ _ ht.2, Result.andThen_ok, run_eql_struct, h1]
end
theorem u8wf (b : UInt8) : (Lit.int .u8 (b.toNat : Int)).wf = true := by
 have := b.toNat_lt
 simp [Lit.wf, IntKind.min, IntKind.max, IntKind.signed, IntKind.bits]
 omega
theorem lits_u8 {P : Program} {d t : Nat} (ht : P.underlying t = some (.int .u8)) (b : UInt8) : P.keyLits (d + 1) t [.int .u8 (b.toNat : Int)] = some [.int .u8 (b.toNat : Int)] := by
 simp [Program.keyLits, ht, u8wf b]
theorem mapM_some {α β : Type} (f : α → Option β) (g : α → β) : ∀ (l : List α), (∀ x ∈ l, f x = some (g x)) → l.mapM f = some (l.map g)
 | [], _ => rfl
 | x :: r, h => by
   rw [List.mapM_cons, h x (by simp), mapM_some f g r (fun y hy => h y (by simp [hy]))]
   rfl
theorem flat_one {α β : Type} (f : α → β) (l : List α) : (l.map fun x => [f x]).flatten = l.map f := by
 induction l with
 | nil => rfl
 | cons x r ih => simp [ih]
theorem keyLits_arr {P : Program} {d t n e : Nat} {cs : List Value} (ht : P.underlying t = some (.array n e)) : P.keyLits (d + 1) t cs = if cs.length = P.cellsOf t then ((List.range n).mapM fun i => P.keyLits d e ((cs.drop (i * P.cellsOf e)).take (P.cellsOf e))).map List.flatten else none := by
 conv => lhs; unfold Program.keyLits
 simp only [ht]
theorem keyLits_struct {P : Program} {d t : Nat} {fs : Array Field} {cs : List Value} (ht : P.underlying t = some (.struct fs)) : P.keyLits (d + 1) t cs = if cs.length = P.cellsOf t ∧ fs.all (·.name != "_") = true then (fs.toList.mapM fun f => P.keyLits d f.type ((cs.drop f.offset).take (P.cellsOf f.type))).map List.flatten else none := by
 conv => lhs; unfold Program.keyLits
 simp only [ht]
theorem lits_u8s {P : Program} {d t e n : Nat} (ht : P.underlying t = some (.array n e)) (he : P.underlying e = some (.int .u8)) (hc : P.cellsOf e = 1) (hn : P.cellsOf t = n) (ad : Nat → UInt8) :
   P.keyLits (d + 2) t ((List.range n).map fun i => .int .u8 ((ad i).toNat : Int)) = some ((List.range n).map fun i => Lit.int .u8 ((ad i).toNat : Int)) := by
 rw [keyLits_arr ht, if_pos (by simp [hn]), mapM_some _ (fun i => [Lit.int .u8 ((ad i).toNat : Int)])]
 · rw [Option.map_some, flat_one]
 · intro i hi
   have hi' : i < n := by simpa using hi
   rw [hc, Nat.mul_one]
   have : (((List.range n).map fun i => Value.int .u8 ((ad i).toNat : Int)).drop i).take 1 = [.int .u8 ((ad i).toNat : Int)] := by
     rw [List.drop_eq_getElem_cons (by simpa using hi')]
     simp
   rw [this]
   exact lits_u8 he _
theorem u8s_fun {cs : List Value} (o n : Nat) (h : ∀ i, i < n → ∃ b : UInt8, cs[o + i]? = some (.int .u8 (b.toNat : Int))) : ∃ f : Nat → UInt8, ∀ i, i < n → cs[o + i]? = some (.int .u8 ((f i).toNat : Int)) :=
 ⟨fun i => if hi : i < n then (h i hi).choose else 0, fun i hi => by simp only [dif_pos hi]; exact (h i hi).choose_spec⟩
end Go.Proofs.Ytdepaaphgfapjaa
namespace Go.Proofs.Ytdepaaphgfapjaa
open Go.RowKit
abbrev W32 : Nat := 4294967296
abbrev c8 (a b c d e f g h : Nat) : List Value := [.int .u32 (a : Int), .int .u32 (b : Int), .int .u32 (c : Int), .int .u32 (d : Int), .int .u32 (e : Int), .int .u32 (f : Int), .int .u32 (g : Int), .int .u32 (h : Int)]
def u32s (ws : List Nat) : List Value := ws.map fun d : Nat => Value.int .u32 (d : Int)
theorem c8_one {a b c d e f g h : Nat} : ∀ v ∈ c8 a b c d e f g h, v.oneCell' = true := by
 intro v hv
 simp only [List.mem_cons, List.not_mem_nil, or_false] at hv
 rcases hv with rfl | rfl | rfl | rfl | rfl | rfl | rfl | rfl <;> rfl
theorem u32s_length (ws : List Nat) : (u32s ws).length = ws.length := by simp [u32s]
theorem u32s_at {ws : List Nat} {j d : Nat} (h : ws[j]? = some d) : (u32s ws)[j]? = some (.int .u32 (d : Int)) := by simp [u32s, h]
theorem u32s_set (ws : List Nat) (j d : Nat) : (u32s ws).set j (.int .u32 (d : Int)) = u32s (ws.set j d) := by simp [u32s, List.map_set]
theorem u32s_one (ws : List Nat) : ∀ v ∈ u32s ws, v.oneCell' = true := by
 intro v hv
 simp [u32s] at hv
 obtain ⟨d, _, rfl⟩ := hv
 rfl
theorem getD_at {ws : List Nat} {j : Nat} (h : j < ws.length) : ws[j]? = some (ws.getD j 0) := by rw [List.getD_eq_getElem?_getD, List.getElem?_eq_getElem h]; rfl
theorem w_and {a b : Nat} (ha : a < W32) (hb : b < W32) : Go.bits .and .u32 (a : Int) (b : Int) = ((a &&& b : Nat) : Int) :=
 (bits_nat .u32 32 (by decide) (fun n h0 h1 => by rw [IntKind.wrap_u32]; omega) a b (by simpa [W32] using ha) (by simpa [W32] using hb)).1
theorem w_or {a b : Nat} (ha : a < W32) (hb : b < W32) : Go.bits .or .u32 (a : Int) (b : Int) = ((a ||| b : Nat) : Int) :=
 (bits_nat .u32 32 (by decide) (fun n h0 h1 => by rw [IntKind.wrap_u32]; omega) a b (by simpa [W32] using ha) (by simpa [W32] using hb)).2
theorem and_lt32 {a b : Nat} (ha : a < W32) : a &&& b < W32 := Nat.lt_of_le_of_lt Nat.and_le_left ha
theorem or_lt32 {a b : Nat} (ha : a < W32) (hb : b < W32) : a ||| b < W32 := by
 rw [show W32 = 2 ^ 32 from rfl] at *
 exact Nat.or_lt_two_pow ha hb
theorem xor_lt32 {a b : Nat} (ha : a < W32) (hb : b < W32) : a ^^^ b < W32 := by
 rw [show W32 = 2 ^ 32 from rfl] at *
 exact Nat.xor_lt_two_pow ha hb
theorem w_add (a b : Nat) : IntKind.u32.wrap ((a : Int) + (b : Int)) = (((a + b) % W32 : Nat) : Int) := by rw [IntKind.wrap_u32]; simp only [W32]; omega
theorem w_addm (a b : Nat) : IntKind.u32.wrap (((a % W32 : Nat) : Int) + (b : Int)) = (((a + b) % W32 : Nat) : Int) := by rw [w_add, Nat.mod_add_mod]
theorem run_shr32 {P : Program} {t : TypeId} {k' : IntKind} {a r : Nat} (hr : r ≤ 32) (w : World) : (binOp .shr t (.int .u32 (a : Int)) (.int k' (r : Int))).run P w = .ok (.int .u32 ((a / 2 ^ r : Nat) : Int)) w := by
 rw [run_shr rfl (by omega), show min ((r : Int)).toNat IntKind.u32.bits = r from by simp only [IntKind.bits]; omega, n_shr]
theorem w_shl (a n : Nat) : IntKind.u32.wrap ((a : Int) * 2 ^ n) = ((a * 2 ^ n % W32 : Nat) : Int) := by
 have e : ((a : Int) * 2 ^ n) = ((a * 2 ^ n : Nat) : Int) := by simp
 rw [e, IntKind.wrap_u32]
 generalize a * 2 ^ n = x
 simp only [W32]
 omega
theorem run_shr64 {P : Program} {t : TypeId} {k' : IntKind} {a r : Nat} (hr : r ≤ 64) (w : World) : (binOp .shr t (.int .u64 (a : Int)) (.int k' (r : Int))).run P w = .ok (.int .u64 ((a / 2 ^ r : Nat) : Int)) w := run_shrN hr w
section
variable {P : Program} {w : World}
theorem run_slice3 {t len cap : Nat} {A : Option Addr} {l h m : Nat} {k1 k2 k3 : IntKind} (ht : slcOf P t = some 1) (hlh : l ≤ h) (hhm : h ≤ m) (hmc : m ≤ cap) :
   (Instr.sliceAt t (.slice A len cap) (some (.int k1 (l : Int))) (some (.int k2 (h : Int))) (some (.int k3 (m : Int)))).run P w = .ok (.slice (if m = l then A else A.map (·.add l)) (h - l) (m - l)) w := by
 obtain ⟨e, hu, hs⟩ := slcOf_spec ht
 have hb : (Instr.sliceBounds true len cap (some (.int k1 (l : Int))) (some (.int k2 (h : Int))) (some (.int k3 (m : Int)))).run P w = .ok (l, h, m) w := by
   simp [Instr.sliceBounds, Instr.sliceBound, asIntOf, hlh, hhm, hmc]
 simp only [Instr.sliceAt, Sem.run_bind, run_underlying hu, Result.andThen_ok, Instr.slice, hb, hs, Sem.run_pure, Nat.mul_one]
end
section
variable {P : Program} {ops : Array Oper} {Q : Exit → Act → World → Prop} {i n : Nat} {M : FM} {w : World} {C : World → Prop}
theorem RG.ofG {c : Code} (h : G P c Q n M w) : RG P c none [] Q n M w := fun F hF hM => (wpIn_wide (n := 0)).2 (h F hF hM)
theorem RG.draw {id : Nat} {w0 : World} {S : List Nat} {L : List Ent} (H : Hp w0 S L w) (hm : P.follows .mixedOrders = true) (hB : Region.lexB .any ops = true)
   (h : GQ P ops (Hp w0 S L) (fun a' => ∀ w', Hp w0 S L w' → Q .normal a' w') 0 n M) : RG P (.region id ops true) none [] Q n M w := RG.ofG (G.draw H hm hB h)
theorem GQ.kR {Q' : Exit → Act → World → Prop} {K : Act → World → Prop} {b : Code} (hi : Nat.ble ops.size i = true) (hK : ∀ a w, b.wpIn (FR none) 0 P Q' a w → K a w) (hq : ∀ a w, K a w → Q .normal a w)
   (h : ∀ w, C w → RG P b none [] Q' n M w) : GQ P ops C (fun a' => ∀ w', C w' → Q .normal a' w') i n M := GQ.done hi fun F hF hM w hw => hq _ _ (hK _ _ (h w hw F hF hM))
theorem RL.againB {ds : List Deferred} {r : Option Nat} {id : Nat} {X : Type} {Mx : X → FM} {J : X → World → Prop} {μ : X → Nat} {x : X} (x' : X) (ts : List Nat) (hi : Nat.ble ops.size i = true) (hp : pick ts M = some (Mx x')) (hμ : μ x' < μ x) (hJ : J x' w) :
   RL P ops r ds (Exit.inBlock id (Exit.then (AgainR n ds Mx J μ x) Q)) i n M w :=
 RL.done hi fun F hF hM => (⟨x', hμ, hJ, F, rfl, hF, hM.pick hp⟩ : AgainR n ds Mx J μ x ⟨F, ds⟩ w)
end
def rt (x n : Nat) : Nat := x * 2 ^ (32 - n) % W32 ||| x / 2 ^ n
def ssg0 (x : Nat) : Nat := rt x 7 ^^^ rt x 18 ^^^ x / 2 ^ 3
def ssg1 (x : Nat) : Nat := rt x 17 ^^^ rt x 19 ^^^ x / 2 ^ 10
def bsg0 (x : Nat) : Nat := rt x 2 ^^^ rt x 13 ^^^ rt x 22
def bsg1 (x : Nat) : Nat := rt x 6 ^^^ rt x 11 ^^^ rt x 25
def chf (e f g : Nat) : Nat := (e &&& f) ^^^ ((4294967295 ^^^ e) &&& g)
def majf (a b c : Nat) : Nat := (a &&& b) ^^^ (a &&& c) ^^^ (b &&& c)
theorem rt_lt {x n : Nat} (hx : x < W32) : rt x n < W32 := or_lt32 (Nat.mod_lt _ (by decide)) (Nat.lt_of_le_of_lt (Nat.div_le_self _ _) hx)
def beF (p : List UInt8) (o : Nat) : Nat → Nat
 | 0 => 0
 | k + 1 => beF p o k * 256 + (p.getD (o + k) 0).toNat
theorem beF_lt (p : List UInt8) (o k : Nat) : beF p o k < 256 ^ k := by
 induction k with
 | zero => simp [beF]
 | succ k ih =>
   have := (p.getD (o + k) 0).toNat_lt
   rw [beF, Nat.pow_succ]
   have h := Nat.mul_le_mul_right 256 (show beF p o k + 1 ≤ 256 ^ k from ih)
   rw [Nat.add_mul] at h
   omega
def wsN (p : List UInt8) : Nat → List Nat
 | 0 => []
 | i + 1 => wsN p i ++ [if i < 16 then beF p (4 * i) 4 else ((wsN p i).getD (i - 16) 0 + ssg0 ((wsN p i).getD (i - 15) 0) + (wsN p i).getD (i - 7) 0 + ssg1 ((wsN p i).getD (i - 2) 0)) % W32]
theorem wsN_length (p : List UInt8) (i : Nat) : (wsN p i).length = i := by
 induction i with
 | zero => rfl
 | succ i ih => rw [wsN, List.length_append, ih]; rfl
theorem wsN_lt (p : List UInt8) (i : Nat) : ∀ d ∈ wsN p i, d < W32 := by
 induction i with
 | zero => intro d hd; simp [wsN] at hd
 | succ i ih =>
   intro d hd
   rw [wsN] at hd
   rcases List.mem_append.1 hd with h | h
   · exact ih d h
   · rw [List.mem_singleton.1 h]
     split
     · exact beF_lt p (4 * i) 4
     · exact Nat.mod_lt _ (by decide)
theorem getD_lt {ws : List Nat} (h : ∀ d ∈ ws, d < W32) (j : Nat) : ws.getD j 0 < W32 := by
 by_cases hj : j < ws.length
 · exact h _ (List.mem_of_getElem? (getD_at hj))
 · rw [List.getD_eq_getElem?_getD, List.getElem?_eq_none (by omega)]
   decide
def wsP (p : List UInt8) (i : Nat) : List Nat := wsN p i ++ List.replicate (64 - i) 0
theorem wsP_length {p : List UInt8} {i : Nat} (h : i ≤ 64) : (wsP p i).length = 64 := by
 rw [wsP, List.length_append, wsN_length, List.length_replicate]
 omega
theorem wsP_getD {p : List UInt8} {i j : Nat} (h : j < i) : (wsP p i).getD j 0 = (wsN p i).getD j 0 := by
 rw [List.getD_eq_getElem?_getD, List.getD_eq_getElem?_getD, wsP, List.getElem?_append_left (by rw [wsN_length]; exact h)]
theorem wsP_here {p : List UInt8} {i : Nat} (h : i < 64) : (wsP p i)[i]? = some 0 := by
 rw [wsP, List.getElem?_append_right (by rw [wsN_length]; exact Nat.le_refl _), wsN_length, Nat.sub_self, List.getElem?_replicate, if_pos (by omega)]
theorem wsP_set {p : List UInt8} {i v : Nat} (h : i < 64) (hv : v = if i < 16 then beF p (4 * i) 4 else ((wsN p i).getD (i - 16) 0 + ssg0 ((wsN p i).getD (i - 15) 0) + (wsN p i).getD (i - 7) 0 + ssg1 ((wsN p i).getD (i - 2) 0)) % W32) :
   (wsP p i).set i v = wsP p (i + 1) := by
 unfold wsP
 rw [wsN, ← hv, List.set_append_right _ _ (by rw [wsN_length]; exact Nat.le_refl _), wsN_length, Nat.sub_self, show 64 - i = (64 - (i + 1)) + 1 by omega, List.replicate_succ, List.set_cons_zero, List.append_assoc]
 rfl
theorem wsP_at {p : List UInt8} {i j : Nat} (h : j < i) (hi : i ≤ 64) : (wsP p i)[j]? = some ((wsN p i).getD j 0) := by
 rw [← wsP_getD h]
 exact getD_at (by rw [wsP_length hi]; omega)
theorem wsP_put {p : List UInt8} {i v : Nat} (h : i < 64) : ((wsP p i).set i v)[i]? = some v := by
 rw [List.getElem?_set_self (by rw [wsP_length (by omega)]; exact h)]
theorem wsP_none {p : List UInt8} {i : Nat} (h : i < 64) : (wsP p i).set i 0 = wsP p i := by
 refine List.ext_getElem? fun j => ?_
 by_cases hj : i = j
 · subst hj
   rw [wsP_put h, wsP_here h]
 · rw [List.getElem?_set_ne hj]
theorem cut_getD {p : List UInt8} {l k n : Nat} (hk : k < n) : ((p.take (l + n)).drop l).getD k 0 = p.getD (l + k) 0 := by
 rw [List.getD_eq_getElem?_getD, List.getD_eq_getElem?_getD, List.getElem?_drop, List.getElem?_take_of_lt (by omega)]
theorem w_orbyte {x b : Nat} (hx : x < 16777216) (hb : b < 256) : Go.bits .or .u32 ((x * 256 : Nat) : Int) (b : Int) = ((x * 256 + b : Nat) : Int) := by
 rw [w_or (by simp only [W32]; omega) (by simp only [W32]; omega), Nat.mul_comm x, show (256 : Nat) = 2 ^ 8 from rfl, ← Nat.two_pow_add_eq_or_of_lt hb]
theorem w_shl8 {x : Nat} (hx : x < 16777216) : IntKind.u32.wrap ((x : Int) * 2 ^ 8) = ((x * 256 : Nat) : Int) := by
 rw [w_shl, Nat.mod_eq_of_lt (by simp only [W32]; omega)]
theorem w_xor {a b : Nat} (ha : a < W32) (hb : b < W32) : Go.bits .xor .u32 (a : Int) (b : Int) = ((a ^^^ b : Nat) : Int) := by
 have h := u32_xor_nat a b ha hb
 exact h
abbrev V8 : Type := Nat × Nat × Nat × Nat × Nat × Nat × Nat × Nat
def stepF (k w : Nat) : V8 → V8
 | (a, b, c, d, e, f, g, h) => (((h + bsg1 e + chf e f g + k + w) % W32 + (bsg0 a + majf a b c) % W32) % W32, a, b, c, (d + (h + bsg1 e + chf e f g + k + w) % W32) % W32, e, f, g)
def KT : List Nat := [
 0x428a2f98, 0x71374491, 0xb5c0fbcf, 0xe9b5dba5, 0x3956c25b, 0x59f111f1, 0x923f82a4, 0xab1c5ed5, 0xd807aa98, 0x12835b01, 0x243185be, 0x550c7dc3, 0x72be5d74, 0x80deb1fe, 0x9bdc06a7, 0xc19bf174,
 0xe49b69c1, 0xefbe4786, 0x0fc19dc6, 0x240ca1cc, 0x2de92c6f, 0x4a7484aa, 0x5cb0a9dc, 0x76f988da, 0x983e5152, 0xa831c66d, 0xb00327c8, 0xbf597fc7, 0xc6e00bf3, 0xd5a79147, 0x06ca6351, 0x14292967,
 0x27b70a85, 0x2e1b2138, 0x4d2c6dfc, 0x53380d13, 0x650a7354, 0x766a0abb, 0x81c2c92e, 0x92722c85, 0xa2bfe8a1, 0xa81a664b, 0xc24b8b70, 0xc76c51a3, 0xd192e819, 0xd6990624, 0xf40e3585, 0x106aa070,
 0x19a4c116, 0x1e376c08, 0x2748774c, 0x34b0bcb5, 0x391c0cb3, 0x4ed8aa4a, 0x5b9cca4f, 0x682e6ff3, 0x748f82ee, 0x78a5636f, 0x84c87814, 0x8cc70208, 0x90befffa, 0xa4506ceb, 0xbef9a3f7, 0xc67178f2]
theorem KT_length : KT.length = 64 := by decide
def H0 : V8 := (0x6a09e667, 0xbb67ae85, 0x3c6ef372, 0xa54ff53a, 0x510e527f, 0x9b05688c, 0x1f83d9ab, 0x5be0cd19)
def shaR (p : List UInt8) (s : V8) : Nat → V8
 | 0 => s
 | i + 1 => stepF (KT.getD i 0) ((wsN p 64).getD i 0) (shaR p s i)
def add8 : V8 → V8 → V8
 | (a, b, c, d, e, f, g, h), (a', b', c', d', e', f', g', h') => ((a + a') % W32, (b + b') % W32, (c + c') % W32, (d + d') % W32, (e + e') % W32, (f + f') % W32, (g + g') % W32, (h + h') % W32)
def blockF (s : V8) (p : List UInt8) : V8 := add8 s (shaR p s 64)
def ok8 : V8 → Prop
 | (a, b, c, d, e, f, g, h) => a < W32 ∧ b < W32 ∧ c < W32 ∧ d < W32 ∧ e < W32 ∧ f < W32 ∧ g < W32 ∧ h < W32
theorem ok8_step {k w : Nat} {v : V8} (h : ok8 v) : ok8 (stepF k w v) := by
 obtain ⟨a, b, c, d, e, f, g, x⟩ := v
 obtain ⟨h1, h2, h3, h4, h5, h6, h7, h8⟩ := h
 exact ⟨Nat.mod_lt _ (by decide), h1, h2, h3, Nat.mod_lt _ (by decide), h5, h6, h7⟩
theorem ok8_rounds {p : List UInt8} {s : V8} (h : ok8 s) (i : Nat) : ok8 (shaR p s i) := by
 induction i with
 | zero => exact h
 | succ i ih => exact ok8_step ih
theorem ok8_add {s t : V8} : ok8 (add8 s t) := by
 obtain ⟨a, b, c, d, e, f, g, x⟩ := s
 obtain ⟨a', b', c', d', e', f', g', x'⟩ := t
 exact ⟨Nat.mod_lt _ (by decide), Nat.mod_lt _ (by decide), Nat.mod_lt _ (by decide), Nat.mod_lt _ (by decide), Nat.mod_lt _ (by decide), Nat.mod_lt _ (by decide), Nat.mod_lt _ (by decide), Nat.mod_lt _ (by decide)⟩
def v8c : V8 → List Value
 | (a, b, c, d, e, f, g, h) => [.int .u32 (a : Int), .int .u32 (b : Int), .int .u32 (c : Int), .int .u32 (d : Int), .int .u32 (e : Int), .int .u32 (f : Int), .int .u32 (g : Int), .int .u32 (h : Int)]
def blocks (m : List UInt8) : Nat → V8
 | 0 => H0
 | j + 1 => blockF (blocks m j) ((m.drop (64 * j)).take 64)
theorem ok8_blocks (m : List UInt8) (j : Nat) : ok8 (blocks m j) := by
 cases j with
 | zero =>
   show ok8 H0
   unfold H0 ok8
   simp only [W32]
   omega
 | succ j =>
   show ok8 (blockF (blocks m j) _)
   unfold blockF
   exact ok8_add
def padZ (n : Nat) : Nat := (119 - n % 64) % 64
def lenB (n : Nat) : Nat → List UInt8
 | 0 => []
 | k + 1 => lenB n k ++ [UInt8.ofNat (n * 8 / 2 ^ (56 - 8 * k))]
theorem lenB_length (n k : Nat) : (lenB n k).length = k := by
 induction k with
 | zero => rfl
 | succ k ih => rw [lenB, List.length_append, ih]; rfl
def padM (b : List UInt8) : List UInt8 := b ++ [128] ++ List.replicate (padZ b.length) 0 ++ lenB b.length 8
theorem padM_length (b : List UInt8) : (padM b).length = 64 * ((b.length + 1 + padZ b.length + 8) / 64) := by
 unfold padM padZ
 simp only [List.length_append, List.length_replicate, lenB_length, List.length_cons, List.length_nil]
 omega
def at8 : V8 → Nat → Nat
 | (a, b, c, d, e, f, g, h), i => [a, b, c, d, e, f, g, h].getD i 0
def outF (s : V8) : List UInt8 := (List.range 32).map fun i => UInt8.ofNat (at8 s (i / 4) / 2 ^ (24 - 8 * (i % 4)))
def sha (b : List UInt8) : List UInt8 := outF (blocks (padM b) ((padM b).length / 64))
end Go.Proofs.Ytdepaaphgfapjaa
