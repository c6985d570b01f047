/- CommandParses: the row. -/
import Derived.Test.YtkfhcogdpmndkaaZl5
set_option linter.unusedVariables false
namespace Go.Proofs.Ytkfhcogdpmndkaa
open Go.RowKit
theorem fields_ex (w : World) : Calls Try.prog 17 #[.int .u8 1] w fun e w' => e = .returned (.int .i64 4) ∧ Hp w [] [] w' := by
  refine calls_G (args := [.int .u8 1]) Try.func17 rfl Try.ntmps17 rfl ?_
  intro Q0 hRet hNor hPan
  have H := Hp.start w
  have H : Hp w [] [] w := H
  refine G.seqK fun K1 hK2 => ?_
  refine G.region ?_
  refine GL.run (j := 1) 1 [0] [(0, .int .u8 1)] (by kernel_rfl) rfl ?_
  refine GL.k rfl hK2 (fun _ _ h => h) ?_
  refine G.seqK fun K3 hK4 => ?_
  refine G.seqK fun K5 hK6 => ?_
  refine G.region ?_
  refine GL.run (j := 1) 1 [3] [(3, .int .u8 1)] (by kernel_rfl) rfl ?_
  refine GL.k rfl hK6 (fun _ _ h => h) ?_
  refine G.block ?_
  refine G.seqK fun K7 hK8 => ?_
  refine G.seqK fun K9 hK10 => ?_
  refine G.region ?_
  refine GL.run (j := 2) 2 [3, 4] [(3, .int .u8 1), (4, .bool true)] (by kernel_rfl) rfl ?_
  refine GL.k rfl hK10 (fun _ _ h => h) ?_
  refine G.yes rfl ?_
  refine G.skipK hK8 (fun _ _ h => h) ?_
  refine G.yes rfl ?_
  refine G.seqK fun K11 hK12 => ?_
  refine G.region ?_
  refine GL.run (j := 1) 1 [2] [(2, .int .i64 4)] (by kernel_rfl) rfl ?_
  refine GL.k rfl hK12 (fun _ _ h => h) ?_
  refine G.ret ?_
  intro F_ hF_ hM_
  refine hRet _ _ (bodyPost_1 rfl (RV.tmp rfl) ?_ F_ hF_ hM_)
  exact ⟨rfl, H.sub (List.nil_sublist _)⟩
theorem set_ex (w : World) : Calls Try.prog 18 #[.agg #[.int .u8 1, .int .u8 0, .int .u8 0, .int .u64 5, .int .u64 0, .int .u8 0, .int .u8 0, .int .u8 0, .int .u8 0, .int .u8 0, .int .u8 0, .int .u8 0, .int .u8 0, .int .u8 0, .int .u8 0, .int .u8 0, .int .u8 0, .int .u8 0, .int .u8 0, .int .u8 0, .int .u8 0, .int .u8 0, .int .u8 0, .int .u8 0, .int .u8 0, .bool false, .slice none 0 0]] w fun e w' => e = .returned (.int .i64 4) ∧ Hp w [] [] w' := by
  refine calls_G (args := [.agg #[.int .u8 1, .int .u8 0, .int .u8 0, .int .u64 5, .int .u64 0, .int .u8 0, .int .u8 0, .int .u8 0, .int .u8 0, .int .u8 0, .int .u8 0, .int .u8 0, .int .u8 0, .int .u8 0, .int .u8 0, .int .u8 0, .int .u8 0, .int .u8 0, .int .u8 0, .int .u8 0, .int .u8 0, .int .u8 0, .int .u8 0, .int .u8 0, .int .u8 0, .bool false, .slice none 0 0]]) Try.func18 rfl Try.ntmps18 rfl ?_
  intro Q0 hRet hNor hPan
  have H := Hp.start w
  have H : Hp w [] [] w := H
  refine G.seqK fun K1 hK2 => ?_
  refine G.region ?_
  obtain ⟨p3, w4, r5, H6⟩ := H.box (P := Try.prog) 28 [.int .u8 1, .int .u8 0, .int .u8 0, .int .u64 5, .int .u64 0, .int .u8 0, .int .u8 0, .int .u8 0, .int .u8 0, .int .u8 0, .int .u8 0, .int .u8 0, .int .u8 0, .int .u8 0, .int .u8 0, .int .u8 0, .int .u8 0, .int .u8 0, .int .u8 0, .int .u8 0, .int .u8 0, .int .u8 0, .int .u8 0, .int .u8 0, .int .u8 0, .bool false, .slice none 0 0] (.agg #[.int .u8 1, .int .u8 0, .int .u8 0, .int .u64 5, .int .u64 0, .int .u8 0, .int .u8 0, .int .u8 0, .int .u8 0, .int .u8 0, .int .u8 0, .int .u8 0, .int .u8 0, .int .u8 0, .int .u8 0, .int .u8 0, .int .u8 0, .int .u8 0, .int .u8 0, .int .u8 0, .int .u8 0, .int .u8 0, .int .u8 0, .int .u8 0, .int .u8 0, .bool false, .slice none 0 0]) rfl
  have H6 : Hp w [] [.blk p3 [.int .u8 1, .int .u8 0, .int .u8 0, .int .u64 5, .int .u64 0, .int .u8 0, .int .u8 0, .int .u8 0, .int .u8 0, .int .u8 0, .int .u8 0, .int .u8 0, .int .u8 0, .int .u8 0, .int .u8 0, .int .u8 0, .int .u8 0, .int .u8 0, .int .u8 0, .int .u8 0, .int .u8 0, .int .u8 0, .int .u8 0, .int .u8 0, .int .u8 0, .bool false, .slice none 0 0] 28] w4 := H6
  refine GL.sem (j := 1) (r5) [1] [(1, pt p3 0)] (by kernel_rfl) (by kernel_rfl) rfl ?_
  refine GL.run (j := 2) 1 [1] [(1, pt p3 0)] (by kernel_rfl) rfl ?_
  refine GL.k rfl hK2 (fun _ _ h => h) ?_
  refine G.seqK fun K7 hK8 => ?_
  refine G.region ?_
  refine GL.run (j := 1) 1 [1, 3] [(1, pt p3 0), (3, .int .i64 0)] (by kernel_rfl) rfl ?_
  refine GL.k rfl hK8 (fun _ _ h => h) ?_
  refine G.seqK fun K9 hK10 => ?_
  refine G.seqK fun K11 hK12 => ?_
  refine G.draw H6 (by kernel_rfl) (by kernel_rfl) ?_
  refine GQ.run (j := 1) 1 [1, 3, 6] [(1, pt p3 0), (3, .int .i64 0), (6, pt p3 1)] (by kernel_rfl) rfl ?_
  refine GQ.sem (j := 2) (fun w_ H_ => H_.ld (o := 1) (ty := 22) (v := .int .u8 0) 0 rfl (by kernel_rfl) rfl) [1, 3, 7] [(1, pt p3 0), (3, .int .i64 0), (7, .int .u8 0)] (by kernel_rfl) (by kernel_rfl) rfl ?_
  refine GQ.run (j := 4) 2 [1, 3, 8, 9] [(1, pt p3 0), (3, .int .i64 0), (8, .bool false), (9, pt p3 2)] (by kernel_rfl) rfl ?_
  refine GQ.sem (j := 5) (fun w_ H_ => H_.ld (o := 2) (ty := 22) (v := .int .u8 0) 0 rfl (by kernel_rfl) rfl) [1, 3, 8, 10] [(1, pt p3 0), (3, .int .i64 0), (8, .bool false), (10, .int .u8 0)] (by kernel_rfl) (by kernel_rfl) rfl ?_
  refine GQ.run (j := 7) 2 [1, 3, 8, 11, 12] [(1, pt p3 0), (3, .int .i64 0), (8, .bool false), (11, .bool false), (12, pt p3 3)] (by kernel_rfl) rfl ?_
  refine GQ.sem (j := 8) (fun w_ H_ => H_.ld (o := 3) (ty := 23) (v := .int .u64 5) 0 rfl (by kernel_rfl) rfl) [1, 3, 8, 11, 13] [(1, pt p3 0), (3, .int .i64 0), (8, .bool false), (11, .bool false), (13, .int .u64 5)] (by kernel_rfl) (by kernel_rfl) rfl ?_
  refine GQ.run (j := 10) 2 [1, 3, 8, 11, 14, 15] [(1, pt p3 0), (3, .int .i64 0), (8, .bool false), (11, .bool false), (14, .bool true), (15, pt p3 4)] (by kernel_rfl) rfl ?_
  refine GQ.sem (j := 11) (fun w_ H_ => H_.ld (o := 4) (ty := 23) (v := .int .u64 0) 0 rfl (by kernel_rfl) rfl) [1, 3, 8, 11, 14, 16] [(1, pt p3 0), (3, .int .i64 0), (8, .bool false), (11, .bool false), (14, .bool true), (16, .int .u64 0)] (by kernel_rfl) (by kernel_rfl) rfl ?_
  refine GQ.run (j := 13) 2 [1, 3, 8, 11, 14, 17, 18] [(1, pt p3 0), (3, .int .i64 0), (8, .bool false), (11, .bool false), (14, .bool true), (17, .bool false), (18, pt p3 5)] (by kernel_rfl) rfl ?_
  refine GQ.sem (j := 14) (fun w_ H_ => H_.ldA (o := 5) (ty := 25) (m := 20) (sub := [.int .u8 0, .int .u8 0, .int .u8 0, .int .u8 0, .int .u8 0, .int .u8 0, .int .u8 0, .int .u8 0, .int .u8 0, .int .u8 0, .int .u8 0, .int .u8 0, .int .u8 0, .int .u8 0, .int .u8 0, .int .u8 0, .int .u8 0, .int .u8 0, .int .u8 0, .int .u8 0]) 0 rfl (by kernel_rfl) rfl rfl) [1, 3, 8, 11, 14, 17, 19] [(1, pt p3 0), (3, .int .i64 0), (8, .bool false), (11, .bool false), (14, .bool true), (17, .bool false), (19, .agg #[.int .u8 0, .int .u8 0, .int .u8 0, .int .u8 0, .int .u8 0, .int .u8 0, .int .u8 0, .int .u8 0, .int .u8 0, .int .u8 0, .int .u8 0, .int .u8 0, .int .u8 0, .int .u8 0, .int .u8 0, .int .u8 0, .int .u8 0, .int .u8 0, .int .u8 0, .int .u8 0])] (by kernel_rfl) (by kernel_rfl) rfl ?_
  refine GQ.run (j := 15) 1 [1, 3, 8, 11, 14, 17, 19, 20] [(1, pt p3 0), (3, .int .i64 0), (8, .bool false), (11, .bool false), (14, .bool true), (17, .bool false), (19, .agg #[.int .u8 0, .int .u8 0, .int .u8 0, .int .u8 0, .int .u8 0, .int .u8 0, .int .u8 0, .int .u8 0, .int .u8 0, .int .u8 0, .int .u8 0, .int .u8 0, .int .u8 0, .int .u8 0, .int .u8 0, .int .u8 0, .int .u8 0, .int .u8 0, .int .u8 0, .int .u8 0]), (20, .agg #[.int .u8 0, .int .u8 0, .int .u8 0, .int .u8 0, .int .u8 0, .int .u8 0, .int .u8 0, .int .u8 0, .int .u8 0, .int .u8 0, .int .u8 0, .int .u8 0, .int .u8 0, .int .u8 0, .int .u8 0, .int .u8 0, .int .u8 0, .int .u8 0, .int .u8 0, .int .u8 0])] (by kernel_rfl) rfl ?_
  refine GQ.sem (j := 16) (fun w_ H_ => run_arr_neq (P := Try.prog) (t := 25) (n := 20) (k := .u8) (x := (.tmp 19)) (y := (.tmp 20)) (by kernel_rfl) [0, 0, 0, 0, 0, 0, 0, 0, 0, 0, 0, 0, 0, 0, 0, 0, 0, 0, 0, 0] [0, 0, 0, 0, 0, 0, 0, 0, 0, 0, 0, 0, 0, 0, 0, 0, 0, 0, 0, 0] rfl rfl _) [1, 3, 8, 11, 14, 17, 21] [(1, pt p3 0), (3, .int .i64 0), (8, .bool false), (11, .bool false), (14, .bool true), (17, .bool false), (21, .bool false)] (by kernel_rfl) (by kernel_rfl) rfl ?_
  refine GQ.run (j := 17) 1 [1, 3, 8, 11, 14, 17, 21, 22] [(1, pt p3 0), (3, .int .i64 0), (8, .bool false), (11, .bool false), (14, .bool true), (17, .bool false), (21, .bool false), (22, pt p3 25)] (by kernel_rfl) rfl ?_
  refine GQ.sem (j := 18) (fun w_ H_ => H_.ld (o := 25) (ty := 4) (v := .bool false) 0 rfl (by kernel_rfl) rfl) [1, 3, 8, 11, 14, 17, 21, 23] [(1, pt p3 0), (3, .int .i64 0), (8, .bool false), (11, .bool false), (14, .bool true), (17, .bool false), (21, .bool false), (23, .bool false)] (by kernel_rfl) (by kernel_rfl) rfl ?_
  refine GQ.run (j := 19) 1 [3, 8, 11, 14, 17, 21, 23, 24] [(3, .int .i64 0), (8, .bool false), (11, .bool false), (14, .bool true), (17, .bool false), (21, .bool false), (23, .bool false), (24, pt p3 26)] (by kernel_rfl) rfl ?_
  refine GQ.sem (j := 20) (fun w_ H_ => H_.ld (o := 26) (ty := 26) (v := .slice none 0 0) 0 rfl (by kernel_rfl) rfl) [3, 8, 11, 14, 17, 21, 23, 25] [(3, .int .i64 0), (8, .bool false), (11, .bool false), (14, .bool true), (17, .bool false), (21, .bool false), (23, .bool false), (25, .slice none 0 0)] (by kernel_rfl) (by kernel_rfl) rfl ?_
  refine GQ.run (j := 24) 4 [3, 28, 29] [(3, .int .i64 0), (28, .agg #[.bool false, .bool false, .bool true, .bool false, .bool false, .bool false, .bool false]), (29, .int .i64 0)] (by kernel_rfl) rfl ?_
  refine GQ.k rfl hK12 (fun _ _ h => h) (fun w13 H14 => ?_)
  refine G.block ?_
  refine G.unroll 7 ?_
  refine G.seqK fun K15 hK16 => ?_
  refine G.region ?_
  refine GL.run (j := 1) 1 [3, 28, 29, 30] [(3, .int .i64 0), (28, .agg #[.bool false, .bool false, .bool true, .bool false, .bool false, .bool false, .bool false]), (29, .int .i64 0), (30, .bool true)] (by kernel_rfl) rfl ?_
  refine GL.k rfl hK16 (fun _ _ h => h) ?_
  refine G.seqK fun K17 hK18 => ?_
  refine G.yes rfl ?_
  refine G.skipK hK18 (fun _ _ h => h) ?_
  refine G.seqK fun K19 hK20 => ?_
  refine G.block ?_
  refine G.seqK fun K21 hK22 => ?_
  refine G.region ?_
  refine GL.run (j := 4) 4 [3, 4, 5, 28, 29] [(3, .int .i64 0), (4, .int .i64 0), (5, .bool false), (28, .agg #[.bool false, .bool false, .bool true, .bool false, .bool false, .bool false, .bool false]), (29, .int .i64 0)] (by kernel_rfl) rfl ?_
  refine GL.k rfl hK22 (fun _ _ h => h) ?_
  refine G.seqK fun K23 hK24 => ?_
  refine G.region ?_
  refine GL.run (j := 1) 1 [3, 4, 28, 29, 33] [(3, .int .i64 0), (4, .int .i64 0), (28, .agg #[.bool false, .bool false, .bool true, .bool false, .bool false, .bool false, .bool false]), (29, .int .i64 0), (33, .bool false)] (by kernel_rfl) rfl ?_
  refine GL.k rfl hK24 (fun _ _ h => h) ?_
  refine G.no rfl ?_
  refine G.skipK hK20 (fun _ _ h => h) ?_
  refine G.region ?_
  refine GL.run (j := 2) 2 [3, 28, 29] [(3, .int .i64 0), (28, .agg #[.bool false, .bool false, .bool true, .bool false, .bool false, .bool false, .bool false]), (29, .int .i64 1)] (by kernel_rfl) rfl ?_
  refine GL.round rfl ?_
  refine G.seqK fun K25 hK26 => ?_
  refine G.region ?_
  refine GL.run (j := 1) 1 [3, 28, 29, 30] [(3, .int .i64 0), (28, .agg #[.bool false, .bool false, .bool true, .bool false, .bool false, .bool false, .bool false]), (29, .int .i64 1), (30, .bool true)] (by kernel_rfl) rfl ?_
  refine GL.k rfl hK26 (fun _ _ h => h) ?_
  refine G.seqK fun K27 hK28 => ?_
  refine G.yes rfl ?_
  refine G.skipK hK28 (fun _ _ h => h) ?_
  refine G.seqK fun K29 hK30 => ?_
  refine G.block ?_
  refine G.seqK fun K31 hK32 => ?_
  refine G.region ?_
  refine GL.run (j := 4) 4 [3, 4, 5, 28, 29] [(3, .int .i64 0), (4, .int .i64 1), (5, .bool false), (28, .agg #[.bool false, .bool false, .bool true, .bool false, .bool false, .bool false, .bool false]), (29, .int .i64 1)] (by kernel_rfl) rfl ?_
  refine GL.k rfl hK32 (fun _ _ h => h) ?_
  refine G.seqK fun K33 hK34 => ?_
  refine G.region ?_
  refine GL.run (j := 1) 1 [3, 4, 28, 29, 33] [(3, .int .i64 0), (4, .int .i64 1), (28, .agg #[.bool false, .bool false, .bool true, .bool false, .bool false, .bool false, .bool false]), (29, .int .i64 1), (33, .bool false)] (by kernel_rfl) rfl ?_
  refine GL.k rfl hK34 (fun _ _ h => h) ?_
  refine G.no rfl ?_
  refine G.skipK hK30 (fun _ _ h => h) ?_
  refine G.region ?_
  refine GL.run (j := 2) 2 [3, 28, 29] [(3, .int .i64 0), (28, .agg #[.bool false, .bool false, .bool true, .bool false, .bool false, .bool false, .bool false]), (29, .int .i64 2)] (by kernel_rfl) rfl ?_
  refine GL.round rfl ?_
  refine G.seqK fun K35 hK36 => ?_
  refine G.region ?_
  refine GL.run (j := 1) 1 [3, 28, 29, 30] [(3, .int .i64 0), (28, .agg #[.bool false, .bool false, .bool true, .bool false, .bool false, .bool false, .bool false]), (29, .int .i64 2), (30, .bool true)] (by kernel_rfl) rfl ?_
  refine GL.k rfl hK36 (fun _ _ h => h) ?_
  refine G.seqK fun K37 hK38 => ?_
  refine G.yes rfl ?_
  refine G.skipK hK38 (fun _ _ h => h) ?_
  refine G.seqK fun K39 hK40 => ?_
  refine G.block ?_
  refine G.seqK fun K41 hK42 => ?_
  refine G.region ?_
  refine GL.run (j := 4) 4 [3, 4, 5, 28, 29] [(3, .int .i64 0), (4, .int .i64 2), (5, .bool true), (28, .agg #[.bool false, .bool false, .bool true, .bool false, .bool false, .bool false, .bool false]), (29, .int .i64 2)] (by kernel_rfl) rfl ?_
  refine GL.k rfl hK42 (fun _ _ h => h) ?_
  refine G.seqK fun K43 hK44 => ?_
  refine G.region ?_
  refine GL.run (j := 1) 1 [3, 4, 28, 29, 33] [(3, .int .i64 0), (4, .int .i64 2), (28, .agg #[.bool false, .bool false, .bool true, .bool false, .bool false, .bool false, .bool false]), (29, .int .i64 2), (33, .bool true)] (by kernel_rfl) rfl ?_
  refine GL.k rfl hK44 (fun _ _ h => h) ?_
  refine G.yes rfl ?_
  refine G.region ?_
  refine GL.run (j := 5) 5 [3, 28, 29] [(3, .int .i64 4), (28, .agg #[.bool false, .bool false, .bool true, .bool false, .bool false, .bool false, .bool false]), (29, .int .i64 2)] (by kernel_rfl) rfl ?_
  refine GL.k rfl hK40 (fun _ _ h => h) ?_
  refine G.region ?_
  refine GL.run (j := 2) 2 [3, 28, 29] [(3, .int .i64 4), (28, .agg #[.bool false, .bool false, .bool true, .bool false, .bool false, .bool false, .bool false]), (29, .int .i64 3)] (by kernel_rfl) rfl ?_
  refine GL.round rfl ?_
  refine G.seqK fun K45 hK46 => ?_
  refine G.region ?_
  refine GL.run (j := 1) 1 [3, 28, 29, 30] [(3, .int .i64 4), (28, .agg #[.bool false, .bool false, .bool true, .bool false, .bool false, .bool false, .bool false]), (29, .int .i64 3), (30, .bool true)] (by kernel_rfl) rfl ?_
  refine GL.k rfl hK46 (fun _ _ h => h) ?_
  refine G.seqK fun K47 hK48 => ?_
  refine G.yes rfl ?_
  refine G.skipK hK48 (fun _ _ h => h) ?_
  refine G.seqK fun K49 hK50 => ?_
  refine G.block ?_
  refine G.seqK fun K51 hK52 => ?_
  refine G.region ?_
  refine GL.run (j := 4) 4 [3, 4, 5, 28, 29] [(3, .int .i64 4), (4, .int .i64 3), (5, .bool false), (28, .agg #[.bool false, .bool false, .bool true, .bool false, .bool false, .bool false, .bool false]), (29, .int .i64 3)] (by kernel_rfl) rfl ?_
  refine GL.k rfl hK52 (fun _ _ h => h) ?_
  refine G.seqK fun K53 hK54 => ?_
  refine G.region ?_
  refine GL.run (j := 1) 1 [3, 4, 28, 29, 33] [(3, .int .i64 4), (4, .int .i64 3), (28, .agg #[.bool false, .bool false, .bool true, .bool false, .bool false, .bool false, .bool false]), (29, .int .i64 3), (33, .bool false)] (by kernel_rfl) rfl ?_
  refine GL.k rfl hK54 (fun _ _ h => h) ?_
  refine G.no rfl ?_
  refine G.skipK hK50 (fun _ _ h => h) ?_
  refine G.region ?_
  refine GL.run (j := 2) 2 [3, 28, 29] [(3, .int .i64 4), (28, .agg #[.bool false, .bool false, .bool true, .bool false, .bool false, .bool false, .bool false]), (29, .int .i64 4)] (by kernel_rfl) rfl ?_
  refine GL.round rfl ?_
  refine G.seqK fun K55 hK56 => ?_
  refine G.region ?_
  refine GL.run (j := 1) 1 [3, 28, 29, 30] [(3, .int .i64 4), (28, .agg #[.bool false, .bool false, .bool true, .bool false, .bool false, .bool false, .bool false]), (29, .int .i64 4), (30, .bool true)] (by kernel_rfl) rfl ?_
  refine GL.k rfl hK56 (fun _ _ h => h) ?_
  refine G.seqK fun K57 hK58 => ?_
  refine G.yes rfl ?_
  refine G.skipK hK58 (fun _ _ h => h) ?_
  refine G.seqK fun K59 hK60 => ?_
  refine G.block ?_
  refine G.seqK fun K61 hK62 => ?_
  refine G.region ?_
  refine GL.run (j := 4) 4 [3, 4, 5, 28, 29] [(3, .int .i64 4), (4, .int .i64 4), (5, .bool false), (28, .agg #[.bool false, .bool false, .bool true, .bool false, .bool false, .bool false, .bool false]), (29, .int .i64 4)] (by kernel_rfl) rfl ?_
  refine GL.k rfl hK62 (fun _ _ h => h) ?_
  refine G.seqK fun K63 hK64 => ?_
  refine G.region ?_
  refine GL.run (j := 1) 1 [3, 4, 28, 29, 33] [(3, .int .i64 4), (4, .int .i64 4), (28, .agg #[.bool false, .bool false, .bool true, .bool false, .bool false, .bool false, .bool false]), (29, .int .i64 4), (33, .bool false)] (by kernel_rfl) rfl ?_
  refine GL.k rfl hK64 (fun _ _ h => h) ?_
  refine G.no rfl ?_
  refine G.skipK hK60 (fun _ _ h => h) ?_
  refine G.region ?_
  refine GL.run (j := 2) 2 [3, 28, 29] [(3, .int .i64 4), (28, .agg #[.bool false, .bool false, .bool true, .bool false, .bool false, .bool false, .bool false]), (29, .int .i64 5)] (by kernel_rfl) rfl ?_
  refine GL.round rfl ?_
  refine G.seqK fun K65 hK66 => ?_
  refine G.region ?_
  refine GL.run (j := 1) 1 [3, 28, 29, 30] [(3, .int .i64 4), (28, .agg #[.bool false, .bool false, .bool true, .bool false, .bool false, .bool false, .bool false]), (29, .int .i64 5), (30, .bool true)] (by kernel_rfl) rfl ?_
  refine GL.k rfl hK66 (fun _ _ h => h) ?_
  refine G.seqK fun K67 hK68 => ?_
  refine G.yes rfl ?_
  refine G.skipK hK68 (fun _ _ h => h) ?_
  refine G.seqK fun K69 hK70 => ?_
  refine G.block ?_
  refine G.seqK fun K71 hK72 => ?_
  refine G.region ?_
  refine GL.run (j := 4) 4 [3, 4, 5, 28, 29] [(3, .int .i64 4), (4, .int .i64 5), (5, .bool false), (28, .agg #[.bool false, .bool false, .bool true, .bool false, .bool false, .bool false, .bool false]), (29, .int .i64 5)] (by kernel_rfl) rfl ?_
  refine GL.k rfl hK72 (fun _ _ h => h) ?_
  refine G.seqK fun K73 hK74 => ?_
  refine G.region ?_
  refine GL.run (j := 1) 1 [3, 4, 28, 29, 33] [(3, .int .i64 4), (4, .int .i64 5), (28, .agg #[.bool false, .bool false, .bool true, .bool false, .bool false, .bool false, .bool false]), (29, .int .i64 5), (33, .bool false)] (by kernel_rfl) rfl ?_
  refine GL.k rfl hK74 (fun _ _ h => h) ?_
  refine G.no rfl ?_
  refine G.skipK hK70 (fun _ _ h => h) ?_
  refine G.region ?_
  refine GL.run (j := 2) 2 [3, 28, 29] [(3, .int .i64 4), (28, .agg #[.bool false, .bool false, .bool true, .bool false, .bool false, .bool false, .bool false]), (29, .int .i64 6)] (by kernel_rfl) rfl ?_
  refine GL.round rfl ?_
  refine G.seqK fun K75 hK76 => ?_
  refine G.region ?_
  refine GL.run (j := 1) 1 [3, 28, 29, 30] [(3, .int .i64 4), (28, .agg #[.bool false, .bool false, .bool true, .bool false, .bool false, .bool false, .bool false]), (29, .int .i64 6), (30, .bool true)] (by kernel_rfl) rfl ?_
  refine GL.k rfl hK76 (fun _ _ h => h) ?_
  refine G.seqK fun K77 hK78 => ?_
  refine G.yes rfl ?_
  refine G.skipK hK78 (fun _ _ h => h) ?_
  refine G.seqK fun K79 hK80 => ?_
  refine G.block ?_
  refine G.seqK fun K81 hK82 => ?_
  refine G.region ?_
  refine GL.run (j := 4) 4 [3, 4, 5, 28, 29] [(3, .int .i64 4), (4, .int .i64 6), (5, .bool false), (28, .agg #[.bool false, .bool false, .bool true, .bool false, .bool false, .bool false, .bool false]), (29, .int .i64 6)] (by kernel_rfl) rfl ?_
  refine GL.k rfl hK82 (fun _ _ h => h) ?_
  refine G.seqK fun K83 hK84 => ?_
  refine G.region ?_
  refine GL.run (j := 1) 1 [3, 4, 28, 29, 33] [(3, .int .i64 4), (4, .int .i64 6), (28, .agg #[.bool false, .bool false, .bool true, .bool false, .bool false, .bool false, .bool false]), (29, .int .i64 6), (33, .bool false)] (by kernel_rfl) rfl ?_
  refine GL.k rfl hK84 (fun _ _ h => h) ?_
  refine G.no rfl ?_
  refine G.skipK hK80 (fun _ _ h => h) ?_
  refine G.region ?_
  refine GL.run (j := 2) 2 [3, 28, 29] [(3, .int .i64 4), (28, .agg #[.bool false, .bool false, .bool true, .bool false, .bool false, .bool false, .bool false]), (29, .int .i64 7)] (by kernel_rfl) rfl ?_
  refine GL.round rfl ?_
  refine G.seqK fun K85 hK86 => ?_
  refine G.region ?_
  refine GL.run (j := 1) 1 [3, 28, 29, 30] [(3, .int .i64 4), (28, .agg #[.bool false, .bool false, .bool true, .bool false, .bool false, .bool false, .bool false]), (29, .int .i64 7), (30, .bool false)] (by kernel_rfl) rfl ?_
  refine GL.k rfl hK86 (fun _ _ h => h) ?_
  refine G.seqK fun K87 hK88 => ?_
  refine G.no rfl ?_
  refine G.exitK hK10 (fun _ _ h => h) ?_
  refine G.seqK fun K89 hK90 => ?_
  refine G.region ?_
  refine GL.run (j := 2) 2 [2] [(2, .int .i64 4)] (by kernel_rfl) rfl ?_
  refine GL.k rfl hK90 (fun _ _ h => h) ?_
  refine G.ret ?_
  intro F_ hF_ hM_
  refine hRet _ _ (bodyPost_1 rfl (RV.tmp rfl) ?_ F_ hF_ hM_)
  exact ⟨rfl, H14.sub (List.nil_sublist _)⟩
theorem Bytes_ex (w : World) : Calls Try.prog 8 #[.agg #[.int .u8 1, .int .u8 0, .int .u8 0, .int .u64 5, .int .u64 0, .int .u8 0, .int .u8 0, .int .u8 0, .int .u8 0, .int .u8 0, .int .u8 0, .int .u8 0, .int .u8 0, .int .u8 0, .int .u8 0, .int .u8 0, .int .u8 0, .int .u8 0, .int .u8 0, .int .u8 0, .int .u8 0, .int .u8 0, .int .u8 0, .int .u8 0, .int .u8 0, .bool false, .slice none 0 0]] w fun e w' => ∃ A c, e = .returned (.tuple #[.slice A 9 c, .int .i64 0]) ∧ Hp w [] [.row A 9 c 5 1 (by8 (putB 1 1 ++ putB 5 8))] w' := by
  refine calls_G (args := [.agg #[.int .u8 1, .int .u8 0, .int .u8 0, .int .u64 5, .int .u64 0, .int .u8 0, .int .u8 0, .int .u8 0, .int .u8 0, .int .u8 0, .int .u8 0, .int .u8 0, .int .u8 0, .int .u8 0, .int .u8 0, .int .u8 0, .int .u8 0, .int .u8 0, .int .u8 0, .int .u8 0, .int .u8 0, .int .u8 0, .int .u8 0, .int .u8 0, .int .u8 0, .bool false, .slice none 0 0]]) Try.func8 rfl Try.ntmps8 rfl ?_
  intro Q0 hRet hNor hPan
  have H := Hp.start w
  have H : Hp w [] [] w := H
  refine G.seqK fun K1 hK2 => ?_
  refine G.region ?_
  obtain ⟨p3, w4, r5, H6⟩ := H.box (P := Try.prog) 28 [.int .u8 1, .int .u8 0, .int .u8 0, .int .u64 5, .int .u64 0, .int .u8 0, .int .u8 0, .int .u8 0, .int .u8 0, .int .u8 0, .int .u8 0, .int .u8 0, .int .u8 0, .int .u8 0, .int .u8 0, .int .u8 0, .int .u8 0, .int .u8 0, .int .u8 0, .int .u8 0, .int .u8 0, .int .u8 0, .int .u8 0, .int .u8 0, .int .u8 0, .bool false, .slice none 0 0] (.agg #[.int .u8 1, .int .u8 0, .int .u8 0, .int .u64 5, .int .u64 0, .int .u8 0, .int .u8 0, .int .u8 0, .int .u8 0, .int .u8 0, .int .u8 0, .int .u8 0, .int .u8 0, .int .u8 0, .int .u8 0, .int .u8 0, .int .u8 0, .int .u8 0, .int .u8 0, .int .u8 0, .int .u8 0, .int .u8 0, .int .u8 0, .int .u8 0, .int .u8 0, .bool false, .slice none 0 0]) rfl
  have H6 : Hp w [] [.blk p3 [.int .u8 1, .int .u8 0, .int .u8 0, .int .u64 5, .int .u64 0, .int .u8 0, .int .u8 0, .int .u8 0, .int .u8 0, .int .u8 0, .int .u8 0, .int .u8 0, .int .u8 0, .int .u8 0, .int .u8 0, .int .u8 0, .int .u8 0, .int .u8 0, .int .u8 0, .int .u8 0, .int .u8 0, .int .u8 0, .int .u8 0, .int .u8 0, .int .u8 0, .bool false, .slice none 0 0] 28] w4 := H6
  refine GL.sem (j := 1) (r5) [1] [(1, pt p3 0)] (by kernel_rfl) (by kernel_rfl) rfl ?_
  refine GL.run (j := 3) 2 [1] [(1, pt p3 0)] (by kernel_rfl) rfl ?_
  refine GL.k rfl hK2 (fun _ _ h => h) ?_
  refine G.seqK fun K7 hK8 => ?_
  refine G.region ?_
  refine GL.run (j := 1) 1 [1, 8] [(1, pt p3 0), (8, pt p3 0)] (by kernel_rfl) rfl ?_
  refine GL.sem (j := 2) (H6.ld (o := 0) (ty := 5) (v := .int .u8 1) 0 rfl (by kernel_rfl) rfl) [1, 9] [(1, pt p3 0), (9, .int .u8 1)] (by kernel_rfl) (by kernel_rfl) rfl ?_
  refine GL.call (j := 3) (fields_ex w4) (by kernel_rfl) rfl (fun e_ w9 hR => ?_)
  obtain ⟨rfl, H11⟩ := hR
  have H10 : Hp w [] [.blk p3 [.int .u8 1, .int .u8 0, .int .u8 0, .int .u64 5, .int .u64 0, .int .u8 0, .int .u8 0, .int .u8 0, .int .u8 0, .int .u8 0, .int .u8 0, .int .u8 0, .int .u8 0, .int .u8 0, .int .u8 0, .int .u8 0, .int .u8 0, .int .u8 0, .int .u8 0, .int .u8 0, .int .u8 0, .int .u8 0, .int .u8 0, .int .u8 0, .int .u8 0, .bool false, .slice none 0 0] 28] w9 := H6.callNil H11
  refine ⟨_, rfl, [1, 10], [(1, pt p3 0), (10, .int .i64 4)], by kernel_rfl, ?_⟩
  refine GL.run (j := 4) 1 [1, 4] [(1, pt p3 0), (4, .int .i64 4)] (by kernel_rfl) rfl ?_
  refine GL.k rfl hK8 (fun _ _ h => h) ?_
  refine G.seqK fun K12 hK13 => ?_
  refine G.block ?_
  refine G.seqK fun K14 hK15 => ?_
  refine G.region ?_
  refine GL.run (j := 3) 3 [1, 4, 14] [(1, pt p3 0), (4, .int .i64 4), (14, .bool false)] (by kernel_rfl) rfl ?_
  refine GL.sem (j := 4) (H10.ldA (o := 0) (ty := 28) (m := 27) (sub := [.int .u8 1, .int .u8 0, .int .u8 0, .int .u64 5, .int .u64 0, .int .u8 0, .int .u8 0, .int .u8 0, .int .u8 0, .int .u8 0, .int .u8 0, .int .u8 0, .int .u8 0, .int .u8 0, .int .u8 0, .int .u8 0, .int .u8 0, .int .u8 0, .int .u8 0, .int .u8 0, .int .u8 0, .int .u8 0, .int .u8 0, .int .u8 0, .int .u8 0, .bool false, .slice none 0 0]) 0 rfl (by kernel_rfl) rfl rfl) [1, 4, 14, 15] [(1, pt p3 0), (4, .int .i64 4), (14, .bool false), (15, .agg #[.int .u8 1, .int .u8 0, .int .u8 0, .int .u64 5, .int .u64 0, .int .u8 0, .int .u8 0, .int .u8 0, .int .u8 0, .int .u8 0, .int .u8 0, .int .u8 0, .int .u8 0, .int .u8 0, .int .u8 0, .int .u8 0, .int .u8 0, .int .u8 0, .int .u8 0, .int .u8 0, .int .u8 0, .int .u8 0, .int .u8 0, .int .u8 0, .int .u8 0, .bool false, .slice none 0 0])] (by kernel_rfl) (by kernel_rfl) rfl ?_
  refine GL.call (j := 5) (set_ex w9) (by kernel_rfl) rfl (fun e_ w16 hR => ?_)
  obtain ⟨rfl, H18⟩ := hR
  have H17 : Hp w [] [.blk p3 [.int .u8 1, .int .u8 0, .int .u8 0, .int .u64 5, .int .u64 0, .int .u8 0, .int .u8 0, .int .u8 0, .int .u8 0, .int .u8 0, .int .u8 0, .int .u8 0, .int .u8 0, .int .u8 0, .int .u8 0, .int .u8 0, .int .u8 0, .int .u8 0, .int .u8 0, .int .u8 0, .int .u8 0, .int .u8 0, .int .u8 0, .int .u8 0, .int .u8 0, .bool false, .slice none 0 0] 28] w16 := H10.callNil H18
  refine ⟨_, rfl, [1, 4, 14, 16], [(1, pt p3 0), (4, .int .i64 4), (14, .bool false), (16, .int .i64 4)], by kernel_rfl, ?_⟩
  refine GL.run (j := 10) 5 [1, 4, 11] [(1, pt p3 0), (4, .int .i64 4), (11, .bool false)] (by kernel_rfl) rfl ?_
  refine GL.k rfl hK15 (fun _ _ h => h) ?_
  refine G.no rfl ?_
  refine G.seqK fun K19 hK20 => ?_
  refine G.region ?_
  refine GL.run (j := 1) 1 [1, 4, 22] [(1, pt p3 0), (4, .int .i64 4), (22, pt p3 26)] (by kernel_rfl) rfl ?_
  refine GL.sem (j := 2) (H17.ld (o := 26) (ty := 26) (v := .slice none 0 0) 0 rfl (by kernel_rfl) rfl) [1, 4, 23] [(1, pt p3 0), (4, .int .i64 4), (23, .slice none 0 0)] (by kernel_rfl) (by kernel_rfl) rfl ?_
  refine GL.run (j := 5) 3 [1, 4, 21] [(1, pt p3 0), (4, .int .i64 4), (21, .bool false)] (by kernel_rfl) rfl ?_
  refine GL.k rfl hK20 (fun _ _ h => h) ?_
  refine G.no rfl ?_
  refine G.skipK hK13 (fun _ _ h => h) ?_
  refine G.seqK fun K21 hK22 => ?_
  refine G.region ?_
  obtain ⟨p23, w24, r25, H26⟩ := H17.alloc (P := Try.prog) 53 [.slice none 0 0] (by kernel_rfl)
  have H26 : Hp w [] [.blk p3 [.int .u8 1, .int .u8 0, .int .u8 0, .int .u64 5, .int .u64 0, .int .u8 0, .int .u8 0, .int .u8 0, .int .u8 0, .int .u8 0, .int .u8 0, .int .u8 0, .int .u8 0, .int .u8 0, .int .u8 0, .int .u8 0, .int .u8 0, .int .u8 0, .int .u8 0, .int .u8 0, .int .u8 0, .int .u8 0, .int .u8 0, .int .u8 0, .int .u8 0, .bool false, .slice none 0 0] 28, .blk p23 [.slice none 0 0] 53] w24 := H26
  refine GL.sem (j := 1) (r25) [1, 4, 5] [(1, pt p3 0), (4, .int .i64 4), (5, pt p23 0)] (by kernel_rfl) (by kernel_rfl) rfl ?_
  refine GL.k rfl hK22 (fun _ _ h => h) ?_
  refine G.seqK fun K27 hK28 => ?_
  refine G.region ?_
  refine GL.run (j := 1) 1 [1, 4, 5, 26] [(1, pt p3 0), (4, .int .i64 4), (5, pt p23 0), (26, pt p3 0)] (by kernel_rfl) rfl ?_
  refine GL.sem (j := 2) (H26.ld (o := 0) (ty := 5) (v := .int .u8 1) 0 rfl (by kernel_rfl) rfl) [1, 4, 5, 27] [(1, pt p3 0), (4, .int .i64 4), (5, pt p23 0), (27, .int .u8 1)] (by kernel_rfl) (by kernel_rfl) rfl ?_
  refine GL.run (j := 3) 1 [1, 4, 5, 28] [(1, pt p3 0), (4, .int .i64 4), (5, pt p23 0), (28, .int .u64 1)] (by kernel_rfl) rfl ?_
  have H29 := H26.rowNil 5 1
  have H29 : Hp w [] [.blk p3 [.int .u8 1, .int .u8 0, .int .u8 0, .int .u64 5, .int .u64 0, .int .u8 0, .int .u8 0, .int .u8 0, .int .u8 0, .int .u8 0, .int .u8 0, .int .u8 0, .int .u8 0, .int .u8 0, .int .u8 0, .int .u8 0, .int .u8 0, .int .u8 0, .int .u8 0, .int .u8 0, .int .u8 0, .int .u8 0, .int .u8 0, .int .u8 0, .int .u8 0, .bool false, .slice none 0 0] 28, .blk p23 [.slice none 0 0] 53, .row none 0 0 5 1 (by8 ([] : List UInt8))] w24 := H29
  have H32 := (Hp.reorder (L' := [.blk p23 [.slice none 0 0] 53, .row none 0 0 5 1 (by8 ([] : List UInt8)), .blk p3 [.int .u8 1, .int .u8 0, .int .u8 0, .int .u64 5, .int .u64 0, .int .u8 0, .int .u8 0, .int .u8 0, .int .u8 0, .int .u8 0, .int .u8 0, .int .u8 0, .int .u8 0, .int .u8 0, .int .u8 0, .int .u8 0, .int .u8 0, .int .u8 0, .int .u8 0, .int .u8 0, .int .u8 0, .int .u8 0, .int .u8 0, .int .u8 0, .int .u8 0, .bool false, .slice none 0 0] 28]) H29 (List.Perm.trans (List.Perm.swap _ _ _) (List.Perm.cons _ (List.Perm.trans (List.Perm.swap _ _ _) (List.Perm.refl _)))))
  refine GL.call (j := 4) (Put1_calls (ids [.blk p23 [.slice none 0 0] 53, .row none 0 0 5 1 (by8 ([] : List UInt8))]) p23 none 0 0 ([] : List UInt8) 1 w24 (Hp.startL (A := [.blk p23 [.slice none 0 0] 53, .row none 0 0 5 1 (by8 ([] : List UInt8))]) (B := [.blk p3 [.int .u8 1, .int .u8 0, .int .u8 0, .int .u64 5, .int .u64 0, .int .u8 0, .int .u8 0, .int .u8 0, .int .u8 0, .int .u8 0, .int .u8 0, .int .u8 0, .int .u8 0, .int .u8 0, .int .u8 0, .int .u8 0, .int .u8 0, .int .u8 0, .int .u8 0, .int .u8 0, .int .u8 0, .int .u8 0, .int .u8 0, .int .u8 0, .int .u8 0, .bool false, .slice none 0 0] 28]) H32) (by omega)) (by kernel_rfl) rfl (fun e_ w33 hR => ?_)
  obtain ⟨A30, c31, rfl, H35⟩ := hR
  have H34 : Hp w [] [.blk p23 [.slice A30 1 c31] 53, .row A30 1 c31 5 1 (by8 (putB 1 1)), .blk p3 [.int .u8 1, .int .u8 0, .int .u8 0, .int .u64 5, .int .u64 0, .int .u8 0, .int .u8 0, .int .u8 0, .int .u8 0, .int .u8 0, .int .u8 0, .int .u8 0, .int .u8 0, .int .u8 0, .int .u8 0, .int .u8 0, .int .u8 0, .int .u8 0, .int .u8 0, .int .u8 0, .int .u8 0, .int .u8 0, .int .u8 0, .int .u8 0, .int .u8 0, .bool false, .slice none 0 0] 28] w33 := Hp.callL (A := [.blk p23 [.slice none 0 0] 53, .row none 0 0 5 1 (by8 ([] : List UInt8))]) (B := [.blk p3 [.int .u8 1, .int .u8 0, .int .u8 0, .int .u64 5, .int .u64 0, .int .u8 0, .int .u8 0, .int .u8 0, .int .u8 0, .int .u8 0, .int .u8 0, .int .u8 0, .int .u8 0, .int .u8 0, .int .u8 0, .int .u8 0, .int .u8 0, .int .u8 0, .int .u8 0, .int .u8 0, .int .u8 0, .int .u8 0, .int .u8 0, .int .u8 0, .int .u8 0, .bool false, .slice none 0 0] 28]) H32 H35
  refine ⟨_, rfl, [1, 4, 5], [(1, pt p3 0), (4, .int .i64 4), (5, pt p23 0)], by kernel_rfl, ?_⟩
  refine GL.k rfl hK28 (fun _ _ h => h) ?_
  refine G.seqK fun K36 hK37 => ?_
  refine G.seqK fun K38 hK39 => ?_
  refine G.region ?_
  refine GL.run (j := 1) 1 [1, 4, 5, 30] [(1, pt p3 0), (4, .int .i64 4), (5, pt p23 0), (30, pt p3 1)] (by kernel_rfl) rfl ?_
  refine GL.sem (j := 2) (H34.ld (o := 1) (ty := 22) (v := .int .u8 0) 2 rfl (by kernel_rfl) rfl) [1, 4, 5, 31] [(1, pt p3 0), (4, .int .i64 4), (5, pt p23 0), (31, .int .u8 0)] (by kernel_rfl) (by kernel_rfl) rfl ?_
  refine GL.run (j := 5) 3 [1, 4, 5, 33, 34] [(1, pt p3 0), (4, .int .i64 4), (5, pt p23 0), (33, .agg #[.int .u64 0, .int .i64 1]), (34, pt p3 2)] (by kernel_rfl) rfl ?_
  refine GL.sem (j := 6) (H34.ld (o := 2) (ty := 22) (v := .int .u8 0) 2 rfl (by kernel_rfl) rfl) [1, 4, 5, 33, 35] [(1, pt p3 0), (4, .int .i64 4), (5, pt p23 0), (33, .agg #[.int .u64 0, .int .i64 1]), (35, .int .u8 0)] (by kernel_rfl) (by kernel_rfl) rfl ?_
  refine GL.run (j := 9) 3 [1, 4, 5, 33, 37, 38] [(1, pt p3 0), (4, .int .i64 4), (5, pt p23 0), (33, .agg #[.int .u64 0, .int .i64 1]), (37, .agg #[.int .u64 0, .int .i64 1]), (38, pt p3 3)] (by kernel_rfl) rfl ?_
  refine GL.sem (j := 10) (H34.ld (o := 3) (ty := 23) (v := .int .u64 5) 2 rfl (by kernel_rfl) rfl) [1, 4, 5, 33, 37, 39] [(1, pt p3 0), (4, .int .i64 4), (5, pt p23 0), (33, .agg #[.int .u64 0, .int .i64 1]), (37, .agg #[.int .u64 0, .int .i64 1]), (39, .int .u64 5)] (by kernel_rfl) (by kernel_rfl) rfl ?_
  refine GL.run (j := 12) 2 [1, 4, 5, 33, 37, 40, 41] [(1, pt p3 0), (4, .int .i64 4), (5, pt p23 0), (33, .agg #[.int .u64 0, .int .i64 1]), (37, .agg #[.int .u64 0, .int .i64 1]), (40, .agg #[.int .u64 5, .int .i64 8]), (41, pt p3 4)] (by kernel_rfl) rfl ?_
  refine GL.sem (j := 13) (H34.ld (o := 4) (ty := 23) (v := .int .u64 0) 2 rfl (by kernel_rfl) rfl) [1, 4, 5, 33, 37, 40, 42] [(1, pt p3 0), (4, .int .i64 4), (5, pt p23 0), (33, .agg #[.int .u64 0, .int .i64 1]), (37, .agg #[.int .u64 0, .int .i64 1]), (40, .agg #[.int .u64 5, .int .i64 8]), (42, .int .u64 0)] (by kernel_rfl) (by kernel_rfl) rfl ?_
  refine GL.run (j := 16) 3 [1, 4, 5, 44, 45] [(1, pt p3 0), (4, .int .i64 4), (5, pt p23 0), (44, .agg #[.int .u64 0, .int .i64 1, .int .u64 0, .int .i64 1, .int .u64 5, .int .i64 8, .int .u64 0, .int .i64 8]), (45, .int .i64 0)] (by kernel_rfl) rfl ?_
  refine GL.k rfl hK39 (fun _ _ h => h) ?_
  refine G.block ?_
  refine G.unroll 4 ?_
  refine G.seqK fun K40 hK41 => ?_
  refine G.region ?_
  refine GL.run (j := 1) 1 [1, 4, 5, 44, 45, 46] [(1, pt p3 0), (4, .int .i64 4), (5, pt p23 0), (44, .agg #[.int .u64 0, .int .i64 1, .int .u64 0, .int .i64 1, .int .u64 5, .int .i64 8, .int .u64 0, .int .i64 8]), (45, .int .i64 0), (46, .bool true)] (by kernel_rfl) rfl ?_
  refine GL.k rfl hK41 (fun _ _ h => h) ?_
  refine G.seqK fun K42 hK43 => ?_
  refine G.yes rfl ?_
  refine G.skipK hK43 (fun _ _ h => h) ?_
  refine G.seqK fun K44 hK45 => ?_
  refine G.block ?_
  refine G.seqK fun K46 hK47 => ?_
  refine G.region ?_
  refine GL.run (j := 2) 2 [1, 4, 5, 44, 45, 47, 48] [(1, pt p3 0), (4, .int .i64 4), (5, pt p23 0), (44, .agg #[.int .u64 0, .int .i64 1, .int .u64 0, .int .i64 1, .int .u64 5, .int .i64 8, .int .u64 0, .int .i64 8]), (45, .int .i64 0), (47, .int .i64 0), (48, .agg #[.int .u64 0, .int .i64 1])] (by kernel_rfl) rfl ?_
  obtain ⟨p48, w49, r50, H51⟩ := H34.alloc (P := Try.prog) 55 [.int .u64 0, .int .i64 0] (by kernel_rfl)
  have H51 : Hp w [] [.blk p23 [.slice A30 1 c31] 53, .row A30 1 c31 5 1 (by8 (putB 1 1)), .blk p3 [.int .u8 1, .int .u8 0, .int .u8 0, .int .u64 5, .int .u64 0, .int .u8 0, .int .u8 0, .int .u8 0, .int .u8 0, .int .u8 0, .int .u8 0, .int .u8 0, .int .u8 0, .int .u8 0, .int .u8 0, .int .u8 0, .int .u8 0, .int .u8 0, .int .u8 0, .int .u8 0, .int .u8 0, .int .u8 0, .int .u8 0, .int .u8 0, .int .u8 0, .bool false, .slice none 0 0] 28, .blk p48 [.int .u64 0, .int .i64 0] 55] w49 := H51
  refine GL.sem (j := 3) (r50) [1, 4, 5, 7, 44, 45, 47, 48] [(1, pt p3 0), (4, .int .i64 4), (5, pt p23 0), (7, pt p48 0), (44, .agg #[.int .u64 0, .int .i64 1, .int .u64 0, .int .i64 1, .int .u64 5, .int .i64 8, .int .u64 0, .int .i64 8]), (45, .int .i64 0), (47, .int .i64 0), (48, .agg #[.int .u64 0, .int .i64 1])] (by kernel_rfl) (by kernel_rfl) rfl ?_
  refine GL.run (j := 4) 1 [1, 4, 5, 6, 7, 44, 45, 48] [(1, pt p3 0), (4, .int .i64 4), (5, pt p23 0), (6, .int .i64 0), (7, pt p48 0), (44, .agg #[.int .u64 0, .int .i64 1, .int .u64 0, .int .i64 1, .int .u64 5, .int .i64 8, .int .u64 0, .int .i64 8]), (45, .int .i64 0), (48, .agg #[.int .u64 0, .int .i64 1])] (by kernel_rfl) rfl ?_
  obtain ⟨w52, r53, H54⟩ := H51.stA (P := Try.prog) (o := 0) (vs := [.int .u64 0, .int .i64 1]) (ty := 55) (m := 2) 3 rfl (by kernel_rfl) rfl (by simp) (by simp [Value.oneCell'])
  have H54 : Hp w [] [.blk p23 [.slice A30 1 c31] 53, .row A30 1 c31 5 1 (by8 (putB 1 1)), .blk p3 [.int .u8 1, .int .u8 0, .int .u8 0, .int .u64 5, .int .u64 0, .int .u8 0, .int .u8 0, .int .u8 0, .int .u8 0, .int .u8 0, .int .u8 0, .int .u8 0, .int .u8 0, .int .u8 0, .int .u8 0, .int .u8 0, .int .u8 0, .int .u8 0, .int .u8 0, .int .u8 0, .int .u8 0, .int .u8 0, .int .u8 0, .int .u8 0, .int .u8 0, .bool false, .slice none 0 0] 28, .blk p48 [.int .u64 0, .int .i64 1] 55] w52 := H54
  refine GL.semU (j := 5) r53 [1, 4, 5, 6, 7, 44, 45] [(1, pt p3 0), (4, .int .i64 4), (5, pt p23 0), (6, .int .i64 0), (7, pt p48 0), (44, .agg #[.int .u64 0, .int .i64 1, .int .u64 0, .int .i64 1, .int .u64 5, .int .i64 8, .int .u64 0, .int .i64 8]), (45, .int .i64 0)] (by kernel_rfl) rfl rfl rfl ?_
  refine GL.k rfl hK47 (fun _ _ h => h) ?_
  refine G.seqK fun K55 hK56 => ?_
  refine G.region ?_
  refine GL.run (j := 5) 5 [1, 4, 5, 7, 44, 45, 53] [(1, pt p3 0), (4, .int .i64 4), (5, pt p23 0), (7, pt p48 0), (44, .agg #[.int .u64 0, .int .i64 1, .int .u64 0, .int .i64 1, .int .u64 5, .int .i64 8, .int .u64 0, .int .i64 8]), (45, .int .i64 0), (53, .bool false)] (by kernel_rfl) rfl ?_
  refine GL.k rfl hK56 (fun _ _ h => h) ?_
  refine G.no rfl ?_
  refine G.skipK hK45 (fun _ _ h => h) ?_
  refine G.region ?_
  refine GL.run (j := 2) 2 [1, 4, 5, 44, 45] [(1, pt p3 0), (4, .int .i64 4), (5, pt p23 0), (44, .agg #[.int .u64 0, .int .i64 1, .int .u64 0, .int .i64 1, .int .u64 5, .int .i64 8, .int .u64 0, .int .i64 8]), (45, .int .i64 1)] (by kernel_rfl) rfl ?_
  refine GL.round rfl ?_
  refine G.seqK fun K57 hK58 => ?_
  refine G.region ?_
  refine GL.run (j := 1) 1 [1, 4, 5, 44, 45, 46] [(1, pt p3 0), (4, .int .i64 4), (5, pt p23 0), (44, .agg #[.int .u64 0, .int .i64 1, .int .u64 0, .int .i64 1, .int .u64 5, .int .i64 8, .int .u64 0, .int .i64 8]), (45, .int .i64 1), (46, .bool true)] (by kernel_rfl) rfl ?_
  refine GL.k rfl hK58 (fun _ _ h => h) ?_
  refine G.seqK fun K59 hK60 => ?_
  refine G.yes rfl ?_
  refine G.skipK hK60 (fun _ _ h => h) ?_
  refine G.seqK fun K61 hK62 => ?_
  refine G.block ?_
  refine G.seqK fun K63 hK64 => ?_
  refine G.region ?_
  refine GL.run (j := 2) 2 [1, 4, 5, 44, 45, 47, 48] [(1, pt p3 0), (4, .int .i64 4), (5, pt p23 0), (44, .agg #[.int .u64 0, .int .i64 1, .int .u64 0, .int .i64 1, .int .u64 5, .int .i64 8, .int .u64 0, .int .i64 8]), (45, .int .i64 1), (47, .int .i64 1), (48, .agg #[.int .u64 0, .int .i64 1])] (by kernel_rfl) rfl ?_
  obtain ⟨p65, w66, r67, H68⟩ := H54.alloc (P := Try.prog) 55 [.int .u64 0, .int .i64 0] (by kernel_rfl)
  have H68 : Hp w [] [.blk p23 [.slice A30 1 c31] 53, .row A30 1 c31 5 1 (by8 (putB 1 1)), .blk p3 [.int .u8 1, .int .u8 0, .int .u8 0, .int .u64 5, .int .u64 0, .int .u8 0, .int .u8 0, .int .u8 0, .int .u8 0, .int .u8 0, .int .u8 0, .int .u8 0, .int .u8 0, .int .u8 0, .int .u8 0, .int .u8 0, .int .u8 0, .int .u8 0, .int .u8 0, .int .u8 0, .int .u8 0, .int .u8 0, .int .u8 0, .int .u8 0, .int .u8 0, .bool false, .slice none 0 0] 28, .blk p48 [.int .u64 0, .int .i64 1] 55, .blk p65 [.int .u64 0, .int .i64 0] 55] w66 := H68
  refine GL.sem (j := 3) (r67) [1, 4, 5, 7, 44, 45, 47, 48] [(1, pt p3 0), (4, .int .i64 4), (5, pt p23 0), (7, pt p65 0), (44, .agg #[.int .u64 0, .int .i64 1, .int .u64 0, .int .i64 1, .int .u64 5, .int .i64 8, .int .u64 0, .int .i64 8]), (45, .int .i64 1), (47, .int .i64 1), (48, .agg #[.int .u64 0, .int .i64 1])] (by kernel_rfl) (by kernel_rfl) rfl ?_
  refine GL.run (j := 4) 1 [1, 4, 5, 6, 7, 44, 45, 48] [(1, pt p3 0), (4, .int .i64 4), (5, pt p23 0), (6, .int .i64 1), (7, pt p65 0), (44, .agg #[.int .u64 0, .int .i64 1, .int .u64 0, .int .i64 1, .int .u64 5, .int .i64 8, .int .u64 0, .int .i64 8]), (45, .int .i64 1), (48, .agg #[.int .u64 0, .int .i64 1])] (by kernel_rfl) rfl ?_
  obtain ⟨w69, r70, H71⟩ := H68.stA (P := Try.prog) (o := 0) (vs := [.int .u64 0, .int .i64 1]) (ty := 55) (m := 2) 4 rfl (by kernel_rfl) rfl (by simp) (by simp [Value.oneCell'])
  have H71 : Hp w [] [.blk p23 [.slice A30 1 c31] 53, .row A30 1 c31 5 1 (by8 (putB 1 1)), .blk p3 [.int .u8 1, .int .u8 0, .int .u8 0, .int .u64 5, .int .u64 0, .int .u8 0, .int .u8 0, .int .u8 0, .int .u8 0, .int .u8 0, .int .u8 0, .int .u8 0, .int .u8 0, .int .u8 0, .int .u8 0, .int .u8 0, .int .u8 0, .int .u8 0, .int .u8 0, .int .u8 0, .int .u8 0, .int .u8 0, .int .u8 0, .int .u8 0, .int .u8 0, .bool false, .slice none 0 0] 28, .blk p48 [.int .u64 0, .int .i64 1] 55, .blk p65 [.int .u64 0, .int .i64 1] 55] w69 := H71
  refine GL.semU (j := 5) r70 [1, 4, 5, 6, 7, 44, 45] [(1, pt p3 0), (4, .int .i64 4), (5, pt p23 0), (6, .int .i64 1), (7, pt p65 0), (44, .agg #[.int .u64 0, .int .i64 1, .int .u64 0, .int .i64 1, .int .u64 5, .int .i64 8, .int .u64 0, .int .i64 8]), (45, .int .i64 1)] (by kernel_rfl) rfl rfl rfl ?_
  refine GL.k rfl hK64 (fun _ _ h => h) ?_
  refine G.seqK fun K72 hK73 => ?_
  refine G.region ?_
  refine GL.run (j := 5) 5 [1, 4, 5, 7, 44, 45, 53] [(1, pt p3 0), (4, .int .i64 4), (5, pt p23 0), (7, pt p65 0), (44, .agg #[.int .u64 0, .int .i64 1, .int .u64 0, .int .i64 1, .int .u64 5, .int .i64 8, .int .u64 0, .int .i64 8]), (45, .int .i64 1), (53, .bool false)] (by kernel_rfl) rfl ?_
  refine GL.k rfl hK73 (fun _ _ h => h) ?_
  refine G.no rfl ?_
  refine G.skipK hK62 (fun _ _ h => h) ?_
  refine G.region ?_
  refine GL.run (j := 2) 2 [1, 4, 5, 44, 45] [(1, pt p3 0), (4, .int .i64 4), (5, pt p23 0), (44, .agg #[.int .u64 0, .int .i64 1, .int .u64 0, .int .i64 1, .int .u64 5, .int .i64 8, .int .u64 0, .int .i64 8]), (45, .int .i64 2)] (by kernel_rfl) rfl ?_
  refine GL.round rfl ?_
  refine G.seqK fun K74 hK75 => ?_
  refine G.region ?_
  refine GL.run (j := 1) 1 [1, 4, 5, 44, 45, 46] [(1, pt p3 0), (4, .int .i64 4), (5, pt p23 0), (44, .agg #[.int .u64 0, .int .i64 1, .int .u64 0, .int .i64 1, .int .u64 5, .int .i64 8, .int .u64 0, .int .i64 8]), (45, .int .i64 2), (46, .bool true)] (by kernel_rfl) rfl ?_
  refine GL.k rfl hK75 (fun _ _ h => h) ?_
  refine G.seqK fun K76 hK77 => ?_
  refine G.yes rfl ?_
  refine G.skipK hK77 (fun _ _ h => h) ?_
  refine G.seqK fun K78 hK79 => ?_
  refine G.block ?_
  refine G.seqK fun K80 hK81 => ?_
  refine G.region ?_
  refine GL.run (j := 2) 2 [1, 4, 5, 44, 45, 47, 48] [(1, pt p3 0), (4, .int .i64 4), (5, pt p23 0), (44, .agg #[.int .u64 0, .int .i64 1, .int .u64 0, .int .i64 1, .int .u64 5, .int .i64 8, .int .u64 0, .int .i64 8]), (45, .int .i64 2), (47, .int .i64 2), (48, .agg #[.int .u64 5, .int .i64 8])] (by kernel_rfl) rfl ?_
  obtain ⟨p82, w83, r84, H85⟩ := H71.alloc (P := Try.prog) 55 [.int .u64 0, .int .i64 0] (by kernel_rfl)
  have H85 : Hp w [] [.blk p23 [.slice A30 1 c31] 53, .row A30 1 c31 5 1 (by8 (putB 1 1)), .blk p3 [.int .u8 1, .int .u8 0, .int .u8 0, .int .u64 5, .int .u64 0, .int .u8 0, .int .u8 0, .int .u8 0, .int .u8 0, .int .u8 0, .int .u8 0, .int .u8 0, .int .u8 0, .int .u8 0, .int .u8 0, .int .u8 0, .int .u8 0, .int .u8 0, .int .u8 0, .int .u8 0, .int .u8 0, .int .u8 0, .int .u8 0, .int .u8 0, .int .u8 0, .bool false, .slice none 0 0] 28, .blk p48 [.int .u64 0, .int .i64 1] 55, .blk p65 [.int .u64 0, .int .i64 1] 55, .blk p82 [.int .u64 0, .int .i64 0] 55] w83 := H85
  refine GL.sem (j := 3) (r84) [1, 4, 5, 7, 44, 45, 47, 48] [(1, pt p3 0), (4, .int .i64 4), (5, pt p23 0), (7, pt p82 0), (44, .agg #[.int .u64 0, .int .i64 1, .int .u64 0, .int .i64 1, .int .u64 5, .int .i64 8, .int .u64 0, .int .i64 8]), (45, .int .i64 2), (47, .int .i64 2), (48, .agg #[.int .u64 5, .int .i64 8])] (by kernel_rfl) (by kernel_rfl) rfl ?_
  refine GL.run (j := 4) 1 [1, 4, 5, 6, 7, 44, 45, 48] [(1, pt p3 0), (4, .int .i64 4), (5, pt p23 0), (6, .int .i64 2), (7, pt p82 0), (44, .agg #[.int .u64 0, .int .i64 1, .int .u64 0, .int .i64 1, .int .u64 5, .int .i64 8, .int .u64 0, .int .i64 8]), (45, .int .i64 2), (48, .agg #[.int .u64 5, .int .i64 8])] (by kernel_rfl) rfl ?_
  obtain ⟨w86, r87, H88⟩ := H85.stA (P := Try.prog) (o := 0) (vs := [.int .u64 5, .int .i64 8]) (ty := 55) (m := 2) 5 rfl (by kernel_rfl) rfl (by simp) (by simp [Value.oneCell'])
  have H88 : Hp w [] [.blk p23 [.slice A30 1 c31] 53, .row A30 1 c31 5 1 (by8 (putB 1 1)), .blk p3 [.int .u8 1, .int .u8 0, .int .u8 0, .int .u64 5, .int .u64 0, .int .u8 0, .int .u8 0, .int .u8 0, .int .u8 0, .int .u8 0, .int .u8 0, .int .u8 0, .int .u8 0, .int .u8 0, .int .u8 0, .int .u8 0, .int .u8 0, .int .u8 0, .int .u8 0, .int .u8 0, .int .u8 0, .int .u8 0, .int .u8 0, .int .u8 0, .int .u8 0, .bool false, .slice none 0 0] 28, .blk p48 [.int .u64 0, .int .i64 1] 55, .blk p65 [.int .u64 0, .int .i64 1] 55, .blk p82 [.int .u64 5, .int .i64 8] 55] w86 := H88
  refine GL.semU (j := 5) r87 [1, 4, 5, 6, 7, 44, 45] [(1, pt p3 0), (4, .int .i64 4), (5, pt p23 0), (6, .int .i64 2), (7, pt p82 0), (44, .agg #[.int .u64 0, .int .i64 1, .int .u64 0, .int .i64 1, .int .u64 5, .int .i64 8, .int .u64 0, .int .i64 8]), (45, .int .i64 2)] (by kernel_rfl) rfl rfl rfl ?_
  refine GL.k rfl hK81 (fun _ _ h => h) ?_
  refine G.seqK fun K89 hK90 => ?_
  refine G.region ?_
  refine GL.run (j := 5) 5 [1, 4, 5, 7, 44, 45, 53] [(1, pt p3 0), (4, .int .i64 4), (5, pt p23 0), (7, pt p82 0), (44, .agg #[.int .u64 0, .int .i64 1, .int .u64 0, .int .i64 1, .int .u64 5, .int .i64 8, .int .u64 0, .int .i64 8]), (45, .int .i64 2), (53, .bool true)] (by kernel_rfl) rfl ?_
  refine GL.k rfl hK90 (fun _ _ h => h) ?_
  refine G.yes rfl ?_
  refine G.region ?_
  refine GL.run (j := 1) 1 [1, 4, 5, 7, 44, 45, 54] [(1, pt p3 0), (4, .int .i64 4), (5, pt p23 0), (7, pt p82 0), (44, .agg #[.int .u64 0, .int .i64 1, .int .u64 0, .int .i64 1, .int .u64 5, .int .i64 8, .int .u64 0, .int .i64 8]), (45, .int .i64 2), (54, pt p82 0)] (by kernel_rfl) rfl ?_
  refine GL.sem (j := 2) (H88.ld (o := 0) (ty := 23) (v := .int .u64 5) 5 rfl (by kernel_rfl) rfl) [1, 4, 5, 7, 44, 45, 55] [(1, pt p3 0), (4, .int .i64 4), (5, pt p23 0), (7, pt p82 0), (44, .agg #[.int .u64 0, .int .i64 1, .int .u64 0, .int .i64 1, .int .u64 5, .int .i64 8, .int .u64 0, .int .i64 8]), (45, .int .i64 2), (55, .int .u64 5)] (by kernel_rfl) (by kernel_rfl) rfl ?_
  refine GL.run (j := 3) 1 [1, 4, 5, 44, 45, 55, 56] [(1, pt p3 0), (4, .int .i64 4), (5, pt p23 0), (44, .agg #[.int .u64 0, .int .i64 1, .int .u64 0, .int .i64 1, .int .u64 5, .int .i64 8, .int .u64 0, .int .i64 8]), (45, .int .i64 2), (55, .int .u64 5), (56, pt p82 1)] (by kernel_rfl) rfl ?_
  refine GL.sem (j := 4) (H88.ld (o := 1) (ty := 3) (v := .int .i64 8) 5 rfl (by kernel_rfl) rfl) [1, 4, 5, 44, 45, 55, 57] [(1, pt p3 0), (4, .int .i64 4), (5, pt p23 0), (44, .agg #[.int .u64 0, .int .i64 1, .int .u64 0, .int .i64 1, .int .u64 5, .int .i64 8, .int .u64 0, .int .i64 8]), (45, .int .i64 2), (55, .int .u64 5), (57, .int .i64 8)] (by kernel_rfl) (by kernel_rfl) rfl ?_
  refine GL.call (j := 5) (Put8_calls (ids [.blk p23 [.slice A30 1 c31] 53, .row A30 1 c31 5 1 (by8 (putB 1 1))]) p23 A30 1 c31 (putB 1 1) 5 w86 (Hp.startL (A := [.blk p23 [.slice A30 1 c31] 53, .row A30 1 c31 5 1 (by8 (putB 1 1))]) (B := [.blk p3 [.int .u8 1, .int .u8 0, .int .u8 0, .int .u64 5, .int .u64 0, .int .u8 0, .int .u8 0, .int .u8 0, .int .u8 0, .int .u8 0, .int .u8 0, .int .u8 0, .int .u8 0, .int .u8 0, .int .u8 0, .int .u8 0, .int .u8 0, .int .u8 0, .int .u8 0, .int .u8 0, .int .u8 0, .int .u8 0, .int .u8 0, .int .u8 0, .int .u8 0, .bool false, .slice none 0 0] 28, .blk p48 [.int .u64 0, .int .i64 1] 55, .blk p65 [.int .u64 0, .int .i64 1] 55, .blk p82 [.int .u64 5, .int .i64 8] 55]) H88) (by omega)) (by kernel_rfl) rfl (fun e_ w93 hR => ?_)
  obtain ⟨A91, c92, rfl, H95⟩ := hR
  have H94 : Hp w [] [.blk p23 [.slice A91 9 c92] 53, .row A91 9 c92 5 1 (by8 ((putB 1 1) ++ (putB 5 8))), .blk p3 [.int .u8 1, .int .u8 0, .int .u8 0, .int .u64 5, .int .u64 0, .int .u8 0, .int .u8 0, .int .u8 0, .int .u8 0, .int .u8 0, .int .u8 0, .int .u8 0, .int .u8 0, .int .u8 0, .int .u8 0, .int .u8 0, .int .u8 0, .int .u8 0, .int .u8 0, .int .u8 0, .int .u8 0, .int .u8 0, .int .u8 0, .int .u8 0, .int .u8 0, .bool false, .slice none 0 0] 28, .blk p48 [.int .u64 0, .int .i64 1] 55, .blk p65 [.int .u64 0, .int .i64 1] 55, .blk p82 [.int .u64 5, .int .i64 8] 55] w93 := Hp.callL (A := [.blk p23 [.slice A30 1 c31] 53, .row A30 1 c31 5 1 (by8 (putB 1 1))]) (B := [.blk p3 [.int .u8 1, .int .u8 0, .int .u8 0, .int .u64 5, .int .u64 0, .int .u8 0, .int .u8 0, .int .u8 0, .int .u8 0, .int .u8 0, .int .u8 0, .int .u8 0, .int .u8 0, .int .u8 0, .int .u8 0, .int .u8 0, .int .u8 0, .int .u8 0, .int .u8 0, .int .u8 0, .int .u8 0, .int .u8 0, .int .u8 0, .int .u8 0, .int .u8 0, .bool false, .slice none 0 0] 28, .blk p48 [.int .u64 0, .int .i64 1] 55, .blk p65 [.int .u64 0, .int .i64 1] 55, .blk p82 [.int .u64 5, .int .i64 8] 55]) H88 H95
  refine ⟨_, rfl, [1, 4, 5, 44, 45], [(1, pt p3 0), (4, .int .i64 4), (5, pt p23 0), (44, .agg #[.int .u64 0, .int .i64 1, .int .u64 0, .int .i64 1, .int .u64 5, .int .i64 8, .int .u64 0, .int .i64 8]), (45, .int .i64 2)], by kernel_rfl, ?_⟩
  refine GL.k rfl hK79 (fun _ _ h => h) ?_
  refine G.region ?_
  refine GL.run (j := 2) 2 [1, 4, 5, 44, 45] [(1, pt p3 0), (4, .int .i64 4), (5, pt p23 0), (44, .agg #[.int .u64 0, .int .i64 1, .int .u64 0, .int .i64 1, .int .u64 5, .int .i64 8, .int .u64 0, .int .i64 8]), (45, .int .i64 3)] (by kernel_rfl) rfl ?_
  refine GL.round rfl ?_
  refine G.seqK fun K96 hK97 => ?_
  refine G.region ?_
  refine GL.run (j := 1) 1 [1, 4, 5, 44, 45, 46] [(1, pt p3 0), (4, .int .i64 4), (5, pt p23 0), (44, .agg #[.int .u64 0, .int .i64 1, .int .u64 0, .int .i64 1, .int .u64 5, .int .i64 8, .int .u64 0, .int .i64 8]), (45, .int .i64 3), (46, .bool true)] (by kernel_rfl) rfl ?_
  refine GL.k rfl hK97 (fun _ _ h => h) ?_
  refine G.seqK fun K98 hK99 => ?_
  refine G.yes rfl ?_
  refine G.skipK hK99 (fun _ _ h => h) ?_
  refine G.seqK fun K100 hK101 => ?_
  refine G.block ?_
  refine G.seqK fun K102 hK103 => ?_
  refine G.region ?_
  refine GL.run (j := 2) 2 [1, 4, 5, 44, 45, 47, 48] [(1, pt p3 0), (4, .int .i64 4), (5, pt p23 0), (44, .agg #[.int .u64 0, .int .i64 1, .int .u64 0, .int .i64 1, .int .u64 5, .int .i64 8, .int .u64 0, .int .i64 8]), (45, .int .i64 3), (47, .int .i64 3), (48, .agg #[.int .u64 0, .int .i64 8])] (by kernel_rfl) rfl ?_
  obtain ⟨p104, w105, r106, H107⟩ := H94.alloc (P := Try.prog) 55 [.int .u64 0, .int .i64 0] (by kernel_rfl)
  have H107 : Hp w [] [.blk p23 [.slice A91 9 c92] 53, .row A91 9 c92 5 1 (by8 ((putB 1 1) ++ (putB 5 8))), .blk p3 [.int .u8 1, .int .u8 0, .int .u8 0, .int .u64 5, .int .u64 0, .int .u8 0, .int .u8 0, .int .u8 0, .int .u8 0, .int .u8 0, .int .u8 0, .int .u8 0, .int .u8 0, .int .u8 0, .int .u8 0, .int .u8 0, .int .u8 0, .int .u8 0, .int .u8 0, .int .u8 0, .int .u8 0, .int .u8 0, .int .u8 0, .int .u8 0, .int .u8 0, .bool false, .slice none 0 0] 28, .blk p48 [.int .u64 0, .int .i64 1] 55, .blk p65 [.int .u64 0, .int .i64 1] 55, .blk p82 [.int .u64 5, .int .i64 8] 55, .blk p104 [.int .u64 0, .int .i64 0] 55] w105 := H107
  refine GL.sem (j := 3) (r106) [1, 4, 5, 7, 44, 45, 47, 48] [(1, pt p3 0), (4, .int .i64 4), (5, pt p23 0), (7, pt p104 0), (44, .agg #[.int .u64 0, .int .i64 1, .int .u64 0, .int .i64 1, .int .u64 5, .int .i64 8, .int .u64 0, .int .i64 8]), (45, .int .i64 3), (47, .int .i64 3), (48, .agg #[.int .u64 0, .int .i64 8])] (by kernel_rfl) (by kernel_rfl) rfl ?_
  refine GL.run (j := 4) 1 [1, 4, 5, 6, 7, 44, 45, 48] [(1, pt p3 0), (4, .int .i64 4), (5, pt p23 0), (6, .int .i64 3), (7, pt p104 0), (44, .agg #[.int .u64 0, .int .i64 1, .int .u64 0, .int .i64 1, .int .u64 5, .int .i64 8, .int .u64 0, .int .i64 8]), (45, .int .i64 3), (48, .agg #[.int .u64 0, .int .i64 8])] (by kernel_rfl) rfl ?_
  obtain ⟨w108, r109, H110⟩ := H107.stA (P := Try.prog) (o := 0) (vs := [.int .u64 0, .int .i64 8]) (ty := 55) (m := 2) 6 rfl (by kernel_rfl) rfl (by simp) (by simp [Value.oneCell'])
  have H110 : Hp w [] [.blk p23 [.slice A91 9 c92] 53, .row A91 9 c92 5 1 (by8 ((putB 1 1) ++ (putB 5 8))), .blk p3 [.int .u8 1, .int .u8 0, .int .u8 0, .int .u64 5, .int .u64 0, .int .u8 0, .int .u8 0, .int .u8 0, .int .u8 0, .int .u8 0, .int .u8 0, .int .u8 0, .int .u8 0, .int .u8 0, .int .u8 0, .int .u8 0, .int .u8 0, .int .u8 0, .int .u8 0, .int .u8 0, .int .u8 0, .int .u8 0, .int .u8 0, .int .u8 0, .int .u8 0, .bool false, .slice none 0 0] 28, .blk p48 [.int .u64 0, .int .i64 1] 55, .blk p65 [.int .u64 0, .int .i64 1] 55, .blk p82 [.int .u64 5, .int .i64 8] 55, .blk p104 [.int .u64 0, .int .i64 8] 55] w108 := H110
  refine GL.semU (j := 5) r109 [1, 4, 5, 6, 7, 44, 45] [(1, pt p3 0), (4, .int .i64 4), (5, pt p23 0), (6, .int .i64 3), (7, pt p104 0), (44, .agg #[.int .u64 0, .int .i64 1, .int .u64 0, .int .i64 1, .int .u64 5, .int .i64 8, .int .u64 0, .int .i64 8]), (45, .int .i64 3)] (by kernel_rfl) rfl rfl rfl ?_
  refine GL.k rfl hK103 (fun _ _ h => h) ?_
  refine G.seqK fun K111 hK112 => ?_
  refine G.region ?_
  refine GL.run (j := 5) 5 [1, 4, 5, 7, 44, 45, 53] [(1, pt p3 0), (4, .int .i64 4), (5, pt p23 0), (7, pt p104 0), (44, .agg #[.int .u64 0, .int .i64 1, .int .u64 0, .int .i64 1, .int .u64 5, .int .i64 8, .int .u64 0, .int .i64 8]), (45, .int .i64 3), (53, .bool false)] (by kernel_rfl) rfl ?_
  refine GL.k rfl hK112 (fun _ _ h => h) ?_
  refine G.no rfl ?_
  refine G.skipK hK101 (fun _ _ h => h) ?_
  refine G.region ?_
  refine GL.run (j := 2) 2 [1, 4, 5, 44, 45] [(1, pt p3 0), (4, .int .i64 4), (5, pt p23 0), (44, .agg #[.int .u64 0, .int .i64 1, .int .u64 0, .int .i64 1, .int .u64 5, .int .i64 8, .int .u64 0, .int .i64 8]), (45, .int .i64 4)] (by kernel_rfl) rfl ?_
  refine GL.round rfl ?_
  refine G.seqK fun K113 hK114 => ?_
  refine G.region ?_
  refine GL.run (j := 1) 1 [1, 4, 5, 44, 45, 46] [(1, pt p3 0), (4, .int .i64 4), (5, pt p23 0), (44, .agg #[.int .u64 0, .int .i64 1, .int .u64 0, .int .i64 1, .int .u64 5, .int .i64 8, .int .u64 0, .int .i64 8]), (45, .int .i64 4), (46, .bool false)] (by kernel_rfl) rfl ?_
  refine GL.k rfl hK114 (fun _ _ h => h) ?_
  refine G.seqK fun K115 hK116 => ?_
  refine G.no rfl ?_
  refine G.exitK hK37 (fun _ _ h => h) ?_
  refine G.seqK fun K117 hK118 => ?_
  refine G.seqK fun K119 hK120 => ?_
  refine G.region ?_
  refine GL.run (j := 3) 3 [1, 4, 5, 62] [(1, pt p3 0), (4, .int .i64 4), (5, pt p23 0), (62, .bool false)] (by kernel_rfl) rfl ?_
  refine GL.k rfl hK120 (fun _ _ h => h) ?_
  refine G.no rfl ?_
  refine G.skipK hK118 (fun _ _ h => h) ?_
  refine G.seqK fun K121 hK122 => ?_
  refine G.seqK fun K123 hK124 => ?_
  refine G.region ?_
  refine GL.run (j := 3) 3 [1, 4, 5, 68] [(1, pt p3 0), (4, .int .i64 4), (5, pt p23 0), (68, .bool false)] (by kernel_rfl) rfl ?_
  refine GL.k rfl hK124 (fun _ _ h => h) ?_
  refine G.no rfl ?_
  refine G.skipK hK122 (fun _ _ h => h) ?_
  refine G.seqK fun K125 hK126 => ?_
  refine G.seqK fun K127 hK128 => ?_
  refine G.region ?_
  refine GL.run (j := 3) 3 [1, 5, 75] [(1, pt p3 0), (5, pt p23 0), (75, .bool false)] (by kernel_rfl) rfl ?_
  refine GL.k rfl hK128 (fun _ _ h => h) ?_
  refine G.no rfl ?_
  refine G.skipK hK126 (fun _ _ h => h) ?_
  refine G.seqK fun K129 hK130 => ?_
  refine G.region ?_
  refine GL.call (j := 1) (WBytes_calls (ids [.blk p23 [.slice A91 9 c92] 53, .row A91 9 c92 5 1 (by8 ((putB 1 1) ++ (putB 5 8)))]) p23 A91 9 c92 ((putB 1 1) ++ (putB 5 8)) w108 (Hp.startL (A := [.blk p23 [.slice A91 9 c92] 53, .row A91 9 c92 5 1 (by8 ((putB 1 1) ++ (putB 5 8)))]) (B := [.blk p3 [.int .u8 1, .int .u8 0, .int .u8 0, .int .u64 5, .int .u64 0, .int .u8 0, .int .u8 0, .int .u8 0, .int .u8 0, .int .u8 0, .int .u8 0, .int .u8 0, .int .u8 0, .int .u8 0, .int .u8 0, .int .u8 0, .int .u8 0, .int .u8 0, .int .u8 0, .int .u8 0, .int .u8 0, .int .u8 0, .int .u8 0, .int .u8 0, .int .u8 0, .bool false, .slice none 0 0] 28, .blk p48 [.int .u64 0, .int .i64 1] 55, .blk p65 [.int .u64 0, .int .i64 1] 55, .blk p82 [.int .u64 5, .int .i64 8] 55, .blk p104 [.int .u64 0, .int .i64 8] 55]) H110) (by omega)) (by kernel_rfl) rfl (fun e_ w133 hR => ?_)
  obtain ⟨A131, c132, rfl, H135⟩ := hR
  have H134 : Hp w [] [.blk p23 [.slice A91 9 c92] 53, .row A91 9 c92 5 1 (by8 ((putB 1 1) ++ (putB 5 8))), .row A131 9 c132 5 1 (by8 ((putB 1 1) ++ (putB 5 8))), .blk p3 [.int .u8 1, .int .u8 0, .int .u8 0, .int .u64 5, .int .u64 0, .int .u8 0, .int .u8 0, .int .u8 0, .int .u8 0, .int .u8 0, .int .u8 0, .int .u8 0, .int .u8 0, .int .u8 0, .int .u8 0, .int .u8 0, .int .u8 0, .int .u8 0, .int .u8 0, .int .u8 0, .int .u8 0, .int .u8 0, .int .u8 0, .int .u8 0, .int .u8 0, .bool false, .slice none 0 0] 28, .blk p48 [.int .u64 0, .int .i64 1] 55, .blk p65 [.int .u64 0, .int .i64 1] 55, .blk p82 [.int .u64 5, .int .i64 8] 55, .blk p104 [.int .u64 0, .int .i64 8] 55] w133 := Hp.callL (A := [.blk p23 [.slice A91 9 c92] 53, .row A91 9 c92 5 1 (by8 ((putB 1 1) ++ (putB 5 8)))]) (B := [.blk p3 [.int .u8 1, .int .u8 0, .int .u8 0, .int .u64 5, .int .u64 0, .int .u8 0, .int .u8 0, .int .u8 0, .int .u8 0, .int .u8 0, .int .u8 0, .int .u8 0, .int .u8 0, .int .u8 0, .int .u8 0, .int .u8 0, .int .u8 0, .int .u8 0, .int .u8 0, .int .u8 0, .int .u8 0, .int .u8 0, .int .u8 0, .int .u8 0, .int .u8 0, .bool false, .slice none 0 0] 28, .blk p48 [.int .u64 0, .int .i64 1] 55, .blk p65 [.int .u64 0, .int .i64 1] 55, .blk p82 [.int .u64 5, .int .i64 8] 55, .blk p104 [.int .u64 0, .int .i64 8] 55]) H110 H135
  refine ⟨_, rfl, [79], [(79, .slice A131 9 c132)], by kernel_rfl, ?_⟩
  refine GL.run (j := 3) 2 [2, 3] [(2, .slice A131 9 c132), (3, .int .i64 0)] (by kernel_rfl) rfl ?_
  refine GL.k rfl hK130 (fun _ _ h => h) ?_
  refine G.ret ?_
  intro F_ hF_ hM_
  refine hRet _ _ (bodyPost_2 rfl (RV.tmp rfl) (RV.tmp rfl) ?_ F_ hF_ hM_)
  have H136 : Hp w [] [.row A131 9 c132 5 1 (by8 ((putB 1 1) ++ (putB 5 8)))] w133 := H134.sub (List.Sublist.cons _ (List.Sublist.cons _ (List.Sublist.cons_cons _ (List.Sublist.cons _ (List.Sublist.cons _ (List.Sublist.cons _ (List.Sublist.cons _ (List.Sublist.cons _ (List.Sublist.slnil)))))))))
  exact ⟨_, _, rfl, H136⟩
theorem lives_calls (w : World) : Calls Try.prog 7 #[] w fun e w' => e = .returned (.bool true) ∧ Hp w [] [] w' := by
  refine calls_G (args := []) Try.func7 rfl Try.ntmps7 rfl ?_
  intro Q0 hRet hNor hPan
  have H := Hp.start w
  have H : Hp w [] [] w := H
  refine G.seqK fun K1 hK2 => ?_
  refine G.region ?_
  refine GL.run (j := 1) 1 [] [] (by kernel_rfl) rfl ?_
  refine GL.k rfl hK2 (fun _ _ h => h) ?_
  refine G.seqK fun K3 hK4 => ?_
  refine G.region ?_
  refine GL.run (j := 1) 1 [4] [(4, .agg #[.int .u8 1, .int .u8 0, .int .u8 0, .int .u64 5, .int .u64 0, .int .u8 0, .int .u8 0, .int .u8 0, .int .u8 0, .int .u8 0, .int .u8 0, .int .u8 0, .int .u8 0, .int .u8 0, .int .u8 0, .int .u8 0, .int .u8 0, .int .u8 0, .int .u8 0, .int .u8 0, .int .u8 0, .int .u8 0, .int .u8 0, .int .u8 0, .int .u8 0, .bool false, .slice none 0 0])] (by kernel_rfl) rfl ?_
  refine GL.call (j := 2) (Bytes_ex w) (by kernel_rfl) rfl (fun e_ w9 hR => ?_)
  obtain ⟨A5, c6, rfl, H8⟩ := hR
  have H7 : Hp w [] [.row A5 9 c6 5 1 (by8 (putB 1 1 ++ putB 5 8))] w9 := H.callNew H8
  refine ⟨_, rfl, [5], [(5, .tuple #[.slice A5 9 c6, .int .i64 0])], by kernel_rfl, ?_⟩
  refine GL.run (j := 7) 5 [1, 2] [(1, .slice A5 9 c6), (2, .int .i64 0)] (by kernel_rfl) rfl ?_
  refine GL.k rfl hK4 (fun _ _ h => h) ?_
  refine G.seqK fun K10 hK11 => ?_
  refine G.region ?_
  refine GL.run (j := 4) 4 [10, 11] [(10, .bool true), (11, .slice A5 9 c6)] (by kernel_rfl) rfl ?_
  refine GL.sem (j := 5) (run_toStr (P := Try.prog) (src := 26) (dst := 9) (A := A5) (bs := (putB 1 1 ++ putB 5 8)) (n := 9) (c := c6) (by kernel_rfl) (by kernel_rfl) (H7.rdRow 0 rfl) (by first | rfl | omega | (simp only [List.length_cons, List.length_nil, List.length_drop, List.length_take, List.length_append] <;> omega))) [10, 12] [(10, .bool true), (12, .string (strOf (putB 1 1 ++ putB 5 8)))] (by kernel_rfl) (by kernel_rfl) rfl ?_
  refine GL.sem (j := 6) (run_str_eql (P := Try.prog) (t := 9) (putB 1 1 ++ putB 5 8) ([1, 5, 0, 0, 0, 0, 0, 0, 0] : List UInt8) _) [10, 13] [(10, .bool true), (13, .bool ((putB 1 1 ++ putB 5 8) == ([1, 5, 0, 0, 0, 0, 0, 0, 0] : List UInt8)))] (by kernel_rfl) (by kernel_rfl) rfl ?_
  refine GL.run (j := 8) 2 [0] [(0, .bool ((putB 1 1 ++ putB 5 8) == ([1, 5, 0, 0, 0, 0, 0, 0, 0] : List UInt8)))] (by kernel_rfl) rfl ?_
  refine GL.k rfl hK11 (fun _ _ h => h) ?_
  refine G.ret ?_
  intro F_ hF_ hM_
  refine hRet _ _ (bodyPost_1 rfl (RV.tmp rfl) ?_ F_ hF_ hM_)
  have hb12 : ((putB 1 1 ++ putB 5 8) == ([1, 5, 0, 0, 0, 0, 0, 0, 0] : List UInt8)) = true := by decide +kernel
  rw [hb12]
  exact ⟨rfl, H7.sub (List.nil_sublist _)⟩
end Go.Proofs.Ytkfhcogdpmndkaa
namespace Go.Proofs.Ytkfhcogdpmndkaa
open Go.RowKit
theorem fld_len {op k : Nat} {x y : List UInt8} (h : x.length = y.length) : (fld op k x).length = (fld op k y).length := by
  unfold fld
  split
  · exact h
  · rfl
theorem fld_peel {op k : Nat} {x y X Y : List UInt8} (hl : x.length = y.length) (h : fld op k x ++ X = fld op k y ++ Y) : (fm op / 2 ^ k % 2 = 1 → x = y) ∧ X = Y := by
  obtain ⟨h1, h2⟩ := List.append_inj h (fld_len hl)
  refine ⟨fun hb => ?_, h2⟩
  unfold fld at h1
  rwa [if_pos hb, if_pos hb] at h1
theorem cnt_inj {x y : Nat} {a b : List UInt8} (hx : x < 18446744073709551616) (hy : y < 18446744073709551616) (h : cnt x ++ a = cnt y ++ b) : x = y ∧ a = b := by
  obtain ⟨_, x2, x3, x4⟩ := cn_cnt hx a
  obtain ⟨_, y2, y3, y4⟩ := cn_cnt hy b
  rw [h] at x2 x3
  exact ⟨x2.symm.trans y2, x3.symm.trans y3⟩
theorem put1_inj {a b : UInt8} (h : putB a.toNat 1 = putB b.toNat 1) : a = b := UInt8.toNat_inj.1 (putB_inj (n := 1) a.toNat_lt b.toNat_lt h)
theorem cmd_inj {o w t o' w' t' : UInt8} {am id am' id' : Nat} {ad ad' : Nat → UInt8} {ag ag' : Bool} {bd bd' : List UInt8} (ham : am < 18446744073709551616) (hid : id < 18446744073709551616) (ham' : am' < 18446744073709551616) (hid' : id' < 18446744073709551616) (hb : bd.length ≤ 9000) (hb' : bd'.length ≤ 9000)
    (h1 : cmdE o w t am id ad ag bd = 0) (h2 : cmdE o' w' t' am' id' ad' ag' bd' = 0) (h : cmdB o w t am id ad ag bd = cmdB o' w' t' am' id' ad' ag' bd') : sameC o w t am id ad ag bd o' w' t' am' id' ad' ag' bd' = true := by
  unfold cmdB at h
  obtain ⟨e0, h⟩ := List.append_inj h (by rw [putB_length, putB_length])
  have eo := put1_inj e0
  subst eo
  obtain ⟨p0, h⟩ := fld_peel (by rw [putB_length, putB_length]) h
  obtain ⟨p1, h⟩ := fld_peel (by rw [putB_length, putB_length]) h
  obtain ⟨p2, h⟩ := fld_peel (by rw [putB_length, putB_length]) h
  obtain ⟨p3, h⟩ := fld_peel (by rw [putB_length, putB_length]) h
  obtain ⟨p4, h⟩ := fld_peel (by simp) h
  obtain ⟨p5, h⟩ := fld_peel (by rw [putB_length, putB_length]) h
  have hlk : ∀ (w t : UInt8) (am id : Nat) (ad : Nat → UInt8) (ag : Bool) (bd : List UInt8), cmdE o w t am id ad ag bd = 0 → ∀ k, k < 7 → cmdM w t am id ad ag bd / 2 ^ k % 2 = 1 → fm o.toNat / 2 ^ k % 2 = 1 := by
    intro w t am id ad ag bd h
    unfold cmdE at h
    have h3 : lacks (cmdM w t am id ad ag bd) (fm o.toNat) = 0 := by
      by_cases hc : fm o.toNat = 0 ∨ lacks (cmdM w t am id ad ag bd) (fm o.toNat) ≠ 0
      · rw [if_pos hc] at h
        cases h
      · omega
    exact (lacks_zero (setM_lt _ _ _ _ _ _ _) (fm_lt _)).1 h3
  have k1 := hlk _ _ _ _ _ _ _ h1
  have k2 := hlk _ _ _ _ _ _ _ h2
  obtain ⟨a0, a1, a2, a3, a4, a5, a6⟩ := setM_bits (decide (0 < w.toNat)) (decide (0 < t.toNat)) (decide (0 < am)) (decide (0 < id)) (adSet ad) ag (decide (0 < bd.length))
  obtain ⟨c0, c1, c2, c3, c4, c5, c6⟩ := setM_bits (decide (0 < w'.toNat)) (decide (0 < t'.toNat)) (decide (0 < am')) (decide (0 < id')) (adSet ad') ag' (decide (0 < bd'.length))
  have zero : ∀ {k : Nat} (_ : k < 7) {b b' : Bool} (_ : cmdM w t am id ad ag bd / 2 ^ k % 2 = 1 ↔ b = true) (_ : cmdM w' t' am' id' ad' ag' bd' / 2 ^ k % 2 = 1 ↔ b' = true), ¬ fm o.toNat / 2 ^ k % 2 = 1 → b = false ∧ b' = false := by
    intro k hk b b' x y hf
    refine ⟨?_, ?_⟩
    · cases b
      · rfl
      · exact absurd (k1 k hk (x.2 rfl)) hf
    · cases b'
      · rfl
      · exact absurd (k2 k hk (y.2 rfl)) hf
  unfold sameC
  refine decide_eq_true ⟨rfl, ?_, ?_, ?_, ?_, ?_, ?_, ?_⟩
  · by_cases hf : fm o.toNat / 2 ^ 0 % 2 = 1
    · exact put1_inj (p0 hf)
    · obtain ⟨x, y⟩ := zero (by decide) a0 c0 hf
      have x := of_decide_eq_false x
      have y := of_decide_eq_false y
      exact UInt8.toNat_inj.1 (by omega)
  · by_cases hf : fm o.toNat / 2 ^ 1 % 2 = 1
    · exact put1_inj (p1 hf)
    · obtain ⟨x, y⟩ := zero (by decide) a1 c1 hf
      have x := of_decide_eq_false x
      have y := of_decide_eq_false y
      exact UInt8.toNat_inj.1 (by omega)
  · by_cases hf : fm o.toNat / 2 ^ 2 % 2 = 1
    · exact putB_inj (n := 8) ham ham' (p2 hf)
    · obtain ⟨x, y⟩ := zero (by decide) a2 c2 hf
      have x := of_decide_eq_false x
      have y := of_decide_eq_false y
      omega
  · by_cases hf : fm o.toNat / 2 ^ 3 % 2 = 1
    · exact putB_inj (n := 8) hid hid' (p3 hf)
    · obtain ⟨x, y⟩ := zero (by decide) a3 c3 hf
      have x := of_decide_eq_false x
      have y := of_decide_eq_false y
      omega
  · by_cases hf : fm o.toNat / 2 ^ 4 % 2 = 1
    · exact p4 hf
    · obtain ⟨x, y⟩ := zero (by decide) a4 c4 hf
      have z : ∀ a : Nat → UInt8, adSet a = false → (List.range 20).map a = List.replicate 20 0 := by
        intro a ha
        unfold adSet at ha
        cases hd : decide ((List.range 20).map a = List.replicate 20 0) with
        | true => exact of_decide_eq_true hd
        | false => rw [hd] at ha; cases ha
      exact (z _ x).trans (z _ y).symm
  · by_cases hf : fm o.toNat / 2 ^ 5 % 2 = 1
    · have := p5 hf
      cases ag <;> cases ag' <;> first | rfl | (exact absurd this (by decide))
    · obtain ⟨x, y⟩ := zero (by decide) a5 c5 hf
      rw [x, y]
  · by_cases hf : fm o.toNat / 2 ^ 6 % 2 = 1
    · unfold fld at h
      rw [if_pos hf, if_pos hf] at h
      exact (cnt_inj (by omega) (by omega) h).2
    · obtain ⟨x, y⟩ := zero (by decide) a6 c6 hf
      have x := of_decide_eq_false x
      have y := of_decide_eq_false y
      rw [List.eq_nil_of_length_eq_zero (show bd.length = 0 by omega), List.eq_nil_of_length_eq_zero (show bd'.length = 0 by omega)]
def flipB (b : UInt8) : UInt8 := UInt8.ofNat (Go.bits .xor .u8 (b.toNat : Int) 255).toNat
theorem u8_flip (b : UInt8) : Go.bits .xor .u8 (b.toNat : Int) 255 = ((flipB b).toNat : Int) := by
  have h : ∀ a : Fin 256, 0 ≤ Go.bits .xor .u8 ((a.val : Nat) : Int) 255 ∧ Go.bits .xor .u8 ((a.val : Nat) : Int) 255 < 256 := by decide +kernel
  have h2 := h ⟨b.toNat, b.toNat_lt⟩
  simp only at h2
  unfold flipB
  rw [u8_ofNat]
  omega
set_option maxHeartbeats 4000000 in
theorem CommandParses_calls (A : Option Addr) (bs : List UInt8) (c : Nat) (w : World) (hx : RdS w A (by8 bs)) (hc : bs.length ≤ c) : Calls Try.prog 6 #[.slice A bs.length c] w fun e w' => e = .returned (.bool true) ∧ Hp w [] [] w' := by
  refine calls_G (args := [.slice A bs.length c]) Try.func6 rfl Try.ntmps6 rfl ?_
  intro Q0 hRet hNor hPan
  have H := Hp.start w
  have H : Hp w [] [] w := H
  refine G.seqK fun K1 hK2 => ?_
  refine G.region ?_
  refine GL.run (j := 1) 1 [0] [(0, .slice A bs.length c)] (by kernel_rfl) rfl ?_
  refine GL.k rfl hK2 (fun _ _ h => h) ?_
  refine G.seqK fun K3 hK4 => ?_
  refine G.seqK fun K5 hK6 => ?_
  refine G.region ?_
  refine GL.call (j := 1) (lives_calls w) (by kernel_rfl) rfl (fun e_ w7 hR => ?_)
  obtain ⟨rfl, H9⟩ := hR
  have H8 : Hp w [] [] w7 := H.callNil H9
  refine ⟨_, rfl, [0, 11], [(0, .slice A bs.length c), (11, .bool true)], by kernel_rfl, ?_⟩
  refine GL.run (j := 7) 6 [0, 17] [(0, .slice A bs.length c), (17, .bool (decide (9000 < (bs.length : Int))))] (by kernel_rfl) rfl ?_
  refine GL.k rfl hK6 (fun _ _ h => h) ?_
  cases hb10 : (decide (9000 < (bs.length : Int)))
  · skip
    have hb10f := of_decide_eq_false hb10
    have hbl : bs.length ≤ 9000 := by omega
    refine G.no rfl ?_
    refine G.skipK hK4 (fun _ _ h => h) ?_
    refine G.seqK fun K11 hK12 => ?_
    refine G.region ?_
    obtain ⟨p13, w14, r15, H16⟩ := H8.madeRow (P := Try.prog) (Instr.buildSlice 26 0 #[]) (fun b_ => .slice (some ⟨b_, 0, none⟩) 0 0) [] 5 0 0 1 (by kernel_rfl) (by decide) (by decide) rfl
    have H16 : Hp w [] [.row (some ⟨p13, 0, none⟩) 0 0 5 1 (by8 ([] : List UInt8))] w14 := H16
    refine GL.sem (j := 1) (r15) [0, 19] [(0, .slice A bs.length c), (19, .slice (some ⟨p13, 0, none⟩) 0 0)] (by kernel_rfl) (by kernel_rfl) rfl ?_
    refine GL.run (j := 2) 1 [0, 19, 20] [(0, .slice A bs.length c), (19, .slice (some ⟨p13, 0, none⟩) 0 0), (20, .slice A bs.length c)] (by kernel_rfl) rfl ?_
    obtain ⟨A17, c18, w19, r20, H21⟩ := H16.append (P := Try.prog) (e := 5) (sz := 1) (by_ := 1) (n := 0) (c := 0) (m := bs.length) (d := c) (t := 26) (ty := 26) (xs := by8 ([] : List UInt8)) (news := by8 bs) 0 rfl (by kernel_rfl) (hx.hp H16) (by first | (simp [by8_length]; done) | (rw [by8_length]; omega) | (rw [by8_length, putB_length])) (by8_one _) (by omega) (by simp only [maxLen]; omega)
    rw [Nat.zero_add] at r20 H21
    have H21 : Hp w [] [.row A17 bs.length c18 5 1 (by8 bs)] w19 := H21
    refine GL.sem (j := 3) (r20) [0, 21] [(0, .slice A bs.length c), (21, .slice A17 bs.length c18)] (by kernel_rfl) (by kernel_rfl) rfl ?_
    refine GL.run (j := 4) 1 [0, 3] [(0, .slice A bs.length c), (3, .slice A17 bs.length c18)] (by kernel_rfl) rfl ?_
    refine GL.k rfl hK12 (fun _ _ h => h) ?_
    refine G.seqK fun K22 hK23 => ?_
    refine G.region ?_
    refine GL.run (j := 1) 1 [0, 3, 23] [(0, .slice A bs.length c), (3, .slice A17 bs.length c18), (23, .slice A17 bs.length c18)] (by kernel_rfl) rfl ?_
    refine GL.call (j := 2) (CParse_calls bs A17 bs.length c18 w19 (H21.rdRow 0 rfl) (by first | omega | simp) (by first | omega | (simp; omega))) (by kernel_rfl) rfl (fun e_ w24 hR => ?_)
    obtain ⟨o3, wh3, t3, am3, id3, ad3, ag3, D3, bd3, d3, err3, rfl, H26, hb83, ham3, hid3, hp3⟩ := hR
    have H25 : Hp w [] [.row A17 bs.length c18 5 1 (by8 bs), .row D3 bd3.length d3 5 1 (by8 bd3)] w24 := H21.callNew H26
    have hbc3 : bd3.length ≤ 9000 := Nat.le_trans hb83 (by decide)
    refine ⟨_, rfl, [0, 3, 24], [(0, .slice A bs.length c), (3, .slice A17 bs.length c18), (24, .tuple #[.agg #[.int .u8 (o3.toNat : Int), .int .u8 (wh3.toNat : Int), .int .u8 (t3.toNat : Int), .int .u64 (am3 : Int), .int .u64 (id3 : Int), .int .u8 ((ad3 0).toNat : Int), .int .u8 ((ad3 1).toNat : Int), .int .u8 ((ad3 2).toNat : Int), .int .u8 ((ad3 3).toNat : Int), .int .u8 ((ad3 4).toNat : Int), .int .u8 ((ad3 5).toNat : Int), .int .u8 ((ad3 6).toNat : Int), .int .u8 ((ad3 7).toNat : Int), .int .u8 ((ad3 8).toNat : Int), .int .u8 ((ad3 9).toNat : Int), .int .u8 ((ad3 10).toNat : Int), .int .u8 ((ad3 11).toNat : Int), .int .u8 ((ad3 12).toNat : Int), .int .u8 ((ad3 13).toNat : Int), .int .u8 ((ad3 14).toNat : Int), .int .u8 ((ad3 15).toNat : Int), .int .u8 ((ad3 16).toNat : Int), .int .u8 ((ad3 17).toNat : Int), .int .u8 ((ad3 18).toNat : Int), .int .u8 ((ad3 19).toNat : Int), .bool ag3, .slice D3 bd3.length d3], .int .i64 (err3 : Int)])], by kernel_rfl, ?_⟩
    refine GL.run (j := 5) 3 [0, 3, 25, 26] [(0, .slice A bs.length c), (3, .slice A17 bs.length c18), (25, .agg #[.int .u8 (o3.toNat : Int), .int .u8 (wh3.toNat : Int), .int .u8 (t3.toNat : Int), .int .u64 (am3 : Int), .int .u64 (id3 : Int), .int .u8 ((ad3 0).toNat : Int), .int .u8 ((ad3 1).toNat : Int), .int .u8 ((ad3 2).toNat : Int), .int .u8 ((ad3 3).toNat : Int), .int .u8 ((ad3 4).toNat : Int), .int .u8 ((ad3 5).toNat : Int), .int .u8 ((ad3 6).toNat : Int), .int .u8 ((ad3 7).toNat : Int), .int .u8 ((ad3 8).toNat : Int), .int .u8 ((ad3 9).toNat : Int), .int .u8 ((ad3 10).toNat : Int), .int .u8 ((ad3 11).toNat : Int), .int .u8 ((ad3 12).toNat : Int), .int .u8 ((ad3 13).toNat : Int), .int .u8 ((ad3 14).toNat : Int), .int .u8 ((ad3 15).toNat : Int), .int .u8 ((ad3 16).toNat : Int), .int .u8 ((ad3 17).toNat : Int), .int .u8 ((ad3 18).toNat : Int), .int .u8 ((ad3 19).toNat : Int), .bool ag3, .slice D3 bd3.length d3]), (26, .int .i64 (err3 : Int))] (by kernel_rfl) rfl ?_
    obtain ⟨p27, w28, r29, H30⟩ := H25.alloc (P := Try.prog) 28 [.int .u8 0, .int .u8 0, .int .u8 0, .int .u64 0, .int .u64 0, .int .u8 0, .int .u8 0, .int .u8 0, .int .u8 0, .int .u8 0, .int .u8 0, .int .u8 0, .int .u8 0, .int .u8 0, .int .u8 0, .int .u8 0, .int .u8 0, .int .u8 0, .int .u8 0, .int .u8 0, .int .u8 0, .int .u8 0, .int .u8 0, .int .u8 0, .int .u8 0, .bool false, .slice none 0 0] (by kernel_rfl)
    have H30 : Hp w [] [.row A17 bs.length c18 5 1 (by8 bs), .row D3 bd3.length d3 5 1 (by8 bd3), .blk p27 [.int .u8 0, .int .u8 0, .int .u8 0, .int .u64 0, .int .u64 0, .int .u8 0, .int .u8 0, .int .u8 0, .int .u8 0, .int .u8 0, .int .u8 0, .int .u8 0, .int .u8 0, .int .u8 0, .int .u8 0, .int .u8 0, .int .u8 0, .int .u8 0, .int .u8 0, .int .u8 0, .int .u8 0, .int .u8 0, .int .u8 0, .int .u8 0, .int .u8 0, .bool false, .slice none 0 0] 28] w28 := H30
    refine GL.sem (j := 6) (r29) [0, 3, 4, 25, 26] [(0, .slice A bs.length c), (3, .slice A17 bs.length c18), (4, pt p27 0), (25, .agg #[.int .u8 (o3.toNat : Int), .int .u8 (wh3.toNat : Int), .int .u8 (t3.toNat : Int), .int .u64 (am3 : Int), .int .u64 (id3 : Int), .int .u8 ((ad3 0).toNat : Int), .int .u8 ((ad3 1).toNat : Int), .int .u8 ((ad3 2).toNat : Int), .int .u8 ((ad3 3).toNat : Int), .int .u8 ((ad3 4).toNat : Int), .int .u8 ((ad3 5).toNat : Int), .int .u8 ((ad3 6).toNat : Int), .int .u8 ((ad3 7).toNat : Int), .int .u8 ((ad3 8).toNat : Int), .int .u8 ((ad3 9).toNat : Int), .int .u8 ((ad3 10).toNat : Int), .int .u8 ((ad3 11).toNat : Int), .int .u8 ((ad3 12).toNat : Int), .int .u8 ((ad3 13).toNat : Int), .int .u8 ((ad3 14).toNat : Int), .int .u8 ((ad3 15).toNat : Int), .int .u8 ((ad3 16).toNat : Int), .int .u8 ((ad3 17).toNat : Int), .int .u8 ((ad3 18).toNat : Int), .int .u8 ((ad3 19).toNat : Int), .bool ag3, .slice D3 bd3.length d3]), (26, .int .i64 (err3 : Int))] (by kernel_rfl) (by kernel_rfl) rfl ?_
    obtain ⟨w31, r32, H33⟩ := H30.stA (P := Try.prog) (o := 0) (vs := [.int .u8 (o3.toNat : Int), .int .u8 (wh3.toNat : Int), .int .u8 (t3.toNat : Int), .int .u64 (am3 : Int), .int .u64 (id3 : Int), .int .u8 ((ad3 0).toNat : Int), .int .u8 ((ad3 1).toNat : Int), .int .u8 ((ad3 2).toNat : Int), .int .u8 ((ad3 3).toNat : Int), .int .u8 ((ad3 4).toNat : Int), .int .u8 ((ad3 5).toNat : Int), .int .u8 ((ad3 6).toNat : Int), .int .u8 ((ad3 7).toNat : Int), .int .u8 ((ad3 8).toNat : Int), .int .u8 ((ad3 9).toNat : Int), .int .u8 ((ad3 10).toNat : Int), .int .u8 ((ad3 11).toNat : Int), .int .u8 ((ad3 12).toNat : Int), .int .u8 ((ad3 13).toNat : Int), .int .u8 ((ad3 14).toNat : Int), .int .u8 ((ad3 15).toNat : Int), .int .u8 ((ad3 16).toNat : Int), .int .u8 ((ad3 17).toNat : Int), .int .u8 ((ad3 18).toNat : Int), .int .u8 ((ad3 19).toNat : Int), .bool ag3, .slice D3 bd3.length d3]) (ty := 28) (m := 27) 2 rfl (by kernel_rfl) rfl (by simp) (by simp [Value.oneCell'])
    have H33 : Hp w [] [.row A17 bs.length c18 5 1 (by8 bs), .row D3 bd3.length d3 5 1 (by8 bd3), .blk p27 [.int .u8 (o3.toNat : Int), .int .u8 (wh3.toNat : Int), .int .u8 (t3.toNat : Int), .int .u64 (am3 : Int), .int .u64 (id3 : Int), .int .u8 ((ad3 0).toNat : Int), .int .u8 ((ad3 1).toNat : Int), .int .u8 ((ad3 2).toNat : Int), .int .u8 ((ad3 3).toNat : Int), .int .u8 ((ad3 4).toNat : Int), .int .u8 ((ad3 5).toNat : Int), .int .u8 ((ad3 6).toNat : Int), .int .u8 ((ad3 7).toNat : Int), .int .u8 ((ad3 8).toNat : Int), .int .u8 ((ad3 9).toNat : Int), .int .u8 ((ad3 10).toNat : Int), .int .u8 ((ad3 11).toNat : Int), .int .u8 ((ad3 12).toNat : Int), .int .u8 ((ad3 13).toNat : Int), .int .u8 ((ad3 14).toNat : Int), .int .u8 ((ad3 15).toNat : Int), .int .u8 ((ad3 16).toNat : Int), .int .u8 ((ad3 17).toNat : Int), .int .u8 ((ad3 18).toNat : Int), .int .u8 ((ad3 19).toNat : Int), .bool ag3, .slice D3 bd3.length d3] 28] w31 := H33
    refine GL.semU (j := 7) r32 [0, 3, 4, 26] [(0, .slice A bs.length c), (3, .slice A17 bs.length c18), (4, pt p27 0), (26, .int .i64 (err3 : Int))] (by kernel_rfl) rfl rfl rfl ?_
    refine GL.run (j := 8) 1 [0, 3, 4, 5] [(0, .slice A bs.length c), (3, .slice A17 bs.length c18), (4, pt p27 0), (5, .int .i64 (err3 : Int))] (by kernel_rfl) rfl ?_
    refine GL.k rfl hK23 (fun _ _ h => h) ?_
    refine G.seqK fun K34 hK35 => ?_
    refine G.seqK fun K36 hK37 => ?_
    refine G.region ?_
    refine GL.run (j := 3) 3 [0, 3, 4, 5, 28, 29] [(0, .slice A bs.length c), (3, .slice A17 bs.length c18), (4, pt p27 0), (5, .int .i64 (err3 : Int)), (28, .int .i64 (bs.length : Int)), (29, .int .i64 0)] (by kernel_rfl) rfl ?_
    refine GL.k rfl hK37 (fun _ _ h => h) ?_
    refine G.block ?_
    refine G.fit [0, 3, 4, 5, 28, 29] (M' := [(0, .slice A bs.length c), (3, .slice A17 bs.length c18), (4, pt p27 0), (5, .int .i64 (err3 : Int)), (28, .int .i64 (bs.length : Int)), (29, .int .i64 0)]) (by kernel_rfl) ?_
    refine G.loop (X := Nat × List UInt8) (fun ⟨i, X⟩ => [(0, .slice A bs.length c), (3, .slice A17 bs.length c18), (4, pt p27 0), (5, .int .i64 (err3 : Int)), (28, .int .i64 (bs.length : Int)), (29, .int .i64 (i : Int))]) (fun ⟨i, X⟩ w_ => (i ≤ bs.length ∧ X.length = bs.length) ∧ Hp w [] [.row A17 bs.length c18 5 1 (by8 X), .row D3 bd3.length d3 5 1 (by8 bd3), .blk p27 [.int .u8 (o3.toNat : Int), .int .u8 (wh3.toNat : Int), .int .u8 (t3.toNat : Int), .int .u64 (am3 : Int), .int .u64 (id3 : Int), .int .u8 ((ad3 0).toNat : Int), .int .u8 ((ad3 1).toNat : Int), .int .u8 ((ad3 2).toNat : Int), .int .u8 ((ad3 3).toNat : Int), .int .u8 ((ad3 4).toNat : Int), .int .u8 ((ad3 5).toNat : Int), .int .u8 ((ad3 6).toNat : Int), .int .u8 ((ad3 7).toNat : Int), .int .u8 ((ad3 8).toNat : Int), .int .u8 ((ad3 9).toNat : Int), .int .u8 ((ad3 10).toNat : Int), .int .u8 ((ad3 11).toNat : Int), .int .u8 ((ad3 12).toNat : Int), .int .u8 ((ad3 13).toNat : Int), .int .u8 ((ad3 14).toNat : Int), .int .u8 ((ad3 15).toNat : Int), .int .u8 ((ad3 16).toNat : Int), .int .u8 ((ad3 17).toNat : Int), .int .u8 ((ad3 18).toNat : Int), .int .u8 ((ad3 19).toNat : Int), .bool ag3, .slice D3 bd3.length d3] 28] w_) (fun ⟨i, X⟩ => bs.length - i) ⟨0, bs⟩ [0, 3, 4, 5, 28, 29] (by kernel_rfl) ⟨⟨Nat.zero_le _, by first | rfl | simp⟩, H33⟩ ?_
    rintro ⟨i, X⟩ w38 ⟨hi39, H40⟩
    refine G.eq (M' := [(0, .slice A bs.length c), (3, .slice A17 bs.length c18), (4, pt p27 0), (5, .int .i64 (err3 : Int)), (28, .int .i64 (bs.length : Int)), (29, .int .i64 (i : Int))]) rfl ?_
    have H40 : Hp w [] [.row A17 bs.length c18 5 1 (by8 X), .row D3 bd3.length d3 5 1 (by8 bd3), .blk p27 [.int .u8 (o3.toNat : Int), .int .u8 (wh3.toNat : Int), .int .u8 (t3.toNat : Int), .int .u64 (am3 : Int), .int .u64 (id3 : Int), .int .u8 ((ad3 0).toNat : Int), .int .u8 ((ad3 1).toNat : Int), .int .u8 ((ad3 2).toNat : Int), .int .u8 ((ad3 3).toNat : Int), .int .u8 ((ad3 4).toNat : Int), .int .u8 ((ad3 5).toNat : Int), .int .u8 ((ad3 6).toNat : Int), .int .u8 ((ad3 7).toNat : Int), .int .u8 ((ad3 8).toNat : Int), .int .u8 ((ad3 9).toNat : Int), .int .u8 ((ad3 10).toNat : Int), .int .u8 ((ad3 11).toNat : Int), .int .u8 ((ad3 12).toNat : Int), .int .u8 ((ad3 13).toNat : Int), .int .u8 ((ad3 14).toNat : Int), .int .u8 ((ad3 15).toNat : Int), .int .u8 ((ad3 16).toNat : Int), .int .u8 ((ad3 17).toNat : Int), .int .u8 ((ad3 18).toNat : Int), .int .u8 ((ad3 19).toNat : Int), .bool ag3, .slice D3 bd3.length d3] 28] w38 := H40
    obtain ⟨hi9, hX9⟩ := hi39
    refine G.seqK fun K41 hK42 => ?_
    refine G.region ?_
    refine GL.run (j := 1) 1 [0, 3, 4, 5, 28, 29, 30] [(0, .slice A bs.length c), (3, .slice A17 bs.length c18), (4, pt p27 0), (5, .int .i64 (err3 : Int)), (28, .int .i64 (bs.length : Int)), (29, .int .i64 (i : Int)), (30, .bool (decide ((i : Int) < (bs.length : Int))))] (by kernel_rfl) rfl ?_
    refine GL.k rfl hK42 (fun _ _ h => h) ?_
    refine G.seqK fun K43 hK44 => ?_
    cases hb45 : (decide ((i : Int) < (bs.length : Int)))
    · skip
      have hb45f := of_decide_eq_false hb45
      refine G.no rfl ?_
      refine G.exitK hK35 (fun _ _ h => h) ?_
      refine G.seqK fun K46 hK47 => ?_
      refine G.region ?_
      refine GL.run (j := 1) 1 [0, 4, 5, 40] [(0, .slice A bs.length c), (4, pt p27 0), (5, .int .i64 (err3 : Int)), (40, .slice A bs.length c)] (by kernel_rfl) rfl ?_
      refine GL.call (j := 2) (RParse27_calls bs A bs.length c w38 (hx.hp H40) rfl hc (by omega)) (by kernel_rfl) rfl (fun e_ w48 hR => ?_)
      obtain ⟨o4, wh4, t4, am4, id4, ad4, ag4, bd4, ok4, rfl, H50, hb84, ham4, hid4, hq1, hq0⟩ := hR
      have H49 : Hp w [] [.row A17 bs.length c18 5 1 (by8 X), .row D3 bd3.length d3 5 1 (by8 bd3), .blk p27 [.int .u8 (o3.toNat : Int), .int .u8 (wh3.toNat : Int), .int .u8 (t3.toNat : Int), .int .u64 (am3 : Int), .int .u64 (id3 : Int), .int .u8 ((ad3 0).toNat : Int), .int .u8 ((ad3 1).toNat : Int), .int .u8 ((ad3 2).toNat : Int), .int .u8 ((ad3 3).toNat : Int), .int .u8 ((ad3 4).toNat : Int), .int .u8 ((ad3 5).toNat : Int), .int .u8 ((ad3 6).toNat : Int), .int .u8 ((ad3 7).toNat : Int), .int .u8 ((ad3 8).toNat : Int), .int .u8 ((ad3 9).toNat : Int), .int .u8 ((ad3 10).toNat : Int), .int .u8 ((ad3 11).toNat : Int), .int .u8 ((ad3 12).toNat : Int), .int .u8 ((ad3 13).toNat : Int), .int .u8 ((ad3 14).toNat : Int), .int .u8 ((ad3 15).toNat : Int), .int .u8 ((ad3 16).toNat : Int), .int .u8 ((ad3 17).toNat : Int), .int .u8 ((ad3 18).toNat : Int), .int .u8 ((ad3 19).toNat : Int), .bool ag3, .slice D3 bd3.length d3] 28] w48 := H40.callNil H50
      have hbc4 : bd4.length ≤ 9000 := Nat.le_trans hb84 (by decide)
      have hk1 : ok4 = true → err3 = 0 ∧ bs = cmdB o3 wh3 t3 am3 id3 ad3 ag3 bd3 ∧ cmdE o3 wh3 t3 am3 id3 ad3 ag3 bd3 = 0 ∧ bs = cmdB o4 wh4 t4 am4 id4 ad4 ag4 bd4 ∧ cmdE o4 wh4 t4 am4 id4 ad4 ag4 bd4 = 0 := fun hok => by
        obtain ⟨g1, g2⟩ := hq1 hok
        rcases hp3 with ⟨h1, h2, h3⟩ | ⟨_, _, h3⟩
        · exact ⟨h1, h2, h3, g1, g2⟩
        · exact absurd g1 (h3 _ _ _ _ _ _ _ _ g2)
      have hk0 : ok4 = false → err3 = 2 ∧ o3 = 0 ∧ bd3 = [] := fun hok => by
        rcases hp3 with ⟨_, h2, h3⟩ | ⟨h1, h2, _⟩
        · exact absurd h2 (hq0 hok _ _ _ _ _ _ _ _ h3)
        · exact ⟨h1, h2⟩
      refine ⟨_, rfl, [0, 4, 5, 41], [(0, .slice A bs.length c), (4, pt p27 0), (5, .int .i64 (err3 : Int)), (41, .tuple #[.agg #[.int .u8 (o4.toNat : Int), .int .u8 (wh4.toNat : Int), .int .u8 (t4.toNat : Int), .int .u64 (am4 : Int), .int .u64 (id4 : Int), .int .u8 ((ad4 0).toNat : Int), .int .u8 ((ad4 1).toNat : Int), .int .u8 ((ad4 2).toNat : Int), .int .u8 ((ad4 3).toNat : Int), .int .u8 ((ad4 4).toNat : Int), .int .u8 ((ad4 5).toNat : Int), .int .u8 ((ad4 6).toNat : Int), .int .u8 ((ad4 7).toNat : Int), .int .u8 ((ad4 8).toNat : Int), .int .u8 ((ad4 9).toNat : Int), .int .u8 ((ad4 10).toNat : Int), .int .u8 ((ad4 11).toNat : Int), .int .u8 ((ad4 12).toNat : Int), .int .u8 ((ad4 13).toNat : Int), .int .u8 ((ad4 14).toNat : Int), .int .u8 ((ad4 15).toNat : Int), .int .u8 ((ad4 16).toNat : Int), .int .u8 ((ad4 17).toNat : Int), .int .u8 ((ad4 18).toNat : Int), .int .u8 ((ad4 19).toNat : Int), .bool ag4, .string (strOf bd4)], .bool ok4])], by kernel_rfl, ?_⟩
      refine GL.run (j := 5) 3 [0, 4, 5, 42, 43] [(0, .slice A bs.length c), (4, pt p27 0), (5, .int .i64 (err3 : Int)), (42, .agg #[.int .u8 (o4.toNat : Int), .int .u8 (wh4.toNat : Int), .int .u8 (t4.toNat : Int), .int .u64 (am4 : Int), .int .u64 (id4 : Int), .int .u8 ((ad4 0).toNat : Int), .int .u8 ((ad4 1).toNat : Int), .int .u8 ((ad4 2).toNat : Int), .int .u8 ((ad4 3).toNat : Int), .int .u8 ((ad4 4).toNat : Int), .int .u8 ((ad4 5).toNat : Int), .int .u8 ((ad4 6).toNat : Int), .int .u8 ((ad4 7).toNat : Int), .int .u8 ((ad4 8).toNat : Int), .int .u8 ((ad4 9).toNat : Int), .int .u8 ((ad4 10).toNat : Int), .int .u8 ((ad4 11).toNat : Int), .int .u8 ((ad4 12).toNat : Int), .int .u8 ((ad4 13).toNat : Int), .int .u8 ((ad4 14).toNat : Int), .int .u8 ((ad4 15).toNat : Int), .int .u8 ((ad4 16).toNat : Int), .int .u8 ((ad4 17).toNat : Int), .int .u8 ((ad4 18).toNat : Int), .int .u8 ((ad4 19).toNat : Int), .bool ag4, .string (strOf bd4)]), (43, .bool ok4)] (by kernel_rfl) rfl ?_
      obtain ⟨p51, w52, r53, H54⟩ := H49.alloc (P := Try.prog) 34 [.int .u8 0, .int .u8 0, .int .u8 0, .int .u64 0, .int .u64 0, .int .u8 0, .int .u8 0, .int .u8 0, .int .u8 0, .int .u8 0, .int .u8 0, .int .u8 0, .int .u8 0, .int .u8 0, .int .u8 0, .int .u8 0, .int .u8 0, .int .u8 0, .int .u8 0, .int .u8 0, .int .u8 0, .int .u8 0, .int .u8 0, .int .u8 0, .int .u8 0, .bool false, .string ⟨#[]⟩] (by kernel_rfl)
      have H54 : Hp w [] [.row A17 bs.length c18 5 1 (by8 X), .row D3 bd3.length d3 5 1 (by8 bd3), .blk p27 [.int .u8 (o3.toNat : Int), .int .u8 (wh3.toNat : Int), .int .u8 (t3.toNat : Int), .int .u64 (am3 : Int), .int .u64 (id3 : Int), .int .u8 ((ad3 0).toNat : Int), .int .u8 ((ad3 1).toNat : Int), .int .u8 ((ad3 2).toNat : Int), .int .u8 ((ad3 3).toNat : Int), .int .u8 ((ad3 4).toNat : Int), .int .u8 ((ad3 5).toNat : Int), .int .u8 ((ad3 6).toNat : Int), .int .u8 ((ad3 7).toNat : Int), .int .u8 ((ad3 8).toNat : Int), .int .u8 ((ad3 9).toNat : Int), .int .u8 ((ad3 10).toNat : Int), .int .u8 ((ad3 11).toNat : Int), .int .u8 ((ad3 12).toNat : Int), .int .u8 ((ad3 13).toNat : Int), .int .u8 ((ad3 14).toNat : Int), .int .u8 ((ad3 15).toNat : Int), .int .u8 ((ad3 16).toNat : Int), .int .u8 ((ad3 17).toNat : Int), .int .u8 ((ad3 18).toNat : Int), .int .u8 ((ad3 19).toNat : Int), .bool ag3, .slice D3 bd3.length d3] 28, .blk p51 [.int .u8 0, .int .u8 0, .int .u8 0, .int .u64 0, .int .u64 0, .int .u8 0, .int .u8 0, .int .u8 0, .int .u8 0, .int .u8 0, .int .u8 0, .int .u8 0, .int .u8 0, .int .u8 0, .int .u8 0, .int .u8 0, .int .u8 0, .int .u8 0, .int .u8 0, .int .u8 0, .int .u8 0, .int .u8 0, .int .u8 0, .int .u8 0, .int .u8 0, .bool false, .string ⟨#[]⟩] 34] w52 := H54
      refine GL.sem (j := 6) (r53) [0, 4, 5, 7, 42, 43] [(0, .slice A bs.length c), (4, pt p27 0), (5, .int .i64 (err3 : Int)), (7, pt p51 0), (42, .agg #[.int .u8 (o4.toNat : Int), .int .u8 (wh4.toNat : Int), .int .u8 (t4.toNat : Int), .int .u64 (am4 : Int), .int .u64 (id4 : Int), .int .u8 ((ad4 0).toNat : Int), .int .u8 ((ad4 1).toNat : Int), .int .u8 ((ad4 2).toNat : Int), .int .u8 ((ad4 3).toNat : Int), .int .u8 ((ad4 4).toNat : Int), .int .u8 ((ad4 5).toNat : Int), .int .u8 ((ad4 6).toNat : Int), .int .u8 ((ad4 7).toNat : Int), .int .u8 ((ad4 8).toNat : Int), .int .u8 ((ad4 9).toNat : Int), .int .u8 ((ad4 10).toNat : Int), .int .u8 ((ad4 11).toNat : Int), .int .u8 ((ad4 12).toNat : Int), .int .u8 ((ad4 13).toNat : Int), .int .u8 ((ad4 14).toNat : Int), .int .u8 ((ad4 15).toNat : Int), .int .u8 ((ad4 16).toNat : Int), .int .u8 ((ad4 17).toNat : Int), .int .u8 ((ad4 18).toNat : Int), .int .u8 ((ad4 19).toNat : Int), .bool ag4, .string (strOf bd4)]), (43, .bool ok4)] (by kernel_rfl) (by kernel_rfl) rfl ?_
      obtain ⟨w55, r56, H57⟩ := H54.stA (P := Try.prog) (o := 0) (vs := [.int .u8 (o4.toNat : Int), .int .u8 (wh4.toNat : Int), .int .u8 (t4.toNat : Int), .int .u64 (am4 : Int), .int .u64 (id4 : Int), .int .u8 ((ad4 0).toNat : Int), .int .u8 ((ad4 1).toNat : Int), .int .u8 ((ad4 2).toNat : Int), .int .u8 ((ad4 3).toNat : Int), .int .u8 ((ad4 4).toNat : Int), .int .u8 ((ad4 5).toNat : Int), .int .u8 ((ad4 6).toNat : Int), .int .u8 ((ad4 7).toNat : Int), .int .u8 ((ad4 8).toNat : Int), .int .u8 ((ad4 9).toNat : Int), .int .u8 ((ad4 10).toNat : Int), .int .u8 ((ad4 11).toNat : Int), .int .u8 ((ad4 12).toNat : Int), .int .u8 ((ad4 13).toNat : Int), .int .u8 ((ad4 14).toNat : Int), .int .u8 ((ad4 15).toNat : Int), .int .u8 ((ad4 16).toNat : Int), .int .u8 ((ad4 17).toNat : Int), .int .u8 ((ad4 18).toNat : Int), .int .u8 ((ad4 19).toNat : Int), .bool ag4, .string (strOf bd4)]) (ty := 34) (m := 27) 3 rfl (by kernel_rfl) rfl (by simp) (by simp [Value.oneCell'])
      have H57 : Hp w [] [.row A17 bs.length c18 5 1 (by8 X), .row D3 bd3.length d3 5 1 (by8 bd3), .blk p27 [.int .u8 (o3.toNat : Int), .int .u8 (wh3.toNat : Int), .int .u8 (t3.toNat : Int), .int .u64 (am3 : Int), .int .u64 (id3 : Int), .int .u8 ((ad3 0).toNat : Int), .int .u8 ((ad3 1).toNat : Int), .int .u8 ((ad3 2).toNat : Int), .int .u8 ((ad3 3).toNat : Int), .int .u8 ((ad3 4).toNat : Int), .int .u8 ((ad3 5).toNat : Int), .int .u8 ((ad3 6).toNat : Int), .int .u8 ((ad3 7).toNat : Int), .int .u8 ((ad3 8).toNat : Int), .int .u8 ((ad3 9).toNat : Int), .int .u8 ((ad3 10).toNat : Int), .int .u8 ((ad3 11).toNat : Int), .int .u8 ((ad3 12).toNat : Int), .int .u8 ((ad3 13).toNat : Int), .int .u8 ((ad3 14).toNat : Int), .int .u8 ((ad3 15).toNat : Int), .int .u8 ((ad3 16).toNat : Int), .int .u8 ((ad3 17).toNat : Int), .int .u8 ((ad3 18).toNat : Int), .int .u8 ((ad3 19).toNat : Int), .bool ag3, .slice D3 bd3.length d3] 28, .blk p51 [.int .u8 (o4.toNat : Int), .int .u8 (wh4.toNat : Int), .int .u8 (t4.toNat : Int), .int .u64 (am4 : Int), .int .u64 (id4 : Int), .int .u8 ((ad4 0).toNat : Int), .int .u8 ((ad4 1).toNat : Int), .int .u8 ((ad4 2).toNat : Int), .int .u8 ((ad4 3).toNat : Int), .int .u8 ((ad4 4).toNat : Int), .int .u8 ((ad4 5).toNat : Int), .int .u8 ((ad4 6).toNat : Int), .int .u8 ((ad4 7).toNat : Int), .int .u8 ((ad4 8).toNat : Int), .int .u8 ((ad4 9).toNat : Int), .int .u8 ((ad4 10).toNat : Int), .int .u8 ((ad4 11).toNat : Int), .int .u8 ((ad4 12).toNat : Int), .int .u8 ((ad4 13).toNat : Int), .int .u8 ((ad4 14).toNat : Int), .int .u8 ((ad4 15).toNat : Int), .int .u8 ((ad4 16).toNat : Int), .int .u8 ((ad4 17).toNat : Int), .int .u8 ((ad4 18).toNat : Int), .int .u8 ((ad4 19).toNat : Int), .bool ag4, .string (strOf bd4)] 34] w55 := H57
      refine GL.semU (j := 7) r56 [0, 4, 5, 7, 43] [(0, .slice A bs.length c), (4, pt p27 0), (5, .int .i64 (err3 : Int)), (7, pt p51 0), (43, .bool ok4)] (by kernel_rfl) rfl rfl rfl ?_
      refine GL.run (j := 8) 1 [0, 4, 5, 7, 8] [(0, .slice A bs.length c), (4, pt p27 0), (5, .int .i64 (err3 : Int)), (7, pt p51 0), (8, .bool ok4)] (by kernel_rfl) rfl ?_
      refine GL.k rfl hK47 (fun _ _ h => h) ?_
      refine G.seqK fun K58 hK59 => ?_
      refine G.seqK fun K60 hK61 => ?_
      refine G.region ?_
      refine GL.run (j := 3) 3 [0, 4, 5, 7, 8, 44, 46] [(0, .slice A bs.length c), (4, pt p27 0), (5, .int .i64 (err3 : Int)), (7, pt p51 0), (8, .bool ok4), (44, .bool ok4), (46, .bool ((err3 : Int) == 0))] (by kernel_rfl) rfl ?_
      rcases (Bool.eq_false_or_eq_true ok4).symm with hb62 | hb62
      · skip
        refine GL.eq (M' := [(0, .slice A bs.length c), (4, pt p27 0), (5, .int .i64 (err3 : Int)), (7, pt p51 0), (8, .bool false), (44, .bool false), (46, .bool ((err3 : Int) == 0))]) (by first | (rw [hb62]; done) | (rw [hb62]; rfl)) ?_
        have hk3 := hk0 hb62
        have hb63 : ((err3 : Int) == 0) = false := by rw [hk3.1]; rfl
        rw [hb63]
        refine GL.run (j := 4) 1 [0, 4, 5, 7, 8, 47] [(0, .slice A bs.length c), (4, pt p27 0), (5, .int .i64 (err3 : Int)), (7, pt p51 0), (8, .bool false), (47, .bool false)] (by kernel_rfl) rfl ?_
        refine GL.k rfl hK61 (fun _ _ h => h) ?_
        refine G.no rfl ?_
        refine G.skipK hK59 (fun _ _ h => h) ?_
        refine G.seqK fun K64 hK65 => ?_
        refine G.seqK fun K66 hK67 => ?_
        refine G.region ?_
        refine GL.run (j := 2) 2 [0, 4, 5, 7, 49] [(0, .slice A bs.length c), (4, pt p27 0), (5, .int .i64 (err3 : Int)), (7, pt p51 0), (49, .bool true)] (by kernel_rfl) rfl ?_
        refine GL.k rfl hK67 (fun _ _ h => h) ?_
        refine G.yes rfl ?_
        refine G.seqK fun K68 hK69 => ?_
        refine G.region ?_
        refine GL.run (j := 3) 3 [4, 52] [(4, pt p27 0), (52, .bool ((err3 : Int) == 2))] (by kernel_rfl) rfl ?_
        have hb70 : ((err3 : Int) == 2) = true := by rw [hk3.1]; rfl
        rw [hb70]
        refine GL.run (j := 4) 1 [4, 52, 53] [(4, pt p27 0), (52, .bool true), (53, pt p27 0)] (by kernel_rfl) rfl ?_
        refine GL.sem (j := 5) (H57.ld (o := 0) (ty := 5) (v := .int .u8 (o3.toNat : Int)) 2 rfl (by kernel_rfl) rfl) [4, 52, 54] [(4, pt p27 0), (52, .bool true), (54, .int .u8 (o3.toNat : Int))] (by kernel_rfl) (by kernel_rfl) rfl ?_
        refine GL.run (j := 8) 3 [4, 57] [(4, pt p27 0), (57, .bool ((o3.toNat : Int) == 0))] (by kernel_rfl) rfl ?_
        have hb71 : ((o3.toNat : Int) == 0) = true := by rw [hk3.2.1]; rfl
        rw [hb71]
        refine GL.run (j := 9) 1 [57, 58] [(57, .bool true), (58, pt p27 26)] (by kernel_rfl) rfl ?_
        refine GL.sem (j := 10) (H57.ld (o := 26) (ty := 26) (v := .slice D3 bd3.length d3) 2 rfl (by kernel_rfl) rfl) [57, 59] [(57, .bool true), (59, .slice D3 bd3.length d3)] (by kernel_rfl) (by kernel_rfl) rfl ?_
        refine GL.run (j := 14) 4 [2] [(2, .bool ((bd3.length : Int) == 0))] (by kernel_rfl) rfl ?_
        refine GL.k rfl hK69 (fun _ _ h => h) ?_
        refine G.ret ?_
        intro F_ hF_ hM_
        refine hRet _ _ (bodyPost_1 rfl (RV.tmp rfl) ?_ F_ hF_ hM_)
        have hb72 : ((bd3.length : Int) == 0) = true := by rw [hk3.2.2]; rfl
        rw [hb72]
        exact ⟨rfl, H57.sub (List.nil_sublist _)⟩
      · skip
        refine GL.eq (M' := [(0, .slice A bs.length c), (4, pt p27 0), (5, .int .i64 (err3 : Int)), (7, pt p51 0), (8, .bool true), (44, .bool true), (46, .bool ((err3 : Int) == 0))]) (by first | (rw [hb62]; done) | (rw [hb62]; rfl)) ?_
        have hk3 := hk1 hb62
        have hb73 : ((err3 : Int) == 0) = true := by rw [hk3.1]; rfl
        rw [hb73]
        refine GL.run (j := 4) 1 [0, 4, 5, 7, 8, 47] [(0, .slice A bs.length c), (4, pt p27 0), (5, .int .i64 (err3 : Int)), (7, pt p51 0), (8, .bool true), (47, .bool false)] (by kernel_rfl) rfl ?_
        refine GL.k rfl hK61 (fun _ _ h => h) ?_
        refine G.no rfl ?_
        refine G.skipK hK59 (fun _ _ h => h) ?_
        refine G.seqK fun K74 hK75 => ?_
        refine G.seqK fun K76 hK77 => ?_
        refine G.region ?_
        refine GL.run (j := 2) 2 [0, 4, 5, 7, 49] [(0, .slice A bs.length c), (4, pt p27 0), (5, .int .i64 (err3 : Int)), (7, pt p51 0), (49, .bool false)] (by kernel_rfl) rfl ?_
        refine GL.k rfl hK77 (fun _ _ h => h) ?_
        refine G.no rfl ?_
        refine G.skipK hK75 (fun _ _ h => h) ?_
        refine G.seqK fun K78 hK79 => ?_
        refine G.region ?_
        refine GL.sem (j := 1) (H57.ldA (o := 0) (ty := 28) (m := 27) (sub := [.int .u8 (o3.toNat : Int), .int .u8 (wh3.toNat : Int), .int .u8 (t3.toNat : Int), .int .u64 (am3 : Int), .int .u64 (id3 : Int), .int .u8 ((ad3 0).toNat : Int), .int .u8 ((ad3 1).toNat : Int), .int .u8 ((ad3 2).toNat : Int), .int .u8 ((ad3 3).toNat : Int), .int .u8 ((ad3 4).toNat : Int), .int .u8 ((ad3 5).toNat : Int), .int .u8 ((ad3 6).toNat : Int), .int .u8 ((ad3 7).toNat : Int), .int .u8 ((ad3 8).toNat : Int), .int .u8 ((ad3 9).toNat : Int), .int .u8 ((ad3 10).toNat : Int), .int .u8 ((ad3 11).toNat : Int), .int .u8 ((ad3 12).toNat : Int), .int .u8 ((ad3 13).toNat : Int), .int .u8 ((ad3 14).toNat : Int), .int .u8 ((ad3 15).toNat : Int), .int .u8 ((ad3 16).toNat : Int), .int .u8 ((ad3 17).toNat : Int), .int .u8 ((ad3 18).toNat : Int), .int .u8 ((ad3 19).toNat : Int), .bool ag3, .slice D3 bd3.length d3]) 2 rfl (by kernel_rfl) rfl rfl) [0, 4, 7, 64] [(0, .slice A bs.length c), (4, pt p27 0), (7, pt p51 0), (64, .agg #[.int .u8 (o3.toNat : Int), .int .u8 (wh3.toNat : Int), .int .u8 (t3.toNat : Int), .int .u64 (am3 : Int), .int .u64 (id3 : Int), .int .u8 ((ad3 0).toNat : Int), .int .u8 ((ad3 1).toNat : Int), .int .u8 ((ad3 2).toNat : Int), .int .u8 ((ad3 3).toNat : Int), .int .u8 ((ad3 4).toNat : Int), .int .u8 ((ad3 5).toNat : Int), .int .u8 ((ad3 6).toNat : Int), .int .u8 ((ad3 7).toNat : Int), .int .u8 ((ad3 8).toNat : Int), .int .u8 ((ad3 9).toNat : Int), .int .u8 ((ad3 10).toNat : Int), .int .u8 ((ad3 11).toNat : Int), .int .u8 ((ad3 12).toNat : Int), .int .u8 ((ad3 13).toNat : Int), .int .u8 ((ad3 14).toNat : Int), .int .u8 ((ad3 15).toNat : Int), .int .u8 ((ad3 16).toNat : Int), .int .u8 ((ad3 17).toNat : Int), .int .u8 ((ad3 18).toNat : Int), .int .u8 ((ad3 19).toNat : Int), .bool ag3, .slice D3 bd3.length d3])] (by kernel_rfl) (by kernel_rfl) rfl ?_
        refine GL.call (j := 2) (CBytes_calls o3 wh3 t3 am3 id3 ad3 ag3 D3 bd3 d3 w55 ham3 hid3 (H57.rdRow 1 rfl) hbc3) (by kernel_rfl) rfl (fun e_ w83 hR => ?_)
        obtain ⟨A80, c81, c82, rfl, H85⟩ := hR
        have H84 : Hp w [] [.row A17 bs.length c18 5 1 (by8 X), .row D3 bd3.length d3 5 1 (by8 bd3), .blk p27 [.int .u8 (o3.toNat : Int), .int .u8 (wh3.toNat : Int), .int .u8 (t3.toNat : Int), .int .u64 (am3 : Int), .int .u64 (id3 : Int), .int .u8 ((ad3 0).toNat : Int), .int .u8 ((ad3 1).toNat : Int), .int .u8 ((ad3 2).toNat : Int), .int .u8 ((ad3 3).toNat : Int), .int .u8 ((ad3 4).toNat : Int), .int .u8 ((ad3 5).toNat : Int), .int .u8 ((ad3 6).toNat : Int), .int .u8 ((ad3 7).toNat : Int), .int .u8 ((ad3 8).toNat : Int), .int .u8 ((ad3 9).toNat : Int), .int .u8 ((ad3 10).toNat : Int), .int .u8 ((ad3 11).toNat : Int), .int .u8 ((ad3 12).toNat : Int), .int .u8 ((ad3 13).toNat : Int), .int .u8 ((ad3 14).toNat : Int), .int .u8 ((ad3 15).toNat : Int), .int .u8 ((ad3 16).toNat : Int), .int .u8 ((ad3 17).toNat : Int), .int .u8 ((ad3 18).toNat : Int), .int .u8 ((ad3 19).toNat : Int), .bool ag3, .slice D3 bd3.length d3] 28, .blk p51 [.int .u8 (o4.toNat : Int), .int .u8 (wh4.toNat : Int), .int .u8 (t4.toNat : Int), .int .u64 (am4 : Int), .int .u64 (id4 : Int), .int .u8 ((ad4 0).toNat : Int), .int .u8 ((ad4 1).toNat : Int), .int .u8 ((ad4 2).toNat : Int), .int .u8 ((ad4 3).toNat : Int), .int .u8 ((ad4 4).toNat : Int), .int .u8 ((ad4 5).toNat : Int), .int .u8 ((ad4 6).toNat : Int), .int .u8 ((ad4 7).toNat : Int), .int .u8 ((ad4 8).toNat : Int), .int .u8 ((ad4 9).toNat : Int), .int .u8 ((ad4 10).toNat : Int), .int .u8 ((ad4 11).toNat : Int), .int .u8 ((ad4 12).toNat : Int), .int .u8 ((ad4 13).toNat : Int), .int .u8 ((ad4 14).toNat : Int), .int .u8 ((ad4 15).toNat : Int), .int .u8 ((ad4 16).toNat : Int), .int .u8 ((ad4 17).toNat : Int), .int .u8 ((ad4 18).toNat : Int), .int .u8 ((ad4 19).toNat : Int), .bool ag4, .string (strOf bd4)] 34, .row A80 c81 c82 5 1 (by8 (cmdO o3 wh3 t3 am3 id3 ad3 ag3 bd3))] w83 := H57.callNew H85
        have hlA80 := (H84.rowLe 4 rfl).2.1
        rw [by8_length, Nat.mul_one] at hlA80
        refine ⟨_, rfl, [0, 4, 7, 65], [(0, .slice A bs.length c), (4, pt p27 0), (7, pt p51 0), (65, .tuple #[.slice A80 c81 c82, .int .i64 (((cmdE o3 wh3 t3 am3 id3 ad3 ag3 bd3) : Nat) : Int)])], by kernel_rfl, ?_⟩
        refine GL.run (j := 7) 5 [0, 4, 7, 9, 10] [(0, .slice A bs.length c), (4, pt p27 0), (7, pt p51 0), (9, .slice A80 c81 c82), (10, .int .i64 (((cmdE o3 wh3 t3 am3 id3 ad3 ag3 bd3) : Nat) : Int))] (by kernel_rfl) rfl ?_
        refine GL.k rfl hK79 (fun _ _ h => h) ?_
        refine G.seqK fun K86 hK87 => ?_
        refine G.heldP (Hp w [] [.row A17 bs.length c18 5 1 (by8 X), .row D3 bd3.length d3 5 1 (by8 bd3), .blk p27 [.int .u8 (o3.toNat : Int), .int .u8 (wh3.toNat : Int), .int .u8 (t3.toNat : Int), .int .u64 (am3 : Int), .int .u64 (id3 : Int), .int .u8 ((ad3 0).toNat : Int), .int .u8 ((ad3 1).toNat : Int), .int .u8 ((ad3 2).toNat : Int), .int .u8 ((ad3 3).toNat : Int), .int .u8 ((ad3 4).toNat : Int), .int .u8 ((ad3 5).toNat : Int), .int .u8 ((ad3 6).toNat : Int), .int .u8 ((ad3 7).toNat : Int), .int .u8 ((ad3 8).toNat : Int), .int .u8 ((ad3 9).toNat : Int), .int .u8 ((ad3 10).toNat : Int), .int .u8 ((ad3 11).toNat : Int), .int .u8 ((ad3 12).toNat : Int), .int .u8 ((ad3 13).toNat : Int), .int .u8 ((ad3 14).toNat : Int), .int .u8 ((ad3 15).toNat : Int), .int .u8 ((ad3 16).toNat : Int), .int .u8 ((ad3 17).toNat : Int), .int .u8 ((ad3 18).toNat : Int), .int .u8 ((ad3 19).toNat : Int), .bool ag3, .slice D3 bd3.length d3] 28, .blk p51 [.int .u8 (o4.toNat : Int), .int .u8 (wh4.toNat : Int), .int .u8 (t4.toNat : Int), .int .u64 (am4 : Int), .int .u64 (id4 : Int), .int .u8 ((ad4 0).toNat : Int), .int .u8 ((ad4 1).toNat : Int), .int .u8 ((ad4 2).toNat : Int), .int .u8 ((ad4 3).toNat : Int), .int .u8 ((ad4 4).toNat : Int), .int .u8 ((ad4 5).toNat : Int), .int .u8 ((ad4 6).toNat : Int), .int .u8 ((ad4 7).toNat : Int), .int .u8 ((ad4 8).toNat : Int), .int .u8 ((ad4 9).toNat : Int), .int .u8 ((ad4 10).toNat : Int), .int .u8 ((ad4 11).toNat : Int), .int .u8 ((ad4 12).toNat : Int), .int .u8 ((ad4 13).toNat : Int), .int .u8 ((ad4 14).toNat : Int), .int .u8 ((ad4 15).toNat : Int), .int .u8 ((ad4 16).toNat : Int), .int .u8 ((ad4 17).toNat : Int), .int .u8 ((ad4 18).toNat : Int), .int .u8 ((ad4 19).toNat : Int), .bool ag4, .string (strOf bd4)] 34, .row A80 c81 c82 5 1 (by8 (cmdO o3 wh3 t3 am3 id3 ad3 ag3 bd3))]) (by kernel_rfl) (by kernel_rfl) (fun c_ a_ d_ v_ w_ h_ => hPan c_ a_ d_ v_ w_ h_) ?_
        have H88 := H84.drew
        generalize ({ w83 with drawn := w83.drawn + 1 } : World) = w89 at H88 ⊢
        have hS90 : Hp w [] [.row A17 bs.length c18 5 1 (by8 X), .row D3 bd3.length d3 5 1 (by8 bd3), .blk p27 [.int .u8 (o3.toNat : Int), .int .u8 (wh3.toNat : Int), .int .u8 (t3.toNat : Int), .int .u64 (am3 : Int), .int .u64 (id3 : Int), .int .u8 ((ad3 0).toNat : Int), .int .u8 ((ad3 1).toNat : Int), .int .u8 ((ad3 2).toNat : Int), .int .u8 ((ad3 3).toNat : Int), .int .u8 ((ad3 4).toNat : Int), .int .u8 ((ad3 5).toNat : Int), .int .u8 ((ad3 6).toNat : Int), .int .u8 ((ad3 7).toNat : Int), .int .u8 ((ad3 8).toNat : Int), .int .u8 ((ad3 9).toNat : Int), .int .u8 ((ad3 10).toNat : Int), .int .u8 ((ad3 11).toNat : Int), .int .u8 ((ad3 12).toNat : Int), .int .u8 ((ad3 13).toNat : Int), .int .u8 ((ad3 14).toNat : Int), .int .u8 ((ad3 15).toNat : Int), .int .u8 ((ad3 16).toNat : Int), .int .u8 ((ad3 17).toNat : Int), .int .u8 ((ad3 18).toNat : Int), .int .u8 ((ad3 19).toNat : Int), .bool ag3, .slice D3 bd3.length d3] 28, .blk p51 [.int .u8 (o4.toNat : Int), .int .u8 (wh4.toNat : Int), .int .u8 (t4.toNat : Int), .int .u64 (am4 : Int), .int .u64 (id4 : Int), .int .u8 ((ad4 0).toNat : Int), .int .u8 ((ad4 1).toNat : Int), .int .u8 ((ad4 2).toNat : Int), .int .u8 ((ad4 3).toNat : Int), .int .u8 ((ad4 4).toNat : Int), .int .u8 ((ad4 5).toNat : Int), .int .u8 ((ad4 6).toNat : Int), .int .u8 ((ad4 7).toNat : Int), .int .u8 ((ad4 8).toNat : Int), .int .u8 ((ad4 9).toNat : Int), .int .u8 ((ad4 10).toNat : Int), .int .u8 ((ad4 11).toNat : Int), .int .u8 ((ad4 12).toNat : Int), .int .u8 ((ad4 13).toNat : Int), .int .u8 ((ad4 14).toNat : Int), .int .u8 ((ad4 15).toNat : Int), .int .u8 ((ad4 16).toNat : Int), .int .u8 ((ad4 17).toNat : Int), .int .u8 ((ad4 18).toNat : Int), .int .u8 ((ad4 19).toNat : Int), .bool ag4, .string (strOf bd4)] 34, .row A80 c81 c82 5 1 (by8 (cmdO o3 wh3 t3 am3 id3 ad3 ag3 bd3))] w89 := H88.sub (List.Sublist.cons_cons _ (List.Sublist.cons_cons _ (List.Sublist.cons_cons _ (List.Sublist.cons_cons _ (List.Sublist.cons_cons _ (List.Sublist.slnil))))))
        refine GP.run [0, 1, 2] [0, 4, 7, 9, 70] [(0, .slice A bs.length c), (4, pt p27 0), (7, pt p51 0), (9, .slice A80 c81 c82), (70, .bool ((((cmdE o3 wh3 t3 am3 id3 ad3 ag3 bd3) : Nat) : Int) == 0))] [0, 1, 2] (by kernel_rfl) rfl hS90 ?_
        have hb91 : ((((cmdE o3 wh3 t3 am3 id3 ad3 ag3 bd3) : Nat) : Int) == 0) = true := by rw [hk3.2.2.1]; rfl
        rw [hb91]
        refine GP.run [3] [0, 4, 7, 70, 71] [(0, .slice A bs.length c), (4, pt p27 0), (7, pt p51 0), (70, .bool true), (71, .slice A80 c81 c82)] [0, 1, 2, 3] (by kernel_rfl) rfl hS90 ?_
        refine GP.sem 4 (fun w_ H_ => run_toStr (P := Try.prog) (src := 26) (dst := 9) (A := A80) (bs := (cmdO o3 wh3 t3 am3 id3 ad3 ag3 bd3)) (n := c81) (c := c82) (by kernel_rfl) (by kernel_rfl) (H_.rdRow 4 rfl) (hlA80.symm)) [0, 4, 7, 70, 72] [(0, .slice A bs.length c), (4, pt p27 0), (7, pt p51 0), (70, .bool true), (72, .string (strOf (cmdO o3 wh3 t3 am3 id3 ad3 ag3 bd3)))] (by kernel_rfl) (by kernel_rfl) (by kernel_rfl) hS90 ?_
        refine GP.run [5] [4, 7, 70, 72, 73] [(4, pt p27 0), (7, pt p51 0), (70, .bool true), (72, .string (strOf (cmdO o3 wh3 t3 am3 id3 ad3 ag3 bd3))), (73, .slice A bs.length c)] [0, 1, 2, 3, 4, 5] (by kernel_rfl) rfl hS90 ?_
        refine GP.sem 6 (fun w_ H_ => run_toStr (P := Try.prog) (src := 26) (dst := 9) (A := A) (bs := bs) (n := bs.length) (c := c) (by kernel_rfl) (by kernel_rfl) (hx.hp H_) (rfl)) [4, 7, 70, 72, 74] [(4, pt p27 0), (7, pt p51 0), (70, .bool true), (72, .string (strOf (cmdO o3 wh3 t3 am3 id3 ad3 ag3 bd3))), (74, .string (strOf bs))] (by kernel_rfl) (by kernel_rfl) (by kernel_rfl) hS90 ?_
        refine GP.sem 7 (fun w_ H_ => run_str_eql (P := Try.prog) (t := 9) (cmdO o3 wh3 t3 am3 id3 ad3 ag3 bd3) bs _) [4, 7, 70, 75] [(4, pt p27 0), (7, pt p51 0), (70, .bool true), (75, .bool ((cmdO o3 wh3 t3 am3 id3 ad3 ag3 bd3) == bs))] (by kernel_rfl) (by kernel_rfl) (by kernel_rfl) hS90 ?_
        refine GP.run [8, 9] [4, 7, 77] [(4, pt p27 0), (7, pt p51 0), (77, .bool ((cmdO o3 wh3 t3 am3 id3 ad3 ag3 bd3) == bs))] [0, 1, 2, 3, 4, 5, 6, 7, 8, 9] (by kernel_rfl) rfl hS90 ?_
        have hb92 : ((cmdO o3 wh3 t3 am3 id3 ad3 ag3 bd3) == bs) = true := by rw [cmdO, if_pos hk3.2.2.1, hk3.2.1]; exact beq_self_eq_true _
        rw [hb92]
        refine GP.sem 10 (fun w_ H_ => H_.ldA (o := 0) (ty := 28) (m := 27) (sub := [.int .u8 (o3.toNat : Int), .int .u8 (wh3.toNat : Int), .int .u8 (t3.toNat : Int), .int .u64 (am3 : Int), .int .u64 (id3 : Int), .int .u8 ((ad3 0).toNat : Int), .int .u8 ((ad3 1).toNat : Int), .int .u8 ((ad3 2).toNat : Int), .int .u8 ((ad3 3).toNat : Int), .int .u8 ((ad3 4).toNat : Int), .int .u8 ((ad3 5).toNat : Int), .int .u8 ((ad3 6).toNat : Int), .int .u8 ((ad3 7).toNat : Int), .int .u8 ((ad3 8).toNat : Int), .int .u8 ((ad3 9).toNat : Int), .int .u8 ((ad3 10).toNat : Int), .int .u8 ((ad3 11).toNat : Int), .int .u8 ((ad3 12).toNat : Int), .int .u8 ((ad3 13).toNat : Int), .int .u8 ((ad3 14).toNat : Int), .int .u8 ((ad3 15).toNat : Int), .int .u8 ((ad3 16).toNat : Int), .int .u8 ((ad3 17).toNat : Int), .int .u8 ((ad3 18).toNat : Int), .int .u8 ((ad3 19).toNat : Int), .bool ag3, .slice D3 bd3.length d3]) 2 rfl (by kernel_rfl) rfl rfl) [7, 77, 78] [(7, pt p51 0), (77, .bool true), (78, .agg #[.int .u8 (o3.toNat : Int), .int .u8 (wh3.toNat : Int), .int .u8 (t3.toNat : Int), .int .u64 (am3 : Int), .int .u64 (id3 : Int), .int .u8 ((ad3 0).toNat : Int), .int .u8 ((ad3 1).toNat : Int), .int .u8 ((ad3 2).toNat : Int), .int .u8 ((ad3 3).toNat : Int), .int .u8 ((ad3 4).toNat : Int), .int .u8 ((ad3 5).toNat : Int), .int .u8 ((ad3 6).toNat : Int), .int .u8 ((ad3 7).toNat : Int), .int .u8 ((ad3 8).toNat : Int), .int .u8 ((ad3 9).toNat : Int), .int .u8 ((ad3 10).toNat : Int), .int .u8 ((ad3 11).toNat : Int), .int .u8 ((ad3 12).toNat : Int), .int .u8 ((ad3 13).toNat : Int), .int .u8 ((ad3 14).toNat : Int), .int .u8 ((ad3 15).toNat : Int), .int .u8 ((ad3 16).toNat : Int), .int .u8 ((ad3 17).toNat : Int), .int .u8 ((ad3 18).toNat : Int), .int .u8 ((ad3 19).toNat : Int), .bool ag3, .slice D3 bd3.length d3])] (by kernel_rfl) (by kernel_rfl) (by kernel_rfl) hS90 ?_
        refine GP.sem 12 (fun w_ H_ => H_.ldA (o := 0) (ty := 34) (m := 27) (sub := [.int .u8 (o4.toNat : Int), .int .u8 (wh4.toNat : Int), .int .u8 (t4.toNat : Int), .int .u64 (am4 : Int), .int .u64 (id4 : Int), .int .u8 ((ad4 0).toNat : Int), .int .u8 ((ad4 1).toNat : Int), .int .u8 ((ad4 2).toNat : Int), .int .u8 ((ad4 3).toNat : Int), .int .u8 ((ad4 4).toNat : Int), .int .u8 ((ad4 5).toNat : Int), .int .u8 ((ad4 6).toNat : Int), .int .u8 ((ad4 7).toNat : Int), .int .u8 ((ad4 8).toNat : Int), .int .u8 ((ad4 9).toNat : Int), .int .u8 ((ad4 10).toNat : Int), .int .u8 ((ad4 11).toNat : Int), .int .u8 ((ad4 12).toNat : Int), .int .u8 ((ad4 13).toNat : Int), .int .u8 ((ad4 14).toNat : Int), .int .u8 ((ad4 15).toNat : Int), .int .u8 ((ad4 16).toNat : Int), .int .u8 ((ad4 17).toNat : Int), .int .u8 ((ad4 18).toNat : Int), .int .u8 ((ad4 19).toNat : Int), .bool ag4, .string (strOf bd4)]) 3 rfl (by kernel_rfl) rfl rfl) [77, 78, 80] [(77, .bool true), (78, .agg #[.int .u8 (o3.toNat : Int), .int .u8 (wh3.toNat : Int), .int .u8 (t3.toNat : Int), .int .u64 (am3 : Int), .int .u64 (id3 : Int), .int .u8 ((ad3 0).toNat : Int), .int .u8 ((ad3 1).toNat : Int), .int .u8 ((ad3 2).toNat : Int), .int .u8 ((ad3 3).toNat : Int), .int .u8 ((ad3 4).toNat : Int), .int .u8 ((ad3 5).toNat : Int), .int .u8 ((ad3 6).toNat : Int), .int .u8 ((ad3 7).toNat : Int), .int .u8 ((ad3 8).toNat : Int), .int .u8 ((ad3 9).toNat : Int), .int .u8 ((ad3 10).toNat : Int), .int .u8 ((ad3 11).toNat : Int), .int .u8 ((ad3 12).toNat : Int), .int .u8 ((ad3 13).toNat : Int), .int .u8 ((ad3 14).toNat : Int), .int .u8 ((ad3 15).toNat : Int), .int .u8 ((ad3 16).toNat : Int), .int .u8 ((ad3 17).toNat : Int), .int .u8 ((ad3 18).toNat : Int), .int .u8 ((ad3 19).toNat : Int), .bool ag3, .slice D3 bd3.length d3]), (80, .agg #[.int .u8 (o4.toNat : Int), .int .u8 (wh4.toNat : Int), .int .u8 (t4.toNat : Int), .int .u64 (am4 : Int), .int .u64 (id4 : Int), .int .u8 ((ad4 0).toNat : Int), .int .u8 ((ad4 1).toNat : Int), .int .u8 ((ad4 2).toNat : Int), .int .u8 ((ad4 3).toNat : Int), .int .u8 ((ad4 4).toNat : Int), .int .u8 ((ad4 5).toNat : Int), .int .u8 ((ad4 6).toNat : Int), .int .u8 ((ad4 7).toNat : Int), .int .u8 ((ad4 8).toNat : Int), .int .u8 ((ad4 9).toNat : Int), .int .u8 ((ad4 10).toNat : Int), .int .u8 ((ad4 11).toNat : Int), .int .u8 ((ad4 12).toNat : Int), .int .u8 ((ad4 13).toNat : Int), .int .u8 ((ad4 14).toNat : Int), .int .u8 ((ad4 15).toNat : Int), .int .u8 ((ad4 16).toNat : Int), .int .u8 ((ad4 17).toNat : Int), .int .u8 ((ad4 18).toNat : Int), .int .u8 ((ad4 19).toNat : Int), .bool ag4, .string (strOf bd4)])] (by kernel_rfl) (by kernel_rfl) (by kernel_rfl) hS90 ?_
        refine GP.call 11 (Ref_calls o3 wh3 t3 am3 id3 ad3 ag3 D3 bd3 d3 w89 ham3 hid3 (H88.rdRow 1 rfl) hbc3) (by kernel_rfl) (by kernel_rfl) (fun e_ w93 hR => ?_)
        obtain ⟨rfl, H95⟩ := hR
        have H94 : Hp w [] [.row A17 bs.length c18 5 1 (by8 X), .row D3 bd3.length d3 5 1 (by8 bd3), .blk p27 [.int .u8 (o3.toNat : Int), .int .u8 (wh3.toNat : Int), .int .u8 (t3.toNat : Int), .int .u64 (am3 : Int), .int .u64 (id3 : Int), .int .u8 ((ad3 0).toNat : Int), .int .u8 ((ad3 1).toNat : Int), .int .u8 ((ad3 2).toNat : Int), .int .u8 ((ad3 3).toNat : Int), .int .u8 ((ad3 4).toNat : Int), .int .u8 ((ad3 5).toNat : Int), .int .u8 ((ad3 6).toNat : Int), .int .u8 ((ad3 7).toNat : Int), .int .u8 ((ad3 8).toNat : Int), .int .u8 ((ad3 9).toNat : Int), .int .u8 ((ad3 10).toNat : Int), .int .u8 ((ad3 11).toNat : Int), .int .u8 ((ad3 12).toNat : Int), .int .u8 ((ad3 13).toNat : Int), .int .u8 ((ad3 14).toNat : Int), .int .u8 ((ad3 15).toNat : Int), .int .u8 ((ad3 16).toNat : Int), .int .u8 ((ad3 17).toNat : Int), .int .u8 ((ad3 18).toNat : Int), .int .u8 ((ad3 19).toNat : Int), .bool ag3, .slice D3 bd3.length d3] 28, .blk p51 [.int .u8 (o4.toNat : Int), .int .u8 (wh4.toNat : Int), .int .u8 (t4.toNat : Int), .int .u64 (am4 : Int), .int .u64 (id4 : Int), .int .u8 ((ad4 0).toNat : Int), .int .u8 ((ad4 1).toNat : Int), .int .u8 ((ad4 2).toNat : Int), .int .u8 ((ad4 3).toNat : Int), .int .u8 ((ad4 4).toNat : Int), .int .u8 ((ad4 5).toNat : Int), .int .u8 ((ad4 6).toNat : Int), .int .u8 ((ad4 7).toNat : Int), .int .u8 ((ad4 8).toNat : Int), .int .u8 ((ad4 9).toNat : Int), .int .u8 ((ad4 10).toNat : Int), .int .u8 ((ad4 11).toNat : Int), .int .u8 ((ad4 12).toNat : Int), .int .u8 ((ad4 13).toNat : Int), .int .u8 ((ad4 14).toNat : Int), .int .u8 ((ad4 15).toNat : Int), .int .u8 ((ad4 16).toNat : Int), .int .u8 ((ad4 17).toNat : Int), .int .u8 ((ad4 18).toNat : Int), .int .u8 ((ad4 19).toNat : Int), .bool ag4, .string (strOf bd4)] 34, .row A80 c81 c82 5 1 (by8 (cmdO o3 wh3 t3 am3 id3 ad3 ag3 bd3))] w93 := H88.callNil H95
        have hS96 : Hp w [] [.row A17 bs.length c18 5 1 (by8 X), .row D3 bd3.length d3 5 1 (by8 bd3), .blk p27 [.int .u8 (o3.toNat : Int), .int .u8 (wh3.toNat : Int), .int .u8 (t3.toNat : Int), .int .u64 (am3 : Int), .int .u64 (id3 : Int), .int .u8 ((ad3 0).toNat : Int), .int .u8 ((ad3 1).toNat : Int), .int .u8 ((ad3 2).toNat : Int), .int .u8 ((ad3 3).toNat : Int), .int .u8 ((ad3 4).toNat : Int), .int .u8 ((ad3 5).toNat : Int), .int .u8 ((ad3 6).toNat : Int), .int .u8 ((ad3 7).toNat : Int), .int .u8 ((ad3 8).toNat : Int), .int .u8 ((ad3 9).toNat : Int), .int .u8 ((ad3 10).toNat : Int), .int .u8 ((ad3 11).toNat : Int), .int .u8 ((ad3 12).toNat : Int), .int .u8 ((ad3 13).toNat : Int), .int .u8 ((ad3 14).toNat : Int), .int .u8 ((ad3 15).toNat : Int), .int .u8 ((ad3 16).toNat : Int), .int .u8 ((ad3 17).toNat : Int), .int .u8 ((ad3 18).toNat : Int), .int .u8 ((ad3 19).toNat : Int), .bool ag3, .slice D3 bd3.length d3] 28, .blk p51 [.int .u8 (o4.toNat : Int), .int .u8 (wh4.toNat : Int), .int .u8 (t4.toNat : Int), .int .u64 (am4 : Int), .int .u64 (id4 : Int), .int .u8 ((ad4 0).toNat : Int), .int .u8 ((ad4 1).toNat : Int), .int .u8 ((ad4 2).toNat : Int), .int .u8 ((ad4 3).toNat : Int), .int .u8 ((ad4 4).toNat : Int), .int .u8 ((ad4 5).toNat : Int), .int .u8 ((ad4 6).toNat : Int), .int .u8 ((ad4 7).toNat : Int), .int .u8 ((ad4 8).toNat : Int), .int .u8 ((ad4 9).toNat : Int), .int .u8 ((ad4 10).toNat : Int), .int .u8 ((ad4 11).toNat : Int), .int .u8 ((ad4 12).toNat : Int), .int .u8 ((ad4 13).toNat : Int), .int .u8 ((ad4 14).toNat : Int), .int .u8 ((ad4 15).toNat : Int), .int .u8 ((ad4 16).toNat : Int), .int .u8 ((ad4 17).toNat : Int), .int .u8 ((ad4 18).toNat : Int), .int .u8 ((ad4 19).toNat : Int), .bool ag4, .string (strOf bd4)] 34, .row A80 c81 c82 5 1 (by8 (cmdO o3 wh3 t3 am3 id3 ad3 ag3 bd3))] w93 := H94.sub (List.Sublist.cons_cons _ (List.Sublist.cons_cons _ (List.Sublist.cons_cons _ (List.Sublist.cons_cons _ (List.Sublist.cons_cons _ (List.Sublist.slnil))))))
        refine ⟨_, rfl, hS96, [77, 79, 80], [(77, .bool true), (79, .agg #[.int .u8 (o3.toNat : Int), .int .u8 (wh3.toNat : Int), .int .u8 (t3.toNat : Int), .int .u64 (am3 : Int), .int .u64 (id3 : Int), .int .u8 ((ad3 0).toNat : Int), .int .u8 ((ad3 1).toNat : Int), .int .u8 ((ad3 2).toNat : Int), .int .u8 ((ad3 3).toNat : Int), .int .u8 ((ad3 4).toNat : Int), .int .u8 ((ad3 5).toNat : Int), .int .u8 ((ad3 6).toNat : Int), .int .u8 ((ad3 7).toNat : Int), .int .u8 ((ad3 8).toNat : Int), .int .u8 ((ad3 9).toNat : Int), .int .u8 ((ad3 10).toNat : Int), .int .u8 ((ad3 11).toNat : Int), .int .u8 ((ad3 12).toNat : Int), .int .u8 ((ad3 13).toNat : Int), .int .u8 ((ad3 14).toNat : Int), .int .u8 ((ad3 15).toNat : Int), .int .u8 ((ad3 16).toNat : Int), .int .u8 ((ad3 17).toNat : Int), .int .u8 ((ad3 18).toNat : Int), .int .u8 ((ad3 19).toNat : Int), .bool ag3, .string (strOf bd3)]), (80, .agg #[.int .u8 (o4.toNat : Int), .int .u8 (wh4.toNat : Int), .int .u8 (t4.toNat : Int), .int .u64 (am4 : Int), .int .u64 (id4 : Int), .int .u8 ((ad4 0).toNat : Int), .int .u8 ((ad4 1).toNat : Int), .int .u8 ((ad4 2).toNat : Int), .int .u8 ((ad4 3).toNat : Int), .int .u8 ((ad4 4).toNat : Int), .int .u8 ((ad4 5).toNat : Int), .int .u8 ((ad4 6).toNat : Int), .int .u8 ((ad4 7).toNat : Int), .int .u8 ((ad4 8).toNat : Int), .int .u8 ((ad4 9).toNat : Int), .int .u8 ((ad4 10).toNat : Int), .int .u8 ((ad4 11).toNat : Int), .int .u8 ((ad4 12).toNat : Int), .int .u8 ((ad4 13).toNat : Int), .int .u8 ((ad4 14).toNat : Int), .int .u8 ((ad4 15).toNat : Int), .int .u8 ((ad4 16).toNat : Int), .int .u8 ((ad4 17).toNat : Int), .int .u8 ((ad4 18).toNat : Int), .int .u8 ((ad4 19).toNat : Int), .bool ag4, .string (strOf bd4)])], by kernel_rfl, ?_⟩
        refine GP.sem 13 (fun w_ H_ => ref_same (x := (.tmp 79)) (y := (.tmp 80)) (o := o3) (o' := o4) (w := wh3) (w' := wh4) (t := t3) (t' := t4) (am := am3) (am' := am4) (id := id3) (id' := id4) (ad := ad3) (ad' := ad4) (ag := ag3) (ag' := ag4) (bd := bd3) (bd' := bd4) ham3 hid3 ham4 hid4 (Nat.le_trans hbc3 (by decide)) (Nat.le_trans hbc4 (by decide)) _) [77, 81] [(77, .bool true), (81, .bool (sameC o3 wh3 t3 am3 id3 ad3 ag3 bd3 o4 wh4 t4 am4 id4 ad4 ag4 bd4))] (by kernel_rfl) (by kernel_rfl) (by kernel_rfl) hS96 ?_
        refine GP.run [14, 15] [2] [(2, .bool (sameC o3 wh3 t3 am3 id3 ad3 ag3 bd3 o4 wh4 t4 am4 id4 ad4 ag4 bd4))] [0, 1, 2, 3, 4, 5, 6, 7, 8, 9, 10, 12, 11, 13, 14, 15] (by kernel_rfl) rfl hS96 ?_
        refine GP.k (by kernel_rfl) hK87 (fun _ _ h => h) ?_
        refine G.ret ?_
        intro F_ hF_ hM_
        refine hRet _ _ (bodyPost_1 rfl (RV.tmp rfl) ?_ F_ hF_ hM_)
        have hb97 : (sameC o3 wh3 t3 am3 id3 ad3 ag3 bd3 o4 wh4 t4 am4 id4 ad4 ag4 bd4) = true := cmd_inj ham3 hid3 ham4 hid4 hbc3 hbc4 hk3.2.2.1 hk3.2.2.2.2 (by rw [← hk3.2.1]; exact hk3.2.2.2.1)
        rw [hb97]
        exact ⟨rfl, H94.sub (List.nil_sublist _)⟩
    · skip
      have hb45f := of_decide_eq_true hb45
      refine G.yes rfl ?_
      refine G.skipK hK44 (fun _ _ h => h) ?_
      refine G.seqK fun K98 hK99 => ?_
      refine G.block ?_
      refine G.seqK fun K100 hK101 => ?_
      refine G.region ?_
      refine GL.run (j := 2) 2 [0, 3, 4, 5, 6, 28, 29] [(0, .slice A bs.length c), (3, .slice A17 bs.length c18), (4, pt p27 0), (5, .int .i64 (err3 : Int)), (6, .int .i64 (i : Int)), (28, .int .i64 (bs.length : Int)), (29, .int .i64 (i : Int))] (by kernel_rfl) rfl ?_
      refine GL.k rfl hK101 (fun _ _ h => h) ?_
      refine G.region ?_
      refine GL.run (j := 2) 2 [0, 3, 4, 5, 28, 29, 32, 33] [(0, .slice A bs.length c), (3, .slice A17 bs.length c18), (4, pt p27 0), (5, .int .i64 (err3 : Int)), (28, .int .i64 (bs.length : Int)), (29, .int .i64 (i : Int)), (32, .slice A17 bs.length c18), (33, .int .i64 (i : Int))] (by kernel_rfl) rfl ?_
      refine GL.sem (j := 3) (run_idxRd (P := Try.prog) (k := .i64) (t := 26) (A := A17) (len := bs.length) (cap := c18) (j := i) (by kernel_rfl) rfl (H40.rdRow 0 rfl) (by rw [by8_length]; first | rfl | omega | exact (cnt_length _).symm | (simp only [List.length_cons, List.length_nil, List.length_drop, List.length_take, List.length_append] <;> omega)) (by first | rfl | omega | exact (cnt_length _).symm | (simp only [List.length_cons, List.length_nil, List.length_drop, List.length_take, List.length_append] <;> omega))) [0, 3, 4, 5, 28, 29, 32, 33, 34] [(0, .slice A bs.length c), (3, .slice A17 bs.length c18), (4, pt p27 0), (5, .int .i64 (err3 : Int)), (28, .int .i64 (bs.length : Int)), (29, .int .i64 (i : Int)), (32, .slice A17 bs.length c18), (33, .int .i64 (i : Int)), (34, .pointer (Option.map (fun x => Addr.add x i) A17))] (by kernel_rfl) (by kernel_rfl) rfl ?_
      refine GL.sem (j := 4) (run_ldRd (P := Try.prog) (ty := 5) (A := A17) (j := i) (v := .int .u8 ((X.getD i 0).toNat : Int)) (by kernel_rfl) (H40.rdRow 0 rfl) (by8_at (getD8 (by omega)))) [0, 3, 4, 5, 28, 29, 32, 33, 35] [(0, .slice A bs.length c), (3, .slice A17 bs.length c18), (4, pt p27 0), (5, .int .i64 (err3 : Int)), (28, .int .i64 (bs.length : Int)), (29, .int .i64 (i : Int)), (32, .slice A17 bs.length c18), (33, .int .i64 (i : Int)), (35, .int .u8 ((X.getD i 0).toNat : Int))] (by kernel_rfl) (by kernel_rfl) rfl ?_
      refine GL.run (j := 5) 1 [0, 3, 4, 5, 28, 29, 32, 33, 36] [(0, .slice A bs.length c), (3, .slice A17 bs.length c18), (4, pt p27 0), (5, .int .i64 (err3 : Int)), (28, .int .i64 (bs.length : Int)), (29, .int .i64 (i : Int)), (32, .slice A17 bs.length c18), (33, .int .i64 (i : Int)), (36, .int .u8 (Go.bits .xor .u8 ((X.getD i 0).toNat : Int) 255))] (by kernel_rfl) rfl ?_
      have e102 : (Go.bits .xor .u8 ((X.getD i 0).toNat : Int) 255) = ((flipB (X.getD i 0)).toNat : Int) := u8_flip (X.getD i 0)
      refine GL.eq (M' := [(0, .slice A bs.length c), (3, .slice A17 bs.length c18), (4, pt p27 0), (5, .int .i64 (err3 : Int)), (28, .int .i64 (bs.length : Int)), (29, .int .i64 (i : Int)), (32, .slice A17 bs.length c18), (33, .int .i64 (i : Int)), (36, .int .u8 ((flipB (X.getD i 0)).toNat : Int))]) (by rw [e102]) ?_
      clear e102
      refine GL.sem (j := 6) (run_idxRd (P := Try.prog) (k := .i64) (t := 26) (A := A17) (len := bs.length) (cap := c18) (j := i) (by kernel_rfl) rfl (H40.rdRow 0 rfl) (by rw [by8_length]; first | rfl | omega | exact (cnt_length _).symm | (simp only [List.length_cons, List.length_nil, List.length_drop, List.length_take, List.length_append] <;> omega)) (by first | rfl | omega | exact (cnt_length _).symm | (simp only [List.length_cons, List.length_nil, List.length_drop, List.length_take, List.length_append] <;> omega))) [0, 3, 4, 5, 28, 29, 36, 37] [(0, .slice A bs.length c), (3, .slice A17 bs.length c18), (4, pt p27 0), (5, .int .i64 (err3 : Int)), (28, .int .i64 (bs.length : Int)), (29, .int .i64 (i : Int)), (36, .int .u8 ((flipB (X.getD i 0)).toNat : Int)), (37, .pointer (Option.map (fun x => Addr.add x i) A17))] (by kernel_rfl) (by kernel_rfl) rfl ?_
      obtain ⟨w103, r104, H105⟩ := H40.stRow (P := Try.prog) (q := i) (ty := 5) (v := .int .u8 ((flipB (X.getD i 0)).toNat : Int)) 0 rfl (by kernel_rfl) (by rw [by8_length]; omega) rfl
      rw [by8_set] at H105
      have H105 : Hp w [] [.row A17 bs.length c18 5 1 (by8 (List.set X i (flipB (X.getD i 0)))), .row D3 bd3.length d3 5 1 (by8 bd3), .blk p27 [.int .u8 (o3.toNat : Int), .int .u8 (wh3.toNat : Int), .int .u8 (t3.toNat : Int), .int .u64 (am3 : Int), .int .u64 (id3 : Int), .int .u8 ((ad3 0).toNat : Int), .int .u8 ((ad3 1).toNat : Int), .int .u8 ((ad3 2).toNat : Int), .int .u8 ((ad3 3).toNat : Int), .int .u8 ((ad3 4).toNat : Int), .int .u8 ((ad3 5).toNat : Int), .int .u8 ((ad3 6).toNat : Int), .int .u8 ((ad3 7).toNat : Int), .int .u8 ((ad3 8).toNat : Int), .int .u8 ((ad3 9).toNat : Int), .int .u8 ((ad3 10).toNat : Int), .int .u8 ((ad3 11).toNat : Int), .int .u8 ((ad3 12).toNat : Int), .int .u8 ((ad3 13).toNat : Int), .int .u8 ((ad3 14).toNat : Int), .int .u8 ((ad3 15).toNat : Int), .int .u8 ((ad3 16).toNat : Int), .int .u8 ((ad3 17).toNat : Int), .int .u8 ((ad3 18).toNat : Int), .int .u8 ((ad3 19).toNat : Int), .bool ag3, .slice D3 bd3.length d3] 28] w103 := H105
      refine GL.semU (j := 7) r104 [0, 3, 4, 5, 28, 29] [(0, .slice A bs.length c), (3, .slice A17 bs.length c18), (4, pt p27 0), (5, .int .i64 (err3 : Int)), (28, .int .i64 (bs.length : Int)), (29, .int .i64 (i : Int))] (by kernel_rfl) rfl rfl rfl ?_
      refine GL.k rfl hK99 (fun _ _ h => h) ?_
      refine G.region ?_
      refine GL.run (j := 2) 2 [0, 3, 4, 5, 28, 29] [(0, .slice A bs.length c), (3, .slice A17 bs.length c18), (4, pt p27 0), (5, .int .i64 (err3 : Int)), (28, .int .i64 (bs.length : Int)), (29, .int .i64 (IntKind.i64.wrap ((i : Int) + 1)))] (by kernel_rfl) rfl ?_
      have e106 : (IntKind.i64.wrap ((i : Int) + 1)) = ((i + 1 : Nat) : Int) := by rw [in_i64 (by omega)]; omega
      refine GL.eq (M' := [(0, .slice A bs.length c), (3, .slice A17 bs.length c18), (4, pt p27 0), (5, .int .i64 (err3 : Int)), (28, .int .i64 (bs.length : Int)), (29, .int .i64 ((i + 1 : Nat) : Int))]) (by rw [e106]) ?_
      clear e106
      refine GL.fit (ts := [0, 3, 4, 5, 28, 29]) (M' := [(0, .slice A bs.length c), (3, .slice A17 bs.length c18), (4, pt p27 0), (5, .int .i64 (err3 : Int)), (28, .int .i64 (bs.length : Int)), (29, .int .i64 ((i + 1 : Nat) : Int))]) (by kernel_rfl) ?_
      refine GL.eq (M' := [(0, .slice A bs.length c), (3, .slice A17 bs.length c18), (4, pt p27 0), (5, .int .i64 (err3 : Int)), (28, .int .i64 (bs.length : Int)), (29, .int .i64 (((i + 1) : Nat) : Int))]) (by rfl) ?_
      exact GL.again ⟨(i + 1), (List.set X i (flipB (X.getD i 0)))⟩ [0, 3, 4, 5, 28, 29] rfl (by kernel_rfl) (by show bs.length - (i + 1) < bs.length - i; omega) ⟨⟨by omega, by rw [List.length_set]; exact hX9⟩, H105⟩
  · skip
    have hb10f := of_decide_eq_true hb10
    refine G.yes rfl ?_
    refine G.seqK fun K107 hK108 => ?_
    refine G.region ?_
    refine GL.call (j := 1) (lives_calls w7) (by kernel_rfl) rfl (fun e_ w109 hR => ?_)
    obtain ⟨rfl, H111⟩ := hR
    have H110 : Hp w [] [] w109 := H8.callNil H111
    refine ⟨_, rfl, [18], [(18, .bool true)], by kernel_rfl, ?_⟩
    refine GL.run (j := 2) 1 [2] [(2, .bool true)] (by kernel_rfl) rfl ?_
    refine GL.k rfl hK108 (fun _ _ h => h) ?_
    refine G.ret ?_
    intro F_ hF_ hM_
    refine hRet _ _ (bodyPost_1 rfl (RV.tmp rfl) ?_ F_ hF_ hM_)
    exact ⟨rfl, H110.sub (List.nil_sublist _)⟩
end Go.Proofs.Ytkfhcogdpmndkaa
namespace Go.Proofs.Ytkfhcogdpmndkaa
open Go.ChangeShapes Go.WideShapes Go.ChangeAt Go.RowKit
open Go.ChangeMaps (open_string shut_string)
set_option linter.unusedVariables false
theorem commandParses_own : ownKnob Try.prog.godebug = none := by kernel_rfl
theorem commandParses_laidOut : laidOutB Try.prog = true := by kernel_rfl
set_option maxRecDepth 100000 in
theorem commandParses_lifted (os : Os) (started : os.Started) (H : Type) (enc : TypeId × Value → H) :
    ReturnsInHanded {} Try.checked os 6 .any (Rows.commandParsesSpec.pre6 enc Try.prog Try.f6 Rows.commandParsesRow.domain false) (Rows.commandParsesSpec.post enc Try.prog Try.f6 false true false false) := by
  refine returnsInHanded_of_change (C := Try.checked) commandParses_own started (by kernel_rfl) Try.func6
    (ChangeSpec.witness6 (enc := enc) (C := Try.checked) false ⟨#[], #[.slice none 0 0], []⟩ 12 (by kernel_rfl) (by kernel_rfl) (by kernel_rfl) (by kernel_rfl)) ?_
  intro W base args ds gs before hval0 hW hcnd _
  have hval : ∀ (j : Nat) t v, Try.f6.params[j]? = some t → args[j]? = some v → Value.okWide Try.prog W .any base t v := hval0
  have hW' := hW
  obtain ⟨p, q, hA0, hV, rfl, hfz, hnd⟩ := hW
  have hA : DataW.TrodAll enc Try.prog W 0 (fun _ => true) true Try.f6.params.toList args.toList ds p := hA0
  rw [Try.params6] at hA hval
  obtain ⟨v0, vs0, d0, ds0, p0, q0, hargs, rfl, rfl, h0, r0⟩ := trodAll_cons hA
  obtain ⟨rfl, rfl, rfl⟩ := trodAll_nil r0
  obtain rfl : args = #[v0] := by cases args; simp_all
  obtain ⟨rfl, rfl⟩ := trodVars_none hV
  have k0 := h0
  have lt0 : ∀ x ∈ p0, x.block < W.heap.size := by obtain ⟨m, hm⟩ := k0; exact DataW.trod_lt m _ _ _ hm
  obtain ⟨a0, len0, cap0, rfl⟩ := okWide_slice Try.underlying26 (hval 0 26 _ rfl rfl)
  obtain ⟨fu0, hf0⟩ := h0
  obtain ⟨A0, bs0, c0, hcs0, rd0, hc0, hm0⟩ := open_u8s Try.underlying26 Try.underlying5 (by kernel_rfl) hf0
  simp [Value.cells] at hcs0
  obtain ⟨rfl, rfl, rfl⟩ := hcs0
  clear hA0 hval0
  refine (CommandParses_calls a0 bs0 cap0 W rd0 hc0).mono fun e W' ⟨he, hh⟩ => ?_
  have bel := hh.below
  subst he
  exact ⟨_, rfl, _, _, _, [], _, [], hW', trodAll_mk1 (shut_bool Try.underlying4 _), (trodAll_cons_mk (Below.trod commandParses_laidOut (by kernel_rfl) (of_decide_eq_true (by kernel_rfl)) k0 bel lt0) trodAll_mk0), rfl, bel.frame _, fun h => by cases h⟩
theorem commandParses_over : Rows.commandParsesRow.holds Try.pinned (OpenSpec.ofChange Rows.commandParsesSpec) :=
  OpenClaim.holds_of_wide 6 Try.f6 rfl rfl rfl rfl rfl rfl rfl ⟨rfl, rfl, rfl, rfl, rfl⟩ rfl rfl rfl rfl rfl (by kernel_rfl) Try.func6 (by kernel_rfl)
    (of_decide_eq_true (by kernel_rfl)) (by unfold Func.isWrapper; first | (rw [if_pos (by decide +kernel)]; kernel_rfl) | (rw [if_neg (by decide +kernel)]; exact ⟨rfl, rfl⟩))
    (fun os started H enc _ => commandParses_lifted os started H enc)
theorem commandParses_proved : Rows.CommandParsesSaid := commandParses_over
end Go.Proofs.Ytkfhcogdpmndkaa
