/- The chapter's example. -/
import Derived.Test.YtkfhcogdpmndkaaOctR
import Derived.Test.YtkfhcogdpmndkaaOb
namespace Go.Proofs.Ytkfhcogdpmndkaa
open Go.RowKit
theorem fields_ex (w : World) : Calls Try.prog 17 #[.int .u8 1] w fun e w' => e = .returned (.int .i64 4) ∧ Hp w [] [] w' := by
  refine calls_G (args := [.int .u8 1]) Try.func17 rfl Try.ntmps17 rfl ?_
  intro Q0 hRet hNor hPan
  have H := Hp.start w
  have H : Hp w [] [] w := H
  refine G.seqK fun K1 hK2 => ?_
  refine G.region ?_
  refine GL.run (j := 1) 1 [0] [(0, .int .u8 1)] (by kernel_rfl) rfl ?_
  refine GL.k rfl hK2 (fun _ _ h => h) ?_
  refine G.seqK fun K3 hK4 => ?_
  refine G.seqK fun K5 hK6 => ?_
  refine G.region ?_
  refine GL.run (j := 1) 1 [3] [(3, .int .u8 1)] (by kernel_rfl) rfl ?_
  refine GL.k rfl hK6 (fun _ _ h => h) ?_
  refine G.block ?_
  refine G.seqK fun K7 hK8 => ?_
  refine G.seqK fun K9 hK10 => ?_
  refine G.region ?_
  refine GL.run (j := 2) 2 [3, 4] [(3, .int .u8 1), (4, .bool true)] (by kernel_rfl) rfl ?_
  refine GL.k rfl hK10 (fun _ _ h => h) ?_
  refine G.yes rfl ?_
  refine G.skipK hK8 (fun _ _ h => h) ?_
  refine G.yes rfl ?_
  refine G.seqK fun K11 hK12 => ?_
  refine G.region ?_
  refine GL.run (j := 1) 1 [2] [(2, .int .i64 4)] (by kernel_rfl) rfl ?_
  refine GL.k rfl hK12 (fun _ _ h => h) ?_
  refine G.ret ?_
  intro F_ hF_ hM_
  refine hRet _ _ (bodyPost_1 rfl (RV.tmp rfl) ?_ F_ hF_ hM_)
  exact ⟨rfl, H.sub (List.nil_sublist _)⟩
theorem set_ex (w : World) : Calls Try.prog 18 #[.agg #[.int .u8 1, .int .u8 0, .int .u8 0, .int .u64 5, .int .u64 0, .int .u8 0, .int .u8 0, .int .u8 0, .int .u8 0, .int .u8 0, .int .u8 0, .int .u8 0, .int .u8 0, .int .u8 0, .int .u8 0, .int .u8 0, .int .u8 0, .int .u8 0, .int .u8 0, .int .u8 0, .int .u8 0, .int .u8 0, .int .u8 0, .int .u8 0, .int .u8 0, .bool false, .slice none 0 0]] w fun e w' => e = .returned (.int .i64 4) ∧ Hp w [] [] w' := by
  refine calls_G (args := [.agg #[.int .u8 1, .int .u8 0, .int .u8 0, .int .u64 5, .int .u64 0, .int .u8 0, .int .u8 0, .int .u8 0, .int .u8 0, .int .u8 0, .int .u8 0, .int .u8 0, .int .u8 0, .int .u8 0, .int .u8 0, .int .u8 0, .int .u8 0, .int .u8 0, .int .u8 0, .int .u8 0, .int .u8 0, .int .u8 0, .int .u8 0, .int .u8 0, .int .u8 0, .bool false, .slice none 0 0]]) Try.func18 rfl Try.ntmps18 rfl ?_
  intro Q0 hRet hNor hPan
  have H := Hp.start w
  have H : Hp w [] [] w := H
  refine G.seqK fun K1 hK2 => ?_
  refine G.region ?_
  obtain ⟨p3, w4, r5, H6⟩ := H.box (P := Try.prog) 28 [.int .u8 1, .int .u8 0, .int .u8 0, .int .u64 5, .int .u64 0, .int .u8 0, .int .u8 0, .int .u8 0, .int .u8 0, .int .u8 0, .int .u8 0, .int .u8 0, .int .u8 0, .int .u8 0, .int .u8 0, .int .u8 0, .int .u8 0, .int .u8 0, .int .u8 0, .int .u8 0, .int .u8 0, .int .u8 0, .int .u8 0, .int .u8 0, .int .u8 0, .bool false, .slice none 0 0] (.agg #[.int .u8 1, .int .u8 0, .int .u8 0, .int .u64 5, .int .u64 0, .int .u8 0, .int .u8 0, .int .u8 0, .int .u8 0, .int .u8 0, .int .u8 0, .int .u8 0, .int .u8 0, .int .u8 0, .int .u8 0, .int .u8 0, .int .u8 0, .int .u8 0, .int .u8 0, .int .u8 0, .int .u8 0, .int .u8 0, .int .u8 0, .int .u8 0, .int .u8 0, .bool false, .slice none 0 0]) rfl
  have H6 : Hp w [] [.blk p3 [.int .u8 1, .int .u8 0, .int .u8 0, .int .u64 5, .int .u64 0, .int .u8 0, .int .u8 0, .int .u8 0, .int .u8 0, .int .u8 0, .int .u8 0, .int .u8 0, .int .u8 0, .int .u8 0, .int .u8 0, .int .u8 0, .int .u8 0, .int .u8 0, .int .u8 0, .int .u8 0, .int .u8 0, .int .u8 0, .int .u8 0, .int .u8 0, .int .u8 0, .bool false, .slice none 0 0] 28] w4 := H6
  refine GL.sem (j := 1) (r5) [1] [(1, pt p3 0)] (by kernel_rfl) (by kernel_rfl) rfl ?_
  refine GL.run (j := 2) 1 [1] [(1, pt p3 0)] (by kernel_rfl) rfl ?_
  refine GL.k rfl hK2 (fun _ _ h => h) ?_
  refine G.seqK fun K7 hK8 => ?_
  refine G.region ?_
  refine GL.run (j := 1) 1 [1, 3] [(1, pt p3 0), (3, .int .i64 0)] (by kernel_rfl) rfl ?_
  refine GL.k rfl hK8 (fun _ _ h => h) ?_
  refine G.seqK fun K9 hK10 => ?_
  refine G.seqK fun K11 hK12 => ?_
  refine G.draw H6 (by kernel_rfl) (by kernel_rfl) ?_
  refine GQ.run (j := 1) 1 [1, 3, 6] [(1, pt p3 0), (3, .int .i64 0), (6, pt p3 1)] (by kernel_rfl) rfl ?_
  refine GQ.sem (j := 2) (fun w_ H_ => H_.ld (o := 1) (ty := 22) (v := .int .u8 0) 0 rfl (by kernel_rfl) rfl) [1, 3, 7] [(1, pt p3 0), (3, .int .i64 0), (7, .int .u8 0)] (by kernel_rfl) (by kernel_rfl) rfl ?_
  refine GQ.run (j := 4) 2 [1, 3, 8, 9] [(1, pt p3 0), (3, .int .i64 0), (8, .bool false), (9, pt p3 2)] (by kernel_rfl) rfl ?_
  refine GQ.sem (j := 5) (fun w_ H_ => H_.ld (o := 2) (ty := 22) (v := .int .u8 0) 0 rfl (by kernel_rfl) rfl) [1, 3, 8, 10] [(1, pt p3 0), (3, .int .i64 0), (8, .bool false), (10, .int .u8 0)] (by kernel_rfl) (by kernel_rfl) rfl ?_
  refine GQ.run (j := 7) 2 [1, 3, 8, 11, 12] [(1, pt p3 0), (3, .int .i64 0), (8, .bool false), (11, .bool false), (12, pt p3 3)] (by kernel_rfl) rfl ?_
  refine GQ.sem (j := 8) (fun w_ H_ => H_.ld (o := 3) (ty := 23) (v := .int .u64 5) 0 rfl (by kernel_rfl) rfl) [1, 3, 8, 11, 13] [(1, pt p3 0), (3, .int .i64 0), (8, .bool false), (11, .bool false), (13, .int .u64 5)] (by kernel_rfl) (by kernel_rfl) rfl ?_
  refine GQ.run (j := 10) 2 [1, 3, 8, 11, 14, 15] [(1, pt p3 0), (3, .int .i64 0), (8, .bool false), (11, .bool false), (14, .bool true), (15, pt p3 4)] (by kernel_rfl) rfl ?_
  refine GQ.sem (j := 11) (fun w_ H_ => H_.ld (o := 4) (ty := 23) (v := .int .u64 0) 0 rfl (by kernel_rfl) rfl) [1, 3, 8, 11, 14, 16] [(1, pt p3 0), (3, .int .i64 0), (8, .bool false), (11, .bool false), (14, .bool true), (16, .int .u64 0)] (by kernel_rfl) (by kernel_rfl) rfl ?_
  refine GQ.run (j := 13) 2 [1, 3, 8, 11, 14, 17, 18] [(1, pt p3 0), (3, .int .i64 0), (8, .bool false), (11, .bool false), (14, .bool true), (17, .bool false), (18, pt p3 5)] (by kernel_rfl) rfl ?_
  refine GQ.sem (j := 14) (fun w_ H_ => H_.ldA (o := 5) (ty := 25) (m := 20) (sub := [.int .u8 0, .int .u8 0, .int .u8 0, .int .u8 0, .int .u8 0, .int .u8 0, .int .u8 0, .int .u8 0, .int .u8 0, .int .u8 0, .int .u8 0, .int .u8 0, .int .u8 0, .int .u8 0, .int .u8 0, .int .u8 0, .int .u8 0, .int .u8 0, .int .u8 0, .int .u8 0]) 0 rfl (by kernel_rfl) rfl rfl) [1, 3, 8, 11, 14, 17, 19] [(1, pt p3 0), (3, .int .i64 0), (8, .bool false), (11, .bool false), (14, .bool true), (17, .bool false), (19, .agg #[.int .u8 0, .int .u8 0, .int .u8 0, .int .u8 0, .int .u8 0, .int .u8 0, .int .u8 0, .int .u8 0, .int .u8 0, .int .u8 0, .int .u8 0, .int .u8 0, .int .u8 0, .int .u8 0, .int .u8 0, .int .u8 0, .int .u8 0, .int .u8 0, .int .u8 0, .int .u8 0])] (by kernel_rfl) (by kernel_rfl) rfl ?_
  refine GQ.run (j := 15) 1 [1, 3, 8, 11, 14, 17, 19, 20] [(1, pt p3 0), (3, .int .i64 0), (8, .bool false), (11, .bool false), (14, .bool true), (17, .bool false), (19, .agg #[.int .u8 0, .int .u8 0, .int .u8 0, .int .u8 0, .int .u8 0, .int .u8 0, .int .u8 0, .int .u8 0, .int .u8 0, .int .u8 0, .int .u8 0, .int .u8 0, .int .u8 0, .int .u8 0, .int .u8 0, .int .u8 0, .int .u8 0, .int .u8 0, .int .u8 0, .int .u8 0]), (20, .agg #[.int .u8 0, .int .u8 0, .int .u8 0, .int .u8 0, .int .u8 0, .int .u8 0, .int .u8 0, .int .u8 0, .int .u8 0, .int .u8 0, .int .u8 0, .int .u8 0, .int .u8 0, .int .u8 0, .int .u8 0, .int .u8 0, .int .u8 0, .int .u8 0, .int .u8 0, .int .u8 0])] (by kernel_rfl) rfl ?_
  refine GQ.sem (j := 16) (fun w_ H_ => run_arr_neq (P := Try.prog) (t := 25) (n := 20) (k := .u8) (x := (.tmp 19)) (y := (.tmp 20)) (by kernel_rfl) [0, 0, 0, 0, 0, 0, 0, 0, 0, 0, 0, 0, 0, 0, 0, 0, 0, 0, 0, 0] [0, 0, 0, 0, 0, 0, 0, 0, 0, 0, 0, 0, 0, 0, 0, 0, 0, 0, 0, 0] rfl rfl _) [1, 3, 8, 11, 14, 17, 21] [(1, pt p3 0), (3, .int .i64 0), (8, .bool false), (11, .bool false), (14, .bool true), (17, .bool false), (21, .bool false)] (by kernel_rfl) (by kernel_rfl) rfl ?_
  refine GQ.run (j := 17) 1 [1, 3, 8, 11, 14, 17, 21, 22] [(1, pt p3 0), (3, .int .i64 0), (8, .bool false), (11, .bool false), (14, .bool true), (17, .bool false), (21, .bool false), (22, pt p3 25)] (by kernel_rfl) rfl ?_
  refine GQ.sem (j := 18) (fun w_ H_ => H_.ld (o := 25) (ty := 4) (v := .bool false) 0 rfl (by kernel_rfl) rfl) [1, 3, 8, 11, 14, 17, 21, 23] [(1, pt p3 0), (3, .int .i64 0), (8, .bool false), (11, .bool false), (14, .bool true), (17, .bool false), (21, .bool false), (23, .bool false)] (by kernel_rfl) (by kernel_rfl) rfl ?_
  refine GQ.run (j := 19) 1 [3, 8, 11, 14, 17, 21, 23, 24] [(3, .int .i64 0), (8, .bool false), (11, .bool false), (14, .bool true), (17, .bool false), (21, .bool false), (23, .bool false), (24, pt p3 26)] (by kernel_rfl) rfl ?_
  refine GQ.sem (j := 20) (fun w_ H_ => H_.ld (o := 26) (ty := 26) (v := .slice none 0 0) 0 rfl (by kernel_rfl) rfl) [3, 8, 11, 14, 17, 21, 23, 25] [(3, .int .i64 0), (8, .bool false), (11, .bool false), (14, .bool true), (17, .bool false), (21, .bool false), (23, .bool false), (25, .slice none 0 0)] (by kernel_rfl) (by kernel_rfl) rfl ?_
  refine GQ.run (j := 24) 4 [3, 28, 29] [(3, .int .i64 0), (28, .agg #[.bool false, .bool false, .bool true, .bool false, .bool false, .bool false, .bool false]), (29, .int .i64 0)] (by kernel_rfl) rfl ?_
  refine GQ.k rfl hK12 (fun _ _ h => h) (fun w13 H14 => ?_)
  refine G.block ?_
  refine G.unroll 7 ?_
  refine G.seqK fun K15 hK16 => ?_
  refine G.region ?_
  refine GL.run (j := 1) 1 [3, 28, 29, 30] [(3, .int .i64 0), (28, .agg #[.bool false, .bool false, .bool true, .bool false, .bool false, .bool false, .bool false]), (29, .int .i64 0), (30, .bool true)] (by kernel_rfl) rfl ?_
  refine GL.k rfl hK16 (fun _ _ h => h) ?_
  refine G.seqK fun K17 hK18 => ?_
  refine G.yes rfl ?_
  refine G.skipK hK18 (fun _ _ h => h) ?_
  refine G.seqK fun K19 hK20 => ?_
  refine G.block ?_
  refine G.seqK fun K21 hK22 => ?_
  refine G.region ?_
  refine GL.run (j := 4) 4 [3, 4, 5, 28, 29] [(3, .int .i64 0), (4, .int .i64 0), (5, .bool false), (28, .agg #[.bool false, .bool false, .bool true, .bool false, .bool false, .bool false, .bool false]), (29, .int .i64 0)] (by kernel_rfl) rfl ?_
  refine GL.k rfl hK22 (fun _ _ h => h) ?_
  refine G.seqK fun K23 hK24 => ?_
  refine G.region ?_
  refine GL.run (j := 1) 1 [3, 4, 28, 29, 33] [(3, .int .i64 0), (4, .int .i64 0), (28, .agg #[.bool false, .bool false, .bool true, .bool false, .bool false, .bool false, .bool false]), (29, .int .i64 0), (33, .bool false)] (by kernel_rfl) rfl ?_
  refine GL.k rfl hK24 (fun _ _ h => h) ?_
  refine G.no rfl ?_
  refine G.skipK hK20 (fun _ _ h => h) ?_
  refine G.region ?_
  refine GL.run (j := 2) 2 [3, 28, 29] [(3, .int .i64 0), (28, .agg #[.bool false, .bool false, .bool true, .bool false, .bool false, .bool false, .bool false]), (29, .int .i64 1)] (by kernel_rfl) rfl ?_
  refine GL.round rfl ?_
  refine G.seqK fun K25 hK26 => ?_
  refine G.region ?_
  refine GL.run (j := 1) 1 [3, 28, 29, 30] [(3, .int .i64 0), (28, .agg #[.bool false, .bool false, .bool true, .bool false, .bool false, .bool false, .bool false]), (29, .int .i64 1), (30, .bool true)] (by kernel_rfl) rfl ?_
  refine GL.k rfl hK26 (fun _ _ h => h) ?_
  refine G.seqK fun K27 hK28 => ?_
  refine G.yes rfl ?_
  refine G.skipK hK28 (fun _ _ h => h) ?_
  refine G.seqK fun K29 hK30 => ?_
  refine G.block ?_
  refine G.seqK fun K31 hK32 => ?_
  refine G.region ?_
  refine GL.run (j := 4) 4 [3, 4, 5, 28, 29] [(3, .int .i64 0), (4, .int .i64 1), (5, .bool false), (28, .agg #[.bool false, .bool false, .bool true, .bool false, .bool false, .bool false, .bool false]), (29, .int .i64 1)] (by kernel_rfl) rfl ?_
  refine GL.k rfl hK32 (fun _ _ h => h) ?_
  refine G.seqK fun K33 hK34 => ?_
  refine G.region ?_
  refine GL.run (j := 1) 1 [3, 4, 28, 29, 33] [(3, .int .i64 0), (4, .int .i64 1), (28, .agg #[.bool false, .bool false, .bool true, .bool false, .bool false, .bool false, .bool false]), (29, .int .i64 1), (33, .bool false)] (by kernel_rfl) rfl ?_
  refine GL.k rfl hK34 (fun _ _ h => h) ?_
  refine G.no rfl ?_
  refine G.skipK hK30 (fun _ _ h => h) ?_
  refine G.region ?_
  refine GL.run (j := 2) 2 [3, 28, 29] [(3, .int .i64 0), (28, .agg #[.bool false, .bool false, .bool true, .bool false, .bool false, .bool false, .bool false]), (29, .int .i64 2)] (by kernel_rfl) rfl ?_
  refine GL.round rfl ?_
  refine G.seqK fun K35 hK36 => ?_
  refine G.region ?_
  refine GL.run (j := 1) 1 [3, 28, 29, 30] [(3, .int .i64 0), (28, .agg #[.bool false, .bool false, .bool true, .bool false, .bool false, .bool false, .bool false]), (29, .int .i64 2), (30, .bool true)] (by kernel_rfl) rfl ?_
  refine GL.k rfl hK36 (fun _ _ h => h) ?_
  refine G.seqK fun K37 hK38 => ?_
  refine G.yes rfl ?_
  refine G.skipK hK38 (fun _ _ h => h) ?_
  refine G.seqK fun K39 hK40 => ?_
  refine G.block ?_
  refine G.seqK fun K41 hK42 => ?_
  refine G.region ?_
  refine GL.run (j := 4) 4 [3, 4, 5, 28, 29] [(3, .int .i64 0), (4, .int .i64 2), (5, .bool true), (28, .agg #[.bool false, .bool false, .bool true, .bool false, .bool false, .bool false, .bool false]), (29, .int .i64 2)] (by kernel_rfl) rfl ?_
  refine GL.k rfl hK42 (fun _ _ h => h) ?_
  refine G.seqK fun K43 hK44 => ?_
  refine G.region ?_
  refine GL.run (j := 1) 1 [3, 4, 28, 29, 33] [(3, .int .i64 0), (4, .int .i64 2), (28, .agg #[.bool false, .bool false, .bool true, .bool false, .bool false, .bool false, .bool false]), (29, .int .i64 2), (33, .bool true)] (by kernel_rfl) rfl ?_
  refine GL.k rfl hK44 (fun _ _ h => h) ?_
  refine G.yes rfl ?_
  refine G.region ?_
  refine GL.run (j := 5) 5 [3, 28, 29] [(3, .int .i64 4), (28, .agg #[.bool false, .bool false, .bool true, .bool false, .bool false, .bool false, .bool false]), (29, .int .i64 2)] (by kernel_rfl) rfl ?_
  refine GL.k rfl hK40 (fun _ _ h => h) ?_
  refine G.region ?_
  refine GL.run (j := 2) 2 [3, 28, 29] [(3, .int .i64 4), (28, .agg #[.bool false, .bool false, .bool true, .bool false, .bool false, .bool false, .bool false]), (29, .int .i64 3)] (by kernel_rfl) rfl ?_
  refine GL.round rfl ?_
  refine G.seqK fun K45 hK46 => ?_
  refine G.region ?_
  refine GL.run (j := 1) 1 [3, 28, 29, 30] [(3, .int .i64 4), (28, .agg #[.bool false, .bool false, .bool true, .bool false, .bool false, .bool false, .bool false]), (29, .int .i64 3), (30, .bool true)] (by kernel_rfl) rfl ?_
  refine GL.k rfl hK46 (fun _ _ h => h) ?_
  refine G.seqK fun K47 hK48 => ?_
  refine G.yes rfl ?_
  refine G.skipK hK48 (fun _ _ h => h) ?_
  refine G.seqK fun K49 hK50 => ?_
  refine G.block ?_
  refine G.seqK fun K51 hK52 => ?_
  refine G.region ?_
  refine GL.run (j := 4) 4 [3, 4, 5, 28, 29] [(3, .int .i64 4), (4, .int .i64 3), (5, .bool false), (28, .agg #[.bool false, .bool false, .bool true, .bool false, .bool false, .bool false, .bool false]), (29, .int .i64 3)] (by kernel_rfl) rfl ?_
  refine GL.k rfl hK52 (fun _ _ h => h) ?_
  refine G.seqK fun K53 hK54 => ?_
  refine G.region ?_
  refine GL.run (j := 1) 1 [3, 4, 28, 29, 33] [(3, .int .i64 4), (4, .int .i64 3), (28, .agg #[.bool false, .bool false, .bool true, .bool false, .bool false, .bool false, .bool false]), (29, .int .i64 3), (33, .bool false)] (by kernel_rfl) rfl ?_
  refine GL.k rfl hK54 (fun _ _ h => h) ?_
  refine G.no rfl ?_
  refine G.skipK hK50 (fun _ _ h => h) ?_
  refine G.region ?_
  refine GL.run (j := 2) 2 [3, 28, 29] [(3, .int .i64 4), (28, .agg #[.bool false, .bool false, .bool true, .bool false, .bool false, .bool false, .bool false]), (29, .int .i64 4)] (by kernel_rfl) rfl ?_
  refine GL.round rfl ?_
  refine G.seqK fun K55 hK56 => ?_
  refine G.region ?_
  refine GL.run (j := 1) 1 [3, 28, 29, 30] [(3, .int .i64 4), (28, .agg #[.bool false, .bool false, .bool true, .bool false, .bool false, .bool false, .bool false]), (29, .int .i64 4), (30, .bool true)] (by kernel_rfl) rfl ?_
  refine GL.k rfl hK56 (fun _ _ h => h) ?_
  refine G.seqK fun K57 hK58 => ?_
  refine G.yes rfl ?_
  refine G.skipK hK58 (fun _ _ h => h) ?_
  refine G.seqK fun K59 hK60 => ?_
  refine G.block ?_
  refine G.seqK fun K61 hK62 => ?_
  refine G.region ?_
  refine GL.run (j := 4) 4 [3, 4, 5, 28, 29] [(3, .int .i64 4), (4, .int .i64 4), (5, .bool false), (28, .agg #[.bool false, .bool false, .bool true, .bool false, .bool false, .bool false, .bool false]), (29, .int .i64 4)] (by kernel_rfl) rfl ?_
  refine GL.k rfl hK62 (fun _ _ h => h) ?_
  refine G.seqK fun K63 hK64 => ?_
  refine G.region ?_
  refine GL.run (j := 1) 1 [3, 4, 28, 29, 33] [(3, .int .i64 4), (4, .int .i64 4), (28, .agg #[.bool false, .bool false, .bool true, .bool false, .bool false, .bool false, .bool false]), (29, .int .i64 4), (33, .bool false)] (by kernel_rfl) rfl ?_
  refine GL.k rfl hK64 (fun _ _ h => h) ?_
  refine G.no rfl ?_
  refine G.skipK hK60 (fun _ _ h => h) ?_
  refine G.region ?_
  refine GL.run (j := 2) 2 [3, 28, 29] [(3, .int .i64 4), (28, .agg #[.bool false, .bool false, .bool true, .bool false, .bool false, .bool false, .bool false]), (29, .int .i64 5)] (by kernel_rfl) rfl ?_
  refine GL.round rfl ?_
  refine G.seqK fun K65 hK66 => ?_
  refine G.region ?_
  refine GL.run (j := 1) 1 [3, 28, 29, 30] [(3, .int .i64 4), (28, .agg #[.bool false, .bool false, .bool true, .bool false, .bool false, .bool false, .bool false]), (29, .int .i64 5), (30, .bool true)] (by kernel_rfl) rfl ?_
  refine GL.k rfl hK66 (fun _ _ h => h) ?_
  refine G.seqK fun K67 hK68 => ?_
  refine G.yes rfl ?_
  refine G.skipK hK68 (fun _ _ h => h) ?_
  refine G.seqK fun K69 hK70 => ?_
  refine G.block ?_
  refine G.seqK fun K71 hK72 => ?_
  refine G.region ?_
  refine GL.run (j := 4) 4 [3, 4, 5, 28, 29] [(3, .int .i64 4), (4, .int .i64 5), (5, .bool false), (28, .agg #[.bool false, .bool false, .bool true, .bool false, .bool false, .bool false, .bool false]), (29, .int .i64 5)] (by kernel_rfl) rfl ?_
  refine GL.k rfl hK72 (fun _ _ h => h) ?_
  refine G.seqK fun K73 hK74 => ?_
  refine G.region ?_
  refine GL.run (j := 1) 1 [3, 4, 28, 29, 33] [(3, .int .i64 4), (4, .int .i64 5), (28, .agg #[.bool false, .bool false, .bool true, .bool false, .bool false, .bool false, .bool false]), (29, .int .i64 5), (33, .bool false)] (by kernel_rfl) rfl ?_
  refine GL.k rfl hK74 (fun _ _ h => h) ?_
  refine G.no rfl ?_
  refine G.skipK hK70 (fun _ _ h => h) ?_
  refine G.region ?_
  refine GL.run (j := 2) 2 [3, 28, 29] [(3, .int .i64 4), (28, .agg #[.bool false, .bool false, .bool true, .bool false, .bool false, .bool false, .bool false]), (29, .int .i64 6)] (by kernel_rfl) rfl ?_
  refine GL.round rfl ?_
  refine G.seqK fun K75 hK76 => ?_
  refine G.region ?_
  refine GL.run (j := 1) 1 [3, 28, 29, 30] [(3, .int .i64 4), (28, .agg #[.bool false, .bool false, .bool true, .bool false, .bool false, .bool false, .bool false]), (29, .int .i64 6), (30, .bool true)] (by kernel_rfl) rfl ?_
  refine GL.k rfl hK76 (fun _ _ h => h) ?_
  refine G.seqK fun K77 hK78 => ?_
  refine G.yes rfl ?_
  refine G.skipK hK78 (fun _ _ h => h) ?_
  refine G.seqK fun K79 hK80 => ?_
  refine G.block ?_
  refine G.seqK fun K81 hK82 => ?_
  refine G.region ?_
  refine GL.run (j := 4) 4 [3, 4, 5, 28, 29] [(3, .int .i64 4), (4, .int .i64 6), (5, .bool false), (28, .agg #[.bool false, .bool false, .bool true, .bool false, .bool false, .bool false, .bool false]), (29, .int .i64 6)] (by kernel_rfl) rfl ?_
  refine GL.k rfl hK82 (fun _ _ h => h) ?_
  refine G.seqK fun K83 hK84 => ?_
  refine G.region ?_
  refine GL.run (j := 1) 1 [3, 4, 28, 29, 33] [(3, .int .i64 4), (4, .int .i64 6), (28, .agg #[.bool false, .bool false, .bool true, .bool false, .bool false, .bool false, .bool false]), (29, .int .i64 6), (33, .bool false)] (by kernel_rfl) rfl ?_
  refine GL.k rfl hK84 (fun _ _ h => h) ?_
  refine G.no rfl ?_
  refine G.skipK hK80 (fun _ _ h => h) ?_
  refine G.region ?_
  refine GL.run (j := 2) 2 [3, 28, 29] [(3, .int .i64 4), (28, .agg #[.bool false, .bool false, .bool true, .bool false, .bool false, .bool false, .bool false]), (29, .int .i64 7)] (by kernel_rfl) rfl ?_
  refine GL.round rfl ?_
  refine G.seqK fun K85 hK86 => ?_
  refine G.region ?_
  refine GL.run (j := 1) 1 [3, 28, 29, 30] [(3, .int .i64 4), (28, .agg #[.bool false, .bool false, .bool true, .bool false, .bool false, .bool false, .bool false]), (29, .int .i64 7), (30, .bool false)] (by kernel_rfl) rfl ?_
  refine GL.k rfl hK86 (fun _ _ h => h) ?_
  refine G.seqK fun K87 hK88 => ?_
  refine G.no rfl ?_
  refine G.exitK hK10 (fun _ _ h => h) ?_
  refine G.seqK fun K89 hK90 => ?_
  refine G.region ?_
  refine GL.run (j := 2) 2 [2] [(2, .int .i64 4)] (by kernel_rfl) rfl ?_
  refine GL.k rfl hK90 (fun _ _ h => h) ?_
  refine G.ret ?_
  intro F_ hF_ hM_
  refine hRet _ _ (bodyPost_1 rfl (RV.tmp rfl) ?_ F_ hF_ hM_)
  exact ⟨rfl, H14.sub (List.nil_sublist _)⟩
theorem Bytes_ex (w : World) : Calls Try.prog 8 #[.agg #[.int .u8 1, .int .u8 0, .int .u8 0, .int .u64 5, .int .u64 0, .int .u8 0, .int .u8 0, .int .u8 0, .int .u8 0, .int .u8 0, .int .u8 0, .int .u8 0, .int .u8 0, .int .u8 0, .int .u8 0, .int .u8 0, .int .u8 0, .int .u8 0, .int .u8 0, .int .u8 0, .int .u8 0, .int .u8 0, .int .u8 0, .int .u8 0, .int .u8 0, .bool false, .slice none 0 0]] w fun e w' => ∃ A c, e = .returned (.tuple #[.slice A 9 c, .int .i64 0]) ∧ Hp w [] [.row A 9 c 5 1 (by8 (putB 1 1 ++ putB 5 8))] w' := by
  refine calls_G (args := [.agg #[.int .u8 1, .int .u8 0, .int .u8 0, .int .u64 5, .int .u64 0, .int .u8 0, .int .u8 0, .int .u8 0, .int .u8 0, .int .u8 0, .int .u8 0, .int .u8 0, .int .u8 0, .int .u8 0, .int .u8 0, .int .u8 0, .int .u8 0, .int .u8 0, .int .u8 0, .int .u8 0, .int .u8 0, .int .u8 0, .int .u8 0, .int .u8 0, .int .u8 0, .bool false, .slice none 0 0]]) Try.func8 rfl Try.ntmps8 rfl ?_
  intro Q0 hRet hNor hPan
  have H := Hp.start w
  have H : Hp w [] [] w := H
  refine G.seqK fun K1 hK2 => ?_
  refine G.region ?_
  obtain ⟨p3, w4, r5, H6⟩ := H.box (P := Try.prog) 28 [.int .u8 1, .int .u8 0, .int .u8 0, .int .u64 5, .int .u64 0, .int .u8 0, .int .u8 0, .int .u8 0, .int .u8 0, .int .u8 0, .int .u8 0, .int .u8 0, .int .u8 0, .int .u8 0, .int .u8 0, .int .u8 0, .int .u8 0, .int .u8 0, .int .u8 0, .int .u8 0, .int .u8 0, .int .u8 0, .int .u8 0, .int .u8 0, .int .u8 0, .bool false, .slice none 0 0] (.agg #[.int .u8 1, .int .u8 0, .int .u8 0, .int .u64 5, .int .u64 0, .int .u8 0, .int .u8 0, .int .u8 0, .int .u8 0, .int .u8 0, .int .u8 0, .int .u8 0, .int .u8 0, .int .u8 0, .int .u8 0, .int .u8 0, .int .u8 0, .int .u8 0, .int .u8 0, .int .u8 0, .int .u8 0, .int .u8 0, .int .u8 0, .int .u8 0, .int .u8 0, .bool false, .slice none 0 0]) rfl
  have H6 : Hp w [] [.blk p3 [.int .u8 1, .int .u8 0, .int .u8 0, .int .u64 5, .int .u64 0, .int .u8 0, .int .u8 0, .int .u8 0, .int .u8 0, .int .u8 0, .int .u8 0, .int .u8 0, .int .u8 0, .int .u8 0, .int .u8 0, .int .u8 0, .int .u8 0, .int .u8 0, .int .u8 0, .int .u8 0, .int .u8 0, .int .u8 0, .int .u8 0, .int .u8 0, .int .u8 0, .bool false, .slice none 0 0] 28] w4 := H6
  refine GL.sem (j := 1) (r5) [1] [(1, pt p3 0)] (by kernel_rfl) (by kernel_rfl) rfl ?_
  refine GL.run (j := 3) 2 [1] [(1, pt p3 0)] (by kernel_rfl) rfl ?_
  refine GL.k rfl hK2 (fun _ _ h => h) ?_
  refine G.seqK fun K7 hK8 => ?_
  refine G.region ?_
  refine GL.run (j := 1) 1 [1, 8] [(1, pt p3 0), (8, pt p3 0)] (by kernel_rfl) rfl ?_
  refine GL.sem (j := 2) (H6.ld (o := 0) (ty := 5) (v := .int .u8 1) 0 rfl (by kernel_rfl) rfl) [1, 9] [(1, pt p3 0), (9, .int .u8 1)] (by kernel_rfl) (by kernel_rfl) rfl ?_
  refine GL.call (j := 3) (fields_ex w4) (by kernel_rfl) rfl (fun e_ w9 hR => ?_)
  obtain ⟨rfl, H11⟩ := hR
  have H10 : Hp w [] [.blk p3 [.int .u8 1, .int .u8 0, .int .u8 0, .int .u64 5, .int .u64 0, .int .u8 0, .int .u8 0, .int .u8 0, .int .u8 0, .int .u8 0, .int .u8 0, .int .u8 0, .int .u8 0, .int .u8 0, .int .u8 0, .int .u8 0, .int .u8 0, .int .u8 0, .int .u8 0, .int .u8 0, .int .u8 0, .int .u8 0, .int .u8 0, .int .u8 0, .int .u8 0, .bool false, .slice none 0 0] 28] w9 := H6.callNil H11
  refine ⟨_, rfl, [1, 10], [(1, pt p3 0), (10, .int .i64 4)], by kernel_rfl, ?_⟩
  refine GL.run (j := 4) 1 [1, 4] [(1, pt p3 0), (4, .int .i64 4)] (by kernel_rfl) rfl ?_
  refine GL.k rfl hK8 (fun _ _ h => h) ?_
  refine G.seqK fun K12 hK13 => ?_
  refine G.block ?_
  refine G.seqK fun K14 hK15 => ?_
  refine G.region ?_
  refine GL.run (j := 3) 3 [1, 4, 14] [(1, pt p3 0), (4, .int .i64 4), (14, .bool false)] (by kernel_rfl) rfl ?_
  refine GL.sem (j := 4) (H10.ldA (o := 0) (ty := 28) (m := 27) (sub := [.int .u8 1, .int .u8 0, .int .u8 0, .int .u64 5, .int .u64 0, .int .u8 0, .int .u8 0, .int .u8 0, .int .u8 0, .int .u8 0, .int .u8 0, .int .u8 0, .int .u8 0, .int .u8 0, .int .u8 0, .int .u8 0, .int .u8 0, .int .u8 0, .int .u8 0, .int .u8 0, .int .u8 0, .int .u8 0, .int .u8 0, .int .u8 0, .int .u8 0, .bool false, .slice none 0 0]) 0 rfl (by kernel_rfl) rfl rfl) [1, 4, 14, 15] [(1, pt p3 0), (4, .int .i64 4), (14, .bool false), (15, .agg #[.int .u8 1, .int .u8 0, .int .u8 0, .int .u64 5, .int .u64 0, .int .u8 0, .int .u8 0, .int .u8 0, .int .u8 0, .int .u8 0, .int .u8 0, .int .u8 0, .int .u8 0, .int .u8 0, .int .u8 0, .int .u8 0, .int .u8 0, .int .u8 0, .int .u8 0, .int .u8 0, .int .u8 0, .int .u8 0, .int .u8 0, .int .u8 0, .int .u8 0, .bool false, .slice none 0 0])] (by kernel_rfl) (by kernel_rfl) rfl ?_
  refine GL.call (j := 5) (set_ex w9) (by kernel_rfl) rfl (fun e_ w16 hR => ?_)
  obtain ⟨rfl, H18⟩ := hR
  have H17 : Hp w [] [.blk p3 [.int .u8 1, .int .u8 0, .int .u8 0, .int .u64 5, .int .u64 0, .int .u8 0, .int .u8 0, .int .u8 0, .int .u8 0, .int .u8 0, .int .u8 0, .int .u8 0, .int .u8 0, .int .u8 0, .int .u8 0, .int .u8 0, .int .u8 0, .int .u8 0, .int .u8 0, .int .u8 0, .int .u8 0, .int .u8 0, .int .u8 0, .int .u8 0, .int .u8 0, .bool false, .slice none 0 0] 28] w16 := H10.callNil H18
  refine ⟨_, rfl, [1, 4, 14, 16], [(1, pt p3 0), (4, .int .i64 4), (14, .bool false), (16, .int .i64 4)], by kernel_rfl, ?_⟩
  refine GL.run (j := 10) 5 [1, 4, 11] [(1, pt p3 0), (4, .int .i64 4), (11, .bool false)] (by kernel_rfl) rfl ?_
  refine GL.k rfl hK15 (fun _ _ h => h) ?_
  refine G.no rfl ?_
  refine G.seqK fun K19 hK20 => ?_
  refine G.region ?_
  refine GL.run (j := 1) 1 [1, 4, 22] [(1, pt p3 0), (4, .int .i64 4), (22, pt p3 26)] (by kernel_rfl) rfl ?_
  refine GL.sem (j := 2) (H17.ld (o := 26) (ty := 26) (v := .slice none 0 0) 0 rfl (by kernel_rfl) rfl) [1, 4, 23] [(1, pt p3 0), (4, .int .i64 4), (23, .slice none 0 0)] (by kernel_rfl) (by kernel_rfl) rfl ?_
  refine GL.run (j := 5) 3 [1, 4, 21] [(1, pt p3 0), (4, .int .i64 4), (21, .bool false)] (by kernel_rfl) rfl ?_
  refine GL.k rfl hK20 (fun _ _ h => h) ?_
  refine G.no rfl ?_
  refine G.skipK hK13 (fun _ _ h => h) ?_
  refine G.seqK fun K21 hK22 => ?_
  refine G.region ?_
  obtain ⟨p23, w24, r25, H26⟩ := H17.alloc (P := Try.prog) 53 [.slice none 0 0] (by kernel_rfl)
  have H26 : Hp w [] [.blk p3 [.int .u8 1, .int .u8 0, .int .u8 0, .int .u64 5, .int .u64 0, .int .u8 0, .int .u8 0, .int .u8 0, .int .u8 0, .int .u8 0, .int .u8 0, .int .u8 0, .int .u8 0, .int .u8 0, .int .u8 0, .int .u8 0, .int .u8 0, .int .u8 0, .int .u8 0, .int .u8 0, .int .u8 0, .int .u8 0, .int .u8 0, .int .u8 0, .int .u8 0, .bool false, .slice none 0 0] 28, .blk p23 [.slice none 0 0] 53] w24 := H26
  refine GL.sem (j := 1) (r25) [1, 4, 5] [(1, pt p3 0), (4, .int .i64 4), (5, pt p23 0)] (by kernel_rfl) (by kernel_rfl) rfl ?_
  refine GL.k rfl hK22 (fun _ _ h => h) ?_
  refine G.seqK fun K27 hK28 => ?_
  refine G.region ?_
  refine GL.run (j := 1) 1 [1, 4, 5, 26] [(1, pt p3 0), (4, .int .i64 4), (5, pt p23 0), (26, pt p3 0)] (by kernel_rfl) rfl ?_
  refine GL.sem (j := 2) (H26.ld (o := 0) (ty := 5) (v := .int .u8 1) 0 rfl (by kernel_rfl) rfl) [1, 4, 5, 27] [(1, pt p3 0), (4, .int .i64 4), (5, pt p23 0), (27, .int .u8 1)] (by kernel_rfl) (by kernel_rfl) rfl ?_
  refine GL.run (j := 3) 1 [1, 4, 5, 28] [(1, pt p3 0), (4, .int .i64 4), (5, pt p23 0), (28, .int .u64 1)] (by kernel_rfl) rfl ?_
  have H29 := H26.rowNil 5 1
  have H29 : Hp w [] [.blk p3 [.int .u8 1, .int .u8 0, .int .u8 0, .int .u64 5, .int .u64 0, .int .u8 0, .int .u8 0, .int .u8 0, .int .u8 0, .int .u8 0, .int .u8 0, .int .u8 0, .int .u8 0, .int .u8 0, .int .u8 0, .int .u8 0, .int .u8 0, .int .u8 0, .int .u8 0, .int .u8 0, .int .u8 0, .int .u8 0, .int .u8 0, .int .u8 0, .int .u8 0, .bool false, .slice none 0 0] 28, .blk p23 [.slice none 0 0] 53, .row none 0 0 5 1 (by8 ([] : List UInt8))] w24 := H29
  have H32 := (Hp.reorder (L' := [.blk p23 [.slice none 0 0] 53, .row none 0 0 5 1 (by8 ([] : List UInt8)), .blk p3 [.int .u8 1, .int .u8 0, .int .u8 0, .int .u64 5, .int .u64 0, .int .u8 0, .int .u8 0, .int .u8 0, .int .u8 0, .int .u8 0, .int .u8 0, .int .u8 0, .int .u8 0, .int .u8 0, .int .u8 0, .int .u8 0, .int .u8 0, .int .u8 0, .int .u8 0, .int .u8 0, .int .u8 0, .int .u8 0, .int .u8 0, .int .u8 0, .int .u8 0, .bool false, .slice none 0 0] 28]) H29 (List.Perm.trans (List.Perm.swap _ _ _) (List.Perm.cons _ (List.Perm.trans (List.Perm.swap _ _ _) (List.Perm.refl _)))))
  refine GL.call (j := 4) (Put1_calls (ids [.blk p23 [.slice none 0 0] 53, .row none 0 0 5 1 (by8 ([] : List UInt8))]) p23 none 0 0 ([] : List UInt8) 1 w24 (Hp.startL (A := [.blk p23 [.slice none 0 0] 53, .row none 0 0 5 1 (by8 ([] : List UInt8))]) (B := [.blk p3 [.int .u8 1, .int .u8 0, .int .u8 0, .int .u64 5, .int .u64 0, .int .u8 0, .int .u8 0, .int .u8 0, .int .u8 0, .int .u8 0, .int .u8 0, .int .u8 0, .int .u8 0, .int .u8 0, .int .u8 0, .int .u8 0, .int .u8 0, .int .u8 0, .int .u8 0, .int .u8 0, .int .u8 0, .int .u8 0, .int .u8 0, .int .u8 0, .int .u8 0, .bool false, .slice none 0 0] 28]) H32) (by omega)) (by kernel_rfl) rfl (fun e_ w33 hR => ?_)
  obtain ⟨A30, c31, rfl, H35⟩ := hR
  have H34 : Hp w [] [.blk p23 [.slice A30 1 c31] 53, .row A30 1 c31 5 1 (by8 (putB 1 1)), .blk p3 [.int .u8 1, .int .u8 0, .int .u8 0, .int .u64 5, .int .u64 0, .int .u8 0, .int .u8 0, .int .u8 0, .int .u8 0, .int .u8 0, .int .u8 0, .int .u8 0, .int .u8 0, .int .u8 0, .int .u8 0, .int .u8 0, .int .u8 0, .int .u8 0, .int .u8 0, .int .u8 0, .int .u8 0, .int .u8 0, .int .u8 0, .int .u8 0, .int .u8 0, .bool false, .slice none 0 0] 28] w33 := Hp.callL (A := [.blk p23 [.slice none 0 0] 53, .row none 0 0 5 1 (by8 ([] : List UInt8))]) (B := [.blk p3 [.int .u8 1, .int .u8 0, .int .u8 0, .int .u64 5, .int .u64 0, .int .u8 0, .int .u8 0, .int .u8 0, .int .u8 0, .int .u8 0, .int .u8 0, .int .u8 0, .int .u8 0, .int .u8 0, .int .u8 0, .int .u8 0, .int .u8 0, .int .u8 0, .int .u8 0, .int .u8 0, .int .u8 0, .int .u8 0, .int .u8 0, .int .u8 0, .int .u8 0, .bool false, .slice none 0 0] 28]) H32 H35
  refine ⟨_, rfl, [1, 4, 5], [(1, pt p3 0), (4, .int .i64 4), (5, pt p23 0)], by kernel_rfl, ?_⟩
  refine GL.k rfl hK28 (fun _ _ h => h) ?_
  refine G.seqK fun K36 hK37 => ?_
  refine G.seqK fun K38 hK39 => ?_
  refine G.region ?_
  refine GL.run (j := 1) 1 [1, 4, 5, 30] [(1, pt p3 0), (4, .int .i64 4), (5, pt p23 0), (30, pt p3 1)] (by kernel_rfl) rfl ?_
  refine GL.sem (j := 2) (H34.ld (o := 1) (ty := 22) (v := .int .u8 0) 2 rfl (by kernel_rfl) rfl) [1, 4, 5, 31] [(1, pt p3 0), (4, .int .i64 4), (5, pt p23 0), (31, .int .u8 0)] (by kernel_rfl) (by kernel_rfl) rfl ?_
  refine GL.run (j := 5) 3 [1, 4, 5, 33, 34] [(1, pt p3 0), (4, .int .i64 4), (5, pt p23 0), (33, .agg #[.int .u64 0, .int .i64 1]), (34, pt p3 2)] (by kernel_rfl) rfl ?_
  refine GL.sem (j := 6) (H34.ld (o := 2) (ty := 22) (v := .int .u8 0) 2 rfl (by kernel_rfl) rfl) [1, 4, 5, 33, 35] [(1, pt p3 0), (4, .int .i64 4), (5, pt p23 0), (33, .agg #[.int .u64 0, .int .i64 1]), (35, .int .u8 0)] (by kernel_rfl) (by kernel_rfl) rfl ?_
  refine GL.run (j := 9) 3 [1, 4, 5, 33, 37, 38] [(1, pt p3 0), (4, .int .i64 4), (5, pt p23 0), (33, .agg #[.int .u64 0, .int .i64 1]), (37, .agg #[.int .u64 0, .int .i64 1]), (38, pt p3 3)] (by kernel_rfl) rfl ?_
  refine GL.sem (j := 10) (H34.ld (o := 3) (ty := 23) (v := .int .u64 5) 2 rfl (by kernel_rfl) rfl) [1, 4, 5, 33, 37, 39] [(1, pt p3 0), (4, .int .i64 4), (5, pt p23 0), (33, .agg #[.int .u64 0, .int .i64 1]), (37, .agg #[.int .u64 0, .int .i64 1]), (39, .int .u64 5)] (by kernel_rfl) (by kernel_rfl) rfl ?_
  refine GL.run (j := 12) 2 [1, 4, 5, 33, 37, 40, 41] [(1, pt p3 0), (4, .int .i64 4), (5, pt p23 0), (33, .agg #[.int .u64 0, .int .i64 1]), (37, .agg #[.int .u64 0, .int .i64 1]), (40, .agg #[.int .u64 5, .int .i64 8]), (41, pt p3 4)] (by kernel_rfl) rfl ?_
  refine GL.sem (j := 13) (H34.ld (o := 4) (ty := 23) (v := .int .u64 0) 2 rfl (by kernel_rfl) rfl) [1, 4, 5, 33, 37, 40, 42] [(1, pt p3 0), (4, .int .i64 4), (5, pt p23 0), (33, .agg #[.int .u64 0, .int .i64 1]), (37, .agg #[.int .u64 0, .int .i64 1]), (40, .agg #[.int .u64 5, .int .i64 8]), (42, .int .u64 0)] (by kernel_rfl) (by kernel_rfl) rfl ?_
  refine GL.run (j := 16) 3 [1, 4, 5, 44, 45] [(1, pt p3 0), (4, .int .i64 4), (5, pt p23 0), (44, .agg #[.int .u64 0, .int .i64 1, .int .u64 0, .int .i64 1, .int .u64 5, .int .i64 8, .int .u64 0, .int .i64 8]), (45, .int .i64 0)] (by kernel_rfl) rfl ?_
  refine GL.k rfl hK39 (fun _ _ h => h) ?_
  refine G.block ?_
  refine G.unroll 4 ?_
  refine G.seqK fun K40 hK41 => ?_
  refine G.region ?_
  refine GL.run (j := 1) 1 [1, 4, 5, 44, 45, 46] [(1, pt p3 0), (4, .int .i64 4), (5, pt p23 0), (44, .agg #[.int .u64 0, .int .i64 1, .int .u64 0, .int .i64 1, .int .u64 5, .int .i64 8, .int .u64 0, .int .i64 8]), (45, .int .i64 0), (46, .bool true)] (by kernel_rfl) rfl ?_
  refine GL.k rfl hK41 (fun _ _ h => h) ?_
  refine G.seqK fun K42 hK43 => ?_
  refine G.yes rfl ?_
  refine G.skipK hK43 (fun _ _ h => h) ?_
  refine G.seqK fun K44 hK45 => ?_
  refine G.block ?_
  refine G.seqK fun K46 hK47 => ?_
  refine G.region ?_
  refine GL.run (j := 2) 2 [1, 4, 5, 44, 45, 47, 48] [(1, pt p3 0), (4, .int .i64 4), (5, pt p23 0), (44, .agg #[.int .u64 0, .int .i64 1, .int .u64 0, .int .i64 1, .int .u64 5, .int .i64 8, .int .u64 0, .int .i64 8]), (45, .int .i64 0), (47, .int .i64 0), (48, .agg #[.int .u64 0, .int .i64 1])] (by kernel_rfl) rfl ?_
  obtain ⟨p48, w49, r50, H51⟩ := H34.alloc (P := Try.prog) 55 [.int .u64 0, .int .i64 0] (by kernel_rfl)
  have H51 : Hp w [] [.blk p23 [.slice A30 1 c31] 53, .row A30 1 c31 5 1 (by8 (putB 1 1)), .blk p3 [.int .u8 1, .int .u8 0, .int .u8 0, .int .u64 5, .int .u64 0, .int .u8 0, .int .u8 0, .int .u8 0, .int .u8 0, .int .u8 0, .int .u8 0, .int .u8 0, .int .u8 0, .int .u8 0, .int .u8 0, .int .u8 0, .int .u8 0, .int .u8 0, .int .u8 0, .int .u8 0, .int .u8 0, .int .u8 0, .int .u8 0, .int .u8 0, .int .u8 0, .bool false, .slice none 0 0] 28, .blk p48 [.int .u64 0, .int .i64 0] 55] w49 := H51
  refine GL.sem (j := 3) (r50) [1, 4, 5, 7, 44, 45, 47, 48] [(1, pt p3 0), (4, .int .i64 4), (5, pt p23 0), (7, pt p48 0), (44, .agg #[.int .u64 0, .int .i64 1, .int .u64 0, .int .i64 1, .int .u64 5, .int .i64 8, .int .u64 0, .int .i64 8]), (45, .int .i64 0), (47, .int .i64 0), (48, .agg #[.int .u64 0, .int .i64 1])] (by kernel_rfl) (by kernel_rfl) rfl ?_
  refine GL.run (j := 4) 1 [1, 4, 5, 6, 7, 44, 45, 48] [(1, pt p3 0), (4, .int .i64 4), (5, pt p23 0), (6, .int .i64 0), (7, pt p48 0), (44, .agg #[.int .u64 0, .int .i64 1, .int .u64 0, .int .i64 1, .int .u64 5, .int .i64 8, .int .u64 0, .int .i64 8]), (45, .int .i64 0), (48, .agg #[.int .u64 0, .int .i64 1])] (by kernel_rfl) rfl ?_
  obtain ⟨w52, r53, H54⟩ := H51.stA (P := Try.prog) (o := 0) (vs := [.int .u64 0, .int .i64 1]) (ty := 55) (m := 2) 3 rfl (by kernel_rfl) rfl (by simp) (by simp [Value.oneCell'])
  have H54 : Hp w [] [.blk p23 [.slice A30 1 c31] 53, .row A30 1 c31 5 1 (by8 (putB 1 1)), .blk p3 [.int .u8 1, .int .u8 0, .int .u8 0, .int .u64 5, .int .u64 0, .int .u8 0, .int .u8 0, .int .u8 0, .int .u8 0, .int .u8 0, .int .u8 0, .int .u8 0, .int .u8 0, .int .u8 0, .int .u8 0, .int .u8 0, .int .u8 0, .int .u8 0, .int .u8 0, .int .u8 0, .int .u8 0, .int .u8 0, .int .u8 0, .int .u8 0, .int .u8 0, .bool false, .slice none 0 0] 28, .blk p48 [.int .u64 0, .int .i64 1] 55] w52 := H54
  refine GL.semU (j := 5) r53 [1, 4, 5, 6, 7, 44, 45] [(1, pt p3 0), (4, .int .i64 4), (5, pt p23 0), (6, .int .i64 0), (7, pt p48 0), (44, .agg #[.int .u64 0, .int .i64 1, .int .u64 0, .int .i64 1, .int .u64 5, .int .i64 8, .int .u64 0, .int .i64 8]), (45, .int .i64 0)] (by kernel_rfl) rfl rfl rfl ?_
  refine GL.k rfl hK47 (fun _ _ h => h) ?_
  refine G.seqK fun K55 hK56 => ?_
  refine G.region ?_
  refine GL.run (j := 5) 5 [1, 4, 5, 7, 44, 45, 53] [(1, pt p3 0), (4, .int .i64 4), (5, pt p23 0), (7, pt p48 0), (44, .agg #[.int .u64 0, .int .i64 1, .int .u64 0, .int .i64 1, .int .u64 5, .int .i64 8, .int .u64 0, .int .i64 8]), (45, .int .i64 0), (53, .bool false)] (by kernel_rfl) rfl ?_
  refine GL.k rfl hK56 (fun _ _ h => h) ?_
  refine G.no rfl ?_
  refine G.skipK hK45 (fun _ _ h => h) ?_
  refine G.region ?_
  refine GL.run (j := 2) 2 [1, 4, 5, 44, 45] [(1, pt p3 0), (4, .int .i64 4), (5, pt p23 0), (44, .agg #[.int .u64 0, .int .i64 1, .int .u64 0, .int .i64 1, .int .u64 5, .int .i64 8, .int .u64 0, .int .i64 8]), (45, .int .i64 1)] (by kernel_rfl) rfl ?_
  refine GL.round rfl ?_
  refine G.seqK fun K57 hK58 => ?_
  refine G.region ?_
  refine GL.run (j := 1) 1 [1, 4, 5, 44, 45, 46] [(1, pt p3 0), (4, .int .i64 4), (5, pt p23 0), (44, .agg #[.int .u64 0, .int .i64 1, .int .u64 0, .int .i64 1, .int .u64 5, .int .i64 8, .int .u64 0, .int .i64 8]), (45, .int .i64 1), (46, .bool true)] (by kernel_rfl) rfl ?_
  refine GL.k rfl hK58 (fun _ _ h => h) ?_
  refine G.seqK fun K59 hK60 => ?_
  refine G.yes rfl ?_
  refine G.skipK hK60 (fun _ _ h => h) ?_
  refine G.seqK fun K61 hK62 => ?_
  refine G.block ?_
  refine G.seqK fun K63 hK64 => ?_
  refine G.region ?_
  refine GL.run (j := 2) 2 [1, 4, 5, 44, 45, 47, 48] [(1, pt p3 0), (4, .int .i64 4), (5, pt p23 0), (44, .agg #[.int .u64 0, .int .i64 1, .int .u64 0, .int .i64 1, .int .u64 5, .int .i64 8, .int .u64 0, .int .i64 8]), (45, .int .i64 1), (47, .int .i64 1), (48, .agg #[.int .u64 0, .int .i64 1])] (by kernel_rfl) rfl ?_
  obtain ⟨p65, w66, r67, H68⟩ := H54.alloc (P := Try.prog) 55 [.int .u64 0, .int .i64 0] (by kernel_rfl)
  have H68 : Hp w [] [.blk p23 [.slice A30 1 c31] 53, .row A30 1 c31 5 1 (by8 (putB 1 1)), .blk p3 [.int .u8 1, .int .u8 0, .int .u8 0, .int .u64 5, .int .u64 0, .int .u8 0, .int .u8 0, .int .u8 0, .int .u8 0, .int .u8 0, .int .u8 0, .int .u8 0, .int .u8 0, .int .u8 0, .int .u8 0, .int .u8 0, .int .u8 0, .int .u8 0, .int .u8 0, .int .u8 0, .int .u8 0, .int .u8 0, .int .u8 0, .int .u8 0, .int .u8 0, .bool false, .slice none 0 0] 28, .blk p48 [.int .u64 0, .int .i64 1] 55, .blk p65 [.int .u64 0, .int .i64 0] 55] w66 := H68
  refine GL.sem (j := 3) (r67) [1, 4, 5, 7, 44, 45, 47, 48] [(1, pt p3 0), (4, .int .i64 4), (5, pt p23 0), (7, pt p65 0), (44, .agg #[.int .u64 0, .int .i64 1, .int .u64 0, .int .i64 1, .int .u64 5, .int .i64 8, .int .u64 0, .int .i64 8]), (45, .int .i64 1), (47, .int .i64 1), (48, .agg #[.int .u64 0, .int .i64 1])] (by kernel_rfl) (by kernel_rfl) rfl ?_
  refine GL.run (j := 4) 1 [1, 4, 5, 6, 7, 44, 45, 48] [(1, pt p3 0), (4, .int .i64 4), (5, pt p23 0), (6, .int .i64 1), (7, pt p65 0), (44, .agg #[.int .u64 0, .int .i64 1, .int .u64 0, .int .i64 1, .int .u64 5, .int .i64 8, .int .u64 0, .int .i64 8]), (45, .int .i64 1), (48, .agg #[.int .u64 0, .int .i64 1])] (by kernel_rfl) rfl ?_
  obtain ⟨w69, r70, H71⟩ := H68.stA (P := Try.prog) (o := 0) (vs := [.int .u64 0, .int .i64 1]) (ty := 55) (m := 2) 4 rfl (by kernel_rfl) rfl (by simp) (by simp [Value.oneCell'])
  have H71 : Hp w [] [.blk p23 [.slice A30 1 c31] 53, .row A30 1 c31 5 1 (by8 (putB 1 1)), .blk p3 [.int .u8 1, .int .u8 0, .int .u8 0, .int .u64 5, .int .u64 0, .int .u8 0, .int .u8 0, .int .u8 0, .int .u8 0, .int .u8 0, .int .u8 0, .int .u8 0, .int .u8 0, .int .u8 0, .int .u8 0, .int .u8 0, .int .u8 0, .int .u8 0, .int .u8 0, .int .u8 0, .int .u8 0, .int .u8 0, .int .u8 0, .int .u8 0, .int .u8 0, .bool false, .slice none 0 0] 28, .blk p48 [.int .u64 0, .int .i64 1] 55, .blk p65 [.int .u64 0, .int .i64 1] 55] w69 := H71
  refine GL.semU (j := 5) r70 [1, 4, 5, 6, 7, 44, 45] [(1, pt p3 0), (4, .int .i64 4), (5, pt p23 0), (6, .int .i64 1), (7, pt p65 0), (44, .agg #[.int .u64 0, .int .i64 1, .int .u64 0, .int .i64 1, .int .u64 5, .int .i64 8, .int .u64 0, .int .i64 8]), (45, .int .i64 1)] (by kernel_rfl) rfl rfl rfl ?_
  refine GL.k rfl hK64 (fun _ _ h => h) ?_
  refine G.seqK fun K72 hK73 => ?_
  refine G.region ?_
  refine GL.run (j := 5) 5 [1, 4, 5, 7, 44, 45, 53] [(1, pt p3 0), (4, .int .i64 4), (5, pt p23 0), (7, pt p65 0), (44, .agg #[.int .u64 0, .int .i64 1, .int .u64 0, .int .i64 1, .int .u64 5, .int .i64 8, .int .u64 0, .int .i64 8]), (45, .int .i64 1), (53, .bool false)] (by kernel_rfl) rfl ?_
  refine GL.k rfl hK73 (fun _ _ h => h) ?_
  refine G.no rfl ?_
  refine G.skipK hK62 (fun _ _ h => h) ?_
  refine G.region ?_
  refine GL.run (j := 2) 2 [1, 4, 5, 44, 45] [(1, pt p3 0), (4, .int .i64 4), (5, pt p23 0), (44, .agg #[.int .u64 0, .int .i64 1, .int .u64 0, .int .i64 1, .int .u64 5, .int .i64 8, .int .u64 0, .int .i64 8]), (45, .int .i64 2)] (by kernel_rfl) rfl ?_
  refine GL.round rfl ?_
  refine G.seqK fun K74 hK75 => ?_
  refine G.region ?_
  refine GL.run (j := 1) 1 [1, 4, 5, 44, 45, 46] [(1, pt p3 0), (4, .int .i64 4), (5, pt p23 0), (44, .agg #[.int .u64 0, .int .i64 1, .int .u64 0, .int .i64 1, .int .u64 5, .int .i64 8, .int .u64 0, .int .i64 8]), (45, .int .i64 2), (46, .bool true)] (by kernel_rfl) rfl ?_
  refine GL.k rfl hK75 (fun _ _ h => h) ?_
  refine G.seqK fun K76 hK77 => ?_
  refine G.yes rfl ?_
  refine G.skipK hK77 (fun _ _ h => h) ?_
  refine G.seqK fun K78 hK79 => ?_
  refine G.block ?_
  refine G.seqK fun K80 hK81 => ?_
  refine G.region ?_
  refine GL.run (j := 2) 2 [1, 4, 5, 44, 45, 47, 48] [(1, pt p3 0), (4, .int .i64 4), (5, pt p23 0), (44, .agg #[.int .u64 0, .int .i64 1, .int .u64 0, .int .i64 1, .int .u64 5, .int .i64 8, .int .u64 0, .int .i64 8]), (45, .int .i64 2), (47, .int .i64 2), (48, .agg #[.int .u64 5, .int .i64 8])] (by kernel_rfl) rfl ?_
  obtain ⟨p82, w83, r84, H85⟩ := H71.alloc (P := Try.prog) 55 [.int .u64 0, .int .i64 0] (by kernel_rfl)
  have H85 : Hp w [] [.blk p23 [.slice A30 1 c31] 53, .row A30 1 c31 5 1 (by8 (putB 1 1)), .blk p3 [.int .u8 1, .int .u8 0, .int .u8 0, .int .u64 5, .int .u64 0, .int .u8 0, .int .u8 0, .int .u8 0, .int .u8 0, .int .u8 0, .int .u8 0, .int .u8 0, .int .u8 0, .int .u8 0, .int .u8 0, .int .u8 0, .int .u8 0, .int .u8 0, .int .u8 0, .int .u8 0, .int .u8 0, .int .u8 0, .int .u8 0, .int .u8 0, .int .u8 0, .bool false, .slice none 0 0] 28, .blk p48 [.int .u64 0, .int .i64 1] 55, .blk p65 [.int .u64 0, .int .i64 1] 55, .blk p82 [.int .u64 0, .int .i64 0] 55] w83 := H85
  refine GL.sem (j := 3) (r84) [1, 4, 5, 7, 44, 45, 47, 48] [(1, pt p3 0), (4, .int .i64 4), (5, pt p23 0), (7, pt p82 0), (44, .agg #[.int .u64 0, .int .i64 1, .int .u64 0, .int .i64 1, .int .u64 5, .int .i64 8, .int .u64 0, .int .i64 8]), (45, .int .i64 2), (47, .int .i64 2), (48, .agg #[.int .u64 5, .int .i64 8])] (by kernel_rfl) (by kernel_rfl) rfl ?_
  refine GL.run (j := 4) 1 [1, 4, 5, 6, 7, 44, 45, 48] [(1, pt p3 0), (4, .int .i64 4), (5, pt p23 0), (6, .int .i64 2), (7, pt p82 0), (44, .agg #[.int .u64 0, .int .i64 1, .int .u64 0, .int .i64 1, .int .u64 5, .int .i64 8, .int .u64 0, .int .i64 8]), (45, .int .i64 2), (48, .agg #[.int .u64 5, .int .i64 8])] (by kernel_rfl) rfl ?_
  obtain ⟨w86, r87, H88⟩ := H85.stA (P := Try.prog) (o := 0) (vs := [.int .u64 5, .int .i64 8]) (ty := 55) (m := 2) 5 rfl (by kernel_rfl) rfl (by simp) (by simp [Value.oneCell'])
  have H88 : Hp w [] [.blk p23 [.slice A30 1 c31] 53, .row A30 1 c31 5 1 (by8 (putB 1 1)), .blk p3 [.int .u8 1, .int .u8 0, .int .u8 0, .int .u64 5, .int .u64 0, .int .u8 0, .int .u8 0, .int .u8 0, .int .u8 0, .int .u8 0, .int .u8 0, .int .u8 0, .int .u8 0, .int .u8 0, .int .u8 0, .int .u8 0, .int .u8 0, .int .u8 0, .int .u8 0, .int .u8 0, .int .u8 0, .int .u8 0, .int .u8 0, .int .u8 0, .int .u8 0, .bool false, .slice none 0 0] 28, .blk p48 [.int .u64 0, .int .i64 1] 55, .blk p65 [.int .u64 0, .int .i64 1] 55, .blk p82 [.int .u64 5, .int .i64 8] 55] w86 := H88
  refine GL.semU (j := 5) r87 [1, 4, 5, 6, 7, 44, 45] [(1, pt p3 0), (4, .int .i64 4), (5, pt p23 0), (6, .int .i64 2), (7, pt p82 0), (44, .agg #[.int .u64 0, .int .i64 1, .int .u64 0, .int .i64 1, .int .u64 5, .int .i64 8, .int .u64 0, .int .i64 8]), (45, .int .i64 2)] (by kernel_rfl) rfl rfl rfl ?_
  refine GL.k rfl hK81 (fun _ _ h => h) ?_
  refine G.seqK fun K89 hK90 => ?_
  refine G.region ?_
  refine GL.run (j := 5) 5 [1, 4, 5, 7, 44, 45, 53] [(1, pt p3 0), (4, .int .i64 4), (5, pt p23 0), (7, pt p82 0), (44, .agg #[.int .u64 0, .int .i64 1, .int .u64 0, .int .i64 1, .int .u64 5, .int .i64 8, .int .u64 0, .int .i64 8]), (45, .int .i64 2), (53, .bool true)] (by kernel_rfl) rfl ?_
  refine GL.k rfl hK90 (fun _ _ h => h) ?_
  refine G.yes rfl ?_
  refine G.region ?_
  refine GL.run (j := 1) 1 [1, 4, 5, 7, 44, 45, 54] [(1, pt p3 0), (4, .int .i64 4), (5, pt p23 0), (7, pt p82 0), (44, .agg #[.int .u64 0, .int .i64 1, .int .u64 0, .int .i64 1, .int .u64 5, .int .i64 8, .int .u64 0, .int .i64 8]), (45, .int .i64 2), (54, pt p82 0)] (by kernel_rfl) rfl ?_
  refine GL.sem (j := 2) (H88.ld (o := 0) (ty := 23) (v := .int .u64 5) 5 rfl (by kernel_rfl) rfl) [1, 4, 5, 7, 44, 45, 55] [(1, pt p3 0), (4, .int .i64 4), (5, pt p23 0), (7, pt p82 0), (44, .agg #[.int .u64 0, .int .i64 1, .int .u64 0, .int .i64 1, .int .u64 5, .int .i64 8, .int .u64 0, .int .i64 8]), (45, .int .i64 2), (55, .int .u64 5)] (by kernel_rfl) (by kernel_rfl) rfl ?_
  refine GL.run (j := 3) 1 [1, 4, 5, 44, 45, 55, 56] [(1, pt p3 0), (4, .int .i64 4), (5, pt p23 0), (44, .agg #[.int .u64 0, .int .i64 1, .int .u64 0, .int .i64 1, .int .u64 5, .int .i64 8, .int .u64 0, .int .i64 8]), (45, .int .i64 2), (55, .int .u64 5), (56, pt p82 1)] (by kernel_rfl) rfl ?_
  refine GL.sem (j := 4) (H88.ld (o := 1) (ty := 3) (v := .int .i64 8) 5 rfl (by kernel_rfl) rfl) [1, 4, 5, 44, 45, 55, 57] [(1, pt p3 0), (4, .int .i64 4), (5, pt p23 0), (44, .agg #[.int .u64 0, .int .i64 1, .int .u64 0, .int .i64 1, .int .u64 5, .int .i64 8, .int .u64 0, .int .i64 8]), (45, .int .i64 2), (55, .int .u64 5), (57, .int .i64 8)] (by kernel_rfl) (by kernel_rfl) rfl ?_
  refine GL.call (j := 5) (Put8_calls (ids [.blk p23 [.slice A30 1 c31] 53, .row A30 1 c31 5 1 (by8 (putB 1 1))]) p23 A30 1 c31 (putB 1 1) 5 w86 (Hp.startL (A := [.blk p23 [.slice A30 1 c31] 53, .row A30 1 c31 5 1 (by8 (putB 1 1))]) (B := [.blk p3 [.int .u8 1, .int .u8 0, .int .u8 0, .int .u64 5, .int .u64 0, .int .u8 0, .int .u8 0, .int .u8 0, .int .u8 0, .int .u8 0, .int .u8 0, .int .u8 0, .int .u8 0, .int .u8 0, .int .u8 0, .int .u8 0, .int .u8 0, .int .u8 0, .int .u8 0, .int .u8 0, .int .u8 0, .int .u8 0, .int .u8 0, .int .u8 0, .int .u8 0, .bool false, .slice none 0 0] 28, .blk p48 [.int .u64 0, .int .i64 1] 55, .blk p65 [.int .u64 0, .int .i64 1] 55, .blk p82 [.int .u64 5, .int .i64 8] 55]) H88) (by omega)) (by kernel_rfl) rfl (fun e_ w93 hR => ?_)
  obtain ⟨A91, c92, rfl, H95⟩ := hR
  have H94 : Hp w [] [.blk p23 [.slice A91 9 c92] 53, .row A91 9 c92 5 1 (by8 ((putB 1 1) ++ (putB 5 8))), .blk p3 [.int .u8 1, .int .u8 0, .int .u8 0, .int .u64 5, .int .u64 0, .int .u8 0, .int .u8 0, .int .u8 0, .int .u8 0, .int .u8 0, .int .u8 0, .int .u8 0, .int .u8 0, .int .u8 0, .int .u8 0, .int .u8 0, .int .u8 0, .int .u8 0, .int .u8 0, .int .u8 0, .int .u8 0, .int .u8 0, .int .u8 0, .int .u8 0, .int .u8 0, .bool false, .slice none 0 0] 28, .blk p48 [.int .u64 0, .int .i64 1] 55, .blk p65 [.int .u64 0, .int .i64 1] 55, .blk p82 [.int .u64 5, .int .i64 8] 55] w93 := Hp.callL (A := [.blk p23 [.slice A30 1 c31] 53, .row A30 1 c31 5 1 (by8 (putB 1 1))]) (B := [.blk p3 [.int .u8 1, .int .u8 0, .int .u8 0, .int .u64 5, .int .u64 0, .int .u8 0, .int .u8 0, .int .u8 0, .int .u8 0, .int .u8 0, .int .u8 0, .int .u8 0, .int .u8 0, .int .u8 0, .int .u8 0, .int .u8 0, .int .u8 0, .int .u8 0, .int .u8 0, .int .u8 0, .int .u8 0, .int .u8 0, .int .u8 0, .int .u8 0, .int .u8 0, .bool false, .slice none 0 0] 28, .blk p48 [.int .u64 0, .int .i64 1] 55, .blk p65 [.int .u64 0, .int .i64 1] 55, .blk p82 [.int .u64 5, .int .i64 8] 55]) H88 H95
  refine ⟨_, rfl, [1, 4, 5, 44, 45], [(1, pt p3 0), (4, .int .i64 4), (5, pt p23 0), (44, .agg #[.int .u64 0, .int .i64 1, .int .u64 0, .int .i64 1, .int .u64 5, .int .i64 8, .int .u64 0, .int .i64 8]), (45, .int .i64 2)], by kernel_rfl, ?_⟩
  refine GL.k rfl hK79 (fun _ _ h => h) ?_
  refine G.region ?_
  refine GL.run (j := 2) 2 [1, 4, 5, 44, 45] [(1, pt p3 0), (4, .int .i64 4), (5, pt p23 0), (44, .agg #[.int .u64 0, .int .i64 1, .int .u64 0, .int .i64 1, .int .u64 5, .int .i64 8, .int .u64 0, .int .i64 8]), (45, .int .i64 3)] (by kernel_rfl) rfl ?_
  refine GL.round rfl ?_
  refine G.seqK fun K96 hK97 => ?_
  refine G.region ?_
  refine GL.run (j := 1) 1 [1, 4, 5, 44, 45, 46] [(1, pt p3 0), (4, .int .i64 4), (5, pt p23 0), (44, .agg #[.int .u64 0, .int .i64 1, .int .u64 0, .int .i64 1, .int .u64 5, .int .i64 8, .int .u64 0, .int .i64 8]), (45, .int .i64 3), (46, .bool true)] (by kernel_rfl) rfl ?_
  refine GL.k rfl hK97 (fun _ _ h => h) ?_
  refine G.seqK fun K98 hK99 => ?_
  refine G.yes rfl ?_
  refine G.skipK hK99 (fun _ _ h => h) ?_
  refine G.seqK fun K100 hK101 => ?_
  refine G.block ?_
  refine G.seqK fun K102 hK103 => ?_
  refine G.region ?_
  refine GL.run (j := 2) 2 [1, 4, 5, 44, 45, 47, 48] [(1, pt p3 0), (4, .int .i64 4), (5, pt p23 0), (44, .agg #[.int .u64 0, .int .i64 1, .int .u64 0, .int .i64 1, .int .u64 5, .int .i64 8, .int .u64 0, .int .i64 8]), (45, .int .i64 3), (47, .int .i64 3), (48, .agg #[.int .u64 0, .int .i64 8])] (by kernel_rfl) rfl ?_
  obtain ⟨p104, w105, r106, H107⟩ := H94.alloc (P := Try.prog) 55 [.int .u64 0, .int .i64 0] (by kernel_rfl)
  have H107 : Hp w [] [.blk p23 [.slice A91 9 c92] 53, .row A91 9 c92 5 1 (by8 ((putB 1 1) ++ (putB 5 8))), .blk p3 [.int .u8 1, .int .u8 0, .int .u8 0, .int .u64 5, .int .u64 0, .int .u8 0, .int .u8 0, .int .u8 0, .int .u8 0, .int .u8 0, .int .u8 0, .int .u8 0, .int .u8 0, .int .u8 0, .int .u8 0, .int .u8 0, .int .u8 0, .int .u8 0, .int .u8 0, .int .u8 0, .int .u8 0, .int .u8 0, .int .u8 0, .int .u8 0, .int .u8 0, .bool false, .slice none 0 0] 28, .blk p48 [.int .u64 0, .int .i64 1] 55, .blk p65 [.int .u64 0, .int .i64 1] 55, .blk p82 [.int .u64 5, .int .i64 8] 55, .blk p104 [.int .u64 0, .int .i64 0] 55] w105 := H107
  refine GL.sem (j := 3) (r106) [1, 4, 5, 7, 44, 45, 47, 48] [(1, pt p3 0), (4, .int .i64 4), (5, pt p23 0), (7, pt p104 0), (44, .agg #[.int .u64 0, .int .i64 1, .int .u64 0, .int .i64 1, .int .u64 5, .int .i64 8, .int .u64 0, .int .i64 8]), (45, .int .i64 3), (47, .int .i64 3), (48, .agg #[.int .u64 0, .int .i64 8])] (by kernel_rfl) (by kernel_rfl) rfl ?_
  refine GL.run (j := 4) 1 [1, 4, 5, 6, 7, 44, 45, 48] [(1, pt p3 0), (4, .int .i64 4), (5, pt p23 0), (6, .int .i64 3), (7, pt p104 0), (44, .agg #[.int .u64 0, .int .i64 1, .int .u64 0, .int .i64 1, .int .u64 5, .int .i64 8, .int .u64 0, .int .i64 8]), (45, .int .i64 3), (48, .agg #[.int .u64 0, .int .i64 8])] (by kernel_rfl) rfl ?_
  obtain ⟨w108, r109, H110⟩ := H107.stA (P := Try.prog) (o := 0) (vs := [.int .u64 0, .int .i64 8]) (ty := 55) (m := 2) 6 rfl (by kernel_rfl) rfl (by simp) (by simp [Value.oneCell'])
  have H110 : Hp w [] [.blk p23 [.slice A91 9 c92] 53, .row A91 9 c92 5 1 (by8 ((putB 1 1) ++ (putB 5 8))), .blk p3 [.int .u8 1, .int .u8 0, .int .u8 0, .int .u64 5, .int .u64 0, .int .u8 0, .int .u8 0, .int .u8 0, .int .u8 0, .int .u8 0, .int .u8 0, .int .u8 0, .int .u8 0, .int .u8 0, .int .u8 0, .int .u8 0, .int .u8 0, .int .u8 0, .int .u8 0, .int .u8 0, .int .u8 0, .int .u8 0, .int .u8 0, .int .u8 0, .int .u8 0, .bool false, .slice none 0 0] 28, .blk p48 [.int .u64 0, .int .i64 1] 55, .blk p65 [.int .u64 0, .int .i64 1] 55, .blk p82 [.int .u64 5, .int .i64 8] 55, .blk p104 [.int .u64 0, .int .i64 8] 55] w108 := H110
  refine GL.semU (j := 5) r109 [1, 4, 5, 6, 7, 44, 45] [(1, pt p3 0), (4, .int .i64 4), (5, pt p23 0), (6, .int .i64 3), (7, pt p104 0), (44, .agg #[.int .u64 0, .int .i64 1, .int .u64 0, .int .i64 1, .int .u64 5, .int .i64 8, .int .u64 0, .int .i64 8]), (45, .int .i64 3)] (by kernel_rfl) rfl rfl rfl ?_
  refine GL.k rfl hK103 (fun _ _ h => h) ?_
  refine G.seqK fun K111 hK112 => ?_
  refine G.region ?_
  refine GL.run (j := 5) 5 [1, 4, 5, 7, 44, 45, 53] [(1, pt p3 0), (4, .int .i64 4), (5, pt p23 0), (7, pt p104 0), (44, .agg #[.int .u64 0, .int .i64 1, .int .u64 0, .int .i64 1, .int .u64 5, .int .i64 8, .int .u64 0, .int .i64 8]), (45, .int .i64 3), (53, .bool false)] (by kernel_rfl) rfl ?_
  refine GL.k rfl hK112 (fun _ _ h => h) ?_
  refine G.no rfl ?_
  refine G.skipK hK101 (fun _ _ h => h) ?_
  refine G.region ?_
  refine GL.run (j := 2) 2 [1, 4, 5, 44, 45] [(1, pt p3 0), (4, .int .i64 4), (5, pt p23 0), (44, .agg #[.int .u64 0, .int .i64 1, .int .u64 0, .int .i64 1, .int .u64 5, .int .i64 8, .int .u64 0, .int .i64 8]), (45, .int .i64 4)] (by kernel_rfl) rfl ?_
  refine GL.round rfl ?_
  refine G.seqK fun K113 hK114 => ?_
  refine G.region ?_
  refine GL.run (j := 1) 1 [1, 4, 5, 44, 45, 46] [(1, pt p3 0), (4, .int .i64 4), (5, pt p23 0), (44, .agg #[.int .u64 0, .int .i64 1, .int .u64 0, .int .i64 1, .int .u64 5, .int .i64 8, .int .u64 0, .int .i64 8]), (45, .int .i64 4), (46, .bool false)] (by kernel_rfl) rfl ?_
  refine GL.k rfl hK114 (fun _ _ h => h) ?_
  refine G.seqK fun K115 hK116 => ?_
  refine G.no rfl ?_
  refine G.exitK hK37 (fun _ _ h => h) ?_
  refine G.seqK fun K117 hK118 => ?_
  refine G.seqK fun K119 hK120 => ?_
  refine G.region ?_
  refine GL.run (j := 3) 3 [1, 4, 5, 62] [(1, pt p3 0), (4, .int .i64 4), (5, pt p23 0), (62, .bool false)] (by kernel_rfl) rfl ?_
  refine GL.k rfl hK120 (fun _ _ h => h) ?_
  refine G.no rfl ?_
  refine G.skipK hK118 (fun _ _ h => h) ?_
  refine G.seqK fun K121 hK122 => ?_
  refine G.seqK fun K123 hK124 => ?_
  refine G.region ?_
  refine GL.run (j := 3) 3 [1, 4, 5, 68] [(1, pt p3 0), (4, .int .i64 4), (5, pt p23 0), (68, .bool false)] (by kernel_rfl) rfl ?_
  refine GL.k rfl hK124 (fun _ _ h => h) ?_
  refine G.no rfl ?_
  refine G.skipK hK122 (fun _ _ h => h) ?_
  refine G.seqK fun K125 hK126 => ?_
  refine G.seqK fun K127 hK128 => ?_
  refine G.region ?_
  refine GL.run (j := 3) 3 [1, 5, 75] [(1, pt p3 0), (5, pt p23 0), (75, .bool false)] (by kernel_rfl) rfl ?_
  refine GL.k rfl hK128 (fun _ _ h => h) ?_
  refine G.no rfl ?_
  refine G.skipK hK126 (fun _ _ h => h) ?_
  refine G.seqK fun K129 hK130 => ?_
  refine G.region ?_
  refine GL.call (j := 1) (WBytes_calls (ids [.blk p23 [.slice A91 9 c92] 53, .row A91 9 c92 5 1 (by8 ((putB 1 1) ++ (putB 5 8)))]) p23 A91 9 c92 ((putB 1 1) ++ (putB 5 8)) w108 (Hp.startL (A := [.blk p23 [.slice A91 9 c92] 53, .row A91 9 c92 5 1 (by8 ((putB 1 1) ++ (putB 5 8)))]) (B := [.blk p3 [.int .u8 1, .int .u8 0, .int .u8 0, .int .u64 5, .int .u64 0, .int .u8 0, .int .u8 0, .int .u8 0, .int .u8 0, .int .u8 0, .int .u8 0, .int .u8 0, .int .u8 0, .int .u8 0, .int .u8 0, .int .u8 0, .int .u8 0, .int .u8 0, .int .u8 0, .int .u8 0, .int .u8 0, .int .u8 0, .int .u8 0, .int .u8 0, .int .u8 0, .bool false, .slice none 0 0] 28, .blk p48 [.int .u64 0, .int .i64 1] 55, .blk p65 [.int .u64 0, .int .i64 1] 55, .blk p82 [.int .u64 5, .int .i64 8] 55, .blk p104 [.int .u64 0, .int .i64 8] 55]) H110) (by omega)) (by kernel_rfl) rfl (fun e_ w133 hR => ?_)
  obtain ⟨A131, c132, rfl, H135⟩ := hR
  have H134 : Hp w [] [.blk p23 [.slice A91 9 c92] 53, .row A91 9 c92 5 1 (by8 ((putB 1 1) ++ (putB 5 8))), .row A131 9 c132 5 1 (by8 ((putB 1 1) ++ (putB 5 8))), .blk p3 [.int .u8 1, .int .u8 0, .int .u8 0, .int .u64 5, .int .u64 0, .int .u8 0, .int .u8 0, .int .u8 0, .int .u8 0, .int .u8 0, .int .u8 0, .int .u8 0, .int .u8 0, .int .u8 0, .int .u8 0, .int .u8 0, .int .u8 0, .int .u8 0, .int .u8 0, .int .u8 0, .int .u8 0, .int .u8 0, .int .u8 0, .int .u8 0, .int .u8 0, .bool false, .slice none 0 0] 28, .blk p48 [.int .u64 0, .int .i64 1] 55, .blk p65 [.int .u64 0, .int .i64 1] 55, .blk p82 [.int .u64 5, .int .i64 8] 55, .blk p104 [.int .u64 0, .int .i64 8] 55] w133 := Hp.callL (A := [.blk p23 [.slice A91 9 c92] 53, .row A91 9 c92 5 1 (by8 ((putB 1 1) ++ (putB 5 8)))]) (B := [.blk p3 [.int .u8 1, .int .u8 0, .int .u8 0, .int .u64 5, .int .u64 0, .int .u8 0, .int .u8 0, .int .u8 0, .int .u8 0, .int .u8 0, .int .u8 0, .int .u8 0, .int .u8 0, .int .u8 0, .int .u8 0, .int .u8 0, .int .u8 0, .int .u8 0, .int .u8 0, .int .u8 0, .int .u8 0, .int .u8 0, .int .u8 0, .int .u8 0, .int .u8 0, .bool false, .slice none 0 0] 28, .blk p48 [.int .u64 0, .int .i64 1] 55, .blk p65 [.int .u64 0, .int .i64 1] 55, .blk p82 [.int .u64 5, .int .i64 8] 55, .blk p104 [.int .u64 0, .int .i64 8] 55]) H110 H135
  refine ⟨_, rfl, [79], [(79, .slice A131 9 c132)], by kernel_rfl, ?_⟩
  refine GL.run (j := 3) 2 [2, 3] [(2, .slice A131 9 c132), (3, .int .i64 0)] (by kernel_rfl) rfl ?_
  refine GL.k rfl hK130 (fun _ _ h => h) ?_
  refine G.ret ?_
  intro F_ hF_ hM_
  refine hRet _ _ (bodyPost_2 rfl (RV.tmp rfl) (RV.tmp rfl) ?_ F_ hF_ hM_)
  have H136 : Hp w [] [.row A131 9 c132 5 1 (by8 ((putB 1 1) ++ (putB 5 8)))] w133 := H134.sub (List.Sublist.cons _ (List.Sublist.cons _ (List.Sublist.cons_cons _ (List.Sublist.cons _ (List.Sublist.cons _ (List.Sublist.cons _ (List.Sublist.cons _ (List.Sublist.cons _ (List.Sublist.slnil)))))))))
  exact ⟨_, _, rfl, H136⟩
theorem lives_calls (w : World) : Calls Try.prog 7 #[] w fun e w' => e = .returned (.bool true) ∧ Hp w [] [] w' := by
  refine calls_G (args := []) Try.func7 rfl Try.ntmps7 rfl ?_
  intro Q0 hRet hNor hPan
  have H := Hp.start w
  have H : Hp w [] [] w := H
  refine G.seqK fun K1 hK2 => ?_
  refine G.region ?_
  refine GL.run (j := 1) 1 [] [] (by kernel_rfl) rfl ?_
  refine GL.k rfl hK2 (fun _ _ h => h) ?_
  refine G.seqK fun K3 hK4 => ?_
  refine G.region ?_
  refine GL.run (j := 1) 1 [4] [(4, .agg #[.int .u8 1, .int .u8 0, .int .u8 0, .int .u64 5, .int .u64 0, .int .u8 0, .int .u8 0, .int .u8 0, .int .u8 0, .int .u8 0, .int .u8 0, .int .u8 0, .int .u8 0, .int .u8 0, .int .u8 0, .int .u8 0, .int .u8 0, .int .u8 0, .int .u8 0, .int .u8 0, .int .u8 0, .int .u8 0, .int .u8 0, .int .u8 0, .int .u8 0, .bool false, .slice none 0 0])] (by kernel_rfl) rfl ?_
  refine GL.call (j := 2) (Bytes_ex w) (by kernel_rfl) rfl (fun e_ w9 hR => ?_)
  obtain ⟨A5, c6, rfl, H8⟩ := hR
  have H7 : Hp w [] [.row A5 9 c6 5 1 (by8 (putB 1 1 ++ putB 5 8))] w9 := H.callNew H8
  refine ⟨_, rfl, [5], [(5, .tuple #[.slice A5 9 c6, .int .i64 0])], by kernel_rfl, ?_⟩
  refine GL.run (j := 7) 5 [1, 2] [(1, .slice A5 9 c6), (2, .int .i64 0)] (by kernel_rfl) rfl ?_
  refine GL.k rfl hK4 (fun _ _ h => h) ?_
  refine G.seqK fun K10 hK11 => ?_
  refine G.region ?_
  refine GL.run (j := 4) 4 [10, 11] [(10, .bool true), (11, .slice A5 9 c6)] (by kernel_rfl) rfl ?_
  refine GL.sem (j := 5) (run_toStr (P := Try.prog) (src := 26) (dst := 9) (A := A5) (bs := (putB 1 1 ++ putB 5 8)) (n := 9) (c := c6) (by kernel_rfl) (by kernel_rfl) (H7.rdRow 0 rfl) (by first | rfl | omega | (simp only [List.length_cons, List.length_nil, List.length_drop, List.length_take, List.length_append] <;> omega))) [10, 12] [(10, .bool true), (12, .string (strOf (putB 1 1 ++ putB 5 8)))] (by kernel_rfl) (by kernel_rfl) rfl ?_
  refine GL.sem (j := 6) (run_str_eql (P := Try.prog) (t := 9) (putB 1 1 ++ putB 5 8) ([1, 5, 0, 0, 0, 0, 0, 0, 0] : List UInt8) _) [10, 13] [(10, .bool true), (13, .bool ((putB 1 1 ++ putB 5 8) == ([1, 5, 0, 0, 0, 0, 0, 0, 0] : List UInt8)))] (by kernel_rfl) (by kernel_rfl) rfl ?_
  refine GL.run (j := 8) 2 [0] [(0, .bool ((putB 1 1 ++ putB 5 8) == ([1, 5, 0, 0, 0, 0, 0, 0, 0] : List UInt8)))] (by kernel_rfl) rfl ?_
  refine GL.k rfl hK11 (fun _ _ h => h) ?_
  refine G.ret ?_
  intro F_ hF_ hM_
  refine hRet _ _ (bodyPost_1 rfl (RV.tmp rfl) ?_ F_ hF_ hM_)
  have hb12 : ((putB 1 1 ++ putB 5 8) == ([1, 5, 0, 0, 0, 0, 0, 0, 0] : List UInt8)) = true := by decide +kernel
  rw [hb12]
  exact ⟨rfl, H7.sub (List.nil_sublist _)⟩
end Go.Proofs.Ytkfhcogdpmndkaa
