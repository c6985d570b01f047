/- Wide numbers as bytes. -/
import Derived.Test.YtpfdpikblijddaaWideD
import Derived.Test.YtpfdpikblijddaaWe
namespace Go.Proofs.Ytpfdpikblijddaa
open Go.RowKit
set_option maxHeartbeats 4000000 in
theorem Bytes_calls (x : Nat) (w : World) : Calls Try.prog 17 #[wv x] w fun e w' => e = .returned (.agg #[.int .u8 ((bt x 0 : Nat) : Int), .int .u8 ((bt x 1 : Nat) : Int), .int .u8 ((bt x 2 : Nat) : Int), .int .u8 ((bt x 3 : Nat) : Int), .int .u8 ((bt x 4 : Nat) : Int), .int .u8 ((bt x 5 : Nat) : Int), .int .u8 ((bt x 6 : Nat) : Int), .int .u8 ((bt x 7 : Nat) : Int), .int .u8 ((bt x 8 : Nat) : Int), .int .u8 ((bt x 9 : Nat) : Int), .int .u8 ((bt x 10 : Nat) : Int), .int .u8 ((bt x 11 : Nat) : Int), .int .u8 ((bt x 12 : Nat) : Int), .int .u8 ((bt x 13 : Nat) : Int), .int .u8 ((bt x 14 : Nat) : Int), .int .u8 ((bt x 15 : Nat) : Int), .int .u8 ((bt x 16 : Nat) : Int), .int .u8 ((bt x 17 : Nat) : Int), .int .u8 ((bt x 18 : Nat) : Int), .int .u8 ((bt x 19 : Nat) : Int), .int .u8 ((bt x 20 : Nat) : Int), .int .u8 ((bt x 21 : Nat) : Int), .int .u8 ((bt x 22 : Nat) : Int), .int .u8 ((bt x 23 : Nat) : Int), .int .u8 ((bt x 24 : Nat) : Int), .int .u8 ((bt x 25 : Nat) : Int), .int .u8 ((bt x 26 : Nat) : Int), .int .u8 ((bt x 27 : Nat) : Int), .int .u8 ((bt x 28 : Nat) : Int), .int .u8 ((bt x 29 : Nat) : Int), .int .u8 ((bt x 30 : Nat) : Int), .int .u8 ((bt x 31 : Nat) : Int)]) ∧ Hp w [] [] w' := by
  refine calls_G (args := [wv x]) Try.func17 rfl Try.ntmps17 rfl ?_
  intro Q0 hRet hNor hPan
  have H := Hp.start w
  have H : Hp w [] [] w := H
  refine G.seqK fun K1 hK2 => ?_
  refine G.region ?_
  obtain ⟨p3, w4, r5, H6⟩ := H.box (P := Try.prog) 24 (wl x) (wv x) rfl
  have H6 : Hp w [] [.blk p3 (wl x) 24] w4 := H6
  refine GL.sem (j := 1) (r5) [1] [(1, pt p3 0)] (by kernel_rfl) (by kernel_rfl) rfl ?_
  obtain ⟨p7, w8, r9, H10⟩ := H6.alloc (P := Try.prog) 41 [.int .u8 0, .int .u8 0, .int .u8 0, .int .u8 0, .int .u8 0, .int .u8 0, .int .u8 0, .int .u8 0, .int .u8 0, .int .u8 0, .int .u8 0, .int .u8 0, .int .u8 0, .int .u8 0, .int .u8 0, .int .u8 0, .int .u8 0, .int .u8 0, .int .u8 0, .int .u8 0, .int .u8 0, .int .u8 0, .int .u8 0, .int .u8 0, .int .u8 0, .int .u8 0, .int .u8 0, .int .u8 0, .int .u8 0, .int .u8 0, .int .u8 0, .int .u8 0] (by kernel_rfl)
  have H10 : Hp w [] [.blk p3 (wl x) 24, .blk p7 [.int .u8 0, .int .u8 0, .int .u8 0, .int .u8 0, .int .u8 0, .int .u8 0, .int .u8 0, .int .u8 0, .int .u8 0, .int .u8 0, .int .u8 0, .int .u8 0, .int .u8 0, .int .u8 0, .int .u8 0, .int .u8 0, .int .u8 0, .int .u8 0, .int .u8 0, .int .u8 0, .int .u8 0, .int .u8 0, .int .u8 0, .int .u8 0, .int .u8 0, .int .u8 0, .int .u8 0, .int .u8 0, .int .u8 0, .int .u8 0, .int .u8 0, .int .u8 0] 41] w8 := H10
  refine GL.sem (j := 2) (r9) [1, 2] [(1, pt p3 0), (2, pt p7 0)] (by kernel_rfl) (by kernel_rfl) rfl ?_
  refine GL.k rfl hK2 (fun _ _ h => h) ?_
  refine G.seqK fun K11 hK12 => ?_
  refine G.region ?_
  obtain ⟨p13, w14, r15, H16⟩ := H10.alloc (P := Try.prog) 41 [.int .u8 0, .int .u8 0, .int .u8 0, .int .u8 0, .int .u8 0, .int .u8 0, .int .u8 0, .int .u8 0, .int .u8 0, .int .u8 0, .int .u8 0, .int .u8 0, .int .u8 0, .int .u8 0, .int .u8 0, .int .u8 0, .int .u8 0, .int .u8 0, .int .u8 0, .int .u8 0, .int .u8 0, .int .u8 0, .int .u8 0, .int .u8 0, .int .u8 0, .int .u8 0, .int .u8 0, .int .u8 0, .int .u8 0, .int .u8 0, .int .u8 0, .int .u8 0] (by kernel_rfl)
  have H16 : Hp w [] [.blk p3 (wl x) 24, .blk p7 [.int .u8 0, .int .u8 0, .int .u8 0, .int .u8 0, .int .u8 0, .int .u8 0, .int .u8 0, .int .u8 0, .int .u8 0, .int .u8 0, .int .u8 0, .int .u8 0, .int .u8 0, .int .u8 0, .int .u8 0, .int .u8 0, .int .u8 0, .int .u8 0, .int .u8 0, .int .u8 0, .int .u8 0, .int .u8 0, .int .u8 0, .int .u8 0, .int .u8 0, .int .u8 0, .int .u8 0, .int .u8 0, .int .u8 0, .int .u8 0, .int .u8 0, .int .u8 0] 41, .blk p13 [.int .u8 0, .int .u8 0, .int .u8 0, .int .u8 0, .int .u8 0, .int .u8 0, .int .u8 0, .int .u8 0, .int .u8 0, .int .u8 0, .int .u8 0, .int .u8 0, .int .u8 0, .int .u8 0, .int .u8 0, .int .u8 0, .int .u8 0, .int .u8 0, .int .u8 0, .int .u8 0, .int .u8 0, .int .u8 0, .int .u8 0, .int .u8 0, .int .u8 0, .int .u8 0, .int .u8 0, .int .u8 0, .int .u8 0, .int .u8 0, .int .u8 0, .int .u8 0] 41] w14 := H16
  refine GL.sem (j := 1) (r15) [1, 2, 3] [(1, pt p3 0), (2, pt p7 0), (3, pt p13 0)] (by kernel_rfl) (by kernel_rfl) rfl ?_
  refine GL.k rfl hK12 (fun _ _ h => h) ?_
  refine G.seqK fun K17 hK18 => ?_
  refine G.seqK fun K19 hK20 => ?_
  refine G.region ?_
  refine GL.run (j := 1) 1 [1, 2, 3, 5] [(1, pt p3 0), (2, pt p7 0), (3, pt p13 0), (5, .int .i64 0)] (by kernel_rfl) rfl ?_
  refine GL.k rfl hK20 (fun _ _ h => h) ?_
  refine G.block ?_
  refine G.unroll 32 ?_
  refine G.seqK fun K21 hK22 => ?_
  refine G.region ?_
  refine GL.run (j := 1) 1 [1, 2, 3, 5, 6] [(1, pt p3 0), (2, pt p7 0), (3, pt p13 0), (5, .int .i64 0), (6, .bool true)] (by kernel_rfl) rfl ?_
  refine GL.k rfl hK22 (fun _ _ h => h) ?_
  refine G.seqK fun K23 hK24 => ?_
  refine G.yes rfl ?_
  refine G.skipK hK24 (fun _ _ h => h) ?_
  refine G.seqK fun K25 hK26 => ?_
  refine G.block ?_
  refine G.seqK fun K27 hK28 => ?_
  refine G.region ?_
  refine GL.run (j := 2) 2 [1, 2, 3, 4, 5] [(1, pt p3 0), (2, pt p7 0), (3, pt p13 0), (4, .int .i64 0), (5, .int .i64 0)] (by kernel_rfl) rfl ?_
  refine GL.k rfl hK28 (fun _ _ h => h) ?_
  refine G.region ?_
  refine GL.run (j := 4) 4 [1, 2, 3, 4, 5, 8, 11] [(1, pt p3 0), (2, pt p7 0), (3, pt p13 0), (4, .int .i64 0), (5, .int .i64 0), (8, .int .i64 0), (11, pt p3 0)] (by kernel_rfl) rfl ?_
  refine GL.sem (j := 5) (H16.ld (o := 0) (ty := 22) (v := .int .u64 (wd x 0 : Int)) 0 rfl (by kernel_rfl) rfl) [1, 2, 3, 4, 5, 8, 12] [(1, pt p3 0), (2, pt p7 0), (3, pt p13 0), (4, .int .i64 0), (5, .int .i64 0), (8, .int .i64 0), (12, .int .u64 (wd x 0 : Int))] (by kernel_rfl) (by kernel_rfl) rfl ?_
  refine GL.run (j := 11) 6 [1, 2, 3, 5, 17, 18] [(1, pt p3 0), (2, pt p7 0), (3, pt p13 0), (5, .int .i64 0), (17, .int .u8 (IntKind.u8.wrap (Int.fdiv (wd x 0 : Int) (2 ^ 0)))), (18, pt p13 0)] (by kernel_rfl) rfl ?_
  have e29 : (Int.fdiv (wd x 0 : Int) (2 ^ 0)) = (((wd x 0) / 2 ^ 0 : Nat) : Int) := n_shr _ 0
  have e30 : (IntKind.u8.wrap (((wd x 0) / 2 ^ 0 : Nat) : Int)) = ((bt x 0 : Nat) : Int) := (n_u8 _).trans (congrArg _ (bt_wd x (j := 0) (k := 0) (by decide) (by decide)))
  refine GL.eq (M' := [(1, pt p3 0), (2, pt p7 0), (3, pt p13 0), (5, .int .i64 0), (17, .int .u8 ((bt x 0 : Nat) : Int)), (18, pt p13 0)]) (by rw [e29, e30]) ?_
  clear e29 e30
  obtain ⟨w31, r32, H33⟩ := H16.st (P := Try.prog) (o := 0) (ty := 5) (v := .int .u8 ((bt x 0 : Nat) : Int)) 2 rfl (by kernel_rfl) (by simp) rfl
  have H33 : Hp w [] [.blk p3 (wl x) 24, .blk p7 [.int .u8 0, .int .u8 0, .int .u8 0, .int .u8 0, .int .u8 0, .int .u8 0, .int .u8 0, .int .u8 0, .int .u8 0, .int .u8 0, .int .u8 0, .int .u8 0, .int .u8 0, .int .u8 0, .int .u8 0, .int .u8 0, .int .u8 0, .int .u8 0, .int .u8 0, .int .u8 0, .int .u8 0, .int .u8 0, .int .u8 0, .int .u8 0, .int .u8 0, .int .u8 0, .int .u8 0, .int .u8 0, .int .u8 0, .int .u8 0, .int .u8 0, .int .u8 0] 41, .blk p13 [.int .u8 ((bt x 0 : Nat) : Int), .int .u8 0, .int .u8 0, .int .u8 0, .int .u8 0, .int .u8 0, .int .u8 0, .int .u8 0, .int .u8 0, .int .u8 0, .int .u8 0, .int .u8 0, .int .u8 0, .int .u8 0, .int .u8 0, .int .u8 0, .int .u8 0, .int .u8 0, .int .u8 0, .int .u8 0, .int .u8 0, .int .u8 0, .int .u8 0, .int .u8 0, .int .u8 0, .int .u8 0, .int .u8 0, .int .u8 0, .int .u8 0, .int .u8 0, .int .u8 0, .int .u8 0] 41] w31 := H33
  refine GL.semU (j := 12) r32 [1, 2, 3, 5] [(1, pt p3 0), (2, pt p7 0), (3, pt p13 0), (5, .int .i64 0)] (by kernel_rfl) rfl rfl rfl ?_
  refine GL.k rfl hK26 (fun _ _ h => h) ?_
  refine G.region ?_
  refine GL.run (j := 2) 2 [1, 2, 3, 5] [(1, pt p3 0), (2, pt p7 0), (3, pt p13 0), (5, .int .i64 1)] (by kernel_rfl) rfl ?_
  refine GL.round rfl ?_
  refine G.seqK fun K34 hK35 => ?_
  refine G.region ?_
  refine GL.run (j := 1) 1 [1, 2, 3, 5, 6] [(1, pt p3 0), (2, pt p7 0), (3, pt p13 0), (5, .int .i64 1), (6, .bool true)] (by kernel_rfl) rfl ?_
  refine GL.k rfl hK35 (fun _ _ h => h) ?_
  refine G.seqK fun K36 hK37 => ?_
  refine G.yes rfl ?_
  refine G.skipK hK37 (fun _ _ h => h) ?_
  refine G.seqK fun K38 hK39 => ?_
  refine G.block ?_
  refine G.seqK fun K40 hK41 => ?_
  refine G.region ?_
  refine GL.run (j := 2) 2 [1, 2, 3, 4, 5] [(1, pt p3 0), (2, pt p7 0), (3, pt p13 0), (4, .int .i64 1), (5, .int .i64 1)] (by kernel_rfl) rfl ?_
  refine GL.k rfl hK41 (fun _ _ h => h) ?_
  refine G.region ?_
  refine GL.run (j := 4) 4 [1, 2, 3, 4, 5, 8, 11] [(1, pt p3 0), (2, pt p7 0), (3, pt p13 0), (4, .int .i64 1), (5, .int .i64 1), (8, .int .i64 1), (11, pt p3 0)] (by kernel_rfl) rfl ?_
  refine GL.sem (j := 5) (H33.ld (o := 0) (ty := 22) (v := .int .u64 (wd x 0 : Int)) 0 rfl (by kernel_rfl) rfl) [1, 2, 3, 4, 5, 8, 12] [(1, pt p3 0), (2, pt p7 0), (3, pt p13 0), (4, .int .i64 1), (5, .int .i64 1), (8, .int .i64 1), (12, .int .u64 (wd x 0 : Int))] (by kernel_rfl) (by kernel_rfl) rfl ?_
  refine GL.run (j := 11) 6 [1, 2, 3, 5, 17, 18] [(1, pt p3 0), (2, pt p7 0), (3, pt p13 0), (5, .int .i64 1), (17, .int .u8 (IntKind.u8.wrap (Int.fdiv (wd x 0 : Int) (2 ^ 8)))), (18, pt p13 1)] (by kernel_rfl) rfl ?_
  have e42 : (Int.fdiv (wd x 0 : Int) (2 ^ 8)) = (((wd x 0) / 2 ^ 8 : Nat) : Int) := n_shr _ 8
  have e43 : (IntKind.u8.wrap (((wd x 0) / 2 ^ 8 : Nat) : Int)) = ((bt x 1 : Nat) : Int) := (n_u8 _).trans (congrArg _ (bt_wd x (j := 0) (k := 1) (by decide) (by decide)))
  refine GL.eq (M' := [(1, pt p3 0), (2, pt p7 0), (3, pt p13 0), (5, .int .i64 1), (17, .int .u8 ((bt x 1 : Nat) : Int)), (18, pt p13 1)]) (by rw [e42, e43]) ?_
  clear e42 e43
  obtain ⟨w44, r45, H46⟩ := H33.st (P := Try.prog) (o := 1) (ty := 5) (v := .int .u8 ((bt x 1 : Nat) : Int)) 2 rfl (by kernel_rfl) (by simp) rfl
  have H46 : Hp w [] [.blk p3 (wl x) 24, .blk p7 [.int .u8 0, .int .u8 0, .int .u8 0, .int .u8 0, .int .u8 0, .int .u8 0, .int .u8 0, .int .u8 0, .int .u8 0, .int .u8 0, .int .u8 0, .int .u8 0, .int .u8 0, .int .u8 0, .int .u8 0, .int .u8 0, .int .u8 0, .int .u8 0, .int .u8 0, .int .u8 0, .int .u8 0, .int .u8 0, .int .u8 0, .int .u8 0, .int .u8 0, .int .u8 0, .int .u8 0, .int .u8 0, .int .u8 0, .int .u8 0, .int .u8 0, .int .u8 0] 41, .blk p13 [.int .u8 ((bt x 0 : Nat) : Int), .int .u8 ((bt x 1 : Nat) : Int), .int .u8 0, .int .u8 0, .int .u8 0, .int .u8 0, .int .u8 0, .int .u8 0, .int .u8 0, .int .u8 0, .int .u8 0, .int .u8 0, .int .u8 0, .int .u8 0, .int .u8 0, .int .u8 0, .int .u8 0, .int .u8 0, .int .u8 0, .int .u8 0, .int .u8 0, .int .u8 0, .int .u8 0, .int .u8 0, .int .u8 0, .int .u8 0, .int .u8 0, .int .u8 0, .int .u8 0, .int .u8 0, .int .u8 0, .int .u8 0] 41] w44 := H46
  refine GL.semU (j := 12) r45 [1, 2, 3, 5] [(1, pt p3 0), (2, pt p7 0), (3, pt p13 0), (5, .int .i64 1)] (by kernel_rfl) rfl rfl rfl ?_
  refine GL.k rfl hK39 (fun _ _ h => h) ?_
  refine G.region ?_
  refine GL.run (j := 2) 2 [1, 2, 3, 5] [(1, pt p3 0), (2, pt p7 0), (3, pt p13 0), (5, .int .i64 2)] (by kernel_rfl) rfl ?_
  refine GL.round rfl ?_
  refine G.seqK fun K47 hK48 => ?_
  refine G.region ?_
  refine GL.run (j := 1) 1 [1, 2, 3, 5, 6] [(1, pt p3 0), (2, pt p7 0), (3, pt p13 0), (5, .int .i64 2), (6, .bool true)] (by kernel_rfl) rfl ?_
  refine GL.k rfl hK48 (fun _ _ h => h) ?_
  refine G.seqK fun K49 hK50 => ?_
  refine G.yes rfl ?_
  refine G.skipK hK50 (fun _ _ h => h) ?_
  refine G.seqK fun K51 hK52 => ?_
  refine G.block ?_
  refine G.seqK fun K53 hK54 => ?_
  refine G.region ?_
  refine GL.run (j := 2) 2 [1, 2, 3, 4, 5] [(1, pt p3 0), (2, pt p7 0), (3, pt p13 0), (4, .int .i64 2), (5, .int .i64 2)] (by kernel_rfl) rfl ?_
  refine GL.k rfl hK54 (fun _ _ h => h) ?_
  refine G.region ?_
  refine GL.run (j := 4) 4 [1, 2, 3, 4, 5, 8, 11] [(1, pt p3 0), (2, pt p7 0), (3, pt p13 0), (4, .int .i64 2), (5, .int .i64 2), (8, .int .i64 2), (11, pt p3 0)] (by kernel_rfl) rfl ?_
  refine GL.sem (j := 5) (H46.ld (o := 0) (ty := 22) (v := .int .u64 (wd x 0 : Int)) 0 rfl (by kernel_rfl) rfl) [1, 2, 3, 4, 5, 8, 12] [(1, pt p3 0), (2, pt p7 0), (3, pt p13 0), (4, .int .i64 2), (5, .int .i64 2), (8, .int .i64 2), (12, .int .u64 (wd x 0 : Int))] (by kernel_rfl) (by kernel_rfl) rfl ?_
  refine GL.run (j := 11) 6 [1, 2, 3, 5, 17, 18] [(1, pt p3 0), (2, pt p7 0), (3, pt p13 0), (5, .int .i64 2), (17, .int .u8 (IntKind.u8.wrap (Int.fdiv (wd x 0 : Int) (2 ^ 16)))), (18, pt p13 2)] (by kernel_rfl) rfl ?_
  have e55 : (Int.fdiv (wd x 0 : Int) (2 ^ 16)) = (((wd x 0) / 2 ^ 16 : Nat) : Int) := n_shr _ 16
  have e56 : (IntKind.u8.wrap (((wd x 0) / 2 ^ 16 : Nat) : Int)) = ((bt x 2 : Nat) : Int) := (n_u8 _).trans (congrArg _ (bt_wd x (j := 0) (k := 2) (by decide) (by decide)))
  refine GL.eq (M' := [(1, pt p3 0), (2, pt p7 0), (3, pt p13 0), (5, .int .i64 2), (17, .int .u8 ((bt x 2 : Nat) : Int)), (18, pt p13 2)]) (by rw [e55, e56]) ?_
  clear e55 e56
  obtain ⟨w57, r58, H59⟩ := H46.st (P := Try.prog) (o := 2) (ty := 5) (v := .int .u8 ((bt x 2 : Nat) : Int)) 2 rfl (by kernel_rfl) (by simp) rfl
  have H59 : Hp w [] [.blk p3 (wl x) 24, .blk p7 [.int .u8 0, .int .u8 0, .int .u8 0, .int .u8 0, .int .u8 0, .int .u8 0, .int .u8 0, .int .u8 0, .int .u8 0, .int .u8 0, .int .u8 0, .int .u8 0, .int .u8 0, .int .u8 0, .int .u8 0, .int .u8 0, .int .u8 0, .int .u8 0, .int .u8 0, .int .u8 0, .int .u8 0, .int .u8 0, .int .u8 0, .int .u8 0, .int .u8 0, .int .u8 0, .int .u8 0, .int .u8 0, .int .u8 0, .int .u8 0, .int .u8 0, .int .u8 0] 41, .blk p13 [.int .u8 ((bt x 0 : Nat) : Int), .int .u8 ((bt x 1 : Nat) : Int), .int .u8 ((bt x 2 : Nat) : Int), .int .u8 0, .int .u8 0, .int .u8 0, .int .u8 0, .int .u8 0, .int .u8 0, .int .u8 0, .int .u8 0, .int .u8 0, .int .u8 0, .int .u8 0, .int .u8 0, .int .u8 0, .int .u8 0, .int .u8 0, .int .u8 0, .int .u8 0, .int .u8 0, .int .u8 0, .int .u8 0, .int .u8 0, .int .u8 0, .int .u8 0, .int .u8 0, .int .u8 0, .int .u8 0, .int .u8 0, .int .u8 0, .int .u8 0] 41] w57 := H59
  refine GL.semU (j := 12) r58 [1, 2, 3, 5] [(1, pt p3 0), (2, pt p7 0), (3, pt p13 0), (5, .int .i64 2)] (by kernel_rfl) rfl rfl rfl ?_
  refine GL.k rfl hK52 (fun _ _ h => h) ?_
  refine G.region ?_
  refine GL.run (j := 2) 2 [1, 2, 3, 5] [(1, pt p3 0), (2, pt p7 0), (3, pt p13 0), (5, .int .i64 3)] (by kernel_rfl) rfl ?_
  refine GL.round rfl ?_
  refine G.seqK fun K60 hK61 => ?_
  refine G.region ?_
  refine GL.run (j := 1) 1 [1, 2, 3, 5, 6] [(1, pt p3 0), (2, pt p7 0), (3, pt p13 0), (5, .int .i64 3), (6, .bool true)] (by kernel_rfl) rfl ?_
  refine GL.k rfl hK61 (fun _ _ h => h) ?_
  refine G.seqK fun K62 hK63 => ?_
  refine G.yes rfl ?_
  refine G.skipK hK63 (fun _ _ h => h) ?_
  refine G.seqK fun K64 hK65 => ?_
  refine G.block ?_
  refine G.seqK fun K66 hK67 => ?_
  refine G.region ?_
  refine GL.run (j := 2) 2 [1, 2, 3, 4, 5] [(1, pt p3 0), (2, pt p7 0), (3, pt p13 0), (4, .int .i64 3), (5, .int .i64 3)] (by kernel_rfl) rfl ?_
  refine GL.k rfl hK67 (fun _ _ h => h) ?_
  refine G.region ?_
  refine GL.run (j := 4) 4 [1, 2, 3, 4, 5, 8, 11] [(1, pt p3 0), (2, pt p7 0), (3, pt p13 0), (4, .int .i64 3), (5, .int .i64 3), (8, .int .i64 3), (11, pt p3 0)] (by kernel_rfl) rfl ?_
  refine GL.sem (j := 5) (H59.ld (o := 0) (ty := 22) (v := .int .u64 (wd x 0 : Int)) 0 rfl (by kernel_rfl) rfl) [1, 2, 3, 4, 5, 8, 12] [(1, pt p3 0), (2, pt p7 0), (3, pt p13 0), (4, .int .i64 3), (5, .int .i64 3), (8, .int .i64 3), (12, .int .u64 (wd x 0 : Int))] (by kernel_rfl) (by kernel_rfl) rfl ?_
  refine GL.run (j := 11) 6 [1, 2, 3, 5, 17, 18] [(1, pt p3 0), (2, pt p7 0), (3, pt p13 0), (5, .int .i64 3), (17, .int .u8 (IntKind.u8.wrap (Int.fdiv (wd x 0 : Int) (2 ^ 24)))), (18, pt p13 3)] (by kernel_rfl) rfl ?_
  have e68 : (Int.fdiv (wd x 0 : Int) (2 ^ 24)) = (((wd x 0) / 2 ^ 24 : Nat) : Int) := n_shr _ 24
  have e69 : (IntKind.u8.wrap (((wd x 0) / 2 ^ 24 : Nat) : Int)) = ((bt x 3 : Nat) : Int) := (n_u8 _).trans (congrArg _ (bt_wd x (j := 0) (k := 3) (by decide) (by decide)))
  refine GL.eq (M' := [(1, pt p3 0), (2, pt p7 0), (3, pt p13 0), (5, .int .i64 3), (17, .int .u8 ((bt x 3 : Nat) : Int)), (18, pt p13 3)]) (by rw [e68, e69]) ?_
  clear e68 e69
  obtain ⟨w70, r71, H72⟩ := H59.st (P := Try.prog) (o := 3) (ty := 5) (v := .int .u8 ((bt x 3 : Nat) : Int)) 2 rfl (by kernel_rfl) (by simp) rfl
  have H72 : Hp w [] [.blk p3 (wl x) 24, .blk p7 [.int .u8 0, .int .u8 0, .int .u8 0, .int .u8 0, .int .u8 0, .int .u8 0, .int .u8 0, .int .u8 0, .int .u8 0, .int .u8 0, .int .u8 0, .int .u8 0, .int .u8 0, .int .u8 0, .int .u8 0, .int .u8 0, .int .u8 0, .int .u8 0, .int .u8 0, .int .u8 0, .int .u8 0, .int .u8 0, .int .u8 0, .int .u8 0, .int .u8 0, .int .u8 0, .int .u8 0, .int .u8 0, .int .u8 0, .int .u8 0, .int .u8 0, .int .u8 0] 41, .blk p13 [.int .u8 ((bt x 0 : Nat) : Int), .int .u8 ((bt x 1 : Nat) : Int), .int .u8 ((bt x 2 : Nat) : Int), .int .u8 ((bt x 3 : Nat) : Int), .int .u8 0, .int .u8 0, .int .u8 0, .int .u8 0, .int .u8 0, .int .u8 0, .int .u8 0, .int .u8 0, .int .u8 0, .int .u8 0, .int .u8 0, .int .u8 0, .int .u8 0, .int .u8 0, .int .u8 0, .int .u8 0, .int .u8 0, .int .u8 0, .int .u8 0, .int .u8 0, .int .u8 0, .int .u8 0, .int .u8 0, .int .u8 0, .int .u8 0, .int .u8 0, .int .u8 0, .int .u8 0] 41] w70 := H72
  refine GL.semU (j := 12) r71 [1, 2, 3, 5] [(1, pt p3 0), (2, pt p7 0), (3, pt p13 0), (5, .int .i64 3)] (by kernel_rfl) rfl rfl rfl ?_
  refine GL.k rfl hK65 (fun _ _ h => h) ?_
  refine G.region ?_
  refine GL.run (j := 2) 2 [1, 2, 3, 5] [(1, pt p3 0), (2, pt p7 0), (3, pt p13 0), (5, .int .i64 4)] (by kernel_rfl) rfl ?_
  refine GL.round rfl ?_
  refine G.seqK fun K73 hK74 => ?_
  refine G.region ?_
  refine GL.run (j := 1) 1 [1, 2, 3, 5, 6] [(1, pt p3 0), (2, pt p7 0), (3, pt p13 0), (5, .int .i64 4), (6, .bool true)] (by kernel_rfl) rfl ?_
  refine GL.k rfl hK74 (fun _ _ h => h) ?_
  refine G.seqK fun K75 hK76 => ?_
  refine G.yes rfl ?_
  refine G.skipK hK76 (fun _ _ h => h) ?_
  refine G.seqK fun K77 hK78 => ?_
  refine G.block ?_
  refine G.seqK fun K79 hK80 => ?_
  refine G.region ?_
  refine GL.run (j := 2) 2 [1, 2, 3, 4, 5] [(1, pt p3 0), (2, pt p7 0), (3, pt p13 0), (4, .int .i64 4), (5, .int .i64 4)] (by kernel_rfl) rfl ?_
  refine GL.k rfl hK80 (fun _ _ h => h) ?_
  refine G.region ?_
  refine GL.run (j := 4) 4 [1, 2, 3, 4, 5, 8, 11] [(1, pt p3 0), (2, pt p7 0), (3, pt p13 0), (4, .int .i64 4), (5, .int .i64 4), (8, .int .i64 4), (11, pt p3 0)] (by kernel_rfl) rfl ?_
  refine GL.sem (j := 5) (H72.ld (o := 0) (ty := 22) (v := .int .u64 (wd x 0 : Int)) 0 rfl (by kernel_rfl) rfl) [1, 2, 3, 4, 5, 8, 12] [(1, pt p3 0), (2, pt p7 0), (3, pt p13 0), (4, .int .i64 4), (5, .int .i64 4), (8, .int .i64 4), (12, .int .u64 (wd x 0 : Int))] (by kernel_rfl) (by kernel_rfl) rfl ?_
  refine GL.run (j := 11) 6 [1, 2, 3, 5, 17, 18] [(1, pt p3 0), (2, pt p7 0), (3, pt p13 0), (5, .int .i64 4), (17, .int .u8 (IntKind.u8.wrap (Int.fdiv (wd x 0 : Int) (2 ^ 32)))), (18, pt p13 4)] (by kernel_rfl) rfl ?_
  have e81 : (Int.fdiv (wd x 0 : Int) (2 ^ 32)) = (((wd x 0) / 2 ^ 32 : Nat) : Int) := n_shr _ 32
  have e82 : (IntKind.u8.wrap (((wd x 0) / 2 ^ 32 : Nat) : Int)) = ((bt x 4 : Nat) : Int) := (n_u8 _).trans (congrArg _ (bt_wd x (j := 0) (k := 4) (by decide) (by decide)))
  refine GL.eq (M' := [(1, pt p3 0), (2, pt p7 0), (3, pt p13 0), (5, .int .i64 4), (17, .int .u8 ((bt x 4 : Nat) : Int)), (18, pt p13 4)]) (by rw [e81, e82]) ?_
  clear e81 e82
  obtain ⟨w83, r84, H85⟩ := H72.st (P := Try.prog) (o := 4) (ty := 5) (v := .int .u8 ((bt x 4 : Nat) : Int)) 2 rfl (by kernel_rfl) (by simp) rfl
  have H85 : Hp w [] [.blk p3 (wl x) 24, .blk p7 [.int .u8 0, .int .u8 0, .int .u8 0, .int .u8 0, .int .u8 0, .int .u8 0, .int .u8 0, .int .u8 0, .int .u8 0, .int .u8 0, .int .u8 0, .int .u8 0, .int .u8 0, .int .u8 0, .int .u8 0, .int .u8 0, .int .u8 0, .int .u8 0, .int .u8 0, .int .u8 0, .int .u8 0, .int .u8 0, .int .u8 0, .int .u8 0, .int .u8 0, .int .u8 0, .int .u8 0, .int .u8 0, .int .u8 0, .int .u8 0, .int .u8 0, .int .u8 0] 41, .blk p13 [.int .u8 ((bt x 0 : Nat) : Int), .int .u8 ((bt x 1 : Nat) : Int), .int .u8 ((bt x 2 : Nat) : Int), .int .u8 ((bt x 3 : Nat) : Int), .int .u8 ((bt x 4 : Nat) : Int), .int .u8 0, .int .u8 0, .int .u8 0, .int .u8 0, .int .u8 0, .int .u8 0, .int .u8 0, .int .u8 0, .int .u8 0, .int .u8 0, .int .u8 0, .int .u8 0, .int .u8 0, .int .u8 0, .int .u8 0, .int .u8 0, .int .u8 0, .int .u8 0, .int .u8 0, .int .u8 0, .int .u8 0, .int .u8 0, .int .u8 0, .int .u8 0, .int .u8 0, .int .u8 0, .int .u8 0] 41] w83 := H85
  refine GL.semU (j := 12) r84 [1, 2, 3, 5] [(1, pt p3 0), (2, pt p7 0), (3, pt p13 0), (5, .int .i64 4)] (by kernel_rfl) rfl rfl rfl ?_
  refine GL.k rfl hK78 (fun _ _ h => h) ?_
  refine G.region ?_
  refine GL.run (j := 2) 2 [1, 2, 3, 5] [(1, pt p3 0), (2, pt p7 0), (3, pt p13 0), (5, .int .i64 5)] (by kernel_rfl) rfl ?_
  refine GL.round rfl ?_
  refine G.seqK fun K86 hK87 => ?_
  refine G.region ?_
  refine GL.run (j := 1) 1 [1, 2, 3, 5, 6] [(1, pt p3 0), (2, pt p7 0), (3, pt p13 0), (5, .int .i64 5), (6, .bool true)] (by kernel_rfl) rfl ?_
  refine GL.k rfl hK87 (fun _ _ h => h) ?_
  refine G.seqK fun K88 hK89 => ?_
  refine G.yes rfl ?_
  refine G.skipK hK89 (fun _ _ h => h) ?_
  refine G.seqK fun K90 hK91 => ?_
  refine G.block ?_
  refine G.seqK fun K92 hK93 => ?_
  refine G.region ?_
  refine GL.run (j := 2) 2 [1, 2, 3, 4, 5] [(1, pt p3 0), (2, pt p7 0), (3, pt p13 0), (4, .int .i64 5), (5, .int .i64 5)] (by kernel_rfl) rfl ?_
  refine GL.k rfl hK93 (fun _ _ h => h) ?_
  refine G.region ?_
  refine GL.run (j := 4) 4 [1, 2, 3, 4, 5, 8, 11] [(1, pt p3 0), (2, pt p7 0), (3, pt p13 0), (4, .int .i64 5), (5, .int .i64 5), (8, .int .i64 5), (11, pt p3 0)] (by kernel_rfl) rfl ?_
  refine GL.sem (j := 5) (H85.ld (o := 0) (ty := 22) (v := .int .u64 (wd x 0 : Int)) 0 rfl (by kernel_rfl) rfl) [1, 2, 3, 4, 5, 8, 12] [(1, pt p3 0), (2, pt p7 0), (3, pt p13 0), (4, .int .i64 5), (5, .int .i64 5), (8, .int .i64 5), (12, .int .u64 (wd x 0 : Int))] (by kernel_rfl) (by kernel_rfl) rfl ?_
  refine GL.run (j := 11) 6 [1, 2, 3, 5, 17, 18] [(1, pt p3 0), (2, pt p7 0), (3, pt p13 0), (5, .int .i64 5), (17, .int .u8 (IntKind.u8.wrap (Int.fdiv (wd x 0 : Int) (2 ^ 40)))), (18, pt p13 5)] (by kernel_rfl) rfl ?_
  have e94 : (Int.fdiv (wd x 0 : Int) (2 ^ 40)) = (((wd x 0) / 2 ^ 40 : Nat) : Int) := n_shr _ 40
  have e95 : (IntKind.u8.wrap (((wd x 0) / 2 ^ 40 : Nat) : Int)) = ((bt x 5 : Nat) : Int) := (n_u8 _).trans (congrArg _ (bt_wd x (j := 0) (k := 5) (by decide) (by decide)))
  refine GL.eq (M' := [(1, pt p3 0), (2, pt p7 0), (3, pt p13 0), (5, .int .i64 5), (17, .int .u8 ((bt x 5 : Nat) : Int)), (18, pt p13 5)]) (by rw [e94, e95]) ?_
  clear e94 e95
  obtain ⟨w96, r97, H98⟩ := H85.st (P := Try.prog) (o := 5) (ty := 5) (v := .int .u8 ((bt x 5 : Nat) : Int)) 2 rfl (by kernel_rfl) (by simp) rfl
  have H98 : Hp w [] [.blk p3 (wl x) 24, .blk p7 [.int .u8 0, .int .u8 0, .int .u8 0, .int .u8 0, .int .u8 0, .int .u8 0, .int .u8 0, .int .u8 0, .int .u8 0, .int .u8 0, .int .u8 0, .int .u8 0, .int .u8 0, .int .u8 0, .int .u8 0, .int .u8 0, .int .u8 0, .int .u8 0, .int .u8 0, .int .u8 0, .int .u8 0, .int .u8 0, .int .u8 0, .int .u8 0, .int .u8 0, .int .u8 0, .int .u8 0, .int .u8 0, .int .u8 0, .int .u8 0, .int .u8 0, .int .u8 0] 41, .blk p13 [.int .u8 ((bt x 0 : Nat) : Int), .int .u8 ((bt x 1 : Nat) : Int), .int .u8 ((bt x 2 : Nat) : Int), .int .u8 ((bt x 3 : Nat) : Int), .int .u8 ((bt x 4 : Nat) : Int), .int .u8 ((bt x 5 : Nat) : Int), .int .u8 0, .int .u8 0, .int .u8 0, .int .u8 0, .int .u8 0, .int .u8 0, .int .u8 0, .int .u8 0, .int .u8 0, .int .u8 0, .int .u8 0, .int .u8 0, .int .u8 0, .int .u8 0, .int .u8 0, .int .u8 0, .int .u8 0, .int .u8 0, .int .u8 0, .int .u8 0, .int .u8 0, .int .u8 0, .int .u8 0, .int .u8 0, .int .u8 0, .int .u8 0] 41] w96 := H98
  refine GL.semU (j := 12) r97 [1, 2, 3, 5] [(1, pt p3 0), (2, pt p7 0), (3, pt p13 0), (5, .int .i64 5)] (by kernel_rfl) rfl rfl rfl ?_
  refine GL.k rfl hK91 (fun _ _ h => h) ?_
  refine G.region ?_
  refine GL.run (j := 2) 2 [1, 2, 3, 5] [(1, pt p3 0), (2, pt p7 0), (3, pt p13 0), (5, .int .i64 6)] (by kernel_rfl) rfl ?_
  refine GL.round rfl ?_
  refine G.seqK fun K99 hK100 => ?_
  refine G.region ?_
  refine GL.run (j := 1) 1 [1, 2, 3, 5, 6] [(1, pt p3 0), (2, pt p7 0), (3, pt p13 0), (5, .int .i64 6), (6, .bool true)] (by kernel_rfl) rfl ?_
  refine GL.k rfl hK100 (fun _ _ h => h) ?_
  refine G.seqK fun K101 hK102 => ?_
  refine G.yes rfl ?_
  refine G.skipK hK102 (fun _ _ h => h) ?_
  refine G.seqK fun K103 hK104 => ?_
  refine G.block ?_
  refine G.seqK fun K105 hK106 => ?_
  refine G.region ?_
  refine GL.run (j := 2) 2 [1, 2, 3, 4, 5] [(1, pt p3 0), (2, pt p7 0), (3, pt p13 0), (4, .int .i64 6), (5, .int .i64 6)] (by kernel_rfl) rfl ?_
  refine GL.k rfl hK106 (fun _ _ h => h) ?_
  refine G.region ?_
  refine GL.run (j := 4) 4 [1, 2, 3, 4, 5, 8, 11] [(1, pt p3 0), (2, pt p7 0), (3, pt p13 0), (4, .int .i64 6), (5, .int .i64 6), (8, .int .i64 6), (11, pt p3 0)] (by kernel_rfl) rfl ?_
  refine GL.sem (j := 5) (H98.ld (o := 0) (ty := 22) (v := .int .u64 (wd x 0 : Int)) 0 rfl (by kernel_rfl) rfl) [1, 2, 3, 4, 5, 8, 12] [(1, pt p3 0), (2, pt p7 0), (3, pt p13 0), (4, .int .i64 6), (5, .int .i64 6), (8, .int .i64 6), (12, .int .u64 (wd x 0 : Int))] (by kernel_rfl) (by kernel_rfl) rfl ?_
  refine GL.run (j := 11) 6 [1, 2, 3, 5, 17, 18] [(1, pt p3 0), (2, pt p7 0), (3, pt p13 0), (5, .int .i64 6), (17, .int .u8 (IntKind.u8.wrap (Int.fdiv (wd x 0 : Int) (2 ^ 48)))), (18, pt p13 6)] (by kernel_rfl) rfl ?_
  have e107 : (Int.fdiv (wd x 0 : Int) (2 ^ 48)) = (((wd x 0) / 2 ^ 48 : Nat) : Int) := n_shr _ 48
  have e108 : (IntKind.u8.wrap (((wd x 0) / 2 ^ 48 : Nat) : Int)) = ((bt x 6 : Nat) : Int) := (n_u8 _).trans (congrArg _ (bt_wd x (j := 0) (k := 6) (by decide) (by decide)))
  refine GL.eq (M' := [(1, pt p3 0), (2, pt p7 0), (3, pt p13 0), (5, .int .i64 6), (17, .int .u8 ((bt x 6 : Nat) : Int)), (18, pt p13 6)]) (by rw [e107, e108]) ?_
  clear e107 e108
  obtain ⟨w109, r110, H111⟩ := H98.st (P := Try.prog) (o := 6) (ty := 5) (v := .int .u8 ((bt x 6 : Nat) : Int)) 2 rfl (by kernel_rfl) (by simp) rfl
  have H111 : Hp w [] [.blk p3 (wl x) 24, .blk p7 [.int .u8 0, .int .u8 0, .int .u8 0, .int .u8 0, .int .u8 0, .int .u8 0, .int .u8 0, .int .u8 0, .int .u8 0, .int .u8 0, .int .u8 0, .int .u8 0, .int .u8 0, .int .u8 0, .int .u8 0, .int .u8 0, .int .u8 0, .int .u8 0, .int .u8 0, .int .u8 0, .int .u8 0, .int .u8 0, .int .u8 0, .int .u8 0, .int .u8 0, .int .u8 0, .int .u8 0, .int .u8 0, .int .u8 0, .int .u8 0, .int .u8 0, .int .u8 0] 41, .blk p13 [.int .u8 ((bt x 0 : Nat) : Int), .int .u8 ((bt x 1 : Nat) : Int), .int .u8 ((bt x 2 : Nat) : Int), .int .u8 ((bt x 3 : Nat) : Int), .int .u8 ((bt x 4 : Nat) : Int), .int .u8 ((bt x 5 : Nat) : Int), .int .u8 ((bt x 6 : Nat) : Int), .int .u8 0, .int .u8 0, .int .u8 0, .int .u8 0, .int .u8 0, .int .u8 0, .int .u8 0, .int .u8 0, .int .u8 0, .int .u8 0, .int .u8 0, .int .u8 0, .int .u8 0, .int .u8 0, .int .u8 0, .int .u8 0, .int .u8 0, .int .u8 0, .int .u8 0, .int .u8 0, .int .u8 0, .int .u8 0, .int .u8 0, .int .u8 0, .int .u8 0] 41] w109 := H111
  refine GL.semU (j := 12) r110 [1, 2, 3, 5] [(1, pt p3 0), (2, pt p7 0), (3, pt p13 0), (5, .int .i64 6)] (by kernel_rfl) rfl rfl rfl ?_
  refine GL.k rfl hK104 (fun _ _ h => h) ?_
  refine G.region ?_
  refine GL.run (j := 2) 2 [1, 2, 3, 5] [(1, pt p3 0), (2, pt p7 0), (3, pt p13 0), (5, .int .i64 7)] (by kernel_rfl) rfl ?_
  refine GL.round rfl ?_
  refine G.seqK fun K112 hK113 => ?_
  refine G.region ?_
  refine GL.run (j := 1) 1 [1, 2, 3, 5, 6] [(1, pt p3 0), (2, pt p7 0), (3, pt p13 0), (5, .int .i64 7), (6, .bool true)] (by kernel_rfl) rfl ?_
  refine GL.k rfl hK113 (fun _ _ h => h) ?_
  refine G.seqK fun K114 hK115 => ?_
  refine G.yes rfl ?_
  refine G.skipK hK115 (fun _ _ h => h) ?_
  refine G.seqK fun K116 hK117 => ?_
  refine G.block ?_
  refine G.seqK fun K118 hK119 => ?_
  refine G.region ?_
  refine GL.run (j := 2) 2 [1, 2, 3, 4, 5] [(1, pt p3 0), (2, pt p7 0), (3, pt p13 0), (4, .int .i64 7), (5, .int .i64 7)] (by kernel_rfl) rfl ?_
  refine GL.k rfl hK119 (fun _ _ h => h) ?_
  refine G.region ?_
  refine GL.run (j := 4) 4 [1, 2, 3, 4, 5, 8, 11] [(1, pt p3 0), (2, pt p7 0), (3, pt p13 0), (4, .int .i64 7), (5, .int .i64 7), (8, .int .i64 7), (11, pt p3 0)] (by kernel_rfl) rfl ?_
  refine GL.sem (j := 5) (H111.ld (o := 0) (ty := 22) (v := .int .u64 (wd x 0 : Int)) 0 rfl (by kernel_rfl) rfl) [1, 2, 3, 4, 5, 8, 12] [(1, pt p3 0), (2, pt p7 0), (3, pt p13 0), (4, .int .i64 7), (5, .int .i64 7), (8, .int .i64 7), (12, .int .u64 (wd x 0 : Int))] (by kernel_rfl) (by kernel_rfl) rfl ?_
  refine GL.run (j := 11) 6 [1, 2, 3, 5, 17, 18] [(1, pt p3 0), (2, pt p7 0), (3, pt p13 0), (5, .int .i64 7), (17, .int .u8 (IntKind.u8.wrap (Int.fdiv (wd x 0 : Int) (2 ^ 56)))), (18, pt p13 7)] (by kernel_rfl) rfl ?_
  have e120 : (Int.fdiv (wd x 0 : Int) (2 ^ 56)) = (((wd x 0) / 2 ^ 56 : Nat) : Int) := n_shr _ 56
  have e121 : (IntKind.u8.wrap (((wd x 0) / 2 ^ 56 : Nat) : Int)) = ((bt x 7 : Nat) : Int) := (n_u8 _).trans (congrArg _ (bt_wd x (j := 0) (k := 7) (by decide) (by decide)))
  refine GL.eq (M' := [(1, pt p3 0), (2, pt p7 0), (3, pt p13 0), (5, .int .i64 7), (17, .int .u8 ((bt x 7 : Nat) : Int)), (18, pt p13 7)]) (by rw [e120, e121]) ?_
  clear e120 e121
  obtain ⟨w122, r123, H124⟩ := H111.st (P := Try.prog) (o := 7) (ty := 5) (v := .int .u8 ((bt x 7 : Nat) : Int)) 2 rfl (by kernel_rfl) (by simp) rfl
  have H124 : Hp w [] [.blk p3 (wl x) 24, .blk p7 [.int .u8 0, .int .u8 0, .int .u8 0, .int .u8 0, .int .u8 0, .int .u8 0, .int .u8 0, .int .u8 0, .int .u8 0, .int .u8 0, .int .u8 0, .int .u8 0, .int .u8 0, .int .u8 0, .int .u8 0, .int .u8 0, .int .u8 0, .int .u8 0, .int .u8 0, .int .u8 0, .int .u8 0, .int .u8 0, .int .u8 0, .int .u8 0, .int .u8 0, .int .u8 0, .int .u8 0, .int .u8 0, .int .u8 0, .int .u8 0, .int .u8 0, .int .u8 0] 41, .blk p13 [.int .u8 ((bt x 0 : Nat) : Int), .int .u8 ((bt x 1 : Nat) : Int), .int .u8 ((bt x 2 : Nat) : Int), .int .u8 ((bt x 3 : Nat) : Int), .int .u8 ((bt x 4 : Nat) : Int), .int .u8 ((bt x 5 : Nat) : Int), .int .u8 ((bt x 6 : Nat) : Int), .int .u8 ((bt x 7 : Nat) : Int), .int .u8 0, .int .u8 0, .int .u8 0, .int .u8 0, .int .u8 0, .int .u8 0, .int .u8 0, .int .u8 0, .int .u8 0, .int .u8 0, .int .u8 0, .int .u8 0, .int .u8 0, .int .u8 0, .int .u8 0, .int .u8 0, .int .u8 0, .int .u8 0, .int .u8 0, .int .u8 0, .int .u8 0, .int .u8 0, .int .u8 0, .int .u8 0] 41] w122 := H124
  refine GL.semU (j := 12) r123 [1, 2, 3, 5] [(1, pt p3 0), (2, pt p7 0), (3, pt p13 0), (5, .int .i64 7)] (by kernel_rfl) rfl rfl rfl ?_
  refine GL.k rfl hK117 (fun _ _ h => h) ?_
  refine G.region ?_
  refine GL.run (j := 2) 2 [1, 2, 3, 5] [(1, pt p3 0), (2, pt p7 0), (3, pt p13 0), (5, .int .i64 8)] (by kernel_rfl) rfl ?_
  refine GL.round rfl ?_
  refine G.seqK fun K125 hK126 => ?_
  refine G.region ?_
  refine GL.run (j := 1) 1 [1, 2, 3, 5, 6] [(1, pt p3 0), (2, pt p7 0), (3, pt p13 0), (5, .int .i64 8), (6, .bool true)] (by kernel_rfl) rfl ?_
  refine GL.k rfl hK126 (fun _ _ h => h) ?_
  refine G.seqK fun K127 hK128 => ?_
  refine G.yes rfl ?_
  refine G.skipK hK128 (fun _ _ h => h) ?_
  refine G.seqK fun K129 hK130 => ?_
  refine G.block ?_
  refine G.seqK fun K131 hK132 => ?_
  refine G.region ?_
  refine GL.run (j := 2) 2 [1, 2, 3, 4, 5] [(1, pt p3 0), (2, pt p7 0), (3, pt p13 0), (4, .int .i64 8), (5, .int .i64 8)] (by kernel_rfl) rfl ?_
  refine GL.k rfl hK132 (fun _ _ h => h) ?_
  refine G.region ?_
  refine GL.run (j := 4) 4 [1, 2, 3, 4, 5, 8, 11] [(1, pt p3 0), (2, pt p7 0), (3, pt p13 0), (4, .int .i64 8), (5, .int .i64 8), (8, .int .i64 8), (11, pt p3 1)] (by kernel_rfl) rfl ?_
  refine GL.sem (j := 5) (H124.ld (o := 1) (ty := 22) (v := .int .u64 (wd x 1 : Int)) 0 rfl (by kernel_rfl) rfl) [1, 2, 3, 4, 5, 8, 12] [(1, pt p3 0), (2, pt p7 0), (3, pt p13 0), (4, .int .i64 8), (5, .int .i64 8), (8, .int .i64 8), (12, .int .u64 (wd x 1 : Int))] (by kernel_rfl) (by kernel_rfl) rfl ?_
  refine GL.run (j := 11) 6 [1, 2, 3, 5, 17, 18] [(1, pt p3 0), (2, pt p7 0), (3, pt p13 0), (5, .int .i64 8), (17, .int .u8 (IntKind.u8.wrap (Int.fdiv (wd x 1 : Int) (2 ^ 0)))), (18, pt p13 8)] (by kernel_rfl) rfl ?_
  have e133 : (Int.fdiv (wd x 1 : Int) (2 ^ 0)) = (((wd x 1) / 2 ^ 0 : Nat) : Int) := n_shr _ 0
  have e134 : (IntKind.u8.wrap (((wd x 1) / 2 ^ 0 : Nat) : Int)) = ((bt x 8 : Nat) : Int) := (n_u8 _).trans (congrArg _ (bt_wd x (j := 1) (k := 0) (by decide) (by decide)))
  refine GL.eq (M' := [(1, pt p3 0), (2, pt p7 0), (3, pt p13 0), (5, .int .i64 8), (17, .int .u8 ((bt x 8 : Nat) : Int)), (18, pt p13 8)]) (by rw [e133, e134]) ?_
  clear e133 e134
  obtain ⟨w135, r136, H137⟩ := H124.st (P := Try.prog) (o := 8) (ty := 5) (v := .int .u8 ((bt x 8 : Nat) : Int)) 2 rfl (by kernel_rfl) (by simp) rfl
  have H137 : Hp w [] [.blk p3 (wl x) 24, .blk p7 [.int .u8 0, .int .u8 0, .int .u8 0, .int .u8 0, .int .u8 0, .int .u8 0, .int .u8 0, .int .u8 0, .int .u8 0, .int .u8 0, .int .u8 0, .int .u8 0, .int .u8 0, .int .u8 0, .int .u8 0, .int .u8 0, .int .u8 0, .int .u8 0, .int .u8 0, .int .u8 0, .int .u8 0, .int .u8 0, .int .u8 0, .int .u8 0, .int .u8 0, .int .u8 0, .int .u8 0, .int .u8 0, .int .u8 0, .int .u8 0, .int .u8 0, .int .u8 0] 41, .blk p13 [.int .u8 ((bt x 0 : Nat) : Int), .int .u8 ((bt x 1 : Nat) : Int), .int .u8 ((bt x 2 : Nat) : Int), .int .u8 ((bt x 3 : Nat) : Int), .int .u8 ((bt x 4 : Nat) : Int), .int .u8 ((bt x 5 : Nat) : Int), .int .u8 ((bt x 6 : Nat) : Int), .int .u8 ((bt x 7 : Nat) : Int), .int .u8 ((bt x 8 : Nat) : Int), .int .u8 0, .int .u8 0, .int .u8 0, .int .u8 0, .int .u8 0, .int .u8 0, .int .u8 0, .int .u8 0, .int .u8 0, .int .u8 0, .int .u8 0, .int .u8 0, .int .u8 0, .int .u8 0, .int .u8 0, .int .u8 0, .int .u8 0, .int .u8 0, .int .u8 0, .int .u8 0, .int .u8 0, .int .u8 0, .int .u8 0] 41] w135 := H137
  refine GL.semU (j := 12) r136 [1, 2, 3, 5] [(1, pt p3 0), (2, pt p7 0), (3, pt p13 0), (5, .int .i64 8)] (by kernel_rfl) rfl rfl rfl ?_
  refine GL.k rfl hK130 (fun _ _ h => h) ?_
  refine G.region ?_
  refine GL.run (j := 2) 2 [1, 2, 3, 5] [(1, pt p3 0), (2, pt p7 0), (3, pt p13 0), (5, .int .i64 9)] (by kernel_rfl) rfl ?_
  refine GL.round rfl ?_
  refine G.seqK fun K138 hK139 => ?_
  refine G.region ?_
  refine GL.run (j := 1) 1 [1, 2, 3, 5, 6] [(1, pt p3 0), (2, pt p7 0), (3, pt p13 0), (5, .int .i64 9), (6, .bool true)] (by kernel_rfl) rfl ?_
  refine GL.k rfl hK139 (fun _ _ h => h) ?_
  refine G.seqK fun K140 hK141 => ?_
  refine G.yes rfl ?_
  refine G.skipK hK141 (fun _ _ h => h) ?_
  refine G.seqK fun K142 hK143 => ?_
  refine G.block ?_
  refine G.seqK fun K144 hK145 => ?_
  refine G.region ?_
  refine GL.run (j := 2) 2 [1, 2, 3, 4, 5] [(1, pt p3 0), (2, pt p7 0), (3, pt p13 0), (4, .int .i64 9), (5, .int .i64 9)] (by kernel_rfl) rfl ?_
  refine GL.k rfl hK145 (fun _ _ h => h) ?_
  refine G.region ?_
  refine GL.run (j := 4) 4 [1, 2, 3, 4, 5, 8, 11] [(1, pt p3 0), (2, pt p7 0), (3, pt p13 0), (4, .int .i64 9), (5, .int .i64 9), (8, .int .i64 9), (11, pt p3 1)] (by kernel_rfl) rfl ?_
  refine GL.sem (j := 5) (H137.ld (o := 1) (ty := 22) (v := .int .u64 (wd x 1 : Int)) 0 rfl (by kernel_rfl) rfl) [1, 2, 3, 4, 5, 8, 12] [(1, pt p3 0), (2, pt p7 0), (3, pt p13 0), (4, .int .i64 9), (5, .int .i64 9), (8, .int .i64 9), (12, .int .u64 (wd x 1 : Int))] (by kernel_rfl) (by kernel_rfl) rfl ?_
  refine GL.run (j := 11) 6 [1, 2, 3, 5, 17, 18] [(1, pt p3 0), (2, pt p7 0), (3, pt p13 0), (5, .int .i64 9), (17, .int .u8 (IntKind.u8.wrap (Int.fdiv (wd x 1 : Int) (2 ^ 8)))), (18, pt p13 9)] (by kernel_rfl) rfl ?_
  have e146 : (Int.fdiv (wd x 1 : Int) (2 ^ 8)) = (((wd x 1) / 2 ^ 8 : Nat) : Int) := n_shr _ 8
  have e147 : (IntKind.u8.wrap (((wd x 1) / 2 ^ 8 : Nat) : Int)) = ((bt x 9 : Nat) : Int) := (n_u8 _).trans (congrArg _ (bt_wd x (j := 1) (k := 1) (by decide) (by decide)))
  refine GL.eq (M' := [(1, pt p3 0), (2, pt p7 0), (3, pt p13 0), (5, .int .i64 9), (17, .int .u8 ((bt x 9 : Nat) : Int)), (18, pt p13 9)]) (by rw [e146, e147]) ?_
  clear e146 e147
  obtain ⟨w148, r149, H150⟩ := H137.st (P := Try.prog) (o := 9) (ty := 5) (v := .int .u8 ((bt x 9 : Nat) : Int)) 2 rfl (by kernel_rfl) (by simp) rfl
  have H150 : Hp w [] [.blk p3 (wl x) 24, .blk p7 [.int .u8 0, .int .u8 0, .int .u8 0, .int .u8 0, .int .u8 0, .int .u8 0, .int .u8 0, .int .u8 0, .int .u8 0, .int .u8 0, .int .u8 0, .int .u8 0, .int .u8 0, .int .u8 0, .int .u8 0, .int .u8 0, .int .u8 0, .int .u8 0, .int .u8 0, .int .u8 0, .int .u8 0, .int .u8 0, .int .u8 0, .int .u8 0, .int .u8 0, .int .u8 0, .int .u8 0, .int .u8 0, .int .u8 0, .int .u8 0, .int .u8 0, .int .u8 0] 41, .blk p13 [.int .u8 ((bt x 0 : Nat) : Int), .int .u8 ((bt x 1 : Nat) : Int), .int .u8 ((bt x 2 : Nat) : Int), .int .u8 ((bt x 3 : Nat) : Int), .int .u8 ((bt x 4 : Nat) : Int), .int .u8 ((bt x 5 : Nat) : Int), .int .u8 ((bt x 6 : Nat) : Int), .int .u8 ((bt x 7 : Nat) : Int), .int .u8 ((bt x 8 : Nat) : Int), .int .u8 ((bt x 9 : Nat) : Int), .int .u8 0, .int .u8 0, .int .u8 0, .int .u8 0, .int .u8 0, .int .u8 0, .int .u8 0, .int .u8 0, .int .u8 0, .int .u8 0, .int .u8 0, .int .u8 0, .int .u8 0, .int .u8 0, .int .u8 0, .int .u8 0, .int .u8 0, .int .u8 0, .int .u8 0, .int .u8 0, .int .u8 0, .int .u8 0] 41] w148 := H150
  refine GL.semU (j := 12) r149 [1, 2, 3, 5] [(1, pt p3 0), (2, pt p7 0), (3, pt p13 0), (5, .int .i64 9)] (by kernel_rfl) rfl rfl rfl ?_
  refine GL.k rfl hK143 (fun _ _ h => h) ?_
  refine G.region ?_
  refine GL.run (j := 2) 2 [1, 2, 3, 5] [(1, pt p3 0), (2, pt p7 0), (3, pt p13 0), (5, .int .i64 10)] (by kernel_rfl) rfl ?_
  refine GL.round rfl ?_
  refine G.seqK fun K151 hK152 => ?_
  refine G.region ?_
  refine GL.run (j := 1) 1 [1, 2, 3, 5, 6] [(1, pt p3 0), (2, pt p7 0), (3, pt p13 0), (5, .int .i64 10), (6, .bool true)] (by kernel_rfl) rfl ?_
  refine GL.k rfl hK152 (fun _ _ h => h) ?_
  refine G.seqK fun K153 hK154 => ?_
  refine G.yes rfl ?_
  refine G.skipK hK154 (fun _ _ h => h) ?_
  refine G.seqK fun K155 hK156 => ?_
  refine G.block ?_
  refine G.seqK fun K157 hK158 => ?_
  refine G.region ?_
  refine GL.run (j := 2) 2 [1, 2, 3, 4, 5] [(1, pt p3 0), (2, pt p7 0), (3, pt p13 0), (4, .int .i64 10), (5, .int .i64 10)] (by kernel_rfl) rfl ?_
  refine GL.k rfl hK158 (fun _ _ h => h) ?_
  refine G.region ?_
  refine GL.run (j := 4) 4 [1, 2, 3, 4, 5, 8, 11] [(1, pt p3 0), (2, pt p7 0), (3, pt p13 0), (4, .int .i64 10), (5, .int .i64 10), (8, .int .i64 10), (11, pt p3 1)] (by kernel_rfl) rfl ?_
  refine GL.sem (j := 5) (H150.ld (o := 1) (ty := 22) (v := .int .u64 (wd x 1 : Int)) 0 rfl (by kernel_rfl) rfl) [1, 2, 3, 4, 5, 8, 12] [(1, pt p3 0), (2, pt p7 0), (3, pt p13 0), (4, .int .i64 10), (5, .int .i64 10), (8, .int .i64 10), (12, .int .u64 (wd x 1 : Int))] (by kernel_rfl) (by kernel_rfl) rfl ?_
  refine GL.run (j := 11) 6 [1, 2, 3, 5, 17, 18] [(1, pt p3 0), (2, pt p7 0), (3, pt p13 0), (5, .int .i64 10), (17, .int .u8 (IntKind.u8.wrap (Int.fdiv (wd x 1 : Int) (2 ^ 16)))), (18, pt p13 10)] (by kernel_rfl) rfl ?_
  have e159 : (Int.fdiv (wd x 1 : Int) (2 ^ 16)) = (((wd x 1) / 2 ^ 16 : Nat) : Int) := n_shr _ 16
  have e160 : (IntKind.u8.wrap (((wd x 1) / 2 ^ 16 : Nat) : Int)) = ((bt x 10 : Nat) : Int) := (n_u8 _).trans (congrArg _ (bt_wd x (j := 1) (k := 2) (by decide) (by decide)))
  refine GL.eq (M' := [(1, pt p3 0), (2, pt p7 0), (3, pt p13 0), (5, .int .i64 10), (17, .int .u8 ((bt x 10 : Nat) : Int)), (18, pt p13 10)]) (by rw [e159, e160]) ?_
  clear e159 e160
  obtain ⟨w161, r162, H163⟩ := H150.st (P := Try.prog) (o := 10) (ty := 5) (v := .int .u8 ((bt x 10 : Nat) : Int)) 2 rfl (by kernel_rfl) (by simp) rfl
  have H163 : Hp w [] [.blk p3 (wl x) 24, .blk p7 [.int .u8 0, .int .u8 0, .int .u8 0, .int .u8 0, .int .u8 0, .int .u8 0, .int .u8 0, .int .u8 0, .int .u8 0, .int .u8 0, .int .u8 0, .int .u8 0, .int .u8 0, .int .u8 0, .int .u8 0, .int .u8 0, .int .u8 0, .int .u8 0, .int .u8 0, .int .u8 0, .int .u8 0, .int .u8 0, .int .u8 0, .int .u8 0, .int .u8 0, .int .u8 0, .int .u8 0, .int .u8 0, .int .u8 0, .int .u8 0, .int .u8 0, .int .u8 0] 41, .blk p13 [.int .u8 ((bt x 0 : Nat) : Int), .int .u8 ((bt x 1 : Nat) : Int), .int .u8 ((bt x 2 : Nat) : Int), .int .u8 ((bt x 3 : Nat) : Int), .int .u8 ((bt x 4 : Nat) : Int), .int .u8 ((bt x 5 : Nat) : Int), .int .u8 ((bt x 6 : Nat) : Int), .int .u8 ((bt x 7 : Nat) : Int), .int .u8 ((bt x 8 : Nat) : Int), .int .u8 ((bt x 9 : Nat) : Int), .int .u8 ((bt x 10 : Nat) : Int), .int .u8 0, .int .u8 0, .int .u8 0, .int .u8 0, .int .u8 0, .int .u8 0, .int .u8 0, .int .u8 0, .int .u8 0, .int .u8 0, .int .u8 0, .int .u8 0, .int .u8 0, .int .u8 0, .int .u8 0, .int .u8 0, .int .u8 0, .int .u8 0, .int .u8 0, .int .u8 0, .int .u8 0] 41] w161 := H163
  refine GL.semU (j := 12) r162 [1, 2, 3, 5] [(1, pt p3 0), (2, pt p7 0), (3, pt p13 0), (5, .int .i64 10)] (by kernel_rfl) rfl rfl rfl ?_
  refine GL.k rfl hK156 (fun _ _ h => h) ?_
  refine G.region ?_
  refine GL.run (j := 2) 2 [1, 2, 3, 5] [(1, pt p3 0), (2, pt p7 0), (3, pt p13 0), (5, .int .i64 11)] (by kernel_rfl) rfl ?_
  refine GL.round rfl ?_
  refine G.seqK fun K164 hK165 => ?_
  refine G.region ?_
  refine GL.run (j := 1) 1 [1, 2, 3, 5, 6] [(1, pt p3 0), (2, pt p7 0), (3, pt p13 0), (5, .int .i64 11), (6, .bool true)] (by kernel_rfl) rfl ?_
  refine GL.k rfl hK165 (fun _ _ h => h) ?_
  refine G.seqK fun K166 hK167 => ?_
  refine G.yes rfl ?_
  refine G.skipK hK167 (fun _ _ h => h) ?_
  refine G.seqK fun K168 hK169 => ?_
  refine G.block ?_
  refine G.seqK fun K170 hK171 => ?_
  refine G.region ?_
  refine GL.run (j := 2) 2 [1, 2, 3, 4, 5] [(1, pt p3 0), (2, pt p7 0), (3, pt p13 0), (4, .int .i64 11), (5, .int .i64 11)] (by kernel_rfl) rfl ?_
  refine GL.k rfl hK171 (fun _ _ h => h) ?_
  refine G.region ?_
  refine GL.run (j := 4) 4 [1, 2, 3, 4, 5, 8, 11] [(1, pt p3 0), (2, pt p7 0), (3, pt p13 0), (4, .int .i64 11), (5, .int .i64 11), (8, .int .i64 11), (11, pt p3 1)] (by kernel_rfl) rfl ?_
  refine GL.sem (j := 5) (H163.ld (o := 1) (ty := 22) (v := .int .u64 (wd x 1 : Int)) 0 rfl (by kernel_rfl) rfl) [1, 2, 3, 4, 5, 8, 12] [(1, pt p3 0), (2, pt p7 0), (3, pt p13 0), (4, .int .i64 11), (5, .int .i64 11), (8, .int .i64 11), (12, .int .u64 (wd x 1 : Int))] (by kernel_rfl) (by kernel_rfl) rfl ?_
  refine GL.run (j := 11) 6 [1, 2, 3, 5, 17, 18] [(1, pt p3 0), (2, pt p7 0), (3, pt p13 0), (5, .int .i64 11), (17, .int .u8 (IntKind.u8.wrap (Int.fdiv (wd x 1 : Int) (2 ^ 24)))), (18, pt p13 11)] (by kernel_rfl) rfl ?_
  have e172 : (Int.fdiv (wd x 1 : Int) (2 ^ 24)) = (((wd x 1) / 2 ^ 24 : Nat) : Int) := n_shr _ 24
  have e173 : (IntKind.u8.wrap (((wd x 1) / 2 ^ 24 : Nat) : Int)) = ((bt x 11 : Nat) : Int) := (n_u8 _).trans (congrArg _ (bt_wd x (j := 1) (k := 3) (by decide) (by decide)))
  refine GL.eq (M' := [(1, pt p3 0), (2, pt p7 0), (3, pt p13 0), (5, .int .i64 11), (17, .int .u8 ((bt x 11 : Nat) : Int)), (18, pt p13 11)]) (by rw [e172, e173]) ?_
  clear e172 e173
  obtain ⟨w174, r175, H176⟩ := H163.st (P := Try.prog) (o := 11) (ty := 5) (v := .int .u8 ((bt x 11 : Nat) : Int)) 2 rfl (by kernel_rfl) (by simp) rfl
  have H176 : Hp w [] [.blk p3 (wl x) 24, .blk p7 [.int .u8 0, .int .u8 0, .int .u8 0, .int .u8 0, .int .u8 0, .int .u8 0, .int .u8 0, .int .u8 0, .int .u8 0, .int .u8 0, .int .u8 0, .int .u8 0, .int .u8 0, .int .u8 0, .int .u8 0, .int .u8 0, .int .u8 0, .int .u8 0, .int .u8 0, .int .u8 0, .int .u8 0, .int .u8 0, .int .u8 0, .int .u8 0, .int .u8 0, .int .u8 0, .int .u8 0, .int .u8 0, .int .u8 0, .int .u8 0, .int .u8 0, .int .u8 0] 41, .blk p13 [.int .u8 ((bt x 0 : Nat) : Int), .int .u8 ((bt x 1 : Nat) : Int), .int .u8 ((bt x 2 : Nat) : Int), .int .u8 ((bt x 3 : Nat) : Int), .int .u8 ((bt x 4 : Nat) : Int), .int .u8 ((bt x 5 : Nat) : Int), .int .u8 ((bt x 6 : Nat) : Int), .int .u8 ((bt x 7 : Nat) : Int), .int .u8 ((bt x 8 : Nat) : Int), .int .u8 ((bt x 9 : Nat) : Int), .int .u8 ((bt x 10 : Nat) : Int), .int .u8 ((bt x 11 : Nat) : Int), .int .u8 0, .int .u8 0, .int .u8 0, .int .u8 0, .int .u8 0, .int .u8 0, .int .u8 0, .int .u8 0, .int .u8 0, .int .u8 0, .int .u8 0, .int .u8 0, .int .u8 0, .int .u8 0, .int .u8 0, .int .u8 0, .int .u8 0, .int .u8 0, .int .u8 0, .int .u8 0] 41] w174 := H176
  refine GL.semU (j := 12) r175 [1, 2, 3, 5] [(1, pt p3 0), (2, pt p7 0), (3, pt p13 0), (5, .int .i64 11)] (by kernel_rfl) rfl rfl rfl ?_
  refine GL.k rfl hK169 (fun _ _ h => h) ?_
  refine G.region ?_
  refine GL.run (j := 2) 2 [1, 2, 3, 5] [(1, pt p3 0), (2, pt p7 0), (3, pt p13 0), (5, .int .i64 12)] (by kernel_rfl) rfl ?_
  refine GL.round rfl ?_
  refine G.seqK fun K177 hK178 => ?_
  refine G.region ?_
  refine GL.run (j := 1) 1 [1, 2, 3, 5, 6] [(1, pt p3 0), (2, pt p7 0), (3, pt p13 0), (5, .int .i64 12), (6, .bool true)] (by kernel_rfl) rfl ?_
  refine GL.k rfl hK178 (fun _ _ h => h) ?_
  refine G.seqK fun K179 hK180 => ?_
  refine G.yes rfl ?_
  refine G.skipK hK180 (fun _ _ h => h) ?_
  refine G.seqK fun K181 hK182 => ?_
  refine G.block ?_
  refine G.seqK fun K183 hK184 => ?_
  refine G.region ?_
  refine GL.run (j := 2) 2 [1, 2, 3, 4, 5] [(1, pt p3 0), (2, pt p7 0), (3, pt p13 0), (4, .int .i64 12), (5, .int .i64 12)] (by kernel_rfl) rfl ?_
  refine GL.k rfl hK184 (fun _ _ h => h) ?_
  refine G.region ?_
  refine GL.run (j := 4) 4 [1, 2, 3, 4, 5, 8, 11] [(1, pt p3 0), (2, pt p7 0), (3, pt p13 0), (4, .int .i64 12), (5, .int .i64 12), (8, .int .i64 12), (11, pt p3 1)] (by kernel_rfl) rfl ?_
  refine GL.sem (j := 5) (H176.ld (o := 1) (ty := 22) (v := .int .u64 (wd x 1 : Int)) 0 rfl (by kernel_rfl) rfl) [1, 2, 3, 4, 5, 8, 12] [(1, pt p3 0), (2, pt p7 0), (3, pt p13 0), (4, .int .i64 12), (5, .int .i64 12), (8, .int .i64 12), (12, .int .u64 (wd x 1 : Int))] (by kernel_rfl) (by kernel_rfl) rfl ?_
  refine GL.run (j := 11) 6 [1, 2, 3, 5, 17, 18] [(1, pt p3 0), (2, pt p7 0), (3, pt p13 0), (5, .int .i64 12), (17, .int .u8 (IntKind.u8.wrap (Int.fdiv (wd x 1 : Int) (2 ^ 32)))), (18, pt p13 12)] (by kernel_rfl) rfl ?_
  have e185 : (Int.fdiv (wd x 1 : Int) (2 ^ 32)) = (((wd x 1) / 2 ^ 32 : Nat) : Int) := n_shr _ 32
  have e186 : (IntKind.u8.wrap (((wd x 1) / 2 ^ 32 : Nat) : Int)) = ((bt x 12 : Nat) : Int) := (n_u8 _).trans (congrArg _ (bt_wd x (j := 1) (k := 4) (by decide) (by decide)))
  refine GL.eq (M' := [(1, pt p3 0), (2, pt p7 0), (3, pt p13 0), (5, .int .i64 12), (17, .int .u8 ((bt x 12 : Nat) : Int)), (18, pt p13 12)]) (by rw [e185, e186]) ?_
  clear e185 e186
  obtain ⟨w187, r188, H189⟩ := H176.st (P := Try.prog) (o := 12) (ty := 5) (v := .int .u8 ((bt x 12 : Nat) : Int)) 2 rfl (by kernel_rfl) (by simp) rfl
  have H189 : Hp w [] [.blk p3 (wl x) 24, .blk p7 [.int .u8 0, .int .u8 0, .int .u8 0, .int .u8 0, .int .u8 0, .int .u8 0, .int .u8 0, .int .u8 0, .int .u8 0, .int .u8 0, .int .u8 0, .int .u8 0, .int .u8 0, .int .u8 0, .int .u8 0, .int .u8 0, .int .u8 0, .int .u8 0, .int .u8 0, .int .u8 0, .int .u8 0, .int .u8 0, .int .u8 0, .int .u8 0, .int .u8 0, .int .u8 0, .int .u8 0, .int .u8 0, .int .u8 0, .int .u8 0, .int .u8 0, .int .u8 0] 41, .blk p13 [.int .u8 ((bt x 0 : Nat) : Int), .int .u8 ((bt x 1 : Nat) : Int), .int .u8 ((bt x 2 : Nat) : Int), .int .u8 ((bt x 3 : Nat) : Int), .int .u8 ((bt x 4 : Nat) : Int), .int .u8 ((bt x 5 : Nat) : Int), .int .u8 ((bt x 6 : Nat) : Int), .int .u8 ((bt x 7 : Nat) : Int), .int .u8 ((bt x 8 : Nat) : Int), .int .u8 ((bt x 9 : Nat) : Int), .int .u8 ((bt x 10 : Nat) : Int), .int .u8 ((bt x 11 : Nat) : Int), .int .u8 ((bt x 12 : Nat) : Int), .int .u8 0, .int .u8 0, .int .u8 0, .int .u8 0, .int .u8 0, .int .u8 0, .int .u8 0, .int .u8 0, .int .u8 0, .int .u8 0, .int .u8 0, .int .u8 0, .int .u8 0, .int .u8 0, .int .u8 0, .int .u8 0, .int .u8 0, .int .u8 0, .int .u8 0] 41] w187 := H189
  refine GL.semU (j := 12) r188 [1, 2, 3, 5] [(1, pt p3 0), (2, pt p7 0), (3, pt p13 0), (5, .int .i64 12)] (by kernel_rfl) rfl rfl rfl ?_
  refine GL.k rfl hK182 (fun _ _ h => h) ?_
  refine G.region ?_
  refine GL.run (j := 2) 2 [1, 2, 3, 5] [(1, pt p3 0), (2, pt p7 0), (3, pt p13 0), (5, .int .i64 13)] (by kernel_rfl) rfl ?_
  refine GL.round rfl ?_
  refine G.seqK fun K190 hK191 => ?_
  refine G.region ?_
  refine GL.run (j := 1) 1 [1, 2, 3, 5, 6] [(1, pt p3 0), (2, pt p7 0), (3, pt p13 0), (5, .int .i64 13), (6, .bool true)] (by kernel_rfl) rfl ?_
  refine GL.k rfl hK191 (fun _ _ h => h) ?_
  refine G.seqK fun K192 hK193 => ?_
  refine G.yes rfl ?_
  refine G.skipK hK193 (fun _ _ h => h) ?_
  refine G.seqK fun K194 hK195 => ?_
  refine G.block ?_
  refine G.seqK fun K196 hK197 => ?_
  refine G.region ?_
  refine GL.run (j := 2) 2 [1, 2, 3, 4, 5] [(1, pt p3 0), (2, pt p7 0), (3, pt p13 0), (4, .int .i64 13), (5, .int .i64 13)] (by kernel_rfl) rfl ?_
  refine GL.k rfl hK197 (fun _ _ h => h) ?_
  refine G.region ?_
  refine GL.run (j := 4) 4 [1, 2, 3, 4, 5, 8, 11] [(1, pt p3 0), (2, pt p7 0), (3, pt p13 0), (4, .int .i64 13), (5, .int .i64 13), (8, .int .i64 13), (11, pt p3 1)] (by kernel_rfl) rfl ?_
  refine GL.sem (j := 5) (H189.ld (o := 1) (ty := 22) (v := .int .u64 (wd x 1 : Int)) 0 rfl (by kernel_rfl) rfl) [1, 2, 3, 4, 5, 8, 12] [(1, pt p3 0), (2, pt p7 0), (3, pt p13 0), (4, .int .i64 13), (5, .int .i64 13), (8, .int .i64 13), (12, .int .u64 (wd x 1 : Int))] (by kernel_rfl) (by kernel_rfl) rfl ?_
  refine GL.run (j := 11) 6 [1, 2, 3, 5, 17, 18] [(1, pt p3 0), (2, pt p7 0), (3, pt p13 0), (5, .int .i64 13), (17, .int .u8 (IntKind.u8.wrap (Int.fdiv (wd x 1 : Int) (2 ^ 40)))), (18, pt p13 13)] (by kernel_rfl) rfl ?_
  have e198 : (Int.fdiv (wd x 1 : Int) (2 ^ 40)) = (((wd x 1) / 2 ^ 40 : Nat) : Int) := n_shr _ 40
  have e199 : (IntKind.u8.wrap (((wd x 1) / 2 ^ 40 : Nat) : Int)) = ((bt x 13 : Nat) : Int) := (n_u8 _).trans (congrArg _ (bt_wd x (j := 1) (k := 5) (by decide) (by decide)))
  refine GL.eq (M' := [(1, pt p3 0), (2, pt p7 0), (3, pt p13 0), (5, .int .i64 13), (17, .int .u8 ((bt x 13 : Nat) : Int)), (18, pt p13 13)]) (by rw [e198, e199]) ?_
  clear e198 e199
  obtain ⟨w200, r201, H202⟩ := H189.st (P := Try.prog) (o := 13) (ty := 5) (v := .int .u8 ((bt x 13 : Nat) : Int)) 2 rfl (by kernel_rfl) (by simp) rfl
  have H202 : Hp w [] [.blk p3 (wl x) 24, .blk p7 [.int .u8 0, .int .u8 0, .int .u8 0, .int .u8 0, .int .u8 0, .int .u8 0, .int .u8 0, .int .u8 0, .int .u8 0, .int .u8 0, .int .u8 0, .int .u8 0, .int .u8 0, .int .u8 0, .int .u8 0, .int .u8 0, .int .u8 0, .int .u8 0, .int .u8 0, .int .u8 0, .int .u8 0, .int .u8 0, .int .u8 0, .int .u8 0, .int .u8 0, .int .u8 0, .int .u8 0, .int .u8 0, .int .u8 0, .int .u8 0, .int .u8 0, .int .u8 0] 41, .blk p13 [.int .u8 ((bt x 0 : Nat) : Int), .int .u8 ((bt x 1 : Nat) : Int), .int .u8 ((bt x 2 : Nat) : Int), .int .u8 ((bt x 3 : Nat) : Int), .int .u8 ((bt x 4 : Nat) : Int), .int .u8 ((bt x 5 : Nat) : Int), .int .u8 ((bt x 6 : Nat) : Int), .int .u8 ((bt x 7 : Nat) : Int), .int .u8 ((bt x 8 : Nat) : Int), .int .u8 ((bt x 9 : Nat) : Int), .int .u8 ((bt x 10 : Nat) : Int), .int .u8 ((bt x 11 : Nat) : Int), .int .u8 ((bt x 12 : Nat) : Int), .int .u8 ((bt x 13 : Nat) : Int), .int .u8 0, .int .u8 0, .int .u8 0, .int .u8 0, .int .u8 0, .int .u8 0, .int .u8 0, .int .u8 0, .int .u8 0, .int .u8 0, .int .u8 0, .int .u8 0, .int .u8 0, .int .u8 0, .int .u8 0, .int .u8 0, .int .u8 0, .int .u8 0] 41] w200 := H202
  refine GL.semU (j := 12) r201 [1, 2, 3, 5] [(1, pt p3 0), (2, pt p7 0), (3, pt p13 0), (5, .int .i64 13)] (by kernel_rfl) rfl rfl rfl ?_
  refine GL.k rfl hK195 (fun _ _ h => h) ?_
  refine G.region ?_
  refine GL.run (j := 2) 2 [1, 2, 3, 5] [(1, pt p3 0), (2, pt p7 0), (3, pt p13 0), (5, .int .i64 14)] (by kernel_rfl) rfl ?_
  refine GL.round rfl ?_
  refine G.seqK fun K203 hK204 => ?_
  refine G.region ?_
  refine GL.run (j := 1) 1 [1, 2, 3, 5, 6] [(1, pt p3 0), (2, pt p7 0), (3, pt p13 0), (5, .int .i64 14), (6, .bool true)] (by kernel_rfl) rfl ?_
  refine GL.k rfl hK204 (fun _ _ h => h) ?_
  refine G.seqK fun K205 hK206 => ?_
  refine G.yes rfl ?_
  refine G.skipK hK206 (fun _ _ h => h) ?_
  refine G.seqK fun K207 hK208 => ?_
  refine G.block ?_
  refine G.seqK fun K209 hK210 => ?_
  refine G.region ?_
  refine GL.run (j := 2) 2 [1, 2, 3, 4, 5] [(1, pt p3 0), (2, pt p7 0), (3, pt p13 0), (4, .int .i64 14), (5, .int .i64 14)] (by kernel_rfl) rfl ?_
  refine GL.k rfl hK210 (fun _ _ h => h) ?_
  refine G.region ?_
  refine GL.run (j := 4) 4 [1, 2, 3, 4, 5, 8, 11] [(1, pt p3 0), (2, pt p7 0), (3, pt p13 0), (4, .int .i64 14), (5, .int .i64 14), (8, .int .i64 14), (11, pt p3 1)] (by kernel_rfl) rfl ?_
  refine GL.sem (j := 5) (H202.ld (o := 1) (ty := 22) (v := .int .u64 (wd x 1 : Int)) 0 rfl (by kernel_rfl) rfl) [1, 2, 3, 4, 5, 8, 12] [(1, pt p3 0), (2, pt p7 0), (3, pt p13 0), (4, .int .i64 14), (5, .int .i64 14), (8, .int .i64 14), (12, .int .u64 (wd x 1 : Int))] (by kernel_rfl) (by kernel_rfl) rfl ?_
  refine GL.run (j := 11) 6 [1, 2, 3, 5, 17, 18] [(1, pt p3 0), (2, pt p7 0), (3, pt p13 0), (5, .int .i64 14), (17, .int .u8 (IntKind.u8.wrap (Int.fdiv (wd x 1 : Int) (2 ^ 48)))), (18, pt p13 14)] (by kernel_rfl) rfl ?_
  have e211 : (Int.fdiv (wd x 1 : Int) (2 ^ 48)) = (((wd x 1) / 2 ^ 48 : Nat) : Int) := n_shr _ 48
  have e212 : (IntKind.u8.wrap (((wd x 1) / 2 ^ 48 : Nat) : Int)) = ((bt x 14 : Nat) : Int) := (n_u8 _).trans (congrArg _ (bt_wd x (j := 1) (k := 6) (by decide) (by decide)))
  refine GL.eq (M' := [(1, pt p3 0), (2, pt p7 0), (3, pt p13 0), (5, .int .i64 14), (17, .int .u8 ((bt x 14 : Nat) : Int)), (18, pt p13 14)]) (by rw [e211, e212]) ?_
  clear e211 e212
  obtain ⟨w213, r214, H215⟩ := H202.st (P := Try.prog) (o := 14) (ty := 5) (v := .int .u8 ((bt x 14 : Nat) : Int)) 2 rfl (by kernel_rfl) (by simp) rfl
  have H215 : Hp w [] [.blk p3 (wl x) 24, .blk p7 [.int .u8 0, .int .u8 0, .int .u8 0, .int .u8 0, .int .u8 0, .int .u8 0, .int .u8 0, .int .u8 0, .int .u8 0, .int .u8 0, .int .u8 0, .int .u8 0, .int .u8 0, .int .u8 0, .int .u8 0, .int .u8 0, .int .u8 0, .int .u8 0, .int .u8 0, .int .u8 0, .int .u8 0, .int .u8 0, .int .u8 0, .int .u8 0, .int .u8 0, .int .u8 0, .int .u8 0, .int .u8 0, .int .u8 0, .int .u8 0, .int .u8 0, .int .u8 0] 41, .blk p13 [.int .u8 ((bt x 0 : Nat) : Int), .int .u8 ((bt x 1 : Nat) : Int), .int .u8 ((bt x 2 : Nat) : Int), .int .u8 ((bt x 3 : Nat) : Int), .int .u8 ((bt x 4 : Nat) : Int), .int .u8 ((bt x 5 : Nat) : Int), .int .u8 ((bt x 6 : Nat) : Int), .int .u8 ((bt x 7 : Nat) : Int), .int .u8 ((bt x 8 : Nat) : Int), .int .u8 ((bt x 9 : Nat) : Int), .int .u8 ((bt x 10 : Nat) : Int), .int .u8 ((bt x 11 : Nat) : Int), .int .u8 ((bt x 12 : Nat) : Int), .int .u8 ((bt x 13 : Nat) : Int), .int .u8 ((bt x 14 : Nat) : Int), .int .u8 0, .int .u8 0, .int .u8 0, .int .u8 0, .int .u8 0, .int .u8 0, .int .u8 0, .int .u8 0, .int .u8 0, .int .u8 0, .int .u8 0, .int .u8 0, .int .u8 0, .int .u8 0, .int .u8 0, .int .u8 0, .int .u8 0] 41] w213 := H215
  refine GL.semU (j := 12) r214 [1, 2, 3, 5] [(1, pt p3 0), (2, pt p7 0), (3, pt p13 0), (5, .int .i64 14)] (by kernel_rfl) rfl rfl rfl ?_
  refine GL.k rfl hK208 (fun _ _ h => h) ?_
  refine G.region ?_
  refine GL.run (j := 2) 2 [1, 2, 3, 5] [(1, pt p3 0), (2, pt p7 0), (3, pt p13 0), (5, .int .i64 15)] (by kernel_rfl) rfl ?_
  refine GL.round rfl ?_
  refine G.seqK fun K216 hK217 => ?_
  refine G.region ?_
  refine GL.run (j := 1) 1 [1, 2, 3, 5, 6] [(1, pt p3 0), (2, pt p7 0), (3, pt p13 0), (5, .int .i64 15), (6, .bool true)] (by kernel_rfl) rfl ?_
  refine GL.k rfl hK217 (fun _ _ h => h) ?_
  refine G.seqK fun K218 hK219 => ?_
  refine G.yes rfl ?_
  refine G.skipK hK219 (fun _ _ h => h) ?_
  refine G.seqK fun K220 hK221 => ?_
  refine G.block ?_
  refine G.seqK fun K222 hK223 => ?_
  refine G.region ?_
  refine GL.run (j := 2) 2 [1, 2, 3, 4, 5] [(1, pt p3 0), (2, pt p7 0), (3, pt p13 0), (4, .int .i64 15), (5, .int .i64 15)] (by kernel_rfl) rfl ?_
  refine GL.k rfl hK223 (fun _ _ h => h) ?_
  refine G.region ?_
  refine GL.run (j := 4) 4 [1, 2, 3, 4, 5, 8, 11] [(1, pt p3 0), (2, pt p7 0), (3, pt p13 0), (4, .int .i64 15), (5, .int .i64 15), (8, .int .i64 15), (11, pt p3 1)] (by kernel_rfl) rfl ?_
  refine GL.sem (j := 5) (H215.ld (o := 1) (ty := 22) (v := .int .u64 (wd x 1 : Int)) 0 rfl (by kernel_rfl) rfl) [1, 2, 3, 4, 5, 8, 12] [(1, pt p3 0), (2, pt p7 0), (3, pt p13 0), (4, .int .i64 15), (5, .int .i64 15), (8, .int .i64 15), (12, .int .u64 (wd x 1 : Int))] (by kernel_rfl) (by kernel_rfl) rfl ?_
  refine GL.run (j := 11) 6 [1, 2, 3, 5, 17, 18] [(1, pt p3 0), (2, pt p7 0), (3, pt p13 0), (5, .int .i64 15), (17, .int .u8 (IntKind.u8.wrap (Int.fdiv (wd x 1 : Int) (2 ^ 56)))), (18, pt p13 15)] (by kernel_rfl) rfl ?_
  have e224 : (Int.fdiv (wd x 1 : Int) (2 ^ 56)) = (((wd x 1) / 2 ^ 56 : Nat) : Int) := n_shr _ 56
  have e225 : (IntKind.u8.wrap (((wd x 1) / 2 ^ 56 : Nat) : Int)) = ((bt x 15 : Nat) : Int) := (n_u8 _).trans (congrArg _ (bt_wd x (j := 1) (k := 7) (by decide) (by decide)))
  refine GL.eq (M' := [(1, pt p3 0), (2, pt p7 0), (3, pt p13 0), (5, .int .i64 15), (17, .int .u8 ((bt x 15 : Nat) : Int)), (18, pt p13 15)]) (by rw [e224, e225]) ?_
  clear e224 e225
  obtain ⟨w226, r227, H228⟩ := H215.st (P := Try.prog) (o := 15) (ty := 5) (v := .int .u8 ((bt x 15 : Nat) : Int)) 2 rfl (by kernel_rfl) (by simp) rfl
  have H228 : Hp w [] [.blk p3 (wl x) 24, .blk p7 [.int .u8 0, .int .u8 0, .int .u8 0, .int .u8 0, .int .u8 0, .int .u8 0, .int .u8 0, .int .u8 0, .int .u8 0, .int .u8 0, .int .u8 0, .int .u8 0, .int .u8 0, .int .u8 0, .int .u8 0, .int .u8 0, .int .u8 0, .int .u8 0, .int .u8 0, .int .u8 0, .int .u8 0, .int .u8 0, .int .u8 0, .int .u8 0, .int .u8 0, .int .u8 0, .int .u8 0, .int .u8 0, .int .u8 0, .int .u8 0, .int .u8 0, .int .u8 0] 41, .blk p13 [.int .u8 ((bt x 0 : Nat) : Int), .int .u8 ((bt x 1 : Nat) : Int), .int .u8 ((bt x 2 : Nat) : Int), .int .u8 ((bt x 3 : Nat) : Int), .int .u8 ((bt x 4 : Nat) : Int), .int .u8 ((bt x 5 : Nat) : Int), .int .u8 ((bt x 6 : Nat) : Int), .int .u8 ((bt x 7 : Nat) : Int), .int .u8 ((bt x 8 : Nat) : Int), .int .u8 ((bt x 9 : Nat) : Int), .int .u8 ((bt x 10 : Nat) : Int), .int .u8 ((bt x 11 : Nat) : Int), .int .u8 ((bt x 12 : Nat) : Int), .int .u8 ((bt x 13 : Nat) : Int), .int .u8 ((bt x 14 : Nat) : Int), .int .u8 ((bt x 15 : Nat) : Int), .int .u8 0, .int .u8 0, .int .u8 0, .int .u8 0, .int .u8 0, .int .u8 0, .int .u8 0, .int .u8 0, .int .u8 0, .int .u8 0, .int .u8 0, .int .u8 0, .int .u8 0, .int .u8 0, .int .u8 0, .int .u8 0] 41] w226 := H228
  refine GL.semU (j := 12) r227 [1, 2, 3, 5] [(1, pt p3 0), (2, pt p7 0), (3, pt p13 0), (5, .int .i64 15)] (by kernel_rfl) rfl rfl rfl ?_
  refine GL.k rfl hK221 (fun _ _ h => h) ?_
  refine G.region ?_
  refine GL.run (j := 2) 2 [1, 2, 3, 5] [(1, pt p3 0), (2, pt p7 0), (3, pt p13 0), (5, .int .i64 16)] (by kernel_rfl) rfl ?_
  refine GL.round rfl ?_
  refine G.seqK fun K229 hK230 => ?_
  refine G.region ?_
  refine GL.run (j := 1) 1 [1, 2, 3, 5, 6] [(1, pt p3 0), (2, pt p7 0), (3, pt p13 0), (5, .int .i64 16), (6, .bool true)] (by kernel_rfl) rfl ?_
  refine GL.k rfl hK230 (fun _ _ h => h) ?_
  refine G.seqK fun K231 hK232 => ?_
  refine G.yes rfl ?_
  refine G.skipK hK232 (fun _ _ h => h) ?_
  refine G.seqK fun K233 hK234 => ?_
  refine G.block ?_
  refine G.seqK fun K235 hK236 => ?_
  refine G.region ?_
  refine GL.run (j := 2) 2 [1, 2, 3, 4, 5] [(1, pt p3 0), (2, pt p7 0), (3, pt p13 0), (4, .int .i64 16), (5, .int .i64 16)] (by kernel_rfl) rfl ?_
  refine GL.k rfl hK236 (fun _ _ h => h) ?_
  refine G.region ?_
  refine GL.run (j := 4) 4 [1, 2, 3, 4, 5, 8, 11] [(1, pt p3 0), (2, pt p7 0), (3, pt p13 0), (4, .int .i64 16), (5, .int .i64 16), (8, .int .i64 16), (11, pt p3 2)] (by kernel_rfl) rfl ?_
  refine GL.sem (j := 5) (H228.ld (o := 2) (ty := 22) (v := .int .u64 (wd x 2 : Int)) 0 rfl (by kernel_rfl) rfl) [1, 2, 3, 4, 5, 8, 12] [(1, pt p3 0), (2, pt p7 0), (3, pt p13 0), (4, .int .i64 16), (5, .int .i64 16), (8, .int .i64 16), (12, .int .u64 (wd x 2 : Int))] (by kernel_rfl) (by kernel_rfl) rfl ?_
  refine GL.run (j := 11) 6 [1, 2, 3, 5, 17, 18] [(1, pt p3 0), (2, pt p7 0), (3, pt p13 0), (5, .int .i64 16), (17, .int .u8 (IntKind.u8.wrap (Int.fdiv (wd x 2 : Int) (2 ^ 0)))), (18, pt p13 16)] (by kernel_rfl) rfl ?_
  have e237 : (Int.fdiv (wd x 2 : Int) (2 ^ 0)) = (((wd x 2) / 2 ^ 0 : Nat) : Int) := n_shr _ 0
  have e238 : (IntKind.u8.wrap (((wd x 2) / 2 ^ 0 : Nat) : Int)) = ((bt x 16 : Nat) : Int) := (n_u8 _).trans (congrArg _ (bt_wd x (j := 2) (k := 0) (by decide) (by decide)))
  refine GL.eq (M' := [(1, pt p3 0), (2, pt p7 0), (3, pt p13 0), (5, .int .i64 16), (17, .int .u8 ((bt x 16 : Nat) : Int)), (18, pt p13 16)]) (by rw [e237, e238]) ?_
  clear e237 e238
  obtain ⟨w239, r240, H241⟩ := H228.st (P := Try.prog) (o := 16) (ty := 5) (v := .int .u8 ((bt x 16 : Nat) : Int)) 2 rfl (by kernel_rfl) (by simp) rfl
  have H241 : Hp w [] [.blk p3 (wl x) 24, .blk p7 [.int .u8 0, .int .u8 0, .int .u8 0, .int .u8 0, .int .u8 0, .int .u8 0, .int .u8 0, .int .u8 0, .int .u8 0, .int .u8 0, .int .u8 0, .int .u8 0, .int .u8 0, .int .u8 0, .int .u8 0, .int .u8 0, .int .u8 0, .int .u8 0, .int .u8 0, .int .u8 0, .int .u8 0, .int .u8 0, .int .u8 0, .int .u8 0, .int .u8 0, .int .u8 0, .int .u8 0, .int .u8 0, .int .u8 0, .int .u8 0, .int .u8 0, .int .u8 0] 41, .blk p13 [.int .u8 ((bt x 0 : Nat) : Int), .int .u8 ((bt x 1 : Nat) : Int), .int .u8 ((bt x 2 : Nat) : Int), .int .u8 ((bt x 3 : Nat) : Int), .int .u8 ((bt x 4 : Nat) : Int), .int .u8 ((bt x 5 : Nat) : Int), .int .u8 ((bt x 6 : Nat) : Int), .int .u8 ((bt x 7 : Nat) : Int), .int .u8 ((bt x 8 : Nat) : Int), .int .u8 ((bt x 9 : Nat) : Int), .int .u8 ((bt x 10 : Nat) : Int), .int .u8 ((bt x 11 : Nat) : Int), .int .u8 ((bt x 12 : Nat) : Int), .int .u8 ((bt x 13 : Nat) : Int), .int .u8 ((bt x 14 : Nat) : Int), .int .u8 ((bt x 15 : Nat) : Int), .int .u8 ((bt x 16 : Nat) : Int), .int .u8 0, .int .u8 0, .int .u8 0, .int .u8 0, .int .u8 0, .int .u8 0, .int .u8 0, .int .u8 0, .int .u8 0, .int .u8 0, .int .u8 0, .int .u8 0, .int .u8 0, .int .u8 0, .int .u8 0] 41] w239 := H241
  refine GL.semU (j := 12) r240 [1, 2, 3, 5] [(1, pt p3 0), (2, pt p7 0), (3, pt p13 0), (5, .int .i64 16)] (by kernel_rfl) rfl rfl rfl ?_
  refine GL.k rfl hK234 (fun _ _ h => h) ?_
  refine G.region ?_
  refine GL.run (j := 2) 2 [1, 2, 3, 5] [(1, pt p3 0), (2, pt p7 0), (3, pt p13 0), (5, .int .i64 17)] (by kernel_rfl) rfl ?_
  refine GL.round rfl ?_
  refine G.seqK fun K242 hK243 => ?_
  refine G.region ?_
  refine GL.run (j := 1) 1 [1, 2, 3, 5, 6] [(1, pt p3 0), (2, pt p7 0), (3, pt p13 0), (5, .int .i64 17), (6, .bool true)] (by kernel_rfl) rfl ?_
  refine GL.k rfl hK243 (fun _ _ h => h) ?_
  refine G.seqK fun K244 hK245 => ?_
  refine G.yes rfl ?_
  refine G.skipK hK245 (fun _ _ h => h) ?_
  refine G.seqK fun K246 hK247 => ?_
  refine G.block ?_
  refine G.seqK fun K248 hK249 => ?_
  refine G.region ?_
  refine GL.run (j := 2) 2 [1, 2, 3, 4, 5] [(1, pt p3 0), (2, pt p7 0), (3, pt p13 0), (4, .int .i64 17), (5, .int .i64 17)] (by kernel_rfl) rfl ?_
  refine GL.k rfl hK249 (fun _ _ h => h) ?_
  refine G.region ?_
  refine GL.run (j := 4) 4 [1, 2, 3, 4, 5, 8, 11] [(1, pt p3 0), (2, pt p7 0), (3, pt p13 0), (4, .int .i64 17), (5, .int .i64 17), (8, .int .i64 17), (11, pt p3 2)] (by kernel_rfl) rfl ?_
  refine GL.sem (j := 5) (H241.ld (o := 2) (ty := 22) (v := .int .u64 (wd x 2 : Int)) 0 rfl (by kernel_rfl) rfl) [1, 2, 3, 4, 5, 8, 12] [(1, pt p3 0), (2, pt p7 0), (3, pt p13 0), (4, .int .i64 17), (5, .int .i64 17), (8, .int .i64 17), (12, .int .u64 (wd x 2 : Int))] (by kernel_rfl) (by kernel_rfl) rfl ?_
  refine GL.run (j := 11) 6 [1, 2, 3, 5, 17, 18] [(1, pt p3 0), (2, pt p7 0), (3, pt p13 0), (5, .int .i64 17), (17, .int .u8 (IntKind.u8.wrap (Int.fdiv (wd x 2 : Int) (2 ^ 8)))), (18, pt p13 17)] (by kernel_rfl) rfl ?_
  have e250 : (Int.fdiv (wd x 2 : Int) (2 ^ 8)) = (((wd x 2) / 2 ^ 8 : Nat) : Int) := n_shr _ 8
  have e251 : (IntKind.u8.wrap (((wd x 2) / 2 ^ 8 : Nat) : Int)) = ((bt x 17 : Nat) : Int) := (n_u8 _).trans (congrArg _ (bt_wd x (j := 2) (k := 1) (by decide) (by decide)))
  refine GL.eq (M' := [(1, pt p3 0), (2, pt p7 0), (3, pt p13 0), (5, .int .i64 17), (17, .int .u8 ((bt x 17 : Nat) : Int)), (18, pt p13 17)]) (by rw [e250, e251]) ?_
  clear e250 e251
  obtain ⟨w252, r253, H254⟩ := H241.st (P := Try.prog) (o := 17) (ty := 5) (v := .int .u8 ((bt x 17 : Nat) : Int)) 2 rfl (by kernel_rfl) (by simp) rfl
  have H254 : Hp w [] [.blk p3 (wl x) 24, .blk p7 [.int .u8 0, .int .u8 0, .int .u8 0, .int .u8 0, .int .u8 0, .int .u8 0, .int .u8 0, .int .u8 0, .int .u8 0, .int .u8 0, .int .u8 0, .int .u8 0, .int .u8 0, .int .u8 0, .int .u8 0, .int .u8 0, .int .u8 0, .int .u8 0, .int .u8 0, .int .u8 0, .int .u8 0, .int .u8 0, .int .u8 0, .int .u8 0, .int .u8 0, .int .u8 0, .int .u8 0, .int .u8 0, .int .u8 0, .int .u8 0, .int .u8 0, .int .u8 0] 41, .blk p13 [.int .u8 ((bt x 0 : Nat) : Int), .int .u8 ((bt x 1 : Nat) : Int), .int .u8 ((bt x 2 : Nat) : Int), .int .u8 ((bt x 3 : Nat) : Int), .int .u8 ((bt x 4 : Nat) : Int), .int .u8 ((bt x 5 : Nat) : Int), .int .u8 ((bt x 6 : Nat) : Int), .int .u8 ((bt x 7 : Nat) : Int), .int .u8 ((bt x 8 : Nat) : Int), .int .u8 ((bt x 9 : Nat) : Int), .int .u8 ((bt x 10 : Nat) : Int), .int .u8 ((bt x 11 : Nat) : Int), .int .u8 ((bt x 12 : Nat) : Int), .int .u8 ((bt x 13 : Nat) : Int), .int .u8 ((bt x 14 : Nat) : Int), .int .u8 ((bt x 15 : Nat) : Int), .int .u8 ((bt x 16 : Nat) : Int), .int .u8 ((bt x 17 : Nat) : Int), .int .u8 0, .int .u8 0, .int .u8 0, .int .u8 0, .int .u8 0, .int .u8 0, .int .u8 0, .int .u8 0, .int .u8 0, .int .u8 0, .int .u8 0, .int .u8 0, .int .u8 0, .int .u8 0] 41] w252 := H254
  refine GL.semU (j := 12) r253 [1, 2, 3, 5] [(1, pt p3 0), (2, pt p7 0), (3, pt p13 0), (5, .int .i64 17)] (by kernel_rfl) rfl rfl rfl ?_
  refine GL.k rfl hK247 (fun _ _ h => h) ?_
  refine G.region ?_
  refine GL.run (j := 2) 2 [1, 2, 3, 5] [(1, pt p3 0), (2, pt p7 0), (3, pt p13 0), (5, .int .i64 18)] (by kernel_rfl) rfl ?_
  refine GL.round rfl ?_
  refine G.seqK fun K255 hK256 => ?_
  refine G.region ?_
  refine GL.run (j := 1) 1 [1, 2, 3, 5, 6] [(1, pt p3 0), (2, pt p7 0), (3, pt p13 0), (5, .int .i64 18), (6, .bool true)] (by kernel_rfl) rfl ?_
  refine GL.k rfl hK256 (fun _ _ h => h) ?_
  refine G.seqK fun K257 hK258 => ?_
  refine G.yes rfl ?_
  refine G.skipK hK258 (fun _ _ h => h) ?_
  refine G.seqK fun K259 hK260 => ?_
  refine G.block ?_
  refine G.seqK fun K261 hK262 => ?_
  refine G.region ?_
  refine GL.run (j := 2) 2 [1, 2, 3, 4, 5] [(1, pt p3 0), (2, pt p7 0), (3, pt p13 0), (4, .int .i64 18), (5, .int .i64 18)] (by kernel_rfl) rfl ?_
  refine GL.k rfl hK262 (fun _ _ h => h) ?_
  refine G.region ?_
  refine GL.run (j := 4) 4 [1, 2, 3, 4, 5, 8, 11] [(1, pt p3 0), (2, pt p7 0), (3, pt p13 0), (4, .int .i64 18), (5, .int .i64 18), (8, .int .i64 18), (11, pt p3 2)] (by kernel_rfl) rfl ?_
  refine GL.sem (j := 5) (H254.ld (o := 2) (ty := 22) (v := .int .u64 (wd x 2 : Int)) 0 rfl (by kernel_rfl) rfl) [1, 2, 3, 4, 5, 8, 12] [(1, pt p3 0), (2, pt p7 0), (3, pt p13 0), (4, .int .i64 18), (5, .int .i64 18), (8, .int .i64 18), (12, .int .u64 (wd x 2 : Int))] (by kernel_rfl) (by kernel_rfl) rfl ?_
  refine GL.run (j := 11) 6 [1, 2, 3, 5, 17, 18] [(1, pt p3 0), (2, pt p7 0), (3, pt p13 0), (5, .int .i64 18), (17, .int .u8 (IntKind.u8.wrap (Int.fdiv (wd x 2 : Int) (2 ^ 16)))), (18, pt p13 18)] (by kernel_rfl) rfl ?_
  have e263 : (Int.fdiv (wd x 2 : Int) (2 ^ 16)) = (((wd x 2) / 2 ^ 16 : Nat) : Int) := n_shr _ 16
  have e264 : (IntKind.u8.wrap (((wd x 2) / 2 ^ 16 : Nat) : Int)) = ((bt x 18 : Nat) : Int) := (n_u8 _).trans (congrArg _ (bt_wd x (j := 2) (k := 2) (by decide) (by decide)))
  refine GL.eq (M' := [(1, pt p3 0), (2, pt p7 0), (3, pt p13 0), (5, .int .i64 18), (17, .int .u8 ((bt x 18 : Nat) : Int)), (18, pt p13 18)]) (by rw [e263, e264]) ?_
  clear e263 e264
  obtain ⟨w265, r266, H267⟩ := H254.st (P := Try.prog) (o := 18) (ty := 5) (v := .int .u8 ((bt x 18 : Nat) : Int)) 2 rfl (by kernel_rfl) (by simp) rfl
  have H267 : Hp w [] [.blk p3 (wl x) 24, .blk p7 [.int .u8 0, .int .u8 0, .int .u8 0, .int .u8 0, .int .u8 0, .int .u8 0, .int .u8 0, .int .u8 0, .int .u8 0, .int .u8 0, .int .u8 0, .int .u8 0, .int .u8 0, .int .u8 0, .int .u8 0, .int .u8 0, .int .u8 0, .int .u8 0, .int .u8 0, .int .u8 0, .int .u8 0, .int .u8 0, .int .u8 0, .int .u8 0, .int .u8 0, .int .u8 0, .int .u8 0, .int .u8 0, .int .u8 0, .int .u8 0, .int .u8 0, .int .u8 0] 41, .blk p13 [.int .u8 ((bt x 0 : Nat) : Int), .int .u8 ((bt x 1 : Nat) : Int), .int .u8 ((bt x 2 : Nat) : Int), .int .u8 ((bt x 3 : Nat) : Int), .int .u8 ((bt x 4 : Nat) : Int), .int .u8 ((bt x 5 : Nat) : Int), .int .u8 ((bt x 6 : Nat) : Int), .int .u8 ((bt x 7 : Nat) : Int), .int .u8 ((bt x 8 : Nat) : Int), .int .u8 ((bt x 9 : Nat) : Int), .int .u8 ((bt x 10 : Nat) : Int), .int .u8 ((bt x 11 : Nat) : Int), .int .u8 ((bt x 12 : Nat) : Int), .int .u8 ((bt x 13 : Nat) : Int), .int .u8 ((bt x 14 : Nat) : Int), .int .u8 ((bt x 15 : Nat) : Int), .int .u8 ((bt x 16 : Nat) : Int), .int .u8 ((bt x 17 : Nat) : Int), .int .u8 ((bt x 18 : Nat) : Int), .int .u8 0, .int .u8 0, .int .u8 0, .int .u8 0, .int .u8 0, .int .u8 0, .int .u8 0, .int .u8 0, .int .u8 0, .int .u8 0, .int .u8 0, .int .u8 0, .int .u8 0] 41] w265 := H267
  refine GL.semU (j := 12) r266 [1, 2, 3, 5] [(1, pt p3 0), (2, pt p7 0), (3, pt p13 0), (5, .int .i64 18)] (by kernel_rfl) rfl rfl rfl ?_
  refine GL.k rfl hK260 (fun _ _ h => h) ?_
  refine G.region ?_
  refine GL.run (j := 2) 2 [1, 2, 3, 5] [(1, pt p3 0), (2, pt p7 0), (3, pt p13 0), (5, .int .i64 19)] (by kernel_rfl) rfl ?_
  refine GL.round rfl ?_
  refine G.seqK fun K268 hK269 => ?_
  refine G.region ?_
  refine GL.run (j := 1) 1 [1, 2, 3, 5, 6] [(1, pt p3 0), (2, pt p7 0), (3, pt p13 0), (5, .int .i64 19), (6, .bool true)] (by kernel_rfl) rfl ?_
  refine GL.k rfl hK269 (fun _ _ h => h) ?_
  refine G.seqK fun K270 hK271 => ?_
  refine G.yes rfl ?_
  refine G.skipK hK271 (fun _ _ h => h) ?_
  refine G.seqK fun K272 hK273 => ?_
  refine G.block ?_
  refine G.seqK fun K274 hK275 => ?_
  refine G.region ?_
  refine GL.run (j := 2) 2 [1, 2, 3, 4, 5] [(1, pt p3 0), (2, pt p7 0), (3, pt p13 0), (4, .int .i64 19), (5, .int .i64 19)] (by kernel_rfl) rfl ?_
  refine GL.k rfl hK275 (fun _ _ h => h) ?_
  refine G.region ?_
  refine GL.run (j := 4) 4 [1, 2, 3, 4, 5, 8, 11] [(1, pt p3 0), (2, pt p7 0), (3, pt p13 0), (4, .int .i64 19), (5, .int .i64 19), (8, .int .i64 19), (11, pt p3 2)] (by kernel_rfl) rfl ?_
  refine GL.sem (j := 5) (H267.ld (o := 2) (ty := 22) (v := .int .u64 (wd x 2 : Int)) 0 rfl (by kernel_rfl) rfl) [1, 2, 3, 4, 5, 8, 12] [(1, pt p3 0), (2, pt p7 0), (3, pt p13 0), (4, .int .i64 19), (5, .int .i64 19), (8, .int .i64 19), (12, .int .u64 (wd x 2 : Int))] (by kernel_rfl) (by kernel_rfl) rfl ?_
  refine GL.run (j := 11) 6 [1, 2, 3, 5, 17, 18] [(1, pt p3 0), (2, pt p7 0), (3, pt p13 0), (5, .int .i64 19), (17, .int .u8 (IntKind.u8.wrap (Int.fdiv (wd x 2 : Int) (2 ^ 24)))), (18, pt p13 19)] (by kernel_rfl) rfl ?_
  have e276 : (Int.fdiv (wd x 2 : Int) (2 ^ 24)) = (((wd x 2) / 2 ^ 24 : Nat) : Int) := n_shr _ 24
  have e277 : (IntKind.u8.wrap (((wd x 2) / 2 ^ 24 : Nat) : Int)) = ((bt x 19 : Nat) : Int) := (n_u8 _).trans (congrArg _ (bt_wd x (j := 2) (k := 3) (by decide) (by decide)))
  refine GL.eq (M' := [(1, pt p3 0), (2, pt p7 0), (3, pt p13 0), (5, .int .i64 19), (17, .int .u8 ((bt x 19 : Nat) : Int)), (18, pt p13 19)]) (by rw [e276, e277]) ?_
  clear e276 e277
  obtain ⟨w278, r279, H280⟩ := H267.st (P := Try.prog) (o := 19) (ty := 5) (v := .int .u8 ((bt x 19 : Nat) : Int)) 2 rfl (by kernel_rfl) (by simp) rfl
  have H280 : Hp w [] [.blk p3 (wl x) 24, .blk p7 [.int .u8 0, .int .u8 0, .int .u8 0, .int .u8 0, .int .u8 0, .int .u8 0, .int .u8 0, .int .u8 0, .int .u8 0, .int .u8 0, .int .u8 0, .int .u8 0, .int .u8 0, .int .u8 0, .int .u8 0, .int .u8 0, .int .u8 0, .int .u8 0, .int .u8 0, .int .u8 0, .int .u8 0, .int .u8 0, .int .u8 0, .int .u8 0, .int .u8 0, .int .u8 0, .int .u8 0, .int .u8 0, .int .u8 0, .int .u8 0, .int .u8 0, .int .u8 0] 41, .blk p13 [.int .u8 ((bt x 0 : Nat) : Int), .int .u8 ((bt x 1 : Nat) : Int), .int .u8 ((bt x 2 : Nat) : Int), .int .u8 ((bt x 3 : Nat) : Int), .int .u8 ((bt x 4 : Nat) : Int), .int .u8 ((bt x 5 : Nat) : Int), .int .u8 ((bt x 6 : Nat) : Int), .int .u8 ((bt x 7 : Nat) : Int), .int .u8 ((bt x 8 : Nat) : Int), .int .u8 ((bt x 9 : Nat) : Int), .int .u8 ((bt x 10 : Nat) : Int), .int .u8 ((bt x 11 : Nat) : Int), .int .u8 ((bt x 12 : Nat) : Int), .int .u8 ((bt x 13 : Nat) : Int), .int .u8 ((bt x 14 : Nat) : Int), .int .u8 ((bt x 15 : Nat) : Int), .int .u8 ((bt x 16 : Nat) : Int), .int .u8 ((bt x 17 : Nat) : Int), .int .u8 ((bt x 18 : Nat) : Int), .int .u8 ((bt x 19 : Nat) : Int), .int .u8 0, .int .u8 0, .int .u8 0, .int .u8 0, .int .u8 0, .int .u8 0, .int .u8 0, .int .u8 0, .int .u8 0, .int .u8 0, .int .u8 0, .int .u8 0] 41] w278 := H280
  refine GL.semU (j := 12) r279 [1, 2, 3, 5] [(1, pt p3 0), (2, pt p7 0), (3, pt p13 0), (5, .int .i64 19)] (by kernel_rfl) rfl rfl rfl ?_
  refine GL.k rfl hK273 (fun _ _ h => h) ?_
  refine G.region ?_
  refine GL.run (j := 2) 2 [1, 2, 3, 5] [(1, pt p3 0), (2, pt p7 0), (3, pt p13 0), (5, .int .i64 20)] (by kernel_rfl) rfl ?_
  refine GL.round rfl ?_
  refine G.seqK fun K281 hK282 => ?_
  refine G.region ?_
  refine GL.run (j := 1) 1 [1, 2, 3, 5, 6] [(1, pt p3 0), (2, pt p7 0), (3, pt p13 0), (5, .int .i64 20), (6, .bool true)] (by kernel_rfl) rfl ?_
  refine GL.k rfl hK282 (fun _ _ h => h) ?_
  refine G.seqK fun K283 hK284 => ?_
  refine G.yes rfl ?_
  refine G.skipK hK284 (fun _ _ h => h) ?_
  refine G.seqK fun K285 hK286 => ?_
  refine G.block ?_
  refine G.seqK fun K287 hK288 => ?_
  refine G.region ?_
  refine GL.run (j := 2) 2 [1, 2, 3, 4, 5] [(1, pt p3 0), (2, pt p7 0), (3, pt p13 0), (4, .int .i64 20), (5, .int .i64 20)] (by kernel_rfl) rfl ?_
  refine GL.k rfl hK288 (fun _ _ h => h) ?_
  refine G.region ?_
  refine GL.run (j := 4) 4 [1, 2, 3, 4, 5, 8, 11] [(1, pt p3 0), (2, pt p7 0), (3, pt p13 0), (4, .int .i64 20), (5, .int .i64 20), (8, .int .i64 20), (11, pt p3 2)] (by kernel_rfl) rfl ?_
  refine GL.sem (j := 5) (H280.ld (o := 2) (ty := 22) (v := .int .u64 (wd x 2 : Int)) 0 rfl (by kernel_rfl) rfl) [1, 2, 3, 4, 5, 8, 12] [(1, pt p3 0), (2, pt p7 0), (3, pt p13 0), (4, .int .i64 20), (5, .int .i64 20), (8, .int .i64 20), (12, .int .u64 (wd x 2 : Int))] (by kernel_rfl) (by kernel_rfl) rfl ?_
  refine GL.run (j := 11) 6 [1, 2, 3, 5, 17, 18] [(1, pt p3 0), (2, pt p7 0), (3, pt p13 0), (5, .int .i64 20), (17, .int .u8 (IntKind.u8.wrap (Int.fdiv (wd x 2 : Int) (2 ^ 32)))), (18, pt p13 20)] (by kernel_rfl) rfl ?_
  have e289 : (Int.fdiv (wd x 2 : Int) (2 ^ 32)) = (((wd x 2) / 2 ^ 32 : Nat) : Int) := n_shr _ 32
  have e290 : (IntKind.u8.wrap (((wd x 2) / 2 ^ 32 : Nat) : Int)) = ((bt x 20 : Nat) : Int) := (n_u8 _).trans (congrArg _ (bt_wd x (j := 2) (k := 4) (by decide) (by decide)))
  refine GL.eq (M' := [(1, pt p3 0), (2, pt p7 0), (3, pt p13 0), (5, .int .i64 20), (17, .int .u8 ((bt x 20 : Nat) : Int)), (18, pt p13 20)]) (by rw [e289, e290]) ?_
  clear e289 e290
  obtain ⟨w291, r292, H293⟩ := H280.st (P := Try.prog) (o := 20) (ty := 5) (v := .int .u8 ((bt x 20 : Nat) : Int)) 2 rfl (by kernel_rfl) (by simp) rfl
  have H293 : Hp w [] [.blk p3 (wl x) 24, .blk p7 [.int .u8 0, .int .u8 0, .int .u8 0, .int .u8 0, .int .u8 0, .int .u8 0, .int .u8 0, .int .u8 0, .int .u8 0, .int .u8 0, .int .u8 0, .int .u8 0, .int .u8 0, .int .u8 0, .int .u8 0, .int .u8 0, .int .u8 0, .int .u8 0, .int .u8 0, .int .u8 0, .int .u8 0, .int .u8 0, .int .u8 0, .int .u8 0, .int .u8 0, .int .u8 0, .int .u8 0, .int .u8 0, .int .u8 0, .int .u8 0, .int .u8 0, .int .u8 0] 41, .blk p13 [.int .u8 ((bt x 0 : Nat) : Int), .int .u8 ((bt x 1 : Nat) : Int), .int .u8 ((bt x 2 : Nat) : Int), .int .u8 ((bt x 3 : Nat) : Int), .int .u8 ((bt x 4 : Nat) : Int), .int .u8 ((bt x 5 : Nat) : Int), .int .u8 ((bt x 6 : Nat) : Int), .int .u8 ((bt x 7 : Nat) : Int), .int .u8 ((bt x 8 : Nat) : Int), .int .u8 ((bt x 9 : Nat) : Int), .int .u8 ((bt x 10 : Nat) : Int), .int .u8 ((bt x 11 : Nat) : Int), .int .u8 ((bt x 12 : Nat) : Int), .int .u8 ((bt x 13 : Nat) : Int), .int .u8 ((bt x 14 : Nat) : Int), .int .u8 ((bt x 15 : Nat) : Int), .int .u8 ((bt x 16 : Nat) : Int), .int .u8 ((bt x 17 : Nat) : Int), .int .u8 ((bt x 18 : Nat) : Int), .int .u8 ((bt x 19 : Nat) : Int), .int .u8 ((bt x 20 : Nat) : Int), .int .u8 0, .int .u8 0, .int .u8 0, .int .u8 0, .int .u8 0, .int .u8 0, .int .u8 0, .int .u8 0, .int .u8 0, .int .u8 0, .int .u8 0] 41] w291 := H293
  refine GL.semU (j := 12) r292 [1, 2, 3, 5] [(1, pt p3 0), (2, pt p7 0), (3, pt p13 0), (5, .int .i64 20)] (by kernel_rfl) rfl rfl rfl ?_
  refine GL.k rfl hK286 (fun _ _ h => h) ?_
  refine G.region ?_
  refine GL.run (j := 2) 2 [1, 2, 3, 5] [(1, pt p3 0), (2, pt p7 0), (3, pt p13 0), (5, .int .i64 21)] (by kernel_rfl) rfl ?_
  refine GL.round rfl ?_
  refine G.seqK fun K294 hK295 => ?_
  refine G.region ?_
  refine GL.run (j := 1) 1 [1, 2, 3, 5, 6] [(1, pt p3 0), (2, pt p7 0), (3, pt p13 0), (5, .int .i64 21), (6, .bool true)] (by kernel_rfl) rfl ?_
  refine GL.k rfl hK295 (fun _ _ h => h) ?_
  refine G.seqK fun K296 hK297 => ?_
  refine G.yes rfl ?_
  refine G.skipK hK297 (fun _ _ h => h) ?_
  refine G.seqK fun K298 hK299 => ?_
  refine G.block ?_
  refine G.seqK fun K300 hK301 => ?_
  refine G.region ?_
  refine GL.run (j := 2) 2 [1, 2, 3, 4, 5] [(1, pt p3 0), (2, pt p7 0), (3, pt p13 0), (4, .int .i64 21), (5, .int .i64 21)] (by kernel_rfl) rfl ?_
  refine GL.k rfl hK301 (fun _ _ h => h) ?_
  refine G.region ?_
  refine GL.run (j := 4) 4 [1, 2, 3, 4, 5, 8, 11] [(1, pt p3 0), (2, pt p7 0), (3, pt p13 0), (4, .int .i64 21), (5, .int .i64 21), (8, .int .i64 21), (11, pt p3 2)] (by kernel_rfl) rfl ?_
  refine GL.sem (j := 5) (H293.ld (o := 2) (ty := 22) (v := .int .u64 (wd x 2 : Int)) 0 rfl (by kernel_rfl) rfl) [1, 2, 3, 4, 5, 8, 12] [(1, pt p3 0), (2, pt p7 0), (3, pt p13 0), (4, .int .i64 21), (5, .int .i64 21), (8, .int .i64 21), (12, .int .u64 (wd x 2 : Int))] (by kernel_rfl) (by kernel_rfl) rfl ?_
  refine GL.run (j := 11) 6 [1, 2, 3, 5, 17, 18] [(1, pt p3 0), (2, pt p7 0), (3, pt p13 0), (5, .int .i64 21), (17, .int .u8 (IntKind.u8.wrap (Int.fdiv (wd x 2 : Int) (2 ^ 40)))), (18, pt p13 21)] (by kernel_rfl) rfl ?_
  have e302 : (Int.fdiv (wd x 2 : Int) (2 ^ 40)) = (((wd x 2) / 2 ^ 40 : Nat) : Int) := n_shr _ 40
  have e303 : (IntKind.u8.wrap (((wd x 2) / 2 ^ 40 : Nat) : Int)) = ((bt x 21 : Nat) : Int) := (n_u8 _).trans (congrArg _ (bt_wd x (j := 2) (k := 5) (by decide) (by decide)))
  refine GL.eq (M' := [(1, pt p3 0), (2, pt p7 0), (3, pt p13 0), (5, .int .i64 21), (17, .int .u8 ((bt x 21 : Nat) : Int)), (18, pt p13 21)]) (by rw [e302, e303]) ?_
  clear e302 e303
  obtain ⟨w304, r305, H306⟩ := H293.st (P := Try.prog) (o := 21) (ty := 5) (v := .int .u8 ((bt x 21 : Nat) : Int)) 2 rfl (by kernel_rfl) (by simp) rfl
  have H306 : Hp w [] [.blk p3 (wl x) 24, .blk p7 [.int .u8 0, .int .u8 0, .int .u8 0, .int .u8 0, .int .u8 0, .int .u8 0, .int .u8 0, .int .u8 0, .int .u8 0, .int .u8 0, .int .u8 0, .int .u8 0, .int .u8 0, .int .u8 0, .int .u8 0, .int .u8 0, .int .u8 0, .int .u8 0, .int .u8 0, .int .u8 0, .int .u8 0, .int .u8 0, .int .u8 0, .int .u8 0, .int .u8 0, .int .u8 0, .int .u8 0, .int .u8 0, .int .u8 0, .int .u8 0, .int .u8 0, .int .u8 0] 41, .blk p13 [.int .u8 ((bt x 0 : Nat) : Int), .int .u8 ((bt x 1 : Nat) : Int), .int .u8 ((bt x 2 : Nat) : Int), .int .u8 ((bt x 3 : Nat) : Int), .int .u8 ((bt x 4 : Nat) : Int), .int .u8 ((bt x 5 : Nat) : Int), .int .u8 ((bt x 6 : Nat) : Int), .int .u8 ((bt x 7 : Nat) : Int), .int .u8 ((bt x 8 : Nat) : Int), .int .u8 ((bt x 9 : Nat) : Int), .int .u8 ((bt x 10 : Nat) : Int), .int .u8 ((bt x 11 : Nat) : Int), .int .u8 ((bt x 12 : Nat) : Int), .int .u8 ((bt x 13 : Nat) : Int), .int .u8 ((bt x 14 : Nat) : Int), .int .u8 ((bt x 15 : Nat) : Int), .int .u8 ((bt x 16 : Nat) : Int), .int .u8 ((bt x 17 : Nat) : Int), .int .u8 ((bt x 18 : Nat) : Int), .int .u8 ((bt x 19 : Nat) : Int), .int .u8 ((bt x 20 : Nat) : Int), .int .u8 ((bt x 21 : Nat) : Int), .int .u8 0, .int .u8 0, .int .u8 0, .int .u8 0, .int .u8 0, .int .u8 0, .int .u8 0, .int .u8 0, .int .u8 0, .int .u8 0] 41] w304 := H306
  refine GL.semU (j := 12) r305 [1, 2, 3, 5] [(1, pt p3 0), (2, pt p7 0), (3, pt p13 0), (5, .int .i64 21)] (by kernel_rfl) rfl rfl rfl ?_
  refine GL.k rfl hK299 (fun _ _ h => h) ?_
  refine G.region ?_
  refine GL.run (j := 2) 2 [1, 2, 3, 5] [(1, pt p3 0), (2, pt p7 0), (3, pt p13 0), (5, .int .i64 22)] (by kernel_rfl) rfl ?_
  refine GL.round rfl ?_
  refine G.seqK fun K307 hK308 => ?_
  refine G.region ?_
  refine GL.run (j := 1) 1 [1, 2, 3, 5, 6] [(1, pt p3 0), (2, pt p7 0), (3, pt p13 0), (5, .int .i64 22), (6, .bool true)] (by kernel_rfl) rfl ?_
  refine GL.k rfl hK308 (fun _ _ h => h) ?_
  refine G.seqK fun K309 hK310 => ?_
  refine G.yes rfl ?_
  refine G.skipK hK310 (fun _ _ h => h) ?_
  refine G.seqK fun K311 hK312 => ?_
  refine G.block ?_
  refine G.seqK fun K313 hK314 => ?_
  refine G.region ?_
  refine GL.run (j := 2) 2 [1, 2, 3, 4, 5] [(1, pt p3 0), (2, pt p7 0), (3, pt p13 0), (4, .int .i64 22), (5, .int .i64 22)] (by kernel_rfl) rfl ?_
  refine GL.k rfl hK314 (fun _ _ h => h) ?_
  refine G.region ?_
  refine GL.run (j := 4) 4 [1, 2, 3, 4, 5, 8, 11] [(1, pt p3 0), (2, pt p7 0), (3, pt p13 0), (4, .int .i64 22), (5, .int .i64 22), (8, .int .i64 22), (11, pt p3 2)] (by kernel_rfl) rfl ?_
  refine GL.sem (j := 5) (H306.ld (o := 2) (ty := 22) (v := .int .u64 (wd x 2 : Int)) 0 rfl (by kernel_rfl) rfl) [1, 2, 3, 4, 5, 8, 12] [(1, pt p3 0), (2, pt p7 0), (3, pt p13 0), (4, .int .i64 22), (5, .int .i64 22), (8, .int .i64 22), (12, .int .u64 (wd x 2 : Int))] (by kernel_rfl) (by kernel_rfl) rfl ?_
  refine GL.run (j := 11) 6 [1, 2, 3, 5, 17, 18] [(1, pt p3 0), (2, pt p7 0), (3, pt p13 0), (5, .int .i64 22), (17, .int .u8 (IntKind.u8.wrap (Int.fdiv (wd x 2 : Int) (2 ^ 48)))), (18, pt p13 22)] (by kernel_rfl) rfl ?_
  have e315 : (Int.fdiv (wd x 2 : Int) (2 ^ 48)) = (((wd x 2) / 2 ^ 48 : Nat) : Int) := n_shr _ 48
  have e316 : (IntKind.u8.wrap (((wd x 2) / 2 ^ 48 : Nat) : Int)) = ((bt x 22 : Nat) : Int) := (n_u8 _).trans (congrArg _ (bt_wd x (j := 2) (k := 6) (by decide) (by decide)))
  refine GL.eq (M' := [(1, pt p3 0), (2, pt p7 0), (3, pt p13 0), (5, .int .i64 22), (17, .int .u8 ((bt x 22 : Nat) : Int)), (18, pt p13 22)]) (by rw [e315, e316]) ?_
  clear e315 e316
  obtain ⟨w317, r318, H319⟩ := H306.st (P := Try.prog) (o := 22) (ty := 5) (v := .int .u8 ((bt x 22 : Nat) : Int)) 2 rfl (by kernel_rfl) (by simp) rfl
  have H319 : Hp w [] [.blk p3 (wl x) 24, .blk p7 [.int .u8 0, .int .u8 0, .int .u8 0, .int .u8 0, .int .u8 0, .int .u8 0, .int .u8 0, .int .u8 0, .int .u8 0, .int .u8 0, .int .u8 0, .int .u8 0, .int .u8 0, .int .u8 0, .int .u8 0, .int .u8 0, .int .u8 0, .int .u8 0, .int .u8 0, .int .u8 0, .int .u8 0, .int .u8 0, .int .u8 0, .int .u8 0, .int .u8 0, .int .u8 0, .int .u8 0, .int .u8 0, .int .u8 0, .int .u8 0, .int .u8 0, .int .u8 0] 41, .blk p13 [.int .u8 ((bt x 0 : Nat) : Int), .int .u8 ((bt x 1 : Nat) : Int), .int .u8 ((bt x 2 : Nat) : Int), .int .u8 ((bt x 3 : Nat) : Int), .int .u8 ((bt x 4 : Nat) : Int), .int .u8 ((bt x 5 : Nat) : Int), .int .u8 ((bt x 6 : Nat) : Int), .int .u8 ((bt x 7 : Nat) : Int), .int .u8 ((bt x 8 : Nat) : Int), .int .u8 ((bt x 9 : Nat) : Int), .int .u8 ((bt x 10 : Nat) : Int), .int .u8 ((bt x 11 : Nat) : Int), .int .u8 ((bt x 12 : Nat) : Int), .int .u8 ((bt x 13 : Nat) : Int), .int .u8 ((bt x 14 : Nat) : Int), .int .u8 ((bt x 15 : Nat) : Int), .int .u8 ((bt x 16 : Nat) : Int), .int .u8 ((bt x 17 : Nat) : Int), .int .u8 ((bt x 18 : Nat) : Int), .int .u8 ((bt x 19 : Nat) : Int), .int .u8 ((bt x 20 : Nat) : Int), .int .u8 ((bt x 21 : Nat) : Int), .int .u8 ((bt x 22 : Nat) : Int), .int .u8 0, .int .u8 0, .int .u8 0, .int .u8 0, .int .u8 0, .int .u8 0, .int .u8 0, .int .u8 0, .int .u8 0] 41] w317 := H319
  refine GL.semU (j := 12) r318 [1, 2, 3, 5] [(1, pt p3 0), (2, pt p7 0), (3, pt p13 0), (5, .int .i64 22)] (by kernel_rfl) rfl rfl rfl ?_
  refine GL.k rfl hK312 (fun _ _ h => h) ?_
  refine G.region ?_
  refine GL.run (j := 2) 2 [1, 2, 3, 5] [(1, pt p3 0), (2, pt p7 0), (3, pt p13 0), (5, .int .i64 23)] (by kernel_rfl) rfl ?_
  refine GL.round rfl ?_
  refine G.seqK fun K320 hK321 => ?_
  refine G.region ?_
  refine GL.run (j := 1) 1 [1, 2, 3, 5, 6] [(1, pt p3 0), (2, pt p7 0), (3, pt p13 0), (5, .int .i64 23), (6, .bool true)] (by kernel_rfl) rfl ?_
  refine GL.k rfl hK321 (fun _ _ h => h) ?_
  refine G.seqK fun K322 hK323 => ?_
  refine G.yes rfl ?_
  refine G.skipK hK323 (fun _ _ h => h) ?_
  refine G.seqK fun K324 hK325 => ?_
  refine G.block ?_
  refine G.seqK fun K326 hK327 => ?_
  refine G.region ?_
  refine GL.run (j := 2) 2 [1, 2, 3, 4, 5] [(1, pt p3 0), (2, pt p7 0), (3, pt p13 0), (4, .int .i64 23), (5, .int .i64 23)] (by kernel_rfl) rfl ?_
  refine GL.k rfl hK327 (fun _ _ h => h) ?_
  refine G.region ?_
  refine GL.run (j := 4) 4 [1, 2, 3, 4, 5, 8, 11] [(1, pt p3 0), (2, pt p7 0), (3, pt p13 0), (4, .int .i64 23), (5, .int .i64 23), (8, .int .i64 23), (11, pt p3 2)] (by kernel_rfl) rfl ?_
  refine GL.sem (j := 5) (H319.ld (o := 2) (ty := 22) (v := .int .u64 (wd x 2 : Int)) 0 rfl (by kernel_rfl) rfl) [1, 2, 3, 4, 5, 8, 12] [(1, pt p3 0), (2, pt p7 0), (3, pt p13 0), (4, .int .i64 23), (5, .int .i64 23), (8, .int .i64 23), (12, .int .u64 (wd x 2 : Int))] (by kernel_rfl) (by kernel_rfl) rfl ?_
  refine GL.run (j := 11) 6 [1, 2, 3, 5, 17, 18] [(1, pt p3 0), (2, pt p7 0), (3, pt p13 0), (5, .int .i64 23), (17, .int .u8 (IntKind.u8.wrap (Int.fdiv (wd x 2 : Int) (2 ^ 56)))), (18, pt p13 23)] (by kernel_rfl) rfl ?_
  have e328 : (Int.fdiv (wd x 2 : Int) (2 ^ 56)) = (((wd x 2) / 2 ^ 56 : Nat) : Int) := n_shr _ 56
  have e329 : (IntKind.u8.wrap (((wd x 2) / 2 ^ 56 : Nat) : Int)) = ((bt x 23 : Nat) : Int) := (n_u8 _).trans (congrArg _ (bt_wd x (j := 2) (k := 7) (by decide) (by decide)))
  refine GL.eq (M' := [(1, pt p3 0), (2, pt p7 0), (3, pt p13 0), (5, .int .i64 23), (17, .int .u8 ((bt x 23 : Nat) : Int)), (18, pt p13 23)]) (by rw [e328, e329]) ?_
  clear e328 e329
  obtain ⟨w330, r331, H332⟩ := H319.st (P := Try.prog) (o := 23) (ty := 5) (v := .int .u8 ((bt x 23 : Nat) : Int)) 2 rfl (by kernel_rfl) (by simp) rfl
  have H332 : Hp w [] [.blk p3 (wl x) 24, .blk p7 [.int .u8 0, .int .u8 0, .int .u8 0, .int .u8 0, .int .u8 0, .int .u8 0, .int .u8 0, .int .u8 0, .int .u8 0, .int .u8 0, .int .u8 0, .int .u8 0, .int .u8 0, .int .u8 0, .int .u8 0, .int .u8 0, .int .u8 0, .int .u8 0, .int .u8 0, .int .u8 0, .int .u8 0, .int .u8 0, .int .u8 0, .int .u8 0, .int .u8 0, .int .u8 0, .int .u8 0, .int .u8 0, .int .u8 0, .int .u8 0, .int .u8 0, .int .u8 0] 41, .blk p13 [.int .u8 ((bt x 0 : Nat) : Int), .int .u8 ((bt x 1 : Nat) : Int), .int .u8 ((bt x 2 : Nat) : Int), .int .u8 ((bt x 3 : Nat) : Int), .int .u8 ((bt x 4 : Nat) : Int), .int .u8 ((bt x 5 : Nat) : Int), .int .u8 ((bt x 6 : Nat) : Int), .int .u8 ((bt x 7 : Nat) : Int), .int .u8 ((bt x 8 : Nat) : Int), .int .u8 ((bt x 9 : Nat) : Int), .int .u8 ((bt x 10 : Nat) : Int), .int .u8 ((bt x 11 : Nat) : Int), .int .u8 ((bt x 12 : Nat) : Int), .int .u8 ((bt x 13 : Nat) : Int), .int .u8 ((bt x 14 : Nat) : Int), .int .u8 ((bt x 15 : Nat) : Int), .int .u8 ((bt x 16 : Nat) : Int), .int .u8 ((bt x 17 : Nat) : Int), .int .u8 ((bt x 18 : Nat) : Int), .int .u8 ((bt x 19 : Nat) : Int), .int .u8 ((bt x 20 : Nat) : Int), .int .u8 ((bt x 21 : Nat) : Int), .int .u8 ((bt x 22 : Nat) : Int), .int .u8 ((bt x 23 : Nat) : Int), .int .u8 0, .int .u8 0, .int .u8 0, .int .u8 0, .int .u8 0, .int .u8 0, .int .u8 0, .int .u8 0] 41] w330 := H332
  refine GL.semU (j := 12) r331 [1, 2, 3, 5] [(1, pt p3 0), (2, pt p7 0), (3, pt p13 0), (5, .int .i64 23)] (by kernel_rfl) rfl rfl rfl ?_
  refine GL.k rfl hK325 (fun _ _ h => h) ?_
  refine G.region ?_
  refine GL.run (j := 2) 2 [1, 2, 3, 5] [(1, pt p3 0), (2, pt p7 0), (3, pt p13 0), (5, .int .i64 24)] (by kernel_rfl) rfl ?_
  refine GL.round rfl ?_
  refine G.seqK fun K333 hK334 => ?_
  refine G.region ?_
  refine GL.run (j := 1) 1 [1, 2, 3, 5, 6] [(1, pt p3 0), (2, pt p7 0), (3, pt p13 0), (5, .int .i64 24), (6, .bool true)] (by kernel_rfl) rfl ?_
  refine GL.k rfl hK334 (fun _ _ h => h) ?_
  refine G.seqK fun K335 hK336 => ?_
  refine G.yes rfl ?_
  refine G.skipK hK336 (fun _ _ h => h) ?_
  refine G.seqK fun K337 hK338 => ?_
  refine G.block ?_
  refine G.seqK fun K339 hK340 => ?_
  refine G.region ?_
  refine GL.run (j := 2) 2 [1, 2, 3, 4, 5] [(1, pt p3 0), (2, pt p7 0), (3, pt p13 0), (4, .int .i64 24), (5, .int .i64 24)] (by kernel_rfl) rfl ?_
  refine GL.k rfl hK340 (fun _ _ h => h) ?_
  refine G.region ?_
  refine GL.run (j := 4) 4 [1, 2, 3, 4, 5, 8, 11] [(1, pt p3 0), (2, pt p7 0), (3, pt p13 0), (4, .int .i64 24), (5, .int .i64 24), (8, .int .i64 24), (11, pt p3 3)] (by kernel_rfl) rfl ?_
  refine GL.sem (j := 5) (H332.ld (o := 3) (ty := 22) (v := .int .u64 (wd x 3 : Int)) 0 rfl (by kernel_rfl) rfl) [1, 2, 3, 4, 5, 8, 12] [(1, pt p3 0), (2, pt p7 0), (3, pt p13 0), (4, .int .i64 24), (5, .int .i64 24), (8, .int .i64 24), (12, .int .u64 (wd x 3 : Int))] (by kernel_rfl) (by kernel_rfl) rfl ?_
  refine GL.run (j := 11) 6 [1, 2, 3, 5, 17, 18] [(1, pt p3 0), (2, pt p7 0), (3, pt p13 0), (5, .int .i64 24), (17, .int .u8 (IntKind.u8.wrap (Int.fdiv (wd x 3 : Int) (2 ^ 0)))), (18, pt p13 24)] (by kernel_rfl) rfl ?_
  have e341 : (Int.fdiv (wd x 3 : Int) (2 ^ 0)) = (((wd x 3) / 2 ^ 0 : Nat) : Int) := n_shr _ 0
  have e342 : (IntKind.u8.wrap (((wd x 3) / 2 ^ 0 : Nat) : Int)) = ((bt x 24 : Nat) : Int) := (n_u8 _).trans (congrArg _ (bt_wd x (j := 3) (k := 0) (by decide) (by decide)))
  refine GL.eq (M' := [(1, pt p3 0), (2, pt p7 0), (3, pt p13 0), (5, .int .i64 24), (17, .int .u8 ((bt x 24 : Nat) : Int)), (18, pt p13 24)]) (by rw [e341, e342]) ?_
  clear e341 e342
  obtain ⟨w343, r344, H345⟩ := H332.st (P := Try.prog) (o := 24) (ty := 5) (v := .int .u8 ((bt x 24 : Nat) : Int)) 2 rfl (by kernel_rfl) (by simp) rfl
  have H345 : Hp w [] [.blk p3 (wl x) 24, .blk p7 [.int .u8 0, .int .u8 0, .int .u8 0, .int .u8 0, .int .u8 0, .int .u8 0, .int .u8 0, .int .u8 0, .int .u8 0, .int .u8 0, .int .u8 0, .int .u8 0, .int .u8 0, .int .u8 0, .int .u8 0, .int .u8 0, .int .u8 0, .int .u8 0, .int .u8 0, .int .u8 0, .int .u8 0, .int .u8 0, .int .u8 0, .int .u8 0, .int .u8 0, .int .u8 0, .int .u8 0, .int .u8 0, .int .u8 0, .int .u8 0, .int .u8 0, .int .u8 0] 41, .blk p13 [.int .u8 ((bt x 0 : Nat) : Int), .int .u8 ((bt x 1 : Nat) : Int), .int .u8 ((bt x 2 : Nat) : Int), .int .u8 ((bt x 3 : Nat) : Int), .int .u8 ((bt x 4 : Nat) : Int), .int .u8 ((bt x 5 : Nat) : Int), .int .u8 ((bt x 6 : Nat) : Int), .int .u8 ((bt x 7 : Nat) : Int), .int .u8 ((bt x 8 : Nat) : Int), .int .u8 ((bt x 9 : Nat) : Int), .int .u8 ((bt x 10 : Nat) : Int), .int .u8 ((bt x 11 : Nat) : Int), .int .u8 ((bt x 12 : Nat) : Int), .int .u8 ((bt x 13 : Nat) : Int), .int .u8 ((bt x 14 : Nat) : Int), .int .u8 ((bt x 15 : Nat) : Int), .int .u8 ((bt x 16 : Nat) : Int), .int .u8 ((bt x 17 : Nat) : Int), .int .u8 ((bt x 18 : Nat) : Int), .int .u8 ((bt x 19 : Nat) : Int), .int .u8 ((bt x 20 : Nat) : Int), .int .u8 ((bt x 21 : Nat) : Int), .int .u8 ((bt x 22 : Nat) : Int), .int .u8 ((bt x 23 : Nat) : Int), .int .u8 ((bt x 24 : Nat) : Int), .int .u8 0, .int .u8 0, .int .u8 0, .int .u8 0, .int .u8 0, .int .u8 0, .int .u8 0] 41] w343 := H345
  refine GL.semU (j := 12) r344 [1, 2, 3, 5] [(1, pt p3 0), (2, pt p7 0), (3, pt p13 0), (5, .int .i64 24)] (by kernel_rfl) rfl rfl rfl ?_
  refine GL.k rfl hK338 (fun _ _ h => h) ?_
  refine G.region ?_
  refine GL.run (j := 2) 2 [1, 2, 3, 5] [(1, pt p3 0), (2, pt p7 0), (3, pt p13 0), (5, .int .i64 25)] (by kernel_rfl) rfl ?_
  refine GL.round rfl ?_
  refine G.seqK fun K346 hK347 => ?_
  refine G.region ?_
  refine GL.run (j := 1) 1 [1, 2, 3, 5, 6] [(1, pt p3 0), (2, pt p7 0), (3, pt p13 0), (5, .int .i64 25), (6, .bool true)] (by kernel_rfl) rfl ?_
  refine GL.k rfl hK347 (fun _ _ h => h) ?_
  refine G.seqK fun K348 hK349 => ?_
  refine G.yes rfl ?_
  refine G.skipK hK349 (fun _ _ h => h) ?_
  refine G.seqK fun K350 hK351 => ?_
  refine G.block ?_
  refine G.seqK fun K352 hK353 => ?_
  refine G.region ?_
  refine GL.run (j := 2) 2 [1, 2, 3, 4, 5] [(1, pt p3 0), (2, pt p7 0), (3, pt p13 0), (4, .int .i64 25), (5, .int .i64 25)] (by kernel_rfl) rfl ?_
  refine GL.k rfl hK353 (fun _ _ h => h) ?_
  refine G.region ?_
  refine GL.run (j := 4) 4 [1, 2, 3, 4, 5, 8, 11] [(1, pt p3 0), (2, pt p7 0), (3, pt p13 0), (4, .int .i64 25), (5, .int .i64 25), (8, .int .i64 25), (11, pt p3 3)] (by kernel_rfl) rfl ?_
  refine GL.sem (j := 5) (H345.ld (o := 3) (ty := 22) (v := .int .u64 (wd x 3 : Int)) 0 rfl (by kernel_rfl) rfl) [1, 2, 3, 4, 5, 8, 12] [(1, pt p3 0), (2, pt p7 0), (3, pt p13 0), (4, .int .i64 25), (5, .int .i64 25), (8, .int .i64 25), (12, .int .u64 (wd x 3 : Int))] (by kernel_rfl) (by kernel_rfl) rfl ?_
  refine GL.run (j := 11) 6 [1, 2, 3, 5, 17, 18] [(1, pt p3 0), (2, pt p7 0), (3, pt p13 0), (5, .int .i64 25), (17, .int .u8 (IntKind.u8.wrap (Int.fdiv (wd x 3 : Int) (2 ^ 8)))), (18, pt p13 25)] (by kernel_rfl) rfl ?_
  have e354 : (Int.fdiv (wd x 3 : Int) (2 ^ 8)) = (((wd x 3) / 2 ^ 8 : Nat) : Int) := n_shr _ 8
  have e355 : (IntKind.u8.wrap (((wd x 3) / 2 ^ 8 : Nat) : Int)) = ((bt x 25 : Nat) : Int) := (n_u8 _).trans (congrArg _ (bt_wd x (j := 3) (k := 1) (by decide) (by decide)))
  refine GL.eq (M' := [(1, pt p3 0), (2, pt p7 0), (3, pt p13 0), (5, .int .i64 25), (17, .int .u8 ((bt x 25 : Nat) : Int)), (18, pt p13 25)]) (by rw [e354, e355]) ?_
  clear e354 e355
  obtain ⟨w356, r357, H358⟩ := H345.st (P := Try.prog) (o := 25) (ty := 5) (v := .int .u8 ((bt x 25 : Nat) : Int)) 2 rfl (by kernel_rfl) (by simp) rfl
  have H358 : Hp w [] [.blk p3 (wl x) 24, .blk p7 [.int .u8 0, .int .u8 0, .int .u8 0, .int .u8 0, .int .u8 0, .int .u8 0, .int .u8 0, .int .u8 0, .int .u8 0, .int .u8 0, .int .u8 0, .int .u8 0, .int .u8 0, .int .u8 0, .int .u8 0, .int .u8 0, .int .u8 0, .int .u8 0, .int .u8 0, .int .u8 0, .int .u8 0, .int .u8 0, .int .u8 0, .int .u8 0, .int .u8 0, .int .u8 0, .int .u8 0, .int .u8 0, .int .u8 0, .int .u8 0, .int .u8 0, .int .u8 0] 41, .blk p13 [.int .u8 ((bt x 0 : Nat) : Int), .int .u8 ((bt x 1 : Nat) : Int), .int .u8 ((bt x 2 : Nat) : Int), .int .u8 ((bt x 3 : Nat) : Int), .int .u8 ((bt x 4 : Nat) : Int), .int .u8 ((bt x 5 : Nat) : Int), .int .u8 ((bt x 6 : Nat) : Int), .int .u8 ((bt x 7 : Nat) : Int), .int .u8 ((bt x 8 : Nat) : Int), .int .u8 ((bt x 9 : Nat) : Int), .int .u8 ((bt x 10 : Nat) : Int), .int .u8 ((bt x 11 : Nat) : Int), .int .u8 ((bt x 12 : Nat) : Int), .int .u8 ((bt x 13 : Nat) : Int), .int .u8 ((bt x 14 : Nat) : Int), .int .u8 ((bt x 15 : Nat) : Int), .int .u8 ((bt x 16 : Nat) : Int), .int .u8 ((bt x 17 : Nat) : Int), .int .u8 ((bt x 18 : Nat) : Int), .int .u8 ((bt x 19 : Nat) : Int), .int .u8 ((bt x 20 : Nat) : Int), .int .u8 ((bt x 21 : Nat) : Int), .int .u8 ((bt x 22 : Nat) : Int), .int .u8 ((bt x 23 : Nat) : Int), .int .u8 ((bt x 24 : Nat) : Int), .int .u8 ((bt x 25 : Nat) : Int), .int .u8 0, .int .u8 0, .int .u8 0, .int .u8 0, .int .u8 0, .int .u8 0] 41] w356 := H358
  refine GL.semU (j := 12) r357 [1, 2, 3, 5] [(1, pt p3 0), (2, pt p7 0), (3, pt p13 0), (5, .int .i64 25)] (by kernel_rfl) rfl rfl rfl ?_
  refine GL.k rfl hK351 (fun _ _ h => h) ?_
  refine G.region ?_
  refine GL.run (j := 2) 2 [1, 2, 3, 5] [(1, pt p3 0), (2, pt p7 0), (3, pt p13 0), (5, .int .i64 26)] (by kernel_rfl) rfl ?_
  refine GL.round rfl ?_
  refine G.seqK fun K359 hK360 => ?_
  refine G.region ?_
  refine GL.run (j := 1) 1 [1, 2, 3, 5, 6] [(1, pt p3 0), (2, pt p7 0), (3, pt p13 0), (5, .int .i64 26), (6, .bool true)] (by kernel_rfl) rfl ?_
  refine GL.k rfl hK360 (fun _ _ h => h) ?_
  refine G.seqK fun K361 hK362 => ?_
  refine G.yes rfl ?_
  refine G.skipK hK362 (fun _ _ h => h) ?_
  refine G.seqK fun K363 hK364 => ?_
  refine G.block ?_
  refine G.seqK fun K365 hK366 => ?_
  refine G.region ?_
  refine GL.run (j := 2) 2 [1, 2, 3, 4, 5] [(1, pt p3 0), (2, pt p7 0), (3, pt p13 0), (4, .int .i64 26), (5, .int .i64 26)] (by kernel_rfl) rfl ?_
  refine GL.k rfl hK366 (fun _ _ h => h) ?_
  refine G.region ?_
  refine GL.run (j := 4) 4 [1, 2, 3, 4, 5, 8, 11] [(1, pt p3 0), (2, pt p7 0), (3, pt p13 0), (4, .int .i64 26), (5, .int .i64 26), (8, .int .i64 26), (11, pt p3 3)] (by kernel_rfl) rfl ?_
  refine GL.sem (j := 5) (H358.ld (o := 3) (ty := 22) (v := .int .u64 (wd x 3 : Int)) 0 rfl (by kernel_rfl) rfl) [1, 2, 3, 4, 5, 8, 12] [(1, pt p3 0), (2, pt p7 0), (3, pt p13 0), (4, .int .i64 26), (5, .int .i64 26), (8, .int .i64 26), (12, .int .u64 (wd x 3 : Int))] (by kernel_rfl) (by kernel_rfl) rfl ?_
  refine GL.run (j := 11) 6 [1, 2, 3, 5, 17, 18] [(1, pt p3 0), (2, pt p7 0), (3, pt p13 0), (5, .int .i64 26), (17, .int .u8 (IntKind.u8.wrap (Int.fdiv (wd x 3 : Int) (2 ^ 16)))), (18, pt p13 26)] (by kernel_rfl) rfl ?_
  have e367 : (Int.fdiv (wd x 3 : Int) (2 ^ 16)) = (((wd x 3) / 2 ^ 16 : Nat) : Int) := n_shr _ 16
  have e368 : (IntKind.u8.wrap (((wd x 3) / 2 ^ 16 : Nat) : Int)) = ((bt x 26 : Nat) : Int) := (n_u8 _).trans (congrArg _ (bt_wd x (j := 3) (k := 2) (by decide) (by decide)))
  refine GL.eq (M' := [(1, pt p3 0), (2, pt p7 0), (3, pt p13 0), (5, .int .i64 26), (17, .int .u8 ((bt x 26 : Nat) : Int)), (18, pt p13 26)]) (by rw [e367, e368]) ?_
  clear e367 e368
  obtain ⟨w369, r370, H371⟩ := H358.st (P := Try.prog) (o := 26) (ty := 5) (v := .int .u8 ((bt x 26 : Nat) : Int)) 2 rfl (by kernel_rfl) (by simp) rfl
  have H371 : Hp w [] [.blk p3 (wl x) 24, .blk p7 [.int .u8 0, .int .u8 0, .int .u8 0, .int .u8 0, .int .u8 0, .int .u8 0, .int .u8 0, .int .u8 0, .int .u8 0, .int .u8 0, .int .u8 0, .int .u8 0, .int .u8 0, .int .u8 0, .int .u8 0, .int .u8 0, .int .u8 0, .int .u8 0, .int .u8 0, .int .u8 0, .int .u8 0, .int .u8 0, .int .u8 0, .int .u8 0, .int .u8 0, .int .u8 0, .int .u8 0, .int .u8 0, .int .u8 0, .int .u8 0, .int .u8 0, .int .u8 0] 41, .blk p13 [.int .u8 ((bt x 0 : Nat) : Int), .int .u8 ((bt x 1 : Nat) : Int), .int .u8 ((bt x 2 : Nat) : Int), .int .u8 ((bt x 3 : Nat) : Int), .int .u8 ((bt x 4 : Nat) : Int), .int .u8 ((bt x 5 : Nat) : Int), .int .u8 ((bt x 6 : Nat) : Int), .int .u8 ((bt x 7 : Nat) : Int), .int .u8 ((bt x 8 : Nat) : Int), .int .u8 ((bt x 9 : Nat) : Int), .int .u8 ((bt x 10 : Nat) : Int), .int .u8 ((bt x 11 : Nat) : Int), .int .u8 ((bt x 12 : Nat) : Int), .int .u8 ((bt x 13 : Nat) : Int), .int .u8 ((bt x 14 : Nat) : Int), .int .u8 ((bt x 15 : Nat) : Int), .int .u8 ((bt x 16 : Nat) : Int), .int .u8 ((bt x 17 : Nat) : Int), .int .u8 ((bt x 18 : Nat) : Int), .int .u8 ((bt x 19 : Nat) : Int), .int .u8 ((bt x 20 : Nat) : Int), .int .u8 ((bt x 21 : Nat) : Int), .int .u8 ((bt x 22 : Nat) : Int), .int .u8 ((bt x 23 : Nat) : Int), .int .u8 ((bt x 24 : Nat) : Int), .int .u8 ((bt x 25 : Nat) : Int), .int .u8 ((bt x 26 : Nat) : Int), .int .u8 0, .int .u8 0, .int .u8 0, .int .u8 0, .int .u8 0] 41] w369 := H371
  refine GL.semU (j := 12) r370 [1, 2, 3, 5] [(1, pt p3 0), (2, pt p7 0), (3, pt p13 0), (5, .int .i64 26)] (by kernel_rfl) rfl rfl rfl ?_
  refine GL.k rfl hK364 (fun _ _ h => h) ?_
  refine G.region ?_
  refine GL.run (j := 2) 2 [1, 2, 3, 5] [(1, pt p3 0), (2, pt p7 0), (3, pt p13 0), (5, .int .i64 27)] (by kernel_rfl) rfl ?_
  refine GL.round rfl ?_
  refine G.seqK fun K372 hK373 => ?_
  refine G.region ?_
  refine GL.run (j := 1) 1 [1, 2, 3, 5, 6] [(1, pt p3 0), (2, pt p7 0), (3, pt p13 0), (5, .int .i64 27), (6, .bool true)] (by kernel_rfl) rfl ?_
  refine GL.k rfl hK373 (fun _ _ h => h) ?_
  refine G.seqK fun K374 hK375 => ?_
  refine G.yes rfl ?_
  refine G.skipK hK375 (fun _ _ h => h) ?_
  refine G.seqK fun K376 hK377 => ?_
  refine G.block ?_
  refine G.seqK fun K378 hK379 => ?_
  refine G.region ?_
  refine GL.run (j := 2) 2 [1, 2, 3, 4, 5] [(1, pt p3 0), (2, pt p7 0), (3, pt p13 0), (4, .int .i64 27), (5, .int .i64 27)] (by kernel_rfl) rfl ?_
  refine GL.k rfl hK379 (fun _ _ h => h) ?_
  refine G.region ?_
  refine GL.run (j := 4) 4 [1, 2, 3, 4, 5, 8, 11] [(1, pt p3 0), (2, pt p7 0), (3, pt p13 0), (4, .int .i64 27), (5, .int .i64 27), (8, .int .i64 27), (11, pt p3 3)] (by kernel_rfl) rfl ?_
  refine GL.sem (j := 5) (H371.ld (o := 3) (ty := 22) (v := .int .u64 (wd x 3 : Int)) 0 rfl (by kernel_rfl) rfl) [1, 2, 3, 4, 5, 8, 12] [(1, pt p3 0), (2, pt p7 0), (3, pt p13 0), (4, .int .i64 27), (5, .int .i64 27), (8, .int .i64 27), (12, .int .u64 (wd x 3 : Int))] (by kernel_rfl) (by kernel_rfl) rfl ?_
  refine GL.run (j := 11) 6 [1, 2, 3, 5, 17, 18] [(1, pt p3 0), (2, pt p7 0), (3, pt p13 0), (5, .int .i64 27), (17, .int .u8 (IntKind.u8.wrap (Int.fdiv (wd x 3 : Int) (2 ^ 24)))), (18, pt p13 27)] (by kernel_rfl) rfl ?_
  have e380 : (Int.fdiv (wd x 3 : Int) (2 ^ 24)) = (((wd x 3) / 2 ^ 24 : Nat) : Int) := n_shr _ 24
  have e381 : (IntKind.u8.wrap (((wd x 3) / 2 ^ 24 : Nat) : Int)) = ((bt x 27 : Nat) : Int) := (n_u8 _).trans (congrArg _ (bt_wd x (j := 3) (k := 3) (by decide) (by decide)))
  refine GL.eq (M' := [(1, pt p3 0), (2, pt p7 0), (3, pt p13 0), (5, .int .i64 27), (17, .int .u8 ((bt x 27 : Nat) : Int)), (18, pt p13 27)]) (by rw [e380, e381]) ?_
  clear e380 e381
  obtain ⟨w382, r383, H384⟩ := H371.st (P := Try.prog) (o := 27) (ty := 5) (v := .int .u8 ((bt x 27 : Nat) : Int)) 2 rfl (by kernel_rfl) (by simp) rfl
  have H384 : Hp w [] [.blk p3 (wl x) 24, .blk p7 [.int .u8 0, .int .u8 0, .int .u8 0, .int .u8 0, .int .u8 0, .int .u8 0, .int .u8 0, .int .u8 0, .int .u8 0, .int .u8 0, .int .u8 0, .int .u8 0, .int .u8 0, .int .u8 0, .int .u8 0, .int .u8 0, .int .u8 0, .int .u8 0, .int .u8 0, .int .u8 0, .int .u8 0, .int .u8 0, .int .u8 0, .int .u8 0, .int .u8 0, .int .u8 0, .int .u8 0, .int .u8 0, .int .u8 0, .int .u8 0, .int .u8 0, .int .u8 0] 41, .blk p13 [.int .u8 ((bt x 0 : Nat) : Int), .int .u8 ((bt x 1 : Nat) : Int), .int .u8 ((bt x 2 : Nat) : Int), .int .u8 ((bt x 3 : Nat) : Int), .int .u8 ((bt x 4 : Nat) : Int), .int .u8 ((bt x 5 : Nat) : Int), .int .u8 ((bt x 6 : Nat) : Int), .int .u8 ((bt x 7 : Nat) : Int), .int .u8 ((bt x 8 : Nat) : Int), .int .u8 ((bt x 9 : Nat) : Int), .int .u8 ((bt x 10 : Nat) : Int), .int .u8 ((bt x 11 : Nat) : Int), .int .u8 ((bt x 12 : Nat) : Int), .int .u8 ((bt x 13 : Nat) : Int), .int .u8 ((bt x 14 : Nat) : Int), .int .u8 ((bt x 15 : Nat) : Int), .int .u8 ((bt x 16 : Nat) : Int), .int .u8 ((bt x 17 : Nat) : Int), .int .u8 ((bt x 18 : Nat) : Int), .int .u8 ((bt x 19 : Nat) : Int), .int .u8 ((bt x 20 : Nat) : Int), .int .u8 ((bt x 21 : Nat) : Int), .int .u8 ((bt x 22 : Nat) : Int), .int .u8 ((bt x 23 : Nat) : Int), .int .u8 ((bt x 24 : Nat) : Int), .int .u8 ((bt x 25 : Nat) : Int), .int .u8 ((bt x 26 : Nat) : Int), .int .u8 ((bt x 27 : Nat) : Int), .int .u8 0, .int .u8 0, .int .u8 0, .int .u8 0] 41] w382 := H384
  refine GL.semU (j := 12) r383 [1, 2, 3, 5] [(1, pt p3 0), (2, pt p7 0), (3, pt p13 0), (5, .int .i64 27)] (by kernel_rfl) rfl rfl rfl ?_
  refine GL.k rfl hK377 (fun _ _ h => h) ?_
  refine G.region ?_
  refine GL.run (j := 2) 2 [1, 2, 3, 5] [(1, pt p3 0), (2, pt p7 0), (3, pt p13 0), (5, .int .i64 28)] (by kernel_rfl) rfl ?_
  refine GL.round rfl ?_
  refine G.seqK fun K385 hK386 => ?_
  refine G.region ?_
  refine GL.run (j := 1) 1 [1, 2, 3, 5, 6] [(1, pt p3 0), (2, pt p7 0), (3, pt p13 0), (5, .int .i64 28), (6, .bool true)] (by kernel_rfl) rfl ?_
  refine GL.k rfl hK386 (fun _ _ h => h) ?_
  refine G.seqK fun K387 hK388 => ?_
  refine G.yes rfl ?_
  refine G.skipK hK388 (fun _ _ h => h) ?_
  refine G.seqK fun K389 hK390 => ?_
  refine G.block ?_
  refine G.seqK fun K391 hK392 => ?_
  refine G.region ?_
  refine GL.run (j := 2) 2 [1, 2, 3, 4, 5] [(1, pt p3 0), (2, pt p7 0), (3, pt p13 0), (4, .int .i64 28), (5, .int .i64 28)] (by kernel_rfl) rfl ?_
  refine GL.k rfl hK392 (fun _ _ h => h) ?_
  refine G.region ?_
  refine GL.run (j := 4) 4 [1, 2, 3, 4, 5, 8, 11] [(1, pt p3 0), (2, pt p7 0), (3, pt p13 0), (4, .int .i64 28), (5, .int .i64 28), (8, .int .i64 28), (11, pt p3 3)] (by kernel_rfl) rfl ?_
  refine GL.sem (j := 5) (H384.ld (o := 3) (ty := 22) (v := .int .u64 (wd x 3 : Int)) 0 rfl (by kernel_rfl) rfl) [1, 2, 3, 4, 5, 8, 12] [(1, pt p3 0), (2, pt p7 0), (3, pt p13 0), (4, .int .i64 28), (5, .int .i64 28), (8, .int .i64 28), (12, .int .u64 (wd x 3 : Int))] (by kernel_rfl) (by kernel_rfl) rfl ?_
  refine GL.run (j := 11) 6 [1, 2, 3, 5, 17, 18] [(1, pt p3 0), (2, pt p7 0), (3, pt p13 0), (5, .int .i64 28), (17, .int .u8 (IntKind.u8.wrap (Int.fdiv (wd x 3 : Int) (2 ^ 32)))), (18, pt p13 28)] (by kernel_rfl) rfl ?_
  have e393 : (Int.fdiv (wd x 3 : Int) (2 ^ 32)) = (((wd x 3) / 2 ^ 32 : Nat) : Int) := n_shr _ 32
  have e394 : (IntKind.u8.wrap (((wd x 3) / 2 ^ 32 : Nat) : Int)) = ((bt x 28 : Nat) : Int) := (n_u8 _).trans (congrArg _ (bt_wd x (j := 3) (k := 4) (by decide) (by decide)))
  refine GL.eq (M' := [(1, pt p3 0), (2, pt p7 0), (3, pt p13 0), (5, .int .i64 28), (17, .int .u8 ((bt x 28 : Nat) : Int)), (18, pt p13 28)]) (by rw [e393, e394]) ?_
  clear e393 e394
  obtain ⟨w395, r396, H397⟩ := H384.st (P := Try.prog) (o := 28) (ty := 5) (v := .int .u8 ((bt x 28 : Nat) : Int)) 2 rfl (by kernel_rfl) (by simp) rfl
  have H397 : Hp w [] [.blk p3 (wl x) 24, .blk p7 [.int .u8 0, .int .u8 0, .int .u8 0, .int .u8 0, .int .u8 0, .int .u8 0, .int .u8 0, .int .u8 0, .int .u8 0, .int .u8 0, .int .u8 0, .int .u8 0, .int .u8 0, .int .u8 0, .int .u8 0, .int .u8 0, .int .u8 0, .int .u8 0, .int .u8 0, .int .u8 0, .int .u8 0, .int .u8 0, .int .u8 0, .int .u8 0, .int .u8 0, .int .u8 0, .int .u8 0, .int .u8 0, .int .u8 0, .int .u8 0, .int .u8 0, .int .u8 0] 41, .blk p13 [.int .u8 ((bt x 0 : Nat) : Int), .int .u8 ((bt x 1 : Nat) : Int), .int .u8 ((bt x 2 : Nat) : Int), .int .u8 ((bt x 3 : Nat) : Int), .int .u8 ((bt x 4 : Nat) : Int), .int .u8 ((bt x 5 : Nat) : Int), .int .u8 ((bt x 6 : Nat) : Int), .int .u8 ((bt x 7 : Nat) : Int), .int .u8 ((bt x 8 : Nat) : Int), .int .u8 ((bt x 9 : Nat) : Int), .int .u8 ((bt x 10 : Nat) : Int), .int .u8 ((bt x 11 : Nat) : Int), .int .u8 ((bt x 12 : Nat) : Int), .int .u8 ((bt x 13 : Nat) : Int), .int .u8 ((bt x 14 : Nat) : Int), .int .u8 ((bt x 15 : Nat) : Int), .int .u8 ((bt x 16 : Nat) : Int), .int .u8 ((bt x 17 : Nat) : Int), .int .u8 ((bt x 18 : Nat) : Int), .int .u8 ((bt x 19 : Nat) : Int), .int .u8 ((bt x 20 : Nat) : Int), .int .u8 ((bt x 21 : Nat) : Int), .int .u8 ((bt x 22 : Nat) : Int), .int .u8 ((bt x 23 : Nat) : Int), .int .u8 ((bt x 24 : Nat) : Int), .int .u8 ((bt x 25 : Nat) : Int), .int .u8 ((bt x 26 : Nat) : Int), .int .u8 ((bt x 27 : Nat) : Int), .int .u8 ((bt x 28 : Nat) : Int), .int .u8 0, .int .u8 0, .int .u8 0] 41] w395 := H397
  refine GL.semU (j := 12) r396 [1, 2, 3, 5] [(1, pt p3 0), (2, pt p7 0), (3, pt p13 0), (5, .int .i64 28)] (by kernel_rfl) rfl rfl rfl ?_
  refine GL.k rfl hK390 (fun _ _ h => h) ?_
  refine G.region ?_
  refine GL.run (j := 2) 2 [1, 2, 3, 5] [(1, pt p3 0), (2, pt p7 0), (3, pt p13 0), (5, .int .i64 29)] (by kernel_rfl) rfl ?_
  refine GL.round rfl ?_
  refine G.seqK fun K398 hK399 => ?_
  refine G.region ?_
  refine GL.run (j := 1) 1 [1, 2, 3, 5, 6] [(1, pt p3 0), (2, pt p7 0), (3, pt p13 0), (5, .int .i64 29), (6, .bool true)] (by kernel_rfl) rfl ?_
  refine GL.k rfl hK399 (fun _ _ h => h) ?_
  refine G.seqK fun K400 hK401 => ?_
  refine G.yes rfl ?_
  refine G.skipK hK401 (fun _ _ h => h) ?_
  refine G.seqK fun K402 hK403 => ?_
  refine G.block ?_
  refine G.seqK fun K404 hK405 => ?_
  refine G.region ?_
  refine GL.run (j := 2) 2 [1, 2, 3, 4, 5] [(1, pt p3 0), (2, pt p7 0), (3, pt p13 0), (4, .int .i64 29), (5, .int .i64 29)] (by kernel_rfl) rfl ?_
  refine GL.k rfl hK405 (fun _ _ h => h) ?_
  refine G.region ?_
  refine GL.run (j := 4) 4 [1, 2, 3, 4, 5, 8, 11] [(1, pt p3 0), (2, pt p7 0), (3, pt p13 0), (4, .int .i64 29), (5, .int .i64 29), (8, .int .i64 29), (11, pt p3 3)] (by kernel_rfl) rfl ?_
  refine GL.sem (j := 5) (H397.ld (o := 3) (ty := 22) (v := .int .u64 (wd x 3 : Int)) 0 rfl (by kernel_rfl) rfl) [1, 2, 3, 4, 5, 8, 12] [(1, pt p3 0), (2, pt p7 0), (3, pt p13 0), (4, .int .i64 29), (5, .int .i64 29), (8, .int .i64 29), (12, .int .u64 (wd x 3 : Int))] (by kernel_rfl) (by kernel_rfl) rfl ?_
  refine GL.run (j := 11) 6 [1, 2, 3, 5, 17, 18] [(1, pt p3 0), (2, pt p7 0), (3, pt p13 0), (5, .int .i64 29), (17, .int .u8 (IntKind.u8.wrap (Int.fdiv (wd x 3 : Int) (2 ^ 40)))), (18, pt p13 29)] (by kernel_rfl) rfl ?_
  have e406 : (Int.fdiv (wd x 3 : Int) (2 ^ 40)) = (((wd x 3) / 2 ^ 40 : Nat) : Int) := n_shr _ 40
  have e407 : (IntKind.u8.wrap (((wd x 3) / 2 ^ 40 : Nat) : Int)) = ((bt x 29 : Nat) : Int) := (n_u8 _).trans (congrArg _ (bt_wd x (j := 3) (k := 5) (by decide) (by decide)))
  refine GL.eq (M' := [(1, pt p3 0), (2, pt p7 0), (3, pt p13 0), (5, .int .i64 29), (17, .int .u8 ((bt x 29 : Nat) : Int)), (18, pt p13 29)]) (by rw [e406, e407]) ?_
  clear e406 e407
  obtain ⟨w408, r409, H410⟩ := H397.st (P := Try.prog) (o := 29) (ty := 5) (v := .int .u8 ((bt x 29 : Nat) : Int)) 2 rfl (by kernel_rfl) (by simp) rfl
  have H410 : Hp w [] [.blk p3 (wl x) 24, .blk p7 [.int .u8 0, .int .u8 0, .int .u8 0, .int .u8 0, .int .u8 0, .int .u8 0, .int .u8 0, .int .u8 0, .int .u8 0, .int .u8 0, .int .u8 0, .int .u8 0, .int .u8 0, .int .u8 0, .int .u8 0, .int .u8 0, .int .u8 0, .int .u8 0, .int .u8 0, .int .u8 0, .int .u8 0, .int .u8 0, .int .u8 0, .int .u8 0, .int .u8 0, .int .u8 0, .int .u8 0, .int .u8 0, .int .u8 0, .int .u8 0, .int .u8 0, .int .u8 0] 41, .blk p13 [.int .u8 ((bt x 0 : Nat) : Int), .int .u8 ((bt x 1 : Nat) : Int), .int .u8 ((bt x 2 : Nat) : Int), .int .u8 ((bt x 3 : Nat) : Int), .int .u8 ((bt x 4 : Nat) : Int), .int .u8 ((bt x 5 : Nat) : Int), .int .u8 ((bt x 6 : Nat) : Int), .int .u8 ((bt x 7 : Nat) : Int), .int .u8 ((bt x 8 : Nat) : Int), .int .u8 ((bt x 9 : Nat) : Int), .int .u8 ((bt x 10 : Nat) : Int), .int .u8 ((bt x 11 : Nat) : Int), .int .u8 ((bt x 12 : Nat) : Int), .int .u8 ((bt x 13 : Nat) : Int), .int .u8 ((bt x 14 : Nat) : Int), .int .u8 ((bt x 15 : Nat) : Int), .int .u8 ((bt x 16 : Nat) : Int), .int .u8 ((bt x 17 : Nat) : Int), .int .u8 ((bt x 18 : Nat) : Int), .int .u8 ((bt x 19 : Nat) : Int), .int .u8 ((bt x 20 : Nat) : Int), .int .u8 ((bt x 21 : Nat) : Int), .int .u8 ((bt x 22 : Nat) : Int), .int .u8 ((bt x 23 : Nat) : Int), .int .u8 ((bt x 24 : Nat) : Int), .int .u8 ((bt x 25 : Nat) : Int), .int .u8 ((bt x 26 : Nat) : Int), .int .u8 ((bt x 27 : Nat) : Int), .int .u8 ((bt x 28 : Nat) : Int), .int .u8 ((bt x 29 : Nat) : Int), .int .u8 0, .int .u8 0] 41] w408 := H410
  refine GL.semU (j := 12) r409 [1, 2, 3, 5] [(1, pt p3 0), (2, pt p7 0), (3, pt p13 0), (5, .int .i64 29)] (by kernel_rfl) rfl rfl rfl ?_
  refine GL.k rfl hK403 (fun _ _ h => h) ?_
  refine G.region ?_
  refine GL.run (j := 2) 2 [1, 2, 3, 5] [(1, pt p3 0), (2, pt p7 0), (3, pt p13 0), (5, .int .i64 30)] (by kernel_rfl) rfl ?_
  refine GL.round rfl ?_
  refine G.seqK fun K411 hK412 => ?_
  refine G.region ?_
  refine GL.run (j := 1) 1 [1, 2, 3, 5, 6] [(1, pt p3 0), (2, pt p7 0), (3, pt p13 0), (5, .int .i64 30), (6, .bool true)] (by kernel_rfl) rfl ?_
  refine GL.k rfl hK412 (fun _ _ h => h) ?_
  refine G.seqK fun K413 hK414 => ?_
  refine G.yes rfl ?_
  refine G.skipK hK414 (fun _ _ h => h) ?_
  refine G.seqK fun K415 hK416 => ?_
  refine G.block ?_
  refine G.seqK fun K417 hK418 => ?_
  refine G.region ?_
  refine GL.run (j := 2) 2 [1, 2, 3, 4, 5] [(1, pt p3 0), (2, pt p7 0), (3, pt p13 0), (4, .int .i64 30), (5, .int .i64 30)] (by kernel_rfl) rfl ?_
  refine GL.k rfl hK418 (fun _ _ h => h) ?_
  refine G.region ?_
  refine GL.run (j := 4) 4 [1, 2, 3, 4, 5, 8, 11] [(1, pt p3 0), (2, pt p7 0), (3, pt p13 0), (4, .int .i64 30), (5, .int .i64 30), (8, .int .i64 30), (11, pt p3 3)] (by kernel_rfl) rfl ?_
  refine GL.sem (j := 5) (H410.ld (o := 3) (ty := 22) (v := .int .u64 (wd x 3 : Int)) 0 rfl (by kernel_rfl) rfl) [1, 2, 3, 4, 5, 8, 12] [(1, pt p3 0), (2, pt p7 0), (3, pt p13 0), (4, .int .i64 30), (5, .int .i64 30), (8, .int .i64 30), (12, .int .u64 (wd x 3 : Int))] (by kernel_rfl) (by kernel_rfl) rfl ?_
  refine GL.run (j := 11) 6 [1, 2, 3, 5, 17, 18] [(1, pt p3 0), (2, pt p7 0), (3, pt p13 0), (5, .int .i64 30), (17, .int .u8 (IntKind.u8.wrap (Int.fdiv (wd x 3 : Int) (2 ^ 48)))), (18, pt p13 30)] (by kernel_rfl) rfl ?_
  have e419 : (Int.fdiv (wd x 3 : Int) (2 ^ 48)) = (((wd x 3) / 2 ^ 48 : Nat) : Int) := n_shr _ 48
  have e420 : (IntKind.u8.wrap (((wd x 3) / 2 ^ 48 : Nat) : Int)) = ((bt x 30 : Nat) : Int) := (n_u8 _).trans (congrArg _ (bt_wd x (j := 3) (k := 6) (by decide) (by decide)))
  refine GL.eq (M' := [(1, pt p3 0), (2, pt p7 0), (3, pt p13 0), (5, .int .i64 30), (17, .int .u8 ((bt x 30 : Nat) : Int)), (18, pt p13 30)]) (by rw [e419, e420]) ?_
  clear e419 e420
  obtain ⟨w421, r422, H423⟩ := H410.st (P := Try.prog) (o := 30) (ty := 5) (v := .int .u8 ((bt x 30 : Nat) : Int)) 2 rfl (by kernel_rfl) (by simp) rfl
  have H423 : Hp w [] [.blk p3 (wl x) 24, .blk p7 [.int .u8 0, .int .u8 0, .int .u8 0, .int .u8 0, .int .u8 0, .int .u8 0, .int .u8 0, .int .u8 0, .int .u8 0, .int .u8 0, .int .u8 0, .int .u8 0, .int .u8 0, .int .u8 0, .int .u8 0, .int .u8 0, .int .u8 0, .int .u8 0, .int .u8 0, .int .u8 0, .int .u8 0, .int .u8 0, .int .u8 0, .int .u8 0, .int .u8 0, .int .u8 0, .int .u8 0, .int .u8 0, .int .u8 0, .int .u8 0, .int .u8 0, .int .u8 0] 41, .blk p13 [.int .u8 ((bt x 0 : Nat) : Int), .int .u8 ((bt x 1 : Nat) : Int), .int .u8 ((bt x 2 : Nat) : Int), .int .u8 ((bt x 3 : Nat) : Int), .int .u8 ((bt x 4 : Nat) : Int), .int .u8 ((bt x 5 : Nat) : Int), .int .u8 ((bt x 6 : Nat) : Int), .int .u8 ((bt x 7 : Nat) : Int), .int .u8 ((bt x 8 : Nat) : Int), .int .u8 ((bt x 9 : Nat) : Int), .int .u8 ((bt x 10 : Nat) : Int), .int .u8 ((bt x 11 : Nat) : Int), .int .u8 ((bt x 12 : Nat) : Int), .int .u8 ((bt x 13 : Nat) : Int), .int .u8 ((bt x 14 : Nat) : Int), .int .u8 ((bt x 15 : Nat) : Int), .int .u8 ((bt x 16 : Nat) : Int), .int .u8 ((bt x 17 : Nat) : Int), .int .u8 ((bt x 18 : Nat) : Int), .int .u8 ((bt x 19 : Nat) : Int), .int .u8 ((bt x 20 : Nat) : Int), .int .u8 ((bt x 21 : Nat) : Int), .int .u8 ((bt x 22 : Nat) : Int), .int .u8 ((bt x 23 : Nat) : Int), .int .u8 ((bt x 24 : Nat) : Int), .int .u8 ((bt x 25 : Nat) : Int), .int .u8 ((bt x 26 : Nat) : Int), .int .u8 ((bt x 27 : Nat) : Int), .int .u8 ((bt x 28 : Nat) : Int), .int .u8 ((bt x 29 : Nat) : Int), .int .u8 ((bt x 30 : Nat) : Int), .int .u8 0] 41] w421 := H423
  refine GL.semU (j := 12) r422 [1, 2, 3, 5] [(1, pt p3 0), (2, pt p7 0), (3, pt p13 0), (5, .int .i64 30)] (by kernel_rfl) rfl rfl rfl ?_
  refine GL.k rfl hK416 (fun _ _ h => h) ?_
  refine G.region ?_
  refine GL.run (j := 2) 2 [1, 2, 3, 5] [(1, pt p3 0), (2, pt p7 0), (3, pt p13 0), (5, .int .i64 31)] (by kernel_rfl) rfl ?_
  refine GL.round rfl ?_
  refine G.seqK fun K424 hK425 => ?_
  refine G.region ?_
  refine GL.run (j := 1) 1 [1, 2, 3, 5, 6] [(1, pt p3 0), (2, pt p7 0), (3, pt p13 0), (5, .int .i64 31), (6, .bool true)] (by kernel_rfl) rfl ?_
  refine GL.k rfl hK425 (fun _ _ h => h) ?_
  refine G.seqK fun K426 hK427 => ?_
  refine G.yes rfl ?_
  refine G.skipK hK427 (fun _ _ h => h) ?_
  refine G.seqK fun K428 hK429 => ?_
  refine G.block ?_
  refine G.seqK fun K430 hK431 => ?_
  refine G.region ?_
  refine GL.run (j := 2) 2 [1, 2, 3, 4, 5] [(1, pt p3 0), (2, pt p7 0), (3, pt p13 0), (4, .int .i64 31), (5, .int .i64 31)] (by kernel_rfl) rfl ?_
  refine GL.k rfl hK431 (fun _ _ h => h) ?_
  refine G.region ?_
  refine GL.run (j := 4) 4 [1, 2, 3, 4, 5, 8, 11] [(1, pt p3 0), (2, pt p7 0), (3, pt p13 0), (4, .int .i64 31), (5, .int .i64 31), (8, .int .i64 31), (11, pt p3 3)] (by kernel_rfl) rfl ?_
  refine GL.sem (j := 5) (H423.ld (o := 3) (ty := 22) (v := .int .u64 (wd x 3 : Int)) 0 rfl (by kernel_rfl) rfl) [1, 2, 3, 4, 5, 8, 12] [(1, pt p3 0), (2, pt p7 0), (3, pt p13 0), (4, .int .i64 31), (5, .int .i64 31), (8, .int .i64 31), (12, .int .u64 (wd x 3 : Int))] (by kernel_rfl) (by kernel_rfl) rfl ?_
  refine GL.run (j := 11) 6 [1, 2, 3, 5, 17, 18] [(1, pt p3 0), (2, pt p7 0), (3, pt p13 0), (5, .int .i64 31), (17, .int .u8 (IntKind.u8.wrap (Int.fdiv (wd x 3 : Int) (2 ^ 56)))), (18, pt p13 31)] (by kernel_rfl) rfl ?_
  have e432 : (Int.fdiv (wd x 3 : Int) (2 ^ 56)) = (((wd x 3) / 2 ^ 56 : Nat) : Int) := n_shr _ 56
  have e433 : (IntKind.u8.wrap (((wd x 3) / 2 ^ 56 : Nat) : Int)) = ((bt x 31 : Nat) : Int) := (n_u8 _).trans (congrArg _ (bt_wd x (j := 3) (k := 7) (by decide) (by decide)))
  refine GL.eq (M' := [(1, pt p3 0), (2, pt p7 0), (3, pt p13 0), (5, .int .i64 31), (17, .int .u8 ((bt x 31 : Nat) : Int)), (18, pt p13 31)]) (by rw [e432, e433]) ?_
  clear e432 e433
  obtain ⟨w434, r435, H436⟩ := H423.st (P := Try.prog) (o := 31) (ty := 5) (v := .int .u8 ((bt x 31 : Nat) : Int)) 2 rfl (by kernel_rfl) (by simp) rfl
  have H436 : Hp w [] [.blk p3 (wl x) 24, .blk p7 [.int .u8 0, .int .u8 0, .int .u8 0, .int .u8 0, .int .u8 0, .int .u8 0, .int .u8 0, .int .u8 0, .int .u8 0, .int .u8 0, .int .u8 0, .int .u8 0, .int .u8 0, .int .u8 0, .int .u8 0, .int .u8 0, .int .u8 0, .int .u8 0, .int .u8 0, .int .u8 0, .int .u8 0, .int .u8 0, .int .u8 0, .int .u8 0, .int .u8 0, .int .u8 0, .int .u8 0, .int .u8 0, .int .u8 0, .int .u8 0, .int .u8 0, .int .u8 0] 41, .blk p13 [.int .u8 ((bt x 0 : Nat) : Int), .int .u8 ((bt x 1 : Nat) : Int), .int .u8 ((bt x 2 : Nat) : Int), .int .u8 ((bt x 3 : Nat) : Int), .int .u8 ((bt x 4 : Nat) : Int), .int .u8 ((bt x 5 : Nat) : Int), .int .u8 ((bt x 6 : Nat) : Int), .int .u8 ((bt x 7 : Nat) : Int), .int .u8 ((bt x 8 : Nat) : Int), .int .u8 ((bt x 9 : Nat) : Int), .int .u8 ((bt x 10 : Nat) : Int), .int .u8 ((bt x 11 : Nat) : Int), .int .u8 ((bt x 12 : Nat) : Int), .int .u8 ((bt x 13 : Nat) : Int), .int .u8 ((bt x 14 : Nat) : Int), .int .u8 ((bt x 15 : Nat) : Int), .int .u8 ((bt x 16 : Nat) : Int), .int .u8 ((bt x 17 : Nat) : Int), .int .u8 ((bt x 18 : Nat) : Int), .int .u8 ((bt x 19 : Nat) : Int), .int .u8 ((bt x 20 : Nat) : Int), .int .u8 ((bt x 21 : Nat) : Int), .int .u8 ((bt x 22 : Nat) : Int), .int .u8 ((bt x 23 : Nat) : Int), .int .u8 ((bt x 24 : Nat) : Int), .int .u8 ((bt x 25 : Nat) : Int), .int .u8 ((bt x 26 : Nat) : Int), .int .u8 ((bt x 27 : Nat) : Int), .int .u8 ((bt x 28 : Nat) : Int), .int .u8 ((bt x 29 : Nat) : Int), .int .u8 ((bt x 30 : Nat) : Int), .int .u8 ((bt x 31 : Nat) : Int)] 41] w434 := H436
  refine GL.semU (j := 12) r435 [1, 2, 3, 5] [(1, pt p3 0), (2, pt p7 0), (3, pt p13 0), (5, .int .i64 31)] (by kernel_rfl) rfl rfl rfl ?_
  refine GL.k rfl hK429 (fun _ _ h => h) ?_
  refine G.region ?_
  refine GL.run (j := 2) 2 [1, 2, 3, 5] [(1, pt p3 0), (2, pt p7 0), (3, pt p13 0), (5, .int .i64 32)] (by kernel_rfl) rfl ?_
  refine GL.round rfl ?_
  refine G.seqK fun K437 hK438 => ?_
  refine G.region ?_
  refine GL.run (j := 1) 1 [1, 2, 3, 5, 6] [(1, pt p3 0), (2, pt p7 0), (3, pt p13 0), (5, .int .i64 32), (6, .bool false)] (by kernel_rfl) rfl ?_
  refine GL.k rfl hK438 (fun _ _ h => h) ?_
  refine G.seqK fun K439 hK440 => ?_
  refine G.no rfl ?_
  refine G.exitK hK18 (fun _ _ h => h) ?_
  refine G.seqK fun K441 hK442 => ?_
  refine G.region ?_
  refine GL.sem (j := 1) (H436.ldA (o := 0) (ty := 41) (m := 32) (sub := [.int .u8 ((bt x 0 : Nat) : Int), .int .u8 ((bt x 1 : Nat) : Int), .int .u8 ((bt x 2 : Nat) : Int), .int .u8 ((bt x 3 : Nat) : Int), .int .u8 ((bt x 4 : Nat) : Int), .int .u8 ((bt x 5 : Nat) : Int), .int .u8 ((bt x 6 : Nat) : Int), .int .u8 ((bt x 7 : Nat) : Int), .int .u8 ((bt x 8 : Nat) : Int), .int .u8 ((bt x 9 : Nat) : Int), .int .u8 ((bt x 10 : Nat) : Int), .int .u8 ((bt x 11 : Nat) : Int), .int .u8 ((bt x 12 : Nat) : Int), .int .u8 ((bt x 13 : Nat) : Int), .int .u8 ((bt x 14 : Nat) : Int), .int .u8 ((bt x 15 : Nat) : Int), .int .u8 ((bt x 16 : Nat) : Int), .int .u8 ((bt x 17 : Nat) : Int), .int .u8 ((bt x 18 : Nat) : Int), .int .u8 ((bt x 19 : Nat) : Int), .int .u8 ((bt x 20 : Nat) : Int), .int .u8 ((bt x 21 : Nat) : Int), .int .u8 ((bt x 22 : Nat) : Int), .int .u8 ((bt x 23 : Nat) : Int), .int .u8 ((bt x 24 : Nat) : Int), .int .u8 ((bt x 25 : Nat) : Int), .int .u8 ((bt x 26 : Nat) : Int), .int .u8 ((bt x 27 : Nat) : Int), .int .u8 ((bt x 28 : Nat) : Int), .int .u8 ((bt x 29 : Nat) : Int), .int .u8 ((bt x 30 : Nat) : Int), .int .u8 ((bt x 31 : Nat) : Int)]) 2 rfl (by kernel_rfl) rfl rfl) [2, 20] [(2, pt p7 0), (20, .agg #[.int .u8 ((bt x 0 : Nat) : Int), .int .u8 ((bt x 1 : Nat) : Int), .int .u8 ((bt x 2 : Nat) : Int), .int .u8 ((bt x 3 : Nat) : Int), .int .u8 ((bt x 4 : Nat) : Int), .int .u8 ((bt x 5 : Nat) : Int), .int .u8 ((bt x 6 : Nat) : Int), .int .u8 ((bt x 7 : Nat) : Int), .int .u8 ((bt x 8 : Nat) : Int), .int .u8 ((bt x 9 : Nat) : Int), .int .u8 ((bt x 10 : Nat) : Int), .int .u8 ((bt x 11 : Nat) : Int), .int .u8 ((bt x 12 : Nat) : Int), .int .u8 ((bt x 13 : Nat) : Int), .int .u8 ((bt x 14 : Nat) : Int), .int .u8 ((bt x 15 : Nat) : Int), .int .u8 ((bt x 16 : Nat) : Int), .int .u8 ((bt x 17 : Nat) : Int), .int .u8 ((bt x 18 : Nat) : Int), .int .u8 ((bt x 19 : Nat) : Int), .int .u8 ((bt x 20 : Nat) : Int), .int .u8 ((bt x 21 : Nat) : Int), .int .u8 ((bt x 22 : Nat) : Int), .int .u8 ((bt x 23 : Nat) : Int), .int .u8 ((bt x 24 : Nat) : Int), .int .u8 ((bt x 25 : Nat) : Int), .int .u8 ((bt x 26 : Nat) : Int), .int .u8 ((bt x 27 : Nat) : Int), .int .u8 ((bt x 28 : Nat) : Int), .int .u8 ((bt x 29 : Nat) : Int), .int .u8 ((bt x 30 : Nat) : Int), .int .u8 ((bt x 31 : Nat) : Int)])] (by kernel_rfl) (by kernel_rfl) rfl ?_
  obtain ⟨w443, r444, H445⟩ := H436.stA (P := Try.prog) (o := 0) (vs := [.int .u8 ((bt x 0 : Nat) : Int), .int .u8 ((bt x 1 : Nat) : Int), .int .u8 ((bt x 2 : Nat) : Int), .int .u8 ((bt x 3 : Nat) : Int), .int .u8 ((bt x 4 : Nat) : Int), .int .u8 ((bt x 5 : Nat) : Int), .int .u8 ((bt x 6 : Nat) : Int), .int .u8 ((bt x 7 : Nat) : Int), .int .u8 ((bt x 8 : Nat) : Int), .int .u8 ((bt x 9 : Nat) : Int), .int .u8 ((bt x 10 : Nat) : Int), .int .u8 ((bt x 11 : Nat) : Int), .int .u8 ((bt x 12 : Nat) : Int), .int .u8 ((bt x 13 : Nat) : Int), .int .u8 ((bt x 14 : Nat) : Int), .int .u8 ((bt x 15 : Nat) : Int), .int .u8 ((bt x 16 : Nat) : Int), .int .u8 ((bt x 17 : Nat) : Int), .int .u8 ((bt x 18 : Nat) : Int), .int .u8 ((bt x 19 : Nat) : Int), .int .u8 ((bt x 20 : Nat) : Int), .int .u8 ((bt x 21 : Nat) : Int), .int .u8 ((bt x 22 : Nat) : Int), .int .u8 ((bt x 23 : Nat) : Int), .int .u8 ((bt x 24 : Nat) : Int), .int .u8 ((bt x 25 : Nat) : Int), .int .u8 ((bt x 26 : Nat) : Int), .int .u8 ((bt x 27 : Nat) : Int), .int .u8 ((bt x 28 : Nat) : Int), .int .u8 ((bt x 29 : Nat) : Int), .int .u8 ((bt x 30 : Nat) : Int), .int .u8 ((bt x 31 : Nat) : Int)]) (ty := 41) (m := 32) 1 rfl (by kernel_rfl) rfl (by simp) (by simp [Value.oneCell'])
  have H445 : Hp w [] [.blk p3 (wl x) 24, .blk p7 [.int .u8 ((bt x 0 : Nat) : Int), .int .u8 ((bt x 1 : Nat) : Int), .int .u8 ((bt x 2 : Nat) : Int), .int .u8 ((bt x 3 : Nat) : Int), .int .u8 ((bt x 4 : Nat) : Int), .int .u8 ((bt x 5 : Nat) : Int), .int .u8 ((bt x 6 : Nat) : Int), .int .u8 ((bt x 7 : Nat) : Int), .int .u8 ((bt x 8 : Nat) : Int), .int .u8 ((bt x 9 : Nat) : Int), .int .u8 ((bt x 10 : Nat) : Int), .int .u8 ((bt x 11 : Nat) : Int), .int .u8 ((bt x 12 : Nat) : Int), .int .u8 ((bt x 13 : Nat) : Int), .int .u8 ((bt x 14 : Nat) : Int), .int .u8 ((bt x 15 : Nat) : Int), .int .u8 ((bt x 16 : Nat) : Int), .int .u8 ((bt x 17 : Nat) : Int), .int .u8 ((bt x 18 : Nat) : Int), .int .u8 ((bt x 19 : Nat) : Int), .int .u8 ((bt x 20 : Nat) : Int), .int .u8 ((bt x 21 : Nat) : Int), .int .u8 ((bt x 22 : Nat) : Int), .int .u8 ((bt x 23 : Nat) : Int), .int .u8 ((bt x 24 : Nat) : Int), .int .u8 ((bt x 25 : Nat) : Int), .int .u8 ((bt x 26 : Nat) : Int), .int .u8 ((bt x 27 : Nat) : Int), .int .u8 ((bt x 28 : Nat) : Int), .int .u8 ((bt x 29 : Nat) : Int), .int .u8 ((bt x 30 : Nat) : Int), .int .u8 ((bt x 31 : Nat) : Int)] 41, .blk p13 [.int .u8 ((bt x 0 : Nat) : Int), .int .u8 ((bt x 1 : Nat) : Int), .int .u8 ((bt x 2 : Nat) : Int), .int .u8 ((bt x 3 : Nat) : Int), .int .u8 ((bt x 4 : Nat) : Int), .int .u8 ((bt x 5 : Nat) : Int), .int .u8 ((bt x 6 : Nat) : Int), .int .u8 ((bt x 7 : Nat) : Int), .int .u8 ((bt x 8 : Nat) : Int), .int .u8 ((bt x 9 : Nat) : Int), .int .u8 ((bt x 10 : Nat) : Int), .int .u8 ((bt x 11 : Nat) : Int), .int .u8 ((bt x 12 : Nat) : Int), .int .u8 ((bt x 13 : Nat) : Int), .int .u8 ((bt x 14 : Nat) : Int), .int .u8 ((bt x 15 : Nat) : Int), .int .u8 ((bt x 16 : Nat) : Int), .int .u8 ((bt x 17 : Nat) : Int), .int .u8 ((bt x 18 : Nat) : Int), .int .u8 ((bt x 19 : Nat) : Int), .int .u8 ((bt x 20 : Nat) : Int), .int .u8 ((bt x 21 : Nat) : Int), .int .u8 ((bt x 22 : Nat) : Int), .int .u8 ((bt x 23 : Nat) : Int), .int .u8 ((bt x 24 : Nat) : Int), .int .u8 ((bt x 25 : Nat) : Int), .int .u8 ((bt x 26 : Nat) : Int), .int .u8 ((bt x 27 : Nat) : Int), .int .u8 ((bt x 28 : Nat) : Int), .int .u8 ((bt x 29 : Nat) : Int), .int .u8 ((bt x 30 : Nat) : Int), .int .u8 ((bt x 31 : Nat) : Int)] 41] w443 := H445
  refine GL.semU (j := 2) r444 [2] [(2, pt p7 0)] (by kernel_rfl) rfl rfl rfl ?_
  refine GL.k rfl hK442 (fun _ _ h => h) ?_
  refine G.ret ?_
  intro F_ hF_ hM_
  refine hRet _ _ (bodyPost_1 rfl (RV.cell rfl (H445.ldA (o := 0) (ty := 41) (m := 32) (sub := [.int .u8 ((bt x 0 : Nat) : Int), .int .u8 ((bt x 1 : Nat) : Int), .int .u8 ((bt x 2 : Nat) : Int), .int .u8 ((bt x 3 : Nat) : Int), .int .u8 ((bt x 4 : Nat) : Int), .int .u8 ((bt x 5 : Nat) : Int), .int .u8 ((bt x 6 : Nat) : Int), .int .u8 ((bt x 7 : Nat) : Int), .int .u8 ((bt x 8 : Nat) : Int), .int .u8 ((bt x 9 : Nat) : Int), .int .u8 ((bt x 10 : Nat) : Int), .int .u8 ((bt x 11 : Nat) : Int), .int .u8 ((bt x 12 : Nat) : Int), .int .u8 ((bt x 13 : Nat) : Int), .int .u8 ((bt x 14 : Nat) : Int), .int .u8 ((bt x 15 : Nat) : Int), .int .u8 ((bt x 16 : Nat) : Int), .int .u8 ((bt x 17 : Nat) : Int), .int .u8 ((bt x 18 : Nat) : Int), .int .u8 ((bt x 19 : Nat) : Int), .int .u8 ((bt x 20 : Nat) : Int), .int .u8 ((bt x 21 : Nat) : Int), .int .u8 ((bt x 22 : Nat) : Int), .int .u8 ((bt x 23 : Nat) : Int), .int .u8 ((bt x 24 : Nat) : Int), .int .u8 ((bt x 25 : Nat) : Int), .int .u8 ((bt x 26 : Nat) : Int), .int .u8 ((bt x 27 : Nat) : Int), .int .u8 ((bt x 28 : Nat) : Int), .int .u8 ((bt x 29 : Nat) : Int), .int .u8 ((bt x 30 : Nat) : Int), .int .u8 ((bt x 31 : Nat) : Int)]) 1 rfl (by kernel_rfl) rfl rfl)) ?_ F_ hF_ hM_)
  exact ⟨rfl, H445.sub (List.nil_sublist _)⟩
end Go.Proofs.Ytpfdpikblijddaa
