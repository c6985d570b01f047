/- Part 2 of what moneyTextsCard_proved stands on. -/
import Derived.Test.YtgbhiklengafiaaDoorZt1
set_option linter.unusedVariables false
set_option maxRecDepth 100000
namespace Go.Proofs.YtgbhiklengafiaaDoor
open Go.RowKit
theorem add64_run {x y c s t : Nat} (hc : c ≤ 1) (hs : s = (x + y + c) % K) (ht : t = (x + y + c) / K) (w : World) :
    (callFunc 30 #[.int .u64 x, .int .u64 y, .int .u64 c]).run Tryd.prog w = .ok (.value (.tuple #[.int .u64 (s : Int), .int .u64 (t : Int)])) w := by
  subst hs ht
  rw [run_callFunc_extern Tryd.func30 (by kernel_rfl) (by kernel_rfl) (by kernel_rfl) (e := add64Entry) (by kernel_rfl), run_add64 x y c (by omega) (by omega) (by omega) (by omega)]
  simp only [Result.andThen]
  congr 5 <;> simp only [K] at * <;> omega
theorem sub64_run {x y c s t : Nat} (hc : c ≤ 1) (hs : s = (x + K - y - c) % K) (ht : t = if x < y + c then 1 else 0) (w : World) :
    (callFunc 43 #[.int .u64 x, .int .u64 y, .int .u64 c]).run Tryd.prog w = .ok (.value (.tuple #[.int .u64 (s : Int), .int .u64 (t : Int)])) w := by
  subst hs ht
  rw [run_callFunc_extern Tryd.func43 (by kernel_rfl) (by kernel_rfl) (by kernel_rfl) (e := sub64Entry) (by kernel_rfl), run_sub64 x y c hc]
  rfl
theorem Add_calls (x y : Nat) (hx : x < K4) (hy : y < K4) (w : World) : Calls Tryd.prog 20 #[wv x, wv y] w fun e w' => e = .returned (.tuple #[wv ((x + y) % K4), .bool (decide (K4 ≤ x + y))]) ∧ Hp w [] [] w' := by
  refine calls_G (args := [wv x, wv y]) Tryd.func20 rfl Tryd.ntmps20 rfl ?_
  intro Q0 hRet hNor hPan
  have H := Hp.start w
  have H : Hp w [] [] w := H
  refine G.seqK fun K1 hK2 => ?_
  refine G.region ?_
  obtain ⟨p3, w4, r5, H6⟩ := H.box (P := Tryd.prog) 45 [.int .u64 (wd x 0 : Int), .int .u64 (wd x 1 : Int), .int .u64 (wd x 2 : Int), .int .u64 (wd x 3 : Int)] (wv x) rfl
  have H6 : Hp w [] [.blk p3 [.int .u64 (wd x 0 : Int), .int .u64 (wd x 1 : Int), .int .u64 (wd x 2 : Int), .int .u64 (wd x 3 : Int)] 45] w4 := H6
  refine GL.sem (j := 1) (r5) [1, 2] [(1, wv y), (2, pt p3 0)] (by kernel_rfl) (by kernel_rfl) rfl ?_
  obtain ⟨p7, w8, r9, H10⟩ := H6.box (P := Tryd.prog) 45 [.int .u64 (wd y 0 : Int), .int .u64 (wd y 1 : Int), .int .u64 (wd y 2 : Int), .int .u64 (wd y 3 : Int)] (wv y) rfl
  have H10 : Hp w [] [.blk p3 [.int .u64 (wd x 0 : Int), .int .u64 (wd x 1 : Int), .int .u64 (wd x 2 : Int), .int .u64 (wd x 3 : Int)] 45, .blk p7 [.int .u64 (wd y 0 : Int), .int .u64 (wd y 1 : Int), .int .u64 (wd y 2 : Int), .int .u64 (wd y 3 : Int)] 45] w8 := H10
  refine GL.sem (j := 2) (r9) [2, 3] [(2, pt p3 0), (3, pt p7 0)] (by kernel_rfl) (by kernel_rfl) rfl ?_
  obtain ⟨p11, w12, r13, H14⟩ := H10.alloc (P := Tryd.prog) 45 [.int .u64 0, .int .u64 0, .int .u64 0, .int .u64 0] (by kernel_rfl)
  have H14 : Hp w [] [.blk p3 [.int .u64 (wd x 0 : Int), .int .u64 (wd x 1 : Int), .int .u64 (wd x 2 : Int), .int .u64 (wd x 3 : Int)] 45, .blk p7 [.int .u64 (wd y 0 : Int), .int .u64 (wd y 1 : Int), .int .u64 (wd y 2 : Int), .int .u64 (wd y 3 : Int)] 45, .blk p11 [.int .u64 0, .int .u64 0, .int .u64 0, .int .u64 0] 45] w12 := H14
  refine GL.sem (j := 3) (r13) [2, 3, 4] [(2, pt p3 0), (3, pt p7 0), (4, pt p11 0)] (by kernel_rfl) (by kernel_rfl) rfl ?_
  refine GL.run (j := 4) 1 [2, 3, 4] [(2, pt p3 0), (3, pt p7 0), (4, pt p11 0)] (by kernel_rfl) rfl ?_
  refine GL.k rfl hK2 (fun _ _ h => h) ?_
  refine G.seqK fun K15 hK16 => ?_
  refine G.region ?_
  obtain ⟨p17, w18, r19, H20⟩ := H14.alloc (P := Tryd.prog) 45 [.int .u64 0, .int .u64 0, .int .u64 0, .int .u64 0] (by kernel_rfl)
  have H20 : Hp w [] [.blk p3 [.int .u64 (wd x 0 : Int), .int .u64 (wd x 1 : Int), .int .u64 (wd x 2 : Int), .int .u64 (wd x 3 : Int)] 45, .blk p7 [.int .u64 (wd y 0 : Int), .int .u64 (wd y 1 : Int), .int .u64 (wd y 2 : Int), .int .u64 (wd y 3 : Int)] 45, .blk p11 [.int .u64 0, .int .u64 0, .int .u64 0, .int .u64 0] 45, .blk p17 [.int .u64 0, .int .u64 0, .int .u64 0, .int .u64 0] 45] w18 := H20
  refine GL.sem (j := 1) (r19) [2, 3, 4, 6] [(2, pt p3 0), (3, pt p7 0), (4, pt p11 0), (6, pt p17 0)] (by kernel_rfl) (by kernel_rfl) rfl ?_
  refine GL.k rfl hK16 (fun _ _ h => h) ?_
  refine G.seqK fun K21 hK22 => ?_
  refine G.region ?_
  refine GL.run (j := 1) 1 [2, 3, 4, 6, 7] [(2, pt p3 0), (3, pt p7 0), (4, pt p11 0), (6, pt p17 0), (7, .int .u64 0)] (by kernel_rfl) rfl ?_
  refine GL.k rfl hK22 (fun _ _ h => h) ?_
  refine G.seqK fun K23 hK24 => ?_
  refine G.seqK fun K25 hK26 => ?_
  refine G.region ?_
  refine GL.run (j := 1) 1 [2, 3, 4, 6, 7, 9] [(2, pt p3 0), (3, pt p7 0), (4, pt p11 0), (6, pt p17 0), (7, .int .u64 0), (9, .int .i64 0)] (by kernel_rfl) rfl ?_
  refine GL.k rfl hK26 (fun _ _ h => h) ?_
  refine G.block ?_
  refine G.unroll 4 ?_
  refine G.seqK fun K27 hK28 => ?_
  refine G.region ?_
  refine GL.run (j := 1) 1 [2, 3, 4, 6, 7, 9, 10] [(2, pt p3 0), (3, pt p7 0), (4, pt p11 0), (6, pt p17 0), (7, .int .u64 0), (9, .int .i64 0), (10, .bool true)] (by kernel_rfl) rfl ?_
  refine GL.k rfl hK28 (fun _ _ h => h) ?_
  refine G.seqK fun K29 hK30 => ?_
  refine G.yes rfl ?_
  refine G.skipK hK30 (fun _ _ h => h) ?_
  refine G.seqK fun K31 hK32 => ?_
  refine G.block ?_
  refine G.seqK fun K33 hK34 => ?_
  refine G.region ?_
  refine GL.run (j := 2) 2 [2, 3, 4, 6, 7, 8, 9] [(2, pt p3 0), (3, pt p7 0), (4, pt p11 0), (6, pt p17 0), (7, .int .u64 0), (8, .int .i64 0), (9, .int .i64 0)] (by kernel_rfl) rfl ?_
  refine GL.k rfl hK34 (fun _ _ h => h) ?_
  refine G.heldP (Hp w [] [.blk p3 [.int .u64 (wd x 0 : Int), .int .u64 (wd x 1 : Int), .int .u64 (wd x 2 : Int), .int .u64 (wd x 3 : Int)] 45, .blk p7 [.int .u64 (wd y 0 : Int), .int .u64 (wd y 1 : Int), .int .u64 (wd y 2 : Int), .int .u64 (wd y 3 : Int)] 45, .blk p11 [.int .u64 0, .int .u64 0, .int .u64 0, .int .u64 0] 45]) (by kernel_rfl) (by kernel_rfl) (fun c_ a_ d_ v_ w_ h_ => hPan c_ a_ d_ v_ w_ h_) ?_
  have H35 := H20.drew
  generalize ({ w18 with drawn := w18.drawn + 1 } : World) = w36 at H35 ⊢
  have hS37 : Hp w [] [.blk p3 [.int .u64 (wd x 0 : Int), .int .u64 (wd x 1 : Int), .int .u64 (wd x 2 : Int), .int .u64 (wd x 3 : Int)] 45, .blk p7 [.int .u64 (wd y 0 : Int), .int .u64 (wd y 1 : Int), .int .u64 (wd y 2 : Int), .int .u64 (wd y 3 : Int)] 45, .blk p11 [.int .u64 0, .int .u64 0, .int .u64 0, .int .u64 0] 45] w36 := H35.sub (List.Sublist.cons_cons _ (List.Sublist.cons_cons _ (List.Sublist.cons_cons _ (List.Sublist.cons _ (List.Sublist.slnil)))))
  refine GP.run [0, 1, 2] [2, 3, 4, 6, 7, 8, 9, 13, 15] [(2, pt p3 0), (3, pt p7 0), (4, pt p11 0), (6, pt p17 0), (7, .int .u64 0), (8, .int .i64 0), (9, .int .i64 0), (13, .int .i64 0), (15, pt p3 0)] [0, 1, 2] (by kernel_rfl) rfl hS37 ?_
  refine GP.sem 3 (fun w_ H_ => H_.ld (o := 0) (ty := 22) (v := .int .u64 (wd x 0 : Int)) 0 rfl (by kernel_rfl) rfl) [2, 3, 4, 6, 7, 8, 9, 13, 16] [(2, pt p3 0), (3, pt p7 0), (4, pt p11 0), (6, pt p17 0), (7, .int .u64 0), (8, .int .i64 0), (9, .int .i64 0), (13, .int .i64 0), (16, .int .u64 (wd x 0 : Int))] (by kernel_rfl) (by kernel_rfl) (by kernel_rfl) hS37 ?_
  refine GP.run [4, 5] [2, 3, 4, 6, 7, 9, 13, 16, 18] [(2, pt p3 0), (3, pt p7 0), (4, pt p11 0), (6, pt p17 0), (7, .int .u64 0), (9, .int .i64 0), (13, .int .i64 0), (16, .int .u64 (wd x 0 : Int)), (18, pt p7 0)] [0, 1, 2, 3, 4, 5] (by kernel_rfl) rfl hS37 ?_
  refine GP.sem 6 (fun w_ H_ => H_.ld (o := 0) (ty := 22) (v := .int .u64 (wd y 0 : Int)) 1 rfl (by kernel_rfl) rfl) [2, 3, 4, 6, 7, 9, 13, 16, 19] [(2, pt p3 0), (3, pt p7 0), (4, pt p11 0), (6, pt p17 0), (7, .int .u64 0), (9, .int .i64 0), (13, .int .i64 0), (16, .int .u64 (wd x 0 : Int)), (19, .int .u64 (wd y 0 : Int))] (by kernel_rfl) (by kernel_rfl) (by kernel_rfl) hS37 ?_
  refine GP.run [7] [2, 3, 4, 6, 7, 9, 13, 16, 19, 20] [(2, pt p3 0), (3, pt p7 0), (4, pt p11 0), (6, pt p17 0), (7, .int .u64 0), (9, .int .i64 0), (13, .int .i64 0), (16, .int .u64 (wd x 0 : Int)), (19, .int .u64 (wd y 0 : Int)), (20, .int .u64 0)] [0, 1, 2, 3, 4, 5, 6, 7] (by kernel_rfl) rfl hS37 ?_
  obtain ⟨s38, hs40⟩ : ∃ s : Nat, s = ((wd x 0) + (wd y 0) + 0) % K := ⟨_, rfl⟩
  obtain ⟨c39, hc41⟩ : ∃ s : Nat, s = ((wd x 0) + (wd y 0) + 0) / K := ⟨_, rfl⟩
  have s38l : s38 < K := by rw [hs40]; exact Nat.mod_lt _ (by decide)
  have c39l : c39 ≤ 1 := by rw [hc41]; exact carry_le (wd_lt _ _) (wd_lt _ _) (Nat.zero_le 1)
  refine GP.semN 8 (fun w_ H_ => add64_run (Nat.zero_le 1) hs40 hc41 _) [2, 3, 4, 6, 7, 9, 13, 21] [(2, pt p3 0), (3, pt p7 0), (4, pt p11 0), (6, pt p17 0), (7, .int .u64 0), (9, .int .i64 0), (13, .int .i64 0), (21, .tuple #[.int .u64 (s38 : Int), .int .u64 (c39 : Int)])] (by kernel_rfl) (by kernel_rfl) (by kernel_rfl) hS37 ?_
  refine GP.run [9, 10, 11, 12] [2, 3, 4, 6, 7, 9, 22, 23, 24] [(2, pt p3 0), (3, pt p7 0), (4, pt p11 0), (6, pt p17 0), (7, .int .u64 0), (9, .int .i64 0), (22, .int .u64 (s38 : Int)), (23, .int .u64 (c39 : Int)), (24, pt p17 0)] [0, 1, 2, 3, 4, 5, 6, 7, 8, 9, 10, 11, 12] (by kernel_rfl) rfl hS37 ?_
  obtain ⟨w42, r43, H44⟩ := H35.st (P := Tryd.prog) (o := 0) (ty := 22) (v := .int .u64 (s38 : Int)) 3 rfl (by kernel_rfl) (by simp) rfl
  have H44 : Hp w [] [.blk p3 [.int .u64 (wd x 0 : Int), .int .u64 (wd x 1 : Int), .int .u64 (wd x 2 : Int), .int .u64 (wd x 3 : Int)] 45, .blk p7 [.int .u64 (wd y 0 : Int), .int .u64 (wd y 1 : Int), .int .u64 (wd y 2 : Int), .int .u64 (wd y 3 : Int)] 45, .blk p11 [.int .u64 0, .int .u64 0, .int .u64 0, .int .u64 0] 45, .blk p17 [.int .u64 (s38 : Int), .int .u64 0, .int .u64 0, .int .u64 0] 45] w42 := H44
  have hS45 : Hp w [] [.blk p3 [.int .u64 (wd x 0 : Int), .int .u64 (wd x 1 : Int), .int .u64 (wd x 2 : Int), .int .u64 (wd x 3 : Int)] 45, .blk p7 [.int .u64 (wd y 0 : Int), .int .u64 (wd y 1 : Int), .int .u64 (wd y 2 : Int), .int .u64 (wd y 3 : Int)] 45, .blk p11 [.int .u64 0, .int .u64 0, .int .u64 0, .int .u64 0] 45] w42 := H44.sub (List.Sublist.cons_cons _ (List.Sublist.cons_cons _ (List.Sublist.cons_cons _ (List.Sublist.cons _ (List.Sublist.slnil)))))
  refine GP.semU 13 r43 [2, 3, 4, 6, 7, 9, 23] [(2, pt p3 0), (3, pt p7 0), (4, pt p11 0), (6, pt p17 0), (7, .int .u64 0), (9, .int .i64 0), (23, .int .u64 (c39 : Int))] (by kernel_rfl) rfl rfl (by kernel_rfl) hS45 ?_
  refine GP.run [14] [2, 3, 4, 6, 7, 9] [(2, pt p3 0), (3, pt p7 0), (4, pt p11 0), (6, pt p17 0), (7, .int .u64 (c39 : Int)), (9, .int .i64 0)] [0, 1, 2, 3, 4, 5, 6, 7, 8, 9, 10, 11, 12, 13, 14] (by kernel_rfl) rfl hS45 ?_
  refine GP.k (by kernel_rfl) hK32 (fun _ _ h => h) ?_
  refine G.region ?_
  refine GL.run (j := 2) 2 [2, 3, 4, 6, 7, 9] [(2, pt p3 0), (3, pt p7 0), (4, pt p11 0), (6, pt p17 0), (7, .int .u64 (c39 : Int)), (9, .int .i64 1)] (by kernel_rfl) rfl ?_
  refine GL.round rfl ?_
  refine G.seqK fun K46 hK47 => ?_
  refine G.region ?_
  refine GL.run (j := 1) 1 [2, 3, 4, 6, 7, 9, 10] [(2, pt p3 0), (3, pt p7 0), (4, pt p11 0), (6, pt p17 0), (7, .int .u64 (c39 : Int)), (9, .int .i64 1), (10, .bool true)] (by kernel_rfl) rfl ?_
  refine GL.k rfl hK47 (fun _ _ h => h) ?_
  refine G.seqK fun K48 hK49 => ?_
  refine G.yes rfl ?_
  refine G.skipK hK49 (fun _ _ h => h) ?_
  refine G.seqK fun K50 hK51 => ?_
  refine G.block ?_
  refine G.seqK fun K52 hK53 => ?_
  refine G.region ?_
  refine GL.run (j := 2) 2 [2, 3, 4, 6, 7, 8, 9] [(2, pt p3 0), (3, pt p7 0), (4, pt p11 0), (6, pt p17 0), (7, .int .u64 (c39 : Int)), (8, .int .i64 1), (9, .int .i64 1)] (by kernel_rfl) rfl ?_
  refine GL.k rfl hK53 (fun _ _ h => h) ?_
  refine G.heldP (Hp w [] [.blk p3 [.int .u64 (wd x 0 : Int), .int .u64 (wd x 1 : Int), .int .u64 (wd x 2 : Int), .int .u64 (wd x 3 : Int)] 45, .blk p7 [.int .u64 (wd y 0 : Int), .int .u64 (wd y 1 : Int), .int .u64 (wd y 2 : Int), .int .u64 (wd y 3 : Int)] 45, .blk p11 [.int .u64 0, .int .u64 0, .int .u64 0, .int .u64 0] 45]) (by kernel_rfl) (by kernel_rfl) (fun c_ a_ d_ v_ w_ h_ => hPan c_ a_ d_ v_ w_ h_) ?_
  have H54 := H44.drew
  generalize ({ w42 with drawn := w42.drawn + 1 } : World) = w55 at H54 ⊢
  have hS56 : Hp w [] [.blk p3 [.int .u64 (wd x 0 : Int), .int .u64 (wd x 1 : Int), .int .u64 (wd x 2 : Int), .int .u64 (wd x 3 : Int)] 45, .blk p7 [.int .u64 (wd y 0 : Int), .int .u64 (wd y 1 : Int), .int .u64 (wd y 2 : Int), .int .u64 (wd y 3 : Int)] 45, .blk p11 [.int .u64 0, .int .u64 0, .int .u64 0, .int .u64 0] 45] w55 := H54.sub (List.Sublist.cons_cons _ (List.Sublist.cons_cons _ (List.Sublist.cons_cons _ (List.Sublist.cons _ (List.Sublist.slnil)))))
  refine GP.run [0, 1, 2] [2, 3, 4, 6, 7, 8, 9, 13, 15] [(2, pt p3 0), (3, pt p7 0), (4, pt p11 0), (6, pt p17 0), (7, .int .u64 (c39 : Int)), (8, .int .i64 1), (9, .int .i64 1), (13, .int .i64 1), (15, pt p3 1)] [0, 1, 2] (by kernel_rfl) rfl hS56 ?_
  refine GP.sem 3 (fun w_ H_ => H_.ld (o := 1) (ty := 22) (v := .int .u64 (wd x 1 : Int)) 0 rfl (by kernel_rfl) rfl) [2, 3, 4, 6, 7, 8, 9, 13, 16] [(2, pt p3 0), (3, pt p7 0), (4, pt p11 0), (6, pt p17 0), (7, .int .u64 (c39 : Int)), (8, .int .i64 1), (9, .int .i64 1), (13, .int .i64 1), (16, .int .u64 (wd x 1 : Int))] (by kernel_rfl) (by kernel_rfl) (by kernel_rfl) hS56 ?_
  refine GP.run [4, 5] [2, 3, 4, 6, 7, 9, 13, 16, 18] [(2, pt p3 0), (3, pt p7 0), (4, pt p11 0), (6, pt p17 0), (7, .int .u64 (c39 : Int)), (9, .int .i64 1), (13, .int .i64 1), (16, .int .u64 (wd x 1 : Int)), (18, pt p7 1)] [0, 1, 2, 3, 4, 5] (by kernel_rfl) rfl hS56 ?_
  refine GP.sem 6 (fun w_ H_ => H_.ld (o := 1) (ty := 22) (v := .int .u64 (wd y 1 : Int)) 1 rfl (by kernel_rfl) rfl) [2, 3, 4, 6, 7, 9, 13, 16, 19] [(2, pt p3 0), (3, pt p7 0), (4, pt p11 0), (6, pt p17 0), (7, .int .u64 (c39 : Int)), (9, .int .i64 1), (13, .int .i64 1), (16, .int .u64 (wd x 1 : Int)), (19, .int .u64 (wd y 1 : Int))] (by kernel_rfl) (by kernel_rfl) (by kernel_rfl) hS56 ?_
  refine GP.run [7] [2, 3, 4, 6, 7, 9, 13, 16, 19, 20] [(2, pt p3 0), (3, pt p7 0), (4, pt p11 0), (6, pt p17 0), (7, .int .u64 (c39 : Int)), (9, .int .i64 1), (13, .int .i64 1), (16, .int .u64 (wd x 1 : Int)), (19, .int .u64 (wd y 1 : Int)), (20, .int .u64 (c39 : Int))] [0, 1, 2, 3, 4, 5, 6, 7] (by kernel_rfl) rfl hS56 ?_
  obtain ⟨s57, hs59⟩ : ∃ s : Nat, s = ((wd x 1) + (wd y 1) + c39) % K := ⟨_, rfl⟩
  obtain ⟨c58, hc60⟩ : ∃ s : Nat, s = ((wd x 1) + (wd y 1) + c39) / K := ⟨_, rfl⟩
  have s57l : s57 < K := by rw [hs59]; exact Nat.mod_lt _ (by decide)
  have c58l : c58 ≤ 1 := by rw [hc60]; exact carry_le (wd_lt _ _) (wd_lt _ _) (c39l)
  refine GP.semN 8 (fun w_ H_ => add64_run (c39l) hs59 hc60 _) [2, 3, 4, 6, 7, 9, 13, 21] [(2, pt p3 0), (3, pt p7 0), (4, pt p11 0), (6, pt p17 0), (7, .int .u64 (c39 : Int)), (9, .int .i64 1), (13, .int .i64 1), (21, .tuple #[.int .u64 (s57 : Int), .int .u64 (c58 : Int)])] (by kernel_rfl) (by kernel_rfl) (by kernel_rfl) hS56 ?_
  refine GP.run [9, 10, 11, 12] [2, 3, 4, 6, 7, 9, 22, 23, 24] [(2, pt p3 0), (3, pt p7 0), (4, pt p11 0), (6, pt p17 0), (7, .int .u64 (c39 : Int)), (9, .int .i64 1), (22, .int .u64 (s57 : Int)), (23, .int .u64 (c58 : Int)), (24, pt p17 1)] [0, 1, 2, 3, 4, 5, 6, 7, 8, 9, 10, 11, 12] (by kernel_rfl) rfl hS56 ?_
  obtain ⟨w61, r62, H63⟩ := H54.st (P := Tryd.prog) (o := 1) (ty := 22) (v := .int .u64 (s57 : Int)) 3 rfl (by kernel_rfl) (by simp) rfl
  have H63 : Hp w [] [.blk p3 [.int .u64 (wd x 0 : Int), .int .u64 (wd x 1 : Int), .int .u64 (wd x 2 : Int), .int .u64 (wd x 3 : Int)] 45, .blk p7 [.int .u64 (wd y 0 : Int), .int .u64 (wd y 1 : Int), .int .u64 (wd y 2 : Int), .int .u64 (wd y 3 : Int)] 45, .blk p11 [.int .u64 0, .int .u64 0, .int .u64 0, .int .u64 0] 45, .blk p17 [.int .u64 (s38 : Int), .int .u64 (s57 : Int), .int .u64 0, .int .u64 0] 45] w61 := H63
  have hS64 : Hp w [] [.blk p3 [.int .u64 (wd x 0 : Int), .int .u64 (wd x 1 : Int), .int .u64 (wd x 2 : Int), .int .u64 (wd x 3 : Int)] 45, .blk p7 [.int .u64 (wd y 0 : Int), .int .u64 (wd y 1 : Int), .int .u64 (wd y 2 : Int), .int .u64 (wd y 3 : Int)] 45, .blk p11 [.int .u64 0, .int .u64 0, .int .u64 0, .int .u64 0] 45] w61 := H63.sub (List.Sublist.cons_cons _ (List.Sublist.cons_cons _ (List.Sublist.cons_cons _ (List.Sublist.cons _ (List.Sublist.slnil)))))
  refine GP.semU 13 r62 [2, 3, 4, 6, 7, 9, 23] [(2, pt p3 0), (3, pt p7 0), (4, pt p11 0), (6, pt p17 0), (7, .int .u64 (c39 : Int)), (9, .int .i64 1), (23, .int .u64 (c58 : Int))] (by kernel_rfl) rfl rfl (by kernel_rfl) hS64 ?_
  refine GP.run [14] [2, 3, 4, 6, 7, 9] [(2, pt p3 0), (3, pt p7 0), (4, pt p11 0), (6, pt p17 0), (7, .int .u64 (c58 : Int)), (9, .int .i64 1)] [0, 1, 2, 3, 4, 5, 6, 7, 8, 9, 10, 11, 12, 13, 14] (by kernel_rfl) rfl hS64 ?_
  refine GP.k (by kernel_rfl) hK51 (fun _ _ h => h) ?_
  refine G.region ?_
  refine GL.run (j := 2) 2 [2, 3, 4, 6, 7, 9] [(2, pt p3 0), (3, pt p7 0), (4, pt p11 0), (6, pt p17 0), (7, .int .u64 (c58 : Int)), (9, .int .i64 2)] (by kernel_rfl) rfl ?_
  refine GL.round rfl ?_
  refine G.seqK fun K65 hK66 => ?_
  refine G.region ?_
  refine GL.run (j := 1) 1 [2, 3, 4, 6, 7, 9, 10] [(2, pt p3 0), (3, pt p7 0), (4, pt p11 0), (6, pt p17 0), (7, .int .u64 (c58 : Int)), (9, .int .i64 2), (10, .bool true)] (by kernel_rfl) rfl ?_
  refine GL.k rfl hK66 (fun _ _ h => h) ?_
  refine G.seqK fun K67 hK68 => ?_
  refine G.yes rfl ?_
  refine G.skipK hK68 (fun _ _ h => h) ?_
  refine G.seqK fun K69 hK70 => ?_
  refine G.block ?_
  refine G.seqK fun K71 hK72 => ?_
  refine G.region ?_
  refine GL.run (j := 2) 2 [2, 3, 4, 6, 7, 8, 9] [(2, pt p3 0), (3, pt p7 0), (4, pt p11 0), (6, pt p17 0), (7, .int .u64 (c58 : Int)), (8, .int .i64 2), (9, .int .i64 2)] (by kernel_rfl) rfl ?_
  refine GL.k rfl hK72 (fun _ _ h => h) ?_
  refine G.heldP (Hp w [] [.blk p3 [.int .u64 (wd x 0 : Int), .int .u64 (wd x 1 : Int), .int .u64 (wd x 2 : Int), .int .u64 (wd x 3 : Int)] 45, .blk p7 [.int .u64 (wd y 0 : Int), .int .u64 (wd y 1 : Int), .int .u64 (wd y 2 : Int), .int .u64 (wd y 3 : Int)] 45, .blk p11 [.int .u64 0, .int .u64 0, .int .u64 0, .int .u64 0] 45]) (by kernel_rfl) (by kernel_rfl) (fun c_ a_ d_ v_ w_ h_ => hPan c_ a_ d_ v_ w_ h_) ?_
  have H73 := H63.drew
  generalize ({ w61 with drawn := w61.drawn + 1 } : World) = w74 at H73 ⊢
  have hS75 : Hp w [] [.blk p3 [.int .u64 (wd x 0 : Int), .int .u64 (wd x 1 : Int), .int .u64 (wd x 2 : Int), .int .u64 (wd x 3 : Int)] 45, .blk p7 [.int .u64 (wd y 0 : Int), .int .u64 (wd y 1 : Int), .int .u64 (wd y 2 : Int), .int .u64 (wd y 3 : Int)] 45, .blk p11 [.int .u64 0, .int .u64 0, .int .u64 0, .int .u64 0] 45] w74 := H73.sub (List.Sublist.cons_cons _ (List.Sublist.cons_cons _ (List.Sublist.cons_cons _ (List.Sublist.cons _ (List.Sublist.slnil)))))
  refine GP.run [0, 1, 2] [2, 3, 4, 6, 7, 8, 9, 13, 15] [(2, pt p3 0), (3, pt p7 0), (4, pt p11 0), (6, pt p17 0), (7, .int .u64 (c58 : Int)), (8, .int .i64 2), (9, .int .i64 2), (13, .int .i64 2), (15, pt p3 2)] [0, 1, 2] (by kernel_rfl) rfl hS75 ?_
  refine GP.sem 3 (fun w_ H_ => H_.ld (o := 2) (ty := 22) (v := .int .u64 (wd x 2 : Int)) 0 rfl (by kernel_rfl) rfl) [2, 3, 4, 6, 7, 8, 9, 13, 16] [(2, pt p3 0), (3, pt p7 0), (4, pt p11 0), (6, pt p17 0), (7, .int .u64 (c58 : Int)), (8, .int .i64 2), (9, .int .i64 2), (13, .int .i64 2), (16, .int .u64 (wd x 2 : Int))] (by kernel_rfl) (by kernel_rfl) (by kernel_rfl) hS75 ?_
  refine GP.run [4, 5] [2, 3, 4, 6, 7, 9, 13, 16, 18] [(2, pt p3 0), (3, pt p7 0), (4, pt p11 0), (6, pt p17 0), (7, .int .u64 (c58 : Int)), (9, .int .i64 2), (13, .int .i64 2), (16, .int .u64 (wd x 2 : Int)), (18, pt p7 2)] [0, 1, 2, 3, 4, 5] (by kernel_rfl) rfl hS75 ?_
  refine GP.sem 6 (fun w_ H_ => H_.ld (o := 2) (ty := 22) (v := .int .u64 (wd y 2 : Int)) 1 rfl (by kernel_rfl) rfl) [2, 3, 4, 6, 7, 9, 13, 16, 19] [(2, pt p3 0), (3, pt p7 0), (4, pt p11 0), (6, pt p17 0), (7, .int .u64 (c58 : Int)), (9, .int .i64 2), (13, .int .i64 2), (16, .int .u64 (wd x 2 : Int)), (19, .int .u64 (wd y 2 : Int))] (by kernel_rfl) (by kernel_rfl) (by kernel_rfl) hS75 ?_
  refine GP.run [7] [2, 3, 4, 6, 7, 9, 13, 16, 19, 20] [(2, pt p3 0), (3, pt p7 0), (4, pt p11 0), (6, pt p17 0), (7, .int .u64 (c58 : Int)), (9, .int .i64 2), (13, .int .i64 2), (16, .int .u64 (wd x 2 : Int)), (19, .int .u64 (wd y 2 : Int)), (20, .int .u64 (c58 : Int))] [0, 1, 2, 3, 4, 5, 6, 7] (by kernel_rfl) rfl hS75 ?_
  obtain ⟨s76, hs78⟩ : ∃ s : Nat, s = ((wd x 2) + (wd y 2) + c58) % K := ⟨_, rfl⟩
  obtain ⟨c77, hc79⟩ : ∃ s : Nat, s = ((wd x 2) + (wd y 2) + c58) / K := ⟨_, rfl⟩
  have s76l : s76 < K := by rw [hs78]; exact Nat.mod_lt _ (by decide)
  have c77l : c77 ≤ 1 := by rw [hc79]; exact carry_le (wd_lt _ _) (wd_lt _ _) (c58l)
  refine GP.semN 8 (fun w_ H_ => add64_run (c58l) hs78 hc79 _) [2, 3, 4, 6, 7, 9, 13, 21] [(2, pt p3 0), (3, pt p7 0), (4, pt p11 0), (6, pt p17 0), (7, .int .u64 (c58 : Int)), (9, .int .i64 2), (13, .int .i64 2), (21, .tuple #[.int .u64 (s76 : Int), .int .u64 (c77 : Int)])] (by kernel_rfl) (by kernel_rfl) (by kernel_rfl) hS75 ?_
  refine GP.run [9, 10, 11, 12] [2, 3, 4, 6, 7, 9, 22, 23, 24] [(2, pt p3 0), (3, pt p7 0), (4, pt p11 0), (6, pt p17 0), (7, .int .u64 (c58 : Int)), (9, .int .i64 2), (22, .int .u64 (s76 : Int)), (23, .int .u64 (c77 : Int)), (24, pt p17 2)] [0, 1, 2, 3, 4, 5, 6, 7, 8, 9, 10, 11, 12] (by kernel_rfl) rfl hS75 ?_
  obtain ⟨w80, r81, H82⟩ := H73.st (P := Tryd.prog) (o := 2) (ty := 22) (v := .int .u64 (s76 : Int)) 3 rfl (by kernel_rfl) (by simp) rfl
  have H82 : Hp w [] [.blk p3 [.int .u64 (wd x 0 : Int), .int .u64 (wd x 1 : Int), .int .u64 (wd x 2 : Int), .int .u64 (wd x 3 : Int)] 45, .blk p7 [.int .u64 (wd y 0 : Int), .int .u64 (wd y 1 : Int), .int .u64 (wd y 2 : Int), .int .u64 (wd y 3 : Int)] 45, .blk p11 [.int .u64 0, .int .u64 0, .int .u64 0, .int .u64 0] 45, .blk p17 [.int .u64 (s38 : Int), .int .u64 (s57 : Int), .int .u64 (s76 : Int), .int .u64 0] 45] w80 := H82
  have hS83 : Hp w [] [.blk p3 [.int .u64 (wd x 0 : Int), .int .u64 (wd x 1 : Int), .int .u64 (wd x 2 : Int), .int .u64 (wd x 3 : Int)] 45, .blk p7 [.int .u64 (wd y 0 : Int), .int .u64 (wd y 1 : Int), .int .u64 (wd y 2 : Int), .int .u64 (wd y 3 : Int)] 45, .blk p11 [.int .u64 0, .int .u64 0, .int .u64 0, .int .u64 0] 45] w80 := H82.sub (List.Sublist.cons_cons _ (List.Sublist.cons_cons _ (List.Sublist.cons_cons _ (List.Sublist.cons _ (List.Sublist.slnil)))))
  refine GP.semU 13 r81 [2, 3, 4, 6, 7, 9, 23] [(2, pt p3 0), (3, pt p7 0), (4, pt p11 0), (6, pt p17 0), (7, .int .u64 (c58 : Int)), (9, .int .i64 2), (23, .int .u64 (c77 : Int))] (by kernel_rfl) rfl rfl (by kernel_rfl) hS83 ?_
  refine GP.run [14] [2, 3, 4, 6, 7, 9] [(2, pt p3 0), (3, pt p7 0), (4, pt p11 0), (6, pt p17 0), (7, .int .u64 (c77 : Int)), (9, .int .i64 2)] [0, 1, 2, 3, 4, 5, 6, 7, 8, 9, 10, 11, 12, 13, 14] (by kernel_rfl) rfl hS83 ?_
  refine GP.k (by kernel_rfl) hK70 (fun _ _ h => h) ?_
  refine G.region ?_
  refine GL.run (j := 2) 2 [2, 3, 4, 6, 7, 9] [(2, pt p3 0), (3, pt p7 0), (4, pt p11 0), (6, pt p17 0), (7, .int .u64 (c77 : Int)), (9, .int .i64 3)] (by kernel_rfl) rfl ?_
  refine GL.round rfl ?_
  refine G.seqK fun K84 hK85 => ?_
  refine G.region ?_
  refine GL.run (j := 1) 1 [2, 3, 4, 6, 7, 9, 10] [(2, pt p3 0), (3, pt p7 0), (4, pt p11 0), (6, pt p17 0), (7, .int .u64 (c77 : Int)), (9, .int .i64 3), (10, .bool true)] (by kernel_rfl) rfl ?_
  refine GL.k rfl hK85 (fun _ _ h => h) ?_
  refine G.seqK fun K86 hK87 => ?_
  refine G.yes rfl ?_
  refine G.skipK hK87 (fun _ _ h => h) ?_
  refine G.seqK fun K88 hK89 => ?_
  refine G.block ?_
  refine G.seqK fun K90 hK91 => ?_
  refine G.region ?_
  refine GL.run (j := 2) 2 [2, 3, 4, 6, 7, 8, 9] [(2, pt p3 0), (3, pt p7 0), (4, pt p11 0), (6, pt p17 0), (7, .int .u64 (c77 : Int)), (8, .int .i64 3), (9, .int .i64 3)] (by kernel_rfl) rfl ?_
  refine GL.k rfl hK91 (fun _ _ h => h) ?_
  refine G.heldP (Hp w [] [.blk p3 [.int .u64 (wd x 0 : Int), .int .u64 (wd x 1 : Int), .int .u64 (wd x 2 : Int), .int .u64 (wd x 3 : Int)] 45, .blk p7 [.int .u64 (wd y 0 : Int), .int .u64 (wd y 1 : Int), .int .u64 (wd y 2 : Int), .int .u64 (wd y 3 : Int)] 45, .blk p11 [.int .u64 0, .int .u64 0, .int .u64 0, .int .u64 0] 45]) (by kernel_rfl) (by kernel_rfl) (fun c_ a_ d_ v_ w_ h_ => hPan c_ a_ d_ v_ w_ h_) ?_
  have H92 := H82.drew
  generalize ({ w80 with drawn := w80.drawn + 1 } : World) = w93 at H92 ⊢
  have hS94 : Hp w [] [.blk p3 [.int .u64 (wd x 0 : Int), .int .u64 (wd x 1 : Int), .int .u64 (wd x 2 : Int), .int .u64 (wd x 3 : Int)] 45, .blk p7 [.int .u64 (wd y 0 : Int), .int .u64 (wd y 1 : Int), .int .u64 (wd y 2 : Int), .int .u64 (wd y 3 : Int)] 45, .blk p11 [.int .u64 0, .int .u64 0, .int .u64 0, .int .u64 0] 45] w93 := H92.sub (List.Sublist.cons_cons _ (List.Sublist.cons_cons _ (List.Sublist.cons_cons _ (List.Sublist.cons _ (List.Sublist.slnil)))))
  refine GP.run [0, 1, 2] [2, 3, 4, 6, 7, 8, 9, 13, 15] [(2, pt p3 0), (3, pt p7 0), (4, pt p11 0), (6, pt p17 0), (7, .int .u64 (c77 : Int)), (8, .int .i64 3), (9, .int .i64 3), (13, .int .i64 3), (15, pt p3 3)] [0, 1, 2] (by kernel_rfl) rfl hS94 ?_
  refine GP.sem 3 (fun w_ H_ => H_.ld (o := 3) (ty := 22) (v := .int .u64 (wd x 3 : Int)) 0 rfl (by kernel_rfl) rfl) [2, 3, 4, 6, 7, 8, 9, 13, 16] [(2, pt p3 0), (3, pt p7 0), (4, pt p11 0), (6, pt p17 0), (7, .int .u64 (c77 : Int)), (8, .int .i64 3), (9, .int .i64 3), (13, .int .i64 3), (16, .int .u64 (wd x 3 : Int))] (by kernel_rfl) (by kernel_rfl) (by kernel_rfl) hS94 ?_
  refine GP.run [4, 5] [2, 3, 4, 6, 7, 9, 13, 16, 18] [(2, pt p3 0), (3, pt p7 0), (4, pt p11 0), (6, pt p17 0), (7, .int .u64 (c77 : Int)), (9, .int .i64 3), (13, .int .i64 3), (16, .int .u64 (wd x 3 : Int)), (18, pt p7 3)] [0, 1, 2, 3, 4, 5] (by kernel_rfl) rfl hS94 ?_
  refine GP.sem 6 (fun w_ H_ => H_.ld (o := 3) (ty := 22) (v := .int .u64 (wd y 3 : Int)) 1 rfl (by kernel_rfl) rfl) [2, 3, 4, 6, 7, 9, 13, 16, 19] [(2, pt p3 0), (3, pt p7 0), (4, pt p11 0), (6, pt p17 0), (7, .int .u64 (c77 : Int)), (9, .int .i64 3), (13, .int .i64 3), (16, .int .u64 (wd x 3 : Int)), (19, .int .u64 (wd y 3 : Int))] (by kernel_rfl) (by kernel_rfl) (by kernel_rfl) hS94 ?_
  refine GP.run [7] [2, 3, 4, 6, 7, 9, 13, 16, 19, 20] [(2, pt p3 0), (3, pt p7 0), (4, pt p11 0), (6, pt p17 0), (7, .int .u64 (c77 : Int)), (9, .int .i64 3), (13, .int .i64 3), (16, .int .u64 (wd x 3 : Int)), (19, .int .u64 (wd y 3 : Int)), (20, .int .u64 (c77 : Int))] [0, 1, 2, 3, 4, 5, 6, 7] (by kernel_rfl) rfl hS94 ?_
  obtain ⟨s95, hs97⟩ : ∃ s : Nat, s = ((wd x 3) + (wd y 3) + c77) % K := ⟨_, rfl⟩
  obtain ⟨c96, hc98⟩ : ∃ s : Nat, s = ((wd x 3) + (wd y 3) + c77) / K := ⟨_, rfl⟩
  have s95l : s95 < K := by rw [hs97]; exact Nat.mod_lt _ (by decide)
  have c96l : c96 ≤ 1 := by rw [hc98]; exact carry_le (wd_lt _ _) (wd_lt _ _) (c77l)
  refine GP.semN 8 (fun w_ H_ => add64_run (c77l) hs97 hc98 _) [2, 3, 4, 6, 7, 9, 13, 21] [(2, pt p3 0), (3, pt p7 0), (4, pt p11 0), (6, pt p17 0), (7, .int .u64 (c77 : Int)), (9, .int .i64 3), (13, .int .i64 3), (21, .tuple #[.int .u64 (s95 : Int), .int .u64 (c96 : Int)])] (by kernel_rfl) (by kernel_rfl) (by kernel_rfl) hS94 ?_
  refine GP.run [9, 10, 11, 12] [2, 3, 4, 6, 7, 9, 22, 23, 24] [(2, pt p3 0), (3, pt p7 0), (4, pt p11 0), (6, pt p17 0), (7, .int .u64 (c77 : Int)), (9, .int .i64 3), (22, .int .u64 (s95 : Int)), (23, .int .u64 (c96 : Int)), (24, pt p17 3)] [0, 1, 2, 3, 4, 5, 6, 7, 8, 9, 10, 11, 12] (by kernel_rfl) rfl hS94 ?_
  obtain ⟨w99, r100, H101⟩ := H92.st (P := Tryd.prog) (o := 3) (ty := 22) (v := .int .u64 (s95 : Int)) 3 rfl (by kernel_rfl) (by simp) rfl
  have H101 : Hp w [] [.blk p3 [.int .u64 (wd x 0 : Int), .int .u64 (wd x 1 : Int), .int .u64 (wd x 2 : Int), .int .u64 (wd x 3 : Int)] 45, .blk p7 [.int .u64 (wd y 0 : Int), .int .u64 (wd y 1 : Int), .int .u64 (wd y 2 : Int), .int .u64 (wd y 3 : Int)] 45, .blk p11 [.int .u64 0, .int .u64 0, .int .u64 0, .int .u64 0] 45, .blk p17 [.int .u64 (s38 : Int), .int .u64 (s57 : Int), .int .u64 (s76 : Int), .int .u64 (s95 : Int)] 45] w99 := H101
  have hS102 : Hp w [] [.blk p3 [.int .u64 (wd x 0 : Int), .int .u64 (wd x 1 : Int), .int .u64 (wd x 2 : Int), .int .u64 (wd x 3 : Int)] 45, .blk p7 [.int .u64 (wd y 0 : Int), .int .u64 (wd y 1 : Int), .int .u64 (wd y 2 : Int), .int .u64 (wd y 3 : Int)] 45, .blk p11 [.int .u64 0, .int .u64 0, .int .u64 0, .int .u64 0] 45] w99 := H101.sub (List.Sublist.cons_cons _ (List.Sublist.cons_cons _ (List.Sublist.cons_cons _ (List.Sublist.cons _ (List.Sublist.slnil)))))
  refine GP.semU 13 r100 [2, 3, 4, 6, 7, 9, 23] [(2, pt p3 0), (3, pt p7 0), (4, pt p11 0), (6, pt p17 0), (7, .int .u64 (c77 : Int)), (9, .int .i64 3), (23, .int .u64 (c96 : Int))] (by kernel_rfl) rfl rfl (by kernel_rfl) hS102 ?_
  refine GP.run [14] [2, 3, 4, 6, 7, 9] [(2, pt p3 0), (3, pt p7 0), (4, pt p11 0), (6, pt p17 0), (7, .int .u64 (c96 : Int)), (9, .int .i64 3)] [0, 1, 2, 3, 4, 5, 6, 7, 8, 9, 10, 11, 12, 13, 14] (by kernel_rfl) rfl hS102 ?_
  refine GP.k (by kernel_rfl) hK89 (fun _ _ h => h) ?_
  refine G.region ?_
  refine GL.run (j := 2) 2 [2, 3, 4, 6, 7, 9] [(2, pt p3 0), (3, pt p7 0), (4, pt p11 0), (6, pt p17 0), (7, .int .u64 (c96 : Int)), (9, .int .i64 4)] (by kernel_rfl) rfl ?_
  refine GL.round rfl ?_
  refine G.seqK fun K103 hK104 => ?_
  refine G.region ?_
  refine GL.run (j := 1) 1 [2, 3, 4, 6, 7, 9, 10] [(2, pt p3 0), (3, pt p7 0), (4, pt p11 0), (6, pt p17 0), (7, .int .u64 (c96 : Int)), (9, .int .i64 4), (10, .bool false)] (by kernel_rfl) rfl ?_
  refine GL.k rfl hK104 (fun _ _ h => h) ?_
  refine G.seqK fun K105 hK106 => ?_
  refine G.no rfl ?_
  refine G.exitK hK24 (fun _ _ h => h) ?_
  refine G.seqK fun K107 hK108 => ?_
  refine G.region ?_
  refine GL.sem (j := 1) (H101.ldA (o := 0) (ty := 45) (m := 4) (sub := [.int .u64 (s38 : Int), .int .u64 (s57 : Int), .int .u64 (s76 : Int), .int .u64 (s95 : Int)]) 3 rfl (by kernel_rfl) rfl rfl) [4, 7, 26] [(4, pt p11 0), (7, .int .u64 (c96 : Int)), (26, .agg #[.int .u64 (s38 : Int), .int .u64 (s57 : Int), .int .u64 (s76 : Int), .int .u64 (s95 : Int)])] (by kernel_rfl) (by kernel_rfl) rfl ?_
  refine GL.run (j := 3) 2 [4, 26, 28] [(4, pt p11 0), (26, .agg #[.int .u64 (s38 : Int), .int .u64 (s57 : Int), .int .u64 (s76 : Int), .int .u64 (s95 : Int)]), (28, .bool ((c96 : Int) == 1))] (by kernel_rfl) rfl ?_
  obtain ⟨w109, r110, H111⟩ := H101.stA (P := Tryd.prog) (o := 0) (vs := [.int .u64 (s38 : Int), .int .u64 (s57 : Int), .int .u64 (s76 : Int), .int .u64 (s95 : Int)]) (ty := 45) (m := 4) 2 rfl (by kernel_rfl) rfl (by simp) (by simp [Value.oneCell'])
  have H111 : Hp w [] [.blk p3 [.int .u64 (wd x 0 : Int), .int .u64 (wd x 1 : Int), .int .u64 (wd x 2 : Int), .int .u64 (wd x 3 : Int)] 45, .blk p7 [.int .u64 (wd y 0 : Int), .int .u64 (wd y 1 : Int), .int .u64 (wd y 2 : Int), .int .u64 (wd y 3 : Int)] 45, .blk p11 [.int .u64 (s38 : Int), .int .u64 (s57 : Int), .int .u64 (s76 : Int), .int .u64 (s95 : Int)] 45, .blk p17 [.int .u64 (s38 : Int), .int .u64 (s57 : Int), .int .u64 (s76 : Int), .int .u64 (s95 : Int)] 45] w109 := H111
  refine GL.semU (j := 4) r110 [4, 28] [(4, pt p11 0), (28, .bool ((c96 : Int) == 1))] (by kernel_rfl) rfl rfl rfl ?_
  refine GL.run (j := 5) 1 [4, 5] [(4, pt p11 0), (5, .bool ((c96 : Int) == 1))] (by kernel_rfl) rfl ?_
  refine GL.k rfl hK108 (fun _ _ h => h) ?_
  refine G.ret ?_
  intro F_ hF_ hM_
  refine hRet _ _ (bodyPost_2 rfl (RV.cell rfl (H111.ldA (o := 0) (ty := 45) (m := 4) (sub := [.int .u64 (s38 : Int), .int .u64 (s57 : Int), .int .u64 (s76 : Int), .int .u64 (s95 : Int)]) 2 rfl (by kernel_rfl) rfl rfl)) (RV.tmp rfl) ?_ F_ hF_ hM_)
  obtain ⟨ha, hb⟩ := add_fin hx hy hs40 hc41 hs59 hc60 hs78 hc79 hs97 hc98
  rw [ha, hb]
  exact ⟨rfl, H111.sub (List.nil_sublist _)⟩
theorem Sub_calls (x y : Nat) (hx : x < K4) (hy : y < K4) (w : World) : Calls Tryd.prog 29 #[wv x, wv y] w fun e w' => e = .returned (.tuple #[wv ((x + K4 - y) % K4), .bool (decide (x < y))]) ∧ Hp w [] [] w' := by
  refine calls_G (args := [wv x, wv y]) Tryd.func29 rfl Tryd.ntmps29 rfl ?_
  intro Q0 hRet hNor hPan
  have H := Hp.start w
  have H : Hp w [] [] w := H
  refine G.seqK fun K1 hK2 => ?_
  refine G.region ?_
  obtain ⟨p3, w4, r5, H6⟩ := H.box (P := Tryd.prog) 45 [.int .u64 (wd x 0 : Int), .int .u64 (wd x 1 : Int), .int .u64 (wd x 2 : Int), .int .u64 (wd x 3 : Int)] (wv x) rfl
  have H6 : Hp w [] [.blk p3 [.int .u64 (wd x 0 : Int), .int .u64 (wd x 1 : Int), .int .u64 (wd x 2 : Int), .int .u64 (wd x 3 : Int)] 45] w4 := H6
  refine GL.sem (j := 1) (r5) [1, 2] [(1, wv y), (2, pt p3 0)] (by kernel_rfl) (by kernel_rfl) rfl ?_
  obtain ⟨p7, w8, r9, H10⟩ := H6.box (P := Tryd.prog) 45 [.int .u64 (wd y 0 : Int), .int .u64 (wd y 1 : Int), .int .u64 (wd y 2 : Int), .int .u64 (wd y 3 : Int)] (wv y) rfl
  have H10 : Hp w [] [.blk p3 [.int .u64 (wd x 0 : Int), .int .u64 (wd x 1 : Int), .int .u64 (wd x 2 : Int), .int .u64 (wd x 3 : Int)] 45, .blk p7 [.int .u64 (wd y 0 : Int), .int .u64 (wd y 1 : Int), .int .u64 (wd y 2 : Int), .int .u64 (wd y 3 : Int)] 45] w8 := H10
  refine GL.sem (j := 2) (r9) [2, 3] [(2, pt p3 0), (3, pt p7 0)] (by kernel_rfl) (by kernel_rfl) rfl ?_
  obtain ⟨p11, w12, r13, H14⟩ := H10.alloc (P := Tryd.prog) 45 [.int .u64 0, .int .u64 0, .int .u64 0, .int .u64 0] (by kernel_rfl)
  have H14 : Hp w [] [.blk p3 [.int .u64 (wd x 0 : Int), .int .u64 (wd x 1 : Int), .int .u64 (wd x 2 : Int), .int .u64 (wd x 3 : Int)] 45, .blk p7 [.int .u64 (wd y 0 : Int), .int .u64 (wd y 1 : Int), .int .u64 (wd y 2 : Int), .int .u64 (wd y 3 : Int)] 45, .blk p11 [.int .u64 0, .int .u64 0, .int .u64 0, .int .u64 0] 45] w12 := H14
  refine GL.sem (j := 3) (r13) [2, 3, 4] [(2, pt p3 0), (3, pt p7 0), (4, pt p11 0)] (by kernel_rfl) (by kernel_rfl) rfl ?_
  refine GL.run (j := 4) 1 [2, 3, 4] [(2, pt p3 0), (3, pt p7 0), (4, pt p11 0)] (by kernel_rfl) rfl ?_
  refine GL.k rfl hK2 (fun _ _ h => h) ?_
  refine G.seqK fun K15 hK16 => ?_
  refine G.region ?_
  obtain ⟨p17, w18, r19, H20⟩ := H14.alloc (P := Tryd.prog) 45 [.int .u64 0, .int .u64 0, .int .u64 0, .int .u64 0] (by kernel_rfl)
  have H20 : Hp w [] [.blk p3 [.int .u64 (wd x 0 : Int), .int .u64 (wd x 1 : Int), .int .u64 (wd x 2 : Int), .int .u64 (wd x 3 : Int)] 45, .blk p7 [.int .u64 (wd y 0 : Int), .int .u64 (wd y 1 : Int), .int .u64 (wd y 2 : Int), .int .u64 (wd y 3 : Int)] 45, .blk p11 [.int .u64 0, .int .u64 0, .int .u64 0, .int .u64 0] 45, .blk p17 [.int .u64 0, .int .u64 0, .int .u64 0, .int .u64 0] 45] w18 := H20
  refine GL.sem (j := 1) (r19) [2, 3, 4, 6] [(2, pt p3 0), (3, pt p7 0), (4, pt p11 0), (6, pt p17 0)] (by kernel_rfl) (by kernel_rfl) rfl ?_
  refine GL.k rfl hK16 (fun _ _ h => h) ?_
  refine G.seqK fun K21 hK22 => ?_
  refine G.region ?_
  refine GL.run (j := 1) 1 [2, 3, 4, 6, 7] [(2, pt p3 0), (3, pt p7 0), (4, pt p11 0), (6, pt p17 0), (7, .int .u64 0)] (by kernel_rfl) rfl ?_
  refine GL.k rfl hK22 (fun _ _ h => h) ?_
  refine G.seqK fun K23 hK24 => ?_
  refine G.seqK fun K25 hK26 => ?_
  refine G.region ?_
  refine GL.run (j := 1) 1 [2, 3, 4, 6, 7, 9] [(2, pt p3 0), (3, pt p7 0), (4, pt p11 0), (6, pt p17 0), (7, .int .u64 0), (9, .int .i64 0)] (by kernel_rfl) rfl ?_
  refine GL.k rfl hK26 (fun _ _ h => h) ?_
  refine G.block ?_
  refine G.unroll 4 ?_
  refine G.seqK fun K27 hK28 => ?_
  refine G.region ?_
  refine GL.run (j := 1) 1 [2, 3, 4, 6, 7, 9, 10] [(2, pt p3 0), (3, pt p7 0), (4, pt p11 0), (6, pt p17 0), (7, .int .u64 0), (9, .int .i64 0), (10, .bool true)] (by kernel_rfl) rfl ?_
  refine GL.k rfl hK28 (fun _ _ h => h) ?_
  refine G.seqK fun K29 hK30 => ?_
  refine G.yes rfl ?_
  refine G.skipK hK30 (fun _ _ h => h) ?_
  refine G.seqK fun K31 hK32 => ?_
  refine G.block ?_
  refine G.seqK fun K33 hK34 => ?_
  refine G.region ?_
  refine GL.run (j := 2) 2 [2, 3, 4, 6, 7, 8, 9] [(2, pt p3 0), (3, pt p7 0), (4, pt p11 0), (6, pt p17 0), (7, .int .u64 0), (8, .int .i64 0), (9, .int .i64 0)] (by kernel_rfl) rfl ?_
  refine GL.k rfl hK34 (fun _ _ h => h) ?_
  refine G.heldP (Hp w [] [.blk p3 [.int .u64 (wd x 0 : Int), .int .u64 (wd x 1 : Int), .int .u64 (wd x 2 : Int), .int .u64 (wd x 3 : Int)] 45, .blk p7 [.int .u64 (wd y 0 : Int), .int .u64 (wd y 1 : Int), .int .u64 (wd y 2 : Int), .int .u64 (wd y 3 : Int)] 45, .blk p11 [.int .u64 0, .int .u64 0, .int .u64 0, .int .u64 0] 45]) (by kernel_rfl) (by kernel_rfl) (fun c_ a_ d_ v_ w_ h_ => hPan c_ a_ d_ v_ w_ h_) ?_
  have H35 := H20.drew
  generalize ({ w18 with drawn := w18.drawn + 1 } : World) = w36 at H35 ⊢
  have hS37 : Hp w [] [.blk p3 [.int .u64 (wd x 0 : Int), .int .u64 (wd x 1 : Int), .int .u64 (wd x 2 : Int), .int .u64 (wd x 3 : Int)] 45, .blk p7 [.int .u64 (wd y 0 : Int), .int .u64 (wd y 1 : Int), .int .u64 (wd y 2 : Int), .int .u64 (wd y 3 : Int)] 45, .blk p11 [.int .u64 0, .int .u64 0, .int .u64 0, .int .u64 0] 45] w36 := H35.sub (List.Sublist.cons_cons _ (List.Sublist.cons_cons _ (List.Sublist.cons_cons _ (List.Sublist.cons _ (List.Sublist.slnil)))))
  refine GP.run [0, 1, 2] [2, 3, 4, 6, 7, 8, 9, 13, 15] [(2, pt p3 0), (3, pt p7 0), (4, pt p11 0), (6, pt p17 0), (7, .int .u64 0), (8, .int .i64 0), (9, .int .i64 0), (13, .int .i64 0), (15, pt p3 0)] [0, 1, 2] (by kernel_rfl) rfl hS37 ?_
  refine GP.sem 3 (fun w_ H_ => H_.ld (o := 0) (ty := 22) (v := .int .u64 (wd x 0 : Int)) 0 rfl (by kernel_rfl) rfl) [2, 3, 4, 6, 7, 8, 9, 13, 16] [(2, pt p3 0), (3, pt p7 0), (4, pt p11 0), (6, pt p17 0), (7, .int .u64 0), (8, .int .i64 0), (9, .int .i64 0), (13, .int .i64 0), (16, .int .u64 (wd x 0 : Int))] (by kernel_rfl) (by kernel_rfl) (by kernel_rfl) hS37 ?_
  refine GP.run [4, 5] [2, 3, 4, 6, 7, 9, 13, 16, 18] [(2, pt p3 0), (3, pt p7 0), (4, pt p11 0), (6, pt p17 0), (7, .int .u64 0), (9, .int .i64 0), (13, .int .i64 0), (16, .int .u64 (wd x 0 : Int)), (18, pt p7 0)] [0, 1, 2, 3, 4, 5] (by kernel_rfl) rfl hS37 ?_
  refine GP.sem 6 (fun w_ H_ => H_.ld (o := 0) (ty := 22) (v := .int .u64 (wd y 0 : Int)) 1 rfl (by kernel_rfl) rfl) [2, 3, 4, 6, 7, 9, 13, 16, 19] [(2, pt p3 0), (3, pt p7 0), (4, pt p11 0), (6, pt p17 0), (7, .int .u64 0), (9, .int .i64 0), (13, .int .i64 0), (16, .int .u64 (wd x 0 : Int)), (19, .int .u64 (wd y 0 : Int))] (by kernel_rfl) (by kernel_rfl) (by kernel_rfl) hS37 ?_
  refine GP.run [7] [2, 3, 4, 6, 7, 9, 13, 16, 19, 20] [(2, pt p3 0), (3, pt p7 0), (4, pt p11 0), (6, pt p17 0), (7, .int .u64 0), (9, .int .i64 0), (13, .int .i64 0), (16, .int .u64 (wd x 0 : Int)), (19, .int .u64 (wd y 0 : Int)), (20, .int .u64 0)] [0, 1, 2, 3, 4, 5, 6, 7] (by kernel_rfl) rfl hS37 ?_
  obtain ⟨s38, hs40⟩ : ∃ s : Nat, s = ((wd x 0) + K - (wd y 0) - 0) % K := ⟨_, rfl⟩
  obtain ⟨c39, hc41⟩ : ∃ s : Nat, s = if (wd x 0) < (wd y 0) + 0 then 1 else 0 := ⟨_, rfl⟩
  have s38l : s38 < K := by rw [hs40]; exact Nat.mod_lt _ (by decide)
  have c39l : c39 ≤ 1 := by rw [hc41]; exact borrow_le _ _ _
  refine GP.semN 8 (fun w_ H_ => sub64_run (Nat.zero_le 1) hs40 hc41 _) [2, 3, 4, 6, 7, 9, 13, 21] [(2, pt p3 0), (3, pt p7 0), (4, pt p11 0), (6, pt p17 0), (7, .int .u64 0), (9, .int .i64 0), (13, .int .i64 0), (21, .tuple #[.int .u64 (s38 : Int), .int .u64 (c39 : Int)])] (by kernel_rfl) (by kernel_rfl) (by kernel_rfl) hS37 ?_
  refine GP.run [9, 10, 11, 12] [2, 3, 4, 6, 7, 9, 22, 23, 24] [(2, pt p3 0), (3, pt p7 0), (4, pt p11 0), (6, pt p17 0), (7, .int .u64 0), (9, .int .i64 0), (22, .int .u64 (s38 : Int)), (23, .int .u64 (c39 : Int)), (24, pt p17 0)] [0, 1, 2, 3, 4, 5, 6, 7, 8, 9, 10, 11, 12] (by kernel_rfl) rfl hS37 ?_
  obtain ⟨w42, r43, H44⟩ := H35.st (P := Tryd.prog) (o := 0) (ty := 22) (v := .int .u64 (s38 : Int)) 3 rfl (by kernel_rfl) (by simp) rfl
  have H44 : Hp w [] [.blk p3 [.int .u64 (wd x 0 : Int), .int .u64 (wd x 1 : Int), .int .u64 (wd x 2 : Int), .int .u64 (wd x 3 : Int)] 45, .blk p7 [.int .u64 (wd y 0 : Int), .int .u64 (wd y 1 : Int), .int .u64 (wd y 2 : Int), .int .u64 (wd y 3 : Int)] 45, .blk p11 [.int .u64 0, .int .u64 0, .int .u64 0, .int .u64 0] 45, .blk p17 [.int .u64 (s38 : Int), .int .u64 0, .int .u64 0, .int .u64 0] 45] w42 := H44
  have hS45 : Hp w [] [.blk p3 [.int .u64 (wd x 0 : Int), .int .u64 (wd x 1 : Int), .int .u64 (wd x 2 : Int), .int .u64 (wd x 3 : Int)] 45, .blk p7 [.int .u64 (wd y 0 : Int), .int .u64 (wd y 1 : Int), .int .u64 (wd y 2 : Int), .int .u64 (wd y 3 : Int)] 45, .blk p11 [.int .u64 0, .int .u64 0, .int .u64 0, .int .u64 0] 45] w42 := H44.sub (List.Sublist.cons_cons _ (List.Sublist.cons_cons _ (List.Sublist.cons_cons _ (List.Sublist.cons _ (List.Sublist.slnil)))))
  refine GP.semU 13 r43 [2, 3, 4, 6, 7, 9, 23] [(2, pt p3 0), (3, pt p7 0), (4, pt p11 0), (6, pt p17 0), (7, .int .u64 0), (9, .int .i64 0), (23, .int .u64 (c39 : Int))] (by kernel_rfl) rfl rfl (by kernel_rfl) hS45 ?_
  refine GP.run [14] [2, 3, 4, 6, 7, 9] [(2, pt p3 0), (3, pt p7 0), (4, pt p11 0), (6, pt p17 0), (7, .int .u64 (c39 : Int)), (9, .int .i64 0)] [0, 1, 2, 3, 4, 5, 6, 7, 8, 9, 10, 11, 12, 13, 14] (by kernel_rfl) rfl hS45 ?_
  refine GP.k (by kernel_rfl) hK32 (fun _ _ h => h) ?_
  refine G.region ?_
  refine GL.run (j := 2) 2 [2, 3, 4, 6, 7, 9] [(2, pt p3 0), (3, pt p7 0), (4, pt p11 0), (6, pt p17 0), (7, .int .u64 (c39 : Int)), (9, .int .i64 1)] (by kernel_rfl) rfl ?_
  refine GL.round rfl ?_
  refine G.seqK fun K46 hK47 => ?_
  refine G.region ?_
  refine GL.run (j := 1) 1 [2, 3, 4, 6, 7, 9, 10] [(2, pt p3 0), (3, pt p7 0), (4, pt p11 0), (6, pt p17 0), (7, .int .u64 (c39 : Int)), (9, .int .i64 1), (10, .bool true)] (by kernel_rfl) rfl ?_
  refine GL.k rfl hK47 (fun _ _ h => h) ?_
  refine G.seqK fun K48 hK49 => ?_
  refine G.yes rfl ?_
  refine G.skipK hK49 (fun _ _ h => h) ?_
  refine G.seqK fun K50 hK51 => ?_
  refine G.block ?_
  refine G.seqK fun K52 hK53 => ?_
  refine G.region ?_
  refine GL.run (j := 2) 2 [2, 3, 4, 6, 7, 8, 9] [(2, pt p3 0), (3, pt p7 0), (4, pt p11 0), (6, pt p17 0), (7, .int .u64 (c39 : Int)), (8, .int .i64 1), (9, .int .i64 1)] (by kernel_rfl) rfl ?_
  refine GL.k rfl hK53 (fun _ _ h => h) ?_
  refine G.heldP (Hp w [] [.blk p3 [.int .u64 (wd x 0 : Int), .int .u64 (wd x 1 : Int), .int .u64 (wd x 2 : Int), .int .u64 (wd x 3 : Int)] 45, .blk p7 [.int .u64 (wd y 0 : Int), .int .u64 (wd y 1 : Int), .int .u64 (wd y 2 : Int), .int .u64 (wd y 3 : Int)] 45, .blk p11 [.int .u64 0, .int .u64 0, .int .u64 0, .int .u64 0] 45]) (by kernel_rfl) (by kernel_rfl) (fun c_ a_ d_ v_ w_ h_ => hPan c_ a_ d_ v_ w_ h_) ?_
  have H54 := H44.drew
  generalize ({ w42 with drawn := w42.drawn + 1 } : World) = w55 at H54 ⊢
  have hS56 : Hp w [] [.blk p3 [.int .u64 (wd x 0 : Int), .int .u64 (wd x 1 : Int), .int .u64 (wd x 2 : Int), .int .u64 (wd x 3 : Int)] 45, .blk p7 [.int .u64 (wd y 0 : Int), .int .u64 (wd y 1 : Int), .int .u64 (wd y 2 : Int), .int .u64 (wd y 3 : Int)] 45, .blk p11 [.int .u64 0, .int .u64 0, .int .u64 0, .int .u64 0] 45] w55 := H54.sub (List.Sublist.cons_cons _ (List.Sublist.cons_cons _ (List.Sublist.cons_cons _ (List.Sublist.cons _ (List.Sublist.slnil)))))
  refine GP.run [0, 1, 2] [2, 3, 4, 6, 7, 8, 9, 13, 15] [(2, pt p3 0), (3, pt p7 0), (4, pt p11 0), (6, pt p17 0), (7, .int .u64 (c39 : Int)), (8, .int .i64 1), (9, .int .i64 1), (13, .int .i64 1), (15, pt p3 1)] [0, 1, 2] (by kernel_rfl) rfl hS56 ?_
  refine GP.sem 3 (fun w_ H_ => H_.ld (o := 1) (ty := 22) (v := .int .u64 (wd x 1 : Int)) 0 rfl (by kernel_rfl) rfl) [2, 3, 4, 6, 7, 8, 9, 13, 16] [(2, pt p3 0), (3, pt p7 0), (4, pt p11 0), (6, pt p17 0), (7, .int .u64 (c39 : Int)), (8, .int .i64 1), (9, .int .i64 1), (13, .int .i64 1), (16, .int .u64 (wd x 1 : Int))] (by kernel_rfl) (by kernel_rfl) (by kernel_rfl) hS56 ?_
  refine GP.run [4, 5] [2, 3, 4, 6, 7, 9, 13, 16, 18] [(2, pt p3 0), (3, pt p7 0), (4, pt p11 0), (6, pt p17 0), (7, .int .u64 (c39 : Int)), (9, .int .i64 1), (13, .int .i64 1), (16, .int .u64 (wd x 1 : Int)), (18, pt p7 1)] [0, 1, 2, 3, 4, 5] (by kernel_rfl) rfl hS56 ?_
  refine GP.sem 6 (fun w_ H_ => H_.ld (o := 1) (ty := 22) (v := .int .u64 (wd y 1 : Int)) 1 rfl (by kernel_rfl) rfl) [2, 3, 4, 6, 7, 9, 13, 16, 19] [(2, pt p3 0), (3, pt p7 0), (4, pt p11 0), (6, pt p17 0), (7, .int .u64 (c39 : Int)), (9, .int .i64 1), (13, .int .i64 1), (16, .int .u64 (wd x 1 : Int)), (19, .int .u64 (wd y 1 : Int))] (by kernel_rfl) (by kernel_rfl) (by kernel_rfl) hS56 ?_
  refine GP.run [7] [2, 3, 4, 6, 7, 9, 13, 16, 19, 20] [(2, pt p3 0), (3, pt p7 0), (4, pt p11 0), (6, pt p17 0), (7, .int .u64 (c39 : Int)), (9, .int .i64 1), (13, .int .i64 1), (16, .int .u64 (wd x 1 : Int)), (19, .int .u64 (wd y 1 : Int)), (20, .int .u64 (c39 : Int))] [0, 1, 2, 3, 4, 5, 6, 7] (by kernel_rfl) rfl hS56 ?_
  obtain ⟨s57, hs59⟩ : ∃ s : Nat, s = ((wd x 1) + K - (wd y 1) - c39) % K := ⟨_, rfl⟩
  obtain ⟨c58, hc60⟩ : ∃ s : Nat, s = if (wd x 1) < (wd y 1) + c39 then 1 else 0 := ⟨_, rfl⟩
  have s57l : s57 < K := by rw [hs59]; exact Nat.mod_lt _ (by decide)
  have c58l : c58 ≤ 1 := by rw [hc60]; exact borrow_le _ _ _
  refine GP.semN 8 (fun w_ H_ => sub64_run (c39l) hs59 hc60 _) [2, 3, 4, 6, 7, 9, 13, 21] [(2, pt p3 0), (3, pt p7 0), (4, pt p11 0), (6, pt p17 0), (7, .int .u64 (c39 : Int)), (9, .int .i64 1), (13, .int .i64 1), (21, .tuple #[.int .u64 (s57 : Int), .int .u64 (c58 : Int)])] (by kernel_rfl) (by kernel_rfl) (by kernel_rfl) hS56 ?_
  refine GP.run [9, 10, 11, 12] [2, 3, 4, 6, 7, 9, 22, 23, 24] [(2, pt p3 0), (3, pt p7 0), (4, pt p11 0), (6, pt p17 0), (7, .int .u64 (c39 : Int)), (9, .int .i64 1), (22, .int .u64 (s57 : Int)), (23, .int .u64 (c58 : Int)), (24, pt p17 1)] [0, 1, 2, 3, 4, 5, 6, 7, 8, 9, 10, 11, 12] (by kernel_rfl) rfl hS56 ?_
  obtain ⟨w61, r62, H63⟩ := H54.st (P := Tryd.prog) (o := 1) (ty := 22) (v := .int .u64 (s57 : Int)) 3 rfl (by kernel_rfl) (by simp) rfl
  have H63 : Hp w [] [.blk p3 [.int .u64 (wd x 0 : Int), .int .u64 (wd x 1 : Int), .int .u64 (wd x 2 : Int), .int .u64 (wd x 3 : Int)] 45, .blk p7 [.int .u64 (wd y 0 : Int), .int .u64 (wd y 1 : Int), .int .u64 (wd y 2 : Int), .int .u64 (wd y 3 : Int)] 45, .blk p11 [.int .u64 0, .int .u64 0, .int .u64 0, .int .u64 0] 45, .blk p17 [.int .u64 (s38 : Int), .int .u64 (s57 : Int), .int .u64 0, .int .u64 0] 45] w61 := H63
  have hS64 : Hp w [] [.blk p3 [.int .u64 (wd x 0 : Int), .int .u64 (wd x 1 : Int), .int .u64 (wd x 2 : Int), .int .u64 (wd x 3 : Int)] 45, .blk p7 [.int .u64 (wd y 0 : Int), .int .u64 (wd y 1 : Int), .int .u64 (wd y 2 : Int), .int .u64 (wd y 3 : Int)] 45, .blk p11 [.int .u64 0, .int .u64 0, .int .u64 0, .int .u64 0] 45] w61 := H63.sub (List.Sublist.cons_cons _ (List.Sublist.cons_cons _ (List.Sublist.cons_cons _ (List.Sublist.cons _ (List.Sublist.slnil)))))
  refine GP.semU 13 r62 [2, 3, 4, 6, 7, 9, 23] [(2, pt p3 0), (3, pt p7 0), (4, pt p11 0), (6, pt p17 0), (7, .int .u64 (c39 : Int)), (9, .int .i64 1), (23, .int .u64 (c58 : Int))] (by kernel_rfl) rfl rfl (by kernel_rfl) hS64 ?_
  refine GP.run [14] [2, 3, 4, 6, 7, 9] [(2, pt p3 0), (3, pt p7 0), (4, pt p11 0), (6, pt p17 0), (7, .int .u64 (c58 : Int)), (9, .int .i64 1)] [0, 1, 2, 3, 4, 5, 6, 7, 8, 9, 10, 11, 12, 13, 14] (by kernel_rfl) rfl hS64 ?_
  refine GP.k (by kernel_rfl) hK51 (fun _ _ h => h) ?_
  refine G.region ?_
  refine GL.run (j := 2) 2 [2, 3, 4, 6, 7, 9] [(2, pt p3 0), (3, pt p7 0), (4, pt p11 0), (6, pt p17 0), (7, .int .u64 (c58 : Int)), (9, .int .i64 2)] (by kernel_rfl) rfl ?_
  refine GL.round rfl ?_
  refine G.seqK fun K65 hK66 => ?_
  refine G.region ?_
  refine GL.run (j := 1) 1 [2, 3, 4, 6, 7, 9, 10] [(2, pt p3 0), (3, pt p7 0), (4, pt p11 0), (6, pt p17 0), (7, .int .u64 (c58 : Int)), (9, .int .i64 2), (10, .bool true)] (by kernel_rfl) rfl ?_
  refine GL.k rfl hK66 (fun _ _ h => h) ?_
  refine G.seqK fun K67 hK68 => ?_
  refine G.yes rfl ?_
  refine G.skipK hK68 (fun _ _ h => h) ?_
  refine G.seqK fun K69 hK70 => ?_
  refine G.block ?_
  refine G.seqK fun K71 hK72 => ?_
  refine G.region ?_
  refine GL.run (j := 2) 2 [2, 3, 4, 6, 7, 8, 9] [(2, pt p3 0), (3, pt p7 0), (4, pt p11 0), (6, pt p17 0), (7, .int .u64 (c58 : Int)), (8, .int .i64 2), (9, .int .i64 2)] (by kernel_rfl) rfl ?_
  refine GL.k rfl hK72 (fun _ _ h => h) ?_
  refine G.heldP (Hp w [] [.blk p3 [.int .u64 (wd x 0 : Int), .int .u64 (wd x 1 : Int), .int .u64 (wd x 2 : Int), .int .u64 (wd x 3 : Int)] 45, .blk p7 [.int .u64 (wd y 0 : Int), .int .u64 (wd y 1 : Int), .int .u64 (wd y 2 : Int), .int .u64 (wd y 3 : Int)] 45, .blk p11 [.int .u64 0, .int .u64 0, .int .u64 0, .int .u64 0] 45]) (by kernel_rfl) (by kernel_rfl) (fun c_ a_ d_ v_ w_ h_ => hPan c_ a_ d_ v_ w_ h_) ?_
  have H73 := H63.drew
  generalize ({ w61 with drawn := w61.drawn + 1 } : World) = w74 at H73 ⊢
  have hS75 : Hp w [] [.blk p3 [.int .u64 (wd x 0 : Int), .int .u64 (wd x 1 : Int), .int .u64 (wd x 2 : Int), .int .u64 (wd x 3 : Int)] 45, .blk p7 [.int .u64 (wd y 0 : Int), .int .u64 (wd y 1 : Int), .int .u64 (wd y 2 : Int), .int .u64 (wd y 3 : Int)] 45, .blk p11 [.int .u64 0, .int .u64 0, .int .u64 0, .int .u64 0] 45] w74 := H73.sub (List.Sublist.cons_cons _ (List.Sublist.cons_cons _ (List.Sublist.cons_cons _ (List.Sublist.cons _ (List.Sublist.slnil)))))
  refine GP.run [0, 1, 2] [2, 3, 4, 6, 7, 8, 9, 13, 15] [(2, pt p3 0), (3, pt p7 0), (4, pt p11 0), (6, pt p17 0), (7, .int .u64 (c58 : Int)), (8, .int .i64 2), (9, .int .i64 2), (13, .int .i64 2), (15, pt p3 2)] [0, 1, 2] (by kernel_rfl) rfl hS75 ?_
  refine GP.sem 3 (fun w_ H_ => H_.ld (o := 2) (ty := 22) (v := .int .u64 (wd x 2 : Int)) 0 rfl (by kernel_rfl) rfl) [2, 3, 4, 6, 7, 8, 9, 13, 16] [(2, pt p3 0), (3, pt p7 0), (4, pt p11 0), (6, pt p17 0), (7, .int .u64 (c58 : Int)), (8, .int .i64 2), (9, .int .i64 2), (13, .int .i64 2), (16, .int .u64 (wd x 2 : Int))] (by kernel_rfl) (by kernel_rfl) (by kernel_rfl) hS75 ?_
  refine GP.run [4, 5] [2, 3, 4, 6, 7, 9, 13, 16, 18] [(2, pt p3 0), (3, pt p7 0), (4, pt p11 0), (6, pt p17 0), (7, .int .u64 (c58 : Int)), (9, .int .i64 2), (13, .int .i64 2), (16, .int .u64 (wd x 2 : Int)), (18, pt p7 2)] [0, 1, 2, 3, 4, 5] (by kernel_rfl) rfl hS75 ?_
  refine GP.sem 6 (fun w_ H_ => H_.ld (o := 2) (ty := 22) (v := .int .u64 (wd y 2 : Int)) 1 rfl (by kernel_rfl) rfl) [2, 3, 4, 6, 7, 9, 13, 16, 19] [(2, pt p3 0), (3, pt p7 0), (4, pt p11 0), (6, pt p17 0), (7, .int .u64 (c58 : Int)), (9, .int .i64 2), (13, .int .i64 2), (16, .int .u64 (wd x 2 : Int)), (19, .int .u64 (wd y 2 : Int))] (by kernel_rfl) (by kernel_rfl) (by kernel_rfl) hS75 ?_
  refine GP.run [7] [2, 3, 4, 6, 7, 9, 13, 16, 19, 20] [(2, pt p3 0), (3, pt p7 0), (4, pt p11 0), (6, pt p17 0), (7, .int .u64 (c58 : Int)), (9, .int .i64 2), (13, .int .i64 2), (16, .int .u64 (wd x 2 : Int)), (19, .int .u64 (wd y 2 : Int)), (20, .int .u64 (c58 : Int))] [0, 1, 2, 3, 4, 5, 6, 7] (by kernel_rfl) rfl hS75 ?_
  obtain ⟨s76, hs78⟩ : ∃ s : Nat, s = ((wd x 2) + K - (wd y 2) - c58) % K := ⟨_, rfl⟩
  obtain ⟨c77, hc79⟩ : ∃ s : Nat, s = if (wd x 2) < (wd y 2) + c58 then 1 else 0 := ⟨_, rfl⟩
  have s76l : s76 < K := by rw [hs78]; exact Nat.mod_lt _ (by decide)
  have c77l : c77 ≤ 1 := by rw [hc79]; exact borrow_le _ _ _
  refine GP.semN 8 (fun w_ H_ => sub64_run (c58l) hs78 hc79 _) [2, 3, 4, 6, 7, 9, 13, 21] [(2, pt p3 0), (3, pt p7 0), (4, pt p11 0), (6, pt p17 0), (7, .int .u64 (c58 : Int)), (9, .int .i64 2), (13, .int .i64 2), (21, .tuple #[.int .u64 (s76 : Int), .int .u64 (c77 : Int)])] (by kernel_rfl) (by kernel_rfl) (by kernel_rfl) hS75 ?_
  refine GP.run [9, 10, 11, 12] [2, 3, 4, 6, 7, 9, 22, 23, 24] [(2, pt p3 0), (3, pt p7 0), (4, pt p11 0), (6, pt p17 0), (7, .int .u64 (c58 : Int)), (9, .int .i64 2), (22, .int .u64 (s76 : Int)), (23, .int .u64 (c77 : Int)), (24, pt p17 2)] [0, 1, 2, 3, 4, 5, 6, 7, 8, 9, 10, 11, 12] (by kernel_rfl) rfl hS75 ?_
  obtain ⟨w80, r81, H82⟩ := H73.st (P := Tryd.prog) (o := 2) (ty := 22) (v := .int .u64 (s76 : Int)) 3 rfl (by kernel_rfl) (by simp) rfl
  have H82 : Hp w [] [.blk p3 [.int .u64 (wd x 0 : Int), .int .u64 (wd x 1 : Int), .int .u64 (wd x 2 : Int), .int .u64 (wd x 3 : Int)] 45, .blk p7 [.int .u64 (wd y 0 : Int), .int .u64 (wd y 1 : Int), .int .u64 (wd y 2 : Int), .int .u64 (wd y 3 : Int)] 45, .blk p11 [.int .u64 0, .int .u64 0, .int .u64 0, .int .u64 0] 45, .blk p17 [.int .u64 (s38 : Int), .int .u64 (s57 : Int), .int .u64 (s76 : Int), .int .u64 0] 45] w80 := H82
  have hS83 : Hp w [] [.blk p3 [.int .u64 (wd x 0 : Int), .int .u64 (wd x 1 : Int), .int .u64 (wd x 2 : Int), .int .u64 (wd x 3 : Int)] 45, .blk p7 [.int .u64 (wd y 0 : Int), .int .u64 (wd y 1 : Int), .int .u64 (wd y 2 : Int), .int .u64 (wd y 3 : Int)] 45, .blk p11 [.int .u64 0, .int .u64 0, .int .u64 0, .int .u64 0] 45] w80 := H82.sub (List.Sublist.cons_cons _ (List.Sublist.cons_cons _ (List.Sublist.cons_cons _ (List.Sublist.cons _ (List.Sublist.slnil)))))
  refine GP.semU 13 r81 [2, 3, 4, 6, 7, 9, 23] [(2, pt p3 0), (3, pt p7 0), (4, pt p11 0), (6, pt p17 0), (7, .int .u64 (c58 : Int)), (9, .int .i64 2), (23, .int .u64 (c77 : Int))] (by kernel_rfl) rfl rfl (by kernel_rfl) hS83 ?_
  refine GP.run [14] [2, 3, 4, 6, 7, 9] [(2, pt p3 0), (3, pt p7 0), (4, pt p11 0), (6, pt p17 0), (7, .int .u64 (c77 : Int)), (9, .int .i64 2)] [0, 1, 2, 3, 4, 5, 6, 7, 8, 9, 10, 11, 12, 13, 14] (by kernel_rfl) rfl hS83 ?_
  refine GP.k (by kernel_rfl) hK70 (fun _ _ h => h) ?_
  refine G.region ?_
  refine GL.run (j := 2) 2 [2, 3, 4, 6, 7, 9] [(2, pt p3 0), (3, pt p7 0), (4, pt p11 0), (6, pt p17 0), (7, .int .u64 (c77 : Int)), (9, .int .i64 3)] (by kernel_rfl) rfl ?_
  refine GL.round rfl ?_
  refine G.seqK fun K84 hK85 => ?_
  refine G.region ?_
  refine GL.run (j := 1) 1 [2, 3, 4, 6, 7, 9, 10] [(2, pt p3 0), (3, pt p7 0), (4, pt p11 0), (6, pt p17 0), (7, .int .u64 (c77 : Int)), (9, .int .i64 3), (10, .bool true)] (by kernel_rfl) rfl ?_
  refine GL.k rfl hK85 (fun _ _ h => h) ?_
  refine G.seqK fun K86 hK87 => ?_
  refine G.yes rfl ?_
  refine G.skipK hK87 (fun _ _ h => h) ?_
  refine G.seqK fun K88 hK89 => ?_
  refine G.block ?_
  refine G.seqK fun K90 hK91 => ?_
  refine G.region ?_
  refine GL.run (j := 2) 2 [2, 3, 4, 6, 7, 8, 9] [(2, pt p3 0), (3, pt p7 0), (4, pt p11 0), (6, pt p17 0), (7, .int .u64 (c77 : Int)), (8, .int .i64 3), (9, .int .i64 3)] (by kernel_rfl) rfl ?_
  refine GL.k rfl hK91 (fun _ _ h => h) ?_
  refine G.heldP (Hp w [] [.blk p3 [.int .u64 (wd x 0 : Int), .int .u64 (wd x 1 : Int), .int .u64 (wd x 2 : Int), .int .u64 (wd x 3 : Int)] 45, .blk p7 [.int .u64 (wd y 0 : Int), .int .u64 (wd y 1 : Int), .int .u64 (wd y 2 : Int), .int .u64 (wd y 3 : Int)] 45, .blk p11 [.int .u64 0, .int .u64 0, .int .u64 0, .int .u64 0] 45]) (by kernel_rfl) (by kernel_rfl) (fun c_ a_ d_ v_ w_ h_ => hPan c_ a_ d_ v_ w_ h_) ?_
  have H92 := H82.drew
  generalize ({ w80 with drawn := w80.drawn + 1 } : World) = w93 at H92 ⊢
  have hS94 : Hp w [] [.blk p3 [.int .u64 (wd x 0 : Int), .int .u64 (wd x 1 : Int), .int .u64 (wd x 2 : Int), .int .u64 (wd x 3 : Int)] 45, .blk p7 [.int .u64 (wd y 0 : Int), .int .u64 (wd y 1 : Int), .int .u64 (wd y 2 : Int), .int .u64 (wd y 3 : Int)] 45, .blk p11 [.int .u64 0, .int .u64 0, .int .u64 0, .int .u64 0] 45] w93 := H92.sub (List.Sublist.cons_cons _ (List.Sublist.cons_cons _ (List.Sublist.cons_cons _ (List.Sublist.cons _ (List.Sublist.slnil)))))
  refine GP.run [0, 1, 2] [2, 3, 4, 6, 7, 8, 9, 13, 15] [(2, pt p3 0), (3, pt p7 0), (4, pt p11 0), (6, pt p17 0), (7, .int .u64 (c77 : Int)), (8, .int .i64 3), (9, .int .i64 3), (13, .int .i64 3), (15, pt p3 3)] [0, 1, 2] (by kernel_rfl) rfl hS94 ?_
  refine GP.sem 3 (fun w_ H_ => H_.ld (o := 3) (ty := 22) (v := .int .u64 (wd x 3 : Int)) 0 rfl (by kernel_rfl) rfl) [2, 3, 4, 6, 7, 8, 9, 13, 16] [(2, pt p3 0), (3, pt p7 0), (4, pt p11 0), (6, pt p17 0), (7, .int .u64 (c77 : Int)), (8, .int .i64 3), (9, .int .i64 3), (13, .int .i64 3), (16, .int .u64 (wd x 3 : Int))] (by kernel_rfl) (by kernel_rfl) (by kernel_rfl) hS94 ?_
  refine GP.run [4, 5] [2, 3, 4, 6, 7, 9, 13, 16, 18] [(2, pt p3 0), (3, pt p7 0), (4, pt p11 0), (6, pt p17 0), (7, .int .u64 (c77 : Int)), (9, .int .i64 3), (13, .int .i64 3), (16, .int .u64 (wd x 3 : Int)), (18, pt p7 3)] [0, 1, 2, 3, 4, 5] (by kernel_rfl) rfl hS94 ?_
  refine GP.sem 6 (fun w_ H_ => H_.ld (o := 3) (ty := 22) (v := .int .u64 (wd y 3 : Int)) 1 rfl (by kernel_rfl) rfl) [2, 3, 4, 6, 7, 9, 13, 16, 19] [(2, pt p3 0), (3, pt p7 0), (4, pt p11 0), (6, pt p17 0), (7, .int .u64 (c77 : Int)), (9, .int .i64 3), (13, .int .i64 3), (16, .int .u64 (wd x 3 : Int)), (19, .int .u64 (wd y 3 : Int))] (by kernel_rfl) (by kernel_rfl) (by kernel_rfl) hS94 ?_
  refine GP.run [7] [2, 3, 4, 6, 7, 9, 13, 16, 19, 20] [(2, pt p3 0), (3, pt p7 0), (4, pt p11 0), (6, pt p17 0), (7, .int .u64 (c77 : Int)), (9, .int .i64 3), (13, .int .i64 3), (16, .int .u64 (wd x 3 : Int)), (19, .int .u64 (wd y 3 : Int)), (20, .int .u64 (c77 : Int))] [0, 1, 2, 3, 4, 5, 6, 7] (by kernel_rfl) rfl hS94 ?_
  obtain ⟨s95, hs97⟩ : ∃ s : Nat, s = ((wd x 3) + K - (wd y 3) - c77) % K := ⟨_, rfl⟩
  obtain ⟨c96, hc98⟩ : ∃ s : Nat, s = if (wd x 3) < (wd y 3) + c77 then 1 else 0 := ⟨_, rfl⟩
  have s95l : s95 < K := by rw [hs97]; exact Nat.mod_lt _ (by decide)
  have c96l : c96 ≤ 1 := by rw [hc98]; exact borrow_le _ _ _
  refine GP.semN 8 (fun w_ H_ => sub64_run (c77l) hs97 hc98 _) [2, 3, 4, 6, 7, 9, 13, 21] [(2, pt p3 0), (3, pt p7 0), (4, pt p11 0), (6, pt p17 0), (7, .int .u64 (c77 : Int)), (9, .int .i64 3), (13, .int .i64 3), (21, .tuple #[.int .u64 (s95 : Int), .int .u64 (c96 : Int)])] (by kernel_rfl) (by kernel_rfl) (by kernel_rfl) hS94 ?_
  refine GP.run [9, 10, 11, 12] [2, 3, 4, 6, 7, 9, 22, 23, 24] [(2, pt p3 0), (3, pt p7 0), (4, pt p11 0), (6, pt p17 0), (7, .int .u64 (c77 : Int)), (9, .int .i64 3), (22, .int .u64 (s95 : Int)), (23, .int .u64 (c96 : Int)), (24, pt p17 3)] [0, 1, 2, 3, 4, 5, 6, 7, 8, 9, 10, 11, 12] (by kernel_rfl) rfl hS94 ?_
  obtain ⟨w99, r100, H101⟩ := H92.st (P := Tryd.prog) (o := 3) (ty := 22) (v := .int .u64 (s95 : Int)) 3 rfl (by kernel_rfl) (by simp) rfl
  have H101 : Hp w [] [.blk p3 [.int .u64 (wd x 0 : Int), .int .u64 (wd x 1 : Int), .int .u64 (wd x 2 : Int), .int .u64 (wd x 3 : Int)] 45, .blk p7 [.int .u64 (wd y 0 : Int), .int .u64 (wd y 1 : Int), .int .u64 (wd y 2 : Int), .int .u64 (wd y 3 : Int)] 45, .blk p11 [.int .u64 0, .int .u64 0, .int .u64 0, .int .u64 0] 45, .blk p17 [.int .u64 (s38 : Int), .int .u64 (s57 : Int), .int .u64 (s76 : Int), .int .u64 (s95 : Int)] 45] w99 := H101
  have hS102 : Hp w [] [.blk p3 [.int .u64 (wd x 0 : Int), .int .u64 (wd x 1 : Int), .int .u64 (wd x 2 : Int), .int .u64 (wd x 3 : Int)] 45, .blk p7 [.int .u64 (wd y 0 : Int), .int .u64 (wd y 1 : Int), .int .u64 (wd y 2 : Int), .int .u64 (wd y 3 : Int)] 45, .blk p11 [.int .u64 0, .int .u64 0, .int .u64 0, .int .u64 0] 45] w99 := H101.sub (List.Sublist.cons_cons _ (List.Sublist.cons_cons _ (List.Sublist.cons_cons _ (List.Sublist.cons _ (List.Sublist.slnil)))))
  refine GP.semU 13 r100 [2, 3, 4, 6, 7, 9, 23] [(2, pt p3 0), (3, pt p7 0), (4, pt p11 0), (6, pt p17 0), (7, .int .u64 (c77 : Int)), (9, .int .i64 3), (23, .int .u64 (c96 : Int))] (by kernel_rfl) rfl rfl (by kernel_rfl) hS102 ?_
  refine GP.run [14] [2, 3, 4, 6, 7, 9] [(2, pt p3 0), (3, pt p7 0), (4, pt p11 0), (6, pt p17 0), (7, .int .u64 (c96 : Int)), (9, .int .i64 3)] [0, 1, 2, 3, 4, 5, 6, 7, 8, 9, 10, 11, 12, 13, 14] (by kernel_rfl) rfl hS102 ?_
  refine GP.k (by kernel_rfl) hK89 (fun _ _ h => h) ?_
  refine G.region ?_
  refine GL.run (j := 2) 2 [2, 3, 4, 6, 7, 9] [(2, pt p3 0), (3, pt p7 0), (4, pt p11 0), (6, pt p17 0), (7, .int .u64 (c96 : Int)), (9, .int .i64 4)] (by kernel_rfl) rfl ?_
  refine GL.round rfl ?_
  refine G.seqK fun K103 hK104 => ?_
  refine G.region ?_
  refine GL.run (j := 1) 1 [2, 3, 4, 6, 7, 9, 10] [(2, pt p3 0), (3, pt p7 0), (4, pt p11 0), (6, pt p17 0), (7, .int .u64 (c96 : Int)), (9, .int .i64 4), (10, .bool false)] (by kernel_rfl) rfl ?_
  refine GL.k rfl hK104 (fun _ _ h => h) ?_
  refine G.seqK fun K105 hK106 => ?_
  refine G.no rfl ?_
  refine G.exitK hK24 (fun _ _ h => h) ?_
  refine G.seqK fun K107 hK108 => ?_
  refine G.region ?_
  refine GL.sem (j := 1) (H101.ldA (o := 0) (ty := 45) (m := 4) (sub := [.int .u64 (s38 : Int), .int .u64 (s57 : Int), .int .u64 (s76 : Int), .int .u64 (s95 : Int)]) 3 rfl (by kernel_rfl) rfl rfl) [4, 7, 26] [(4, pt p11 0), (7, .int .u64 (c96 : Int)), (26, .agg #[.int .u64 (s38 : Int), .int .u64 (s57 : Int), .int .u64 (s76 : Int), .int .u64 (s95 : Int)])] (by kernel_rfl) (by kernel_rfl) rfl ?_
  refine GL.run (j := 3) 2 [4, 26, 28] [(4, pt p11 0), (26, .agg #[.int .u64 (s38 : Int), .int .u64 (s57 : Int), .int .u64 (s76 : Int), .int .u64 (s95 : Int)]), (28, .bool ((c96 : Int) == 1))] (by kernel_rfl) rfl ?_
  obtain ⟨w109, r110, H111⟩ := H101.stA (P := Tryd.prog) (o := 0) (vs := [.int .u64 (s38 : Int), .int .u64 (s57 : Int), .int .u64 (s76 : Int), .int .u64 (s95 : Int)]) (ty := 45) (m := 4) 2 rfl (by kernel_rfl) rfl (by simp) (by simp [Value.oneCell'])
  have H111 : Hp w [] [.blk p3 [.int .u64 (wd x 0 : Int), .int .u64 (wd x 1 : Int), .int .u64 (wd x 2 : Int), .int .u64 (wd x 3 : Int)] 45, .blk p7 [.int .u64 (wd y 0 : Int), .int .u64 (wd y 1 : Int), .int .u64 (wd y 2 : Int), .int .u64 (wd y 3 : Int)] 45, .blk p11 [.int .u64 (s38 : Int), .int .u64 (s57 : Int), .int .u64 (s76 : Int), .int .u64 (s95 : Int)] 45, .blk p17 [.int .u64 (s38 : Int), .int .u64 (s57 : Int), .int .u64 (s76 : Int), .int .u64 (s95 : Int)] 45] w109 := H111
  refine GL.semU (j := 4) r110 [4, 28] [(4, pt p11 0), (28, .bool ((c96 : Int) == 1))] (by kernel_rfl) rfl rfl rfl ?_
  refine GL.run (j := 5) 1 [4, 5] [(4, pt p11 0), (5, .bool ((c96 : Int) == 1))] (by kernel_rfl) rfl ?_
  refine GL.k rfl hK108 (fun _ _ h => h) ?_
  refine G.ret ?_
  intro F_ hF_ hM_
  refine hRet _ _ (bodyPost_2 rfl (RV.cell rfl (H111.ldA (o := 0) (ty := 45) (m := 4) (sub := [.int .u64 (s38 : Int), .int .u64 (s57 : Int), .int .u64 (s76 : Int), .int .u64 (s95 : Int)]) 2 rfl (by kernel_rfl) rfl rfl)) (RV.tmp rfl) ?_ F_ hF_ hM_)
  obtain ⟨ha, hb⟩ := sub_fin hx hy hs40 hc41 hs59 hc60 hs78 hc79 hs97 hc98
  rw [ha, hb]
  exact ⟨rfl, H111.sub (List.nil_sublist _)⟩
theorem Mul64_calls (x y : Nat) (hx : x < K) (hy : y < K) (w : World) : Calls Tryd.prog 25 #[.int .u64 (x : Int), .int .u64 (y : Int)] w fun e w' => e = .returned (.tuple #[.int .u64 ((x * y / K : Nat) : Int), .int .u64 ((x * y % K : Nat) : Int)]) ∧ Hp w [] [] w' := by
  have H0 := Go.Lib.mul64_hi x y hx hy
  have hx0 : x < 18446744073709551616 := hx
  have hy0 : y < 18446744073709551616 := hy
  have hq : x * y / 18446744073709551616 ≤ 18446744073709551614 := mulhi_lt hx hy
  refine calls_G (args := [.int .u64 (x : Int), .int .u64 (y : Int)]) Tryd.func25 rfl Tryd.ntmps25 rfl ?_
  intro Q0 hRet hNor hPan
  have H := Hp.start w
  have H : Hp w [] [] w := H
  refine G.seqK fun K1 hK2 => ?_
  refine G.region ?_
  refine GL.run (j := 2) 2 [0, 1] [(0, .int .u64 (x : Int)), (1, .int .u64 (y : Int))] (by kernel_rfl) rfl ?_
  refine GL.k rfl hK2 (fun _ _ h => h) ?_
  refine G.seqK fun K3 hK4 => ?_
  refine G.region ?_
  refine GL.run (j := 3) 3 [0, 1, 6] [(0, .int .u64 (x : Int)), (1, .int .u64 (y : Int)), (6, .int .u64 (Go.bits .and .u64 (x : Int) 4294967295))] (by kernel_rfl) rfl ?_
  have e5 : (Go.bits .and .u64 (x : Int) 4294967295) = ((x % 4294967296 : Nat) : Int) := n_mask32 (by first | assumption | (simp only [K]; omega))
  refine GL.eq (M' := [(0, .int .u64 (x : Int)), (1, .int .u64 (y : Int)), (6, .int .u64 ((x % 4294967296 : Nat) : Int))]) (by rw [e5]) ?_
  clear e5
  refine GL.k rfl hK4 (fun _ _ h => h) ?_
  refine G.seqK fun K6 hK7 => ?_
  refine G.region ?_
  refine GL.run (j := 3) 3 [0, 1, 6, 7] [(0, .int .u64 (x : Int)), (1, .int .u64 (y : Int)), (6, .int .u64 ((x % 4294967296 : Nat) : Int)), (7, .int .u64 (Int.fdiv (x : Int) (2 ^ 32)))] (by kernel_rfl) rfl ?_
  have e8 : (Int.fdiv (x : Int) (2 ^ 32)) = ((x / 4294967296 : Nat) : Int) := n_shr _ 32
  refine GL.eq (M' := [(0, .int .u64 (x : Int)), (1, .int .u64 (y : Int)), (6, .int .u64 ((x % 4294967296 : Nat) : Int)), (7, .int .u64 ((x / 4294967296 : Nat) : Int))]) (by rw [e8]) ?_
  clear e8
  refine GL.k rfl hK7 (fun _ _ h => h) ?_
  refine G.seqK fun K9 hK10 => ?_
  refine G.region ?_
  refine GL.run (j := 3) 3 [0, 1, 6, 7, 8] [(0, .int .u64 (x : Int)), (1, .int .u64 (y : Int)), (6, .int .u64 ((x % 4294967296 : Nat) : Int)), (7, .int .u64 ((x / 4294967296 : Nat) : Int)), (8, .int .u64 (Go.bits .and .u64 (y : Int) 4294967295))] (by kernel_rfl) rfl ?_
  have e11 : (Go.bits .and .u64 (y : Int) 4294967295) = ((y % 4294967296 : Nat) : Int) := n_mask32 (by first | assumption | (simp only [K]; omega))
  refine GL.eq (M' := [(0, .int .u64 (x : Int)), (1, .int .u64 (y : Int)), (6, .int .u64 ((x % 4294967296 : Nat) : Int)), (7, .int .u64 ((x / 4294967296 : Nat) : Int)), (8, .int .u64 ((y % 4294967296 : Nat) : Int))]) (by rw [e11]) ?_
  clear e11
  refine GL.k rfl hK10 (fun _ _ h => h) ?_
  refine G.seqK fun K12 hK13 => ?_
  refine G.region ?_
  refine GL.run (j := 3) 3 [0, 1, 6, 7, 8, 9] [(0, .int .u64 (x : Int)), (1, .int .u64 (y : Int)), (6, .int .u64 ((x % 4294967296 : Nat) : Int)), (7, .int .u64 ((x / 4294967296 : Nat) : Int)), (8, .int .u64 ((y % 4294967296 : Nat) : Int)), (9, .int .u64 (Int.fdiv (y : Int) (2 ^ 32)))] (by kernel_rfl) rfl ?_
  have e14 : (Int.fdiv (y : Int) (2 ^ 32)) = ((y / 4294967296 : Nat) : Int) := n_shr _ 32
  refine GL.eq (M' := [(0, .int .u64 (x : Int)), (1, .int .u64 (y : Int)), (6, .int .u64 ((x % 4294967296 : Nat) : Int)), (7, .int .u64 ((x / 4294967296 : Nat) : Int)), (8, .int .u64 ((y % 4294967296 : Nat) : Int)), (9, .int .u64 ((y / 4294967296 : Nat) : Int))]) (by rw [e14]) ?_
  clear e14
  refine GL.k rfl hK13 (fun _ _ h => h) ?_
  refine G.seqK fun K15 hK16 => ?_
  refine G.region ?_
  refine GL.run (j := 4) 4 [0, 1, 6, 7, 8, 9, 10] [(0, .int .u64 (x : Int)), (1, .int .u64 (y : Int)), (6, .int .u64 ((x % 4294967296 : Nat) : Int)), (7, .int .u64 ((x / 4294967296 : Nat) : Int)), (8, .int .u64 ((y % 4294967296 : Nat) : Int)), (9, .int .u64 ((y / 4294967296 : Nat) : Int)), (10, .int .u64 (IntKind.u64.wrap (((x % 4294967296 : Nat) : Int) * ((y % 4294967296 : Nat) : Int))))] (by kernel_rfl) rfl ?_
  have e17 : (IntKind.u64.wrap (((x % 4294967296 : Nat) : Int) * ((y % 4294967296 : Nat) : Int))) = (((x % 4294967296) * (y % 4294967296) : Nat) : Int) := n_mul' (half_lt (by omega) (by omega))
  refine GL.eq (M' := [(0, .int .u64 (x : Int)), (1, .int .u64 (y : Int)), (6, .int .u64 ((x % 4294967296 : Nat) : Int)), (7, .int .u64 ((x / 4294967296 : Nat) : Int)), (8, .int .u64 ((y % 4294967296 : Nat) : Int)), (9, .int .u64 ((y / 4294967296 : Nat) : Int)), (10, .int .u64 (((x % 4294967296) * (y % 4294967296) : Nat) : Int))]) (by rw [e17]) ?_
  clear e17
  refine GL.k rfl hK16 (fun _ _ h => h) ?_
  refine G.seqK fun K18 hK19 => ?_
  refine G.region ?_
  refine GL.run (j := 7) 7 [0, 1, 6, 7, 9, 11] [(0, .int .u64 (x : Int)), (1, .int .u64 (y : Int)), (6, .int .u64 ((x % 4294967296 : Nat) : Int)), (7, .int .u64 ((x / 4294967296 : Nat) : Int)), (9, .int .u64 ((y / 4294967296 : Nat) : Int)), (11, .int .u64 (IntKind.u64.wrap ((IntKind.u64.wrap (((x / 4294967296 : Nat) : Int) * ((y % 4294967296 : Nat) : Int))) + (Int.fdiv (((x % 4294967296) * (y % 4294967296) : Nat) : Int) (2 ^ 32)))))] (by kernel_rfl) rfl ?_
  have e20 : (IntKind.u64.wrap (((x / 4294967296 : Nat) : Int) * ((y % 4294967296 : Nat) : Int))) = (((x / 4294967296) * (y % 4294967296) : Nat) : Int) := n_mul' (half_lt (by omega) (by omega))
  have e21 : (Int.fdiv (((x % 4294967296) * (y % 4294967296) : Nat) : Int) (2 ^ 32)) = ((((x % 4294967296) * (y % 4294967296)) / 4294967296 : Nat) : Int) := n_shr _ 32
  have e22 : (IntKind.u64.wrap ((((x / 4294967296) * (y % 4294967296) : Nat) : Int) + ((((x % 4294967296) * (y % 4294967296)) / 4294967296 : Nat) : Int))) = ((((x / 4294967296) * (y % 4294967296)) + (((x % 4294967296) * (y % 4294967296)) / 4294967296) : Nat) : Int) := n_add' (by simp only [K]; omega)
  refine GL.eq (M' := [(0, .int .u64 (x : Int)), (1, .int .u64 (y : Int)), (6, .int .u64 ((x % 4294967296 : Nat) : Int)), (7, .int .u64 ((x / 4294967296 : Nat) : Int)), (9, .int .u64 ((y / 4294967296 : Nat) : Int)), (11, .int .u64 ((((x / 4294967296) * (y % 4294967296)) + (((x % 4294967296) * (y % 4294967296)) / 4294967296) : Nat) : Int))]) (by rw [e20, e21, e22]) ?_
  clear e20 e21 e22
  refine GL.k rfl hK19 (fun _ _ h => h) ?_
  refine G.seqK fun K23 hK24 => ?_
  refine G.region ?_
  refine GL.run (j := 3) 3 [0, 1, 6, 7, 9, 11, 12] [(0, .int .u64 (x : Int)), (1, .int .u64 (y : Int)), (6, .int .u64 ((x % 4294967296 : Nat) : Int)), (7, .int .u64 ((x / 4294967296 : Nat) : Int)), (9, .int .u64 ((y / 4294967296 : Nat) : Int)), (11, .int .u64 ((((x / 4294967296) * (y % 4294967296)) + (((x % 4294967296) * (y % 4294967296)) / 4294967296) : Nat) : Int)), (12, .int .u64 (Go.bits .and .u64 ((((x / 4294967296) * (y % 4294967296)) + (((x % 4294967296) * (y % 4294967296)) / 4294967296) : Nat) : Int) 4294967295))] (by kernel_rfl) rfl ?_
  have e25 : (Go.bits .and .u64 ((((x / 4294967296) * (y % 4294967296)) + (((x % 4294967296) * (y % 4294967296)) / 4294967296) : Nat) : Int) 4294967295) = (((((x / 4294967296) * (y % 4294967296)) + (((x % 4294967296) * (y % 4294967296)) / 4294967296)) % 4294967296 : Nat) : Int) := n_mask32 (by first | assumption | (simp only [K]; omega))
  refine GL.eq (M' := [(0, .int .u64 (x : Int)), (1, .int .u64 (y : Int)), (6, .int .u64 ((x % 4294967296 : Nat) : Int)), (7, .int .u64 ((x / 4294967296 : Nat) : Int)), (9, .int .u64 ((y / 4294967296 : Nat) : Int)), (11, .int .u64 ((((x / 4294967296) * (y % 4294967296)) + (((x % 4294967296) * (y % 4294967296)) / 4294967296) : Nat) : Int)), (12, .int .u64 (((((x / 4294967296) * (y % 4294967296)) + (((x % 4294967296) * (y % 4294967296)) / 4294967296)) % 4294967296 : Nat) : Int))]) (by rw [e25]) ?_
  clear e25
  refine GL.k rfl hK24 (fun _ _ h => h) ?_
  refine G.seqK fun K26 hK27 => ?_
  refine G.region ?_
  refine GL.run (j := 3) 3 [0, 1, 6, 7, 9, 12, 13] [(0, .int .u64 (x : Int)), (1, .int .u64 (y : Int)), (6, .int .u64 ((x % 4294967296 : Nat) : Int)), (7, .int .u64 ((x / 4294967296 : Nat) : Int)), (9, .int .u64 ((y / 4294967296 : Nat) : Int)), (12, .int .u64 (((((x / 4294967296) * (y % 4294967296)) + (((x % 4294967296) * (y % 4294967296)) / 4294967296)) % 4294967296 : Nat) : Int)), (13, .int .u64 (Int.fdiv ((((x / 4294967296) * (y % 4294967296)) + (((x % 4294967296) * (y % 4294967296)) / 4294967296) : Nat) : Int) (2 ^ 32)))] (by kernel_rfl) rfl ?_
  have e28 : (Int.fdiv ((((x / 4294967296) * (y % 4294967296)) + (((x % 4294967296) * (y % 4294967296)) / 4294967296) : Nat) : Int) (2 ^ 32)) = (((((x / 4294967296) * (y % 4294967296)) + (((x % 4294967296) * (y % 4294967296)) / 4294967296)) / 4294967296 : Nat) : Int) := n_shr _ 32
  refine GL.eq (M' := [(0, .int .u64 (x : Int)), (1, .int .u64 (y : Int)), (6, .int .u64 ((x % 4294967296 : Nat) : Int)), (7, .int .u64 ((x / 4294967296 : Nat) : Int)), (9, .int .u64 ((y / 4294967296 : Nat) : Int)), (12, .int .u64 (((((x / 4294967296) * (y % 4294967296)) + (((x % 4294967296) * (y % 4294967296)) / 4294967296)) % 4294967296 : Nat) : Int)), (13, .int .u64 (((((x / 4294967296) * (y % 4294967296)) + (((x % 4294967296) * (y % 4294967296)) / 4294967296)) / 4294967296 : Nat) : Int))]) (by rw [e28]) ?_
  clear e28
  refine GL.k rfl hK27 (fun _ _ h => h) ?_
  refine G.seqK fun K29 hK30 => ?_
  refine G.region ?_
  refine GL.run (j := 6) 6 [0, 1, 7, 9, 12, 13] [(0, .int .u64 (x : Int)), (1, .int .u64 (y : Int)), (7, .int .u64 ((x / 4294967296 : Nat) : Int)), (9, .int .u64 ((y / 4294967296 : Nat) : Int)), (12, .int .u64 (IntKind.u64.wrap ((((((x / 4294967296) * (y % 4294967296)) + (((x % 4294967296) * (y % 4294967296)) / 4294967296)) % 4294967296 : Nat) : Int) + (IntKind.u64.wrap (((x % 4294967296 : Nat) : Int) * ((y / 4294967296 : Nat) : Int)))))), (13, .int .u64 (((((x / 4294967296) * (y % 4294967296)) + (((x % 4294967296) * (y % 4294967296)) / 4294967296)) / 4294967296 : Nat) : Int))] (by kernel_rfl) rfl ?_
  have e31 : (IntKind.u64.wrap (((x % 4294967296 : Nat) : Int) * ((y / 4294967296 : Nat) : Int))) = (((x % 4294967296) * (y / 4294967296) : Nat) : Int) := n_mul' (half_lt (by omega) (by omega))
  have e32 : (IntKind.u64.wrap ((((((x / 4294967296) * (y % 4294967296)) + (((x % 4294967296) * (y % 4294967296)) / 4294967296)) % 4294967296 : Nat) : Int) + (((x % 4294967296) * (y / 4294967296) : Nat) : Int))) = ((((((x / 4294967296) * (y % 4294967296)) + (((x % 4294967296) * (y % 4294967296)) / 4294967296)) % 4294967296) + ((x % 4294967296) * (y / 4294967296)) : Nat) : Int) := n_add' (by simp only [K]; omega)
  refine GL.eq (M' := [(0, .int .u64 (x : Int)), (1, .int .u64 (y : Int)), (7, .int .u64 ((x / 4294967296 : Nat) : Int)), (9, .int .u64 ((y / 4294967296 : Nat) : Int)), (12, .int .u64 ((((((x / 4294967296) * (y % 4294967296)) + (((x % 4294967296) * (y % 4294967296)) / 4294967296)) % 4294967296) + ((x % 4294967296) * (y / 4294967296)) : Nat) : Int)), (13, .int .u64 (((((x / 4294967296) * (y % 4294967296)) + (((x % 4294967296) * (y % 4294967296)) / 4294967296)) / 4294967296 : Nat) : Int))]) (by rw [e31, e32]) ?_
  clear e31 e32
  refine GL.k rfl hK30 (fun _ _ h => h) ?_
  refine G.seqK fun K33 hK34 => ?_
  refine G.region ?_
  refine GL.run (j := 9) 9 [0, 1, 4] [(0, .int .u64 (x : Int)), (1, .int .u64 (y : Int)), (4, .int .u64 (IntKind.u64.wrap ((IntKind.u64.wrap ((IntKind.u64.wrap (((x / 4294967296 : Nat) : Int) * ((y / 4294967296 : Nat) : Int))) + (((((x / 4294967296) * (y % 4294967296)) + (((x % 4294967296) * (y % 4294967296)) / 4294967296)) / 4294967296 : Nat) : Int))) + (Int.fdiv ((((((x / 4294967296) * (y % 4294967296)) + (((x % 4294967296) * (y % 4294967296)) / 4294967296)) % 4294967296) + ((x % 4294967296) * (y / 4294967296)) : Nat) : Int) (2 ^ 32)))))] (by kernel_rfl) rfl ?_
  have e35 : (IntKind.u64.wrap (((x / 4294967296 : Nat) : Int) * ((y / 4294967296 : Nat) : Int))) = (((x / 4294967296) * (y / 4294967296) : Nat) : Int) := n_mul' (half_lt (by omega) (by omega))
  have e36 : (IntKind.u64.wrap ((((x / 4294967296) * (y / 4294967296) : Nat) : Int) + (((((x / 4294967296) * (y % 4294967296)) + (((x % 4294967296) * (y % 4294967296)) / 4294967296)) / 4294967296 : Nat) : Int))) = ((((x / 4294967296) * (y / 4294967296)) + ((((x / 4294967296) * (y % 4294967296)) + (((x % 4294967296) * (y % 4294967296)) / 4294967296)) / 4294967296) : Nat) : Int) := n_add' (by simp only [K]; omega)
  have e37 : (Int.fdiv ((((((x / 4294967296) * (y % 4294967296)) + (((x % 4294967296) * (y % 4294967296)) / 4294967296)) % 4294967296) + ((x % 4294967296) * (y / 4294967296)) : Nat) : Int) (2 ^ 32)) = (((((((x / 4294967296) * (y % 4294967296)) + (((x % 4294967296) * (y % 4294967296)) / 4294967296)) % 4294967296) + ((x % 4294967296) * (y / 4294967296))) / 4294967296 : Nat) : Int) := n_shr _ 32
  have e38 : (IntKind.u64.wrap (((((x / 4294967296) * (y / 4294967296)) + ((((x / 4294967296) * (y % 4294967296)) + (((x % 4294967296) * (y % 4294967296)) / 4294967296)) / 4294967296) : Nat) : Int) + (((((((x / 4294967296) * (y % 4294967296)) + (((x % 4294967296) * (y % 4294967296)) / 4294967296)) % 4294967296) + ((x % 4294967296) * (y / 4294967296))) / 4294967296 : Nat) : Int))) = (((((x / 4294967296) * (y / 4294967296)) + ((((x / 4294967296) * (y % 4294967296)) + (((x % 4294967296) * (y % 4294967296)) / 4294967296)) / 4294967296)) + ((((((x / 4294967296) * (y % 4294967296)) + (((x % 4294967296) * (y % 4294967296)) / 4294967296)) % 4294967296) + ((x % 4294967296) * (y / 4294967296))) / 4294967296) : Nat) : Int) := n_add' (by simp only [K]; omega)
  refine GL.eq (M' := [(0, .int .u64 (x : Int)), (1, .int .u64 (y : Int)), (4, .int .u64 (((((x / 4294967296) * (y / 4294967296)) + ((((x / 4294967296) * (y % 4294967296)) + (((x % 4294967296) * (y % 4294967296)) / 4294967296)) / 4294967296)) + ((((((x / 4294967296) * (y % 4294967296)) + (((x % 4294967296) * (y % 4294967296)) / 4294967296)) % 4294967296) + ((x % 4294967296) * (y / 4294967296))) / 4294967296) : Nat) : Int))]) (by rw [e35, e36, e37, e38]) ?_
  clear e35 e36 e37 e38
  refine GL.k rfl hK34 (fun _ _ h => h) ?_
  refine G.seqK fun K39 hK40 => ?_
  refine G.region ?_
  refine GL.run (j := 4) 4 [4, 5] [(4, .int .u64 (((((x / 4294967296) * (y / 4294967296)) + ((((x / 4294967296) * (y % 4294967296)) + (((x % 4294967296) * (y % 4294967296)) / 4294967296)) / 4294967296)) + ((((((x / 4294967296) * (y % 4294967296)) + (((x % 4294967296) * (y % 4294967296)) / 4294967296)) % 4294967296) + ((x % 4294967296) * (y / 4294967296))) / 4294967296) : Nat) : Int)), (5, .int .u64 (IntKind.u64.wrap ((x : Int) * (y : Int))))] (by kernel_rfl) rfl ?_
  have e41 : (IntKind.u64.wrap ((x : Int) * (y : Int))) = ((x * y % K : Nat) : Int) := n_mul _ _
  refine GL.eq (M' := [(4, .int .u64 (((((x / 4294967296) * (y / 4294967296)) + ((((x / 4294967296) * (y % 4294967296)) + (((x % 4294967296) * (y % 4294967296)) / 4294967296)) / 4294967296)) + ((((((x / 4294967296) * (y % 4294967296)) + (((x % 4294967296) * (y % 4294967296)) / 4294967296)) % 4294967296) + ((x % 4294967296) * (y / 4294967296))) / 4294967296) : Nat) : Int)), (5, .int .u64 ((x * y % K : Nat) : Int))]) (by rw [e41]) ?_
  clear e41
  refine GL.k rfl hK40 (fun _ _ h => h) ?_
  refine G.ret ?_
  intro F_ hF_ hM_
  refine hRet _ _ (bodyPost_2 rfl (RV.tmp rfl) (RV.tmp rfl) ?_ F_ hF_ hM_)
  rw [H0.2.2.2]
  exact ⟨rfl, H.sub (List.nil_sublist _)⟩
theorem Product_calls (x y : Nat) (hx : x < K) (hy : y < K) (w : World) : Calls Tryd.prog 17 #[.int .u64 (x : Int), .int .u64 (y : Int)] w fun e w' => e = .returned (wv (x * y)) ∧ Hp w [] [] w' := by
  refine calls_G (args := [.int .u64 (x : Int), .int .u64 (y : Int)]) Tryd.func17 rfl Tryd.ntmps17 rfl ?_
  intro Q0 hRet hNor hPan
  have H := Hp.start w
  have H : Hp w [] [] w := H
  refine G.seqK fun K1 hK2 => ?_
  refine G.region ?_
  obtain ⟨p3, w4, r5, H6⟩ := H.alloc (P := Tryd.prog) 45 [.int .u64 0, .int .u64 0, .int .u64 0, .int .u64 0] (by kernel_rfl)
  have H6 : Hp w [] [.blk p3 [.int .u64 0, .int .u64 0, .int .u64 0, .int .u64 0] 45] w4 := H6
  refine GL.sem (j := 1) (r5) [0, 1, 4] [(0, .int .u64 (x : Int)), (1, .int .u64 (y : Int)), (4, pt p3 0)] (by kernel_rfl) (by kernel_rfl) rfl ?_
  refine GL.k rfl hK2 (fun _ _ h => h) ?_
  refine G.seqK fun K7 hK8 => ?_
  refine G.region ?_
  refine GL.run (j := 2) 2 [4, 8, 9] [(4, pt p3 0), (8, .int .u64 (x : Int)), (9, .int .u64 (y : Int))] (by kernel_rfl) rfl ?_
  refine GL.call (j := 3) (Mul64_calls x y (hx) (hy) w4) (by kernel_rfl) rfl (fun e_ w9 hR => ?_)
  obtain ⟨rfl, H11⟩ := hR
  have H10 : Hp w [] [.blk p3 [.int .u64 0, .int .u64 0, .int .u64 0, .int .u64 0] 45] w9 := H6.callNil H11
  refine ⟨_, rfl, [4, 10], [(4, pt p3 0), (10, .tuple #[.int .u64 ((x * y / K : Nat) : Int), .int .u64 ((x * y % K : Nat) : Int)])], by kernel_rfl, ?_⟩
  refine GL.run (j := 8) 5 [4, 5, 6] [(4, pt p3 0), (5, .int .u64 ((x * y / K : Nat) : Int)), (6, .int .u64 ((x * y % K : Nat) : Int))] (by kernel_rfl) rfl ?_
  refine GL.k rfl hK8 (fun _ _ h => h) ?_
  refine G.seqK fun K12 hK13 => ?_
  refine G.region ?_
  refine GL.run (j := 3) 3 [4, 15] [(4, pt p3 0), (15, .agg #[.int .u64 ((x * y % K : Nat) : Int), .int .u64 ((x * y / K : Nat) : Int), .int .u64 0, .int .u64 0])] (by kernel_rfl) rfl ?_
  obtain ⟨w14, r15, H16⟩ := H10.stA (P := Tryd.prog) (o := 0) (vs := [.int .u64 ((x * y % K : Nat) : Int), .int .u64 ((x * y / K : Nat) : Int), .int .u64 0, .int .u64 0]) (ty := 45) (m := 4) 0 rfl (by kernel_rfl) rfl (by simp) (by simp [Value.oneCell'])
  have H16 : Hp w [] [.blk p3 [.int .u64 ((x * y % K : Nat) : Int), .int .u64 ((x * y / K : Nat) : Int), .int .u64 0, .int .u64 0] 45] w14 := H16
  refine GL.semU (j := 4) r15 [4] [(4, pt p3 0)] (by kernel_rfl) rfl rfl rfl ?_
  refine GL.k rfl hK13 (fun _ _ h => h) ?_
  refine G.ret ?_
  intro F_ hF_ hM_
  refine hRet _ _ (bodyPost_1 rfl (RV.cell rfl (H16.ldA (o := 0) (ty := 45) (m := 4) (sub := [.int .u64 ((x * y % K : Nat) : Int), .int .u64 ((x * y / K : Nat) : Int), .int .u64 0, .int .u64 0]) 0 rfl (by kernel_rfl) rfl rfl)) ?_ F_ hF_ hM_)
  rw [← prod_fin hx hy]
  exact ⟨rfl, H16.sub (List.nil_sublist _)⟩
theorem Cmp_calls (x y : Nat) (hx : x < K4) (hy : y < K4) (w : World) : Calls Tryd.prog 28 #[wv x, wv y] w fun e w' => e = .returned (.int .i64 (cmpN x y)) ∧ Hp w [] [] w' := by
  refine calls_G (args := [wv x, wv y]) Tryd.func28 rfl Tryd.ntmps28 rfl ?_
  intro Q0 hRet hNor hPan
  have H := Hp.start w
  have H : Hp w [] [] w := H
  refine G.seqK fun K1 hK2 => ?_
  refine G.region ?_
  obtain ⟨p3, w4, r5, H6⟩ := H.box (P := Tryd.prog) 45 [.int .u64 (wd x 0 : Int), .int .u64 (wd x 1 : Int), .int .u64 (wd x 2 : Int), .int .u64 (wd x 3 : Int)] (wv x) rfl
  have H6 : Hp w [] [.blk p3 [.int .u64 (wd x 0 : Int), .int .u64 (wd x 1 : Int), .int .u64 (wd x 2 : Int), .int .u64 (wd x 3 : Int)] 45] w4 := H6
  refine GL.sem (j := 1) (r5) [1, 2] [(1, wv y), (2, pt p3 0)] (by kernel_rfl) (by kernel_rfl) rfl ?_
  obtain ⟨p7, w8, r9, H10⟩ := H6.box (P := Tryd.prog) 45 [.int .u64 (wd y 0 : Int), .int .u64 (wd y 1 : Int), .int .u64 (wd y 2 : Int), .int .u64 (wd y 3 : Int)] (wv y) rfl
  have H10 : Hp w [] [.blk p3 [.int .u64 (wd x 0 : Int), .int .u64 (wd x 1 : Int), .int .u64 (wd x 2 : Int), .int .u64 (wd x 3 : Int)] 45, .blk p7 [.int .u64 (wd y 0 : Int), .int .u64 (wd y 1 : Int), .int .u64 (wd y 2 : Int), .int .u64 (wd y 3 : Int)] 45] w8 := H10
  refine GL.sem (j := 2) (r9) [2, 3] [(2, pt p3 0), (3, pt p7 0)] (by kernel_rfl) (by kernel_rfl) rfl ?_
  refine GL.run (j := 3) 1 [2, 3] [(2, pt p3 0), (3, pt p7 0)] (by kernel_rfl) rfl ?_
  refine GL.k rfl hK2 (fun _ _ h => h) ?_
  refine G.seqK fun K11 hK12 => ?_
  refine G.seqK fun K13 hK14 => ?_
  refine G.region ?_
  refine GL.run (j := 1) 1 [2, 3, 5] [(2, pt p3 0), (3, pt p7 0), (5, .int .i64 3)] (by kernel_rfl) rfl ?_
  refine GL.k rfl hK14 (fun _ _ h => h) ?_
  refine G.block ?_
  refine G.unroll 5 ?_
  refine G.seqK fun K15 hK16 => ?_
  refine G.seqK fun K17 hK18 => ?_
  refine G.region ?_
  refine GL.run (j := 2) 2 [2, 3, 5, 7] [(2, pt p3 0), (3, pt p7 0), (5, .int .i64 3), (7, .bool true)] (by kernel_rfl) rfl ?_
  refine GL.k rfl hK18 (fun _ _ h => h) ?_
  refine G.yes rfl ?_
  refine G.skipK hK16 (fun _ _ h => h) ?_
  refine G.seqK fun K19 hK20 => ?_
  refine G.block ?_
  refine G.block ?_
  refine G.seqK fun K21 hK22 => ?_
  refine G.draw H10 (by kernel_rfl) (by kernel_rfl) ?_
  refine GQ.run (j := 2) 2 [2, 3, 5, 12] [(2, pt p3 0), (3, pt p7 0), (5, .int .i64 3), (12, pt p3 3)] (by kernel_rfl) rfl ?_
  refine GQ.sem (j := 3) (fun w_ H_ => H_.ld (o := 3) (ty := 22) (v := .int .u64 (wd x 3 : Int)) 0 rfl (by kernel_rfl) rfl) [2, 3, 5, 13] [(2, pt p3 0), (3, pt p7 0), (5, .int .i64 3), (13, .int .u64 (wd x 3 : Int))] (by kernel_rfl) (by kernel_rfl) rfl ?_
  refine GQ.run (j := 5) 2 [2, 3, 5, 13, 15] [(2, pt p3 0), (3, pt p7 0), (5, .int .i64 3), (13, .int .u64 (wd x 3 : Int)), (15, pt p7 3)] (by kernel_rfl) rfl ?_
  refine GQ.sem (j := 6) (fun w_ H_ => H_.ld (o := 3) (ty := 22) (v := .int .u64 (wd y 3 : Int)) 1 rfl (by kernel_rfl) rfl) [2, 3, 5, 13, 16] [(2, pt p3 0), (3, pt p7 0), (5, .int .i64 3), (13, .int .u64 (wd x 3 : Int)), (16, .int .u64 (wd y 3 : Int))] (by kernel_rfl) (by kernel_rfl) rfl ?_
  refine GQ.run (j := 8) 2 [2, 3, 5, 10] [(2, pt p3 0), (3, pt p7 0), (5, .int .i64 3), (10, .bool (decide ((wd x 3 : Int) < (wd y 3 : Int))))] (by kernel_rfl) rfl ?_
  refine GQ.k rfl hK22 (fun _ _ h => h) (fun w23 H24 => ?_)
  cases hb25 : (decide ((wd x 3 : Int) < (wd y 3 : Int)))
  · skip
    have hb25f := of_decide_eq_false hb25
    refine G.no rfl ?_
    refine G.seqK fun K26 hK27 => ?_
    refine G.draw H24 (by kernel_rfl) (by kernel_rfl) ?_
    refine GQ.run (j := 2) 2 [2, 3, 5, 20] [(2, pt p3 0), (3, pt p7 0), (5, .int .i64 3), (20, pt p3 3)] (by kernel_rfl) rfl ?_
    refine GQ.sem (j := 3) (fun w_ H_ => H_.ld (o := 3) (ty := 22) (v := .int .u64 (wd x 3 : Int)) 0 rfl (by kernel_rfl) rfl) [2, 3, 5, 21] [(2, pt p3 0), (3, pt p7 0), (5, .int .i64 3), (21, .int .u64 (wd x 3 : Int))] (by kernel_rfl) (by kernel_rfl) rfl ?_
    refine GQ.run (j := 5) 2 [2, 3, 5, 21, 23] [(2, pt p3 0), (3, pt p7 0), (5, .int .i64 3), (21, .int .u64 (wd x 3 : Int)), (23, pt p7 3)] (by kernel_rfl) rfl ?_
    refine GQ.sem (j := 6) (fun w_ H_ => H_.ld (o := 3) (ty := 22) (v := .int .u64 (wd y 3 : Int)) 1 rfl (by kernel_rfl) rfl) [2, 3, 5, 21, 24] [(2, pt p3 0), (3, pt p7 0), (5, .int .i64 3), (21, .int .u64 (wd x 3 : Int)), (24, .int .u64 (wd y 3 : Int))] (by kernel_rfl) (by kernel_rfl) rfl ?_
    refine GQ.run (j := 8) 2 [2, 3, 5, 18] [(2, pt p3 0), (3, pt p7 0), (5, .int .i64 3), (18, .bool (decide ((wd y 3 : Int) < (wd x 3 : Int))))] (by kernel_rfl) rfl ?_
    refine GQ.k rfl hK27 (fun _ _ h => h) (fun w28 H29 => ?_)
    cases hb30 : (decide ((wd y 3 : Int) < (wd x 3 : Int)))
    · skip
      have hb30f := of_decide_eq_false hb30
      refine G.no rfl ?_
      refine G.skipK hK20 (fun _ _ h => h) ?_
      refine G.region ?_
      refine GL.run (j := 3) 3 [2, 3, 5] [(2, pt p3 0), (3, pt p7 0), (5, .int .i64 2)] (by kernel_rfl) rfl ?_
      refine GL.round rfl ?_
      refine G.seqK fun K31 hK32 => ?_
      refine G.seqK fun K33 hK34 => ?_
      refine G.region ?_
      refine GL.run (j := 2) 2 [2, 3, 5, 7] [(2, pt p3 0), (3, pt p7 0), (5, .int .i64 2), (7, .bool true)] (by kernel_rfl) rfl ?_
      refine GL.k rfl hK34 (fun _ _ h => h) ?_
      refine G.yes rfl ?_
      refine G.skipK hK32 (fun _ _ h => h) ?_
      refine G.seqK fun K35 hK36 => ?_
      refine G.block ?_
      refine G.block ?_
      refine G.seqK fun K37 hK38 => ?_
      refine G.draw H29 (by kernel_rfl) (by kernel_rfl) ?_
      refine GQ.run (j := 2) 2 [2, 3, 5, 12] [(2, pt p3 0), (3, pt p7 0), (5, .int .i64 2), (12, pt p3 2)] (by kernel_rfl) rfl ?_
      refine GQ.sem (j := 3) (fun w_ H_ => H_.ld (o := 2) (ty := 22) (v := .int .u64 (wd x 2 : Int)) 0 rfl (by kernel_rfl) rfl) [2, 3, 5, 13] [(2, pt p3 0), (3, pt p7 0), (5, .int .i64 2), (13, .int .u64 (wd x 2 : Int))] (by kernel_rfl) (by kernel_rfl) rfl ?_
      refine GQ.run (j := 5) 2 [2, 3, 5, 13, 15] [(2, pt p3 0), (3, pt p7 0), (5, .int .i64 2), (13, .int .u64 (wd x 2 : Int)), (15, pt p7 2)] (by kernel_rfl) rfl ?_
      refine GQ.sem (j := 6) (fun w_ H_ => H_.ld (o := 2) (ty := 22) (v := .int .u64 (wd y 2 : Int)) 1 rfl (by kernel_rfl) rfl) [2, 3, 5, 13, 16] [(2, pt p3 0), (3, pt p7 0), (5, .int .i64 2), (13, .int .u64 (wd x 2 : Int)), (16, .int .u64 (wd y 2 : Int))] (by kernel_rfl) (by kernel_rfl) rfl ?_
      refine GQ.run (j := 8) 2 [2, 3, 5, 10] [(2, pt p3 0), (3, pt p7 0), (5, .int .i64 2), (10, .bool (decide ((wd x 2 : Int) < (wd y 2 : Int))))] (by kernel_rfl) rfl ?_
      refine GQ.k rfl hK38 (fun _ _ h => h) (fun w39 H40 => ?_)
      cases hb41 : (decide ((wd x 2 : Int) < (wd y 2 : Int)))
      · skip
        have hb41f := of_decide_eq_false hb41
        refine G.no rfl ?_
        refine G.seqK fun K42 hK43 => ?_
        refine G.draw H40 (by kernel_rfl) (by kernel_rfl) ?_
        refine GQ.run (j := 2) 2 [2, 3, 5, 20] [(2, pt p3 0), (3, pt p7 0), (5, .int .i64 2), (20, pt p3 2)] (by kernel_rfl) rfl ?_
        refine GQ.sem (j := 3) (fun w_ H_ => H_.ld (o := 2) (ty := 22) (v := .int .u64 (wd x 2 : Int)) 0 rfl (by kernel_rfl) rfl) [2, 3, 5, 21] [(2, pt p3 0), (3, pt p7 0), (5, .int .i64 2), (21, .int .u64 (wd x 2 : Int))] (by kernel_rfl) (by kernel_rfl) rfl ?_
        refine GQ.run (j := 5) 2 [2, 3, 5, 21, 23] [(2, pt p3 0), (3, pt p7 0), (5, .int .i64 2), (21, .int .u64 (wd x 2 : Int)), (23, pt p7 2)] (by kernel_rfl) rfl ?_
        refine GQ.sem (j := 6) (fun w_ H_ => H_.ld (o := 2) (ty := 22) (v := .int .u64 (wd y 2 : Int)) 1 rfl (by kernel_rfl) rfl) [2, 3, 5, 21, 24] [(2, pt p3 0), (3, pt p7 0), (5, .int .i64 2), (21, .int .u64 (wd x 2 : Int)), (24, .int .u64 (wd y 2 : Int))] (by kernel_rfl) (by kernel_rfl) rfl ?_
        refine GQ.run (j := 8) 2 [2, 3, 5, 18] [(2, pt p3 0), (3, pt p7 0), (5, .int .i64 2), (18, .bool (decide ((wd y 2 : Int) < (wd x 2 : Int))))] (by kernel_rfl) rfl ?_
        refine GQ.k rfl hK43 (fun _ _ h => h) (fun w44 H45 => ?_)
        cases hb46 : (decide ((wd y 2 : Int) < (wd x 2 : Int)))
        · skip
          have hb46f := of_decide_eq_false hb46
          refine G.no rfl ?_
          refine G.skipK hK36 (fun _ _ h => h) ?_
          refine G.region ?_
          refine GL.run (j := 3) 3 [2, 3, 5] [(2, pt p3 0), (3, pt p7 0), (5, .int .i64 1)] (by kernel_rfl) rfl ?_
          refine GL.round rfl ?_
          refine G.seqK fun K47 hK48 => ?_
          refine G.seqK fun K49 hK50 => ?_
          refine G.region ?_
          refine GL.run (j := 2) 2 [2, 3, 5, 7] [(2, pt p3 0), (3, pt p7 0), (5, .int .i64 1), (7, .bool true)] (by kernel_rfl) rfl ?_
          refine GL.k rfl hK50 (fun _ _ h => h) ?_
          refine G.yes rfl ?_
          refine G.skipK hK48 (fun _ _ h => h) ?_
          refine G.seqK fun K51 hK52 => ?_
          refine G.block ?_
          refine G.block ?_
          refine G.seqK fun K53 hK54 => ?_
          refine G.draw H45 (by kernel_rfl) (by kernel_rfl) ?_
          refine GQ.run (j := 2) 2 [2, 3, 5, 12] [(2, pt p3 0), (3, pt p7 0), (5, .int .i64 1), (12, pt p3 1)] (by kernel_rfl) rfl ?_
          refine GQ.sem (j := 3) (fun w_ H_ => H_.ld (o := 1) (ty := 22) (v := .int .u64 (wd x 1 : Int)) 0 rfl (by kernel_rfl) rfl) [2, 3, 5, 13] [(2, pt p3 0), (3, pt p7 0), (5, .int .i64 1), (13, .int .u64 (wd x 1 : Int))] (by kernel_rfl) (by kernel_rfl) rfl ?_
          refine GQ.run (j := 5) 2 [2, 3, 5, 13, 15] [(2, pt p3 0), (3, pt p7 0), (5, .int .i64 1), (13, .int .u64 (wd x 1 : Int)), (15, pt p7 1)] (by kernel_rfl) rfl ?_
          refine GQ.sem (j := 6) (fun w_ H_ => H_.ld (o := 1) (ty := 22) (v := .int .u64 (wd y 1 : Int)) 1 rfl (by kernel_rfl) rfl) [2, 3, 5, 13, 16] [(2, pt p3 0), (3, pt p7 0), (5, .int .i64 1), (13, .int .u64 (wd x 1 : Int)), (16, .int .u64 (wd y 1 : Int))] (by kernel_rfl) (by kernel_rfl) rfl ?_
          refine GQ.run (j := 8) 2 [2, 3, 5, 10] [(2, pt p3 0), (3, pt p7 0), (5, .int .i64 1), (10, .bool (decide ((wd x 1 : Int) < (wd y 1 : Int))))] (by kernel_rfl) rfl ?_
          refine GQ.k rfl hK54 (fun _ _ h => h) (fun w55 H56 => ?_)
          cases hb57 : (decide ((wd x 1 : Int) < (wd y 1 : Int)))
          · skip
            have hb57f := of_decide_eq_false hb57
            refine G.no rfl ?_
            refine G.seqK fun K58 hK59 => ?_
            refine G.draw H56 (by kernel_rfl) (by kernel_rfl) ?_
            refine GQ.run (j := 2) 2 [2, 3, 5, 20] [(2, pt p3 0), (3, pt p7 0), (5, .int .i64 1), (20, pt p3 1)] (by kernel_rfl) rfl ?_
            refine GQ.sem (j := 3) (fun w_ H_ => H_.ld (o := 1) (ty := 22) (v := .int .u64 (wd x 1 : Int)) 0 rfl (by kernel_rfl) rfl) [2, 3, 5, 21] [(2, pt p3 0), (3, pt p7 0), (5, .int .i64 1), (21, .int .u64 (wd x 1 : Int))] (by kernel_rfl) (by kernel_rfl) rfl ?_
            refine GQ.run (j := 5) 2 [2, 3, 5, 21, 23] [(2, pt p3 0), (3, pt p7 0), (5, .int .i64 1), (21, .int .u64 (wd x 1 : Int)), (23, pt p7 1)] (by kernel_rfl) rfl ?_
            refine GQ.sem (j := 6) (fun w_ H_ => H_.ld (o := 1) (ty := 22) (v := .int .u64 (wd y 1 : Int)) 1 rfl (by kernel_rfl) rfl) [2, 3, 5, 21, 24] [(2, pt p3 0), (3, pt p7 0), (5, .int .i64 1), (21, .int .u64 (wd x 1 : Int)), (24, .int .u64 (wd y 1 : Int))] (by kernel_rfl) (by kernel_rfl) rfl ?_
            refine GQ.run (j := 8) 2 [2, 3, 5, 18] [(2, pt p3 0), (3, pt p7 0), (5, .int .i64 1), (18, .bool (decide ((wd y 1 : Int) < (wd x 1 : Int))))] (by kernel_rfl) rfl ?_
            refine GQ.k rfl hK59 (fun _ _ h => h) (fun w60 H61 => ?_)
            cases hb62 : (decide ((wd y 1 : Int) < (wd x 1 : Int)))
            · skip
              have hb62f := of_decide_eq_false hb62
              refine G.no rfl ?_
              refine G.skipK hK52 (fun _ _ h => h) ?_
              refine G.region ?_
              refine GL.run (j := 3) 3 [2, 3, 5] [(2, pt p3 0), (3, pt p7 0), (5, .int .i64 0)] (by kernel_rfl) rfl ?_
              refine GL.round rfl ?_
              refine G.seqK fun K63 hK64 => ?_
              refine G.seqK fun K65 hK66 => ?_
              refine G.region ?_
              refine GL.run (j := 2) 2 [2, 3, 5, 7] [(2, pt p3 0), (3, pt p7 0), (5, .int .i64 0), (7, .bool true)] (by kernel_rfl) rfl ?_
              refine GL.k rfl hK66 (fun _ _ h => h) ?_
              refine G.yes rfl ?_
              refine G.skipK hK64 (fun _ _ h => h) ?_
              refine G.seqK fun K67 hK68 => ?_
              refine G.block ?_
              refine G.block ?_
              refine G.seqK fun K69 hK70 => ?_
              refine G.draw H61 (by kernel_rfl) (by kernel_rfl) ?_
              refine GQ.run (j := 2) 2 [2, 3, 5, 12] [(2, pt p3 0), (3, pt p7 0), (5, .int .i64 0), (12, pt p3 0)] (by kernel_rfl) rfl ?_
              refine GQ.sem (j := 3) (fun w_ H_ => H_.ld (o := 0) (ty := 22) (v := .int .u64 (wd x 0 : Int)) 0 rfl (by kernel_rfl) rfl) [2, 3, 5, 13] [(2, pt p3 0), (3, pt p7 0), (5, .int .i64 0), (13, .int .u64 (wd x 0 : Int))] (by kernel_rfl) (by kernel_rfl) rfl ?_
              refine GQ.run (j := 5) 2 [2, 3, 5, 13, 15] [(2, pt p3 0), (3, pt p7 0), (5, .int .i64 0), (13, .int .u64 (wd x 0 : Int)), (15, pt p7 0)] (by kernel_rfl) rfl ?_
              refine GQ.sem (j := 6) (fun w_ H_ => H_.ld (o := 0) (ty := 22) (v := .int .u64 (wd y 0 : Int)) 1 rfl (by kernel_rfl) rfl) [2, 3, 5, 13, 16] [(2, pt p3 0), (3, pt p7 0), (5, .int .i64 0), (13, .int .u64 (wd x 0 : Int)), (16, .int .u64 (wd y 0 : Int))] (by kernel_rfl) (by kernel_rfl) rfl ?_
              refine GQ.run (j := 8) 2 [2, 3, 5, 10] [(2, pt p3 0), (3, pt p7 0), (5, .int .i64 0), (10, .bool (decide ((wd x 0 : Int) < (wd y 0 : Int))))] (by kernel_rfl) rfl ?_
              refine GQ.k rfl hK70 (fun _ _ h => h) (fun w71 H72 => ?_)
              cases hb73 : (decide ((wd x 0 : Int) < (wd y 0 : Int)))
              · skip
                have hb73f := of_decide_eq_false hb73
                refine G.no rfl ?_
                refine G.seqK fun K74 hK75 => ?_
                refine G.draw H72 (by kernel_rfl) (by kernel_rfl) ?_
                refine GQ.run (j := 2) 2 [2, 3, 5, 20] [(2, pt p3 0), (3, pt p7 0), (5, .int .i64 0), (20, pt p3 0)] (by kernel_rfl) rfl ?_
                refine GQ.sem (j := 3) (fun w_ H_ => H_.ld (o := 0) (ty := 22) (v := .int .u64 (wd x 0 : Int)) 0 rfl (by kernel_rfl) rfl) [2, 3, 5, 21] [(2, pt p3 0), (3, pt p7 0), (5, .int .i64 0), (21, .int .u64 (wd x 0 : Int))] (by kernel_rfl) (by kernel_rfl) rfl ?_
                refine GQ.run (j := 5) 2 [2, 3, 5, 21, 23] [(2, pt p3 0), (3, pt p7 0), (5, .int .i64 0), (21, .int .u64 (wd x 0 : Int)), (23, pt p7 0)] (by kernel_rfl) rfl ?_
                refine GQ.sem (j := 6) (fun w_ H_ => H_.ld (o := 0) (ty := 22) (v := .int .u64 (wd y 0 : Int)) 1 rfl (by kernel_rfl) rfl) [2, 3, 5, 21, 24] [(2, pt p3 0), (3, pt p7 0), (5, .int .i64 0), (21, .int .u64 (wd x 0 : Int)), (24, .int .u64 (wd y 0 : Int))] (by kernel_rfl) (by kernel_rfl) rfl ?_
                refine GQ.run (j := 8) 2 [2, 3, 5, 18] [(2, pt p3 0), (3, pt p7 0), (5, .int .i64 0), (18, .bool (decide ((wd y 0 : Int) < (wd x 0 : Int))))] (by kernel_rfl) rfl ?_
                refine GQ.k rfl hK75 (fun _ _ h => h) (fun w76 H77 => ?_)
                cases hb78 : (decide ((wd y 0 : Int) < (wd x 0 : Int)))
                · skip
                  have hb78f := of_decide_eq_false hb78
                  refine G.no rfl ?_
                  refine G.skipK hK68 (fun _ _ h => h) ?_
                  refine G.region ?_
                  refine GL.run (j := 3) 3 [2, 3, 5] [(2, pt p3 0), (3, pt p7 0), (5, .int .i64 (-1))] (by kernel_rfl) rfl ?_
                  refine GL.round rfl ?_
                  refine G.seqK fun K79 hK80 => ?_
                  refine G.seqK fun K81 hK82 => ?_
                  refine G.region ?_
                  refine GL.run (j := 2) 2 [2, 3, 5, 7] [(2, pt p3 0), (3, pt p7 0), (5, .int .i64 (-1)), (7, .bool false)] (by kernel_rfl) rfl ?_
                  refine GL.k rfl hK82 (fun _ _ h => h) ?_
                  refine G.no rfl ?_
                  refine G.exitK hK12 (fun _ _ h => h) ?_
                  refine G.seqK fun K83 hK84 => ?_
                  refine G.region ?_
                  refine GL.run (j := 1) 1 [4] [(4, .int .i64 0)] (by kernel_rfl) rfl ?_
                  refine GL.k rfl hK84 (fun _ _ h => h) ?_
                  refine G.ret ?_
                  intro F_ hF_ hM_
                  refine hRet _ _ (bodyPost_1 rfl (RV.tmp rfl) ?_ F_ hF_ hM_)
                  have e0 : (0 : Int) = cmpN x y := by
                    refine cmp_eq ?_
                    have sx := wd_sum x hx
                    have sy := wd_sum y hy
                    have bx0 := wd_lt x 0
                    have bx1 := wd_lt x 1
                    have bx2 := wd_lt x 2
                    have bx3 := wd_lt x 3
                    have by0 := wd_lt y 0
                    have by1 := wd_lt y 1
                    have by2 := wd_lt y 2
                    have by3 := wd_lt y 3
                    generalize wd x 0 = x0 at *
                    generalize wd x 1 = x1 at *
                    generalize wd x 2 = x2 at *
                    generalize wd x 3 = x3 at *
                    generalize wd y 0 = y0 at *
                    generalize wd y 1 = y1 at *
                    generalize wd y 2 = y2 at *
                    generalize wd y 3 = y3 at *
                    simp only [K, K4] at *
                    omega
                  rw [e0]
                  exact ⟨rfl, H77.sub (List.nil_sublist _)⟩
                · skip
                  have hb78f := of_decide_eq_true hb78
                  refine G.yes rfl ?_
                  refine G.seqK fun K85 hK86 => ?_
                  refine G.region ?_
                  refine GL.run (j := 1) 1 [4] [(4, .int .i64 1)] (by kernel_rfl) rfl ?_
                  refine GL.k rfl hK86 (fun _ _ h => h) ?_
                  refine G.ret ?_
                  intro F_ hF_ hM_
                  refine hRet _ _ (bodyPost_1 rfl (RV.tmp rfl) ?_ F_ hF_ hM_)
                  have e0 : (1 : Int) = cmpN x y := by
                    refine cmp_gt ?_
                    have sx := wd_sum x hx
                    have sy := wd_sum y hy
                    have bx0 := wd_lt x 0
                    have bx1 := wd_lt x 1
                    have bx2 := wd_lt x 2
                    have bx3 := wd_lt x 3
                    have by0 := wd_lt y 0
                    have by1 := wd_lt y 1
                    have by2 := wd_lt y 2
                    have by3 := wd_lt y 3
                    generalize wd x 0 = x0 at *
                    generalize wd x 1 = x1 at *
                    generalize wd x 2 = x2 at *
                    generalize wd x 3 = x3 at *
                    generalize wd y 0 = y0 at *
                    generalize wd y 1 = y1 at *
                    generalize wd y 2 = y2 at *
                    generalize wd y 3 = y3 at *
                    simp only [K, K4] at *
                    omega
                  rw [e0]
                  exact ⟨rfl, H77.sub (List.nil_sublist _)⟩
              · skip
                have hb73f := of_decide_eq_true hb73
                refine G.yes rfl ?_
                refine G.seqK fun K87 hK88 => ?_
                refine G.region ?_
                refine GL.run (j := 1) 1 [4] [(4, .int .i64 (-1))] (by kernel_rfl) rfl ?_
                refine GL.k rfl hK88 (fun _ _ h => h) ?_
                refine G.ret ?_
                intro F_ hF_ hM_
                refine hRet _ _ (bodyPost_1 rfl (RV.tmp rfl) ?_ F_ hF_ hM_)
                have e0 : ((-1) : Int) = cmpN x y := by
                  refine cmp_lt ?_
                  have sx := wd_sum x hx
                  have sy := wd_sum y hy
                  have bx0 := wd_lt x 0
                  have bx1 := wd_lt x 1
                  have bx2 := wd_lt x 2
                  have bx3 := wd_lt x 3
                  have by0 := wd_lt y 0
                  have by1 := wd_lt y 1
                  have by2 := wd_lt y 2
                  have by3 := wd_lt y 3
                  generalize wd x 0 = x0 at *
                  generalize wd x 1 = x1 at *
                  generalize wd x 2 = x2 at *
                  generalize wd x 3 = x3 at *
                  generalize wd y 0 = y0 at *
                  generalize wd y 1 = y1 at *
                  generalize wd y 2 = y2 at *
                  generalize wd y 3 = y3 at *
                  simp only [K, K4] at *
                  omega
                rw [e0]
                exact ⟨rfl, H72.sub (List.nil_sublist _)⟩
            · skip
              have hb62f := of_decide_eq_true hb62
              refine G.yes rfl ?_
              refine G.seqK fun K89 hK90 => ?_
              refine G.region ?_
              refine GL.run (j := 1) 1 [4] [(4, .int .i64 1)] (by kernel_rfl) rfl ?_
              refine GL.k rfl hK90 (fun _ _ h => h) ?_
              refine G.ret ?_
              intro F_ hF_ hM_
              refine hRet _ _ (bodyPost_1 rfl (RV.tmp rfl) ?_ F_ hF_ hM_)
              have e0 : (1 : Int) = cmpN x y := by
                refine cmp_gt ?_
                have sx := wd_sum x hx
                have sy := wd_sum y hy
                have bx0 := wd_lt x 0
                have bx1 := wd_lt x 1
                have bx2 := wd_lt x 2
                have bx3 := wd_lt x 3
                have by0 := wd_lt y 0
                have by1 := wd_lt y 1
                have by2 := wd_lt y 2
                have by3 := wd_lt y 3
                generalize wd x 0 = x0 at *
                generalize wd x 1 = x1 at *
                generalize wd x 2 = x2 at *
                generalize wd x 3 = x3 at *
                generalize wd y 0 = y0 at *
                generalize wd y 1 = y1 at *
                generalize wd y 2 = y2 at *
                generalize wd y 3 = y3 at *
                simp only [K, K4] at *
                omega
              rw [e0]
              exact ⟨rfl, H61.sub (List.nil_sublist _)⟩
          · skip
            have hb57f := of_decide_eq_true hb57
            refine G.yes rfl ?_
            refine G.seqK fun K91 hK92 => ?_
            refine G.region ?_
            refine GL.run (j := 1) 1 [4] [(4, .int .i64 (-1))] (by kernel_rfl) rfl ?_
            refine GL.k rfl hK92 (fun _ _ h => h) ?_
            refine G.ret ?_
            intro F_ hF_ hM_
            refine hRet _ _ (bodyPost_1 rfl (RV.tmp rfl) ?_ F_ hF_ hM_)
            have e0 : ((-1) : Int) = cmpN x y := by
              refine cmp_lt ?_
              have sx := wd_sum x hx
              have sy := wd_sum y hy
              have bx0 := wd_lt x 0
              have bx1 := wd_lt x 1
              have bx2 := wd_lt x 2
              have bx3 := wd_lt x 3
              have by0 := wd_lt y 0
              have by1 := wd_lt y 1
              have by2 := wd_lt y 2
              have by3 := wd_lt y 3
              generalize wd x 0 = x0 at *
              generalize wd x 1 = x1 at *
              generalize wd x 2 = x2 at *
              generalize wd x 3 = x3 at *
              generalize wd y 0 = y0 at *
              generalize wd y 1 = y1 at *
              generalize wd y 2 = y2 at *
              generalize wd y 3 = y3 at *
              simp only [K, K4] at *
              omega
            rw [e0]
            exact ⟨rfl, H56.sub (List.nil_sublist _)⟩
        · skip
          have hb46f := of_decide_eq_true hb46
          refine G.yes rfl ?_
          refine G.seqK fun K93 hK94 => ?_
          refine G.region ?_
          refine GL.run (j := 1) 1 [4] [(4, .int .i64 1)] (by kernel_rfl) rfl ?_
          refine GL.k rfl hK94 (fun _ _ h => h) ?_
          refine G.ret ?_
          intro F_ hF_ hM_
          refine hRet _ _ (bodyPost_1 rfl (RV.tmp rfl) ?_ F_ hF_ hM_)
          have e0 : (1 : Int) = cmpN x y := by
            refine cmp_gt ?_
            have sx := wd_sum x hx
            have sy := wd_sum y hy
            have bx0 := wd_lt x 0
            have bx1 := wd_lt x 1
            have bx2 := wd_lt x 2
            have bx3 := wd_lt x 3
            have by0 := wd_lt y 0
            have by1 := wd_lt y 1
            have by2 := wd_lt y 2
            have by3 := wd_lt y 3
            generalize wd x 0 = x0 at *
            generalize wd x 1 = x1 at *
            generalize wd x 2 = x2 at *
            generalize wd x 3 = x3 at *
            generalize wd y 0 = y0 at *
            generalize wd y 1 = y1 at *
            generalize wd y 2 = y2 at *
            generalize wd y 3 = y3 at *
            simp only [K, K4] at *
            omega
          rw [e0]
          exact ⟨rfl, H45.sub (List.nil_sublist _)⟩
      · skip
        have hb41f := of_decide_eq_true hb41
        refine G.yes rfl ?_
        refine G.seqK fun K95 hK96 => ?_
        refine G.region ?_
        refine GL.run (j := 1) 1 [4] [(4, .int .i64 (-1))] (by kernel_rfl) rfl ?_
        refine GL.k rfl hK96 (fun _ _ h => h) ?_
        refine G.ret ?_
        intro F_ hF_ hM_
        refine hRet _ _ (bodyPost_1 rfl (RV.tmp rfl) ?_ F_ hF_ hM_)
        have e0 : ((-1) : Int) = cmpN x y := by
          refine cmp_lt ?_
          have sx := wd_sum x hx
          have sy := wd_sum y hy
          have bx0 := wd_lt x 0
          have bx1 := wd_lt x 1
          have bx2 := wd_lt x 2
          have bx3 := wd_lt x 3
          have by0 := wd_lt y 0
          have by1 := wd_lt y 1
          have by2 := wd_lt y 2
          have by3 := wd_lt y 3
          generalize wd x 0 = x0 at *
          generalize wd x 1 = x1 at *
          generalize wd x 2 = x2 at *
          generalize wd x 3 = x3 at *
          generalize wd y 0 = y0 at *
          generalize wd y 1 = y1 at *
          generalize wd y 2 = y2 at *
          generalize wd y 3 = y3 at *
          simp only [K, K4] at *
          omega
        rw [e0]
        exact ⟨rfl, H40.sub (List.nil_sublist _)⟩
    · skip
      have hb30f := of_decide_eq_true hb30
      refine G.yes rfl ?_
      refine G.seqK fun K97 hK98 => ?_
      refine G.region ?_
      refine GL.run (j := 1) 1 [4] [(4, .int .i64 1)] (by kernel_rfl) rfl ?_
      refine GL.k rfl hK98 (fun _ _ h => h) ?_
      refine G.ret ?_
      intro F_ hF_ hM_
      refine hRet _ _ (bodyPost_1 rfl (RV.tmp rfl) ?_ F_ hF_ hM_)
      have e0 : (1 : Int) = cmpN x y := by
        refine cmp_gt ?_
        have sx := wd_sum x hx
        have sy := wd_sum y hy
        have bx0 := wd_lt x 0
        have bx1 := wd_lt x 1
        have bx2 := wd_lt x 2
        have bx3 := wd_lt x 3
        have by0 := wd_lt y 0
        have by1 := wd_lt y 1
        have by2 := wd_lt y 2
        have by3 := wd_lt y 3
        generalize wd x 0 = x0 at *
        generalize wd x 1 = x1 at *
        generalize wd x 2 = x2 at *
        generalize wd x 3 = x3 at *
        generalize wd y 0 = y0 at *
        generalize wd y 1 = y1 at *
        generalize wd y 2 = y2 at *
        generalize wd y 3 = y3 at *
        simp only [K, K4] at *
        omega
      rw [e0]
      exact ⟨rfl, H29.sub (List.nil_sublist _)⟩
  · skip
    have hb25f := of_decide_eq_true hb25
    refine G.yes rfl ?_
    refine G.seqK fun K99 hK100 => ?_
    refine G.region ?_
    refine GL.run (j := 1) 1 [4] [(4, .int .i64 (-1))] (by kernel_rfl) rfl ?_
    refine GL.k rfl hK100 (fun _ _ h => h) ?_
    refine G.ret ?_
    intro F_ hF_ hM_
    refine hRet _ _ (bodyPost_1 rfl (RV.tmp rfl) ?_ F_ hF_ hM_)
    have e0 : ((-1) : Int) = cmpN x y := by
      refine cmp_lt ?_
      have sx := wd_sum x hx
      have sy := wd_sum y hy
      have bx0 := wd_lt x 0
      have bx1 := wd_lt x 1
      have bx2 := wd_lt x 2
      have bx3 := wd_lt x 3
      have by0 := wd_lt y 0
      have by1 := wd_lt y 1
      have by2 := wd_lt y 2
      have by3 := wd_lt y 3
      generalize wd x 0 = x0 at *
      generalize wd x 1 = x1 at *
      generalize wd x 2 = x2 at *
      generalize wd x 3 = x3 at *
      generalize wd y 0 = y0 at *
      generalize wd y 1 = y1 at *
      generalize wd y 2 = y2 at *
      generalize wd y 3 = y3 at *
      simp only [K, K4] at *
      omega
    rw [e0]
    exact ⟨rfl, H24.sub (List.nil_sublist _)⟩
theorem Of_calls (x : Nat) (hx : x < K) (w : World) : Calls Tryd.prog 19 #[.int .u64 (x : Int)] w fun e w' => e = .returned (wv x) ∧ Hp w [] [] w' := by
  refine calls_G (args := [.int .u64 (x : Int)]) Tryd.func19 rfl Tryd.ntmps19 rfl ?_
  intro Q0 hRet hNor hPan
  have H := Hp.start w
  have H : Hp w [] [] w := H
  refine G.seqK fun K1 hK2 => ?_
  refine G.region ?_
  obtain ⟨p3, w4, r5, H6⟩ := H.alloc (P := Tryd.prog) 45 [.int .u64 0, .int .u64 0, .int .u64 0, .int .u64 0] (by kernel_rfl)
  have H6 : Hp w [] [.blk p3 [.int .u64 0, .int .u64 0, .int .u64 0, .int .u64 0] 45] w4 := H6
  refine GL.sem (j := 1) (r5) [0, 2] [(0, .int .u64 (x : Int)), (2, pt p3 0)] (by kernel_rfl) (by kernel_rfl) rfl ?_
  refine GL.k rfl hK2 (fun _ _ h => h) ?_
  refine G.seqK fun K7 hK8 => ?_
  refine G.region ?_
  refine GL.run (j := 2) 2 [2, 4] [(2, pt p3 0), (4, .agg #[.int .u64 (x : Int), .int .u64 0, .int .u64 0, .int .u64 0])] (by kernel_rfl) rfl ?_
  obtain ⟨w9, r10, H11⟩ := H6.stA (P := Tryd.prog) (o := 0) (vs := [.int .u64 (x : Int), .int .u64 0, .int .u64 0, .int .u64 0]) (ty := 45) (m := 4) 0 rfl (by kernel_rfl) rfl (by simp) (by simp [Value.oneCell'])
  have H11 : Hp w [] [.blk p3 [.int .u64 (x : Int), .int .u64 0, .int .u64 0, .int .u64 0] 45] w9 := H11
  refine GL.semU (j := 3) r10 [2] [(2, pt p3 0)] (by kernel_rfl) rfl rfl rfl ?_
  refine GL.k rfl hK8 (fun _ _ h => h) ?_
  refine G.ret ?_
  intro F_ hF_ hM_
  refine hRet _ _ (bodyPost_1 rfl (RV.cell rfl (H11.ldA (o := 0) (ty := 45) (m := 4) (sub := [.int .u64 (x : Int), .int .u64 0, .int .u64 0, .int .u64 0]) 0 rfl (by kernel_rfl) rfl rfl)) ?_ F_ hF_ hM_)
  rw [← of_fin hx]
  exact ⟨rfl, H11.sub (List.nil_sublist _)⟩
end Go.Proofs.YtgbhiklengafiaaDoor
set_option maxRecDepth 100000
namespace Go.Proofs.YtgbhiklengafiaaDoor
open Go.RowKit
theorem Len64_calls (x : Nat) (hx : x < K) (w : World) : Calls Tryd.prog 41 #[.int .u64 (x : Int)] w fun e w' => e = .returned (.int .i64 ((bl x : Nat) : Int)) ∧ Hp w [] [] w' := by
  have hx0 : x < 18446744073709551616 := hx
  refine calls_G (args := [.int .u64 (x : Int)]) Tryd.func41 rfl Tryd.ntmps41 rfl ?_
  intro Q0 hRet hNor hPan
  have H := Hp.start w
  have H : Hp w [] [] w := H
  refine G.seqK fun K1 hK2 => ?_
  refine G.region ?_
  refine GL.run (j := 1) 1 [0, 2] [(0, .int .u64 (x : Int)), (2, .int .i64 0)] (by kernel_rfl) rfl ?_
  refine GL.k rfl hK2 (fun _ _ h => h) ?_
  refine G.seqK fun K3 hK4 => ?_
  refine G.seqK fun K5 hK6 => ?_
  refine G.region ?_
  refine GL.run (j := 2) 2 [0, 2, 4] [(0, .int .u64 (x : Int)), (2, .int .i64 0), (4, .bool (decide (4294967296 ≤ (x : Int))))] (by kernel_rfl) rfl ?_
  refine GL.k rfl hK6 (fun _ _ h => h) ?_
  cases hb7 : (decide (4294967296 ≤ (x : Int)))
  · skip
    have hb7f := of_decide_eq_false hb7
    refine G.no rfl ?_
    refine G.skipK hK4 (fun _ _ h => h) ?_
    refine G.seqK fun K8 hK9 => ?_
    refine G.seqK fun K10 hK11 => ?_
    refine G.region ?_
    refine GL.run (j := 2) 2 [0, 2, 8] [(0, .int .u64 (x : Int)), (2, .int .i64 0), (8, .bool (decide (65536 ≤ (x : Int))))] (by kernel_rfl) rfl ?_
    refine GL.k rfl hK11 (fun _ _ h => h) ?_
    cases hb12 : (decide (65536 ≤ (x : Int)))
    · skip
      have hb12f := of_decide_eq_false hb12
      refine G.no rfl ?_
      refine G.skipK hK9 (fun _ _ h => h) ?_
      refine G.seqK fun K13 hK14 => ?_
      refine G.seqK fun K15 hK16 => ?_
      refine G.region ?_
      refine GL.run (j := 2) 2 [0, 2, 14] [(0, .int .u64 (x : Int)), (2, .int .i64 0), (14, .bool (decide (256 ≤ (x : Int))))] (by kernel_rfl) rfl ?_
      refine GL.k rfl hK16 (fun _ _ h => h) ?_
      cases hb17 : (decide (256 ≤ (x : Int)))
      · skip
        have hb17f := of_decide_eq_false hb17
        refine G.no rfl ?_
        refine G.skipK hK14 (fun _ _ h => h) ?_
        refine G.seqK fun K18 hK19 => ?_
        refine G.region ?_
        refine GL.run (j := 3) 3 [19, 21] [(19, .int .i64 0), (21, .int .u8 (IntKind.u8.wrap (x : Int)))] (by kernel_rfl) rfl ?_
        have e20 : (IntKind.u8.wrap (x : Int)) = (x : Int) := in_u8 (by omega)
        refine GL.eq (M' := [(19, .int .i64 0), (21, .int .u8 (x : Int))]) (by rw [e20]) ?_
        clear e20
        refine GL.sem (j := 4) (run_strIdx (P := Tryd.prog) (k := .u8) (t := 9) (s := tab8) (by kernel_rfl) (tab8_bl x (by omega)) _) [19, 22] [(19, .int .i64 0), (22, .int .u8 ((UInt8.ofNat (bl x)).toNat : Int))] (by kernel_rfl) (by kernel_rfl) rfl ?_
        have e21 : ((UInt8.ofNat (bl x)).toNat : Int) = ((bl x : Nat) : Int) := by rw [bl_w (by omega)]
        refine GL.eq (M' := [(19, .int .i64 0), (22, .int .u8 ((bl x : Nat) : Int))]) (by rw [e21]) ?_
        have e21b := bl_le (k := 8) (show x < 2 ^ 8 by omega)
        refine GL.run (j := 7) 3 [2] [(2, .int .i64 (IntKind.i64.wrap (0 + (IntKind.i64.wrap ((bl x : Nat) : Int)))))] (by kernel_rfl) rfl ?_
        have e22 : (IntKind.i64.wrap ((bl x : Nat) : Int)) = ((bl x : Nat) : Int) := in_i64 (by omega)
        have e23 : (IntKind.i64.wrap (0 + ((bl x : Nat) : Int))) = ((0 + (bl x) : Nat) : Int) := by rw [in_i64 (by omega)]; omega
        refine GL.eq (M' := [(2, .int .i64 ((0 + (bl x) : Nat) : Int))]) (by rw [e22, e23]) ?_
        clear e22 e23
        refine GL.k rfl hK19 (fun _ _ h => h) ?_
        refine G.ret ?_
        intro F_ hF_ hM_
        refine hRet _ _ (bodyPost_1 rfl (RV.tmp rfl) ?_ F_ hF_ hM_)
        have e0 : (((0 + (bl x) : Nat) : Int) : Int) = ((bl x : Nat) : Int) := by
          first | done | omega
        rw [e0]
        exact ⟨rfl, H.sub (List.nil_sublist _)⟩
      · skip
        have hb17f := of_decide_eq_true hb17
        refine G.yes rfl ?_
        refine G.seqK fun K24 hK25 => ?_
        refine G.region ?_
        refine GL.run (j := 3) 3 [0, 2] [(0, .int .u64 (Int.fdiv (x : Int) (2 ^ 8))), (2, .int .i64 0)] (by kernel_rfl) rfl ?_
        have e26 : (Int.fdiv (x : Int) (2 ^ 8)) = ((x / 256 : Nat) : Int) := n_shr _ 8
        refine GL.eq (M' := [(0, .int .u64 ((x / 256 : Nat) : Int)), (2, .int .i64 0)]) (by rw [e26]) ?_
        clear e26
        refine GL.k rfl hK25 (fun _ _ h => h) ?_
        refine G.region ?_
        refine GL.run (j := 3) 3 [0, 2] [(0, .int .u64 ((x / 256 : Nat) : Int)), (2, .int .i64 8)] (by kernel_rfl) rfl ?_
        refine GL.k rfl hK14 (fun _ _ h => h) ?_
        refine G.seqK fun K27 hK28 => ?_
        refine G.region ?_
        refine GL.run (j := 3) 3 [19, 21] [(19, .int .i64 8), (21, .int .u8 (IntKind.u8.wrap ((x / 256 : Nat) : Int)))] (by kernel_rfl) rfl ?_
        have e29 : (IntKind.u8.wrap ((x / 256 : Nat) : Int)) = ((x / 256 : Nat) : Int) := in_u8 (by omega)
        refine GL.eq (M' := [(19, .int .i64 8), (21, .int .u8 ((x / 256 : Nat) : Int))]) (by rw [e29]) ?_
        clear e29
        refine GL.sem (j := 4) (run_strIdx (P := Tryd.prog) (k := .u8) (t := 9) (s := tab8) (by kernel_rfl) (tab8_bl (x / 256) (by omega)) _) [19, 22] [(19, .int .i64 8), (22, .int .u8 ((UInt8.ofNat (bl (x / 256))).toNat : Int))] (by kernel_rfl) (by kernel_rfl) rfl ?_
        have e30 : ((UInt8.ofNat (bl (x / 256))).toNat : Int) = ((bl (x / 256) : Nat) : Int) := by rw [bl_w (by omega)]
        refine GL.eq (M' := [(19, .int .i64 8), (22, .int .u8 ((bl (x / 256) : Nat) : Int))]) (by rw [e30]) ?_
        have e30b := bl_le (k := 8) (show x / 256 < 2 ^ 8 by omega)
        refine GL.run (j := 7) 3 [2] [(2, .int .i64 (IntKind.i64.wrap (8 + (IntKind.i64.wrap ((bl (x / 256) : Nat) : Int)))))] (by kernel_rfl) rfl ?_
        have e31 : (IntKind.i64.wrap ((bl (x / 256) : Nat) : Int)) = ((bl (x / 256) : Nat) : Int) := in_i64 (by omega)
        have e32 : (IntKind.i64.wrap (8 + ((bl (x / 256) : Nat) : Int))) = ((8 + (bl (x / 256)) : Nat) : Int) := by rw [in_i64 (by omega)]; omega
        refine GL.eq (M' := [(2, .int .i64 ((8 + (bl (x / 256)) : Nat) : Int))]) (by rw [e31, e32]) ?_
        clear e31 e32
        refine GL.k rfl hK28 (fun _ _ h => h) ?_
        refine G.ret ?_
        intro F_ hF_ hM_
        refine hRet _ _ (bodyPost_1 rfl (RV.tmp rfl) ?_ F_ hF_ hM_)
        have e0 : (((8 + (bl (x / 256)) : Nat) : Int) : Int) = ((bl x : Nat) : Int) := by
          rw [bl_shr (x := x) 8 (by omega)]
          try simp only [show (2 : Nat) ^ 8 = 256 from rfl]
          first | done | omega
        rw [e0]
        exact ⟨rfl, H.sub (List.nil_sublist _)⟩
    · skip
      have hb12f := of_decide_eq_true hb12
      refine G.yes rfl ?_
      refine G.seqK fun K33 hK34 => ?_
      refine G.region ?_
      refine GL.run (j := 3) 3 [0, 2] [(0, .int .u64 (Int.fdiv (x : Int) (2 ^ 16))), (2, .int .i64 0)] (by kernel_rfl) rfl ?_
      have e35 : (Int.fdiv (x : Int) (2 ^ 16)) = ((x / 65536 : Nat) : Int) := n_shr _ 16
      refine GL.eq (M' := [(0, .int .u64 ((x / 65536 : Nat) : Int)), (2, .int .i64 0)]) (by rw [e35]) ?_
      clear e35
      refine GL.k rfl hK34 (fun _ _ h => h) ?_
      refine G.region ?_
      refine GL.run (j := 3) 3 [0, 2] [(0, .int .u64 ((x / 65536 : Nat) : Int)), (2, .int .i64 16)] (by kernel_rfl) rfl ?_
      refine GL.k rfl hK9 (fun _ _ h => h) ?_
      refine G.seqK fun K36 hK37 => ?_
      refine G.seqK fun K38 hK39 => ?_
      refine G.region ?_
      refine GL.run (j := 2) 2 [0, 2, 14] [(0, .int .u64 ((x / 65536 : Nat) : Int)), (2, .int .i64 16), (14, .bool (decide (256 ≤ ((x / 65536 : Nat) : Int))))] (by kernel_rfl) rfl ?_
      refine GL.k rfl hK39 (fun _ _ h => h) ?_
      cases hb40 : (decide (256 ≤ ((x / 65536 : Nat) : Int)))
      · skip
        have hb40f := of_decide_eq_false hb40
        refine G.no rfl ?_
        refine G.skipK hK37 (fun _ _ h => h) ?_
        refine G.seqK fun K41 hK42 => ?_
        refine G.region ?_
        refine GL.run (j := 3) 3 [19, 21] [(19, .int .i64 16), (21, .int .u8 (IntKind.u8.wrap ((x / 65536 : Nat) : Int)))] (by kernel_rfl) rfl ?_
        have e43 : (IntKind.u8.wrap ((x / 65536 : Nat) : Int)) = ((x / 65536 : Nat) : Int) := in_u8 (by omega)
        refine GL.eq (M' := [(19, .int .i64 16), (21, .int .u8 ((x / 65536 : Nat) : Int))]) (by rw [e43]) ?_
        clear e43
        refine GL.sem (j := 4) (run_strIdx (P := Tryd.prog) (k := .u8) (t := 9) (s := tab8) (by kernel_rfl) (tab8_bl (x / 65536) (by omega)) _) [19, 22] [(19, .int .i64 16), (22, .int .u8 ((UInt8.ofNat (bl (x / 65536))).toNat : Int))] (by kernel_rfl) (by kernel_rfl) rfl ?_
        have e44 : ((UInt8.ofNat (bl (x / 65536))).toNat : Int) = ((bl (x / 65536) : Nat) : Int) := by rw [bl_w (by omega)]
        refine GL.eq (M' := [(19, .int .i64 16), (22, .int .u8 ((bl (x / 65536) : Nat) : Int))]) (by rw [e44]) ?_
        have e44b := bl_le (k := 8) (show x / 65536 < 2 ^ 8 by omega)
        refine GL.run (j := 7) 3 [2] [(2, .int .i64 (IntKind.i64.wrap (16 + (IntKind.i64.wrap ((bl (x / 65536) : Nat) : Int)))))] (by kernel_rfl) rfl ?_
        have e45 : (IntKind.i64.wrap ((bl (x / 65536) : Nat) : Int)) = ((bl (x / 65536) : Nat) : Int) := in_i64 (by omega)
        have e46 : (IntKind.i64.wrap (16 + ((bl (x / 65536) : Nat) : Int))) = ((16 + (bl (x / 65536)) : Nat) : Int) := by rw [in_i64 (by omega)]; omega
        refine GL.eq (M' := [(2, .int .i64 ((16 + (bl (x / 65536)) : Nat) : Int))]) (by rw [e45, e46]) ?_
        clear e45 e46
        refine GL.k rfl hK42 (fun _ _ h => h) ?_
        refine G.ret ?_
        intro F_ hF_ hM_
        refine hRet _ _ (bodyPost_1 rfl (RV.tmp rfl) ?_ F_ hF_ hM_)
        have e0 : (((16 + (bl (x / 65536)) : Nat) : Int) : Int) = ((bl x : Nat) : Int) := by
          rw [bl_shr (x := x) 16 (by omega)]
          try simp only [show (2 : Nat) ^ 16 = 65536 from rfl]
          first | done | omega
        rw [e0]
        exact ⟨rfl, H.sub (List.nil_sublist _)⟩
      · skip
        have hb40f := of_decide_eq_true hb40
        refine G.yes rfl ?_
        refine G.seqK fun K47 hK48 => ?_
        refine G.region ?_
        refine GL.run (j := 3) 3 [0, 2] [(0, .int .u64 (Int.fdiv ((x / 65536 : Nat) : Int) (2 ^ 8))), (2, .int .i64 16)] (by kernel_rfl) rfl ?_
        have e49 : (Int.fdiv ((x / 65536 : Nat) : Int) (2 ^ 8)) = (((x / 65536) / 256 : Nat) : Int) := n_shr _ 8
        refine GL.eq (M' := [(0, .int .u64 (((x / 65536) / 256 : Nat) : Int)), (2, .int .i64 16)]) (by rw [e49]) ?_
        clear e49
        refine GL.k rfl hK48 (fun _ _ h => h) ?_
        refine G.region ?_
        refine GL.run (j := 3) 3 [0, 2] [(0, .int .u64 (((x / 65536) / 256 : Nat) : Int)), (2, .int .i64 24)] (by kernel_rfl) rfl ?_
        refine GL.k rfl hK37 (fun _ _ h => h) ?_
        refine G.seqK fun K50 hK51 => ?_
        refine G.region ?_
        refine GL.run (j := 3) 3 [19, 21] [(19, .int .i64 24), (21, .int .u8 (IntKind.u8.wrap (((x / 65536) / 256 : Nat) : Int)))] (by kernel_rfl) rfl ?_
        have e52 : (IntKind.u8.wrap (((x / 65536) / 256 : Nat) : Int)) = (((x / 65536) / 256 : Nat) : Int) := in_u8 (by omega)
        refine GL.eq (M' := [(19, .int .i64 24), (21, .int .u8 (((x / 65536) / 256 : Nat) : Int))]) (by rw [e52]) ?_
        clear e52
        refine GL.sem (j := 4) (run_strIdx (P := Tryd.prog) (k := .u8) (t := 9) (s := tab8) (by kernel_rfl) (tab8_bl ((x / 65536) / 256) (by omega)) _) [19, 22] [(19, .int .i64 24), (22, .int .u8 ((UInt8.ofNat (bl ((x / 65536) / 256))).toNat : Int))] (by kernel_rfl) (by kernel_rfl) rfl ?_
        have e53 : ((UInt8.ofNat (bl ((x / 65536) / 256))).toNat : Int) = ((bl ((x / 65536) / 256) : Nat) : Int) := by rw [bl_w (by omega)]
        refine GL.eq (M' := [(19, .int .i64 24), (22, .int .u8 ((bl ((x / 65536) / 256) : Nat) : Int))]) (by rw [e53]) ?_
        have e53b := bl_le (k := 8) (show (x / 65536) / 256 < 2 ^ 8 by omega)
        refine GL.run (j := 7) 3 [2] [(2, .int .i64 (IntKind.i64.wrap (24 + (IntKind.i64.wrap ((bl ((x / 65536) / 256) : Nat) : Int)))))] (by kernel_rfl) rfl ?_
        have e54 : (IntKind.i64.wrap ((bl ((x / 65536) / 256) : Nat) : Int)) = ((bl ((x / 65536) / 256) : Nat) : Int) := in_i64 (by omega)
        have e55 : (IntKind.i64.wrap (24 + ((bl ((x / 65536) / 256) : Nat) : Int))) = ((24 + (bl ((x / 65536) / 256)) : Nat) : Int) := by rw [in_i64 (by omega)]; omega
        refine GL.eq (M' := [(2, .int .i64 ((24 + (bl ((x / 65536) / 256)) : Nat) : Int))]) (by rw [e54, e55]) ?_
        clear e54 e55
        refine GL.k rfl hK51 (fun _ _ h => h) ?_
        refine G.ret ?_
        intro F_ hF_ hM_
        refine hRet _ _ (bodyPost_1 rfl (RV.tmp rfl) ?_ F_ hF_ hM_)
        have e0 : (((24 + (bl ((x / 65536) / 256)) : Nat) : Int) : Int) = ((bl x : Nat) : Int) := by
          rw [bl_shr (x := x) 16 (by omega)]
          try simp only [show (2 : Nat) ^ 16 = 65536 from rfl]
          rw [bl_shr (x := x / 65536) 8 (by omega)]
          try simp only [show (2 : Nat) ^ 8 = 256 from rfl]
          first | done | omega
        rw [e0]
        exact ⟨rfl, H.sub (List.nil_sublist _)⟩
  · skip
    have hb7f := of_decide_eq_true hb7
    refine G.yes rfl ?_
    refine G.seqK fun K56 hK57 => ?_
    refine G.region ?_
    refine GL.run (j := 3) 3 [0] [(0, .int .u64 (Int.fdiv (x : Int) (2 ^ 32)))] (by kernel_rfl) rfl ?_
    have e58 : (Int.fdiv (x : Int) (2 ^ 32)) = ((x / 4294967296 : Nat) : Int) := n_shr _ 32
    refine GL.eq (M' := [(0, .int .u64 ((x / 4294967296 : Nat) : Int))]) (by rw [e58]) ?_
    clear e58
    refine GL.k rfl hK57 (fun _ _ h => h) ?_
    refine G.region ?_
    refine GL.run (j := 1) 1 [0, 2] [(0, .int .u64 ((x / 4294967296 : Nat) : Int)), (2, .int .i64 32)] (by kernel_rfl) rfl ?_
    refine GL.k rfl hK4 (fun _ _ h => h) ?_
    refine G.seqK fun K59 hK60 => ?_
    refine G.seqK fun K61 hK62 => ?_
    refine G.region ?_
    refine GL.run (j := 2) 2 [0, 2, 8] [(0, .int .u64 ((x / 4294967296 : Nat) : Int)), (2, .int .i64 32), (8, .bool (decide (65536 ≤ ((x / 4294967296 : Nat) : Int))))] (by kernel_rfl) rfl ?_
    refine GL.k rfl hK62 (fun _ _ h => h) ?_
    cases hb63 : (decide (65536 ≤ ((x / 4294967296 : Nat) : Int)))
    · skip
      have hb63f := of_decide_eq_false hb63
      refine G.no rfl ?_
      refine G.skipK hK60 (fun _ _ h => h) ?_
      refine G.seqK fun K64 hK65 => ?_
      refine G.seqK fun K66 hK67 => ?_
      refine G.region ?_
      refine GL.run (j := 2) 2 [0, 2, 14] [(0, .int .u64 ((x / 4294967296 : Nat) : Int)), (2, .int .i64 32), (14, .bool (decide (256 ≤ ((x / 4294967296 : Nat) : Int))))] (by kernel_rfl) rfl ?_
      refine GL.k rfl hK67 (fun _ _ h => h) ?_
      cases hb68 : (decide (256 ≤ ((x / 4294967296 : Nat) : Int)))
      · skip
        have hb68f := of_decide_eq_false hb68
        refine G.no rfl ?_
        refine G.skipK hK65 (fun _ _ h => h) ?_
        refine G.seqK fun K69 hK70 => ?_
        refine G.region ?_
        refine GL.run (j := 3) 3 [19, 21] [(19, .int .i64 32), (21, .int .u8 (IntKind.u8.wrap ((x / 4294967296 : Nat) : Int)))] (by kernel_rfl) rfl ?_
        have e71 : (IntKind.u8.wrap ((x / 4294967296 : Nat) : Int)) = ((x / 4294967296 : Nat) : Int) := in_u8 (by omega)
        refine GL.eq (M' := [(19, .int .i64 32), (21, .int .u8 ((x / 4294967296 : Nat) : Int))]) (by rw [e71]) ?_
        clear e71
        refine GL.sem (j := 4) (run_strIdx (P := Tryd.prog) (k := .u8) (t := 9) (s := tab8) (by kernel_rfl) (tab8_bl (x / 4294967296) (by omega)) _) [19, 22] [(19, .int .i64 32), (22, .int .u8 ((UInt8.ofNat (bl (x / 4294967296))).toNat : Int))] (by kernel_rfl) (by kernel_rfl) rfl ?_
        have e72 : ((UInt8.ofNat (bl (x / 4294967296))).toNat : Int) = ((bl (x / 4294967296) : Nat) : Int) := by rw [bl_w (by omega)]
        refine GL.eq (M' := [(19, .int .i64 32), (22, .int .u8 ((bl (x / 4294967296) : Nat) : Int))]) (by rw [e72]) ?_
        have e72b := bl_le (k := 8) (show x / 4294967296 < 2 ^ 8 by omega)
        refine GL.run (j := 7) 3 [2] [(2, .int .i64 (IntKind.i64.wrap (32 + (IntKind.i64.wrap ((bl (x / 4294967296) : Nat) : Int)))))] (by kernel_rfl) rfl ?_
        have e73 : (IntKind.i64.wrap ((bl (x / 4294967296) : Nat) : Int)) = ((bl (x / 4294967296) : Nat) : Int) := in_i64 (by omega)
        have e74 : (IntKind.i64.wrap (32 + ((bl (x / 4294967296) : Nat) : Int))) = ((32 + (bl (x / 4294967296)) : Nat) : Int) := by rw [in_i64 (by omega)]; omega
        refine GL.eq (M' := [(2, .int .i64 ((32 + (bl (x / 4294967296)) : Nat) : Int))]) (by rw [e73, e74]) ?_
        clear e73 e74
        refine GL.k rfl hK70 (fun _ _ h => h) ?_
        refine G.ret ?_
        intro F_ hF_ hM_
        refine hRet _ _ (bodyPost_1 rfl (RV.tmp rfl) ?_ F_ hF_ hM_)
        have e0 : (((32 + (bl (x / 4294967296)) : Nat) : Int) : Int) = ((bl x : Nat) : Int) := by
          rw [bl_shr (x := x) 32 (by omega)]
          try simp only [show (2 : Nat) ^ 32 = 4294967296 from rfl]
          first | done | omega
        rw [e0]
        exact ⟨rfl, H.sub (List.nil_sublist _)⟩
      · skip
        have hb68f := of_decide_eq_true hb68
        refine G.yes rfl ?_
        refine G.seqK fun K75 hK76 => ?_
        refine G.region ?_
        refine GL.run (j := 3) 3 [0, 2] [(0, .int .u64 (Int.fdiv ((x / 4294967296 : Nat) : Int) (2 ^ 8))), (2, .int .i64 32)] (by kernel_rfl) rfl ?_
        have e77 : (Int.fdiv ((x / 4294967296 : Nat) : Int) (2 ^ 8)) = (((x / 4294967296) / 256 : Nat) : Int) := n_shr _ 8
        refine GL.eq (M' := [(0, .int .u64 (((x / 4294967296) / 256 : Nat) : Int)), (2, .int .i64 32)]) (by rw [e77]) ?_
        clear e77
        refine GL.k rfl hK76 (fun _ _ h => h) ?_
        refine G.region ?_
        refine GL.run (j := 3) 3 [0, 2] [(0, .int .u64 (((x / 4294967296) / 256 : Nat) : Int)), (2, .int .i64 40)] (by kernel_rfl) rfl ?_
        refine GL.k rfl hK65 (fun _ _ h => h) ?_
        refine G.seqK fun K78 hK79 => ?_
        refine G.region ?_
        refine GL.run (j := 3) 3 [19, 21] [(19, .int .i64 40), (21, .int .u8 (IntKind.u8.wrap (((x / 4294967296) / 256 : Nat) : Int)))] (by kernel_rfl) rfl ?_
        have e80 : (IntKind.u8.wrap (((x / 4294967296) / 256 : Nat) : Int)) = (((x / 4294967296) / 256 : Nat) : Int) := in_u8 (by omega)
        refine GL.eq (M' := [(19, .int .i64 40), (21, .int .u8 (((x / 4294967296) / 256 : Nat) : Int))]) (by rw [e80]) ?_
        clear e80
        refine GL.sem (j := 4) (run_strIdx (P := Tryd.prog) (k := .u8) (t := 9) (s := tab8) (by kernel_rfl) (tab8_bl ((x / 4294967296) / 256) (by omega)) _) [19, 22] [(19, .int .i64 40), (22, .int .u8 ((UInt8.ofNat (bl ((x / 4294967296) / 256))).toNat : Int))] (by kernel_rfl) (by kernel_rfl) rfl ?_
        have e81 : ((UInt8.ofNat (bl ((x / 4294967296) / 256))).toNat : Int) = ((bl ((x / 4294967296) / 256) : Nat) : Int) := by rw [bl_w (by omega)]
        refine GL.eq (M' := [(19, .int .i64 40), (22, .int .u8 ((bl ((x / 4294967296) / 256) : Nat) : Int))]) (by rw [e81]) ?_
        have e81b := bl_le (k := 8) (show (x / 4294967296) / 256 < 2 ^ 8 by omega)
        refine GL.run (j := 7) 3 [2] [(2, .int .i64 (IntKind.i64.wrap (40 + (IntKind.i64.wrap ((bl ((x / 4294967296) / 256) : Nat) : Int)))))] (by kernel_rfl) rfl ?_
        have e82 : (IntKind.i64.wrap ((bl ((x / 4294967296) / 256) : Nat) : Int)) = ((bl ((x / 4294967296) / 256) : Nat) : Int) := in_i64 (by omega)
        have e83 : (IntKind.i64.wrap (40 + ((bl ((x / 4294967296) / 256) : Nat) : Int))) = ((40 + (bl ((x / 4294967296) / 256)) : Nat) : Int) := by rw [in_i64 (by omega)]; omega
        refine GL.eq (M' := [(2, .int .i64 ((40 + (bl ((x / 4294967296) / 256)) : Nat) : Int))]) (by rw [e82, e83]) ?_
        clear e82 e83
        refine GL.k rfl hK79 (fun _ _ h => h) ?_
        refine G.ret ?_
        intro F_ hF_ hM_
        refine hRet _ _ (bodyPost_1 rfl (RV.tmp rfl) ?_ F_ hF_ hM_)
        have e0 : (((40 + (bl ((x / 4294967296) / 256)) : Nat) : Int) : Int) = ((bl x : Nat) : Int) := by
          rw [bl_shr (x := x) 32 (by omega)]
          try simp only [show (2 : Nat) ^ 32 = 4294967296 from rfl]
          rw [bl_shr (x := x / 4294967296) 8 (by omega)]
          try simp only [show (2 : Nat) ^ 8 = 256 from rfl]
          first | done | omega
        rw [e0]
        exact ⟨rfl, H.sub (List.nil_sublist _)⟩
    · skip
      have hb63f := of_decide_eq_true hb63
      refine G.yes rfl ?_
      refine G.seqK fun K84 hK85 => ?_
      refine G.region ?_
      refine GL.run (j := 3) 3 [0, 2] [(0, .int .u64 (Int.fdiv ((x / 4294967296 : Nat) : Int) (2 ^ 16))), (2, .int .i64 32)] (by kernel_rfl) rfl ?_
      have e86 : (Int.fdiv ((x / 4294967296 : Nat) : Int) (2 ^ 16)) = (((x / 4294967296) / 65536 : Nat) : Int) := n_shr _ 16
      refine GL.eq (M' := [(0, .int .u64 (((x / 4294967296) / 65536 : Nat) : Int)), (2, .int .i64 32)]) (by rw [e86]) ?_
      clear e86
      refine GL.k rfl hK85 (fun _ _ h => h) ?_
      refine G.region ?_
      refine GL.run (j := 3) 3 [0, 2] [(0, .int .u64 (((x / 4294967296) / 65536 : Nat) : Int)), (2, .int .i64 48)] (by kernel_rfl) rfl ?_
      refine GL.k rfl hK60 (fun _ _ h => h) ?_
      refine G.seqK fun K87 hK88 => ?_
      refine G.seqK fun K89 hK90 => ?_
      refine G.region ?_
      refine GL.run (j := 2) 2 [0, 2, 14] [(0, .int .u64 (((x / 4294967296) / 65536 : Nat) : Int)), (2, .int .i64 48), (14, .bool (decide (256 ≤ (((x / 4294967296) / 65536 : Nat) : Int))))] (by kernel_rfl) rfl ?_
      refine GL.k rfl hK90 (fun _ _ h => h) ?_
      cases hb91 : (decide (256 ≤ (((x / 4294967296) / 65536 : Nat) : Int)))
      · skip
        have hb91f := of_decide_eq_false hb91
        refine G.no rfl ?_
        refine G.skipK hK88 (fun _ _ h => h) ?_
        refine G.seqK fun K92 hK93 => ?_
        refine G.region ?_
        refine GL.run (j := 3) 3 [19, 21] [(19, .int .i64 48), (21, .int .u8 (IntKind.u8.wrap (((x / 4294967296) / 65536 : Nat) : Int)))] (by kernel_rfl) rfl ?_
        have e94 : (IntKind.u8.wrap (((x / 4294967296) / 65536 : Nat) : Int)) = (((x / 4294967296) / 65536 : Nat) : Int) := in_u8 (by omega)
        refine GL.eq (M' := [(19, .int .i64 48), (21, .int .u8 (((x / 4294967296) / 65536 : Nat) : Int))]) (by rw [e94]) ?_
        clear e94
        refine GL.sem (j := 4) (run_strIdx (P := Tryd.prog) (k := .u8) (t := 9) (s := tab8) (by kernel_rfl) (tab8_bl ((x / 4294967296) / 65536) (by omega)) _) [19, 22] [(19, .int .i64 48), (22, .int .u8 ((UInt8.ofNat (bl ((x / 4294967296) / 65536))).toNat : Int))] (by kernel_rfl) (by kernel_rfl) rfl ?_
        have e95 : ((UInt8.ofNat (bl ((x / 4294967296) / 65536))).toNat : Int) = ((bl ((x / 4294967296) / 65536) : Nat) : Int) := by rw [bl_w (by omega)]
        refine GL.eq (M' := [(19, .int .i64 48), (22, .int .u8 ((bl ((x / 4294967296) / 65536) : Nat) : Int))]) (by rw [e95]) ?_
        have e95b := bl_le (k := 8) (show (x / 4294967296) / 65536 < 2 ^ 8 by omega)
        refine GL.run (j := 7) 3 [2] [(2, .int .i64 (IntKind.i64.wrap (48 + (IntKind.i64.wrap ((bl ((x / 4294967296) / 65536) : Nat) : Int)))))] (by kernel_rfl) rfl ?_
        have e96 : (IntKind.i64.wrap ((bl ((x / 4294967296) / 65536) : Nat) : Int)) = ((bl ((x / 4294967296) / 65536) : Nat) : Int) := in_i64 (by omega)
        have e97 : (IntKind.i64.wrap (48 + ((bl ((x / 4294967296) / 65536) : Nat) : Int))) = ((48 + (bl ((x / 4294967296) / 65536)) : Nat) : Int) := by rw [in_i64 (by omega)]; omega
        refine GL.eq (M' := [(2, .int .i64 ((48 + (bl ((x / 4294967296) / 65536)) : Nat) : Int))]) (by rw [e96, e97]) ?_
        clear e96 e97
        refine GL.k rfl hK93 (fun _ _ h => h) ?_
        refine G.ret ?_
        intro F_ hF_ hM_
        refine hRet _ _ (bodyPost_1 rfl (RV.tmp rfl) ?_ F_ hF_ hM_)
        have e0 : (((48 + (bl ((x / 4294967296) / 65536)) : Nat) : Int) : Int) = ((bl x : Nat) : Int) := by
          rw [bl_shr (x := x) 32 (by omega)]
          try simp only [show (2 : Nat) ^ 32 = 4294967296 from rfl]
          rw [bl_shr (x := x / 4294967296) 16 (by omega)]
          try simp only [show (2 : Nat) ^ 16 = 65536 from rfl]
          first | done | omega
        rw [e0]
        exact ⟨rfl, H.sub (List.nil_sublist _)⟩
      · skip
        have hb91f := of_decide_eq_true hb91
        refine G.yes rfl ?_
        refine G.seqK fun K98 hK99 => ?_
        refine G.region ?_
        refine GL.run (j := 3) 3 [0, 2] [(0, .int .u64 (Int.fdiv (((x / 4294967296) / 65536 : Nat) : Int) (2 ^ 8))), (2, .int .i64 48)] (by kernel_rfl) rfl ?_
        have e100 : (Int.fdiv (((x / 4294967296) / 65536 : Nat) : Int) (2 ^ 8)) = ((((x / 4294967296) / 65536) / 256 : Nat) : Int) := n_shr _ 8
        refine GL.eq (M' := [(0, .int .u64 ((((x / 4294967296) / 65536) / 256 : Nat) : Int)), (2, .int .i64 48)]) (by rw [e100]) ?_
        clear e100
        refine GL.k rfl hK99 (fun _ _ h => h) ?_
        refine G.region ?_
        refine GL.run (j := 3) 3 [0, 2] [(0, .int .u64 ((((x / 4294967296) / 65536) / 256 : Nat) : Int)), (2, .int .i64 56)] (by kernel_rfl) rfl ?_
        refine GL.k rfl hK88 (fun _ _ h => h) ?_
        refine G.seqK fun K101 hK102 => ?_
        refine G.region ?_
        refine GL.run (j := 3) 3 [19, 21] [(19, .int .i64 56), (21, .int .u8 (IntKind.u8.wrap ((((x / 4294967296) / 65536) / 256 : Nat) : Int)))] (by kernel_rfl) rfl ?_
        have e103 : (IntKind.u8.wrap ((((x / 4294967296) / 65536) / 256 : Nat) : Int)) = ((((x / 4294967296) / 65536) / 256 : Nat) : Int) := in_u8 (by omega)
        refine GL.eq (M' := [(19, .int .i64 56), (21, .int .u8 ((((x / 4294967296) / 65536) / 256 : Nat) : Int))]) (by rw [e103]) ?_
        clear e103
        refine GL.sem (j := 4) (run_strIdx (P := Tryd.prog) (k := .u8) (t := 9) (s := tab8) (by kernel_rfl) (tab8_bl (((x / 4294967296) / 65536) / 256) (by omega)) _) [19, 22] [(19, .int .i64 56), (22, .int .u8 ((UInt8.ofNat (bl (((x / 4294967296) / 65536) / 256))).toNat : Int))] (by kernel_rfl) (by kernel_rfl) rfl ?_
        have e104 : ((UInt8.ofNat (bl (((x / 4294967296) / 65536) / 256))).toNat : Int) = ((bl (((x / 4294967296) / 65536) / 256) : Nat) : Int) := by rw [bl_w (by omega)]
        refine GL.eq (M' := [(19, .int .i64 56), (22, .int .u8 ((bl (((x / 4294967296) / 65536) / 256) : Nat) : Int))]) (by rw [e104]) ?_
        have e104b := bl_le (k := 8) (show ((x / 4294967296) / 65536) / 256 < 2 ^ 8 by omega)
        refine GL.run (j := 7) 3 [2] [(2, .int .i64 (IntKind.i64.wrap (56 + (IntKind.i64.wrap ((bl (((x / 4294967296) / 65536) / 256) : Nat) : Int)))))] (by kernel_rfl) rfl ?_
        have e105 : (IntKind.i64.wrap ((bl (((x / 4294967296) / 65536) / 256) : Nat) : Int)) = ((bl (((x / 4294967296) / 65536) / 256) : Nat) : Int) := in_i64 (by omega)
        have e106 : (IntKind.i64.wrap (56 + ((bl (((x / 4294967296) / 65536) / 256) : Nat) : Int))) = ((56 + (bl (((x / 4294967296) / 65536) / 256)) : Nat) : Int) := by rw [in_i64 (by omega)]; omega
        refine GL.eq (M' := [(2, .int .i64 ((56 + (bl (((x / 4294967296) / 65536) / 256)) : Nat) : Int))]) (by rw [e105, e106]) ?_
        clear e105 e106
        refine GL.k rfl hK102 (fun _ _ h => h) ?_
        refine G.ret ?_
        intro F_ hF_ hM_
        refine hRet _ _ (bodyPost_1 rfl (RV.tmp rfl) ?_ F_ hF_ hM_)
        have e0 : (((56 + (bl (((x / 4294967296) / 65536) / 256)) : Nat) : Int) : Int) = ((bl x : Nat) : Int) := by
          rw [bl_shr (x := x) 32 (by omega)]
          try simp only [show (2 : Nat) ^ 32 = 4294967296 from rfl]
          rw [bl_shr (x := x / 4294967296) 16 (by omega)]
          try simp only [show (2 : Nat) ^ 16 = 65536 from rfl]
          rw [bl_shr (x := (x / 4294967296) / 65536) 8 (by omega)]
          try simp only [show (2 : Nat) ^ 8 = 256 from rfl]
          first | done | omega
        rw [e0]
        exact ⟨rfl, H.sub (List.nil_sublist _)⟩
theorem Bits_calls (x : Nat) (hx : x < K4) (w : World) : Calls Tryd.prog 26 #[wv x] w fun e w' => e = .returned (.int .i64 ((bl x : Nat) : Int)) ∧ Hp w [] [] w' := by
  refine calls_G (args := [wv x]) Tryd.func26 rfl Tryd.ntmps26 rfl ?_
  intro Q0 hRet hNor hPan
  have H := Hp.start w
  have H : Hp w [] [] w := H
  refine G.seqK fun K1 hK2 => ?_
  refine G.region ?_
  obtain ⟨p3, w4, r5, H6⟩ := H.box (P := Tryd.prog) 45 [.int .u64 (wd x 0 : Int), .int .u64 (wd x 1 : Int), .int .u64 (wd x 2 : Int), .int .u64 (wd x 3 : Int)] (wv x) rfl
  have H6 : Hp w [] [.blk p3 [.int .u64 (wd x 0 : Int), .int .u64 (wd x 1 : Int), .int .u64 (wd x 2 : Int), .int .u64 (wd x 3 : Int)] 45] w4 := H6
  refine GL.sem (j := 1) (r5) [1] [(1, pt p3 0)] (by kernel_rfl) (by kernel_rfl) rfl ?_
  refine GL.run (j := 2) 1 [1] [(1, pt p3 0)] (by kernel_rfl) rfl ?_
  refine GL.k rfl hK2 (fun _ _ h => h) ?_
  refine G.seqK fun K7 hK8 => ?_
  refine G.seqK fun K9 hK10 => ?_
  refine G.region ?_
  refine GL.run (j := 1) 1 [1, 3] [(1, pt p3 0), (3, .int .i64 3)] (by kernel_rfl) rfl ?_
  refine GL.k rfl hK10 (fun _ _ h => h) ?_
  refine G.block ?_
  refine G.unroll 5 ?_
  refine G.seqK fun K11 hK12 => ?_
  refine G.seqK fun K13 hK14 => ?_
  refine G.region ?_
  refine GL.run (j := 2) 2 [1, 3, 5] [(1, pt p3 0), (3, .int .i64 3), (5, .bool true)] (by kernel_rfl) rfl ?_
  refine GL.k rfl hK14 (fun _ _ h => h) ?_
  refine G.yes rfl ?_
  refine G.skipK hK12 (fun _ _ h => h) ?_
  refine G.seqK fun K15 hK16 => ?_
  refine G.block ?_
  refine G.seqK fun K17 hK18 => ?_
  refine G.region ?_
  refine GL.run (j := 2) 2 [1, 3, 9] [(1, pt p3 0), (3, .int .i64 3), (9, pt p3 3)] (by kernel_rfl) rfl ?_
  refine GL.sem (j := 3) (H6.ld (o := 3) (ty := 22) (v := .int .u64 (wd x 3 : Int)) 0 rfl (by kernel_rfl) rfl) [1, 3, 10] [(1, pt p3 0), (3, .int .i64 3), (10, .int .u64 (wd x 3 : Int))] (by kernel_rfl) (by kernel_rfl) rfl ?_
  refine GL.run (j := 4) 1 [1, 3, 11] [(1, pt p3 0), (3, .int .i64 3), (11, .bool (decide (0 < (wd x 3 : Int))))] (by kernel_rfl) rfl ?_
  refine GL.k rfl hK18 (fun _ _ h => h) ?_
  cases hb19 : (decide (0 < (wd x 3 : Int)))
  · skip
    have hb19f := of_decide_eq_false hb19
    refine G.no rfl ?_
    refine G.skipK hK16 (fun _ _ h => h) ?_
    refine G.region ?_
    refine GL.run (j := 3) 3 [1, 3] [(1, pt p3 0), (3, .int .i64 2)] (by kernel_rfl) rfl ?_
    refine GL.round rfl ?_
    refine G.seqK fun K20 hK21 => ?_
    refine G.seqK fun K22 hK23 => ?_
    refine G.region ?_
    refine GL.run (j := 2) 2 [1, 3, 5] [(1, pt p3 0), (3, .int .i64 2), (5, .bool true)] (by kernel_rfl) rfl ?_
    refine GL.k rfl hK23 (fun _ _ h => h) ?_
    refine G.yes rfl ?_
    refine G.skipK hK21 (fun _ _ h => h) ?_
    refine G.seqK fun K24 hK25 => ?_
    refine G.block ?_
    refine G.seqK fun K26 hK27 => ?_
    refine G.region ?_
    refine GL.run (j := 2) 2 [1, 3, 9] [(1, pt p3 0), (3, .int .i64 2), (9, pt p3 2)] (by kernel_rfl) rfl ?_
    refine GL.sem (j := 3) (H6.ld (o := 2) (ty := 22) (v := .int .u64 (wd x 2 : Int)) 0 rfl (by kernel_rfl) rfl) [1, 3, 10] [(1, pt p3 0), (3, .int .i64 2), (10, .int .u64 (wd x 2 : Int))] (by kernel_rfl) (by kernel_rfl) rfl ?_
    refine GL.run (j := 4) 1 [1, 3, 11] [(1, pt p3 0), (3, .int .i64 2), (11, .bool (decide (0 < (wd x 2 : Int))))] (by kernel_rfl) rfl ?_
    refine GL.k rfl hK27 (fun _ _ h => h) ?_
    cases hb28 : (decide (0 < (wd x 2 : Int)))
    · skip
      have hb28f := of_decide_eq_false hb28
      refine G.no rfl ?_
      refine G.skipK hK25 (fun _ _ h => h) ?_
      refine G.region ?_
      refine GL.run (j := 3) 3 [1, 3] [(1, pt p3 0), (3, .int .i64 1)] (by kernel_rfl) rfl ?_
      refine GL.round rfl ?_
      refine G.seqK fun K29 hK30 => ?_
      refine G.seqK fun K31 hK32 => ?_
      refine G.region ?_
      refine GL.run (j := 2) 2 [1, 3, 5] [(1, pt p3 0), (3, .int .i64 1), (5, .bool true)] (by kernel_rfl) rfl ?_
      refine GL.k rfl hK32 (fun _ _ h => h) ?_
      refine G.yes rfl ?_
      refine G.skipK hK30 (fun _ _ h => h) ?_
      refine G.seqK fun K33 hK34 => ?_
      refine G.block ?_
      refine G.seqK fun K35 hK36 => ?_
      refine G.region ?_
      refine GL.run (j := 2) 2 [1, 3, 9] [(1, pt p3 0), (3, .int .i64 1), (9, pt p3 1)] (by kernel_rfl) rfl ?_
      refine GL.sem (j := 3) (H6.ld (o := 1) (ty := 22) (v := .int .u64 (wd x 1 : Int)) 0 rfl (by kernel_rfl) rfl) [1, 3, 10] [(1, pt p3 0), (3, .int .i64 1), (10, .int .u64 (wd x 1 : Int))] (by kernel_rfl) (by kernel_rfl) rfl ?_
      refine GL.run (j := 4) 1 [1, 3, 11] [(1, pt p3 0), (3, .int .i64 1), (11, .bool (decide (0 < (wd x 1 : Int))))] (by kernel_rfl) rfl ?_
      refine GL.k rfl hK36 (fun _ _ h => h) ?_
      cases hb37 : (decide (0 < (wd x 1 : Int)))
      · skip
        have hb37f := of_decide_eq_false hb37
        refine G.no rfl ?_
        refine G.skipK hK34 (fun _ _ h => h) ?_
        refine G.region ?_
        refine GL.run (j := 3) 3 [1, 3] [(1, pt p3 0), (3, .int .i64 0)] (by kernel_rfl) rfl ?_
        refine GL.round rfl ?_
        refine G.seqK fun K38 hK39 => ?_
        refine G.seqK fun K40 hK41 => ?_
        refine G.region ?_
        refine GL.run (j := 2) 2 [1, 3, 5] [(1, pt p3 0), (3, .int .i64 0), (5, .bool true)] (by kernel_rfl) rfl ?_
        refine GL.k rfl hK41 (fun _ _ h => h) ?_
        refine G.yes rfl ?_
        refine G.skipK hK39 (fun _ _ h => h) ?_
        refine G.seqK fun K42 hK43 => ?_
        refine G.block ?_
        refine G.seqK fun K44 hK45 => ?_
        refine G.region ?_
        refine GL.run (j := 2) 2 [1, 3, 9] [(1, pt p3 0), (3, .int .i64 0), (9, pt p3 0)] (by kernel_rfl) rfl ?_
        refine GL.sem (j := 3) (H6.ld (o := 0) (ty := 22) (v := .int .u64 (wd x 0 : Int)) 0 rfl (by kernel_rfl) rfl) [1, 3, 10] [(1, pt p3 0), (3, .int .i64 0), (10, .int .u64 (wd x 0 : Int))] (by kernel_rfl) (by kernel_rfl) rfl ?_
        refine GL.run (j := 4) 1 [1, 3, 11] [(1, pt p3 0), (3, .int .i64 0), (11, .bool (decide (0 < (wd x 0 : Int))))] (by kernel_rfl) rfl ?_
        refine GL.k rfl hK45 (fun _ _ h => h) ?_
        cases hb46 : (decide (0 < (wd x 0 : Int)))
        · skip
          have hb46f := of_decide_eq_false hb46
          refine G.no rfl ?_
          refine G.skipK hK43 (fun _ _ h => h) ?_
          refine G.region ?_
          refine GL.run (j := 3) 3 [1, 3] [(1, pt p3 0), (3, .int .i64 (-1))] (by kernel_rfl) rfl ?_
          refine GL.round rfl ?_
          refine G.seqK fun K47 hK48 => ?_
          refine G.seqK fun K49 hK50 => ?_
          refine G.region ?_
          refine GL.run (j := 2) 2 [1, 3, 5] [(1, pt p3 0), (3, .int .i64 (-1)), (5, .bool false)] (by kernel_rfl) rfl ?_
          refine GL.k rfl hK50 (fun _ _ h => h) ?_
          refine G.no rfl ?_
          refine G.exitK hK8 (fun _ _ h => h) ?_
          refine G.seqK fun K51 hK52 => ?_
          refine G.region ?_
          refine GL.run (j := 1) 1 [2] [(2, .int .i64 0)] (by kernel_rfl) rfl ?_
          refine GL.k rfl hK52 (fun _ _ h => h) ?_
          refine G.ret ?_
          intro F_ hF_ hM_
          refine hRet _ _ (bodyPost_1 rfl (RV.tmp rfl) ?_ F_ hF_ hM_)
          have e0 : (0 : Int) = ((bl x : Nat) : Int) := by
            rw [wd_top0 (by omega : wd x 3 = 0) (by omega : wd x 2 = 0) (by omega : wd x 1 = 0) hx, show wd x 0 = 0 from by omega]; rfl
          rw [e0]
          exact ⟨rfl, H6.sub (List.nil_sublist _)⟩
        · skip
          have hb46f := of_decide_eq_true hb46
          refine G.yes rfl ?_
          refine G.seqK fun K53 hK54 => ?_
          refine G.region ?_
          refine GL.run (j := 4) 4 [13, 15] [(13, .int .i64 0), (15, pt p3 0)] (by kernel_rfl) rfl ?_
          refine GL.sem (j := 5) (H6.ld (o := 0) (ty := 22) (v := .int .u64 (wd x 0 : Int)) 0 rfl (by kernel_rfl) rfl) [13, 16] [(13, .int .i64 0), (16, .int .u64 (wd x 0 : Int))] (by kernel_rfl) (by kernel_rfl) rfl ?_
          have hbl := bl_le (k := 64) (wd_lt x 0)
          refine GL.call (j := 6) (Len64_calls (wd x 0) (wd_lt _ _) w4) (by kernel_rfl) rfl (fun e_ w55 hR => ?_)
          obtain ⟨rfl, H57⟩ := hR
          have H56 : Hp w [] [.blk p3 [.int .u64 (wd x 0 : Int), .int .u64 (wd x 1 : Int), .int .u64 (wd x 2 : Int), .int .u64 (wd x 3 : Int)] 45] w55 := H6.callNil H57
          refine ⟨_, rfl, [13, 17], [(13, .int .i64 0), (17, .int .i64 ((bl (wd x 0) : Nat) : Int))], by kernel_rfl, ?_⟩
          refine GL.run (j := 8) 2 [2] [(2, .int .i64 (IntKind.i64.wrap (0 + ((bl (wd x 0) : Nat) : Int))))] (by kernel_rfl) rfl ?_
          have e58 : (IntKind.i64.wrap (0 + ((bl (wd x 0) : Nat) : Int))) = ((0 + (bl (wd x 0)) : Nat) : Int) := by rw [in_i64 (by omega)]; omega
          refine GL.eq (M' := [(2, .int .i64 ((0 + (bl (wd x 0)) : Nat) : Int))]) (by rw [e58]) ?_
          clear e58
          refine GL.k rfl hK54 (fun _ _ h => h) ?_
          refine G.ret ?_
          intro F_ hF_ hM_
          refine hRet _ _ (bodyPost_1 rfl (RV.tmp rfl) ?_ F_ hF_ hM_)
          have e0 : (((0 + (bl (wd x 0)) : Nat) : Int) : Int) = ((bl x : Nat) : Int) := by
            rw [← wd_top0 (by omega : wd x 3 = 0) (by omega : wd x 2 = 0) (by omega : wd x 1 = 0) hx] <;> omega
          rw [e0]
          exact ⟨rfl, H56.sub (List.nil_sublist _)⟩
      · skip
        have hb37f := of_decide_eq_true hb37
        refine G.yes rfl ?_
        refine G.seqK fun K59 hK60 => ?_
        refine G.region ?_
        refine GL.run (j := 4) 4 [13, 15] [(13, .int .i64 64), (15, pt p3 1)] (by kernel_rfl) rfl ?_
        refine GL.sem (j := 5) (H6.ld (o := 1) (ty := 22) (v := .int .u64 (wd x 1 : Int)) 0 rfl (by kernel_rfl) rfl) [13, 16] [(13, .int .i64 64), (16, .int .u64 (wd x 1 : Int))] (by kernel_rfl) (by kernel_rfl) rfl ?_
        have hbl := bl_le (k := 64) (wd_lt x 1)
        refine GL.call (j := 6) (Len64_calls (wd x 1) (wd_lt _ _) w4) (by kernel_rfl) rfl (fun e_ w61 hR => ?_)
        obtain ⟨rfl, H63⟩ := hR
        have H62 : Hp w [] [.blk p3 [.int .u64 (wd x 0 : Int), .int .u64 (wd x 1 : Int), .int .u64 (wd x 2 : Int), .int .u64 (wd x 3 : Int)] 45] w61 := H6.callNil H63
        refine ⟨_, rfl, [13, 17], [(13, .int .i64 64), (17, .int .i64 ((bl (wd x 1) : Nat) : Int))], by kernel_rfl, ?_⟩
        refine GL.run (j := 8) 2 [2] [(2, .int .i64 (IntKind.i64.wrap (64 + ((bl (wd x 1) : Nat) : Int))))] (by kernel_rfl) rfl ?_
        have e64 : (IntKind.i64.wrap (64 + ((bl (wd x 1) : Nat) : Int))) = ((64 + (bl (wd x 1)) : Nat) : Int) := by rw [in_i64 (by omega)]; omega
        refine GL.eq (M' := [(2, .int .i64 ((64 + (bl (wd x 1)) : Nat) : Int))]) (by rw [e64]) ?_
        clear e64
        refine GL.k rfl hK60 (fun _ _ h => h) ?_
        refine G.ret ?_
        intro F_ hF_ hM_
        refine hRet _ _ (bodyPost_1 rfl (RV.tmp rfl) ?_ F_ hF_ hM_)
        have e0 : (((64 + (bl (wd x 1)) : Nat) : Int) : Int) = ((bl x : Nat) : Int) := by
          rw [wd_top1 (by omega : wd x 3 = 0) (by omega : wd x 2 = 0) (by omega) hx] <;> omega
        rw [e0]
        exact ⟨rfl, H62.sub (List.nil_sublist _)⟩
    · skip
      have hb28f := of_decide_eq_true hb28
      refine G.yes rfl ?_
      refine G.seqK fun K65 hK66 => ?_
      refine G.region ?_
      refine GL.run (j := 4) 4 [13, 15] [(13, .int .i64 128), (15, pt p3 2)] (by kernel_rfl) rfl ?_
      refine GL.sem (j := 5) (H6.ld (o := 2) (ty := 22) (v := .int .u64 (wd x 2 : Int)) 0 rfl (by kernel_rfl) rfl) [13, 16] [(13, .int .i64 128), (16, .int .u64 (wd x 2 : Int))] (by kernel_rfl) (by kernel_rfl) rfl ?_
      have hbl := bl_le (k := 64) (wd_lt x 2)
      refine GL.call (j := 6) (Len64_calls (wd x 2) (wd_lt _ _) w4) (by kernel_rfl) rfl (fun e_ w67 hR => ?_)
      obtain ⟨rfl, H69⟩ := hR
      have H68 : Hp w [] [.blk p3 [.int .u64 (wd x 0 : Int), .int .u64 (wd x 1 : Int), .int .u64 (wd x 2 : Int), .int .u64 (wd x 3 : Int)] 45] w67 := H6.callNil H69
      refine ⟨_, rfl, [13, 17], [(13, .int .i64 128), (17, .int .i64 ((bl (wd x 2) : Nat) : Int))], by kernel_rfl, ?_⟩
      refine GL.run (j := 8) 2 [2] [(2, .int .i64 (IntKind.i64.wrap (128 + ((bl (wd x 2) : Nat) : Int))))] (by kernel_rfl) rfl ?_
      have e70 : (IntKind.i64.wrap (128 + ((bl (wd x 2) : Nat) : Int))) = ((128 + (bl (wd x 2)) : Nat) : Int) := by rw [in_i64 (by omega)]; omega
      refine GL.eq (M' := [(2, .int .i64 ((128 + (bl (wd x 2)) : Nat) : Int))]) (by rw [e70]) ?_
      clear e70
      refine GL.k rfl hK66 (fun _ _ h => h) ?_
      refine G.ret ?_
      intro F_ hF_ hM_
      refine hRet _ _ (bodyPost_1 rfl (RV.tmp rfl) ?_ F_ hF_ hM_)
      have e0 : (((128 + (bl (wd x 2)) : Nat) : Int) : Int) = ((bl x : Nat) : Int) := by
        rw [wd_top2 (by omega : wd x 3 = 0) (by omega) hx] <;> omega
      rw [e0]
      exact ⟨rfl, H68.sub (List.nil_sublist _)⟩
  · skip
    have hb19f := of_decide_eq_true hb19
    refine G.yes rfl ?_
    refine G.seqK fun K71 hK72 => ?_
    refine G.region ?_
    refine GL.run (j := 4) 4 [13, 15] [(13, .int .i64 192), (15, pt p3 3)] (by kernel_rfl) rfl ?_
    refine GL.sem (j := 5) (H6.ld (o := 3) (ty := 22) (v := .int .u64 (wd x 3 : Int)) 0 rfl (by kernel_rfl) rfl) [13, 16] [(13, .int .i64 192), (16, .int .u64 (wd x 3 : Int))] (by kernel_rfl) (by kernel_rfl) rfl ?_
    have hbl := bl_le (k := 64) (wd_lt x 3)
    refine GL.call (j := 6) (Len64_calls (wd x 3) (wd_lt _ _) w4) (by kernel_rfl) rfl (fun e_ w73 hR => ?_)
    obtain ⟨rfl, H75⟩ := hR
    have H74 : Hp w [] [.blk p3 [.int .u64 (wd x 0 : Int), .int .u64 (wd x 1 : Int), .int .u64 (wd x 2 : Int), .int .u64 (wd x 3 : Int)] 45] w73 := H6.callNil H75
    refine ⟨_, rfl, [13, 17], [(13, .int .i64 192), (17, .int .i64 ((bl (wd x 3) : Nat) : Int))], by kernel_rfl, ?_⟩
    refine GL.run (j := 8) 2 [2] [(2, .int .i64 (IntKind.i64.wrap (192 + ((bl (wd x 3) : Nat) : Int))))] (by kernel_rfl) rfl ?_
    have e76 : (IntKind.i64.wrap (192 + ((bl (wd x 3) : Nat) : Int))) = ((192 + (bl (wd x 3)) : Nat) : Int) := by rw [in_i64 (by omega)]; omega
    refine GL.eq (M' := [(2, .int .i64 ((192 + (bl (wd x 3)) : Nat) : Int))]) (by rw [e76]) ?_
    clear e76
    refine GL.k rfl hK72 (fun _ _ h => h) ?_
    refine G.ret ?_
    intro F_ hF_ hM_
    refine hRet _ _ (bodyPost_1 rfl (RV.tmp rfl) ?_ F_ hF_ hM_)
    have e0 : (((192 + (bl (wd x 3)) : Nat) : Int) : Int) = ((bl x : Nat) : Int) := by
      rw [wd_top3  (by omega) hx] <;> omega
    rw [e0]
    exact ⟨rfl, H74.sub (List.nil_sublist _)⟩
theorem Uint_calls (x : Nat) (hx : x < K4) (w : World) : Calls Tryd.prog 21 #[wv x] w fun e w' => e = .returned (.tuple #[.int .u64 ((oneW x : Nat) : Int), .bool (decide (x < K))]) ∧ Hp w [] [] w' := by
  refine calls_G (args := [wv x]) Tryd.func21 rfl Tryd.ntmps21 rfl ?_
  intro Q0 hRet hNor hPan
  have H := Hp.start w
  have H : Hp w [] [] w := H
  refine G.seqK fun K1 hK2 => ?_
  refine G.region ?_
  obtain ⟨p3, w4, r5, H6⟩ := H.box (P := Tryd.prog) 45 [.int .u64 (wd x 0 : Int), .int .u64 (wd x 1 : Int), .int .u64 (wd x 2 : Int), .int .u64 (wd x 3 : Int)] (wv x) rfl
  have H6 : Hp w [] [.blk p3 [.int .u64 (wd x 0 : Int), .int .u64 (wd x 1 : Int), .int .u64 (wd x 2 : Int), .int .u64 (wd x 3 : Int)] 45] w4 := H6
  refine GL.sem (j := 1) (r5) [1] [(1, pt p3 0)] (by kernel_rfl) (by kernel_rfl) rfl ?_
  refine GL.run (j := 3) 2 [1] [(1, pt p3 0)] (by kernel_rfl) rfl ?_
  refine GL.k rfl hK2 (fun _ _ h => h) ?_
  refine G.seqK fun K7 hK8 => ?_
  refine G.seqK fun K9 hK10 => ?_
  refine G.region ?_
  refine GL.sem (j := 1) (H6.ldA (o := 0) (ty := 45) (m := 4) (sub := [.int .u64 (wd x 0 : Int), .int .u64 (wd x 1 : Int), .int .u64 (wd x 2 : Int), .int .u64 (wd x 3 : Int)]) 0 rfl (by kernel_rfl) rfl rfl) [1, 4] [(1, pt p3 0), (4, wv x)] (by kernel_rfl) (by kernel_rfl) rfl ?_
  refine GL.call (j := 2) (Bits_calls x hx w4) (by kernel_rfl) rfl (fun e_ w11 hR => ?_)
  obtain ⟨rfl, H13⟩ := hR
  have H12 : Hp w [] [.blk p3 [.int .u64 (wd x 0 : Int), .int .u64 (wd x 1 : Int), .int .u64 (wd x 2 : Int), .int .u64 (wd x 3 : Int)] 45] w11 := H6.callNil H13
  refine ⟨_, rfl, [1, 5], [(1, pt p3 0), (5, .int .i64 (((bl x) : Nat) : Int))], by kernel_rfl, ?_⟩
  refine GL.run (j := 3) 1 [1, 6] [(1, pt p3 0), (6, .bool (decide (64 < (((bl x) : Nat) : Int))))] (by kernel_rfl) rfl ?_
  refine GL.k rfl hK10 (fun _ _ h => h) ?_
  cases hb14 : (decide (64 < (((bl x) : Nat) : Int)))
  · skip
    have hb14f := of_decide_eq_false hb14
    refine G.no rfl ?_
    refine G.skipK hK8 (fun _ _ h => h) ?_
    refine G.seqK fun K15 hK16 => ?_
    refine G.region ?_
    refine GL.run (j := 1) 1 [7] [(7, pt p3 0)] (by kernel_rfl) rfl ?_
    refine GL.sem (j := 2) (H12.ld (o := 0) (ty := 22) (v := .int .u64 (wd x 0 : Int)) 0 rfl (by kernel_rfl) rfl) [8] [(8, .int .u64 (wd x 0 : Int))] (by kernel_rfl) (by kernel_rfl) rfl ?_
    refine GL.run (j := 4) 2 [2, 3] [(2, .int .u64 (wd x 0 : Int)), (3, .bool true)] (by kernel_rfl) rfl ?_
    refine GL.k rfl hK16 (fun _ _ h => h) ?_
    refine G.ret ?_
    intro F_ hF_ hM_
    refine hRet _ _ (bodyPost_2 rfl (RV.tmp rfl) (RV.tmp rfl) ?_ F_ hF_ hM_)
    have hk : x < K := Nat.lt_of_lt_of_le (bl_lt x) (Nat.pow_le_pow_right (by decide) (show bl x ≤ 64 by omega))
    rw [show oneW x = wd x 0 from (if_pos hk).trans (Nat.mod_eq_of_lt hk).symm, decide_eq_true hk]
    exact ⟨rfl, H12.sub (List.nil_sublist _)⟩
  · skip
    have hb14f := of_decide_eq_true hb14
    refine G.yes rfl ?_
    refine G.seqK fun K17 hK18 => ?_
    refine G.region ?_
    refine GL.run (j := 2) 2 [2, 3] [(2, .int .u64 0), (3, .bool false)] (by kernel_rfl) rfl ?_
    refine GL.k rfl hK18 (fun _ _ h => h) ?_
    refine G.ret ?_
    intro F_ hF_ hM_
    refine hRet _ _ (bodyPost_2 rfl (RV.tmp rfl) (RV.tmp rfl) ?_ F_ hF_ hM_)
    have hk : ¬ x < K := fun h => by have := bl_le (k := 64) (show x < 2 ^ 64 from h); omega
    rw [show oneW x = 0 from if_neg hk, decide_eq_false hk]
    exact ⟨rfl, H12.sub (List.nil_sublist _)⟩
end Go.Proofs.YtgbhiklengafiaaDoor
set_option maxRecDepth 100000
namespace Go.Proofs.YtgbhiklengafiaaDoor
open Go.RowKit
theorem Left_0 (x r : Nat) (hx : x < K4) (hr : r < 64) (w : World) : Calls Tryd.prog 27 #[wv x, .int .i64 ((r : Nat) : Int)] w fun e w' => e = .returned (wv (x * 2 ^ r % K4)) ∧ Hp w [] [] w' := by
  refine calls_G (args := [wv x, .int .i64 (r : Int)]) Tryd.func27 rfl Tryd.ntmps27 rfl ?_
  intro Q0 hRet hNor hPan
  have H := Hp.start w
  have H : Hp w [] [] w := H
  refine G.seqK fun K1 hK2 => ?_
  refine G.region ?_
  obtain ⟨p3, w4, r5, H6⟩ := H.box (P := Tryd.prog) 45 [.int .u64 (wd x 0 : Int), .int .u64 (wd x 1 : Int), .int .u64 (wd x 2 : Int), .int .u64 (wd x 3 : Int)] (wv x) rfl
  have H6 : Hp w [] [.blk p3 [.int .u64 (wd x 0 : Int), .int .u64 (wd x 1 : Int), .int .u64 (wd x 2 : Int), .int .u64 (wd x 3 : Int)] 45] w4 := H6
  refine GL.sem (j := 1) (r5) [1, 2] [(1, .int .i64 (r : Int)), (2, pt p3 0)] (by kernel_rfl) (by kernel_rfl) rfl ?_
  obtain ⟨p7, w8, r9, H10⟩ := H6.alloc (P := Tryd.prog) 45 [.int .u64 0, .int .u64 0, .int .u64 0, .int .u64 0] (by kernel_rfl)
  have H10 : Hp w [] [.blk p3 [.int .u64 (wd x 0 : Int), .int .u64 (wd x 1 : Int), .int .u64 (wd x 2 : Int), .int .u64 (wd x 3 : Int)] 45, .blk p7 [.int .u64 0, .int .u64 0, .int .u64 0, .int .u64 0] 45] w8 := H10
  refine GL.sem (j := 2) (r9) [1, 2, 4] [(1, .int .i64 (r : Int)), (2, pt p3 0), (4, pt p7 0)] (by kernel_rfl) (by kernel_rfl) rfl ?_
  refine GL.k rfl hK2 (fun _ _ h => h) ?_
  refine G.seqK fun K11 hK12 => ?_
  refine G.block ?_
  refine G.seqK fun K13 hK14 => ?_
  refine G.region ?_
  refine GL.run (j := 3) 3 [1, 2, 4, 12] [(1, .int .i64 (r : Int)), (2, pt p3 0), (4, pt p7 0), (12, .bool (decide ((r : Int) ≤ (-256))))] (by kernel_rfl) rfl ?_
  have hb15 : (decide ((r : Int) ≤ (-256))) = false := decide_eq_false (by omega)
  rw [hb15]
  refine GL.run (j := 7) 4 [1, 2, 4, 9] [(1, .int .i64 (r : Int)), (2, pt p3 0), (4, pt p7 0), (9, .bool (decide (256 ≤ (r : Int))))] (by kernel_rfl) rfl ?_
  refine GL.k rfl hK14 (fun _ _ h => h) ?_
  have hb16 : (decide (256 ≤ (r : Int))) = false := decide_eq_false (by omega)
  rw [hb16]
  refine G.no rfl ?_
  refine G.seqK fun K17 hK18 => ?_
  refine G.region ?_
  refine GL.run (j := 3) 3 [1, 2, 4, 17] [(1, .int .i64 (r : Int)), (2, pt p3 0), (4, pt p7 0), (17, .bool (decide ((r : Int) < 0)))] (by kernel_rfl) rfl ?_
  refine GL.k rfl hK18 (fun _ _ h => h) ?_
  have hb19 : (decide ((r : Int) < 0)) = false := decide_eq_false (by omega)
  rw [hb19]
  refine G.no rfl ?_
  refine G.skipK hK12 (fun _ _ h => h) ?_
  refine G.seqK fun K20 hK21 => ?_
  refine G.region ?_
  obtain ⟨p22, w23, r24, H25⟩ := H10.alloc (P := Tryd.prog) 45 [.int .u64 0, .int .u64 0, .int .u64 0, .int .u64 0] (by kernel_rfl)
  have H25 : Hp w [] [.blk p3 [.int .u64 (wd x 0 : Int), .int .u64 (wd x 1 : Int), .int .u64 (wd x 2 : Int), .int .u64 (wd x 3 : Int)] 45, .blk p7 [.int .u64 0, .int .u64 0, .int .u64 0, .int .u64 0] 45, .blk p22 [.int .u64 0, .int .u64 0, .int .u64 0, .int .u64 0] 45] w23 := H25
  refine GL.sem (j := 1) (r24) [1, 2, 4, 5] [(1, .int .i64 (r : Int)), (2, pt p3 0), (4, pt p7 0), (5, pt p22 0)] (by kernel_rfl) (by kernel_rfl) rfl ?_
  refine GL.k rfl hK21 (fun _ _ h => h) ?_
  refine G.seqK fun K26 hK27 => ?_
  refine G.region ?_
  refine GL.run (j := 1) 1 [1, 2, 4, 5, 24] [(1, .int .i64 (r : Int)), (2, pt p3 0), (4, pt p7 0), (5, pt p22 0), (24, .int .i64 (r : Int))] (by kernel_rfl) rfl ?_
  refine GL.sem (j := 2) (run_quo64 (P := Tryd.prog) (t := 3) (n := r) (q := 0) (r := r) (by omega) hr (by omega) _) [1, 2, 4, 5, 25] [(1, .int .i64 (r : Int)), (2, pt p3 0), (4, pt p7 0), (5, pt p22 0), (25, .int .i64 0)] (by kernel_rfl) (by kernel_rfl) rfl ?_
  refine GL.run (j := 3) 1 [2, 4, 5, 25, 26] [(2, pt p3 0), (4, pt p7 0), (5, pt p22 0), (25, .int .i64 0), (26, .int .i64 (r : Int))] (by kernel_rfl) rfl ?_
  refine GL.sem (j := 4) (run_rem64 (P := Tryd.prog) (t := 3) (n := r) (q := 0) (r := r) (by omega) hr _) [2, 4, 5, 25, 27] [(2, pt p3 0), (4, pt p7 0), (5, pt p22 0), (25, .int .i64 0), (27, .int .i64 (r : Int))] (by kernel_rfl) (by kernel_rfl) rfl ?_
  refine GL.run (j := 6) 2 [2, 4, 5, 6, 7] [(2, pt p3 0), (4, pt p7 0), (5, pt p22 0), (6, .int .i64 0), (7, .int .i64 (r : Int))] (by kernel_rfl) rfl ?_
  refine GL.k rfl hK27 (fun _ _ h => h) ?_
  refine G.seqK fun K28 hK29 => ?_
  refine G.seqK fun K30 hK31 => ?_
  refine G.region ?_
  refine GL.run (j := 2) 2 [2, 4, 5, 6, 7, 8] [(2, pt p3 0), (4, pt p7 0), (5, pt p22 0), (6, .int .i64 0), (7, .int .i64 (r : Int)), (8, .int .i64 0)] (by kernel_rfl) rfl ?_
  refine GL.k rfl hK31 (fun _ _ h => h) ?_
  refine G.block ?_
  refine G.unroll 5 ?_
  refine G.seqK fun K32 hK33 => ?_
  refine G.seqK fun K34 hK35 => ?_
  refine G.region ?_
  refine GL.run (j := 2) 2 [2, 4, 5, 6, 7, 8, 30] [(2, pt p3 0), (4, pt p7 0), (5, pt p22 0), (6, .int .i64 0), (7, .int .i64 (r : Int)), (8, .int .i64 0), (30, .bool true)] (by kernel_rfl) rfl ?_
  refine GL.k rfl hK35 (fun _ _ h => h) ?_
  refine G.yes rfl ?_
  refine G.skipK hK33 (fun _ _ h => h) ?_
  refine G.seqK fun K36 hK37 => ?_
  refine G.block ?_
  refine G.seqK fun K38 hK39 => ?_
  refine G.region ?_
  refine GL.run (j := 5) 5 [2, 4, 5, 6, 7, 8, 33, 37] [(2, pt p3 0), (4, pt p7 0), (5, pt p22 0), (6, .int .i64 0), (7, .int .i64 (r : Int)), (8, .int .i64 0), (33, .int .i64 0), (37, pt p3 0)] (by kernel_rfl) rfl ?_
  refine GL.sem (j := 6) (H25.ld (o := 0) (ty := 22) (v := .int .u64 (wd x 0 : Int)) 0 rfl (by kernel_rfl) rfl) [2, 4, 5, 6, 7, 8, 33, 38] [(2, pt p3 0), (4, pt p7 0), (5, pt p22 0), (6, .int .i64 0), (7, .int .i64 (r : Int)), (8, .int .i64 0), (33, .int .i64 0), (38, .int .u64 (wd x 0 : Int))] (by kernel_rfl) (by kernel_rfl) rfl ?_
  refine GL.run (j := 7) 1 [2, 4, 5, 6, 7, 8, 33, 38, 39] [(2, pt p3 0), (4, pt p7 0), (5, pt p22 0), (6, .int .i64 0), (7, .int .i64 (r : Int)), (8, .int .i64 0), (33, .int .i64 0), (38, .int .u64 (wd x 0 : Int)), (39, .int .i64 (r : Int))] (by kernel_rfl) rfl ?_
  refine GL.sem (j := 8) (run_shlN (P := Tryd.prog) (k' := .i64) (t := 22) (a := (wd x 0)) (r := r) (by omega) _) [2, 4, 5, 6, 7, 8, 33, 40] [(2, pt p3 0), (4, pt p7 0), (5, pt p22 0), (6, .int .i64 0), (7, .int .i64 (r : Int)), (8, .int .i64 0), (33, .int .i64 0), (40, .int .u64 (((wd x 0) * 2 ^ r % K : Nat) : Int))] (by kernel_rfl) (by kernel_rfl) rfl ?_
  refine GL.run (j := 9) 1 [2, 4, 5, 6, 7, 8, 40, 41] [(2, pt p3 0), (4, pt p7 0), (5, pt p22 0), (6, .int .i64 0), (7, .int .i64 (r : Int)), (8, .int .i64 0), (40, .int .u64 (((wd x 0) * 2 ^ r % K : Nat) : Int)), (41, pt p22 0)] (by kernel_rfl) rfl ?_
  obtain ⟨w40, r41, H42⟩ := H25.st (P := Tryd.prog) (o := 0) (ty := 22) (v := .int .u64 (((wd x 0) * 2 ^ r % K : Nat) : Int)) 2 rfl (by kernel_rfl) (by simp) rfl
  have H42 : Hp w [] [.blk p3 [.int .u64 (wd x 0 : Int), .int .u64 (wd x 1 : Int), .int .u64 (wd x 2 : Int), .int .u64 (wd x 3 : Int)] 45, .blk p7 [.int .u64 0, .int .u64 0, .int .u64 0, .int .u64 0] 45, .blk p22 [.int .u64 (((wd x 0) * 2 ^ r % K : Nat) : Int), .int .u64 0, .int .u64 0, .int .u64 0] 45] w40 := H42
  refine GL.semU (j := 10) r41 [2, 4, 5, 6, 7, 8] [(2, pt p3 0), (4, pt p7 0), (5, pt p22 0), (6, .int .i64 0), (7, .int .i64 (r : Int)), (8, .int .i64 0)] (by kernel_rfl) rfl rfl rfl ?_
  refine GL.k rfl hK39 (fun _ _ h => h) ?_
  refine G.seqK fun K43 hK44 => ?_
  refine G.region ?_
  refine GL.run (j := 7) 7 [2, 4, 5, 6, 7, 8, 48] [(2, pt p3 0), (4, pt p7 0), (5, pt p22 0), (6, .int .i64 0), (7, .int .i64 (r : Int)), (8, .int .i64 0), (48, .bool false)] (by kernel_rfl) rfl ?_
  refine GL.k rfl hK44 (fun _ _ h => h) ?_
  refine G.no rfl ?_
  refine G.skipK hK37 (fun _ _ h => h) ?_
  refine G.region ?_
  refine GL.run (j := 3) 3 [2, 4, 5, 6, 7, 8] [(2, pt p3 0), (4, pt p7 0), (5, pt p22 0), (6, .int .i64 0), (7, .int .i64 (r : Int)), (8, .int .i64 1)] (by kernel_rfl) rfl ?_
  refine GL.round rfl ?_
  refine G.seqK fun K45 hK46 => ?_
  refine G.seqK fun K47 hK48 => ?_
  refine G.region ?_
  refine GL.run (j := 2) 2 [2, 4, 5, 6, 7, 8, 30] [(2, pt p3 0), (4, pt p7 0), (5, pt p22 0), (6, .int .i64 0), (7, .int .i64 (r : Int)), (8, .int .i64 1), (30, .bool true)] (by kernel_rfl) rfl ?_
  refine GL.k rfl hK48 (fun _ _ h => h) ?_
  refine G.yes rfl ?_
  refine G.skipK hK46 (fun _ _ h => h) ?_
  refine G.seqK fun K49 hK50 => ?_
  refine G.block ?_
  refine G.seqK fun K51 hK52 => ?_
  refine G.region ?_
  refine GL.run (j := 5) 5 [2, 4, 5, 6, 7, 8, 33, 37] [(2, pt p3 0), (4, pt p7 0), (5, pt p22 0), (6, .int .i64 0), (7, .int .i64 (r : Int)), (8, .int .i64 1), (33, .int .i64 1), (37, pt p3 1)] (by kernel_rfl) rfl ?_
  refine GL.sem (j := 6) (H42.ld (o := 1) (ty := 22) (v := .int .u64 (wd x 1 : Int)) 0 rfl (by kernel_rfl) rfl) [2, 4, 5, 6, 7, 8, 33, 38] [(2, pt p3 0), (4, pt p7 0), (5, pt p22 0), (6, .int .i64 0), (7, .int .i64 (r : Int)), (8, .int .i64 1), (33, .int .i64 1), (38, .int .u64 (wd x 1 : Int))] (by kernel_rfl) (by kernel_rfl) rfl ?_
  refine GL.run (j := 7) 1 [2, 4, 5, 6, 7, 8, 33, 38, 39] [(2, pt p3 0), (4, pt p7 0), (5, pt p22 0), (6, .int .i64 0), (7, .int .i64 (r : Int)), (8, .int .i64 1), (33, .int .i64 1), (38, .int .u64 (wd x 1 : Int)), (39, .int .i64 (r : Int))] (by kernel_rfl) rfl ?_
  refine GL.sem (j := 8) (run_shlN (P := Tryd.prog) (k' := .i64) (t := 22) (a := (wd x 1)) (r := r) (by omega) _) [2, 4, 5, 6, 7, 8, 33, 40] [(2, pt p3 0), (4, pt p7 0), (5, pt p22 0), (6, .int .i64 0), (7, .int .i64 (r : Int)), (8, .int .i64 1), (33, .int .i64 1), (40, .int .u64 (((wd x 1) * 2 ^ r % K : Nat) : Int))] (by kernel_rfl) (by kernel_rfl) rfl ?_
  refine GL.run (j := 9) 1 [2, 4, 5, 6, 7, 8, 40, 41] [(2, pt p3 0), (4, pt p7 0), (5, pt p22 0), (6, .int .i64 0), (7, .int .i64 (r : Int)), (8, .int .i64 1), (40, .int .u64 (((wd x 1) * 2 ^ r % K : Nat) : Int)), (41, pt p22 1)] (by kernel_rfl) rfl ?_
  obtain ⟨w53, r54, H55⟩ := H42.st (P := Tryd.prog) (o := 1) (ty := 22) (v := .int .u64 (((wd x 1) * 2 ^ r % K : Nat) : Int)) 2 rfl (by kernel_rfl) (by simp) rfl
  have H55 : Hp w [] [.blk p3 [.int .u64 (wd x 0 : Int), .int .u64 (wd x 1 : Int), .int .u64 (wd x 2 : Int), .int .u64 (wd x 3 : Int)] 45, .blk p7 [.int .u64 0, .int .u64 0, .int .u64 0, .int .u64 0] 45, .blk p22 [.int .u64 (((wd x 0) * 2 ^ r % K : Nat) : Int), .int .u64 (((wd x 1) * 2 ^ r % K : Nat) : Int), .int .u64 0, .int .u64 0] 45] w53 := H55
  refine GL.semU (j := 10) r54 [2, 4, 5, 6, 7, 8] [(2, pt p3 0), (4, pt p7 0), (5, pt p22 0), (6, .int .i64 0), (7, .int .i64 (r : Int)), (8, .int .i64 1)] (by kernel_rfl) rfl rfl rfl ?_
  refine GL.k rfl hK52 (fun _ _ h => h) ?_
  refine G.seqK fun K56 hK57 => ?_
  refine G.region ?_
  refine GL.run (j := 7) 7 [2, 4, 5, 6, 7, 8, 48] [(2, pt p3 0), (4, pt p7 0), (5, pt p22 0), (6, .int .i64 0), (7, .int .i64 (r : Int)), (8, .int .i64 1), (48, .bool (decide (0 < (r : Int))))] (by kernel_rfl) rfl ?_
  refine GL.k rfl hK57 (fun _ _ h => h) ?_
  cases hb58 : (decide (0 < (r : Int)))
  · skip
    have hb58f := of_decide_eq_false hb58
    refine G.no rfl ?_
    refine G.skipK hK50 (fun _ _ h => h) ?_
    refine G.region ?_
    refine GL.run (j := 3) 3 [2, 4, 5, 6, 7, 8] [(2, pt p3 0), (4, pt p7 0), (5, pt p22 0), (6, .int .i64 0), (7, .int .i64 (r : Int)), (8, .int .i64 2)] (by kernel_rfl) rfl ?_
    refine GL.round rfl ?_
    refine G.seqK fun K59 hK60 => ?_
    refine G.seqK fun K61 hK62 => ?_
    refine G.region ?_
    refine GL.run (j := 2) 2 [2, 4, 5, 6, 7, 8, 30] [(2, pt p3 0), (4, pt p7 0), (5, pt p22 0), (6, .int .i64 0), (7, .int .i64 (r : Int)), (8, .int .i64 2), (30, .bool true)] (by kernel_rfl) rfl ?_
    refine GL.k rfl hK62 (fun _ _ h => h) ?_
    refine G.yes rfl ?_
    refine G.skipK hK60 (fun _ _ h => h) ?_
    refine G.seqK fun K63 hK64 => ?_
    refine G.block ?_
    refine G.seqK fun K65 hK66 => ?_
    refine G.region ?_
    refine GL.run (j := 5) 5 [2, 4, 5, 6, 7, 8, 33, 37] [(2, pt p3 0), (4, pt p7 0), (5, pt p22 0), (6, .int .i64 0), (7, .int .i64 (r : Int)), (8, .int .i64 2), (33, .int .i64 2), (37, pt p3 2)] (by kernel_rfl) rfl ?_
    refine GL.sem (j := 6) (H55.ld (o := 2) (ty := 22) (v := .int .u64 (wd x 2 : Int)) 0 rfl (by kernel_rfl) rfl) [2, 4, 5, 6, 7, 8, 33, 38] [(2, pt p3 0), (4, pt p7 0), (5, pt p22 0), (6, .int .i64 0), (7, .int .i64 (r : Int)), (8, .int .i64 2), (33, .int .i64 2), (38, .int .u64 (wd x 2 : Int))] (by kernel_rfl) (by kernel_rfl) rfl ?_
    refine GL.run (j := 7) 1 [2, 4, 5, 6, 7, 8, 33, 38, 39] [(2, pt p3 0), (4, pt p7 0), (5, pt p22 0), (6, .int .i64 0), (7, .int .i64 (r : Int)), (8, .int .i64 2), (33, .int .i64 2), (38, .int .u64 (wd x 2 : Int)), (39, .int .i64 (r : Int))] (by kernel_rfl) rfl ?_
    refine GL.sem (j := 8) (run_shlN (P := Tryd.prog) (k' := .i64) (t := 22) (a := (wd x 2)) (r := r) (by omega) _) [2, 4, 5, 6, 7, 8, 33, 40] [(2, pt p3 0), (4, pt p7 0), (5, pt p22 0), (6, .int .i64 0), (7, .int .i64 (r : Int)), (8, .int .i64 2), (33, .int .i64 2), (40, .int .u64 (((wd x 2) * 2 ^ r % K : Nat) : Int))] (by kernel_rfl) (by kernel_rfl) rfl ?_
    refine GL.run (j := 9) 1 [2, 4, 5, 6, 7, 8, 40, 41] [(2, pt p3 0), (4, pt p7 0), (5, pt p22 0), (6, .int .i64 0), (7, .int .i64 (r : Int)), (8, .int .i64 2), (40, .int .u64 (((wd x 2) * 2 ^ r % K : Nat) : Int)), (41, pt p22 2)] (by kernel_rfl) rfl ?_
    obtain ⟨w67, r68, H69⟩ := H55.st (P := Tryd.prog) (o := 2) (ty := 22) (v := .int .u64 (((wd x 2) * 2 ^ r % K : Nat) : Int)) 2 rfl (by kernel_rfl) (by simp) rfl
    have H69 : Hp w [] [.blk p3 [.int .u64 (wd x 0 : Int), .int .u64 (wd x 1 : Int), .int .u64 (wd x 2 : Int), .int .u64 (wd x 3 : Int)] 45, .blk p7 [.int .u64 0, .int .u64 0, .int .u64 0, .int .u64 0] 45, .blk p22 [.int .u64 (((wd x 0) * 2 ^ r % K : Nat) : Int), .int .u64 (((wd x 1) * 2 ^ r % K : Nat) : Int), .int .u64 (((wd x 2) * 2 ^ r % K : Nat) : Int), .int .u64 0] 45] w67 := H69
    refine GL.semU (j := 10) r68 [2, 4, 5, 6, 7, 8] [(2, pt p3 0), (4, pt p7 0), (5, pt p22 0), (6, .int .i64 0), (7, .int .i64 (r : Int)), (8, .int .i64 2)] (by kernel_rfl) rfl rfl rfl ?_
    refine GL.k rfl hK66 (fun _ _ h => h) ?_
    refine G.seqK fun K70 hK71 => ?_
    refine G.region ?_
    refine GL.run (j := 7) 7 [2, 4, 5, 6, 7, 8, 48] [(2, pt p3 0), (4, pt p7 0), (5, pt p22 0), (6, .int .i64 0), (7, .int .i64 (r : Int)), (8, .int .i64 2), (48, .bool (decide (0 < (r : Int))))] (by kernel_rfl) rfl ?_
    refine GL.k rfl hK71 (fun _ _ h => h) ?_
    have hb72 : (decide (0 < (r : Int))) = false := by assumption
    rw [hb72]
    refine G.no rfl ?_
    refine G.skipK hK64 (fun _ _ h => h) ?_
    refine G.region ?_
    refine GL.run (j := 3) 3 [2, 4, 5, 6, 7, 8] [(2, pt p3 0), (4, pt p7 0), (5, pt p22 0), (6, .int .i64 0), (7, .int .i64 (r : Int)), (8, .int .i64 3)] (by kernel_rfl) rfl ?_
    refine GL.round rfl ?_
    refine G.seqK fun K73 hK74 => ?_
    refine G.seqK fun K75 hK76 => ?_
    refine G.region ?_
    refine GL.run (j := 2) 2 [2, 4, 5, 6, 7, 8, 30] [(2, pt p3 0), (4, pt p7 0), (5, pt p22 0), (6, .int .i64 0), (7, .int .i64 (r : Int)), (8, .int .i64 3), (30, .bool true)] (by kernel_rfl) rfl ?_
    refine GL.k rfl hK76 (fun _ _ h => h) ?_
    refine G.yes rfl ?_
    refine G.skipK hK74 (fun _ _ h => h) ?_
    refine G.seqK fun K77 hK78 => ?_
    refine G.block ?_
    refine G.seqK fun K79 hK80 => ?_
    refine G.region ?_
    refine GL.run (j := 5) 5 [2, 4, 5, 6, 7, 8, 33, 37] [(2, pt p3 0), (4, pt p7 0), (5, pt p22 0), (6, .int .i64 0), (7, .int .i64 (r : Int)), (8, .int .i64 3), (33, .int .i64 3), (37, pt p3 3)] (by kernel_rfl) rfl ?_
    refine GL.sem (j := 6) (H69.ld (o := 3) (ty := 22) (v := .int .u64 (wd x 3 : Int)) 0 rfl (by kernel_rfl) rfl) [2, 4, 5, 6, 7, 8, 33, 38] [(2, pt p3 0), (4, pt p7 0), (5, pt p22 0), (6, .int .i64 0), (7, .int .i64 (r : Int)), (8, .int .i64 3), (33, .int .i64 3), (38, .int .u64 (wd x 3 : Int))] (by kernel_rfl) (by kernel_rfl) rfl ?_
    refine GL.run (j := 7) 1 [2, 4, 5, 6, 7, 8, 33, 38, 39] [(2, pt p3 0), (4, pt p7 0), (5, pt p22 0), (6, .int .i64 0), (7, .int .i64 (r : Int)), (8, .int .i64 3), (33, .int .i64 3), (38, .int .u64 (wd x 3 : Int)), (39, .int .i64 (r : Int))] (by kernel_rfl) rfl ?_
    refine GL.sem (j := 8) (run_shlN (P := Tryd.prog) (k' := .i64) (t := 22) (a := (wd x 3)) (r := r) (by omega) _) [2, 4, 5, 6, 7, 8, 33, 40] [(2, pt p3 0), (4, pt p7 0), (5, pt p22 0), (6, .int .i64 0), (7, .int .i64 (r : Int)), (8, .int .i64 3), (33, .int .i64 3), (40, .int .u64 (((wd x 3) * 2 ^ r % K : Nat) : Int))] (by kernel_rfl) (by kernel_rfl) rfl ?_
    refine GL.run (j := 9) 1 [2, 4, 5, 6, 7, 8, 40, 41] [(2, pt p3 0), (4, pt p7 0), (5, pt p22 0), (6, .int .i64 0), (7, .int .i64 (r : Int)), (8, .int .i64 3), (40, .int .u64 (((wd x 3) * 2 ^ r % K : Nat) : Int)), (41, pt p22 3)] (by kernel_rfl) rfl ?_
    obtain ⟨w81, r82, H83⟩ := H69.st (P := Tryd.prog) (o := 3) (ty := 22) (v := .int .u64 (((wd x 3) * 2 ^ r % K : Nat) : Int)) 2 rfl (by kernel_rfl) (by simp) rfl
    have H83 : Hp w [] [.blk p3 [.int .u64 (wd x 0 : Int), .int .u64 (wd x 1 : Int), .int .u64 (wd x 2 : Int), .int .u64 (wd x 3 : Int)] 45, .blk p7 [.int .u64 0, .int .u64 0, .int .u64 0, .int .u64 0] 45, .blk p22 [.int .u64 (((wd x 0) * 2 ^ r % K : Nat) : Int), .int .u64 (((wd x 1) * 2 ^ r % K : Nat) : Int), .int .u64 (((wd x 2) * 2 ^ r % K : Nat) : Int), .int .u64 (((wd x 3) * 2 ^ r % K : Nat) : Int)] 45] w81 := H83
    refine GL.semU (j := 10) r82 [2, 4, 5, 6, 7, 8] [(2, pt p3 0), (4, pt p7 0), (5, pt p22 0), (6, .int .i64 0), (7, .int .i64 (r : Int)), (8, .int .i64 3)] (by kernel_rfl) rfl rfl rfl ?_
    refine GL.k rfl hK80 (fun _ _ h => h) ?_
    refine G.seqK fun K84 hK85 => ?_
    refine G.region ?_
    refine GL.run (j := 7) 7 [2, 4, 5, 6, 7, 8, 48] [(2, pt p3 0), (4, pt p7 0), (5, pt p22 0), (6, .int .i64 0), (7, .int .i64 (r : Int)), (8, .int .i64 3), (48, .bool (decide (0 < (r : Int))))] (by kernel_rfl) rfl ?_
    refine GL.k rfl hK85 (fun _ _ h => h) ?_
    have hb86 : (decide (0 < (r : Int))) = false := by assumption
    rw [hb86]
    refine G.no rfl ?_
    refine G.skipK hK78 (fun _ _ h => h) ?_
    refine G.region ?_
    refine GL.run (j := 3) 3 [2, 4, 5, 6, 7, 8] [(2, pt p3 0), (4, pt p7 0), (5, pt p22 0), (6, .int .i64 0), (7, .int .i64 (r : Int)), (8, .int .i64 4)] (by kernel_rfl) rfl ?_
    refine GL.round rfl ?_
    refine G.seqK fun K87 hK88 => ?_
    refine G.seqK fun K89 hK90 => ?_
    refine G.region ?_
    refine GL.run (j := 2) 2 [2, 4, 5, 6, 7, 8, 30] [(2, pt p3 0), (4, pt p7 0), (5, pt p22 0), (6, .int .i64 0), (7, .int .i64 (r : Int)), (8, .int .i64 4), (30, .bool false)] (by kernel_rfl) rfl ?_
    refine GL.k rfl hK90 (fun _ _ h => h) ?_
    refine G.no rfl ?_
    refine G.exitK hK29 (fun _ _ h => h) ?_
    refine G.seqK fun K91 hK92 => ?_
    refine G.region ?_
    refine GL.sem (j := 1) (H83.ldA (o := 0) (ty := 45) (m := 4) (sub := [.int .u64 (((wd x 0) * 2 ^ r % K : Nat) : Int), .int .u64 (((wd x 1) * 2 ^ r % K : Nat) : Int), .int .u64 (((wd x 2) * 2 ^ r % K : Nat) : Int), .int .u64 (((wd x 3) * 2 ^ r % K : Nat) : Int)]) 2 rfl (by kernel_rfl) rfl rfl) [4, 63] [(4, pt p7 0), (63, .agg #[.int .u64 (((wd x 0) * 2 ^ r % K : Nat) : Int), .int .u64 (((wd x 1) * 2 ^ r % K : Nat) : Int), .int .u64 (((wd x 2) * 2 ^ r % K : Nat) : Int), .int .u64 (((wd x 3) * 2 ^ r % K : Nat) : Int)])] (by kernel_rfl) (by kernel_rfl) rfl ?_
    obtain ⟨w93, r94, H95⟩ := H83.stA (P := Tryd.prog) (o := 0) (vs := [.int .u64 (((wd x 0) * 2 ^ r % K : Nat) : Int), .int .u64 (((wd x 1) * 2 ^ r % K : Nat) : Int), .int .u64 (((wd x 2) * 2 ^ r % K : Nat) : Int), .int .u64 (((wd x 3) * 2 ^ r % K : Nat) : Int)]) (ty := 45) (m := 4) 1 rfl (by kernel_rfl) rfl (by simp) (by simp [Value.oneCell'])
    have H95 : Hp w [] [.blk p3 [.int .u64 (wd x 0 : Int), .int .u64 (wd x 1 : Int), .int .u64 (wd x 2 : Int), .int .u64 (wd x 3 : Int)] 45, .blk p7 [.int .u64 (((wd x 0) * 2 ^ r % K : Nat) : Int), .int .u64 (((wd x 1) * 2 ^ r % K : Nat) : Int), .int .u64 (((wd x 2) * 2 ^ r % K : Nat) : Int), .int .u64 (((wd x 3) * 2 ^ r % K : Nat) : Int)] 45, .blk p22 [.int .u64 (((wd x 0) * 2 ^ r % K : Nat) : Int), .int .u64 (((wd x 1) * 2 ^ r % K : Nat) : Int), .int .u64 (((wd x 2) * 2 ^ r % K : Nat) : Int), .int .u64 (((wd x 3) * 2 ^ r % K : Nat) : Int)] 45] w93 := H95
    refine GL.semU (j := 2) r94 [4] [(4, pt p7 0)] (by kernel_rfl) rfl rfl rfl ?_
    refine GL.k rfl hK92 (fun _ _ h => h) ?_
    refine G.ret ?_
    intro F_ hF_ hM_
    refine hRet _ _ (bodyPost_1 rfl (RV.cell rfl (H95.ldA (o := 0) (ty := 45) (m := 4) (sub := [.int .u64 (((wd x 0) * 2 ^ r % K : Nat) : Int), .int .u64 (((wd x 1) * 2 ^ r % K : Nat) : Int), .int .u64 (((wd x 2) * 2 ^ r % K : Nat) : Int), .int .u64 (((wd x 3) * 2 ^ r % K : Nat) : Int)]) 1 rfl (by kernel_rfl) rfl rfl)) ?_ F_ hF_ hM_)
    rw [← left_fin0' hx (show r = 0 by omega)]
    exact ⟨rfl, H95.sub (List.nil_sublist _)⟩
  · skip
    have hb58f := of_decide_eq_true hb58
    refine G.yes rfl ?_
    refine G.tail 14 (by kernel_rfl) (by kernel_rfl) ?_
    have H96 := H55.drew
    generalize ({ w53 with drawn := w53.drawn + 1 } : World) = w97 at H96 ⊢
    refine GS.run (j := 2) 2 [2, 4, 5, 6, 7, 8, 49, 50] [(2, pt p3 0), (4, pt p7 0), (5, pt p22 0), (6, .int .i64 0), (7, .int .i64 (r : Int)), (8, .int .i64 1), (49, .int .i64 1), (50, pt p22 1)] (by kernel_rfl) rfl rfl ?_
    refine GS.sem (j := 3) (H96.ld (o := 1) (ty := 22) (v := .int .u64 (((wd x 1) * 2 ^ r % K : Nat) : Int)) 2 rfl (by kernel_rfl) rfl) [2, 4, 5, 6, 7, 8, 49, 51] [(2, pt p3 0), (4, pt p7 0), (5, pt p22 0), (6, .int .i64 0), (7, .int .i64 (r : Int)), (8, .int .i64 1), (49, .int .i64 1), (51, .int .u64 (((wd x 1) * 2 ^ r % K : Nat) : Int))] (by kernel_rfl) (by kernel_rfl) rfl rfl ?_
    refine GS.run (j := 8) 5 [2, 4, 5, 6, 7, 8, 49, 51, 56] [(2, pt p3 0), (4, pt p7 0), (5, pt p22 0), (6, .int .i64 0), (7, .int .i64 (r : Int)), (8, .int .i64 1), (49, .int .i64 1), (51, .int .u64 (((wd x 1) * 2 ^ r % K : Nat) : Int)), (56, pt p3 0)] (by kernel_rfl) rfl rfl ?_
    refine GS.sem (j := 9) (H96.ld (o := 0) (ty := 22) (v := .int .u64 (wd x 0 : Int)) 0 rfl (by kernel_rfl) rfl) [2, 4, 5, 6, 7, 8, 49, 51, 57] [(2, pt p3 0), (4, pt p7 0), (5, pt p22 0), (6, .int .i64 0), (7, .int .i64 (r : Int)), (8, .int .i64 1), (49, .int .i64 1), (51, .int .u64 (((wd x 1) * 2 ^ r % K : Nat) : Int)), (57, .int .u64 (wd x 0 : Int))] (by kernel_rfl) (by kernel_rfl) rfl rfl ?_
    refine GS.run (j := 11) 2 [2, 4, 5, 6, 7, 8, 49, 51, 57, 59] [(2, pt p3 0), (4, pt p7 0), (5, pt p22 0), (6, .int .i64 0), (7, .int .i64 (r : Int)), (8, .int .i64 1), (49, .int .i64 1), (51, .int .u64 (((wd x 1) * 2 ^ r % K : Nat) : Int)), (57, .int .u64 (wd x 0 : Int)), (59, .int .i64 (IntKind.i64.wrap (64 - (r : Int))))] (by kernel_rfl) rfl rfl ?_
    have e98 : (IntKind.i64.wrap (64 - (r : Int))) = ((64 - r : Nat) : Int) := by rw [in_i64 (by omega)]; omega
    refine GS.eq (M' := [(2, pt p3 0), (4, pt p7 0), (5, pt p22 0), (6, .int .i64 0), (7, .int .i64 (r : Int)), (8, .int .i64 1), (49, .int .i64 1), (51, .int .u64 (((wd x 1) * 2 ^ r % K : Nat) : Int)), (57, .int .u64 (wd x 0 : Int)), (59, .int .i64 ((64 - r : Nat) : Int))]) (by rw [e98]) ?_
    clear e98
    refine GS.sem (j := 12) (run_shrN (P := Tryd.prog) (k' := .i64) (t := 22) (a := (wd x 0)) (r := (64 - r)) (by omega) _) [2, 4, 5, 6, 7, 8, 49, 51, 60] [(2, pt p3 0), (4, pt p7 0), (5, pt p22 0), (6, .int .i64 0), (7, .int .i64 (r : Int)), (8, .int .i64 1), (49, .int .i64 1), (51, .int .u64 (((wd x 1) * 2 ^ r % K : Nat) : Int)), (60, .int .u64 (((wd x 0) / 2 ^ (64 - r) : Nat) : Int))] (by kernel_rfl) (by kernel_rfl) rfl rfl ?_
    refine GS.run (j := 14) 2 [2, 4, 5, 6, 7, 8, 61, 62] [(2, pt p3 0), (4, pt p7 0), (5, pt p22 0), (6, .int .i64 0), (7, .int .i64 (r : Int)), (8, .int .i64 1), (61, .int .u64 (Go.bits .or .u64 (((wd x 1) * 2 ^ r % K : Nat) : Int) (((wd x 0) / 2 ^ (64 - r) : Nat) : Int))), (62, pt p22 1)] (by kernel_rfl) rfl rfl ?_
    have e99 : (Go.bits .or .u64 (((wd x 1) * 2 ^ r % K : Nat) : Int) (((wd x 0) / 2 ^ (64 - r) : Nat) : Int)) = (((wd x 1) * 2 ^ r % K + (wd x 0) * 2 ^ r / K : Nat) : Int) := or_shift (wd_lt _ _) (by omega)
    refine GS.eq (M' := [(2, pt p3 0), (4, pt p7 0), (5, pt p22 0), (6, .int .i64 0), (7, .int .i64 (r : Int)), (8, .int .i64 1), (61, .int .u64 (((wd x 1) * 2 ^ r % K + (wd x 0) * 2 ^ r / K : Nat) : Int)), (62, pt p22 1)]) (by rw [e99]) ?_
    clear e99
    refine GS.tail rfl ?_
    obtain ⟨w100, r101, H102⟩ := H96.st (P := Tryd.prog) (o := 1) (ty := 22) (v := .int .u64 (((wd x 1) * 2 ^ r % K + (wd x 0) * 2 ^ r / K : Nat) : Int)) 2 rfl (by kernel_rfl) (by simp) rfl
    have H102 : Hp w [] [.blk p3 [.int .u64 (wd x 0 : Int), .int .u64 (wd x 1 : Int), .int .u64 (wd x 2 : Int), .int .u64 (wd x 3 : Int)] 45, .blk p7 [.int .u64 0, .int .u64 0, .int .u64 0, .int .u64 0] 45, .blk p22 [.int .u64 (((wd x 0) * 2 ^ r % K : Nat) : Int), .int .u64 (((wd x 1) * 2 ^ r % K + (wd x 0) * 2 ^ r / K : Nat) : Int), .int .u64 0, .int .u64 0] 45] w100 := H102
    refine GL.semU (j := 15) r101 [2, 4, 5, 6, 7, 8] [(2, pt p3 0), (4, pt p7 0), (5, pt p22 0), (6, .int .i64 0), (7, .int .i64 (r : Int)), (8, .int .i64 1)] (by kernel_rfl) rfl rfl rfl ?_
    refine GL.k rfl hK50 (fun _ _ h => h) ?_
    refine G.region ?_
    refine GL.run (j := 3) 3 [2, 4, 5, 6, 7, 8] [(2, pt p3 0), (4, pt p7 0), (5, pt p22 0), (6, .int .i64 0), (7, .int .i64 (r : Int)), (8, .int .i64 2)] (by kernel_rfl) rfl ?_
    refine GL.round rfl ?_
    refine G.seqK fun K103 hK104 => ?_
    refine G.seqK fun K105 hK106 => ?_
    refine G.region ?_
    refine GL.run (j := 2) 2 [2, 4, 5, 6, 7, 8, 30] [(2, pt p3 0), (4, pt p7 0), (5, pt p22 0), (6, .int .i64 0), (7, .int .i64 (r : Int)), (8, .int .i64 2), (30, .bool true)] (by kernel_rfl) rfl ?_
    refine GL.k rfl hK106 (fun _ _ h => h) ?_
    refine G.yes rfl ?_
    refine G.skipK hK104 (fun _ _ h => h) ?_
    refine G.seqK fun K107 hK108 => ?_
    refine G.block ?_
    refine G.seqK fun K109 hK110 => ?_
    refine G.region ?_
    refine GL.run (j := 5) 5 [2, 4, 5, 6, 7, 8, 33, 37] [(2, pt p3 0), (4, pt p7 0), (5, pt p22 0), (6, .int .i64 0), (7, .int .i64 (r : Int)), (8, .int .i64 2), (33, .int .i64 2), (37, pt p3 2)] (by kernel_rfl) rfl ?_
    refine GL.sem (j := 6) (H102.ld (o := 2) (ty := 22) (v := .int .u64 (wd x 2 : Int)) 0 rfl (by kernel_rfl) rfl) [2, 4, 5, 6, 7, 8, 33, 38] [(2, pt p3 0), (4, pt p7 0), (5, pt p22 0), (6, .int .i64 0), (7, .int .i64 (r : Int)), (8, .int .i64 2), (33, .int .i64 2), (38, .int .u64 (wd x 2 : Int))] (by kernel_rfl) (by kernel_rfl) rfl ?_
    refine GL.run (j := 7) 1 [2, 4, 5, 6, 7, 8, 33, 38, 39] [(2, pt p3 0), (4, pt p7 0), (5, pt p22 0), (6, .int .i64 0), (7, .int .i64 (r : Int)), (8, .int .i64 2), (33, .int .i64 2), (38, .int .u64 (wd x 2 : Int)), (39, .int .i64 (r : Int))] (by kernel_rfl) rfl ?_
    refine GL.sem (j := 8) (run_shlN (P := Tryd.prog) (k' := .i64) (t := 22) (a := (wd x 2)) (r := r) (by omega) _) [2, 4, 5, 6, 7, 8, 33, 40] [(2, pt p3 0), (4, pt p7 0), (5, pt p22 0), (6, .int .i64 0), (7, .int .i64 (r : Int)), (8, .int .i64 2), (33, .int .i64 2), (40, .int .u64 (((wd x 2) * 2 ^ r % K : Nat) : Int))] (by kernel_rfl) (by kernel_rfl) rfl ?_
    refine GL.run (j := 9) 1 [2, 4, 5, 6, 7, 8, 40, 41] [(2, pt p3 0), (4, pt p7 0), (5, pt p22 0), (6, .int .i64 0), (7, .int .i64 (r : Int)), (8, .int .i64 2), (40, .int .u64 (((wd x 2) * 2 ^ r % K : Nat) : Int)), (41, pt p22 2)] (by kernel_rfl) rfl ?_
    obtain ⟨w111, r112, H113⟩ := H102.st (P := Tryd.prog) (o := 2) (ty := 22) (v := .int .u64 (((wd x 2) * 2 ^ r % K : Nat) : Int)) 2 rfl (by kernel_rfl) (by simp) rfl
    have H113 : Hp w [] [.blk p3 [.int .u64 (wd x 0 : Int), .int .u64 (wd x 1 : Int), .int .u64 (wd x 2 : Int), .int .u64 (wd x 3 : Int)] 45, .blk p7 [.int .u64 0, .int .u64 0, .int .u64 0, .int .u64 0] 45, .blk p22 [.int .u64 (((wd x 0) * 2 ^ r % K : Nat) : Int), .int .u64 (((wd x 1) * 2 ^ r % K + (wd x 0) * 2 ^ r / K : Nat) : Int), .int .u64 (((wd x 2) * 2 ^ r % K : Nat) : Int), .int .u64 0] 45] w111 := H113
    refine GL.semU (j := 10) r112 [2, 4, 5, 6, 7, 8] [(2, pt p3 0), (4, pt p7 0), (5, pt p22 0), (6, .int .i64 0), (7, .int .i64 (r : Int)), (8, .int .i64 2)] (by kernel_rfl) rfl rfl rfl ?_
    refine GL.k rfl hK110 (fun _ _ h => h) ?_
    refine G.seqK fun K114 hK115 => ?_
    refine G.region ?_
    refine GL.run (j := 7) 7 [2, 4, 5, 6, 7, 8, 48] [(2, pt p3 0), (4, pt p7 0), (5, pt p22 0), (6, .int .i64 0), (7, .int .i64 (r : Int)), (8, .int .i64 2), (48, .bool (decide (0 < (r : Int))))] (by kernel_rfl) rfl ?_
    refine GL.k rfl hK115 (fun _ _ h => h) ?_
    have hb116 : (decide (0 < (r : Int))) = true := by assumption
    rw [hb116]
    refine G.yes rfl ?_
    refine G.tail 14 (by kernel_rfl) (by kernel_rfl) ?_
    have H117 := H113.drew
    generalize ({ w111 with drawn := w111.drawn + 1 } : World) = w118 at H117 ⊢
    refine GS.run (j := 2) 2 [2, 4, 5, 6, 7, 8, 49, 50] [(2, pt p3 0), (4, pt p7 0), (5, pt p22 0), (6, .int .i64 0), (7, .int .i64 (r : Int)), (8, .int .i64 2), (49, .int .i64 2), (50, pt p22 2)] (by kernel_rfl) rfl rfl ?_
    refine GS.sem (j := 3) (H117.ld (o := 2) (ty := 22) (v := .int .u64 (((wd x 2) * 2 ^ r % K : Nat) : Int)) 2 rfl (by kernel_rfl) rfl) [2, 4, 5, 6, 7, 8, 49, 51] [(2, pt p3 0), (4, pt p7 0), (5, pt p22 0), (6, .int .i64 0), (7, .int .i64 (r : Int)), (8, .int .i64 2), (49, .int .i64 2), (51, .int .u64 (((wd x 2) * 2 ^ r % K : Nat) : Int))] (by kernel_rfl) (by kernel_rfl) rfl rfl ?_
    refine GS.run (j := 8) 5 [2, 4, 5, 6, 7, 8, 49, 51, 56] [(2, pt p3 0), (4, pt p7 0), (5, pt p22 0), (6, .int .i64 0), (7, .int .i64 (r : Int)), (8, .int .i64 2), (49, .int .i64 2), (51, .int .u64 (((wd x 2) * 2 ^ r % K : Nat) : Int)), (56, pt p3 1)] (by kernel_rfl) rfl rfl ?_
    refine GS.sem (j := 9) (H117.ld (o := 1) (ty := 22) (v := .int .u64 (wd x 1 : Int)) 0 rfl (by kernel_rfl) rfl) [2, 4, 5, 6, 7, 8, 49, 51, 57] [(2, pt p3 0), (4, pt p7 0), (5, pt p22 0), (6, .int .i64 0), (7, .int .i64 (r : Int)), (8, .int .i64 2), (49, .int .i64 2), (51, .int .u64 (((wd x 2) * 2 ^ r % K : Nat) : Int)), (57, .int .u64 (wd x 1 : Int))] (by kernel_rfl) (by kernel_rfl) rfl rfl ?_
    refine GS.run (j := 11) 2 [2, 4, 5, 6, 7, 8, 49, 51, 57, 59] [(2, pt p3 0), (4, pt p7 0), (5, pt p22 0), (6, .int .i64 0), (7, .int .i64 (r : Int)), (8, .int .i64 2), (49, .int .i64 2), (51, .int .u64 (((wd x 2) * 2 ^ r % K : Nat) : Int)), (57, .int .u64 (wd x 1 : Int)), (59, .int .i64 (IntKind.i64.wrap (64 - (r : Int))))] (by kernel_rfl) rfl rfl ?_
    have e119 : (IntKind.i64.wrap (64 - (r : Int))) = ((64 - r : Nat) : Int) := by rw [in_i64 (by omega)]; omega
    refine GS.eq (M' := [(2, pt p3 0), (4, pt p7 0), (5, pt p22 0), (6, .int .i64 0), (7, .int .i64 (r : Int)), (8, .int .i64 2), (49, .int .i64 2), (51, .int .u64 (((wd x 2) * 2 ^ r % K : Nat) : Int)), (57, .int .u64 (wd x 1 : Int)), (59, .int .i64 ((64 - r : Nat) : Int))]) (by rw [e119]) ?_
    clear e119
    refine GS.sem (j := 12) (run_shrN (P := Tryd.prog) (k' := .i64) (t := 22) (a := (wd x 1)) (r := (64 - r)) (by omega) _) [2, 4, 5, 6, 7, 8, 49, 51, 60] [(2, pt p3 0), (4, pt p7 0), (5, pt p22 0), (6, .int .i64 0), (7, .int .i64 (r : Int)), (8, .int .i64 2), (49, .int .i64 2), (51, .int .u64 (((wd x 2) * 2 ^ r % K : Nat) : Int)), (60, .int .u64 (((wd x 1) / 2 ^ (64 - r) : Nat) : Int))] (by kernel_rfl) (by kernel_rfl) rfl rfl ?_
    refine GS.run (j := 14) 2 [2, 4, 5, 6, 7, 8, 61, 62] [(2, pt p3 0), (4, pt p7 0), (5, pt p22 0), (6, .int .i64 0), (7, .int .i64 (r : Int)), (8, .int .i64 2), (61, .int .u64 (Go.bits .or .u64 (((wd x 2) * 2 ^ r % K : Nat) : Int) (((wd x 1) / 2 ^ (64 - r) : Nat) : Int))), (62, pt p22 2)] (by kernel_rfl) rfl rfl ?_
    have e120 : (Go.bits .or .u64 (((wd x 2) * 2 ^ r % K : Nat) : Int) (((wd x 1) / 2 ^ (64 - r) : Nat) : Int)) = (((wd x 2) * 2 ^ r % K + (wd x 1) * 2 ^ r / K : Nat) : Int) := or_shift (wd_lt _ _) (by omega)
    refine GS.eq (M' := [(2, pt p3 0), (4, pt p7 0), (5, pt p22 0), (6, .int .i64 0), (7, .int .i64 (r : Int)), (8, .int .i64 2), (61, .int .u64 (((wd x 2) * 2 ^ r % K + (wd x 1) * 2 ^ r / K : Nat) : Int)), (62, pt p22 2)]) (by rw [e120]) ?_
    clear e120
    refine GS.tail rfl ?_
    obtain ⟨w121, r122, H123⟩ := H117.st (P := Tryd.prog) (o := 2) (ty := 22) (v := .int .u64 (((wd x 2) * 2 ^ r % K + (wd x 1) * 2 ^ r / K : Nat) : Int)) 2 rfl (by kernel_rfl) (by simp) rfl
    have H123 : Hp w [] [.blk p3 [.int .u64 (wd x 0 : Int), .int .u64 (wd x 1 : Int), .int .u64 (wd x 2 : Int), .int .u64 (wd x 3 : Int)] 45, .blk p7 [.int .u64 0, .int .u64 0, .int .u64 0, .int .u64 0] 45, .blk p22 [.int .u64 (((wd x 0) * 2 ^ r % K : Nat) : Int), .int .u64 (((wd x 1) * 2 ^ r % K + (wd x 0) * 2 ^ r / K : Nat) : Int), .int .u64 (((wd x 2) * 2 ^ r % K + (wd x 1) * 2 ^ r / K : Nat) : Int), .int .u64 0] 45] w121 := H123
    refine GL.semU (j := 15) r122 [2, 4, 5, 6, 7, 8] [(2, pt p3 0), (4, pt p7 0), (5, pt p22 0), (6, .int .i64 0), (7, .int .i64 (r : Int)), (8, .int .i64 2)] (by kernel_rfl) rfl rfl rfl ?_
    refine GL.k rfl hK108 (fun _ _ h => h) ?_
    refine G.region ?_
    refine GL.run (j := 3) 3 [2, 4, 5, 6, 7, 8] [(2, pt p3 0), (4, pt p7 0), (5, pt p22 0), (6, .int .i64 0), (7, .int .i64 (r : Int)), (8, .int .i64 3)] (by kernel_rfl) rfl ?_
    refine GL.round rfl ?_
    refine G.seqK fun K124 hK125 => ?_
    refine G.seqK fun K126 hK127 => ?_
    refine G.region ?_
    refine GL.run (j := 2) 2 [2, 4, 5, 6, 7, 8, 30] [(2, pt p3 0), (4, pt p7 0), (5, pt p22 0), (6, .int .i64 0), (7, .int .i64 (r : Int)), (8, .int .i64 3), (30, .bool true)] (by kernel_rfl) rfl ?_
    refine GL.k rfl hK127 (fun _ _ h => h) ?_
    refine G.yes rfl ?_
    refine G.skipK hK125 (fun _ _ h => h) ?_
    refine G.seqK fun K128 hK129 => ?_
    refine G.block ?_
    refine G.seqK fun K130 hK131 => ?_
    refine G.region ?_
    refine GL.run (j := 5) 5 [2, 4, 5, 6, 7, 8, 33, 37] [(2, pt p3 0), (4, pt p7 0), (5, pt p22 0), (6, .int .i64 0), (7, .int .i64 (r : Int)), (8, .int .i64 3), (33, .int .i64 3), (37, pt p3 3)] (by kernel_rfl) rfl ?_
    refine GL.sem (j := 6) (H123.ld (o := 3) (ty := 22) (v := .int .u64 (wd x 3 : Int)) 0 rfl (by kernel_rfl) rfl) [2, 4, 5, 6, 7, 8, 33, 38] [(2, pt p3 0), (4, pt p7 0), (5, pt p22 0), (6, .int .i64 0), (7, .int .i64 (r : Int)), (8, .int .i64 3), (33, .int .i64 3), (38, .int .u64 (wd x 3 : Int))] (by kernel_rfl) (by kernel_rfl) rfl ?_
    refine GL.run (j := 7) 1 [2, 4, 5, 6, 7, 8, 33, 38, 39] [(2, pt p3 0), (4, pt p7 0), (5, pt p22 0), (6, .int .i64 0), (7, .int .i64 (r : Int)), (8, .int .i64 3), (33, .int .i64 3), (38, .int .u64 (wd x 3 : Int)), (39, .int .i64 (r : Int))] (by kernel_rfl) rfl ?_
    refine GL.sem (j := 8) (run_shlN (P := Tryd.prog) (k' := .i64) (t := 22) (a := (wd x 3)) (r := r) (by omega) _) [2, 4, 5, 6, 7, 8, 33, 40] [(2, pt p3 0), (4, pt p7 0), (5, pt p22 0), (6, .int .i64 0), (7, .int .i64 (r : Int)), (8, .int .i64 3), (33, .int .i64 3), (40, .int .u64 (((wd x 3) * 2 ^ r % K : Nat) : Int))] (by kernel_rfl) (by kernel_rfl) rfl ?_
    refine GL.run (j := 9) 1 [2, 4, 5, 6, 7, 8, 40, 41] [(2, pt p3 0), (4, pt p7 0), (5, pt p22 0), (6, .int .i64 0), (7, .int .i64 (r : Int)), (8, .int .i64 3), (40, .int .u64 (((wd x 3) * 2 ^ r % K : Nat) : Int)), (41, pt p22 3)] (by kernel_rfl) rfl ?_
    obtain ⟨w132, r133, H134⟩ := H123.st (P := Tryd.prog) (o := 3) (ty := 22) (v := .int .u64 (((wd x 3) * 2 ^ r % K : Nat) : Int)) 2 rfl (by kernel_rfl) (by simp) rfl
    have H134 : Hp w [] [.blk p3 [.int .u64 (wd x 0 : Int), .int .u64 (wd x 1 : Int), .int .u64 (wd x 2 : Int), .int .u64 (wd x 3 : Int)] 45, .blk p7 [.int .u64 0, .int .u64 0, .int .u64 0, .int .u64 0] 45, .blk p22 [.int .u64 (((wd x 0) * 2 ^ r % K : Nat) : Int), .int .u64 (((wd x 1) * 2 ^ r % K + (wd x 0) * 2 ^ r / K : Nat) : Int), .int .u64 (((wd x 2) * 2 ^ r % K + (wd x 1) * 2 ^ r / K : Nat) : Int), .int .u64 (((wd x 3) * 2 ^ r % K : Nat) : Int)] 45] w132 := H134
    refine GL.semU (j := 10) r133 [2, 4, 5, 6, 7, 8] [(2, pt p3 0), (4, pt p7 0), (5, pt p22 0), (6, .int .i64 0), (7, .int .i64 (r : Int)), (8, .int .i64 3)] (by kernel_rfl) rfl rfl rfl ?_
    refine GL.k rfl hK131 (fun _ _ h => h) ?_
    refine G.seqK fun K135 hK136 => ?_
    refine G.region ?_
    refine GL.run (j := 7) 7 [2, 4, 5, 6, 7, 8, 48] [(2, pt p3 0), (4, pt p7 0), (5, pt p22 0), (6, .int .i64 0), (7, .int .i64 (r : Int)), (8, .int .i64 3), (48, .bool (decide (0 < (r : Int))))] (by kernel_rfl) rfl ?_
    refine GL.k rfl hK136 (fun _ _ h => h) ?_
    have hb137 : (decide (0 < (r : Int))) = true := by assumption
    rw [hb137]
    refine G.yes rfl ?_
    refine G.tail 14 (by kernel_rfl) (by kernel_rfl) ?_
    have H138 := H134.drew
    generalize ({ w132 with drawn := w132.drawn + 1 } : World) = w139 at H138 ⊢
    refine GS.run (j := 2) 2 [2, 4, 5, 6, 7, 8, 49, 50] [(2, pt p3 0), (4, pt p7 0), (5, pt p22 0), (6, .int .i64 0), (7, .int .i64 (r : Int)), (8, .int .i64 3), (49, .int .i64 3), (50, pt p22 3)] (by kernel_rfl) rfl rfl ?_
    refine GS.sem (j := 3) (H138.ld (o := 3) (ty := 22) (v := .int .u64 (((wd x 3) * 2 ^ r % K : Nat) : Int)) 2 rfl (by kernel_rfl) rfl) [2, 4, 5, 6, 7, 8, 49, 51] [(2, pt p3 0), (4, pt p7 0), (5, pt p22 0), (6, .int .i64 0), (7, .int .i64 (r : Int)), (8, .int .i64 3), (49, .int .i64 3), (51, .int .u64 (((wd x 3) * 2 ^ r % K : Nat) : Int))] (by kernel_rfl) (by kernel_rfl) rfl rfl ?_
    refine GS.run (j := 8) 5 [2, 4, 5, 6, 7, 8, 49, 51, 56] [(2, pt p3 0), (4, pt p7 0), (5, pt p22 0), (6, .int .i64 0), (7, .int .i64 (r : Int)), (8, .int .i64 3), (49, .int .i64 3), (51, .int .u64 (((wd x 3) * 2 ^ r % K : Nat) : Int)), (56, pt p3 2)] (by kernel_rfl) rfl rfl ?_
    refine GS.sem (j := 9) (H138.ld (o := 2) (ty := 22) (v := .int .u64 (wd x 2 : Int)) 0 rfl (by kernel_rfl) rfl) [2, 4, 5, 6, 7, 8, 49, 51, 57] [(2, pt p3 0), (4, pt p7 0), (5, pt p22 0), (6, .int .i64 0), (7, .int .i64 (r : Int)), (8, .int .i64 3), (49, .int .i64 3), (51, .int .u64 (((wd x 3) * 2 ^ r % K : Nat) : Int)), (57, .int .u64 (wd x 2 : Int))] (by kernel_rfl) (by kernel_rfl) rfl rfl ?_
    refine GS.run (j := 11) 2 [2, 4, 5, 6, 7, 8, 49, 51, 57, 59] [(2, pt p3 0), (4, pt p7 0), (5, pt p22 0), (6, .int .i64 0), (7, .int .i64 (r : Int)), (8, .int .i64 3), (49, .int .i64 3), (51, .int .u64 (((wd x 3) * 2 ^ r % K : Nat) : Int)), (57, .int .u64 (wd x 2 : Int)), (59, .int .i64 (IntKind.i64.wrap (64 - (r : Int))))] (by kernel_rfl) rfl rfl ?_
    have e140 : (IntKind.i64.wrap (64 - (r : Int))) = ((64 - r : Nat) : Int) := by rw [in_i64 (by omega)]; omega
    refine GS.eq (M' := [(2, pt p3 0), (4, pt p7 0), (5, pt p22 0), (6, .int .i64 0), (7, .int .i64 (r : Int)), (8, .int .i64 3), (49, .int .i64 3), (51, .int .u64 (((wd x 3) * 2 ^ r % K : Nat) : Int)), (57, .int .u64 (wd x 2 : Int)), (59, .int .i64 ((64 - r : Nat) : Int))]) (by rw [e140]) ?_
    clear e140
    refine GS.sem (j := 12) (run_shrN (P := Tryd.prog) (k' := .i64) (t := 22) (a := (wd x 2)) (r := (64 - r)) (by omega) _) [2, 4, 5, 6, 7, 8, 49, 51, 60] [(2, pt p3 0), (4, pt p7 0), (5, pt p22 0), (6, .int .i64 0), (7, .int .i64 (r : Int)), (8, .int .i64 3), (49, .int .i64 3), (51, .int .u64 (((wd x 3) * 2 ^ r % K : Nat) : Int)), (60, .int .u64 (((wd x 2) / 2 ^ (64 - r) : Nat) : Int))] (by kernel_rfl) (by kernel_rfl) rfl rfl ?_
    refine GS.run (j := 14) 2 [2, 4, 5, 6, 7, 8, 61, 62] [(2, pt p3 0), (4, pt p7 0), (5, pt p22 0), (6, .int .i64 0), (7, .int .i64 (r : Int)), (8, .int .i64 3), (61, .int .u64 (Go.bits .or .u64 (((wd x 3) * 2 ^ r % K : Nat) : Int) (((wd x 2) / 2 ^ (64 - r) : Nat) : Int))), (62, pt p22 3)] (by kernel_rfl) rfl rfl ?_
    have e141 : (Go.bits .or .u64 (((wd x 3) * 2 ^ r % K : Nat) : Int) (((wd x 2) / 2 ^ (64 - r) : Nat) : Int)) = (((wd x 3) * 2 ^ r % K + (wd x 2) * 2 ^ r / K : Nat) : Int) := or_shift (wd_lt _ _) (by omega)
    refine GS.eq (M' := [(2, pt p3 0), (4, pt p7 0), (5, pt p22 0), (6, .int .i64 0), (7, .int .i64 (r : Int)), (8, .int .i64 3), (61, .int .u64 (((wd x 3) * 2 ^ r % K + (wd x 2) * 2 ^ r / K : Nat) : Int)), (62, pt p22 3)]) (by rw [e141]) ?_
    clear e141
    refine GS.tail rfl ?_
    obtain ⟨w142, r143, H144⟩ := H138.st (P := Tryd.prog) (o := 3) (ty := 22) (v := .int .u64 (((wd x 3) * 2 ^ r % K + (wd x 2) * 2 ^ r / K : Nat) : Int)) 2 rfl (by kernel_rfl) (by simp) rfl
    have H144 : Hp w [] [.blk p3 [.int .u64 (wd x 0 : Int), .int .u64 (wd x 1 : Int), .int .u64 (wd x 2 : Int), .int .u64 (wd x 3 : Int)] 45, .blk p7 [.int .u64 0, .int .u64 0, .int .u64 0, .int .u64 0] 45, .blk p22 [.int .u64 (((wd x 0) * 2 ^ r % K : Nat) : Int), .int .u64 (((wd x 1) * 2 ^ r % K + (wd x 0) * 2 ^ r / K : Nat) : Int), .int .u64 (((wd x 2) * 2 ^ r % K + (wd x 1) * 2 ^ r / K : Nat) : Int), .int .u64 (((wd x 3) * 2 ^ r % K + (wd x 2) * 2 ^ r / K : Nat) : Int)] 45] w142 := H144
    refine GL.semU (j := 15) r143 [2, 4, 5, 6, 7, 8] [(2, pt p3 0), (4, pt p7 0), (5, pt p22 0), (6, .int .i64 0), (7, .int .i64 (r : Int)), (8, .int .i64 3)] (by kernel_rfl) rfl rfl rfl ?_
    refine GL.k rfl hK129 (fun _ _ h => h) ?_
    refine G.region ?_
    refine GL.run (j := 3) 3 [2, 4, 5, 6, 7, 8] [(2, pt p3 0), (4, pt p7 0), (5, pt p22 0), (6, .int .i64 0), (7, .int .i64 (r : Int)), (8, .int .i64 4)] (by kernel_rfl) rfl ?_
    refine GL.round rfl ?_
    refine G.seqK fun K145 hK146 => ?_
    refine G.seqK fun K147 hK148 => ?_
    refine G.region ?_
    refine GL.run (j := 2) 2 [2, 4, 5, 6, 7, 8, 30] [(2, pt p3 0), (4, pt p7 0), (5, pt p22 0), (6, .int .i64 0), (7, .int .i64 (r : Int)), (8, .int .i64 4), (30, .bool false)] (by kernel_rfl) rfl ?_
    refine GL.k rfl hK148 (fun _ _ h => h) ?_
    refine G.no rfl ?_
    refine G.exitK hK29 (fun _ _ h => h) ?_
    refine G.seqK fun K149 hK150 => ?_
    refine G.region ?_
    refine GL.sem (j := 1) (H144.ldA (o := 0) (ty := 45) (m := 4) (sub := [.int .u64 (((wd x 0) * 2 ^ r % K : Nat) : Int), .int .u64 (((wd x 1) * 2 ^ r % K + (wd x 0) * 2 ^ r / K : Nat) : Int), .int .u64 (((wd x 2) * 2 ^ r % K + (wd x 1) * 2 ^ r / K : Nat) : Int), .int .u64 (((wd x 3) * 2 ^ r % K + (wd x 2) * 2 ^ r / K : Nat) : Int)]) 2 rfl (by kernel_rfl) rfl rfl) [4, 63] [(4, pt p7 0), (63, .agg #[.int .u64 (((wd x 0) * 2 ^ r % K : Nat) : Int), .int .u64 (((wd x 1) * 2 ^ r % K + (wd x 0) * 2 ^ r / K : Nat) : Int), .int .u64 (((wd x 2) * 2 ^ r % K + (wd x 1) * 2 ^ r / K : Nat) : Int), .int .u64 (((wd x 3) * 2 ^ r % K + (wd x 2) * 2 ^ r / K : Nat) : Int)])] (by kernel_rfl) (by kernel_rfl) rfl ?_
    obtain ⟨w151, r152, H153⟩ := H144.stA (P := Tryd.prog) (o := 0) (vs := [.int .u64 (((wd x 0) * 2 ^ r % K : Nat) : Int), .int .u64 (((wd x 1) * 2 ^ r % K + (wd x 0) * 2 ^ r / K : Nat) : Int), .int .u64 (((wd x 2) * 2 ^ r % K + (wd x 1) * 2 ^ r / K : Nat) : Int), .int .u64 (((wd x 3) * 2 ^ r % K + (wd x 2) * 2 ^ r / K : Nat) : Int)]) (ty := 45) (m := 4) 1 rfl (by kernel_rfl) rfl (by simp) (by simp [Value.oneCell'])
    have H153 : Hp w [] [.blk p3 [.int .u64 (wd x 0 : Int), .int .u64 (wd x 1 : Int), .int .u64 (wd x 2 : Int), .int .u64 (wd x 3 : Int)] 45, .blk p7 [.int .u64 (((wd x 0) * 2 ^ r % K : Nat) : Int), .int .u64 (((wd x 1) * 2 ^ r % K + (wd x 0) * 2 ^ r / K : Nat) : Int), .int .u64 (((wd x 2) * 2 ^ r % K + (wd x 1) * 2 ^ r / K : Nat) : Int), .int .u64 (((wd x 3) * 2 ^ r % K + (wd x 2) * 2 ^ r / K : Nat) : Int)] 45, .blk p22 [.int .u64 (((wd x 0) * 2 ^ r % K : Nat) : Int), .int .u64 (((wd x 1) * 2 ^ r % K + (wd x 0) * 2 ^ r / K : Nat) : Int), .int .u64 (((wd x 2) * 2 ^ r % K + (wd x 1) * 2 ^ r / K : Nat) : Int), .int .u64 (((wd x 3) * 2 ^ r % K + (wd x 2) * 2 ^ r / K : Nat) : Int)] 45] w151 := H153
    refine GL.semU (j := 2) r152 [4] [(4, pt p7 0)] (by kernel_rfl) rfl rfl rfl ?_
    refine GL.k rfl hK150 (fun _ _ h => h) ?_
    refine G.ret ?_
    intro F_ hF_ hM_
    refine hRet _ _ (bodyPost_1 rfl (RV.cell rfl (H153.ldA (o := 0) (ty := 45) (m := 4) (sub := [.int .u64 (((wd x 0) * 2 ^ r % K : Nat) : Int), .int .u64 (((wd x 1) * 2 ^ r % K + (wd x 0) * 2 ^ r / K : Nat) : Int), .int .u64 (((wd x 2) * 2 ^ r % K + (wd x 1) * 2 ^ r / K : Nat) : Int), .int .u64 (((wd x 3) * 2 ^ r % K + (wd x 2) * 2 ^ r / K : Nat) : Int)]) 1 rfl (by kernel_rfl) rfl rfl)) ?_ F_ hF_ hM_)
    rw [← left_fin0 hx (show r ≤ 64 by omega)]
    exact ⟨rfl, H153.sub (List.nil_sublist _)⟩
end Go.Proofs.YtgbhiklengafiaaDoor
set_option maxRecDepth 100000
namespace Go.Proofs.YtgbhiklengafiaaDoor
open Go.RowKit
theorem Div_zero (x : Nat) (w : World) : Calls Tryd.prog 18 #[wv x, wv 0] w fun e w' => e = .returned (.tuple #[wv 0, wv 0, .int .i64 5]) ∧ Hp w [] [] w' := by
  refine calls_G (args := [wv x, wv 0]) Tryd.func18 rfl Tryd.ntmps18 rfl ?_
  intro Q0 hRet hNor hPan
  have H := Hp.start w
  have H : Hp w [] [] w := H
  refine G.seqK fun K1 hK2 => ?_
  refine G.region ?_
  obtain ⟨p3, w4, r5, H6⟩ := H.box (P := Tryd.prog) 45 [.int .u64 (wd x 0 : Int), .int .u64 (wd x 1 : Int), .int .u64 (wd x 2 : Int), .int .u64 (wd x 3 : Int)] (wv x) rfl
  have H6 : Hp w [] [.blk p3 [.int .u64 (wd x 0 : Int), .int .u64 (wd x 1 : Int), .int .u64 (wd x 2 : Int), .int .u64 (wd x 3 : Int)] 45] w4 := H6
  refine GL.sem (j := 1) (r5) [1, 2] [(1, wv 0), (2, pt p3 0)] (by kernel_rfl) (by kernel_rfl) rfl ?_
  obtain ⟨p7, w8, r9, H10⟩ := H6.box (P := Tryd.prog) 45 [.int .u64 (wd 0 0 : Int), .int .u64 (wd 0 1 : Int), .int .u64 (wd 0 2 : Int), .int .u64 (wd 0 3 : Int)] (wv 0) rfl
  have H10 : Hp w [] [.blk p3 [.int .u64 (wd x 0 : Int), .int .u64 (wd x 1 : Int), .int .u64 (wd x 2 : Int), .int .u64 (wd x 3 : Int)] 45, .blk p7 [.int .u64 (wd 0 0 : Int), .int .u64 (wd 0 1 : Int), .int .u64 (wd 0 2 : Int), .int .u64 (wd 0 3 : Int)] 45] w8 := H10
  refine GL.sem (j := 2) (r9) [2, 3] [(2, pt p3 0), (3, pt p7 0)] (by kernel_rfl) (by kernel_rfl) rfl ?_
  obtain ⟨p11, w12, r13, H14⟩ := H10.alloc (P := Tryd.prog) 45 [.int .u64 0, .int .u64 0, .int .u64 0, .int .u64 0] (by kernel_rfl)
  have H14 : Hp w [] [.blk p3 [.int .u64 (wd x 0 : Int), .int .u64 (wd x 1 : Int), .int .u64 (wd x 2 : Int), .int .u64 (wd x 3 : Int)] 45, .blk p7 [.int .u64 (wd 0 0 : Int), .int .u64 (wd 0 1 : Int), .int .u64 (wd 0 2 : Int), .int .u64 (wd 0 3 : Int)] 45, .blk p11 [.int .u64 0, .int .u64 0, .int .u64 0, .int .u64 0] 45] w12 := H14
  refine GL.sem (j := 3) (r13) [2, 3, 4] [(2, pt p3 0), (3, pt p7 0), (4, pt p11 0)] (by kernel_rfl) (by kernel_rfl) rfl ?_
  obtain ⟨p15, w16, r17, H18⟩ := H14.alloc (P := Tryd.prog) 45 [.int .u64 0, .int .u64 0, .int .u64 0, .int .u64 0] (by kernel_rfl)
  have H18 : Hp w [] [.blk p3 [.int .u64 (wd x 0 : Int), .int .u64 (wd x 1 : Int), .int .u64 (wd x 2 : Int), .int .u64 (wd x 3 : Int)] 45, .blk p7 [.int .u64 (wd 0 0 : Int), .int .u64 (wd 0 1 : Int), .int .u64 (wd 0 2 : Int), .int .u64 (wd 0 3 : Int)] 45, .blk p11 [.int .u64 0, .int .u64 0, .int .u64 0, .int .u64 0] 45, .blk p15 [.int .u64 0, .int .u64 0, .int .u64 0, .int .u64 0] 45] w16 := H18
  refine GL.sem (j := 4) (r17) [2, 3, 4, 5] [(2, pt p3 0), (3, pt p7 0), (4, pt p11 0), (5, pt p15 0)] (by kernel_rfl) (by kernel_rfl) rfl ?_
  refine GL.run (j := 5) 1 [2, 3, 4, 5] [(2, pt p3 0), (3, pt p7 0), (4, pt p11 0), (5, pt p15 0)] (by kernel_rfl) rfl ?_
  refine GL.k rfl hK2 (fun _ _ h => h) ?_
  refine G.seqK fun K19 hK20 => ?_
  refine G.seqK fun K21 hK22 => ?_
  refine G.region ?_
  refine GL.sem (j := 1) (H18.ldA (o := 0) (ty := 45) (m := 4) (sub := [.int .u64 (wd 0 0 : Int), .int .u64 (wd 0 1 : Int), .int .u64 (wd 0 2 : Int), .int .u64 (wd 0 3 : Int)]) 1 rfl (by kernel_rfl) rfl rfl) [2, 3, 4, 5, 11] [(2, pt p3 0), (3, pt p7 0), (4, pt p11 0), (5, pt p15 0), (11, wv 0)] (by kernel_rfl) (by kernel_rfl) rfl ?_
  refine GL.run (j := 2) 1 [2, 3, 4, 5, 11, 12] [(2, pt p3 0), (3, pt p7 0), (4, pt p11 0), (5, pt p15 0), (11, wv 0), (12, .agg #[.int .u64 0, .int .u64 0, .int .u64 0, .int .u64 0])] (by kernel_rfl) rfl ?_
  refine GL.sem (j := 3) (run_arr_eql (P := Tryd.prog) (t := 45) (n := 4) (k := .u64) (x := (.tmp 11)) (y := (.tmp 12)) (by kernel_rfl) [(wd 0 0 : Int), (wd 0 1 : Int), (wd 0 2 : Int), (wd 0 3 : Int)] [0, 0, 0, 0] rfl rfl _) [2, 3, 4, 5, 13] [(2, pt p3 0), (3, pt p7 0), (4, pt p11 0), (5, pt p15 0), (13, .bool (decide (([(wd 0 0 : Int), (wd 0 1 : Int), (wd 0 2 : Int), (wd 0 3 : Int)] : List Int) = [0, 0, 0, 0])))] (by kernel_rfl) (by kernel_rfl) rfl ?_
  refine GL.k rfl hK22 (fun _ _ h => h) ?_
  have hb23 : (decide (([(wd 0 0 : Int), (wd 0 1 : Int), (wd 0 2 : Int), (wd 0 3 : Int)] : List Int) = [0, 0, 0, 0])) = true := decide_eq_true rfl
  rw [hb23]
  refine G.yes rfl ?_
  refine G.seqK fun K24 hK25 => ?_
  refine G.region ?_
  refine GL.run (j := 2) 2 [4, 5, 14, 15] [(4, pt p11 0), (5, pt p15 0), (14, .agg #[.int .u64 0, .int .u64 0, .int .u64 0, .int .u64 0]), (15, .agg #[.int .u64 0, .int .u64 0, .int .u64 0, .int .u64 0])] (by kernel_rfl) rfl ?_
  obtain ⟨w26, r27, H28⟩ := H18.stA (P := Tryd.prog) (o := 0) (vs := [.int .u64 0, .int .u64 0, .int .u64 0, .int .u64 0]) (ty := 45) (m := 4) 2 rfl (by kernel_rfl) rfl (by simp) (by simp [Value.oneCell'])
  have H28 : Hp w [] [.blk p3 [.int .u64 (wd x 0 : Int), .int .u64 (wd x 1 : Int), .int .u64 (wd x 2 : Int), .int .u64 (wd x 3 : Int)] 45, .blk p7 [.int .u64 (wd 0 0 : Int), .int .u64 (wd 0 1 : Int), .int .u64 (wd 0 2 : Int), .int .u64 (wd 0 3 : Int)] 45, .blk p11 [.int .u64 0, .int .u64 0, .int .u64 0, .int .u64 0] 45, .blk p15 [.int .u64 0, .int .u64 0, .int .u64 0, .int .u64 0] 45] w26 := H28
  refine GL.semU (j := 3) r27 [4, 5, 15] [(4, pt p11 0), (5, pt p15 0), (15, .agg #[.int .u64 0, .int .u64 0, .int .u64 0, .int .u64 0])] (by kernel_rfl) rfl rfl rfl ?_
  obtain ⟨w29, r30, H31⟩ := H28.stA (P := Tryd.prog) (o := 0) (vs := [.int .u64 0, .int .u64 0, .int .u64 0, .int .u64 0]) (ty := 45) (m := 4) 3 rfl (by kernel_rfl) rfl (by simp) (by simp [Value.oneCell'])
  have H31 : Hp w [] [.blk p3 [.int .u64 (wd x 0 : Int), .int .u64 (wd x 1 : Int), .int .u64 (wd x 2 : Int), .int .u64 (wd x 3 : Int)] 45, .blk p7 [.int .u64 (wd 0 0 : Int), .int .u64 (wd 0 1 : Int), .int .u64 (wd 0 2 : Int), .int .u64 (wd 0 3 : Int)] 45, .blk p11 [.int .u64 0, .int .u64 0, .int .u64 0, .int .u64 0] 45, .blk p15 [.int .u64 0, .int .u64 0, .int .u64 0, .int .u64 0] 45] w29 := H31
  refine GL.semU (j := 4) r30 [4, 5] [(4, pt p11 0), (5, pt p15 0)] (by kernel_rfl) rfl rfl rfl ?_
  refine GL.run (j := 5) 1 [4, 5, 6] [(4, pt p11 0), (5, pt p15 0), (6, .int .i64 5)] (by kernel_rfl) rfl ?_
  refine GL.k rfl hK25 (fun _ _ h => h) ?_
  refine G.ret ?_
  intro F_ hF_ hM_
  refine hRet _ _ (bodyPost_3 rfl (RV.cell rfl (H31.ldA (o := 0) (ty := 45) (m := 4) (sub := [.int .u64 0, .int .u64 0, .int .u64 0, .int .u64 0]) 2 rfl (by kernel_rfl) rfl rfl)) (RV.cell rfl (H31.ldA (o := 0) (ty := 45) (m := 4) (sub := [.int .u64 0, .int .u64 0, .int .u64 0, .int .u64 0]) 3 rfl (by kernel_rfl) rfl rfl)) (RV.tmp rfl) ?_ F_ hF_ hM_)
  exact ⟨rfl, H31.sub (List.nil_sublist _)⟩
theorem Div_calls (x y : Nat) (hx : x < K4) (hy : y < K4) (hy0 : y ≠ 0) (w : World) : Calls Tryd.prog 18 #[wv x, wv y] w fun e w' => e = .returned (.tuple #[wv (x / y), wv (x % y), .int .i64 0]) ∧ Hp w [] [] w' := by
  have hbl := bl_le (k := 256) (show x < 2 ^ 256 from hx)
  refine calls_G (args := [wv x, wv y]) Tryd.func18 rfl Tryd.ntmps18 rfl ?_
  intro Q0 hRet hNor hPan
  have H := Hp.start w
  have H : Hp w [] [] w := H
  refine G.seqK fun K1 hK2 => ?_
  refine G.region ?_
  obtain ⟨p3, w4, r5, H6⟩ := H.box (P := Tryd.prog) 45 [.int .u64 (wd x 0 : Int), .int .u64 (wd x 1 : Int), .int .u64 (wd x 2 : Int), .int .u64 (wd x 3 : Int)] (wv x) rfl
  have H6 : Hp w [] [.blk p3 [.int .u64 (wd x 0 : Int), .int .u64 (wd x 1 : Int), .int .u64 (wd x 2 : Int), .int .u64 (wd x 3 : Int)] 45] w4 := H6
  refine GL.sem (j := 1) (r5) [1, 2] [(1, wv y), (2, pt p3 0)] (by kernel_rfl) (by kernel_rfl) rfl ?_
  obtain ⟨p7, w8, r9, H10⟩ := H6.box (P := Tryd.prog) 45 [.int .u64 (wd y 0 : Int), .int .u64 (wd y 1 : Int), .int .u64 (wd y 2 : Int), .int .u64 (wd y 3 : Int)] (wv y) rfl
  have H10 : Hp w [] [.blk p3 [.int .u64 (wd x 0 : Int), .int .u64 (wd x 1 : Int), .int .u64 (wd x 2 : Int), .int .u64 (wd x 3 : Int)] 45, .blk p7 [.int .u64 (wd y 0 : Int), .int .u64 (wd y 1 : Int), .int .u64 (wd y 2 : Int), .int .u64 (wd y 3 : Int)] 45] w8 := H10
  refine GL.sem (j := 2) (r9) [2, 3] [(2, pt p3 0), (3, pt p7 0)] (by kernel_rfl) (by kernel_rfl) rfl ?_
  obtain ⟨p11, w12, r13, H14⟩ := H10.alloc (P := Tryd.prog) 45 [.int .u64 0, .int .u64 0, .int .u64 0, .int .u64 0] (by kernel_rfl)
  have H14 : Hp w [] [.blk p3 [.int .u64 (wd x 0 : Int), .int .u64 (wd x 1 : Int), .int .u64 (wd x 2 : Int), .int .u64 (wd x 3 : Int)] 45, .blk p7 [.int .u64 (wd y 0 : Int), .int .u64 (wd y 1 : Int), .int .u64 (wd y 2 : Int), .int .u64 (wd y 3 : Int)] 45, .blk p11 [.int .u64 0, .int .u64 0, .int .u64 0, .int .u64 0] 45] w12 := H14
  refine GL.sem (j := 3) (r13) [2, 3, 4] [(2, pt p3 0), (3, pt p7 0), (4, pt p11 0)] (by kernel_rfl) (by kernel_rfl) rfl ?_
  obtain ⟨p15, w16, r17, H18⟩ := H14.alloc (P := Tryd.prog) 45 [.int .u64 0, .int .u64 0, .int .u64 0, .int .u64 0] (by kernel_rfl)
  have H18 : Hp w [] [.blk p3 [.int .u64 (wd x 0 : Int), .int .u64 (wd x 1 : Int), .int .u64 (wd x 2 : Int), .int .u64 (wd x 3 : Int)] 45, .blk p7 [.int .u64 (wd y 0 : Int), .int .u64 (wd y 1 : Int), .int .u64 (wd y 2 : Int), .int .u64 (wd y 3 : Int)] 45, .blk p11 [.int .u64 0, .int .u64 0, .int .u64 0, .int .u64 0] 45, .blk p15 [.int .u64 0, .int .u64 0, .int .u64 0, .int .u64 0] 45] w16 := H18
  refine GL.sem (j := 4) (r17) [2, 3, 4, 5] [(2, pt p3 0), (3, pt p7 0), (4, pt p11 0), (5, pt p15 0)] (by kernel_rfl) (by kernel_rfl) rfl ?_
  refine GL.run (j := 5) 1 [2, 3, 4, 5] [(2, pt p3 0), (3, pt p7 0), (4, pt p11 0), (5, pt p15 0)] (by kernel_rfl) rfl ?_
  refine GL.k rfl hK2 (fun _ _ h => h) ?_
  refine G.seqK fun K19 hK20 => ?_
  refine G.seqK fun K21 hK22 => ?_
  refine G.region ?_
  refine GL.sem (j := 1) (H18.ldA (o := 0) (ty := 45) (m := 4) (sub := [.int .u64 (wd y 0 : Int), .int .u64 (wd y 1 : Int), .int .u64 (wd y 2 : Int), .int .u64 (wd y 3 : Int)]) 1 rfl (by kernel_rfl) rfl rfl) [2, 3, 4, 5, 11] [(2, pt p3 0), (3, pt p7 0), (4, pt p11 0), (5, pt p15 0), (11, wv y)] (by kernel_rfl) (by kernel_rfl) rfl ?_
  refine GL.run (j := 2) 1 [2, 3, 4, 5, 11, 12] [(2, pt p3 0), (3, pt p7 0), (4, pt p11 0), (5, pt p15 0), (11, wv y), (12, .agg #[.int .u64 0, .int .u64 0, .int .u64 0, .int .u64 0])] (by kernel_rfl) rfl ?_
  refine GL.sem (j := 3) (run_arr_eql (P := Tryd.prog) (t := 45) (n := 4) (k := .u64) (x := (.tmp 11)) (y := (.tmp 12)) (by kernel_rfl) [(wd y 0 : Int), (wd y 1 : Int), (wd y 2 : Int), (wd y 3 : Int)] [0, 0, 0, 0] rfl rfl _) [2, 3, 4, 5, 13] [(2, pt p3 0), (3, pt p7 0), (4, pt p11 0), (5, pt p15 0), (13, .bool (decide (([(wd y 0 : Int), (wd y 1 : Int), (wd y 2 : Int), (wd y 3 : Int)] : List Int) = [0, 0, 0, 0])))] (by kernel_rfl) (by kernel_rfl) rfl ?_
  refine GL.k rfl hK22 (fun _ _ h => h) ?_
  have hb23 : (decide (([(wd y 0 : Int), (wd y 1 : Int), (wd y 2 : Int), (wd y 3 : Int)] : List Int) = [0, 0, 0, 0])) = false := decide_eq_false (fun h => hy0 ((wv_eq (y := 0) hy (by decide)).1 h))
  rw [hb23]
  refine G.no rfl ?_
  refine G.skipK hK20 (fun _ _ h => h) ?_
  refine G.seqK fun K24 hK25 => ?_
  refine G.region ?_
  obtain ⟨p26, w27, r28, H29⟩ := H18.alloc (P := Tryd.prog) 45 [.int .u64 0, .int .u64 0, .int .u64 0, .int .u64 0] (by kernel_rfl)
  have H29 : Hp w [] [.blk p3 [.int .u64 (wd x 0 : Int), .int .u64 (wd x 1 : Int), .int .u64 (wd x 2 : Int), .int .u64 (wd x 3 : Int)] 45, .blk p7 [.int .u64 (wd y 0 : Int), .int .u64 (wd y 1 : Int), .int .u64 (wd y 2 : Int), .int .u64 (wd y 3 : Int)] 45, .blk p11 [.int .u64 0, .int .u64 0, .int .u64 0, .int .u64 0] 45, .blk p15 [.int .u64 0, .int .u64 0, .int .u64 0, .int .u64 0] 45, .blk p26 [.int .u64 0, .int .u64 0, .int .u64 0, .int .u64 0] 45] w27 := H29
  refine GL.sem (j := 1) (r28) [2, 3, 4, 5, 7] [(2, pt p3 0), (3, pt p7 0), (4, pt p11 0), (5, pt p15 0), (7, pt p26 0)] (by kernel_rfl) (by kernel_rfl) rfl ?_
  obtain ⟨p30, w31, r32, H33⟩ := H29.alloc (P := Tryd.prog) 45 [.int .u64 0, .int .u64 0, .int .u64 0, .int .u64 0] (by kernel_rfl)
  have H33 : Hp w [] [.blk p3 [.int .u64 (wd x 0 : Int), .int .u64 (wd x 1 : Int), .int .u64 (wd x 2 : Int), .int .u64 (wd x 3 : Int)] 45, .blk p7 [.int .u64 (wd y 0 : Int), .int .u64 (wd y 1 : Int), .int .u64 (wd y 2 : Int), .int .u64 (wd y 3 : Int)] 45, .blk p11 [.int .u64 0, .int .u64 0, .int .u64 0, .int .u64 0] 45, .blk p15 [.int .u64 0, .int .u64 0, .int .u64 0, .int .u64 0] 45, .blk p26 [.int .u64 0, .int .u64 0, .int .u64 0, .int .u64 0] 45, .blk p30 [.int .u64 0, .int .u64 0, .int .u64 0, .int .u64 0] 45] w31 := H33
  refine GL.sem (j := 2) (r32) [2, 3, 4, 5, 7, 8] [(2, pt p3 0), (3, pt p7 0), (4, pt p11 0), (5, pt p15 0), (7, pt p26 0), (8, pt p30 0)] (by kernel_rfl) (by kernel_rfl) rfl ?_
  refine GL.k rfl hK25 (fun _ _ h => h) ?_
  refine G.seqK fun K34 hK35 => ?_
  refine G.seqK fun K36 hK37 => ?_
  refine G.region ?_
  refine GL.sem (j := 1) (H33.ldA (o := 0) (ty := 45) (m := 4) (sub := [.int .u64 (wd x 0 : Int), .int .u64 (wd x 1 : Int), .int .u64 (wd x 2 : Int), .int .u64 (wd x 3 : Int)]) 0 rfl (by kernel_rfl) rfl rfl) [2, 3, 4, 5, 7, 8, 16] [(2, pt p3 0), (3, pt p7 0), (4, pt p11 0), (5, pt p15 0), (7, pt p26 0), (8, pt p30 0), (16, wv x)] (by kernel_rfl) (by kernel_rfl) rfl ?_
  refine GL.call (j := 2) (Bits_calls x hx w31) (by kernel_rfl) rfl (fun e_ w38 hR => ?_)
  obtain ⟨rfl, H40⟩ := hR
  have H39 : Hp w [] [.blk p3 [.int .u64 (wd x 0 : Int), .int .u64 (wd x 1 : Int), .int .u64 (wd x 2 : Int), .int .u64 (wd x 3 : Int)] 45, .blk p7 [.int .u64 (wd y 0 : Int), .int .u64 (wd y 1 : Int), .int .u64 (wd y 2 : Int), .int .u64 (wd y 3 : Int)] 45, .blk p11 [.int .u64 0, .int .u64 0, .int .u64 0, .int .u64 0] 45, .blk p15 [.int .u64 0, .int .u64 0, .int .u64 0, .int .u64 0] 45, .blk p26 [.int .u64 0, .int .u64 0, .int .u64 0, .int .u64 0] 45, .blk p30 [.int .u64 0, .int .u64 0, .int .u64 0, .int .u64 0] 45] w38 := H33.callNil H40
  refine ⟨_, rfl, [2, 3, 4, 5, 7, 8, 17], [(2, pt p3 0), (3, pt p7 0), (4, pt p11 0), (5, pt p15 0), (7, pt p26 0), (8, pt p30 0), (17, .int .i64 ((bl x : Nat) : Int))], by kernel_rfl, ?_⟩
  refine GL.run (j := 4) 2 [2, 3, 4, 5, 7, 8, 9] [(2, pt p3 0), (3, pt p7 0), (4, pt p11 0), (5, pt p15 0), (7, pt p26 0), (8, pt p30 0), (9, .int .i64 (IntKind.i64.wrap (((bl x : Nat) : Int) - 1)))] (by kernel_rfl) rfl ?_
  have e41 : (IntKind.i64.wrap (((bl x : Nat) : Int) - 1)) = (((bl x : Nat) : Int) - 1) := in_i64 (by omega)
  refine GL.eq (M' := [(2, pt p3 0), (3, pt p7 0), (4, pt p11 0), (5, pt p15 0), (7, pt p26 0), (8, pt p30 0), (9, .int .i64 (((bl x : Nat) : Int) - 1))]) (by rw [e41]) ?_
  clear e41
  refine GL.k rfl hK37 (fun _ _ h => h) ?_
  refine G.block ?_
  have z0 : x / 2 ^ (bl x) = 0 := Nat.div_eq_of_lt (bl_lt x)
  have H42 : Hp w [] [.blk p3 [.int .u64 (wd x 0 : Int), .int .u64 (wd x 1 : Int), .int .u64 (wd x 2 : Int), .int .u64 (wd x 3 : Int)] 45, .blk p7 [.int .u64 (wd y 0 : Int), .int .u64 (wd y 1 : Int), .int .u64 (wd y 2 : Int), .int .u64 (wd y 3 : Int)] 45, .blk p11 [.int .u64 0, .int .u64 0, .int .u64 0, .int .u64 0] 45, .blk p15 [.int .u64 0, .int .u64 0, .int .u64 0, .int .u64 0] 45, .blk p26 [.int .u64 (wd (x / 2 ^ (bl x) / y * 2 ^ (bl x)) 0 : Int), .int .u64 (wd (x / 2 ^ (bl x) / y * 2 ^ (bl x)) 1 : Int), .int .u64 (wd (x / 2 ^ (bl x) / y * 2 ^ (bl x)) 2 : Int), .int .u64 (wd (x / 2 ^ (bl x) / y * 2 ^ (bl x)) 3 : Int)] 45, .blk p30 [.int .u64 (wd (x / 2 ^ (bl x) % y) 0 : Int), .int .u64 (wd (x / 2 ^ (bl x) % y) 1 : Int), .int .u64 (wd (x / 2 ^ (bl x) % y) 2 : Int), .int .u64 (wd (x / 2 ^ (bl x) % y) 3 : Int)] 45] w38 := by rw [z0, Nat.zero_div, Nat.zero_mul, Nat.zero_mod]; exact H39
  refine G.fit [2, 3, 4, 5, 7, 8, 9] (M' := [(2, pt p3 0), (3, pt p7 0), (4, pt p11 0), (5, pt p15 0), (7, pt p26 0), (8, pt p30 0), (9, .int .i64 (((bl x : Nat) : Int) - 1))]) (by kernel_rfl) ?_
  refine G.eq (M' := [(2, pt p3 0), (3, pt p7 0), (4, pt p11 0), (5, pt p15 0), (7, pt p26 0), (8, pt p30 0), (9, .int .i64 ((((bl x) : Nat) : Int) - 1))]) (by rfl) ?_
  refine G.loop (X := Nat) (fun m => [(2, pt p3 0), (3, pt p7 0), (4, pt p11 0), (5, pt p15 0), (7, pt p26 0), (8, pt p30 0), (9, .int .i64 (((m : Nat) : Int) - 1))]) (fun m w_ => (m ≤ bl x) ∧ Hp w [] [.blk p3 [.int .u64 (wd x 0 : Int), .int .u64 (wd x 1 : Int), .int .u64 (wd x 2 : Int), .int .u64 (wd x 3 : Int)] 45, .blk p7 [.int .u64 (wd y 0 : Int), .int .u64 (wd y 1 : Int), .int .u64 (wd y 2 : Int), .int .u64 (wd y 3 : Int)] 45, .blk p11 [.int .u64 0, .int .u64 0, .int .u64 0, .int .u64 0] 45, .blk p15 [.int .u64 0, .int .u64 0, .int .u64 0, .int .u64 0] 45, .blk p26 [.int .u64 (wd (x / 2 ^ m / y * 2 ^ m) 0 : Int), .int .u64 (wd (x / 2 ^ m / y * 2 ^ m) 1 : Int), .int .u64 (wd (x / 2 ^ m / y * 2 ^ m) 2 : Int), .int .u64 (wd (x / 2 ^ m / y * 2 ^ m) 3 : Int)] 45, .blk p30 [.int .u64 (wd (x / 2 ^ m % y) 0 : Int), .int .u64 (wd (x / 2 ^ m % y) 1 : Int), .int .u64 (wd (x / 2 ^ m % y) 2 : Int), .int .u64 (wd (x / 2 ^ m % y) 3 : Int)] 45] w_) (fun m => m) (bl x) [2, 3, 4, 5, 7, 8, 9] (by kernel_rfl) ⟨Nat.le_refl _, H42⟩ ?_
  rintro m w43 ⟨hi44, H45⟩
  refine G.eq (M' := [(2, pt p3 0), (3, pt p7 0), (4, pt p11 0), (5, pt p15 0), (7, pt p26 0), (8, pt p30 0), (9, .int .i64 (((m : Nat) : Int) - 1))]) rfl ?_
  have H45 : Hp w [] [.blk p3 [.int .u64 (wd x 0 : Int), .int .u64 (wd x 1 : Int), .int .u64 (wd x 2 : Int), .int .u64 (wd x 3 : Int)] 45, .blk p7 [.int .u64 (wd y 0 : Int), .int .u64 (wd y 1 : Int), .int .u64 (wd y 2 : Int), .int .u64 (wd y 3 : Int)] 45, .blk p11 [.int .u64 0, .int .u64 0, .int .u64 0, .int .u64 0] 45, .blk p15 [.int .u64 0, .int .u64 0, .int .u64 0, .int .u64 0] 45, .blk p26 [.int .u64 (wd (x / 2 ^ m / y * 2 ^ m) 0 : Int), .int .u64 (wd (x / 2 ^ m / y * 2 ^ m) 1 : Int), .int .u64 (wd (x / 2 ^ m / y * 2 ^ m) 2 : Int), .int .u64 (wd (x / 2 ^ m / y * 2 ^ m) 3 : Int)] 45, .blk p30 [.int .u64 (wd (x / 2 ^ m % y) 0 : Int), .int .u64 (wd (x / 2 ^ m % y) 1 : Int), .int .u64 (wd (x / 2 ^ m % y) 2 : Int), .int .u64 (wd (x / 2 ^ m % y) 3 : Int)] 45] w43 := H45
  have hm := hi44
  obtain ⟨R, hR⟩ : ∃ R : Nat, R = x / 2 ^ m % y := ⟨_, rfl⟩
  obtain ⟨Q, hQ⟩ : ∃ Q : Nat, Q = x / 2 ^ m / y * 2 ^ m := ⟨_, rfl⟩
  have hRy : R < y := by rw [hR]; exact Nat.mod_lt _ (by omega)
  have hR4 : R < K4 := by omega
  have hQ4 : Q < K4 := by rw [hQ]; exact Nat.lt_of_le_of_lt (Nat.le_trans (Nat.mul_le_mul_right _ (Nat.div_le_self _ _)) (Nat.div_mul_le_self _ _)) hx
  rw [← hR, ← hQ] at H45
  have H45 : Hp w [] [.blk p3 [.int .u64 (wd x 0 : Int), .int .u64 (wd x 1 : Int), .int .u64 (wd x 2 : Int), .int .u64 (wd x 3 : Int)] 45, .blk p7 [.int .u64 (wd y 0 : Int), .int .u64 (wd y 1 : Int), .int .u64 (wd y 2 : Int), .int .u64 (wd y 3 : Int)] 45, .blk p11 [.int .u64 0, .int .u64 0, .int .u64 0, .int .u64 0] 45, .blk p15 [.int .u64 0, .int .u64 0, .int .u64 0, .int .u64 0] 45, .blk p26 [.int .u64 (wd Q 0 : Int), .int .u64 (wd Q 1 : Int), .int .u64 (wd Q 2 : Int), .int .u64 (wd Q 3 : Int)] 45, .blk p30 [.int .u64 (wd R 0 : Int), .int .u64 (wd R 1 : Int), .int .u64 (wd R 2 : Int), .int .u64 (wd R 3 : Int)] 45] w43 := H45
  refine G.seqK fun K46 hK47 => ?_
  refine G.seqK fun K48 hK49 => ?_
  refine G.region ?_
  refine GL.run (j := 2) 2 [2, 3, 4, 5, 7, 8, 9, 20] [(2, pt p3 0), (3, pt p7 0), (4, pt p11 0), (5, pt p15 0), (7, pt p26 0), (8, pt p30 0), (9, .int .i64 (((m : Nat) : Int) - 1)), (20, .bool (decide (0 ≤ (((m : Nat) : Int) - 1))))] (by kernel_rfl) rfl ?_
  refine GL.k rfl hK49 (fun _ _ h => h) ?_
  cases hb50 : (decide (0 ≤ (((m : Nat) : Int) - 1)))
  · skip
    have hb50f := of_decide_eq_false hb50
    have hm0 : m = 0 := by have := of_decide_eq_false hb50; omega
    refine G.no rfl ?_
    refine G.exitK hK35 (fun _ _ h => h) ?_
    refine G.seqK fun K51 hK52 => ?_
    refine G.heldP (Hp w [] [.blk p3 [.int .u64 (wd x 0 : Int), .int .u64 (wd x 1 : Int), .int .u64 (wd x 2 : Int), .int .u64 (wd x 3 : Int)] 45, .blk p7 [.int .u64 (wd y 0 : Int), .int .u64 (wd y 1 : Int), .int .u64 (wd y 2 : Int), .int .u64 (wd y 3 : Int)] 45, .blk p26 [.int .u64 (wd Q 0 : Int), .int .u64 (wd Q 1 : Int), .int .u64 (wd Q 2 : Int), .int .u64 (wd Q 3 : Int)] 45, .blk p30 [.int .u64 (wd R 0 : Int), .int .u64 (wd R 1 : Int), .int .u64 (wd R 2 : Int), .int .u64 (wd R 3 : Int)] 45]) (by kernel_rfl) (by kernel_rfl) (fun c_ a_ d_ v_ w_ h_ => hPan c_ a_ d_ v_ w_ h_) ?_
    have H53 := H45.drew
    generalize ({ w43 with drawn := w43.drawn + 1 } : World) = w54 at H53 ⊢
    have hS55 : Hp w [] [.blk p3 [.int .u64 (wd x 0 : Int), .int .u64 (wd x 1 : Int), .int .u64 (wd x 2 : Int), .int .u64 (wd x 3 : Int)] 45, .blk p7 [.int .u64 (wd y 0 : Int), .int .u64 (wd y 1 : Int), .int .u64 (wd y 2 : Int), .int .u64 (wd y 3 : Int)] 45, .blk p26 [.int .u64 (wd Q 0 : Int), .int .u64 (wd Q 1 : Int), .int .u64 (wd Q 2 : Int), .int .u64 (wd Q 3 : Int)] 45, .blk p30 [.int .u64 (wd R 0 : Int), .int .u64 (wd R 1 : Int), .int .u64 (wd R 2 : Int), .int .u64 (wd R 3 : Int)] 45] w54 := H53.sub (List.Sublist.cons_cons _ (List.Sublist.cons_cons _ (List.Sublist.cons _ (List.Sublist.cons _ (List.Sublist.cons_cons _ (List.Sublist.cons_cons _ (List.Sublist.slnil)))))))
    refine GP.sem 0 (fun w_ H_ => H_.ldA (o := 0) (ty := 45) (m := 4) (sub := [.int .u64 (wd Q 0 : Int), .int .u64 (wd Q 1 : Int), .int .u64 (wd Q 2 : Int), .int .u64 (wd Q 3 : Int)]) 2 rfl (by kernel_rfl) rfl rfl) [4, 5, 8, 63] [(4, pt p11 0), (5, pt p15 0), (8, pt p30 0), (63, wv Q)] (by kernel_rfl) (by kernel_rfl) (by kernel_rfl) hS55 ?_
    refine GP.sem 1 (fun w_ H_ => H_.ldA (o := 0) (ty := 45) (m := 4) (sub := [.int .u64 (wd R 0 : Int), .int .u64 (wd R 1 : Int), .int .u64 (wd R 2 : Int), .int .u64 (wd R 3 : Int)]) 3 rfl (by kernel_rfl) rfl rfl) [4, 5, 63, 64] [(4, pt p11 0), (5, pt p15 0), (63, wv Q), (64, wv R)] (by kernel_rfl) (by kernel_rfl) (by kernel_rfl) hS55 ?_
    obtain ⟨w56, r57, H58⟩ := H53.stA (P := Tryd.prog) (o := 0) (vs := [.int .u64 (wd Q 0 : Int), .int .u64 (wd Q 1 : Int), .int .u64 (wd Q 2 : Int), .int .u64 (wd Q 3 : Int)]) (ty := 45) (m := 4) 2 rfl (by kernel_rfl) rfl (by simp) (by simp [Value.oneCell'])
    have H58 : Hp w [] [.blk p3 [.int .u64 (wd x 0 : Int), .int .u64 (wd x 1 : Int), .int .u64 (wd x 2 : Int), .int .u64 (wd x 3 : Int)] 45, .blk p7 [.int .u64 (wd y 0 : Int), .int .u64 (wd y 1 : Int), .int .u64 (wd y 2 : Int), .int .u64 (wd y 3 : Int)] 45, .blk p11 [.int .u64 (wd Q 0 : Int), .int .u64 (wd Q 1 : Int), .int .u64 (wd Q 2 : Int), .int .u64 (wd Q 3 : Int)] 45, .blk p15 [.int .u64 0, .int .u64 0, .int .u64 0, .int .u64 0] 45, .blk p26 [.int .u64 (wd Q 0 : Int), .int .u64 (wd Q 1 : Int), .int .u64 (wd Q 2 : Int), .int .u64 (wd Q 3 : Int)] 45, .blk p30 [.int .u64 (wd R 0 : Int), .int .u64 (wd R 1 : Int), .int .u64 (wd R 2 : Int), .int .u64 (wd R 3 : Int)] 45] w56 := H58
    have hS59 : Hp w [] [.blk p3 [.int .u64 (wd x 0 : Int), .int .u64 (wd x 1 : Int), .int .u64 (wd x 2 : Int), .int .u64 (wd x 3 : Int)] 45, .blk p7 [.int .u64 (wd y 0 : Int), .int .u64 (wd y 1 : Int), .int .u64 (wd y 2 : Int), .int .u64 (wd y 3 : Int)] 45, .blk p26 [.int .u64 (wd Q 0 : Int), .int .u64 (wd Q 1 : Int), .int .u64 (wd Q 2 : Int), .int .u64 (wd Q 3 : Int)] 45, .blk p30 [.int .u64 (wd R 0 : Int), .int .u64 (wd R 1 : Int), .int .u64 (wd R 2 : Int), .int .u64 (wd R 3 : Int)] 45] w56 := H58.sub (List.Sublist.cons_cons _ (List.Sublist.cons_cons _ (List.Sublist.cons _ (List.Sublist.cons _ (List.Sublist.cons_cons _ (List.Sublist.cons_cons _ (List.Sublist.slnil)))))))
    refine GP.semU 2 r57 [4, 5, 64] [(4, pt p11 0), (5, pt p15 0), (64, wv R)] (by kernel_rfl) rfl rfl (by kernel_rfl) hS59 ?_
    obtain ⟨w60, r61, H62⟩ := H58.stA (P := Tryd.prog) (o := 0) (vs := [.int .u64 (wd R 0 : Int), .int .u64 (wd R 1 : Int), .int .u64 (wd R 2 : Int), .int .u64 (wd R 3 : Int)]) (ty := 45) (m := 4) 3 rfl (by kernel_rfl) rfl (by simp) (by simp [Value.oneCell'])
    have H62 : Hp w [] [.blk p3 [.int .u64 (wd x 0 : Int), .int .u64 (wd x 1 : Int), .int .u64 (wd x 2 : Int), .int .u64 (wd x 3 : Int)] 45, .blk p7 [.int .u64 (wd y 0 : Int), .int .u64 (wd y 1 : Int), .int .u64 (wd y 2 : Int), .int .u64 (wd y 3 : Int)] 45, .blk p11 [.int .u64 (wd Q 0 : Int), .int .u64 (wd Q 1 : Int), .int .u64 (wd Q 2 : Int), .int .u64 (wd Q 3 : Int)] 45, .blk p15 [.int .u64 (wd R 0 : Int), .int .u64 (wd R 1 : Int), .int .u64 (wd R 2 : Int), .int .u64 (wd R 3 : Int)] 45, .blk p26 [.int .u64 (wd Q 0 : Int), .int .u64 (wd Q 1 : Int), .int .u64 (wd Q 2 : Int), .int .u64 (wd Q 3 : Int)] 45, .blk p30 [.int .u64 (wd R 0 : Int), .int .u64 (wd R 1 : Int), .int .u64 (wd R 2 : Int), .int .u64 (wd R 3 : Int)] 45] w60 := H62
    have hS63 : Hp w [] [.blk p3 [.int .u64 (wd x 0 : Int), .int .u64 (wd x 1 : Int), .int .u64 (wd x 2 : Int), .int .u64 (wd x 3 : Int)] 45, .blk p7 [.int .u64 (wd y 0 : Int), .int .u64 (wd y 1 : Int), .int .u64 (wd y 2 : Int), .int .u64 (wd y 3 : Int)] 45, .blk p26 [.int .u64 (wd Q 0 : Int), .int .u64 (wd Q 1 : Int), .int .u64 (wd Q 2 : Int), .int .u64 (wd Q 3 : Int)] 45, .blk p30 [.int .u64 (wd R 0 : Int), .int .u64 (wd R 1 : Int), .int .u64 (wd R 2 : Int), .int .u64 (wd R 3 : Int)] 45] w60 := H62.sub (List.Sublist.cons_cons _ (List.Sublist.cons_cons _ (List.Sublist.cons _ (List.Sublist.cons _ (List.Sublist.cons_cons _ (List.Sublist.cons_cons _ (List.Sublist.slnil)))))))
    refine GP.semU 3 r61 [4, 5] [(4, pt p11 0), (5, pt p15 0)] (by kernel_rfl) rfl rfl (by kernel_rfl) hS63 ?_
    refine GP.run [4] [4, 5, 6] [(4, pt p11 0), (5, pt p15 0), (6, .int .i64 0)] [0, 1, 2, 3, 4] (by kernel_rfl) rfl hS63 ?_
    refine GP.k (by kernel_rfl) hK52 (fun _ _ h => h) ?_
    refine G.ret ?_
    intro F_ hF_ hM_
    refine hRet _ _ (bodyPost_3 rfl (RV.cell rfl (H62.ldA (o := 0) (ty := 45) (m := 4) (sub := [.int .u64 (wd Q 0 : Int), .int .u64 (wd Q 1 : Int), .int .u64 (wd Q 2 : Int), .int .u64 (wd Q 3 : Int)]) 2 rfl (by kernel_rfl) rfl rfl)) (RV.cell rfl (H62.ldA (o := 0) (ty := 45) (m := 4) (sub := [.int .u64 (wd R 0 : Int), .int .u64 (wd R 1 : Int), .int .u64 (wd R 2 : Int), .int .u64 (wd R 3 : Int)]) 3 rfl (by kernel_rfl) rfl rfl)) (RV.tmp rfl) ?_ F_ hF_ hM_)
    have eQ : Q = x / y := by rw [hQ, hm0, Nat.pow_zero, Nat.div_one, Nat.mul_one]
    have eR : R = x % y := by rw [hR, hm0, Nat.pow_zero, Nat.div_one]
    rw [← eQ, ← eR]
    exact ⟨rfl, H62.sub (List.nil_sublist _)⟩
  · skip
    have hb50f := of_decide_eq_true hb50
    have hm0 : 0 < m := by have := of_decide_eq_true hb50; omega
    have ei : (((m : Nat) : Int) - 1) = ((m - 1 : Nat) : Int) := by omega
    refine G.eq (M' := [(2, pt p3 0), (3, pt p7 0), (4, pt p11 0), (5, pt p15 0), (7, pt p26 0), (8, pt p30 0), (9, .int .i64 ((m - 1 : Nat) : Int)), (20, .bool true)]) (by rw [ei]) ?_
    refine G.yes rfl ?_
    refine G.skipK hK47 (fun _ _ h => h) ?_
    refine G.seqK fun K64 hK65 => ?_
    refine G.block ?_
    refine G.seqK fun K66 hK67 => ?_
    refine G.region ?_
    refine GL.run (j := 1) 1 [2, 3, 4, 5, 7, 8, 9, 23] [(2, pt p3 0), (3, pt p7 0), (4, pt p11 0), (5, pt p15 0), (7, pt p26 0), (8, pt p30 0), (9, .int .i64 ((m - 1 : Nat) : Int)), (23, pt p30 3)] (by kernel_rfl) rfl ?_
    refine GL.sem (j := 2) (H45.ld (o := 3) (ty := 22) (v := .int .u64 (wd R 3 : Int)) 5 rfl (by kernel_rfl) rfl) [2, 3, 4, 5, 7, 8, 9, 24] [(2, pt p3 0), (3, pt p7 0), (4, pt p11 0), (5, pt p15 0), (7, pt p26 0), (8, pt p30 0), (9, .int .i64 ((m - 1 : Nat) : Int)), (24, .int .u64 (wd R 3 : Int))] (by kernel_rfl) (by kernel_rfl) rfl ?_
    refine GL.run (j := 5) 3 [2, 3, 4, 5, 7, 8, 9, 10] [(2, pt p3 0), (3, pt p7 0), (4, pt p11 0), (5, pt p15 0), (7, pt p26 0), (8, pt p30 0), (9, .int .i64 ((m - 1 : Nat) : Int)), (10, .bool ((Int.fdiv (wd R 3 : Int) (2 ^ 63)) == 1))] (by kernel_rfl) rfl ?_
    have e68 : (Int.fdiv (wd R 3 : Int) (2 ^ 63)) = ((wd R 3 / 2 ^ 63 : Nat) : Int) := n_shr _ 63
    refine GL.eq (M' := [(2, pt p3 0), (3, pt p7 0), (4, pt p11 0), (5, pt p15 0), (7, pt p26 0), (8, pt p30 0), (9, .int .i64 ((m - 1 : Nat) : Int)), (10, .bool (((wd R 3 / 2 ^ 63 : Nat) : Int) == 1))]) (by rw [e68]) ?_
    clear e68
    refine GL.k rfl hK67 (fun _ _ h => h) ?_
    refine G.seqK fun K69 hK70 => ?_
    refine G.region ?_
    refine GL.sem (j := 1) (H45.ldA (o := 0) (ty := 45) (m := 4) (sub := [.int .u64 (wd R 0 : Int), .int .u64 (wd R 1 : Int), .int .u64 (wd R 2 : Int), .int .u64 (wd R 3 : Int)]) 5 rfl (by kernel_rfl) rfl rfl) [2, 3, 4, 5, 7, 8, 9, 10, 27] [(2, pt p3 0), (3, pt p7 0), (4, pt p11 0), (5, pt p15 0), (7, pt p26 0), (8, pt p30 0), (9, .int .i64 ((m - 1 : Nat) : Int)), (10, .bool (((wd R 3 / 2 ^ 63 : Nat) : Int) == 1)), (27, wv R)] (by kernel_rfl) (by kernel_rfl) rfl ?_
    refine GL.call (j := 2) (Left_0 R 1 hR4 (by decide) w43) (by kernel_rfl) rfl (fun e_ w71 hR => ?_)
    obtain ⟨rfl, H73⟩ := hR
    obtain ⟨E, hE⟩ : ∃ E : Nat, E = R * 2 ^ 1 % K4 := ⟨_, rfl⟩
    rw [← hE]
    have hE4 : E < K4 := by rw [hE]; exact Nat.mod_lt _ (by decide)
    have hev : wd E 0 % 2 = 0 := by rw [hE]; exact even_wd R
    have H72 : Hp w [] [.blk p3 [.int .u64 (wd x 0 : Int), .int .u64 (wd x 1 : Int), .int .u64 (wd x 2 : Int), .int .u64 (wd x 3 : Int)] 45, .blk p7 [.int .u64 (wd y 0 : Int), .int .u64 (wd y 1 : Int), .int .u64 (wd y 2 : Int), .int .u64 (wd y 3 : Int)] 45, .blk p11 [.int .u64 0, .int .u64 0, .int .u64 0, .int .u64 0] 45, .blk p15 [.int .u64 0, .int .u64 0, .int .u64 0, .int .u64 0] 45, .blk p26 [.int .u64 (wd Q 0 : Int), .int .u64 (wd Q 1 : Int), .int .u64 (wd Q 2 : Int), .int .u64 (wd Q 3 : Int)] 45, .blk p30 [.int .u64 (wd R 0 : Int), .int .u64 (wd R 1 : Int), .int .u64 (wd R 2 : Int), .int .u64 (wd R 3 : Int)] 45] w71 := H45.callNil H73
    refine ⟨_, rfl, [2, 3, 4, 5, 7, 8, 9, 10, 28], [(2, pt p3 0), (3, pt p7 0), (4, pt p11 0), (5, pt p15 0), (7, pt p26 0), (8, pt p30 0), (9, .int .i64 ((m - 1 : Nat) : Int)), (10, .bool (((wd R 3 / 2 ^ 63 : Nat) : Int) == 1)), (28, wv E)], by kernel_rfl, ?_⟩
    obtain ⟨w74, r75, H76⟩ := H72.stA (P := Tryd.prog) (o := 0) (vs := [.int .u64 (wd E 0 : Int), .int .u64 (wd E 1 : Int), .int .u64 (wd E 2 : Int), .int .u64 (wd E 3 : Int)]) (ty := 45) (m := 4) 5 rfl (by kernel_rfl) rfl (by simp) (by simp [Value.oneCell'])
    have H76 : Hp w [] [.blk p3 [.int .u64 (wd x 0 : Int), .int .u64 (wd x 1 : Int), .int .u64 (wd x 2 : Int), .int .u64 (wd x 3 : Int)] 45, .blk p7 [.int .u64 (wd y 0 : Int), .int .u64 (wd y 1 : Int), .int .u64 (wd y 2 : Int), .int .u64 (wd y 3 : Int)] 45, .blk p11 [.int .u64 0, .int .u64 0, .int .u64 0, .int .u64 0] 45, .blk p15 [.int .u64 0, .int .u64 0, .int .u64 0, .int .u64 0] 45, .blk p26 [.int .u64 (wd Q 0 : Int), .int .u64 (wd Q 1 : Int), .int .u64 (wd Q 2 : Int), .int .u64 (wd Q 3 : Int)] 45, .blk p30 [.int .u64 (wd E 0 : Int), .int .u64 (wd E 1 : Int), .int .u64 (wd E 2 : Int), .int .u64 (wd E 3 : Int)] 45] w74 := H76
    refine GL.semU (j := 3) r75 [2, 3, 4, 5, 7, 8, 9, 10] [(2, pt p3 0), (3, pt p7 0), (4, pt p11 0), (5, pt p15 0), (7, pt p26 0), (8, pt p30 0), (9, .int .i64 ((m - 1 : Nat) : Int)), (10, .bool (((wd R 3 / 2 ^ 63 : Nat) : Int) == 1))] (by kernel_rfl) rfl rfl rfl ?_
    refine GL.k rfl hK70 (fun _ _ h => h) ?_
    refine G.seqK fun K77 hK78 => ?_
    refine G.tail 12 (by kernel_rfl) (by kernel_rfl) ?_
    have H79 := H76.drew
    generalize ({ w74 with drawn := w74.drawn + 1 } : World) = w80 at H79 ⊢
    refine GS.run (j := 1) 1 [2, 3, 4, 5, 7, 8, 9, 10, 29] [(2, pt p3 0), (3, pt p7 0), (4, pt p11 0), (5, pt p15 0), (7, pt p26 0), (8, pt p30 0), (9, .int .i64 ((m - 1 : Nat) : Int)), (10, .bool (((wd R 3 / 2 ^ 63 : Nat) : Int) == 1)), (29, pt p30 0)] (by kernel_rfl) rfl rfl ?_
    refine GS.sem (j := 2) (H79.ld (o := 0) (ty := 22) (v := .int .u64 (wd E 0 : Int)) 5 rfl (by kernel_rfl) rfl) [2, 3, 4, 5, 7, 8, 9, 10, 30] [(2, pt p3 0), (3, pt p7 0), (4, pt p11 0), (5, pt p15 0), (7, pt p26 0), (8, pt p30 0), (9, .int .i64 ((m - 1 : Nat) : Int)), (10, .bool (((wd R 3 / 2 ^ 63 : Nat) : Int) == 1)), (30, .int .u64 (wd E 0 : Int))] (by kernel_rfl) (by kernel_rfl) rfl rfl ?_
    refine GS.run (j := 4) 2 [2, 3, 4, 5, 7, 8, 9, 10, 30, 32] [(2, pt p3 0), (3, pt p7 0), (4, pt p11 0), (5, pt p15 0), (7, pt p26 0), (8, pt p30 0), (9, .int .i64 ((m - 1 : Nat) : Int)), (10, .bool (((wd R 3 / 2 ^ 63 : Nat) : Int) == 1)), (30, .int .u64 (wd E 0 : Int)), (32, .int .i64 (IntKind.i64.wrap (Int.tdiv ((m - 1 : Nat) : Int) 64)))] (by kernel_rfl) rfl rfl ?_
    have e81 : (IntKind.i64.wrap (Int.tdiv ((m - 1 : Nat) : Int) 64)) = (((m - 1) / 64 : Nat) : Int) := q64 (by omega)
    refine GS.eq (M' := [(2, pt p3 0), (3, pt p7 0), (4, pt p11 0), (5, pt p15 0), (7, pt p26 0), (8, pt p30 0), (9, .int .i64 ((m - 1 : Nat) : Int)), (10, .bool (((wd R 3 / 2 ^ 63 : Nat) : Int) == 1)), (30, .int .u64 (wd E 0 : Int)), (32, .int .i64 (((m - 1) / 64 : Nat) : Int))]) (by rw [e81]) ?_
    clear e81
    refine GS.sem (j := 5) (run_idxArr (P := Tryd.prog) (k := .i64) (t := 45) (len := 4) (sz := 1) (b := p3) (o := 0) (j := (m - 1) / 64) (by kernel_rfl) rfl (by omega)) [2, 3, 4, 5, 7, 8, 9, 10, 30, 33] [(2, pt p3 0), (3, pt p7 0), (4, pt p11 0), (5, pt p15 0), (7, pt p26 0), (8, pt p30 0), (9, .int .i64 ((m - 1 : Nat) : Int)), (10, .bool (((wd R 3 / 2 ^ 63 : Nat) : Int) == 1)), (30, .int .u64 (wd E 0 : Int)), (33, pt p3 (0 + ((m - 1) / 64) * 1))] (by kernel_rfl) (by kernel_rfl) rfl rfl ?_
    refine GS.sem (j := 6) (H79.ld (o := (0 + ((m - 1) / 64) * 1)) (ty := 22) (v := .int .u64 (wd x ((m - 1) / 64) : Int)) 0 rfl (by kernel_rfl) (wd_cell x (by omega))) [2, 3, 4, 5, 7, 8, 9, 10, 30, 34] [(2, pt p3 0), (3, pt p7 0), (4, pt p11 0), (5, pt p15 0), (7, pt p26 0), (8, pt p30 0), (9, .int .i64 ((m - 1 : Nat) : Int)), (10, .bool (((wd R 3 / 2 ^ 63 : Nat) : Int) == 1)), (30, .int .u64 (wd E 0 : Int)), (34, .int .u64 (wd x ((m - 1) / 64) : Int))] (by kernel_rfl) (by kernel_rfl) rfl rfl ?_
    refine GS.run (j := 8) 2 [2, 3, 4, 5, 7, 8, 9, 10, 30, 34, 36] [(2, pt p3 0), (3, pt p7 0), (4, pt p11 0), (5, pt p15 0), (7, pt p26 0), (8, pt p30 0), (9, .int .i64 ((m - 1 : Nat) : Int)), (10, .bool (((wd R 3 / 2 ^ 63 : Nat) : Int) == 1)), (30, .int .u64 (wd E 0 : Int)), (34, .int .u64 (wd x ((m - 1) / 64) : Int)), (36, .int .i64 (Int.tmod ((m - 1 : Nat) : Int) 64))] (by kernel_rfl) rfl rfl ?_
    have e82 : (Int.tmod ((m - 1 : Nat) : Int) 64) = (((m - 1) % 64 : Nat) : Int) := r64 _
    refine GS.eq (M' := [(2, pt p3 0), (3, pt p7 0), (4, pt p11 0), (5, pt p15 0), (7, pt p26 0), (8, pt p30 0), (9, .int .i64 ((m - 1 : Nat) : Int)), (10, .bool (((wd R 3 / 2 ^ 63 : Nat) : Int) == 1)), (30, .int .u64 (wd E 0 : Int)), (34, .int .u64 (wd x ((m - 1) / 64) : Int)), (36, .int .i64 (((m - 1) % 64 : Nat) : Int))]) (by rw [e82]) ?_
    clear e82
    refine GS.sem (j := 9) (run_shrN (P := Tryd.prog) (k' := .i64) (t := 22) (a := (wd x ((m - 1) / 64))) (r := ((m - 1) % 64)) (by omega) _) [2, 3, 4, 5, 7, 8, 9, 10, 30, 37] [(2, pt p3 0), (3, pt p7 0), (4, pt p11 0), (5, pt p15 0), (7, pt p26 0), (8, pt p30 0), (9, .int .i64 ((m - 1 : Nat) : Int)), (10, .bool (((wd R 3 / 2 ^ 63 : Nat) : Int) == 1)), (30, .int .u64 (wd E 0 : Int)), (37, .int .u64 (((wd x ((m - 1) / 64)) / 2 ^ ((m - 1) % 64) : Nat) : Int))] (by kernel_rfl) (by kernel_rfl) rfl rfl ?_
    refine GS.run (j := 12) 3 [2, 3, 4, 5, 7, 8, 9, 10, 39, 40] [(2, pt p3 0), (3, pt p7 0), (4, pt p11 0), (5, pt p15 0), (7, pt p26 0), (8, pt p30 0), (9, .int .i64 ((m - 1 : Nat) : Int)), (10, .bool (((wd R 3 / 2 ^ 63 : Nat) : Int) == 1)), (39, .int .u64 (Go.bits .or .u64 (wd E 0 : Int) (Go.bits .and .u64 (((wd x ((m - 1) / 64)) / 2 ^ ((m - 1) % 64) : Nat) : Int) 1))), (40, pt p30 0)] (by kernel_rfl) rfl rfl ?_
    have e83 : (Go.bits .and .u64 (((wd x ((m - 1) / 64)) / 2 ^ ((m - 1) % 64) : Nat) : Int) 1) = ((((wd x ((m - 1) / 64)) / 2 ^ ((m - 1) % 64)) % 2 : Nat) : Int) := n_and1 (bit_lt (wd_lt _ _))
    have e84 : (Go.bits .or .u64 (wd E 0 : Int) ((((wd x ((m - 1) / 64)) / 2 ^ ((m - 1) % 64)) % 2 : Nat) : Int)) = ((wd E 0 + (((wd x ((m - 1) / 64)) / 2 ^ ((m - 1) % 64)) % 2) : Nat) : Int) := or_bit hev (wd_lt _ _) (Nat.mod_lt _ (by decide))
    refine GS.eq (M' := [(2, pt p3 0), (3, pt p7 0), (4, pt p11 0), (5, pt p15 0), (7, pt p26 0), (8, pt p30 0), (9, .int .i64 ((m - 1 : Nat) : Int)), (10, .bool (((wd R 3 / 2 ^ 63 : Nat) : Int) == 1)), (39, .int .u64 ((wd E 0 + (((wd x ((m - 1) / 64)) / 2 ^ ((m - 1) % 64)) % 2) : Nat) : Int)), (40, pt p30 0)]) (by rw [e83, e84]) ?_
    clear e83 e84
    refine GS.tail rfl ?_
    obtain ⟨w85, r86, H87⟩ := H79.st (P := Tryd.prog) (o := 0) (ty := 22) (v := .int .u64 ((wd E 0 + (((wd x ((m - 1) / 64)) / 2 ^ ((m - 1) % 64)) % 2) : Nat) : Int)) 5 rfl (by kernel_rfl) (by simp) rfl
    have H87 : Hp w [] [.blk p3 [.int .u64 (wd x 0 : Int), .int .u64 (wd x 1 : Int), .int .u64 (wd x 2 : Int), .int .u64 (wd x 3 : Int)] 45, .blk p7 [.int .u64 (wd y 0 : Int), .int .u64 (wd y 1 : Int), .int .u64 (wd y 2 : Int), .int .u64 (wd y 3 : Int)] 45, .blk p11 [.int .u64 0, .int .u64 0, .int .u64 0, .int .u64 0] 45, .blk p15 [.int .u64 0, .int .u64 0, .int .u64 0, .int .u64 0] 45, .blk p26 [.int .u64 (wd Q 0 : Int), .int .u64 (wd Q 1 : Int), .int .u64 (wd Q 2 : Int), .int .u64 (wd Q 3 : Int)] 45, .blk p30 [.int .u64 ((wd E 0 + (((wd x ((m - 1) / 64)) / 2 ^ ((m - 1) % 64)) % 2) : Nat) : Int), .int .u64 (wd E 1 : Int), .int .u64 (wd E 2 : Int), .int .u64 (wd E 3 : Int)] 45] w85 := H87
    refine GL.semU (j := 13) r86 [2, 3, 4, 5, 7, 8, 9, 10] [(2, pt p3 0), (3, pt p7 0), (4, pt p11 0), (5, pt p15 0), (7, pt p26 0), (8, pt p30 0), (9, .int .i64 ((m - 1 : Nat) : Int)), (10, .bool (((wd R 3 / 2 ^ 63 : Nat) : Int) == 1))] (by kernel_rfl) rfl rfl rfl ?_
    have hbit := bit_of (x := x) (m := m - 1) (by omega)
    obtain ⟨D, hD⟩ : ∃ D : Nat, D = E + x / 2 ^ (m - 1) % 2 := ⟨_, rfl⟩
    have hw := even_add hev hE4 (b := x / 2 ^ (m - 1) % 2) (Nat.mod_lt _ (by decide))
    have hD4 : D < K4 := by rw [hD, hE]; exact even_lt (Nat.mod_lt _ (by decide))
    have H88 : Hp w [] [.blk p3 [.int .u64 (wd x 0 : Int), .int .u64 (wd x 1 : Int), .int .u64 (wd x 2 : Int), .int .u64 (wd x 3 : Int)] 45, .blk p7 [.int .u64 (wd y 0 : Int), .int .u64 (wd y 1 : Int), .int .u64 (wd y 2 : Int), .int .u64 (wd y 3 : Int)] 45, .blk p11 [.int .u64 0, .int .u64 0, .int .u64 0, .int .u64 0] 45, .blk p15 [.int .u64 0, .int .u64 0, .int .u64 0, .int .u64 0] 45, .blk p26 [.int .u64 (wd Q 0 : Int), .int .u64 (wd Q 1 : Int), .int .u64 (wd Q 2 : Int), .int .u64 (wd Q 3 : Int)] 45, .blk p30 [.int .u64 (wd D 0 : Int), .int .u64 (wd D 1 : Int), .int .u64 (wd D 2 : Int), .int .u64 (wd D 3 : Int)] 45] w85 := by rw [hD, hw.1, hw.2.1, hw.2.2.1, hw.2.2.2, ← hbit]; exact H87
    refine GL.k rfl hK78 (fun _ _ h => h) ?_
    refine G.seqK fun K89 hK90 => ?_
    refine G.region ?_
    refine GL.run (j := 2) 2 [2, 3, 4, 5, 7, 8, 9, 42] [(2, pt p3 0), (3, pt p7 0), (4, pt p11 0), (5, pt p15 0), (7, pt p26 0), (8, pt p30 0), (9, .int .i64 ((m - 1 : Nat) : Int)), (42, .bool (((wd R 3 / 2 ^ 63 : Nat) : Int) == 1))] (by kernel_rfl) rfl ?_
    cases hb91 : (((wd R 3 / 2 ^ 63 : Nat) : Int) == 1)
    · skip
      have hb91f := ne_of_beq_false hb91
      have hh : ¬ K4 ≤ 2 * R := fun h => by rw [(high_bit hR4).2 h] at hb91; cases hb91
      refine GL.sem (j := 3) (H88.ldA (o := 0) (ty := 45) (m := 4) (sub := [.int .u64 (wd D 0 : Int), .int .u64 (wd D 1 : Int), .int .u64 (wd D 2 : Int), .int .u64 (wd D 3 : Int)]) 5 rfl (by kernel_rfl) rfl rfl) [2, 3, 4, 5, 7, 8, 9, 42, 43] [(2, pt p3 0), (3, pt p7 0), (4, pt p11 0), (5, pt p15 0), (7, pt p26 0), (8, pt p30 0), (9, .int .i64 ((m - 1 : Nat) : Int)), (42, .bool false), (43, wv D)] (by kernel_rfl) (by kernel_rfl) rfl ?_
      refine GL.sem (j := 4) (H88.ldA (o := 0) (ty := 45) (m := 4) (sub := [.int .u64 (wd y 0 : Int), .int .u64 (wd y 1 : Int), .int .u64 (wd y 2 : Int), .int .u64 (wd y 3 : Int)]) 1 rfl (by kernel_rfl) rfl rfl) [2, 3, 4, 5, 7, 8, 9, 42, 43, 44] [(2, pt p3 0), (3, pt p7 0), (4, pt p11 0), (5, pt p15 0), (7, pt p26 0), (8, pt p30 0), (9, .int .i64 ((m - 1 : Nat) : Int)), (42, .bool false), (43, wv D), (44, wv y)] (by kernel_rfl) (by kernel_rfl) rfl ?_
      refine GL.call (j := 5) (Cmp_calls D y hD4 hy w85) (by kernel_rfl) rfl (fun e_ w92 hR => ?_)
      obtain ⟨rfl, H94⟩ := hR
      have H93 : Hp w [] [.blk p3 [.int .u64 (wd x 0 : Int), .int .u64 (wd x 1 : Int), .int .u64 (wd x 2 : Int), .int .u64 (wd x 3 : Int)] 45, .blk p7 [.int .u64 (wd y 0 : Int), .int .u64 (wd y 1 : Int), .int .u64 (wd y 2 : Int), .int .u64 (wd y 3 : Int)] 45, .blk p11 [.int .u64 0, .int .u64 0, .int .u64 0, .int .u64 0] 45, .blk p15 [.int .u64 0, .int .u64 0, .int .u64 0, .int .u64 0] 45, .blk p26 [.int .u64 (wd Q 0 : Int), .int .u64 (wd Q 1 : Int), .int .u64 (wd Q 2 : Int), .int .u64 (wd Q 3 : Int)] 45, .blk p30 [.int .u64 (wd D 0 : Int), .int .u64 (wd D 1 : Int), .int .u64 (wd D 2 : Int), .int .u64 (wd D 3 : Int)] 45] w92 := H88.callNil H94
      refine ⟨_, rfl, [2, 3, 4, 5, 7, 8, 9, 42, 45], [(2, pt p3 0), (3, pt p7 0), (4, pt p11 0), (5, pt p15 0), (7, pt p26 0), (8, pt p30 0), (9, .int .i64 ((m - 1 : Nat) : Int)), (42, .bool false), (45, .int .i64 (cmpN D y))], by kernel_rfl, ?_⟩
      refine GL.run (j := 7) 2 [2, 3, 4, 5, 7, 8, 9, 47] [(2, pt p3 0), (3, pt p7 0), (4, pt p11 0), (5, pt p15 0), (7, pt p26 0), (8, pt p30 0), (9, .int .i64 ((m - 1 : Nat) : Int)), (47, .bool (decide (0 ≤ (cmpN D y))))] (by kernel_rfl) rfl ?_
      refine GL.k rfl hK90 (fun _ _ h => h) ?_
      cases hb95 : (decide (0 ≤ (cmpN D y)))
      · skip
        have hb95f := of_decide_eq_false hb95
        have hc : ¬ y ≤ D := fun h => of_decide_eq_false hb95 (cmp_ge.2 h)
        refine G.no rfl ?_
        refine G.skipK hK65 (fun _ _ h => h) ?_
        refine G.region ?_
        refine GL.run (j := 3) 3 [2, 3, 4, 5, 7, 8, 9] [(2, pt p3 0), (3, pt p7 0), (4, pt p11 0), (5, pt p15 0), (7, pt p26 0), (8, pt p30 0), (9, .int .i64 (IntKind.i64.wrap (((m - 1 : Nat) : Int) - 1)))] (by kernel_rfl) rfl ?_
        have e96 : (IntKind.i64.wrap (((m - 1 : Nat) : Int) - 1)) = (((m - 1 : Nat) : Int) - 1) := in_i64 (by omega)
        refine GL.eq (M' := [(2, pt p3 0), (3, pt p7 0), (4, pt p11 0), (5, pt p15 0), (7, pt p26 0), (8, pt p30 0), (9, .int .i64 (((m - 1 : Nat) : Int) - 1))]) (by rw [e96]) ?_
        clear e96
        obtain ⟨e1, e2⟩ := round_down (by omega) hm0 hR hQ hE hD (by omega) (by omega)
        have H97 : Hp w [] [.blk p3 [.int .u64 (wd x 0 : Int), .int .u64 (wd x 1 : Int), .int .u64 (wd x 2 : Int), .int .u64 (wd x 3 : Int)] 45, .blk p7 [.int .u64 (wd y 0 : Int), .int .u64 (wd y 1 : Int), .int .u64 (wd y 2 : Int), .int .u64 (wd y 3 : Int)] 45, .blk p11 [.int .u64 0, .int .u64 0, .int .u64 0, .int .u64 0] 45, .blk p15 [.int .u64 0, .int .u64 0, .int .u64 0, .int .u64 0] 45, .blk p26 [.int .u64 (wd (x / 2 ^ (m - 1) / y * 2 ^ (m - 1)) 0 : Int), .int .u64 (wd (x / 2 ^ (m - 1) / y * 2 ^ (m - 1)) 1 : Int), .int .u64 (wd (x / 2 ^ (m - 1) / y * 2 ^ (m - 1)) 2 : Int), .int .u64 (wd (x / 2 ^ (m - 1) / y * 2 ^ (m - 1)) 3 : Int)] 45, .blk p30 [.int .u64 (wd (x / 2 ^ (m - 1) % y) 0 : Int), .int .u64 (wd (x / 2 ^ (m - 1) % y) 1 : Int), .int .u64 (wd (x / 2 ^ (m - 1) % y) 2 : Int), .int .u64 (wd (x / 2 ^ (m - 1) % y) 3 : Int)] 45] w92 := by rw [e1, e2]; exact H93
        refine GL.fit (ts := [2, 3, 4, 5, 7, 8, 9]) (M' := [(2, pt p3 0), (3, pt p7 0), (4, pt p11 0), (5, pt p15 0), (7, pt p26 0), (8, pt p30 0), (9, .int .i64 (((m - 1 : Nat) : Int) - 1))]) (by kernel_rfl) ?_
        refine GL.eq (M' := [(2, pt p3 0), (3, pt p7 0), (4, pt p11 0), (5, pt p15 0), (7, pt p26 0), (8, pt p30 0), (9, .int .i64 ((((m - 1) : Nat) : Int) - 1))]) (by rfl) ?_
        exact GL.again (m - 1) [2, 3, 4, 5, 7, 8, 9] rfl (by kernel_rfl) (by show (m - 1) < m; omega) ⟨by omega, H97⟩
      · skip
        have hb95f := of_decide_eq_true hb95
        have hc : y ≤ D := cmp_ge.1 (of_decide_eq_true hb95)
        refine G.yes rfl ?_
        refine G.seqK fun K98 hK99 => ?_
        refine G.region ?_
        refine GL.sem (j := 1) (H93.ldA (o := 0) (ty := 45) (m := 4) (sub := [.int .u64 (wd D 0 : Int), .int .u64 (wd D 1 : Int), .int .u64 (wd D 2 : Int), .int .u64 (wd D 3 : Int)]) 5 rfl (by kernel_rfl) rfl rfl) [2, 3, 4, 5, 7, 8, 9, 49] [(2, pt p3 0), (3, pt p7 0), (4, pt p11 0), (5, pt p15 0), (7, pt p26 0), (8, pt p30 0), (9, .int .i64 ((m - 1 : Nat) : Int)), (49, wv D)] (by kernel_rfl) (by kernel_rfl) rfl ?_
        refine GL.sem (j := 2) (H93.ldA (o := 0) (ty := 45) (m := 4) (sub := [.int .u64 (wd y 0 : Int), .int .u64 (wd y 1 : Int), .int .u64 (wd y 2 : Int), .int .u64 (wd y 3 : Int)]) 1 rfl (by kernel_rfl) rfl rfl) [2, 3, 4, 5, 7, 8, 9, 49, 50] [(2, pt p3 0), (3, pt p7 0), (4, pt p11 0), (5, pt p15 0), (7, pt p26 0), (8, pt p30 0), (9, .int .i64 ((m - 1 : Nat) : Int)), (49, wv D), (50, wv y)] (by kernel_rfl) (by kernel_rfl) rfl ?_
        refine GL.call (j := 3) (Sub_calls D y hD4 hy w92) (by kernel_rfl) rfl (fun e_ w100 hR => ?_)
        obtain ⟨rfl, H102⟩ := hR
        obtain ⟨F, hF⟩ : ∃ F : Nat, F = (D + K4 - y) % K4 := ⟨_, rfl⟩
        rw [← hF]
        have H101 : Hp w [] [.blk p3 [.int .u64 (wd x 0 : Int), .int .u64 (wd x 1 : Int), .int .u64 (wd x 2 : Int), .int .u64 (wd x 3 : Int)] 45, .blk p7 [.int .u64 (wd y 0 : Int), .int .u64 (wd y 1 : Int), .int .u64 (wd y 2 : Int), .int .u64 (wd y 3 : Int)] 45, .blk p11 [.int .u64 0, .int .u64 0, .int .u64 0, .int .u64 0] 45, .blk p15 [.int .u64 0, .int .u64 0, .int .u64 0, .int .u64 0] 45, .blk p26 [.int .u64 (wd Q 0 : Int), .int .u64 (wd Q 1 : Int), .int .u64 (wd Q 2 : Int), .int .u64 (wd Q 3 : Int)] 45, .blk p30 [.int .u64 (wd D 0 : Int), .int .u64 (wd D 1 : Int), .int .u64 (wd D 2 : Int), .int .u64 (wd D 3 : Int)] 45] w100 := H93.callNil H102
        refine ⟨_, rfl, [2, 3, 4, 5, 7, 8, 9, 51], [(2, pt p3 0), (3, pt p7 0), (4, pt p11 0), (5, pt p15 0), (7, pt p26 0), (8, pt p30 0), (9, .int .i64 ((m - 1 : Nat) : Int)), (51, .tuple #[wv F, .bool (decide (D < y))])], by kernel_rfl, ?_⟩
        refine GL.run (j := 6) 3 [2, 3, 4, 5, 7, 8, 9, 52] [(2, pt p3 0), (3, pt p7 0), (4, pt p11 0), (5, pt p15 0), (7, pt p26 0), (8, pt p30 0), (9, .int .i64 ((m - 1 : Nat) : Int)), (52, wv F)] (by kernel_rfl) rfl ?_
        obtain ⟨w103, r104, H105⟩ := H101.stA (P := Tryd.prog) (o := 0) (vs := [.int .u64 (wd F 0 : Int), .int .u64 (wd F 1 : Int), .int .u64 (wd F 2 : Int), .int .u64 (wd F 3 : Int)]) (ty := 45) (m := 4) 5 rfl (by kernel_rfl) rfl (by simp) (by simp [Value.oneCell'])
        have H105 : Hp w [] [.blk p3 [.int .u64 (wd x 0 : Int), .int .u64 (wd x 1 : Int), .int .u64 (wd x 2 : Int), .int .u64 (wd x 3 : Int)] 45, .blk p7 [.int .u64 (wd y 0 : Int), .int .u64 (wd y 1 : Int), .int .u64 (wd y 2 : Int), .int .u64 (wd y 3 : Int)] 45, .blk p11 [.int .u64 0, .int .u64 0, .int .u64 0, .int .u64 0] 45, .blk p15 [.int .u64 0, .int .u64 0, .int .u64 0, .int .u64 0] 45, .blk p26 [.int .u64 (wd Q 0 : Int), .int .u64 (wd Q 1 : Int), .int .u64 (wd Q 2 : Int), .int .u64 (wd Q 3 : Int)] 45, .blk p30 [.int .u64 (wd F 0 : Int), .int .u64 (wd F 1 : Int), .int .u64 (wd F 2 : Int), .int .u64 (wd F 3 : Int)] 45] w103 := H105
        refine GL.semU (j := 7) r104 [2, 3, 4, 5, 7, 8, 9] [(2, pt p3 0), (3, pt p7 0), (4, pt p11 0), (5, pt p15 0), (7, pt p26 0), (8, pt p30 0), (9, .int .i64 ((m - 1 : Nat) : Int))] (by kernel_rfl) rfl rfl rfl ?_
        refine GL.k rfl hK99 (fun _ _ h => h) ?_
        refine G.tail 9 (by kernel_rfl) (by kernel_rfl) ?_
        have H106 := H105.drew
        generalize ({ w103 with drawn := w103.drawn + 1 } : World) = w107 at H106 ⊢
        refine GS.run (j := 2) 2 [2, 3, 4, 5, 7, 8, 9, 55] [(2, pt p3 0), (3, pt p7 0), (4, pt p11 0), (5, pt p15 0), (7, pt p26 0), (8, pt p30 0), (9, .int .i64 ((m - 1 : Nat) : Int)), (55, .int .i64 (IntKind.i64.wrap (Int.tdiv ((m - 1 : Nat) : Int) 64)))] (by kernel_rfl) rfl rfl ?_
        have e108 : (IntKind.i64.wrap (Int.tdiv ((m - 1 : Nat) : Int) 64)) = (((m - 1) / 64 : Nat) : Int) := q64 (by omega)
        refine GS.eq (M' := [(2, pt p3 0), (3, pt p7 0), (4, pt p11 0), (5, pt p15 0), (7, pt p26 0), (8, pt p30 0), (9, .int .i64 ((m - 1 : Nat) : Int)), (55, .int .i64 (((m - 1) / 64 : Nat) : Int))]) (by rw [e108]) ?_
        clear e108
        refine GS.sem (j := 3) (run_idxArr (P := Tryd.prog) (k := .i64) (t := 45) (len := 4) (sz := 1) (b := p26) (o := 0) (j := (m - 1) / 64) (by kernel_rfl) rfl (by omega)) [2, 3, 4, 5, 7, 8, 9, 55, 56] [(2, pt p3 0), (3, pt p7 0), (4, pt p11 0), (5, pt p15 0), (7, pt p26 0), (8, pt p30 0), (9, .int .i64 ((m - 1 : Nat) : Int)), (55, .int .i64 (((m - 1) / 64 : Nat) : Int)), (56, pt p26 (0 + ((m - 1) / 64) * 1))] (by kernel_rfl) (by kernel_rfl) rfl rfl ?_
        refine GS.sem (j := 4) (H106.ld (o := (0 + ((m - 1) / 64) * 1)) (ty := 22) (v := .int .u64 (wd Q ((m - 1) / 64) : Int)) 4 rfl (by kernel_rfl) (wd_cell Q (by omega))) [2, 3, 4, 5, 7, 8, 9, 55, 57] [(2, pt p3 0), (3, pt p7 0), (4, pt p11 0), (5, pt p15 0), (7, pt p26 0), (8, pt p30 0), (9, .int .i64 ((m - 1 : Nat) : Int)), (55, .int .i64 (((m - 1) / 64 : Nat) : Int)), (57, .int .u64 (wd Q ((m - 1) / 64) : Int))] (by kernel_rfl) (by kernel_rfl) rfl rfl ?_
        refine GS.run (j := 6) 2 [2, 3, 4, 5, 7, 8, 9, 55, 57, 59] [(2, pt p3 0), (3, pt p7 0), (4, pt p11 0), (5, pt p15 0), (7, pt p26 0), (8, pt p30 0), (9, .int .i64 ((m - 1 : Nat) : Int)), (55, .int .i64 (((m - 1) / 64 : Nat) : Int)), (57, .int .u64 (wd Q ((m - 1) / 64) : Int)), (59, .int .i64 (Int.tmod ((m - 1 : Nat) : Int) 64))] (by kernel_rfl) rfl rfl ?_
        have e109 : (Int.tmod ((m - 1 : Nat) : Int) 64) = (((m - 1) % 64 : Nat) : Int) := r64 _
        refine GS.eq (M' := [(2, pt p3 0), (3, pt p7 0), (4, pt p11 0), (5, pt p15 0), (7, pt p26 0), (8, pt p30 0), (9, .int .i64 ((m - 1 : Nat) : Int)), (55, .int .i64 (((m - 1) / 64 : Nat) : Int)), (57, .int .u64 (wd Q ((m - 1) / 64) : Int)), (59, .int .i64 (((m - 1) % 64 : Nat) : Int))]) (by rw [e109]) ?_
        clear e109
        refine GS.sem (j := 7) (run_shlN (P := Tryd.prog) (k' := .i64) (t := 22) (a := 1) (r := ((m - 1) % 64)) (by omega) _) [2, 3, 4, 5, 7, 8, 9, 55, 57, 60] [(2, pt p3 0), (3, pt p7 0), (4, pt p11 0), (5, pt p15 0), (7, pt p26 0), (8, pt p30 0), (9, .int .i64 ((m - 1 : Nat) : Int)), (55, .int .i64 (((m - 1) / 64 : Nat) : Int)), (57, .int .u64 (wd Q ((m - 1) / 64) : Int)), (60, .int .u64 ((1 * 2 ^ ((m - 1) % 64) % K : Nat) : Int))] (by kernel_rfl) (by kernel_rfl) rfl rfl ?_
        refine GS.run (j := 8) 1 [2, 3, 4, 5, 7, 8, 9, 55, 61] [(2, pt p3 0), (3, pt p7 0), (4, pt p11 0), (5, pt p15 0), (7, pt p26 0), (8, pt p30 0), (9, .int .i64 ((m - 1 : Nat) : Int)), (55, .int .i64 (((m - 1) / 64 : Nat) : Int)), (61, .int .u64 (Go.bits .or .u64 (wd Q ((m - 1) / 64) : Int) ((1 * 2 ^ ((m - 1) % 64) % K : Nat) : Int)))] (by kernel_rfl) rfl rfl ?_
        have e110 : (Go.bits .or .u64 (wd Q ((m - 1) / 64) : Int) ((1 * 2 ^ ((m - 1) % 64) % K : Nat) : Int)) = ((wd Q ((m - 1) / 64) ||| 1 * 2 ^ ((m - 1) % 64) % K : Nat) : Int) := n_or (wd_lt _ _) (Nat.mod_lt _ (by decide))
        refine GS.eq (M' := [(2, pt p3 0), (3, pt p7 0), (4, pt p11 0), (5, pt p15 0), (7, pt p26 0), (8, pt p30 0), (9, .int .i64 ((m - 1 : Nat) : Int)), (55, .int .i64 (((m - 1) / 64 : Nat) : Int)), (61, .int .u64 ((wd Q ((m - 1) / 64) ||| 1 * 2 ^ ((m - 1) % 64) % K : Nat) : Int))]) (by rw [e110]) ?_
        clear e110
        refine GS.sem (j := 9) (run_idxArr (P := Tryd.prog) (k := .i64) (t := 45) (len := 4) (sz := 1) (b := p26) (o := 0) (j := (m - 1) / 64) (by kernel_rfl) rfl (by omega)) [2, 3, 4, 5, 7, 8, 9, 61, 62] [(2, pt p3 0), (3, pt p7 0), (4, pt p11 0), (5, pt p15 0), (7, pt p26 0), (8, pt p30 0), (9, .int .i64 ((m - 1 : Nat) : Int)), (61, .int .u64 ((wd Q ((m - 1) / 64) ||| 1 * 2 ^ ((m - 1) % 64) % K : Nat) : Int)), (62, pt p26 (0 + ((m - 1) / 64) * 1))] (by kernel_rfl) (by kernel_rfl) rfl rfl ?_
        refine GS.tail rfl ?_
        obtain ⟨w111, r112, H113⟩ := H106.st (P := Tryd.prog) (o := (0 + ((m - 1) / 64) * 1)) (ty := 22) (v := .int .u64 ((wd Q ((m - 1) / 64) ||| 1 * 2 ^ ((m - 1) % 64) % K : Nat) : Int)) 4 rfl (by kernel_rfl) (by show (0 + ((m - 1) / 64) * 1) < 4; omega) rfl
        rw [setbit (by rw [show 64 * ((m - 1) / 64) + (m - 1) % 64 + 1 = m from by omega, hQ]; exact Nat.mul_mod_left _ _) hQ4 (by omega) (Nat.mod_lt _ (by decide)), show 64 * ((m - 1) / 64) + (m - 1) % 64 = m - 1 from by omega] at H113
        have H113 : Hp w [] [.blk p3 [.int .u64 (wd x 0 : Int), .int .u64 (wd x 1 : Int), .int .u64 (wd x 2 : Int), .int .u64 (wd x 3 : Int)] 45, .blk p7 [.int .u64 (wd y 0 : Int), .int .u64 (wd y 1 : Int), .int .u64 (wd y 2 : Int), .int .u64 (wd y 3 : Int)] 45, .blk p11 [.int .u64 0, .int .u64 0, .int .u64 0, .int .u64 0] 45, .blk p15 [.int .u64 0, .int .u64 0, .int .u64 0, .int .u64 0] 45, .blk p26 [.int .u64 (wd (Q + 2 ^ (m - 1)) 0 : Int), .int .u64 (wd (Q + 2 ^ (m - 1)) 1 : Int), .int .u64 (wd (Q + 2 ^ (m - 1)) 2 : Int), .int .u64 (wd (Q + 2 ^ (m - 1)) 3 : Int)] 45, .blk p30 [.int .u64 (wd F 0 : Int), .int .u64 (wd F 1 : Int), .int .u64 (wd F 2 : Int), .int .u64 (wd F 3 : Int)] 45] w111 := H113
        refine GL.semU (j := 10) r112 [2, 3, 4, 5, 7, 8, 9] [(2, pt p3 0), (3, pt p7 0), (4, pt p11 0), (5, pt p15 0), (7, pt p26 0), (8, pt p30 0), (9, .int .i64 ((m - 1 : Nat) : Int))] (by kernel_rfl) rfl rfl rfl ?_
        refine GL.k rfl hK65 (fun _ _ h => h) ?_
        refine G.region ?_
        refine GL.run (j := 3) 3 [2, 3, 4, 5, 7, 8, 9] [(2, pt p3 0), (3, pt p7 0), (4, pt p11 0), (5, pt p15 0), (7, pt p26 0), (8, pt p30 0), (9, .int .i64 (IntKind.i64.wrap (((m - 1 : Nat) : Int) - 1)))] (by kernel_rfl) rfl ?_
        have e114 : (IntKind.i64.wrap (((m - 1 : Nat) : Int) - 1)) = (((m - 1 : Nat) : Int) - 1) := in_i64 (by omega)
        refine GL.eq (M' := [(2, pt p3 0), (3, pt p7 0), (4, pt p11 0), (5, pt p15 0), (7, pt p26 0), (8, pt p30 0), (9, .int .i64 (((m - 1 : Nat) : Int) - 1))]) (by rw [e114]) ?_
        clear e114
        obtain ⟨e1, e2⟩ := round_up (by omega) hy hm0 hR hQ hE hD hF (by omega)
        have H115 : Hp w [] [.blk p3 [.int .u64 (wd x 0 : Int), .int .u64 (wd x 1 : Int), .int .u64 (wd x 2 : Int), .int .u64 (wd x 3 : Int)] 45, .blk p7 [.int .u64 (wd y 0 : Int), .int .u64 (wd y 1 : Int), .int .u64 (wd y 2 : Int), .int .u64 (wd y 3 : Int)] 45, .blk p11 [.int .u64 0, .int .u64 0, .int .u64 0, .int .u64 0] 45, .blk p15 [.int .u64 0, .int .u64 0, .int .u64 0, .int .u64 0] 45, .blk p26 [.int .u64 (wd (x / 2 ^ (m - 1) / y * 2 ^ (m - 1)) 0 : Int), .int .u64 (wd (x / 2 ^ (m - 1) / y * 2 ^ (m - 1)) 1 : Int), .int .u64 (wd (x / 2 ^ (m - 1) / y * 2 ^ (m - 1)) 2 : Int), .int .u64 (wd (x / 2 ^ (m - 1) / y * 2 ^ (m - 1)) 3 : Int)] 45, .blk p30 [.int .u64 (wd (x / 2 ^ (m - 1) % y) 0 : Int), .int .u64 (wd (x / 2 ^ (m - 1) % y) 1 : Int), .int .u64 (wd (x / 2 ^ (m - 1) % y) 2 : Int), .int .u64 (wd (x / 2 ^ (m - 1) % y) 3 : Int)] 45] w111 := by rw [e1, e2]; exact H113
        refine GL.fit (ts := [2, 3, 4, 5, 7, 8, 9]) (M' := [(2, pt p3 0), (3, pt p7 0), (4, pt p11 0), (5, pt p15 0), (7, pt p26 0), (8, pt p30 0), (9, .int .i64 (((m - 1 : Nat) : Int) - 1))]) (by kernel_rfl) ?_
        refine GL.eq (M' := [(2, pt p3 0), (3, pt p7 0), (4, pt p11 0), (5, pt p15 0), (7, pt p26 0), (8, pt p30 0), (9, .int .i64 ((((m - 1) : Nat) : Int) - 1))]) (by rfl) ?_
        exact GL.again (m - 1) [2, 3, 4, 5, 7, 8, 9] rfl (by kernel_rfl) (by show (m - 1) < m; omega) ⟨by omega, H115⟩
    · skip
      have hb91f := eq_of_beq hb91
      have hh : K4 ≤ 2 * R := (high_bit hR4).1 hb91
      refine GL.run (j := 7) 5 [2, 3, 4, 5, 7, 8, 9, 47] [(2, pt p3 0), (3, pt p7 0), (4, pt p11 0), (5, pt p15 0), (7, pt p26 0), (8, pt p30 0), (9, .int .i64 ((m - 1 : Nat) : Int)), (47, .bool true)] (by kernel_rfl) rfl ?_
      refine GL.k rfl hK90 (fun _ _ h => h) ?_
      refine G.yes rfl ?_
      refine G.seqK fun K116 hK117 => ?_
      refine G.region ?_
      refine GL.sem (j := 1) (H88.ldA (o := 0) (ty := 45) (m := 4) (sub := [.int .u64 (wd D 0 : Int), .int .u64 (wd D 1 : Int), .int .u64 (wd D 2 : Int), .int .u64 (wd D 3 : Int)]) 5 rfl (by kernel_rfl) rfl rfl) [2, 3, 4, 5, 7, 8, 9, 49] [(2, pt p3 0), (3, pt p7 0), (4, pt p11 0), (5, pt p15 0), (7, pt p26 0), (8, pt p30 0), (9, .int .i64 ((m - 1 : Nat) : Int)), (49, wv D)] (by kernel_rfl) (by kernel_rfl) rfl ?_
      refine GL.sem (j := 2) (H88.ldA (o := 0) (ty := 45) (m := 4) (sub := [.int .u64 (wd y 0 : Int), .int .u64 (wd y 1 : Int), .int .u64 (wd y 2 : Int), .int .u64 (wd y 3 : Int)]) 1 rfl (by kernel_rfl) rfl rfl) [2, 3, 4, 5, 7, 8, 9, 49, 50] [(2, pt p3 0), (3, pt p7 0), (4, pt p11 0), (5, pt p15 0), (7, pt p26 0), (8, pt p30 0), (9, .int .i64 ((m - 1 : Nat) : Int)), (49, wv D), (50, wv y)] (by kernel_rfl) (by kernel_rfl) rfl ?_
      refine GL.call (j := 3) (Sub_calls D y hD4 hy w85) (by kernel_rfl) rfl (fun e_ w118 hR => ?_)
      obtain ⟨rfl, H120⟩ := hR
      obtain ⟨F, hF⟩ : ∃ F : Nat, F = (D + K4 - y) % K4 := ⟨_, rfl⟩
      rw [← hF]
      have H119 : Hp w [] [.blk p3 [.int .u64 (wd x 0 : Int), .int .u64 (wd x 1 : Int), .int .u64 (wd x 2 : Int), .int .u64 (wd x 3 : Int)] 45, .blk p7 [.int .u64 (wd y 0 : Int), .int .u64 (wd y 1 : Int), .int .u64 (wd y 2 : Int), .int .u64 (wd y 3 : Int)] 45, .blk p11 [.int .u64 0, .int .u64 0, .int .u64 0, .int .u64 0] 45, .blk p15 [.int .u64 0, .int .u64 0, .int .u64 0, .int .u64 0] 45, .blk p26 [.int .u64 (wd Q 0 : Int), .int .u64 (wd Q 1 : Int), .int .u64 (wd Q 2 : Int), .int .u64 (wd Q 3 : Int)] 45, .blk p30 [.int .u64 (wd D 0 : Int), .int .u64 (wd D 1 : Int), .int .u64 (wd D 2 : Int), .int .u64 (wd D 3 : Int)] 45] w118 := H88.callNil H120
      refine ⟨_, rfl, [2, 3, 4, 5, 7, 8, 9, 51], [(2, pt p3 0), (3, pt p7 0), (4, pt p11 0), (5, pt p15 0), (7, pt p26 0), (8, pt p30 0), (9, .int .i64 ((m - 1 : Nat) : Int)), (51, .tuple #[wv F, .bool (decide (D < y))])], by kernel_rfl, ?_⟩
      refine GL.run (j := 6) 3 [2, 3, 4, 5, 7, 8, 9, 52] [(2, pt p3 0), (3, pt p7 0), (4, pt p11 0), (5, pt p15 0), (7, pt p26 0), (8, pt p30 0), (9, .int .i64 ((m - 1 : Nat) : Int)), (52, wv F)] (by kernel_rfl) rfl ?_
      obtain ⟨w121, r122, H123⟩ := H119.stA (P := Tryd.prog) (o := 0) (vs := [.int .u64 (wd F 0 : Int), .int .u64 (wd F 1 : Int), .int .u64 (wd F 2 : Int), .int .u64 (wd F 3 : Int)]) (ty := 45) (m := 4) 5 rfl (by kernel_rfl) rfl (by simp) (by simp [Value.oneCell'])
      have H123 : Hp w [] [.blk p3 [.int .u64 (wd x 0 : Int), .int .u64 (wd x 1 : Int), .int .u64 (wd x 2 : Int), .int .u64 (wd x 3 : Int)] 45, .blk p7 [.int .u64 (wd y 0 : Int), .int .u64 (wd y 1 : Int), .int .u64 (wd y 2 : Int), .int .u64 (wd y 3 : Int)] 45, .blk p11 [.int .u64 0, .int .u64 0, .int .u64 0, .int .u64 0] 45, .blk p15 [.int .u64 0, .int .u64 0, .int .u64 0, .int .u64 0] 45, .blk p26 [.int .u64 (wd Q 0 : Int), .int .u64 (wd Q 1 : Int), .int .u64 (wd Q 2 : Int), .int .u64 (wd Q 3 : Int)] 45, .blk p30 [.int .u64 (wd F 0 : Int), .int .u64 (wd F 1 : Int), .int .u64 (wd F 2 : Int), .int .u64 (wd F 3 : Int)] 45] w121 := H123
      refine GL.semU (j := 7) r122 [2, 3, 4, 5, 7, 8, 9] [(2, pt p3 0), (3, pt p7 0), (4, pt p11 0), (5, pt p15 0), (7, pt p26 0), (8, pt p30 0), (9, .int .i64 ((m - 1 : Nat) : Int))] (by kernel_rfl) rfl rfl rfl ?_
      refine GL.k rfl hK117 (fun _ _ h => h) ?_
      refine G.tail 9 (by kernel_rfl) (by kernel_rfl) ?_
      have H124 := H123.drew
      generalize ({ w121 with drawn := w121.drawn + 1 } : World) = w125 at H124 ⊢
      refine GS.run (j := 2) 2 [2, 3, 4, 5, 7, 8, 9, 55] [(2, pt p3 0), (3, pt p7 0), (4, pt p11 0), (5, pt p15 0), (7, pt p26 0), (8, pt p30 0), (9, .int .i64 ((m - 1 : Nat) : Int)), (55, .int .i64 (IntKind.i64.wrap (Int.tdiv ((m - 1 : Nat) : Int) 64)))] (by kernel_rfl) rfl rfl ?_
      have e126 : (IntKind.i64.wrap (Int.tdiv ((m - 1 : Nat) : Int) 64)) = (((m - 1) / 64 : Nat) : Int) := q64 (by omega)
      refine GS.eq (M' := [(2, pt p3 0), (3, pt p7 0), (4, pt p11 0), (5, pt p15 0), (7, pt p26 0), (8, pt p30 0), (9, .int .i64 ((m - 1 : Nat) : Int)), (55, .int .i64 (((m - 1) / 64 : Nat) : Int))]) (by rw [e126]) ?_
      clear e126
      refine GS.sem (j := 3) (run_idxArr (P := Tryd.prog) (k := .i64) (t := 45) (len := 4) (sz := 1) (b := p26) (o := 0) (j := (m - 1) / 64) (by kernel_rfl) rfl (by omega)) [2, 3, 4, 5, 7, 8, 9, 55, 56] [(2, pt p3 0), (3, pt p7 0), (4, pt p11 0), (5, pt p15 0), (7, pt p26 0), (8, pt p30 0), (9, .int .i64 ((m - 1 : Nat) : Int)), (55, .int .i64 (((m - 1) / 64 : Nat) : Int)), (56, pt p26 (0 + ((m - 1) / 64) * 1))] (by kernel_rfl) (by kernel_rfl) rfl rfl ?_
      refine GS.sem (j := 4) (H124.ld (o := (0 + ((m - 1) / 64) * 1)) (ty := 22) (v := .int .u64 (wd Q ((m - 1) / 64) : Int)) 4 rfl (by kernel_rfl) (wd_cell Q (by omega))) [2, 3, 4, 5, 7, 8, 9, 55, 57] [(2, pt p3 0), (3, pt p7 0), (4, pt p11 0), (5, pt p15 0), (7, pt p26 0), (8, pt p30 0), (9, .int .i64 ((m - 1 : Nat) : Int)), (55, .int .i64 (((m - 1) / 64 : Nat) : Int)), (57, .int .u64 (wd Q ((m - 1) / 64) : Int))] (by kernel_rfl) (by kernel_rfl) rfl rfl ?_
      refine GS.run (j := 6) 2 [2, 3, 4, 5, 7, 8, 9, 55, 57, 59] [(2, pt p3 0), (3, pt p7 0), (4, pt p11 0), (5, pt p15 0), (7, pt p26 0), (8, pt p30 0), (9, .int .i64 ((m - 1 : Nat) : Int)), (55, .int .i64 (((m - 1) / 64 : Nat) : Int)), (57, .int .u64 (wd Q ((m - 1) / 64) : Int)), (59, .int .i64 (Int.tmod ((m - 1 : Nat) : Int) 64))] (by kernel_rfl) rfl rfl ?_
      have e127 : (Int.tmod ((m - 1 : Nat) : Int) 64) = (((m - 1) % 64 : Nat) : Int) := r64 _
      refine GS.eq (M' := [(2, pt p3 0), (3, pt p7 0), (4, pt p11 0), (5, pt p15 0), (7, pt p26 0), (8, pt p30 0), (9, .int .i64 ((m - 1 : Nat) : Int)), (55, .int .i64 (((m - 1) / 64 : Nat) : Int)), (57, .int .u64 (wd Q ((m - 1) / 64) : Int)), (59, .int .i64 (((m - 1) % 64 : Nat) : Int))]) (by rw [e127]) ?_
      clear e127
      refine GS.sem (j := 7) (run_shlN (P := Tryd.prog) (k' := .i64) (t := 22) (a := 1) (r := ((m - 1) % 64)) (by omega) _) [2, 3, 4, 5, 7, 8, 9, 55, 57, 60] [(2, pt p3 0), (3, pt p7 0), (4, pt p11 0), (5, pt p15 0), (7, pt p26 0), (8, pt p30 0), (9, .int .i64 ((m - 1 : Nat) : Int)), (55, .int .i64 (((m - 1) / 64 : Nat) : Int)), (57, .int .u64 (wd Q ((m - 1) / 64) : Int)), (60, .int .u64 ((1 * 2 ^ ((m - 1) % 64) % K : Nat) : Int))] (by kernel_rfl) (by kernel_rfl) rfl rfl ?_
      refine GS.run (j := 8) 1 [2, 3, 4, 5, 7, 8, 9, 55, 61] [(2, pt p3 0), (3, pt p7 0), (4, pt p11 0), (5, pt p15 0), (7, pt p26 0), (8, pt p30 0), (9, .int .i64 ((m - 1 : Nat) : Int)), (55, .int .i64 (((m - 1) / 64 : Nat) : Int)), (61, .int .u64 (Go.bits .or .u64 (wd Q ((m - 1) / 64) : Int) ((1 * 2 ^ ((m - 1) % 64) % K : Nat) : Int)))] (by kernel_rfl) rfl rfl ?_
      have e128 : (Go.bits .or .u64 (wd Q ((m - 1) / 64) : Int) ((1 * 2 ^ ((m - 1) % 64) % K : Nat) : Int)) = ((wd Q ((m - 1) / 64) ||| 1 * 2 ^ ((m - 1) % 64) % K : Nat) : Int) := n_or (wd_lt _ _) (Nat.mod_lt _ (by decide))
      refine GS.eq (M' := [(2, pt p3 0), (3, pt p7 0), (4, pt p11 0), (5, pt p15 0), (7, pt p26 0), (8, pt p30 0), (9, .int .i64 ((m - 1 : Nat) : Int)), (55, .int .i64 (((m - 1) / 64 : Nat) : Int)), (61, .int .u64 ((wd Q ((m - 1) / 64) ||| 1 * 2 ^ ((m - 1) % 64) % K : Nat) : Int))]) (by rw [e128]) ?_
      clear e128
      refine GS.sem (j := 9) (run_idxArr (P := Tryd.prog) (k := .i64) (t := 45) (len := 4) (sz := 1) (b := p26) (o := 0) (j := (m - 1) / 64) (by kernel_rfl) rfl (by omega)) [2, 3, 4, 5, 7, 8, 9, 61, 62] [(2, pt p3 0), (3, pt p7 0), (4, pt p11 0), (5, pt p15 0), (7, pt p26 0), (8, pt p30 0), (9, .int .i64 ((m - 1 : Nat) : Int)), (61, .int .u64 ((wd Q ((m - 1) / 64) ||| 1 * 2 ^ ((m - 1) % 64) % K : Nat) : Int)), (62, pt p26 (0 + ((m - 1) / 64) * 1))] (by kernel_rfl) (by kernel_rfl) rfl rfl ?_
      refine GS.tail rfl ?_
      obtain ⟨w129, r130, H131⟩ := H124.st (P := Tryd.prog) (o := (0 + ((m - 1) / 64) * 1)) (ty := 22) (v := .int .u64 ((wd Q ((m - 1) / 64) ||| 1 * 2 ^ ((m - 1) % 64) % K : Nat) : Int)) 4 rfl (by kernel_rfl) (by show (0 + ((m - 1) / 64) * 1) < 4; omega) rfl
      rw [setbit (by rw [show 64 * ((m - 1) / 64) + (m - 1) % 64 + 1 = m from by omega, hQ]; exact Nat.mul_mod_left _ _) hQ4 (by omega) (Nat.mod_lt _ (by decide)), show 64 * ((m - 1) / 64) + (m - 1) % 64 = m - 1 from by omega] at H131
      have H131 : Hp w [] [.blk p3 [.int .u64 (wd x 0 : Int), .int .u64 (wd x 1 : Int), .int .u64 (wd x 2 : Int), .int .u64 (wd x 3 : Int)] 45, .blk p7 [.int .u64 (wd y 0 : Int), .int .u64 (wd y 1 : Int), .int .u64 (wd y 2 : Int), .int .u64 (wd y 3 : Int)] 45, .blk p11 [.int .u64 0, .int .u64 0, .int .u64 0, .int .u64 0] 45, .blk p15 [.int .u64 0, .int .u64 0, .int .u64 0, .int .u64 0] 45, .blk p26 [.int .u64 (wd (Q + 2 ^ (m - 1)) 0 : Int), .int .u64 (wd (Q + 2 ^ (m - 1)) 1 : Int), .int .u64 (wd (Q + 2 ^ (m - 1)) 2 : Int), .int .u64 (wd (Q + 2 ^ (m - 1)) 3 : Int)] 45, .blk p30 [.int .u64 (wd F 0 : Int), .int .u64 (wd F 1 : Int), .int .u64 (wd F 2 : Int), .int .u64 (wd F 3 : Int)] 45] w129 := H131
      refine GL.semU (j := 10) r130 [2, 3, 4, 5, 7, 8, 9] [(2, pt p3 0), (3, pt p7 0), (4, pt p11 0), (5, pt p15 0), (7, pt p26 0), (8, pt p30 0), (9, .int .i64 ((m - 1 : Nat) : Int))] (by kernel_rfl) rfl rfl rfl ?_
      refine GL.k rfl hK65 (fun _ _ h => h) ?_
      refine G.region ?_
      refine GL.run (j := 3) 3 [2, 3, 4, 5, 7, 8, 9] [(2, pt p3 0), (3, pt p7 0), (4, pt p11 0), (5, pt p15 0), (7, pt p26 0), (8, pt p30 0), (9, .int .i64 (IntKind.i64.wrap (((m - 1 : Nat) : Int) - 1)))] (by kernel_rfl) rfl ?_
      have e132 : (IntKind.i64.wrap (((m - 1 : Nat) : Int) - 1)) = (((m - 1 : Nat) : Int) - 1) := in_i64 (by omega)
      refine GL.eq (M' := [(2, pt p3 0), (3, pt p7 0), (4, pt p11 0), (5, pt p15 0), (7, pt p26 0), (8, pt p30 0), (9, .int .i64 (((m - 1 : Nat) : Int) - 1))]) (by rw [e132]) ?_
      clear e132
      obtain ⟨e1, e2⟩ := round_up (by omega) hy hm0 hR hQ hE hD hF (by omega)
      have H133 : Hp w [] [.blk p3 [.int .u64 (wd x 0 : Int), .int .u64 (wd x 1 : Int), .int .u64 (wd x 2 : Int), .int .u64 (wd x 3 : Int)] 45, .blk p7 [.int .u64 (wd y 0 : Int), .int .u64 (wd y 1 : Int), .int .u64 (wd y 2 : Int), .int .u64 (wd y 3 : Int)] 45, .blk p11 [.int .u64 0, .int .u64 0, .int .u64 0, .int .u64 0] 45, .blk p15 [.int .u64 0, .int .u64 0, .int .u64 0, .int .u64 0] 45, .blk p26 [.int .u64 (wd (x / 2 ^ (m - 1) / y * 2 ^ (m - 1)) 0 : Int), .int .u64 (wd (x / 2 ^ (m - 1) / y * 2 ^ (m - 1)) 1 : Int), .int .u64 (wd (x / 2 ^ (m - 1) / y * 2 ^ (m - 1)) 2 : Int), .int .u64 (wd (x / 2 ^ (m - 1) / y * 2 ^ (m - 1)) 3 : Int)] 45, .blk p30 [.int .u64 (wd (x / 2 ^ (m - 1) % y) 0 : Int), .int .u64 (wd (x / 2 ^ (m - 1) % y) 1 : Int), .int .u64 (wd (x / 2 ^ (m - 1) % y) 2 : Int), .int .u64 (wd (x / 2 ^ (m - 1) % y) 3 : Int)] 45] w129 := by rw [e1, e2]; exact H131
      refine GL.fit (ts := [2, 3, 4, 5, 7, 8, 9]) (M' := [(2, pt p3 0), (3, pt p7 0), (4, pt p11 0), (5, pt p15 0), (7, pt p26 0), (8, pt p30 0), (9, .int .i64 (((m - 1 : Nat) : Int) - 1))]) (by kernel_rfl) ?_
      refine GL.eq (M' := [(2, pt p3 0), (3, pt p7 0), (4, pt p11 0), (5, pt p15 0), (7, pt p26 0), (8, pt p30 0), (9, .int .i64 ((((m - 1) : Nat) : Int) - 1))]) (by rfl) ?_
      exact GL.again (m - 1) [2, 3, 4, 5, 7, 8, 9] rfl (by kernel_rfl) (by show (m - 1) < m; omega) ⟨by omega, H133⟩
end Go.Proofs.YtgbhiklengafiaaDoor
