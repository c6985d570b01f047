/- The contracts of package wide: what each function answers, as numbers below 2^256. -/
import Derived.Test.YtljfofnpjmlobaaRows
import Derived.Test.YtljfofnpjmlobaaGk
import Derived.Test.YtljfofnpjmlobaaMa
import Derived.Laws.Externs
import Derived.Shelf.Spec.BitsCarry
namespace Go.Proofs.Ytljfofnpjmlobaa
open Go.RowKit
theorem add64_run {x y c s t : Nat} (hc : c ≤ 1) (hs : s = (x + y + c) % K) (ht : t = (x + y + c) / K) (w : World) :
    (callFunc 31 #[.int .u64 x, .int .u64 y, .int .u64 c]).run Try.prog w = .ok (.value (.tuple #[.int .u64 (s : Int), .int .u64 (t : Int)])) w := by
  subst hs ht
  rw [run_callFunc_extern Try.func31 (by kernel_rfl) (by kernel_rfl) (by kernel_rfl) (e := add64Entry) (by kernel_rfl), run_add64 x y c (by omega) (by omega) (by omega) (by omega)]
  simp only [Result.andThen]
  congr 5 <;> simp only [K] at * <;> omega
theorem sub64_run {x y c s t : Nat} (hc : c ≤ 1) (hs : s = (x + K - y - c) % K) (ht : t = if x < y + c then 1 else 0) (w : World) :
    (callFunc 36 #[.int .u64 x, .int .u64 y, .int .u64 c]).run Try.prog w = .ok (.value (.tuple #[.int .u64 (s : Int), .int .u64 (t : Int)])) w := by
  subst hs ht
  rw [run_callFunc_extern Try.func36 (by kernel_rfl) (by kernel_rfl) (by kernel_rfl) (e := sub64Entry) (by kernel_rfl), run_sub64 x y c hc]
  rfl
theorem Add_calls (x y : Nat) (hx : x < K4) (hy : y < K4) (w : World) : Calls Try.prog 21 #[wv x, wv y] w fun e w' => e = .returned (.tuple #[wv ((x + y) % K4), .bool (decide (K4 ≤ x + y))]) ∧ Hp w [] [] w' := by
  refine calls_G (args := [wv x, wv y]) Try.func21 rfl Try.ntmps21 rfl ?_
  intro Q0 hRet hNor hPan
  have H := Hp.start w
  have H : Hp w [] [] w := H
  refine G.seqK fun K1 hK2 => ?_
  refine G.region ?_
  obtain ⟨p3, w4, r5, H6⟩ := H.box (P := Try.prog) 55 [.int .u64 (wd x 0 : Int), .int .u64 (wd x 1 : Int), .int .u64 (wd x 2 : Int), .int .u64 (wd x 3 : Int)] (wv x) rfl
  have H6 : Hp w [] [.blk p3 [.int .u64 (wd x 0 : Int), .int .u64 (wd x 1 : Int), .int .u64 (wd x 2 : Int), .int .u64 (wd x 3 : Int)] 55] w4 := H6
  refine GL.sem (j := 1) (r5) [1, 2] [(1, wv y), (2, pt p3 0)] (by kernel_rfl) (by kernel_rfl) rfl ?_
  obtain ⟨p7, w8, r9, H10⟩ := H6.box (P := Try.prog) 55 [.int .u64 (wd y 0 : Int), .int .u64 (wd y 1 : Int), .int .u64 (wd y 2 : Int), .int .u64 (wd y 3 : Int)] (wv y) rfl
  have H10 : Hp w [] [.blk p3 [.int .u64 (wd x 0 : Int), .int .u64 (wd x 1 : Int), .int .u64 (wd x 2 : Int), .int .u64 (wd x 3 : Int)] 55, .blk p7 [.int .u64 (wd y 0 : Int), .int .u64 (wd y 1 : Int), .int .u64 (wd y 2 : Int), .int .u64 (wd y 3 : Int)] 55] w8 := H10
  refine GL.sem (j := 2) (r9) [2, 3] [(2, pt p3 0), (3, pt p7 0)] (by kernel_rfl) (by kernel_rfl) rfl ?_
  obtain ⟨p11, w12, r13, H14⟩ := H10.alloc (P := Try.prog) 55 [.int .u64 0, .int .u64 0, .int .u64 0, .int .u64 0] (by kernel_rfl)
  have H14 : Hp w [] [.blk p3 [.int .u64 (wd x 0 : Int), .int .u64 (wd x 1 : Int), .int .u64 (wd x 2 : Int), .int .u64 (wd x 3 : Int)] 55, .blk p7 [.int .u64 (wd y 0 : Int), .int .u64 (wd y 1 : Int), .int .u64 (wd y 2 : Int), .int .u64 (wd y 3 : Int)] 55, .blk p11 [.int .u64 0, .int .u64 0, .int .u64 0, .int .u64 0] 55] w12 := H14
  refine GL.sem (j := 3) (r13) [2, 3, 4] [(2, pt p3 0), (3, pt p7 0), (4, pt p11 0)] (by kernel_rfl) (by kernel_rfl) rfl ?_
  refine GL.run (j := 4) 1 [2, 3, 4] [(2, pt p3 0), (3, pt p7 0), (4, pt p11 0)] (by kernel_rfl) rfl ?_
  refine GL.k rfl hK2 (fun _ _ h => h) ?_
  refine G.seqK fun K15 hK16 => ?_
  refine G.region ?_
  obtain ⟨p17, w18, r19, H20⟩ := H14.alloc (P := Try.prog) 55 [.int .u64 0, .int .u64 0, .int .u64 0, .int .u64 0] (by kernel_rfl)
  have H20 : Hp w [] [.blk p3 [.int .u64 (wd x 0 : Int), .int .u64 (wd x 1 : Int), .int .u64 (wd x 2 : Int), .int .u64 (wd x 3 : Int)] 55, .blk p7 [.int .u64 (wd y 0 : Int), .int .u64 (wd y 1 : Int), .int .u64 (wd y 2 : Int), .int .u64 (wd y 3 : Int)] 55, .blk p11 [.int .u64 0, .int .u64 0, .int .u64 0, .int .u64 0] 55, .blk p17 [.int .u64 0, .int .u64 0, .int .u64 0, .int .u64 0] 55] w18 := H20
  refine GL.sem (j := 1) (r19) [2, 3, 4, 6] [(2, pt p3 0), (3, pt p7 0), (4, pt p11 0), (6, pt p17 0)] (by kernel_rfl) (by kernel_rfl) rfl ?_
  refine GL.k rfl hK16 (fun _ _ h => h) ?_
  refine G.seqK fun K21 hK22 => ?_
  refine G.region ?_
  refine GL.run (j := 1) 1 [2, 3, 4, 6, 7] [(2, pt p3 0), (3, pt p7 0), (4, pt p11 0), (6, pt p17 0), (7, .int .u64 0)] (by kernel_rfl) rfl ?_
  refine GL.k rfl hK22 (fun _ _ h => h) ?_
  refine G.seqK fun K23 hK24 => ?_
  refine G.seqK fun K25 hK26 => ?_
  refine G.region ?_
  refine GL.run (j := 1) 1 [2, 3, 4, 6, 7, 9] [(2, pt p3 0), (3, pt p7 0), (4, pt p11 0), (6, pt p17 0), (7, .int .u64 0), (9, .int .i64 0)] (by kernel_rfl) rfl ?_
  refine GL.k rfl hK26 (fun _ _ h => h) ?_
  refine G.block ?_
  refine G.unroll 4 ?_
  refine G.seqK fun K27 hK28 => ?_
  refine G.region ?_
  refine GL.run (j := 1) 1 [2, 3, 4, 6, 7, 9, 10] [(2, pt p3 0), (3, pt p7 0), (4, pt p11 0), (6, pt p17 0), (7, .int .u64 0), (9, .int .i64 0), (10, .bool true)] (by kernel_rfl) rfl ?_
  refine GL.k rfl hK28 (fun _ _ h => h) ?_
  refine G.seqK fun K29 hK30 => ?_
  refine G.yes rfl ?_
  refine G.skipK hK30 (fun _ _ h => h) ?_
  refine G.seqK fun K31 hK32 => ?_
  refine G.block ?_
  refine G.seqK fun K33 hK34 => ?_
  refine G.region ?_
  refine GL.run (j := 2) 2 [2, 3, 4, 6, 7, 8, 9] [(2, pt p3 0), (3, pt p7 0), (4, pt p11 0), (6, pt p17 0), (7, .int .u64 0), (8, .int .i64 0), (9, .int .i64 0)] (by kernel_rfl) rfl ?_
  refine GL.k rfl hK34 (fun _ _ h => h) ?_
  refine G.heldP (Hp w [] [.blk p3 [.int .u64 (wd x 0 : Int), .int .u64 (wd x 1 : Int), .int .u64 (wd x 2 : Int), .int .u64 (wd x 3 : Int)] 55, .blk p7 [.int .u64 (wd y 0 : Int), .int .u64 (wd y 1 : Int), .int .u64 (wd y 2 : Int), .int .u64 (wd y 3 : Int)] 55, .blk p11 [.int .u64 0, .int .u64 0, .int .u64 0, .int .u64 0] 55]) (by kernel_rfl) (by kernel_rfl) (fun c_ a_ d_ v_ w_ h_ => hPan c_ a_ d_ v_ w_ h_) ?_
  have H35 := H20.drew
  generalize ({ w18 with drawn := w18.drawn + 1 } : World) = w36 at H35 ⊢
  have hS37 : Hp w [] [.blk p3 [.int .u64 (wd x 0 : Int), .int .u64 (wd x 1 : Int), .int .u64 (wd x 2 : Int), .int .u64 (wd x 3 : Int)] 55, .blk p7 [.int .u64 (wd y 0 : Int), .int .u64 (wd y 1 : Int), .int .u64 (wd y 2 : Int), .int .u64 (wd y 3 : Int)] 55, .blk p11 [.int .u64 0, .int .u64 0, .int .u64 0, .int .u64 0] 55] w36 := H35.sub (List.Sublist.cons_cons _ (List.Sublist.cons_cons _ (List.Sublist.cons_cons _ (List.Sublist.cons _ (List.Sublist.slnil)))))
  refine GP.run [0, 1, 2] [2, 3, 4, 6, 7, 8, 9, 13, 15] [(2, pt p3 0), (3, pt p7 0), (4, pt p11 0), (6, pt p17 0), (7, .int .u64 0), (8, .int .i64 0), (9, .int .i64 0), (13, .int .i64 0), (15, pt p3 0)] [0, 1, 2] (by kernel_rfl) rfl hS37 ?_
  refine GP.sem 3 (fun w_ H_ => H_.ld (o := 0) (ty := 22) (v := .int .u64 (wd x 0 : Int)) 0 rfl (by kernel_rfl) rfl) [2, 3, 4, 6, 7, 8, 9, 13, 16] [(2, pt p3 0), (3, pt p7 0), (4, pt p11 0), (6, pt p17 0), (7, .int .u64 0), (8, .int .i64 0), (9, .int .i64 0), (13, .int .i64 0), (16, .int .u64 (wd x 0 : Int))] (by kernel_rfl) (by kernel_rfl) (by kernel_rfl) hS37 ?_
  refine GP.run [4, 5] [2, 3, 4, 6, 7, 9, 13, 16, 18] [(2, pt p3 0), (3, pt p7 0), (4, pt p11 0), (6, pt p17 0), (7, .int .u64 0), (9, .int .i64 0), (13, .int .i64 0), (16, .int .u64 (wd x 0 : Int)), (18, pt p7 0)] [0, 1, 2, 3, 4, 5] (by kernel_rfl) rfl hS37 ?_
  refine GP.sem 6 (fun w_ H_ => H_.ld (o := 0) (ty := 22) (v := .int .u64 (wd y 0 : Int)) 1 rfl (by kernel_rfl) rfl) [2, 3, 4, 6, 7, 9, 13, 16, 19] [(2, pt p3 0), (3, pt p7 0), (4, pt p11 0), (6, pt p17 0), (7, .int .u64 0), (9, .int .i64 0), (13, .int .i64 0), (16, .int .u64 (wd x 0 : Int)), (19, .int .u64 (wd y 0 : Int))] (by kernel_rfl) (by kernel_rfl) (by kernel_rfl) hS37 ?_
  refine GP.run [7] [2, 3, 4, 6, 7, 9, 13, 16, 19, 20] [(2, pt p3 0), (3, pt p7 0), (4, pt p11 0), (6, pt p17 0), (7, .int .u64 0), (9, .int .i64 0), (13, .int .i64 0), (16, .int .u64 (wd x 0 : Int)), (19, .int .u64 (wd y 0 : Int)), (20, .int .u64 0)] [0, 1, 2, 3, 4, 5, 6, 7] (by kernel_rfl) rfl hS37 ?_
  obtain ⟨s38, hs40⟩ : ∃ s : Nat, s = ((wd x 0) + (wd y 0) + 0) % K := ⟨_, rfl⟩
  obtain ⟨c39, hc41⟩ : ∃ s : Nat, s = ((wd x 0) + (wd y 0) + 0) / K := ⟨_, rfl⟩
  have s38l : s38 < K := by rw [hs40]; exact Nat.mod_lt _ (by decide)
  have c39l : c39 ≤ 1 := by rw [hc41]; exact carry_le (wd_lt _ _) (wd_lt _ _) (Nat.zero_le 1)
  refine GP.semN 8 (fun w_ H_ => add64_run (Nat.zero_le 1) hs40 hc41 _) [2, 3, 4, 6, 7, 9, 13, 21] [(2, pt p3 0), (3, pt p7 0), (4, pt p11 0), (6, pt p17 0), (7, .int .u64 0), (9, .int .i64 0), (13, .int .i64 0), (21, .tuple #[.int .u64 (s38 : Int), .int .u64 (c39 : Int)])] (by kernel_rfl) (by kernel_rfl) (by kernel_rfl) hS37 ?_
  refine GP.run [9, 10, 11, 12] [2, 3, 4, 6, 7, 9, 22, 23, 24] [(2, pt p3 0), (3, pt p7 0), (4, pt p11 0), (6, pt p17 0), (7, .int .u64 0), (9, .int .i64 0), (22, .int .u64 (s38 : Int)), (23, .int .u64 (c39 : Int)), (24, pt p17 0)] [0, 1, 2, 3, 4, 5, 6, 7, 8, 9, 10, 11, 12] (by kernel_rfl) rfl hS37 ?_
  obtain ⟨w42, r43, H44⟩ := H35.st (P := Try.prog) (o := 0) (ty := 22) (v := .int .u64 (s38 : Int)) 3 rfl (by kernel_rfl) (by simp) rfl
  have H44 : Hp w [] [.blk p3 [.int .u64 (wd x 0 : Int), .int .u64 (wd x 1 : Int), .int .u64 (wd x 2 : Int), .int .u64 (wd x 3 : Int)] 55, .blk p7 [.int .u64 (wd y 0 : Int), .int .u64 (wd y 1 : Int), .int .u64 (wd y 2 : Int), .int .u64 (wd y 3 : Int)] 55, .blk p11 [.int .u64 0, .int .u64 0, .int .u64 0, .int .u64 0] 55, .blk p17 [.int .u64 (s38 : Int), .int .u64 0, .int .u64 0, .int .u64 0] 55] w42 := H44
  have hS45 : Hp w [] [.blk p3 [.int .u64 (wd x 0 : Int), .int .u64 (wd x 1 : Int), .int .u64 (wd x 2 : Int), .int .u64 (wd x 3 : Int)] 55, .blk p7 [.int .u64 (wd y 0 : Int), .int .u64 (wd y 1 : Int), .int .u64 (wd y 2 : Int), .int .u64 (wd y 3 : Int)] 55, .blk p11 [.int .u64 0, .int .u64 0, .int .u64 0, .int .u64 0] 55] w42 := H44.sub (List.Sublist.cons_cons _ (List.Sublist.cons_cons _ (List.Sublist.cons_cons _ (List.Sublist.cons _ (List.Sublist.slnil)))))
  refine GP.semU 13 r43 [2, 3, 4, 6, 7, 9, 23] [(2, pt p3 0), (3, pt p7 0), (4, pt p11 0), (6, pt p17 0), (7, .int .u64 0), (9, .int .i64 0), (23, .int .u64 (c39 : Int))] (by kernel_rfl) rfl rfl (by kernel_rfl) hS45 ?_
  refine GP.run [14] [2, 3, 4, 6, 7, 9] [(2, pt p3 0), (3, pt p7 0), (4, pt p11 0), (6, pt p17 0), (7, .int .u64 (c39 : Int)), (9, .int .i64 0)] [0, 1, 2, 3, 4, 5, 6, 7, 8, 9, 10, 11, 12, 13, 14] (by kernel_rfl) rfl hS45 ?_
  refine GP.k (by kernel_rfl) hK32 (fun _ _ h => h) ?_
  refine G.region ?_
  refine GL.run (j := 2) 2 [2, 3, 4, 6, 7, 9] [(2, pt p3 0), (3, pt p7 0), (4, pt p11 0), (6, pt p17 0), (7, .int .u64 (c39 : Int)), (9, .int .i64 1)] (by kernel_rfl) rfl ?_
  refine GL.round rfl ?_
  refine G.seqK fun K46 hK47 => ?_
  refine G.region ?_
  refine GL.run (j := 1) 1 [2, 3, 4, 6, 7, 9, 10] [(2, pt p3 0), (3, pt p7 0), (4, pt p11 0), (6, pt p17 0), (7, .int .u64 (c39 : Int)), (9, .int .i64 1), (10, .bool true)] (by kernel_rfl) rfl ?_
  refine GL.k rfl hK47 (fun _ _ h => h) ?_
  refine G.seqK fun K48 hK49 => ?_
  refine G.yes rfl ?_
  refine G.skipK hK49 (fun _ _ h => h) ?_
  refine G.seqK fun K50 hK51 => ?_
  refine G.block ?_
  refine G.seqK fun K52 hK53 => ?_
  refine G.region ?_
  refine GL.run (j := 2) 2 [2, 3, 4, 6, 7, 8, 9] [(2, pt p3 0), (3, pt p7 0), (4, pt p11 0), (6, pt p17 0), (7, .int .u64 (c39 : Int)), (8, .int .i64 1), (9, .int .i64 1)] (by kernel_rfl) rfl ?_
  refine GL.k rfl hK53 (fun _ _ h => h) ?_
  refine G.heldP (Hp w [] [.blk p3 [.int .u64 (wd x 0 : Int), .int .u64 (wd x 1 : Int), .int .u64 (wd x 2 : Int), .int .u64 (wd x 3 : Int)] 55, .blk p7 [.int .u64 (wd y 0 : Int), .int .u64 (wd y 1 : Int), .int .u64 (wd y 2 : Int), .int .u64 (wd y 3 : Int)] 55, .blk p11 [.int .u64 0, .int .u64 0, .int .u64 0, .int .u64 0] 55]) (by kernel_rfl) (by kernel_rfl) (fun c_ a_ d_ v_ w_ h_ => hPan c_ a_ d_ v_ w_ h_) ?_
  have H54 := H44.drew
  generalize ({ w42 with drawn := w42.drawn + 1 } : World) = w55 at H54 ⊢
  have hS56 : Hp w [] [.blk p3 [.int .u64 (wd x 0 : Int), .int .u64 (wd x 1 : Int), .int .u64 (wd x 2 : Int), .int .u64 (wd x 3 : Int)] 55, .blk p7 [.int .u64 (wd y 0 : Int), .int .u64 (wd y 1 : Int), .int .u64 (wd y 2 : Int), .int .u64 (wd y 3 : Int)] 55, .blk p11 [.int .u64 0, .int .u64 0, .int .u64 0, .int .u64 0] 55] w55 := H54.sub (List.Sublist.cons_cons _ (List.Sublist.cons_cons _ (List.Sublist.cons_cons _ (List.Sublist.cons _ (List.Sublist.slnil)))))
  refine GP.run [0, 1, 2] [2, 3, 4, 6, 7, 8, 9, 13, 15] [(2, pt p3 0), (3, pt p7 0), (4, pt p11 0), (6, pt p17 0), (7, .int .u64 (c39 : Int)), (8, .int .i64 1), (9, .int .i64 1), (13, .int .i64 1), (15, pt p3 1)] [0, 1, 2] (by kernel_rfl) rfl hS56 ?_
  refine GP.sem 3 (fun w_ H_ => H_.ld (o := 1) (ty := 22) (v := .int .u64 (wd x 1 : Int)) 0 rfl (by kernel_rfl) rfl) [2, 3, 4, 6, 7, 8, 9, 13, 16] [(2, pt p3 0), (3, pt p7 0), (4, pt p11 0), (6, pt p17 0), (7, .int .u64 (c39 : Int)), (8, .int .i64 1), (9, .int .i64 1), (13, .int .i64 1), (16, .int .u64 (wd x 1 : Int))] (by kernel_rfl) (by kernel_rfl) (by kernel_rfl) hS56 ?_
  refine GP.run [4, 5] [2, 3, 4, 6, 7, 9, 13, 16, 18] [(2, pt p3 0), (3, pt p7 0), (4, pt p11 0), (6, pt p17 0), (7, .int .u64 (c39 : Int)), (9, .int .i64 1), (13, .int .i64 1), (16, .int .u64 (wd x 1 : Int)), (18, pt p7 1)] [0, 1, 2, 3, 4, 5] (by kernel_rfl) rfl hS56 ?_
  refine GP.sem 6 (fun w_ H_ => H_.ld (o := 1) (ty := 22) (v := .int .u64 (wd y 1 : Int)) 1 rfl (by kernel_rfl) rfl) [2, 3, 4, 6, 7, 9, 13, 16, 19] [(2, pt p3 0), (3, pt p7 0), (4, pt p11 0), (6, pt p17 0), (7, .int .u64 (c39 : Int)), (9, .int .i64 1), (13, .int .i64 1), (16, .int .u64 (wd x 1 : Int)), (19, .int .u64 (wd y 1 : Int))] (by kernel_rfl) (by kernel_rfl) (by kernel_rfl) hS56 ?_
  refine GP.run [7] [2, 3, 4, 6, 7, 9, 13, 16, 19, 20] [(2, pt p3 0), (3, pt p7 0), (4, pt p11 0), (6, pt p17 0), (7, .int .u64 (c39 : Int)), (9, .int .i64 1), (13, .int .i64 1), (16, .int .u64 (wd x 1 : Int)), (19, .int .u64 (wd y 1 : Int)), (20, .int .u64 (c39 : Int))] [0, 1, 2, 3, 4, 5, 6, 7] (by kernel_rfl) rfl hS56 ?_
  obtain ⟨s57, hs59⟩ : ∃ s : Nat, s = ((wd x 1) + (wd y 1) + c39) % K := ⟨_, rfl⟩
  obtain ⟨c58, hc60⟩ : ∃ s : Nat, s = ((wd x 1) + (wd y 1) + c39) / K := ⟨_, rfl⟩
  have s57l : s57 < K := by rw [hs59]; exact Nat.mod_lt _ (by decide)
  have c58l : c58 ≤ 1 := by rw [hc60]; exact carry_le (wd_lt _ _) (wd_lt _ _) (c39l)
  refine GP.semN 8 (fun w_ H_ => add64_run (c39l) hs59 hc60 _) [2, 3, 4, 6, 7, 9, 13, 21] [(2, pt p3 0), (3, pt p7 0), (4, pt p11 0), (6, pt p17 0), (7, .int .u64 (c39 : Int)), (9, .int .i64 1), (13, .int .i64 1), (21, .tuple #[.int .u64 (s57 : Int), .int .u64 (c58 : Int)])] (by kernel_rfl) (by kernel_rfl) (by kernel_rfl) hS56 ?_
  refine GP.run [9, 10, 11, 12] [2, 3, 4, 6, 7, 9, 22, 23, 24] [(2, pt p3 0), (3, pt p7 0), (4, pt p11 0), (6, pt p17 0), (7, .int .u64 (c39 : Int)), (9, .int .i64 1), (22, .int .u64 (s57 : Int)), (23, .int .u64 (c58 : Int)), (24, pt p17 1)] [0, 1, 2, 3, 4, 5, 6, 7, 8, 9, 10, 11, 12] (by kernel_rfl) rfl hS56 ?_
  obtain ⟨w61, r62, H63⟩ := H54.st (P := Try.prog) (o := 1) (ty := 22) (v := .int .u64 (s57 : Int)) 3 rfl (by kernel_rfl) (by simp) rfl
  have H63 : Hp w [] [.blk p3 [.int .u64 (wd x 0 : Int), .int .u64 (wd x 1 : Int), .int .u64 (wd x 2 : Int), .int .u64 (wd x 3 : Int)] 55, .blk p7 [.int .u64 (wd y 0 : Int), .int .u64 (wd y 1 : Int), .int .u64 (wd y 2 : Int), .int .u64 (wd y 3 : Int)] 55, .blk p11 [.int .u64 0, .int .u64 0, .int .u64 0, .int .u64 0] 55, .blk p17 [.int .u64 (s38 : Int), .int .u64 (s57 : Int), .int .u64 0, .int .u64 0] 55] w61 := H63
  have hS64 : Hp w [] [.blk p3 [.int .u64 (wd x 0 : Int), .int .u64 (wd x 1 : Int), .int .u64 (wd x 2 : Int), .int .u64 (wd x 3 : Int)] 55, .blk p7 [.int .u64 (wd y 0 : Int), .int .u64 (wd y 1 : Int), .int .u64 (wd y 2 : Int), .int .u64 (wd y 3 : Int)] 55, .blk p11 [.int .u64 0, .int .u64 0, .int .u64 0, .int .u64 0] 55] w61 := H63.sub (List.Sublist.cons_cons _ (List.Sublist.cons_cons _ (List.Sublist.cons_cons _ (List.Sublist.cons _ (List.Sublist.slnil)))))
  refine GP.semU 13 r62 [2, 3, 4, 6, 7, 9, 23] [(2, pt p3 0), (3, pt p7 0), (4, pt p11 0), (6, pt p17 0), (7, .int .u64 (c39 : Int)), (9, .int .i64 1), (23, .int .u64 (c58 : Int))] (by kernel_rfl) rfl rfl (by kernel_rfl) hS64 ?_
  refine GP.run [14] [2, 3, 4, 6, 7, 9] [(2, pt p3 0), (3, pt p7 0), (4, pt p11 0), (6, pt p17 0), (7, .int .u64 (c58 : Int)), (9, .int .i64 1)] [0, 1, 2, 3, 4, 5, 6, 7, 8, 9, 10, 11, 12, 13, 14] (by kernel_rfl) rfl hS64 ?_
  refine GP.k (by kernel_rfl) hK51 (fun _ _ h => h) ?_
  refine G.region ?_
  refine GL.run (j := 2) 2 [2, 3, 4, 6, 7, 9] [(2, pt p3 0), (3, pt p7 0), (4, pt p11 0), (6, pt p17 0), (7, .int .u64 (c58 : Int)), (9, .int .i64 2)] (by kernel_rfl) rfl ?_
  refine GL.round rfl ?_
  refine G.seqK fun K65 hK66 => ?_
  refine G.region ?_
  refine GL.run (j := 1) 1 [2, 3, 4, 6, 7, 9, 10] [(2, pt p3 0), (3, pt p7 0), (4, pt p11 0), (6, pt p17 0), (7, .int .u64 (c58 : Int)), (9, .int .i64 2), (10, .bool true)] (by kernel_rfl) rfl ?_
  refine GL.k rfl hK66 (fun _ _ h => h) ?_
  refine G.seqK fun K67 hK68 => ?_
  refine G.yes rfl ?_
  refine G.skipK hK68 (fun _ _ h => h) ?_
  refine G.seqK fun K69 hK70 => ?_
  refine G.block ?_
  refine G.seqK fun K71 hK72 => ?_
  refine G.region ?_
  refine GL.run (j := 2) 2 [2, 3, 4, 6, 7, 8, 9] [(2, pt p3 0), (3, pt p7 0), (4, pt p11 0), (6, pt p17 0), (7, .int .u64 (c58 : Int)), (8, .int .i64 2), (9, .int .i64 2)] (by kernel_rfl) rfl ?_
  refine GL.k rfl hK72 (fun _ _ h => h) ?_
  refine G.heldP (Hp w [] [.blk p3 [.int .u64 (wd x 0 : Int), .int .u64 (wd x 1 : Int), .int .u64 (wd x 2 : Int), .int .u64 (wd x 3 : Int)] 55, .blk p7 [.int .u64 (wd y 0 : Int), .int .u64 (wd y 1 : Int), .int .u64 (wd y 2 : Int), .int .u64 (wd y 3 : Int)] 55, .blk p11 [.int .u64 0, .int .u64 0, .int .u64 0, .int .u64 0] 55]) (by kernel_rfl) (by kernel_rfl) (fun c_ a_ d_ v_ w_ h_ => hPan c_ a_ d_ v_ w_ h_) ?_
  have H73 := H63.drew
  generalize ({ w61 with drawn := w61.drawn + 1 } : World) = w74 at H73 ⊢
  have hS75 : Hp w [] [.blk p3 [.int .u64 (wd x 0 : Int), .int .u64 (wd x 1 : Int), .int .u64 (wd x 2 : Int), .int .u64 (wd x 3 : Int)] 55, .blk p7 [.int .u64 (wd y 0 : Int), .int .u64 (wd y 1 : Int), .int .u64 (wd y 2 : Int), .int .u64 (wd y 3 : Int)] 55, .blk p11 [.int .u64 0, .int .u64 0, .int .u64 0, .int .u64 0] 55] w74 := H73.sub (List.Sublist.cons_cons _ (List.Sublist.cons_cons _ (List.Sublist.cons_cons _ (List.Sublist.cons _ (List.Sublist.slnil)))))
  refine GP.run [0, 1, 2] [2, 3, 4, 6, 7, 8, 9, 13, 15] [(2, pt p3 0), (3, pt p7 0), (4, pt p11 0), (6, pt p17 0), (7, .int .u64 (c58 : Int)), (8, .int .i64 2), (9, .int .i64 2), (13, .int .i64 2), (15, pt p3 2)] [0, 1, 2] (by kernel_rfl) rfl hS75 ?_
  refine GP.sem 3 (fun w_ H_ => H_.ld (o := 2) (ty := 22) (v := .int .u64 (wd x 2 : Int)) 0 rfl (by kernel_rfl) rfl) [2, 3, 4, 6, 7, 8, 9, 13, 16] [(2, pt p3 0), (3, pt p7 0), (4, pt p11 0), (6, pt p17 0), (7, .int .u64 (c58 : Int)), (8, .int .i64 2), (9, .int .i64 2), (13, .int .i64 2), (16, .int .u64 (wd x 2 : Int))] (by kernel_rfl) (by kernel_rfl) (by kernel_rfl) hS75 ?_
  refine GP.run [4, 5] [2, 3, 4, 6, 7, 9, 13, 16, 18] [(2, pt p3 0), (3, pt p7 0), (4, pt p11 0), (6, pt p17 0), (7, .int .u64 (c58 : Int)), (9, .int .i64 2), (13, .int .i64 2), (16, .int .u64 (wd x 2 : Int)), (18, pt p7 2)] [0, 1, 2, 3, 4, 5] (by kernel_rfl) rfl hS75 ?_
  refine GP.sem 6 (fun w_ H_ => H_.ld (o := 2) (ty := 22) (v := .int .u64 (wd y 2 : Int)) 1 rfl (by kernel_rfl) rfl) [2, 3, 4, 6, 7, 9, 13, 16, 19] [(2, pt p3 0), (3, pt p7 0), (4, pt p11 0), (6, pt p17 0), (7, .int .u64 (c58 : Int)), (9, .int .i64 2), (13, .int .i64 2), (16, .int .u64 (wd x 2 : Int)), (19, .int .u64 (wd y 2 : Int))] (by kernel_rfl) (by kernel_rfl) (by kernel_rfl) hS75 ?_
  refine GP.run [7] [2, 3, 4, 6, 7, 9, 13, 16, 19, 20] [(2, pt p3 0), (3, pt p7 0), (4, pt p11 0), (6, pt p17 0), (7, .int .u64 (c58 : Int)), (9, .int .i64 2), (13, .int .i64 2), (16, .int .u64 (wd x 2 : Int)), (19, .int .u64 (wd y 2 : Int)), (20, .int .u64 (c58 : Int))] [0, 1, 2, 3, 4, 5, 6, 7] (by kernel_rfl) rfl hS75 ?_
  obtain ⟨s76, hs78⟩ : ∃ s : Nat, s = ((wd x 2) + (wd y 2) + c58) % K := ⟨_, rfl⟩
  obtain ⟨c77, hc79⟩ : ∃ s : Nat, s = ((wd x 2) + (wd y 2) + c58) / K := ⟨_, rfl⟩
  have s76l : s76 < K := by rw [hs78]; exact Nat.mod_lt _ (by decide)
  have c77l : c77 ≤ 1 := by rw [hc79]; exact carry_le (wd_lt _ _) (wd_lt _ _) (c58l)
  refine GP.semN 8 (fun w_ H_ => add64_run (c58l) hs78 hc79 _) [2, 3, 4, 6, 7, 9, 13, 21] [(2, pt p3 0), (3, pt p7 0), (4, pt p11 0), (6, pt p17 0), (7, .int .u64 (c58 : Int)), (9, .int .i64 2), (13, .int .i64 2), (21, .tuple #[.int .u64 (s76 : Int), .int .u64 (c77 : Int)])] (by kernel_rfl) (by kernel_rfl) (by kernel_rfl) hS75 ?_
  refine GP.run [9, 10, 11, 12] [2, 3, 4, 6, 7, 9, 22, 23, 24] [(2, pt p3 0), (3, pt p7 0), (4, pt p11 0), (6, pt p17 0), (7, .int .u64 (c58 : Int)), (9, .int .i64 2), (22, .int .u64 (s76 : Int)), (23, .int .u64 (c77 : Int)), (24, pt p17 2)] [0, 1, 2, 3, 4, 5, 6, 7, 8, 9, 10, 11, 12] (by kernel_rfl) rfl hS75 ?_
  obtain ⟨w80, r81, H82⟩ := H73.st (P := Try.prog) (o := 2) (ty := 22) (v := .int .u64 (s76 : Int)) 3 rfl (by kernel_rfl) (by simp) rfl
  have H82 : Hp w [] [.blk p3 [.int .u64 (wd x 0 : Int), .int .u64 (wd x 1 : Int), .int .u64 (wd x 2 : Int), .int .u64 (wd x 3 : Int)] 55, .blk p7 [.int .u64 (wd y 0 : Int), .int .u64 (wd y 1 : Int), .int .u64 (wd y 2 : Int), .int .u64 (wd y 3 : Int)] 55, .blk p11 [.int .u64 0, .int .u64 0, .int .u64 0, .int .u64 0] 55, .blk p17 [.int .u64 (s38 : Int), .int .u64 (s57 : Int), .int .u64 (s76 : Int), .int .u64 0] 55] w80 := H82
  have hS83 : Hp w [] [.blk p3 [.int .u64 (wd x 0 : Int), .int .u64 (wd x 1 : Int), .int .u64 (wd x 2 : Int), .int .u64 (wd x 3 : Int)] 55, .blk p7 [.int .u64 (wd y 0 : Int), .int .u64 (wd y 1 : Int), .int .u64 (wd y 2 : Int), .int .u64 (wd y 3 : Int)] 55, .blk p11 [.int .u64 0, .int .u64 0, .int .u64 0, .int .u64 0] 55] w80 := H82.sub (List.Sublist.cons_cons _ (List.Sublist.cons_cons _ (List.Sublist.cons_cons _ (List.Sublist.cons _ (List.Sublist.slnil)))))
  refine GP.semU 13 r81 [2, 3, 4, 6, 7, 9, 23] [(2, pt p3 0), (3, pt p7 0), (4, pt p11 0), (6, pt p17 0), (7, .int .u64 (c58 : Int)), (9, .int .i64 2), (23, .int .u64 (c77 : Int))] (by kernel_rfl) rfl rfl (by kernel_rfl) hS83 ?_
  refine GP.run [14] [2, 3, 4, 6, 7, 9] [(2, pt p3 0), (3, pt p7 0), (4, pt p11 0), (6, pt p17 0), (7, .int .u64 (c77 : Int)), (9, .int .i64 2)] [0, 1, 2, 3, 4, 5, 6, 7, 8, 9, 10, 11, 12, 13, 14] (by kernel_rfl) rfl hS83 ?_
  refine GP.k (by kernel_rfl) hK70 (fun _ _ h => h) ?_
  refine G.region ?_
  refine GL.run (j := 2) 2 [2, 3, 4, 6, 7, 9] [(2, pt p3 0), (3, pt p7 0), (4, pt p11 0), (6, pt p17 0), (7, .int .u64 (c77 : Int)), (9, .int .i64 3)] (by kernel_rfl) rfl ?_
  refine GL.round rfl ?_
  refine G.seqK fun K84 hK85 => ?_
  refine G.region ?_
  refine GL.run (j := 1) 1 [2, 3, 4, 6, 7, 9, 10] [(2, pt p3 0), (3, pt p7 0), (4, pt p11 0), (6, pt p17 0), (7, .int .u64 (c77 : Int)), (9, .int .i64 3), (10, .bool true)] (by kernel_rfl) rfl ?_
  refine GL.k rfl hK85 (fun _ _ h => h) ?_
  refine G.seqK fun K86 hK87 => ?_
  refine G.yes rfl ?_
  refine G.skipK hK87 (fun _ _ h => h) ?_
  refine G.seqK fun K88 hK89 => ?_
  refine G.block ?_
  refine G.seqK fun K90 hK91 => ?_
  refine G.region ?_
  refine GL.run (j := 2) 2 [2, 3, 4, 6, 7, 8, 9] [(2, pt p3 0), (3, pt p7 0), (4, pt p11 0), (6, pt p17 0), (7, .int .u64 (c77 : Int)), (8, .int .i64 3), (9, .int .i64 3)] (by kernel_rfl) rfl ?_
  refine GL.k rfl hK91 (fun _ _ h => h) ?_
  refine G.heldP (Hp w [] [.blk p3 [.int .u64 (wd x 0 : Int), .int .u64 (wd x 1 : Int), .int .u64 (wd x 2 : Int), .int .u64 (wd x 3 : Int)] 55, .blk p7 [.int .u64 (wd y 0 : Int), .int .u64 (wd y 1 : Int), .int .u64 (wd y 2 : Int), .int .u64 (wd y 3 : Int)] 55, .blk p11 [.int .u64 0, .int .u64 0, .int .u64 0, .int .u64 0] 55]) (by kernel_rfl) (by kernel_rfl) (fun c_ a_ d_ v_ w_ h_ => hPan c_ a_ d_ v_ w_ h_) ?_
  have H92 := H82.drew
  generalize ({ w80 with drawn := w80.drawn + 1 } : World) = w93 at H92 ⊢
  have hS94 : Hp w [] [.blk p3 [.int .u64 (wd x 0 : Int), .int .u64 (wd x 1 : Int), .int .u64 (wd x 2 : Int), .int .u64 (wd x 3 : Int)] 55, .blk p7 [.int .u64 (wd y 0 : Int), .int .u64 (wd y 1 : Int), .int .u64 (wd y 2 : Int), .int .u64 (wd y 3 : Int)] 55, .blk p11 [.int .u64 0, .int .u64 0, .int .u64 0, .int .u64 0] 55] w93 := H92.sub (List.Sublist.cons_cons _ (List.Sublist.cons_cons _ (List.Sublist.cons_cons _ (List.Sublist.cons _ (List.Sublist.slnil)))))
  refine GP.run [0, 1, 2] [2, 3, 4, 6, 7, 8, 9, 13, 15] [(2, pt p3 0), (3, pt p7 0), (4, pt p11 0), (6, pt p17 0), (7, .int .u64 (c77 : Int)), (8, .int .i64 3), (9, .int .i64 3), (13, .int .i64 3), (15, pt p3 3)] [0, 1, 2] (by kernel_rfl) rfl hS94 ?_
  refine GP.sem 3 (fun w_ H_ => H_.ld (o := 3) (ty := 22) (v := .int .u64 (wd x 3 : Int)) 0 rfl (by kernel_rfl) rfl) [2, 3, 4, 6, 7, 8, 9, 13, 16] [(2, pt p3 0), (3, pt p7 0), (4, pt p11 0), (6, pt p17 0), (7, .int .u64 (c77 : Int)), (8, .int .i64 3), (9, .int .i64 3), (13, .int .i64 3), (16, .int .u64 (wd x 3 : Int))] (by kernel_rfl) (by kernel_rfl) (by kernel_rfl) hS94 ?_
  refine GP.run [4, 5] [2, 3, 4, 6, 7, 9, 13, 16, 18] [(2, pt p3 0), (3, pt p7 0), (4, pt p11 0), (6, pt p17 0), (7, .int .u64 (c77 : Int)), (9, .int .i64 3), (13, .int .i64 3), (16, .int .u64 (wd x 3 : Int)), (18, pt p7 3)] [0, 1, 2, 3, 4, 5] (by kernel_rfl) rfl hS94 ?_
  refine GP.sem 6 (fun w_ H_ => H_.ld (o := 3) (ty := 22) (v := .int .u64 (wd y 3 : Int)) 1 rfl (by kernel_rfl) rfl) [2, 3, 4, 6, 7, 9, 13, 16, 19] [(2, pt p3 0), (3, pt p7 0), (4, pt p11 0), (6, pt p17 0), (7, .int .u64 (c77 : Int)), (9, .int .i64 3), (13, .int .i64 3), (16, .int .u64 (wd x 3 : Int)), (19, .int .u64 (wd y 3 : Int))] (by kernel_rfl) (by kernel_rfl) (by kernel_rfl) hS94 ?_
  refine GP.run [7] [2, 3, 4, 6, 7, 9, 13, 16, 19, 20] [(2, pt p3 0), (3, pt p7 0), (4, pt p11 0), (6, pt p17 0), (7, .int .u64 (c77 : Int)), (9, .int .i64 3), (13, .int .i64 3), (16, .int .u64 (wd x 3 : Int)), (19, .int .u64 (wd y 3 : Int)), (20, .int .u64 (c77 : Int))] [0, 1, 2, 3, 4, 5, 6, 7] (by kernel_rfl) rfl hS94 ?_
  obtain ⟨s95, hs97⟩ : ∃ s : Nat, s = ((wd x 3) + (wd y 3) + c77) % K := ⟨_, rfl⟩
  obtain ⟨c96, hc98⟩ : ∃ s : Nat, s = ((wd x 3) + (wd y 3) + c77) / K := ⟨_, rfl⟩
  have s95l : s95 < K := by rw [hs97]; exact Nat.mod_lt _ (by decide)
  have c96l : c96 ≤ 1 := by rw [hc98]; exact carry_le (wd_lt _ _) (wd_lt _ _) (c77l)
  refine GP.semN 8 (fun w_ H_ => add64_run (c77l) hs97 hc98 _) [2, 3, 4, 6, 7, 9, 13, 21] [(2, pt p3 0), (3, pt p7 0), (4, pt p11 0), (6, pt p17 0), (7, .int .u64 (c77 : Int)), (9, .int .i64 3), (13, .int .i64 3), (21, .tuple #[.int .u64 (s95 : Int), .int .u64 (c96 : Int)])] (by kernel_rfl) (by kernel_rfl) (by kernel_rfl) hS94 ?_
  refine GP.run [9, 10, 11, 12] [2, 3, 4, 6, 7, 9, 22, 23, 24] [(2, pt p3 0), (3, pt p7 0), (4, pt p11 0), (6, pt p17 0), (7, .int .u64 (c77 : Int)), (9, .int .i64 3), (22, .int .u64 (s95 : Int)), (23, .int .u64 (c96 : Int)), (24, pt p17 3)] [0, 1, 2, 3, 4, 5, 6, 7, 8, 9, 10, 11, 12] (by kernel_rfl) rfl hS94 ?_
  obtain ⟨w99, r100, H101⟩ := H92.st (P := Try.prog) (o := 3) (ty := 22) (v := .int .u64 (s95 : Int)) 3 rfl (by kernel_rfl) (by simp) rfl
  have H101 : Hp w [] [.blk p3 [.int .u64 (wd x 0 : Int), .int .u64 (wd x 1 : Int), .int .u64 (wd x 2 : Int), .int .u64 (wd x 3 : Int)] 55, .blk p7 [.int .u64 (wd y 0 : Int), .int .u64 (wd y 1 : Int), .int .u64 (wd y 2 : Int), .int .u64 (wd y 3 : Int)] 55, .blk p11 [.int .u64 0, .int .u64 0, .int .u64 0, .int .u64 0] 55, .blk p17 [.int .u64 (s38 : Int), .int .u64 (s57 : Int), .int .u64 (s76 : Int), .int .u64 (s95 : Int)] 55] w99 := H101
  have hS102 : Hp w [] [.blk p3 [.int .u64 (wd x 0 : Int), .int .u64 (wd x 1 : Int), .int .u64 (wd x 2 : Int), .int .u64 (wd x 3 : Int)] 55, .blk p7 [.int .u64 (wd y 0 : Int), .int .u64 (wd y 1 : Int), .int .u64 (wd y 2 : Int), .int .u64 (wd y 3 : Int)] 55, .blk p11 [.int .u64 0, .int .u64 0, .int .u64 0, .int .u64 0] 55] w99 := H101.sub (List.Sublist.cons_cons _ (List.Sublist.cons_cons _ (List.Sublist.cons_cons _ (List.Sublist.cons _ (List.Sublist.slnil)))))
  refine GP.semU 13 r100 [2, 3, 4, 6, 7, 9, 23] [(2, pt p3 0), (3, pt p7 0), (4, pt p11 0), (6, pt p17 0), (7, .int .u64 (c77 : Int)), (9, .int .i64 3), (23, .int .u64 (c96 : Int))] (by kernel_rfl) rfl rfl (by kernel_rfl) hS102 ?_
  refine GP.run [14] [2, 3, 4, 6, 7, 9] [(2, pt p3 0), (3, pt p7 0), (4, pt p11 0), (6, pt p17 0), (7, .int .u64 (c96 : Int)), (9, .int .i64 3)] [0, 1, 2, 3, 4, 5, 6, 7, 8, 9, 10, 11, 12, 13, 14] (by kernel_rfl) rfl hS102 ?_
  refine GP.k (by kernel_rfl) hK89 (fun _ _ h => h) ?_
  refine G.region ?_
  refine GL.run (j := 2) 2 [2, 3, 4, 6, 7, 9] [(2, pt p3 0), (3, pt p7 0), (4, pt p11 0), (6, pt p17 0), (7, .int .u64 (c96 : Int)), (9, .int .i64 4)] (by kernel_rfl) rfl ?_
  refine GL.round rfl ?_
  refine G.seqK fun K103 hK104 => ?_
  refine G.region ?_
  refine GL.run (j := 1) 1 [2, 3, 4, 6, 7, 9, 10] [(2, pt p3 0), (3, pt p7 0), (4, pt p11 0), (6, pt p17 0), (7, .int .u64 (c96 : Int)), (9, .int .i64 4), (10, .bool false)] (by kernel_rfl) rfl ?_
  refine GL.k rfl hK104 (fun _ _ h => h) ?_
  refine G.seqK fun K105 hK106 => ?_
  refine G.no rfl ?_
  refine G.exitK hK24 (fun _ _ h => h) ?_
  refine G.seqK fun K107 hK108 => ?_
  refine G.region ?_
  refine GL.sem (j := 1) (H101.ldA (o := 0) (ty := 55) (m := 4) (sub := [.int .u64 (s38 : Int), .int .u64 (s57 : Int), .int .u64 (s76 : Int), .int .u64 (s95 : Int)]) 3 rfl (by kernel_rfl) rfl rfl) [4, 7, 26] [(4, pt p11 0), (7, .int .u64 (c96 : Int)), (26, .agg #[.int .u64 (s38 : Int), .int .u64 (s57 : Int), .int .u64 (s76 : Int), .int .u64 (s95 : Int)])] (by kernel_rfl) (by kernel_rfl) rfl ?_
  refine GL.run (j := 3) 2 [4, 26, 28] [(4, pt p11 0), (26, .agg #[.int .u64 (s38 : Int), .int .u64 (s57 : Int), .int .u64 (s76 : Int), .int .u64 (s95 : Int)]), (28, .bool ((c96 : Int) == 1))] (by kernel_rfl) rfl ?_
  obtain ⟨w109, r110, H111⟩ := H101.stA (P := Try.prog) (o := 0) (vs := [.int .u64 (s38 : Int), .int .u64 (s57 : Int), .int .u64 (s76 : Int), .int .u64 (s95 : Int)]) (ty := 55) (m := 4) 2 rfl (by kernel_rfl) rfl (by simp) (by simp [Value.oneCell'])
  have H111 : Hp w [] [.blk p3 [.int .u64 (wd x 0 : Int), .int .u64 (wd x 1 : Int), .int .u64 (wd x 2 : Int), .int .u64 (wd x 3 : Int)] 55, .blk p7 [.int .u64 (wd y 0 : Int), .int .u64 (wd y 1 : Int), .int .u64 (wd y 2 : Int), .int .u64 (wd y 3 : Int)] 55, .blk p11 [.int .u64 (s38 : Int), .int .u64 (s57 : Int), .int .u64 (s76 : Int), .int .u64 (s95 : Int)] 55, .blk p17 [.int .u64 (s38 : Int), .int .u64 (s57 : Int), .int .u64 (s76 : Int), .int .u64 (s95 : Int)] 55] w109 := H111
  refine GL.semU (j := 4) r110 [4, 28] [(4, pt p11 0), (28, .bool ((c96 : Int) == 1))] (by kernel_rfl) rfl rfl rfl ?_
  refine GL.run (j := 5) 1 [4, 5] [(4, pt p11 0), (5, .bool ((c96 : Int) == 1))] (by kernel_rfl) rfl ?_
  refine GL.k rfl hK108 (fun _ _ h => h) ?_
  refine G.ret ?_
  intro F_ hF_ hM_
  refine hRet _ _ (bodyPost_2 rfl (RV.cell rfl (H111.ldA (o := 0) (ty := 55) (m := 4) (sub := [.int .u64 (s38 : Int), .int .u64 (s57 : Int), .int .u64 (s76 : Int), .int .u64 (s95 : Int)]) 2 rfl (by kernel_rfl) rfl rfl)) (RV.tmp rfl) ?_ F_ hF_ hM_)
  obtain ⟨ha, hb⟩ := add_fin hx hy hs40 hc41 hs59 hc60 hs78 hc79 hs97 hc98
  rw [ha, hb]
  exact ⟨rfl, H111.sub (List.nil_sublist _)⟩
theorem Sub_calls (x y : Nat) (hx : x < K4) (hy : y < K4) (w : World) : Calls Try.prog 30 #[wv x, wv y] w fun e w' => e = .returned (.tuple #[wv ((x + K4 - y) % K4), .bool (decide (x < y))]) ∧ Hp w [] [] w' := by
  refine calls_G (args := [wv x, wv y]) Try.func30 rfl Try.ntmps30 rfl ?_
  intro Q0 hRet hNor hPan
  have H := Hp.start w
  have H : Hp w [] [] w := H
  refine G.seqK fun K1 hK2 => ?_
  refine G.region ?_
  obtain ⟨p3, w4, r5, H6⟩ := H.box (P := Try.prog) 55 [.int .u64 (wd x 0 : Int), .int .u64 (wd x 1 : Int), .int .u64 (wd x 2 : Int), .int .u64 (wd x 3 : Int)] (wv x) rfl
  have H6 : Hp w [] [.blk p3 [.int .u64 (wd x 0 : Int), .int .u64 (wd x 1 : Int), .int .u64 (wd x 2 : Int), .int .u64 (wd x 3 : Int)] 55] w4 := H6
  refine GL.sem (j := 1) (r5) [1, 2] [(1, wv y), (2, pt p3 0)] (by kernel_rfl) (by kernel_rfl) rfl ?_
  obtain ⟨p7, w8, r9, H10⟩ := H6.box (P := Try.prog) 55 [.int .u64 (wd y 0 : Int), .int .u64 (wd y 1 : Int), .int .u64 (wd y 2 : Int), .int .u64 (wd y 3 : Int)] (wv y) rfl
  have H10 : Hp w [] [.blk p3 [.int .u64 (wd x 0 : Int), .int .u64 (wd x 1 : Int), .int .u64 (wd x 2 : Int), .int .u64 (wd x 3 : Int)] 55, .blk p7 [.int .u64 (wd y 0 : Int), .int .u64 (wd y 1 : Int), .int .u64 (wd y 2 : Int), .int .u64 (wd y 3 : Int)] 55] w8 := H10
  refine GL.sem (j := 2) (r9) [2, 3] [(2, pt p3 0), (3, pt p7 0)] (by kernel_rfl) (by kernel_rfl) rfl ?_
  obtain ⟨p11, w12, r13, H14⟩ := H10.alloc (P := Try.prog) 55 [.int .u64 0, .int .u64 0, .int .u64 0, .int .u64 0] (by kernel_rfl)
  have H14 : Hp w [] [.blk p3 [.int .u64 (wd x 0 : Int), .int .u64 (wd x 1 : Int), .int .u64 (wd x 2 : Int), .int .u64 (wd x 3 : Int)] 55, .blk p7 [.int .u64 (wd y 0 : Int), .int .u64 (wd y 1 : Int), .int .u64 (wd y 2 : Int), .int .u64 (wd y 3 : Int)] 55, .blk p11 [.int .u64 0, .int .u64 0, .int .u64 0, .int .u64 0] 55] w12 := H14
  refine GL.sem (j := 3) (r13) [2, 3, 4] [(2, pt p3 0), (3, pt p7 0), (4, pt p11 0)] (by kernel_rfl) (by kernel_rfl) rfl ?_
  refine GL.run (j := 4) 1 [2, 3, 4] [(2, pt p3 0), (3, pt p7 0), (4, pt p11 0)] (by kernel_rfl) rfl ?_
  refine GL.k rfl hK2 (fun _ _ h => h) ?_
  refine G.seqK fun K15 hK16 => ?_
  refine G.region ?_
  obtain ⟨p17, w18, r19, H20⟩ := H14.alloc (P := Try.prog) 55 [.int .u64 0, .int .u64 0, .int .u64 0, .int .u64 0] (by kernel_rfl)
  have H20 : Hp w [] [.blk p3 [.int .u64 (wd x 0 : Int), .int .u64 (wd x 1 : Int), .int .u64 (wd x 2 : Int), .int .u64 (wd x 3 : Int)] 55, .blk p7 [.int .u64 (wd y 0 : Int), .int .u64 (wd y 1 : Int), .int .u64 (wd y 2 : Int), .int .u64 (wd y 3 : Int)] 55, .blk p11 [.int .u64 0, .int .u64 0, .int .u64 0, .int .u64 0] 55, .blk p17 [.int .u64 0, .int .u64 0, .int .u64 0, .int .u64 0] 55] w18 := H20
  refine GL.sem (j := 1) (r19) [2, 3, 4, 6] [(2, pt p3 0), (3, pt p7 0), (4, pt p11 0), (6, pt p17 0)] (by kernel_rfl) (by kernel_rfl) rfl ?_
  refine GL.k rfl hK16 (fun _ _ h => h) ?_
  refine G.seqK fun K21 hK22 => ?_
  refine G.region ?_
  refine GL.run (j := 1) 1 [2, 3, 4, 6, 7] [(2, pt p3 0), (3, pt p7 0), (4, pt p11 0), (6, pt p17 0), (7, .int .u64 0)] (by kernel_rfl) rfl ?_
  refine GL.k rfl hK22 (fun _ _ h => h) ?_
  refine G.seqK fun K23 hK24 => ?_
  refine G.seqK fun K25 hK26 => ?_
  refine G.region ?_
  refine GL.run (j := 1) 1 [2, 3, 4, 6, 7, 9] [(2, pt p3 0), (3, pt p7 0), (4, pt p11 0), (6, pt p17 0), (7, .int .u64 0), (9, .int .i64 0)] (by kernel_rfl) rfl ?_
  refine GL.k rfl hK26 (fun _ _ h => h) ?_
  refine G.block ?_
  refine G.unroll 4 ?_
  refine G.seqK fun K27 hK28 => ?_
  refine G.region ?_
  refine GL.run (j := 1) 1 [2, 3, 4, 6, 7, 9, 10] [(2, pt p3 0), (3, pt p7 0), (4, pt p11 0), (6, pt p17 0), (7, .int .u64 0), (9, .int .i64 0), (10, .bool true)] (by kernel_rfl) rfl ?_
  refine GL.k rfl hK28 (fun _ _ h => h) ?_
  refine G.seqK fun K29 hK30 => ?_
  refine G.yes rfl ?_
  refine G.skipK hK30 (fun _ _ h => h) ?_
  refine G.seqK fun K31 hK32 => ?_
  refine G.block ?_
  refine G.seqK fun K33 hK34 => ?_
  refine G.region ?_
  refine GL.run (j := 2) 2 [2, 3, 4, 6, 7, 8, 9] [(2, pt p3 0), (3, pt p7 0), (4, pt p11 0), (6, pt p17 0), (7, .int .u64 0), (8, .int .i64 0), (9, .int .i64 0)] (by kernel_rfl) rfl ?_
  refine GL.k rfl hK34 (fun _ _ h => h) ?_
  refine G.heldP (Hp w [] [.blk p3 [.int .u64 (wd x 0 : Int), .int .u64 (wd x 1 : Int), .int .u64 (wd x 2 : Int), .int .u64 (wd x 3 : Int)] 55, .blk p7 [.int .u64 (wd y 0 : Int), .int .u64 (wd y 1 : Int), .int .u64 (wd y 2 : Int), .int .u64 (wd y 3 : Int)] 55, .blk p11 [.int .u64 0, .int .u64 0, .int .u64 0, .int .u64 0] 55]) (by kernel_rfl) (by kernel_rfl) (fun c_ a_ d_ v_ w_ h_ => hPan c_ a_ d_ v_ w_ h_) ?_
  have H35 := H20.drew
  generalize ({ w18 with drawn := w18.drawn + 1 } : World) = w36 at H35 ⊢
  have hS37 : Hp w [] [.blk p3 [.int .u64 (wd x 0 : Int), .int .u64 (wd x 1 : Int), .int .u64 (wd x 2 : Int), .int .u64 (wd x 3 : Int)] 55, .blk p7 [.int .u64 (wd y 0 : Int), .int .u64 (wd y 1 : Int), .int .u64 (wd y 2 : Int), .int .u64 (wd y 3 : Int)] 55, .blk p11 [.int .u64 0, .int .u64 0, .int .u64 0, .int .u64 0] 55] w36 := H35.sub (List.Sublist.cons_cons _ (List.Sublist.cons_cons _ (List.Sublist.cons_cons _ (List.Sublist.cons _ (List.Sublist.slnil)))))
  refine GP.run [0, 1, 2] [2, 3, 4, 6, 7, 8, 9, 13, 15] [(2, pt p3 0), (3, pt p7 0), (4, pt p11 0), (6, pt p17 0), (7, .int .u64 0), (8, .int .i64 0), (9, .int .i64 0), (13, .int .i64 0), (15, pt p3 0)] [0, 1, 2] (by kernel_rfl) rfl hS37 ?_
  refine GP.sem 3 (fun w_ H_ => H_.ld (o := 0) (ty := 22) (v := .int .u64 (wd x 0 : Int)) 0 rfl (by kernel_rfl) rfl) [2, 3, 4, 6, 7, 8, 9, 13, 16] [(2, pt p3 0), (3, pt p7 0), (4, pt p11 0), (6, pt p17 0), (7, .int .u64 0), (8, .int .i64 0), (9, .int .i64 0), (13, .int .i64 0), (16, .int .u64 (wd x 0 : Int))] (by kernel_rfl) (by kernel_rfl) (by kernel_rfl) hS37 ?_
  refine GP.run [4, 5] [2, 3, 4, 6, 7, 9, 13, 16, 18] [(2, pt p3 0), (3, pt p7 0), (4, pt p11 0), (6, pt p17 0), (7, .int .u64 0), (9, .int .i64 0), (13, .int .i64 0), (16, .int .u64 (wd x 0 : Int)), (18, pt p7 0)] [0, 1, 2, 3, 4, 5] (by kernel_rfl) rfl hS37 ?_
  refine GP.sem 6 (fun w_ H_ => H_.ld (o := 0) (ty := 22) (v := .int .u64 (wd y 0 : Int)) 1 rfl (by kernel_rfl) rfl) [2, 3, 4, 6, 7, 9, 13, 16, 19] [(2, pt p3 0), (3, pt p7 0), (4, pt p11 0), (6, pt p17 0), (7, .int .u64 0), (9, .int .i64 0), (13, .int .i64 0), (16, .int .u64 (wd x 0 : Int)), (19, .int .u64 (wd y 0 : Int))] (by kernel_rfl) (by kernel_rfl) (by kernel_rfl) hS37 ?_
  refine GP.run [7] [2, 3, 4, 6, 7, 9, 13, 16, 19, 20] [(2, pt p3 0), (3, pt p7 0), (4, pt p11 0), (6, pt p17 0), (7, .int .u64 0), (9, .int .i64 0), (13, .int .i64 0), (16, .int .u64 (wd x 0 : Int)), (19, .int .u64 (wd y 0 : Int)), (20, .int .u64 0)] [0, 1, 2, 3, 4, 5, 6, 7] (by kernel_rfl) rfl hS37 ?_
  obtain ⟨s38, hs40⟩ : ∃ s : Nat, s = ((wd x 0) + K - (wd y 0) - 0) % K := ⟨_, rfl⟩
  obtain ⟨c39, hc41⟩ : ∃ s : Nat, s = if (wd x 0) < (wd y 0) + 0 then 1 else 0 := ⟨_, rfl⟩
  have s38l : s38 < K := by rw [hs40]; exact Nat.mod_lt _ (by decide)
  have c39l : c39 ≤ 1 := by rw [hc41]; exact borrow_le _ _ _
  refine GP.semN 8 (fun w_ H_ => sub64_run (Nat.zero_le 1) hs40 hc41 _) [2, 3, 4, 6, 7, 9, 13, 21] [(2, pt p3 0), (3, pt p7 0), (4, pt p11 0), (6, pt p17 0), (7, .int .u64 0), (9, .int .i64 0), (13, .int .i64 0), (21, .tuple #[.int .u64 (s38 : Int), .int .u64 (c39 : Int)])] (by kernel_rfl) (by kernel_rfl) (by kernel_rfl) hS37 ?_
  refine GP.run [9, 10, 11, 12] [2, 3, 4, 6, 7, 9, 22, 23, 24] [(2, pt p3 0), (3, pt p7 0), (4, pt p11 0), (6, pt p17 0), (7, .int .u64 0), (9, .int .i64 0), (22, .int .u64 (s38 : Int)), (23, .int .u64 (c39 : Int)), (24, pt p17 0)] [0, 1, 2, 3, 4, 5, 6, 7, 8, 9, 10, 11, 12] (by kernel_rfl) rfl hS37 ?_
  obtain ⟨w42, r43, H44⟩ := H35.st (P := Try.prog) (o := 0) (ty := 22) (v := .int .u64 (s38 : Int)) 3 rfl (by kernel_rfl) (by simp) rfl
  have H44 : Hp w [] [.blk p3 [.int .u64 (wd x 0 : Int), .int .u64 (wd x 1 : Int), .int .u64 (wd x 2 : Int), .int .u64 (wd x 3 : Int)] 55, .blk p7 [.int .u64 (wd y 0 : Int), .int .u64 (wd y 1 : Int), .int .u64 (wd y 2 : Int), .int .u64 (wd y 3 : Int)] 55, .blk p11 [.int .u64 0, .int .u64 0, .int .u64 0, .int .u64 0] 55, .blk p17 [.int .u64 (s38 : Int), .int .u64 0, .int .u64 0, .int .u64 0] 55] w42 := H44
  have hS45 : Hp w [] [.blk p3 [.int .u64 (wd x 0 : Int), .int .u64 (wd x 1 : Int), .int .u64 (wd x 2 : Int), .int .u64 (wd x 3 : Int)] 55, .blk p7 [.int .u64 (wd y 0 : Int), .int .u64 (wd y 1 : Int), .int .u64 (wd y 2 : Int), .int .u64 (wd y 3 : Int)] 55, .blk p11 [.int .u64 0, .int .u64 0, .int .u64 0, .int .u64 0] 55] w42 := H44.sub (List.Sublist.cons_cons _ (List.Sublist.cons_cons _ (List.Sublist.cons_cons _ (List.Sublist.cons _ (List.Sublist.slnil)))))
  refine GP.semU 13 r43 [2, 3, 4, 6, 7, 9, 23] [(2, pt p3 0), (3, pt p7 0), (4, pt p11 0), (6, pt p17 0), (7, .int .u64 0), (9, .int .i64 0), (23, .int .u64 (c39 : Int))] (by kernel_rfl) rfl rfl (by kernel_rfl) hS45 ?_
  refine GP.run [14] [2, 3, 4, 6, 7, 9] [(2, pt p3 0), (3, pt p7 0), (4, pt p11 0), (6, pt p17 0), (7, .int .u64 (c39 : Int)), (9, .int .i64 0)] [0, 1, 2, 3, 4, 5, 6, 7, 8, 9, 10, 11, 12, 13, 14] (by kernel_rfl) rfl hS45 ?_
  refine GP.k (by kernel_rfl) hK32 (fun _ _ h => h) ?_
  refine G.region ?_
  refine GL.run (j := 2) 2 [2, 3, 4, 6, 7, 9] [(2, pt p3 0), (3, pt p7 0), (4, pt p11 0), (6, pt p17 0), (7, .int .u64 (c39 : Int)), (9, .int .i64 1)] (by kernel_rfl) rfl ?_
  refine GL.round rfl ?_
  refine G.seqK fun K46 hK47 => ?_
  refine G.region ?_
  refine GL.run (j := 1) 1 [2, 3, 4, 6, 7, 9, 10] [(2, pt p3 0), (3, pt p7 0), (4, pt p11 0), (6, pt p17 0), (7, .int .u64 (c39 : Int)), (9, .int .i64 1), (10, .bool true)] (by kernel_rfl) rfl ?_
  refine GL.k rfl hK47 (fun _ _ h => h) ?_
  refine G.seqK fun K48 hK49 => ?_
  refine G.yes rfl ?_
  refine G.skipK hK49 (fun _ _ h => h) ?_
  refine G.seqK fun K50 hK51 => ?_
  refine G.block ?_
  refine G.seqK fun K52 hK53 => ?_
  refine G.region ?_
  refine GL.run (j := 2) 2 [2, 3, 4, 6, 7, 8, 9] [(2, pt p3 0), (3, pt p7 0), (4, pt p11 0), (6, pt p17 0), (7, .int .u64 (c39 : Int)), (8, .int .i64 1), (9, .int .i64 1)] (by kernel_rfl) rfl ?_
  refine GL.k rfl hK53 (fun _ _ h => h) ?_
  refine G.heldP (Hp w [] [.blk p3 [.int .u64 (wd x 0 : Int), .int .u64 (wd x 1 : Int), .int .u64 (wd x 2 : Int), .int .u64 (wd x 3 : Int)] 55, .blk p7 [.int .u64 (wd y 0 : Int), .int .u64 (wd y 1 : Int), .int .u64 (wd y 2 : Int), .int .u64 (wd y 3 : Int)] 55, .blk p11 [.int .u64 0, .int .u64 0, .int .u64 0, .int .u64 0] 55]) (by kernel_rfl) (by kernel_rfl) (fun c_ a_ d_ v_ w_ h_ => hPan c_ a_ d_ v_ w_ h_) ?_
  have H54 := H44.drew
  generalize ({ w42 with drawn := w42.drawn + 1 } : World) = w55 at H54 ⊢
  have hS56 : Hp w [] [.blk p3 [.int .u64 (wd x 0 : Int), .int .u64 (wd x 1 : Int), .int .u64 (wd x 2 : Int), .int .u64 (wd x 3 : Int)] 55, .blk p7 [.int .u64 (wd y 0 : Int), .int .u64 (wd y 1 : Int), .int .u64 (wd y 2 : Int), .int .u64 (wd y 3 : Int)] 55, .blk p11 [.int .u64 0, .int .u64 0, .int .u64 0, .int .u64 0] 55] w55 := H54.sub (List.Sublist.cons_cons _ (List.Sublist.cons_cons _ (List.Sublist.cons_cons _ (List.Sublist.cons _ (List.Sublist.slnil)))))
  refine GP.run [0, 1, 2] [2, 3, 4, 6, 7, 8, 9, 13, 15] [(2, pt p3 0), (3, pt p7 0), (4, pt p11 0), (6, pt p17 0), (7, .int .u64 (c39 : Int)), (8, .int .i64 1), (9, .int .i64 1), (13, .int .i64 1), (15, pt p3 1)] [0, 1, 2] (by kernel_rfl) rfl hS56 ?_
  refine GP.sem 3 (fun w_ H_ => H_.ld (o := 1) (ty := 22) (v := .int .u64 (wd x 1 : Int)) 0 rfl (by kernel_rfl) rfl) [2, 3, 4, 6, 7, 8, 9, 13, 16] [(2, pt p3 0), (3, pt p7 0), (4, pt p11 0), (6, pt p17 0), (7, .int .u64 (c39 : Int)), (8, .int .i64 1), (9, .int .i64 1), (13, .int .i64 1), (16, .int .u64 (wd x 1 : Int))] (by kernel_rfl) (by kernel_rfl) (by kernel_rfl) hS56 ?_
  refine GP.run [4, 5] [2, 3, 4, 6, 7, 9, 13, 16, 18] [(2, pt p3 0), (3, pt p7 0), (4, pt p11 0), (6, pt p17 0), (7, .int .u64 (c39 : Int)), (9, .int .i64 1), (13, .int .i64 1), (16, .int .u64 (wd x 1 : Int)), (18, pt p7 1)] [0, 1, 2, 3, 4, 5] (by kernel_rfl) rfl hS56 ?_
  refine GP.sem 6 (fun w_ H_ => H_.ld (o := 1) (ty := 22) (v := .int .u64 (wd y 1 : Int)) 1 rfl (by kernel_rfl) rfl) [2, 3, 4, 6, 7, 9, 13, 16, 19] [(2, pt p3 0), (3, pt p7 0), (4, pt p11 0), (6, pt p17 0), (7, .int .u64 (c39 : Int)), (9, .int .i64 1), (13, .int .i64 1), (16, .int .u64 (wd x 1 : Int)), (19, .int .u64 (wd y 1 : Int))] (by kernel_rfl) (by kernel_rfl) (by kernel_rfl) hS56 ?_
  refine GP.run [7] [2, 3, 4, 6, 7, 9, 13, 16, 19, 20] [(2, pt p3 0), (3, pt p7 0), (4, pt p11 0), (6, pt p17 0), (7, .int .u64 (c39 : Int)), (9, .int .i64 1), (13, .int .i64 1), (16, .int .u64 (wd x 1 : Int)), (19, .int .u64 (wd y 1 : Int)), (20, .int .u64 (c39 : Int))] [0, 1, 2, 3, 4, 5, 6, 7] (by kernel_rfl) rfl hS56 ?_
  obtain ⟨s57, hs59⟩ : ∃ s : Nat, s = ((wd x 1) + K - (wd y 1) - c39) % K := ⟨_, rfl⟩
  obtain ⟨c58, hc60⟩ : ∃ s : Nat, s = if (wd x 1) < (wd y 1) + c39 then 1 else 0 := ⟨_, rfl⟩
  have s57l : s57 < K := by rw [hs59]; exact Nat.mod_lt _ (by decide)
  have c58l : c58 ≤ 1 := by rw [hc60]; exact borrow_le _ _ _
  refine GP.semN 8 (fun w_ H_ => sub64_run (c39l) hs59 hc60 _) [2, 3, 4, 6, 7, 9, 13, 21] [(2, pt p3 0), (3, pt p7 0), (4, pt p11 0), (6, pt p17 0), (7, .int .u64 (c39 : Int)), (9, .int .i64 1), (13, .int .i64 1), (21, .tuple #[.int .u64 (s57 : Int), .int .u64 (c58 : Int)])] (by kernel_rfl) (by kernel_rfl) (by kernel_rfl) hS56 ?_
  refine GP.run [9, 10, 11, 12] [2, 3, 4, 6, 7, 9, 22, 23, 24] [(2, pt p3 0), (3, pt p7 0), (4, pt p11 0), (6, pt p17 0), (7, .int .u64 (c39 : Int)), (9, .int .i64 1), (22, .int .u64 (s57 : Int)), (23, .int .u64 (c58 : Int)), (24, pt p17 1)] [0, 1, 2, 3, 4, 5, 6, 7, 8, 9, 10, 11, 12] (by kernel_rfl) rfl hS56 ?_
  obtain ⟨w61, r62, H63⟩ := H54.st (P := Try.prog) (o := 1) (ty := 22) (v := .int .u64 (s57 : Int)) 3 rfl (by kernel_rfl) (by simp) rfl
  have H63 : Hp w [] [.blk p3 [.int .u64 (wd x 0 : Int), .int .u64 (wd x 1 : Int), .int .u64 (wd x 2 : Int), .int .u64 (wd x 3 : Int)] 55, .blk p7 [.int .u64 (wd y 0 : Int), .int .u64 (wd y 1 : Int), .int .u64 (wd y 2 : Int), .int .u64 (wd y 3 : Int)] 55, .blk p11 [.int .u64 0, .int .u64 0, .int .u64 0, .int .u64 0] 55, .blk p17 [.int .u64 (s38 : Int), .int .u64 (s57 : Int), .int .u64 0, .int .u64 0] 55] w61 := H63
  have hS64 : Hp w [] [.blk p3 [.int .u64 (wd x 0 : Int), .int .u64 (wd x 1 : Int), .int .u64 (wd x 2 : Int), .int .u64 (wd x 3 : Int)] 55, .blk p7 [.int .u64 (wd y 0 : Int), .int .u64 (wd y 1 : Int), .int .u64 (wd y 2 : Int), .int .u64 (wd y 3 : Int)] 55, .blk p11 [.int .u64 0, .int .u64 0, .int .u64 0, .int .u64 0] 55] w61 := H63.sub (List.Sublist.cons_cons _ (List.Sublist.cons_cons _ (List.Sublist.cons_cons _ (List.Sublist.cons _ (List.Sublist.slnil)))))
  refine GP.semU 13 r62 [2, 3, 4, 6, 7, 9, 23] [(2, pt p3 0), (3, pt p7 0), (4, pt p11 0), (6, pt p17 0), (7, .int .u64 (c39 : Int)), (9, .int .i64 1), (23, .int .u64 (c58 : Int))] (by kernel_rfl) rfl rfl (by kernel_rfl) hS64 ?_
  refine GP.run [14] [2, 3, 4, 6, 7, 9] [(2, pt p3 0), (3, pt p7 0), (4, pt p11 0), (6, pt p17 0), (7, .int .u64 (c58 : Int)), (9, .int .i64 1)] [0, 1, 2, 3, 4, 5, 6, 7, 8, 9, 10, 11, 12, 13, 14] (by kernel_rfl) rfl hS64 ?_
  refine GP.k (by kernel_rfl) hK51 (fun _ _ h => h) ?_
  refine G.region ?_
  refine GL.run (j := 2) 2 [2, 3, 4, 6, 7, 9] [(2, pt p3 0), (3, pt p7 0), (4, pt p11 0), (6, pt p17 0), (7, .int .u64 (c58 : Int)), (9, .int .i64 2)] (by kernel_rfl) rfl ?_
  refine GL.round rfl ?_
  refine G.seqK fun K65 hK66 => ?_
  refine G.region ?_
  refine GL.run (j := 1) 1 [2, 3, 4, 6, 7, 9, 10] [(2, pt p3 0), (3, pt p7 0), (4, pt p11 0), (6, pt p17 0), (7, .int .u64 (c58 : Int)), (9, .int .i64 2), (10, .bool true)] (by kernel_rfl) rfl ?_
  refine GL.k rfl hK66 (fun _ _ h => h) ?_
  refine G.seqK fun K67 hK68 => ?_
  refine G.yes rfl ?_
  refine G.skipK hK68 (fun _ _ h => h) ?_
  refine G.seqK fun K69 hK70 => ?_
  refine G.block ?_
  refine G.seqK fun K71 hK72 => ?_
  refine G.region ?_
  refine GL.run (j := 2) 2 [2, 3, 4, 6, 7, 8, 9] [(2, pt p3 0), (3, pt p7 0), (4, pt p11 0), (6, pt p17 0), (7, .int .u64 (c58 : Int)), (8, .int .i64 2), (9, .int .i64 2)] (by kernel_rfl) rfl ?_
  refine GL.k rfl hK72 (fun _ _ h => h) ?_
  refine G.heldP (Hp w [] [.blk p3 [.int .u64 (wd x 0 : Int), .int .u64 (wd x 1 : Int), .int .u64 (wd x 2 : Int), .int .u64 (wd x 3 : Int)] 55, .blk p7 [.int .u64 (wd y 0 : Int), .int .u64 (wd y 1 : Int), .int .u64 (wd y 2 : Int), .int .u64 (wd y 3 : Int)] 55, .blk p11 [.int .u64 0, .int .u64 0, .int .u64 0, .int .u64 0] 55]) (by kernel_rfl) (by kernel_rfl) (fun c_ a_ d_ v_ w_ h_ => hPan c_ a_ d_ v_ w_ h_) ?_
  have H73 := H63.drew
  generalize ({ w61 with drawn := w61.drawn + 1 } : World) = w74 at H73 ⊢
  have hS75 : Hp w [] [.blk p3 [.int .u64 (wd x 0 : Int), .int .u64 (wd x 1 : Int), .int .u64 (wd x 2 : Int), .int .u64 (wd x 3 : Int)] 55, .blk p7 [.int .u64 (wd y 0 : Int), .int .u64 (wd y 1 : Int), .int .u64 (wd y 2 : Int), .int .u64 (wd y 3 : Int)] 55, .blk p11 [.int .u64 0, .int .u64 0, .int .u64 0, .int .u64 0] 55] w74 := H73.sub (List.Sublist.cons_cons _ (List.Sublist.cons_cons _ (List.Sublist.cons_cons _ (List.Sublist.cons _ (List.Sublist.slnil)))))
  refine GP.run [0, 1, 2] [2, 3, 4, 6, 7, 8, 9, 13, 15] [(2, pt p3 0), (3, pt p7 0), (4, pt p11 0), (6, pt p17 0), (7, .int .u64 (c58 : Int)), (8, .int .i64 2), (9, .int .i64 2), (13, .int .i64 2), (15, pt p3 2)] [0, 1, 2] (by kernel_rfl) rfl hS75 ?_
  refine GP.sem 3 (fun w_ H_ => H_.ld (o := 2) (ty := 22) (v := .int .u64 (wd x 2 : Int)) 0 rfl (by kernel_rfl) rfl) [2, 3, 4, 6, 7, 8, 9, 13, 16] [(2, pt p3 0), (3, pt p7 0), (4, pt p11 0), (6, pt p17 0), (7, .int .u64 (c58 : Int)), (8, .int .i64 2), (9, .int .i64 2), (13, .int .i64 2), (16, .int .u64 (wd x 2 : Int))] (by kernel_rfl) (by kernel_rfl) (by kernel_rfl) hS75 ?_
  refine GP.run [4, 5] [2, 3, 4, 6, 7, 9, 13, 16, 18] [(2, pt p3 0), (3, pt p7 0), (4, pt p11 0), (6, pt p17 0), (7, .int .u64 (c58 : Int)), (9, .int .i64 2), (13, .int .i64 2), (16, .int .u64 (wd x 2 : Int)), (18, pt p7 2)] [0, 1, 2, 3, 4, 5] (by kernel_rfl) rfl hS75 ?_
  refine GP.sem 6 (fun w_ H_ => H_.ld (o := 2) (ty := 22) (v := .int .u64 (wd y 2 : Int)) 1 rfl (by kernel_rfl) rfl) [2, 3, 4, 6, 7, 9, 13, 16, 19] [(2, pt p3 0), (3, pt p7 0), (4, pt p11 0), (6, pt p17 0), (7, .int .u64 (c58 : Int)), (9, .int .i64 2), (13, .int .i64 2), (16, .int .u64 (wd x 2 : Int)), (19, .int .u64 (wd y 2 : Int))] (by kernel_rfl) (by kernel_rfl) (by kernel_rfl) hS75 ?_
  refine GP.run [7] [2, 3, 4, 6, 7, 9, 13, 16, 19, 20] [(2, pt p3 0), (3, pt p7 0), (4, pt p11 0), (6, pt p17 0), (7, .int .u64 (c58 : Int)), (9, .int .i64 2), (13, .int .i64 2), (16, .int .u64 (wd x 2 : Int)), (19, .int .u64 (wd y 2 : Int)), (20, .int .u64 (c58 : Int))] [0, 1, 2, 3, 4, 5, 6, 7] (by kernel_rfl) rfl hS75 ?_
  obtain ⟨s76, hs78⟩ : ∃ s : Nat, s = ((wd x 2) + K - (wd y 2) - c58) % K := ⟨_, rfl⟩
  obtain ⟨c77, hc79⟩ : ∃ s : Nat, s = if (wd x 2) < (wd y 2) + c58 then 1 else 0 := ⟨_, rfl⟩
  have s76l : s76 < K := by rw [hs78]; exact Nat.mod_lt _ (by decide)
  have c77l : c77 ≤ 1 := by rw [hc79]; exact borrow_le _ _ _
  refine GP.semN 8 (fun w_ H_ => sub64_run (c58l) hs78 hc79 _) [2, 3, 4, 6, 7, 9, 13, 21] [(2, pt p3 0), (3, pt p7 0), (4, pt p11 0), (6, pt p17 0), (7, .int .u64 (c58 : Int)), (9, .int .i64 2), (13, .int .i64 2), (21, .tuple #[.int .u64 (s76 : Int), .int .u64 (c77 : Int)])] (by kernel_rfl) (by kernel_rfl) (by kernel_rfl) hS75 ?_
  refine GP.run [9, 10, 11, 12] [2, 3, 4, 6, 7, 9, 22, 23, 24] [(2, pt p3 0), (3, pt p7 0), (4, pt p11 0), (6, pt p17 0), (7, .int .u64 (c58 : Int)), (9, .int .i64 2), (22, .int .u64 (s76 : Int)), (23, .int .u64 (c77 : Int)), (24, pt p17 2)] [0, 1, 2, 3, 4, 5, 6, 7, 8, 9, 10, 11, 12] (by kernel_rfl) rfl hS75 ?_
  obtain ⟨w80, r81, H82⟩ := H73.st (P := Try.prog) (o := 2) (ty := 22) (v := .int .u64 (s76 : Int)) 3 rfl (by kernel_rfl) (by simp) rfl
  have H82 : Hp w [] [.blk p3 [.int .u64 (wd x 0 : Int), .int .u64 (wd x 1 : Int), .int .u64 (wd x 2 : Int), .int .u64 (wd x 3 : Int)] 55, .blk p7 [.int .u64 (wd y 0 : Int), .int .u64 (wd y 1 : Int), .int .u64 (wd y 2 : Int), .int .u64 (wd y 3 : Int)] 55, .blk p11 [.int .u64 0, .int .u64 0, .int .u64 0, .int .u64 0] 55, .blk p17 [.int .u64 (s38 : Int), .int .u64 (s57 : Int), .int .u64 (s76 : Int), .int .u64 0] 55] w80 := H82
  have hS83 : Hp w [] [.blk p3 [.int .u64 (wd x 0 : Int), .int .u64 (wd x 1 : Int), .int .u64 (wd x 2 : Int), .int .u64 (wd x 3 : Int)] 55, .blk p7 [.int .u64 (wd y 0 : Int), .int .u64 (wd y 1 : Int), .int .u64 (wd y 2 : Int), .int .u64 (wd y 3 : Int)] 55, .blk p11 [.int .u64 0, .int .u64 0, .int .u64 0, .int .u64 0] 55] w80 := H82.sub (List.Sublist.cons_cons _ (List.Sublist.cons_cons _ (List.Sublist.cons_cons _ (List.Sublist.cons _ (List.Sublist.slnil)))))
  refine GP.semU 13 r81 [2, 3, 4, 6, 7, 9, 23] [(2, pt p3 0), (3, pt p7 0), (4, pt p11 0), (6, pt p17 0), (7, .int .u64 (c58 : Int)), (9, .int .i64 2), (23, .int .u64 (c77 : Int))] (by kernel_rfl) rfl rfl (by kernel_rfl) hS83 ?_
  refine GP.run [14] [2, 3, 4, 6, 7, 9] [(2, pt p3 0), (3, pt p7 0), (4, pt p11 0), (6, pt p17 0), (7, .int .u64 (c77 : Int)), (9, .int .i64 2)] [0, 1, 2, 3, 4, 5, 6, 7, 8, 9, 10, 11, 12, 13, 14] (by kernel_rfl) rfl hS83 ?_
  refine GP.k (by kernel_rfl) hK70 (fun _ _ h => h) ?_
  refine G.region ?_
  refine GL.run (j := 2) 2 [2, 3, 4, 6, 7, 9] [(2, pt p3 0), (3, pt p7 0), (4, pt p11 0), (6, pt p17 0), (7, .int .u64 (c77 : Int)), (9, .int .i64 3)] (by kernel_rfl) rfl ?_
  refine GL.round rfl ?_
  refine G.seqK fun K84 hK85 => ?_
  refine G.region ?_
  refine GL.run (j := 1) 1 [2, 3, 4, 6, 7, 9, 10] [(2, pt p3 0), (3, pt p7 0), (4, pt p11 0), (6, pt p17 0), (7, .int .u64 (c77 : Int)), (9, .int .i64 3), (10, .bool true)] (by kernel_rfl) rfl ?_
  refine GL.k rfl hK85 (fun _ _ h => h) ?_
  refine G.seqK fun K86 hK87 => ?_
  refine G.yes rfl ?_
  refine G.skipK hK87 (fun _ _ h => h) ?_
  refine G.seqK fun K88 hK89 => ?_
  refine G.block ?_
  refine G.seqK fun K90 hK91 => ?_
  refine G.region ?_
  refine GL.run (j := 2) 2 [2, 3, 4, 6, 7, 8, 9] [(2, pt p3 0), (3, pt p7 0), (4, pt p11 0), (6, pt p17 0), (7, .int .u64 (c77 : Int)), (8, .int .i64 3), (9, .int .i64 3)] (by kernel_rfl) rfl ?_
  refine GL.k rfl hK91 (fun _ _ h => h) ?_
  refine G.heldP (Hp w [] [.blk p3 [.int .u64 (wd x 0 : Int), .int .u64 (wd x 1 : Int), .int .u64 (wd x 2 : Int), .int .u64 (wd x 3 : Int)] 55, .blk p7 [.int .u64 (wd y 0 : Int), .int .u64 (wd y 1 : Int), .int .u64 (wd y 2 : Int), .int .u64 (wd y 3 : Int)] 55, .blk p11 [.int .u64 0, .int .u64 0, .int .u64 0, .int .u64 0] 55]) (by kernel_rfl) (by kernel_rfl) (fun c_ a_ d_ v_ w_ h_ => hPan c_ a_ d_ v_ w_ h_) ?_
  have H92 := H82.drew
  generalize ({ w80 with drawn := w80.drawn + 1 } : World) = w93 at H92 ⊢
  have hS94 : Hp w [] [.blk p3 [.int .u64 (wd x 0 : Int), .int .u64 (wd x 1 : Int), .int .u64 (wd x 2 : Int), .int .u64 (wd x 3 : Int)] 55, .blk p7 [.int .u64 (wd y 0 : Int), .int .u64 (wd y 1 : Int), .int .u64 (wd y 2 : Int), .int .u64 (wd y 3 : Int)] 55, .blk p11 [.int .u64 0, .int .u64 0, .int .u64 0, .int .u64 0] 55] w93 := H92.sub (List.Sublist.cons_cons _ (List.Sublist.cons_cons _ (List.Sublist.cons_cons _ (List.Sublist.cons _ (List.Sublist.slnil)))))
  refine GP.run [0, 1, 2] [2, 3, 4, 6, 7, 8, 9, 13, 15] [(2, pt p3 0), (3, pt p7 0), (4, pt p11 0), (6, pt p17 0), (7, .int .u64 (c77 : Int)), (8, .int .i64 3), (9, .int .i64 3), (13, .int .i64 3), (15, pt p3 3)] [0, 1, 2] (by kernel_rfl) rfl hS94 ?_
  refine GP.sem 3 (fun w_ H_ => H_.ld (o := 3) (ty := 22) (v := .int .u64 (wd x 3 : Int)) 0 rfl (by kernel_rfl) rfl) [2, 3, 4, 6, 7, 8, 9, 13, 16] [(2, pt p3 0), (3, pt p7 0), (4, pt p11 0), (6, pt p17 0), (7, .int .u64 (c77 : Int)), (8, .int .i64 3), (9, .int .i64 3), (13, .int .i64 3), (16, .int .u64 (wd x 3 : Int))] (by kernel_rfl) (by kernel_rfl) (by kernel_rfl) hS94 ?_
  refine GP.run [4, 5] [2, 3, 4, 6, 7, 9, 13, 16, 18] [(2, pt p3 0), (3, pt p7 0), (4, pt p11 0), (6, pt p17 0), (7, .int .u64 (c77 : Int)), (9, .int .i64 3), (13, .int .i64 3), (16, .int .u64 (wd x 3 : Int)), (18, pt p7 3)] [0, 1, 2, 3, 4, 5] (by kernel_rfl) rfl hS94 ?_
  refine GP.sem 6 (fun w_ H_ => H_.ld (o := 3) (ty := 22) (v := .int .u64 (wd y 3 : Int)) 1 rfl (by kernel_rfl) rfl) [2, 3, 4, 6, 7, 9, 13, 16, 19] [(2, pt p3 0), (3, pt p7 0), (4, pt p11 0), (6, pt p17 0), (7, .int .u64 (c77 : Int)), (9, .int .i64 3), (13, .int .i64 3), (16, .int .u64 (wd x 3 : Int)), (19, .int .u64 (wd y 3 : Int))] (by kernel_rfl) (by kernel_rfl) (by kernel_rfl) hS94 ?_
  refine GP.run [7] [2, 3, 4, 6, 7, 9, 13, 16, 19, 20] [(2, pt p3 0), (3, pt p7 0), (4, pt p11 0), (6, pt p17 0), (7, .int .u64 (c77 : Int)), (9, .int .i64 3), (13, .int .i64 3), (16, .int .u64 (wd x 3 : Int)), (19, .int .u64 (wd y 3 : Int)), (20, .int .u64 (c77 : Int))] [0, 1, 2, 3, 4, 5, 6, 7] (by kernel_rfl) rfl hS94 ?_
  obtain ⟨s95, hs97⟩ : ∃ s : Nat, s = ((wd x 3) + K - (wd y 3) - c77) % K := ⟨_, rfl⟩
  obtain ⟨c96, hc98⟩ : ∃ s : Nat, s = if (wd x 3) < (wd y 3) + c77 then 1 else 0 := ⟨_, rfl⟩
  have s95l : s95 < K := by rw [hs97]; exact Nat.mod_lt _ (by decide)
  have c96l : c96 ≤ 1 := by rw [hc98]; exact borrow_le _ _ _
  refine GP.semN 8 (fun w_ H_ => sub64_run (c77l) hs97 hc98 _) [2, 3, 4, 6, 7, 9, 13, 21] [(2, pt p3 0), (3, pt p7 0), (4, pt p11 0), (6, pt p17 0), (7, .int .u64 (c77 : Int)), (9, .int .i64 3), (13, .int .i64 3), (21, .tuple #[.int .u64 (s95 : Int), .int .u64 (c96 : Int)])] (by kernel_rfl) (by kernel_rfl) (by kernel_rfl) hS94 ?_
  refine GP.run [9, 10, 11, 12] [2, 3, 4, 6, 7, 9, 22, 23, 24] [(2, pt p3 0), (3, pt p7 0), (4, pt p11 0), (6, pt p17 0), (7, .int .u64 (c77 : Int)), (9, .int .i64 3), (22, .int .u64 (s95 : Int)), (23, .int .u64 (c96 : Int)), (24, pt p17 3)] [0, 1, 2, 3, 4, 5, 6, 7, 8, 9, 10, 11, 12] (by kernel_rfl) rfl hS94 ?_
  obtain ⟨w99, r100, H101⟩ := H92.st (P := Try.prog) (o := 3) (ty := 22) (v := .int .u64 (s95 : Int)) 3 rfl (by kernel_rfl) (by simp) rfl
  have H101 : Hp w [] [.blk p3 [.int .u64 (wd x 0 : Int), .int .u64 (wd x 1 : Int), .int .u64 (wd x 2 : Int), .int .u64 (wd x 3 : Int)] 55, .blk p7 [.int .u64 (wd y 0 : Int), .int .u64 (wd y 1 : Int), .int .u64 (wd y 2 : Int), .int .u64 (wd y 3 : Int)] 55, .blk p11 [.int .u64 0, .int .u64 0, .int .u64 0, .int .u64 0] 55, .blk p17 [.int .u64 (s38 : Int), .int .u64 (s57 : Int), .int .u64 (s76 : Int), .int .u64 (s95 : Int)] 55] w99 := H101
  have hS102 : Hp w [] [.blk p3 [.int .u64 (wd x 0 : Int), .int .u64 (wd x 1 : Int), .int .u64 (wd x 2 : Int), .int .u64 (wd x 3 : Int)] 55, .blk p7 [.int .u64 (wd y 0 : Int), .int .u64 (wd y 1 : Int), .int .u64 (wd y 2 : Int), .int .u64 (wd y 3 : Int)] 55, .blk p11 [.int .u64 0, .int .u64 0, .int .u64 0, .int .u64 0] 55] w99 := H101.sub (List.Sublist.cons_cons _ (List.Sublist.cons_cons _ (List.Sublist.cons_cons _ (List.Sublist.cons _ (List.Sublist.slnil)))))
  refine GP.semU 13 r100 [2, 3, 4, 6, 7, 9, 23] [(2, pt p3 0), (3, pt p7 0), (4, pt p11 0), (6, pt p17 0), (7, .int .u64 (c77 : Int)), (9, .int .i64 3), (23, .int .u64 (c96 : Int))] (by kernel_rfl) rfl rfl (by kernel_rfl) hS102 ?_
  refine GP.run [14] [2, 3, 4, 6, 7, 9] [(2, pt p3 0), (3, pt p7 0), (4, pt p11 0), (6, pt p17 0), (7, .int .u64 (c96 : Int)), (9, .int .i64 3)] [0, 1, 2, 3, 4, 5, 6, 7, 8, 9, 10, 11, 12, 13, 14] (by kernel_rfl) rfl hS102 ?_
  refine GP.k (by kernel_rfl) hK89 (fun _ _ h => h) ?_
  refine G.region ?_
  refine GL.run (j := 2) 2 [2, 3, 4, 6, 7, 9] [(2, pt p3 0), (3, pt p7 0), (4, pt p11 0), (6, pt p17 0), (7, .int .u64 (c96 : Int)), (9, .int .i64 4)] (by kernel_rfl) rfl ?_
  refine GL.round rfl ?_
  refine G.seqK fun K103 hK104 => ?_
  refine G.region ?_
  refine GL.run (j := 1) 1 [2, 3, 4, 6, 7, 9, 10] [(2, pt p3 0), (3, pt p7 0), (4, pt p11 0), (6, pt p17 0), (7, .int .u64 (c96 : Int)), (9, .int .i64 4), (10, .bool false)] (by kernel_rfl) rfl ?_
  refine GL.k rfl hK104 (fun _ _ h => h) ?_
  refine G.seqK fun K105 hK106 => ?_
  refine G.no rfl ?_
  refine G.exitK hK24 (fun _ _ h => h) ?_
  refine G.seqK fun K107 hK108 => ?_
  refine G.region ?_
  refine GL.sem (j := 1) (H101.ldA (o := 0) (ty := 55) (m := 4) (sub := [.int .u64 (s38 : Int), .int .u64 (s57 : Int), .int .u64 (s76 : Int), .int .u64 (s95 : Int)]) 3 rfl (by kernel_rfl) rfl rfl) [4, 7, 26] [(4, pt p11 0), (7, .int .u64 (c96 : Int)), (26, .agg #[.int .u64 (s38 : Int), .int .u64 (s57 : Int), .int .u64 (s76 : Int), .int .u64 (s95 : Int)])] (by kernel_rfl) (by kernel_rfl) rfl ?_
  refine GL.run (j := 3) 2 [4, 26, 28] [(4, pt p11 0), (26, .agg #[.int .u64 (s38 : Int), .int .u64 (s57 : Int), .int .u64 (s76 : Int), .int .u64 (s95 : Int)]), (28, .bool ((c96 : Int) == 1))] (by kernel_rfl) rfl ?_
  obtain ⟨w109, r110, H111⟩ := H101.stA (P := Try.prog) (o := 0) (vs := [.int .u64 (s38 : Int), .int .u64 (s57 : Int), .int .u64 (s76 : Int), .int .u64 (s95 : Int)]) (ty := 55) (m := 4) 2 rfl (by kernel_rfl) rfl (by simp) (by simp [Value.oneCell'])
  have H111 : Hp w [] [.blk p3 [.int .u64 (wd x 0 : Int), .int .u64 (wd x 1 : Int), .int .u64 (wd x 2 : Int), .int .u64 (wd x 3 : Int)] 55, .blk p7 [.int .u64 (wd y 0 : Int), .int .u64 (wd y 1 : Int), .int .u64 (wd y 2 : Int), .int .u64 (wd y 3 : Int)] 55, .blk p11 [.int .u64 (s38 : Int), .int .u64 (s57 : Int), .int .u64 (s76 : Int), .int .u64 (s95 : Int)] 55, .blk p17 [.int .u64 (s38 : Int), .int .u64 (s57 : Int), .int .u64 (s76 : Int), .int .u64 (s95 : Int)] 55] w109 := H111
  refine GL.semU (j := 4) r110 [4, 28] [(4, pt p11 0), (28, .bool ((c96 : Int) == 1))] (by kernel_rfl) rfl rfl rfl ?_
  refine GL.run (j := 5) 1 [4, 5] [(4, pt p11 0), (5, .bool ((c96 : Int) == 1))] (by kernel_rfl) rfl ?_
  refine GL.k rfl hK108 (fun _ _ h => h) ?_
  refine G.ret ?_
  intro F_ hF_ hM_
  refine hRet _ _ (bodyPost_2 rfl (RV.cell rfl (H111.ldA (o := 0) (ty := 55) (m := 4) (sub := [.int .u64 (s38 : Int), .int .u64 (s57 : Int), .int .u64 (s76 : Int), .int .u64 (s95 : Int)]) 2 rfl (by kernel_rfl) rfl rfl)) (RV.tmp rfl) ?_ F_ hF_ hM_)
  obtain ⟨ha, hb⟩ := sub_fin hx hy hs40 hc41 hs59 hc60 hs78 hc79 hs97 hc98
  rw [ha, hb]
  exact ⟨rfl, H111.sub (List.nil_sublist _)⟩
theorem Mul64_calls (x y : Nat) (hx : x < K) (hy : y < K) (w : World) : Calls Try.prog 26 #[.int .u64 (x : Int), .int .u64 (y : Int)] w fun e w' => e = .returned (.tuple #[.int .u64 ((x * y / K : Nat) : Int), .int .u64 ((x * y % K : Nat) : Int)]) ∧ Hp w [] [] w' := by
  have H0 := Go.Lib.mul64_hi x y hx hy
  have hx0 : x < 18446744073709551616 := hx
  have hy0 : y < 18446744073709551616 := hy
  have hq : x * y / 18446744073709551616 ≤ 18446744073709551614 := mulhi_lt hx hy
  refine calls_G (args := [.int .u64 (x : Int), .int .u64 (y : Int)]) Try.func26 rfl Try.ntmps26 rfl ?_
  intro Q0 hRet hNor hPan
  have H := Hp.start w
  have H : Hp w [] [] w := H
  refine G.seqK fun K1 hK2 => ?_
  refine G.region ?_
  refine GL.run (j := 2) 2 [0, 1] [(0, .int .u64 (x : Int)), (1, .int .u64 (y : Int))] (by kernel_rfl) rfl ?_
  refine GL.k rfl hK2 (fun _ _ h => h) ?_
  refine G.seqK fun K3 hK4 => ?_
  refine G.region ?_
  refine GL.run (j := 3) 3 [0, 1, 6] [(0, .int .u64 (x : Int)), (1, .int .u64 (y : Int)), (6, .int .u64 (Go.bits .and .u64 (x : Int) 4294967295))] (by kernel_rfl) rfl ?_
  have e5 : (Go.bits .and .u64 (x : Int) 4294967295) = ((x % 4294967296 : Nat) : Int) := n_mask32 (by first | assumption | (simp only [K]; omega))
  refine GL.eq (M' := [(0, .int .u64 (x : Int)), (1, .int .u64 (y : Int)), (6, .int .u64 ((x % 4294967296 : Nat) : Int))]) (by rw [e5]) ?_
  clear e5
  refine GL.k rfl hK4 (fun _ _ h => h) ?_
  refine G.seqK fun K6 hK7 => ?_
  refine G.region ?_
  refine GL.run (j := 3) 3 [0, 1, 6, 7] [(0, .int .u64 (x : Int)), (1, .int .u64 (y : Int)), (6, .int .u64 ((x % 4294967296 : Nat) : Int)), (7, .int .u64 (Int.fdiv (x : Int) (2 ^ 32)))] (by kernel_rfl) rfl ?_
  have e8 : (Int.fdiv (x : Int) (2 ^ 32)) = ((x / 4294967296 : Nat) : Int) := n_shr _ 32
  refine GL.eq (M' := [(0, .int .u64 (x : Int)), (1, .int .u64 (y : Int)), (6, .int .u64 ((x % 4294967296 : Nat) : Int)), (7, .int .u64 ((x / 4294967296 : Nat) : Int))]) (by rw [e8]) ?_
  clear e8
  refine GL.k rfl hK7 (fun _ _ h => h) ?_
  refine G.seqK fun K9 hK10 => ?_
  refine G.region ?_
  refine GL.run (j := 3) 3 [0, 1, 6, 7, 8] [(0, .int .u64 (x : Int)), (1, .int .u64 (y : Int)), (6, .int .u64 ((x % 4294967296 : Nat) : Int)), (7, .int .u64 ((x / 4294967296 : Nat) : Int)), (8, .int .u64 (Go.bits .and .u64 (y : Int) 4294967295))] (by kernel_rfl) rfl ?_
  have e11 : (Go.bits .and .u64 (y : Int) 4294967295) = ((y % 4294967296 : Nat) : Int) := n_mask32 (by first | assumption | (simp only [K]; omega))
  refine GL.eq (M' := [(0, .int .u64 (x : Int)), (1, .int .u64 (y : Int)), (6, .int .u64 ((x % 4294967296 : Nat) : Int)), (7, .int .u64 ((x / 4294967296 : Nat) : Int)), (8, .int .u64 ((y % 4294967296 : Nat) : Int))]) (by rw [e11]) ?_
  clear e11
  refine GL.k rfl hK10 (fun _ _ h => h) ?_
  refine G.seqK fun K12 hK13 => ?_
  refine G.region ?_
  refine GL.run (j := 3) 3 [0, 1, 6, 7, 8, 9] [(0, .int .u64 (x : Int)), (1, .int .u64 (y : Int)), (6, .int .u64 ((x % 4294967296 : Nat) : Int)), (7, .int .u64 ((x / 4294967296 : Nat) : Int)), (8, .int .u64 ((y % 4294967296 : Nat) : Int)), (9, .int .u64 (Int.fdiv (y : Int) (2 ^ 32)))] (by kernel_rfl) rfl ?_
  have e14 : (Int.fdiv (y : Int) (2 ^ 32)) = ((y / 4294967296 : Nat) : Int) := n_shr _ 32
  refine GL.eq (M' := [(0, .int .u64 (x : Int)), (1, .int .u64 (y : Int)), (6, .int .u64 ((x % 4294967296 : Nat) : Int)), (7, .int .u64 ((x / 4294967296 : Nat) : Int)), (8, .int .u64 ((y % 4294967296 : Nat) : Int)), (9, .int .u64 ((y / 4294967296 : Nat) : Int))]) (by rw [e14]) ?_
  clear e14
  refine GL.k rfl hK13 (fun _ _ h => h) ?_
  refine G.seqK fun K15 hK16 => ?_
  refine G.region ?_
  refine GL.run (j := 4) 4 [0, 1, 6, 7, 8, 9, 10] [(0, .int .u64 (x : Int)), (1, .int .u64 (y : Int)), (6, .int .u64 ((x % 4294967296 : Nat) : Int)), (7, .int .u64 ((x / 4294967296 : Nat) : Int)), (8, .int .u64 ((y % 4294967296 : Nat) : Int)), (9, .int .u64 ((y / 4294967296 : Nat) : Int)), (10, .int .u64 (IntKind.u64.wrap (((x % 4294967296 : Nat) : Int) * ((y % 4294967296 : Nat) : Int))))] (by kernel_rfl) rfl ?_
  have e17 : (IntKind.u64.wrap (((x % 4294967296 : Nat) : Int) * ((y % 4294967296 : Nat) : Int))) = (((x % 4294967296) * (y % 4294967296) : Nat) : Int) := n_mul' (half_lt (by omega) (by omega))
  refine GL.eq (M' := [(0, .int .u64 (x : Int)), (1, .int .u64 (y : Int)), (6, .int .u64 ((x % 4294967296 : Nat) : Int)), (7, .int .u64 ((x / 4294967296 : Nat) : Int)), (8, .int .u64 ((y % 4294967296 : Nat) : Int)), (9, .int .u64 ((y / 4294967296 : Nat) : Int)), (10, .int .u64 (((x % 4294967296) * (y % 4294967296) : Nat) : Int))]) (by rw [e17]) ?_
  clear e17
  refine GL.k rfl hK16 (fun _ _ h => h) ?_
  refine G.seqK fun K18 hK19 => ?_
  refine G.region ?_
  refine GL.run (j := 7) 7 [0, 1, 6, 7, 9, 11] [(0, .int .u64 (x : Int)), (1, .int .u64 (y : Int)), (6, .int .u64 ((x % 4294967296 : Nat) : Int)), (7, .int .u64 ((x / 4294967296 : Nat) : Int)), (9, .int .u64 ((y / 4294967296 : Nat) : Int)), (11, .int .u64 (IntKind.u64.wrap ((IntKind.u64.wrap (((x / 4294967296 : Nat) : Int) * ((y % 4294967296 : Nat) : Int))) + (Int.fdiv (((x % 4294967296) * (y % 4294967296) : Nat) : Int) (2 ^ 32)))))] (by kernel_rfl) rfl ?_
  have e20 : (IntKind.u64.wrap (((x / 4294967296 : Nat) : Int) * ((y % 4294967296 : Nat) : Int))) = (((x / 4294967296) * (y % 4294967296) : Nat) : Int) := n_mul' (half_lt (by omega) (by omega))
  have e21 : (Int.fdiv (((x % 4294967296) * (y % 4294967296) : Nat) : Int) (2 ^ 32)) = ((((x % 4294967296) * (y % 4294967296)) / 4294967296 : Nat) : Int) := n_shr _ 32
  have e22 : (IntKind.u64.wrap ((((x / 4294967296) * (y % 4294967296) : Nat) : Int) + ((((x % 4294967296) * (y % 4294967296)) / 4294967296 : Nat) : Int))) = ((((x / 4294967296) * (y % 4294967296)) + (((x % 4294967296) * (y % 4294967296)) / 4294967296) : Nat) : Int) := n_add' (by simp only [K]; omega)
  refine GL.eq (M' := [(0, .int .u64 (x : Int)), (1, .int .u64 (y : Int)), (6, .int .u64 ((x % 4294967296 : Nat) : Int)), (7, .int .u64 ((x / 4294967296 : Nat) : Int)), (9, .int .u64 ((y / 4294967296 : Nat) : Int)), (11, .int .u64 ((((x / 4294967296) * (y % 4294967296)) + (((x % 4294967296) * (y % 4294967296)) / 4294967296) : Nat) : Int))]) (by rw [e20, e21, e22]) ?_
  clear e20 e21 e22
  refine GL.k rfl hK19 (fun _ _ h => h) ?_
  refine G.seqK fun K23 hK24 => ?_
  refine G.region ?_
  refine GL.run (j := 3) 3 [0, 1, 6, 7, 9, 11, 12] [(0, .int .u64 (x : Int)), (1, .int .u64 (y : Int)), (6, .int .u64 ((x % 4294967296 : Nat) : Int)), (7, .int .u64 ((x / 4294967296 : Nat) : Int)), (9, .int .u64 ((y / 4294967296 : Nat) : Int)), (11, .int .u64 ((((x / 4294967296) * (y % 4294967296)) + (((x % 4294967296) * (y % 4294967296)) / 4294967296) : Nat) : Int)), (12, .int .u64 (Go.bits .and .u64 ((((x / 4294967296) * (y % 4294967296)) + (((x % 4294967296) * (y % 4294967296)) / 4294967296) : Nat) : Int) 4294967295))] (by kernel_rfl) rfl ?_
  have e25 : (Go.bits .and .u64 ((((x / 4294967296) * (y % 4294967296)) + (((x % 4294967296) * (y % 4294967296)) / 4294967296) : Nat) : Int) 4294967295) = (((((x / 4294967296) * (y % 4294967296)) + (((x % 4294967296) * (y % 4294967296)) / 4294967296)) % 4294967296 : Nat) : Int) := n_mask32 (by first | assumption | (simp only [K]; omega))
  refine GL.eq (M' := [(0, .int .u64 (x : Int)), (1, .int .u64 (y : Int)), (6, .int .u64 ((x % 4294967296 : Nat) : Int)), (7, .int .u64 ((x / 4294967296 : Nat) : Int)), (9, .int .u64 ((y / 4294967296 : Nat) : Int)), (11, .int .u64 ((((x / 4294967296) * (y % 4294967296)) + (((x % 4294967296) * (y % 4294967296)) / 4294967296) : Nat) : Int)), (12, .int .u64 (((((x / 4294967296) * (y % 4294967296)) + (((x % 4294967296) * (y % 4294967296)) / 4294967296)) % 4294967296 : Nat) : Int))]) (by rw [e25]) ?_
  clear e25
  refine GL.k rfl hK24 (fun _ _ h => h) ?_
  refine G.seqK fun K26 hK27 => ?_
  refine G.region ?_
  refine GL.run (j := 3) 3 [0, 1, 6, 7, 9, 12, 13] [(0, .int .u64 (x : Int)), (1, .int .u64 (y : Int)), (6, .int .u64 ((x % 4294967296 : Nat) : Int)), (7, .int .u64 ((x / 4294967296 : Nat) : Int)), (9, .int .u64 ((y / 4294967296 : Nat) : Int)), (12, .int .u64 (((((x / 4294967296) * (y % 4294967296)) + (((x % 4294967296) * (y % 4294967296)) / 4294967296)) % 4294967296 : Nat) : Int)), (13, .int .u64 (Int.fdiv ((((x / 4294967296) * (y % 4294967296)) + (((x % 4294967296) * (y % 4294967296)) / 4294967296) : Nat) : Int) (2 ^ 32)))] (by kernel_rfl) rfl ?_
  have e28 : (Int.fdiv ((((x / 4294967296) * (y % 4294967296)) + (((x % 4294967296) * (y % 4294967296)) / 4294967296) : Nat) : Int) (2 ^ 32)) = (((((x / 4294967296) * (y % 4294967296)) + (((x % 4294967296) * (y % 4294967296)) / 4294967296)) / 4294967296 : Nat) : Int) := n_shr _ 32
  refine GL.eq (M' := [(0, .int .u64 (x : Int)), (1, .int .u64 (y : Int)), (6, .int .u64 ((x % 4294967296 : Nat) : Int)), (7, .int .u64 ((x / 4294967296 : Nat) : Int)), (9, .int .u64 ((y / 4294967296 : Nat) : Int)), (12, .int .u64 (((((x / 4294967296) * (y % 4294967296)) + (((x % 4294967296) * (y % 4294967296)) / 4294967296)) % 4294967296 : Nat) : Int)), (13, .int .u64 (((((x / 4294967296) * (y % 4294967296)) + (((x % 4294967296) * (y % 4294967296)) / 4294967296)) / 4294967296 : Nat) : Int))]) (by rw [e28]) ?_
  clear e28
  refine GL.k rfl hK27 (fun _ _ h => h) ?_
  refine G.seqK fun K29 hK30 => ?_
  refine G.region ?_
  refine GL.run (j := 6) 6 [0, 1, 7, 9, 12, 13] [(0, .int .u64 (x : Int)), (1, .int .u64 (y : Int)), (7, .int .u64 ((x / 4294967296 : Nat) : Int)), (9, .int .u64 ((y / 4294967296 : Nat) : Int)), (12, .int .u64 (IntKind.u64.wrap ((((((x / 4294967296) * (y % 4294967296)) + (((x % 4294967296) * (y % 4294967296)) / 4294967296)) % 4294967296 : Nat) : Int) + (IntKind.u64.wrap (((x % 4294967296 : Nat) : Int) * ((y / 4294967296 : Nat) : Int)))))), (13, .int .u64 (((((x / 4294967296) * (y % 4294967296)) + (((x % 4294967296) * (y % 4294967296)) / 4294967296)) / 4294967296 : Nat) : Int))] (by kernel_rfl) rfl ?_
  have e31 : (IntKind.u64.wrap (((x % 4294967296 : Nat) : Int) * ((y / 4294967296 : Nat) : Int))) = (((x % 4294967296) * (y / 4294967296) : Nat) : Int) := n_mul' (half_lt (by omega) (by omega))
  have e32 : (IntKind.u64.wrap ((((((x / 4294967296) * (y % 4294967296)) + (((x % 4294967296) * (y % 4294967296)) / 4294967296)) % 4294967296 : Nat) : Int) + (((x % 4294967296) * (y / 4294967296) : Nat) : Int))) = ((((((x / 4294967296) * (y % 4294967296)) + (((x % 4294967296) * (y % 4294967296)) / 4294967296)) % 4294967296) + ((x % 4294967296) * (y / 4294967296)) : Nat) : Int) := n_add' (by simp only [K]; omega)
  refine GL.eq (M' := [(0, .int .u64 (x : Int)), (1, .int .u64 (y : Int)), (7, .int .u64 ((x / 4294967296 : Nat) : Int)), (9, .int .u64 ((y / 4294967296 : Nat) : Int)), (12, .int .u64 ((((((x / 4294967296) * (y % 4294967296)) + (((x % 4294967296) * (y % 4294967296)) / 4294967296)) % 4294967296) + ((x % 4294967296) * (y / 4294967296)) : Nat) : Int)), (13, .int .u64 (((((x / 4294967296) * (y % 4294967296)) + (((x % 4294967296) * (y % 4294967296)) / 4294967296)) / 4294967296 : Nat) : Int))]) (by rw [e31, e32]) ?_
  clear e31 e32
  refine GL.k rfl hK30 (fun _ _ h => h) ?_
  refine G.seqK fun K33 hK34 => ?_
  refine G.region ?_
  refine GL.run (j := 9) 9 [0, 1, 4] [(0, .int .u64 (x : Int)), (1, .int .u64 (y : Int)), (4, .int .u64 (IntKind.u64.wrap ((IntKind.u64.wrap ((IntKind.u64.wrap (((x / 4294967296 : Nat) : Int) * ((y / 4294967296 : Nat) : Int))) + (((((x / 4294967296) * (y % 4294967296)) + (((x % 4294967296) * (y % 4294967296)) / 4294967296)) / 4294967296 : Nat) : Int))) + (Int.fdiv ((((((x / 4294967296) * (y % 4294967296)) + (((x % 4294967296) * (y % 4294967296)) / 4294967296)) % 4294967296) + ((x % 4294967296) * (y / 4294967296)) : Nat) : Int) (2 ^ 32)))))] (by kernel_rfl) rfl ?_
  have e35 : (IntKind.u64.wrap (((x / 4294967296 : Nat) : Int) * ((y / 4294967296 : Nat) : Int))) = (((x / 4294967296) * (y / 4294967296) : Nat) : Int) := n_mul' (half_lt (by omega) (by omega))
  have e36 : (IntKind.u64.wrap ((((x / 4294967296) * (y / 4294967296) : Nat) : Int) + (((((x / 4294967296) * (y % 4294967296)) + (((x % 4294967296) * (y % 4294967296)) / 4294967296)) / 4294967296 : Nat) : Int))) = ((((x / 4294967296) * (y / 4294967296)) + ((((x / 4294967296) * (y % 4294967296)) + (((x % 4294967296) * (y % 4294967296)) / 4294967296)) / 4294967296) : Nat) : Int) := n_add' (by simp only [K]; omega)
  have e37 : (Int.fdiv ((((((x / 4294967296) * (y % 4294967296)) + (((x % 4294967296) * (y % 4294967296)) / 4294967296)) % 4294967296) + ((x % 4294967296) * (y / 4294967296)) : Nat) : Int) (2 ^ 32)) = (((((((x / 4294967296) * (y % 4294967296)) + (((x % 4294967296) * (y % 4294967296)) / 4294967296)) % 4294967296) + ((x % 4294967296) * (y / 4294967296))) / 4294967296 : Nat) : Int) := n_shr _ 32
  have e38 : (IntKind.u64.wrap (((((x / 4294967296) * (y / 4294967296)) + ((((x / 4294967296) * (y % 4294967296)) + (((x % 4294967296) * (y % 4294967296)) / 4294967296)) / 4294967296) : Nat) : Int) + (((((((x / 4294967296) * (y % 4294967296)) + (((x % 4294967296) * (y % 4294967296)) / 4294967296)) % 4294967296) + ((x % 4294967296) * (y / 4294967296))) / 4294967296 : Nat) : Int))) = (((((x / 4294967296) * (y / 4294967296)) + ((((x / 4294967296) * (y % 4294967296)) + (((x % 4294967296) * (y % 4294967296)) / 4294967296)) / 4294967296)) + ((((((x / 4294967296) * (y % 4294967296)) + (((x % 4294967296) * (y % 4294967296)) / 4294967296)) % 4294967296) + ((x % 4294967296) * (y / 4294967296))) / 4294967296) : Nat) : Int) := n_add' (by simp only [K]; omega)
  refine GL.eq (M' := [(0, .int .u64 (x : Int)), (1, .int .u64 (y : Int)), (4, .int .u64 (((((x / 4294967296) * (y / 4294967296)) + ((((x / 4294967296) * (y % 4294967296)) + (((x % 4294967296) * (y % 4294967296)) / 4294967296)) / 4294967296)) + ((((((x / 4294967296) * (y % 4294967296)) + (((x % 4294967296) * (y % 4294967296)) / 4294967296)) % 4294967296) + ((x % 4294967296) * (y / 4294967296))) / 4294967296) : Nat) : Int))]) (by rw [e35, e36, e37, e38]) ?_
  clear e35 e36 e37 e38
  refine GL.k rfl hK34 (fun _ _ h => h) ?_
  refine G.seqK fun K39 hK40 => ?_
  refine G.region ?_
  refine GL.run (j := 4) 4 [4, 5] [(4, .int .u64 (((((x / 4294967296) * (y / 4294967296)) + ((((x / 4294967296) * (y % 4294967296)) + (((x % 4294967296) * (y % 4294967296)) / 4294967296)) / 4294967296)) + ((((((x / 4294967296) * (y % 4294967296)) + (((x % 4294967296) * (y % 4294967296)) / 4294967296)) % 4294967296) + ((x % 4294967296) * (y / 4294967296))) / 4294967296) : Nat) : Int)), (5, .int .u64 (IntKind.u64.wrap ((x : Int) * (y : Int))))] (by kernel_rfl) rfl ?_
  have e41 : (IntKind.u64.wrap ((x : Int) * (y : Int))) = ((x * y % K : Nat) : Int) := n_mul _ _
  refine GL.eq (M' := [(4, .int .u64 (((((x / 4294967296) * (y / 4294967296)) + ((((x / 4294967296) * (y % 4294967296)) + (((x % 4294967296) * (y % 4294967296)) / 4294967296)) / 4294967296)) + ((((((x / 4294967296) * (y % 4294967296)) + (((x % 4294967296) * (y % 4294967296)) / 4294967296)) % 4294967296) + ((x % 4294967296) * (y / 4294967296))) / 4294967296) : Nat) : Int)), (5, .int .u64 ((x * y % K : Nat) : Int))]) (by rw [e41]) ?_
  clear e41
  refine GL.k rfl hK40 (fun _ _ h => h) ?_
  refine G.ret ?_
  intro F_ hF_ hM_
  refine hRet _ _ (bodyPost_2 rfl (RV.tmp rfl) (RV.tmp rfl) ?_ F_ hF_ hM_)
  rw [H0.2.2.2]
  exact ⟨rfl, H.sub (List.nil_sublist _)⟩
theorem Product_calls (x y : Nat) (hx : x < K) (hy : y < K) (w : World) : Calls Try.prog 18 #[.int .u64 (x : Int), .int .u64 (y : Int)] w fun e w' => e = .returned (wv (x * y)) ∧ Hp w [] [] w' := by
  refine calls_G (args := [.int .u64 (x : Int), .int .u64 (y : Int)]) Try.func18 rfl Try.ntmps18 rfl ?_
  intro Q0 hRet hNor hPan
  have H := Hp.start w
  have H : Hp w [] [] w := H
  refine G.seqK fun K1 hK2 => ?_
  refine G.region ?_
  obtain ⟨p3, w4, r5, H6⟩ := H.alloc (P := Try.prog) 55 [.int .u64 0, .int .u64 0, .int .u64 0, .int .u64 0] (by kernel_rfl)
  have H6 : Hp w [] [.blk p3 [.int .u64 0, .int .u64 0, .int .u64 0, .int .u64 0] 55] w4 := H6
  refine GL.sem (j := 1) (r5) [0, 1, 4] [(0, .int .u64 (x : Int)), (1, .int .u64 (y : Int)), (4, pt p3 0)] (by kernel_rfl) (by kernel_rfl) rfl ?_
  refine GL.k rfl hK2 (fun _ _ h => h) ?_
  refine G.seqK fun K7 hK8 => ?_
  refine G.region ?_
  refine GL.run (j := 2) 2 [4, 8, 9] [(4, pt p3 0), (8, .int .u64 (x : Int)), (9, .int .u64 (y : Int))] (by kernel_rfl) rfl ?_
  refine GL.call (j := 3) (Mul64_calls x y (hx) (hy) w4) (by kernel_rfl) rfl (fun e_ w9 hR => ?_)
  obtain ⟨rfl, H11⟩ := hR
  have H10 : Hp w [] [.blk p3 [.int .u64 0, .int .u64 0, .int .u64 0, .int .u64 0] 55] w9 := H6.callNil H11
  refine ⟨_, rfl, [4, 10], [(4, pt p3 0), (10, .tuple #[.int .u64 ((x * y / K : Nat) : Int), .int .u64 ((x * y % K : Nat) : Int)])], by kernel_rfl, ?_⟩
  refine GL.run (j := 8) 5 [4, 5, 6] [(4, pt p3 0), (5, .int .u64 ((x * y / K : Nat) : Int)), (6, .int .u64 ((x * y % K : Nat) : Int))] (by kernel_rfl) rfl ?_
  refine GL.k rfl hK8 (fun _ _ h => h) ?_
  refine G.seqK fun K12 hK13 => ?_
  refine G.region ?_
  refine GL.run (j := 3) 3 [4, 15] [(4, pt p3 0), (15, .agg #[.int .u64 ((x * y % K : Nat) : Int), .int .u64 ((x * y / K : Nat) : Int), .int .u64 0, .int .u64 0])] (by kernel_rfl) rfl ?_
  obtain ⟨w14, r15, H16⟩ := H10.stA (P := Try.prog) (o := 0) (vs := [.int .u64 ((x * y % K : Nat) : Int), .int .u64 ((x * y / K : Nat) : Int), .int .u64 0, .int .u64 0]) (ty := 55) (m := 4) 0 rfl (by kernel_rfl) rfl (by simp) (by simp [Value.oneCell'])
  have H16 : Hp w [] [.blk p3 [.int .u64 ((x * y % K : Nat) : Int), .int .u64 ((x * y / K : Nat) : Int), .int .u64 0, .int .u64 0] 55] w14 := H16
  refine GL.semU (j := 4) r15 [4] [(4, pt p3 0)] (by kernel_rfl) rfl rfl rfl ?_
  refine GL.k rfl hK13 (fun _ _ h => h) ?_
  refine G.ret ?_
  intro F_ hF_ hM_
  refine hRet _ _ (bodyPost_1 rfl (RV.cell rfl (H16.ldA (o := 0) (ty := 55) (m := 4) (sub := [.int .u64 ((x * y % K : Nat) : Int), .int .u64 ((x * y / K : Nat) : Int), .int .u64 0, .int .u64 0]) 0 rfl (by kernel_rfl) rfl rfl)) ?_ F_ hF_ hM_)
  rw [← prod_fin hx hy]
  exact ⟨rfl, H16.sub (List.nil_sublist _)⟩
theorem Cmp_calls (x y : Nat) (hx : x < K4) (hy : y < K4) (w : World) : Calls Try.prog 29 #[wv x, wv y] w fun e w' => e = .returned (.int .i64 (cmpN x y)) ∧ Hp w [] [] w' := by
  refine calls_G (args := [wv x, wv y]) Try.func29 rfl Try.ntmps29 rfl ?_
  intro Q0 hRet hNor hPan
  have H := Hp.start w
  have H : Hp w [] [] w := H
  refine G.seqK fun K1 hK2 => ?_
  refine G.region ?_
  obtain ⟨p3, w4, r5, H6⟩ := H.box (P := Try.prog) 55 [.int .u64 (wd x 0 : Int), .int .u64 (wd x 1 : Int), .int .u64 (wd x 2 : Int), .int .u64 (wd x 3 : Int)] (wv x) rfl
  have H6 : Hp w [] [.blk p3 [.int .u64 (wd x 0 : Int), .int .u64 (wd x 1 : Int), .int .u64 (wd x 2 : Int), .int .u64 (wd x 3 : Int)] 55] w4 := H6
  refine GL.sem (j := 1) (r5) [1, 2] [(1, wv y), (2, pt p3 0)] (by kernel_rfl) (by kernel_rfl) rfl ?_
  obtain ⟨p7, w8, r9, H10⟩ := H6.box (P := Try.prog) 55 [.int .u64 (wd y 0 : Int), .int .u64 (wd y 1 : Int), .int .u64 (wd y 2 : Int), .int .u64 (wd y 3 : Int)] (wv y) rfl
  have H10 : Hp w [] [.blk p3 [.int .u64 (wd x 0 : Int), .int .u64 (wd x 1 : Int), .int .u64 (wd x 2 : Int), .int .u64 (wd x 3 : Int)] 55, .blk p7 [.int .u64 (wd y 0 : Int), .int .u64 (wd y 1 : Int), .int .u64 (wd y 2 : Int), .int .u64 (wd y 3 : Int)] 55] w8 := H10
  refine GL.sem (j := 2) (r9) [2, 3] [(2, pt p3 0), (3, pt p7 0)] (by kernel_rfl) (by kernel_rfl) rfl ?_
  refine GL.run (j := 3) 1 [2, 3] [(2, pt p3 0), (3, pt p7 0)] (by kernel_rfl) rfl ?_
  refine GL.k rfl hK2 (fun _ _ h => h) ?_
  refine G.seqK fun K11 hK12 => ?_
  refine G.seqK fun K13 hK14 => ?_
  refine G.region ?_
  refine GL.run (j := 1) 1 [2, 3, 5] [(2, pt p3 0), (3, pt p7 0), (5, .int .i64 3)] (by kernel_rfl) rfl ?_
  refine GL.k rfl hK14 (fun _ _ h => h) ?_
  refine G.block ?_
  refine G.unroll 5 ?_
  refine G.seqK fun K15 hK16 => ?_
  refine G.seqK fun K17 hK18 => ?_
  refine G.region ?_
  refine GL.run (j := 2) 2 [2, 3, 5, 7] [(2, pt p3 0), (3, pt p7 0), (5, .int .i64 3), (7, .bool true)] (by kernel_rfl) rfl ?_
  refine GL.k rfl hK18 (fun _ _ h => h) ?_
  refine G.yes rfl ?_
  refine G.skipK hK16 (fun _ _ h => h) ?_
  refine G.seqK fun K19 hK20 => ?_
  refine G.block ?_
  refine G.block ?_
  refine G.seqK fun K21 hK22 => ?_
  refine G.draw H10 (by kernel_rfl) (by kernel_rfl) ?_
  refine GQ.run (j := 2) 2 [2, 3, 5, 12] [(2, pt p3 0), (3, pt p7 0), (5, .int .i64 3), (12, pt p3 3)] (by kernel_rfl) rfl ?_
  refine GQ.sem (j := 3) (fun w_ H_ => H_.ld (o := 3) (ty := 22) (v := .int .u64 (wd x 3 : Int)) 0 rfl (by kernel_rfl) rfl) [2, 3, 5, 13] [(2, pt p3 0), (3, pt p7 0), (5, .int .i64 3), (13, .int .u64 (wd x 3 : Int))] (by kernel_rfl) (by kernel_rfl) rfl ?_
  refine GQ.run (j := 5) 2 [2, 3, 5, 13, 15] [(2, pt p3 0), (3, pt p7 0), (5, .int .i64 3), (13, .int .u64 (wd x 3 : Int)), (15, pt p7 3)] (by kernel_rfl) rfl ?_
  refine GQ.sem (j := 6) (fun w_ H_ => H_.ld (o := 3) (ty := 22) (v := .int .u64 (wd y 3 : Int)) 1 rfl (by kernel_rfl) rfl) [2, 3, 5, 13, 16] [(2, pt p3 0), (3, pt p7 0), (5, .int .i64 3), (13, .int .u64 (wd x 3 : Int)), (16, .int .u64 (wd y 3 : Int))] (by kernel_rfl) (by kernel_rfl) rfl ?_
  refine GQ.run (j := 8) 2 [2, 3, 5, 10] [(2, pt p3 0), (3, pt p7 0), (5, .int .i64 3), (10, .bool (decide ((wd x 3 : Int) < (wd y 3 : Int))))] (by kernel_rfl) rfl ?_
  refine GQ.k rfl hK22 (fun _ _ h => h) (fun w23 H24 => ?_)
  cases hb25 : (decide ((wd x 3 : Int) < (wd y 3 : Int)))
  · skip
    have hb25f := of_decide_eq_false hb25
    refine G.no rfl ?_
    refine G.seqK fun K26 hK27 => ?_
    refine G.draw H24 (by kernel_rfl) (by kernel_rfl) ?_
    refine GQ.run (j := 2) 2 [2, 3, 5, 20] [(2, pt p3 0), (3, pt p7 0), (5, .int .i64 3), (20, pt p3 3)] (by kernel_rfl) rfl ?_
    refine GQ.sem (j := 3) (fun w_ H_ => H_.ld (o := 3) (ty := 22) (v := .int .u64 (wd x 3 : Int)) 0 rfl (by kernel_rfl) rfl) [2, 3, 5, 21] [(2, pt p3 0), (3, pt p7 0), (5, .int .i64 3), (21, .int .u64 (wd x 3 : Int))] (by kernel_rfl) (by kernel_rfl) rfl ?_
    refine GQ.run (j := 5) 2 [2, 3, 5, 21, 23] [(2, pt p3 0), (3, pt p7 0), (5, .int .i64 3), (21, .int .u64 (wd x 3 : Int)), (23, pt p7 3)] (by kernel_rfl) rfl ?_
    refine GQ.sem (j := 6) (fun w_ H_ => H_.ld (o := 3) (ty := 22) (v := .int .u64 (wd y 3 : Int)) 1 rfl (by kernel_rfl) rfl) [2, 3, 5, 21, 24] [(2, pt p3 0), (3, pt p7 0), (5, .int .i64 3), (21, .int .u64 (wd x 3 : Int)), (24, .int .u64 (wd y 3 : Int))] (by kernel_rfl) (by kernel_rfl) rfl ?_
    refine GQ.run (j := 8) 2 [2, 3, 5, 18] [(2, pt p3 0), (3, pt p7 0), (5, .int .i64 3), (18, .bool (decide ((wd y 3 : Int) < (wd x 3 : Int))))] (by kernel_rfl) rfl ?_
    refine GQ.k rfl hK27 (fun _ _ h => h) (fun w28 H29 => ?_)
    cases hb30 : (decide ((wd y 3 : Int) < (wd x 3 : Int)))
    · skip
      have hb30f := of_decide_eq_false hb30
      refine G.no rfl ?_
      refine G.skipK hK20 (fun _ _ h => h) ?_
      refine G.region ?_
      refine GL.run (j := 3) 3 [2, 3, 5] [(2, pt p3 0), (3, pt p7 0), (5, .int .i64 2)] (by kernel_rfl) rfl ?_
      refine GL.round rfl ?_
      refine G.seqK fun K31 hK32 => ?_
      refine G.seqK fun K33 hK34 => ?_
      refine G.region ?_
      refine GL.run (j := 2) 2 [2, 3, 5, 7] [(2, pt p3 0), (3, pt p7 0), (5, .int .i64 2), (7, .bool true)] (by kernel_rfl) rfl ?_
      refine GL.k rfl hK34 (fun _ _ h => h) ?_
      refine G.yes rfl ?_
      refine G.skipK hK32 (fun _ _ h => h) ?_
      refine G.seqK fun K35 hK36 => ?_
      refine G.block ?_
      refine G.block ?_
      refine G.seqK fun K37 hK38 => ?_
      refine G.draw H29 (by kernel_rfl) (by kernel_rfl) ?_
      refine GQ.run (j := 2) 2 [2, 3, 5, 12] [(2, pt p3 0), (3, pt p7 0), (5, .int .i64 2), (12, pt p3 2)] (by kernel_rfl) rfl ?_
      refine GQ.sem (j := 3) (fun w_ H_ => H_.ld (o := 2) (ty := 22) (v := .int .u64 (wd x 2 : Int)) 0 rfl (by kernel_rfl) rfl) [2, 3, 5, 13] [(2, pt p3 0), (3, pt p7 0), (5, .int .i64 2), (13, .int .u64 (wd x 2 : Int))] (by kernel_rfl) (by kernel_rfl) rfl ?_
      refine GQ.run (j := 5) 2 [2, 3, 5, 13, 15] [(2, pt p3 0), (3, pt p7 0), (5, .int .i64 2), (13, .int .u64 (wd x 2 : Int)), (15, pt p7 2)] (by kernel_rfl) rfl ?_
      refine GQ.sem (j := 6) (fun w_ H_ => H_.ld (o := 2) (ty := 22) (v := .int .u64 (wd y 2 : Int)) 1 rfl (by kernel_rfl) rfl) [2, 3, 5, 13, 16] [(2, pt p3 0), (3, pt p7 0), (5, .int .i64 2), (13, .int .u64 (wd x 2 : Int)), (16, .int .u64 (wd y 2 : Int))] (by kernel_rfl) (by kernel_rfl) rfl ?_
      refine GQ.run (j := 8) 2 [2, 3, 5, 10] [(2, pt p3 0), (3, pt p7 0), (5, .int .i64 2), (10, .bool (decide ((wd x 2 : Int) < (wd y 2 : Int))))] (by kernel_rfl) rfl ?_
      refine GQ.k rfl hK38 (fun _ _ h => h) (fun w39 H40 => ?_)
      cases hb41 : (decide ((wd x 2 : Int) < (wd y 2 : Int)))
      · skip
        have hb41f := of_decide_eq_false hb41
        refine G.no rfl ?_
        refine G.seqK fun K42 hK43 => ?_
        refine G.draw H40 (by kernel_rfl) (by kernel_rfl) ?_
        refine GQ.run (j := 2) 2 [2, 3, 5, 20] [(2, pt p3 0), (3, pt p7 0), (5, .int .i64 2), (20, pt p3 2)] (by kernel_rfl) rfl ?_
        refine GQ.sem (j := 3) (fun w_ H_ => H_.ld (o := 2) (ty := 22) (v := .int .u64 (wd x 2 : Int)) 0 rfl (by kernel_rfl) rfl) [2, 3, 5, 21] [(2, pt p3 0), (3, pt p7 0), (5, .int .i64 2), (21, .int .u64 (wd x 2 : Int))] (by kernel_rfl) (by kernel_rfl) rfl ?_
        refine GQ.run (j := 5) 2 [2, 3, 5, 21, 23] [(2, pt p3 0), (3, pt p7 0), (5, .int .i64 2), (21, .int .u64 (wd x 2 : Int)), (23, pt p7 2)] (by kernel_rfl) rfl ?_
        refine GQ.sem (j := 6) (fun w_ H_ => H_.ld (o := 2) (ty := 22) (v := .int .u64 (wd y 2 : Int)) 1 rfl (by kernel_rfl) rfl) [2, 3, 5, 21, 24] [(2, pt p3 0), (3, pt p7 0), (5, .int .i64 2), (21, .int .u64 (wd x 2 : Int)), (24, .int .u64 (wd y 2 : Int))] (by kernel_rfl) (by kernel_rfl) rfl ?_
        refine GQ.run (j := 8) 2 [2, 3, 5, 18] [(2, pt p3 0), (3, pt p7 0), (5, .int .i64 2), (18, .bool (decide ((wd y 2 : Int) < (wd x 2 : Int))))] (by kernel_rfl) rfl ?_
        refine GQ.k rfl hK43 (fun _ _ h => h) (fun w44 H45 => ?_)
        cases hb46 : (decide ((wd y 2 : Int) < (wd x 2 : Int)))
        · skip
          have hb46f := of_decide_eq_false hb46
          refine G.no rfl ?_
          refine G.skipK hK36 (fun _ _ h => h) ?_
          refine G.region ?_
          refine GL.run (j := 3) 3 [2, 3, 5] [(2, pt p3 0), (3, pt p7 0), (5, .int .i64 1)] (by kernel_rfl) rfl ?_
          refine GL.round rfl ?_
          refine G.seqK fun K47 hK48 => ?_
          refine G.seqK fun K49 hK50 => ?_
          refine G.region ?_
          refine GL.run (j := 2) 2 [2, 3, 5, 7] [(2, pt p3 0), (3, pt p7 0), (5, .int .i64 1), (7, .bool true)] (by kernel_rfl) rfl ?_
          refine GL.k rfl hK50 (fun _ _ h => h) ?_
          refine G.yes rfl ?_
          refine G.skipK hK48 (fun _ _ h => h) ?_
          refine G.seqK fun K51 hK52 => ?_
          refine G.block ?_
          refine G.block ?_
          refine G.seqK fun K53 hK54 => ?_
          refine G.draw H45 (by kernel_rfl) (by kernel_rfl) ?_
          refine GQ.run (j := 2) 2 [2, 3, 5, 12] [(2, pt p3 0), (3, pt p7 0), (5, .int .i64 1), (12, pt p3 1)] (by kernel_rfl) rfl ?_
          refine GQ.sem (j := 3) (fun w_ H_ => H_.ld (o := 1) (ty := 22) (v := .int .u64 (wd x 1 : Int)) 0 rfl (by kernel_rfl) rfl) [2, 3, 5, 13] [(2, pt p3 0), (3, pt p7 0), (5, .int .i64 1), (13, .int .u64 (wd x 1 : Int))] (by kernel_rfl) (by kernel_rfl) rfl ?_
          refine GQ.run (j := 5) 2 [2, 3, 5, 13, 15] [(2, pt p3 0), (3, pt p7 0), (5, .int .i64 1), (13, .int .u64 (wd x 1 : Int)), (15, pt p7 1)] (by kernel_rfl) rfl ?_
          refine GQ.sem (j := 6) (fun w_ H_ => H_.ld (o := 1) (ty := 22) (v := .int .u64 (wd y 1 : Int)) 1 rfl (by kernel_rfl) rfl) [2, 3, 5, 13, 16] [(2, pt p3 0), (3, pt p7 0), (5, .int .i64 1), (13, .int .u64 (wd x 1 : Int)), (16, .int .u64 (wd y 1 : Int))] (by kernel_rfl) (by kernel_rfl) rfl ?_
          refine GQ.run (j := 8) 2 [2, 3, 5, 10] [(2, pt p3 0), (3, pt p7 0), (5, .int .i64 1), (10, .bool (decide ((wd x 1 : Int) < (wd y 1 : Int))))] (by kernel_rfl) rfl ?_
          refine GQ.k rfl hK54 (fun _ _ h => h) (fun w55 H56 => ?_)
          cases hb57 : (decide ((wd x 1 : Int) < (wd y 1 : Int)))
          · skip
            have hb57f := of_decide_eq_false hb57
            refine G.no rfl ?_
            refine G.seqK fun K58 hK59 => ?_
            refine G.draw H56 (by kernel_rfl) (by kernel_rfl) ?_
            refine GQ.run (j := 2) 2 [2, 3, 5, 20] [(2, pt p3 0), (3, pt p7 0), (5, .int .i64 1), (20, pt p3 1)] (by kernel_rfl) rfl ?_
            refine GQ.sem (j := 3) (fun w_ H_ => H_.ld (o := 1) (ty := 22) (v := .int .u64 (wd x 1 : Int)) 0 rfl (by kernel_rfl) rfl) [2, 3, 5, 21] [(2, pt p3 0), (3, pt p7 0), (5, .int .i64 1), (21, .int .u64 (wd x 1 : Int))] (by kernel_rfl) (by kernel_rfl) rfl ?_
            refine GQ.run (j := 5) 2 [2, 3, 5, 21, 23] [(2, pt p3 0), (3, pt p7 0), (5, .int .i64 1), (21, .int .u64 (wd x 1 : Int)), (23, pt p7 1)] (by kernel_rfl) rfl ?_
            refine GQ.sem (j := 6) (fun w_ H_ => H_.ld (o := 1) (ty := 22) (v := .int .u64 (wd y 1 : Int)) 1 rfl (by kernel_rfl) rfl) [2, 3, 5, 21, 24] [(2, pt p3 0), (3, pt p7 0), (5, .int .i64 1), (21, .int .u64 (wd x 1 : Int)), (24, .int .u64 (wd y 1 : Int))] (by kernel_rfl) (by kernel_rfl) rfl ?_
            refine GQ.run (j := 8) 2 [2, 3, 5, 18] [(2, pt p3 0), (3, pt p7 0), (5, .int .i64 1), (18, .bool (decide ((wd y 1 : Int) < (wd x 1 : Int))))] (by kernel_rfl) rfl ?_
            refine GQ.k rfl hK59 (fun _ _ h => h) (fun w60 H61 => ?_)
            cases hb62 : (decide ((wd y 1 : Int) < (wd x 1 : Int)))
            · skip
              have hb62f := of_decide_eq_false hb62
              refine G.no rfl ?_
              refine G.skipK hK52 (fun _ _ h => h) ?_
              refine G.region ?_
              refine GL.run (j := 3) 3 [2, 3, 5] [(2, pt p3 0), (3, pt p7 0), (5, .int .i64 0)] (by kernel_rfl) rfl ?_
              refine GL.round rfl ?_
              refine G.seqK fun K63 hK64 => ?_
              refine G.seqK fun K65 hK66 => ?_
              refine G.region ?_
              refine GL.run (j := 2) 2 [2, 3, 5, 7] [(2, pt p3 0), (3, pt p7 0), (5, .int .i64 0), (7, .bool true)] (by kernel_rfl) rfl ?_
              refine GL.k rfl hK66 (fun _ _ h => h) ?_
              refine G.yes rfl ?_
              refine G.skipK hK64 (fun _ _ h => h) ?_
              refine G.seqK fun K67 hK68 => ?_
              refine G.block ?_
              refine G.block ?_
              refine G.seqK fun K69 hK70 => ?_
              refine G.draw H61 (by kernel_rfl) (by kernel_rfl) ?_
              refine GQ.run (j := 2) 2 [2, 3, 5, 12] [(2, pt p3 0), (3, pt p7 0), (5, .int .i64 0), (12, pt p3 0)] (by kernel_rfl) rfl ?_
              refine GQ.sem (j := 3) (fun w_ H_ => H_.ld (o := 0) (ty := 22) (v := .int .u64 (wd x 0 : Int)) 0 rfl (by kernel_rfl) rfl) [2, 3, 5, 13] [(2, pt p3 0), (3, pt p7 0), (5, .int .i64 0), (13, .int .u64 (wd x 0 : Int))] (by kernel_rfl) (by kernel_rfl) rfl ?_
              refine GQ.run (j := 5) 2 [2, 3, 5, 13, 15] [(2, pt p3 0), (3, pt p7 0), (5, .int .i64 0), (13, .int .u64 (wd x 0 : Int)), (15, pt p7 0)] (by kernel_rfl) rfl ?_
              refine GQ.sem (j := 6) (fun w_ H_ => H_.ld (o := 0) (ty := 22) (v := .int .u64 (wd y 0 : Int)) 1 rfl (by kernel_rfl) rfl) [2, 3, 5, 13, 16] [(2, pt p3 0), (3, pt p7 0), (5, .int .i64 0), (13, .int .u64 (wd x 0 : Int)), (16, .int .u64 (wd y 0 : Int))] (by kernel_rfl) (by kernel_rfl) rfl ?_
              refine GQ.run (j := 8) 2 [2, 3, 5, 10] [(2, pt p3 0), (3, pt p7 0), (5, .int .i64 0), (10, .bool (decide ((wd x 0 : Int) < (wd y 0 : Int))))] (by kernel_rfl) rfl ?_
              refine GQ.k rfl hK70 (fun _ _ h => h) (fun w71 H72 => ?_)
              cases hb73 : (decide ((wd x 0 : Int) < (wd y 0 : Int)))
              · skip
                have hb73f := of_decide_eq_false hb73
                refine G.no rfl ?_
                refine G.seqK fun K74 hK75 => ?_
                refine G.draw H72 (by kernel_rfl) (by kernel_rfl) ?_
                refine GQ.run (j := 2) 2 [2, 3, 5, 20] [(2, pt p3 0), (3, pt p7 0), (5, .int .i64 0), (20, pt p3 0)] (by kernel_rfl) rfl ?_
                refine GQ.sem (j := 3) (fun w_ H_ => H_.ld (o := 0) (ty := 22) (v := .int .u64 (wd x 0 : Int)) 0 rfl (by kernel_rfl) rfl) [2, 3, 5, 21] [(2, pt p3 0), (3, pt p7 0), (5, .int .i64 0), (21, .int .u64 (wd x 0 : Int))] (by kernel_rfl) (by kernel_rfl) rfl ?_
                refine GQ.run (j := 5) 2 [2, 3, 5, 21, 23] [(2, pt p3 0), (3, pt p7 0), (5, .int .i64 0), (21, .int .u64 (wd x 0 : Int)), (23, pt p7 0)] (by kernel_rfl) rfl ?_
                refine GQ.sem (j := 6) (fun w_ H_ => H_.ld (o := 0) (ty := 22) (v := .int .u64 (wd y 0 : Int)) 1 rfl (by kernel_rfl) rfl) [2, 3, 5, 21, 24] [(2, pt p3 0), (3, pt p7 0), (5, .int .i64 0), (21, .int .u64 (wd x 0 : Int)), (24, .int .u64 (wd y 0 : Int))] (by kernel_rfl) (by kernel_rfl) rfl ?_
                refine GQ.run (j := 8) 2 [2, 3, 5, 18] [(2, pt p3 0), (3, pt p7 0), (5, .int .i64 0), (18, .bool (decide ((wd y 0 : Int) < (wd x 0 : Int))))] (by kernel_rfl) rfl ?_
                refine GQ.k rfl hK75 (fun _ _ h => h) (fun w76 H77 => ?_)
                cases hb78 : (decide ((wd y 0 : Int) < (wd x 0 : Int)))
                · skip
                  have hb78f := of_decide_eq_false hb78
                  refine G.no rfl ?_
                  refine G.skipK hK68 (fun _ _ h => h) ?_
                  refine G.region ?_
                  refine GL.run (j := 3) 3 [2, 3, 5] [(2, pt p3 0), (3, pt p7 0), (5, .int .i64 (-1))] (by kernel_rfl) rfl ?_
                  refine GL.round rfl ?_
                  refine G.seqK fun K79 hK80 => ?_
                  refine G.seqK fun K81 hK82 => ?_
                  refine G.region ?_
                  refine GL.run (j := 2) 2 [2, 3, 5, 7] [(2, pt p3 0), (3, pt p7 0), (5, .int .i64 (-1)), (7, .bool false)] (by kernel_rfl) rfl ?_
                  refine GL.k rfl hK82 (fun _ _ h => h) ?_
                  refine G.no rfl ?_
                  refine G.exitK hK12 (fun _ _ h => h) ?_
                  refine G.seqK fun K83 hK84 => ?_
                  refine G.region ?_
                  refine GL.run (j := 1) 1 [4] [(4, .int .i64 0)] (by kernel_rfl) rfl ?_
                  refine GL.k rfl hK84 (fun _ _ h => h) ?_
                  refine G.ret ?_
                  intro F_ hF_ hM_
                  refine hRet _ _ (bodyPost_1 rfl (RV.tmp rfl) ?_ F_ hF_ hM_)
                  have e0 : (0 : Int) = cmpN x y := by
                    refine cmp_eq ?_
                    have sx := wd_sum x hx
                    have sy := wd_sum y hy
                    have bx0 := wd_lt x 0
                    have bx1 := wd_lt x 1
                    have bx2 := wd_lt x 2
                    have bx3 := wd_lt x 3
                    have by0 := wd_lt y 0
                    have by1 := wd_lt y 1
                    have by2 := wd_lt y 2
                    have by3 := wd_lt y 3
                    generalize wd x 0 = x0 at *
                    generalize wd x 1 = x1 at *
                    generalize wd x 2 = x2 at *
                    generalize wd x 3 = x3 at *
                    generalize wd y 0 = y0 at *
                    generalize wd y 1 = y1 at *
                    generalize wd y 2 = y2 at *
                    generalize wd y 3 = y3 at *
                    simp only [K, K4] at *
                    omega
                  rw [e0]
                  exact ⟨rfl, H77.sub (List.nil_sublist _)⟩
                · skip
                  have hb78f := of_decide_eq_true hb78
                  refine G.yes rfl ?_
                  refine G.seqK fun K85 hK86 => ?_
                  refine G.region ?_
                  refine GL.run (j := 1) 1 [4] [(4, .int .i64 1)] (by kernel_rfl) rfl ?_
                  refine GL.k rfl hK86 (fun _ _ h => h) ?_
                  refine G.ret ?_
                  intro F_ hF_ hM_
                  refine hRet _ _ (bodyPost_1 rfl (RV.tmp rfl) ?_ F_ hF_ hM_)
                  have e0 : (1 : Int) = cmpN x y := by
                    refine cmp_gt ?_
                    have sx := wd_sum x hx
                    have sy := wd_sum y hy
                    have bx0 := wd_lt x 0
                    have bx1 := wd_lt x 1
                    have bx2 := wd_lt x 2
                    have bx3 := wd_lt x 3
                    have by0 := wd_lt y 0
                    have by1 := wd_lt y 1
                    have by2 := wd_lt y 2
                    have by3 := wd_lt y 3
                    generalize wd x 0 = x0 at *
                    generalize wd x 1 = x1 at *
                    generalize wd x 2 = x2 at *
                    generalize wd x 3 = x3 at *
                    generalize wd y 0 = y0 at *
                    generalize wd y 1 = y1 at *
                    generalize wd y 2 = y2 at *
                    generalize wd y 3 = y3 at *
                    simp only [K, K4] at *
                    omega
                  rw [e0]
                  exact ⟨rfl, H77.sub (List.nil_sublist _)⟩
              · skip
                have hb73f := of_decide_eq_true hb73
                refine G.yes rfl ?_
                refine G.seqK fun K87 hK88 => ?_
                refine G.region ?_
                refine GL.run (j := 1) 1 [4] [(4, .int .i64 (-1))] (by kernel_rfl) rfl ?_
                refine GL.k rfl hK88 (fun _ _ h => h) ?_
                refine G.ret ?_
                intro F_ hF_ hM_
                refine hRet _ _ (bodyPost_1 rfl (RV.tmp rfl) ?_ F_ hF_ hM_)
                have e0 : ((-1) : Int) = cmpN x y := by
                  refine cmp_lt ?_
                  have sx := wd_sum x hx
                  have sy := wd_sum y hy
                  have bx0 := wd_lt x 0
                  have bx1 := wd_lt x 1
                  have bx2 := wd_lt x 2
                  have bx3 := wd_lt x 3
                  have by0 := wd_lt y 0
                  have by1 := wd_lt y 1
                  have by2 := wd_lt y 2
                  have by3 := wd_lt y 3
                  generalize wd x 0 = x0 at *
                  generalize wd x 1 = x1 at *
                  generalize wd x 2 = x2 at *
                  generalize wd x 3 = x3 at *
                  generalize wd y 0 = y0 at *
                  generalize wd y 1 = y1 at *
                  generalize wd y 2 = y2 at *
                  generalize wd y 3 = y3 at *
                  simp only [K, K4] at *
                  omega
                rw [e0]
                exact ⟨rfl, H72.sub (List.nil_sublist _)⟩
            · skip
              have hb62f := of_decide_eq_true hb62
              refine G.yes rfl ?_
              refine G.seqK fun K89 hK90 => ?_
              refine G.region ?_
              refine GL.run (j := 1) 1 [4] [(4, .int .i64 1)] (by kernel_rfl) rfl ?_
              refine GL.k rfl hK90 (fun _ _ h => h) ?_
              refine G.ret ?_
              intro F_ hF_ hM_
              refine hRet _ _ (bodyPost_1 rfl (RV.tmp rfl) ?_ F_ hF_ hM_)
              have e0 : (1 : Int) = cmpN x y := by
                refine cmp_gt ?_
                have sx := wd_sum x hx
                have sy := wd_sum y hy
                have bx0 := wd_lt x 0
                have bx1 := wd_lt x 1
                have bx2 := wd_lt x 2
                have bx3 := wd_lt x 3
                have by0 := wd_lt y 0
                have by1 := wd_lt y 1
                have by2 := wd_lt y 2
                have by3 := wd_lt y 3
                generalize wd x 0 = x0 at *
                generalize wd x 1 = x1 at *
                generalize wd x 2 = x2 at *
                generalize wd x 3 = x3 at *
                generalize wd y 0 = y0 at *
                generalize wd y 1 = y1 at *
                generalize wd y 2 = y2 at *
                generalize wd y 3 = y3 at *
                simp only [K, K4] at *
                omega
              rw [e0]
              exact ⟨rfl, H61.sub (List.nil_sublist _)⟩
          · skip
            have hb57f := of_decide_eq_true hb57
            refine G.yes rfl ?_
            refine G.seqK fun K91 hK92 => ?_
            refine G.region ?_
            refine GL.run (j := 1) 1 [4] [(4, .int .i64 (-1))] (by kernel_rfl) rfl ?_
            refine GL.k rfl hK92 (fun _ _ h => h) ?_
            refine G.ret ?_
            intro F_ hF_ hM_
            refine hRet _ _ (bodyPost_1 rfl (RV.tmp rfl) ?_ F_ hF_ hM_)
            have e0 : ((-1) : Int) = cmpN x y := by
              refine cmp_lt ?_
              have sx := wd_sum x hx
              have sy := wd_sum y hy
              have bx0 := wd_lt x 0
              have bx1 := wd_lt x 1
              have bx2 := wd_lt x 2
              have bx3 := wd_lt x 3
              have by0 := wd_lt y 0
              have by1 := wd_lt y 1
              have by2 := wd_lt y 2
              have by3 := wd_lt y 3
              generalize wd x 0 = x0 at *
              generalize wd x 1 = x1 at *
              generalize wd x 2 = x2 at *
              generalize wd x 3 = x3 at *
              generalize wd y 0 = y0 at *
              generalize wd y 1 = y1 at *
              generalize wd y 2 = y2 at *
              generalize wd y 3 = y3 at *
              simp only [K, K4] at *
              omega
            rw [e0]
            exact ⟨rfl, H56.sub (List.nil_sublist _)⟩
        · skip
          have hb46f := of_decide_eq_true hb46
          refine G.yes rfl ?_
          refine G.seqK fun K93 hK94 => ?_
          refine G.region ?_
          refine GL.run (j := 1) 1 [4] [(4, .int .i64 1)] (by kernel_rfl) rfl ?_
          refine GL.k rfl hK94 (fun _ _ h => h) ?_
          refine G.ret ?_
          intro F_ hF_ hM_
          refine hRet _ _ (bodyPost_1 rfl (RV.tmp rfl) ?_ F_ hF_ hM_)
          have e0 : (1 : Int) = cmpN x y := by
            refine cmp_gt ?_
            have sx := wd_sum x hx
            have sy := wd_sum y hy
            have bx0 := wd_lt x 0
            have bx1 := wd_lt x 1
            have bx2 := wd_lt x 2
            have bx3 := wd_lt x 3
            have by0 := wd_lt y 0
            have by1 := wd_lt y 1
            have by2 := wd_lt y 2
            have by3 := wd_lt y 3
            generalize wd x 0 = x0 at *
            generalize wd x 1 = x1 at *
            generalize wd x 2 = x2 at *
            generalize wd x 3 = x3 at *
            generalize wd y 0 = y0 at *
            generalize wd y 1 = y1 at *
            generalize wd y 2 = y2 at *
            generalize wd y 3 = y3 at *
            simp only [K, K4] at *
            omega
          rw [e0]
          exact ⟨rfl, H45.sub (List.nil_sublist _)⟩
      · skip
        have hb41f := of_decide_eq_true hb41
        refine G.yes rfl ?_
        refine G.seqK fun K95 hK96 => ?_
        refine G.region ?_
        refine GL.run (j := 1) 1 [4] [(4, .int .i64 (-1))] (by kernel_rfl) rfl ?_
        refine GL.k rfl hK96 (fun _ _ h => h) ?_
        refine G.ret ?_
        intro F_ hF_ hM_
        refine hRet _ _ (bodyPost_1 rfl (RV.tmp rfl) ?_ F_ hF_ hM_)
        have e0 : ((-1) : Int) = cmpN x y := by
          refine cmp_lt ?_
          have sx := wd_sum x hx
          have sy := wd_sum y hy
          have bx0 := wd_lt x 0
          have bx1 := wd_lt x 1
          have bx2 := wd_lt x 2
          have bx3 := wd_lt x 3
          have by0 := wd_lt y 0
          have by1 := wd_lt y 1
          have by2 := wd_lt y 2
          have by3 := wd_lt y 3
          generalize wd x 0 = x0 at *
          generalize wd x 1 = x1 at *
          generalize wd x 2 = x2 at *
          generalize wd x 3 = x3 at *
          generalize wd y 0 = y0 at *
          generalize wd y 1 = y1 at *
          generalize wd y 2 = y2 at *
          generalize wd y 3 = y3 at *
          simp only [K, K4] at *
          omega
        rw [e0]
        exact ⟨rfl, H40.sub (List.nil_sublist _)⟩
    · skip
      have hb30f := of_decide_eq_true hb30
      refine G.yes rfl ?_
      refine G.seqK fun K97 hK98 => ?_
      refine G.region ?_
      refine GL.run (j := 1) 1 [4] [(4, .int .i64 1)] (by kernel_rfl) rfl ?_
      refine GL.k rfl hK98 (fun _ _ h => h) ?_
      refine G.ret ?_
      intro F_ hF_ hM_
      refine hRet _ _ (bodyPost_1 rfl (RV.tmp rfl) ?_ F_ hF_ hM_)
      have e0 : (1 : Int) = cmpN x y := by
        refine cmp_gt ?_
        have sx := wd_sum x hx
        have sy := wd_sum y hy
        have bx0 := wd_lt x 0
        have bx1 := wd_lt x 1
        have bx2 := wd_lt x 2
        have bx3 := wd_lt x 3
        have by0 := wd_lt y 0
        have by1 := wd_lt y 1
        have by2 := wd_lt y 2
        have by3 := wd_lt y 3
        generalize wd x 0 = x0 at *
        generalize wd x 1 = x1 at *
        generalize wd x 2 = x2 at *
        generalize wd x 3 = x3 at *
        generalize wd y 0 = y0 at *
        generalize wd y 1 = y1 at *
        generalize wd y 2 = y2 at *
        generalize wd y 3 = y3 at *
        simp only [K, K4] at *
        omega
      rw [e0]
      exact ⟨rfl, H29.sub (List.nil_sublist _)⟩
  · skip
    have hb25f := of_decide_eq_true hb25
    refine G.yes rfl ?_
    refine G.seqK fun K99 hK100 => ?_
    refine G.region ?_
    refine GL.run (j := 1) 1 [4] [(4, .int .i64 (-1))] (by kernel_rfl) rfl ?_
    refine GL.k rfl hK100 (fun _ _ h => h) ?_
    refine G.ret ?_
    intro F_ hF_ hM_
    refine hRet _ _ (bodyPost_1 rfl (RV.tmp rfl) ?_ F_ hF_ hM_)
    have e0 : ((-1) : Int) = cmpN x y := by
      refine cmp_lt ?_
      have sx := wd_sum x hx
      have sy := wd_sum y hy
      have bx0 := wd_lt x 0
      have bx1 := wd_lt x 1
      have bx2 := wd_lt x 2
      have bx3 := wd_lt x 3
      have by0 := wd_lt y 0
      have by1 := wd_lt y 1
      have by2 := wd_lt y 2
      have by3 := wd_lt y 3
      generalize wd x 0 = x0 at *
      generalize wd x 1 = x1 at *
      generalize wd x 2 = x2 at *
      generalize wd x 3 = x3 at *
      generalize wd y 0 = y0 at *
      generalize wd y 1 = y1 at *
      generalize wd y 2 = y2 at *
      generalize wd y 3 = y3 at *
      simp only [K, K4] at *
      omega
    rw [e0]
    exact ⟨rfl, H24.sub (List.nil_sublist _)⟩
theorem Of_calls (x : Nat) (hx : x < K) (w : World) : Calls Try.prog 20 #[.int .u64 (x : Int)] w fun e w' => e = .returned (wv x) ∧ Hp w [] [] w' := by
  refine calls_G (args := [.int .u64 (x : Int)]) Try.func20 rfl Try.ntmps20 rfl ?_
  intro Q0 hRet hNor hPan
  have H := Hp.start w
  have H : Hp w [] [] w := H
  refine G.seqK fun K1 hK2 => ?_
  refine G.region ?_
  obtain ⟨p3, w4, r5, H6⟩ := H.alloc (P := Try.prog) 55 [.int .u64 0, .int .u64 0, .int .u64 0, .int .u64 0] (by kernel_rfl)
  have H6 : Hp w [] [.blk p3 [.int .u64 0, .int .u64 0, .int .u64 0, .int .u64 0] 55] w4 := H6
  refine GL.sem (j := 1) (r5) [0, 2] [(0, .int .u64 (x : Int)), (2, pt p3 0)] (by kernel_rfl) (by kernel_rfl) rfl ?_
  refine GL.k rfl hK2 (fun _ _ h => h) ?_
  refine G.seqK fun K7 hK8 => ?_
  refine G.region ?_
  refine GL.run (j := 2) 2 [2, 4] [(2, pt p3 0), (4, .agg #[.int .u64 (x : Int), .int .u64 0, .int .u64 0, .int .u64 0])] (by kernel_rfl) rfl ?_
  obtain ⟨w9, r10, H11⟩ := H6.stA (P := Try.prog) (o := 0) (vs := [.int .u64 (x : Int), .int .u64 0, .int .u64 0, .int .u64 0]) (ty := 55) (m := 4) 0 rfl (by kernel_rfl) rfl (by simp) (by simp [Value.oneCell'])
  have H11 : Hp w [] [.blk p3 [.int .u64 (x : Int), .int .u64 0, .int .u64 0, .int .u64 0] 55] w9 := H11
  refine GL.semU (j := 3) r10 [2] [(2, pt p3 0)] (by kernel_rfl) rfl rfl rfl ?_
  refine GL.k rfl hK8 (fun _ _ h => h) ?_
  refine G.ret ?_
  intro F_ hF_ hM_
  refine hRet _ _ (bodyPost_1 rfl (RV.cell rfl (H11.ldA (o := 0) (ty := 55) (m := 4) (sub := [.int .u64 (x : Int), .int .u64 0, .int .u64 0, .int .u64 0]) 0 rfl (by kernel_rfl) rfl rfl)) ?_ F_ hF_ hM_)
  rw [← of_fin hx]
  exact ⟨rfl, H11.sub (List.nil_sublist _)⟩
end Go.Proofs.Ytljfofnpjmlobaa
