/- Any hash is told as a text, and read again: the walk. -/
import Derived.Test.YtfflicgmgadcmaaDigU
import Derived.Test.YtfflicgmgadcmaaLives
namespace Go.Proofs.Ytfflicgmgadcmaa
open Go.RowKit
theorem okT_E (s : List UInt8) : (okT s == (((parE s : Nat) : Int) == 0)) = true := by
  unfold parE
  cases okT s <;> rfl
theorem DigestTexts_calls (X : List UInt8) (hX : X.length = 32) (s : List UInt8) (hs : s.length ≤ maxLen) (w : World) : Calls Try.prog 4 #[.agg (by8 X).toArray, .string (strOf s)] w fun e w' => e = .returned (.bool true) ∧ Hp w [] [] w' := by
  refine calls_G (args := [.agg (by8 X).toArray, .string (strOf s)]) Try.func4 rfl Try.ntmps4 rfl ?_
  intro Q0 hRet hNor hPan
  have H := Hp.start w
  have H : Hp w [] [] w := H
  refine G.seqK fun K1 hK2 => ?_
  refine G.region ?_
  obtain ⟨p3, w4, r5, H6⟩ := H.box (P := Try.prog) 25 (by8 X) (.agg (by8 X).toArray) rfl
  have H6 : Hp w [] [.blk p3 (by8 X) 25] w4 := H6
  refine GL.sem (j := 1) (r5) [1, 2] [(1, .string (strOf s)), (2, pt p3 0)] (by kernel_rfl) (by kernel_rfl) rfl ?_
  refine GL.run (j := 2) 1 [1, 2] [(1, .string (strOf s)), (2, pt p3 0)] (by kernel_rfl) rfl ?_
  refine GL.k rfl hK2 (fun _ _ h => h) ?_
  refine G.seqK fun K7 hK8 => ?_
  refine G.seqK fun K9 hK10 => ?_
  refine G.region ?_
  refine GL.call (j := 1) (lives_calls w4) (by kernel_rfl) rfl (fun e_ w11 hR => ?_)
  obtain ⟨rfl, H13⟩ := hR
  have H12 : Hp w [] [.blk p3 (by8 X) 25] w11 := H6.callNil H13
  refine ⟨_, rfl, [1, 2, 11], [(1, .string (strOf s)), (2, pt p3 0), (11, .bool true)], by kernel_rfl, ?_⟩
  refine GL.run (j := 7) 6 [1, 2, 17] [(1, .string (strOf s)), (2, pt p3 0), (17, .bool (decide (100 < ((strOf s).size : Int))))] (by kernel_rfl) rfl ?_
  refine GL.k rfl hK10 (fun _ _ h => h) ?_
  cases hb14 : (decide (100 < ((strOf s).size : Int)))
  · skip
    have hb14f := of_decide_eq_false hb14
    refine G.no rfl ?_
    refine G.skipK hK8 (fun _ _ h => h) ?_
    refine G.seqK fun K15 hK16 => ?_
    refine G.region ?_
    refine GL.sem (j := 1) (H12.ldA (o := 0) (ty := 25) (m := 32) (sub := by8 X) 0 rfl (by kernel_rfl) (sub_whole (by rw [by8_length, hX])) (by rw [by8_length, hX])) [1, 2, 20] [(1, .string (strOf s)), (2, pt p3 0), (20, .agg (by8 X).toArray)] (by kernel_rfl) (by kernel_rfl) rfl ?_
    refine GL.call (j := 2) (Text_calls X hX w11) (by kernel_rfl) rfl (fun e_ w17 hR => ?_)
    obtain ⟨rfl, H19⟩ := hR
    have H18 : Hp w [] [.blk p3 (by8 X) 25] w17 := H12.callNil H19
    refine ⟨_, rfl, [1, 2, 21], [(1, .string (strOf s)), (2, pt p3 0), (21, .string (strOf (hexT X)))], by kernel_rfl, ?_⟩
    refine GL.call (j := 3) (Parse_calls (hexT X) w17 (Nat.le_trans (Nat.le_of_eq (hexP_length _ _)) (by decide))) (by kernel_rfl) rfl (fun e_ w20 hR => ?_)
    obtain ⟨rfl, H22⟩ := hR
    have H21 : Hp w [] [.blk p3 (by8 X) 25] w20 := H18.callNil H22
    refine ⟨_, rfl, [1, 2, 22], [(1, .string (strOf s)), (2, pt p3 0), (22, .tuple #[.agg (by8 (parT (hexT X))).toArray, .int .i64 (((parE (hexT X)) : Nat) : Int)])], by kernel_rfl, ?_⟩
    refine GL.run (j := 6) 3 [1, 2, 23, 24] [(1, .string (strOf s)), (2, pt p3 0), (23, .agg (by8 (parT (hexT X))).toArray), (24, .int .i64 (((parE (hexT X)) : Nat) : Int))] (by kernel_rfl) rfl ?_
    obtain ⟨p23, w24, r25, H26⟩ := H21.alloc (P := Try.prog) 25 (by8 (List.replicate 32 0)) (by kernel_rfl)
    have H26 : Hp w [] [.blk p3 (by8 X) 25, .blk p23 (by8 (List.replicate 32 0)) 25] w24 := H26
    refine GL.sem (j := 7) (r25) [1, 2, 5, 23, 24] [(1, .string (strOf s)), (2, pt p3 0), (5, pt p23 0), (23, .agg (by8 (parT (hexT X))).toArray), (24, .int .i64 (((parE (hexT X)) : Nat) : Int))] (by kernel_rfl) (by kernel_rfl) rfl ?_
    obtain ⟨w27, r28, H29⟩ := H26.stA (P := Try.prog) (o := 0) (vs := by8 (parT (hexT X))) (ty := 25) (m := 32) 1 rfl (by kernel_rfl) (by rw [by8_length, parT_length]) (Nat.le_of_eq (by rw [Nat.zero_add]; exact ((show (by8 (List.replicate 32 0)).length = 32 from by rw [by8_length]; rfl)).symm)) (by8_one _)
    rw [st_whole (by rw [by8_length]; rfl)] at H29
    have H29 : Hp w [] [.blk p3 (by8 X) 25, .blk p23 (by8 (parT (hexT X))) 25] w27 := H29
    refine GL.semU (j := 8) r28 [1, 2, 5, 24] [(1, .string (strOf s)), (2, pt p3 0), (5, pt p23 0), (24, .int .i64 (((parE (hexT X)) : Nat) : Int))] (by kernel_rfl) rfl rfl rfl ?_
    refine GL.run (j := 9) 1 [1, 2, 5, 6] [(1, .string (strOf s)), (2, pt p3 0), (5, pt p23 0), (6, .int .i64 (((parE (hexT X)) : Nat) : Int))] (by kernel_rfl) rfl ?_
    refine GL.k rfl hK16 (fun _ _ h => h) ?_
    refine G.seqK fun K30 hK31 => ?_
    refine G.region ?_
    refine GL.run (j := 1) 1 [1, 2, 5, 6, 26] [(1, .string (strOf s)), (2, pt p3 0), (5, pt p23 0), (6, .int .i64 (((parE (hexT X)) : Nat) : Int)), (26, .string (strOf s))] (by kernel_rfl) rfl ?_
    refine GL.call (j := 2) (Parse_calls s w27 hs) (by kernel_rfl) rfl (fun e_ w32 hR => ?_)
    obtain ⟨rfl, H34⟩ := hR
    have H33 : Hp w [] [.blk p3 (by8 X) 25, .blk p23 (by8 (parT (hexT X))) 25] w32 := H29.callNil H34
    refine ⟨_, rfl, [1, 2, 5, 6, 27], [(1, .string (strOf s)), (2, pt p3 0), (5, pt p23 0), (6, .int .i64 (((parE (hexT X)) : Nat) : Int)), (27, .tuple #[.agg (by8 (parT s)).toArray, .int .i64 (((parE s) : Nat) : Int)])], by kernel_rfl, ?_⟩
    refine GL.run (j := 5) 3 [1, 2, 5, 6, 28, 29] [(1, .string (strOf s)), (2, pt p3 0), (5, pt p23 0), (6, .int .i64 (((parE (hexT X)) : Nat) : Int)), (28, .agg (by8 (parT s)).toArray), (29, .int .i64 (((parE s) : Nat) : Int))] (by kernel_rfl) rfl ?_
    obtain ⟨p35, w36, r37, H38⟩ := H33.alloc (P := Try.prog) 25 (by8 (List.replicate 32 0)) (by kernel_rfl)
    have H38 : Hp w [] [.blk p3 (by8 X) 25, .blk p23 (by8 (parT (hexT X))) 25, .blk p35 (by8 (List.replicate 32 0)) 25] w36 := H38
    refine GL.sem (j := 6) (r37) [1, 2, 5, 6, 7, 28, 29] [(1, .string (strOf s)), (2, pt p3 0), (5, pt p23 0), (6, .int .i64 (((parE (hexT X)) : Nat) : Int)), (7, pt p35 0), (28, .agg (by8 (parT s)).toArray), (29, .int .i64 (((parE s) : Nat) : Int))] (by kernel_rfl) (by kernel_rfl) rfl ?_
    obtain ⟨w39, r40, H41⟩ := H38.stA (P := Try.prog) (o := 0) (vs := by8 (parT s)) (ty := 25) (m := 32) 2 rfl (by kernel_rfl) (by rw [by8_length, parT_length]) (Nat.le_of_eq (by rw [Nat.zero_add]; exact ((show (by8 (List.replicate 32 0)).length = 32 from by rw [by8_length]; rfl)).symm)) (by8_one _)
    rw [st_whole (by rw [by8_length]; rfl)] at H41
    have H41 : Hp w [] [.blk p3 (by8 X) 25, .blk p23 (by8 (parT (hexT X))) 25, .blk p35 (by8 (parT s)) 25] w39 := H41
    refine GL.semU (j := 7) r40 [1, 2, 5, 6, 7, 29] [(1, .string (strOf s)), (2, pt p3 0), (5, pt p23 0), (6, .int .i64 (((parE (hexT X)) : Nat) : Int)), (7, pt p35 0), (29, .int .i64 (((parE s) : Nat) : Int))] (by kernel_rfl) rfl rfl rfl ?_
    refine GL.run (j := 8) 1 [1, 2, 5, 6, 7, 8] [(1, .string (strOf s)), (2, pt p3 0), (5, pt p23 0), (6, .int .i64 (((parE (hexT X)) : Nat) : Int)), (7, pt p35 0), (8, .int .i64 (((parE s) : Nat) : Int))] (by kernel_rfl) rfl ?_
    refine GL.k rfl hK31 (fun _ _ h => h) ?_
    refine G.seqK fun K42 hK43 => ?_
    refine G.region ?_
    refine GL.run (j := 1) 1 [2, 5, 6, 7, 8, 31] [(2, pt p3 0), (5, pt p23 0), (6, .int .i64 (((parE (hexT X)) : Nat) : Int)), (7, pt p35 0), (8, .int .i64 (((parE s) : Nat) : Int)), (31, .string (strOf s))] (by kernel_rfl) rfl ?_
    refine GL.call (j := 2) (RefParse_calls s w39 hs) (by kernel_rfl) rfl (fun e_ w44 hR => ?_)
    obtain ⟨rfl, H46⟩ := hR
    have H45 : Hp w [] [.blk p3 (by8 X) 25, .blk p23 (by8 (parT (hexT X))) 25, .blk p35 (by8 (parT s)) 25] w44 := H41.callNil H46
    refine ⟨_, rfl, [2, 5, 6, 7, 8, 32], [(2, pt p3 0), (5, pt p23 0), (6, .int .i64 (((parE (hexT X)) : Nat) : Int)), (7, pt p35 0), (8, .int .i64 (((parE s) : Nat) : Int)), (32, .tuple #[.agg (by8 (parT s)).toArray, .bool (okT s)])], by kernel_rfl, ?_⟩
    refine GL.run (j := 5) 3 [2, 5, 6, 7, 8, 33, 34] [(2, pt p3 0), (5, pt p23 0), (6, .int .i64 (((parE (hexT X)) : Nat) : Int)), (7, pt p35 0), (8, .int .i64 (((parE s) : Nat) : Int)), (33, .agg (by8 (parT s)).toArray), (34, .bool (okT s))] (by kernel_rfl) rfl ?_
    obtain ⟨p47, w48, r49, H50⟩ := H45.alloc (P := Try.prog) 24 (by8 (List.replicate 32 0)) (by kernel_rfl)
    have H50 : Hp w [] [.blk p3 (by8 X) 25, .blk p23 (by8 (parT (hexT X))) 25, .blk p35 (by8 (parT s)) 25, .blk p47 (by8 (List.replicate 32 0)) 24] w48 := H50
    refine GL.sem (j := 6) (r49) [2, 5, 6, 7, 8, 9, 33, 34] [(2, pt p3 0), (5, pt p23 0), (6, .int .i64 (((parE (hexT X)) : Nat) : Int)), (7, pt p35 0), (8, .int .i64 (((parE s) : Nat) : Int)), (9, pt p47 0), (33, .agg (by8 (parT s)).toArray), (34, .bool (okT s))] (by kernel_rfl) (by kernel_rfl) rfl ?_
    obtain ⟨w51, r52, H53⟩ := H50.stA (P := Try.prog) (o := 0) (vs := by8 (parT s)) (ty := 24) (m := 32) 3 rfl (by kernel_rfl) (by rw [by8_length, parT_length]) (Nat.le_of_eq (by rw [Nat.zero_add]; exact ((show (by8 (List.replicate 32 0)).length = 32 from by rw [by8_length]; rfl)).symm)) (by8_one _)
    rw [st_whole (by rw [by8_length]; rfl)] at H53
    have H53 : Hp w [] [.blk p3 (by8 X) 25, .blk p23 (by8 (parT (hexT X))) 25, .blk p35 (by8 (parT s)) 25, .blk p47 (by8 (parT s)) 24] w51 := H53
    refine GL.semU (j := 7) r52 [2, 5, 6, 7, 8, 9, 34] [(2, pt p3 0), (5, pt p23 0), (6, .int .i64 (((parE (hexT X)) : Nat) : Int)), (7, pt p35 0), (8, .int .i64 (((parE s) : Nat) : Int)), (9, pt p47 0), (34, .bool (okT s))] (by kernel_rfl) rfl rfl rfl ?_
    refine GL.run (j := 8) 1 [2, 5, 6, 7, 8, 9, 10] [(2, pt p3 0), (5, pt p23 0), (6, .int .i64 (((parE (hexT X)) : Nat) : Int)), (7, pt p35 0), (8, .int .i64 (((parE s) : Nat) : Int)), (9, pt p47 0), (10, .bool (okT s))] (by kernel_rfl) rfl ?_
    refine GL.k rfl hK43 (fun _ _ h => h) ?_
    refine G.seqK fun K54 hK55 => ?_
    refine G.heldP (Hp w [] [.blk p3 (by8 X) 25, .blk p23 (by8 (parT (hexT X))) 25, .blk p35 (by8 (parT s)) 25, .blk p47 (by8 (parT s)) 24]) (by kernel_rfl) (by kernel_rfl) (fun c_ a_ d_ v_ w_ h_ => hPan c_ a_ d_ v_ w_ h_) ?_
    have H56 := H53.drew
    generalize ({ w51 with drawn := w51.drawn + 1 } : World) = w57 at H56 ⊢
    have hS58 : Hp w [] [.blk p3 (by8 X) 25, .blk p23 (by8 (parT (hexT X))) 25, .blk p35 (by8 (parT s)) 25, .blk p47 (by8 (parT s)) 24] w57 := H56.sub (List.Sublist.cons_cons _ (List.Sublist.cons_cons _ (List.Sublist.cons_cons _ (List.Sublist.cons_cons _ (List.Sublist.slnil)))))
    refine GP.sem 0 (fun w_ H_ => H_.ldA (o := 0) (ty := 25) (m := 32) (sub := by8 X) 0 rfl (by kernel_rfl) (sub_whole (by rw [by8_length, hX])) (by rw [by8_length, hX])) [2, 5, 6, 7, 8, 9, 10, 35] [(2, pt p3 0), (5, pt p23 0), (6, .int .i64 (((parE (hexT X)) : Nat) : Int)), (7, pt p35 0), (8, .int .i64 (((parE s) : Nat) : Int)), (9, pt p47 0), (10, .bool (okT s)), (35, .agg (by8 X).toArray)] (by kernel_rfl) (by kernel_rfl) (by kernel_rfl) hS58 ?_
    refine GP.sem 2 (fun w_ H_ => H_.ldA (o := 0) (ty := 25) (m := 32) (sub := by8 X) 0 rfl (by kernel_rfl) (sub_whole (by rw [by8_length, hX])) (by rw [by8_length, hX])) [2, 5, 6, 7, 8, 9, 10, 35, 37] [(2, pt p3 0), (5, pt p23 0), (6, .int .i64 (((parE (hexT X)) : Nat) : Int)), (7, pt p35 0), (8, .int .i64 (((parE s) : Nat) : Int)), (9, pt p47 0), (10, .bool (okT s)), (35, .agg (by8 X).toArray), (37, .agg (by8 X).toArray)] (by kernel_rfl) (by kernel_rfl) (by kernel_rfl) hS58 ?_
    refine GP.call 1 (Text_calls X hX w57) (by kernel_rfl) (by kernel_rfl) (fun e_ w59 hR => ?_)
    obtain ⟨rfl, H61⟩ := hR
    have H60 : Hp w [] [.blk p3 (by8 X) 25, .blk p23 (by8 (parT (hexT X))) 25, .blk p35 (by8 (parT s)) 25, .blk p47 (by8 (parT s)) 24] w59 := H56.callNil H61
    have hS62 : Hp w [] [.blk p3 (by8 X) 25, .blk p23 (by8 (parT (hexT X))) 25, .blk p35 (by8 (parT s)) 25, .blk p47 (by8 (parT s)) 24] w59 := H60.sub (List.Sublist.cons_cons _ (List.Sublist.cons_cons _ (List.Sublist.cons_cons _ (List.Sublist.cons_cons _ (List.Sublist.slnil)))))
    refine ⟨_, rfl, hS62, [2, 5, 6, 7, 8, 9, 10, 36, 37], [(2, pt p3 0), (5, pt p23 0), (6, .int .i64 (((parE (hexT X)) : Nat) : Int)), (7, pt p35 0), (8, .int .i64 (((parE s) : Nat) : Int)), (9, pt p47 0), (10, .bool (okT s)), (36, .string (strOf (hexT X))), (37, .agg (by8 X).toArray)], by kernel_rfl, ?_⟩
    refine GP.call 3 (RefText_calls X hX w59) (by kernel_rfl) (by kernel_rfl) (fun e_ w63 hR => ?_)
    obtain ⟨rfl, H65⟩ := hR
    have H64 : Hp w [] [.blk p3 (by8 X) 25, .blk p23 (by8 (parT (hexT X))) 25, .blk p35 (by8 (parT s)) 25, .blk p47 (by8 (parT s)) 24] w63 := H60.callNil H65
    have hS66 : Hp w [] [.blk p3 (by8 X) 25, .blk p23 (by8 (parT (hexT X))) 25, .blk p35 (by8 (parT s)) 25, .blk p47 (by8 (parT s)) 24] w63 := H64.sub (List.Sublist.cons_cons _ (List.Sublist.cons_cons _ (List.Sublist.cons_cons _ (List.Sublist.cons_cons _ (List.Sublist.slnil)))))
    refine ⟨_, rfl, hS66, [2, 5, 6, 7, 8, 9, 10, 36, 38], [(2, pt p3 0), (5, pt p23 0), (6, .int .i64 (((parE (hexT X)) : Nat) : Int)), (7, pt p35 0), (8, .int .i64 (((parE s) : Nat) : Int)), (9, pt p47 0), (10, .bool (okT s)), (36, .string (strOf (hexT X))), (38, .string (strOf (hexT X)))], by kernel_rfl, ?_⟩
    refine GP.sem 4 (fun w_ H_ => run_str_eql (P := Try.prog) (t := 9) (hexT X) (hexT X) _) [2, 5, 6, 7, 8, 9, 10, 39] [(2, pt p3 0), (5, pt p23 0), (6, .int .i64 (((parE (hexT X)) : Nat) : Int)), (7, pt p35 0), (8, .int .i64 (((parE s) : Nat) : Int)), (9, pt p47 0), (10, .bool (okT s)), (39, .bool ((hexT X) == (hexT X)))] (by kernel_rfl) (by kernel_rfl) (by kernel_rfl) hS66 ?_
    refine GP.run [5] [2, 5, 6, 7, 8, 9, 10, 40] [(2, pt p3 0), (5, pt p23 0), (6, .int .i64 (((parE (hexT X)) : Nat) : Int)), (7, pt p35 0), (8, .int .i64 (((parE s) : Nat) : Int)), (9, pt p47 0), (10, .bool (okT s)), (40, .bool ((hexT X) == (hexT X)))] [0, 2, 1, 3, 4, 5] (by kernel_rfl) rfl hS66 ?_
    have hb67 : ((hexT X) == (hexT X)) = true := beq_self_eq_true _
    rw [hb67]
    refine GP.run [6, 7, 8, 9] [2, 5, 7, 8, 9, 10, 44] [(2, pt p3 0), (5, pt p23 0), (7, pt p35 0), (8, .int .i64 (((parE s) : Nat) : Int)), (9, pt p47 0), (10, .bool (okT s)), (44, .bool ((((parE (hexT X)) : Nat) : Int) == 0))] [0, 2, 1, 3, 4, 5, 6, 7, 8, 9] (by kernel_rfl) rfl hS66 ?_
    have hb68 : ((((parE (hexT X)) : Nat) : Int) == 0) = true := by rw [(parT_hexT hX).2]; rfl
    rw [hb68]
    refine GP.sem 10 (fun w_ H_ => H_.ldA (o := 0) (ty := 25) (m := 32) (sub := by8 (parT (hexT X))) 1 rfl (by kernel_rfl) (sub_whole (by rw [by8_length, parT_length])) (by rw [by8_length, parT_length])) [2, 7, 8, 9, 10, 44, 45] [(2, pt p3 0), (7, pt p35 0), (8, .int .i64 (((parE s) : Nat) : Int)), (9, pt p47 0), (10, .bool (okT s)), (44, .bool true), (45, .agg (by8 (parT (hexT X))).toArray)] (by kernel_rfl) (by kernel_rfl) (by kernel_rfl) hS66 ?_
    refine GP.sem 11 (fun w_ H_ => H_.ldA (o := 0) (ty := 25) (m := 32) (sub := by8 X) 0 rfl (by kernel_rfl) (sub_whole (by rw [by8_length, hX])) (by rw [by8_length, hX])) [2, 7, 8, 9, 10, 44, 45, 46] [(2, pt p3 0), (7, pt p35 0), (8, .int .i64 (((parE s) : Nat) : Int)), (9, pt p47 0), (10, .bool (okT s)), (44, .bool true), (45, .agg (by8 (parT (hexT X))).toArray), (46, .agg (by8 X).toArray)] (by kernel_rfl) (by kernel_rfl) (by kernel_rfl) hS66 ?_
    refine GP.sem 12 (fun w_ H_ => run_by8_eql (P := Try.prog) (t := 25) (n := 32) (x := (.tmp 45)) (y := (.tmp 46)) (by kernel_rfl) (parT (hexT X)) X (by rw [parT_length]) (by rw [hX]) _) [2, 7, 8, 9, 10, 44, 47] [(2, pt p3 0), (7, pt p35 0), (8, .int .i64 (((parE s) : Nat) : Int)), (9, pt p47 0), (10, .bool (okT s)), (44, .bool true), (47, .bool (decide ((parT (hexT X)) = X)))] (by kernel_rfl) (by kernel_rfl) (by kernel_rfl) hS66 ?_
    refine GP.run [13, 14] [2, 7, 8, 9, 10, 49] [(2, pt p3 0), (7, pt p35 0), (8, .int .i64 (((parE s) : Nat) : Int)), (9, pt p47 0), (10, .bool (okT s)), (49, .bool (decide ((parT (hexT X)) = X)))] [0, 2, 1, 3, 4, 5, 6, 7, 8, 9, 10, 11, 12, 13, 14] (by kernel_rfl) rfl hS66 ?_
    have hb69 : (decide ((parT (hexT X)) = X)) = true := decide_eq_true (parT_hexT hX).1
    rw [hb69]
    refine GP.run [15, 16, 17, 18, 19, 20] [2, 7, 8, 9, 10, 55] [(2, pt p3 0), (7, pt p35 0), (8, .int .i64 (((parE s) : Nat) : Int)), (9, pt p47 0), (10, .bool (okT s)), (55, .bool ((okT s) == ((((parE s) : Nat) : Int) == 0)))] [0, 2, 1, 3, 4, 5, 6, 7, 8, 9, 10, 11, 12, 13, 14, 15, 16, 17, 18, 19, 20] (by kernel_rfl) rfl hS66 ?_
    have hb70 : ((okT s) == ((((parE s) : Nat) : Int) == 0)) = true := okT_E s
    rw [hb70]
    refine GP.run [21, 22] [2, 7, 8, 9, 55, 57] [(2, pt p3 0), (7, pt p35 0), (8, .int .i64 (((parE s) : Nat) : Int)), (9, pt p47 0), (55, .bool true), (57, .bool (okT s))] [0, 2, 1, 3, 4, 5, 6, 7, 8, 9, 10, 11, 12, 13, 14, 15, 16, 17, 18, 19, 20, 21, 22] (by kernel_rfl) rfl hS66 ?_
    cases hb71 : (okT s)
    · skip
      have hokb := hb71
      refine GP.run [23, 24, 25, 26, 27] [2, 7, 9, 62] [(2, pt p3 0), (7, pt p35 0), (9, pt p47 0), (62, .bool ((((parE s) : Nat) : Int) == 2))] [0, 2, 1, 3, 4, 5, 6, 7, 8, 9, 10, 11, 12, 13, 14, 15, 16, 17, 18, 19, 20, 21, 22, 23, 24, 25, 26, 27] (by kernel_rfl) rfl hS66 ?_
      have hb72 : ((((parE s) : Nat) : Int) == 2) = true := by rw [(par_no hokb).2]; rfl
      rw [hb72]
      refine GP.sem 28 (fun w_ H_ => H_.ldA (o := 0) (ty := 25) (m := 32) (sub := by8 (parT s)) 2 rfl (by kernel_rfl) (sub_whole (by rw [by8_length, parT_length])) (by rw [by8_length, parT_length])) [2, 9, 62, 63] [(2, pt p3 0), (9, pt p47 0), (62, .bool true), (63, .agg (by8 (parT s)).toArray)] (by kernel_rfl) (by kernel_rfl) (by kernel_rfl) hS66 ?_
      refine GP.sem 29 (fun w_ H_ => H_.ldA (o := 0) (ty := 24) (m := 32) (sub := by8 (parT s)) 3 rfl (by kernel_rfl) (sub_whole (by rw [by8_length, parT_length])) (by rw [by8_length, parT_length])) [2, 62, 63, 64] [(2, pt p3 0), (62, .bool true), (63, .agg (by8 (parT s)).toArray), (64, .agg (by8 (parT s)).toArray)] (by kernel_rfl) (by kernel_rfl) (by kernel_rfl) hS66 ?_
      refine GP.sem 30 (fun w_ H_ => run_by8_same (P := Try.prog) (t := 25) (n := 32) (x := (.tmp 63)) (y := (.tmp 64)) (by kernel_rfl) (parT s) (by rw [parT_length]) _) [2, 62, 65] [(2, pt p3 0), (62, .bool true), (65, .bool true)] (by kernel_rfl) (by kernel_rfl) (by kernel_rfl) hS66 ?_
      refine GP.run [31, 32] [2, 67] [(2, pt p3 0), (67, .bool true)] [0, 2, 1, 3, 4, 5, 6, 7, 8, 9, 10, 11, 12, 13, 14, 15, 16, 17, 18, 19, 20, 21, 22, 23, 24, 25, 26, 27, 28, 29, 30, 31, 32] (by kernel_rfl) rfl hS66 ?_
      refine GP.sem 33 (fun w_ H_ => H_.ldA (o := 0) (ty := 25) (m := 32) (sub := by8 X) 0 rfl (by kernel_rfl) (sub_whole (by rw [by8_length, hX])) (by rw [by8_length, hX])) [2, 67, 68] [(2, pt p3 0), (67, .bool true), (68, .agg (by8 X).toArray)] (by kernel_rfl) (by kernel_rfl) (by kernel_rfl) hS66 ?_
      refine GP.sem 35 (fun w_ H_ => H_.ldA (o := 0) (ty := 25) (m := 32) (sub := by8 X) 0 rfl (by kernel_rfl) (sub_whole (by rw [by8_length, hX])) (by rw [by8_length, hX])) [67, 68, 70] [(67, .bool true), (68, .agg (by8 X).toArray), (70, .agg (by8 X).toArray)] (by kernel_rfl) (by kernel_rfl) (by kernel_rfl) hS66 ?_
      refine GP.run [36] [67, 68, 70, 71] [(67, .bool true), (68, .agg (by8 X).toArray), (70, .agg (by8 X).toArray), (71, .agg (by8 (List.replicate 32 0)).toArray)] [0, 2, 1, 3, 4, 5, 6, 7, 8, 9, 10, 11, 12, 13, 14, 15, 16, 17, 18, 19, 20, 21, 22, 23, 24, 25, 26, 27, 28, 29, 30, 31, 32, 33, 35, 36] (by kernel_rfl) rfl hS66 ?_
      refine GP.sem 37 (fun w_ H_ => run_by8_eql (P := Try.prog) (t := 25) (n := 32) (x := (.tmp 70)) (y := (.tmp 71)) (by kernel_rfl) X (List.replicate 32 0) (by rw [hX]) (by rw [List.length_replicate]) _) [67, 68, 72] [(67, .bool true), (68, .agg (by8 X).toArray), (72, .bool (decide (X = (List.replicate 32 0))))] (by kernel_rfl) (by kernel_rfl) (by kernel_rfl) hS66 ?_
      refine GP.call 34 (Zero_calls X hX w63) (by kernel_rfl) (by kernel_rfl) (fun e_ w73 hR => ?_)
      obtain ⟨rfl, H75⟩ := hR
      have H74 : Hp w [] [.blk p3 (by8 X) 25, .blk p23 (by8 (parT (hexT X))) 25, .blk p35 (by8 (parT s)) 25, .blk p47 (by8 (parT s)) 24] w73 := H64.callNil H75
      have hS76 : Hp w [] [.blk p3 (by8 X) 25, .blk p23 (by8 (parT (hexT X))) 25, .blk p35 (by8 (parT s)) 25, .blk p47 (by8 (parT s)) 24] w73 := H74.sub (List.Sublist.cons_cons _ (List.Sublist.cons_cons _ (List.Sublist.cons_cons _ (List.Sublist.cons_cons _ (List.Sublist.slnil)))))
      refine ⟨_, rfl, hS76, [67, 69, 72], [(67, .bool true), (69, .bool (decide (X = (List.replicate 32 0)))), (72, .bool (decide (X = (List.replicate 32 0))))], by kernel_rfl, ?_⟩
      refine GP.run [38, 39, 40] [4] [(4, .bool ((decide (X = (List.replicate 32 0))) == (decide (X = (List.replicate 32 0)))))] [0, 2, 1, 3, 4, 5, 6, 7, 8, 9, 10, 11, 12, 13, 14, 15, 16, 17, 18, 19, 20, 21, 22, 23, 24, 25, 26, 27, 28, 29, 30, 31, 32, 33, 35, 36, 37, 34, 38, 39, 40] (by kernel_rfl) rfl hS76 ?_
      refine GP.k (by kernel_rfl) hK55 (fun _ _ h => h) ?_
      refine G.ret ?_
      intro F_ hF_ hM_
      refine hRet _ _ (bodyPost_1 rfl (RV.tmp rfl) ?_ F_ hF_ hM_)
      have hb77 : ((decide (X = (List.replicate 32 0))) == (decide (X = (List.replicate 32 0)))) = true := beq_self_eq_true _
      rw [hb77]
      exact ⟨rfl, H74.sub (List.nil_sublist _)⟩
    · skip
      have hokb := hb71
      refine GP.run [23, 24, 25, 26, 27] [2, 7, 9, 62] [(2, pt p3 0), (7, pt p35 0), (9, pt p47 0), (62, .bool true)] [0, 2, 1, 3, 4, 5, 6, 7, 8, 9, 10, 11, 12, 13, 14, 15, 16, 17, 18, 19, 20, 21, 22, 23, 24, 25, 26, 27] (by kernel_rfl) rfl hS66 ?_
      refine GP.sem 28 (fun w_ H_ => H_.ldA (o := 0) (ty := 25) (m := 32) (sub := by8 (parT s)) 2 rfl (by kernel_rfl) (sub_whole (by rw [by8_length, parT_length])) (by rw [by8_length, parT_length])) [2, 9, 62, 63] [(2, pt p3 0), (9, pt p47 0), (62, .bool true), (63, .agg (by8 (parT s)).toArray)] (by kernel_rfl) (by kernel_rfl) (by kernel_rfl) hS66 ?_
      refine GP.sem 29 (fun w_ H_ => H_.ldA (o := 0) (ty := 24) (m := 32) (sub := by8 (parT s)) 3 rfl (by kernel_rfl) (sub_whole (by rw [by8_length, parT_length])) (by rw [by8_length, parT_length])) [2, 62, 63, 64] [(2, pt p3 0), (62, .bool true), (63, .agg (by8 (parT s)).toArray), (64, .agg (by8 (parT s)).toArray)] (by kernel_rfl) (by kernel_rfl) (by kernel_rfl) hS66 ?_
      refine GP.sem 30 (fun w_ H_ => run_by8_same (P := Try.prog) (t := 25) (n := 32) (x := (.tmp 63)) (y := (.tmp 64)) (by kernel_rfl) (parT s) (by rw [parT_length]) _) [2, 62, 65] [(2, pt p3 0), (62, .bool true), (65, .bool true)] (by kernel_rfl) (by kernel_rfl) (by kernel_rfl) hS66 ?_
      refine GP.run [31, 32] [2, 67] [(2, pt p3 0), (67, .bool true)] [0, 2, 1, 3, 4, 5, 6, 7, 8, 9, 10, 11, 12, 13, 14, 15, 16, 17, 18, 19, 20, 21, 22, 23, 24, 25, 26, 27, 28, 29, 30, 31, 32] (by kernel_rfl) rfl hS66 ?_
      refine GP.sem 33 (fun w_ H_ => H_.ldA (o := 0) (ty := 25) (m := 32) (sub := by8 X) 0 rfl (by kernel_rfl) (sub_whole (by rw [by8_length, hX])) (by rw [by8_length, hX])) [2, 67, 68] [(2, pt p3 0), (67, .bool true), (68, .agg (by8 X).toArray)] (by kernel_rfl) (by kernel_rfl) (by kernel_rfl) hS66 ?_
      refine GP.sem 35 (fun w_ H_ => H_.ldA (o := 0) (ty := 25) (m := 32) (sub := by8 X) 0 rfl (by kernel_rfl) (sub_whole (by rw [by8_length, hX])) (by rw [by8_length, hX])) [67, 68, 70] [(67, .bool true), (68, .agg (by8 X).toArray), (70, .agg (by8 X).toArray)] (by kernel_rfl) (by kernel_rfl) (by kernel_rfl) hS66 ?_
      refine GP.run [36] [67, 68, 70, 71] [(67, .bool true), (68, .agg (by8 X).toArray), (70, .agg (by8 X).toArray), (71, .agg (by8 (List.replicate 32 0)).toArray)] [0, 2, 1, 3, 4, 5, 6, 7, 8, 9, 10, 11, 12, 13, 14, 15, 16, 17, 18, 19, 20, 21, 22, 23, 24, 25, 26, 27, 28, 29, 30, 31, 32, 33, 35, 36] (by kernel_rfl) rfl hS66 ?_
      refine GP.sem 37 (fun w_ H_ => run_by8_eql (P := Try.prog) (t := 25) (n := 32) (x := (.tmp 70)) (y := (.tmp 71)) (by kernel_rfl) X (List.replicate 32 0) (by rw [hX]) (by rw [List.length_replicate]) _) [67, 68, 72] [(67, .bool true), (68, .agg (by8 X).toArray), (72, .bool (decide (X = (List.replicate 32 0))))] (by kernel_rfl) (by kernel_rfl) (by kernel_rfl) hS66 ?_
      refine GP.call 34 (Zero_calls X hX w63) (by kernel_rfl) (by kernel_rfl) (fun e_ w78 hR => ?_)
      obtain ⟨rfl, H80⟩ := hR
      have H79 : Hp w [] [.blk p3 (by8 X) 25, .blk p23 (by8 (parT (hexT X))) 25, .blk p35 (by8 (parT s)) 25, .blk p47 (by8 (parT s)) 24] w78 := H64.callNil H80
      have hS81 : Hp w [] [.blk p3 (by8 X) 25, .blk p23 (by8 (parT (hexT X))) 25, .blk p35 (by8 (parT s)) 25, .blk p47 (by8 (parT s)) 24] w78 := H79.sub (List.Sublist.cons_cons _ (List.Sublist.cons_cons _ (List.Sublist.cons_cons _ (List.Sublist.cons_cons _ (List.Sublist.slnil)))))
      refine ⟨_, rfl, hS81, [67, 69, 72], [(67, .bool true), (69, .bool (decide (X = (List.replicate 32 0)))), (72, .bool (decide (X = (List.replicate 32 0))))], by kernel_rfl, ?_⟩
      refine GP.run [38, 39, 40] [4] [(4, .bool ((decide (X = (List.replicate 32 0))) == (decide (X = (List.replicate 32 0)))))] [0, 2, 1, 3, 4, 5, 6, 7, 8, 9, 10, 11, 12, 13, 14, 15, 16, 17, 18, 19, 20, 21, 22, 23, 24, 25, 26, 27, 28, 29, 30, 31, 32, 33, 35, 36, 37, 34, 38, 39, 40] (by kernel_rfl) rfl hS81 ?_
      refine GP.k (by kernel_rfl) hK55 (fun _ _ h => h) ?_
      refine G.ret ?_
      intro F_ hF_ hM_
      refine hRet _ _ (bodyPost_1 rfl (RV.tmp rfl) ?_ F_ hF_ hM_)
      have hb82 : ((decide (X = (List.replicate 32 0))) == (decide (X = (List.replicate 32 0)))) = true := beq_self_eq_true _
      rw [hb82]
      exact ⟨rfl, H79.sub (List.nil_sublist _)⟩
  · skip
    have hb14f := of_decide_eq_true hb14
    refine G.yes rfl ?_
    refine G.seqK fun K83 hK84 => ?_
    refine G.region ?_
    refine GL.call (j := 1) (lives_calls w11) (by kernel_rfl) rfl (fun e_ w85 hR => ?_)
    obtain ⟨rfl, H87⟩ := hR
    have H86 : Hp w [] [.blk p3 (by8 X) 25] w85 := H12.callNil H87
    refine ⟨_, rfl, [18], [(18, .bool true)], by kernel_rfl, ?_⟩
    refine GL.run (j := 2) 1 [4] [(4, .bool true)] (by kernel_rfl) rfl ?_
    refine GL.k rfl hK84 (fun _ _ h => h) ?_
    refine G.ret ?_
    intro F_ hF_ hM_
    refine hRet _ _ (bodyPost_1 rfl (RV.tmp rfl) ?_ F_ hF_ hM_)
    exact ⟨rfl, H86.sub (List.nil_sublist _)⟩
end Go.Proofs.Ytfflicgmgadcmaa
