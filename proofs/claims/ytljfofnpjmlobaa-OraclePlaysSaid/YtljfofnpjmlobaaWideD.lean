/- The contracts of package wide: divided. -/
import Derived.Test.YtljfofnpjmlobaaWideL
namespace Go.Proofs.Ytljfofnpjmlobaa
open Go.RowKit
theorem Div_zero (x : Nat) (w : World) : Calls Try.prog 19 #[wv x, wv 0] w fun e w' => e = .returned (.tuple #[wv 0, wv 0, .int .i64 5]) ∧ Hp w [] [] w' := by
  refine calls_G (args := [wv x, wv 0]) Try.func19 rfl Try.ntmps19 rfl ?_
  intro Q0 hRet hNor hPan
  have H := Hp.start w
  have H : Hp w [] [] w := H
  refine G.seqK fun K1 hK2 => ?_
  refine G.region ?_
  obtain ⟨p3, w4, r5, H6⟩ := H.box (P := Try.prog) 55 [.int .u64 (wd x 0 : Int), .int .u64 (wd x 1 : Int), .int .u64 (wd x 2 : Int), .int .u64 (wd x 3 : Int)] (wv x) rfl
  have H6 : Hp w [] [.blk p3 [.int .u64 (wd x 0 : Int), .int .u64 (wd x 1 : Int), .int .u64 (wd x 2 : Int), .int .u64 (wd x 3 : Int)] 55] w4 := H6
  refine GL.sem (j := 1) (r5) [1, 2] [(1, wv 0), (2, pt p3 0)] (by kernel_rfl) (by kernel_rfl) rfl ?_
  obtain ⟨p7, w8, r9, H10⟩ := H6.box (P := Try.prog) 55 [.int .u64 (wd 0 0 : Int), .int .u64 (wd 0 1 : Int), .int .u64 (wd 0 2 : Int), .int .u64 (wd 0 3 : Int)] (wv 0) rfl
  have H10 : Hp w [] [.blk p3 [.int .u64 (wd x 0 : Int), .int .u64 (wd x 1 : Int), .int .u64 (wd x 2 : Int), .int .u64 (wd x 3 : Int)] 55, .blk p7 [.int .u64 (wd 0 0 : Int), .int .u64 (wd 0 1 : Int), .int .u64 (wd 0 2 : Int), .int .u64 (wd 0 3 : Int)] 55] w8 := H10
  refine GL.sem (j := 2) (r9) [2, 3] [(2, pt p3 0), (3, pt p7 0)] (by kernel_rfl) (by kernel_rfl) rfl ?_
  obtain ⟨p11, w12, r13, H14⟩ := H10.alloc (P := Try.prog) 55 [.int .u64 0, .int .u64 0, .int .u64 0, .int .u64 0] (by kernel_rfl)
  have H14 : Hp w [] [.blk p3 [.int .u64 (wd x 0 : Int), .int .u64 (wd x 1 : Int), .int .u64 (wd x 2 : Int), .int .u64 (wd x 3 : Int)] 55, .blk p7 [.int .u64 (wd 0 0 : Int), .int .u64 (wd 0 1 : Int), .int .u64 (wd 0 2 : Int), .int .u64 (wd 0 3 : Int)] 55, .blk p11 [.int .u64 0, .int .u64 0, .int .u64 0, .int .u64 0] 55] w12 := H14
  refine GL.sem (j := 3) (r13) [2, 3, 4] [(2, pt p3 0), (3, pt p7 0), (4, pt p11 0)] (by kernel_rfl) (by kernel_rfl) rfl ?_
  obtain ⟨p15, w16, r17, H18⟩ := H14.alloc (P := Try.prog) 55 [.int .u64 0, .int .u64 0, .int .u64 0, .int .u64 0] (by kernel_rfl)
  have H18 : Hp w [] [.blk p3 [.int .u64 (wd x 0 : Int), .int .u64 (wd x 1 : Int), .int .u64 (wd x 2 : Int), .int .u64 (wd x 3 : Int)] 55, .blk p7 [.int .u64 (wd 0 0 : Int), .int .u64 (wd 0 1 : Int), .int .u64 (wd 0 2 : Int), .int .u64 (wd 0 3 : Int)] 55, .blk p11 [.int .u64 0, .int .u64 0, .int .u64 0, .int .u64 0] 55, .blk p15 [.int .u64 0, .int .u64 0, .int .u64 0, .int .u64 0] 55] w16 := H18
  refine GL.sem (j := 4) (r17) [2, 3, 4, 5] [(2, pt p3 0), (3, pt p7 0), (4, pt p11 0), (5, pt p15 0)] (by kernel_rfl) (by kernel_rfl) rfl ?_
  refine GL.run (j := 5) 1 [2, 3, 4, 5] [(2, pt p3 0), (3, pt p7 0), (4, pt p11 0), (5, pt p15 0)] (by kernel_rfl) rfl ?_
  refine GL.k rfl hK2 (fun _ _ h => h) ?_
  refine G.seqK fun K19 hK20 => ?_
  refine G.seqK fun K21 hK22 => ?_
  refine G.region ?_
  refine GL.sem (j := 1) (H18.ldA (o := 0) (ty := 55) (m := 4) (sub := [.int .u64 (wd 0 0 : Int), .int .u64 (wd 0 1 : Int), .int .u64 (wd 0 2 : Int), .int .u64 (wd 0 3 : Int)]) 1 rfl (by kernel_rfl) rfl rfl) [2, 3, 4, 5, 11] [(2, pt p3 0), (3, pt p7 0), (4, pt p11 0), (5, pt p15 0), (11, wv 0)] (by kernel_rfl) (by kernel_rfl) rfl ?_
  refine GL.run (j := 2) 1 [2, 3, 4, 5, 11, 12] [(2, pt p3 0), (3, pt p7 0), (4, pt p11 0), (5, pt p15 0), (11, wv 0), (12, .agg #[.int .u64 0, .int .u64 0, .int .u64 0, .int .u64 0])] (by kernel_rfl) rfl ?_
  refine GL.sem (j := 3) (run_arr_eql (P := Try.prog) (t := 55) (n := 4) (k := .u64) (x := (.tmp 11)) (y := (.tmp 12)) (by kernel_rfl) [(wd 0 0 : Int), (wd 0 1 : Int), (wd 0 2 : Int), (wd 0 3 : Int)] [0, 0, 0, 0] rfl rfl _) [2, 3, 4, 5, 13] [(2, pt p3 0), (3, pt p7 0), (4, pt p11 0), (5, pt p15 0), (13, .bool (decide (([(wd 0 0 : Int), (wd 0 1 : Int), (wd 0 2 : Int), (wd 0 3 : Int)] : List Int) = [0, 0, 0, 0])))] (by kernel_rfl) (by kernel_rfl) rfl ?_
  refine GL.k rfl hK22 (fun _ _ h => h) ?_
  have hb23 : (decide (([(wd 0 0 : Int), (wd 0 1 : Int), (wd 0 2 : Int), (wd 0 3 : Int)] : List Int) = [0, 0, 0, 0])) = true := decide_eq_true rfl
  rw [hb23]
  refine G.yes rfl ?_
  refine G.seqK fun K24 hK25 => ?_
  refine G.region ?_
  refine GL.run (j := 2) 2 [4, 5, 14, 15] [(4, pt p11 0), (5, pt p15 0), (14, .agg #[.int .u64 0, .int .u64 0, .int .u64 0, .int .u64 0]), (15, .agg #[.int .u64 0, .int .u64 0, .int .u64 0, .int .u64 0])] (by kernel_rfl) rfl ?_
  obtain ⟨w26, r27, H28⟩ := H18.stA (P := Try.prog) (o := 0) (vs := [.int .u64 0, .int .u64 0, .int .u64 0, .int .u64 0]) (ty := 55) (m := 4) 2 rfl (by kernel_rfl) rfl (by simp) (by simp [Value.oneCell'])
  have H28 : Hp w [] [.blk p3 [.int .u64 (wd x 0 : Int), .int .u64 (wd x 1 : Int), .int .u64 (wd x 2 : Int), .int .u64 (wd x 3 : Int)] 55, .blk p7 [.int .u64 (wd 0 0 : Int), .int .u64 (wd 0 1 : Int), .int .u64 (wd 0 2 : Int), .int .u64 (wd 0 3 : Int)] 55, .blk p11 [.int .u64 0, .int .u64 0, .int .u64 0, .int .u64 0] 55, .blk p15 [.int .u64 0, .int .u64 0, .int .u64 0, .int .u64 0] 55] w26 := H28
  refine GL.semU (j := 3) r27 [4, 5, 15] [(4, pt p11 0), (5, pt p15 0), (15, .agg #[.int .u64 0, .int .u64 0, .int .u64 0, .int .u64 0])] (by kernel_rfl) rfl rfl rfl ?_
  obtain ⟨w29, r30, H31⟩ := H28.stA (P := Try.prog) (o := 0) (vs := [.int .u64 0, .int .u64 0, .int .u64 0, .int .u64 0]) (ty := 55) (m := 4) 3 rfl (by kernel_rfl) rfl (by simp) (by simp [Value.oneCell'])
  have H31 : Hp w [] [.blk p3 [.int .u64 (wd x 0 : Int), .int .u64 (wd x 1 : Int), .int .u64 (wd x 2 : Int), .int .u64 (wd x 3 : Int)] 55, .blk p7 [.int .u64 (wd 0 0 : Int), .int .u64 (wd 0 1 : Int), .int .u64 (wd 0 2 : Int), .int .u64 (wd 0 3 : Int)] 55, .blk p11 [.int .u64 0, .int .u64 0, .int .u64 0, .int .u64 0] 55, .blk p15 [.int .u64 0, .int .u64 0, .int .u64 0, .int .u64 0] 55] w29 := H31
  refine GL.semU (j := 4) r30 [4, 5] [(4, pt p11 0), (5, pt p15 0)] (by kernel_rfl) rfl rfl rfl ?_
  refine GL.run (j := 5) 1 [4, 5, 6] [(4, pt p11 0), (5, pt p15 0), (6, .int .i64 5)] (by kernel_rfl) rfl ?_
  refine GL.k rfl hK25 (fun _ _ h => h) ?_
  refine G.ret ?_
  intro F_ hF_ hM_
  refine hRet _ _ (bodyPost_3 rfl (RV.cell rfl (H31.ldA (o := 0) (ty := 55) (m := 4) (sub := [.int .u64 0, .int .u64 0, .int .u64 0, .int .u64 0]) 2 rfl (by kernel_rfl) rfl rfl)) (RV.cell rfl (H31.ldA (o := 0) (ty := 55) (m := 4) (sub := [.int .u64 0, .int .u64 0, .int .u64 0, .int .u64 0]) 3 rfl (by kernel_rfl) rfl rfl)) (RV.tmp rfl) ?_ F_ hF_ hM_)
  exact ⟨rfl, H31.sub (List.nil_sublist _)⟩
theorem Div_calls (x y : Nat) (hx : x < K4) (hy : y < K4) (hy0 : y ≠ 0) (w : World) : Calls Try.prog 19 #[wv x, wv y] w fun e w' => e = .returned (.tuple #[wv (x / y), wv (x % y), .int .i64 0]) ∧ Hp w [] [] w' := by
  have hbl := bl_le (k := 256) (show x < 2 ^ 256 from hx)
  refine calls_G (args := [wv x, wv y]) Try.func19 rfl Try.ntmps19 rfl ?_
  intro Q0 hRet hNor hPan
  have H := Hp.start w
  have H : Hp w [] [] w := H
  refine G.seqK fun K1 hK2 => ?_
  refine G.region ?_
  obtain ⟨p3, w4, r5, H6⟩ := H.box (P := Try.prog) 55 [.int .u64 (wd x 0 : Int), .int .u64 (wd x 1 : Int), .int .u64 (wd x 2 : Int), .int .u64 (wd x 3 : Int)] (wv x) rfl
  have H6 : Hp w [] [.blk p3 [.int .u64 (wd x 0 : Int), .int .u64 (wd x 1 : Int), .int .u64 (wd x 2 : Int), .int .u64 (wd x 3 : Int)] 55] w4 := H6
  refine GL.sem (j := 1) (r5) [1, 2] [(1, wv y), (2, pt p3 0)] (by kernel_rfl) (by kernel_rfl) rfl ?_
  obtain ⟨p7, w8, r9, H10⟩ := H6.box (P := Try.prog) 55 [.int .u64 (wd y 0 : Int), .int .u64 (wd y 1 : Int), .int .u64 (wd y 2 : Int), .int .u64 (wd y 3 : Int)] (wv y) rfl
  have H10 : Hp w [] [.blk p3 [.int .u64 (wd x 0 : Int), .int .u64 (wd x 1 : Int), .int .u64 (wd x 2 : Int), .int .u64 (wd x 3 : Int)] 55, .blk p7 [.int .u64 (wd y 0 : Int), .int .u64 (wd y 1 : Int), .int .u64 (wd y 2 : Int), .int .u64 (wd y 3 : Int)] 55] w8 := H10
  refine GL.sem (j := 2) (r9) [2, 3] [(2, pt p3 0), (3, pt p7 0)] (by kernel_rfl) (by kernel_rfl) rfl ?_
  obtain ⟨p11, w12, r13, H14⟩ := H10.alloc (P := Try.prog) 55 [.int .u64 0, .int .u64 0, .int .u64 0, .int .u64 0] (by kernel_rfl)
  have H14 : Hp w [] [.blk p3 [.int .u64 (wd x 0 : Int), .int .u64 (wd x 1 : Int), .int .u64 (wd x 2 : Int), .int .u64 (wd x 3 : Int)] 55, .blk p7 [.int .u64 (wd y 0 : Int), .int .u64 (wd y 1 : Int), .int .u64 (wd y 2 : Int), .int .u64 (wd y 3 : Int)] 55, .blk p11 [.int .u64 0, .int .u64 0, .int .u64 0, .int .u64 0] 55] w12 := H14
  refine GL.sem (j := 3) (r13) [2, 3, 4] [(2, pt p3 0), (3, pt p7 0), (4, pt p11 0)] (by kernel_rfl) (by kernel_rfl) rfl ?_
  obtain ⟨p15, w16, r17, H18⟩ := H14.alloc (P := Try.prog) 55 [.int .u64 0, .int .u64 0, .int .u64 0, .int .u64 0] (by kernel_rfl)
  have H18 : Hp w [] [.blk p3 [.int .u64 (wd x 0 : Int), .int .u64 (wd x 1 : Int), .int .u64 (wd x 2 : Int), .int .u64 (wd x 3 : Int)] 55, .blk p7 [.int .u64 (wd y 0 : Int), .int .u64 (wd y 1 : Int), .int .u64 (wd y 2 : Int), .int .u64 (wd y 3 : Int)] 55, .blk p11 [.int .u64 0, .int .u64 0, .int .u64 0, .int .u64 0] 55, .blk p15 [.int .u64 0, .int .u64 0, .int .u64 0, .int .u64 0] 55] w16 := H18
  refine GL.sem (j := 4) (r17) [2, 3, 4, 5] [(2, pt p3 0), (3, pt p7 0), (4, pt p11 0), (5, pt p15 0)] (by kernel_rfl) (by kernel_rfl) rfl ?_
  refine GL.run (j := 5) 1 [2, 3, 4, 5] [(2, pt p3 0), (3, pt p7 0), (4, pt p11 0), (5, pt p15 0)] (by kernel_rfl) rfl ?_
  refine GL.k rfl hK2 (fun _ _ h => h) ?_
  refine G.seqK fun K19 hK20 => ?_
  refine G.seqK fun K21 hK22 => ?_
  refine G.region ?_
  refine GL.sem (j := 1) (H18.ldA (o := 0) (ty := 55) (m := 4) (sub := [.int .u64 (wd y 0 : Int), .int .u64 (wd y 1 : Int), .int .u64 (wd y 2 : Int), .int .u64 (wd y 3 : Int)]) 1 rfl (by kernel_rfl) rfl rfl) [2, 3, 4, 5, 11] [(2, pt p3 0), (3, pt p7 0), (4, pt p11 0), (5, pt p15 0), (11, wv y)] (by kernel_rfl) (by kernel_rfl) rfl ?_
  refine GL.run (j := 2) 1 [2, 3, 4, 5, 11, 12] [(2, pt p3 0), (3, pt p7 0), (4, pt p11 0), (5, pt p15 0), (11, wv y), (12, .agg #[.int .u64 0, .int .u64 0, .int .u64 0, .int .u64 0])] (by kernel_rfl) rfl ?_
  refine GL.sem (j := 3) (run_arr_eql (P := Try.prog) (t := 55) (n := 4) (k := .u64) (x := (.tmp 11)) (y := (.tmp 12)) (by kernel_rfl) [(wd y 0 : Int), (wd y 1 : Int), (wd y 2 : Int), (wd y 3 : Int)] [0, 0, 0, 0] rfl rfl _) [2, 3, 4, 5, 13] [(2, pt p3 0), (3, pt p7 0), (4, pt p11 0), (5, pt p15 0), (13, .bool (decide (([(wd y 0 : Int), (wd y 1 : Int), (wd y 2 : Int), (wd y 3 : Int)] : List Int) = [0, 0, 0, 0])))] (by kernel_rfl) (by kernel_rfl) rfl ?_
  refine GL.k rfl hK22 (fun _ _ h => h) ?_
  have hb23 : (decide (([(wd y 0 : Int), (wd y 1 : Int), (wd y 2 : Int), (wd y 3 : Int)] : List Int) = [0, 0, 0, 0])) = false := decide_eq_false (fun h => hy0 ((wv_eq (y := 0) hy (by decide)).1 h))
  rw [hb23]
  refine G.no rfl ?_
  refine G.skipK hK20 (fun _ _ h => h) ?_
  refine G.seqK fun K24 hK25 => ?_
  refine G.region ?_
  obtain ⟨p26, w27, r28, H29⟩ := H18.alloc (P := Try.prog) 55 [.int .u64 0, .int .u64 0, .int .u64 0, .int .u64 0] (by kernel_rfl)
  have H29 : Hp w [] [.blk p3 [.int .u64 (wd x 0 : Int), .int .u64 (wd x 1 : Int), .int .u64 (wd x 2 : Int), .int .u64 (wd x 3 : Int)] 55, .blk p7 [.int .u64 (wd y 0 : Int), .int .u64 (wd y 1 : Int), .int .u64 (wd y 2 : Int), .int .u64 (wd y 3 : Int)] 55, .blk p11 [.int .u64 0, .int .u64 0, .int .u64 0, .int .u64 0] 55, .blk p15 [.int .u64 0, .int .u64 0, .int .u64 0, .int .u64 0] 55, .blk p26 [.int .u64 0, .int .u64 0, .int .u64 0, .int .u64 0] 55] w27 := H29
  refine GL.sem (j := 1) (r28) [2, 3, 4, 5, 7] [(2, pt p3 0), (3, pt p7 0), (4, pt p11 0), (5, pt p15 0), (7, pt p26 0)] (by kernel_rfl) (by kernel_rfl) rfl ?_
  obtain ⟨p30, w31, r32, H33⟩ := H29.alloc (P := Try.prog) 55 [.int .u64 0, .int .u64 0, .int .u64 0, .int .u64 0] (by kernel_rfl)
  have H33 : Hp w [] [.blk p3 [.int .u64 (wd x 0 : Int), .int .u64 (wd x 1 : Int), .int .u64 (wd x 2 : Int), .int .u64 (wd x 3 : Int)] 55, .blk p7 [.int .u64 (wd y 0 : Int), .int .u64 (wd y 1 : Int), .int .u64 (wd y 2 : Int), .int .u64 (wd y 3 : Int)] 55, .blk p11 [.int .u64 0, .int .u64 0, .int .u64 0, .int .u64 0] 55, .blk p15 [.int .u64 0, .int .u64 0, .int .u64 0, .int .u64 0] 55, .blk p26 [.int .u64 0, .int .u64 0, .int .u64 0, .int .u64 0] 55, .blk p30 [.int .u64 0, .int .u64 0, .int .u64 0, .int .u64 0] 55] w31 := H33
  refine GL.sem (j := 2) (r32) [2, 3, 4, 5, 7, 8] [(2, pt p3 0), (3, pt p7 0), (4, pt p11 0), (5, pt p15 0), (7, pt p26 0), (8, pt p30 0)] (by kernel_rfl) (by kernel_rfl) rfl ?_
  refine GL.k rfl hK25 (fun _ _ h => h) ?_
  refine G.seqK fun K34 hK35 => ?_
  refine G.seqK fun K36 hK37 => ?_
  refine G.region ?_
  refine GL.sem (j := 1) (H33.ldA (o := 0) (ty := 55) (m := 4) (sub := [.int .u64 (wd x 0 : Int), .int .u64 (wd x 1 : Int), .int .u64 (wd x 2 : Int), .int .u64 (wd x 3 : Int)]) 0 rfl (by kernel_rfl) rfl rfl) [2, 3, 4, 5, 7, 8, 16] [(2, pt p3 0), (3, pt p7 0), (4, pt p11 0), (5, pt p15 0), (7, pt p26 0), (8, pt p30 0), (16, wv x)] (by kernel_rfl) (by kernel_rfl) rfl ?_
  refine GL.call (j := 2) (Bits_calls x hx w31) (by kernel_rfl) rfl (fun e_ w38 hR => ?_)
  obtain ⟨rfl, H40⟩ := hR
  have H39 : Hp w [] [.blk p3 [.int .u64 (wd x 0 : Int), .int .u64 (wd x 1 : Int), .int .u64 (wd x 2 : Int), .int .u64 (wd x 3 : Int)] 55, .blk p7 [.int .u64 (wd y 0 : Int), .int .u64 (wd y 1 : Int), .int .u64 (wd y 2 : Int), .int .u64 (wd y 3 : Int)] 55, .blk p11 [.int .u64 0, .int .u64 0, .int .u64 0, .int .u64 0] 55, .blk p15 [.int .u64 0, .int .u64 0, .int .u64 0, .int .u64 0] 55, .blk p26 [.int .u64 0, .int .u64 0, .int .u64 0, .int .u64 0] 55, .blk p30 [.int .u64 0, .int .u64 0, .int .u64 0, .int .u64 0] 55] w38 := H33.callNil H40
  refine ⟨_, rfl, [2, 3, 4, 5, 7, 8, 17], [(2, pt p3 0), (3, pt p7 0), (4, pt p11 0), (5, pt p15 0), (7, pt p26 0), (8, pt p30 0), (17, .int .i64 ((bl x : Nat) : Int))], by kernel_rfl, ?_⟩
  refine GL.run (j := 4) 2 [2, 3, 4, 5, 7, 8, 9] [(2, pt p3 0), (3, pt p7 0), (4, pt p11 0), (5, pt p15 0), (7, pt p26 0), (8, pt p30 0), (9, .int .i64 (IntKind.i64.wrap (((bl x : Nat) : Int) - 1)))] (by kernel_rfl) rfl ?_
  have e41 : (IntKind.i64.wrap (((bl x : Nat) : Int) - 1)) = (((bl x : Nat) : Int) - 1) := in_i64 (by omega)
  refine GL.eq (M' := [(2, pt p3 0), (3, pt p7 0), (4, pt p11 0), (5, pt p15 0), (7, pt p26 0), (8, pt p30 0), (9, .int .i64 (((bl x : Nat) : Int) - 1))]) (by rw [e41]) ?_
  clear e41
  refine GL.k rfl hK37 (fun _ _ h => h) ?_
  refine G.block ?_
  have z0 : x / 2 ^ (bl x) = 0 := Nat.div_eq_of_lt (bl_lt x)
  have H42 : Hp w [] [.blk p3 [.int .u64 (wd x 0 : Int), .int .u64 (wd x 1 : Int), .int .u64 (wd x 2 : Int), .int .u64 (wd x 3 : Int)] 55, .blk p7 [.int .u64 (wd y 0 : Int), .int .u64 (wd y 1 : Int), .int .u64 (wd y 2 : Int), .int .u64 (wd y 3 : Int)] 55, .blk p11 [.int .u64 0, .int .u64 0, .int .u64 0, .int .u64 0] 55, .blk p15 [.int .u64 0, .int .u64 0, .int .u64 0, .int .u64 0] 55, .blk p26 [.int .u64 (wd (x / 2 ^ (bl x) / y * 2 ^ (bl x)) 0 : Int), .int .u64 (wd (x / 2 ^ (bl x) / y * 2 ^ (bl x)) 1 : Int), .int .u64 (wd (x / 2 ^ (bl x) / y * 2 ^ (bl x)) 2 : Int), .int .u64 (wd (x / 2 ^ (bl x) / y * 2 ^ (bl x)) 3 : Int)] 55, .blk p30 [.int .u64 (wd (x / 2 ^ (bl x) % y) 0 : Int), .int .u64 (wd (x / 2 ^ (bl x) % y) 1 : Int), .int .u64 (wd (x / 2 ^ (bl x) % y) 2 : Int), .int .u64 (wd (x / 2 ^ (bl x) % y) 3 : Int)] 55] w38 := by rw [z0, Nat.zero_div, Nat.zero_mul, Nat.zero_mod]; exact H39
  refine G.fit [2, 3, 4, 5, 7, 8, 9] (M' := [(2, pt p3 0), (3, pt p7 0), (4, pt p11 0), (5, pt p15 0), (7, pt p26 0), (8, pt p30 0), (9, .int .i64 (((bl x : Nat) : Int) - 1))]) (by kernel_rfl) ?_
  refine G.eq (M' := [(2, pt p3 0), (3, pt p7 0), (4, pt p11 0), (5, pt p15 0), (7, pt p26 0), (8, pt p30 0), (9, .int .i64 ((((bl x) : Nat) : Int) - 1))]) (by rfl) ?_
  refine G.loop (X := Nat) (fun m => [(2, pt p3 0), (3, pt p7 0), (4, pt p11 0), (5, pt p15 0), (7, pt p26 0), (8, pt p30 0), (9, .int .i64 (((m : Nat) : Int) - 1))]) (fun m w_ => (m ≤ bl x) ∧ Hp w [] [.blk p3 [.int .u64 (wd x 0 : Int), .int .u64 (wd x 1 : Int), .int .u64 (wd x 2 : Int), .int .u64 (wd x 3 : Int)] 55, .blk p7 [.int .u64 (wd y 0 : Int), .int .u64 (wd y 1 : Int), .int .u64 (wd y 2 : Int), .int .u64 (wd y 3 : Int)] 55, .blk p11 [.int .u64 0, .int .u64 0, .int .u64 0, .int .u64 0] 55, .blk p15 [.int .u64 0, .int .u64 0, .int .u64 0, .int .u64 0] 55, .blk p26 [.int .u64 (wd (x / 2 ^ m / y * 2 ^ m) 0 : Int), .int .u64 (wd (x / 2 ^ m / y * 2 ^ m) 1 : Int), .int .u64 (wd (x / 2 ^ m / y * 2 ^ m) 2 : Int), .int .u64 (wd (x / 2 ^ m / y * 2 ^ m) 3 : Int)] 55, .blk p30 [.int .u64 (wd (x / 2 ^ m % y) 0 : Int), .int .u64 (wd (x / 2 ^ m % y) 1 : Int), .int .u64 (wd (x / 2 ^ m % y) 2 : Int), .int .u64 (wd (x / 2 ^ m % y) 3 : Int)] 55] w_) (fun m => m) (bl x) [2, 3, 4, 5, 7, 8, 9] (by kernel_rfl) ⟨Nat.le_refl _, H42⟩ ?_
  rintro m w43 ⟨hi44, H45⟩
  refine G.eq (M' := [(2, pt p3 0), (3, pt p7 0), (4, pt p11 0), (5, pt p15 0), (7, pt p26 0), (8, pt p30 0), (9, .int .i64 (((m : Nat) : Int) - 1))]) rfl ?_
  have H45 : Hp w [] [.blk p3 [.int .u64 (wd x 0 : Int), .int .u64 (wd x 1 : Int), .int .u64 (wd x 2 : Int), .int .u64 (wd x 3 : Int)] 55, .blk p7 [.int .u64 (wd y 0 : Int), .int .u64 (wd y 1 : Int), .int .u64 (wd y 2 : Int), .int .u64 (wd y 3 : Int)] 55, .blk p11 [.int .u64 0, .int .u64 0, .int .u64 0, .int .u64 0] 55, .blk p15 [.int .u64 0, .int .u64 0, .int .u64 0, .int .u64 0] 55, .blk p26 [.int .u64 (wd (x / 2 ^ m / y * 2 ^ m) 0 : Int), .int .u64 (wd (x / 2 ^ m / y * 2 ^ m) 1 : Int), .int .u64 (wd (x / 2 ^ m / y * 2 ^ m) 2 : Int), .int .u64 (wd (x / 2 ^ m / y * 2 ^ m) 3 : Int)] 55, .blk p30 [.int .u64 (wd (x / 2 ^ m % y) 0 : Int), .int .u64 (wd (x / 2 ^ m % y) 1 : Int), .int .u64 (wd (x / 2 ^ m % y) 2 : Int), .int .u64 (wd (x / 2 ^ m % y) 3 : Int)] 55] w43 := H45
  have hm := hi44
  obtain ⟨R, hR⟩ : ∃ R : Nat, R = x / 2 ^ m % y := ⟨_, rfl⟩
  obtain ⟨Q, hQ⟩ : ∃ Q : Nat, Q = x / 2 ^ m / y * 2 ^ m := ⟨_, rfl⟩
  have hRy : R < y := by rw [hR]; exact Nat.mod_lt _ (by omega)
  have hR4 : R < K4 := by omega
  have hQ4 : Q < K4 := by rw [hQ]; exact Nat.lt_of_le_of_lt (Nat.le_trans (Nat.mul_le_mul_right _ (Nat.div_le_self _ _)) (Nat.div_mul_le_self _ _)) hx
  rw [← hR, ← hQ] at H45
  have H45 : Hp w [] [.blk p3 [.int .u64 (wd x 0 : Int), .int .u64 (wd x 1 : Int), .int .u64 (wd x 2 : Int), .int .u64 (wd x 3 : Int)] 55, .blk p7 [.int .u64 (wd y 0 : Int), .int .u64 (wd y 1 : Int), .int .u64 (wd y 2 : Int), .int .u64 (wd y 3 : Int)] 55, .blk p11 [.int .u64 0, .int .u64 0, .int .u64 0, .int .u64 0] 55, .blk p15 [.int .u64 0, .int .u64 0, .int .u64 0, .int .u64 0] 55, .blk p26 [.int .u64 (wd Q 0 : Int), .int .u64 (wd Q 1 : Int), .int .u64 (wd Q 2 : Int), .int .u64 (wd Q 3 : Int)] 55, .blk p30 [.int .u64 (wd R 0 : Int), .int .u64 (wd R 1 : Int), .int .u64 (wd R 2 : Int), .int .u64 (wd R 3 : Int)] 55] w43 := H45
  refine G.seqK fun K46 hK47 => ?_
  refine G.seqK fun K48 hK49 => ?_
  refine G.region ?_
  refine GL.run (j := 2) 2 [2, 3, 4, 5, 7, 8, 9, 20] [(2, pt p3 0), (3, pt p7 0), (4, pt p11 0), (5, pt p15 0), (7, pt p26 0), (8, pt p30 0), (9, .int .i64 (((m : Nat) : Int) - 1)), (20, .bool (decide (0 ≤ (((m : Nat) : Int) - 1))))] (by kernel_rfl) rfl ?_
  refine GL.k rfl hK49 (fun _ _ h => h) ?_
  cases hb50 : (decide (0 ≤ (((m : Nat) : Int) - 1)))
  · skip
    have hb50f := of_decide_eq_false hb50
    have hm0 : m = 0 := by have := of_decide_eq_false hb50; omega
    refine G.no rfl ?_
    refine G.exitK hK35 (fun _ _ h => h) ?_
    refine G.seqK fun K51 hK52 => ?_
    refine G.heldP (Hp w [] [.blk p3 [.int .u64 (wd x 0 : Int), .int .u64 (wd x 1 : Int), .int .u64 (wd x 2 : Int), .int .u64 (wd x 3 : Int)] 55, .blk p7 [.int .u64 (wd y 0 : Int), .int .u64 (wd y 1 : Int), .int .u64 (wd y 2 : Int), .int .u64 (wd y 3 : Int)] 55, .blk p26 [.int .u64 (wd Q 0 : Int), .int .u64 (wd Q 1 : Int), .int .u64 (wd Q 2 : Int), .int .u64 (wd Q 3 : Int)] 55, .blk p30 [.int .u64 (wd R 0 : Int), .int .u64 (wd R 1 : Int), .int .u64 (wd R 2 : Int), .int .u64 (wd R 3 : Int)] 55]) (by kernel_rfl) (by kernel_rfl) (fun c_ a_ d_ v_ w_ h_ => hPan c_ a_ d_ v_ w_ h_) ?_
    have H53 := H45.drew
    generalize ({ w43 with drawn := w43.drawn + 1 } : World) = w54 at H53 ⊢
    have hS55 : Hp w [] [.blk p3 [.int .u64 (wd x 0 : Int), .int .u64 (wd x 1 : Int), .int .u64 (wd x 2 : Int), .int .u64 (wd x 3 : Int)] 55, .blk p7 [.int .u64 (wd y 0 : Int), .int .u64 (wd y 1 : Int), .int .u64 (wd y 2 : Int), .int .u64 (wd y 3 : Int)] 55, .blk p26 [.int .u64 (wd Q 0 : Int), .int .u64 (wd Q 1 : Int), .int .u64 (wd Q 2 : Int), .int .u64 (wd Q 3 : Int)] 55, .blk p30 [.int .u64 (wd R 0 : Int), .int .u64 (wd R 1 : Int), .int .u64 (wd R 2 : Int), .int .u64 (wd R 3 : Int)] 55] w54 := H53.sub (List.Sublist.cons_cons _ (List.Sublist.cons_cons _ (List.Sublist.cons _ (List.Sublist.cons _ (List.Sublist.cons_cons _ (List.Sublist.cons_cons _ (List.Sublist.slnil)))))))
    refine GP.sem 0 (fun w_ H_ => H_.ldA (o := 0) (ty := 55) (m := 4) (sub := [.int .u64 (wd Q 0 : Int), .int .u64 (wd Q 1 : Int), .int .u64 (wd Q 2 : Int), .int .u64 (wd Q 3 : Int)]) 2 rfl (by kernel_rfl) rfl rfl) [4, 5, 8, 63] [(4, pt p11 0), (5, pt p15 0), (8, pt p30 0), (63, wv Q)] (by kernel_rfl) (by kernel_rfl) (by kernel_rfl) hS55 ?_
    refine GP.sem 1 (fun w_ H_ => H_.ldA (o := 0) (ty := 55) (m := 4) (sub := [.int .u64 (wd R 0 : Int), .int .u64 (wd R 1 : Int), .int .u64 (wd R 2 : Int), .int .u64 (wd R 3 : Int)]) 3 rfl (by kernel_rfl) rfl rfl) [4, 5, 63, 64] [(4, pt p11 0), (5, pt p15 0), (63, wv Q), (64, wv R)] (by kernel_rfl) (by kernel_rfl) (by kernel_rfl) hS55 ?_
    obtain ⟨w56, r57, H58⟩ := H53.stA (P := Try.prog) (o := 0) (vs := [.int .u64 (wd Q 0 : Int), .int .u64 (wd Q 1 : Int), .int .u64 (wd Q 2 : Int), .int .u64 (wd Q 3 : Int)]) (ty := 55) (m := 4) 2 rfl (by kernel_rfl) rfl (by simp) (by simp [Value.oneCell'])
    have H58 : Hp w [] [.blk p3 [.int .u64 (wd x 0 : Int), .int .u64 (wd x 1 : Int), .int .u64 (wd x 2 : Int), .int .u64 (wd x 3 : Int)] 55, .blk p7 [.int .u64 (wd y 0 : Int), .int .u64 (wd y 1 : Int), .int .u64 (wd y 2 : Int), .int .u64 (wd y 3 : Int)] 55, .blk p11 [.int .u64 (wd Q 0 : Int), .int .u64 (wd Q 1 : Int), .int .u64 (wd Q 2 : Int), .int .u64 (wd Q 3 : Int)] 55, .blk p15 [.int .u64 0, .int .u64 0, .int .u64 0, .int .u64 0] 55, .blk p26 [.int .u64 (wd Q 0 : Int), .int .u64 (wd Q 1 : Int), .int .u64 (wd Q 2 : Int), .int .u64 (wd Q 3 : Int)] 55, .blk p30 [.int .u64 (wd R 0 : Int), .int .u64 (wd R 1 : Int), .int .u64 (wd R 2 : Int), .int .u64 (wd R 3 : Int)] 55] w56 := H58
    have hS59 : Hp w [] [.blk p3 [.int .u64 (wd x 0 : Int), .int .u64 (wd x 1 : Int), .int .u64 (wd x 2 : Int), .int .u64 (wd x 3 : Int)] 55, .blk p7 [.int .u64 (wd y 0 : Int), .int .u64 (wd y 1 : Int), .int .u64 (wd y 2 : Int), .int .u64 (wd y 3 : Int)] 55, .blk p26 [.int .u64 (wd Q 0 : Int), .int .u64 (wd Q 1 : Int), .int .u64 (wd Q 2 : Int), .int .u64 (wd Q 3 : Int)] 55, .blk p30 [.int .u64 (wd R 0 : Int), .int .u64 (wd R 1 : Int), .int .u64 (wd R 2 : Int), .int .u64 (wd R 3 : Int)] 55] w56 := H58.sub (List.Sublist.cons_cons _ (List.Sublist.cons_cons _ (List.Sublist.cons _ (List.Sublist.cons _ (List.Sublist.cons_cons _ (List.Sublist.cons_cons _ (List.Sublist.slnil)))))))
    refine GP.semU 2 r57 [4, 5, 64] [(4, pt p11 0), (5, pt p15 0), (64, wv R)] (by kernel_rfl) rfl rfl (by kernel_rfl) hS59 ?_
    obtain ⟨w60, r61, H62⟩ := H58.stA (P := Try.prog) (o := 0) (vs := [.int .u64 (wd R 0 : Int), .int .u64 (wd R 1 : Int), .int .u64 (wd R 2 : Int), .int .u64 (wd R 3 : Int)]) (ty := 55) (m := 4) 3 rfl (by kernel_rfl) rfl (by simp) (by simp [Value.oneCell'])
    have H62 : Hp w [] [.blk p3 [.int .u64 (wd x 0 : Int), .int .u64 (wd x 1 : Int), .int .u64 (wd x 2 : Int), .int .u64 (wd x 3 : Int)] 55, .blk p7 [.int .u64 (wd y 0 : Int), .int .u64 (wd y 1 : Int), .int .u64 (wd y 2 : Int), .int .u64 (wd y 3 : Int)] 55, .blk p11 [.int .u64 (wd Q 0 : Int), .int .u64 (wd Q 1 : Int), .int .u64 (wd Q 2 : Int), .int .u64 (wd Q 3 : Int)] 55, .blk p15 [.int .u64 (wd R 0 : Int), .int .u64 (wd R 1 : Int), .int .u64 (wd R 2 : Int), .int .u64 (wd R 3 : Int)] 55, .blk p26 [.int .u64 (wd Q 0 : Int), .int .u64 (wd Q 1 : Int), .int .u64 (wd Q 2 : Int), .int .u64 (wd Q 3 : Int)] 55, .blk p30 [.int .u64 (wd R 0 : Int), .int .u64 (wd R 1 : Int), .int .u64 (wd R 2 : Int), .int .u64 (wd R 3 : Int)] 55] w60 := H62
    have hS63 : Hp w [] [.blk p3 [.int .u64 (wd x 0 : Int), .int .u64 (wd x 1 : Int), .int .u64 (wd x 2 : Int), .int .u64 (wd x 3 : Int)] 55, .blk p7 [.int .u64 (wd y 0 : Int), .int .u64 (wd y 1 : Int), .int .u64 (wd y 2 : Int), .int .u64 (wd y 3 : Int)] 55, .blk p26 [.int .u64 (wd Q 0 : Int), .int .u64 (wd Q 1 : Int), .int .u64 (wd Q 2 : Int), .int .u64 (wd Q 3 : Int)] 55, .blk p30 [.int .u64 (wd R 0 : Int), .int .u64 (wd R 1 : Int), .int .u64 (wd R 2 : Int), .int .u64 (wd R 3 : Int)] 55] w60 := H62.sub (List.Sublist.cons_cons _ (List.Sublist.cons_cons _ (List.Sublist.cons _ (List.Sublist.cons _ (List.Sublist.cons_cons _ (List.Sublist.cons_cons _ (List.Sublist.slnil)))))))
    refine GP.semU 3 r61 [4, 5] [(4, pt p11 0), (5, pt p15 0)] (by kernel_rfl) rfl rfl (by kernel_rfl) hS63 ?_
    refine GP.run [4] [4, 5, 6] [(4, pt p11 0), (5, pt p15 0), (6, .int .i64 0)] [0, 1, 2, 3, 4] (by kernel_rfl) rfl hS63 ?_
    refine GP.k (by kernel_rfl) hK52 (fun _ _ h => h) ?_
    refine G.ret ?_
    intro F_ hF_ hM_
    refine hRet _ _ (bodyPost_3 rfl (RV.cell rfl (H62.ldA (o := 0) (ty := 55) (m := 4) (sub := [.int .u64 (wd Q 0 : Int), .int .u64 (wd Q 1 : Int), .int .u64 (wd Q 2 : Int), .int .u64 (wd Q 3 : Int)]) 2 rfl (by kernel_rfl) rfl rfl)) (RV.cell rfl (H62.ldA (o := 0) (ty := 55) (m := 4) (sub := [.int .u64 (wd R 0 : Int), .int .u64 (wd R 1 : Int), .int .u64 (wd R 2 : Int), .int .u64 (wd R 3 : Int)]) 3 rfl (by kernel_rfl) rfl rfl)) (RV.tmp rfl) ?_ F_ hF_ hM_)
    have eQ : Q = x / y := by rw [hQ, hm0, Nat.pow_zero, Nat.div_one, Nat.mul_one]
    have eR : R = x % y := by rw [hR, hm0, Nat.pow_zero, Nat.div_one]
    rw [← eQ, ← eR]
    exact ⟨rfl, H62.sub (List.nil_sublist _)⟩
  · skip
    have hb50f := of_decide_eq_true hb50
    have hm0 : 0 < m := by have := of_decide_eq_true hb50; omega
    have ei : (((m : Nat) : Int) - 1) = ((m - 1 : Nat) : Int) := by omega
    refine G.eq (M' := [(2, pt p3 0), (3, pt p7 0), (4, pt p11 0), (5, pt p15 0), (7, pt p26 0), (8, pt p30 0), (9, .int .i64 ((m - 1 : Nat) : Int)), (20, .bool true)]) (by rw [ei]) ?_
    refine G.yes rfl ?_
    refine G.skipK hK47 (fun _ _ h => h) ?_
    refine G.seqK fun K64 hK65 => ?_
    refine G.block ?_
    refine G.seqK fun K66 hK67 => ?_
    refine G.region ?_
    refine GL.run (j := 1) 1 [2, 3, 4, 5, 7, 8, 9, 23] [(2, pt p3 0), (3, pt p7 0), (4, pt p11 0), (5, pt p15 0), (7, pt p26 0), (8, pt p30 0), (9, .int .i64 ((m - 1 : Nat) : Int)), (23, pt p30 3)] (by kernel_rfl) rfl ?_
    refine GL.sem (j := 2) (H45.ld (o := 3) (ty := 22) (v := .int .u64 (wd R 3 : Int)) 5 rfl (by kernel_rfl) rfl) [2, 3, 4, 5, 7, 8, 9, 24] [(2, pt p3 0), (3, pt p7 0), (4, pt p11 0), (5, pt p15 0), (7, pt p26 0), (8, pt p30 0), (9, .int .i64 ((m - 1 : Nat) : Int)), (24, .int .u64 (wd R 3 : Int))] (by kernel_rfl) (by kernel_rfl) rfl ?_
    refine GL.run (j := 5) 3 [2, 3, 4, 5, 7, 8, 9, 10] [(2, pt p3 0), (3, pt p7 0), (4, pt p11 0), (5, pt p15 0), (7, pt p26 0), (8, pt p30 0), (9, .int .i64 ((m - 1 : Nat) : Int)), (10, .bool ((Int.fdiv (wd R 3 : Int) (2 ^ 63)) == 1))] (by kernel_rfl) rfl ?_
    have e68 : (Int.fdiv (wd R 3 : Int) (2 ^ 63)) = ((wd R 3 / 2 ^ 63 : Nat) : Int) := n_shr _ 63
    refine GL.eq (M' := [(2, pt p3 0), (3, pt p7 0), (4, pt p11 0), (5, pt p15 0), (7, pt p26 0), (8, pt p30 0), (9, .int .i64 ((m - 1 : Nat) : Int)), (10, .bool (((wd R 3 / 2 ^ 63 : Nat) : Int) == 1))]) (by rw [e68]) ?_
    clear e68
    refine GL.k rfl hK67 (fun _ _ h => h) ?_
    refine G.seqK fun K69 hK70 => ?_
    refine G.region ?_
    refine GL.sem (j := 1) (H45.ldA (o := 0) (ty := 55) (m := 4) (sub := [.int .u64 (wd R 0 : Int), .int .u64 (wd R 1 : Int), .int .u64 (wd R 2 : Int), .int .u64 (wd R 3 : Int)]) 5 rfl (by kernel_rfl) rfl rfl) [2, 3, 4, 5, 7, 8, 9, 10, 27] [(2, pt p3 0), (3, pt p7 0), (4, pt p11 0), (5, pt p15 0), (7, pt p26 0), (8, pt p30 0), (9, .int .i64 ((m - 1 : Nat) : Int)), (10, .bool (((wd R 3 / 2 ^ 63 : Nat) : Int) == 1)), (27, wv R)] (by kernel_rfl) (by kernel_rfl) rfl ?_
    refine GL.call (j := 2) (Left_0 R 1 hR4 (by decide) w43) (by kernel_rfl) rfl (fun e_ w71 hR => ?_)
    obtain ⟨rfl, H73⟩ := hR
    obtain ⟨E, hE⟩ : ∃ E : Nat, E = R * 2 ^ 1 % K4 := ⟨_, rfl⟩
    rw [← hE]
    have hE4 : E < K4 := by rw [hE]; exact Nat.mod_lt _ (by decide)
    have hev : wd E 0 % 2 = 0 := by rw [hE]; exact even_wd R
    have H72 : Hp w [] [.blk p3 [.int .u64 (wd x 0 : Int), .int .u64 (wd x 1 : Int), .int .u64 (wd x 2 : Int), .int .u64 (wd x 3 : Int)] 55, .blk p7 [.int .u64 (wd y 0 : Int), .int .u64 (wd y 1 : Int), .int .u64 (wd y 2 : Int), .int .u64 (wd y 3 : Int)] 55, .blk p11 [.int .u64 0, .int .u64 0, .int .u64 0, .int .u64 0] 55, .blk p15 [.int .u64 0, .int .u64 0, .int .u64 0, .int .u64 0] 55, .blk p26 [.int .u64 (wd Q 0 : Int), .int .u64 (wd Q 1 : Int), .int .u64 (wd Q 2 : Int), .int .u64 (wd Q 3 : Int)] 55, .blk p30 [.int .u64 (wd R 0 : Int), .int .u64 (wd R 1 : Int), .int .u64 (wd R 2 : Int), .int .u64 (wd R 3 : Int)] 55] w71 := H45.callNil H73
    refine ⟨_, rfl, [2, 3, 4, 5, 7, 8, 9, 10, 28], [(2, pt p3 0), (3, pt p7 0), (4, pt p11 0), (5, pt p15 0), (7, pt p26 0), (8, pt p30 0), (9, .int .i64 ((m - 1 : Nat) : Int)), (10, .bool (((wd R 3 / 2 ^ 63 : Nat) : Int) == 1)), (28, wv E)], by kernel_rfl, ?_⟩
    obtain ⟨w74, r75, H76⟩ := H72.stA (P := Try.prog) (o := 0) (vs := [.int .u64 (wd E 0 : Int), .int .u64 (wd E 1 : Int), .int .u64 (wd E 2 : Int), .int .u64 (wd E 3 : Int)]) (ty := 55) (m := 4) 5 rfl (by kernel_rfl) rfl (by simp) (by simp [Value.oneCell'])
    have H76 : Hp w [] [.blk p3 [.int .u64 (wd x 0 : Int), .int .u64 (wd x 1 : Int), .int .u64 (wd x 2 : Int), .int .u64 (wd x 3 : Int)] 55, .blk p7 [.int .u64 (wd y 0 : Int), .int .u64 (wd y 1 : Int), .int .u64 (wd y 2 : Int), .int .u64 (wd y 3 : Int)] 55, .blk p11 [.int .u64 0, .int .u64 0, .int .u64 0, .int .u64 0] 55, .blk p15 [.int .u64 0, .int .u64 0, .int .u64 0, .int .u64 0] 55, .blk p26 [.int .u64 (wd Q 0 : Int), .int .u64 (wd Q 1 : Int), .int .u64 (wd Q 2 : Int), .int .u64 (wd Q 3 : Int)] 55, .blk p30 [.int .u64 (wd E 0 : Int), .int .u64 (wd E 1 : Int), .int .u64 (wd E 2 : Int), .int .u64 (wd E 3 : Int)] 55] w74 := H76
    refine GL.semU (j := 3) r75 [2, 3, 4, 5, 7, 8, 9, 10] [(2, pt p3 0), (3, pt p7 0), (4, pt p11 0), (5, pt p15 0), (7, pt p26 0), (8, pt p30 0), (9, .int .i64 ((m - 1 : Nat) : Int)), (10, .bool (((wd R 3 / 2 ^ 63 : Nat) : Int) == 1))] (by kernel_rfl) rfl rfl rfl ?_
    refine GL.k rfl hK70 (fun _ _ h => h) ?_
    refine G.seqK fun K77 hK78 => ?_
    refine G.tail 12 (by kernel_rfl) (by kernel_rfl) ?_
    have H79 := H76.drew
    generalize ({ w74 with drawn := w74.drawn + 1 } : World) = w80 at H79 ⊢
    refine GS.run (j := 1) 1 [2, 3, 4, 5, 7, 8, 9, 10, 29] [(2, pt p3 0), (3, pt p7 0), (4, pt p11 0), (5, pt p15 0), (7, pt p26 0), (8, pt p30 0), (9, .int .i64 ((m - 1 : Nat) : Int)), (10, .bool (((wd R 3 / 2 ^ 63 : Nat) : Int) == 1)), (29, pt p30 0)] (by kernel_rfl) rfl rfl ?_
    refine GS.sem (j := 2) (H79.ld (o := 0) (ty := 22) (v := .int .u64 (wd E 0 : Int)) 5 rfl (by kernel_rfl) rfl) [2, 3, 4, 5, 7, 8, 9, 10, 30] [(2, pt p3 0), (3, pt p7 0), (4, pt p11 0), (5, pt p15 0), (7, pt p26 0), (8, pt p30 0), (9, .int .i64 ((m - 1 : Nat) : Int)), (10, .bool (((wd R 3 / 2 ^ 63 : Nat) : Int) == 1)), (30, .int .u64 (wd E 0 : Int))] (by kernel_rfl) (by kernel_rfl) rfl rfl ?_
    refine GS.run (j := 4) 2 [2, 3, 4, 5, 7, 8, 9, 10, 30, 32] [(2, pt p3 0), (3, pt p7 0), (4, pt p11 0), (5, pt p15 0), (7, pt p26 0), (8, pt p30 0), (9, .int .i64 ((m - 1 : Nat) : Int)), (10, .bool (((wd R 3 / 2 ^ 63 : Nat) : Int) == 1)), (30, .int .u64 (wd E 0 : Int)), (32, .int .i64 (IntKind.i64.wrap (Int.tdiv ((m - 1 : Nat) : Int) 64)))] (by kernel_rfl) rfl rfl ?_
    have e81 : (IntKind.i64.wrap (Int.tdiv ((m - 1 : Nat) : Int) 64)) = (((m - 1) / 64 : Nat) : Int) := q64 (by omega)
    refine GS.eq (M' := [(2, pt p3 0), (3, pt p7 0), (4, pt p11 0), (5, pt p15 0), (7, pt p26 0), (8, pt p30 0), (9, .int .i64 ((m - 1 : Nat) : Int)), (10, .bool (((wd R 3 / 2 ^ 63 : Nat) : Int) == 1)), (30, .int .u64 (wd E 0 : Int)), (32, .int .i64 (((m - 1) / 64 : Nat) : Int))]) (by rw [e81]) ?_
    clear e81
    refine GS.sem (j := 5) (run_idxArr (P := Try.prog) (k := .i64) (t := 55) (len := 4) (sz := 1) (b := p3) (o := 0) (j := (m - 1) / 64) (by kernel_rfl) rfl (by omega)) [2, 3, 4, 5, 7, 8, 9, 10, 30, 33] [(2, pt p3 0), (3, pt p7 0), (4, pt p11 0), (5, pt p15 0), (7, pt p26 0), (8, pt p30 0), (9, .int .i64 ((m - 1 : Nat) : Int)), (10, .bool (((wd R 3 / 2 ^ 63 : Nat) : Int) == 1)), (30, .int .u64 (wd E 0 : Int)), (33, pt p3 (0 + ((m - 1) / 64) * 1))] (by kernel_rfl) (by kernel_rfl) rfl rfl ?_
    refine GS.sem (j := 6) (H79.ld (o := (0 + ((m - 1) / 64) * 1)) (ty := 22) (v := .int .u64 (wd x ((m - 1) / 64) : Int)) 0 rfl (by kernel_rfl) (wd_cell x (by omega))) [2, 3, 4, 5, 7, 8, 9, 10, 30, 34] [(2, pt p3 0), (3, pt p7 0), (4, pt p11 0), (5, pt p15 0), (7, pt p26 0), (8, pt p30 0), (9, .int .i64 ((m - 1 : Nat) : Int)), (10, .bool (((wd R 3 / 2 ^ 63 : Nat) : Int) == 1)), (30, .int .u64 (wd E 0 : Int)), (34, .int .u64 (wd x ((m - 1) / 64) : Int))] (by kernel_rfl) (by kernel_rfl) rfl rfl ?_
    refine GS.run (j := 8) 2 [2, 3, 4, 5, 7, 8, 9, 10, 30, 34, 36] [(2, pt p3 0), (3, pt p7 0), (4, pt p11 0), (5, pt p15 0), (7, pt p26 0), (8, pt p30 0), (9, .int .i64 ((m - 1 : Nat) : Int)), (10, .bool (((wd R 3 / 2 ^ 63 : Nat) : Int) == 1)), (30, .int .u64 (wd E 0 : Int)), (34, .int .u64 (wd x ((m - 1) / 64) : Int)), (36, .int .i64 (Int.tmod ((m - 1 : Nat) : Int) 64))] (by kernel_rfl) rfl rfl ?_
    have e82 : (Int.tmod ((m - 1 : Nat) : Int) 64) = (((m - 1) % 64 : Nat) : Int) := r64 _
    refine GS.eq (M' := [(2, pt p3 0), (3, pt p7 0), (4, pt p11 0), (5, pt p15 0), (7, pt p26 0), (8, pt p30 0), (9, .int .i64 ((m - 1 : Nat) : Int)), (10, .bool (((wd R 3 / 2 ^ 63 : Nat) : Int) == 1)), (30, .int .u64 (wd E 0 : Int)), (34, .int .u64 (wd x ((m - 1) / 64) : Int)), (36, .int .i64 (((m - 1) % 64 : Nat) : Int))]) (by rw [e82]) ?_
    clear e82
    refine GS.sem (j := 9) (run_shrN (P := Try.prog) (k' := .i64) (t := 22) (a := (wd x ((m - 1) / 64))) (r := ((m - 1) % 64)) (by omega) _) [2, 3, 4, 5, 7, 8, 9, 10, 30, 37] [(2, pt p3 0), (3, pt p7 0), (4, pt p11 0), (5, pt p15 0), (7, pt p26 0), (8, pt p30 0), (9, .int .i64 ((m - 1 : Nat) : Int)), (10, .bool (((wd R 3 / 2 ^ 63 : Nat) : Int) == 1)), (30, .int .u64 (wd E 0 : Int)), (37, .int .u64 (((wd x ((m - 1) / 64)) / 2 ^ ((m - 1) % 64) : Nat) : Int))] (by kernel_rfl) (by kernel_rfl) rfl rfl ?_
    refine GS.run (j := 12) 3 [2, 3, 4, 5, 7, 8, 9, 10, 39, 40] [(2, pt p3 0), (3, pt p7 0), (4, pt p11 0), (5, pt p15 0), (7, pt p26 0), (8, pt p30 0), (9, .int .i64 ((m - 1 : Nat) : Int)), (10, .bool (((wd R 3 / 2 ^ 63 : Nat) : Int) == 1)), (39, .int .u64 (Go.bits .or .u64 (wd E 0 : Int) (Go.bits .and .u64 (((wd x ((m - 1) / 64)) / 2 ^ ((m - 1) % 64) : Nat) : Int) 1))), (40, pt p30 0)] (by kernel_rfl) rfl rfl ?_
    have e83 : (Go.bits .and .u64 (((wd x ((m - 1) / 64)) / 2 ^ ((m - 1) % 64) : Nat) : Int) 1) = ((((wd x ((m - 1) / 64)) / 2 ^ ((m - 1) % 64)) % 2 : Nat) : Int) := n_and1 (bit_lt (wd_lt _ _))
    have e84 : (Go.bits .or .u64 (wd E 0 : Int) ((((wd x ((m - 1) / 64)) / 2 ^ ((m - 1) % 64)) % 2 : Nat) : Int)) = ((wd E 0 + (((wd x ((m - 1) / 64)) / 2 ^ ((m - 1) % 64)) % 2) : Nat) : Int) := or_bit hev (wd_lt _ _) (Nat.mod_lt _ (by decide))
    refine GS.eq (M' := [(2, pt p3 0), (3, pt p7 0), (4, pt p11 0), (5, pt p15 0), (7, pt p26 0), (8, pt p30 0), (9, .int .i64 ((m - 1 : Nat) : Int)), (10, .bool (((wd R 3 / 2 ^ 63 : Nat) : Int) == 1)), (39, .int .u64 ((wd E 0 + (((wd x ((m - 1) / 64)) / 2 ^ ((m - 1) % 64)) % 2) : Nat) : Int)), (40, pt p30 0)]) (by rw [e83, e84]) ?_
    clear e83 e84
    refine GS.tail rfl ?_
    obtain ⟨w85, r86, H87⟩ := H79.st (P := Try.prog) (o := 0) (ty := 22) (v := .int .u64 ((wd E 0 + (((wd x ((m - 1) / 64)) / 2 ^ ((m - 1) % 64)) % 2) : Nat) : Int)) 5 rfl (by kernel_rfl) (by simp) rfl
    have H87 : Hp w [] [.blk p3 [.int .u64 (wd x 0 : Int), .int .u64 (wd x 1 : Int), .int .u64 (wd x 2 : Int), .int .u64 (wd x 3 : Int)] 55, .blk p7 [.int .u64 (wd y 0 : Int), .int .u64 (wd y 1 : Int), .int .u64 (wd y 2 : Int), .int .u64 (wd y 3 : Int)] 55, .blk p11 [.int .u64 0, .int .u64 0, .int .u64 0, .int .u64 0] 55, .blk p15 [.int .u64 0, .int .u64 0, .int .u64 0, .int .u64 0] 55, .blk p26 [.int .u64 (wd Q 0 : Int), .int .u64 (wd Q 1 : Int), .int .u64 (wd Q 2 : Int), .int .u64 (wd Q 3 : Int)] 55, .blk p30 [.int .u64 ((wd E 0 + (((wd x ((m - 1) / 64)) / 2 ^ ((m - 1) % 64)) % 2) : Nat) : Int), .int .u64 (wd E 1 : Int), .int .u64 (wd E 2 : Int), .int .u64 (wd E 3 : Int)] 55] w85 := H87
    refine GL.semU (j := 13) r86 [2, 3, 4, 5, 7, 8, 9, 10] [(2, pt p3 0), (3, pt p7 0), (4, pt p11 0), (5, pt p15 0), (7, pt p26 0), (8, pt p30 0), (9, .int .i64 ((m - 1 : Nat) : Int)), (10, .bool (((wd R 3 / 2 ^ 63 : Nat) : Int) == 1))] (by kernel_rfl) rfl rfl rfl ?_
    have hbit := bit_of (x := x) (m := m - 1) (by omega)
    obtain ⟨D, hD⟩ : ∃ D : Nat, D = E + x / 2 ^ (m - 1) % 2 := ⟨_, rfl⟩
    have hw := even_add hev hE4 (b := x / 2 ^ (m - 1) % 2) (Nat.mod_lt _ (by decide))
    have hD4 : D < K4 := by rw [hD, hE]; exact even_lt (Nat.mod_lt _ (by decide))
    have H88 : Hp w [] [.blk p3 [.int .u64 (wd x 0 : Int), .int .u64 (wd x 1 : Int), .int .u64 (wd x 2 : Int), .int .u64 (wd x 3 : Int)] 55, .blk p7 [.int .u64 (wd y 0 : Int), .int .u64 (wd y 1 : Int), .int .u64 (wd y 2 : Int), .int .u64 (wd y 3 : Int)] 55, .blk p11 [.int .u64 0, .int .u64 0, .int .u64 0, .int .u64 0] 55, .blk p15 [.int .u64 0, .int .u64 0, .int .u64 0, .int .u64 0] 55, .blk p26 [.int .u64 (wd Q 0 : Int), .int .u64 (wd Q 1 : Int), .int .u64 (wd Q 2 : Int), .int .u64 (wd Q 3 : Int)] 55, .blk p30 [.int .u64 (wd D 0 : Int), .int .u64 (wd D 1 : Int), .int .u64 (wd D 2 : Int), .int .u64 (wd D 3 : Int)] 55] w85 := by rw [hD, hw.1, hw.2.1, hw.2.2.1, hw.2.2.2, ← hbit]; exact H87
    refine GL.k rfl hK78 (fun _ _ h => h) ?_
    refine G.seqK fun K89 hK90 => ?_
    refine G.region ?_
    refine GL.run (j := 2) 2 [2, 3, 4, 5, 7, 8, 9, 42] [(2, pt p3 0), (3, pt p7 0), (4, pt p11 0), (5, pt p15 0), (7, pt p26 0), (8, pt p30 0), (9, .int .i64 ((m - 1 : Nat) : Int)), (42, .bool (((wd R 3 / 2 ^ 63 : Nat) : Int) == 1))] (by kernel_rfl) rfl ?_
    cases hb91 : (((wd R 3 / 2 ^ 63 : Nat) : Int) == 1)
    · skip
      have hb91f := ne_of_beq_false hb91
      have hh : ¬ K4 ≤ 2 * R := fun h => by rw [(high_bit hR4).2 h] at hb91; cases hb91
      refine GL.sem (j := 3) (H88.ldA (o := 0) (ty := 55) (m := 4) (sub := [.int .u64 (wd D 0 : Int), .int .u64 (wd D 1 : Int), .int .u64 (wd D 2 : Int), .int .u64 (wd D 3 : Int)]) 5 rfl (by kernel_rfl) rfl rfl) [2, 3, 4, 5, 7, 8, 9, 42, 43] [(2, pt p3 0), (3, pt p7 0), (4, pt p11 0), (5, pt p15 0), (7, pt p26 0), (8, pt p30 0), (9, .int .i64 ((m - 1 : Nat) : Int)), (42, .bool false), (43, wv D)] (by kernel_rfl) (by kernel_rfl) rfl ?_
      refine GL.sem (j := 4) (H88.ldA (o := 0) (ty := 55) (m := 4) (sub := [.int .u64 (wd y 0 : Int), .int .u64 (wd y 1 : Int), .int .u64 (wd y 2 : Int), .int .u64 (wd y 3 : Int)]) 1 rfl (by kernel_rfl) rfl rfl) [2, 3, 4, 5, 7, 8, 9, 42, 43, 44] [(2, pt p3 0), (3, pt p7 0), (4, pt p11 0), (5, pt p15 0), (7, pt p26 0), (8, pt p30 0), (9, .int .i64 ((m - 1 : Nat) : Int)), (42, .bool false), (43, wv D), (44, wv y)] (by kernel_rfl) (by kernel_rfl) rfl ?_
      refine GL.call (j := 5) (Cmp_calls D y hD4 hy w85) (by kernel_rfl) rfl (fun e_ w92 hR => ?_)
      obtain ⟨rfl, H94⟩ := hR
      have H93 : Hp w [] [.blk p3 [.int .u64 (wd x 0 : Int), .int .u64 (wd x 1 : Int), .int .u64 (wd x 2 : Int), .int .u64 (wd x 3 : Int)] 55, .blk p7 [.int .u64 (wd y 0 : Int), .int .u64 (wd y 1 : Int), .int .u64 (wd y 2 : Int), .int .u64 (wd y 3 : Int)] 55, .blk p11 [.int .u64 0, .int .u64 0, .int .u64 0, .int .u64 0] 55, .blk p15 [.int .u64 0, .int .u64 0, .int .u64 0, .int .u64 0] 55, .blk p26 [.int .u64 (wd Q 0 : Int), .int .u64 (wd Q 1 : Int), .int .u64 (wd Q 2 : Int), .int .u64 (wd Q 3 : Int)] 55, .blk p30 [.int .u64 (wd D 0 : Int), .int .u64 (wd D 1 : Int), .int .u64 (wd D 2 : Int), .int .u64 (wd D 3 : Int)] 55] w92 := H88.callNil H94
      refine ⟨_, rfl, [2, 3, 4, 5, 7, 8, 9, 42, 45], [(2, pt p3 0), (3, pt p7 0), (4, pt p11 0), (5, pt p15 0), (7, pt p26 0), (8, pt p30 0), (9, .int .i64 ((m - 1 : Nat) : Int)), (42, .bool false), (45, .int .i64 (cmpN D y))], by kernel_rfl, ?_⟩
      refine GL.run (j := 7) 2 [2, 3, 4, 5, 7, 8, 9, 47] [(2, pt p3 0), (3, pt p7 0), (4, pt p11 0), (5, pt p15 0), (7, pt p26 0), (8, pt p30 0), (9, .int .i64 ((m - 1 : Nat) : Int)), (47, .bool (decide (0 ≤ (cmpN D y))))] (by kernel_rfl) rfl ?_
      refine GL.k rfl hK90 (fun _ _ h => h) ?_
      cases hb95 : (decide (0 ≤ (cmpN D y)))
      · skip
        have hb95f := of_decide_eq_false hb95
        have hc : ¬ y ≤ D := fun h => of_decide_eq_false hb95 (cmp_ge.2 h)
        refine G.no rfl ?_
        refine G.skipK hK65 (fun _ _ h => h) ?_
        refine G.region ?_
        refine GL.run (j := 3) 3 [2, 3, 4, 5, 7, 8, 9] [(2, pt p3 0), (3, pt p7 0), (4, pt p11 0), (5, pt p15 0), (7, pt p26 0), (8, pt p30 0), (9, .int .i64 (IntKind.i64.wrap (((m - 1 : Nat) : Int) - 1)))] (by kernel_rfl) rfl ?_
        have e96 : (IntKind.i64.wrap (((m - 1 : Nat) : Int) - 1)) = (((m - 1 : Nat) : Int) - 1) := in_i64 (by omega)
        refine GL.eq (M' := [(2, pt p3 0), (3, pt p7 0), (4, pt p11 0), (5, pt p15 0), (7, pt p26 0), (8, pt p30 0), (9, .int .i64 (((m - 1 : Nat) : Int) - 1))]) (by rw [e96]) ?_
        clear e96
        obtain ⟨e1, e2⟩ := round_down (by omega) hm0 hR hQ hE hD (by omega) (by omega)
        have H97 : Hp w [] [.blk p3 [.int .u64 (wd x 0 : Int), .int .u64 (wd x 1 : Int), .int .u64 (wd x 2 : Int), .int .u64 (wd x 3 : Int)] 55, .blk p7 [.int .u64 (wd y 0 : Int), .int .u64 (wd y 1 : Int), .int .u64 (wd y 2 : Int), .int .u64 (wd y 3 : Int)] 55, .blk p11 [.int .u64 0, .int .u64 0, .int .u64 0, .int .u64 0] 55, .blk p15 [.int .u64 0, .int .u64 0, .int .u64 0, .int .u64 0] 55, .blk p26 [.int .u64 (wd (x / 2 ^ (m - 1) / y * 2 ^ (m - 1)) 0 : Int), .int .u64 (wd (x / 2 ^ (m - 1) / y * 2 ^ (m - 1)) 1 : Int), .int .u64 (wd (x / 2 ^ (m - 1) / y * 2 ^ (m - 1)) 2 : Int), .int .u64 (wd (x / 2 ^ (m - 1) / y * 2 ^ (m - 1)) 3 : Int)] 55, .blk p30 [.int .u64 (wd (x / 2 ^ (m - 1) % y) 0 : Int), .int .u64 (wd (x / 2 ^ (m - 1) % y) 1 : Int), .int .u64 (wd (x / 2 ^ (m - 1) % y) 2 : Int), .int .u64 (wd (x / 2 ^ (m - 1) % y) 3 : Int)] 55] w92 := by rw [e1, e2]; exact H93
        refine GL.fit (ts := [2, 3, 4, 5, 7, 8, 9]) (M' := [(2, pt p3 0), (3, pt p7 0), (4, pt p11 0), (5, pt p15 0), (7, pt p26 0), (8, pt p30 0), (9, .int .i64 (((m - 1 : Nat) : Int) - 1))]) (by kernel_rfl) ?_
        refine GL.eq (M' := [(2, pt p3 0), (3, pt p7 0), (4, pt p11 0), (5, pt p15 0), (7, pt p26 0), (8, pt p30 0), (9, .int .i64 ((((m - 1) : Nat) : Int) - 1))]) (by rfl) ?_
        exact GL.again (m - 1) [2, 3, 4, 5, 7, 8, 9] rfl (by kernel_rfl) (by show (m - 1) < m; omega) ⟨by omega, H97⟩
      · skip
        have hb95f := of_decide_eq_true hb95
        have hc : y ≤ D := cmp_ge.1 (of_decide_eq_true hb95)
        refine G.yes rfl ?_
        refine G.seqK fun K98 hK99 => ?_
        refine G.region ?_
        refine GL.sem (j := 1) (H93.ldA (o := 0) (ty := 55) (m := 4) (sub := [.int .u64 (wd D 0 : Int), .int .u64 (wd D 1 : Int), .int .u64 (wd D 2 : Int), .int .u64 (wd D 3 : Int)]) 5 rfl (by kernel_rfl) rfl rfl) [2, 3, 4, 5, 7, 8, 9, 49] [(2, pt p3 0), (3, pt p7 0), (4, pt p11 0), (5, pt p15 0), (7, pt p26 0), (8, pt p30 0), (9, .int .i64 ((m - 1 : Nat) : Int)), (49, wv D)] (by kernel_rfl) (by kernel_rfl) rfl ?_
        refine GL.sem (j := 2) (H93.ldA (o := 0) (ty := 55) (m := 4) (sub := [.int .u64 (wd y 0 : Int), .int .u64 (wd y 1 : Int), .int .u64 (wd y 2 : Int), .int .u64 (wd y 3 : Int)]) 1 rfl (by kernel_rfl) rfl rfl) [2, 3, 4, 5, 7, 8, 9, 49, 50] [(2, pt p3 0), (3, pt p7 0), (4, pt p11 0), (5, pt p15 0), (7, pt p26 0), (8, pt p30 0), (9, .int .i64 ((m - 1 : Nat) : Int)), (49, wv D), (50, wv y)] (by kernel_rfl) (by kernel_rfl) rfl ?_
        refine GL.call (j := 3) (Sub_calls D y hD4 hy w92) (by kernel_rfl) rfl (fun e_ w100 hR => ?_)
        obtain ⟨rfl, H102⟩ := hR
        obtain ⟨F, hF⟩ : ∃ F : Nat, F = (D + K4 - y) % K4 := ⟨_, rfl⟩
        rw [← hF]
        have H101 : Hp w [] [.blk p3 [.int .u64 (wd x 0 : Int), .int .u64 (wd x 1 : Int), .int .u64 (wd x 2 : Int), .int .u64 (wd x 3 : Int)] 55, .blk p7 [.int .u64 (wd y 0 : Int), .int .u64 (wd y 1 : Int), .int .u64 (wd y 2 : Int), .int .u64 (wd y 3 : Int)] 55, .blk p11 [.int .u64 0, .int .u64 0, .int .u64 0, .int .u64 0] 55, .blk p15 [.int .u64 0, .int .u64 0, .int .u64 0, .int .u64 0] 55, .blk p26 [.int .u64 (wd Q 0 : Int), .int .u64 (wd Q 1 : Int), .int .u64 (wd Q 2 : Int), .int .u64 (wd Q 3 : Int)] 55, .blk p30 [.int .u64 (wd D 0 : Int), .int .u64 (wd D 1 : Int), .int .u64 (wd D 2 : Int), .int .u64 (wd D 3 : Int)] 55] w100 := H93.callNil H102
        refine ⟨_, rfl, [2, 3, 4, 5, 7, 8, 9, 51], [(2, pt p3 0), (3, pt p7 0), (4, pt p11 0), (5, pt p15 0), (7, pt p26 0), (8, pt p30 0), (9, .int .i64 ((m - 1 : Nat) : Int)), (51, .tuple #[wv F, .bool (decide (D < y))])], by kernel_rfl, ?_⟩
        refine GL.run (j := 6) 3 [2, 3, 4, 5, 7, 8, 9, 52] [(2, pt p3 0), (3, pt p7 0), (4, pt p11 0), (5, pt p15 0), (7, pt p26 0), (8, pt p30 0), (9, .int .i64 ((m - 1 : Nat) : Int)), (52, wv F)] (by kernel_rfl) rfl ?_
        obtain ⟨w103, r104, H105⟩ := H101.stA (P := Try.prog) (o := 0) (vs := [.int .u64 (wd F 0 : Int), .int .u64 (wd F 1 : Int), .int .u64 (wd F 2 : Int), .int .u64 (wd F 3 : Int)]) (ty := 55) (m := 4) 5 rfl (by kernel_rfl) rfl (by simp) (by simp [Value.oneCell'])
        have H105 : Hp w [] [.blk p3 [.int .u64 (wd x 0 : Int), .int .u64 (wd x 1 : Int), .int .u64 (wd x 2 : Int), .int .u64 (wd x 3 : Int)] 55, .blk p7 [.int .u64 (wd y 0 : Int), .int .u64 (wd y 1 : Int), .int .u64 (wd y 2 : Int), .int .u64 (wd y 3 : Int)] 55, .blk p11 [.int .u64 0, .int .u64 0, .int .u64 0, .int .u64 0] 55, .blk p15 [.int .u64 0, .int .u64 0, .int .u64 0, .int .u64 0] 55, .blk p26 [.int .u64 (wd Q 0 : Int), .int .u64 (wd Q 1 : Int), .int .u64 (wd Q 2 : Int), .int .u64 (wd Q 3 : Int)] 55, .blk p30 [.int .u64 (wd F 0 : Int), .int .u64 (wd F 1 : Int), .int .u64 (wd F 2 : Int), .int .u64 (wd F 3 : Int)] 55] w103 := H105
        refine GL.semU (j := 7) r104 [2, 3, 4, 5, 7, 8, 9] [(2, pt p3 0), (3, pt p7 0), (4, pt p11 0), (5, pt p15 0), (7, pt p26 0), (8, pt p30 0), (9, .int .i64 ((m - 1 : Nat) : Int))] (by kernel_rfl) rfl rfl rfl ?_
        refine GL.k rfl hK99 (fun _ _ h => h) ?_
        refine G.tail 9 (by kernel_rfl) (by kernel_rfl) ?_
        have H106 := H105.drew
        generalize ({ w103 with drawn := w103.drawn + 1 } : World) = w107 at H106 ⊢
        refine GS.run (j := 2) 2 [2, 3, 4, 5, 7, 8, 9, 55] [(2, pt p3 0), (3, pt p7 0), (4, pt p11 0), (5, pt p15 0), (7, pt p26 0), (8, pt p30 0), (9, .int .i64 ((m - 1 : Nat) : Int)), (55, .int .i64 (IntKind.i64.wrap (Int.tdiv ((m - 1 : Nat) : Int) 64)))] (by kernel_rfl) rfl rfl ?_
        have e108 : (IntKind.i64.wrap (Int.tdiv ((m - 1 : Nat) : Int) 64)) = (((m - 1) / 64 : Nat) : Int) := q64 (by omega)
        refine GS.eq (M' := [(2, pt p3 0), (3, pt p7 0), (4, pt p11 0), (5, pt p15 0), (7, pt p26 0), (8, pt p30 0), (9, .int .i64 ((m - 1 : Nat) : Int)), (55, .int .i64 (((m - 1) / 64 : Nat) : Int))]) (by rw [e108]) ?_
        clear e108
        refine GS.sem (j := 3) (run_idxArr (P := Try.prog) (k := .i64) (t := 55) (len := 4) (sz := 1) (b := p26) (o := 0) (j := (m - 1) / 64) (by kernel_rfl) rfl (by omega)) [2, 3, 4, 5, 7, 8, 9, 55, 56] [(2, pt p3 0), (3, pt p7 0), (4, pt p11 0), (5, pt p15 0), (7, pt p26 0), (8, pt p30 0), (9, .int .i64 ((m - 1 : Nat) : Int)), (55, .int .i64 (((m - 1) / 64 : Nat) : Int)), (56, pt p26 (0 + ((m - 1) / 64) * 1))] (by kernel_rfl) (by kernel_rfl) rfl rfl ?_
        refine GS.sem (j := 4) (H106.ld (o := (0 + ((m - 1) / 64) * 1)) (ty := 22) (v := .int .u64 (wd Q ((m - 1) / 64) : Int)) 4 rfl (by kernel_rfl) (wd_cell Q (by omega))) [2, 3, 4, 5, 7, 8, 9, 55, 57] [(2, pt p3 0), (3, pt p7 0), (4, pt p11 0), (5, pt p15 0), (7, pt p26 0), (8, pt p30 0), (9, .int .i64 ((m - 1 : Nat) : Int)), (55, .int .i64 (((m - 1) / 64 : Nat) : Int)), (57, .int .u64 (wd Q ((m - 1) / 64) : Int))] (by kernel_rfl) (by kernel_rfl) rfl rfl ?_
        refine GS.run (j := 6) 2 [2, 3, 4, 5, 7, 8, 9, 55, 57, 59] [(2, pt p3 0), (3, pt p7 0), (4, pt p11 0), (5, pt p15 0), (7, pt p26 0), (8, pt p30 0), (9, .int .i64 ((m - 1 : Nat) : Int)), (55, .int .i64 (((m - 1) / 64 : Nat) : Int)), (57, .int .u64 (wd Q ((m - 1) / 64) : Int)), (59, .int .i64 (Int.tmod ((m - 1 : Nat) : Int) 64))] (by kernel_rfl) rfl rfl ?_
        have e109 : (Int.tmod ((m - 1 : Nat) : Int) 64) = (((m - 1) % 64 : Nat) : Int) := r64 _
        refine GS.eq (M' := [(2, pt p3 0), (3, pt p7 0), (4, pt p11 0), (5, pt p15 0), (7, pt p26 0), (8, pt p30 0), (9, .int .i64 ((m - 1 : Nat) : Int)), (55, .int .i64 (((m - 1) / 64 : Nat) : Int)), (57, .int .u64 (wd Q ((m - 1) / 64) : Int)), (59, .int .i64 (((m - 1) % 64 : Nat) : Int))]) (by rw [e109]) ?_
        clear e109
        refine GS.sem (j := 7) (run_shlN (P := Try.prog) (k' := .i64) (t := 22) (a := 1) (r := ((m - 1) % 64)) (by omega) _) [2, 3, 4, 5, 7, 8, 9, 55, 57, 60] [(2, pt p3 0), (3, pt p7 0), (4, pt p11 0), (5, pt p15 0), (7, pt p26 0), (8, pt p30 0), (9, .int .i64 ((m - 1 : Nat) : Int)), (55, .int .i64 (((m - 1) / 64 : Nat) : Int)), (57, .int .u64 (wd Q ((m - 1) / 64) : Int)), (60, .int .u64 ((1 * 2 ^ ((m - 1) % 64) % K : Nat) : Int))] (by kernel_rfl) (by kernel_rfl) rfl rfl ?_
        refine GS.run (j := 8) 1 [2, 3, 4, 5, 7, 8, 9, 55, 61] [(2, pt p3 0), (3, pt p7 0), (4, pt p11 0), (5, pt p15 0), (7, pt p26 0), (8, pt p30 0), (9, .int .i64 ((m - 1 : Nat) : Int)), (55, .int .i64 (((m - 1) / 64 : Nat) : Int)), (61, .int .u64 (Go.bits .or .u64 (wd Q ((m - 1) / 64) : Int) ((1 * 2 ^ ((m - 1) % 64) % K : Nat) : Int)))] (by kernel_rfl) rfl rfl ?_
        have e110 : (Go.bits .or .u64 (wd Q ((m - 1) / 64) : Int) ((1 * 2 ^ ((m - 1) % 64) % K : Nat) : Int)) = ((wd Q ((m - 1) / 64) ||| 1 * 2 ^ ((m - 1) % 64) % K : Nat) : Int) := n_or (wd_lt _ _) (Nat.mod_lt _ (by decide))
        refine GS.eq (M' := [(2, pt p3 0), (3, pt p7 0), (4, pt p11 0), (5, pt p15 0), (7, pt p26 0), (8, pt p30 0), (9, .int .i64 ((m - 1 : Nat) : Int)), (55, .int .i64 (((m - 1) / 64 : Nat) : Int)), (61, .int .u64 ((wd Q ((m - 1) / 64) ||| 1 * 2 ^ ((m - 1) % 64) % K : Nat) : Int))]) (by rw [e110]) ?_
        clear e110
        refine GS.sem (j := 9) (run_idxArr (P := Try.prog) (k := .i64) (t := 55) (len := 4) (sz := 1) (b := p26) (o := 0) (j := (m - 1) / 64) (by kernel_rfl) rfl (by omega)) [2, 3, 4, 5, 7, 8, 9, 61, 62] [(2, pt p3 0), (3, pt p7 0), (4, pt p11 0), (5, pt p15 0), (7, pt p26 0), (8, pt p30 0), (9, .int .i64 ((m - 1 : Nat) : Int)), (61, .int .u64 ((wd Q ((m - 1) / 64) ||| 1 * 2 ^ ((m - 1) % 64) % K : Nat) : Int)), (62, pt p26 (0 + ((m - 1) / 64) * 1))] (by kernel_rfl) (by kernel_rfl) rfl rfl ?_
        refine GS.tail rfl ?_
        obtain ⟨w111, r112, H113⟩ := H106.st (P := Try.prog) (o := (0 + ((m - 1) / 64) * 1)) (ty := 22) (v := .int .u64 ((wd Q ((m - 1) / 64) ||| 1 * 2 ^ ((m - 1) % 64) % K : Nat) : Int)) 4 rfl (by kernel_rfl) (by show (0 + ((m - 1) / 64) * 1) < 4; omega) rfl
        rw [setbit (by rw [show 64 * ((m - 1) / 64) + (m - 1) % 64 + 1 = m from by omega, hQ]; exact Nat.mul_mod_left _ _) hQ4 (by omega) (Nat.mod_lt _ (by decide)), show 64 * ((m - 1) / 64) + (m - 1) % 64 = m - 1 from by omega] at H113
        have H113 : Hp w [] [.blk p3 [.int .u64 (wd x 0 : Int), .int .u64 (wd x 1 : Int), .int .u64 (wd x 2 : Int), .int .u64 (wd x 3 : Int)] 55, .blk p7 [.int .u64 (wd y 0 : Int), .int .u64 (wd y 1 : Int), .int .u64 (wd y 2 : Int), .int .u64 (wd y 3 : Int)] 55, .blk p11 [.int .u64 0, .int .u64 0, .int .u64 0, .int .u64 0] 55, .blk p15 [.int .u64 0, .int .u64 0, .int .u64 0, .int .u64 0] 55, .blk p26 [.int .u64 (wd (Q + 2 ^ (m - 1)) 0 : Int), .int .u64 (wd (Q + 2 ^ (m - 1)) 1 : Int), .int .u64 (wd (Q + 2 ^ (m - 1)) 2 : Int), .int .u64 (wd (Q + 2 ^ (m - 1)) 3 : Int)] 55, .blk p30 [.int .u64 (wd F 0 : Int), .int .u64 (wd F 1 : Int), .int .u64 (wd F 2 : Int), .int .u64 (wd F 3 : Int)] 55] w111 := H113
        refine GL.semU (j := 10) r112 [2, 3, 4, 5, 7, 8, 9] [(2, pt p3 0), (3, pt p7 0), (4, pt p11 0), (5, pt p15 0), (7, pt p26 0), (8, pt p30 0), (9, .int .i64 ((m - 1 : Nat) : Int))] (by kernel_rfl) rfl rfl rfl ?_
        refine GL.k rfl hK65 (fun _ _ h => h) ?_
        refine G.region ?_
        refine GL.run (j := 3) 3 [2, 3, 4, 5, 7, 8, 9] [(2, pt p3 0), (3, pt p7 0), (4, pt p11 0), (5, pt p15 0), (7, pt p26 0), (8, pt p30 0), (9, .int .i64 (IntKind.i64.wrap (((m - 1 : Nat) : Int) - 1)))] (by kernel_rfl) rfl ?_
        have e114 : (IntKind.i64.wrap (((m - 1 : Nat) : Int) - 1)) = (((m - 1 : Nat) : Int) - 1) := in_i64 (by omega)
        refine GL.eq (M' := [(2, pt p3 0), (3, pt p7 0), (4, pt p11 0), (5, pt p15 0), (7, pt p26 0), (8, pt p30 0), (9, .int .i64 (((m - 1 : Nat) : Int) - 1))]) (by rw [e114]) ?_
        clear e114
        obtain ⟨e1, e2⟩ := round_up (by omega) hy hm0 hR hQ hE hD hF (by omega)
        have H115 : Hp w [] [.blk p3 [.int .u64 (wd x 0 : Int), .int .u64 (wd x 1 : Int), .int .u64 (wd x 2 : Int), .int .u64 (wd x 3 : Int)] 55, .blk p7 [.int .u64 (wd y 0 : Int), .int .u64 (wd y 1 : Int), .int .u64 (wd y 2 : Int), .int .u64 (wd y 3 : Int)] 55, .blk p11 [.int .u64 0, .int .u64 0, .int .u64 0, .int .u64 0] 55, .blk p15 [.int .u64 0, .int .u64 0, .int .u64 0, .int .u64 0] 55, .blk p26 [.int .u64 (wd (x / 2 ^ (m - 1) / y * 2 ^ (m - 1)) 0 : Int), .int .u64 (wd (x / 2 ^ (m - 1) / y * 2 ^ (m - 1)) 1 : Int), .int .u64 (wd (x / 2 ^ (m - 1) / y * 2 ^ (m - 1)) 2 : Int), .int .u64 (wd (x / 2 ^ (m - 1) / y * 2 ^ (m - 1)) 3 : Int)] 55, .blk p30 [.int .u64 (wd (x / 2 ^ (m - 1) % y) 0 : Int), .int .u64 (wd (x / 2 ^ (m - 1) % y) 1 : Int), .int .u64 (wd (x / 2 ^ (m - 1) % y) 2 : Int), .int .u64 (wd (x / 2 ^ (m - 1) % y) 3 : Int)] 55] w111 := by rw [e1, e2]; exact H113
        refine GL.fit (ts := [2, 3, 4, 5, 7, 8, 9]) (M' := [(2, pt p3 0), (3, pt p7 0), (4, pt p11 0), (5, pt p15 0), (7, pt p26 0), (8, pt p30 0), (9, .int .i64 (((m - 1 : Nat) : Int) - 1))]) (by kernel_rfl) ?_
        refine GL.eq (M' := [(2, pt p3 0), (3, pt p7 0), (4, pt p11 0), (5, pt p15 0), (7, pt p26 0), (8, pt p30 0), (9, .int .i64 ((((m - 1) : Nat) : Int) - 1))]) (by rfl) ?_
        exact GL.again (m - 1) [2, 3, 4, 5, 7, 8, 9] rfl (by kernel_rfl) (by show (m - 1) < m; omega) ⟨by omega, H115⟩
    · skip
      have hb91f := eq_of_beq hb91
      have hh : K4 ≤ 2 * R := (high_bit hR4).1 hb91
      refine GL.run (j := 7) 5 [2, 3, 4, 5, 7, 8, 9, 47] [(2, pt p3 0), (3, pt p7 0), (4, pt p11 0), (5, pt p15 0), (7, pt p26 0), (8, pt p30 0), (9, .int .i64 ((m - 1 : Nat) : Int)), (47, .bool true)] (by kernel_rfl) rfl ?_
      refine GL.k rfl hK90 (fun _ _ h => h) ?_
      refine G.yes rfl ?_
      refine G.seqK fun K116 hK117 => ?_
      refine G.region ?_
      refine GL.sem (j := 1) (H88.ldA (o := 0) (ty := 55) (m := 4) (sub := [.int .u64 (wd D 0 : Int), .int .u64 (wd D 1 : Int), .int .u64 (wd D 2 : Int), .int .u64 (wd D 3 : Int)]) 5 rfl (by kernel_rfl) rfl rfl) [2, 3, 4, 5, 7, 8, 9, 49] [(2, pt p3 0), (3, pt p7 0), (4, pt p11 0), (5, pt p15 0), (7, pt p26 0), (8, pt p30 0), (9, .int .i64 ((m - 1 : Nat) : Int)), (49, wv D)] (by kernel_rfl) (by kernel_rfl) rfl ?_
      refine GL.sem (j := 2) (H88.ldA (o := 0) (ty := 55) (m := 4) (sub := [.int .u64 (wd y 0 : Int), .int .u64 (wd y 1 : Int), .int .u64 (wd y 2 : Int), .int .u64 (wd y 3 : Int)]) 1 rfl (by kernel_rfl) rfl rfl) [2, 3, 4, 5, 7, 8, 9, 49, 50] [(2, pt p3 0), (3, pt p7 0), (4, pt p11 0), (5, pt p15 0), (7, pt p26 0), (8, pt p30 0), (9, .int .i64 ((m - 1 : Nat) : Int)), (49, wv D), (50, wv y)] (by kernel_rfl) (by kernel_rfl) rfl ?_
      refine GL.call (j := 3) (Sub_calls D y hD4 hy w85) (by kernel_rfl) rfl (fun e_ w118 hR => ?_)
      obtain ⟨rfl, H120⟩ := hR
      obtain ⟨F, hF⟩ : ∃ F : Nat, F = (D + K4 - y) % K4 := ⟨_, rfl⟩
      rw [← hF]
      have H119 : Hp w [] [.blk p3 [.int .u64 (wd x 0 : Int), .int .u64 (wd x 1 : Int), .int .u64 (wd x 2 : Int), .int .u64 (wd x 3 : Int)] 55, .blk p7 [.int .u64 (wd y 0 : Int), .int .u64 (wd y 1 : Int), .int .u64 (wd y 2 : Int), .int .u64 (wd y 3 : Int)] 55, .blk p11 [.int .u64 0, .int .u64 0, .int .u64 0, .int .u64 0] 55, .blk p15 [.int .u64 0, .int .u64 0, .int .u64 0, .int .u64 0] 55, .blk p26 [.int .u64 (wd Q 0 : Int), .int .u64 (wd Q 1 : Int), .int .u64 (wd Q 2 : Int), .int .u64 (wd Q 3 : Int)] 55, .blk p30 [.int .u64 (wd D 0 : Int), .int .u64 (wd D 1 : Int), .int .u64 (wd D 2 : Int), .int .u64 (wd D 3 : Int)] 55] w118 := H88.callNil H120
      refine ⟨_, rfl, [2, 3, 4, 5, 7, 8, 9, 51], [(2, pt p3 0), (3, pt p7 0), (4, pt p11 0), (5, pt p15 0), (7, pt p26 0), (8, pt p30 0), (9, .int .i64 ((m - 1 : Nat) : Int)), (51, .tuple #[wv F, .bool (decide (D < y))])], by kernel_rfl, ?_⟩
      refine GL.run (j := 6) 3 [2, 3, 4, 5, 7, 8, 9, 52] [(2, pt p3 0), (3, pt p7 0), (4, pt p11 0), (5, pt p15 0), (7, pt p26 0), (8, pt p30 0), (9, .int .i64 ((m - 1 : Nat) : Int)), (52, wv F)] (by kernel_rfl) rfl ?_
      obtain ⟨w121, r122, H123⟩ := H119.stA (P := Try.prog) (o := 0) (vs := [.int .u64 (wd F 0 : Int), .int .u64 (wd F 1 : Int), .int .u64 (wd F 2 : Int), .int .u64 (wd F 3 : Int)]) (ty := 55) (m := 4) 5 rfl (by kernel_rfl) rfl (by simp) (by simp [Value.oneCell'])
      have H123 : Hp w [] [.blk p3 [.int .u64 (wd x 0 : Int), .int .u64 (wd x 1 : Int), .int .u64 (wd x 2 : Int), .int .u64 (wd x 3 : Int)] 55, .blk p7 [.int .u64 (wd y 0 : Int), .int .u64 (wd y 1 : Int), .int .u64 (wd y 2 : Int), .int .u64 (wd y 3 : Int)] 55, .blk p11 [.int .u64 0, .int .u64 0, .int .u64 0, .int .u64 0] 55, .blk p15 [.int .u64 0, .int .u64 0, .int .u64 0, .int .u64 0] 55, .blk p26 [.int .u64 (wd Q 0 : Int), .int .u64 (wd Q 1 : Int), .int .u64 (wd Q 2 : Int), .int .u64 (wd Q 3 : Int)] 55, .blk p30 [.int .u64 (wd F 0 : Int), .int .u64 (wd F 1 : Int), .int .u64 (wd F 2 : Int), .int .u64 (wd F 3 : Int)] 55] w121 := H123
      refine GL.semU (j := 7) r122 [2, 3, 4, 5, 7, 8, 9] [(2, pt p3 0), (3, pt p7 0), (4, pt p11 0), (5, pt p15 0), (7, pt p26 0), (8, pt p30 0), (9, .int .i64 ((m - 1 : Nat) : Int))] (by kernel_rfl) rfl rfl rfl ?_
      refine GL.k rfl hK117 (fun _ _ h => h) ?_
      refine G.tail 9 (by kernel_rfl) (by kernel_rfl) ?_
      have H124 := H123.drew
      generalize ({ w121 with drawn := w121.drawn + 1 } : World) = w125 at H124 ⊢
      refine GS.run (j := 2) 2 [2, 3, 4, 5, 7, 8, 9, 55] [(2, pt p3 0), (3, pt p7 0), (4, pt p11 0), (5, pt p15 0), (7, pt p26 0), (8, pt p30 0), (9, .int .i64 ((m - 1 : Nat) : Int)), (55, .int .i64 (IntKind.i64.wrap (Int.tdiv ((m - 1 : Nat) : Int) 64)))] (by kernel_rfl) rfl rfl ?_
      have e126 : (IntKind.i64.wrap (Int.tdiv ((m - 1 : Nat) : Int) 64)) = (((m - 1) / 64 : Nat) : Int) := q64 (by omega)
      refine GS.eq (M' := [(2, pt p3 0), (3, pt p7 0), (4, pt p11 0), (5, pt p15 0), (7, pt p26 0), (8, pt p30 0), (9, .int .i64 ((m - 1 : Nat) : Int)), (55, .int .i64 (((m - 1) / 64 : Nat) : Int))]) (by rw [e126]) ?_
      clear e126
      refine GS.sem (j := 3) (run_idxArr (P := Try.prog) (k := .i64) (t := 55) (len := 4) (sz := 1) (b := p26) (o := 0) (j := (m - 1) / 64) (by kernel_rfl) rfl (by omega)) [2, 3, 4, 5, 7, 8, 9, 55, 56] [(2, pt p3 0), (3, pt p7 0), (4, pt p11 0), (5, pt p15 0), (7, pt p26 0), (8, pt p30 0), (9, .int .i64 ((m - 1 : Nat) : Int)), (55, .int .i64 (((m - 1) / 64 : Nat) : Int)), (56, pt p26 (0 + ((m - 1) / 64) * 1))] (by kernel_rfl) (by kernel_rfl) rfl rfl ?_
      refine GS.sem (j := 4) (H124.ld (o := (0 + ((m - 1) / 64) * 1)) (ty := 22) (v := .int .u64 (wd Q ((m - 1) / 64) : Int)) 4 rfl (by kernel_rfl) (wd_cell Q (by omega))) [2, 3, 4, 5, 7, 8, 9, 55, 57] [(2, pt p3 0), (3, pt p7 0), (4, pt p11 0), (5, pt p15 0), (7, pt p26 0), (8, pt p30 0), (9, .int .i64 ((m - 1 : Nat) : Int)), (55, .int .i64 (((m - 1) / 64 : Nat) : Int)), (57, .int .u64 (wd Q ((m - 1) / 64) : Int))] (by kernel_rfl) (by kernel_rfl) rfl rfl ?_
      refine GS.run (j := 6) 2 [2, 3, 4, 5, 7, 8, 9, 55, 57, 59] [(2, pt p3 0), (3, pt p7 0), (4, pt p11 0), (5, pt p15 0), (7, pt p26 0), (8, pt p30 0), (9, .int .i64 ((m - 1 : Nat) : Int)), (55, .int .i64 (((m - 1) / 64 : Nat) : Int)), (57, .int .u64 (wd Q ((m - 1) / 64) : Int)), (59, .int .i64 (Int.tmod ((m - 1 : Nat) : Int) 64))] (by kernel_rfl) rfl rfl ?_
      have e127 : (Int.tmod ((m - 1 : Nat) : Int) 64) = (((m - 1) % 64 : Nat) : Int) := r64 _
      refine GS.eq (M' := [(2, pt p3 0), (3, pt p7 0), (4, pt p11 0), (5, pt p15 0), (7, pt p26 0), (8, pt p30 0), (9, .int .i64 ((m - 1 : Nat) : Int)), (55, .int .i64 (((m - 1) / 64 : Nat) : Int)), (57, .int .u64 (wd Q ((m - 1) / 64) : Int)), (59, .int .i64 (((m - 1) % 64 : Nat) : Int))]) (by rw [e127]) ?_
      clear e127
      refine GS.sem (j := 7) (run_shlN (P := Try.prog) (k' := .i64) (t := 22) (a := 1) (r := ((m - 1) % 64)) (by omega) _) [2, 3, 4, 5, 7, 8, 9, 55, 57, 60] [(2, pt p3 0), (3, pt p7 0), (4, pt p11 0), (5, pt p15 0), (7, pt p26 0), (8, pt p30 0), (9, .int .i64 ((m - 1 : Nat) : Int)), (55, .int .i64 (((m - 1) / 64 : Nat) : Int)), (57, .int .u64 (wd Q ((m - 1) / 64) : Int)), (60, .int .u64 ((1 * 2 ^ ((m - 1) % 64) % K : Nat) : Int))] (by kernel_rfl) (by kernel_rfl) rfl rfl ?_
      refine GS.run (j := 8) 1 [2, 3, 4, 5, 7, 8, 9, 55, 61] [(2, pt p3 0), (3, pt p7 0), (4, pt p11 0), (5, pt p15 0), (7, pt p26 0), (8, pt p30 0), (9, .int .i64 ((m - 1 : Nat) : Int)), (55, .int .i64 (((m - 1) / 64 : Nat) : Int)), (61, .int .u64 (Go.bits .or .u64 (wd Q ((m - 1) / 64) : Int) ((1 * 2 ^ ((m - 1) % 64) % K : Nat) : Int)))] (by kernel_rfl) rfl rfl ?_
      have e128 : (Go.bits .or .u64 (wd Q ((m - 1) / 64) : Int) ((1 * 2 ^ ((m - 1) % 64) % K : Nat) : Int)) = ((wd Q ((m - 1) / 64) ||| 1 * 2 ^ ((m - 1) % 64) % K : Nat) : Int) := n_or (wd_lt _ _) (Nat.mod_lt _ (by decide))
      refine GS.eq (M' := [(2, pt p3 0), (3, pt p7 0), (4, pt p11 0), (5, pt p15 0), (7, pt p26 0), (8, pt p30 0), (9, .int .i64 ((m - 1 : Nat) : Int)), (55, .int .i64 (((m - 1) / 64 : Nat) : Int)), (61, .int .u64 ((wd Q ((m - 1) / 64) ||| 1 * 2 ^ ((m - 1) % 64) % K : Nat) : Int))]) (by rw [e128]) ?_
      clear e128
      refine GS.sem (j := 9) (run_idxArr (P := Try.prog) (k := .i64) (t := 55) (len := 4) (sz := 1) (b := p26) (o := 0) (j := (m - 1) / 64) (by kernel_rfl) rfl (by omega)) [2, 3, 4, 5, 7, 8, 9, 61, 62] [(2, pt p3 0), (3, pt p7 0), (4, pt p11 0), (5, pt p15 0), (7, pt p26 0), (8, pt p30 0), (9, .int .i64 ((m - 1 : Nat) : Int)), (61, .int .u64 ((wd Q ((m - 1) / 64) ||| 1 * 2 ^ ((m - 1) % 64) % K : Nat) : Int)), (62, pt p26 (0 + ((m - 1) / 64) * 1))] (by kernel_rfl) (by kernel_rfl) rfl rfl ?_
      refine GS.tail rfl ?_
      obtain ⟨w129, r130, H131⟩ := H124.st (P := Try.prog) (o := (0 + ((m - 1) / 64) * 1)) (ty := 22) (v := .int .u64 ((wd Q ((m - 1) / 64) ||| 1 * 2 ^ ((m - 1) % 64) % K : Nat) : Int)) 4 rfl (by kernel_rfl) (by show (0 + ((m - 1) / 64) * 1) < 4; omega) rfl
      rw [setbit (by rw [show 64 * ((m - 1) / 64) + (m - 1) % 64 + 1 = m from by omega, hQ]; exact Nat.mul_mod_left _ _) hQ4 (by omega) (Nat.mod_lt _ (by decide)), show 64 * ((m - 1) / 64) + (m - 1) % 64 = m - 1 from by omega] at H131
      have H131 : Hp w [] [.blk p3 [.int .u64 (wd x 0 : Int), .int .u64 (wd x 1 : Int), .int .u64 (wd x 2 : Int), .int .u64 (wd x 3 : Int)] 55, .blk p7 [.int .u64 (wd y 0 : Int), .int .u64 (wd y 1 : Int), .int .u64 (wd y 2 : Int), .int .u64 (wd y 3 : Int)] 55, .blk p11 [.int .u64 0, .int .u64 0, .int .u64 0, .int .u64 0] 55, .blk p15 [.int .u64 0, .int .u64 0, .int .u64 0, .int .u64 0] 55, .blk p26 [.int .u64 (wd (Q + 2 ^ (m - 1)) 0 : Int), .int .u64 (wd (Q + 2 ^ (m - 1)) 1 : Int), .int .u64 (wd (Q + 2 ^ (m - 1)) 2 : Int), .int .u64 (wd (Q + 2 ^ (m - 1)) 3 : Int)] 55, .blk p30 [.int .u64 (wd F 0 : Int), .int .u64 (wd F 1 : Int), .int .u64 (wd F 2 : Int), .int .u64 (wd F 3 : Int)] 55] w129 := H131
      refine GL.semU (j := 10) r130 [2, 3, 4, 5, 7, 8, 9] [(2, pt p3 0), (3, pt p7 0), (4, pt p11 0), (5, pt p15 0), (7, pt p26 0), (8, pt p30 0), (9, .int .i64 ((m - 1 : Nat) : Int))] (by kernel_rfl) rfl rfl rfl ?_
      refine GL.k rfl hK65 (fun _ _ h => h) ?_
      refine G.region ?_
      refine GL.run (j := 3) 3 [2, 3, 4, 5, 7, 8, 9] [(2, pt p3 0), (3, pt p7 0), (4, pt p11 0), (5, pt p15 0), (7, pt p26 0), (8, pt p30 0), (9, .int .i64 (IntKind.i64.wrap (((m - 1 : Nat) : Int) - 1)))] (by kernel_rfl) rfl ?_
      have e132 : (IntKind.i64.wrap (((m - 1 : Nat) : Int) - 1)) = (((m - 1 : Nat) : Int) - 1) := in_i64 (by omega)
      refine GL.eq (M' := [(2, pt p3 0), (3, pt p7 0), (4, pt p11 0), (5, pt p15 0), (7, pt p26 0), (8, pt p30 0), (9, .int .i64 (((m - 1 : Nat) : Int) - 1))]) (by rw [e132]) ?_
      clear e132
      obtain ⟨e1, e2⟩ := round_up (by omega) hy hm0 hR hQ hE hD hF (by omega)
      have H133 : Hp w [] [.blk p3 [.int .u64 (wd x 0 : Int), .int .u64 (wd x 1 : Int), .int .u64 (wd x 2 : Int), .int .u64 (wd x 3 : Int)] 55, .blk p7 [.int .u64 (wd y 0 : Int), .int .u64 (wd y 1 : Int), .int .u64 (wd y 2 : Int), .int .u64 (wd y 3 : Int)] 55, .blk p11 [.int .u64 0, .int .u64 0, .int .u64 0, .int .u64 0] 55, .blk p15 [.int .u64 0, .int .u64 0, .int .u64 0, .int .u64 0] 55, .blk p26 [.int .u64 (wd (x / 2 ^ (m - 1) / y * 2 ^ (m - 1)) 0 : Int), .int .u64 (wd (x / 2 ^ (m - 1) / y * 2 ^ (m - 1)) 1 : Int), .int .u64 (wd (x / 2 ^ (m - 1) / y * 2 ^ (m - 1)) 2 : Int), .int .u64 (wd (x / 2 ^ (m - 1) / y * 2 ^ (m - 1)) 3 : Int)] 55, .blk p30 [.int .u64 (wd (x / 2 ^ (m - 1) % y) 0 : Int), .int .u64 (wd (x / 2 ^ (m - 1) % y) 1 : Int), .int .u64 (wd (x / 2 ^ (m - 1) % y) 2 : Int), .int .u64 (wd (x / 2 ^ (m - 1) % y) 3 : Int)] 55] w129 := by rw [e1, e2]; exact H131
      refine GL.fit (ts := [2, 3, 4, 5, 7, 8, 9]) (M' := [(2, pt p3 0), (3, pt p7 0), (4, pt p11 0), (5, pt p15 0), (7, pt p26 0), (8, pt p30 0), (9, .int .i64 (((m - 1 : Nat) : Int) - 1))]) (by kernel_rfl) ?_
      refine GL.eq (M' := [(2, pt p3 0), (3, pt p7 0), (4, pt p11 0), (5, pt p15 0), (7, pt p26 0), (8, pt p30 0), (9, .int .i64 ((((m - 1) : Nat) : Int) - 1))]) (by rfl) ?_
      exact GL.again (m - 1) [2, 3, 4, 5, 7, 8, 9] rfl (by kernel_rfl) (by show (m - 1) < m; omega) ⟨by omega, H133⟩
end Go.Proofs.Ytljfofnpjmlobaa
