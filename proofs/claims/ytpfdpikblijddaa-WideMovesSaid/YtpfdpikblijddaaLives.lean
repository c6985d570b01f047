/- The chapter's example. -/
import Derived.Test.YtpfdpikblijddaaWideD
namespace Go.Proofs.Ytpfdpikblijddaa
open Go.RowKit
theorem lives_calls (w : World) : Calls Try.prog 7 #[] w fun e w' => e = .returned (.bool true) ∧ Hp w [] [] w' := by
  refine calls_G (args := []) Try.func7 rfl Try.ntmps7 rfl ?_
  intro Q0 hRet hNor hPan
  have H := Hp.start w
  have H : Hp w [] [] w := H
  refine G.seqK fun K1 hK2 => ?_
  refine G.region ?_
  refine GL.run (j := 1) 1 [] [] (by kernel_rfl) rfl ?_
  refine GL.k rfl hK2 (fun _ _ h => h) ?_
  refine G.seqK fun K3 hK4 => ?_
  refine G.region ?_
  refine GL.call (j := 1) (Of_calls 10 (by decide) w) (by kernel_rfl) rfl (fun e_ w5 hR => ?_)
  obtain ⟨he_, H7⟩ := hR
  subst he_
  have H6 : Hp w [] [] w5 := H.callNil H7
  refine ⟨_, rfl, [5], [(5, wv 10)], by kernel_rfl, ?_⟩
  refine GL.call (j := 2) (Of_calls 3 (by decide) w5) (by kernel_rfl) rfl (fun e_ w8 hR => ?_)
  obtain ⟨he_, H10⟩ := hR
  subst he_
  have H9 : Hp w [] [] w8 := H6.callNil H10
  refine ⟨_, rfl, [5, 6], [(5, wv 10), (6, wv 3)], by kernel_rfl, ?_⟩
  refine GL.call (j := 3) (Div_calls 10 3 (by decide) (by decide) (by decide) w8) (by kernel_rfl) rfl (fun e_ w11 hR => ?_)
  obtain ⟨he_, H13⟩ := hR
  obtain ⟨n14, hn15⟩ : ∃ v : Nat, v = 10 / 3 := ⟨_, rfl⟩
  rw [← hn15] at he_
  have n14l : n14 < K4 := by rw [hn15]; exact Nat.lt_of_le_of_lt (Nat.div_le_self _ _) (by decide)
  obtain ⟨n16, hn17⟩ : ∃ v : Nat, v = 10 % 3 := ⟨_, rfl⟩
  rw [← hn17] at he_
  have n16l : n16 < K4 := by rw [hn17]; exact Nat.lt_of_le_of_lt (Nat.mod_le _ _) (by decide)
  subst he_
  have hdmn14 : n14 * 3 + n16 = 10 := by rw [hn15, hn17] <;> exact Nat.div_add_mod' _ _
  have H12 : Hp w [] [] w11 := H9.callNil H13
  refine ⟨_, rfl, [7], [(7, .tuple #[wv n14, wv n16, .int .i64 0])], by kernel_rfl, ?_⟩
  refine GL.run (j := 7) 4 [8, 9, 10] [(8, wv n14), (9, wv n16), (10, .int .i64 0)] (by kernel_rfl) rfl ?_
  obtain ⟨p18, w19, r20, H21⟩ := H12.alloc (P := Try.prog) 24 [.int .u64 0, .int .u64 0, .int .u64 0, .int .u64 0] (by kernel_rfl)
  have H21 : Hp w [] [.blk p18 [.int .u64 0, .int .u64 0, .int .u64 0, .int .u64 0] 24] w19 := H21
  refine GL.sem (j := 8) (r20) [1, 8, 9, 10] [(1, pt p18 0), (8, wv n14), (9, wv n16), (10, .int .i64 0)] (by kernel_rfl) (by kernel_rfl) rfl ?_
  obtain ⟨p22, w23, r24, H25⟩ := H21.alloc (P := Try.prog) 24 [.int .u64 0, .int .u64 0, .int .u64 0, .int .u64 0] (by kernel_rfl)
  have H25 : Hp w [] [.blk p18 [.int .u64 0, .int .u64 0, .int .u64 0, .int .u64 0] 24, .blk p22 [.int .u64 0, .int .u64 0, .int .u64 0, .int .u64 0] 24] w23 := H25
  refine GL.sem (j := 9) (r24) [1, 2, 8, 9, 10] [(1, pt p18 0), (2, pt p22 0), (8, wv n14), (9, wv n16), (10, .int .i64 0)] (by kernel_rfl) (by kernel_rfl) rfl ?_
  obtain ⟨w26, r27, H28⟩ := H25.stA (P := Try.prog) (o := 0) (vs := [.int .u64 (wd n14 0 : Int), .int .u64 (wd n14 1 : Int), .int .u64 (wd n14 2 : Int), .int .u64 (wd n14 3 : Int)]) (ty := 24) (m := 4) 0 rfl (by kernel_rfl) rfl (by simp) (by simp [Value.oneCell'])
  have H28 : Hp w [] [.blk p18 [.int .u64 (wd n14 0 : Int), .int .u64 (wd n14 1 : Int), .int .u64 (wd n14 2 : Int), .int .u64 (wd n14 3 : Int)] 24, .blk p22 [.int .u64 0, .int .u64 0, .int .u64 0, .int .u64 0] 24] w26 := H28
  refine GL.semU (j := 10) r27 [1, 2, 9, 10] [(1, pt p18 0), (2, pt p22 0), (9, wv n16), (10, .int .i64 0)] (by kernel_rfl) rfl rfl rfl ?_
  obtain ⟨w29, r30, H31⟩ := H28.stA (P := Try.prog) (o := 0) (vs := [.int .u64 (wd n16 0 : Int), .int .u64 (wd n16 1 : Int), .int .u64 (wd n16 2 : Int), .int .u64 (wd n16 3 : Int)]) (ty := 24) (m := 4) 1 rfl (by kernel_rfl) rfl (by simp) (by simp [Value.oneCell'])
  have H31 : Hp w [] [.blk p18 [.int .u64 (wd n14 0 : Int), .int .u64 (wd n14 1 : Int), .int .u64 (wd n14 2 : Int), .int .u64 (wd n14 3 : Int)] 24, .blk p22 [.int .u64 (wd n16 0 : Int), .int .u64 (wd n16 1 : Int), .int .u64 (wd n16 2 : Int), .int .u64 (wd n16 3 : Int)] 24] w29 := H31
  refine GL.semU (j := 11) r30 [1, 2, 10] [(1, pt p18 0), (2, pt p22 0), (10, .int .i64 0)] (by kernel_rfl) rfl rfl rfl ?_
  refine GL.run (j := 12) 1 [1, 2, 3] [(1, pt p18 0), (2, pt p22 0), (3, .int .i64 0)] (by kernel_rfl) rfl ?_
  refine GL.k rfl hK4 (fun _ _ h => h) ?_
  refine G.seqK fun K32 hK33 => ?_
  refine G.heldP (Hp w [] [.blk p18 [.int .u64 (wd n14 0 : Int), .int .u64 (wd n14 1 : Int), .int .u64 (wd n14 2 : Int), .int .u64 (wd n14 3 : Int)] 24, .blk p22 [.int .u64 (wd n16 0 : Int), .int .u64 (wd n16 1 : Int), .int .u64 (wd n16 2 : Int), .int .u64 (wd n16 3 : Int)] 24]) (by kernel_rfl) (by kernel_rfl) (fun c_ a_ d_ v_ w_ h_ => hPan c_ a_ d_ v_ w_ h_) ?_
  have H34 := H31.drew
  generalize ({ w29 with drawn := w29.drawn + 1 } : World) = w35 at H34 ⊢
  have hS36 : Hp w [] [.blk p18 [.int .u64 (wd n14 0 : Int), .int .u64 (wd n14 1 : Int), .int .u64 (wd n14 2 : Int), .int .u64 (wd n14 3 : Int)] 24, .blk p22 [.int .u64 (wd n16 0 : Int), .int .u64 (wd n16 1 : Int), .int .u64 (wd n16 2 : Int), .int .u64 (wd n16 3 : Int)] 24] w35 := H34.sub (List.Sublist.cons_cons _ (List.Sublist.cons_cons _ (List.Sublist.slnil)))
  refine GP.run [1] [1, 2, 3, 12] [(1, pt p18 0), (2, pt p22 0), (3, .int .i64 0), (12, .agg #[.int .u64 0, .int .u64 2, .int .u64 0, .int .u64 0])] [1] (by kernel_rfl) rfl hS36 ?_
  refine GP.call 0 (Product_calls 9223372036854775808 4 (by decide) (by decide) w35) (by kernel_rfl) (by kernel_rfl) (fun e_ w37 hR => ?_)
  obtain ⟨he_, H39⟩ := hR
  subst he_
  have H38 : Hp w [] [.blk p18 [.int .u64 (wd n14 0 : Int), .int .u64 (wd n14 1 : Int), .int .u64 (wd n14 2 : Int), .int .u64 (wd n14 3 : Int)] 24, .blk p22 [.int .u64 (wd n16 0 : Int), .int .u64 (wd n16 1 : Int), .int .u64 (wd n16 2 : Int), .int .u64 (wd n16 3 : Int)] 24] w37 := H34.callNil H39
  have hS40 : Hp w [] [.blk p18 [.int .u64 (wd n14 0 : Int), .int .u64 (wd n14 1 : Int), .int .u64 (wd n14 2 : Int), .int .u64 (wd n14 3 : Int)] 24, .blk p22 [.int .u64 (wd n16 0 : Int), .int .u64 (wd n16 1 : Int), .int .u64 (wd n16 2 : Int), .int .u64 (wd n16 3 : Int)] 24] w37 := H38.sub (List.Sublist.cons_cons _ (List.Sublist.cons_cons _ (List.Sublist.slnil)))
  refine ⟨_, rfl, hS40, [1, 2, 3, 11, 12], [(1, pt p18 0), (2, pt p22 0), (3, .int .i64 0), (11, wv 36893488147419103232), (12, .agg #[.int .u64 0, .int .u64 2, .int .u64 0, .int .u64 0])], by kernel_rfl, ?_⟩
  refine GP.sem 2 (fun w_ H_ => run_arr_eql (P := Try.prog) (t := 24) (n := 4) (k := .u64) (x := (.tmp 11)) (y := (.tmp 12)) (by kernel_rfl) [(wd 36893488147419103232 0 : Int), (wd 36893488147419103232 1 : Int), (wd 36893488147419103232 2 : Int), (wd 36893488147419103232 3 : Int)] [0, 2, 0, 0] rfl rfl _) [1, 2, 3, 13] [(1, pt p18 0), (2, pt p22 0), (3, .int .i64 0), (13, .bool (decide (([(wd 36893488147419103232 0 : Int), (wd 36893488147419103232 1 : Int), (wd 36893488147419103232 2 : Int), (wd 36893488147419103232 3 : Int)] : List Int) = [0, 2, 0, 0])))] (by kernel_rfl) (by kernel_rfl) (by kernel_rfl) hS40 ?_
  refine GP.run [3] [1, 2, 3, 14] [(1, pt p18 0), (2, pt p22 0), (3, .int .i64 0), (14, .bool (decide (([(wd 36893488147419103232 0 : Int), (wd 36893488147419103232 1 : Int), (wd 36893488147419103232 2 : Int), (wd 36893488147419103232 3 : Int)] : List Int) = [0, 2, 0, 0])))] [1, 0, 2, 3] (by kernel_rfl) rfl hS40 ?_
  have hb41 : (decide (([(wd 36893488147419103232 0 : Int), (wd 36893488147419103232 1 : Int), (wd 36893488147419103232 2 : Int), (wd 36893488147419103232 3 : Int)] : List Int) = [0, 2, 0, 0])) = true := by kernel_rfl
  rw [hb41]
  refine GP.run [4, 5, 6, 7] [1, 2, 18] [(1, pt p18 0), (2, pt p22 0), (18, .bool true)] [1, 0, 2, 3, 4, 5, 6, 7] (by kernel_rfl) rfl hS40 ?_
  refine GP.sem 8 (fun w_ H_ => H_.ldA (o := 0) (ty := 24) (m := 4) (sub := [.int .u64 (wd n14 0 : Int), .int .u64 (wd n14 1 : Int), .int .u64 (wd n14 2 : Int), .int .u64 (wd n14 3 : Int)]) 0 rfl (by kernel_rfl) rfl rfl) [2, 18, 19] [(2, pt p22 0), (18, .bool true), (19, wv n14)] (by kernel_rfl) (by kernel_rfl) (by kernel_rfl) hS40 ?_
  refine GP.call 9 (Of_calls 3 (by decide) w37) (by kernel_rfl) (by kernel_rfl) (fun e_ w42 hR => ?_)
  obtain ⟨he_, H44⟩ := hR
  subst he_
  have H43 : Hp w [] [.blk p18 [.int .u64 (wd n14 0 : Int), .int .u64 (wd n14 1 : Int), .int .u64 (wd n14 2 : Int), .int .u64 (wd n14 3 : Int)] 24, .blk p22 [.int .u64 (wd n16 0 : Int), .int .u64 (wd n16 1 : Int), .int .u64 (wd n16 2 : Int), .int .u64 (wd n16 3 : Int)] 24] w42 := H38.callNil H44
  have hS45 : Hp w [] [.blk p18 [.int .u64 (wd n14 0 : Int), .int .u64 (wd n14 1 : Int), .int .u64 (wd n14 2 : Int), .int .u64 (wd n14 3 : Int)] 24, .blk p22 [.int .u64 (wd n16 0 : Int), .int .u64 (wd n16 1 : Int), .int .u64 (wd n16 2 : Int), .int .u64 (wd n16 3 : Int)] 24] w42 := H43.sub (List.Sublist.cons_cons _ (List.Sublist.cons_cons _ (List.Sublist.slnil)))
  refine ⟨_, rfl, hS45, [2, 18, 19, 20], [(2, pt p22 0), (18, .bool true), (19, wv n14), (20, wv 3)], by kernel_rfl, ?_⟩
  refine GP.sem 10 (fun w_ H_ => run_arr_eql (P := Try.prog) (t := 24) (n := 4) (k := .u64) (x := (.tmp 19)) (y := (.tmp 20)) (by kernel_rfl) [(wd n14 0 : Int), (wd n14 1 : Int), (wd n14 2 : Int), (wd n14 3 : Int)] [(wd 3 0 : Int), (wd 3 1 : Int), (wd 3 2 : Int), (wd 3 3 : Int)] rfl rfl _) [2, 18, 21] [(2, pt p22 0), (18, .bool true), (21, .bool (decide (([(wd n14 0 : Int), (wd n14 1 : Int), (wd n14 2 : Int), (wd n14 3 : Int)] : List Int) = [(wd 3 0 : Int), (wd 3 1 : Int), (wd 3 2 : Int), (wd 3 3 : Int)])))] (by kernel_rfl) (by kernel_rfl) (by kernel_rfl) hS45 ?_
  refine GP.run [11, 12] [2, 23] [(2, pt p22 0), (23, .bool (decide (([(wd n14 0 : Int), (wd n14 1 : Int), (wd n14 2 : Int), (wd n14 3 : Int)] : List Int) = [(wd 3 0 : Int), (wd 3 1 : Int), (wd 3 2 : Int), (wd 3 3 : Int)])))] [1, 0, 2, 3, 4, 5, 6, 7, 8, 9, 10, 11, 12] (by kernel_rfl) rfl hS45 ?_
  have hb46 : (decide (([(wd n14 0 : Int), (wd n14 1 : Int), (wd n14 2 : Int), (wd n14 3 : Int)] : List Int) = [(wd 3 0 : Int), (wd 3 1 : Int), (wd 3 2 : Int), (wd 3 3 : Int)])) = true := by rw [hn15]; kernel_rfl
  rw [hb46]
  refine GP.sem 13 (fun w_ H_ => H_.ldA (o := 0) (ty := 24) (m := 4) (sub := [.int .u64 (wd n16 0 : Int), .int .u64 (wd n16 1 : Int), .int .u64 (wd n16 2 : Int), .int .u64 (wd n16 3 : Int)]) 1 rfl (by kernel_rfl) rfl rfl) [23, 24] [(23, .bool true), (24, wv n16)] (by kernel_rfl) (by kernel_rfl) (by kernel_rfl) hS45 ?_
  refine GP.call 14 (Of_calls 1 (by decide) w42) (by kernel_rfl) (by kernel_rfl) (fun e_ w47 hR => ?_)
  obtain ⟨he_, H49⟩ := hR
  subst he_
  have H48 : Hp w [] [.blk p18 [.int .u64 (wd n14 0 : Int), .int .u64 (wd n14 1 : Int), .int .u64 (wd n14 2 : Int), .int .u64 (wd n14 3 : Int)] 24, .blk p22 [.int .u64 (wd n16 0 : Int), .int .u64 (wd n16 1 : Int), .int .u64 (wd n16 2 : Int), .int .u64 (wd n16 3 : Int)] 24] w47 := H43.callNil H49
  have hS50 : Hp w [] [.blk p18 [.int .u64 (wd n14 0 : Int), .int .u64 (wd n14 1 : Int), .int .u64 (wd n14 2 : Int), .int .u64 (wd n14 3 : Int)] 24, .blk p22 [.int .u64 (wd n16 0 : Int), .int .u64 (wd n16 1 : Int), .int .u64 (wd n16 2 : Int), .int .u64 (wd n16 3 : Int)] 24] w47 := H48.sub (List.Sublist.cons_cons _ (List.Sublist.cons_cons _ (List.Sublist.slnil)))
  refine ⟨_, rfl, hS50, [23, 24, 25], [(23, .bool true), (24, wv n16), (25, wv 1)], by kernel_rfl, ?_⟩
  refine GP.sem 15 (fun w_ H_ => run_arr_eql (P := Try.prog) (t := 24) (n := 4) (k := .u64) (x := (.tmp 24)) (y := (.tmp 25)) (by kernel_rfl) [(wd n16 0 : Int), (wd n16 1 : Int), (wd n16 2 : Int), (wd n16 3 : Int)] [(wd 1 0 : Int), (wd 1 1 : Int), (wd 1 2 : Int), (wd 1 3 : Int)] rfl rfl _) [23, 26] [(23, .bool true), (26, .bool (decide (([(wd n16 0 : Int), (wd n16 1 : Int), (wd n16 2 : Int), (wd n16 3 : Int)] : List Int) = [(wd 1 0 : Int), (wd 1 1 : Int), (wd 1 2 : Int), (wd 1 3 : Int)])))] (by kernel_rfl) (by kernel_rfl) (by kernel_rfl) hS50 ?_
  refine GP.run [16, 17] [0] [(0, .bool (decide (([(wd n16 0 : Int), (wd n16 1 : Int), (wd n16 2 : Int), (wd n16 3 : Int)] : List Int) = [(wd 1 0 : Int), (wd 1 1 : Int), (wd 1 2 : Int), (wd 1 3 : Int)])))] [1, 0, 2, 3, 4, 5, 6, 7, 8, 9, 10, 11, 12, 13, 14, 15, 16, 17] (by kernel_rfl) rfl hS50 ?_
  refine GP.k (by kernel_rfl) hK33 (fun _ _ h => h) ?_
  refine G.ret ?_
  intro F_ hF_ hM_
  refine hRet _ _ (bodyPost_1 rfl (RV.tmp rfl) ?_ F_ hF_ hM_)
  have hb51 : (decide (([(wd n16 0 : Int), (wd n16 1 : Int), (wd n16 2 : Int), (wd n16 3 : Int)] : List Int) = [(wd 1 0 : Int), (wd 1 1 : Int), (wd 1 2 : Int), (wd 1 3 : Int)])) = true := by rw [hn17]; kernel_rfl
  rw [hb51]
  exact ⟨rfl, H48.sub (List.nil_sublist _)⟩
end Go.Proofs.Ytpfdpikblijddaa
