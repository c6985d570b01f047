/- The chapter's example. -/
import Derived.Test.YtjfllmkihfidcaaTarget
namespace Go.Proofs.Ytjfllmkihfidcaa
open Go.RowKit
theorem lives_calls (w : World) : Calls Try.prog 7 #[] w fun e w' => e = .returned (.bool true) ∧ Hp w [] [] w' := by
  refine calls_G (args := []) Try.func7 rfl Try.ntmps7 rfl ?_
  intro Q0 hRet hNor hPan
  have H := Hp.start w
  have H : Hp w [] [] w := H
  refine G.seqK fun K1 hK2 => ?_
  refine G.region ?_
  refine GL.run (j := 1) 1 [] [] (by kernel_rfl) rfl ?_
  refine GL.k rfl hK2 (fun _ _ h => h) ?_
  refine G.seqK fun K3 hK4 => ?_
  refine G.region ?_
  refine GL.call (j := 1) (Decode_big 486604799 (by decide) (by decide) w) (by kernel_rfl) rfl (fun e_ w5 hR => ?_)
  obtain ⟨he_, H7⟩ := hR
  obtain ⟨n8, hn9⟩ : ∃ v : Nat, v = decR 486604799 := ⟨_, rfl⟩
  rw [← hn9] at he_
  have n8l : n8 < K4 := by rw [hn9]; exact decR_lt 486604799
  subst he_
  have H6 : Hp w [] [] w5 := H.callNil H7
  refine ⟨_, rfl, [4], [(4, .tuple #[wv n8, .int .i64 (((decE 486604799) : Nat) : Int)])], by kernel_rfl, ?_⟩
  refine GL.run (j := 4) 3 [5, 6] [(5, wv n8), (6, .int .i64 (((decE 486604799) : Nat) : Int))] (by kernel_rfl) rfl ?_
  obtain ⟨p10, w11, r12, H13⟩ := H6.alloc (P := Try.prog) 24 z4 (by kernel_rfl)
  have H13 : Hp w [] [.blk p10 z4 24] w11 := H13
  refine GL.sem (j := 5) (r12) [1, 5, 6] [(1, pt p10 0), (5, wv n8), (6, .int .i64 (((decE 486604799) : Nat) : Int))] (by kernel_rfl) (by kernel_rfl) rfl ?_
  obtain ⟨w14, r15, H16⟩ := H13.stA (P := Try.prog) (o := 0) (vs := (wl n8)) (ty := 24) (m := 4) 0 rfl (by kernel_rfl) rfl (by first | decide | simp) (wl_one _)
  have H16 : Hp w [] [.blk p10 (wl n8) 24] w14 := H16
  refine GL.semU (j := 6) r15 [1, 6] [(1, pt p10 0), (6, .int .i64 (((decE 486604799) : Nat) : Int))] (by kernel_rfl) rfl rfl rfl ?_
  refine GL.run (j := 7) 1 [1, 2] [(1, pt p10 0), (2, .int .i64 (((decE 486604799) : Nat) : Int))] (by kernel_rfl) rfl ?_
  refine GL.k rfl hK4 (fun _ _ h => h) ?_
  refine G.seqK fun K17 hK18 => ?_
  refine G.heldP (Hp w [] [.blk p10 (wl n8) 24]) (by kernel_rfl) (by kernel_rfl) (fun c_ a_ d_ v_ w_ h_ => hPan c_ a_ d_ v_ w_ h_) ?_
  have H19 := H16.drew
  generalize ({ w14 with drawn := w14.drawn + 1 } : World) = w20 at H19 ⊢
  have hS21 : Hp w [] [.blk p10 (wl n8) 24] w20 := H19.sub (List.Sublist.cons_cons _ (List.Sublist.slnil))
  refine GP.run [0, 1, 2] [1, 9] [(1, pt p10 0), (9, .bool ((((decE 486604799) : Nat) : Int) == 0))] [0, 1, 2] (by kernel_rfl) rfl hS21 ?_
  have hb22 : ((((decE 486604799) : Nat) : Int) == 0) = true := by kernel_rfl
  rw [hb22]
  refine GP.sem 3 (fun w_ H_ => H_.ldA (o := 0) (ty := 24) (m := 4) (sub := (wl n8)) 0 rfl (by kernel_rfl) rfl rfl) [1, 9, 10] [(1, pt p10 0), (9, .bool true), (10, wv n8)] (by kernel_rfl) (by kernel_rfl) (by kernel_rfl) hS21 ?_
  refine GP.call 4 (Of_calls 65535 (by decide) w20) (by kernel_rfl) (by kernel_rfl) (fun e_ w23 hR => ?_)
  obtain ⟨he_, H25⟩ := hR
  subst he_
  have H24 : Hp w [] [.blk p10 (wl n8) 24] w23 := H19.callNil H25
  have hS26 : Hp w [] [.blk p10 (wl n8) 24] w23 := H24.sub (List.Sublist.cons_cons _ (List.Sublist.slnil))
  refine ⟨_, rfl, hS26, [1, 9, 10, 11], [(1, pt p10 0), (9, .bool true), (10, wv n8), (11, wv 65535)], by kernel_rfl, ?_⟩
  refine GP.call 5 (Left_calls 65535 208 (by decide) w23) (by kernel_rfl) (by kernel_rfl) (fun e_ w27 hR => ?_)
  obtain ⟨he_, H29⟩ := hR
  obtain ⟨n30, hn31⟩ : ∃ v : Nat, v = 65535 * 2 ^ 208 % K4 := ⟨_, rfl⟩
  rw [← hn31] at he_
  have n30l : n30 < K4 := by rw [hn31]; exact Nat.mod_lt _ (by decide)
  subst he_
  have H28 : Hp w [] [.blk p10 (wl n8) 24] w27 := H24.callNil H29
  have hS32 : Hp w [] [.blk p10 (wl n8) 24] w27 := H28.sub (List.Sublist.cons_cons _ (List.Sublist.slnil))
  refine ⟨_, rfl, hS32, [1, 9, 10, 12], [(1, pt p10 0), (9, .bool true), (10, wv n8), (12, wv n30)], by kernel_rfl, ?_⟩
  refine GP.sem 6 (fun w_ H_ => run_arr_eql (P := Try.prog) (t := 24) (n := 4) (k := .u64) (x := (.tmp 10)) (y := (.tmp 12)) (by kernel_rfl) [(wd n8 0 : Int), (wd n8 1 : Int), (wd n8 2 : Int), (wd n8 3 : Int)] [(wd n30 0 : Int), (wd n30 1 : Int), (wd n30 2 : Int), (wd n30 3 : Int)] rfl rfl _) [1, 9, 13] [(1, pt p10 0), (9, .bool true), (13, .bool (decide (([(wd n8 0 : Int), (wd n8 1 : Int), (wd n8 2 : Int), (wd n8 3 : Int)] : List Int) = [(wd n30 0 : Int), (wd n30 1 : Int), (wd n30 2 : Int), (wd n30 3 : Int)])))] (by kernel_rfl) (by kernel_rfl) (by kernel_rfl) hS32 ?_
  refine GP.run [7, 8] [1, 15] [(1, pt p10 0), (15, .bool (decide (([(wd n8 0 : Int), (wd n8 1 : Int), (wd n8 2 : Int), (wd n8 3 : Int)] : List Int) = [(wd n30 0 : Int), (wd n30 1 : Int), (wd n30 2 : Int), (wd n30 3 : Int)])))] [0, 1, 2, 3, 4, 5, 6, 7, 8] (by kernel_rfl) rfl hS32 ?_
  have hb33 : (decide (([(wd n8 0 : Int), (wd n8 1 : Int), (wd n8 2 : Int), (wd n8 3 : Int)] : List Int) = [(wd n30 0 : Int), (wd n30 1 : Int), (wd n30 2 : Int), (wd n30 3 : Int)])) = true := by rw [hn31, hn9]; kernel_rfl
  rw [hb33]
  refine GP.sem 9 (fun w_ H_ => H_.ldA (o := 0) (ty := 24) (m := 4) (sub := (wl n8)) 0 rfl (by kernel_rfl) rfl rfl) [15, 16] [(15, .bool true), (16, wv n8)] (by kernel_rfl) (by kernel_rfl) (by kernel_rfl) hS32 ?_
  refine GP.call 10 (Work_calls n8 n8l w27) (by kernel_rfl) (by kernel_rfl) (fun e_ w34 hR => ?_)
  obtain ⟨he_, H36⟩ := hR
  obtain ⟨n37, hn38⟩ : ∃ v : Nat, v = workV n8 := ⟨_, rfl⟩
  rw [← hn38] at he_
  have n37l : n37 < K4 := by rw [hn38]; exact work_lt n8l
  subst he_
  have H35 : Hp w [] [.blk p10 (wl n8) 24] w34 := H28.callNil H36
  have hS39 : Hp w [] [.blk p10 (wl n8) 24] w34 := H35.sub (List.Sublist.cons_cons _ (List.Sublist.slnil))
  refine ⟨_, rfl, hS39, [15, 17], [(15, .bool true), (17, wv n37)], by kernel_rfl, ?_⟩
  refine GP.call 11 (Of_calls 4295032833 (by decide) w34) (by kernel_rfl) (by kernel_rfl) (fun e_ w40 hR => ?_)
  obtain ⟨he_, H42⟩ := hR
  subst he_
  have H41 : Hp w [] [.blk p10 (wl n8) 24] w40 := H35.callNil H42
  have hS43 : Hp w [] [.blk p10 (wl n8) 24] w40 := H41.sub (List.Sublist.cons_cons _ (List.Sublist.slnil))
  refine ⟨_, rfl, hS43, [15, 17, 18], [(15, .bool true), (17, wv n37), (18, wv 4295032833)], by kernel_rfl, ?_⟩
  refine GP.sem 12 (fun w_ H_ => run_arr_eql (P := Try.prog) (t := 24) (n := 4) (k := .u64) (x := (.tmp 17)) (y := (.tmp 18)) (by kernel_rfl) [(wd n37 0 : Int), (wd n37 1 : Int), (wd n37 2 : Int), (wd n37 3 : Int)] [(wd 4295032833 0 : Int), (wd 4295032833 1 : Int), (wd 4295032833 2 : Int), (wd 4295032833 3 : Int)] rfl rfl _) [15, 19] [(15, .bool true), (19, .bool (decide (([(wd n37 0 : Int), (wd n37 1 : Int), (wd n37 2 : Int), (wd n37 3 : Int)] : List Int) = [(wd 4295032833 0 : Int), (wd 4295032833 1 : Int), (wd 4295032833 2 : Int), (wd 4295032833 3 : Int)])))] (by kernel_rfl) (by kernel_rfl) (by kernel_rfl) hS43 ?_
  refine GP.run [13, 14] [0] [(0, .bool (decide (([(wd n37 0 : Int), (wd n37 1 : Int), (wd n37 2 : Int), (wd n37 3 : Int)] : List Int) = [(wd 4295032833 0 : Int), (wd 4295032833 1 : Int), (wd 4295032833 2 : Int), (wd 4295032833 3 : Int)])))] [0, 1, 2, 3, 4, 5, 6, 7, 8, 9, 10, 11, 12, 13, 14] (by kernel_rfl) rfl hS43 ?_
  refine GP.k (by kernel_rfl) hK18 (fun _ _ h => h) ?_
  refine G.ret ?_
  intro F_ hF_ hM_
  refine hRet _ _ (bodyPost_1 rfl (RV.tmp rfl) ?_ F_ hF_ hM_)
  have hb44 : (decide (([(wd n37 0 : Int), (wd n37 1 : Int), (wd n37 2 : Int), (wd n37 3 : Int)] : List Int) = [(wd 4295032833 0 : Int), (wd 4295032833 1 : Int), (wd 4295032833 2 : Int), (wd 4295032833 3 : Int)])) = true := by rw [hn38, hn9]; kernel_rfl
  rw [hb44]
  exact ⟨rfl, H41.sub (List.nil_sublist _)⟩
end Go.Proofs.Ytjfllmkihfidcaa
