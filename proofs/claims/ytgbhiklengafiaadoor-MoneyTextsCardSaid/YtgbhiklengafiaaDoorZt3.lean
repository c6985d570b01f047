/- Part 3 of what moneyTextsCard_proved stands on. -/
import Derived.Test.YtgbhiklengafiaaDoorZt2
set_option linter.unusedVariables false
set_option maxRecDepth 100000
namespace Go.Proofs.YtgbhiklengafiaaDoor
open Go.RowKit
theorem prod_lt {a b : Nat} (ha : a < K) (hb : b < K) : a * b < K4 := by
  have h : a * b ≤ (K - 1) * (K - 1) := Nat.mul_le_mul (by omega) (by omega)
  exact Nat.lt_of_le_of_lt h (by decide)
theorem Right_calls (a : Nat) (w : World) : Calls Tryd.prog 14 #[.int .u64 (a : Int)] w fun e w' => e = .returned (.bool (decide ((a : Int) ≤ 4611686018427387904))) ∧ Hp w [] [] w' := by
  refine calls_G (args := [.int .u64 (a : Int)]) Tryd.func14 rfl Tryd.ntmps14 rfl ?_
  intro Q0 hRet hNor hPan
  have H := Hp.start w
  have H : Hp w [] [] w := H
  refine G.seqK fun K1 hK2 => ?_
  refine G.region ?_
  refine GL.run (j := 1) 1 [0] [(0, .int .u64 (a : Int))] (by kernel_rfl) rfl ?_
  refine GL.k rfl hK2 (fun _ _ h => h) ?_
  refine G.seqK fun K3 hK4 => ?_
  refine G.region ?_
  refine GL.run (j := 3) 3 [2] [(2, .bool (decide ((a : Int) ≤ 4611686018427387904)))] (by kernel_rfl) rfl ?_
  refine GL.k rfl hK4 (fun _ _ h => h) ?_
  refine G.ret ?_
  intro F_ hF_ hM_
  refine hRet _ _ (bodyPost_1 rfl (RV.tmp rfl) ?_ F_ hF_ hM_)
  exact ⟨rfl, H.sub (List.nil_sublist _)⟩
theorem Part_up (a u d : Nat) (ha : a < K) (hu : u < K) (hd_ : d < K) (hd : d ≠ 0) (w : World) : Calls Tryd.prog 11 #[.int .u64 (a : Int), .int .u64 (u : Int), .int .u64 (d : Int), .bool true] w fun e w' => e = .returned (.tuple #[.int .u64 ((partV a u d true : Nat) : Int), .int .i64 ((partE a u d true : Nat) : Int)]) ∧ Hp w [] [] w' := by
  have hMX : MX = 4611686018427387904 := rfl
  have hK0 : K = 18446744073709551616 := rfl
  have hK40 : K4 = 115792089237316195423570985008687907853269984665640564039457584007913129639936 := rfl
  refine calls_G (args := [.int .u64 (a : Int), .int .u64 (u : Int), .int .u64 (d : Int), .bool true]) Tryd.func11 rfl Tryd.ntmps11 rfl ?_
  intro Q0 hRet hNor hPan
  have H := Hp.start w
  have H : Hp w [] [] w := H
  refine G.seqK fun K1 hK2 => ?_
  refine G.region ?_
  refine GL.run (j := 2) 2 [0, 1, 2, 3] [(0, .int .u64 (a : Int)), (1, .int .u64 (u : Int)), (2, .int .u64 (d : Int)), (3, .bool true)] (by kernel_rfl) rfl ?_
  refine GL.k rfl hK2 (fun _ _ h => h) ?_
  refine G.seqK fun K3 hK4 => ?_
  refine G.seqK fun K5 hK6 => ?_
  refine G.region ?_
  refine GL.run (j := 1) 1 [0, 1, 2, 3, 15] [(0, .int .u64 (a : Int)), (1, .int .u64 (u : Int)), (2, .int .u64 (d : Int)), (3, .bool true), (15, .int .u64 (a : Int))] (by kernel_rfl) rfl ?_
  refine GL.call (j := 2) (Right_calls a w) (by kernel_rfl) rfl (fun e_ w7 hR => ?_)
  obtain ⟨rfl, H9⟩ := hR
  have H8 : Hp w [] [] w7 := H.callNil H9
  refine ⟨_, rfl, [0, 1, 2, 3, 16], [(0, .int .u64 (a : Int)), (1, .int .u64 (u : Int)), (2, .int .u64 (d : Int)), (3, .bool true), (16, .bool (decide ((a : Int) ≤ 4611686018427387904)))], by kernel_rfl, ?_⟩
  refine GL.run (j := 3) 1 [0, 1, 2, 3, 17] [(0, .int .u64 (a : Int)), (1, .int .u64 (u : Int)), (2, .int .u64 (d : Int)), (3, .bool true), (17, .bool (!(decide ((a : Int) ≤ 4611686018427387904))))] (by kernel_rfl) rfl ?_
  refine GL.k rfl hK6 (fun _ _ h => h) ?_
  cases hb10 : (decide ((a : Int) ≤ 4611686018427387904))
  · skip
    have hb10f := of_decide_eq_false hb10
    refine G.yes rfl ?_
    refine G.seqK fun K11 hK12 => ?_
    refine G.region ?_
    refine GL.run (j := 2) 2 [8, 9] [(8, .int .u64 0), (9, .int .i64 1)] (by kernel_rfl) rfl ?_
    refine GL.k rfl hK12 (fun _ _ h => h) ?_
    refine G.ret ?_
    intro F_ hF_ hM_
    refine hRet _ _ (bodyPost_2 rfl (RV.tmp rfl) (RV.tmp rfl) ?_ F_ hF_ hM_)
    have eVE : partV a u d true = 0 ∧ partE a u d true = 1 := by
      exact ⟨(part_arg (by omega)).2, (part_arg (by omega)).1⟩
    rw [eVE.1, eVE.2]
    exact ⟨rfl, H8.sub (List.nil_sublist _)⟩
  · skip
    have hb10f := of_decide_eq_true hb10
    refine G.no rfl ?_
    refine G.skipK hK4 (fun _ _ h => h) ?_
    refine G.seqK fun K13 hK14 => ?_
    refine G.region ?_
    refine GL.run (j := 2) 2 [2, 3, 19, 20] [(2, .int .u64 (d : Int)), (3, .bool true), (19, .int .u64 (a : Int)), (20, .int .u64 (u : Int))] (by kernel_rfl) rfl ?_
    refine GL.call (j := 3) (Product_calls a u ha hu w7) (by kernel_rfl) rfl (fun e_ w15 hR => ?_)
    obtain ⟨he_, H17⟩ := hR
    obtain ⟨n18, hn19⟩ : ∃ v : Nat, v = a * u := ⟨_, rfl⟩
    rw [← hn19] at he_
    have n18l : n18 < K4 := by rw [hn19]; exact prod_lt ha hu
    subst he_
    have H16 : Hp w [] [] w15 := H8.callNil H17
    refine ⟨_, rfl, [2, 3, 21], [(2, .int .u64 (d : Int)), (3, .bool true), (21, wv n18)], by kernel_rfl, ?_⟩
    have hp := hn19
    refine GL.run (j := 4) 1 [3, 21, 22] [(3, .bool true), (21, wv n18), (22, .int .u64 (d : Int))] (by kernel_rfl) rfl ?_
    refine GL.call (j := 5) (Of_calls d hd_ w15) (by kernel_rfl) rfl (fun e_ w20 hR => ?_)
    obtain ⟨he_, H22⟩ := hR
    subst he_
    have H21 : Hp w [] [] w20 := H16.callNil H22
    refine ⟨_, rfl, [3, 21, 23], [(3, .bool true), (21, wv n18), (23, wv d)], by kernel_rfl, ?_⟩
    refine GL.call (j := 6) (Div_calls n18 d n18l (Nat.lt_trans hd_ (by decide)) (hd) w20) (by kernel_rfl) rfl (fun e_ w23 hR => ?_)
    obtain ⟨he_, H25⟩ := hR
    obtain ⟨n26, hn27⟩ : ∃ v : Nat, v = n18 / d := ⟨_, rfl⟩
    rw [← hn27] at he_
    have n26l : n26 < K4 := by rw [hn27]; exact Nat.lt_of_le_of_lt (Nat.div_le_self _ _) n18l
    obtain ⟨n28, hn29⟩ : ∃ v : Nat, v = n18 % d := ⟨_, rfl⟩
    rw [← hn29] at he_
    have n28l : n28 < K4 := by rw [hn29]; exact Nat.lt_of_le_of_lt (Nat.mod_le _ _) n18l
    subst he_
    have hdmn26 : n26 * d + n28 = n18 := by rw [hn27, hn29] <;> exact Nat.div_add_mod' _ _
    have H24 : Hp w [] [] w23 := H21.callNil H25
    refine ⟨_, rfl, [3, 24], [(3, .bool true), (24, .tuple #[wv n26, wv n28, .int .i64 0])], by kernel_rfl, ?_⟩
    have hq := hn27
    have hr := hn29
    refine GL.run (j := 10) 4 [3, 25, 26, 27] [(3, .bool true), (25, wv n26), (26, wv n28), (27, .int .i64 0)] (by kernel_rfl) rfl ?_
    obtain ⟨p30, w31, r32, H33⟩ := H24.alloc (P := Tryd.prog) 45 [.int .u64 0, .int .u64 0, .int .u64 0, .int .u64 0] (by kernel_rfl)
    have H33 : Hp w [] [.blk p30 [.int .u64 0, .int .u64 0, .int .u64 0, .int .u64 0] 45] w31 := H33
    refine GL.sem (j := 11) (r32) [3, 10, 25, 26, 27] [(3, .bool true), (10, pt p30 0), (25, wv n26), (26, wv n28), (27, .int .i64 0)] (by kernel_rfl) (by kernel_rfl) rfl ?_
    obtain ⟨p34, w35, r36, H37⟩ := H33.alloc (P := Tryd.prog) 45 [.int .u64 0, .int .u64 0, .int .u64 0, .int .u64 0] (by kernel_rfl)
    have H37 : Hp w [] [.blk p30 [.int .u64 0, .int .u64 0, .int .u64 0, .int .u64 0] 45, .blk p34 [.int .u64 0, .int .u64 0, .int .u64 0, .int .u64 0] 45] w35 := H37
    refine GL.sem (j := 12) (r36) [3, 10, 11, 25, 26, 27] [(3, .bool true), (10, pt p30 0), (11, pt p34 0), (25, wv n26), (26, wv n28), (27, .int .i64 0)] (by kernel_rfl) (by kernel_rfl) rfl ?_
    obtain ⟨w38, r39, H40⟩ := H37.stA (P := Tryd.prog) (o := 0) (vs := [.int .u64 (wd n26 0 : Int), .int .u64 (wd n26 1 : Int), .int .u64 (wd n26 2 : Int), .int .u64 (wd n26 3 : Int)]) (ty := 45) (m := 4) 0 rfl (by kernel_rfl) rfl (by simp) (by simp [Value.oneCell'])
    have H40 : Hp w [] [.blk p30 [.int .u64 (wd n26 0 : Int), .int .u64 (wd n26 1 : Int), .int .u64 (wd n26 2 : Int), .int .u64 (wd n26 3 : Int)] 45, .blk p34 [.int .u64 0, .int .u64 0, .int .u64 0, .int .u64 0] 45] w38 := H40
    refine GL.semU (j := 13) r39 [3, 10, 11, 26, 27] [(3, .bool true), (10, pt p30 0), (11, pt p34 0), (26, wv n28), (27, .int .i64 0)] (by kernel_rfl) rfl rfl rfl ?_
    obtain ⟨w41, r42, H43⟩ := H40.stA (P := Tryd.prog) (o := 0) (vs := [.int .u64 (wd n28 0 : Int), .int .u64 (wd n28 1 : Int), .int .u64 (wd n28 2 : Int), .int .u64 (wd n28 3 : Int)]) (ty := 45) (m := 4) 1 rfl (by kernel_rfl) rfl (by simp) (by simp [Value.oneCell'])
    have H43 : Hp w [] [.blk p30 [.int .u64 (wd n26 0 : Int), .int .u64 (wd n26 1 : Int), .int .u64 (wd n26 2 : Int), .int .u64 (wd n26 3 : Int)] 45, .blk p34 [.int .u64 (wd n28 0 : Int), .int .u64 (wd n28 1 : Int), .int .u64 (wd n28 2 : Int), .int .u64 (wd n28 3 : Int)] 45] w41 := H43
    refine GL.semU (j := 14) r42 [3, 10, 11, 27] [(3, .bool true), (10, pt p30 0), (11, pt p34 0), (27, .int .i64 0)] (by kernel_rfl) rfl rfl rfl ?_
    refine GL.run (j := 15) 1 [3, 10, 11, 12] [(3, .bool true), (10, pt p30 0), (11, pt p34 0), (12, .int .i64 0)] (by kernel_rfl) rfl ?_
    refine GL.k rfl hK14 (fun _ _ h => h) ?_
    refine G.seqK fun K44 hK45 => ?_
    refine G.seqK fun K46 hK47 => ?_
    refine G.region ?_
    refine GL.run (j := 2) 2 [3, 10, 11, 12, 29] [(3, .bool true), (10, pt p30 0), (11, pt p34 0), (12, .int .i64 0), (29, .bool false)] (by kernel_rfl) rfl ?_
    refine GL.k rfl hK47 (fun _ _ h => h) ?_
    refine G.no rfl ?_
    refine G.skipK hK45 (fun _ _ h => h) ?_
    refine G.seqK fun K48 hK49 => ?_
    refine G.seqK fun K50 hK51 => ?_
    refine G.region ?_
    refine GL.run (j := 2) 2 [10, 11, 32] [(10, pt p30 0), (11, pt p34 0), (32, .bool true)] (by kernel_rfl) rfl ?_
    refine GL.sem (j := 3) (H43.ldA (o := 0) (ty := 45) (m := 4) (sub := [.int .u64 (wd n28 0 : Int), .int .u64 (wd n28 1 : Int), .int .u64 (wd n28 2 : Int), .int .u64 (wd n28 3 : Int)]) 1 rfl (by kernel_rfl) rfl rfl) [10, 32, 33] [(10, pt p30 0), (32, .bool true), (33, wv n28)] (by kernel_rfl) (by kernel_rfl) rfl ?_
    refine GL.run (j := 4) 1 [10, 32, 33, 34] [(10, pt p30 0), (32, .bool true), (33, wv n28), (34, .agg #[.int .u64 0, .int .u64 0, .int .u64 0, .int .u64 0])] (by kernel_rfl) rfl ?_
    refine GL.sem (j := 5) (run_arr_neq (P := Tryd.prog) (t := 45) (n := 4) (k := .u64) (x := (.tmp 33)) (y := (.tmp 34)) (by kernel_rfl) [(wd n28 0 : Int), (wd n28 1 : Int), (wd n28 2 : Int), (wd n28 3 : Int)] [0, 0, 0, 0] rfl rfl _) [10, 32, 35] [(10, pt p30 0), (32, .bool true), (35, .bool (!(decide (([(wd n28 0 : Int), (wd n28 1 : Int), (wd n28 2 : Int), (wd n28 3 : Int)] : List Int) = [0, 0, 0, 0]))))] (by kernel_rfl) (by kernel_rfl) rfl ?_
    refine GL.run (j := 6) 1 [10, 36] [(10, pt p30 0), (36, .bool (!(decide (([(wd n28 0 : Int), (wd n28 1 : Int), (wd n28 2 : Int), (wd n28 3 : Int)] : List Int) = [0, 0, 0, 0]))))] (by kernel_rfl) rfl ?_
    refine GL.k rfl hK51 (fun _ _ h => h) ?_
    cases hb52 : (decide (([(wd n28 0 : Int), (wd n28 1 : Int), (wd n28 2 : Int), (wd n28 3 : Int)] : List Int) = [0, 0, 0, 0]))
    · skip
      have hb52f := of_decide_eq_false hb52
      have hr0 : n28 ≠ 0 := fun h => of_decide_eq_false hb52 ((wv_eq (y := 0) n28l (by decide)).2 h)
      refine G.yes rfl ?_
      refine G.heldP (Hp w [] [.blk p34 [.int .u64 (wd n28 0 : Int), .int .u64 (wd n28 1 : Int), .int .u64 (wd n28 2 : Int), .int .u64 (wd n28 3 : Int)] 45]) (by kernel_rfl) (by kernel_rfl) (fun c_ a_ d_ v_ w_ h_ => hPan c_ a_ d_ v_ w_ h_) ?_
      have H53 := H43.drew
      generalize ({ w41 with drawn := w41.drawn + 1 } : World) = w54 at H53 ⊢
      have hS55 : Hp w [] [.blk p34 [.int .u64 (wd n28 0 : Int), .int .u64 (wd n28 1 : Int), .int .u64 (wd n28 2 : Int), .int .u64 (wd n28 3 : Int)] 45] w54 := H53.sub (List.Sublist.cons _ (List.Sublist.cons_cons _ (List.Sublist.slnil)))
      refine GP.named fun Xd_ hXd_ => ?_
      have st69 : ∀ (wD_ : World), Hp w [] [.blk p30 [.int .u64 (wd n26 0 : Int), .int .u64 (wd n26 1 : Int), .int .u64 (wd n26 2 : Int), .int .u64 (wd n26 3 : Int)] 45, .blk p34 [.int .u64 (wd n28 0 : Int), .int .u64 (wd n28 1 : Int), .int .u64 (wd n28 2 : Int), .int .u64 (wd n28 3 : Int)] 45] wD_ → Xd_ [0, 1] [(10, pt p30 0), (38, wv n26), (39, wv 1)] wD_ := by
        intro wD_ HD_
        rw [hXd_]
        have hS70 : Hp w [] [.blk p34 [.int .u64 (wd n28 0 : Int), .int .u64 (wd n28 1 : Int), .int .u64 (wd n28 2 : Int), .int .u64 (wd n28 3 : Int)] 45] wD_ := HD_.sub (List.Sublist.cons _ (List.Sublist.cons_cons _ (List.Sublist.slnil)))
        refine GP.call 2 (Add_calls n26 1 n26l (by decide) wD_) (by kernel_rfl) (by kernel_rfl) (fun e_ w71 hR => ?_)
        obtain ⟨he_, H73⟩ := hR
        obtain ⟨n74, hn75⟩ : ∃ v : Nat, v = (n26 + 1) % K4 := ⟨_, rfl⟩
        rw [← hn75] at he_
        have n74l : n74 < K4 := by rw [hn75]; exact Nat.mod_lt _ (by decide)
        subst he_
        have H72 : Hp w [] [.blk p30 [.int .u64 (wd n26 0 : Int), .int .u64 (wd n26 1 : Int), .int .u64 (wd n26 2 : Int), .int .u64 (wd n26 3 : Int)] 45, .blk p34 [.int .u64 (wd n28 0 : Int), .int .u64 (wd n28 1 : Int), .int .u64 (wd n28 2 : Int), .int .u64 (wd n28 3 : Int)] 45] w71 := HD_.callNil H73
        have hS76 : Hp w [] [.blk p34 [.int .u64 (wd n28 0 : Int), .int .u64 (wd n28 1 : Int), .int .u64 (wd n28 2 : Int), .int .u64 (wd n28 3 : Int)] 45] w71 := H72.sub (List.Sublist.cons _ (List.Sublist.cons_cons _ (List.Sublist.slnil)))
        refine ⟨_, rfl, hS76, [10, 40], [(10, pt p30 0), (40, .tuple #[wv n74, .bool (decide (K4 ≤ n26 + 1))])], by kernel_rfl, ?_⟩
        refine GP.run [3, 4, 5] [10, 41] [(10, pt p30 0), (41, wv n74)] [0, 1, 2, 3, 4, 5] (by kernel_rfl) rfl hS76 ?_
        obtain ⟨w77, r78, H79⟩ := H72.stA (P := Tryd.prog) (o := 0) (vs := [.int .u64 (wd n74 0 : Int), .int .u64 (wd n74 1 : Int), .int .u64 (wd n74 2 : Int), .int .u64 (wd n74 3 : Int)]) (ty := 45) (m := 4) 0 rfl (by kernel_rfl) rfl (by simp) (by simp [Value.oneCell'])
        have H79 : Hp w [] [.blk p30 [.int .u64 (wd n74 0 : Int), .int .u64 (wd n74 1 : Int), .int .u64 (wd n74 2 : Int), .int .u64 (wd n74 3 : Int)] 45, .blk p34 [.int .u64 (wd n28 0 : Int), .int .u64 (wd n28 1 : Int), .int .u64 (wd n28 2 : Int), .int .u64 (wd n28 3 : Int)] 45] w77 := H79
        have hS80 : Hp w [] [.blk p34 [.int .u64 (wd n28 0 : Int), .int .u64 (wd n28 1 : Int), .int .u64 (wd n28 2 : Int), .int .u64 (wd n28 3 : Int)] 45] w77 := H79.sub (List.Sublist.cons _ (List.Sublist.cons_cons _ (List.Sublist.slnil)))
        refine GP.semU 6 r78 [10] [(10, pt p30 0)] (by kernel_rfl) rfl rfl (by kernel_rfl) hS80 ?_
        refine GP.k (by kernel_rfl) hK49 (fun _ _ h => h) ?_
        refine G.seqK fun K81 hK82 => ?_
        refine G.region ?_
        refine GL.sem (j := 1) (H79.ldA (o := 0) (ty := 45) (m := 4) (sub := [.int .u64 (wd n74 0 : Int), .int .u64 (wd n74 1 : Int), .int .u64 (wd n74 2 : Int), .int .u64 (wd n74 3 : Int)]) 0 rfl (by kernel_rfl) rfl rfl) [44] [(44, wv n74)] (by kernel_rfl) (by kernel_rfl) rfl ?_
        refine GL.call (j := 2) (Uint_calls n74 n74l w77) (by kernel_rfl) rfl (fun e_ w83 hR => ?_)
        obtain ⟨he_, H85⟩ := hR
        subst he_
        have H84 : Hp w [] [.blk p30 [.int .u64 (wd n74 0 : Int), .int .u64 (wd n74 1 : Int), .int .u64 (wd n74 2 : Int), .int .u64 (wd n74 3 : Int)] 45, .blk p34 [.int .u64 (wd n28 0 : Int), .int .u64 (wd n28 1 : Int), .int .u64 (wd n28 2 : Int), .int .u64 (wd n28 3 : Int)] 45] w83 := H79.callNil H85
        refine ⟨_, rfl, [45], [(45, .tuple #[.int .u64 (((oneW n74) : Nat) : Int), .bool (decide (n74 < K))])], by kernel_rfl, ?_⟩
        refine GL.run (j := 7) 5 [13, 14] [(13, .int .u64 (((oneW n74) : Nat) : Int)), (14, .bool (decide (n74 < K)))] (by kernel_rfl) rfl ?_
        refine GL.k rfl hK82 (fun _ _ h => h) ?_
        refine G.seqK fun K86 hK87 => ?_
        refine G.seqK fun K88 hK89 => ?_
        refine G.region ?_
        refine GL.run (j := 3) 3 [13, 50] [(13, .int .u64 (((oneW n74) : Nat) : Int)), (50, .bool (!(decide (n74 < K))))] (by kernel_rfl) rfl ?_
        cases hb90 : (decide (n74 < K))
        · skip
          have hb90f := of_decide_eq_false hb90
          refine GL.run (j := 7) 4 [13, 54] [(13, .int .u64 (((oneW n74) : Nat) : Int)), (54, .bool true)] (by kernel_rfl) rfl ?_
          refine GL.k rfl hK89 (fun _ _ h => h) ?_
          refine G.yes rfl ?_
          refine G.seqK fun K91 hK92 => ?_
          refine G.region ?_
          refine GL.run (j := 2) 2 [8, 9] [(8, .int .u64 0), (9, .int .i64 4)] (by kernel_rfl) rfl ?_
          refine GL.k rfl hK92 (fun _ _ h => h) ?_
          refine G.ret ?_
          intro F_ hF_ hM_
          refine hRet _ _ (bodyPost_2 rfl (RV.tmp rfl) (RV.tmp rfl) ?_ F_ hF_ hM_)
          have eVE : partV a u d true = 0 ∧ partE a u d true = 4 := by
            have hQ := partQ_one (u := u) (a := a) (d := d) (by rw [← hp, ← hr]; exact hr0)
            rw [← hp, ← hq] at hQ
            have hB := part_bound (d := d) (show a ≤ MX by omega) hu
            rw [← hp, ← hq] at hB
            have c := oneW_cases n74
            have hX1 : n74 = n26 + 1 := by rw [hn75]; exact Nat.mod_eq_of_lt hB
            have hX : n74 = partQ a u d true := by omega
            obtain ⟨p1, p2⟩ := part_over (a := a) (u := u) (d := d) (m := true) (by omega) hd (by omega)
            exact ⟨by omega, p1⟩
          rw [eVE.1, eVE.2]
          exact ⟨rfl, H84.sub (List.nil_sublist _)⟩
        · skip
          have hb90f := of_decide_eq_true hb90
          refine GL.run (j := 4) 1 [13, 50, 51] [(13, .int .u64 (((oneW n74) : Nat) : Int)), (50, .bool false), (51, .int .u64 (((oneW n74) : Nat) : Int))] (by kernel_rfl) rfl ?_
          refine GL.call (j := 5) (Right_calls (oneW n74) w83) (by kernel_rfl) rfl (fun e_ w93 hR => ?_)
          obtain ⟨rfl, H95⟩ := hR
          have H94 : Hp w [] [.blk p30 [.int .u64 (wd n74 0 : Int), .int .u64 (wd n74 1 : Int), .int .u64 (wd n74 2 : Int), .int .u64 (wd n74 3 : Int)] 45, .blk p34 [.int .u64 (wd n28 0 : Int), .int .u64 (wd n28 1 : Int), .int .u64 (wd n28 2 : Int), .int .u64 (wd n28 3 : Int)] 45] w93 := H84.callNil H95
          refine ⟨_, rfl, [13, 50, 52], [(13, .int .u64 (((oneW n74) : Nat) : Int)), (50, .bool false), (52, .bool (decide (((oneW n74) : Int) ≤ 4611686018427387904)))], by kernel_rfl, ?_⟩
          refine GL.run (j := 7) 2 [13, 54] [(13, .int .u64 (((oneW n74) : Nat) : Int)), (54, .bool (!(decide (((oneW n74) : Int) ≤ 4611686018427387904))))] (by kernel_rfl) rfl ?_
          refine GL.k rfl hK89 (fun _ _ h => h) ?_
          cases hb96 : (decide (((oneW n74) : Int) ≤ 4611686018427387904))
          · skip
            have hb96f := of_decide_eq_false hb96
            refine G.yes rfl ?_
            refine G.seqK fun K97 hK98 => ?_
            refine G.region ?_
            refine GL.run (j := 2) 2 [8, 9] [(8, .int .u64 0), (9, .int .i64 4)] (by kernel_rfl) rfl ?_
            refine GL.k rfl hK98 (fun _ _ h => h) ?_
            refine G.ret ?_
            intro F_ hF_ hM_
            refine hRet _ _ (bodyPost_2 rfl (RV.tmp rfl) (RV.tmp rfl) ?_ F_ hF_ hM_)
            have eVE : partV a u d true = 0 ∧ partE a u d true = 4 := by
              have hQ := partQ_one (u := u) (a := a) (d := d) (by rw [← hp, ← hr]; exact hr0)
              rw [← hp, ← hq] at hQ
              have hB := part_bound (d := d) (show a ≤ MX by omega) hu
              rw [← hp, ← hq] at hB
              have c := oneW_cases n74
              have hX1 : n74 = n26 + 1 := by rw [hn75]; exact Nat.mod_eq_of_lt hB
              have hX : n74 = partQ a u d true := by omega
              obtain ⟨p1, p2⟩ := part_over (a := a) (u := u) (d := d) (m := true) (by omega) hd (by omega)
              exact ⟨by omega, p1⟩
            rw [eVE.1, eVE.2]
            exact ⟨rfl, H94.sub (List.nil_sublist _)⟩
          · skip
            have hb96f := of_decide_eq_true hb96
            refine G.no rfl ?_
            refine G.skipK hK87 (fun _ _ h => h) ?_
            refine G.seqK fun K99 hK100 => ?_
            refine G.region ?_
            refine GL.run (j := 3) 3 [8, 9] [(8, .int .u64 (((oneW n74) : Nat) : Int)), (9, .int .i64 0)] (by kernel_rfl) rfl ?_
            refine GL.k rfl hK100 (fun _ _ h => h) ?_
            refine G.ret ?_
            intro F_ hF_ hM_
            refine hRet _ _ (bodyPost_2 rfl (RV.tmp rfl) (RV.tmp rfl) ?_ F_ hF_ hM_)
            have eVE : partV a u d true = (oneW n74) ∧ partE a u d true = 0 := by
              have hQ := partQ_one (u := u) (a := a) (d := d) (by rw [← hp, ← hr]; exact hr0)
              rw [← hp, ← hq] at hQ
              have hB := part_bound (d := d) (show a ≤ MX by omega) hu
              rw [← hp, ← hq] at hB
              have c := oneW_cases n74
              have hX1 : n74 = n26 + 1 := by rw [hn75]; exact Nat.mod_eq_of_lt hB
              have hX : n74 = partQ a u d true := by omega
              obtain ⟨p1, p2⟩ := part_ok (a := a) (u := u) (d := d) (m := true) (by omega) hd (by omega)
              exact ⟨by omega, p1⟩
            rw [eVE.1, eVE.2]
            exact ⟨rfl, H94.sub (List.nil_sublist _)⟩
      have st67 : ∀ (wD_ : World), Hp w [] [.blk p30 [.int .u64 (wd n26 0 : Int), .int .u64 (wd n26 1 : Int), .int .u64 (wd n26 2 : Int), .int .u64 (wd n26 3 : Int)] 45, .blk p34 [.int .u64 (wd n28 0 : Int), .int .u64 (wd n28 1 : Int), .int .u64 (wd n28 2 : Int), .int .u64 (wd n28 3 : Int)] 45] wD_ → Xd_ [0] [(10, pt p30 0), (38, wv n26)] wD_ := by
        intro wD_ HD_
        rw [hXd_]
        have hS101 : Hp w [] [.blk p34 [.int .u64 (wd n28 0 : Int), .int .u64 (wd n28 1 : Int), .int .u64 (wd n28 2 : Int), .int .u64 (wd n28 3 : Int)] 45] wD_ := HD_.sub (List.Sublist.cons _ (List.Sublist.cons_cons _ (List.Sublist.slnil)))
        refine GP.all1 1 (by kernel_rfl) ?_
        · skip
          have hS102 : Hp w [] [.blk p34 [.int .u64 (wd n28 0 : Int), .int .u64 (wd n28 1 : Int), .int .u64 (wd n28 2 : Int), .int .u64 (wd n28 3 : Int)] 45] wD_ := HD_.sub (List.Sublist.cons _ (List.Sublist.cons_cons _ (List.Sublist.slnil)))
          refine GO.call (Of_calls 1 (by decide) wD_) (by kernel_rfl) (fun e_ w103 hR => ?_)
          obtain ⟨rfl, H105⟩ := hR
          have H104 : Hp w [] [.blk p30 [.int .u64 (wd n26 0 : Int), .int .u64 (wd n26 1 : Int), .int .u64 (wd n26 2 : Int), .int .u64 (wd n26 3 : Int)] 45, .blk p34 [.int .u64 (wd n28 0 : Int), .int .u64 (wd n28 1 : Int), .int .u64 (wd n28 2 : Int), .int .u64 (wd n28 3 : Int)] 45] w103 := HD_.callNil H105
          have hS106 : Hp w [] [.blk p34 [.int .u64 (wd n28 0 : Int), .int .u64 (wd n28 1 : Int), .int .u64 (wd n28 2 : Int), .int .u64 (wd n28 3 : Int)] 45] w103 := H104.sub (List.Sublist.cons _ (List.Sublist.cons_cons _ (List.Sublist.slnil)))
          refine ⟨_, rfl, hS106, [10, 38, 39], [(10, pt p30 0), (38, wv n26), (39, wv 1)], by kernel_rfl, ?_⟩
          refine GP.perm [0, 1] (by kernel_rfl) rfl ?_
          rw [← hXd_]
          exact st69 _ H104
      have st68 : ∀ (wD_ : World), Hp w [] [.blk p30 [.int .u64 (wd n26 0 : Int), .int .u64 (wd n26 1 : Int), .int .u64 (wd n26 2 : Int), .int .u64 (wd n26 3 : Int)] 45, .blk p34 [.int .u64 (wd n28 0 : Int), .int .u64 (wd n28 1 : Int), .int .u64 (wd n28 2 : Int), .int .u64 (wd n28 3 : Int)] 45] wD_ → Xd_ [1] [(10, pt p30 0), (39, wv 1)] wD_ := by
        intro wD_ HD_
        rw [hXd_]
        have hS107 : Hp w [] [.blk p34 [.int .u64 (wd n28 0 : Int), .int .u64 (wd n28 1 : Int), .int .u64 (wd n28 2 : Int), .int .u64 (wd n28 3 : Int)] 45] wD_ := HD_.sub (List.Sublist.cons _ (List.Sublist.cons_cons _ (List.Sublist.slnil)))
        refine GP.all1 0 (by kernel_rfl) ?_
        · skip
          have hS108 : Hp w [] [.blk p34 [.int .u64 (wd n28 0 : Int), .int .u64 (wd n28 1 : Int), .int .u64 (wd n28 2 : Int), .int .u64 (wd n28 3 : Int)] 45] wD_ := HD_.sub (List.Sublist.cons _ (List.Sublist.cons_cons _ (List.Sublist.slnil)))
          have hS109 : Hp w [] [.blk p34 [.int .u64 (wd n28 0 : Int), .int .u64 (wd n28 1 : Int), .int .u64 (wd n28 2 : Int), .int .u64 (wd n28 3 : Int)] 45] wD_ := HD_.sub (List.Sublist.cons _ (List.Sublist.cons_cons _ (List.Sublist.slnil)))
          refine GO.made (HD_.ldA (o := 0) (ty := 45) (m := 4) (sub := [.int .u64 (wd n26 0 : Int), .int .u64 (wd n26 1 : Int), .int .u64 (wd n26 2 : Int), .int .u64 (wd n26 3 : Int)]) 0 rfl (by kernel_rfl) rfl rfl) [10, 38, 39] [(10, pt p30 0), (38, wv n26), (39, wv 1)] (by kernel_rfl) (by kernel_rfl) hS109 ?_
          refine GP.perm [0, 1] (by kernel_rfl) rfl ?_
          rw [← hXd_]
          exact st69 _ HD_
      have st66 : ∀ (wD_ : World), Hp w [] [.blk p30 [.int .u64 (wd n26 0 : Int), .int .u64 (wd n26 1 : Int), .int .u64 (wd n26 2 : Int), .int .u64 (wd n26 3 : Int)] 45, .blk p34 [.int .u64 (wd n28 0 : Int), .int .u64 (wd n28 1 : Int), .int .u64 (wd n28 2 : Int), .int .u64 (wd n28 3 : Int)] 45] wD_ → Xd_ [] [(10, pt p30 0), (36, .bool true)] wD_ := by
        intro wD_ HD_
        rw [hXd_]
        have hS110 : Hp w [] [.blk p34 [.int .u64 (wd n28 0 : Int), .int .u64 (wd n28 1 : Int), .int .u64 (wd n28 2 : Int), .int .u64 (wd n28 3 : Int)] 45] wD_ := HD_.sub (List.Sublist.cons _ (List.Sublist.cons_cons _ (List.Sublist.slnil)))
        refine GP.all2 0 1 (by kernel_rfl) ?_ ?_
        · skip
          have hS111 : Hp w [] [.blk p34 [.int .u64 (wd n28 0 : Int), .int .u64 (wd n28 1 : Int), .int .u64 (wd n28 2 : Int), .int .u64 (wd n28 3 : Int)] 45] wD_ := HD_.sub (List.Sublist.cons _ (List.Sublist.cons_cons _ (List.Sublist.slnil)))
          have hS112 : Hp w [] [.blk p34 [.int .u64 (wd n28 0 : Int), .int .u64 (wd n28 1 : Int), .int .u64 (wd n28 2 : Int), .int .u64 (wd n28 3 : Int)] 45] wD_ := HD_.sub (List.Sublist.cons _ (List.Sublist.cons_cons _ (List.Sublist.slnil)))
          refine GO.made (HD_.ldA (o := 0) (ty := 45) (m := 4) (sub := [.int .u64 (wd n26 0 : Int), .int .u64 (wd n26 1 : Int), .int .u64 (wd n26 2 : Int), .int .u64 (wd n26 3 : Int)]) 0 rfl (by kernel_rfl) rfl rfl) [10, 38] [(10, pt p30 0), (38, wv n26)] (by kernel_rfl) (by kernel_rfl) hS112 ?_
          refine GP.perm [0] (by kernel_rfl) rfl ?_
          rw [← hXd_]
          exact st67 _ HD_
        · skip
          have hS113 : Hp w [] [.blk p34 [.int .u64 (wd n28 0 : Int), .int .u64 (wd n28 1 : Int), .int .u64 (wd n28 2 : Int), .int .u64 (wd n28 3 : Int)] 45] wD_ := HD_.sub (List.Sublist.cons _ (List.Sublist.cons_cons _ (List.Sublist.slnil)))
          refine GO.call (Of_calls 1 (by decide) wD_) (by kernel_rfl) (fun e_ w114 hR => ?_)
          obtain ⟨rfl, H116⟩ := hR
          have H115 : Hp w [] [.blk p30 [.int .u64 (wd n26 0 : Int), .int .u64 (wd n26 1 : Int), .int .u64 (wd n26 2 : Int), .int .u64 (wd n26 3 : Int)] 45, .blk p34 [.int .u64 (wd n28 0 : Int), .int .u64 (wd n28 1 : Int), .int .u64 (wd n28 2 : Int), .int .u64 (wd n28 3 : Int)] 45] w114 := HD_.callNil H116
          have hS117 : Hp w [] [.blk p34 [.int .u64 (wd n28 0 : Int), .int .u64 (wd n28 1 : Int), .int .u64 (wd n28 2 : Int), .int .u64 (wd n28 3 : Int)] 45] w114 := H115.sub (List.Sublist.cons _ (List.Sublist.cons_cons _ (List.Sublist.slnil)))
          refine ⟨_, rfl, hS117, [10, 39], [(10, pt p30 0), (39, wv 1)], by kernel_rfl, ?_⟩
          refine GP.perm [1] (by kernel_rfl) rfl ?_
          rw [← hXd_]
          exact st68 _ H115
      exact st66 _ H53
    · skip
      have hb52f := of_decide_eq_true hb52
      have hr0 : n28 = 0 := (wv_eq (y := 0) n28l (by decide)).1 (of_decide_eq_true hb52)
      refine G.no rfl ?_
      refine G.skipK hK49 (fun _ _ h => h) ?_
      refine G.seqK fun K118 hK119 => ?_
      refine G.region ?_
      refine GL.sem (j := 1) (H43.ldA (o := 0) (ty := 45) (m := 4) (sub := [.int .u64 (wd n26 0 : Int), .int .u64 (wd n26 1 : Int), .int .u64 (wd n26 2 : Int), .int .u64 (wd n26 3 : Int)]) 0 rfl (by kernel_rfl) rfl rfl) [44] [(44, wv n26)] (by kernel_rfl) (by kernel_rfl) rfl ?_
      refine GL.call (j := 2) (Uint_calls n26 n26l w41) (by kernel_rfl) rfl (fun e_ w120 hR => ?_)
      obtain ⟨he_, H122⟩ := hR
      subst he_
      have H121 : Hp w [] [.blk p30 [.int .u64 (wd n26 0 : Int), .int .u64 (wd n26 1 : Int), .int .u64 (wd n26 2 : Int), .int .u64 (wd n26 3 : Int)] 45, .blk p34 [.int .u64 (wd n28 0 : Int), .int .u64 (wd n28 1 : Int), .int .u64 (wd n28 2 : Int), .int .u64 (wd n28 3 : Int)] 45] w120 := H43.callNil H122
      refine ⟨_, rfl, [45], [(45, .tuple #[.int .u64 (((oneW n26) : Nat) : Int), .bool (decide (n26 < K))])], by kernel_rfl, ?_⟩
      refine GL.run (j := 7) 5 [13, 14] [(13, .int .u64 (((oneW n26) : Nat) : Int)), (14, .bool (decide (n26 < K)))] (by kernel_rfl) rfl ?_
      refine GL.k rfl hK119 (fun _ _ h => h) ?_
      refine G.seqK fun K123 hK124 => ?_
      refine G.seqK fun K125 hK126 => ?_
      refine G.region ?_
      refine GL.run (j := 3) 3 [13, 50] [(13, .int .u64 (((oneW n26) : Nat) : Int)), (50, .bool (!(decide (n26 < K))))] (by kernel_rfl) rfl ?_
      cases hb127 : (decide (n26 < K))
      · skip
        have hb127f := of_decide_eq_false hb127
        refine GL.run (j := 7) 4 [13, 54] [(13, .int .u64 (((oneW n26) : Nat) : Int)), (54, .bool true)] (by kernel_rfl) rfl ?_
        refine GL.k rfl hK126 (fun _ _ h => h) ?_
        refine G.yes rfl ?_
        refine G.seqK fun K128 hK129 => ?_
        refine G.region ?_
        refine GL.run (j := 2) 2 [8, 9] [(8, .int .u64 0), (9, .int .i64 4)] (by kernel_rfl) rfl ?_
        refine GL.k rfl hK129 (fun _ _ h => h) ?_
        refine G.ret ?_
        intro F_ hF_ hM_
        refine hRet _ _ (bodyPost_2 rfl (RV.tmp rfl) (RV.tmp rfl) ?_ F_ hF_ hM_)
        have eVE : partV a u d true = 0 ∧ partE a u d true = 4 := by
          have hQ := partQ_none (u := u) (a := a) (d := d) (by rw [← hp, ← hr]; exact hr0)
          rw [← hp, ← hq] at hQ
          have hB := part_bound (d := d) (show a ≤ MX by omega) hu
          rw [← hp, ← hq] at hB
          have c := oneW_cases n26
          have hX : n26 = partQ a u d true := by omega
          obtain ⟨p1, p2⟩ := part_over (a := a) (u := u) (d := d) (m := true) (by omega) hd (by omega)
          exact ⟨by omega, p1⟩
        rw [eVE.1, eVE.2]
        exact ⟨rfl, H121.sub (List.nil_sublist _)⟩
      · skip
        have hb127f := of_decide_eq_true hb127
        refine GL.run (j := 4) 1 [13, 50, 51] [(13, .int .u64 (((oneW n26) : Nat) : Int)), (50, .bool false), (51, .int .u64 (((oneW n26) : Nat) : Int))] (by kernel_rfl) rfl ?_
        refine GL.call (j := 5) (Right_calls (oneW n26) w120) (by kernel_rfl) rfl (fun e_ w130 hR => ?_)
        obtain ⟨rfl, H132⟩ := hR
        have H131 : Hp w [] [.blk p30 [.int .u64 (wd n26 0 : Int), .int .u64 (wd n26 1 : Int), .int .u64 (wd n26 2 : Int), .int .u64 (wd n26 3 : Int)] 45, .blk p34 [.int .u64 (wd n28 0 : Int), .int .u64 (wd n28 1 : Int), .int .u64 (wd n28 2 : Int), .int .u64 (wd n28 3 : Int)] 45] w130 := H121.callNil H132
        refine ⟨_, rfl, [13, 50, 52], [(13, .int .u64 (((oneW n26) : Nat) : Int)), (50, .bool false), (52, .bool (decide (((oneW n26) : Int) ≤ 4611686018427387904)))], by kernel_rfl, ?_⟩
        refine GL.run (j := 7) 2 [13, 54] [(13, .int .u64 (((oneW n26) : Nat) : Int)), (54, .bool (!(decide (((oneW n26) : Int) ≤ 4611686018427387904))))] (by kernel_rfl) rfl ?_
        refine GL.k rfl hK126 (fun _ _ h => h) ?_
        cases hb133 : (decide (((oneW n26) : Int) ≤ 4611686018427387904))
        · skip
          have hb133f := of_decide_eq_false hb133
          refine G.yes rfl ?_
          refine G.seqK fun K134 hK135 => ?_
          refine G.region ?_
          refine GL.run (j := 2) 2 [8, 9] [(8, .int .u64 0), (9, .int .i64 4)] (by kernel_rfl) rfl ?_
          refine GL.k rfl hK135 (fun _ _ h => h) ?_
          refine G.ret ?_
          intro F_ hF_ hM_
          refine hRet _ _ (bodyPost_2 rfl (RV.tmp rfl) (RV.tmp rfl) ?_ F_ hF_ hM_)
          have eVE : partV a u d true = 0 ∧ partE a u d true = 4 := by
            have hQ := partQ_none (u := u) (a := a) (d := d) (by rw [← hp, ← hr]; exact hr0)
            rw [← hp, ← hq] at hQ
            have hB := part_bound (d := d) (show a ≤ MX by omega) hu
            rw [← hp, ← hq] at hB
            have c := oneW_cases n26
            have hX : n26 = partQ a u d true := by omega
            obtain ⟨p1, p2⟩ := part_over (a := a) (u := u) (d := d) (m := true) (by omega) hd (by omega)
            exact ⟨by omega, p1⟩
          rw [eVE.1, eVE.2]
          exact ⟨rfl, H131.sub (List.nil_sublist _)⟩
        · skip
          have hb133f := of_decide_eq_true hb133
          refine G.no rfl ?_
          refine G.skipK hK124 (fun _ _ h => h) ?_
          refine G.seqK fun K136 hK137 => ?_
          refine G.region ?_
          refine GL.run (j := 3) 3 [8, 9] [(8, .int .u64 (((oneW n26) : Nat) : Int)), (9, .int .i64 0)] (by kernel_rfl) rfl ?_
          refine GL.k rfl hK137 (fun _ _ h => h) ?_
          refine G.ret ?_
          intro F_ hF_ hM_
          refine hRet _ _ (bodyPost_2 rfl (RV.tmp rfl) (RV.tmp rfl) ?_ F_ hF_ hM_)
          have eVE : partV a u d true = (oneW n26) ∧ partE a u d true = 0 := by
            have hQ := partQ_none (u := u) (a := a) (d := d) (by rw [← hp, ← hr]; exact hr0)
            rw [← hp, ← hq] at hQ
            have hB := part_bound (d := d) (show a ≤ MX by omega) hu
            rw [← hp, ← hq] at hB
            have c := oneW_cases n26
            have hX : n26 = partQ a u d true := by omega
            obtain ⟨p1, p2⟩ := part_ok (a := a) (u := u) (d := d) (m := true) (by omega) hd (by omega)
            exact ⟨by omega, p1⟩
          rw [eVE.1, eVE.2]
          exact ⟨rfl, H131.sub (List.nil_sublist _)⟩
theorem Part_down (a u d : Nat) (ha : a < K) (hu : u < K) (hd_ : d < K) (hd : d ≠ 0) (w : World) : Calls Tryd.prog 11 #[.int .u64 (a : Int), .int .u64 (u : Int), .int .u64 (d : Int), .bool false] w fun e w' => e = .returned (.tuple #[.int .u64 ((partV a u d false : Nat) : Int), .int .i64 ((partE a u d false : Nat) : Int)]) ∧ Hp w [] [] w' := by
  have hMX : MX = 4611686018427387904 := rfl
  have hK0 : K = 18446744073709551616 := rfl
  have hK40 : K4 = 115792089237316195423570985008687907853269984665640564039457584007913129639936 := rfl
  refine calls_G (args := [.int .u64 (a : Int), .int .u64 (u : Int), .int .u64 (d : Int), .bool false]) Tryd.func11 rfl Tryd.ntmps11 rfl ?_
  intro Q0 hRet hNor hPan
  have H := Hp.start w
  have H : Hp w [] [] w := H
  refine G.seqK fun K1 hK2 => ?_
  refine G.region ?_
  refine GL.run (j := 2) 2 [0, 1, 2, 3] [(0, .int .u64 (a : Int)), (1, .int .u64 (u : Int)), (2, .int .u64 (d : Int)), (3, .bool false)] (by kernel_rfl) rfl ?_
  refine GL.k rfl hK2 (fun _ _ h => h) ?_
  refine G.seqK fun K3 hK4 => ?_
  refine G.seqK fun K5 hK6 => ?_
  refine G.region ?_
  refine GL.run (j := 1) 1 [0, 1, 2, 3, 15] [(0, .int .u64 (a : Int)), (1, .int .u64 (u : Int)), (2, .int .u64 (d : Int)), (3, .bool false), (15, .int .u64 (a : Int))] (by kernel_rfl) rfl ?_
  refine GL.call (j := 2) (Right_calls a w) (by kernel_rfl) rfl (fun e_ w7 hR => ?_)
  obtain ⟨rfl, H9⟩ := hR
  have H8 : Hp w [] [] w7 := H.callNil H9
  refine ⟨_, rfl, [0, 1, 2, 3, 16], [(0, .int .u64 (a : Int)), (1, .int .u64 (u : Int)), (2, .int .u64 (d : Int)), (3, .bool false), (16, .bool (decide ((a : Int) ≤ 4611686018427387904)))], by kernel_rfl, ?_⟩
  refine GL.run (j := 3) 1 [0, 1, 2, 3, 17] [(0, .int .u64 (a : Int)), (1, .int .u64 (u : Int)), (2, .int .u64 (d : Int)), (3, .bool false), (17, .bool (!(decide ((a : Int) ≤ 4611686018427387904))))] (by kernel_rfl) rfl ?_
  refine GL.k rfl hK6 (fun _ _ h => h) ?_
  cases hb10 : (decide ((a : Int) ≤ 4611686018427387904))
  · skip
    have hb10f := of_decide_eq_false hb10
    refine G.yes rfl ?_
    refine G.seqK fun K11 hK12 => ?_
    refine G.region ?_
    refine GL.run (j := 2) 2 [8, 9] [(8, .int .u64 0), (9, .int .i64 1)] (by kernel_rfl) rfl ?_
    refine GL.k rfl hK12 (fun _ _ h => h) ?_
    refine G.ret ?_
    intro F_ hF_ hM_
    refine hRet _ _ (bodyPost_2 rfl (RV.tmp rfl) (RV.tmp rfl) ?_ F_ hF_ hM_)
    have eVE : partV a u d false = 0 ∧ partE a u d false = 1 := by
      exact ⟨(part_arg (by omega)).2, (part_arg (by omega)).1⟩
    rw [eVE.1, eVE.2]
    exact ⟨rfl, H8.sub (List.nil_sublist _)⟩
  · skip
    have hb10f := of_decide_eq_true hb10
    refine G.no rfl ?_
    refine G.skipK hK4 (fun _ _ h => h) ?_
    refine G.seqK fun K13 hK14 => ?_
    refine G.region ?_
    refine GL.run (j := 2) 2 [2, 3, 19, 20] [(2, .int .u64 (d : Int)), (3, .bool false), (19, .int .u64 (a : Int)), (20, .int .u64 (u : Int))] (by kernel_rfl) rfl ?_
    refine GL.call (j := 3) (Product_calls a u ha hu w7) (by kernel_rfl) rfl (fun e_ w15 hR => ?_)
    obtain ⟨he_, H17⟩ := hR
    obtain ⟨n18, hn19⟩ : ∃ v : Nat, v = a * u := ⟨_, rfl⟩
    rw [← hn19] at he_
    have n18l : n18 < K4 := by rw [hn19]; exact prod_lt ha hu
    subst he_
    have H16 : Hp w [] [] w15 := H8.callNil H17
    refine ⟨_, rfl, [2, 3, 21], [(2, .int .u64 (d : Int)), (3, .bool false), (21, wv n18)], by kernel_rfl, ?_⟩
    have hp := hn19
    refine GL.run (j := 4) 1 [3, 21, 22] [(3, .bool false), (21, wv n18), (22, .int .u64 (d : Int))] (by kernel_rfl) rfl ?_
    refine GL.call (j := 5) (Of_calls d hd_ w15) (by kernel_rfl) rfl (fun e_ w20 hR => ?_)
    obtain ⟨he_, H22⟩ := hR
    subst he_
    have H21 : Hp w [] [] w20 := H16.callNil H22
    refine ⟨_, rfl, [3, 21, 23], [(3, .bool false), (21, wv n18), (23, wv d)], by kernel_rfl, ?_⟩
    refine GL.call (j := 6) (Div_calls n18 d n18l (Nat.lt_trans hd_ (by decide)) (hd) w20) (by kernel_rfl) rfl (fun e_ w23 hR => ?_)
    obtain ⟨he_, H25⟩ := hR
    obtain ⟨n26, hn27⟩ : ∃ v : Nat, v = n18 / d := ⟨_, rfl⟩
    rw [← hn27] at he_
    have n26l : n26 < K4 := by rw [hn27]; exact Nat.lt_of_le_of_lt (Nat.div_le_self _ _) n18l
    obtain ⟨n28, hn29⟩ : ∃ v : Nat, v = n18 % d := ⟨_, rfl⟩
    rw [← hn29] at he_
    have n28l : n28 < K4 := by rw [hn29]; exact Nat.lt_of_le_of_lt (Nat.mod_le _ _) n18l
    subst he_
    have hdmn26 : n26 * d + n28 = n18 := by rw [hn27, hn29] <;> exact Nat.div_add_mod' _ _
    have H24 : Hp w [] [] w23 := H21.callNil H25
    refine ⟨_, rfl, [3, 24], [(3, .bool false), (24, .tuple #[wv n26, wv n28, .int .i64 0])], by kernel_rfl, ?_⟩
    have hq := hn27
    have hr := hn29
    refine GL.run (j := 10) 4 [3, 25, 26, 27] [(3, .bool false), (25, wv n26), (26, wv n28), (27, .int .i64 0)] (by kernel_rfl) rfl ?_
    obtain ⟨p30, w31, r32, H33⟩ := H24.alloc (P := Tryd.prog) 45 [.int .u64 0, .int .u64 0, .int .u64 0, .int .u64 0] (by kernel_rfl)
    have H33 : Hp w [] [.blk p30 [.int .u64 0, .int .u64 0, .int .u64 0, .int .u64 0] 45] w31 := H33
    refine GL.sem (j := 11) (r32) [3, 10, 25, 26, 27] [(3, .bool false), (10, pt p30 0), (25, wv n26), (26, wv n28), (27, .int .i64 0)] (by kernel_rfl) (by kernel_rfl) rfl ?_
    obtain ⟨p34, w35, r36, H37⟩ := H33.alloc (P := Tryd.prog) 45 [.int .u64 0, .int .u64 0, .int .u64 0, .int .u64 0] (by kernel_rfl)
    have H37 : Hp w [] [.blk p30 [.int .u64 0, .int .u64 0, .int .u64 0, .int .u64 0] 45, .blk p34 [.int .u64 0, .int .u64 0, .int .u64 0, .int .u64 0] 45] w35 := H37
    refine GL.sem (j := 12) (r36) [3, 10, 11, 25, 26, 27] [(3, .bool false), (10, pt p30 0), (11, pt p34 0), (25, wv n26), (26, wv n28), (27, .int .i64 0)] (by kernel_rfl) (by kernel_rfl) rfl ?_
    obtain ⟨w38, r39, H40⟩ := H37.stA (P := Tryd.prog) (o := 0) (vs := [.int .u64 (wd n26 0 : Int), .int .u64 (wd n26 1 : Int), .int .u64 (wd n26 2 : Int), .int .u64 (wd n26 3 : Int)]) (ty := 45) (m := 4) 0 rfl (by kernel_rfl) rfl (by simp) (by simp [Value.oneCell'])
    have H40 : Hp w [] [.blk p30 [.int .u64 (wd n26 0 : Int), .int .u64 (wd n26 1 : Int), .int .u64 (wd n26 2 : Int), .int .u64 (wd n26 3 : Int)] 45, .blk p34 [.int .u64 0, .int .u64 0, .int .u64 0, .int .u64 0] 45] w38 := H40
    refine GL.semU (j := 13) r39 [3, 10, 11, 26, 27] [(3, .bool false), (10, pt p30 0), (11, pt p34 0), (26, wv n28), (27, .int .i64 0)] (by kernel_rfl) rfl rfl rfl ?_
    obtain ⟨w41, r42, H43⟩ := H40.stA (P := Tryd.prog) (o := 0) (vs := [.int .u64 (wd n28 0 : Int), .int .u64 (wd n28 1 : Int), .int .u64 (wd n28 2 : Int), .int .u64 (wd n28 3 : Int)]) (ty := 45) (m := 4) 1 rfl (by kernel_rfl) rfl (by simp) (by simp [Value.oneCell'])
    have H43 : Hp w [] [.blk p30 [.int .u64 (wd n26 0 : Int), .int .u64 (wd n26 1 : Int), .int .u64 (wd n26 2 : Int), .int .u64 (wd n26 3 : Int)] 45, .blk p34 [.int .u64 (wd n28 0 : Int), .int .u64 (wd n28 1 : Int), .int .u64 (wd n28 2 : Int), .int .u64 (wd n28 3 : Int)] 45] w41 := H43
    refine GL.semU (j := 14) r42 [3, 10, 11, 27] [(3, .bool false), (10, pt p30 0), (11, pt p34 0), (27, .int .i64 0)] (by kernel_rfl) rfl rfl rfl ?_
    refine GL.run (j := 15) 1 [3, 10, 11, 12] [(3, .bool false), (10, pt p30 0), (11, pt p34 0), (12, .int .i64 0)] (by kernel_rfl) rfl ?_
    refine GL.k rfl hK14 (fun _ _ h => h) ?_
    refine G.seqK fun K44 hK45 => ?_
    refine G.seqK fun K46 hK47 => ?_
    refine G.region ?_
    refine GL.run (j := 2) 2 [3, 10, 11, 12, 29] [(3, .bool false), (10, pt p30 0), (11, pt p34 0), (12, .int .i64 0), (29, .bool false)] (by kernel_rfl) rfl ?_
    refine GL.k rfl hK47 (fun _ _ h => h) ?_
    refine G.no rfl ?_
    refine G.skipK hK45 (fun _ _ h => h) ?_
    refine G.seqK fun K48 hK49 => ?_
    refine G.seqK fun K50 hK51 => ?_
    refine G.region ?_
    refine GL.run (j := 6) 6 [10, 36] [(10, pt p30 0), (36, .bool false)] (by kernel_rfl) rfl ?_
    refine GL.k rfl hK51 (fun _ _ h => h) ?_
    refine G.no rfl ?_
    refine G.skipK hK49 (fun _ _ h => h) ?_
    refine G.seqK fun K52 hK53 => ?_
    refine G.region ?_
    refine GL.sem (j := 1) (H43.ldA (o := 0) (ty := 45) (m := 4) (sub := [.int .u64 (wd n26 0 : Int), .int .u64 (wd n26 1 : Int), .int .u64 (wd n26 2 : Int), .int .u64 (wd n26 3 : Int)]) 0 rfl (by kernel_rfl) rfl rfl) [44] [(44, wv n26)] (by kernel_rfl) (by kernel_rfl) rfl ?_
    refine GL.call (j := 2) (Uint_calls n26 n26l w41) (by kernel_rfl) rfl (fun e_ w54 hR => ?_)
    obtain ⟨he_, H56⟩ := hR
    subst he_
    have H55 : Hp w [] [.blk p30 [.int .u64 (wd n26 0 : Int), .int .u64 (wd n26 1 : Int), .int .u64 (wd n26 2 : Int), .int .u64 (wd n26 3 : Int)] 45, .blk p34 [.int .u64 (wd n28 0 : Int), .int .u64 (wd n28 1 : Int), .int .u64 (wd n28 2 : Int), .int .u64 (wd n28 3 : Int)] 45] w54 := H43.callNil H56
    refine ⟨_, rfl, [45], [(45, .tuple #[.int .u64 (((oneW n26) : Nat) : Int), .bool (decide (n26 < K))])], by kernel_rfl, ?_⟩
    refine GL.run (j := 7) 5 [13, 14] [(13, .int .u64 (((oneW n26) : Nat) : Int)), (14, .bool (decide (n26 < K)))] (by kernel_rfl) rfl ?_
    refine GL.k rfl hK53 (fun _ _ h => h) ?_
    refine G.seqK fun K57 hK58 => ?_
    refine G.seqK fun K59 hK60 => ?_
    refine G.region ?_
    refine GL.run (j := 3) 3 [13, 50] [(13, .int .u64 (((oneW n26) : Nat) : Int)), (50, .bool (!(decide (n26 < K))))] (by kernel_rfl) rfl ?_
    cases hb61 : (decide (n26 < K))
    · skip
      have hb61f := of_decide_eq_false hb61
      refine GL.run (j := 7) 4 [13, 54] [(13, .int .u64 (((oneW n26) : Nat) : Int)), (54, .bool true)] (by kernel_rfl) rfl ?_
      refine GL.k rfl hK60 (fun _ _ h => h) ?_
      refine G.yes rfl ?_
      refine G.seqK fun K62 hK63 => ?_
      refine G.region ?_
      refine GL.run (j := 2) 2 [8, 9] [(8, .int .u64 0), (9, .int .i64 4)] (by kernel_rfl) rfl ?_
      refine GL.k rfl hK63 (fun _ _ h => h) ?_
      refine G.ret ?_
      intro F_ hF_ hM_
      refine hRet _ _ (bodyPost_2 rfl (RV.tmp rfl) (RV.tmp rfl) ?_ F_ hF_ hM_)
      have eVE : partV a u d false = 0 ∧ partE a u d false = 4 := by
        have hQ := partQ_down a u d
        rw [← hp, ← hq] at hQ
        have hB := part_bound (d := d) (show a ≤ MX by omega) hu
        rw [← hp, ← hq] at hB
        have c := oneW_cases n26
        have hX : n26 = partQ a u d false := by omega
        obtain ⟨p1, p2⟩ := part_over (a := a) (u := u) (d := d) (m := false) (by omega) hd (by omega)
        exact ⟨by omega, p1⟩
      rw [eVE.1, eVE.2]
      exact ⟨rfl, H55.sub (List.nil_sublist _)⟩
    · skip
      have hb61f := of_decide_eq_true hb61
      refine GL.run (j := 4) 1 [13, 50, 51] [(13, .int .u64 (((oneW n26) : Nat) : Int)), (50, .bool false), (51, .int .u64 (((oneW n26) : Nat) : Int))] (by kernel_rfl) rfl ?_
      refine GL.call (j := 5) (Right_calls (oneW n26) w54) (by kernel_rfl) rfl (fun e_ w64 hR => ?_)
      obtain ⟨rfl, H66⟩ := hR
      have H65 : Hp w [] [.blk p30 [.int .u64 (wd n26 0 : Int), .int .u64 (wd n26 1 : Int), .int .u64 (wd n26 2 : Int), .int .u64 (wd n26 3 : Int)] 45, .blk p34 [.int .u64 (wd n28 0 : Int), .int .u64 (wd n28 1 : Int), .int .u64 (wd n28 2 : Int), .int .u64 (wd n28 3 : Int)] 45] w64 := H55.callNil H66
      refine ⟨_, rfl, [13, 50, 52], [(13, .int .u64 (((oneW n26) : Nat) : Int)), (50, .bool false), (52, .bool (decide (((oneW n26) : Int) ≤ 4611686018427387904)))], by kernel_rfl, ?_⟩
      refine GL.run (j := 7) 2 [13, 54] [(13, .int .u64 (((oneW n26) : Nat) : Int)), (54, .bool (!(decide (((oneW n26) : Int) ≤ 4611686018427387904))))] (by kernel_rfl) rfl ?_
      refine GL.k rfl hK60 (fun _ _ h => h) ?_
      cases hb67 : (decide (((oneW n26) : Int) ≤ 4611686018427387904))
      · skip
        have hb67f := of_decide_eq_false hb67
        refine G.yes rfl ?_
        refine G.seqK fun K68 hK69 => ?_
        refine G.region ?_
        refine GL.run (j := 2) 2 [8, 9] [(8, .int .u64 0), (9, .int .i64 4)] (by kernel_rfl) rfl ?_
        refine GL.k rfl hK69 (fun _ _ h => h) ?_
        refine G.ret ?_
        intro F_ hF_ hM_
        refine hRet _ _ (bodyPost_2 rfl (RV.tmp rfl) (RV.tmp rfl) ?_ F_ hF_ hM_)
        have eVE : partV a u d false = 0 ∧ partE a u d false = 4 := by
          have hQ := partQ_down a u d
          rw [← hp, ← hq] at hQ
          have hB := part_bound (d := d) (show a ≤ MX by omega) hu
          rw [← hp, ← hq] at hB
          have c := oneW_cases n26
          have hX : n26 = partQ a u d false := by omega
          obtain ⟨p1, p2⟩ := part_over (a := a) (u := u) (d := d) (m := false) (by omega) hd (by omega)
          exact ⟨by omega, p1⟩
        rw [eVE.1, eVE.2]
        exact ⟨rfl, H65.sub (List.nil_sublist _)⟩
      · skip
        have hb67f := of_decide_eq_true hb67
        refine G.no rfl ?_
        refine G.skipK hK58 (fun _ _ h => h) ?_
        refine G.seqK fun K70 hK71 => ?_
        refine G.region ?_
        refine GL.run (j := 3) 3 [8, 9] [(8, .int .u64 (((oneW n26) : Nat) : Int)), (9, .int .i64 0)] (by kernel_rfl) rfl ?_
        refine GL.k rfl hK71 (fun _ _ h => h) ?_
        refine G.ret ?_
        intro F_ hF_ hM_
        refine hRet _ _ (bodyPost_2 rfl (RV.tmp rfl) (RV.tmp rfl) ?_ F_ hF_ hM_)
        have eVE : partV a u d false = (oneW n26) ∧ partE a u d false = 0 := by
          have hQ := partQ_down a u d
          rw [← hp, ← hq] at hQ
          have hB := part_bound (d := d) (show a ≤ MX by omega) hu
          rw [← hp, ← hq] at hB
          have c := oneW_cases n26
          have hX : n26 = partQ a u d false := by omega
          obtain ⟨p1, p2⟩ := part_ok (a := a) (u := u) (d := d) (m := false) (by omega) hd (by omega)
          exact ⟨by omega, p1⟩
        rw [eVE.1, eVE.2]
        exact ⟨rfl, H65.sub (List.nil_sublist _)⟩
theorem Part_up0 (a u : Nat) (ha : a < K) (hu : u < K) (w : World) : Calls Tryd.prog 11 #[.int .u64 (a : Int), .int .u64 (u : Int), .int .u64 0, .bool true] w fun e w' => e = .returned (.tuple #[.int .u64 ((partV a u 0 true : Nat) : Int), .int .i64 ((partE a u 0 true : Nat) : Int)]) ∧ Hp w [] [] w' := by
  have hMX : MX = 4611686018427387904 := rfl
  have hK0 : K = 18446744073709551616 := rfl
  have hK40 : K4 = 115792089237316195423570985008687907853269984665640564039457584007913129639936 := rfl
  refine calls_G (args := [.int .u64 (a : Int), .int .u64 (u : Int), .int .u64 0, .bool true]) Tryd.func11 rfl Tryd.ntmps11 rfl ?_
  intro Q0 hRet hNor hPan
  have H := Hp.start w
  have H : Hp w [] [] w := H
  refine G.seqK fun K1 hK2 => ?_
  refine G.region ?_
  refine GL.run (j := 2) 2 [0, 1, 2, 3] [(0, .int .u64 (a : Int)), (1, .int .u64 (u : Int)), (2, .int .u64 0), (3, .bool true)] (by kernel_rfl) rfl ?_
  refine GL.k rfl hK2 (fun _ _ h => h) ?_
  refine G.seqK fun K3 hK4 => ?_
  refine G.seqK fun K5 hK6 => ?_
  refine G.region ?_
  refine GL.run (j := 1) 1 [0, 1, 2, 3, 15] [(0, .int .u64 (a : Int)), (1, .int .u64 (u : Int)), (2, .int .u64 0), (3, .bool true), (15, .int .u64 (a : Int))] (by kernel_rfl) rfl ?_
  refine GL.call (j := 2) (Right_calls a w) (by kernel_rfl) rfl (fun e_ w7 hR => ?_)
  obtain ⟨rfl, H9⟩ := hR
  have H8 : Hp w [] [] w7 := H.callNil H9
  refine ⟨_, rfl, [0, 1, 2, 3, 16], [(0, .int .u64 (a : Int)), (1, .int .u64 (u : Int)), (2, .int .u64 0), (3, .bool true), (16, .bool (decide ((a : Int) ≤ 4611686018427387904)))], by kernel_rfl, ?_⟩
  refine GL.run (j := 3) 1 [0, 1, 2, 3, 17] [(0, .int .u64 (a : Int)), (1, .int .u64 (u : Int)), (2, .int .u64 0), (3, .bool true), (17, .bool (!(decide ((a : Int) ≤ 4611686018427387904))))] (by kernel_rfl) rfl ?_
  refine GL.k rfl hK6 (fun _ _ h => h) ?_
  cases hb10 : (decide ((a : Int) ≤ 4611686018427387904))
  · skip
    have hb10f := of_decide_eq_false hb10
    refine G.yes rfl ?_
    refine G.seqK fun K11 hK12 => ?_
    refine G.region ?_
    refine GL.run (j := 2) 2 [8, 9] [(8, .int .u64 0), (9, .int .i64 1)] (by kernel_rfl) rfl ?_
    refine GL.k rfl hK12 (fun _ _ h => h) ?_
    refine G.ret ?_
    intro F_ hF_ hM_
    refine hRet _ _ (bodyPost_2 rfl (RV.tmp rfl) (RV.tmp rfl) ?_ F_ hF_ hM_)
    have eVE : partV a u 0 true = 0 ∧ partE a u 0 true = 1 := by
      exact ⟨(part_arg (by omega)).2, (part_arg (by omega)).1⟩
    rw [eVE.1, eVE.2]
    exact ⟨rfl, H8.sub (List.nil_sublist _)⟩
  · skip
    have hb10f := of_decide_eq_true hb10
    refine G.no rfl ?_
    refine G.skipK hK4 (fun _ _ h => h) ?_
    refine G.seqK fun K13 hK14 => ?_
    refine G.region ?_
    refine GL.run (j := 2) 2 [2, 3, 19, 20] [(2, .int .u64 0), (3, .bool true), (19, .int .u64 (a : Int)), (20, .int .u64 (u : Int))] (by kernel_rfl) rfl ?_
    refine GL.call (j := 3) (Product_calls a u ha hu w7) (by kernel_rfl) rfl (fun e_ w15 hR => ?_)
    obtain ⟨he_, H17⟩ := hR
    obtain ⟨n18, hn19⟩ : ∃ v : Nat, v = a * u := ⟨_, rfl⟩
    rw [← hn19] at he_
    have n18l : n18 < K4 := by rw [hn19]; exact prod_lt ha hu
    subst he_
    have H16 : Hp w [] [] w15 := H8.callNil H17
    refine ⟨_, rfl, [2, 3, 21], [(2, .int .u64 0), (3, .bool true), (21, wv n18)], by kernel_rfl, ?_⟩
    have hp := hn19
    refine GL.run (j := 4) 1 [3, 21, 22] [(3, .bool true), (21, wv n18), (22, .int .u64 0)] (by kernel_rfl) rfl ?_
    refine GL.call (j := 5) (Of_calls 0 (by decide) w15) (by kernel_rfl) rfl (fun e_ w20 hR => ?_)
    obtain ⟨he_, H22⟩ := hR
    subst he_
    have H21 : Hp w [] [] w20 := H16.callNil H22
    refine ⟨_, rfl, [3, 21, 23], [(3, .bool true), (21, wv n18), (23, wv 0)], by kernel_rfl, ?_⟩
    refine GL.call (j := 6) (Div_zero n18 w20) (by kernel_rfl) rfl (fun e_ w23 hR => ?_)
    obtain ⟨he_, H25⟩ := hR
    subst he_
    have H24 : Hp w [] [] w23 := H21.callNil H25
    refine ⟨_, rfl, [3, 24], [(3, .bool true), (24, .tuple #[wv 0, wv 0, .int .i64 5])], by kernel_rfl, ?_⟩
    refine GL.run (j := 10) 4 [3, 25, 26, 27] [(3, .bool true), (25, wv 0), (26, wv 0), (27, .int .i64 5)] (by kernel_rfl) rfl ?_
    obtain ⟨p26, w27, r28, H29⟩ := H24.alloc (P := Tryd.prog) 45 [.int .u64 0, .int .u64 0, .int .u64 0, .int .u64 0] (by kernel_rfl)
    have H29 : Hp w [] [.blk p26 [.int .u64 0, .int .u64 0, .int .u64 0, .int .u64 0] 45] w27 := H29
    refine GL.sem (j := 11) (r28) [3, 10, 25, 26, 27] [(3, .bool true), (10, pt p26 0), (25, wv 0), (26, wv 0), (27, .int .i64 5)] (by kernel_rfl) (by kernel_rfl) rfl ?_
    obtain ⟨p30, w31, r32, H33⟩ := H29.alloc (P := Tryd.prog) 45 [.int .u64 0, .int .u64 0, .int .u64 0, .int .u64 0] (by kernel_rfl)
    have H33 : Hp w [] [.blk p26 [.int .u64 0, .int .u64 0, .int .u64 0, .int .u64 0] 45, .blk p30 [.int .u64 0, .int .u64 0, .int .u64 0, .int .u64 0] 45] w31 := H33
    refine GL.sem (j := 12) (r32) [3, 10, 11, 25, 26, 27] [(3, .bool true), (10, pt p26 0), (11, pt p30 0), (25, wv 0), (26, wv 0), (27, .int .i64 5)] (by kernel_rfl) (by kernel_rfl) rfl ?_
    obtain ⟨w34, r35, H36⟩ := H33.stA (P := Tryd.prog) (o := 0) (vs := [.int .u64 (wd 0 0 : Int), .int .u64 (wd 0 1 : Int), .int .u64 (wd 0 2 : Int), .int .u64 (wd 0 3 : Int)]) (ty := 45) (m := 4) 0 rfl (by kernel_rfl) rfl (by simp) (by simp [Value.oneCell'])
    have H36 : Hp w [] [.blk p26 [.int .u64 (wd 0 0 : Int), .int .u64 (wd 0 1 : Int), .int .u64 (wd 0 2 : Int), .int .u64 (wd 0 3 : Int)] 45, .blk p30 [.int .u64 0, .int .u64 0, .int .u64 0, .int .u64 0] 45] w34 := H36
    refine GL.semU (j := 13) r35 [3, 10, 11, 26, 27] [(3, .bool true), (10, pt p26 0), (11, pt p30 0), (26, wv 0), (27, .int .i64 5)] (by kernel_rfl) rfl rfl rfl ?_
    obtain ⟨w37, r38, H39⟩ := H36.stA (P := Tryd.prog) (o := 0) (vs := [.int .u64 (wd 0 0 : Int), .int .u64 (wd 0 1 : Int), .int .u64 (wd 0 2 : Int), .int .u64 (wd 0 3 : Int)]) (ty := 45) (m := 4) 1 rfl (by kernel_rfl) rfl (by simp) (by simp [Value.oneCell'])
    have H39 : Hp w [] [.blk p26 [.int .u64 (wd 0 0 : Int), .int .u64 (wd 0 1 : Int), .int .u64 (wd 0 2 : Int), .int .u64 (wd 0 3 : Int)] 45, .blk p30 [.int .u64 (wd 0 0 : Int), .int .u64 (wd 0 1 : Int), .int .u64 (wd 0 2 : Int), .int .u64 (wd 0 3 : Int)] 45] w37 := H39
    refine GL.semU (j := 14) r38 [3, 10, 11, 27] [(3, .bool true), (10, pt p26 0), (11, pt p30 0), (27, .int .i64 5)] (by kernel_rfl) rfl rfl rfl ?_
    refine GL.run (j := 15) 1 [3, 10, 11, 12] [(3, .bool true), (10, pt p26 0), (11, pt p30 0), (12, .int .i64 5)] (by kernel_rfl) rfl ?_
    refine GL.k rfl hK14 (fun _ _ h => h) ?_
    refine G.seqK fun K40 hK41 => ?_
    refine G.seqK fun K42 hK43 => ?_
    refine G.region ?_
    refine GL.run (j := 2) 2 [3, 10, 11, 12, 29] [(3, .bool true), (10, pt p26 0), (11, pt p30 0), (12, .int .i64 5), (29, .bool true)] (by kernel_rfl) rfl ?_
    refine GL.k rfl hK43 (fun _ _ h => h) ?_
    refine G.yes rfl ?_
    refine G.seqK fun K44 hK45 => ?_
    refine G.region ?_
    refine GL.run (j := 3) 3 [8, 9] [(8, .int .u64 0), (9, .int .i64 5)] (by kernel_rfl) rfl ?_
    refine GL.k rfl hK45 (fun _ _ h => h) ?_
    refine G.ret ?_
    intro F_ hF_ hM_
    refine hRet _ _ (bodyPost_2 rfl (RV.tmp rfl) (RV.tmp rfl) ?_ F_ hF_ hM_)
    have eVE : partV a u 0 true = 0 ∧ partE a u 0 true = 5 := by
      exact ⟨(part_zero (by omega) (by omega)).2, (part_zero (by omega) (by omega)).1⟩
    rw [eVE.1, eVE.2]
    exact ⟨rfl, H39.sub (List.nil_sublist _)⟩
theorem Part_down0 (a u : Nat) (ha : a < K) (hu : u < K) (w : World) : Calls Tryd.prog 11 #[.int .u64 (a : Int), .int .u64 (u : Int), .int .u64 0, .bool false] w fun e w' => e = .returned (.tuple #[.int .u64 ((partV a u 0 false : Nat) : Int), .int .i64 ((partE a u 0 false : Nat) : Int)]) ∧ Hp w [] [] w' := by
  have hMX : MX = 4611686018427387904 := rfl
  have hK0 : K = 18446744073709551616 := rfl
  have hK40 : K4 = 115792089237316195423570985008687907853269984665640564039457584007913129639936 := rfl
  refine calls_G (args := [.int .u64 (a : Int), .int .u64 (u : Int), .int .u64 0, .bool false]) Tryd.func11 rfl Tryd.ntmps11 rfl ?_
  intro Q0 hRet hNor hPan
  have H := Hp.start w
  have H : Hp w [] [] w := H
  refine G.seqK fun K1 hK2 => ?_
  refine G.region ?_
  refine GL.run (j := 2) 2 [0, 1, 2, 3] [(0, .int .u64 (a : Int)), (1, .int .u64 (u : Int)), (2, .int .u64 0), (3, .bool false)] (by kernel_rfl) rfl ?_
  refine GL.k rfl hK2 (fun _ _ h => h) ?_
  refine G.seqK fun K3 hK4 => ?_
  refine G.seqK fun K5 hK6 => ?_
  refine G.region ?_
  refine GL.run (j := 1) 1 [0, 1, 2, 3, 15] [(0, .int .u64 (a : Int)), (1, .int .u64 (u : Int)), (2, .int .u64 0), (3, .bool false), (15, .int .u64 (a : Int))] (by kernel_rfl) rfl ?_
  refine GL.call (j := 2) (Right_calls a w) (by kernel_rfl) rfl (fun e_ w7 hR => ?_)
  obtain ⟨rfl, H9⟩ := hR
  have H8 : Hp w [] [] w7 := H.callNil H9
  refine ⟨_, rfl, [0, 1, 2, 3, 16], [(0, .int .u64 (a : Int)), (1, .int .u64 (u : Int)), (2, .int .u64 0), (3, .bool false), (16, .bool (decide ((a : Int) ≤ 4611686018427387904)))], by kernel_rfl, ?_⟩
  refine GL.run (j := 3) 1 [0, 1, 2, 3, 17] [(0, .int .u64 (a : Int)), (1, .int .u64 (u : Int)), (2, .int .u64 0), (3, .bool false), (17, .bool (!(decide ((a : Int) ≤ 4611686018427387904))))] (by kernel_rfl) rfl ?_
  refine GL.k rfl hK6 (fun _ _ h => h) ?_
  cases hb10 : (decide ((a : Int) ≤ 4611686018427387904))
  · skip
    have hb10f := of_decide_eq_false hb10
    refine G.yes rfl ?_
    refine G.seqK fun K11 hK12 => ?_
    refine G.region ?_
    refine GL.run (j := 2) 2 [8, 9] [(8, .int .u64 0), (9, .int .i64 1)] (by kernel_rfl) rfl ?_
    refine GL.k rfl hK12 (fun _ _ h => h) ?_
    refine G.ret ?_
    intro F_ hF_ hM_
    refine hRet _ _ (bodyPost_2 rfl (RV.tmp rfl) (RV.tmp rfl) ?_ F_ hF_ hM_)
    have eVE : partV a u 0 false = 0 ∧ partE a u 0 false = 1 := by
      exact ⟨(part_arg (by omega)).2, (part_arg (by omega)).1⟩
    rw [eVE.1, eVE.2]
    exact ⟨rfl, H8.sub (List.nil_sublist _)⟩
  · skip
    have hb10f := of_decide_eq_true hb10
    refine G.no rfl ?_
    refine G.skipK hK4 (fun _ _ h => h) ?_
    refine G.seqK fun K13 hK14 => ?_
    refine G.region ?_
    refine GL.run (j := 2) 2 [2, 3, 19, 20] [(2, .int .u64 0), (3, .bool false), (19, .int .u64 (a : Int)), (20, .int .u64 (u : Int))] (by kernel_rfl) rfl ?_
    refine GL.call (j := 3) (Product_calls a u ha hu w7) (by kernel_rfl) rfl (fun e_ w15 hR => ?_)
    obtain ⟨he_, H17⟩ := hR
    obtain ⟨n18, hn19⟩ : ∃ v : Nat, v = a * u := ⟨_, rfl⟩
    rw [← hn19] at he_
    have n18l : n18 < K4 := by rw [hn19]; exact prod_lt ha hu
    subst he_
    have H16 : Hp w [] [] w15 := H8.callNil H17
    refine ⟨_, rfl, [2, 3, 21], [(2, .int .u64 0), (3, .bool false), (21, wv n18)], by kernel_rfl, ?_⟩
    have hp := hn19
    refine GL.run (j := 4) 1 [3, 21, 22] [(3, .bool false), (21, wv n18), (22, .int .u64 0)] (by kernel_rfl) rfl ?_
    refine GL.call (j := 5) (Of_calls 0 (by decide) w15) (by kernel_rfl) rfl (fun e_ w20 hR => ?_)
    obtain ⟨he_, H22⟩ := hR
    subst he_
    have H21 : Hp w [] [] w20 := H16.callNil H22
    refine ⟨_, rfl, [3, 21, 23], [(3, .bool false), (21, wv n18), (23, wv 0)], by kernel_rfl, ?_⟩
    refine GL.call (j := 6) (Div_zero n18 w20) (by kernel_rfl) rfl (fun e_ w23 hR => ?_)
    obtain ⟨he_, H25⟩ := hR
    subst he_
    have H24 : Hp w [] [] w23 := H21.callNil H25
    refine ⟨_, rfl, [3, 24], [(3, .bool false), (24, .tuple #[wv 0, wv 0, .int .i64 5])], by kernel_rfl, ?_⟩
    refine GL.run (j := 10) 4 [3, 25, 26, 27] [(3, .bool false), (25, wv 0), (26, wv 0), (27, .int .i64 5)] (by kernel_rfl) rfl ?_
    obtain ⟨p26, w27, r28, H29⟩ := H24.alloc (P := Tryd.prog) 45 [.int .u64 0, .int .u64 0, .int .u64 0, .int .u64 0] (by kernel_rfl)
    have H29 : Hp w [] [.blk p26 [.int .u64 0, .int .u64 0, .int .u64 0, .int .u64 0] 45] w27 := H29
    refine GL.sem (j := 11) (r28) [3, 10, 25, 26, 27] [(3, .bool false), (10, pt p26 0), (25, wv 0), (26, wv 0), (27, .int .i64 5)] (by kernel_rfl) (by kernel_rfl) rfl ?_
    obtain ⟨p30, w31, r32, H33⟩ := H29.alloc (P := Tryd.prog) 45 [.int .u64 0, .int .u64 0, .int .u64 0, .int .u64 0] (by kernel_rfl)
    have H33 : Hp w [] [.blk p26 [.int .u64 0, .int .u64 0, .int .u64 0, .int .u64 0] 45, .blk p30 [.int .u64 0, .int .u64 0, .int .u64 0, .int .u64 0] 45] w31 := H33
    refine GL.sem (j := 12) (r32) [3, 10, 11, 25, 26, 27] [(3, .bool false), (10, pt p26 0), (11, pt p30 0), (25, wv 0), (26, wv 0), (27, .int .i64 5)] (by kernel_rfl) (by kernel_rfl) rfl ?_
    obtain ⟨w34, r35, H36⟩ := H33.stA (P := Tryd.prog) (o := 0) (vs := [.int .u64 (wd 0 0 : Int), .int .u64 (wd 0 1 : Int), .int .u64 (wd 0 2 : Int), .int .u64 (wd 0 3 : Int)]) (ty := 45) (m := 4) 0 rfl (by kernel_rfl) rfl (by simp) (by simp [Value.oneCell'])
    have H36 : Hp w [] [.blk p26 [.int .u64 (wd 0 0 : Int), .int .u64 (wd 0 1 : Int), .int .u64 (wd 0 2 : Int), .int .u64 (wd 0 3 : Int)] 45, .blk p30 [.int .u64 0, .int .u64 0, .int .u64 0, .int .u64 0] 45] w34 := H36
    refine GL.semU (j := 13) r35 [3, 10, 11, 26, 27] [(3, .bool false), (10, pt p26 0), (11, pt p30 0), (26, wv 0), (27, .int .i64 5)] (by kernel_rfl) rfl rfl rfl ?_
    obtain ⟨w37, r38, H39⟩ := H36.stA (P := Tryd.prog) (o := 0) (vs := [.int .u64 (wd 0 0 : Int), .int .u64 (wd 0 1 : Int), .int .u64 (wd 0 2 : Int), .int .u64 (wd 0 3 : Int)]) (ty := 45) (m := 4) 1 rfl (by kernel_rfl) rfl (by simp) (by simp [Value.oneCell'])
    have H39 : Hp w [] [.blk p26 [.int .u64 (wd 0 0 : Int), .int .u64 (wd 0 1 : Int), .int .u64 (wd 0 2 : Int), .int .u64 (wd 0 3 : Int)] 45, .blk p30 [.int .u64 (wd 0 0 : Int), .int .u64 (wd 0 1 : Int), .int .u64 (wd 0 2 : Int), .int .u64 (wd 0 3 : Int)] 45] w37 := H39
    refine GL.semU (j := 14) r38 [3, 10, 11, 27] [(3, .bool false), (10, pt p26 0), (11, pt p30 0), (27, .int .i64 5)] (by kernel_rfl) rfl rfl rfl ?_
    refine GL.run (j := 15) 1 [3, 10, 11, 12] [(3, .bool false), (10, pt p26 0), (11, pt p30 0), (12, .int .i64 5)] (by kernel_rfl) rfl ?_
    refine GL.k rfl hK14 (fun _ _ h => h) ?_
    refine G.seqK fun K40 hK41 => ?_
    refine G.seqK fun K42 hK43 => ?_
    refine G.region ?_
    refine GL.run (j := 2) 2 [3, 10, 11, 12, 29] [(3, .bool false), (10, pt p26 0), (11, pt p30 0), (12, .int .i64 5), (29, .bool true)] (by kernel_rfl) rfl ?_
    refine GL.k rfl hK43 (fun _ _ h => h) ?_
    refine G.yes rfl ?_
    refine G.seqK fun K44 hK45 => ?_
    refine G.region ?_
    refine GL.run (j := 3) 3 [8, 9] [(8, .int .u64 0), (9, .int .i64 5)] (by kernel_rfl) rfl ?_
    refine GL.k rfl hK45 (fun _ _ h => h) ?_
    refine G.ret ?_
    intro F_ hF_ hM_
    refine hRet _ _ (bodyPost_2 rfl (RV.tmp rfl) (RV.tmp rfl) ?_ F_ hF_ hM_)
    have eVE : partV a u 0 false = 0 ∧ partE a u 0 false = 5 := by
      exact ⟨(part_zero (by omega) (by omega)).2, (part_zero (by omega) (by omega)).1⟩
    rw [eVE.1, eVE.2]
    exact ⟨rfl, H39.sub (List.nil_sublist _)⟩
end Go.Proofs.YtgbhiklengafiaaDoor
set_option maxRecDepth 100000
namespace Go.Proofs.YtgbhiklengafiaaDoor
open Go.RowKit
theorem Hp.ofOwn {w w' : World} {A : Option Addr} {n c e sz : Nat} {xs : List Value} (hb : Below w.heap.size w w') (ho : w'.ownsRow w.heap.size e sz (.slice A n c) n xs) : Hp w [] [.row A n c e sz xs] w' := by
  have ho0 : w'.ownsRow 0 e sz (.slice A n c) n xs := ⟨ho.1, ho.2.imp_right fun ⟨g, cap, cur, h1, _, h2⟩ => ⟨g, cap, cur, h1, Nat.zero_le _, h2⟩⟩
  refine ⟨hb.os, hb.tape, hb.output, hb.size, fun k hk _ => hb.block k hk, fun e he => ?_, fun k hk => ?_, ?_⟩
  · rw [List.mem_singleton] at he
    rw [he]
    exact ho0
  · left
    rcases ho.2 with ⟨h0, _⟩ | ⟨g, cap, cur, hv, hg, _⟩
    · injection h0 with hA
      subst hA
      simp [ids, Ent.ids] at hk
    · injection hv with hA
      subst hA
      simp [ids, Ent.ids] at hk
      omega
  · simp only [ids, List.flatMap_cons, List.flatMap_nil, List.append_nil]
    exact own_ids
theorem byteCells_by8 (l : List UInt8) : Lib.byteCells l = by8 l := rfl
theorem aui_calls (u : Nat) (hu : u < K) (w : World) (ht : Lib.TabIs Tryd.prog w "internal/strconv.uint64pow10" .u64 Lib.pow10Tab) : Calls Tryd.prog 22 #[.slice none 0 0, .int .u64 (u : Int), .int .i64 10] w fun e w' => ∃ A c, e = .returned (.slice A (Lib.decDigits u).length c) ∧ Hp w [] [.row A (Lib.decDigits u).length c 5 1 (by8 (Lib.decDigits u))] w' := by
  refine (Tryd.internal_strconv_AppendUint_10 w.heap.size 0 u hu (.slice none 0 0) [] w (World.ownsRow_nil w w.heap.size 5 1) (Nat.le_refl _) (by decide) ht).mono ?_
  rintro e w' ⟨v', rfl, hown, hb, _⟩
  rw [Nat.zero_add, List.nil_append, byteCells_by8] at hown
  have hown0 : w'.ownsRow 0 5 1 v' (Lib.decDigits u).length (by8 (Lib.decDigits u)) := ⟨hown.1, hown.2.imp_right fun ⟨g, cap, cur, h1, _, h2⟩ => ⟨g, cap, cur, h1, Nat.zero_le _, h2⟩⟩
  obtain ⟨A, c, rfl⟩ := row_shape hown0
  exact ⟨A, c, rfl, Hp.ofOwn hb hown⟩
theorem au_calls (u : Nat) (hu : u < K) (w : World) (ht : Lib.TabIs Tryd.prog w "internal/strconv.uint64pow10" .u64 Lib.pow10Tab) : Calls Tryd.prog 12 #[.slice none 0 0, .int .u64 (u : Int), .int .i64 10] w fun e w' => ∃ A c, e = .returned (.slice A (Lib.decDigits u).length c) ∧ Hp w [] [.row A (Lib.decDigits u).length c 5 1 (by8 (Lib.decDigits u))] w' := by
  refine calls_G (args := [.slice none 0 0, .int .u64 (u : Int), .int .i64 10]) Tryd.func12 rfl Tryd.ntmps12 rfl ?_
  intro Q0 hRet hNor hPan
  have H := Hp.start w
  have H : Hp w [] [] w := H
  refine G.seqK fun K1 hK2 => ?_
  refine G.region ?_
  refine GL.run (j := 1) 1 [0, 1, 2] [(0, .slice none 0 0), (1, .int .u64 (u : Int)), (2, .int .i64 10)] (by kernel_rfl) rfl ?_
  refine GL.k rfl hK2 (fun _ _ h => h) ?_
  refine G.seqK fun K3 hK4 => ?_
  refine G.region ?_
  refine GL.run (j := 3) 3 [7, 8, 9] [(7, .slice none 0 0), (8, .int .u64 (u : Int)), (9, .int .i64 10)] (by kernel_rfl) rfl ?_
  refine GL.call (j := 4) (aui_calls u hu w ht) (by kernel_rfl) rfl (fun e_ w7 hR => ?_)
  obtain ⟨A5, c6, rfl, H9⟩ := hR
  have H8 : Hp w [] [.row A5 ((Lib.decDigits u).length) c6 5 1 (by8 (Lib.decDigits u))] w7 := H.callNew H9
  refine ⟨_, rfl, [10], [(10, .slice A5 ((Lib.decDigits u).length) c6)], by kernel_rfl, ?_⟩
  refine GL.run (j := 5) 1 [6] [(6, .slice A5 ((Lib.decDigits u).length) c6)] (by kernel_rfl) rfl ?_
  refine GL.k rfl hK4 (fun _ _ h => h) ?_
  refine G.ret ?_
  intro F_ hF_ hM_
  refine hRet _ _ (bodyPost_1 rfl (RV.tmp rfl) ?_ F_ hF_ hM_)
  exact ⟨_, _, rfl, H8⟩
theorem Text_calls (u : Nat) (hu : u < K) (w : World) (ht : Lib.TabIs Tryd.prog w "internal/strconv.uint64pow10" .u64 Lib.pow10Tab) : Calls Tryd.prog 5 #[.int .u64 (u : Int)] w fun e w' => ∃ A c, e = .returned (.slice A (Lib.decDigits u).length c) ∧ Hp w [] [.row A (Lib.decDigits u).length c 5 1 (by8 (Lib.decDigits u))] w' := by
  refine calls_G (args := [.int .u64 (u : Int)]) Tryd.func5 rfl Tryd.ntmps5 rfl ?_
  intro Q0 hRet hNor hPan
  have H := Hp.start w
  have H : Hp w [] [] w := H
  refine G.seqK fun K1 hK2 => ?_
  refine G.region ?_
  refine GL.run (j := 1) 1 [0] [(0, .int .u64 (u : Int))] (by kernel_rfl) rfl ?_
  refine GL.k rfl hK2 (fun _ _ h => h) ?_
  refine G.seqK fun K3 hK4 => ?_
  refine G.region ?_
  refine GL.run (j := 1) 1 [3] [(3, .int .u64 (u : Int))] (by kernel_rfl) rfl ?_
  refine GL.call (j := 2) (au_calls u hu w ht) (by kernel_rfl) rfl (fun e_ w7 hR => ?_)
  obtain ⟨A5, c6, rfl, H9⟩ := hR
  have H8 : Hp w [] [.row A5 ((Lib.decDigits u).length) c6 5 1 (by8 (Lib.decDigits u))] w7 := H.callNew H9
  refine ⟨_, rfl, [4], [(4, .slice A5 ((Lib.decDigits u).length) c6)], by kernel_rfl, ?_⟩
  refine GL.run (j := 3) 1 [2] [(2, .slice A5 ((Lib.decDigits u).length) c6)] (by kernel_rfl) rfl ?_
  refine GL.k rfl hK4 (fun _ _ h => h) ?_
  refine G.ret ?_
  intro F_ hF_ hM_
  refine hRet _ _ (bodyPost_1 rfl (RV.tmp rfl) ?_ F_ hF_ hM_)
  exact ⟨_, _, rfl, H8⟩
end Go.Proofs.YtgbhiklengafiaaDoor
set_option maxRecDepth 100000
namespace Go.Proofs.YtgbhiklengafiaaDoor
open Go.RowKit
theorem strOf_data (l : List UInt8) : (strOf l).data.toList = l := by simp [strOf]
theorem Hp.ofBelow {w w' : World} (hb : Below w.heap.size w w') : Hp w [] [] w' := (Hp.start w).step hb
theorem pu_ok_calls (l : List UInt8) (h : dgOk l) (h2 : dcF 0 l < 18446744073709551616) (hl : l.length ≤ 1000) (w : World) : Calls Tryd.prog 13 #[.string (strOf l), .int .i64 10, .int .i64 64] w fun e w' => e = .returned (.tuple #[.int .u64 ((dcF 0 l : Nat) : Int), .nilIface]) ∧ Hp w [] [] w' := by
  refine (Tryd.strconv_ParseUint_10_at64_ok (strOf l) (by rw [strOf_size]; omega) (dcF 0 l) (by rw [strOf_data]; exact puB_ok h h2) w).mono ?_
  rintro e w' ⟨rfl, rfl | rfl⟩
  · exact ⟨rfl, Hp.start _⟩
  · exact ⟨rfl, Hp.ofBelow (Lib.bytesWorld_below _ _ _)⟩
theorem pu_range_calls (l : List UInt8) (h : dgOk l) (h2 : 18446744073709551616 ≤ dcF 0 l) (hl : l.length ≤ 1000) (tp : TypeId) (pv : Value) (w : World) (hv : w.cell? ⟨2, 0, none⟩ = some (.iface tp pv)) : Calls Tryd.prog 13 #[.string (strOf l), .int .i64 10, .int .i64 64] w fun e w' => ∃ u v, e = .returned (.tuple #[.int .u64 18446744073709551615, .iface u v]) ∧ Hp w [] [] w' := by
  refine (Tryd.strconv_ParseUint_10_at64_range (strOf l) (by rw [strOf_size]; omega) (by rw [strOf_data]; exact puB_range h h2) (.iface tp pv) w hv (.inr ⟨_, _, rfl⟩)).mono ?_
  rintro e w' ⟨N, rfl, _, _, hb⟩
  exact ⟨_, _, rfl, Hp.ofBelow hb⟩
theorem if_nil (w : World) : (binOp .neq 40 .nilIface .nilIface).run Tryd.prog w = .ok (.bool false) w := by kernel_rfl
theorem if_not (u : TypeId) (v : Value) (w : World) : (binOp .neq 40 (.iface u v) .nilIface).run Tryd.prog w = .ok (.bool true) w := by kernel_rfl
set_option maxHeartbeats 4000000 in
theorem Parse_calls (bs : List UInt8) (hl9 : bs.length ≤ 1000) (tp : TypeId) (pv : Value) (A : Option Addr) (c : Nat) (w : World) (hv : w.cell? ⟨2, 0, none⟩ = some (.iface tp pv)) (hx : RdS w A (by8 bs)) : Calls Tryd.prog 6 #[.slice A bs.length c] w fun e w' => e = .returned (.tuple #[.int .u64 ((mpV bs : Nat) : Int), .int .i64 ((mpE bs : Nat) : Int)]) ∧ Hp w [] [] w' := by
  refine calls_G (args := [.slice A bs.length c]) Tryd.func6 rfl Tryd.ntmps6 rfl ?_
  intro Q0 hRet hNor hPan
  have H := Hp.start w
  have H : Hp w [] [] w := H
  refine G.seqK fun K1 hK2 => ?_
  refine G.region ?_
  refine GL.run (j := 2) 2 [0] [(0, .slice A bs.length c)] (by kernel_rfl) rfl ?_
  refine GL.k rfl hK2 (fun _ _ h => h) ?_
  refine G.seqK fun K3 hK4 => ?_
  refine G.seqK fun K5 hK6 => ?_
  refine G.region ?_
  refine GL.run (j := 4) 4 [0, 11] [(0, .slice A bs.length c), (11, .bool ((bs.length : Int) == 0))] (by kernel_rfl) rfl ?_
  cases hb7 : ((bs.length : Int) == 0)
  · skip
    have hb7f := ne_of_beq_false hb7
    refine GL.run (j := 8) 4 [0, 11, 15] [(0, .slice A bs.length c), (11, .bool false), (15, .bool (decide (1 < (bs.length : Int))))] (by kernel_rfl) rfl ?_
    cases hb8 : (decide (1 < (bs.length : Int)))
    · skip
      have hb8f := of_decide_eq_false hb8
      refine GL.run (j := 14) 6 [0, 21] [(0, .slice A bs.length c), (21, .bool false)] (by kernel_rfl) rfl ?_
      refine GL.k rfl hK6 (fun _ _ h => h) ?_
      refine G.no rfl ?_
      refine G.skipK hK4 (fun _ _ h => h) ?_
      refine G.seqK fun K9 hK10 => ?_
      refine G.seqK fun K11 hK12 => ?_
      refine G.region ?_
      have := 0
      · skip
        have hne : bs ≠ [] := fun h_ => by have := congrArg List.length h_; rw [List.length_nil] at this; omega
        have hzero : bs.length = 1 ∨ bs.getD 0 0 ≠ 48 := by
          by_cases h1_ : bs.length = 1
          · exact .inl h1_
          · omega
        refine GL.run (j := 3) 3 [0, 22, 23, 24] [(0, .slice A bs.length c), (22, .slice A bs.length c), (23, .int .i64 (bs.length : Int)), (24, .int .i64 0)] (by kernel_rfl) rfl ?_
        refine GL.k rfl hK12 (fun _ _ h => h) ?_
        refine G.block ?_
        refine G.fit [0, 22, 23, 24] (M' := [(0, .slice A bs.length c), (22, .slice A bs.length c), (23, .int .i64 (bs.length : Int)), (24, .int .i64 0)]) (by kernel_rfl) ?_
        refine G.loop (X := Nat) (fun i => [(0, .slice A bs.length c), (22, .slice A bs.length c), (23, .int .i64 (bs.length : Int)), (24, .int .i64 (i : Int))]) (fun i w_ => (i ≤ bs.length ∧ ∀ x ∈ bs.take i, isDg x) ∧ Hp w [] [] w_) (fun i => bs.length - i) 0 [0, 22, 23, 24] (by kernel_rfl) ⟨⟨Nat.zero_le _, fun x h_ => by simp at h_⟩, H⟩ ?_
        rintro i w13 ⟨hi14, H15⟩
        refine G.eq (M' := [(0, .slice A bs.length c), (22, .slice A bs.length c), (23, .int .i64 (bs.length : Int)), (24, .int .i64 (i : Int))]) rfl ?_
        have H15 : Hp w [] [] w13 := H15
        obtain ⟨hi9, hall⟩ := hi14
        refine G.seqK fun K16 hK17 => ?_
        refine G.region ?_
        refine GL.run (j := 1) 1 [0, 22, 23, 24, 25] [(0, .slice A bs.length c), (22, .slice A bs.length c), (23, .int .i64 (bs.length : Int)), (24, .int .i64 (i : Int)), (25, .bool (decide ((i : Int) < (bs.length : Int))))] (by kernel_rfl) rfl ?_
        refine GL.k rfl hK17 (fun _ _ h => h) ?_
        refine G.seqK fun K18 hK19 => ?_
        cases hb20 : (decide ((i : Int) < (bs.length : Int)))
        · skip
          have hb20f := of_decide_eq_false hb20
          refine G.no rfl ?_
          refine G.exitK hK10 (fun _ _ h => h) ?_
          refine G.seqK fun K21 hK22 => ?_
          refine G.region ?_
          rcases Nat.lt_or_ge (dcF 0 bs) 18446744073709551616 with h64 | h64
          · skip
            have hdg : dgOk bs := ⟨hne, hzero, fun x hx => hall x (by rw [List.take_of_length_le (show bs.length ≤ i by omega)]; exact hx)⟩
            refine GL.run (j := 1) 1 [36] [(36, .slice A bs.length c)] (by kernel_rfl) rfl ?_
            refine GL.sem (j := 2) (run_toStr (P := Tryd.prog) (src := 24) (dst := 9) (A := A) (bs := bs) (n := bs.length) (c := c) (by kernel_rfl) (by kernel_rfl) (hx.hp H15) (rfl)) [37] [(37, .string (strOf bs))] (by kernel_rfl) (by kernel_rfl) rfl ?_
            refine GL.call (j := 3) (pu_ok_calls bs hdg h64 (by omega) w13) (by kernel_rfl) rfl (fun e_ w23 hR => ?_)
            obtain ⟨rfl, H25⟩ := hR
            have H24 : Hp w [] [] w23 := H15.callNil H25
            refine ⟨_, rfl, [38], [(38, .tuple #[.int .u64 (((dcF 0 bs) : Nat) : Int), .nilIface])], by kernel_rfl, ?_⟩
            refine GL.run (j := 8) 5 [6, 7] [(6, .int .u64 (((dcF 0 bs) : Nat) : Int)), (7, .nilIface)] (by kernel_rfl) rfl ?_
            refine GL.k rfl hK22 (fun _ _ h => h) ?_
            refine G.seqK fun K26 hK27 => ?_
            refine G.seqK fun K28 hK29 => ?_
            refine G.region ?_
            refine GL.run (j := 1) 1 [6, 41] [(6, .int .u64 (((dcF 0 bs) : Nat) : Int)), (41, .nilIface)] (by kernel_rfl) rfl ?_
            refine GL.sem (j := 2) (if_nil _) [6, 42] [(6, .int .u64 (((dcF 0 bs) : Nat) : Int)), (42, .bool false)] (by kernel_rfl) (by kernel_rfl) rfl ?_
            refine GL.run (j := 4) 2 [6, 43, 44] [(6, .int .u64 (((dcF 0 bs) : Nat) : Int)), (43, .bool false), (44, .int .u64 (((dcF 0 bs) : Nat) : Int))] (by kernel_rfl) rfl ?_
            refine GL.call (j := 5) (Right_calls (dcF 0 bs) w23) (by kernel_rfl) rfl (fun e_ w30 hR => ?_)
            obtain ⟨rfl, H32⟩ := hR
            have H31 : Hp w [] [] w30 := H24.callNil H32
            refine ⟨_, rfl, [6, 43, 45], [(6, .int .u64 (((dcF 0 bs) : Nat) : Int)), (43, .bool false), (45, .bool (decide (((dcF 0 bs) : Int) ≤ 4611686018427387904)))], by kernel_rfl, ?_⟩
            refine GL.run (j := 7) 2 [6, 47] [(6, .int .u64 (((dcF 0 bs) : Nat) : Int)), (47, .bool (!(decide (((dcF 0 bs) : Int) ≤ 4611686018427387904))))] (by kernel_rfl) rfl ?_
            refine GL.k rfl hK29 (fun _ _ h => h) ?_
            cases hb33 : (decide (((dcF 0 bs) : Int) ≤ 4611686018427387904))
            · skip
              have hb33f := of_decide_eq_false hb33
              refine G.yes rfl ?_
              refine G.seqK fun K34 hK35 => ?_
              refine G.region ?_
              refine GL.run (j := 2) 2 [2, 3] [(2, .int .u64 0), (3, .int .i64 4)] (by kernel_rfl) rfl ?_
              refine GL.k rfl hK35 (fun _ _ h => h) ?_
              refine G.ret ?_
              intro F_ hF_ hM_
              refine hRet _ _ (bodyPost_2 rfl (RV.tmp rfl) (RV.tmp rfl) ?_ F_ hF_ hM_)
              rw [show mpV bs = 0 by rw [mpV, if_pos hdg, if_neg (by omega)], show mpE bs = 4 by rw [mpE, if_pos hdg, if_neg (by omega)]]
              exact ⟨rfl, H31⟩
            · skip
              have hb33f := of_decide_eq_true hb33
              refine G.no rfl ?_
              refine G.skipK hK27 (fun _ _ h => h) ?_
              refine G.seqK fun K36 hK37 => ?_
              refine G.region ?_
              refine GL.run (j := 3) 3 [2, 3] [(2, .int .u64 (((dcF 0 bs) : Nat) : Int)), (3, .int .i64 0)] (by kernel_rfl) rfl ?_
              refine GL.k rfl hK37 (fun _ _ h => h) ?_
              refine G.ret ?_
              intro F_ hF_ hM_
              refine hRet _ _ (bodyPost_2 rfl (RV.tmp rfl) (RV.tmp rfl) ?_ F_ hF_ hM_)
              rw [show mpV bs = dcF 0 bs by rw [mpV, if_pos hdg, if_pos (by omega)], show mpE bs = 0 by rw [mpE, if_pos hdg, if_pos (by omega)]]
              exact ⟨rfl, H31⟩
          · skip
            have hdg : dgOk bs := ⟨hne, hzero, fun x hx => hall x (by rw [List.take_of_length_le (show bs.length ≤ i by omega)]; exact hx)⟩
            refine GL.run (j := 1) 1 [36] [(36, .slice A bs.length c)] (by kernel_rfl) rfl ?_
            refine GL.sem (j := 2) (run_toStr (P := Tryd.prog) (src := 24) (dst := 9) (A := A) (bs := bs) (n := bs.length) (c := c) (by kernel_rfl) (by kernel_rfl) (hx.hp H15) (rfl)) [37] [(37, .string (strOf bs))] (by kernel_rfl) (by kernel_rfl) rfl ?_
            refine GL.call (j := 3) (pu_range_calls bs hdg h64 (by omega) tp pv w13 (H15.oldCell hv)) (by kernel_rfl) rfl (fun e_ w38 hR => ?_)
            obtain ⟨u_, v_, rfl, H40⟩ := hR
            have H39 : Hp w [] [] w38 := H15.callNil H40
            refine ⟨_, rfl, [38], [(38, .tuple #[.int .u64 18446744073709551615, .iface u_ v_])], by kernel_rfl, ?_⟩
            refine GL.run (j := 8) 5 [6, 7] [(6, .int .u64 18446744073709551615), (7, .iface u_ v_)] (by kernel_rfl) rfl ?_
            refine GL.k rfl hK22 (fun _ _ h => h) ?_
            refine G.seqK fun K41 hK42 => ?_
            refine G.seqK fun K43 hK44 => ?_
            refine G.region ?_
            refine GL.run (j := 1) 1 [6, 41] [(6, .int .u64 18446744073709551615), (41, .iface u_ v_)] (by kernel_rfl) rfl ?_
            refine GL.sem (j := 2) (if_not u_ v_ _) [6, 42] [(6, .int .u64 18446744073709551615), (42, .bool true)] (by kernel_rfl) (by kernel_rfl) rfl ?_
            refine GL.run (j := 7) 5 [6, 47] [(6, .int .u64 18446744073709551615), (47, .bool true)] (by kernel_rfl) rfl ?_
            refine GL.k rfl hK44 (fun _ _ h => h) ?_
            refine G.yes rfl ?_
            refine G.seqK fun K45 hK46 => ?_
            refine G.region ?_
            refine GL.run (j := 2) 2 [2, 3] [(2, .int .u64 0), (3, .int .i64 4)] (by kernel_rfl) rfl ?_
            refine GL.k rfl hK46 (fun _ _ h => h) ?_
            refine G.ret ?_
            intro F_ hF_ hM_
            refine hRet _ _ (bodyPost_2 rfl (RV.tmp rfl) (RV.tmp rfl) ?_ F_ hF_ hM_)
            rw [show mpV bs = 0 by rw [mpV, if_pos hdg, if_neg (by omega)], show mpE bs = 4 by rw [mpE, if_pos hdg, if_neg (by omega)]]
            exact ⟨rfl, H39⟩
        · skip
          have hb20f := of_decide_eq_true hb20
          refine G.yes rfl ?_
          refine G.skipK hK19 (fun _ _ h => h) ?_
          refine G.seqK fun K47 hK48 => ?_
          refine G.block ?_
          refine G.seqK fun K49 hK50 => ?_
          refine G.region ?_
          refine GL.sem (j := 1) (run_idxRd (P := Tryd.prog) (k := .i64) (t := 24) (A := A) (len := bs.length) (cap := c) (j := i) (by kernel_rfl) rfl (hx.hp H15) (by rw [by8_length]) (by first | rfl | omega | (simp only [List.length_cons, List.length_nil, List.length_drop, List.length_take, List.length_append] <;> omega))) [0, 22, 23, 24, 26] [(0, .slice A bs.length c), (22, .slice A bs.length c), (23, .int .i64 (bs.length : Int)), (24, .int .i64 (i : Int)), (26, .pointer (Option.map (fun x => Addr.add x i) A))] (by kernel_rfl) (by kernel_rfl) rfl ?_
          obtain ⟨b51, hat52⟩ : ∃ b : UInt8, bs[i]? = some b := ⟨_, List.getElem?_eq_getElem (by first | rfl | omega | (simp only [List.length_cons, List.length_nil, List.length_drop, List.length_take, List.length_append] <;> omega))⟩
          refine GL.sem (j := 2) (run_ldRd (P := Tryd.prog) (ty := 5) (A := A) (j := i) (v := .int .u8 (b51.toNat : Int)) (by kernel_rfl) (hx.hp H15) (by8_at hat52)) [0, 22, 23, 24, 27] [(0, .slice A bs.length c), (22, .slice A bs.length c), (23, .int .i64 (bs.length : Int)), (24, .int .i64 (i : Int)), (27, .int .u8 (b51.toNat : Int))] (by kernel_rfl) (by kernel_rfl) rfl ?_
          refine GL.run (j := 3) 1 [0, 5, 22, 23, 24] [(0, .slice A bs.length c), (5, .int .u8 (b51.toNat : Int)), (22, .slice A bs.length c), (23, .int .i64 (bs.length : Int)), (24, .int .i64 (i : Int))] (by kernel_rfl) rfl ?_
          refine GL.k rfl hK50 (fun _ _ h => h) ?_
          refine G.seqK fun K53 hK54 => ?_
          refine G.region ?_
          refine GL.run (j := 3) 3 [0, 5, 22, 23, 24, 30] [(0, .slice A bs.length c), (5, .int .u8 (b51.toNat : Int)), (22, .slice A bs.length c), (23, .int .i64 (bs.length : Int)), (24, .int .i64 (i : Int)), (30, .bool (decide ((b51.toNat : Int) < 48)))] (by kernel_rfl) rfl ?_
          cases hb55 : (decide ((b51.toNat : Int) < 48))
          · skip
            have hb55f := of_decide_eq_false hb55
            refine GL.run (j := 6) 3 [0, 22, 23, 24, 33] [(0, .slice A bs.length c), (22, .slice A bs.length c), (23, .int .i64 (bs.length : Int)), (24, .int .i64 (i : Int)), (33, .bool (decide (57 < (b51.toNat : Int))))] (by kernel_rfl) rfl ?_
            refine GL.k rfl hK54 (fun _ _ h => h) ?_
            cases hb56 : (decide (57 < (b51.toNat : Int)))
            · skip
              have hb56f := of_decide_eq_false hb56
              refine G.no rfl ?_
              refine G.skipK hK48 (fun _ _ h => h) ?_
              refine G.region ?_
              refine GL.run (j := 2) 2 [0, 22, 23, 24] [(0, .slice A bs.length c), (22, .slice A bs.length c), (23, .int .i64 (bs.length : Int)), (24, .int .i64 (IntKind.i64.wrap ((i : Int) + 1)))] (by kernel_rfl) rfl ?_
              have e57 : (IntKind.i64.wrap ((i : Int) + 1)) = ((i + 1 : Nat) : Int) := by rw [in_i64 (by omega)]; omega
              refine GL.eq (M' := [(0, .slice A bs.length c), (22, .slice A bs.length c), (23, .int .i64 (bs.length : Int)), (24, .int .i64 ((i + 1 : Nat) : Int))]) (by rw [e57]) ?_
              clear e57
              refine GL.fit (ts := [0, 22, 23, 24]) (M' := [(0, .slice A bs.length c), (22, .slice A bs.length c), (23, .int .i64 (bs.length : Int)), (24, .int .i64 ((i + 1 : Nat) : Int))]) (by kernel_rfl) ?_
              refine GL.eq (M' := [(0, .slice A bs.length c), (22, .slice A bs.length c), (23, .int .i64 (bs.length : Int)), (24, .int .i64 (((i + 1) : Nat) : Int))]) (by rfl) ?_
              exact GL.again (i + 1) [0, 22, 23, 24] rfl (by kernel_rfl) (by show bs.length - (i + 1) < bs.length - i; omega) ⟨⟨by omega, take_dg hall hat52 (show 48 ≤ b51.toNat ∧ b51.toNat ≤ 57 by omega)⟩, H15⟩
            · skip
              have hb56f := of_decide_eq_true hb56
              refine G.yes rfl ?_
              refine G.seqK fun K58 hK59 => ?_
              refine G.region ?_
              refine GL.run (j := 2) 2 [2, 3] [(2, .int .u64 0), (3, .int .i64 2)] (by kernel_rfl) rfl ?_
              refine GL.k rfl hK59 (fun _ _ h => h) ?_
              refine G.ret ?_
              intro F_ hF_ hM_
              refine hRet _ _ (bodyPost_2 rfl (RV.tmp rfl) (RV.tmp rfl) ?_ F_ hF_ hM_)
              have hno : ¬ dgOk bs := by
                rintro ⟨h1, h2, h3⟩
                have h4 := h3 b51 (List.mem_of_getElem? hat52)
                have h5 : 48 ≤ b51.toNat ∧ b51.toNat ≤ 57 := h4
                omega
              rw [show mpV bs = 0 from if_neg hno, show mpE bs = 2 from if_neg hno]
              exact ⟨rfl, H15⟩
          · skip
            have hb55f := of_decide_eq_true hb55
            refine GL.run (j := 6) 3 [0, 22, 23, 24, 33] [(0, .slice A bs.length c), (22, .slice A bs.length c), (23, .int .i64 (bs.length : Int)), (24, .int .i64 (i : Int)), (33, .bool true)] (by kernel_rfl) rfl ?_
            refine GL.k rfl hK54 (fun _ _ h => h) ?_
            refine G.yes rfl ?_
            refine G.seqK fun K60 hK61 => ?_
            refine G.region ?_
            refine GL.run (j := 2) 2 [2, 3] [(2, .int .u64 0), (3, .int .i64 2)] (by kernel_rfl) rfl ?_
            refine GL.k rfl hK61 (fun _ _ h => h) ?_
            refine G.ret ?_
            intro F_ hF_ hM_
            refine hRet _ _ (bodyPost_2 rfl (RV.tmp rfl) (RV.tmp rfl) ?_ F_ hF_ hM_)
            have hno : ¬ dgOk bs := by
              rintro ⟨h1, h2, h3⟩
              have h4 := h3 b51 (List.mem_of_getElem? hat52)
              have h5 : 48 ≤ b51.toNat ∧ b51.toNat ≤ 57 := h4
              omega
            rw [show mpV bs = 0 from if_neg hno, show mpE bs = 2 from if_neg hno]
            exact ⟨rfl, H15⟩
    · skip
      have hb8f := of_decide_eq_true hb8
      refine GL.run (j := 9) 1 [0, 11, 15, 16] [(0, .slice A bs.length c), (11, .bool false), (15, .bool true), (16, .slice A bs.length c)] (by kernel_rfl) rfl ?_
      refine GL.sem (j := 10) (run_idxRd (P := Tryd.prog) (k := .i64) (t := 24) (A := A) (len := bs.length) (cap := c) (j := 0) (by kernel_rfl) rfl (hx.hp H) (by rw [by8_length]) (by first | rfl | omega | (simp only [List.length_cons, List.length_nil, List.length_drop, List.length_take, List.length_append] <;> omega))) [0, 11, 15, 17] [(0, .slice A bs.length c), (11, .bool false), (15, .bool true), (17, .pointer (Option.map (fun x => Addr.add x 0) A))] (by kernel_rfl) (by kernel_rfl) rfl ?_
      obtain ⟨b62, hat63⟩ : ∃ b : UInt8, bs[0]? = some b := ⟨_, List.getElem?_eq_getElem (by first | rfl | omega | (simp only [List.length_cons, List.length_nil, List.length_drop, List.length_take, List.length_append] <;> omega))⟩
      refine GL.sem (j := 11) (run_ldRd (P := Tryd.prog) (ty := 5) (A := A) (j := 0) (v := .int .u8 (b62.toNat : Int)) (by kernel_rfl) (hx.hp H) (by8_at hat63)) [0, 11, 15, 18] [(0, .slice A bs.length c), (11, .bool false), (15, .bool true), (18, .int .u8 (b62.toNat : Int))] (by kernel_rfl) (by kernel_rfl) rfl ?_
      refine GL.run (j := 14) 3 [0, 21] [(0, .slice A bs.length c), (21, .bool ((b62.toNat : Int) == 48))] (by kernel_rfl) rfl ?_
      refine GL.k rfl hK6 (fun _ _ h => h) ?_
      cases hb64 : ((b62.toNat : Int) == 48)
      · skip
        have hb64f := ne_of_beq_false hb64
        refine G.no rfl ?_
        refine G.skipK hK4 (fun _ _ h => h) ?_
        refine G.seqK fun K65 hK66 => ?_
        refine G.seqK fun K67 hK68 => ?_
        refine G.region ?_
        have := 0
        · skip
          have hne : bs ≠ [] := fun h_ => by have := congrArg List.length h_; rw [List.length_nil] at this; omega
          have hzero : bs.length = 1 ∨ bs.getD 0 0 ≠ 48 := by
            by_cases h1_ : bs.length = 1
            · exact .inl h1_
            · right
              have hgd : bs.getD 0 0 = b62 := by rw [List.getD_eq_getElem?_getD, hat63]; rfl
              rw [hgd]
              intro h2_
              have h3_ := congrArg UInt8.toNat h2_
              have h4_ : (48 : UInt8).toNat = 48 := rfl
              omega
          refine GL.run (j := 3) 3 [0, 22, 23, 24] [(0, .slice A bs.length c), (22, .slice A bs.length c), (23, .int .i64 (bs.length : Int)), (24, .int .i64 0)] (by kernel_rfl) rfl ?_
          refine GL.k rfl hK68 (fun _ _ h => h) ?_
          refine G.block ?_
          refine G.fit [0, 22, 23, 24] (M' := [(0, .slice A bs.length c), (22, .slice A bs.length c), (23, .int .i64 (bs.length : Int)), (24, .int .i64 0)]) (by kernel_rfl) ?_
          refine G.loop (X := Nat) (fun i => [(0, .slice A bs.length c), (22, .slice A bs.length c), (23, .int .i64 (bs.length : Int)), (24, .int .i64 (i : Int))]) (fun i w_ => (i ≤ bs.length ∧ ∀ x ∈ bs.take i, isDg x) ∧ Hp w [] [] w_) (fun i => bs.length - i) 0 [0, 22, 23, 24] (by kernel_rfl) ⟨⟨Nat.zero_le _, fun x h_ => by simp at h_⟩, H⟩ ?_
          rintro i w69 ⟨hi70, H71⟩
          refine G.eq (M' := [(0, .slice A bs.length c), (22, .slice A bs.length c), (23, .int .i64 (bs.length : Int)), (24, .int .i64 (i : Int))]) rfl ?_
          have H71 : Hp w [] [] w69 := H71
          obtain ⟨hi9, hall⟩ := hi70
          refine G.seqK fun K72 hK73 => ?_
          refine G.region ?_
          refine GL.run (j := 1) 1 [0, 22, 23, 24, 25] [(0, .slice A bs.length c), (22, .slice A bs.length c), (23, .int .i64 (bs.length : Int)), (24, .int .i64 (i : Int)), (25, .bool (decide ((i : Int) < (bs.length : Int))))] (by kernel_rfl) rfl ?_
          refine GL.k rfl hK73 (fun _ _ h => h) ?_
          refine G.seqK fun K74 hK75 => ?_
          cases hb76 : (decide ((i : Int) < (bs.length : Int)))
          · skip
            have hb76f := of_decide_eq_false hb76
            refine G.no rfl ?_
            refine G.exitK hK66 (fun _ _ h => h) ?_
            refine G.seqK fun K77 hK78 => ?_
            refine G.region ?_
            rcases Nat.lt_or_ge (dcF 0 bs) 18446744073709551616 with h64 | h64
            · skip
              have hdg : dgOk bs := ⟨hne, hzero, fun x hx => hall x (by rw [List.take_of_length_le (show bs.length ≤ i by omega)]; exact hx)⟩
              refine GL.run (j := 1) 1 [36] [(36, .slice A bs.length c)] (by kernel_rfl) rfl ?_
              refine GL.sem (j := 2) (run_toStr (P := Tryd.prog) (src := 24) (dst := 9) (A := A) (bs := bs) (n := bs.length) (c := c) (by kernel_rfl) (by kernel_rfl) (hx.hp H71) (rfl)) [37] [(37, .string (strOf bs))] (by kernel_rfl) (by kernel_rfl) rfl ?_
              refine GL.call (j := 3) (pu_ok_calls bs hdg h64 (by omega) w69) (by kernel_rfl) rfl (fun e_ w79 hR => ?_)
              obtain ⟨rfl, H81⟩ := hR
              have H80 : Hp w [] [] w79 := H71.callNil H81
              refine ⟨_, rfl, [38], [(38, .tuple #[.int .u64 (((dcF 0 bs) : Nat) : Int), .nilIface])], by kernel_rfl, ?_⟩
              refine GL.run (j := 8) 5 [6, 7] [(6, .int .u64 (((dcF 0 bs) : Nat) : Int)), (7, .nilIface)] (by kernel_rfl) rfl ?_
              refine GL.k rfl hK78 (fun _ _ h => h) ?_
              refine G.seqK fun K82 hK83 => ?_
              refine G.seqK fun K84 hK85 => ?_
              refine G.region ?_
              refine GL.run (j := 1) 1 [6, 41] [(6, .int .u64 (((dcF 0 bs) : Nat) : Int)), (41, .nilIface)] (by kernel_rfl) rfl ?_
              refine GL.sem (j := 2) (if_nil _) [6, 42] [(6, .int .u64 (((dcF 0 bs) : Nat) : Int)), (42, .bool false)] (by kernel_rfl) (by kernel_rfl) rfl ?_
              refine GL.run (j := 4) 2 [6, 43, 44] [(6, .int .u64 (((dcF 0 bs) : Nat) : Int)), (43, .bool false), (44, .int .u64 (((dcF 0 bs) : Nat) : Int))] (by kernel_rfl) rfl ?_
              refine GL.call (j := 5) (Right_calls (dcF 0 bs) w79) (by kernel_rfl) rfl (fun e_ w86 hR => ?_)
              obtain ⟨rfl, H88⟩ := hR
              have H87 : Hp w [] [] w86 := H80.callNil H88
              refine ⟨_, rfl, [6, 43, 45], [(6, .int .u64 (((dcF 0 bs) : Nat) : Int)), (43, .bool false), (45, .bool (decide (((dcF 0 bs) : Int) ≤ 4611686018427387904)))], by kernel_rfl, ?_⟩
              refine GL.run (j := 7) 2 [6, 47] [(6, .int .u64 (((dcF 0 bs) : Nat) : Int)), (47, .bool (!(decide (((dcF 0 bs) : Int) ≤ 4611686018427387904))))] (by kernel_rfl) rfl ?_
              refine GL.k rfl hK85 (fun _ _ h => h) ?_
              cases hb89 : (decide (((dcF 0 bs) : Int) ≤ 4611686018427387904))
              · skip
                have hb89f := of_decide_eq_false hb89
                refine G.yes rfl ?_
                refine G.seqK fun K90 hK91 => ?_
                refine G.region ?_
                refine GL.run (j := 2) 2 [2, 3] [(2, .int .u64 0), (3, .int .i64 4)] (by kernel_rfl) rfl ?_
                refine GL.k rfl hK91 (fun _ _ h => h) ?_
                refine G.ret ?_
                intro F_ hF_ hM_
                refine hRet _ _ (bodyPost_2 rfl (RV.tmp rfl) (RV.tmp rfl) ?_ F_ hF_ hM_)
                rw [show mpV bs = 0 by rw [mpV, if_pos hdg, if_neg (by omega)], show mpE bs = 4 by rw [mpE, if_pos hdg, if_neg (by omega)]]
                exact ⟨rfl, H87⟩
              · skip
                have hb89f := of_decide_eq_true hb89
                refine G.no rfl ?_
                refine G.skipK hK83 (fun _ _ h => h) ?_
                refine G.seqK fun K92 hK93 => ?_
                refine G.region ?_
                refine GL.run (j := 3) 3 [2, 3] [(2, .int .u64 (((dcF 0 bs) : Nat) : Int)), (3, .int .i64 0)] (by kernel_rfl) rfl ?_
                refine GL.k rfl hK93 (fun _ _ h => h) ?_
                refine G.ret ?_
                intro F_ hF_ hM_
                refine hRet _ _ (bodyPost_2 rfl (RV.tmp rfl) (RV.tmp rfl) ?_ F_ hF_ hM_)
                rw [show mpV bs = dcF 0 bs by rw [mpV, if_pos hdg, if_pos (by omega)], show mpE bs = 0 by rw [mpE, if_pos hdg, if_pos (by omega)]]
                exact ⟨rfl, H87⟩
            · skip
              have hdg : dgOk bs := ⟨hne, hzero, fun x hx => hall x (by rw [List.take_of_length_le (show bs.length ≤ i by omega)]; exact hx)⟩
              refine GL.run (j := 1) 1 [36] [(36, .slice A bs.length c)] (by kernel_rfl) rfl ?_
              refine GL.sem (j := 2) (run_toStr (P := Tryd.prog) (src := 24) (dst := 9) (A := A) (bs := bs) (n := bs.length) (c := c) (by kernel_rfl) (by kernel_rfl) (hx.hp H71) (rfl)) [37] [(37, .string (strOf bs))] (by kernel_rfl) (by kernel_rfl) rfl ?_
              refine GL.call (j := 3) (pu_range_calls bs hdg h64 (by omega) tp pv w69 (H71.oldCell hv)) (by kernel_rfl) rfl (fun e_ w94 hR => ?_)
              obtain ⟨u_, v_, rfl, H96⟩ := hR
              have H95 : Hp w [] [] w94 := H71.callNil H96
              refine ⟨_, rfl, [38], [(38, .tuple #[.int .u64 18446744073709551615, .iface u_ v_])], by kernel_rfl, ?_⟩
              refine GL.run (j := 8) 5 [6, 7] [(6, .int .u64 18446744073709551615), (7, .iface u_ v_)] (by kernel_rfl) rfl ?_
              refine GL.k rfl hK78 (fun _ _ h => h) ?_
              refine G.seqK fun K97 hK98 => ?_
              refine G.seqK fun K99 hK100 => ?_
              refine G.region ?_
              refine GL.run (j := 1) 1 [6, 41] [(6, .int .u64 18446744073709551615), (41, .iface u_ v_)] (by kernel_rfl) rfl ?_
              refine GL.sem (j := 2) (if_not u_ v_ _) [6, 42] [(6, .int .u64 18446744073709551615), (42, .bool true)] (by kernel_rfl) (by kernel_rfl) rfl ?_
              refine GL.run (j := 7) 5 [6, 47] [(6, .int .u64 18446744073709551615), (47, .bool true)] (by kernel_rfl) rfl ?_
              refine GL.k rfl hK100 (fun _ _ h => h) ?_
              refine G.yes rfl ?_
              refine G.seqK fun K101 hK102 => ?_
              refine G.region ?_
              refine GL.run (j := 2) 2 [2, 3] [(2, .int .u64 0), (3, .int .i64 4)] (by kernel_rfl) rfl ?_
              refine GL.k rfl hK102 (fun _ _ h => h) ?_
              refine G.ret ?_
              intro F_ hF_ hM_
              refine hRet _ _ (bodyPost_2 rfl (RV.tmp rfl) (RV.tmp rfl) ?_ F_ hF_ hM_)
              rw [show mpV bs = 0 by rw [mpV, if_pos hdg, if_neg (by omega)], show mpE bs = 4 by rw [mpE, if_pos hdg, if_neg (by omega)]]
              exact ⟨rfl, H95⟩
          · skip
            have hb76f := of_decide_eq_true hb76
            refine G.yes rfl ?_
            refine G.skipK hK75 (fun _ _ h => h) ?_
            refine G.seqK fun K103 hK104 => ?_
            refine G.block ?_
            refine G.seqK fun K105 hK106 => ?_
            refine G.region ?_
            refine GL.sem (j := 1) (run_idxRd (P := Tryd.prog) (k := .i64) (t := 24) (A := A) (len := bs.length) (cap := c) (j := i) (by kernel_rfl) rfl (hx.hp H71) (by rw [by8_length]) (by first | rfl | omega | (simp only [List.length_cons, List.length_nil, List.length_drop, List.length_take, List.length_append] <;> omega))) [0, 22, 23, 24, 26] [(0, .slice A bs.length c), (22, .slice A bs.length c), (23, .int .i64 (bs.length : Int)), (24, .int .i64 (i : Int)), (26, .pointer (Option.map (fun x => Addr.add x i) A))] (by kernel_rfl) (by kernel_rfl) rfl ?_
            obtain ⟨b107, hat108⟩ : ∃ b : UInt8, bs[i]? = some b := ⟨_, List.getElem?_eq_getElem (by first | rfl | omega | (simp only [List.length_cons, List.length_nil, List.length_drop, List.length_take, List.length_append] <;> omega))⟩
            refine GL.sem (j := 2) (run_ldRd (P := Tryd.prog) (ty := 5) (A := A) (j := i) (v := .int .u8 (b107.toNat : Int)) (by kernel_rfl) (hx.hp H71) (by8_at hat108)) [0, 22, 23, 24, 27] [(0, .slice A bs.length c), (22, .slice A bs.length c), (23, .int .i64 (bs.length : Int)), (24, .int .i64 (i : Int)), (27, .int .u8 (b107.toNat : Int))] (by kernel_rfl) (by kernel_rfl) rfl ?_
            refine GL.run (j := 3) 1 [0, 5, 22, 23, 24] [(0, .slice A bs.length c), (5, .int .u8 (b107.toNat : Int)), (22, .slice A bs.length c), (23, .int .i64 (bs.length : Int)), (24, .int .i64 (i : Int))] (by kernel_rfl) rfl ?_
            refine GL.k rfl hK106 (fun _ _ h => h) ?_
            refine G.seqK fun K109 hK110 => ?_
            refine G.region ?_
            refine GL.run (j := 3) 3 [0, 5, 22, 23, 24, 30] [(0, .slice A bs.length c), (5, .int .u8 (b107.toNat : Int)), (22, .slice A bs.length c), (23, .int .i64 (bs.length : Int)), (24, .int .i64 (i : Int)), (30, .bool (decide ((b107.toNat : Int) < 48)))] (by kernel_rfl) rfl ?_
            cases hb111 : (decide ((b107.toNat : Int) < 48))
            · skip
              have hb111f := of_decide_eq_false hb111
              refine GL.run (j := 6) 3 [0, 22, 23, 24, 33] [(0, .slice A bs.length c), (22, .slice A bs.length c), (23, .int .i64 (bs.length : Int)), (24, .int .i64 (i : Int)), (33, .bool (decide (57 < (b107.toNat : Int))))] (by kernel_rfl) rfl ?_
              refine GL.k rfl hK110 (fun _ _ h => h) ?_
              cases hb112 : (decide (57 < (b107.toNat : Int)))
              · skip
                have hb112f := of_decide_eq_false hb112
                refine G.no rfl ?_
                refine G.skipK hK104 (fun _ _ h => h) ?_
                refine G.region ?_
                refine GL.run (j := 2) 2 [0, 22, 23, 24] [(0, .slice A bs.length c), (22, .slice A bs.length c), (23, .int .i64 (bs.length : Int)), (24, .int .i64 (IntKind.i64.wrap ((i : Int) + 1)))] (by kernel_rfl) rfl ?_
                have e113 : (IntKind.i64.wrap ((i : Int) + 1)) = ((i + 1 : Nat) : Int) := by rw [in_i64 (by omega)]; omega
                refine GL.eq (M' := [(0, .slice A bs.length c), (22, .slice A bs.length c), (23, .int .i64 (bs.length : Int)), (24, .int .i64 ((i + 1 : Nat) : Int))]) (by rw [e113]) ?_
                clear e113
                refine GL.fit (ts := [0, 22, 23, 24]) (M' := [(0, .slice A bs.length c), (22, .slice A bs.length c), (23, .int .i64 (bs.length : Int)), (24, .int .i64 ((i + 1 : Nat) : Int))]) (by kernel_rfl) ?_
                refine GL.eq (M' := [(0, .slice A bs.length c), (22, .slice A bs.length c), (23, .int .i64 (bs.length : Int)), (24, .int .i64 (((i + 1) : Nat) : Int))]) (by rfl) ?_
                exact GL.again (i + 1) [0, 22, 23, 24] rfl (by kernel_rfl) (by show bs.length - (i + 1) < bs.length - i; omega) ⟨⟨by omega, take_dg hall hat108 (show 48 ≤ b107.toNat ∧ b107.toNat ≤ 57 by omega)⟩, H71⟩
              · skip
                have hb112f := of_decide_eq_true hb112
                refine G.yes rfl ?_
                refine G.seqK fun K114 hK115 => ?_
                refine G.region ?_
                refine GL.run (j := 2) 2 [2, 3] [(2, .int .u64 0), (3, .int .i64 2)] (by kernel_rfl) rfl ?_
                refine GL.k rfl hK115 (fun _ _ h => h) ?_
                refine G.ret ?_
                intro F_ hF_ hM_
                refine hRet _ _ (bodyPost_2 rfl (RV.tmp rfl) (RV.tmp rfl) ?_ F_ hF_ hM_)
                have hno : ¬ dgOk bs := by
                  rintro ⟨h1, h2, h3⟩
                  have h4 := h3 b107 (List.mem_of_getElem? hat108)
                  have h5 : 48 ≤ b107.toNat ∧ b107.toNat ≤ 57 := h4
                  omega
                rw [show mpV bs = 0 from if_neg hno, show mpE bs = 2 from if_neg hno]
                exact ⟨rfl, H71⟩
            · skip
              have hb111f := of_decide_eq_true hb111
              refine GL.run (j := 6) 3 [0, 22, 23, 24, 33] [(0, .slice A bs.length c), (22, .slice A bs.length c), (23, .int .i64 (bs.length : Int)), (24, .int .i64 (i : Int)), (33, .bool true)] (by kernel_rfl) rfl ?_
              refine GL.k rfl hK110 (fun _ _ h => h) ?_
              refine G.yes rfl ?_
              refine G.seqK fun K116 hK117 => ?_
              refine G.region ?_
              refine GL.run (j := 2) 2 [2, 3] [(2, .int .u64 0), (3, .int .i64 2)] (by kernel_rfl) rfl ?_
              refine GL.k rfl hK117 (fun _ _ h => h) ?_
              refine G.ret ?_
              intro F_ hF_ hM_
              refine hRet _ _ (bodyPost_2 rfl (RV.tmp rfl) (RV.tmp rfl) ?_ F_ hF_ hM_)
              have hno : ¬ dgOk bs := by
                rintro ⟨h1, h2, h3⟩
                have h4 := h3 b107 (List.mem_of_getElem? hat108)
                have h5 : 48 ≤ b107.toNat ∧ b107.toNat ≤ 57 := h4
                omega
              rw [show mpV bs = 0 from if_neg hno, show mpE bs = 2 from if_neg hno]
              exact ⟨rfl, H71⟩
      · skip
        have hb64f := eq_of_beq hb64
        refine G.yes rfl ?_
        refine G.seqK fun K118 hK119 => ?_
        refine G.region ?_
        refine GL.run (j := 2) 2 [2, 3] [(2, .int .u64 0), (3, .int .i64 2)] (by kernel_rfl) rfl ?_
        refine GL.k rfl hK119 (fun _ _ h => h) ?_
        refine G.ret ?_
        intro F_ hF_ hM_
        refine hRet _ _ (bodyPost_2 rfl (RV.tmp rfl) (RV.tmp rfl) ?_ F_ hF_ hM_)
        have hno : ¬ dgOk bs := by
          rintro ⟨h1, h2, h3⟩
          have hgd : bs.getD 0 0 = b62 := by rw [List.getD_eq_getElem?_getD, hat63]; rfl
          rw [hgd] at h2
          rcases h2 with h2 | h2
          · omega
          · exact h2 (UInt8.toNat_inj.1 (by have : (48 : UInt8).toNat = 48 := rfl; omega))
        rw [show mpV bs = 0 from if_neg hno, show mpE bs = 2 from if_neg hno]
        exact ⟨rfl, H⟩
  · skip
    have hb7f := eq_of_beq hb7
    refine GL.run (j := 14) 10 [0, 21] [(0, .slice A bs.length c), (21, .bool true)] (by kernel_rfl) rfl ?_
    refine GL.k rfl hK6 (fun _ _ h => h) ?_
    refine G.yes rfl ?_
    refine G.seqK fun K120 hK121 => ?_
    refine G.region ?_
    refine GL.run (j := 2) 2 [2, 3] [(2, .int .u64 0), (3, .int .i64 2)] (by kernel_rfl) rfl ?_
    refine GL.k rfl hK121 (fun _ _ h => h) ?_
    refine G.ret ?_
    intro F_ hF_ hM_
    refine hRet _ _ (bodyPost_2 rfl (RV.tmp rfl) (RV.tmp rfl) ?_ F_ hF_ hM_)
    have hno : ¬ dgOk bs := by
      rintro ⟨h1, h2, h3⟩
      exact h1 (List.eq_nil_of_length_eq_zero (by omega))
    rw [show mpV bs = 0 from if_neg hno, show mpE bs = 2 from if_neg hno]
    exact ⟨rfl, H⟩
end Go.Proofs.YtgbhiklengafiaaDoor
set_option maxRecDepth 100000
namespace Go.Proofs.YtgbhiklengafiaaDoor
open Go.RowKit
theorem trim_calls (ds : List Nat) (n : Nat) (hn : n = ds.length) (A : Option Addr) (c : Nat) (w : World) (hr : RdS w A (dg ds)) (hok : ok16 ds) (hc : n ≤ c) (hb : n ≤ 1099511627776) : Calls Tryd.prog 16 #[.slice A n c] w fun e w' => e = .returned (.slice A (ndg (val ds)) c) ∧ Hp w [] [] w' := by
  subst hn
  refine calls_G (args := [.slice A ds.length c]) Tryd.func16 rfl Tryd.ntmps16 rfl ?_
  intro Q0 hRet hNor hPan
  have H := Hp.start w
  have H : Hp w [] [] w := H
  refine G.seqK fun K1 hK2 => ?_
  refine G.region ?_
  refine GL.run (j := 1) 1 [0] [(0, .slice A ds.length c)] (by kernel_rfl) rfl ?_
  refine GL.k rfl hK2 (fun _ _ h => h) ?_
  refine G.seqK fun K3 hK4 => ?_
  refine G.block ?_
  refine G.fit [0] (M' := [(0, .slice A ds.length c)]) (by kernel_rfl) ?_
  refine G.loop (X := Nat) (fun m => [(0, .slice A m c)]) (fun m w_ => (m ≤ ds.length ∧ val (ds.take m) = val ds) ∧ Hp w [] [] w_) (fun m => m) ds.length [0] (by kernel_rfl) ⟨⟨Nat.le_refl _, by rw [List.take_length]⟩, H⟩ ?_
  rintro m w5 ⟨hi6, H7⟩
  refine G.eq (M' := [(0, .slice A m c)]) rfl ?_
  have H7 : Hp w [] [] w5 := H7
  obtain ⟨hm, hv⟩ := hi6
  refine G.seqK fun K8 hK9 => ?_
  refine G.seqK fun K10 hK11 => ?_
  refine G.region ?_
  refine GL.run (j := 4) 4 [0, 6] [(0, .slice A m c), (6, .bool (decide (0 < (m : Int))))] (by kernel_rfl) rfl ?_
  cases hb12 : (decide (0 < (m : Int)))
  · skip
    have hb12f := of_decide_eq_false hb12
    have hlast : m = 0 ∨ ∃ d, ds[m - 1]? = some d ∧ d ≠ 0 := .inl (by omega)
    refine GL.run (j := 12) 8 [0, 14] [(0, .slice A m c), (14, .bool false)] (by kernel_rfl) rfl ?_
    refine GL.k rfl hK11 (fun _ _ h => h) ?_
    refine G.no rfl ?_
    refine G.exitK hK4 (fun _ _ h => h) ?_
    refine G.seqK fun K13 hK14 => ?_
    refine G.region ?_
    refine GL.run (j := 2) 2 [2] [(2, .slice A m c)] (by kernel_rfl) rfl ?_
    refine GL.k rfl hK14 (fun _ _ h => h) ?_
    refine G.ret ?_
    intro F_ hF_ hM_
    refine hRet _ _ (bodyPost_1 rfl (RV.tmp rfl) ?_ F_ hF_ hM_)
    obtain ⟨e1, e2⟩ := trimmed hok hm hv hlast
    rw [e2]
    exact ⟨rfl, H7.sub (List.nil_sublist _)⟩
  · skip
    have hb12f := of_decide_eq_true hb12
    refine GL.run (j := 8) 4 [0, 6, 7, 10] [(0, .slice A m c), (6, .bool true), (7, .slice A m c), (10, .int .i64 (IntKind.i64.wrap ((m : Int) - 1)))] (by kernel_rfl) rfl ?_
    have e15 : (IntKind.i64.wrap ((m : Int) - 1)) = ((m - 1 : Nat) : Int) := by rw [in_i64 (by omega)]; omega
    refine GL.eq (M' := [(0, .slice A m c), (6, .bool true), (7, .slice A m c), (10, .int .i64 ((m - 1 : Nat) : Int))]) (by rw [e15]) ?_
    clear e15
    refine GL.sem (j := 9) (run_idxRd (P := Tryd.prog) (k := .i64) (t := 31) (A := A) (len := m) (cap := c) (j := m - 1) (by kernel_rfl) rfl ((hr.hp H7).takeD m) (by first | exact dg_length _ | rw [dg_length]; first | rfl | assumption | (symm; assumption) | (simp; done) | (rw [List.length_take]; omega) | omega) (by omega)) [0, 6, 11] [(0, .slice A m c), (6, .bool true), (11, .pointer (Option.map (fun x => Addr.add x (m - 1)) A))] (by kernel_rfl) (by kernel_rfl) rfl ?_
    obtain ⟨d16, hd17⟩ : ∃ d : Nat, ((ds.take m))[m - 1]? = some d := ⟨_, List.getElem?_eq_getElem (by rw [List.length_take]; omega)⟩
    have hdm : ds[m - 1]? = some d16 := by have := hd17; rwa [List.getElem?_take_of_lt (by omega)] at this
    refine GL.sem (j := 10) (run_ldRd (P := Tryd.prog) (ty := 22) (A := A) (j := m - 1) (v := .int .u64 (d16 : Int)) (by kernel_rfl) ((hr.hp H7).takeD m) (dg_at hd17)) [0, 6, 12] [(0, .slice A m c), (6, .bool true), (12, .int .u64 (d16 : Int))] (by kernel_rfl) (by kernel_rfl) rfl ?_
    refine GL.run (j := 12) 2 [0, 14] [(0, .slice A m c), (14, .bool ((d16 : Int) == 0))] (by kernel_rfl) rfl ?_
    refine GL.k rfl hK11 (fun _ _ h => h) ?_
    cases hb18 : ((d16 : Int) == 0)
    · skip
      have hb18f := ne_of_beq_false hb18
      have hlast : m = 0 ∨ ∃ d, ds[m - 1]? = some d ∧ d ≠ 0 := .inr ⟨_, hdm, by omega⟩
      refine G.no rfl ?_
      refine G.exitK hK4 (fun _ _ h => h) ?_
      refine G.seqK fun K19 hK20 => ?_
      refine G.region ?_
      refine GL.run (j := 2) 2 [2] [(2, .slice A m c)] (by kernel_rfl) rfl ?_
      refine GL.k rfl hK20 (fun _ _ h => h) ?_
      refine G.ret ?_
      intro F_ hF_ hM_
      refine hRet _ _ (bodyPost_1 rfl (RV.tmp rfl) ?_ F_ hF_ hM_)
      obtain ⟨e1, e2⟩ := trimmed hok hm hv hlast
      rw [e2]
      exact ⟨rfl, H7.sub (List.nil_sublist _)⟩
    · skip
      have hb18f := eq_of_beq hb18
      have hd0 : d16 = 0 := by omega
      refine G.yes rfl ?_
      refine G.skipK hK9 (fun _ _ h => h) ?_
      refine G.block ?_
      refine G.region ?_
      refine GL.run (j := 4) 4 [15, 18] [(15, .slice A m c), (18, .int .i64 (IntKind.i64.wrap ((m : Int) - 1)))] (by kernel_rfl) rfl ?_
      have e21 : (IntKind.i64.wrap ((m : Int) - 1)) = ((m - 1 : Nat) : Int) := by rw [in_i64 (by omega)]; omega
      refine GL.eq (M' := [(15, .slice A m c), (18, .int .i64 ((m - 1 : Nat) : Int))]) (by rw [e21]) ?_
      clear e21
      refine GL.sem (j := 5) (run_sliceSl0 (P := Tryd.prog) (lo := none) (hi := some (.int .i64 ((m - 1 : Nat) : Int))) (t := 31) (len := m) (cap := c) (A := A) (h := m - 1) (by kernel_rfl) (Or.inl ⟨rfl, rfl⟩) (Or.inr ⟨_, _, rfl, rfl⟩) (by omega)) [19] [(19, .slice A (m - 1) c)] (by kernel_rfl) (by kernel_rfl) rfl ?_
      refine GL.run (j := 6) 1 [0] [(0, .slice A (m - 1) c)] (by kernel_rfl) rfl ?_
      exact GL.againB (m - 1) [0] rfl (by kernel_rfl) (by show (m - 1) < m; omega) ⟨⟨by omega, by rw [← hv]; have := val_take hdm; rw [show m - 1 + 1 = m from by omega, hd0, Nat.mul_zero, Nat.add_zero] at this; exact this.symm⟩, H7⟩
theorem digit_calls (a i : Nat) (A : Option Addr) (c : Nat) (w : World) (hr : RdS w A (dg (digs a))) : Calls Tryd.prog 15 #[.slice A (ndg a) c, .int .i64 (i : Int)] w fun e w' => e = .returned (.int .u64 ((dgt a i : Nat) : Int)) ∧ Hp w [] [] w' := by
  refine calls_G (args := [.slice A (ndg a) c, .int .i64 (i : Int)]) Tryd.func15 rfl Tryd.ntmps15 rfl ?_
  intro Q0 hRet hNor hPan
  have H := Hp.start w
  have H : Hp w [] [] w := H
  refine G.seqK fun K1 hK2 => ?_
  refine G.region ?_
  refine GL.run (j := 1) 1 [0, 1] [(0, .slice A (ndg a) c), (1, .int .i64 (i : Int))] (by kernel_rfl) rfl ?_
  refine GL.k rfl hK2 (fun _ _ h => h) ?_
  refine G.seqK fun K3 hK4 => ?_
  refine G.seqK fun K5 hK6 => ?_
  refine G.region ?_
  refine GL.run (j := 4) 4 [0, 1, 8] [(0, .slice A (ndg a) c), (1, .int .i64 (i : Int)), (8, .bool (decide ((i : Int) < (((ndg a) : Nat) : Int))))] (by kernel_rfl) rfl ?_
  refine GL.k rfl hK6 (fun _ _ h => h) ?_
  cases hb7 : (decide ((i : Int) < (((ndg a) : Nat) : Int)))
  · skip
    have hb7f := of_decide_eq_false hb7
    refine G.no rfl ?_
    refine G.skipK hK4 (fun _ _ h => h) ?_
    refine G.seqK fun K8 hK9 => ?_
    refine G.region ?_
    refine GL.run (j := 1) 1 [4] [(4, .int .u64 0)] (by kernel_rfl) rfl ?_
    refine GL.k rfl hK9 (fun _ _ h => h) ?_
    refine G.ret ?_
    intro F_ hF_ hM_
    refine hRet _ _ (bodyPost_1 rfl (RV.tmp rfl) ?_ F_ hF_ hM_)
    rw [dgt_zero (by omega)]
    exact ⟨rfl, H.sub (List.nil_sublist _)⟩
  · skip
    have hb7f := of_decide_eq_true hb7
    refine G.yes rfl ?_
    refine G.seqK fun K10 hK11 => ?_
    refine G.region ?_
    refine GL.run (j := 2) 2 [9, 10] [(9, .slice A (ndg a) c), (10, .int .i64 (i : Int))] (by kernel_rfl) rfl ?_
    refine GL.sem (j := 3) (run_idxRd (P := Tryd.prog) (k := .i64) (t := 31) (A := A) (len := (ndg a)) (cap := c) (j := i) (by kernel_rfl) rfl (hr.hp H) (dg_digs _) (by omega)) [11] [(11, .pointer (Option.map (fun x => Addr.add x i) A))] (by kernel_rfl) (by kernel_rfl) rfl ?_
    refine GL.sem (j := 4) (run_ldRd (P := Tryd.prog) (ty := 22) (A := A) (j := i) (v := .int .u64 ((dgt a i) : Int)) (by kernel_rfl) (hr.hp H) (dg_at (digs_get (by omega)))) [12] [(12, .int .u64 ((dgt a i) : Int))] (by kernel_rfl) (by kernel_rfl) rfl ?_
    refine GL.run (j := 5) 1 [4] [(4, .int .u64 ((dgt a i) : Int))] (by kernel_rfl) rfl ?_
    refine GL.k rfl hK11 (fun _ _ h => h) ?_
    refine G.ret ?_
    intro F_ hF_ hM_
    refine hRet _ _ (bodyPost_1 rfl (RV.tmp rfl) ?_ F_ hF_ hM_)
    exact ⟨rfl, H.sub (List.nil_sublist _)⟩
set_option maxHeartbeats 2000000 in
theorem Of_calls_n (x : Nat) (hx : x < K4) (w : World) : Calls Tryd.prog 9 #[wv x] w fun e w' => ∃ A c, e = .returned ((.slice A (ndg x) c)) ∧ Hp w [] [.row A (ndg x) c 22 1 (dg (digs x))] w' := by
  refine calls_G (args := [wv x]) Tryd.func9 rfl Tryd.ntmps9 rfl ?_
  intro Q0 hRet hNor hPan
  have H := Hp.start w
  have H : Hp w [] [] w := H
  refine G.seqK fun K1 hK2 => ?_
  refine G.region ?_
  obtain ⟨p3, w4, r5, H6⟩ := H.box (P := Tryd.prog) 34 [.int .u64 (wd x 0 : Int), .int .u64 (wd x 1 : Int), .int .u64 (wd x 2 : Int), .int .u64 (wd x 3 : Int)] (wv x) rfl
  have H6 : Hp w [] [.blk p3 [.int .u64 (wd x 0 : Int), .int .u64 (wd x 1 : Int), .int .u64 (wd x 2 : Int), .int .u64 (wd x 3 : Int)] 34] w4 := H6
  refine GL.sem (j := 1) (r5) [1] [(1, pt p3 0)] (by kernel_rfl) (by kernel_rfl) rfl ?_
  refine GL.run (j := 2) 1 [1] [(1, pt p3 0)] (by kernel_rfl) rfl ?_
  refine GL.k rfl hK2 (fun _ _ h => h) ?_
  refine G.seqK fun K7 hK8 => ?_
  refine G.region ?_
  obtain ⟨p9, w10, r11, H12⟩ := H6.madeRow (P := Tryd.prog) (Instr.buildSlice 31 0 #[]) (fun b_ => .slice (some ⟨b_, 0, none⟩) 0 0) [] 22 0 0 1 (by kernel_rfl) (by decide) (by decide) rfl
  have H12 : Hp w [] [.blk p3 [.int .u64 (wd x 0 : Int), .int .u64 (wd x 1 : Int), .int .u64 (wd x 2 : Int), .int .u64 (wd x 3 : Int)] 34, .row (some ⟨p9, 0, none⟩) 0 0 22 1 (dg [])] w10 := H12
  refine GL.sem (j := 1) (r11) [1, 7] [(1, pt p3 0), (7, .slice (some ⟨p9, 0, none⟩) 0 0)] (by kernel_rfl) (by kernel_rfl) rfl ?_
  refine GL.run (j := 2) 1 [1, 3] [(1, pt p3 0), (3, .slice (some ⟨p9, 0, none⟩) 0 0)] (by kernel_rfl) rfl ?_
  refine GL.k rfl hK8 (fun _ _ h => h) ?_
  refine G.seqK fun K13 hK14 => ?_
  refine G.seqK fun K15 hK16 => ?_
  refine G.region ?_
  refine GL.sem (j := 1) (H12.ldA (o := 0) (ty := 34) (m := 4) (sub := [.int .u64 (wd x 0 : Int), .int .u64 (wd x 1 : Int), .int .u64 (wd x 2 : Int), .int .u64 (wd x 3 : Int)]) 0 rfl (by kernel_rfl) rfl rfl) [3, 8] [(3, .slice (some ⟨p9, 0, none⟩) 0 0), (8, wv x)] (by kernel_rfl) (by kernel_rfl) rfl ?_
  refine GL.run (j := 2) 1 [3, 8, 9] [(3, .slice (some ⟨p9, 0, none⟩) 0 0), (8, wv x), (9, .int .i64 0)] (by kernel_rfl) rfl ?_
  refine GL.k rfl hK16 (fun _ _ h => h) ?_
  refine G.block ?_
  refine G.unroll 4 ?_
  refine G.seqK fun K17 hK18 => ?_
  refine G.region ?_
  refine GL.run (j := 1) 1 [3, 8, 9, 10] [(3, .slice (some ⟨p9, 0, none⟩) 0 0), (8, wv x), (9, .int .i64 0), (10, .bool true)] (by kernel_rfl) rfl ?_
  refine GL.k rfl hK18 (fun _ _ h => h) ?_
  refine G.seqK fun K19 hK20 => ?_
  refine G.yes rfl ?_
  refine G.skipK hK20 (fun _ _ h => h) ?_
  refine G.seqK fun K21 hK22 => ?_
  refine G.block ?_
  refine G.seqK fun K23 hK24 => ?_
  refine G.region ?_
  refine GL.run (j := 2) 2 [3, 5, 8, 9] [(3, .slice (some ⟨p9, 0, none⟩) 0 0), (5, .int .u64 (wd x 0 : Int)), (8, wv x), (9, .int .i64 0)] (by kernel_rfl) rfl ?_
  refine GL.k rfl hK24 (fun _ _ h => h) ?_
  refine G.seqK fun K25 hK26 => ?_
  refine G.region ?_
  refine GL.run (j := 1) 1 [3, 5, 6, 8, 9] [(3, .slice (some ⟨p9, 0, none⟩) 0 0), (5, .int .u64 (wd x 0 : Int)), (6, .int .i64 0), (8, wv x), (9, .int .i64 0)] (by kernel_rfl) rfl ?_
  refine GL.k rfl hK26 (fun _ _ h => h) ?_
  refine G.block ?_
  refine G.unroll 4 ?_
  refine G.seqK fun K27 hK28 => ?_
  refine G.seqK fun K29 hK30 => ?_
  refine G.region ?_
  refine GL.run (j := 2) 2 [3, 5, 6, 8, 9, 13] [(3, .slice (some ⟨p9, 0, none⟩) 0 0), (5, .int .u64 (wd x 0 : Int)), (6, .int .i64 0), (8, wv x), (9, .int .i64 0), (13, .bool true)] (by kernel_rfl) rfl ?_
  refine GL.k rfl hK30 (fun _ _ h => h) ?_
  refine G.yes rfl ?_
  refine G.skipK hK28 (fun _ _ h => h) ?_
  refine G.seqK fun K31 hK32 => ?_
  refine G.block ?_
  refine G.region ?_
  refine GL.run (j := 6) 6 [5, 6, 8, 9, 16, 21] [(5, .int .u64 (wd x 0 : Int)), (6, .int .i64 0), (8, wv x), (9, .int .i64 0), (16, .slice (some ⟨p9, 0, none⟩) 0 0), (21, .int .u64 (Int.tmod (Int.fdiv (wd x 0 : Int) (2 ^ 0)) 65536))] (by kernel_rfl) rfl ?_
  have e33 : (Int.fdiv (wd x 0 : Int) (2 ^ 0)) = (((wd x 0) / 2 ^ 0 : Nat) : Int) := n_shr _ 0
  have e34 : (Int.tmod (((wd x 0) / 2 ^ 0 : Nat) : Int) 65536) = ((((wd x 0) / 2 ^ 0) % 65536 : Nat) : Int) := n_rem _ 65536
  refine GL.eq (M' := [(5, .int .u64 (wd x 0 : Int)), (6, .int .i64 0), (8, wv x), (9, .int .i64 0), (16, .slice (some ⟨p9, 0, none⟩) 0 0), (21, .int .u64 ((((wd x 0) / 2 ^ 0) % 65536 : Nat) : Int))]) (by rw [e33, e34]) ?_
  clear e33 e34
  obtain ⟨p35, w36, r37, H38⟩ := H12.madeRow (P := Tryd.prog) (Instr.buildSlice 31 1 #[(0, .int .u64 ((((wd x 0) / 2 ^ 0) % 65536 : Nat) : Int))]) (fun b_ => .slice (some ⟨b_, 0, none⟩) 1 1) [.int .u64 ((((wd x 0) / 2 ^ 0) % 65536 : Nat) : Int)] 22 1 1 1 (by kernel_rfl) (by decide) (by decide) rfl
  have H38 : Hp w [] [.blk p3 [.int .u64 (wd x 0 : Int), .int .u64 (wd x 1 : Int), .int .u64 (wd x 2 : Int), .int .u64 (wd x 3 : Int)] 34, .row (some ⟨p9, 0, none⟩) 0 0 22 1 (dg []), .row (some ⟨p35, 0, none⟩) 1 1 22 1 (dg [((wd x 0) / 2 ^ 0) % 65536])] w36 := H38
  refine GL.sem (j := 7) (r37) [5, 6, 8, 9, 16, 22] [(5, .int .u64 (wd x 0 : Int)), (6, .int .i64 0), (8, wv x), (9, .int .i64 0), (16, .slice (some ⟨p9, 0, none⟩) 0 0), (22, .slice (some ⟨p35, 0, none⟩) 1 1)] (by kernel_rfl) (by kernel_rfl) rfl ?_
  obtain ⟨A39, c40, w41, r42, H43⟩ := H38.append (P := Tryd.prog) (e := 22) (sz := 1) (by_ := 8) (n := 0) (c := 0) (m := 1) (d := 1) (t := 31) (ty := 31) (xs := dg []) (news := dg [((wd x 0) / 2 ^ 0) % 65536]) 1 rfl (by kernel_rfl) (H38.rdRow 2 rfl) (by simp [dg_length]) (dg_one _) (by omega) (by simp only [maxLen]; omega)
  have H43 : Hp w [] [.blk p3 [.int .u64 (wd x 0 : Int), .int .u64 (wd x 1 : Int), .int .u64 (wd x 2 : Int), .int .u64 (wd x 3 : Int)] 34, .row A39 1 c40 22 1 (dg [((wd x 0) / 2 ^ 0) % 65536]), .row (some ⟨p35, 0, none⟩) 1 1 22 1 (dg [((wd x 0) / 2 ^ 0) % 65536])] w41 := H43
  refine GL.sem (j := 8) (r42) [5, 6, 8, 9, 23] [(5, .int .u64 (wd x 0 : Int)), (6, .int .i64 0), (8, wv x), (9, .int .i64 0), (23, .slice A39 1 c40)] (by kernel_rfl) (by kernel_rfl) rfl ?_
  refine GL.run (j := 9) 1 [3, 5, 6, 8, 9] [(3, .slice A39 1 c40), (5, .int .u64 (wd x 0 : Int)), (6, .int .i64 0), (8, wv x), (9, .int .i64 0)] (by kernel_rfl) rfl ?_
  refine GL.k rfl hK32 (fun _ _ h => h) ?_
  refine G.region ?_
  refine GL.run (j := 3) 3 [3, 5, 6, 8, 9] [(3, .slice A39 1 c40), (5, .int .u64 (wd x 0 : Int)), (6, .int .i64 1), (8, wv x), (9, .int .i64 0)] (by kernel_rfl) rfl ?_
  refine GL.round rfl ?_
  refine G.seqK fun K44 hK45 => ?_
  refine G.seqK fun K46 hK47 => ?_
  refine G.region ?_
  refine GL.run (j := 2) 2 [3, 5, 6, 8, 9, 13] [(3, .slice A39 1 c40), (5, .int .u64 (wd x 0 : Int)), (6, .int .i64 1), (8, wv x), (9, .int .i64 0), (13, .bool true)] (by kernel_rfl) rfl ?_
  refine GL.k rfl hK47 (fun _ _ h => h) ?_
  refine G.yes rfl ?_
  refine G.skipK hK45 (fun _ _ h => h) ?_
  refine G.seqK fun K48 hK49 => ?_
  refine G.block ?_
  refine G.region ?_
  refine GL.run (j := 6) 6 [5, 6, 8, 9, 16, 21] [(5, .int .u64 (wd x 0 : Int)), (6, .int .i64 1), (8, wv x), (9, .int .i64 0), (16, .slice A39 1 c40), (21, .int .u64 (Int.tmod (Int.fdiv (wd x 0 : Int) (2 ^ 16)) 65536))] (by kernel_rfl) rfl ?_
  have e50 : (Int.fdiv (wd x 0 : Int) (2 ^ 16)) = (((wd x 0) / 2 ^ 16 : Nat) : Int) := n_shr _ 16
  have e51 : (Int.tmod (((wd x 0) / 2 ^ 16 : Nat) : Int) 65536) = ((((wd x 0) / 2 ^ 16) % 65536 : Nat) : Int) := n_rem _ 65536
  refine GL.eq (M' := [(5, .int .u64 (wd x 0 : Int)), (6, .int .i64 1), (8, wv x), (9, .int .i64 0), (16, .slice A39 1 c40), (21, .int .u64 ((((wd x 0) / 2 ^ 16) % 65536 : Nat) : Int))]) (by rw [e50, e51]) ?_
  clear e50 e51
  obtain ⟨p52, w53, r54, H55⟩ := H43.madeRow (P := Tryd.prog) (Instr.buildSlice 31 1 #[(0, .int .u64 ((((wd x 0) / 2 ^ 16) % 65536 : Nat) : Int))]) (fun b_ => .slice (some ⟨b_, 0, none⟩) 1 1) [.int .u64 ((((wd x 0) / 2 ^ 16) % 65536 : Nat) : Int)] 22 1 1 1 (by kernel_rfl) (by decide) (by decide) rfl
  have H55 : Hp w [] [.blk p3 [.int .u64 (wd x 0 : Int), .int .u64 (wd x 1 : Int), .int .u64 (wd x 2 : Int), .int .u64 (wd x 3 : Int)] 34, .row A39 1 c40 22 1 (dg [((wd x 0) / 2 ^ 0) % 65536]), .row (some ⟨p35, 0, none⟩) 1 1 22 1 (dg [((wd x 0) / 2 ^ 0) % 65536]), .row (some ⟨p52, 0, none⟩) 1 1 22 1 (dg [((wd x 0) / 2 ^ 16) % 65536])] w53 := H55
  refine GL.sem (j := 7) (r54) [5, 6, 8, 9, 16, 22] [(5, .int .u64 (wd x 0 : Int)), (6, .int .i64 1), (8, wv x), (9, .int .i64 0), (16, .slice A39 1 c40), (22, .slice (some ⟨p52, 0, none⟩) 1 1)] (by kernel_rfl) (by kernel_rfl) rfl ?_
  obtain ⟨A56, c57, w58, r59, H60⟩ := H55.append (P := Tryd.prog) (e := 22) (sz := 1) (by_ := 8) (n := 1) (c := c40) (m := 1) (d := 1) (t := 31) (ty := 31) (xs := dg [((wd x 0) / 2 ^ 0) % 65536]) (news := dg [((wd x 0) / 2 ^ 16) % 65536]) 1 rfl (by kernel_rfl) (H55.rdRow 3 rfl) (by simp [dg_length]) (dg_one _) (by omega) (by simp only [maxLen]; omega)
  have H60 : Hp w [] [.blk p3 [.int .u64 (wd x 0 : Int), .int .u64 (wd x 1 : Int), .int .u64 (wd x 2 : Int), .int .u64 (wd x 3 : Int)] 34, .row A56 2 c57 22 1 (dg [((wd x 0) / 2 ^ 0) % 65536, ((wd x 0) / 2 ^ 16) % 65536]), .row (some ⟨p35, 0, none⟩) 1 1 22 1 (dg [((wd x 0) / 2 ^ 0) % 65536]), .row (some ⟨p52, 0, none⟩) 1 1 22 1 (dg [((wd x 0) / 2 ^ 16) % 65536])] w58 := H60
  refine GL.sem (j := 8) (r59) [5, 6, 8, 9, 23] [(5, .int .u64 (wd x 0 : Int)), (6, .int .i64 1), (8, wv x), (9, .int .i64 0), (23, .slice A56 2 c57)] (by kernel_rfl) (by kernel_rfl) rfl ?_
  refine GL.run (j := 9) 1 [3, 5, 6, 8, 9] [(3, .slice A56 2 c57), (5, .int .u64 (wd x 0 : Int)), (6, .int .i64 1), (8, wv x), (9, .int .i64 0)] (by kernel_rfl) rfl ?_
  refine GL.k rfl hK49 (fun _ _ h => h) ?_
  refine G.region ?_
  refine GL.run (j := 3) 3 [3, 5, 6, 8, 9] [(3, .slice A56 2 c57), (5, .int .u64 (wd x 0 : Int)), (6, .int .i64 2), (8, wv x), (9, .int .i64 0)] (by kernel_rfl) rfl ?_
  refine GL.round rfl ?_
  refine G.seqK fun K61 hK62 => ?_
  refine G.seqK fun K63 hK64 => ?_
  refine G.region ?_
  refine GL.run (j := 2) 2 [3, 5, 6, 8, 9, 13] [(3, .slice A56 2 c57), (5, .int .u64 (wd x 0 : Int)), (6, .int .i64 2), (8, wv x), (9, .int .i64 0), (13, .bool true)] (by kernel_rfl) rfl ?_
  refine GL.k rfl hK64 (fun _ _ h => h) ?_
  refine G.yes rfl ?_
  refine G.skipK hK62 (fun _ _ h => h) ?_
  refine G.seqK fun K65 hK66 => ?_
  refine G.block ?_
  refine G.region ?_
  refine GL.run (j := 6) 6 [5, 6, 8, 9, 16, 21] [(5, .int .u64 (wd x 0 : Int)), (6, .int .i64 2), (8, wv x), (9, .int .i64 0), (16, .slice A56 2 c57), (21, .int .u64 (Int.tmod (Int.fdiv (wd x 0 : Int) (2 ^ 32)) 65536))] (by kernel_rfl) rfl ?_
  have e67 : (Int.fdiv (wd x 0 : Int) (2 ^ 32)) = (((wd x 0) / 2 ^ 32 : Nat) : Int) := n_shr _ 32
  have e68 : (Int.tmod (((wd x 0) / 2 ^ 32 : Nat) : Int) 65536) = ((((wd x 0) / 2 ^ 32) % 65536 : Nat) : Int) := n_rem _ 65536
  refine GL.eq (M' := [(5, .int .u64 (wd x 0 : Int)), (6, .int .i64 2), (8, wv x), (9, .int .i64 0), (16, .slice A56 2 c57), (21, .int .u64 ((((wd x 0) / 2 ^ 32) % 65536 : Nat) : Int))]) (by rw [e67, e68]) ?_
  clear e67 e68
  obtain ⟨p69, w70, r71, H72⟩ := H60.madeRow (P := Tryd.prog) (Instr.buildSlice 31 1 #[(0, .int .u64 ((((wd x 0) / 2 ^ 32) % 65536 : Nat) : Int))]) (fun b_ => .slice (some ⟨b_, 0, none⟩) 1 1) [.int .u64 ((((wd x 0) / 2 ^ 32) % 65536 : Nat) : Int)] 22 1 1 1 (by kernel_rfl) (by decide) (by decide) rfl
  have H72 : Hp w [] [.blk p3 [.int .u64 (wd x 0 : Int), .int .u64 (wd x 1 : Int), .int .u64 (wd x 2 : Int), .int .u64 (wd x 3 : Int)] 34, .row A56 2 c57 22 1 (dg [((wd x 0) / 2 ^ 0) % 65536, ((wd x 0) / 2 ^ 16) % 65536]), .row (some ⟨p35, 0, none⟩) 1 1 22 1 (dg [((wd x 0) / 2 ^ 0) % 65536]), .row (some ⟨p52, 0, none⟩) 1 1 22 1 (dg [((wd x 0) / 2 ^ 16) % 65536]), .row (some ⟨p69, 0, none⟩) 1 1 22 1 (dg [((wd x 0) / 2 ^ 32) % 65536])] w70 := H72
  refine GL.sem (j := 7) (r71) [5, 6, 8, 9, 16, 22] [(5, .int .u64 (wd x 0 : Int)), (6, .int .i64 2), (8, wv x), (9, .int .i64 0), (16, .slice A56 2 c57), (22, .slice (some ⟨p69, 0, none⟩) 1 1)] (by kernel_rfl) (by kernel_rfl) rfl ?_
  obtain ⟨A73, c74, w75, r76, H77⟩ := H72.append (P := Tryd.prog) (e := 22) (sz := 1) (by_ := 8) (n := 2) (c := c57) (m := 1) (d := 1) (t := 31) (ty := 31) (xs := dg [((wd x 0) / 2 ^ 0) % 65536, ((wd x 0) / 2 ^ 16) % 65536]) (news := dg [((wd x 0) / 2 ^ 32) % 65536]) 1 rfl (by kernel_rfl) (H72.rdRow 4 rfl) (by simp [dg_length]) (dg_one _) (by omega) (by simp only [maxLen]; omega)
  have H77 : Hp w [] [.blk p3 [.int .u64 (wd x 0 : Int), .int .u64 (wd x 1 : Int), .int .u64 (wd x 2 : Int), .int .u64 (wd x 3 : Int)] 34, .row A73 3 c74 22 1 (dg [((wd x 0) / 2 ^ 0) % 65536, ((wd x 0) / 2 ^ 16) % 65536, ((wd x 0) / 2 ^ 32) % 65536]), .row (some ⟨p35, 0, none⟩) 1 1 22 1 (dg [((wd x 0) / 2 ^ 0) % 65536]), .row (some ⟨p52, 0, none⟩) 1 1 22 1 (dg [((wd x 0) / 2 ^ 16) % 65536]), .row (some ⟨p69, 0, none⟩) 1 1 22 1 (dg [((wd x 0) / 2 ^ 32) % 65536])] w75 := H77
  refine GL.sem (j := 8) (r76) [5, 6, 8, 9, 23] [(5, .int .u64 (wd x 0 : Int)), (6, .int .i64 2), (8, wv x), (9, .int .i64 0), (23, .slice A73 3 c74)] (by kernel_rfl) (by kernel_rfl) rfl ?_
  refine GL.run (j := 9) 1 [3, 5, 6, 8, 9] [(3, .slice A73 3 c74), (5, .int .u64 (wd x 0 : Int)), (6, .int .i64 2), (8, wv x), (9, .int .i64 0)] (by kernel_rfl) rfl ?_
  refine GL.k rfl hK66 (fun _ _ h => h) ?_
  refine G.region ?_
  refine GL.run (j := 3) 3 [3, 5, 6, 8, 9] [(3, .slice A73 3 c74), (5, .int .u64 (wd x 0 : Int)), (6, .int .i64 3), (8, wv x), (9, .int .i64 0)] (by kernel_rfl) rfl ?_
  refine GL.round rfl ?_
  refine G.seqK fun K78 hK79 => ?_
  refine G.seqK fun K80 hK81 => ?_
  refine G.region ?_
  refine GL.run (j := 2) 2 [3, 5, 6, 8, 9, 13] [(3, .slice A73 3 c74), (5, .int .u64 (wd x 0 : Int)), (6, .int .i64 3), (8, wv x), (9, .int .i64 0), (13, .bool true)] (by kernel_rfl) rfl ?_
  refine GL.k rfl hK81 (fun _ _ h => h) ?_
  refine G.yes rfl ?_
  refine G.skipK hK79 (fun _ _ h => h) ?_
  refine G.seqK fun K82 hK83 => ?_
  refine G.block ?_
  refine G.region ?_
  refine GL.run (j := 6) 6 [5, 6, 8, 9, 16, 21] [(5, .int .u64 (wd x 0 : Int)), (6, .int .i64 3), (8, wv x), (9, .int .i64 0), (16, .slice A73 3 c74), (21, .int .u64 (Int.tmod (Int.fdiv (wd x 0 : Int) (2 ^ 48)) 65536))] (by kernel_rfl) rfl ?_
  have e84 : (Int.fdiv (wd x 0 : Int) (2 ^ 48)) = (((wd x 0) / 2 ^ 48 : Nat) : Int) := n_shr _ 48
  have e85 : (Int.tmod (((wd x 0) / 2 ^ 48 : Nat) : Int) 65536) = ((((wd x 0) / 2 ^ 48) % 65536 : Nat) : Int) := n_rem _ 65536
  refine GL.eq (M' := [(5, .int .u64 (wd x 0 : Int)), (6, .int .i64 3), (8, wv x), (9, .int .i64 0), (16, .slice A73 3 c74), (21, .int .u64 ((((wd x 0) / 2 ^ 48) % 65536 : Nat) : Int))]) (by rw [e84, e85]) ?_
  clear e84 e85
  obtain ⟨p86, w87, r88, H89⟩ := H77.madeRow (P := Tryd.prog) (Instr.buildSlice 31 1 #[(0, .int .u64 ((((wd x 0) / 2 ^ 48) % 65536 : Nat) : Int))]) (fun b_ => .slice (some ⟨b_, 0, none⟩) 1 1) [.int .u64 ((((wd x 0) / 2 ^ 48) % 65536 : Nat) : Int)] 22 1 1 1 (by kernel_rfl) (by decide) (by decide) rfl
  have H89 : Hp w [] [.blk p3 [.int .u64 (wd x 0 : Int), .int .u64 (wd x 1 : Int), .int .u64 (wd x 2 : Int), .int .u64 (wd x 3 : Int)] 34, .row A73 3 c74 22 1 (dg [((wd x 0) / 2 ^ 0) % 65536, ((wd x 0) / 2 ^ 16) % 65536, ((wd x 0) / 2 ^ 32) % 65536]), .row (some ⟨p35, 0, none⟩) 1 1 22 1 (dg [((wd x 0) / 2 ^ 0) % 65536]), .row (some ⟨p52, 0, none⟩) 1 1 22 1 (dg [((wd x 0) / 2 ^ 16) % 65536]), .row (some ⟨p69, 0, none⟩) 1 1 22 1 (dg [((wd x 0) / 2 ^ 32) % 65536]), .row (some ⟨p86, 0, none⟩) 1 1 22 1 (dg [((wd x 0) / 2 ^ 48) % 65536])] w87 := H89
  refine GL.sem (j := 7) (r88) [5, 6, 8, 9, 16, 22] [(5, .int .u64 (wd x 0 : Int)), (6, .int .i64 3), (8, wv x), (9, .int .i64 0), (16, .slice A73 3 c74), (22, .slice (some ⟨p86, 0, none⟩) 1 1)] (by kernel_rfl) (by kernel_rfl) rfl ?_
  obtain ⟨A90, c91, w92, r93, H94⟩ := H89.append (P := Tryd.prog) (e := 22) (sz := 1) (by_ := 8) (n := 3) (c := c74) (m := 1) (d := 1) (t := 31) (ty := 31) (xs := dg [((wd x 0) / 2 ^ 0) % 65536, ((wd x 0) / 2 ^ 16) % 65536, ((wd x 0) / 2 ^ 32) % 65536]) (news := dg [((wd x 0) / 2 ^ 48) % 65536]) 1 rfl (by kernel_rfl) (H89.rdRow 5 rfl) (by simp [dg_length]) (dg_one _) (by omega) (by simp only [maxLen]; omega)
  have H94 : Hp w [] [.blk p3 [.int .u64 (wd x 0 : Int), .int .u64 (wd x 1 : Int), .int .u64 (wd x 2 : Int), .int .u64 (wd x 3 : Int)] 34, .row A90 4 c91 22 1 (dg [((wd x 0) / 2 ^ 0) % 65536, ((wd x 0) / 2 ^ 16) % 65536, ((wd x 0) / 2 ^ 32) % 65536, ((wd x 0) / 2 ^ 48) % 65536]), .row (some ⟨p35, 0, none⟩) 1 1 22 1 (dg [((wd x 0) / 2 ^ 0) % 65536]), .row (some ⟨p52, 0, none⟩) 1 1 22 1 (dg [((wd x 0) / 2 ^ 16) % 65536]), .row (some ⟨p69, 0, none⟩) 1 1 22 1 (dg [((wd x 0) / 2 ^ 32) % 65536]), .row (some ⟨p86, 0, none⟩) 1 1 22 1 (dg [((wd x 0) / 2 ^ 48) % 65536])] w92 := H94
  refine GL.sem (j := 8) (r93) [5, 6, 8, 9, 23] [(5, .int .u64 (wd x 0 : Int)), (6, .int .i64 3), (8, wv x), (9, .int .i64 0), (23, .slice A90 4 c91)] (by kernel_rfl) (by kernel_rfl) rfl ?_
  refine GL.run (j := 9) 1 [3, 5, 6, 8, 9] [(3, .slice A90 4 c91), (5, .int .u64 (wd x 0 : Int)), (6, .int .i64 3), (8, wv x), (9, .int .i64 0)] (by kernel_rfl) rfl ?_
  refine GL.k rfl hK83 (fun _ _ h => h) ?_
  refine G.region ?_
  refine GL.run (j := 3) 3 [3, 5, 6, 8, 9] [(3, .slice A90 4 c91), (5, .int .u64 (wd x 0 : Int)), (6, .int .i64 4), (8, wv x), (9, .int .i64 0)] (by kernel_rfl) rfl ?_
  refine GL.round rfl ?_
  refine G.seqK fun K95 hK96 => ?_
  refine G.seqK fun K97 hK98 => ?_
  refine G.region ?_
  refine GL.run (j := 2) 2 [3, 5, 6, 8, 9, 13] [(3, .slice A90 4 c91), (5, .int .u64 (wd x 0 : Int)), (6, .int .i64 4), (8, wv x), (9, .int .i64 0), (13, .bool false)] (by kernel_rfl) rfl ?_
  refine GL.k rfl hK98 (fun _ _ h => h) ?_
  refine G.no rfl ?_
  refine G.exitK hK22 (fun _ _ h => h) ?_
  refine G.region ?_
  refine GL.run (j := 2) 2 [3, 8, 9] [(3, .slice A90 4 c91), (8, wv x), (9, .int .i64 1)] (by kernel_rfl) rfl ?_
  refine GL.round rfl ?_
  refine G.seqK fun K99 hK100 => ?_
  refine G.region ?_
  refine GL.run (j := 1) 1 [3, 8, 9, 10] [(3, .slice A90 4 c91), (8, wv x), (9, .int .i64 1), (10, .bool true)] (by kernel_rfl) rfl ?_
  refine GL.k rfl hK100 (fun _ _ h => h) ?_
  refine G.seqK fun K101 hK102 => ?_
  refine G.yes rfl ?_
  refine G.skipK hK102 (fun _ _ h => h) ?_
  refine G.seqK fun K103 hK104 => ?_
  refine G.block ?_
  refine G.seqK fun K105 hK106 => ?_
  refine G.region ?_
  refine GL.run (j := 2) 2 [3, 5, 8, 9] [(3, .slice A90 4 c91), (5, .int .u64 (wd x 1 : Int)), (8, wv x), (9, .int .i64 1)] (by kernel_rfl) rfl ?_
  refine GL.k rfl hK106 (fun _ _ h => h) ?_
  refine G.seqK fun K107 hK108 => ?_
  refine G.region ?_
  refine GL.run (j := 1) 1 [3, 5, 6, 8, 9] [(3, .slice A90 4 c91), (5, .int .u64 (wd x 1 : Int)), (6, .int .i64 0), (8, wv x), (9, .int .i64 1)] (by kernel_rfl) rfl ?_
  refine GL.k rfl hK108 (fun _ _ h => h) ?_
  refine G.block ?_
  refine G.unroll 4 ?_
  refine G.seqK fun K109 hK110 => ?_
  refine G.seqK fun K111 hK112 => ?_
  refine G.region ?_
  refine GL.run (j := 2) 2 [3, 5, 6, 8, 9, 13] [(3, .slice A90 4 c91), (5, .int .u64 (wd x 1 : Int)), (6, .int .i64 0), (8, wv x), (9, .int .i64 1), (13, .bool true)] (by kernel_rfl) rfl ?_
  refine GL.k rfl hK112 (fun _ _ h => h) ?_
  refine G.yes rfl ?_
  refine G.skipK hK110 (fun _ _ h => h) ?_
  refine G.seqK fun K113 hK114 => ?_
  refine G.block ?_
  refine G.region ?_
  refine GL.run (j := 6) 6 [5, 6, 8, 9, 16, 21] [(5, .int .u64 (wd x 1 : Int)), (6, .int .i64 0), (8, wv x), (9, .int .i64 1), (16, .slice A90 4 c91), (21, .int .u64 (Int.tmod (Int.fdiv (wd x 1 : Int) (2 ^ 0)) 65536))] (by kernel_rfl) rfl ?_
  have e115 : (Int.fdiv (wd x 1 : Int) (2 ^ 0)) = (((wd x 1) / 2 ^ 0 : Nat) : Int) := n_shr _ 0
  have e116 : (Int.tmod (((wd x 1) / 2 ^ 0 : Nat) : Int) 65536) = ((((wd x 1) / 2 ^ 0) % 65536 : Nat) : Int) := n_rem _ 65536
  refine GL.eq (M' := [(5, .int .u64 (wd x 1 : Int)), (6, .int .i64 0), (8, wv x), (9, .int .i64 1), (16, .slice A90 4 c91), (21, .int .u64 ((((wd x 1) / 2 ^ 0) % 65536 : Nat) : Int))]) (by rw [e115, e116]) ?_
  clear e115 e116
  obtain ⟨p117, w118, r119, H120⟩ := H94.madeRow (P := Tryd.prog) (Instr.buildSlice 31 1 #[(0, .int .u64 ((((wd x 1) / 2 ^ 0) % 65536 : Nat) : Int))]) (fun b_ => .slice (some ⟨b_, 0, none⟩) 1 1) [.int .u64 ((((wd x 1) / 2 ^ 0) % 65536 : Nat) : Int)] 22 1 1 1 (by kernel_rfl) (by decide) (by decide) rfl
  have H120 : Hp w [] [.blk p3 [.int .u64 (wd x 0 : Int), .int .u64 (wd x 1 : Int), .int .u64 (wd x 2 : Int), .int .u64 (wd x 3 : Int)] 34, .row A90 4 c91 22 1 (dg [((wd x 0) / 2 ^ 0) % 65536, ((wd x 0) / 2 ^ 16) % 65536, ((wd x 0) / 2 ^ 32) % 65536, ((wd x 0) / 2 ^ 48) % 65536]), .row (some ⟨p35, 0, none⟩) 1 1 22 1 (dg [((wd x 0) / 2 ^ 0) % 65536]), .row (some ⟨p52, 0, none⟩) 1 1 22 1 (dg [((wd x 0) / 2 ^ 16) % 65536]), .row (some ⟨p69, 0, none⟩) 1 1 22 1 (dg [((wd x 0) / 2 ^ 32) % 65536]), .row (some ⟨p86, 0, none⟩) 1 1 22 1 (dg [((wd x 0) / 2 ^ 48) % 65536]), .row (some ⟨p117, 0, none⟩) 1 1 22 1 (dg [((wd x 1) / 2 ^ 0) % 65536])] w118 := H120
  refine GL.sem (j := 7) (r119) [5, 6, 8, 9, 16, 22] [(5, .int .u64 (wd x 1 : Int)), (6, .int .i64 0), (8, wv x), (9, .int .i64 1), (16, .slice A90 4 c91), (22, .slice (some ⟨p117, 0, none⟩) 1 1)] (by kernel_rfl) (by kernel_rfl) rfl ?_
  obtain ⟨A121, c122, w123, r124, H125⟩ := H120.append (P := Tryd.prog) (e := 22) (sz := 1) (by_ := 8) (n := 4) (c := c91) (m := 1) (d := 1) (t := 31) (ty := 31) (xs := dg [((wd x 0) / 2 ^ 0) % 65536, ((wd x 0) / 2 ^ 16) % 65536, ((wd x 0) / 2 ^ 32) % 65536, ((wd x 0) / 2 ^ 48) % 65536]) (news := dg [((wd x 1) / 2 ^ 0) % 65536]) 1 rfl (by kernel_rfl) (H120.rdRow 6 rfl) (by simp [dg_length]) (dg_one _) (by omega) (by simp only [maxLen]; omega)
  have H125 : Hp w [] [.blk p3 [.int .u64 (wd x 0 : Int), .int .u64 (wd x 1 : Int), .int .u64 (wd x 2 : Int), .int .u64 (wd x 3 : Int)] 34, .row A121 5 c122 22 1 (dg [((wd x 0) / 2 ^ 0) % 65536, ((wd x 0) / 2 ^ 16) % 65536, ((wd x 0) / 2 ^ 32) % 65536, ((wd x 0) / 2 ^ 48) % 65536, ((wd x 1) / 2 ^ 0) % 65536]), .row (some ⟨p35, 0, none⟩) 1 1 22 1 (dg [((wd x 0) / 2 ^ 0) % 65536]), .row (some ⟨p52, 0, none⟩) 1 1 22 1 (dg [((wd x 0) / 2 ^ 16) % 65536]), .row (some ⟨p69, 0, none⟩) 1 1 22 1 (dg [((wd x 0) / 2 ^ 32) % 65536]), .row (some ⟨p86, 0, none⟩) 1 1 22 1 (dg [((wd x 0) / 2 ^ 48) % 65536]), .row (some ⟨p117, 0, none⟩) 1 1 22 1 (dg [((wd x 1) / 2 ^ 0) % 65536])] w123 := H125
  refine GL.sem (j := 8) (r124) [5, 6, 8, 9, 23] [(5, .int .u64 (wd x 1 : Int)), (6, .int .i64 0), (8, wv x), (9, .int .i64 1), (23, .slice A121 5 c122)] (by kernel_rfl) (by kernel_rfl) rfl ?_
  refine GL.run (j := 9) 1 [3, 5, 6, 8, 9] [(3, .slice A121 5 c122), (5, .int .u64 (wd x 1 : Int)), (6, .int .i64 0), (8, wv x), (9, .int .i64 1)] (by kernel_rfl) rfl ?_
  refine GL.k rfl hK114 (fun _ _ h => h) ?_
  refine G.region ?_
  refine GL.run (j := 3) 3 [3, 5, 6, 8, 9] [(3, .slice A121 5 c122), (5, .int .u64 (wd x 1 : Int)), (6, .int .i64 1), (8, wv x), (9, .int .i64 1)] (by kernel_rfl) rfl ?_
  refine GL.round rfl ?_
  refine G.seqK fun K126 hK127 => ?_
  refine G.seqK fun K128 hK129 => ?_
  refine G.region ?_
  refine GL.run (j := 2) 2 [3, 5, 6, 8, 9, 13] [(3, .slice A121 5 c122), (5, .int .u64 (wd x 1 : Int)), (6, .int .i64 1), (8, wv x), (9, .int .i64 1), (13, .bool true)] (by kernel_rfl) rfl ?_
  refine GL.k rfl hK129 (fun _ _ h => h) ?_
  refine G.yes rfl ?_
  refine G.skipK hK127 (fun _ _ h => h) ?_
  refine G.seqK fun K130 hK131 => ?_
  refine G.block ?_
  refine G.region ?_
  refine GL.run (j := 6) 6 [5, 6, 8, 9, 16, 21] [(5, .int .u64 (wd x 1 : Int)), (6, .int .i64 1), (8, wv x), (9, .int .i64 1), (16, .slice A121 5 c122), (21, .int .u64 (Int.tmod (Int.fdiv (wd x 1 : Int) (2 ^ 16)) 65536))] (by kernel_rfl) rfl ?_
  have e132 : (Int.fdiv (wd x 1 : Int) (2 ^ 16)) = (((wd x 1) / 2 ^ 16 : Nat) : Int) := n_shr _ 16
  have e133 : (Int.tmod (((wd x 1) / 2 ^ 16 : Nat) : Int) 65536) = ((((wd x 1) / 2 ^ 16) % 65536 : Nat) : Int) := n_rem _ 65536
  refine GL.eq (M' := [(5, .int .u64 (wd x 1 : Int)), (6, .int .i64 1), (8, wv x), (9, .int .i64 1), (16, .slice A121 5 c122), (21, .int .u64 ((((wd x 1) / 2 ^ 16) % 65536 : Nat) : Int))]) (by rw [e132, e133]) ?_
  clear e132 e133
  obtain ⟨p134, w135, r136, H137⟩ := H125.madeRow (P := Tryd.prog) (Instr.buildSlice 31 1 #[(0, .int .u64 ((((wd x 1) / 2 ^ 16) % 65536 : Nat) : Int))]) (fun b_ => .slice (some ⟨b_, 0, none⟩) 1 1) [.int .u64 ((((wd x 1) / 2 ^ 16) % 65536 : Nat) : Int)] 22 1 1 1 (by kernel_rfl) (by decide) (by decide) rfl
  have H137 : Hp w [] [.blk p3 [.int .u64 (wd x 0 : Int), .int .u64 (wd x 1 : Int), .int .u64 (wd x 2 : Int), .int .u64 (wd x 3 : Int)] 34, .row A121 5 c122 22 1 (dg [((wd x 0) / 2 ^ 0) % 65536, ((wd x 0) / 2 ^ 16) % 65536, ((wd x 0) / 2 ^ 32) % 65536, ((wd x 0) / 2 ^ 48) % 65536, ((wd x 1) / 2 ^ 0) % 65536]), .row (some ⟨p35, 0, none⟩) 1 1 22 1 (dg [((wd x 0) / 2 ^ 0) % 65536]), .row (some ⟨p52, 0, none⟩) 1 1 22 1 (dg [((wd x 0) / 2 ^ 16) % 65536]), .row (some ⟨p69, 0, none⟩) 1 1 22 1 (dg [((wd x 0) / 2 ^ 32) % 65536]), .row (some ⟨p86, 0, none⟩) 1 1 22 1 (dg [((wd x 0) / 2 ^ 48) % 65536]), .row (some ⟨p117, 0, none⟩) 1 1 22 1 (dg [((wd x 1) / 2 ^ 0) % 65536]), .row (some ⟨p134, 0, none⟩) 1 1 22 1 (dg [((wd x 1) / 2 ^ 16) % 65536])] w135 := H137
  refine GL.sem (j := 7) (r136) [5, 6, 8, 9, 16, 22] [(5, .int .u64 (wd x 1 : Int)), (6, .int .i64 1), (8, wv x), (9, .int .i64 1), (16, .slice A121 5 c122), (22, .slice (some ⟨p134, 0, none⟩) 1 1)] (by kernel_rfl) (by kernel_rfl) rfl ?_
  obtain ⟨A138, c139, w140, r141, H142⟩ := H137.append (P := Tryd.prog) (e := 22) (sz := 1) (by_ := 8) (n := 5) (c := c122) (m := 1) (d := 1) (t := 31) (ty := 31) (xs := dg [((wd x 0) / 2 ^ 0) % 65536, ((wd x 0) / 2 ^ 16) % 65536, ((wd x 0) / 2 ^ 32) % 65536, ((wd x 0) / 2 ^ 48) % 65536, ((wd x 1) / 2 ^ 0) % 65536]) (news := dg [((wd x 1) / 2 ^ 16) % 65536]) 1 rfl (by kernel_rfl) (H137.rdRow 7 rfl) (by simp [dg_length]) (dg_one _) (by omega) (by simp only [maxLen]; omega)
  have H142 : Hp w [] [.blk p3 [.int .u64 (wd x 0 : Int), .int .u64 (wd x 1 : Int), .int .u64 (wd x 2 : Int), .int .u64 (wd x 3 : Int)] 34, .row A138 6 c139 22 1 (dg [((wd x 0) / 2 ^ 0) % 65536, ((wd x 0) / 2 ^ 16) % 65536, ((wd x 0) / 2 ^ 32) % 65536, ((wd x 0) / 2 ^ 48) % 65536, ((wd x 1) / 2 ^ 0) % 65536, ((wd x 1) / 2 ^ 16) % 65536]), .row (some ⟨p35, 0, none⟩) 1 1 22 1 (dg [((wd x 0) / 2 ^ 0) % 65536]), .row (some ⟨p52, 0, none⟩) 1 1 22 1 (dg [((wd x 0) / 2 ^ 16) % 65536]), .row (some ⟨p69, 0, none⟩) 1 1 22 1 (dg [((wd x 0) / 2 ^ 32) % 65536]), .row (some ⟨p86, 0, none⟩) 1 1 22 1 (dg [((wd x 0) / 2 ^ 48) % 65536]), .row (some ⟨p117, 0, none⟩) 1 1 22 1 (dg [((wd x 1) / 2 ^ 0) % 65536]), .row (some ⟨p134, 0, none⟩) 1 1 22 1 (dg [((wd x 1) / 2 ^ 16) % 65536])] w140 := H142
  refine GL.sem (j := 8) (r141) [5, 6, 8, 9, 23] [(5, .int .u64 (wd x 1 : Int)), (6, .int .i64 1), (8, wv x), (9, .int .i64 1), (23, .slice A138 6 c139)] (by kernel_rfl) (by kernel_rfl) rfl ?_
  refine GL.run (j := 9) 1 [3, 5, 6, 8, 9] [(3, .slice A138 6 c139), (5, .int .u64 (wd x 1 : Int)), (6, .int .i64 1), (8, wv x), (9, .int .i64 1)] (by kernel_rfl) rfl ?_
  refine GL.k rfl hK131 (fun _ _ h => h) ?_
  refine G.region ?_
  refine GL.run (j := 3) 3 [3, 5, 6, 8, 9] [(3, .slice A138 6 c139), (5, .int .u64 (wd x 1 : Int)), (6, .int .i64 2), (8, wv x), (9, .int .i64 1)] (by kernel_rfl) rfl ?_
  refine GL.round rfl ?_
  refine G.seqK fun K143 hK144 => ?_
  refine G.seqK fun K145 hK146 => ?_
  refine G.region ?_
  refine GL.run (j := 2) 2 [3, 5, 6, 8, 9, 13] [(3, .slice A138 6 c139), (5, .int .u64 (wd x 1 : Int)), (6, .int .i64 2), (8, wv x), (9, .int .i64 1), (13, .bool true)] (by kernel_rfl) rfl ?_
  refine GL.k rfl hK146 (fun _ _ h => h) ?_
  refine G.yes rfl ?_
  refine G.skipK hK144 (fun _ _ h => h) ?_
  refine G.seqK fun K147 hK148 => ?_
  refine G.block ?_
  refine G.region ?_
  refine GL.run (j := 6) 6 [5, 6, 8, 9, 16, 21] [(5, .int .u64 (wd x 1 : Int)), (6, .int .i64 2), (8, wv x), (9, .int .i64 1), (16, .slice A138 6 c139), (21, .int .u64 (Int.tmod (Int.fdiv (wd x 1 : Int) (2 ^ 32)) 65536))] (by kernel_rfl) rfl ?_
  have e149 : (Int.fdiv (wd x 1 : Int) (2 ^ 32)) = (((wd x 1) / 2 ^ 32 : Nat) : Int) := n_shr _ 32
  have e150 : (Int.tmod (((wd x 1) / 2 ^ 32 : Nat) : Int) 65536) = ((((wd x 1) / 2 ^ 32) % 65536 : Nat) : Int) := n_rem _ 65536
  refine GL.eq (M' := [(5, .int .u64 (wd x 1 : Int)), (6, .int .i64 2), (8, wv x), (9, .int .i64 1), (16, .slice A138 6 c139), (21, .int .u64 ((((wd x 1) / 2 ^ 32) % 65536 : Nat) : Int))]) (by rw [e149, e150]) ?_
  clear e149 e150
  obtain ⟨p151, w152, r153, H154⟩ := H142.madeRow (P := Tryd.prog) (Instr.buildSlice 31 1 #[(0, .int .u64 ((((wd x 1) / 2 ^ 32) % 65536 : Nat) : Int))]) (fun b_ => .slice (some ⟨b_, 0, none⟩) 1 1) [.int .u64 ((((wd x 1) / 2 ^ 32) % 65536 : Nat) : Int)] 22 1 1 1 (by kernel_rfl) (by decide) (by decide) rfl
  have H154 : Hp w [] [.blk p3 [.int .u64 (wd x 0 : Int), .int .u64 (wd x 1 : Int), .int .u64 (wd x 2 : Int), .int .u64 (wd x 3 : Int)] 34, .row A138 6 c139 22 1 (dg [((wd x 0) / 2 ^ 0) % 65536, ((wd x 0) / 2 ^ 16) % 65536, ((wd x 0) / 2 ^ 32) % 65536, ((wd x 0) / 2 ^ 48) % 65536, ((wd x 1) / 2 ^ 0) % 65536, ((wd x 1) / 2 ^ 16) % 65536]), .row (some ⟨p35, 0, none⟩) 1 1 22 1 (dg [((wd x 0) / 2 ^ 0) % 65536]), .row (some ⟨p52, 0, none⟩) 1 1 22 1 (dg [((wd x 0) / 2 ^ 16) % 65536]), .row (some ⟨p69, 0, none⟩) 1 1 22 1 (dg [((wd x 0) / 2 ^ 32) % 65536]), .row (some ⟨p86, 0, none⟩) 1 1 22 1 (dg [((wd x 0) / 2 ^ 48) % 65536]), .row (some ⟨p117, 0, none⟩) 1 1 22 1 (dg [((wd x 1) / 2 ^ 0) % 65536]), .row (some ⟨p134, 0, none⟩) 1 1 22 1 (dg [((wd x 1) / 2 ^ 16) % 65536]), .row (some ⟨p151, 0, none⟩) 1 1 22 1 (dg [((wd x 1) / 2 ^ 32) % 65536])] w152 := H154
  refine GL.sem (j := 7) (r153) [5, 6, 8, 9, 16, 22] [(5, .int .u64 (wd x 1 : Int)), (6, .int .i64 2), (8, wv x), (9, .int .i64 1), (16, .slice A138 6 c139), (22, .slice (some ⟨p151, 0, none⟩) 1 1)] (by kernel_rfl) (by kernel_rfl) rfl ?_
  obtain ⟨A155, c156, w157, r158, H159⟩ := H154.append (P := Tryd.prog) (e := 22) (sz := 1) (by_ := 8) (n := 6) (c := c139) (m := 1) (d := 1) (t := 31) (ty := 31) (xs := dg [((wd x 0) / 2 ^ 0) % 65536, ((wd x 0) / 2 ^ 16) % 65536, ((wd x 0) / 2 ^ 32) % 65536, ((wd x 0) / 2 ^ 48) % 65536, ((wd x 1) / 2 ^ 0) % 65536, ((wd x 1) / 2 ^ 16) % 65536]) (news := dg [((wd x 1) / 2 ^ 32) % 65536]) 1 rfl (by kernel_rfl) (H154.rdRow 8 rfl) (by simp [dg_length]) (dg_one _) (by omega) (by simp only [maxLen]; omega)
  have H159 : Hp w [] [.blk p3 [.int .u64 (wd x 0 : Int), .int .u64 (wd x 1 : Int), .int .u64 (wd x 2 : Int), .int .u64 (wd x 3 : Int)] 34, .row A155 7 c156 22 1 (dg [((wd x 0) / 2 ^ 0) % 65536, ((wd x 0) / 2 ^ 16) % 65536, ((wd x 0) / 2 ^ 32) % 65536, ((wd x 0) / 2 ^ 48) % 65536, ((wd x 1) / 2 ^ 0) % 65536, ((wd x 1) / 2 ^ 16) % 65536, ((wd x 1) / 2 ^ 32) % 65536]), .row (some ⟨p35, 0, none⟩) 1 1 22 1 (dg [((wd x 0) / 2 ^ 0) % 65536]), .row (some ⟨p52, 0, none⟩) 1 1 22 1 (dg [((wd x 0) / 2 ^ 16) % 65536]), .row (some ⟨p69, 0, none⟩) 1 1 22 1 (dg [((wd x 0) / 2 ^ 32) % 65536]), .row (some ⟨p86, 0, none⟩) 1 1 22 1 (dg [((wd x 0) / 2 ^ 48) % 65536]), .row (some ⟨p117, 0, none⟩) 1 1 22 1 (dg [((wd x 1) / 2 ^ 0) % 65536]), .row (some ⟨p134, 0, none⟩) 1 1 22 1 (dg [((wd x 1) / 2 ^ 16) % 65536]), .row (some ⟨p151, 0, none⟩) 1 1 22 1 (dg [((wd x 1) / 2 ^ 32) % 65536])] w157 := H159
  refine GL.sem (j := 8) (r158) [5, 6, 8, 9, 23] [(5, .int .u64 (wd x 1 : Int)), (6, .int .i64 2), (8, wv x), (9, .int .i64 1), (23, .slice A155 7 c156)] (by kernel_rfl) (by kernel_rfl) rfl ?_
  refine GL.run (j := 9) 1 [3, 5, 6, 8, 9] [(3, .slice A155 7 c156), (5, .int .u64 (wd x 1 : Int)), (6, .int .i64 2), (8, wv x), (9, .int .i64 1)] (by kernel_rfl) rfl ?_
  refine GL.k rfl hK148 (fun _ _ h => h) ?_
  refine G.region ?_
  refine GL.run (j := 3) 3 [3, 5, 6, 8, 9] [(3, .slice A155 7 c156), (5, .int .u64 (wd x 1 : Int)), (6, .int .i64 3), (8, wv x), (9, .int .i64 1)] (by kernel_rfl) rfl ?_
  refine GL.round rfl ?_
  refine G.seqK fun K160 hK161 => ?_
  refine G.seqK fun K162 hK163 => ?_
  refine G.region ?_
  refine GL.run (j := 2) 2 [3, 5, 6, 8, 9, 13] [(3, .slice A155 7 c156), (5, .int .u64 (wd x 1 : Int)), (6, .int .i64 3), (8, wv x), (9, .int .i64 1), (13, .bool true)] (by kernel_rfl) rfl ?_
  refine GL.k rfl hK163 (fun _ _ h => h) ?_
  refine G.yes rfl ?_
  refine G.skipK hK161 (fun _ _ h => h) ?_
  refine G.seqK fun K164 hK165 => ?_
  refine G.block ?_
  refine G.region ?_
  refine GL.run (j := 6) 6 [5, 6, 8, 9, 16, 21] [(5, .int .u64 (wd x 1 : Int)), (6, .int .i64 3), (8, wv x), (9, .int .i64 1), (16, .slice A155 7 c156), (21, .int .u64 (Int.tmod (Int.fdiv (wd x 1 : Int) (2 ^ 48)) 65536))] (by kernel_rfl) rfl ?_
  have e166 : (Int.fdiv (wd x 1 : Int) (2 ^ 48)) = (((wd x 1) / 2 ^ 48 : Nat) : Int) := n_shr _ 48
  have e167 : (Int.tmod (((wd x 1) / 2 ^ 48 : Nat) : Int) 65536) = ((((wd x 1) / 2 ^ 48) % 65536 : Nat) : Int) := n_rem _ 65536
  refine GL.eq (M' := [(5, .int .u64 (wd x 1 : Int)), (6, .int .i64 3), (8, wv x), (9, .int .i64 1), (16, .slice A155 7 c156), (21, .int .u64 ((((wd x 1) / 2 ^ 48) % 65536 : Nat) : Int))]) (by rw [e166, e167]) ?_
  clear e166 e167
  obtain ⟨p168, w169, r170, H171⟩ := H159.madeRow (P := Tryd.prog) (Instr.buildSlice 31 1 #[(0, .int .u64 ((((wd x 1) / 2 ^ 48) % 65536 : Nat) : Int))]) (fun b_ => .slice (some ⟨b_, 0, none⟩) 1 1) [.int .u64 ((((wd x 1) / 2 ^ 48) % 65536 : Nat) : Int)] 22 1 1 1 (by kernel_rfl) (by decide) (by decide) rfl
  have H171 : Hp w [] [.blk p3 [.int .u64 (wd x 0 : Int), .int .u64 (wd x 1 : Int), .int .u64 (wd x 2 : Int), .int .u64 (wd x 3 : Int)] 34, .row A155 7 c156 22 1 (dg [((wd x 0) / 2 ^ 0) % 65536, ((wd x 0) / 2 ^ 16) % 65536, ((wd x 0) / 2 ^ 32) % 65536, ((wd x 0) / 2 ^ 48) % 65536, ((wd x 1) / 2 ^ 0) % 65536, ((wd x 1) / 2 ^ 16) % 65536, ((wd x 1) / 2 ^ 32) % 65536]), .row (some ⟨p35, 0, none⟩) 1 1 22 1 (dg [((wd x 0) / 2 ^ 0) % 65536]), .row (some ⟨p52, 0, none⟩) 1 1 22 1 (dg [((wd x 0) / 2 ^ 16) % 65536]), .row (some ⟨p69, 0, none⟩) 1 1 22 1 (dg [((wd x 0) / 2 ^ 32) % 65536]), .row (some ⟨p86, 0, none⟩) 1 1 22 1 (dg [((wd x 0) / 2 ^ 48) % 65536]), .row (some ⟨p117, 0, none⟩) 1 1 22 1 (dg [((wd x 1) / 2 ^ 0) % 65536]), .row (some ⟨p134, 0, none⟩) 1 1 22 1 (dg [((wd x 1) / 2 ^ 16) % 65536]), .row (some ⟨p151, 0, none⟩) 1 1 22 1 (dg [((wd x 1) / 2 ^ 32) % 65536]), .row (some ⟨p168, 0, none⟩) 1 1 22 1 (dg [((wd x 1) / 2 ^ 48) % 65536])] w169 := H171
  refine GL.sem (j := 7) (r170) [5, 6, 8, 9, 16, 22] [(5, .int .u64 (wd x 1 : Int)), (6, .int .i64 3), (8, wv x), (9, .int .i64 1), (16, .slice A155 7 c156), (22, .slice (some ⟨p168, 0, none⟩) 1 1)] (by kernel_rfl) (by kernel_rfl) rfl ?_
  obtain ⟨A172, c173, w174, r175, H176⟩ := H171.append (P := Tryd.prog) (e := 22) (sz := 1) (by_ := 8) (n := 7) (c := c156) (m := 1) (d := 1) (t := 31) (ty := 31) (xs := dg [((wd x 0) / 2 ^ 0) % 65536, ((wd x 0) / 2 ^ 16) % 65536, ((wd x 0) / 2 ^ 32) % 65536, ((wd x 0) / 2 ^ 48) % 65536, ((wd x 1) / 2 ^ 0) % 65536, ((wd x 1) / 2 ^ 16) % 65536, ((wd x 1) / 2 ^ 32) % 65536]) (news := dg [((wd x 1) / 2 ^ 48) % 65536]) 1 rfl (by kernel_rfl) (H171.rdRow 9 rfl) (by simp [dg_length]) (dg_one _) (by omega) (by simp only [maxLen]; omega)
  have H176 : Hp w [] [.blk p3 [.int .u64 (wd x 0 : Int), .int .u64 (wd x 1 : Int), .int .u64 (wd x 2 : Int), .int .u64 (wd x 3 : Int)] 34, .row A172 8 c173 22 1 (dg [((wd x 0) / 2 ^ 0) % 65536, ((wd x 0) / 2 ^ 16) % 65536, ((wd x 0) / 2 ^ 32) % 65536, ((wd x 0) / 2 ^ 48) % 65536, ((wd x 1) / 2 ^ 0) % 65536, ((wd x 1) / 2 ^ 16) % 65536, ((wd x 1) / 2 ^ 32) % 65536, ((wd x 1) / 2 ^ 48) % 65536]), .row (some ⟨p35, 0, none⟩) 1 1 22 1 (dg [((wd x 0) / 2 ^ 0) % 65536]), .row (some ⟨p52, 0, none⟩) 1 1 22 1 (dg [((wd x 0) / 2 ^ 16) % 65536]), .row (some ⟨p69, 0, none⟩) 1 1 22 1 (dg [((wd x 0) / 2 ^ 32) % 65536]), .row (some ⟨p86, 0, none⟩) 1 1 22 1 (dg [((wd x 0) / 2 ^ 48) % 65536]), .row (some ⟨p117, 0, none⟩) 1 1 22 1 (dg [((wd x 1) / 2 ^ 0) % 65536]), .row (some ⟨p134, 0, none⟩) 1 1 22 1 (dg [((wd x 1) / 2 ^ 16) % 65536]), .row (some ⟨p151, 0, none⟩) 1 1 22 1 (dg [((wd x 1) / 2 ^ 32) % 65536]), .row (some ⟨p168, 0, none⟩) 1 1 22 1 (dg [((wd x 1) / 2 ^ 48) % 65536])] w174 := H176
  refine GL.sem (j := 8) (r175) [5, 6, 8, 9, 23] [(5, .int .u64 (wd x 1 : Int)), (6, .int .i64 3), (8, wv x), (9, .int .i64 1), (23, .slice A172 8 c173)] (by kernel_rfl) (by kernel_rfl) rfl ?_
  refine GL.run (j := 9) 1 [3, 5, 6, 8, 9] [(3, .slice A172 8 c173), (5, .int .u64 (wd x 1 : Int)), (6, .int .i64 3), (8, wv x), (9, .int .i64 1)] (by kernel_rfl) rfl ?_
  refine GL.k rfl hK165 (fun _ _ h => h) ?_
  refine G.region ?_
  refine GL.run (j := 3) 3 [3, 5, 6, 8, 9] [(3, .slice A172 8 c173), (5, .int .u64 (wd x 1 : Int)), (6, .int .i64 4), (8, wv x), (9, .int .i64 1)] (by kernel_rfl) rfl ?_
  refine GL.round rfl ?_
  refine G.seqK fun K177 hK178 => ?_
  refine G.seqK fun K179 hK180 => ?_
  refine G.region ?_
  refine GL.run (j := 2) 2 [3, 5, 6, 8, 9, 13] [(3, .slice A172 8 c173), (5, .int .u64 (wd x 1 : Int)), (6, .int .i64 4), (8, wv x), (9, .int .i64 1), (13, .bool false)] (by kernel_rfl) rfl ?_
  refine GL.k rfl hK180 (fun _ _ h => h) ?_
  refine G.no rfl ?_
  refine G.exitK hK104 (fun _ _ h => h) ?_
  refine G.region ?_
  refine GL.run (j := 2) 2 [3, 8, 9] [(3, .slice A172 8 c173), (8, wv x), (9, .int .i64 2)] (by kernel_rfl) rfl ?_
  refine GL.round rfl ?_
  refine G.seqK fun K181 hK182 => ?_
  refine G.region ?_
  refine GL.run (j := 1) 1 [3, 8, 9, 10] [(3, .slice A172 8 c173), (8, wv x), (9, .int .i64 2), (10, .bool true)] (by kernel_rfl) rfl ?_
  refine GL.k rfl hK182 (fun _ _ h => h) ?_
  refine G.seqK fun K183 hK184 => ?_
  refine G.yes rfl ?_
  refine G.skipK hK184 (fun _ _ h => h) ?_
  refine G.seqK fun K185 hK186 => ?_
  refine G.block ?_
  refine G.seqK fun K187 hK188 => ?_
  refine G.region ?_
  refine GL.run (j := 2) 2 [3, 5, 8, 9] [(3, .slice A172 8 c173), (5, .int .u64 (wd x 2 : Int)), (8, wv x), (9, .int .i64 2)] (by kernel_rfl) rfl ?_
  refine GL.k rfl hK188 (fun _ _ h => h) ?_
  refine G.seqK fun K189 hK190 => ?_
  refine G.region ?_
  refine GL.run (j := 1) 1 [3, 5, 6, 8, 9] [(3, .slice A172 8 c173), (5, .int .u64 (wd x 2 : Int)), (6, .int .i64 0), (8, wv x), (9, .int .i64 2)] (by kernel_rfl) rfl ?_
  refine GL.k rfl hK190 (fun _ _ h => h) ?_
  refine G.block ?_
  refine G.unroll 4 ?_
  refine G.seqK fun K191 hK192 => ?_
  refine G.seqK fun K193 hK194 => ?_
  refine G.region ?_
  refine GL.run (j := 2) 2 [3, 5, 6, 8, 9, 13] [(3, .slice A172 8 c173), (5, .int .u64 (wd x 2 : Int)), (6, .int .i64 0), (8, wv x), (9, .int .i64 2), (13, .bool true)] (by kernel_rfl) rfl ?_
  refine GL.k rfl hK194 (fun _ _ h => h) ?_
  refine G.yes rfl ?_
  refine G.skipK hK192 (fun _ _ h => h) ?_
  refine G.seqK fun K195 hK196 => ?_
  refine G.block ?_
  refine G.region ?_
  refine GL.run (j := 6) 6 [5, 6, 8, 9, 16, 21] [(5, .int .u64 (wd x 2 : Int)), (6, .int .i64 0), (8, wv x), (9, .int .i64 2), (16, .slice A172 8 c173), (21, .int .u64 (Int.tmod (Int.fdiv (wd x 2 : Int) (2 ^ 0)) 65536))] (by kernel_rfl) rfl ?_
  have e197 : (Int.fdiv (wd x 2 : Int) (2 ^ 0)) = (((wd x 2) / 2 ^ 0 : Nat) : Int) := n_shr _ 0
  have e198 : (Int.tmod (((wd x 2) / 2 ^ 0 : Nat) : Int) 65536) = ((((wd x 2) / 2 ^ 0) % 65536 : Nat) : Int) := n_rem _ 65536
  refine GL.eq (M' := [(5, .int .u64 (wd x 2 : Int)), (6, .int .i64 0), (8, wv x), (9, .int .i64 2), (16, .slice A172 8 c173), (21, .int .u64 ((((wd x 2) / 2 ^ 0) % 65536 : Nat) : Int))]) (by rw [e197, e198]) ?_
  clear e197 e198
  obtain ⟨p199, w200, r201, H202⟩ := H176.madeRow (P := Tryd.prog) (Instr.buildSlice 31 1 #[(0, .int .u64 ((((wd x 2) / 2 ^ 0) % 65536 : Nat) : Int))]) (fun b_ => .slice (some ⟨b_, 0, none⟩) 1 1) [.int .u64 ((((wd x 2) / 2 ^ 0) % 65536 : Nat) : Int)] 22 1 1 1 (by kernel_rfl) (by decide) (by decide) rfl
  have H202 : Hp w [] [.blk p3 [.int .u64 (wd x 0 : Int), .int .u64 (wd x 1 : Int), .int .u64 (wd x 2 : Int), .int .u64 (wd x 3 : Int)] 34, .row A172 8 c173 22 1 (dg [((wd x 0) / 2 ^ 0) % 65536, ((wd x 0) / 2 ^ 16) % 65536, ((wd x 0) / 2 ^ 32) % 65536, ((wd x 0) / 2 ^ 48) % 65536, ((wd x 1) / 2 ^ 0) % 65536, ((wd x 1) / 2 ^ 16) % 65536, ((wd x 1) / 2 ^ 32) % 65536, ((wd x 1) / 2 ^ 48) % 65536]), .row (some ⟨p35, 0, none⟩) 1 1 22 1 (dg [((wd x 0) / 2 ^ 0) % 65536]), .row (some ⟨p52, 0, none⟩) 1 1 22 1 (dg [((wd x 0) / 2 ^ 16) % 65536]), .row (some ⟨p69, 0, none⟩) 1 1 22 1 (dg [((wd x 0) / 2 ^ 32) % 65536]), .row (some ⟨p86, 0, none⟩) 1 1 22 1 (dg [((wd x 0) / 2 ^ 48) % 65536]), .row (some ⟨p117, 0, none⟩) 1 1 22 1 (dg [((wd x 1) / 2 ^ 0) % 65536]), .row (some ⟨p134, 0, none⟩) 1 1 22 1 (dg [((wd x 1) / 2 ^ 16) % 65536]), .row (some ⟨p151, 0, none⟩) 1 1 22 1 (dg [((wd x 1) / 2 ^ 32) % 65536]), .row (some ⟨p168, 0, none⟩) 1 1 22 1 (dg [((wd x 1) / 2 ^ 48) % 65536]), .row (some ⟨p199, 0, none⟩) 1 1 22 1 (dg [((wd x 2) / 2 ^ 0) % 65536])] w200 := H202
  refine GL.sem (j := 7) (r201) [5, 6, 8, 9, 16, 22] [(5, .int .u64 (wd x 2 : Int)), (6, .int .i64 0), (8, wv x), (9, .int .i64 2), (16, .slice A172 8 c173), (22, .slice (some ⟨p199, 0, none⟩) 1 1)] (by kernel_rfl) (by kernel_rfl) rfl ?_
  obtain ⟨A203, c204, w205, r206, H207⟩ := H202.append (P := Tryd.prog) (e := 22) (sz := 1) (by_ := 8) (n := 8) (c := c173) (m := 1) (d := 1) (t := 31) (ty := 31) (xs := dg [((wd x 0) / 2 ^ 0) % 65536, ((wd x 0) / 2 ^ 16) % 65536, ((wd x 0) / 2 ^ 32) % 65536, ((wd x 0) / 2 ^ 48) % 65536, ((wd x 1) / 2 ^ 0) % 65536, ((wd x 1) / 2 ^ 16) % 65536, ((wd x 1) / 2 ^ 32) % 65536, ((wd x 1) / 2 ^ 48) % 65536]) (news := dg [((wd x 2) / 2 ^ 0) % 65536]) 1 rfl (by kernel_rfl) (H202.rdRow 10 rfl) (by simp [dg_length]) (dg_one _) (by omega) (by simp only [maxLen]; omega)
  have H207 : Hp w [] [.blk p3 [.int .u64 (wd x 0 : Int), .int .u64 (wd x 1 : Int), .int .u64 (wd x 2 : Int), .int .u64 (wd x 3 : Int)] 34, .row A203 9 c204 22 1 (dg [((wd x 0) / 2 ^ 0) % 65536, ((wd x 0) / 2 ^ 16) % 65536, ((wd x 0) / 2 ^ 32) % 65536, ((wd x 0) / 2 ^ 48) % 65536, ((wd x 1) / 2 ^ 0) % 65536, ((wd x 1) / 2 ^ 16) % 65536, ((wd x 1) / 2 ^ 32) % 65536, ((wd x 1) / 2 ^ 48) % 65536, ((wd x 2) / 2 ^ 0) % 65536]), .row (some ⟨p35, 0, none⟩) 1 1 22 1 (dg [((wd x 0) / 2 ^ 0) % 65536]), .row (some ⟨p52, 0, none⟩) 1 1 22 1 (dg [((wd x 0) / 2 ^ 16) % 65536]), .row (some ⟨p69, 0, none⟩) 1 1 22 1 (dg [((wd x 0) / 2 ^ 32) % 65536]), .row (some ⟨p86, 0, none⟩) 1 1 22 1 (dg [((wd x 0) / 2 ^ 48) % 65536]), .row (some ⟨p117, 0, none⟩) 1 1 22 1 (dg [((wd x 1) / 2 ^ 0) % 65536]), .row (some ⟨p134, 0, none⟩) 1 1 22 1 (dg [((wd x 1) / 2 ^ 16) % 65536]), .row (some ⟨p151, 0, none⟩) 1 1 22 1 (dg [((wd x 1) / 2 ^ 32) % 65536]), .row (some ⟨p168, 0, none⟩) 1 1 22 1 (dg [((wd x 1) / 2 ^ 48) % 65536]), .row (some ⟨p199, 0, none⟩) 1 1 22 1 (dg [((wd x 2) / 2 ^ 0) % 65536])] w205 := H207
  refine GL.sem (j := 8) (r206) [5, 6, 8, 9, 23] [(5, .int .u64 (wd x 2 : Int)), (6, .int .i64 0), (8, wv x), (9, .int .i64 2), (23, .slice A203 9 c204)] (by kernel_rfl) (by kernel_rfl) rfl ?_
  refine GL.run (j := 9) 1 [3, 5, 6, 8, 9] [(3, .slice A203 9 c204), (5, .int .u64 (wd x 2 : Int)), (6, .int .i64 0), (8, wv x), (9, .int .i64 2)] (by kernel_rfl) rfl ?_
  refine GL.k rfl hK196 (fun _ _ h => h) ?_
  refine G.region ?_
  refine GL.run (j := 3) 3 [3, 5, 6, 8, 9] [(3, .slice A203 9 c204), (5, .int .u64 (wd x 2 : Int)), (6, .int .i64 1), (8, wv x), (9, .int .i64 2)] (by kernel_rfl) rfl ?_
  refine GL.round rfl ?_
  refine G.seqK fun K208 hK209 => ?_
  refine G.seqK fun K210 hK211 => ?_
  refine G.region ?_
  refine GL.run (j := 2) 2 [3, 5, 6, 8, 9, 13] [(3, .slice A203 9 c204), (5, .int .u64 (wd x 2 : Int)), (6, .int .i64 1), (8, wv x), (9, .int .i64 2), (13, .bool true)] (by kernel_rfl) rfl ?_
  refine GL.k rfl hK211 (fun _ _ h => h) ?_
  refine G.yes rfl ?_
  refine G.skipK hK209 (fun _ _ h => h) ?_
  refine G.seqK fun K212 hK213 => ?_
  refine G.block ?_
  refine G.region ?_
  refine GL.run (j := 6) 6 [5, 6, 8, 9, 16, 21] [(5, .int .u64 (wd x 2 : Int)), (6, .int .i64 1), (8, wv x), (9, .int .i64 2), (16, .slice A203 9 c204), (21, .int .u64 (Int.tmod (Int.fdiv (wd x 2 : Int) (2 ^ 16)) 65536))] (by kernel_rfl) rfl ?_
  have e214 : (Int.fdiv (wd x 2 : Int) (2 ^ 16)) = (((wd x 2) / 2 ^ 16 : Nat) : Int) := n_shr _ 16
  have e215 : (Int.tmod (((wd x 2) / 2 ^ 16 : Nat) : Int) 65536) = ((((wd x 2) / 2 ^ 16) % 65536 : Nat) : Int) := n_rem _ 65536
  refine GL.eq (M' := [(5, .int .u64 (wd x 2 : Int)), (6, .int .i64 1), (8, wv x), (9, .int .i64 2), (16, .slice A203 9 c204), (21, .int .u64 ((((wd x 2) / 2 ^ 16) % 65536 : Nat) : Int))]) (by rw [e214, e215]) ?_
  clear e214 e215
  obtain ⟨p216, w217, r218, H219⟩ := H207.madeRow (P := Tryd.prog) (Instr.buildSlice 31 1 #[(0, .int .u64 ((((wd x 2) / 2 ^ 16) % 65536 : Nat) : Int))]) (fun b_ => .slice (some ⟨b_, 0, none⟩) 1 1) [.int .u64 ((((wd x 2) / 2 ^ 16) % 65536 : Nat) : Int)] 22 1 1 1 (by kernel_rfl) (by decide) (by decide) rfl
  have H219 : Hp w [] [.blk p3 [.int .u64 (wd x 0 : Int), .int .u64 (wd x 1 : Int), .int .u64 (wd x 2 : Int), .int .u64 (wd x 3 : Int)] 34, .row A203 9 c204 22 1 (dg [((wd x 0) / 2 ^ 0) % 65536, ((wd x 0) / 2 ^ 16) % 65536, ((wd x 0) / 2 ^ 32) % 65536, ((wd x 0) / 2 ^ 48) % 65536, ((wd x 1) / 2 ^ 0) % 65536, ((wd x 1) / 2 ^ 16) % 65536, ((wd x 1) / 2 ^ 32) % 65536, ((wd x 1) / 2 ^ 48) % 65536, ((wd x 2) / 2 ^ 0) % 65536]), .row (some ⟨p35, 0, none⟩) 1 1 22 1 (dg [((wd x 0) / 2 ^ 0) % 65536]), .row (some ⟨p52, 0, none⟩) 1 1 22 1 (dg [((wd x 0) / 2 ^ 16) % 65536]), .row (some ⟨p69, 0, none⟩) 1 1 22 1 (dg [((wd x 0) / 2 ^ 32) % 65536]), .row (some ⟨p86, 0, none⟩) 1 1 22 1 (dg [((wd x 0) / 2 ^ 48) % 65536]), .row (some ⟨p117, 0, none⟩) 1 1 22 1 (dg [((wd x 1) / 2 ^ 0) % 65536]), .row (some ⟨p134, 0, none⟩) 1 1 22 1 (dg [((wd x 1) / 2 ^ 16) % 65536]), .row (some ⟨p151, 0, none⟩) 1 1 22 1 (dg [((wd x 1) / 2 ^ 32) % 65536]), .row (some ⟨p168, 0, none⟩) 1 1 22 1 (dg [((wd x 1) / 2 ^ 48) % 65536]), .row (some ⟨p199, 0, none⟩) 1 1 22 1 (dg [((wd x 2) / 2 ^ 0) % 65536]), .row (some ⟨p216, 0, none⟩) 1 1 22 1 (dg [((wd x 2) / 2 ^ 16) % 65536])] w217 := H219
  refine GL.sem (j := 7) (r218) [5, 6, 8, 9, 16, 22] [(5, .int .u64 (wd x 2 : Int)), (6, .int .i64 1), (8, wv x), (9, .int .i64 2), (16, .slice A203 9 c204), (22, .slice (some ⟨p216, 0, none⟩) 1 1)] (by kernel_rfl) (by kernel_rfl) rfl ?_
  obtain ⟨A220, c221, w222, r223, H224⟩ := H219.append (P := Tryd.prog) (e := 22) (sz := 1) (by_ := 8) (n := 9) (c := c204) (m := 1) (d := 1) (t := 31) (ty := 31) (xs := dg [((wd x 0) / 2 ^ 0) % 65536, ((wd x 0) / 2 ^ 16) % 65536, ((wd x 0) / 2 ^ 32) % 65536, ((wd x 0) / 2 ^ 48) % 65536, ((wd x 1) / 2 ^ 0) % 65536, ((wd x 1) / 2 ^ 16) % 65536, ((wd x 1) / 2 ^ 32) % 65536, ((wd x 1) / 2 ^ 48) % 65536, ((wd x 2) / 2 ^ 0) % 65536]) (news := dg [((wd x 2) / 2 ^ 16) % 65536]) 1 rfl (by kernel_rfl) (H219.rdRow 11 rfl) (by simp [dg_length]) (dg_one _) (by omega) (by simp only [maxLen]; omega)
  have H224 : Hp w [] [.blk p3 [.int .u64 (wd x 0 : Int), .int .u64 (wd x 1 : Int), .int .u64 (wd x 2 : Int), .int .u64 (wd x 3 : Int)] 34, .row A220 10 c221 22 1 (dg [((wd x 0) / 2 ^ 0) % 65536, ((wd x 0) / 2 ^ 16) % 65536, ((wd x 0) / 2 ^ 32) % 65536, ((wd x 0) / 2 ^ 48) % 65536, ((wd x 1) / 2 ^ 0) % 65536, ((wd x 1) / 2 ^ 16) % 65536, ((wd x 1) / 2 ^ 32) % 65536, ((wd x 1) / 2 ^ 48) % 65536, ((wd x 2) / 2 ^ 0) % 65536, ((wd x 2) / 2 ^ 16) % 65536]), .row (some ⟨p35, 0, none⟩) 1 1 22 1 (dg [((wd x 0) / 2 ^ 0) % 65536]), .row (some ⟨p52, 0, none⟩) 1 1 22 1 (dg [((wd x 0) / 2 ^ 16) % 65536]), .row (some ⟨p69, 0, none⟩) 1 1 22 1 (dg [((wd x 0) / 2 ^ 32) % 65536]), .row (some ⟨p86, 0, none⟩) 1 1 22 1 (dg [((wd x 0) / 2 ^ 48) % 65536]), .row (some ⟨p117, 0, none⟩) 1 1 22 1 (dg [((wd x 1) / 2 ^ 0) % 65536]), .row (some ⟨p134, 0, none⟩) 1 1 22 1 (dg [((wd x 1) / 2 ^ 16) % 65536]), .row (some ⟨p151, 0, none⟩) 1 1 22 1 (dg [((wd x 1) / 2 ^ 32) % 65536]), .row (some ⟨p168, 0, none⟩) 1 1 22 1 (dg [((wd x 1) / 2 ^ 48) % 65536]), .row (some ⟨p199, 0, none⟩) 1 1 22 1 (dg [((wd x 2) / 2 ^ 0) % 65536]), .row (some ⟨p216, 0, none⟩) 1 1 22 1 (dg [((wd x 2) / 2 ^ 16) % 65536])] w222 := H224
  refine GL.sem (j := 8) (r223) [5, 6, 8, 9, 23] [(5, .int .u64 (wd x 2 : Int)), (6, .int .i64 1), (8, wv x), (9, .int .i64 2), (23, .slice A220 10 c221)] (by kernel_rfl) (by kernel_rfl) rfl ?_
  refine GL.run (j := 9) 1 [3, 5, 6, 8, 9] [(3, .slice A220 10 c221), (5, .int .u64 (wd x 2 : Int)), (6, .int .i64 1), (8, wv x), (9, .int .i64 2)] (by kernel_rfl) rfl ?_
  refine GL.k rfl hK213 (fun _ _ h => h) ?_
  refine G.region ?_
  refine GL.run (j := 3) 3 [3, 5, 6, 8, 9] [(3, .slice A220 10 c221), (5, .int .u64 (wd x 2 : Int)), (6, .int .i64 2), (8, wv x), (9, .int .i64 2)] (by kernel_rfl) rfl ?_
  refine GL.round rfl ?_
  refine G.seqK fun K225 hK226 => ?_
  refine G.seqK fun K227 hK228 => ?_
  refine G.region ?_
  refine GL.run (j := 2) 2 [3, 5, 6, 8, 9, 13] [(3, .slice A220 10 c221), (5, .int .u64 (wd x 2 : Int)), (6, .int .i64 2), (8, wv x), (9, .int .i64 2), (13, .bool true)] (by kernel_rfl) rfl ?_
  refine GL.k rfl hK228 (fun _ _ h => h) ?_
  refine G.yes rfl ?_
  refine G.skipK hK226 (fun _ _ h => h) ?_
  refine G.seqK fun K229 hK230 => ?_
  refine G.block ?_
  refine G.region ?_
  refine GL.run (j := 6) 6 [5, 6, 8, 9, 16, 21] [(5, .int .u64 (wd x 2 : Int)), (6, .int .i64 2), (8, wv x), (9, .int .i64 2), (16, .slice A220 10 c221), (21, .int .u64 (Int.tmod (Int.fdiv (wd x 2 : Int) (2 ^ 32)) 65536))] (by kernel_rfl) rfl ?_
  have e231 : (Int.fdiv (wd x 2 : Int) (2 ^ 32)) = (((wd x 2) / 2 ^ 32 : Nat) : Int) := n_shr _ 32
  have e232 : (Int.tmod (((wd x 2) / 2 ^ 32 : Nat) : Int) 65536) = ((((wd x 2) / 2 ^ 32) % 65536 : Nat) : Int) := n_rem _ 65536
  refine GL.eq (M' := [(5, .int .u64 (wd x 2 : Int)), (6, .int .i64 2), (8, wv x), (9, .int .i64 2), (16, .slice A220 10 c221), (21, .int .u64 ((((wd x 2) / 2 ^ 32) % 65536 : Nat) : Int))]) (by rw [e231, e232]) ?_
  clear e231 e232
  obtain ⟨p233, w234, r235, H236⟩ := H224.madeRow (P := Tryd.prog) (Instr.buildSlice 31 1 #[(0, .int .u64 ((((wd x 2) / 2 ^ 32) % 65536 : Nat) : Int))]) (fun b_ => .slice (some ⟨b_, 0, none⟩) 1 1) [.int .u64 ((((wd x 2) / 2 ^ 32) % 65536 : Nat) : Int)] 22 1 1 1 (by kernel_rfl) (by decide) (by decide) rfl
  have H236 : Hp w [] [.blk p3 [.int .u64 (wd x 0 : Int), .int .u64 (wd x 1 : Int), .int .u64 (wd x 2 : Int), .int .u64 (wd x 3 : Int)] 34, .row A220 10 c221 22 1 (dg [((wd x 0) / 2 ^ 0) % 65536, ((wd x 0) / 2 ^ 16) % 65536, ((wd x 0) / 2 ^ 32) % 65536, ((wd x 0) / 2 ^ 48) % 65536, ((wd x 1) / 2 ^ 0) % 65536, ((wd x 1) / 2 ^ 16) % 65536, ((wd x 1) / 2 ^ 32) % 65536, ((wd x 1) / 2 ^ 48) % 65536, ((wd x 2) / 2 ^ 0) % 65536, ((wd x 2) / 2 ^ 16) % 65536]), .row (some ⟨p35, 0, none⟩) 1 1 22 1 (dg [((wd x 0) / 2 ^ 0) % 65536]), .row (some ⟨p52, 0, none⟩) 1 1 22 1 (dg [((wd x 0) / 2 ^ 16) % 65536]), .row (some ⟨p69, 0, none⟩) 1 1 22 1 (dg [((wd x 0) / 2 ^ 32) % 65536]), .row (some ⟨p86, 0, none⟩) 1 1 22 1 (dg [((wd x 0) / 2 ^ 48) % 65536]), .row (some ⟨p117, 0, none⟩) 1 1 22 1 (dg [((wd x 1) / 2 ^ 0) % 65536]), .row (some ⟨p134, 0, none⟩) 1 1 22 1 (dg [((wd x 1) / 2 ^ 16) % 65536]), .row (some ⟨p151, 0, none⟩) 1 1 22 1 (dg [((wd x 1) / 2 ^ 32) % 65536]), .row (some ⟨p168, 0, none⟩) 1 1 22 1 (dg [((wd x 1) / 2 ^ 48) % 65536]), .row (some ⟨p199, 0, none⟩) 1 1 22 1 (dg [((wd x 2) / 2 ^ 0) % 65536]), .row (some ⟨p216, 0, none⟩) 1 1 22 1 (dg [((wd x 2) / 2 ^ 16) % 65536]), .row (some ⟨p233, 0, none⟩) 1 1 22 1 (dg [((wd x 2) / 2 ^ 32) % 65536])] w234 := H236
  refine GL.sem (j := 7) (r235) [5, 6, 8, 9, 16, 22] [(5, .int .u64 (wd x 2 : Int)), (6, .int .i64 2), (8, wv x), (9, .int .i64 2), (16, .slice A220 10 c221), (22, .slice (some ⟨p233, 0, none⟩) 1 1)] (by kernel_rfl) (by kernel_rfl) rfl ?_
  obtain ⟨A237, c238, w239, r240, H241⟩ := H236.append (P := Tryd.prog) (e := 22) (sz := 1) (by_ := 8) (n := 10) (c := c221) (m := 1) (d := 1) (t := 31) (ty := 31) (xs := dg [((wd x 0) / 2 ^ 0) % 65536, ((wd x 0) / 2 ^ 16) % 65536, ((wd x 0) / 2 ^ 32) % 65536, ((wd x 0) / 2 ^ 48) % 65536, ((wd x 1) / 2 ^ 0) % 65536, ((wd x 1) / 2 ^ 16) % 65536, ((wd x 1) / 2 ^ 32) % 65536, ((wd x 1) / 2 ^ 48) % 65536, ((wd x 2) / 2 ^ 0) % 65536, ((wd x 2) / 2 ^ 16) % 65536]) (news := dg [((wd x 2) / 2 ^ 32) % 65536]) 1 rfl (by kernel_rfl) (H236.rdRow 12 rfl) (by simp [dg_length]) (dg_one _) (by omega) (by simp only [maxLen]; omega)
  have H241 : Hp w [] [.blk p3 [.int .u64 (wd x 0 : Int), .int .u64 (wd x 1 : Int), .int .u64 (wd x 2 : Int), .int .u64 (wd x 3 : Int)] 34, .row A237 11 c238 22 1 (dg [((wd x 0) / 2 ^ 0) % 65536, ((wd x 0) / 2 ^ 16) % 65536, ((wd x 0) / 2 ^ 32) % 65536, ((wd x 0) / 2 ^ 48) % 65536, ((wd x 1) / 2 ^ 0) % 65536, ((wd x 1) / 2 ^ 16) % 65536, ((wd x 1) / 2 ^ 32) % 65536, ((wd x 1) / 2 ^ 48) % 65536, ((wd x 2) / 2 ^ 0) % 65536, ((wd x 2) / 2 ^ 16) % 65536, ((wd x 2) / 2 ^ 32) % 65536]), .row (some ⟨p35, 0, none⟩) 1 1 22 1 (dg [((wd x 0) / 2 ^ 0) % 65536]), .row (some ⟨p52, 0, none⟩) 1 1 22 1 (dg [((wd x 0) / 2 ^ 16) % 65536]), .row (some ⟨p69, 0, none⟩) 1 1 22 1 (dg [((wd x 0) / 2 ^ 32) % 65536]), .row (some ⟨p86, 0, none⟩) 1 1 22 1 (dg [((wd x 0) / 2 ^ 48) % 65536]), .row (some ⟨p117, 0, none⟩) 1 1 22 1 (dg [((wd x 1) / 2 ^ 0) % 65536]), .row (some ⟨p134, 0, none⟩) 1 1 22 1 (dg [((wd x 1) / 2 ^ 16) % 65536]), .row (some ⟨p151, 0, none⟩) 1 1 22 1 (dg [((wd x 1) / 2 ^ 32) % 65536]), .row (some ⟨p168, 0, none⟩) 1 1 22 1 (dg [((wd x 1) / 2 ^ 48) % 65536]), .row (some ⟨p199, 0, none⟩) 1 1 22 1 (dg [((wd x 2) / 2 ^ 0) % 65536]), .row (some ⟨p216, 0, none⟩) 1 1 22 1 (dg [((wd x 2) / 2 ^ 16) % 65536]), .row (some ⟨p233, 0, none⟩) 1 1 22 1 (dg [((wd x 2) / 2 ^ 32) % 65536])] w239 := H241
  refine GL.sem (j := 8) (r240) [5, 6, 8, 9, 23] [(5, .int .u64 (wd x 2 : Int)), (6, .int .i64 2), (8, wv x), (9, .int .i64 2), (23, .slice A237 11 c238)] (by kernel_rfl) (by kernel_rfl) rfl ?_
  refine GL.run (j := 9) 1 [3, 5, 6, 8, 9] [(3, .slice A237 11 c238), (5, .int .u64 (wd x 2 : Int)), (6, .int .i64 2), (8, wv x), (9, .int .i64 2)] (by kernel_rfl) rfl ?_
  refine GL.k rfl hK230 (fun _ _ h => h) ?_
  refine G.region ?_
  refine GL.run (j := 3) 3 [3, 5, 6, 8, 9] [(3, .slice A237 11 c238), (5, .int .u64 (wd x 2 : Int)), (6, .int .i64 3), (8, wv x), (9, .int .i64 2)] (by kernel_rfl) rfl ?_
  refine GL.round rfl ?_
  refine G.seqK fun K242 hK243 => ?_
  refine G.seqK fun K244 hK245 => ?_
  refine G.region ?_
  refine GL.run (j := 2) 2 [3, 5, 6, 8, 9, 13] [(3, .slice A237 11 c238), (5, .int .u64 (wd x 2 : Int)), (6, .int .i64 3), (8, wv x), (9, .int .i64 2), (13, .bool true)] (by kernel_rfl) rfl ?_
  refine GL.k rfl hK245 (fun _ _ h => h) ?_
  refine G.yes rfl ?_
  refine G.skipK hK243 (fun _ _ h => h) ?_
  refine G.seqK fun K246 hK247 => ?_
  refine G.block ?_
  refine G.region ?_
  refine GL.run (j := 6) 6 [5, 6, 8, 9, 16, 21] [(5, .int .u64 (wd x 2 : Int)), (6, .int .i64 3), (8, wv x), (9, .int .i64 2), (16, .slice A237 11 c238), (21, .int .u64 (Int.tmod (Int.fdiv (wd x 2 : Int) (2 ^ 48)) 65536))] (by kernel_rfl) rfl ?_
  have e248 : (Int.fdiv (wd x 2 : Int) (2 ^ 48)) = (((wd x 2) / 2 ^ 48 : Nat) : Int) := n_shr _ 48
  have e249 : (Int.tmod (((wd x 2) / 2 ^ 48 : Nat) : Int) 65536) = ((((wd x 2) / 2 ^ 48) % 65536 : Nat) : Int) := n_rem _ 65536
  refine GL.eq (M' := [(5, .int .u64 (wd x 2 : Int)), (6, .int .i64 3), (8, wv x), (9, .int .i64 2), (16, .slice A237 11 c238), (21, .int .u64 ((((wd x 2) / 2 ^ 48) % 65536 : Nat) : Int))]) (by rw [e248, e249]) ?_
  clear e248 e249
  obtain ⟨p250, w251, r252, H253⟩ := H241.madeRow (P := Tryd.prog) (Instr.buildSlice 31 1 #[(0, .int .u64 ((((wd x 2) / 2 ^ 48) % 65536 : Nat) : Int))]) (fun b_ => .slice (some ⟨b_, 0, none⟩) 1 1) [.int .u64 ((((wd x 2) / 2 ^ 48) % 65536 : Nat) : Int)] 22 1 1 1 (by kernel_rfl) (by decide) (by decide) rfl
  have H253 : Hp w [] [.blk p3 [.int .u64 (wd x 0 : Int), .int .u64 (wd x 1 : Int), .int .u64 (wd x 2 : Int), .int .u64 (wd x 3 : Int)] 34, .row A237 11 c238 22 1 (dg [((wd x 0) / 2 ^ 0) % 65536, ((wd x 0) / 2 ^ 16) % 65536, ((wd x 0) / 2 ^ 32) % 65536, ((wd x 0) / 2 ^ 48) % 65536, ((wd x 1) / 2 ^ 0) % 65536, ((wd x 1) / 2 ^ 16) % 65536, ((wd x 1) / 2 ^ 32) % 65536, ((wd x 1) / 2 ^ 48) % 65536, ((wd x 2) / 2 ^ 0) % 65536, ((wd x 2) / 2 ^ 16) % 65536, ((wd x 2) / 2 ^ 32) % 65536]), .row (some ⟨p35, 0, none⟩) 1 1 22 1 (dg [((wd x 0) / 2 ^ 0) % 65536]), .row (some ⟨p52, 0, none⟩) 1 1 22 1 (dg [((wd x 0) / 2 ^ 16) % 65536]), .row (some ⟨p69, 0, none⟩) 1 1 22 1 (dg [((wd x 0) / 2 ^ 32) % 65536]), .row (some ⟨p86, 0, none⟩) 1 1 22 1 (dg [((wd x 0) / 2 ^ 48) % 65536]), .row (some ⟨p117, 0, none⟩) 1 1 22 1 (dg [((wd x 1) / 2 ^ 0) % 65536]), .row (some ⟨p134, 0, none⟩) 1 1 22 1 (dg [((wd x 1) / 2 ^ 16) % 65536]), .row (some ⟨p151, 0, none⟩) 1 1 22 1 (dg [((wd x 1) / 2 ^ 32) % 65536]), .row (some ⟨p168, 0, none⟩) 1 1 22 1 (dg [((wd x 1) / 2 ^ 48) % 65536]), .row (some ⟨p199, 0, none⟩) 1 1 22 1 (dg [((wd x 2) / 2 ^ 0) % 65536]), .row (some ⟨p216, 0, none⟩) 1 1 22 1 (dg [((wd x 2) / 2 ^ 16) % 65536]), .row (some ⟨p233, 0, none⟩) 1 1 22 1 (dg [((wd x 2) / 2 ^ 32) % 65536]), .row (some ⟨p250, 0, none⟩) 1 1 22 1 (dg [((wd x 2) / 2 ^ 48) % 65536])] w251 := H253
  refine GL.sem (j := 7) (r252) [5, 6, 8, 9, 16, 22] [(5, .int .u64 (wd x 2 : Int)), (6, .int .i64 3), (8, wv x), (9, .int .i64 2), (16, .slice A237 11 c238), (22, .slice (some ⟨p250, 0, none⟩) 1 1)] (by kernel_rfl) (by kernel_rfl) rfl ?_
  obtain ⟨A254, c255, w256, r257, H258⟩ := H253.append (P := Tryd.prog) (e := 22) (sz := 1) (by_ := 8) (n := 11) (c := c238) (m := 1) (d := 1) (t := 31) (ty := 31) (xs := dg [((wd x 0) / 2 ^ 0) % 65536, ((wd x 0) / 2 ^ 16) % 65536, ((wd x 0) / 2 ^ 32) % 65536, ((wd x 0) / 2 ^ 48) % 65536, ((wd x 1) / 2 ^ 0) % 65536, ((wd x 1) / 2 ^ 16) % 65536, ((wd x 1) / 2 ^ 32) % 65536, ((wd x 1) / 2 ^ 48) % 65536, ((wd x 2) / 2 ^ 0) % 65536, ((wd x 2) / 2 ^ 16) % 65536, ((wd x 2) / 2 ^ 32) % 65536]) (news := dg [((wd x 2) / 2 ^ 48) % 65536]) 1 rfl (by kernel_rfl) (H253.rdRow 13 rfl) (by simp [dg_length]) (dg_one _) (by omega) (by simp only [maxLen]; omega)
  have H258 : Hp w [] [.blk p3 [.int .u64 (wd x 0 : Int), .int .u64 (wd x 1 : Int), .int .u64 (wd x 2 : Int), .int .u64 (wd x 3 : Int)] 34, .row A254 12 c255 22 1 (dg [((wd x 0) / 2 ^ 0) % 65536, ((wd x 0) / 2 ^ 16) % 65536, ((wd x 0) / 2 ^ 32) % 65536, ((wd x 0) / 2 ^ 48) % 65536, ((wd x 1) / 2 ^ 0) % 65536, ((wd x 1) / 2 ^ 16) % 65536, ((wd x 1) / 2 ^ 32) % 65536, ((wd x 1) / 2 ^ 48) % 65536, ((wd x 2) / 2 ^ 0) % 65536, ((wd x 2) / 2 ^ 16) % 65536, ((wd x 2) / 2 ^ 32) % 65536, ((wd x 2) / 2 ^ 48) % 65536]), .row (some ⟨p35, 0, none⟩) 1 1 22 1 (dg [((wd x 0) / 2 ^ 0) % 65536]), .row (some ⟨p52, 0, none⟩) 1 1 22 1 (dg [((wd x 0) / 2 ^ 16) % 65536]), .row (some ⟨p69, 0, none⟩) 1 1 22 1 (dg [((wd x 0) / 2 ^ 32) % 65536]), .row (some ⟨p86, 0, none⟩) 1 1 22 1 (dg [((wd x 0) / 2 ^ 48) % 65536]), .row (some ⟨p117, 0, none⟩) 1 1 22 1 (dg [((wd x 1) / 2 ^ 0) % 65536]), .row (some ⟨p134, 0, none⟩) 1 1 22 1 (dg [((wd x 1) / 2 ^ 16) % 65536]), .row (some ⟨p151, 0, none⟩) 1 1 22 1 (dg [((wd x 1) / 2 ^ 32) % 65536]), .row (some ⟨p168, 0, none⟩) 1 1 22 1 (dg [((wd x 1) / 2 ^ 48) % 65536]), .row (some ⟨p199, 0, none⟩) 1 1 22 1 (dg [((wd x 2) / 2 ^ 0) % 65536]), .row (some ⟨p216, 0, none⟩) 1 1 22 1 (dg [((wd x 2) / 2 ^ 16) % 65536]), .row (some ⟨p233, 0, none⟩) 1 1 22 1 (dg [((wd x 2) / 2 ^ 32) % 65536]), .row (some ⟨p250, 0, none⟩) 1 1 22 1 (dg [((wd x 2) / 2 ^ 48) % 65536])] w256 := H258
  refine GL.sem (j := 8) (r257) [5, 6, 8, 9, 23] [(5, .int .u64 (wd x 2 : Int)), (6, .int .i64 3), (8, wv x), (9, .int .i64 2), (23, .slice A254 12 c255)] (by kernel_rfl) (by kernel_rfl) rfl ?_
  refine GL.run (j := 9) 1 [3, 5, 6, 8, 9] [(3, .slice A254 12 c255), (5, .int .u64 (wd x 2 : Int)), (6, .int .i64 3), (8, wv x), (9, .int .i64 2)] (by kernel_rfl) rfl ?_
  refine GL.k rfl hK247 (fun _ _ h => h) ?_
  refine G.region ?_
  refine GL.run (j := 3) 3 [3, 5, 6, 8, 9] [(3, .slice A254 12 c255), (5, .int .u64 (wd x 2 : Int)), (6, .int .i64 4), (8, wv x), (9, .int .i64 2)] (by kernel_rfl) rfl ?_
  refine GL.round rfl ?_
  refine G.seqK fun K259 hK260 => ?_
  refine G.seqK fun K261 hK262 => ?_
  refine G.region ?_
  refine GL.run (j := 2) 2 [3, 5, 6, 8, 9, 13] [(3, .slice A254 12 c255), (5, .int .u64 (wd x 2 : Int)), (6, .int .i64 4), (8, wv x), (9, .int .i64 2), (13, .bool false)] (by kernel_rfl) rfl ?_
  refine GL.k rfl hK262 (fun _ _ h => h) ?_
  refine G.no rfl ?_
  refine G.exitK hK186 (fun _ _ h => h) ?_
  refine G.region ?_
  refine GL.run (j := 2) 2 [3, 8, 9] [(3, .slice A254 12 c255), (8, wv x), (9, .int .i64 3)] (by kernel_rfl) rfl ?_
  refine GL.round rfl ?_
  refine G.seqK fun K263 hK264 => ?_
  refine G.region ?_
  refine GL.run (j := 1) 1 [3, 8, 9, 10] [(3, .slice A254 12 c255), (8, wv x), (9, .int .i64 3), (10, .bool true)] (by kernel_rfl) rfl ?_
  refine GL.k rfl hK264 (fun _ _ h => h) ?_
  refine G.seqK fun K265 hK266 => ?_
  refine G.yes rfl ?_
  refine G.skipK hK266 (fun _ _ h => h) ?_
  refine G.seqK fun K267 hK268 => ?_
  refine G.block ?_
  refine G.seqK fun K269 hK270 => ?_
  refine G.region ?_
  refine GL.run (j := 2) 2 [3, 5, 8, 9] [(3, .slice A254 12 c255), (5, .int .u64 (wd x 3 : Int)), (8, wv x), (9, .int .i64 3)] (by kernel_rfl) rfl ?_
  refine GL.k rfl hK270 (fun _ _ h => h) ?_
  refine G.seqK fun K271 hK272 => ?_
  refine G.region ?_
  refine GL.run (j := 1) 1 [3, 5, 6, 8, 9] [(3, .slice A254 12 c255), (5, .int .u64 (wd x 3 : Int)), (6, .int .i64 0), (8, wv x), (9, .int .i64 3)] (by kernel_rfl) rfl ?_
  refine GL.k rfl hK272 (fun _ _ h => h) ?_
  refine G.block ?_
  refine G.unroll 4 ?_
  refine G.seqK fun K273 hK274 => ?_
  refine G.seqK fun K275 hK276 => ?_
  refine G.region ?_
  refine GL.run (j := 2) 2 [3, 5, 6, 8, 9, 13] [(3, .slice A254 12 c255), (5, .int .u64 (wd x 3 : Int)), (6, .int .i64 0), (8, wv x), (9, .int .i64 3), (13, .bool true)] (by kernel_rfl) rfl ?_
  refine GL.k rfl hK276 (fun _ _ h => h) ?_
  refine G.yes rfl ?_
  refine G.skipK hK274 (fun _ _ h => h) ?_
  refine G.seqK fun K277 hK278 => ?_
  refine G.block ?_
  refine G.region ?_
  refine GL.run (j := 6) 6 [5, 6, 8, 9, 16, 21] [(5, .int .u64 (wd x 3 : Int)), (6, .int .i64 0), (8, wv x), (9, .int .i64 3), (16, .slice A254 12 c255), (21, .int .u64 (Int.tmod (Int.fdiv (wd x 3 : Int) (2 ^ 0)) 65536))] (by kernel_rfl) rfl ?_
  have e279 : (Int.fdiv (wd x 3 : Int) (2 ^ 0)) = (((wd x 3) / 2 ^ 0 : Nat) : Int) := n_shr _ 0
  have e280 : (Int.tmod (((wd x 3) / 2 ^ 0 : Nat) : Int) 65536) = ((((wd x 3) / 2 ^ 0) % 65536 : Nat) : Int) := n_rem _ 65536
  refine GL.eq (M' := [(5, .int .u64 (wd x 3 : Int)), (6, .int .i64 0), (8, wv x), (9, .int .i64 3), (16, .slice A254 12 c255), (21, .int .u64 ((((wd x 3) / 2 ^ 0) % 65536 : Nat) : Int))]) (by rw [e279, e280]) ?_
  clear e279 e280
  obtain ⟨p281, w282, r283, H284⟩ := H258.madeRow (P := Tryd.prog) (Instr.buildSlice 31 1 #[(0, .int .u64 ((((wd x 3) / 2 ^ 0) % 65536 : Nat) : Int))]) (fun b_ => .slice (some ⟨b_, 0, none⟩) 1 1) [.int .u64 ((((wd x 3) / 2 ^ 0) % 65536 : Nat) : Int)] 22 1 1 1 (by kernel_rfl) (by decide) (by decide) rfl
  have H284 : Hp w [] [.blk p3 [.int .u64 (wd x 0 : Int), .int .u64 (wd x 1 : Int), .int .u64 (wd x 2 : Int), .int .u64 (wd x 3 : Int)] 34, .row A254 12 c255 22 1 (dg [((wd x 0) / 2 ^ 0) % 65536, ((wd x 0) / 2 ^ 16) % 65536, ((wd x 0) / 2 ^ 32) % 65536, ((wd x 0) / 2 ^ 48) % 65536, ((wd x 1) / 2 ^ 0) % 65536, ((wd x 1) / 2 ^ 16) % 65536, ((wd x 1) / 2 ^ 32) % 65536, ((wd x 1) / 2 ^ 48) % 65536, ((wd x 2) / 2 ^ 0) % 65536, ((wd x 2) / 2 ^ 16) % 65536, ((wd x 2) / 2 ^ 32) % 65536, ((wd x 2) / 2 ^ 48) % 65536]), .row (some ⟨p35, 0, none⟩) 1 1 22 1 (dg [((wd x 0) / 2 ^ 0) % 65536]), .row (some ⟨p52, 0, none⟩) 1 1 22 1 (dg [((wd x 0) / 2 ^ 16) % 65536]), .row (some ⟨p69, 0, none⟩) 1 1 22 1 (dg [((wd x 0) / 2 ^ 32) % 65536]), .row (some ⟨p86, 0, none⟩) 1 1 22 1 (dg [((wd x 0) / 2 ^ 48) % 65536]), .row (some ⟨p117, 0, none⟩) 1 1 22 1 (dg [((wd x 1) / 2 ^ 0) % 65536]), .row (some ⟨p134, 0, none⟩) 1 1 22 1 (dg [((wd x 1) / 2 ^ 16) % 65536]), .row (some ⟨p151, 0, none⟩) 1 1 22 1 (dg [((wd x 1) / 2 ^ 32) % 65536]), .row (some ⟨p168, 0, none⟩) 1 1 22 1 (dg [((wd x 1) / 2 ^ 48) % 65536]), .row (some ⟨p199, 0, none⟩) 1 1 22 1 (dg [((wd x 2) / 2 ^ 0) % 65536]), .row (some ⟨p216, 0, none⟩) 1 1 22 1 (dg [((wd x 2) / 2 ^ 16) % 65536]), .row (some ⟨p233, 0, none⟩) 1 1 22 1 (dg [((wd x 2) / 2 ^ 32) % 65536]), .row (some ⟨p250, 0, none⟩) 1 1 22 1 (dg [((wd x 2) / 2 ^ 48) % 65536]), .row (some ⟨p281, 0, none⟩) 1 1 22 1 (dg [((wd x 3) / 2 ^ 0) % 65536])] w282 := H284
  refine GL.sem (j := 7) (r283) [5, 6, 8, 9, 16, 22] [(5, .int .u64 (wd x 3 : Int)), (6, .int .i64 0), (8, wv x), (9, .int .i64 3), (16, .slice A254 12 c255), (22, .slice (some ⟨p281, 0, none⟩) 1 1)] (by kernel_rfl) (by kernel_rfl) rfl ?_
  obtain ⟨A285, c286, w287, r288, H289⟩ := H284.append (P := Tryd.prog) (e := 22) (sz := 1) (by_ := 8) (n := 12) (c := c255) (m := 1) (d := 1) (t := 31) (ty := 31) (xs := dg [((wd x 0) / 2 ^ 0) % 65536, ((wd x 0) / 2 ^ 16) % 65536, ((wd x 0) / 2 ^ 32) % 65536, ((wd x 0) / 2 ^ 48) % 65536, ((wd x 1) / 2 ^ 0) % 65536, ((wd x 1) / 2 ^ 16) % 65536, ((wd x 1) / 2 ^ 32) % 65536, ((wd x 1) / 2 ^ 48) % 65536, ((wd x 2) / 2 ^ 0) % 65536, ((wd x 2) / 2 ^ 16) % 65536, ((wd x 2) / 2 ^ 32) % 65536, ((wd x 2) / 2 ^ 48) % 65536]) (news := dg [((wd x 3) / 2 ^ 0) % 65536]) 1 rfl (by kernel_rfl) (H284.rdRow 14 rfl) (by simp [dg_length]) (dg_one _) (by omega) (by simp only [maxLen]; omega)
  have H289 : Hp w [] [.blk p3 [.int .u64 (wd x 0 : Int), .int .u64 (wd x 1 : Int), .int .u64 (wd x 2 : Int), .int .u64 (wd x 3 : Int)] 34, .row A285 13 c286 22 1 (dg [((wd x 0) / 2 ^ 0) % 65536, ((wd x 0) / 2 ^ 16) % 65536, ((wd x 0) / 2 ^ 32) % 65536, ((wd x 0) / 2 ^ 48) % 65536, ((wd x 1) / 2 ^ 0) % 65536, ((wd x 1) / 2 ^ 16) % 65536, ((wd x 1) / 2 ^ 32) % 65536, ((wd x 1) / 2 ^ 48) % 65536, ((wd x 2) / 2 ^ 0) % 65536, ((wd x 2) / 2 ^ 16) % 65536, ((wd x 2) / 2 ^ 32) % 65536, ((wd x 2) / 2 ^ 48) % 65536, ((wd x 3) / 2 ^ 0) % 65536]), .row (some ⟨p35, 0, none⟩) 1 1 22 1 (dg [((wd x 0) / 2 ^ 0) % 65536]), .row (some ⟨p52, 0, none⟩) 1 1 22 1 (dg [((wd x 0) / 2 ^ 16) % 65536]), .row (some ⟨p69, 0, none⟩) 1 1 22 1 (dg [((wd x 0) / 2 ^ 32) % 65536]), .row (some ⟨p86, 0, none⟩) 1 1 22 1 (dg [((wd x 0) / 2 ^ 48) % 65536]), .row (some ⟨p117, 0, none⟩) 1 1 22 1 (dg [((wd x 1) / 2 ^ 0) % 65536]), .row (some ⟨p134, 0, none⟩) 1 1 22 1 (dg [((wd x 1) / 2 ^ 16) % 65536]), .row (some ⟨p151, 0, none⟩) 1 1 22 1 (dg [((wd x 1) / 2 ^ 32) % 65536]), .row (some ⟨p168, 0, none⟩) 1 1 22 1 (dg [((wd x 1) / 2 ^ 48) % 65536]), .row (some ⟨p199, 0, none⟩) 1 1 22 1 (dg [((wd x 2) / 2 ^ 0) % 65536]), .row (some ⟨p216, 0, none⟩) 1 1 22 1 (dg [((wd x 2) / 2 ^ 16) % 65536]), .row (some ⟨p233, 0, none⟩) 1 1 22 1 (dg [((wd x 2) / 2 ^ 32) % 65536]), .row (some ⟨p250, 0, none⟩) 1 1 22 1 (dg [((wd x 2) / 2 ^ 48) % 65536]), .row (some ⟨p281, 0, none⟩) 1 1 22 1 (dg [((wd x 3) / 2 ^ 0) % 65536])] w287 := H289
  refine GL.sem (j := 8) (r288) [5, 6, 8, 9, 23] [(5, .int .u64 (wd x 3 : Int)), (6, .int .i64 0), (8, wv x), (9, .int .i64 3), (23, .slice A285 13 c286)] (by kernel_rfl) (by kernel_rfl) rfl ?_
  refine GL.run (j := 9) 1 [3, 5, 6, 8, 9] [(3, .slice A285 13 c286), (5, .int .u64 (wd x 3 : Int)), (6, .int .i64 0), (8, wv x), (9, .int .i64 3)] (by kernel_rfl) rfl ?_
  refine GL.k rfl hK278 (fun _ _ h => h) ?_
  refine G.region ?_
  refine GL.run (j := 3) 3 [3, 5, 6, 8, 9] [(3, .slice A285 13 c286), (5, .int .u64 (wd x 3 : Int)), (6, .int .i64 1), (8, wv x), (9, .int .i64 3)] (by kernel_rfl) rfl ?_
  refine GL.round rfl ?_
  refine G.seqK fun K290 hK291 => ?_
  refine G.seqK fun K292 hK293 => ?_
  refine G.region ?_
  refine GL.run (j := 2) 2 [3, 5, 6, 8, 9, 13] [(3, .slice A285 13 c286), (5, .int .u64 (wd x 3 : Int)), (6, .int .i64 1), (8, wv x), (9, .int .i64 3), (13, .bool true)] (by kernel_rfl) rfl ?_
  refine GL.k rfl hK293 (fun _ _ h => h) ?_
  refine G.yes rfl ?_
  refine G.skipK hK291 (fun _ _ h => h) ?_
  refine G.seqK fun K294 hK295 => ?_
  refine G.block ?_
  refine G.region ?_
  refine GL.run (j := 6) 6 [5, 6, 8, 9, 16, 21] [(5, .int .u64 (wd x 3 : Int)), (6, .int .i64 1), (8, wv x), (9, .int .i64 3), (16, .slice A285 13 c286), (21, .int .u64 (Int.tmod (Int.fdiv (wd x 3 : Int) (2 ^ 16)) 65536))] (by kernel_rfl) rfl ?_
  have e296 : (Int.fdiv (wd x 3 : Int) (2 ^ 16)) = (((wd x 3) / 2 ^ 16 : Nat) : Int) := n_shr _ 16
  have e297 : (Int.tmod (((wd x 3) / 2 ^ 16 : Nat) : Int) 65536) = ((((wd x 3) / 2 ^ 16) % 65536 : Nat) : Int) := n_rem _ 65536
  refine GL.eq (M' := [(5, .int .u64 (wd x 3 : Int)), (6, .int .i64 1), (8, wv x), (9, .int .i64 3), (16, .slice A285 13 c286), (21, .int .u64 ((((wd x 3) / 2 ^ 16) % 65536 : Nat) : Int))]) (by rw [e296, e297]) ?_
  clear e296 e297
  obtain ⟨p298, w299, r300, H301⟩ := H289.madeRow (P := Tryd.prog) (Instr.buildSlice 31 1 #[(0, .int .u64 ((((wd x 3) / 2 ^ 16) % 65536 : Nat) : Int))]) (fun b_ => .slice (some ⟨b_, 0, none⟩) 1 1) [.int .u64 ((((wd x 3) / 2 ^ 16) % 65536 : Nat) : Int)] 22 1 1 1 (by kernel_rfl) (by decide) (by decide) rfl
  have H301 : Hp w [] [.blk p3 [.int .u64 (wd x 0 : Int), .int .u64 (wd x 1 : Int), .int .u64 (wd x 2 : Int), .int .u64 (wd x 3 : Int)] 34, .row A285 13 c286 22 1 (dg [((wd x 0) / 2 ^ 0) % 65536, ((wd x 0) / 2 ^ 16) % 65536, ((wd x 0) / 2 ^ 32) % 65536, ((wd x 0) / 2 ^ 48) % 65536, ((wd x 1) / 2 ^ 0) % 65536, ((wd x 1) / 2 ^ 16) % 65536, ((wd x 1) / 2 ^ 32) % 65536, ((wd x 1) / 2 ^ 48) % 65536, ((wd x 2) / 2 ^ 0) % 65536, ((wd x 2) / 2 ^ 16) % 65536, ((wd x 2) / 2 ^ 32) % 65536, ((wd x 2) / 2 ^ 48) % 65536, ((wd x 3) / 2 ^ 0) % 65536]), .row (some ⟨p35, 0, none⟩) 1 1 22 1 (dg [((wd x 0) / 2 ^ 0) % 65536]), .row (some ⟨p52, 0, none⟩) 1 1 22 1 (dg [((wd x 0) / 2 ^ 16) % 65536]), .row (some ⟨p69, 0, none⟩) 1 1 22 1 (dg [((wd x 0) / 2 ^ 32) % 65536]), .row (some ⟨p86, 0, none⟩) 1 1 22 1 (dg [((wd x 0) / 2 ^ 48) % 65536]), .row (some ⟨p117, 0, none⟩) 1 1 22 1 (dg [((wd x 1) / 2 ^ 0) % 65536]), .row (some ⟨p134, 0, none⟩) 1 1 22 1 (dg [((wd x 1) / 2 ^ 16) % 65536]), .row (some ⟨p151, 0, none⟩) 1 1 22 1 (dg [((wd x 1) / 2 ^ 32) % 65536]), .row (some ⟨p168, 0, none⟩) 1 1 22 1 (dg [((wd x 1) / 2 ^ 48) % 65536]), .row (some ⟨p199, 0, none⟩) 1 1 22 1 (dg [((wd x 2) / 2 ^ 0) % 65536]), .row (some ⟨p216, 0, none⟩) 1 1 22 1 (dg [((wd x 2) / 2 ^ 16) % 65536]), .row (some ⟨p233, 0, none⟩) 1 1 22 1 (dg [((wd x 2) / 2 ^ 32) % 65536]), .row (some ⟨p250, 0, none⟩) 1 1 22 1 (dg [((wd x 2) / 2 ^ 48) % 65536]), .row (some ⟨p281, 0, none⟩) 1 1 22 1 (dg [((wd x 3) / 2 ^ 0) % 65536]), .row (some ⟨p298, 0, none⟩) 1 1 22 1 (dg [((wd x 3) / 2 ^ 16) % 65536])] w299 := H301
  refine GL.sem (j := 7) (r300) [5, 6, 8, 9, 16, 22] [(5, .int .u64 (wd x 3 : Int)), (6, .int .i64 1), (8, wv x), (9, .int .i64 3), (16, .slice A285 13 c286), (22, .slice (some ⟨p298, 0, none⟩) 1 1)] (by kernel_rfl) (by kernel_rfl) rfl ?_
  obtain ⟨A302, c303, w304, r305, H306⟩ := H301.append (P := Tryd.prog) (e := 22) (sz := 1) (by_ := 8) (n := 13) (c := c286) (m := 1) (d := 1) (t := 31) (ty := 31) (xs := dg [((wd x 0) / 2 ^ 0) % 65536, ((wd x 0) / 2 ^ 16) % 65536, ((wd x 0) / 2 ^ 32) % 65536, ((wd x 0) / 2 ^ 48) % 65536, ((wd x 1) / 2 ^ 0) % 65536, ((wd x 1) / 2 ^ 16) % 65536, ((wd x 1) / 2 ^ 32) % 65536, ((wd x 1) / 2 ^ 48) % 65536, ((wd x 2) / 2 ^ 0) % 65536, ((wd x 2) / 2 ^ 16) % 65536, ((wd x 2) / 2 ^ 32) % 65536, ((wd x 2) / 2 ^ 48) % 65536, ((wd x 3) / 2 ^ 0) % 65536]) (news := dg [((wd x 3) / 2 ^ 16) % 65536]) 1 rfl (by kernel_rfl) (H301.rdRow 15 rfl) (by simp [dg_length]) (dg_one _) (by omega) (by simp only [maxLen]; omega)
  have H306 : Hp w [] [.blk p3 [.int .u64 (wd x 0 : Int), .int .u64 (wd x 1 : Int), .int .u64 (wd x 2 : Int), .int .u64 (wd x 3 : Int)] 34, .row A302 14 c303 22 1 (dg [((wd x 0) / 2 ^ 0) % 65536, ((wd x 0) / 2 ^ 16) % 65536, ((wd x 0) / 2 ^ 32) % 65536, ((wd x 0) / 2 ^ 48) % 65536, ((wd x 1) / 2 ^ 0) % 65536, ((wd x 1) / 2 ^ 16) % 65536, ((wd x 1) / 2 ^ 32) % 65536, ((wd x 1) / 2 ^ 48) % 65536, ((wd x 2) / 2 ^ 0) % 65536, ((wd x 2) / 2 ^ 16) % 65536, ((wd x 2) / 2 ^ 32) % 65536, ((wd x 2) / 2 ^ 48) % 65536, ((wd x 3) / 2 ^ 0) % 65536, ((wd x 3) / 2 ^ 16) % 65536]), .row (some ⟨p35, 0, none⟩) 1 1 22 1 (dg [((wd x 0) / 2 ^ 0) % 65536]), .row (some ⟨p52, 0, none⟩) 1 1 22 1 (dg [((wd x 0) / 2 ^ 16) % 65536]), .row (some ⟨p69, 0, none⟩) 1 1 22 1 (dg [((wd x 0) / 2 ^ 32) % 65536]), .row (some ⟨p86, 0, none⟩) 1 1 22 1 (dg [((wd x 0) / 2 ^ 48) % 65536]), .row (some ⟨p117, 0, none⟩) 1 1 22 1 (dg [((wd x 1) / 2 ^ 0) % 65536]), .row (some ⟨p134, 0, none⟩) 1 1 22 1 (dg [((wd x 1) / 2 ^ 16) % 65536]), .row (some ⟨p151, 0, none⟩) 1 1 22 1 (dg [((wd x 1) / 2 ^ 32) % 65536]), .row (some ⟨p168, 0, none⟩) 1 1 22 1 (dg [((wd x 1) / 2 ^ 48) % 65536]), .row (some ⟨p199, 0, none⟩) 1 1 22 1 (dg [((wd x 2) / 2 ^ 0) % 65536]), .row (some ⟨p216, 0, none⟩) 1 1 22 1 (dg [((wd x 2) / 2 ^ 16) % 65536]), .row (some ⟨p233, 0, none⟩) 1 1 22 1 (dg [((wd x 2) / 2 ^ 32) % 65536]), .row (some ⟨p250, 0, none⟩) 1 1 22 1 (dg [((wd x 2) / 2 ^ 48) % 65536]), .row (some ⟨p281, 0, none⟩) 1 1 22 1 (dg [((wd x 3) / 2 ^ 0) % 65536]), .row (some ⟨p298, 0, none⟩) 1 1 22 1 (dg [((wd x 3) / 2 ^ 16) % 65536])] w304 := H306
  refine GL.sem (j := 8) (r305) [5, 6, 8, 9, 23] [(5, .int .u64 (wd x 3 : Int)), (6, .int .i64 1), (8, wv x), (9, .int .i64 3), (23, .slice A302 14 c303)] (by kernel_rfl) (by kernel_rfl) rfl ?_
  refine GL.run (j := 9) 1 [3, 5, 6, 8, 9] [(3, .slice A302 14 c303), (5, .int .u64 (wd x 3 : Int)), (6, .int .i64 1), (8, wv x), (9, .int .i64 3)] (by kernel_rfl) rfl ?_
  refine GL.k rfl hK295 (fun _ _ h => h) ?_
  refine G.region ?_
  refine GL.run (j := 3) 3 [3, 5, 6, 8, 9] [(3, .slice A302 14 c303), (5, .int .u64 (wd x 3 : Int)), (6, .int .i64 2), (8, wv x), (9, .int .i64 3)] (by kernel_rfl) rfl ?_
  refine GL.round rfl ?_
  refine G.seqK fun K307 hK308 => ?_
  refine G.seqK fun K309 hK310 => ?_
  refine G.region ?_
  refine GL.run (j := 2) 2 [3, 5, 6, 8, 9, 13] [(3, .slice A302 14 c303), (5, .int .u64 (wd x 3 : Int)), (6, .int .i64 2), (8, wv x), (9, .int .i64 3), (13, .bool true)] (by kernel_rfl) rfl ?_
  refine GL.k rfl hK310 (fun _ _ h => h) ?_
  refine G.yes rfl ?_
  refine G.skipK hK308 (fun _ _ h => h) ?_
  refine G.seqK fun K311 hK312 => ?_
  refine G.block ?_
  refine G.region ?_
  refine GL.run (j := 6) 6 [5, 6, 8, 9, 16, 21] [(5, .int .u64 (wd x 3 : Int)), (6, .int .i64 2), (8, wv x), (9, .int .i64 3), (16, .slice A302 14 c303), (21, .int .u64 (Int.tmod (Int.fdiv (wd x 3 : Int) (2 ^ 32)) 65536))] (by kernel_rfl) rfl ?_
  have e313 : (Int.fdiv (wd x 3 : Int) (2 ^ 32)) = (((wd x 3) / 2 ^ 32 : Nat) : Int) := n_shr _ 32
  have e314 : (Int.tmod (((wd x 3) / 2 ^ 32 : Nat) : Int) 65536) = ((((wd x 3) / 2 ^ 32) % 65536 : Nat) : Int) := n_rem _ 65536
  refine GL.eq (M' := [(5, .int .u64 (wd x 3 : Int)), (6, .int .i64 2), (8, wv x), (9, .int .i64 3), (16, .slice A302 14 c303), (21, .int .u64 ((((wd x 3) / 2 ^ 32) % 65536 : Nat) : Int))]) (by rw [e313, e314]) ?_
  clear e313 e314
  obtain ⟨p315, w316, r317, H318⟩ := H306.madeRow (P := Tryd.prog) (Instr.buildSlice 31 1 #[(0, .int .u64 ((((wd x 3) / 2 ^ 32) % 65536 : Nat) : Int))]) (fun b_ => .slice (some ⟨b_, 0, none⟩) 1 1) [.int .u64 ((((wd x 3) / 2 ^ 32) % 65536 : Nat) : Int)] 22 1 1 1 (by kernel_rfl) (by decide) (by decide) rfl
  have H318 : Hp w [] [.blk p3 [.int .u64 (wd x 0 : Int), .int .u64 (wd x 1 : Int), .int .u64 (wd x 2 : Int), .int .u64 (wd x 3 : Int)] 34, .row A302 14 c303 22 1 (dg [((wd x 0) / 2 ^ 0) % 65536, ((wd x 0) / 2 ^ 16) % 65536, ((wd x 0) / 2 ^ 32) % 65536, ((wd x 0) / 2 ^ 48) % 65536, ((wd x 1) / 2 ^ 0) % 65536, ((wd x 1) / 2 ^ 16) % 65536, ((wd x 1) / 2 ^ 32) % 65536, ((wd x 1) / 2 ^ 48) % 65536, ((wd x 2) / 2 ^ 0) % 65536, ((wd x 2) / 2 ^ 16) % 65536, ((wd x 2) / 2 ^ 32) % 65536, ((wd x 2) / 2 ^ 48) % 65536, ((wd x 3) / 2 ^ 0) % 65536, ((wd x 3) / 2 ^ 16) % 65536]), .row (some ⟨p35, 0, none⟩) 1 1 22 1 (dg [((wd x 0) / 2 ^ 0) % 65536]), .row (some ⟨p52, 0, none⟩) 1 1 22 1 (dg [((wd x 0) / 2 ^ 16) % 65536]), .row (some ⟨p69, 0, none⟩) 1 1 22 1 (dg [((wd x 0) / 2 ^ 32) % 65536]), .row (some ⟨p86, 0, none⟩) 1 1 22 1 (dg [((wd x 0) / 2 ^ 48) % 65536]), .row (some ⟨p117, 0, none⟩) 1 1 22 1 (dg [((wd x 1) / 2 ^ 0) % 65536]), .row (some ⟨p134, 0, none⟩) 1 1 22 1 (dg [((wd x 1) / 2 ^ 16) % 65536]), .row (some ⟨p151, 0, none⟩) 1 1 22 1 (dg [((wd x 1) / 2 ^ 32) % 65536]), .row (some ⟨p168, 0, none⟩) 1 1 22 1 (dg [((wd x 1) / 2 ^ 48) % 65536]), .row (some ⟨p199, 0, none⟩) 1 1 22 1 (dg [((wd x 2) / 2 ^ 0) % 65536]), .row (some ⟨p216, 0, none⟩) 1 1 22 1 (dg [((wd x 2) / 2 ^ 16) % 65536]), .row (some ⟨p233, 0, none⟩) 1 1 22 1 (dg [((wd x 2) / 2 ^ 32) % 65536]), .row (some ⟨p250, 0, none⟩) 1 1 22 1 (dg [((wd x 2) / 2 ^ 48) % 65536]), .row (some ⟨p281, 0, none⟩) 1 1 22 1 (dg [((wd x 3) / 2 ^ 0) % 65536]), .row (some ⟨p298, 0, none⟩) 1 1 22 1 (dg [((wd x 3) / 2 ^ 16) % 65536]), .row (some ⟨p315, 0, none⟩) 1 1 22 1 (dg [((wd x 3) / 2 ^ 32) % 65536])] w316 := H318
  refine GL.sem (j := 7) (r317) [5, 6, 8, 9, 16, 22] [(5, .int .u64 (wd x 3 : Int)), (6, .int .i64 2), (8, wv x), (9, .int .i64 3), (16, .slice A302 14 c303), (22, .slice (some ⟨p315, 0, none⟩) 1 1)] (by kernel_rfl) (by kernel_rfl) rfl ?_
  obtain ⟨A319, c320, w321, r322, H323⟩ := H318.append (P := Tryd.prog) (e := 22) (sz := 1) (by_ := 8) (n := 14) (c := c303) (m := 1) (d := 1) (t := 31) (ty := 31) (xs := dg [((wd x 0) / 2 ^ 0) % 65536, ((wd x 0) / 2 ^ 16) % 65536, ((wd x 0) / 2 ^ 32) % 65536, ((wd x 0) / 2 ^ 48) % 65536, ((wd x 1) / 2 ^ 0) % 65536, ((wd x 1) / 2 ^ 16) % 65536, ((wd x 1) / 2 ^ 32) % 65536, ((wd x 1) / 2 ^ 48) % 65536, ((wd x 2) / 2 ^ 0) % 65536, ((wd x 2) / 2 ^ 16) % 65536, ((wd x 2) / 2 ^ 32) % 65536, ((wd x 2) / 2 ^ 48) % 65536, ((wd x 3) / 2 ^ 0) % 65536, ((wd x 3) / 2 ^ 16) % 65536]) (news := dg [((wd x 3) / 2 ^ 32) % 65536]) 1 rfl (by kernel_rfl) (H318.rdRow 16 rfl) (by simp [dg_length]) (dg_one _) (by omega) (by simp only [maxLen]; omega)
  have H323 : Hp w [] [.blk p3 [.int .u64 (wd x 0 : Int), .int .u64 (wd x 1 : Int), .int .u64 (wd x 2 : Int), .int .u64 (wd x 3 : Int)] 34, .row A319 15 c320 22 1 (dg [((wd x 0) / 2 ^ 0) % 65536, ((wd x 0) / 2 ^ 16) % 65536, ((wd x 0) / 2 ^ 32) % 65536, ((wd x 0) / 2 ^ 48) % 65536, ((wd x 1) / 2 ^ 0) % 65536, ((wd x 1) / 2 ^ 16) % 65536, ((wd x 1) / 2 ^ 32) % 65536, ((wd x 1) / 2 ^ 48) % 65536, ((wd x 2) / 2 ^ 0) % 65536, ((wd x 2) / 2 ^ 16) % 65536, ((wd x 2) / 2 ^ 32) % 65536, ((wd x 2) / 2 ^ 48) % 65536, ((wd x 3) / 2 ^ 0) % 65536, ((wd x 3) / 2 ^ 16) % 65536, ((wd x 3) / 2 ^ 32) % 65536]), .row (some ⟨p35, 0, none⟩) 1 1 22 1 (dg [((wd x 0) / 2 ^ 0) % 65536]), .row (some ⟨p52, 0, none⟩) 1 1 22 1 (dg [((wd x 0) / 2 ^ 16) % 65536]), .row (some ⟨p69, 0, none⟩) 1 1 22 1 (dg [((wd x 0) / 2 ^ 32) % 65536]), .row (some ⟨p86, 0, none⟩) 1 1 22 1 (dg [((wd x 0) / 2 ^ 48) % 65536]), .row (some ⟨p117, 0, none⟩) 1 1 22 1 (dg [((wd x 1) / 2 ^ 0) % 65536]), .row (some ⟨p134, 0, none⟩) 1 1 22 1 (dg [((wd x 1) / 2 ^ 16) % 65536]), .row (some ⟨p151, 0, none⟩) 1 1 22 1 (dg [((wd x 1) / 2 ^ 32) % 65536]), .row (some ⟨p168, 0, none⟩) 1 1 22 1 (dg [((wd x 1) / 2 ^ 48) % 65536]), .row (some ⟨p199, 0, none⟩) 1 1 22 1 (dg [((wd x 2) / 2 ^ 0) % 65536]), .row (some ⟨p216, 0, none⟩) 1 1 22 1 (dg [((wd x 2) / 2 ^ 16) % 65536]), .row (some ⟨p233, 0, none⟩) 1 1 22 1 (dg [((wd x 2) / 2 ^ 32) % 65536]), .row (some ⟨p250, 0, none⟩) 1 1 22 1 (dg [((wd x 2) / 2 ^ 48) % 65536]), .row (some ⟨p281, 0, none⟩) 1 1 22 1 (dg [((wd x 3) / 2 ^ 0) % 65536]), .row (some ⟨p298, 0, none⟩) 1 1 22 1 (dg [((wd x 3) / 2 ^ 16) % 65536]), .row (some ⟨p315, 0, none⟩) 1 1 22 1 (dg [((wd x 3) / 2 ^ 32) % 65536])] w321 := H323
  refine GL.sem (j := 8) (r322) [5, 6, 8, 9, 23] [(5, .int .u64 (wd x 3 : Int)), (6, .int .i64 2), (8, wv x), (9, .int .i64 3), (23, .slice A319 15 c320)] (by kernel_rfl) (by kernel_rfl) rfl ?_
  refine GL.run (j := 9) 1 [3, 5, 6, 8, 9] [(3, .slice A319 15 c320), (5, .int .u64 (wd x 3 : Int)), (6, .int .i64 2), (8, wv x), (9, .int .i64 3)] (by kernel_rfl) rfl ?_
  refine GL.k rfl hK312 (fun _ _ h => h) ?_
  refine G.region ?_
  refine GL.run (j := 3) 3 [3, 5, 6, 8, 9] [(3, .slice A319 15 c320), (5, .int .u64 (wd x 3 : Int)), (6, .int .i64 3), (8, wv x), (9, .int .i64 3)] (by kernel_rfl) rfl ?_
  refine GL.round rfl ?_
  refine G.seqK fun K324 hK325 => ?_
  refine G.seqK fun K326 hK327 => ?_
  refine G.region ?_
  refine GL.run (j := 2) 2 [3, 5, 6, 8, 9, 13] [(3, .slice A319 15 c320), (5, .int .u64 (wd x 3 : Int)), (6, .int .i64 3), (8, wv x), (9, .int .i64 3), (13, .bool true)] (by kernel_rfl) rfl ?_
  refine GL.k rfl hK327 (fun _ _ h => h) ?_
  refine G.yes rfl ?_
  refine G.skipK hK325 (fun _ _ h => h) ?_
  refine G.seqK fun K328 hK329 => ?_
  refine G.block ?_
  refine G.region ?_
  refine GL.run (j := 6) 6 [5, 6, 8, 9, 16, 21] [(5, .int .u64 (wd x 3 : Int)), (6, .int .i64 3), (8, wv x), (9, .int .i64 3), (16, .slice A319 15 c320), (21, .int .u64 (Int.tmod (Int.fdiv (wd x 3 : Int) (2 ^ 48)) 65536))] (by kernel_rfl) rfl ?_
  have e330 : (Int.fdiv (wd x 3 : Int) (2 ^ 48)) = (((wd x 3) / 2 ^ 48 : Nat) : Int) := n_shr _ 48
  have e331 : (Int.tmod (((wd x 3) / 2 ^ 48 : Nat) : Int) 65536) = ((((wd x 3) / 2 ^ 48) % 65536 : Nat) : Int) := n_rem _ 65536
  refine GL.eq (M' := [(5, .int .u64 (wd x 3 : Int)), (6, .int .i64 3), (8, wv x), (9, .int .i64 3), (16, .slice A319 15 c320), (21, .int .u64 ((((wd x 3) / 2 ^ 48) % 65536 : Nat) : Int))]) (by rw [e330, e331]) ?_
  clear e330 e331
  obtain ⟨p332, w333, r334, H335⟩ := H323.madeRow (P := Tryd.prog) (Instr.buildSlice 31 1 #[(0, .int .u64 ((((wd x 3) / 2 ^ 48) % 65536 : Nat) : Int))]) (fun b_ => .slice (some ⟨b_, 0, none⟩) 1 1) [.int .u64 ((((wd x 3) / 2 ^ 48) % 65536 : Nat) : Int)] 22 1 1 1 (by kernel_rfl) (by decide) (by decide) rfl
  have H335 : Hp w [] [.blk p3 [.int .u64 (wd x 0 : Int), .int .u64 (wd x 1 : Int), .int .u64 (wd x 2 : Int), .int .u64 (wd x 3 : Int)] 34, .row A319 15 c320 22 1 (dg [((wd x 0) / 2 ^ 0) % 65536, ((wd x 0) / 2 ^ 16) % 65536, ((wd x 0) / 2 ^ 32) % 65536, ((wd x 0) / 2 ^ 48) % 65536, ((wd x 1) / 2 ^ 0) % 65536, ((wd x 1) / 2 ^ 16) % 65536, ((wd x 1) / 2 ^ 32) % 65536, ((wd x 1) / 2 ^ 48) % 65536, ((wd x 2) / 2 ^ 0) % 65536, ((wd x 2) / 2 ^ 16) % 65536, ((wd x 2) / 2 ^ 32) % 65536, ((wd x 2) / 2 ^ 48) % 65536, ((wd x 3) / 2 ^ 0) % 65536, ((wd x 3) / 2 ^ 16) % 65536, ((wd x 3) / 2 ^ 32) % 65536]), .row (some ⟨p35, 0, none⟩) 1 1 22 1 (dg [((wd x 0) / 2 ^ 0) % 65536]), .row (some ⟨p52, 0, none⟩) 1 1 22 1 (dg [((wd x 0) / 2 ^ 16) % 65536]), .row (some ⟨p69, 0, none⟩) 1 1 22 1 (dg [((wd x 0) / 2 ^ 32) % 65536]), .row (some ⟨p86, 0, none⟩) 1 1 22 1 (dg [((wd x 0) / 2 ^ 48) % 65536]), .row (some ⟨p117, 0, none⟩) 1 1 22 1 (dg [((wd x 1) / 2 ^ 0) % 65536]), .row (some ⟨p134, 0, none⟩) 1 1 22 1 (dg [((wd x 1) / 2 ^ 16) % 65536]), .row (some ⟨p151, 0, none⟩) 1 1 22 1 (dg [((wd x 1) / 2 ^ 32) % 65536]), .row (some ⟨p168, 0, none⟩) 1 1 22 1 (dg [((wd x 1) / 2 ^ 48) % 65536]), .row (some ⟨p199, 0, none⟩) 1 1 22 1 (dg [((wd x 2) / 2 ^ 0) % 65536]), .row (some ⟨p216, 0, none⟩) 1 1 22 1 (dg [((wd x 2) / 2 ^ 16) % 65536]), .row (some ⟨p233, 0, none⟩) 1 1 22 1 (dg [((wd x 2) / 2 ^ 32) % 65536]), .row (some ⟨p250, 0, none⟩) 1 1 22 1 (dg [((wd x 2) / 2 ^ 48) % 65536]), .row (some ⟨p281, 0, none⟩) 1 1 22 1 (dg [((wd x 3) / 2 ^ 0) % 65536]), .row (some ⟨p298, 0, none⟩) 1 1 22 1 (dg [((wd x 3) / 2 ^ 16) % 65536]), .row (some ⟨p315, 0, none⟩) 1 1 22 1 (dg [((wd x 3) / 2 ^ 32) % 65536]), .row (some ⟨p332, 0, none⟩) 1 1 22 1 (dg [((wd x 3) / 2 ^ 48) % 65536])] w333 := H335
  refine GL.sem (j := 7) (r334) [5, 6, 8, 9, 16, 22] [(5, .int .u64 (wd x 3 : Int)), (6, .int .i64 3), (8, wv x), (9, .int .i64 3), (16, .slice A319 15 c320), (22, .slice (some ⟨p332, 0, none⟩) 1 1)] (by kernel_rfl) (by kernel_rfl) rfl ?_
  obtain ⟨A336, c337, w338, r339, H340⟩ := H335.append (P := Tryd.prog) (e := 22) (sz := 1) (by_ := 8) (n := 15) (c := c320) (m := 1) (d := 1) (t := 31) (ty := 31) (xs := dg [((wd x 0) / 2 ^ 0) % 65536, ((wd x 0) / 2 ^ 16) % 65536, ((wd x 0) / 2 ^ 32) % 65536, ((wd x 0) / 2 ^ 48) % 65536, ((wd x 1) / 2 ^ 0) % 65536, ((wd x 1) / 2 ^ 16) % 65536, ((wd x 1) / 2 ^ 32) % 65536, ((wd x 1) / 2 ^ 48) % 65536, ((wd x 2) / 2 ^ 0) % 65536, ((wd x 2) / 2 ^ 16) % 65536, ((wd x 2) / 2 ^ 32) % 65536, ((wd x 2) / 2 ^ 48) % 65536, ((wd x 3) / 2 ^ 0) % 65536, ((wd x 3) / 2 ^ 16) % 65536, ((wd x 3) / 2 ^ 32) % 65536]) (news := dg [((wd x 3) / 2 ^ 48) % 65536]) 1 rfl (by kernel_rfl) (H335.rdRow 17 rfl) (by simp [dg_length]) (dg_one _) (by omega) (by simp only [maxLen]; omega)
  have H340 : Hp w [] [.blk p3 [.int .u64 (wd x 0 : Int), .int .u64 (wd x 1 : Int), .int .u64 (wd x 2 : Int), .int .u64 (wd x 3 : Int)] 34, .row A336 16 c337 22 1 (dg [((wd x 0) / 2 ^ 0) % 65536, ((wd x 0) / 2 ^ 16) % 65536, ((wd x 0) / 2 ^ 32) % 65536, ((wd x 0) / 2 ^ 48) % 65536, ((wd x 1) / 2 ^ 0) % 65536, ((wd x 1) / 2 ^ 16) % 65536, ((wd x 1) / 2 ^ 32) % 65536, ((wd x 1) / 2 ^ 48) % 65536, ((wd x 2) / 2 ^ 0) % 65536, ((wd x 2) / 2 ^ 16) % 65536, ((wd x 2) / 2 ^ 32) % 65536, ((wd x 2) / 2 ^ 48) % 65536, ((wd x 3) / 2 ^ 0) % 65536, ((wd x 3) / 2 ^ 16) % 65536, ((wd x 3) / 2 ^ 32) % 65536, ((wd x 3) / 2 ^ 48) % 65536]), .row (some ⟨p35, 0, none⟩) 1 1 22 1 (dg [((wd x 0) / 2 ^ 0) % 65536]), .row (some ⟨p52, 0, none⟩) 1 1 22 1 (dg [((wd x 0) / 2 ^ 16) % 65536]), .row (some ⟨p69, 0, none⟩) 1 1 22 1 (dg [((wd x 0) / 2 ^ 32) % 65536]), .row (some ⟨p86, 0, none⟩) 1 1 22 1 (dg [((wd x 0) / 2 ^ 48) % 65536]), .row (some ⟨p117, 0, none⟩) 1 1 22 1 (dg [((wd x 1) / 2 ^ 0) % 65536]), .row (some ⟨p134, 0, none⟩) 1 1 22 1 (dg [((wd x 1) / 2 ^ 16) % 65536]), .row (some ⟨p151, 0, none⟩) 1 1 22 1 (dg [((wd x 1) / 2 ^ 32) % 65536]), .row (some ⟨p168, 0, none⟩) 1 1 22 1 (dg [((wd x 1) / 2 ^ 48) % 65536]), .row (some ⟨p199, 0, none⟩) 1 1 22 1 (dg [((wd x 2) / 2 ^ 0) % 65536]), .row (some ⟨p216, 0, none⟩) 1 1 22 1 (dg [((wd x 2) / 2 ^ 16) % 65536]), .row (some ⟨p233, 0, none⟩) 1 1 22 1 (dg [((wd x 2) / 2 ^ 32) % 65536]), .row (some ⟨p250, 0, none⟩) 1 1 22 1 (dg [((wd x 2) / 2 ^ 48) % 65536]), .row (some ⟨p281, 0, none⟩) 1 1 22 1 (dg [((wd x 3) / 2 ^ 0) % 65536]), .row (some ⟨p298, 0, none⟩) 1 1 22 1 (dg [((wd x 3) / 2 ^ 16) % 65536]), .row (some ⟨p315, 0, none⟩) 1 1 22 1 (dg [((wd x 3) / 2 ^ 32) % 65536]), .row (some ⟨p332, 0, none⟩) 1 1 22 1 (dg [((wd x 3) / 2 ^ 48) % 65536])] w338 := H340
  refine GL.sem (j := 8) (r339) [5, 6, 8, 9, 23] [(5, .int .u64 (wd x 3 : Int)), (6, .int .i64 3), (8, wv x), (9, .int .i64 3), (23, .slice A336 16 c337)] (by kernel_rfl) (by kernel_rfl) rfl ?_
  refine GL.run (j := 9) 1 [3, 5, 6, 8, 9] [(3, .slice A336 16 c337), (5, .int .u64 (wd x 3 : Int)), (6, .int .i64 3), (8, wv x), (9, .int .i64 3)] (by kernel_rfl) rfl ?_
  refine GL.k rfl hK329 (fun _ _ h => h) ?_
  refine G.region ?_
  refine GL.run (j := 3) 3 [3, 5, 6, 8, 9] [(3, .slice A336 16 c337), (5, .int .u64 (wd x 3 : Int)), (6, .int .i64 4), (8, wv x), (9, .int .i64 3)] (by kernel_rfl) rfl ?_
  refine GL.round rfl ?_
  refine G.seqK fun K341 hK342 => ?_
  refine G.seqK fun K343 hK344 => ?_
  refine G.region ?_
  refine GL.run (j := 2) 2 [3, 5, 6, 8, 9, 13] [(3, .slice A336 16 c337), (5, .int .u64 (wd x 3 : Int)), (6, .int .i64 4), (8, wv x), (9, .int .i64 3), (13, .bool false)] (by kernel_rfl) rfl ?_
  refine GL.k rfl hK344 (fun _ _ h => h) ?_
  refine G.no rfl ?_
  refine G.exitK hK268 (fun _ _ h => h) ?_
  refine G.region ?_
  refine GL.run (j := 2) 2 [3, 8, 9] [(3, .slice A336 16 c337), (8, wv x), (9, .int .i64 4)] (by kernel_rfl) rfl ?_
  refine GL.round rfl ?_
  refine G.seqK fun K345 hK346 => ?_
  refine G.region ?_
  refine GL.run (j := 1) 1 [3, 8, 9, 10] [(3, .slice A336 16 c337), (8, wv x), (9, .int .i64 4), (10, .bool false)] (by kernel_rfl) rfl ?_
  refine GL.k rfl hK346 (fun _ _ h => h) ?_
  refine G.seqK fun K347 hK348 => ?_
  refine G.no rfl ?_
  refine G.exitK hK14 (fun _ _ h => h) ?_
  refine G.seqK fun K349 hK350 => ?_
  refine G.region ?_
  refine GL.run (j := 1) 1 [25] [(25, .slice A336 16 c337)] (by kernel_rfl) rfl ?_
  have hw := words_digs hx (ds := [((wd x 0) / 2 ^ 0) % 65536, ((wd x 0) / 2 ^ 16) % 65536, ((wd x 0) / 2 ^ 32) % 65536, ((wd x 0) / 2 ^ 48) % 65536, ((wd x 1) / 2 ^ 0) % 65536, ((wd x 1) / 2 ^ 16) % 65536, ((wd x 1) / 2 ^ 32) % 65536, ((wd x 1) / 2 ^ 48) % 65536, ((wd x 2) / 2 ^ 0) % 65536, ((wd x 2) / 2 ^ 16) % 65536, ((wd x 2) / 2 ^ 32) % 65536, ((wd x 2) / 2 ^ 48) % 65536, ((wd x 3) / 2 ^ 0) % 65536, ((wd x 3) / 2 ^ 16) % 65536, ((wd x 3) / 2 ^ 32) % 65536, ((wd x 3) / 2 ^ 48) % 65536]) rfl
  refine GL.call (j := 2) (trim_calls [((wd x 0) / 2 ^ 0) % 65536, ((wd x 0) / 2 ^ 16) % 65536, ((wd x 0) / 2 ^ 32) % 65536, ((wd x 0) / 2 ^ 48) % 65536, ((wd x 1) / 2 ^ 0) % 65536, ((wd x 1) / 2 ^ 16) % 65536, ((wd x 1) / 2 ^ 32) % 65536, ((wd x 1) / 2 ^ 48) % 65536, ((wd x 2) / 2 ^ 0) % 65536, ((wd x 2) / 2 ^ 16) % 65536, ((wd x 2) / 2 ^ 32) % 65536, ((wd x 2) / 2 ^ 48) % 65536, ((wd x 3) / 2 ^ 0) % 65536, ((wd x 3) / 2 ^ 16) % 65536, ((wd x 3) / 2 ^ 32) % 65536, ((wd x 3) / 2 ^ 48) % 65536] 16 (rfl) A336 c337 w338 (H340.rdRow 1 rfl) (hw.2) (H340.rowLe 1 rfl).1 (by omega)) (by kernel_rfl) rfl (fun e_ w351 hR => ?_)
  obtain ⟨rfl, H353⟩ := hR
  have H352 := (H340.callNil H353).shrinkD 1 rfl (rfl) (hw.2)
  rw [hw.1] at H352
  rw [hw.1]
  have H352 : Hp w [] [.blk p3 [.int .u64 (wd x 0 : Int), .int .u64 (wd x 1 : Int), .int .u64 (wd x 2 : Int), .int .u64 (wd x 3 : Int)] 34, .row A336 (ndg x) c337 22 1 (dg (digs x)), .row (some ⟨p35, 0, none⟩) 1 1 22 1 (dg [((wd x 0) / 2 ^ 0) % 65536]), .row (some ⟨p52, 0, none⟩) 1 1 22 1 (dg [((wd x 0) / 2 ^ 16) % 65536]), .row (some ⟨p69, 0, none⟩) 1 1 22 1 (dg [((wd x 0) / 2 ^ 32) % 65536]), .row (some ⟨p86, 0, none⟩) 1 1 22 1 (dg [((wd x 0) / 2 ^ 48) % 65536]), .row (some ⟨p117, 0, none⟩) 1 1 22 1 (dg [((wd x 1) / 2 ^ 0) % 65536]), .row (some ⟨p134, 0, none⟩) 1 1 22 1 (dg [((wd x 1) / 2 ^ 16) % 65536]), .row (some ⟨p151, 0, none⟩) 1 1 22 1 (dg [((wd x 1) / 2 ^ 32) % 65536]), .row (some ⟨p168, 0, none⟩) 1 1 22 1 (dg [((wd x 1) / 2 ^ 48) % 65536]), .row (some ⟨p199, 0, none⟩) 1 1 22 1 (dg [((wd x 2) / 2 ^ 0) % 65536]), .row (some ⟨p216, 0, none⟩) 1 1 22 1 (dg [((wd x 2) / 2 ^ 16) % 65536]), .row (some ⟨p233, 0, none⟩) 1 1 22 1 (dg [((wd x 2) / 2 ^ 32) % 65536]), .row (some ⟨p250, 0, none⟩) 1 1 22 1 (dg [((wd x 2) / 2 ^ 48) % 65536]), .row (some ⟨p281, 0, none⟩) 1 1 22 1 (dg [((wd x 3) / 2 ^ 0) % 65536]), .row (some ⟨p298, 0, none⟩) 1 1 22 1 (dg [((wd x 3) / 2 ^ 16) % 65536]), .row (some ⟨p315, 0, none⟩) 1 1 22 1 (dg [((wd x 3) / 2 ^ 32) % 65536]), .row (some ⟨p332, 0, none⟩) 1 1 22 1 (dg [((wd x 3) / 2 ^ 48) % 65536])] w351 := H352
  refine ⟨_, rfl, [26], [(26, .slice A336 (ndg x) c337)], by kernel_rfl, ?_⟩
  refine GL.run (j := 3) 1 [2] [(2, .slice A336 (ndg x) c337)] (by kernel_rfl) rfl ?_
  refine GL.k rfl hK350 (fun _ _ h => h) ?_
  refine G.ret ?_
  intro F_ hF_ hM_
  refine hRet _ _ (bodyPost_1 rfl (RV.tmp rfl) ?_ F_ hF_ hM_)
  have H354 : Hp w [] [.row A336 (ndg x) c337 22 1 (dg (digs x))] w351 := H352.sub (List.Sublist.cons _ (List.Sublist.cons_cons _ (List.Sublist.cons _ (List.Sublist.cons _ (List.Sublist.cons _ (List.Sublist.cons _ (List.Sublist.cons _ (List.Sublist.cons _ (List.Sublist.cons _ (List.Sublist.cons _ (List.Sublist.cons _ (List.Sublist.cons _ (List.Sublist.cons _ (List.Sublist.cons _ (List.Sublist.cons _ (List.Sublist.cons _ (List.Sublist.cons _ (List.Sublist.cons _ (List.Sublist.slnil)))))))))))))))))))
  exact ⟨_, _, rfl, H354⟩
theorem Of1_calls_n (x : Nat) (hx : x < K) (w : World) : Calls Tryd.prog 9 #[.agg #[.int .u64 (x : Int), .int .u64 0, .int .u64 0, .int .u64 0]] w fun e w' => ∃ A c, e = .returned ((.slice A (ndg x) c)) ∧ Hp w [] [.row A (ndg x) c 22 1 (dg (digs x))] w' := by
  rw [of_fin hx]
  exact Of_calls_n x (Nat.lt_trans hx (by decide)) w
theorem CmpN_calls (a b : Nat) (A B : Option Addr) (c d : Nat) (w : World) (hr : RdS w A (dg (digs a))) (hs : RdS w B (dg (digs b))) (hna : ndg a ≤ 1000000) (hnb : ndg b ≤ 1000000) : Calls Tryd.prog 10 #[.slice A (ndg a) c, .slice B (ndg b) d] w fun e w' => e = .returned (.int .i64 (cmpN a b)) ∧ Hp w [] [] w' := by
  refine calls_G (args := [.slice A (ndg a) c, .slice B (ndg b) d]) Tryd.func10 rfl Tryd.ntmps10 rfl ?_
  intro Q0 hRet hNor hPan
  have H := Hp.start w
  have H : Hp w [] [] w := H
  refine G.seqK fun K1 hK2 => ?_
  refine G.region ?_
  refine GL.run (j := 1) 1 [0, 1] [(0, .slice A (ndg a) c), (1, .slice B (ndg b) d)] (by kernel_rfl) rfl ?_
  refine GL.k rfl hK2 (fun _ _ h => h) ?_
  refine G.seqK fun K3 hK4 => ?_
  refine G.seqK fun K5 hK6 => ?_
  refine G.region ?_
  refine GL.run (j := 7) 7 [0, 1, 5] [(0, .slice A (ndg a) c), (1, .slice B (ndg b) d), (5, .int .i64 (IntKind.i64.wrap ((if (((ndg b) : Nat) : Int) > (((ndg a) : Nat) : Int) then (((ndg b) : Nat) : Int) else (((ndg a) : Nat) : Int)) - 1)))] (by kernel_rfl) rfl ?_
  have e7 : (if (((ndg b) : Nat) : Int) > (((ndg a) : Nat) : Int) then (((ndg b) : Nat) : Int) else (((ndg a) : Nat) : Int)) = (((max (ndg a) (ndg b)) : Nat) : Int) := max_int (ndg a) (ndg b)
  have e8 : (IntKind.i64.wrap ((((max (ndg a) (ndg b)) : Nat) : Int) - 1)) = ((((max (ndg a) (ndg b)) : Nat) : Int) - 1) := in_i64 (by omega)
  refine GL.eq (M' := [(0, .slice A (ndg a) c), (1, .slice B (ndg b) d), (5, .int .i64 ((((max (ndg a) (ndg b)) : Nat) : Int) - 1))]) (by rw [e7, e8]) ?_
  clear e7 e8
  refine GL.k rfl hK6 (fun _ _ h => h) ?_
  refine G.block ?_
  refine G.fit [0, 1, 5] (M' := [(0, .slice A (ndg a) c), (1, .slice B (ndg b) d), (5, .int .i64 ((((max (ndg a) (ndg b)) : Nat) : Int) - 1))]) (by kernel_rfl) ?_
  refine G.loop (X := Nat) (fun m => [(0, .slice A (ndg a) c), (1, .slice B (ndg b) d), (5, .int .i64 (((m : Nat) : Int) - 1))]) (fun m w_ => (m ≤ 1000000 ∧ a / 65536 ^ m = b / 65536 ^ m) ∧ Hp w [] [] w_) (fun m => m) (max (ndg a) (ndg b)) [0, 1, 5] (by kernel_rfl) ⟨⟨by omega, by rw [Nat.div_eq_of_lt (ndg_le.1 (Nat.le_max_left _ _)), Nat.div_eq_of_lt (ndg_le.1 (Nat.le_max_right _ _))]⟩, H⟩ ?_
  rintro m w9 ⟨hi10, H11⟩
  refine G.eq (M' := [(0, .slice A (ndg a) c), (1, .slice B (ndg b) d), (5, .int .i64 (((m : Nat) : Int) - 1))]) rfl ?_
  have H11 : Hp w [] [] w9 := H11
  obtain ⟨hm, hv⟩ := hi10
  refine G.seqK fun K12 hK13 => ?_
  refine G.seqK fun K14 hK15 => ?_
  refine G.region ?_
  refine GL.run (j := 2) 2 [0, 1, 5, 15] [(0, .slice A (ndg a) c), (1, .slice B (ndg b) d), (5, .int .i64 (((m : Nat) : Int) - 1)), (15, .bool (decide (0 ≤ (((m : Nat) : Int) - 1))))] (by kernel_rfl) rfl ?_
  refine GL.k rfl hK15 (fun _ _ h => h) ?_
  cases hb16 : (decide (0 ≤ (((m : Nat) : Int) - 1)))
  · skip
    have hb16f := of_decide_eq_false hb16
    have hm0 : m = 0 := by omega
    refine G.no rfl ?_
    refine G.exitK hK4 (fun _ _ h => h) ?_
    refine G.seqK fun K17 hK18 => ?_
    refine G.region ?_
    refine GL.run (j := 1) 1 [4] [(4, .int .i64 0)] (by kernel_rfl) rfl ?_
    refine GL.k rfl hK18 (fun _ _ h => h) ?_
    refine G.ret ?_
    intro F_ hF_ hM_
    refine hRet _ _ (bodyPost_1 rfl (RV.tmp rfl) ?_ F_ hF_ hM_)
    rw [hm0, Nat.pow_zero, Nat.div_one, Nat.div_one] at hv
    rw [← cmp_eq hv]
    exact ⟨rfl, H11.sub (List.nil_sublist _)⟩
  · skip
    have hb16f := of_decide_eq_true hb16
    have hm0 : 0 < m := by omega
    have ei : (((m : Nat) : Int) - 1) = ((m - 1 : Nat) : Int) := by omega
    refine G.eq (M' := [(0, .slice A (ndg a) c), (1, .slice B (ndg b) d), (5, .int .i64 ((m - 1 : Nat) : Int)), (15, .bool true)]) (by rw [ei]) ?_
    refine G.yes rfl ?_
    refine G.skipK hK13 (fun _ _ h => h) ?_
    refine G.seqK fun K19 hK20 => ?_
    refine G.block ?_
    refine G.seqK fun K21 hK22 => ?_
    refine G.region ?_
    refine GL.run (j := 2) 2 [0, 1, 5, 18, 19] [(0, .slice A (ndg a) c), (1, .slice B (ndg b) d), (5, .int .i64 ((m - 1 : Nat) : Int)), (18, .slice A (ndg a) c), (19, .int .i64 ((m - 1 : Nat) : Int))] (by kernel_rfl) rfl ?_
    refine GL.call (j := 3) (digit_calls a (m - 1) A c w9 (hr.hp H11)) (by kernel_rfl) rfl (fun e_ w23 hR => ?_)
    obtain ⟨rfl, H25⟩ := hR
    have H24 : Hp w [] [] w23 := H11.callNil H25
    refine ⟨_, rfl, [0, 1, 5, 20], [(0, .slice A (ndg a) c), (1, .slice B (ndg b) d), (5, .int .i64 ((m - 1 : Nat) : Int)), (20, .int .u64 ((dgt a (m - 1)) : Int))], by kernel_rfl, ?_⟩
    refine GL.run (j := 5) 2 [0, 1, 5, 20, 21, 22] [(0, .slice A (ndg a) c), (1, .slice B (ndg b) d), (5, .int .i64 ((m - 1 : Nat) : Int)), (20, .int .u64 ((dgt a (m - 1)) : Int)), (21, .slice B (ndg b) d), (22, .int .i64 ((m - 1 : Nat) : Int))] (by kernel_rfl) rfl ?_
    refine GL.call (j := 6) (digit_calls b (m - 1) B d w23 (hs.hp H24)) (by kernel_rfl) rfl (fun e_ w26 hR => ?_)
    obtain ⟨rfl, H28⟩ := hR
    have H27 : Hp w [] [] w26 := H24.callNil H28
    refine ⟨_, rfl, [0, 1, 5, 20, 23], [(0, .slice A (ndg a) c), (1, .slice B (ndg b) d), (5, .int .i64 ((m - 1 : Nat) : Int)), (20, .int .u64 ((dgt a (m - 1)) : Int)), (23, .int .u64 ((dgt b (m - 1)) : Int))], by kernel_rfl, ?_⟩
    refine GL.run (j := 8) 2 [0, 1, 5, 6, 7] [(0, .slice A (ndg a) c), (1, .slice B (ndg b) d), (5, .int .i64 ((m - 1 : Nat) : Int)), (6, .int .u64 ((dgt a (m - 1)) : Int)), (7, .int .u64 ((dgt b (m - 1)) : Int))] (by kernel_rfl) rfl ?_
    refine GL.k rfl hK22 (fun _ _ h => h) ?_
    refine G.seqK fun K29 hK30 => ?_
    refine G.seqK fun K31 hK32 => ?_
    refine G.region ?_
    refine GL.run (j := 3) 3 [0, 1, 5, 6, 7, 26] [(0, .slice A (ndg a) c), (1, .slice B (ndg b) d), (5, .int .i64 ((m - 1 : Nat) : Int)), (6, .int .u64 ((dgt a (m - 1)) : Int)), (7, .int .u64 ((dgt b (m - 1)) : Int)), (26, .bool (decide (((dgt a (m - 1)) : Int) < ((dgt b (m - 1)) : Int))))] (by kernel_rfl) rfl ?_
    refine GL.k rfl hK32 (fun _ _ h => h) ?_
    cases hb33 : (decide (((dgt a (m - 1)) : Int) < ((dgt b (m - 1)) : Int)))
    · skip
      have hb33f := of_decide_eq_false hb33
      refine G.no rfl ?_
      refine G.skipK hK30 (fun _ _ h => h) ?_
      refine G.seqK fun K34 hK35 => ?_
      refine G.region ?_
      refine GL.run (j := 3) 3 [0, 1, 5, 29] [(0, .slice A (ndg a) c), (1, .slice B (ndg b) d), (5, .int .i64 ((m - 1 : Nat) : Int)), (29, .bool (decide (((dgt b (m - 1)) : Int) < ((dgt a (m - 1)) : Int))))] (by kernel_rfl) rfl ?_
      refine GL.k rfl hK35 (fun _ _ h => h) ?_
      cases hb36 : (decide (((dgt b (m - 1)) : Int) < ((dgt a (m - 1)) : Int)))
      · skip
        have hb36f := of_decide_eq_false hb36
        refine G.no rfl ?_
        refine G.skipK hK20 (fun _ _ h => h) ?_
        refine G.region ?_
        refine GL.run (j := 3) 3 [0, 1, 5] [(0, .slice A (ndg a) c), (1, .slice B (ndg b) d), (5, .int .i64 (IntKind.i64.wrap (((m - 1 : Nat) : Int) - 1)))] (by kernel_rfl) rfl ?_
        have e37 : (IntKind.i64.wrap (((m - 1 : Nat) : Int) - 1)) = (((m - 1 : Nat) : Int) - 1) := in_i64 (by omega)
        refine GL.eq (M' := [(0, .slice A (ndg a) c), (1, .slice B (ndg b) d), (5, .int .i64 (((m - 1 : Nat) : Int) - 1))]) (by rw [e37]) ?_
        clear e37
        refine GL.fit (ts := [0, 1, 5]) (M' := [(0, .slice A (ndg a) c), (1, .slice B (ndg b) d), (5, .int .i64 (((m - 1 : Nat) : Int) - 1))]) (by kernel_rfl) ?_
        refine GL.eq (M' := [(0, .slice A (ndg a) c), (1, .slice B (ndg b) d), (5, .int .i64 ((((m - 1) : Nat) : Int) - 1))]) (by rfl) ?_
        exact GL.again (m - 1) [0, 1, 5] rfl (by kernel_rfl) (by show (m - 1) < m; omega) ⟨⟨by omega, by rw [high_step a (m - 1), high_step b (m - 1), show m - 1 + 1 = m from by omega, hv]; omega⟩, H27⟩
      · skip
        have hb36f := of_decide_eq_true hb36
        refine G.yes rfl ?_
        refine G.seqK fun K38 hK39 => ?_
        refine G.region ?_
        refine GL.run (j := 1) 1 [4] [(4, .int .i64 1)] (by kernel_rfl) rfl ?_
        refine GL.k rfl hK39 (fun _ _ h => h) ?_
        refine G.ret ?_
        intro F_ hF_ hM_
        refine hRet _ _ (bodyPost_1 rfl (RV.tmp rfl) ?_ F_ hF_ hM_)
        rw [← cmp_gt (cmp_high (p := 65536 ^ (m - 1)) (by rw [high_step a (m - 1), high_step b (m - 1), show m - 1 + 1 = m from by omega, hv]; omega))]
        exact ⟨rfl, H27.sub (List.nil_sublist _)⟩
    · skip
      have hb33f := of_decide_eq_true hb33
      refine G.yes rfl ?_
      refine G.seqK fun K40 hK41 => ?_
      refine G.region ?_
      refine GL.run (j := 1) 1 [4] [(4, .int .i64 (-1))] (by kernel_rfl) rfl ?_
      refine GL.k rfl hK41 (fun _ _ h => h) ?_
      refine G.ret ?_
      intro F_ hF_ hM_
      refine hRet _ _ (bodyPost_1 rfl (RV.tmp rfl) ?_ F_ hF_ hM_)
      rw [← cmp_lt (cmp_high (p := 65536 ^ (m - 1)) (by rw [high_step a (m - 1), high_step b (m - 1), show m - 1 + 1 = m from by omega, hv]; omega))]
      exact ⟨rfl, H27.sub (List.nil_sublist _)⟩
theorem AddN_calls (a b : Nat) (A : Option Addr) (c : Nat) (B : Option Addr) (d : Nat) (w : World) (hr : RdS w A (dg (digs a))) (hs : RdS w B (dg (digs b))) (hna : ndg a ≤ 100000) (hnb : ndg b ≤ 100000) : Calls Tryd.prog 7 #[.slice A (ndg a) c, .slice B (ndg b) d] w fun e w' => ∃ A c, e = .returned ((.slice A (ndg (a + b)) c)) ∧ Hp w [] [.row A (ndg (a + b)) c 22 1 (dg (digs (a + b)))] w' := by
  have hMX : MX = 4611686018427387904 := rfl
  have hK0 : K = 18446744073709551616 := rfl
  have hK40 : K4 = 115792089237316195423570985008687907853269984665640564039457584007913129639936 := rfl
  refine calls_G (args := [.slice A (ndg a) c, .slice B (ndg b) d]) Tryd.func7 rfl Tryd.ntmps7 rfl ?_
  intro Q0 hRet hNor hPan
  have H := Hp.start w
  have H : Hp w [] [] w := H
  refine G.seqK fun K1 hK2 => ?_
  refine G.region ?_
  refine GL.run (j := 1) 1 [0, 1] [(0, .slice A (ndg a) c), (1, .slice B (ndg b) d)] (by kernel_rfl) rfl ?_
  refine GL.k rfl hK2 (fun _ _ h => h) ?_
  refine G.seqK fun K3 hK4 => ?_
  refine G.region ?_
  obtain ⟨p5, w6, r7, H8⟩ := H.madeRow (P := Tryd.prog) (Instr.buildSlice 31 0 #[]) (fun b_ => .slice (some ⟨b_, 0, none⟩) 0 0) [] 22 0 0 1 (by kernel_rfl) (by decide) (by decide) rfl
  have H8 : Hp w [] [.row (some ⟨p5, 0, none⟩) 0 0 22 1 (dg [])] w6 := H8
  refine GL.sem (j := 1) (r7) [0, 1, 8] [(0, .slice A (ndg a) c), (1, .slice B (ndg b) d), (8, .slice (some ⟨p5, 0, none⟩) 0 0)] (by kernel_rfl) (by kernel_rfl) rfl ?_
  refine GL.run (j := 2) 1 [0, 1, 5] [(0, .slice A (ndg a) c), (1, .slice B (ndg b) d), (5, .slice (some ⟨p5, 0, none⟩) 0 0)] (by kernel_rfl) rfl ?_
  refine GL.k rfl hK4 (fun _ _ h => h) ?_
  refine G.seqK fun K9 hK10 => ?_
  refine G.region ?_
  refine GL.run (j := 1) 1 [0, 1, 5, 6] [(0, .slice A (ndg a) c), (1, .slice B (ndg b) d), (5, .slice (some ⟨p5, 0, none⟩) 0 0), (6, .int .u64 0)] (by kernel_rfl) rfl ?_
  refine GL.k rfl hK10 (fun _ _ h => h) ?_
  refine G.seqK fun K11 hK12 => ?_
  refine G.seqK fun K13 hK14 => ?_
  refine G.region ?_
  refine GL.run (j := 1) 1 [0, 1, 5, 6, 7] [(0, .slice A (ndg a) c), (1, .slice B (ndg b) d), (5, .slice (some ⟨p5, 0, none⟩) 0 0), (6, .int .u64 0), (7, .int .i64 0)] (by kernel_rfl) rfl ?_
  refine GL.k rfl hK14 (fun _ _ h => h) ?_
  refine G.block ?_
  refine G.fit [0, 1, 5, 6, 7] (M' := [(0, .slice A (ndg a) c), (1, .slice B (ndg b) d), (5, .slice (some ⟨p5, 0, none⟩) 0 0), (6, .int .u64 0), (7, .int .i64 0)]) (by kernel_rfl) ?_
  refine G.loop (X := Nat × Nat × List Nat × Option Addr × Nat) (fun ⟨i, cy, xs, Z, z⟩ => [(0, .slice A (ndg a) c), (1, .slice B (ndg b) d), (5, .slice Z i z), (6, .int .u64 (cy : Int)), (7, .int .i64 (i : Int))]) (fun ⟨i, cy, xs, Z, z⟩ w_ => (xs.length = i ∧ ok16 xs ∧ cy ≤ 1 ∧ i + 2 * (ndg a - i) + 2 * (ndg b - i) + cy ≤ 2 * ndg a + 2 * ndg b ∧ val xs + 65536 ^ i * cy = a % 65536 ^ i + b % 65536 ^ i) ∧ Hp w [] [.row Z i z 22 1 (dg xs)] w_) (fun ⟨i, cy, xs, Z, z⟩ => 2 * (ndg a - i) + 2 * (ndg b - i) + cy) ⟨0, 0, [], (some ⟨p5, 0, none⟩), 0⟩ [0, 1, 5, 6, 7] (by kernel_rfl) ⟨⟨rfl, ok_nil, by omega, by omega, by simp [val, Nat.mod_one]⟩, H8⟩ ?_
  rintro ⟨i, cy, xs, Z, z⟩ w15 ⟨hi16, H17⟩
  refine G.eq (M' := [(0, .slice A (ndg a) c), (1, .slice B (ndg b) d), (5, .slice Z i z), (6, .int .u64 (cy : Int)), (7, .int .i64 (i : Int))]) rfl ?_
  have H17 : Hp w [] [.row Z i z 22 1 (dg xs)] w15 := H17
  obtain ⟨hl, hok, hc, hib, hv⟩ := hi16
  have za := @dgt_zero a i
  have zb := @dgt_zero b i
  have da := dgt_lt a i
  have db := dgt_lt b i
  refine G.seqK fun K18 hK19 => ?_
  refine G.seqK fun K20 hK21 => ?_
  refine G.region ?_
  refine GL.run (j := 5) 5 [0, 1, 5, 6, 7, 13] [(0, .slice A (ndg a) c), (1, .slice B (ndg b) d), (5, .slice Z i z), (6, .int .u64 (cy : Int)), (7, .int .i64 (i : Int)), (13, .bool (decide ((i : Int) < (((ndg a) : Nat) : Int))))] (by kernel_rfl) rfl ?_
  cases hb22 : (decide ((i : Int) < (((ndg a) : Nat) : Int)))
  · skip
    have hb22f := of_decide_eq_false hb22
    refine GL.run (j := 11) 6 [0, 1, 5, 6, 7, 19] [(0, .slice A (ndg a) c), (1, .slice B (ndg b) d), (5, .slice Z i z), (6, .int .u64 (cy : Int)), (7, .int .i64 (i : Int)), (19, .bool (decide ((i : Int) < (((ndg b) : Nat) : Int))))] (by kernel_rfl) rfl ?_
    cases hb23 : (decide ((i : Int) < (((ndg b) : Nat) : Int)))
    · skip
      have hb23f := of_decide_eq_false hb23
      refine GL.run (j := 14) 3 [0, 1, 5, 6, 7, 22] [(0, .slice A (ndg a) c), (1, .slice B (ndg b) d), (5, .slice Z i z), (6, .int .u64 (cy : Int)), (7, .int .i64 (i : Int)), (22, .bool (decide (0 < (cy : Int))))] (by kernel_rfl) rfl ?_
      refine GL.k rfl hK21 (fun _ _ h => h) ?_
      cases hb24 : (decide (0 < (cy : Int)))
      · skip
        have hb24f := of_decide_eq_false hb24
        refine G.no rfl ?_
        refine G.exitK hK12 (fun _ _ h => h) ?_
        refine G.seqK fun K25 hK26 => ?_
        refine G.region ?_
        refine GL.run (j := 1) 1 [41] [(41, .slice Z i z)] (by kernel_rfl) rfl ?_
        have hcy : cy = 0 := by omega
        rw [hcy] at hv
        have hval : val xs = a + b := add_done (by omega) (by omega) hv
        refine GL.call (j := 2) (trim_calls xs i (hl.symm) Z z w15 (H17.rdRow 0 rfl) (hok) (H17.rowLe 0 rfl).1 (by omega)) (by kernel_rfl) rfl (fun e_ w27 hR => ?_)
        obtain ⟨rfl, H29⟩ := hR
        have H28 := (H17.callNil H29).shrinkD 0 rfl (hl.symm) (hok)
        rw [hval] at H28
        rw [hval]
        have H28 : Hp w [] [.row Z (ndg (a + b)) z 22 1 (dg (digs (a + b)))] w27 := H28
        refine ⟨_, rfl, [42], [(42, .slice Z (ndg (a + b)) z)], by kernel_rfl, ?_⟩
        refine GL.run (j := 3) 1 [4] [(4, .slice Z (ndg (a + b)) z)] (by kernel_rfl) rfl ?_
        refine GL.k rfl hK26 (fun _ _ h => h) ?_
        refine G.ret ?_
        intro F_ hF_ hM_
        refine hRet _ _ (bodyPost_1 rfl (RV.tmp rfl) ?_ F_ hF_ hM_)
        exact ⟨_, _, rfl, H28⟩
      · skip
        have hb24f := of_decide_eq_true hb24
        refine G.yes rfl ?_
        refine G.skipK hK19 (fun _ _ h => h) ?_
        refine G.seqK fun K30 hK31 => ?_
        refine G.block ?_
        refine G.seqK fun K32 hK33 => ?_
        refine G.region ?_
        refine GL.run (j := 3) 3 [0, 1, 5, 7, 25, 26, 27] [(0, .slice A (ndg a) c), (1, .slice B (ndg b) d), (5, .slice Z i z), (7, .int .i64 (i : Int)), (25, .int .u64 (cy : Int)), (26, .slice A (ndg a) c), (27, .int .i64 (i : Int))] (by kernel_rfl) rfl ?_
        refine GL.call (j := 4) (digit_calls a i A c w15 (hr.hp H17)) (by kernel_rfl) rfl (fun e_ w34 hR => ?_)
        obtain ⟨rfl, H36⟩ := hR
        have H35 : Hp w [] [.row Z i z 22 1 (dg xs)] w34 := H17.callNil H36
        refine ⟨_, rfl, [0, 1, 5, 7, 25, 28], [(0, .slice A (ndg a) c), (1, .slice B (ndg b) d), (5, .slice Z i z), (7, .int .i64 (i : Int)), (25, .int .u64 (cy : Int)), (28, .int .u64 ((dgt a i) : Int))], by kernel_rfl, ?_⟩
        refine GL.run (j := 7) 3 [0, 1, 5, 7, 29, 30, 31] [(0, .slice A (ndg a) c), (1, .slice B (ndg b) d), (5, .slice Z i z), (7, .int .i64 (i : Int)), (29, .int .u64 (IntKind.u64.wrap ((cy : Int) + ((dgt a i) : Int)))), (30, .slice B (ndg b) d), (31, .int .i64 (i : Int))] (by kernel_rfl) rfl ?_
        have e37 : (IntKind.u64.wrap ((cy : Int) + ((dgt a i) : Int))) = ((cy + (dgt a i) : Nat) : Int) := n_add' (a := cy) (b := (dgt a i)) (by omega)
        refine GL.eq (M' := [(0, .slice A (ndg a) c), (1, .slice B (ndg b) d), (5, .slice Z i z), (7, .int .i64 (i : Int)), (29, .int .u64 ((cy + (dgt a i) : Nat) : Int)), (30, .slice B (ndg b) d), (31, .int .i64 (i : Int))]) (by rw [e37]) ?_
        clear e37
        refine GL.call (j := 8) (digit_calls b i B d w34 (hs.hp H35)) (by kernel_rfl) rfl (fun e_ w38 hR => ?_)
        obtain ⟨rfl, H40⟩ := hR
        have H39 : Hp w [] [.row Z i z 22 1 (dg xs)] w38 := H35.callNil H40
        refine ⟨_, rfl, [0, 1, 5, 7, 29, 32], [(0, .slice A (ndg a) c), (1, .slice B (ndg b) d), (5, .slice Z i z), (7, .int .i64 (i : Int)), (29, .int .u64 ((cy + (dgt a i) : Nat) : Int)), (32, .int .u64 ((dgt b i) : Int))], by kernel_rfl, ?_⟩
        refine GL.run (j := 10) 2 [0, 1, 5, 6, 7] [(0, .slice A (ndg a) c), (1, .slice B (ndg b) d), (5, .slice Z i z), (6, .int .u64 (IntKind.u64.wrap (((cy + (dgt a i) : Nat) : Int) + ((dgt b i) : Int)))), (7, .int .i64 (i : Int))] (by kernel_rfl) rfl ?_
        have e41 : (IntKind.u64.wrap (((cy + (dgt a i) : Nat) : Int) + ((dgt b i) : Int))) = (((cy + (dgt a i)) + (dgt b i) : Nat) : Int) := n_add' (a := (cy + (dgt a i))) (b := (dgt b i)) (by omega)
        refine GL.eq (M' := [(0, .slice A (ndg a) c), (1, .slice B (ndg b) d), (5, .slice Z i z), (6, .int .u64 (((cy + (dgt a i)) + (dgt b i) : Nat) : Int)), (7, .int .i64 (i : Int))]) (by rw [e41]) ?_
        clear e41
        refine GL.k rfl hK33 (fun _ _ h => h) ?_
        refine G.seqK fun K42 hK43 => ?_
        refine G.region ?_
        refine GL.run (j := 3) 3 [0, 1, 6, 7, 34, 36] [(0, .slice A (ndg a) c), (1, .slice B (ndg b) d), (6, .int .u64 (((cy + (dgt a i)) + (dgt b i) : Nat) : Int)), (7, .int .i64 (i : Int)), (34, .slice Z i z), (36, .int .u64 (Int.tmod (((cy + (dgt a i)) + (dgt b i) : Nat) : Int) 65536))] (by kernel_rfl) rfl ?_
        have e44 : (Int.tmod (((cy + (dgt a i)) + (dgt b i) : Nat) : Int) 65536) = ((((cy + (dgt a i)) + (dgt b i)) % 65536 : Nat) : Int) := n_rem _ 65536
        refine GL.eq (M' := [(0, .slice A (ndg a) c), (1, .slice B (ndg b) d), (6, .int .u64 (((cy + (dgt a i)) + (dgt b i) : Nat) : Int)), (7, .int .i64 (i : Int)), (34, .slice Z i z), (36, .int .u64 ((((cy + (dgt a i)) + (dgt b i)) % 65536 : Nat) : Int))]) (by rw [e44]) ?_
        clear e44
        obtain ⟨p45, w46, r47, H48⟩ := H39.madeRow (P := Tryd.prog) (Instr.buildSlice 31 1 #[(0, .int .u64 ((((cy + (dgt a i)) + (dgt b i)) % 65536 : Nat) : Int))]) (fun b_ => .slice (some ⟨b_, 0, none⟩) 1 1) [.int .u64 ((((cy + (dgt a i)) + (dgt b i)) % 65536 : Nat) : Int)] 22 1 1 1 (by kernel_rfl) (by decide) (by decide) rfl
        have H48 : Hp w [] [.row Z i z 22 1 (dg xs), .row (some ⟨p45, 0, none⟩) 1 1 22 1 (dg [((cy + (dgt a i)) + (dgt b i)) % 65536])] w46 := H48
        refine GL.sem (j := 4) (r47) [0, 1, 6, 7, 34, 37] [(0, .slice A (ndg a) c), (1, .slice B (ndg b) d), (6, .int .u64 (((cy + (dgt a i)) + (dgt b i) : Nat) : Int)), (7, .int .i64 (i : Int)), (34, .slice Z i z), (37, .slice (some ⟨p45, 0, none⟩) 1 1)] (by kernel_rfl) (by kernel_rfl) rfl ?_
        obtain ⟨A49, c50, w51, r52, H53⟩ := H48.append (P := Tryd.prog) (e := 22) (sz := 1) (by_ := 8) (n := i) (c := z) (m := 1) (d := 1) (t := 31) (ty := 31) (xs := dg xs) (news := dg [((cy + (dgt a i)) + (dgt b i)) % 65536]) 0 rfl (by kernel_rfl) (H48.rdRow 1 rfl) (by simp [dg_length]) (dg_one _) (by omega) (by simp only [maxLen]; omega)
        rw [← dg_append] at H53
        have H53 : Hp w [] [.row A49 (i + 1) c50 22 1 (dg (xs ++ [((cy + (dgt a i)) + (dgt b i)) % 65536])), .row (some ⟨p45, 0, none⟩) 1 1 22 1 (dg [((cy + (dgt a i)) + (dgt b i)) % 65536])] w51 := H53
        refine GL.sem (j := 5) (r52) [0, 1, 6, 7, 38] [(0, .slice A (ndg a) c), (1, .slice B (ndg b) d), (6, .int .u64 (((cy + (dgt a i)) + (dgt b i) : Nat) : Int)), (7, .int .i64 (i : Int)), (38, .slice A49 (i + 1) c50)] (by kernel_rfl) (by kernel_rfl) rfl ?_
        refine GL.run (j := 6) 1 [0, 1, 5, 6, 7] [(0, .slice A (ndg a) c), (1, .slice B (ndg b) d), (5, .slice A49 (i + 1) c50), (6, .int .u64 (((cy + (dgt a i)) + (dgt b i) : Nat) : Int)), (7, .int .i64 (i : Int))] (by kernel_rfl) rfl ?_
        refine GL.k rfl hK43 (fun _ _ h => h) ?_
        refine G.region ?_
        refine GL.run (j := 3) 3 [0, 1, 5, 6, 7] [(0, .slice A (ndg a) c), (1, .slice B (ndg b) d), (5, .slice A49 (i + 1) c50), (6, .int .u64 (IntKind.u64.wrap (Int.tdiv (((cy + (dgt a i)) + (dgt b i) : Nat) : Int) 65536))), (7, .int .i64 (i : Int))] (by kernel_rfl) rfl ?_
        have e54 : (IntKind.u64.wrap (Int.tdiv (((cy + (dgt a i)) + (dgt b i) : Nat) : Int) 65536)) = ((((cy + (dgt a i)) + (dgt b i)) / 65536 : Nat) : Int) := n_quo 65536 (by omega)
        refine GL.eq (M' := [(0, .slice A (ndg a) c), (1, .slice B (ndg b) d), (5, .slice A49 (i + 1) c50), (6, .int .u64 ((((cy + (dgt a i)) + (dgt b i)) / 65536 : Nat) : Int)), (7, .int .i64 (i : Int))]) (by rw [e54]) ?_
        clear e54
        refine GL.k rfl hK31 (fun _ _ h => h) ?_
        refine G.region ?_
        refine GL.run (j := 3) 3 [0, 1, 5, 6, 7] [(0, .slice A (ndg a) c), (1, .slice B (ndg b) d), (5, .slice A49 (i + 1) c50), (6, .int .u64 ((((cy + (dgt a i)) + (dgt b i)) / 65536 : Nat) : Int)), (7, .int .i64 (IntKind.i64.wrap ((i : Int) + 1)))] (by kernel_rfl) rfl ?_
        have e55 : (IntKind.i64.wrap ((i : Int) + 1)) = ((i + 1 : Nat) : Int) := by rw [in_i64 (by omega)]; omega
        refine GL.eq (M' := [(0, .slice A (ndg a) c), (1, .slice B (ndg b) d), (5, .slice A49 (i + 1) c50), (6, .int .u64 ((((cy + (dgt a i)) + (dgt b i)) / 65536 : Nat) : Int)), (7, .int .i64 ((i + 1 : Nat) : Int))]) (by rw [e55]) ?_
        clear e55
        have H56 : Hp w [] [.row A49 (i + 1) c50 22 1 (dg (xs ++ [((cy + (dgt a i)) + (dgt b i)) % 65536]))] w51 := H53.sub (List.Sublist.cons_cons _ (List.Sublist.cons _ (List.Sublist.slnil)))
        refine GL.fit (ts := [0, 1, 5, 6, 7]) (M' := [(0, .slice A (ndg a) c), (1, .slice B (ndg b) d), (5, .slice A49 (i + 1) c50), (6, .int .u64 ((((cy + (dgt a i)) + (dgt b i)) / 65536 : Nat) : Int)), (7, .int .i64 ((i + 1 : Nat) : Int))]) (by kernel_rfl) ?_
        refine GL.eq (M' := [(0, .slice A (ndg a) c), (1, .slice B (ndg b) d), (5, .slice A49 (i + 1) c50), (6, .int .u64 ((((cy + (dgt a i)) + (dgt b i)) / 65536 : Nat) : Int)), (7, .int .i64 (((i + 1) : Nat) : Int))]) (by rfl) ?_
        exact GL.again ⟨(i + 1), ((cy + (dgt a i)) + (dgt b i)) / 65536, (xs ++ [((cy + (dgt a i)) + (dgt b i)) % 65536]), A49, c50⟩ [0, 1, 5, 6, 7] rfl (by kernel_rfl) (by show 2 * (ndg a - (i + 1)) + 2 * (ndg b - (i + 1)) + ((cy + (dgt a i)) + (dgt b i)) / 65536 < 2 * (ndg a - i) + 2 * (ndg b - i) + cy; omega) ⟨⟨by simp [hl], ok_snoc hok (Nat.mod_lt _ (by decide)), by omega, by omega, add_round hl hv⟩, H56⟩
    · skip
      have hb23f := of_decide_eq_true hb23
      refine GL.run (j := 14) 3 [0, 1, 5, 6, 7, 22] [(0, .slice A (ndg a) c), (1, .slice B (ndg b) d), (5, .slice Z i z), (6, .int .u64 (cy : Int)), (7, .int .i64 (i : Int)), (22, .bool true)] (by kernel_rfl) rfl ?_
      refine GL.k rfl hK21 (fun _ _ h => h) ?_
      refine G.yes rfl ?_
      refine G.skipK hK19 (fun _ _ h => h) ?_
      refine G.seqK fun K57 hK58 => ?_
      refine G.block ?_
      refine G.seqK fun K59 hK60 => ?_
      refine G.region ?_
      refine GL.run (j := 3) 3 [0, 1, 5, 7, 25, 26, 27] [(0, .slice A (ndg a) c), (1, .slice B (ndg b) d), (5, .slice Z i z), (7, .int .i64 (i : Int)), (25, .int .u64 (cy : Int)), (26, .slice A (ndg a) c), (27, .int .i64 (i : Int))] (by kernel_rfl) rfl ?_
      refine GL.call (j := 4) (digit_calls a i A c w15 (hr.hp H17)) (by kernel_rfl) rfl (fun e_ w61 hR => ?_)
      obtain ⟨rfl, H63⟩ := hR
      have H62 : Hp w [] [.row Z i z 22 1 (dg xs)] w61 := H17.callNil H63
      refine ⟨_, rfl, [0, 1, 5, 7, 25, 28], [(0, .slice A (ndg a) c), (1, .slice B (ndg b) d), (5, .slice Z i z), (7, .int .i64 (i : Int)), (25, .int .u64 (cy : Int)), (28, .int .u64 ((dgt a i) : Int))], by kernel_rfl, ?_⟩
      refine GL.run (j := 7) 3 [0, 1, 5, 7, 29, 30, 31] [(0, .slice A (ndg a) c), (1, .slice B (ndg b) d), (5, .slice Z i z), (7, .int .i64 (i : Int)), (29, .int .u64 (IntKind.u64.wrap ((cy : Int) + ((dgt a i) : Int)))), (30, .slice B (ndg b) d), (31, .int .i64 (i : Int))] (by kernel_rfl) rfl ?_
      have e64 : (IntKind.u64.wrap ((cy : Int) + ((dgt a i) : Int))) = ((cy + (dgt a i) : Nat) : Int) := n_add' (a := cy) (b := (dgt a i)) (by omega)
      refine GL.eq (M' := [(0, .slice A (ndg a) c), (1, .slice B (ndg b) d), (5, .slice Z i z), (7, .int .i64 (i : Int)), (29, .int .u64 ((cy + (dgt a i) : Nat) : Int)), (30, .slice B (ndg b) d), (31, .int .i64 (i : Int))]) (by rw [e64]) ?_
      clear e64
      refine GL.call (j := 8) (digit_calls b i B d w61 (hs.hp H62)) (by kernel_rfl) rfl (fun e_ w65 hR => ?_)
      obtain ⟨rfl, H67⟩ := hR
      have H66 : Hp w [] [.row Z i z 22 1 (dg xs)] w65 := H62.callNil H67
      refine ⟨_, rfl, [0, 1, 5, 7, 29, 32], [(0, .slice A (ndg a) c), (1, .slice B (ndg b) d), (5, .slice Z i z), (7, .int .i64 (i : Int)), (29, .int .u64 ((cy + (dgt a i) : Nat) : Int)), (32, .int .u64 ((dgt b i) : Int))], by kernel_rfl, ?_⟩
      refine GL.run (j := 10) 2 [0, 1, 5, 6, 7] [(0, .slice A (ndg a) c), (1, .slice B (ndg b) d), (5, .slice Z i z), (6, .int .u64 (IntKind.u64.wrap (((cy + (dgt a i) : Nat) : Int) + ((dgt b i) : Int)))), (7, .int .i64 (i : Int))] (by kernel_rfl) rfl ?_
      have e68 : (IntKind.u64.wrap (((cy + (dgt a i) : Nat) : Int) + ((dgt b i) : Int))) = (((cy + (dgt a i)) + (dgt b i) : Nat) : Int) := n_add' (a := (cy + (dgt a i))) (b := (dgt b i)) (by omega)
      refine GL.eq (M' := [(0, .slice A (ndg a) c), (1, .slice B (ndg b) d), (5, .slice Z i z), (6, .int .u64 (((cy + (dgt a i)) + (dgt b i) : Nat) : Int)), (7, .int .i64 (i : Int))]) (by rw [e68]) ?_
      clear e68
      refine GL.k rfl hK60 (fun _ _ h => h) ?_
      refine G.seqK fun K69 hK70 => ?_
      refine G.region ?_
      refine GL.run (j := 3) 3 [0, 1, 6, 7, 34, 36] [(0, .slice A (ndg a) c), (1, .slice B (ndg b) d), (6, .int .u64 (((cy + (dgt a i)) + (dgt b i) : Nat) : Int)), (7, .int .i64 (i : Int)), (34, .slice Z i z), (36, .int .u64 (Int.tmod (((cy + (dgt a i)) + (dgt b i) : Nat) : Int) 65536))] (by kernel_rfl) rfl ?_
      have e71 : (Int.tmod (((cy + (dgt a i)) + (dgt b i) : Nat) : Int) 65536) = ((((cy + (dgt a i)) + (dgt b i)) % 65536 : Nat) : Int) := n_rem _ 65536
      refine GL.eq (M' := [(0, .slice A (ndg a) c), (1, .slice B (ndg b) d), (6, .int .u64 (((cy + (dgt a i)) + (dgt b i) : Nat) : Int)), (7, .int .i64 (i : Int)), (34, .slice Z i z), (36, .int .u64 ((((cy + (dgt a i)) + (dgt b i)) % 65536 : Nat) : Int))]) (by rw [e71]) ?_
      clear e71
      obtain ⟨p72, w73, r74, H75⟩ := H66.madeRow (P := Tryd.prog) (Instr.buildSlice 31 1 #[(0, .int .u64 ((((cy + (dgt a i)) + (dgt b i)) % 65536 : Nat) : Int))]) (fun b_ => .slice (some ⟨b_, 0, none⟩) 1 1) [.int .u64 ((((cy + (dgt a i)) + (dgt b i)) % 65536 : Nat) : Int)] 22 1 1 1 (by kernel_rfl) (by decide) (by decide) rfl
      have H75 : Hp w [] [.row Z i z 22 1 (dg xs), .row (some ⟨p72, 0, none⟩) 1 1 22 1 (dg [((cy + (dgt a i)) + (dgt b i)) % 65536])] w73 := H75
      refine GL.sem (j := 4) (r74) [0, 1, 6, 7, 34, 37] [(0, .slice A (ndg a) c), (1, .slice B (ndg b) d), (6, .int .u64 (((cy + (dgt a i)) + (dgt b i) : Nat) : Int)), (7, .int .i64 (i : Int)), (34, .slice Z i z), (37, .slice (some ⟨p72, 0, none⟩) 1 1)] (by kernel_rfl) (by kernel_rfl) rfl ?_
      obtain ⟨A76, c77, w78, r79, H80⟩ := H75.append (P := Tryd.prog) (e := 22) (sz := 1) (by_ := 8) (n := i) (c := z) (m := 1) (d := 1) (t := 31) (ty := 31) (xs := dg xs) (news := dg [((cy + (dgt a i)) + (dgt b i)) % 65536]) 0 rfl (by kernel_rfl) (H75.rdRow 1 rfl) (by simp [dg_length]) (dg_one _) (by omega) (by simp only [maxLen]; omega)
      rw [← dg_append] at H80
      have H80 : Hp w [] [.row A76 (i + 1) c77 22 1 (dg (xs ++ [((cy + (dgt a i)) + (dgt b i)) % 65536])), .row (some ⟨p72, 0, none⟩) 1 1 22 1 (dg [((cy + (dgt a i)) + (dgt b i)) % 65536])] w78 := H80
      refine GL.sem (j := 5) (r79) [0, 1, 6, 7, 38] [(0, .slice A (ndg a) c), (1, .slice B (ndg b) d), (6, .int .u64 (((cy + (dgt a i)) + (dgt b i) : Nat) : Int)), (7, .int .i64 (i : Int)), (38, .slice A76 (i + 1) c77)] (by kernel_rfl) (by kernel_rfl) rfl ?_
      refine GL.run (j := 6) 1 [0, 1, 5, 6, 7] [(0, .slice A (ndg a) c), (1, .slice B (ndg b) d), (5, .slice A76 (i + 1) c77), (6, .int .u64 (((cy + (dgt a i)) + (dgt b i) : Nat) : Int)), (7, .int .i64 (i : Int))] (by kernel_rfl) rfl ?_
      refine GL.k rfl hK70 (fun _ _ h => h) ?_
      refine G.region ?_
      refine GL.run (j := 3) 3 [0, 1, 5, 6, 7] [(0, .slice A (ndg a) c), (1, .slice B (ndg b) d), (5, .slice A76 (i + 1) c77), (6, .int .u64 (IntKind.u64.wrap (Int.tdiv (((cy + (dgt a i)) + (dgt b i) : Nat) : Int) 65536))), (7, .int .i64 (i : Int))] (by kernel_rfl) rfl ?_
      have e81 : (IntKind.u64.wrap (Int.tdiv (((cy + (dgt a i)) + (dgt b i) : Nat) : Int) 65536)) = ((((cy + (dgt a i)) + (dgt b i)) / 65536 : Nat) : Int) := n_quo 65536 (by omega)
      refine GL.eq (M' := [(0, .slice A (ndg a) c), (1, .slice B (ndg b) d), (5, .slice A76 (i + 1) c77), (6, .int .u64 ((((cy + (dgt a i)) + (dgt b i)) / 65536 : Nat) : Int)), (7, .int .i64 (i : Int))]) (by rw [e81]) ?_
      clear e81
      refine GL.k rfl hK58 (fun _ _ h => h) ?_
      refine G.region ?_
      refine GL.run (j := 3) 3 [0, 1, 5, 6, 7] [(0, .slice A (ndg a) c), (1, .slice B (ndg b) d), (5, .slice A76 (i + 1) c77), (6, .int .u64 ((((cy + (dgt a i)) + (dgt b i)) / 65536 : Nat) : Int)), (7, .int .i64 (IntKind.i64.wrap ((i : Int) + 1)))] (by kernel_rfl) rfl ?_
      have e82 : (IntKind.i64.wrap ((i : Int) + 1)) = ((i + 1 : Nat) : Int) := by rw [in_i64 (by omega)]; omega
      refine GL.eq (M' := [(0, .slice A (ndg a) c), (1, .slice B (ndg b) d), (5, .slice A76 (i + 1) c77), (6, .int .u64 ((((cy + (dgt a i)) + (dgt b i)) / 65536 : Nat) : Int)), (7, .int .i64 ((i + 1 : Nat) : Int))]) (by rw [e82]) ?_
      clear e82
      have H83 : Hp w [] [.row A76 (i + 1) c77 22 1 (dg (xs ++ [((cy + (dgt a i)) + (dgt b i)) % 65536]))] w78 := H80.sub (List.Sublist.cons_cons _ (List.Sublist.cons _ (List.Sublist.slnil)))
      refine GL.fit (ts := [0, 1, 5, 6, 7]) (M' := [(0, .slice A (ndg a) c), (1, .slice B (ndg b) d), (5, .slice A76 (i + 1) c77), (6, .int .u64 ((((cy + (dgt a i)) + (dgt b i)) / 65536 : Nat) : Int)), (7, .int .i64 ((i + 1 : Nat) : Int))]) (by kernel_rfl) ?_
      refine GL.eq (M' := [(0, .slice A (ndg a) c), (1, .slice B (ndg b) d), (5, .slice A76 (i + 1) c77), (6, .int .u64 ((((cy + (dgt a i)) + (dgt b i)) / 65536 : Nat) : Int)), (7, .int .i64 (((i + 1) : Nat) : Int))]) (by rfl) ?_
      exact GL.again ⟨(i + 1), ((cy + (dgt a i)) + (dgt b i)) / 65536, (xs ++ [((cy + (dgt a i)) + (dgt b i)) % 65536]), A76, c77⟩ [0, 1, 5, 6, 7] rfl (by kernel_rfl) (by show 2 * (ndg a - (i + 1)) + 2 * (ndg b - (i + 1)) + ((cy + (dgt a i)) + (dgt b i)) / 65536 < 2 * (ndg a - i) + 2 * (ndg b - i) + cy; omega) ⟨⟨by simp [hl], ok_snoc hok (Nat.mod_lt _ (by decide)), by omega, by omega, add_round hl hv⟩, H83⟩
  · skip
    have hb22f := of_decide_eq_true hb22
    refine GL.run (j := 14) 9 [0, 1, 5, 6, 7, 22] [(0, .slice A (ndg a) c), (1, .slice B (ndg b) d), (5, .slice Z i z), (6, .int .u64 (cy : Int)), (7, .int .i64 (i : Int)), (22, .bool true)] (by kernel_rfl) rfl ?_
    refine GL.k rfl hK21 (fun _ _ h => h) ?_
    refine G.yes rfl ?_
    refine G.skipK hK19 (fun _ _ h => h) ?_
    refine G.seqK fun K84 hK85 => ?_
    refine G.block ?_
    refine G.seqK fun K86 hK87 => ?_
    refine G.region ?_
    refine GL.run (j := 3) 3 [0, 1, 5, 7, 25, 26, 27] [(0, .slice A (ndg a) c), (1, .slice B (ndg b) d), (5, .slice Z i z), (7, .int .i64 (i : Int)), (25, .int .u64 (cy : Int)), (26, .slice A (ndg a) c), (27, .int .i64 (i : Int))] (by kernel_rfl) rfl ?_
    refine GL.call (j := 4) (digit_calls a i A c w15 (hr.hp H17)) (by kernel_rfl) rfl (fun e_ w88 hR => ?_)
    obtain ⟨rfl, H90⟩ := hR
    have H89 : Hp w [] [.row Z i z 22 1 (dg xs)] w88 := H17.callNil H90
    refine ⟨_, rfl, [0, 1, 5, 7, 25, 28], [(0, .slice A (ndg a) c), (1, .slice B (ndg b) d), (5, .slice Z i z), (7, .int .i64 (i : Int)), (25, .int .u64 (cy : Int)), (28, .int .u64 ((dgt a i) : Int))], by kernel_rfl, ?_⟩
    refine GL.run (j := 7) 3 [0, 1, 5, 7, 29, 30, 31] [(0, .slice A (ndg a) c), (1, .slice B (ndg b) d), (5, .slice Z i z), (7, .int .i64 (i : Int)), (29, .int .u64 (IntKind.u64.wrap ((cy : Int) + ((dgt a i) : Int)))), (30, .slice B (ndg b) d), (31, .int .i64 (i : Int))] (by kernel_rfl) rfl ?_
    have e91 : (IntKind.u64.wrap ((cy : Int) + ((dgt a i) : Int))) = ((cy + (dgt a i) : Nat) : Int) := n_add' (a := cy) (b := (dgt a i)) (by omega)
    refine GL.eq (M' := [(0, .slice A (ndg a) c), (1, .slice B (ndg b) d), (5, .slice Z i z), (7, .int .i64 (i : Int)), (29, .int .u64 ((cy + (dgt a i) : Nat) : Int)), (30, .slice B (ndg b) d), (31, .int .i64 (i : Int))]) (by rw [e91]) ?_
    clear e91
    refine GL.call (j := 8) (digit_calls b i B d w88 (hs.hp H89)) (by kernel_rfl) rfl (fun e_ w92 hR => ?_)
    obtain ⟨rfl, H94⟩ := hR
    have H93 : Hp w [] [.row Z i z 22 1 (dg xs)] w92 := H89.callNil H94
    refine ⟨_, rfl, [0, 1, 5, 7, 29, 32], [(0, .slice A (ndg a) c), (1, .slice B (ndg b) d), (5, .slice Z i z), (7, .int .i64 (i : Int)), (29, .int .u64 ((cy + (dgt a i) : Nat) : Int)), (32, .int .u64 ((dgt b i) : Int))], by kernel_rfl, ?_⟩
    refine GL.run (j := 10) 2 [0, 1, 5, 6, 7] [(0, .slice A (ndg a) c), (1, .slice B (ndg b) d), (5, .slice Z i z), (6, .int .u64 (IntKind.u64.wrap (((cy + (dgt a i) : Nat) : Int) + ((dgt b i) : Int)))), (7, .int .i64 (i : Int))] (by kernel_rfl) rfl ?_
    have e95 : (IntKind.u64.wrap (((cy + (dgt a i) : Nat) : Int) + ((dgt b i) : Int))) = (((cy + (dgt a i)) + (dgt b i) : Nat) : Int) := n_add' (a := (cy + (dgt a i))) (b := (dgt b i)) (by omega)
    refine GL.eq (M' := [(0, .slice A (ndg a) c), (1, .slice B (ndg b) d), (5, .slice Z i z), (6, .int .u64 (((cy + (dgt a i)) + (dgt b i) : Nat) : Int)), (7, .int .i64 (i : Int))]) (by rw [e95]) ?_
    clear e95
    refine GL.k rfl hK87 (fun _ _ h => h) ?_
    refine G.seqK fun K96 hK97 => ?_
    refine G.region ?_
    refine GL.run (j := 3) 3 [0, 1, 6, 7, 34, 36] [(0, .slice A (ndg a) c), (1, .slice B (ndg b) d), (6, .int .u64 (((cy + (dgt a i)) + (dgt b i) : Nat) : Int)), (7, .int .i64 (i : Int)), (34, .slice Z i z), (36, .int .u64 (Int.tmod (((cy + (dgt a i)) + (dgt b i) : Nat) : Int) 65536))] (by kernel_rfl) rfl ?_
    have e98 : (Int.tmod (((cy + (dgt a i)) + (dgt b i) : Nat) : Int) 65536) = ((((cy + (dgt a i)) + (dgt b i)) % 65536 : Nat) : Int) := n_rem _ 65536
    refine GL.eq (M' := [(0, .slice A (ndg a) c), (1, .slice B (ndg b) d), (6, .int .u64 (((cy + (dgt a i)) + (dgt b i) : Nat) : Int)), (7, .int .i64 (i : Int)), (34, .slice Z i z), (36, .int .u64 ((((cy + (dgt a i)) + (dgt b i)) % 65536 : Nat) : Int))]) (by rw [e98]) ?_
    clear e98
    obtain ⟨p99, w100, r101, H102⟩ := H93.madeRow (P := Tryd.prog) (Instr.buildSlice 31 1 #[(0, .int .u64 ((((cy + (dgt a i)) + (dgt b i)) % 65536 : Nat) : Int))]) (fun b_ => .slice (some ⟨b_, 0, none⟩) 1 1) [.int .u64 ((((cy + (dgt a i)) + (dgt b i)) % 65536 : Nat) : Int)] 22 1 1 1 (by kernel_rfl) (by decide) (by decide) rfl
    have H102 : Hp w [] [.row Z i z 22 1 (dg xs), .row (some ⟨p99, 0, none⟩) 1 1 22 1 (dg [((cy + (dgt a i)) + (dgt b i)) % 65536])] w100 := H102
    refine GL.sem (j := 4) (r101) [0, 1, 6, 7, 34, 37] [(0, .slice A (ndg a) c), (1, .slice B (ndg b) d), (6, .int .u64 (((cy + (dgt a i)) + (dgt b i) : Nat) : Int)), (7, .int .i64 (i : Int)), (34, .slice Z i z), (37, .slice (some ⟨p99, 0, none⟩) 1 1)] (by kernel_rfl) (by kernel_rfl) rfl ?_
    obtain ⟨A103, c104, w105, r106, H107⟩ := H102.append (P := Tryd.prog) (e := 22) (sz := 1) (by_ := 8) (n := i) (c := z) (m := 1) (d := 1) (t := 31) (ty := 31) (xs := dg xs) (news := dg [((cy + (dgt a i)) + (dgt b i)) % 65536]) 0 rfl (by kernel_rfl) (H102.rdRow 1 rfl) (by simp [dg_length]) (dg_one _) (by omega) (by simp only [maxLen]; omega)
    rw [← dg_append] at H107
    have H107 : Hp w [] [.row A103 (i + 1) c104 22 1 (dg (xs ++ [((cy + (dgt a i)) + (dgt b i)) % 65536])), .row (some ⟨p99, 0, none⟩) 1 1 22 1 (dg [((cy + (dgt a i)) + (dgt b i)) % 65536])] w105 := H107
    refine GL.sem (j := 5) (r106) [0, 1, 6, 7, 38] [(0, .slice A (ndg a) c), (1, .slice B (ndg b) d), (6, .int .u64 (((cy + (dgt a i)) + (dgt b i) : Nat) : Int)), (7, .int .i64 (i : Int)), (38, .slice A103 (i + 1) c104)] (by kernel_rfl) (by kernel_rfl) rfl ?_
    refine GL.run (j := 6) 1 [0, 1, 5, 6, 7] [(0, .slice A (ndg a) c), (1, .slice B (ndg b) d), (5, .slice A103 (i + 1) c104), (6, .int .u64 (((cy + (dgt a i)) + (dgt b i) : Nat) : Int)), (7, .int .i64 (i : Int))] (by kernel_rfl) rfl ?_
    refine GL.k rfl hK97 (fun _ _ h => h) ?_
    refine G.region ?_
    refine GL.run (j := 3) 3 [0, 1, 5, 6, 7] [(0, .slice A (ndg a) c), (1, .slice B (ndg b) d), (5, .slice A103 (i + 1) c104), (6, .int .u64 (IntKind.u64.wrap (Int.tdiv (((cy + (dgt a i)) + (dgt b i) : Nat) : Int) 65536))), (7, .int .i64 (i : Int))] (by kernel_rfl) rfl ?_
    have e108 : (IntKind.u64.wrap (Int.tdiv (((cy + (dgt a i)) + (dgt b i) : Nat) : Int) 65536)) = ((((cy + (dgt a i)) + (dgt b i)) / 65536 : Nat) : Int) := n_quo 65536 (by omega)
    refine GL.eq (M' := [(0, .slice A (ndg a) c), (1, .slice B (ndg b) d), (5, .slice A103 (i + 1) c104), (6, .int .u64 ((((cy + (dgt a i)) + (dgt b i)) / 65536 : Nat) : Int)), (7, .int .i64 (i : Int))]) (by rw [e108]) ?_
    clear e108
    refine GL.k rfl hK85 (fun _ _ h => h) ?_
    refine G.region ?_
    refine GL.run (j := 3) 3 [0, 1, 5, 6, 7] [(0, .slice A (ndg a) c), (1, .slice B (ndg b) d), (5, .slice A103 (i + 1) c104), (6, .int .u64 ((((cy + (dgt a i)) + (dgt b i)) / 65536 : Nat) : Int)), (7, .int .i64 (IntKind.i64.wrap ((i : Int) + 1)))] (by kernel_rfl) rfl ?_
    have e109 : (IntKind.i64.wrap ((i : Int) + 1)) = ((i + 1 : Nat) : Int) := by rw [in_i64 (by omega)]; omega
    refine GL.eq (M' := [(0, .slice A (ndg a) c), (1, .slice B (ndg b) d), (5, .slice A103 (i + 1) c104), (6, .int .u64 ((((cy + (dgt a i)) + (dgt b i)) / 65536 : Nat) : Int)), (7, .int .i64 ((i + 1 : Nat) : Int))]) (by rw [e109]) ?_
    clear e109
    have H110 : Hp w [] [.row A103 (i + 1) c104 22 1 (dg (xs ++ [((cy + (dgt a i)) + (dgt b i)) % 65536]))] w105 := H107.sub (List.Sublist.cons_cons _ (List.Sublist.cons _ (List.Sublist.slnil)))
    refine GL.fit (ts := [0, 1, 5, 6, 7]) (M' := [(0, .slice A (ndg a) c), (1, .slice B (ndg b) d), (5, .slice A103 (i + 1) c104), (6, .int .u64 ((((cy + (dgt a i)) + (dgt b i)) / 65536 : Nat) : Int)), (7, .int .i64 ((i + 1 : Nat) : Int))]) (by kernel_rfl) ?_
    refine GL.eq (M' := [(0, .slice A (ndg a) c), (1, .slice B (ndg b) d), (5, .slice A103 (i + 1) c104), (6, .int .u64 ((((cy + (dgt a i)) + (dgt b i)) / 65536 : Nat) : Int)), (7, .int .i64 (((i + 1) : Nat) : Int))]) (by rfl) ?_
    exact GL.again ⟨(i + 1), ((cy + (dgt a i)) + (dgt b i)) / 65536, (xs ++ [((cy + (dgt a i)) + (dgt b i)) % 65536]), A103, c104⟩ [0, 1, 5, 6, 7] rfl (by kernel_rfl) (by show 2 * (ndg a - (i + 1)) + 2 * (ndg b - (i + 1)) + ((cy + (dgt a i)) + (dgt b i)) / 65536 < 2 * (ndg a - i) + 2 * (ndg b - i) + cy; omega) ⟨⟨by simp [hl], ok_snoc hok (Nat.mod_lt _ (by decide)), by omega, by omega, add_round hl hv⟩, H110⟩
end Go.Proofs.YtgbhiklengafiaaDoor
