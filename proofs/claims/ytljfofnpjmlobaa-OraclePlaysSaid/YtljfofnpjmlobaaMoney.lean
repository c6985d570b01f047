/- The contracts of package money. -/
import Derived.Test.YtljfofnpjmlobaaWideD
namespace Go.Proofs.Ytljfofnpjmlobaa
open Go.RowKit
theorem prod_lt {a b : Nat} (ha : a < K) (hb : b < K) : a * b < K4 := by
  have h : a * b ≤ (K - 1) * (K - 1) := Nat.mul_le_mul (by omega) (by omega)
  exact Nat.lt_of_le_of_lt h (by decide)
theorem Right_calls (a : Nat) (w : World) : Calls Try.prog 17 #[.int .u64 (a : Int)] w fun e w' => e = .returned (.bool (decide ((a : Int) ≤ 4611686018427387904))) ∧ Hp w [] [] w' := by
  refine calls_G (args := [.int .u64 (a : Int)]) Try.func17 rfl Try.ntmps17 rfl ?_
  intro Q0 hRet hNor hPan
  have H := Hp.start w
  have H : Hp w [] [] w := H
  refine G.seqK fun K1 hK2 => ?_
  refine G.region ?_
  refine GL.run (j := 1) 1 [0] [(0, .int .u64 (a : Int))] (by kernel_rfl) rfl ?_
  refine GL.k rfl hK2 (fun _ _ h => h) ?_
  refine G.seqK fun K3 hK4 => ?_
  refine G.region ?_
  refine GL.run (j := 3) 3 [2] [(2, .bool (decide ((a : Int) ≤ 4611686018427387904)))] (by kernel_rfl) rfl ?_
  refine GL.k rfl hK4 (fun _ _ h => h) ?_
  refine G.ret ?_
  intro F_ hF_ hM_
  refine hRet _ _ (bodyPost_1 rfl (RV.tmp rfl) ?_ F_ hF_ hM_)
  exact ⟨rfl, H.sub (List.nil_sublist _)⟩
theorem Part_up (a u d : Nat) (ha : a < K) (hu : u < K) (hd_ : d < K) (hd : d ≠ 0) (w : World) : Calls Try.prog 14 #[.int .u64 (a : Int), .int .u64 (u : Int), .int .u64 (d : Int), .bool true] w fun e w' => e = .returned (.tuple #[.int .u64 ((partV a u d true : Nat) : Int), .int .i64 ((partE a u d true : Nat) : Int)]) ∧ Hp w [] [] w' := by
  have hMX : MX = 4611686018427387904 := rfl
  have hK0 : K = 18446744073709551616 := rfl
  have hK40 : K4 = 115792089237316195423570985008687907853269984665640564039457584007913129639936 := rfl
  refine calls_G (args := [.int .u64 (a : Int), .int .u64 (u : Int), .int .u64 (d : Int), .bool true]) Try.func14 rfl Try.ntmps14 rfl ?_
  intro Q0 hRet hNor hPan
  have H := Hp.start w
  have H : Hp w [] [] w := H
  refine G.seqK fun K1 hK2 => ?_
  refine G.region ?_
  refine GL.run (j := 2) 2 [0, 1, 2, 3] [(0, .int .u64 (a : Int)), (1, .int .u64 (u : Int)), (2, .int .u64 (d : Int)), (3, .bool true)] (by kernel_rfl) rfl ?_
  refine GL.k rfl hK2 (fun _ _ h => h) ?_
  refine G.seqK fun K3 hK4 => ?_
  refine G.seqK fun K5 hK6 => ?_
  refine G.region ?_
  refine GL.run (j := 1) 1 [0, 1, 2, 3, 15] [(0, .int .u64 (a : Int)), (1, .int .u64 (u : Int)), (2, .int .u64 (d : Int)), (3, .bool true), (15, .int .u64 (a : Int))] (by kernel_rfl) rfl ?_
  refine GL.call (j := 2) (Right_calls a w) (by kernel_rfl) rfl (fun e_ w7 hR => ?_)
  obtain ⟨rfl, H9⟩ := hR
  have H8 : Hp w [] [] w7 := H.callNil H9
  refine ⟨_, rfl, [0, 1, 2, 3, 16], [(0, .int .u64 (a : Int)), (1, .int .u64 (u : Int)), (2, .int .u64 (d : Int)), (3, .bool true), (16, .bool (decide ((a : Int) ≤ 4611686018427387904)))], by kernel_rfl, ?_⟩
  refine GL.run (j := 3) 1 [0, 1, 2, 3, 17] [(0, .int .u64 (a : Int)), (1, .int .u64 (u : Int)), (2, .int .u64 (d : Int)), (3, .bool true), (17, .bool (!(decide ((a : Int) ≤ 4611686018427387904))))] (by kernel_rfl) rfl ?_
  refine GL.k rfl hK6 (fun _ _ h => h) ?_
  cases hb10 : (decide ((a : Int) ≤ 4611686018427387904))
  · skip
    have hb10f := of_decide_eq_false hb10
    refine G.yes rfl ?_
    refine G.seqK fun K11 hK12 => ?_
    refine G.region ?_
    refine GL.run (j := 2) 2 [8, 9] [(8, .int .u64 0), (9, .int .i64 1)] (by kernel_rfl) rfl ?_
    refine GL.k rfl hK12 (fun _ _ h => h) ?_
    refine G.ret ?_
    intro F_ hF_ hM_
    refine hRet _ _ (bodyPost_2 rfl (RV.tmp rfl) (RV.tmp rfl) ?_ F_ hF_ hM_)
    have eVE : partV a u d true = 0 ∧ partE a u d true = 1 := by
      exact ⟨(part_arg (by omega)).2, (part_arg (by omega)).1⟩
    rw [eVE.1, eVE.2]
    exact ⟨rfl, H8.sub (List.nil_sublist _)⟩
  · skip
    have hb10f := of_decide_eq_true hb10
    refine G.no rfl ?_
    refine G.skipK hK4 (fun _ _ h => h) ?_
    refine G.seqK fun K13 hK14 => ?_
    refine G.region ?_
    refine GL.run (j := 2) 2 [2, 3, 19, 20] [(2, .int .u64 (d : Int)), (3, .bool true), (19, .int .u64 (a : Int)), (20, .int .u64 (u : Int))] (by kernel_rfl) rfl ?_
    refine GL.call (j := 3) (Product_calls a u ha hu w7) (by kernel_rfl) rfl (fun e_ w15 hR => ?_)
    obtain ⟨he_, H17⟩ := hR
    obtain ⟨n18, hn19⟩ : ∃ v : Nat, v = a * u := ⟨_, rfl⟩
    rw [← hn19] at he_
    have n18l : n18 < K4 := by rw [hn19]; exact prod_lt ha hu
    subst he_
    have H16 : Hp w [] [] w15 := H8.callNil H17
    refine ⟨_, rfl, [2, 3, 21], [(2, .int .u64 (d : Int)), (3, .bool true), (21, wv n18)], by kernel_rfl, ?_⟩
    have hp := hn19
    refine GL.run (j := 4) 1 [3, 21, 22] [(3, .bool true), (21, wv n18), (22, .int .u64 (d : Int))] (by kernel_rfl) rfl ?_
    refine GL.call (j := 5) (Of_calls d hd_ w15) (by kernel_rfl) rfl (fun e_ w20 hR => ?_)
    obtain ⟨he_, H22⟩ := hR
    subst he_
    have H21 : Hp w [] [] w20 := H16.callNil H22
    refine ⟨_, rfl, [3, 21, 23], [(3, .bool true), (21, wv n18), (23, wv d)], by kernel_rfl, ?_⟩
    refine GL.call (j := 6) (Div_calls n18 d n18l (Nat.lt_trans hd_ (by decide)) (hd) w20) (by kernel_rfl) rfl (fun e_ w23 hR => ?_)
    obtain ⟨he_, H25⟩ := hR
    obtain ⟨n26, hn27⟩ : ∃ v : Nat, v = n18 / d := ⟨_, rfl⟩
    rw [← hn27] at he_
    have n26l : n26 < K4 := by rw [hn27]; exact Nat.lt_of_le_of_lt (Nat.div_le_self _ _) n18l
    obtain ⟨n28, hn29⟩ : ∃ v : Nat, v = n18 % d := ⟨_, rfl⟩
    rw [← hn29] at he_
    have n28l : n28 < K4 := by rw [hn29]; exact Nat.lt_of_le_of_lt (Nat.mod_le _ _) n18l
    subst he_
    have hdmn26 : n26 * d + n28 = n18 := by rw [hn27, hn29] <;> exact Nat.div_add_mod' _ _
    have H24 : Hp w [] [] w23 := H21.callNil H25
    refine ⟨_, rfl, [3, 24], [(3, .bool true), (24, .tuple #[wv n26, wv n28, .int .i64 0])], by kernel_rfl, ?_⟩
    have hq := hn27
    have hr := hn29
    refine GL.run (j := 10) 4 [3, 25, 26, 27] [(3, .bool true), (25, wv n26), (26, wv n28), (27, .int .i64 0)] (by kernel_rfl) rfl ?_
    obtain ⟨p30, w31, r32, H33⟩ := H24.alloc (P := Try.prog) 55 [.int .u64 0, .int .u64 0, .int .u64 0, .int .u64 0] (by kernel_rfl)
    have H33 : Hp w [] [.blk p30 [.int .u64 0, .int .u64 0, .int .u64 0, .int .u64 0] 55] w31 := H33
    refine GL.sem (j := 11) (r32) [3, 10, 25, 26, 27] [(3, .bool true), (10, pt p30 0), (25, wv n26), (26, wv n28), (27, .int .i64 0)] (by kernel_rfl) (by kernel_rfl) rfl ?_
    obtain ⟨p34, w35, r36, H37⟩ := H33.alloc (P := Try.prog) 55 [.int .u64 0, .int .u64 0, .int .u64 0, .int .u64 0] (by kernel_rfl)
    have H37 : Hp w [] [.blk p30 [.int .u64 0, .int .u64 0, .int .u64 0, .int .u64 0] 55, .blk p34 [.int .u64 0, .int .u64 0, .int .u64 0, .int .u64 0] 55] w35 := H37
    refine GL.sem (j := 12) (r36) [3, 10, 11, 25, 26, 27] [(3, .bool true), (10, pt p30 0), (11, pt p34 0), (25, wv n26), (26, wv n28), (27, .int .i64 0)] (by kernel_rfl) (by kernel_rfl) rfl ?_
    obtain ⟨w38, r39, H40⟩ := H37.stA (P := Try.prog) (o := 0) (vs := [.int .u64 (wd n26 0 : Int), .int .u64 (wd n26 1 : Int), .int .u64 (wd n26 2 : Int), .int .u64 (wd n26 3 : Int)]) (ty := 55) (m := 4) 0 rfl (by kernel_rfl) rfl (by simp) (by simp [Value.oneCell'])
    have H40 : Hp w [] [.blk p30 [.int .u64 (wd n26 0 : Int), .int .u64 (wd n26 1 : Int), .int .u64 (wd n26 2 : Int), .int .u64 (wd n26 3 : Int)] 55, .blk p34 [.int .u64 0, .int .u64 0, .int .u64 0, .int .u64 0] 55] w38 := H40
    refine GL.semU (j := 13) r39 [3, 10, 11, 26, 27] [(3, .bool true), (10, pt p30 0), (11, pt p34 0), (26, wv n28), (27, .int .i64 0)] (by kernel_rfl) rfl rfl rfl ?_
    obtain ⟨w41, r42, H43⟩ := H40.stA (P := Try.prog) (o := 0) (vs := [.int .u64 (wd n28 0 : Int), .int .u64 (wd n28 1 : Int), .int .u64 (wd n28 2 : Int), .int .u64 (wd n28 3 : Int)]) (ty := 55) (m := 4) 1 rfl (by kernel_rfl) rfl (by simp) (by simp [Value.oneCell'])
    have H43 : Hp w [] [.blk p30 [.int .u64 (wd n26 0 : Int), .int .u64 (wd n26 1 : Int), .int .u64 (wd n26 2 : Int), .int .u64 (wd n26 3 : Int)] 55, .blk p34 [.int .u64 (wd n28 0 : Int), .int .u64 (wd n28 1 : Int), .int .u64 (wd n28 2 : Int), .int .u64 (wd n28 3 : Int)] 55] w41 := H43
    refine GL.semU (j := 14) r42 [3, 10, 11, 27] [(3, .bool true), (10, pt p30 0), (11, pt p34 0), (27, .int .i64 0)] (by kernel_rfl) rfl rfl rfl ?_
    refine GL.run (j := 15) 1 [3, 10, 11, 12] [(3, .bool true), (10, pt p30 0), (11, pt p34 0), (12, .int .i64 0)] (by kernel_rfl) rfl ?_
    refine GL.k rfl hK14 (fun _ _ h => h) ?_
    refine G.seqK fun K44 hK45 => ?_
    refine G.seqK fun K46 hK47 => ?_
    refine G.region ?_
    refine GL.run (j := 2) 2 [3, 10, 11, 12, 29] [(3, .bool true), (10, pt p30 0), (11, pt p34 0), (12, .int .i64 0), (29, .bool false)] (by kernel_rfl) rfl ?_
    refine GL.k rfl hK47 (fun _ _ h => h) ?_
    refine G.no rfl ?_
    refine G.skipK hK45 (fun _ _ h => h) ?_
    refine G.seqK fun K48 hK49 => ?_
    refine G.seqK fun K50 hK51 => ?_
    refine G.region ?_
    refine GL.run (j := 2) 2 [10, 11, 32] [(10, pt p30 0), (11, pt p34 0), (32, .bool true)] (by kernel_rfl) rfl ?_
    refine GL.sem (j := 3) (H43.ldA (o := 0) (ty := 55) (m := 4) (sub := [.int .u64 (wd n28 0 : Int), .int .u64 (wd n28 1 : Int), .int .u64 (wd n28 2 : Int), .int .u64 (wd n28 3 : Int)]) 1 rfl (by kernel_rfl) rfl rfl) [10, 32, 33] [(10, pt p30 0), (32, .bool true), (33, wv n28)] (by kernel_rfl) (by kernel_rfl) rfl ?_
    refine GL.run (j := 4) 1 [10, 32, 33, 34] [(10, pt p30 0), (32, .bool true), (33, wv n28), (34, .agg #[.int .u64 0, .int .u64 0, .int .u64 0, .int .u64 0])] (by kernel_rfl) rfl ?_
    refine GL.sem (j := 5) (run_arr_neq (P := Try.prog) (t := 55) (n := 4) (k := .u64) (x := (.tmp 33)) (y := (.tmp 34)) (by kernel_rfl) [(wd n28 0 : Int), (wd n28 1 : Int), (wd n28 2 : Int), (wd n28 3 : Int)] [0, 0, 0, 0] rfl rfl _) [10, 32, 35] [(10, pt p30 0), (32, .bool true), (35, .bool (!(decide (([(wd n28 0 : Int), (wd n28 1 : Int), (wd n28 2 : Int), (wd n28 3 : Int)] : List Int) = [0, 0, 0, 0]))))] (by kernel_rfl) (by kernel_rfl) rfl ?_
    refine GL.run (j := 6) 1 [10, 36] [(10, pt p30 0), (36, .bool (!(decide (([(wd n28 0 : Int), (wd n28 1 : Int), (wd n28 2 : Int), (wd n28 3 : Int)] : List Int) = [0, 0, 0, 0]))))] (by kernel_rfl) rfl ?_
    refine GL.k rfl hK51 (fun _ _ h => h) ?_
    cases hb52 : (decide (([(wd n28 0 : Int), (wd n28 1 : Int), (wd n28 2 : Int), (wd n28 3 : Int)] : List Int) = [0, 0, 0, 0]))
    · skip
      have hb52f := of_decide_eq_false hb52
      have hr0 : n28 ≠ 0 := fun h => of_decide_eq_false hb52 ((wv_eq (y := 0) n28l (by decide)).2 h)
      refine G.yes rfl ?_
      refine G.heldP (Hp w [] [.blk p34 [.int .u64 (wd n28 0 : Int), .int .u64 (wd n28 1 : Int), .int .u64 (wd n28 2 : Int), .int .u64 (wd n28 3 : Int)] 55]) (by kernel_rfl) (by kernel_rfl) (fun c_ a_ d_ v_ w_ h_ => hPan c_ a_ d_ v_ w_ h_) ?_
      have H53 := H43.drew
      generalize ({ w41 with drawn := w41.drawn + 1 } : World) = w54 at H53 ⊢
      have hS55 : Hp w [] [.blk p34 [.int .u64 (wd n28 0 : Int), .int .u64 (wd n28 1 : Int), .int .u64 (wd n28 2 : Int), .int .u64 (wd n28 3 : Int)] 55] w54 := H53.sub (List.Sublist.cons _ (List.Sublist.cons_cons _ (List.Sublist.slnil)))
      refine GP.named fun X hX => ?_
      have st69 : ∀ (wD_ : World), Hp w [] [.blk p30 [.int .u64 (wd n26 0 : Int), .int .u64 (wd n26 1 : Int), .int .u64 (wd n26 2 : Int), .int .u64 (wd n26 3 : Int)] 55, .blk p34 [.int .u64 (wd n28 0 : Int), .int .u64 (wd n28 1 : Int), .int .u64 (wd n28 2 : Int), .int .u64 (wd n28 3 : Int)] 55] wD_ → X [0, 1] [(10, pt p30 0), (38, wv n26), (39, wv 1)] wD_ := by
        intro wD_ HD_
        rw [hX]
        have hS70 : Hp w [] [.blk p34 [.int .u64 (wd n28 0 : Int), .int .u64 (wd n28 1 : Int), .int .u64 (wd n28 2 : Int), .int .u64 (wd n28 3 : Int)] 55] wD_ := HD_.sub (List.Sublist.cons _ (List.Sublist.cons_cons _ (List.Sublist.slnil)))
        refine GP.call 2 (Add_calls n26 1 n26l (by decide) wD_) (by kernel_rfl) (by kernel_rfl) (fun e_ w71 hR => ?_)
        obtain ⟨he_, H73⟩ := hR
        obtain ⟨n74, hn75⟩ : ∃ v : Nat, v = (n26 + 1) % K4 := ⟨_, rfl⟩
        rw [← hn75] at he_
        have n74l : n74 < K4 := by rw [hn75]; exact Nat.mod_lt _ (by decide)
        subst he_
        have H72 : Hp w [] [.blk p30 [.int .u64 (wd n26 0 : Int), .int .u64 (wd n26 1 : Int), .int .u64 (wd n26 2 : Int), .int .u64 (wd n26 3 : Int)] 55, .blk p34 [.int .u64 (wd n28 0 : Int), .int .u64 (wd n28 1 : Int), .int .u64 (wd n28 2 : Int), .int .u64 (wd n28 3 : Int)] 55] w71 := HD_.callNil H73
        have hS76 : Hp w [] [.blk p34 [.int .u64 (wd n28 0 : Int), .int .u64 (wd n28 1 : Int), .int .u64 (wd n28 2 : Int), .int .u64 (wd n28 3 : Int)] 55] w71 := H72.sub (List.Sublist.cons _ (List.Sublist.cons_cons _ (List.Sublist.slnil)))
        refine ⟨_, rfl, hS76, [10, 40], [(10, pt p30 0), (40, .tuple #[wv n74, .bool (decide (K4 ≤ n26 + 1))])], by kernel_rfl, ?_⟩
        refine GP.run [3, 4, 5] [10, 41] [(10, pt p30 0), (41, wv n74)] [0, 1, 2, 3, 4, 5] (by kernel_rfl) rfl hS76 ?_
        obtain ⟨w77, r78, H79⟩ := H72.stA (P := Try.prog) (o := 0) (vs := [.int .u64 (wd n74 0 : Int), .int .u64 (wd n74 1 : Int), .int .u64 (wd n74 2 : Int), .int .u64 (wd n74 3 : Int)]) (ty := 55) (m := 4) 0 rfl (by kernel_rfl) rfl (by simp) (by simp [Value.oneCell'])
        have H79 : Hp w [] [.blk p30 [.int .u64 (wd n74 0 : Int), .int .u64 (wd n74 1 : Int), .int .u64 (wd n74 2 : Int), .int .u64 (wd n74 3 : Int)] 55, .blk p34 [.int .u64 (wd n28 0 : Int), .int .u64 (wd n28 1 : Int), .int .u64 (wd n28 2 : Int), .int .u64 (wd n28 3 : Int)] 55] w77 := H79
        have hS80 : Hp w [] [.blk p34 [.int .u64 (wd n28 0 : Int), .int .u64 (wd n28 1 : Int), .int .u64 (wd n28 2 : Int), .int .u64 (wd n28 3 : Int)] 55] w77 := H79.sub (List.Sublist.cons _ (List.Sublist.cons_cons _ (List.Sublist.slnil)))
        refine GP.semU 6 r78 [10] [(10, pt p30 0)] (by kernel_rfl) rfl rfl (by kernel_rfl) hS80 ?_
        refine GP.k (by kernel_rfl) hK49 (fun _ _ h => h) ?_
        refine G.seqK fun K81 hK82 => ?_
        refine G.region ?_
        refine GL.sem (j := 1) (H79.ldA (o := 0) (ty := 55) (m := 4) (sub := [.int .u64 (wd n74 0 : Int), .int .u64 (wd n74 1 : Int), .int .u64 (wd n74 2 : Int), .int .u64 (wd n74 3 : Int)]) 0 rfl (by kernel_rfl) rfl rfl) [44] [(44, wv n74)] (by kernel_rfl) (by kernel_rfl) rfl ?_
        refine GL.call (j := 2) (Uint_calls n74 n74l w77) (by kernel_rfl) rfl (fun e_ w83 hR => ?_)
        obtain ⟨he_, H85⟩ := hR
        subst he_
        have H84 : Hp w [] [.blk p30 [.int .u64 (wd n74 0 : Int), .int .u64 (wd n74 1 : Int), .int .u64 (wd n74 2 : Int), .int .u64 (wd n74 3 : Int)] 55, .blk p34 [.int .u64 (wd n28 0 : Int), .int .u64 (wd n28 1 : Int), .int .u64 (wd n28 2 : Int), .int .u64 (wd n28 3 : Int)] 55] w83 := H79.callNil H85
        refine ⟨_, rfl, [45], [(45, .tuple #[.int .u64 (((oneW n74) : Nat) : Int), .bool (decide (n74 < K))])], by kernel_rfl, ?_⟩
        refine GL.run (j := 7) 5 [13, 14] [(13, .int .u64 (((oneW n74) : Nat) : Int)), (14, .bool (decide (n74 < K)))] (by kernel_rfl) rfl ?_
        refine GL.k rfl hK82 (fun _ _ h => h) ?_
        refine G.seqK fun K86 hK87 => ?_
        refine G.seqK fun K88 hK89 => ?_
        refine G.region ?_
        refine GL.run (j := 3) 3 [13, 50] [(13, .int .u64 (((oneW n74) : Nat) : Int)), (50, .bool (!(decide (n74 < K))))] (by kernel_rfl) rfl ?_
        cases hb90 : (decide (n74 < K))
        · skip
          have hb90f := of_decide_eq_false hb90
          refine GL.run (j := 7) 4 [13, 54] [(13, .int .u64 (((oneW n74) : Nat) : Int)), (54, .bool true)] (by kernel_rfl) rfl ?_
          refine GL.k rfl hK89 (fun _ _ h => h) ?_
          refine G.yes rfl ?_
          refine G.seqK fun K91 hK92 => ?_
          refine G.region ?_
          refine GL.run (j := 2) 2 [8, 9] [(8, .int .u64 0), (9, .int .i64 4)] (by kernel_rfl) rfl ?_
          refine GL.k rfl hK92 (fun _ _ h => h) ?_
          refine G.ret ?_
          intro F_ hF_ hM_
          refine hRet _ _ (bodyPost_2 rfl (RV.tmp rfl) (RV.tmp rfl) ?_ F_ hF_ hM_)
          have eVE : partV a u d true = 0 ∧ partE a u d true = 4 := by
            have hQ := partQ_one (u := u) (a := a) (d := d) (by rw [← hp, ← hr]; exact hr0)
            rw [← hp, ← hq] at hQ
            have hB := part_bound (d := d) (show a ≤ MX by omega) hu
            rw [← hp, ← hq] at hB
            have c := oneW_cases n74
            have hX1 : n74 = n26 + 1 := by rw [hn75]; exact Nat.mod_eq_of_lt hB
            have hX : n74 = partQ a u d true := by omega
            obtain ⟨p1, p2⟩ := part_over (a := a) (u := u) (d := d) (m := true) (by omega) hd (by omega)
            exact ⟨by omega, p1⟩
          rw [eVE.1, eVE.2]
          exact ⟨rfl, H84.sub (List.nil_sublist _)⟩
        · skip
          have hb90f := of_decide_eq_true hb90
          refine GL.run (j := 4) 1 [13, 50, 51] [(13, .int .u64 (((oneW n74) : Nat) : Int)), (50, .bool false), (51, .int .u64 (((oneW n74) : Nat) : Int))] (by kernel_rfl) rfl ?_
          refine GL.call (j := 5) (Right_calls (oneW n74) w83) (by kernel_rfl) rfl (fun e_ w93 hR => ?_)
          obtain ⟨rfl, H95⟩ := hR
          have H94 : Hp w [] [.blk p30 [.int .u64 (wd n74 0 : Int), .int .u64 (wd n74 1 : Int), .int .u64 (wd n74 2 : Int), .int .u64 (wd n74 3 : Int)] 55, .blk p34 [.int .u64 (wd n28 0 : Int), .int .u64 (wd n28 1 : Int), .int .u64 (wd n28 2 : Int), .int .u64 (wd n28 3 : Int)] 55] w93 := H84.callNil H95
          refine ⟨_, rfl, [13, 50, 52], [(13, .int .u64 (((oneW n74) : Nat) : Int)), (50, .bool false), (52, .bool (decide (((oneW n74) : Int) ≤ 4611686018427387904)))], by kernel_rfl, ?_⟩
          refine GL.run (j := 7) 2 [13, 54] [(13, .int .u64 (((oneW n74) : Nat) : Int)), (54, .bool (!(decide (((oneW n74) : Int) ≤ 4611686018427387904))))] (by kernel_rfl) rfl ?_
          refine GL.k rfl hK89 (fun _ _ h => h) ?_
          cases hb96 : (decide (((oneW n74) : Int) ≤ 4611686018427387904))
          · skip
            have hb96f := of_decide_eq_false hb96
            refine G.yes rfl ?_
            refine G.seqK fun K97 hK98 => ?_
            refine G.region ?_
            refine GL.run (j := 2) 2 [8, 9] [(8, .int .u64 0), (9, .int .i64 4)] (by kernel_rfl) rfl ?_
            refine GL.k rfl hK98 (fun _ _ h => h) ?_
            refine G.ret ?_
            intro F_ hF_ hM_
            refine hRet _ _ (bodyPost_2 rfl (RV.tmp rfl) (RV.tmp rfl) ?_ F_ hF_ hM_)
            have eVE : partV a u d true = 0 ∧ partE a u d true = 4 := by
              have hQ := partQ_one (u := u) (a := a) (d := d) (by rw [← hp, ← hr]; exact hr0)
              rw [← hp, ← hq] at hQ
              have hB := part_bound (d := d) (show a ≤ MX by omega) hu
              rw [← hp, ← hq] at hB
              have c := oneW_cases n74
              have hX1 : n74 = n26 + 1 := by rw [hn75]; exact Nat.mod_eq_of_lt hB
              have hX : n74 = partQ a u d true := by omega
              obtain ⟨p1, p2⟩ := part_over (a := a) (u := u) (d := d) (m := true) (by omega) hd (by omega)
              exact ⟨by omega, p1⟩
            rw [eVE.1, eVE.2]
            exact ⟨rfl, H94.sub (List.nil_sublist _)⟩
          · skip
            have hb96f := of_decide_eq_true hb96
            refine G.no rfl ?_
            refine G.skipK hK87 (fun _ _ h => h) ?_
            refine G.seqK fun K99 hK100 => ?_
            refine G.region ?_
            refine GL.run (j := 3) 3 [8, 9] [(8, .int .u64 (((oneW n74) : Nat) : Int)), (9, .int .i64 0)] (by kernel_rfl) rfl ?_
            refine GL.k rfl hK100 (fun _ _ h => h) ?_
            refine G.ret ?_
            intro F_ hF_ hM_
            refine hRet _ _ (bodyPost_2 rfl (RV.tmp rfl) (RV.tmp rfl) ?_ F_ hF_ hM_)
            have eVE : partV a u d true = (oneW n74) ∧ partE a u d true = 0 := by
              have hQ := partQ_one (u := u) (a := a) (d := d) (by rw [← hp, ← hr]; exact hr0)
              rw [← hp, ← hq] at hQ
              have hB := part_bound (d := d) (show a ≤ MX by omega) hu
              rw [← hp, ← hq] at hB
              have c := oneW_cases n74
              have hX1 : n74 = n26 + 1 := by rw [hn75]; exact Nat.mod_eq_of_lt hB
              have hX : n74 = partQ a u d true := by omega
              obtain ⟨p1, p2⟩ := part_ok (a := a) (u := u) (d := d) (m := true) (by omega) hd (by omega)
              exact ⟨by omega, p1⟩
            rw [eVE.1, eVE.2]
            exact ⟨rfl, H94.sub (List.nil_sublist _)⟩
      have st67 : ∀ (wD_ : World), Hp w [] [.blk p30 [.int .u64 (wd n26 0 : Int), .int .u64 (wd n26 1 : Int), .int .u64 (wd n26 2 : Int), .int .u64 (wd n26 3 : Int)] 55, .blk p34 [.int .u64 (wd n28 0 : Int), .int .u64 (wd n28 1 : Int), .int .u64 (wd n28 2 : Int), .int .u64 (wd n28 3 : Int)] 55] wD_ → X [0] [(10, pt p30 0), (38, wv n26)] wD_ := by
        intro wD_ HD_
        rw [hX]
        have hS101 : Hp w [] [.blk p34 [.int .u64 (wd n28 0 : Int), .int .u64 (wd n28 1 : Int), .int .u64 (wd n28 2 : Int), .int .u64 (wd n28 3 : Int)] 55] wD_ := HD_.sub (List.Sublist.cons _ (List.Sublist.cons_cons _ (List.Sublist.slnil)))
        refine GP.all1 1 (by kernel_rfl) ?_
        · skip
          have hS102 : Hp w [] [.blk p34 [.int .u64 (wd n28 0 : Int), .int .u64 (wd n28 1 : Int), .int .u64 (wd n28 2 : Int), .int .u64 (wd n28 3 : Int)] 55] wD_ := HD_.sub (List.Sublist.cons _ (List.Sublist.cons_cons _ (List.Sublist.slnil)))
          refine GO.call (Of_calls 1 (by decide) wD_) (by kernel_rfl) (fun e_ w103 hR => ?_)
          obtain ⟨rfl, H105⟩ := hR
          have H104 : Hp w [] [.blk p30 [.int .u64 (wd n26 0 : Int), .int .u64 (wd n26 1 : Int), .int .u64 (wd n26 2 : Int), .int .u64 (wd n26 3 : Int)] 55, .blk p34 [.int .u64 (wd n28 0 : Int), .int .u64 (wd n28 1 : Int), .int .u64 (wd n28 2 : Int), .int .u64 (wd n28 3 : Int)] 55] w103 := HD_.callNil H105
          have hS106 : Hp w [] [.blk p34 [.int .u64 (wd n28 0 : Int), .int .u64 (wd n28 1 : Int), .int .u64 (wd n28 2 : Int), .int .u64 (wd n28 3 : Int)] 55] w103 := H104.sub (List.Sublist.cons _ (List.Sublist.cons_cons _ (List.Sublist.slnil)))
          refine ⟨_, rfl, hS106, [10, 38, 39], [(10, pt p30 0), (38, wv n26), (39, wv 1)], by kernel_rfl, ?_⟩
          refine GP.perm [0, 1] (by kernel_rfl) rfl ?_
          rw [← hX]
          exact st69 _ H104
      have st68 : ∀ (wD_ : World), Hp w [] [.blk p30 [.int .u64 (wd n26 0 : Int), .int .u64 (wd n26 1 : Int), .int .u64 (wd n26 2 : Int), .int .u64 (wd n26 3 : Int)] 55, .blk p34 [.int .u64 (wd n28 0 : Int), .int .u64 (wd n28 1 : Int), .int .u64 (wd n28 2 : Int), .int .u64 (wd n28 3 : Int)] 55] wD_ → X [1] [(10, pt p30 0), (39, wv 1)] wD_ := by
        intro wD_ HD_
        rw [hX]
        have hS107 : Hp w [] [.blk p34 [.int .u64 (wd n28 0 : Int), .int .u64 (wd n28 1 : Int), .int .u64 (wd n28 2 : Int), .int .u64 (wd n28 3 : Int)] 55] wD_ := HD_.sub (List.Sublist.cons _ (List.Sublist.cons_cons _ (List.Sublist.slnil)))
        refine GP.all1 0 (by kernel_rfl) ?_
        · skip
          have hS108 : Hp w [] [.blk p34 [.int .u64 (wd n28 0 : Int), .int .u64 (wd n28 1 : Int), .int .u64 (wd n28 2 : Int), .int .u64 (wd n28 3 : Int)] 55] wD_ := HD_.sub (List.Sublist.cons _ (List.Sublist.cons_cons _ (List.Sublist.slnil)))
          have hS109 : Hp w [] [.blk p34 [.int .u64 (wd n28 0 : Int), .int .u64 (wd n28 1 : Int), .int .u64 (wd n28 2 : Int), .int .u64 (wd n28 3 : Int)] 55] wD_ := HD_.sub (List.Sublist.cons _ (List.Sublist.cons_cons _ (List.Sublist.slnil)))
          refine GO.made (HD_.ldA (o := 0) (ty := 55) (m := 4) (sub := [.int .u64 (wd n26 0 : Int), .int .u64 (wd n26 1 : Int), .int .u64 (wd n26 2 : Int), .int .u64 (wd n26 3 : Int)]) 0 rfl (by kernel_rfl) rfl rfl) [10, 38, 39] [(10, pt p30 0), (38, wv n26), (39, wv 1)] (by kernel_rfl) (by kernel_rfl) hS109 ?_
          refine GP.perm [0, 1] (by kernel_rfl) rfl ?_
          rw [← hX]
          exact st69 _ HD_
      have st66 : ∀ (wD_ : World), Hp w [] [.blk p30 [.int .u64 (wd n26 0 : Int), .int .u64 (wd n26 1 : Int), .int .u64 (wd n26 2 : Int), .int .u64 (wd n26 3 : Int)] 55, .blk p34 [.int .u64 (wd n28 0 : Int), .int .u64 (wd n28 1 : Int), .int .u64 (wd n28 2 : Int), .int .u64 (wd n28 3 : Int)] 55] wD_ → X [] [(10, pt p30 0), (36, .bool true)] wD_ := by
        intro wD_ HD_
        rw [hX]
        have hS110 : Hp w [] [.blk p34 [.int .u64 (wd n28 0 : Int), .int .u64 (wd n28 1 : Int), .int .u64 (wd n28 2 : Int), .int .u64 (wd n28 3 : Int)] 55] wD_ := HD_.sub (List.Sublist.cons _ (List.Sublist.cons_cons _ (List.Sublist.slnil)))
        refine GP.all2 0 1 (by kernel_rfl) ?_ ?_
        · skip
          have hS111 : Hp w [] [.blk p34 [.int .u64 (wd n28 0 : Int), .int .u64 (wd n28 1 : Int), .int .u64 (wd n28 2 : Int), .int .u64 (wd n28 3 : Int)] 55] wD_ := HD_.sub (List.Sublist.cons _ (List.Sublist.cons_cons _ (List.Sublist.slnil)))
          have hS112 : Hp w [] [.blk p34 [.int .u64 (wd n28 0 : Int), .int .u64 (wd n28 1 : Int), .int .u64 (wd n28 2 : Int), .int .u64 (wd n28 3 : Int)] 55] wD_ := HD_.sub (List.Sublist.cons _ (List.Sublist.cons_cons _ (List.Sublist.slnil)))
          refine GO.made (HD_.ldA (o := 0) (ty := 55) (m := 4) (sub := [.int .u64 (wd n26 0 : Int), .int .u64 (wd n26 1 : Int), .int .u64 (wd n26 2 : Int), .int .u64 (wd n26 3 : Int)]) 0 rfl (by kernel_rfl) rfl rfl) [10, 38] [(10, pt p30 0), (38, wv n26)] (by kernel_rfl) (by kernel_rfl) hS112 ?_
          refine GP.perm [0] (by kernel_rfl) rfl ?_
          rw [← hX]
          exact st67 _ HD_
        · skip
          have hS113 : Hp w [] [.blk p34 [.int .u64 (wd n28 0 : Int), .int .u64 (wd n28 1 : Int), .int .u64 (wd n28 2 : Int), .int .u64 (wd n28 3 : Int)] 55] wD_ := HD_.sub (List.Sublist.cons _ (List.Sublist.cons_cons _ (List.Sublist.slnil)))
          refine GO.call (Of_calls 1 (by decide) wD_) (by kernel_rfl) (fun e_ w114 hR => ?_)
          obtain ⟨rfl, H116⟩ := hR
          have H115 : Hp w [] [.blk p30 [.int .u64 (wd n26 0 : Int), .int .u64 (wd n26 1 : Int), .int .u64 (wd n26 2 : Int), .int .u64 (wd n26 3 : Int)] 55, .blk p34 [.int .u64 (wd n28 0 : Int), .int .u64 (wd n28 1 : Int), .int .u64 (wd n28 2 : Int), .int .u64 (wd n28 3 : Int)] 55] w114 := HD_.callNil H116
          have hS117 : Hp w [] [.blk p34 [.int .u64 (wd n28 0 : Int), .int .u64 (wd n28 1 : Int), .int .u64 (wd n28 2 : Int), .int .u64 (wd n28 3 : Int)] 55] w114 := H115.sub (List.Sublist.cons _ (List.Sublist.cons_cons _ (List.Sublist.slnil)))
          refine ⟨_, rfl, hS117, [10, 39], [(10, pt p30 0), (39, wv 1)], by kernel_rfl, ?_⟩
          refine GP.perm [1] (by kernel_rfl) rfl ?_
          rw [← hX]
          exact st68 _ H115
      exact st66 _ H53
    · skip
      have hb52f := of_decide_eq_true hb52
      have hr0 : n28 = 0 := (wv_eq (y := 0) n28l (by decide)).1 (of_decide_eq_true hb52)
      refine G.no rfl ?_
      refine G.skipK hK49 (fun _ _ h => h) ?_
      refine G.seqK fun K118 hK119 => ?_
      refine G.region ?_
      refine GL.sem (j := 1) (H43.ldA (o := 0) (ty := 55) (m := 4) (sub := [.int .u64 (wd n26 0 : Int), .int .u64 (wd n26 1 : Int), .int .u64 (wd n26 2 : Int), .int .u64 (wd n26 3 : Int)]) 0 rfl (by kernel_rfl) rfl rfl) [44] [(44, wv n26)] (by kernel_rfl) (by kernel_rfl) rfl ?_
      refine GL.call (j := 2) (Uint_calls n26 n26l w41) (by kernel_rfl) rfl (fun e_ w120 hR => ?_)
      obtain ⟨he_, H122⟩ := hR
      subst he_
      have H121 : Hp w [] [.blk p30 [.int .u64 (wd n26 0 : Int), .int .u64 (wd n26 1 : Int), .int .u64 (wd n26 2 : Int), .int .u64 (wd n26 3 : Int)] 55, .blk p34 [.int .u64 (wd n28 0 : Int), .int .u64 (wd n28 1 : Int), .int .u64 (wd n28 2 : Int), .int .u64 (wd n28 3 : Int)] 55] w120 := H43.callNil H122
      refine ⟨_, rfl, [45], [(45, .tuple #[.int .u64 (((oneW n26) : Nat) : Int), .bool (decide (n26 < K))])], by kernel_rfl, ?_⟩
      refine GL.run (j := 7) 5 [13, 14] [(13, .int .u64 (((oneW n26) : Nat) : Int)), (14, .bool (decide (n26 < K)))] (by kernel_rfl) rfl ?_
      refine GL.k rfl hK119 (fun _ _ h => h) ?_
      refine G.seqK fun K123 hK124 => ?_
      refine G.seqK fun K125 hK126 => ?_
      refine G.region ?_
      refine GL.run (j := 3) 3 [13, 50] [(13, .int .u64 (((oneW n26) : Nat) : Int)), (50, .bool (!(decide (n26 < K))))] (by kernel_rfl) rfl ?_
      cases hb127 : (decide (n26 < K))
      · skip
        have hb127f := of_decide_eq_false hb127
        refine GL.run (j := 7) 4 [13, 54] [(13, .int .u64 (((oneW n26) : Nat) : Int)), (54, .bool true)] (by kernel_rfl) rfl ?_
        refine GL.k rfl hK126 (fun _ _ h => h) ?_
        refine G.yes rfl ?_
        refine G.seqK fun K128 hK129 => ?_
        refine G.region ?_
        refine GL.run (j := 2) 2 [8, 9] [(8, .int .u64 0), (9, .int .i64 4)] (by kernel_rfl) rfl ?_
        refine GL.k rfl hK129 (fun _ _ h => h) ?_
        refine G.ret ?_
        intro F_ hF_ hM_
        refine hRet _ _ (bodyPost_2 rfl (RV.tmp rfl) (RV.tmp rfl) ?_ F_ hF_ hM_)
        have eVE : partV a u d true = 0 ∧ partE a u d true = 4 := by
          have hQ := partQ_none (u := u) (a := a) (d := d) (by rw [← hp, ← hr]; exact hr0)
          rw [← hp, ← hq] at hQ
          have hB := part_bound (d := d) (show a ≤ MX by omega) hu
          rw [← hp, ← hq] at hB
          have c := oneW_cases n26
          have hX : n26 = partQ a u d true := by omega
          obtain ⟨p1, p2⟩ := part_over (a := a) (u := u) (d := d) (m := true) (by omega) hd (by omega)
          exact ⟨by omega, p1⟩
        rw [eVE.1, eVE.2]
        exact ⟨rfl, H121.sub (List.nil_sublist _)⟩
      · skip
        have hb127f := of_decide_eq_true hb127
        refine GL.run (j := 4) 1 [13, 50, 51] [(13, .int .u64 (((oneW n26) : Nat) : Int)), (50, .bool false), (51, .int .u64 (((oneW n26) : Nat) : Int))] (by kernel_rfl) rfl ?_
        refine GL.call (j := 5) (Right_calls (oneW n26) w120) (by kernel_rfl) rfl (fun e_ w130 hR => ?_)
        obtain ⟨rfl, H132⟩ := hR
        have H131 : Hp w [] [.blk p30 [.int .u64 (wd n26 0 : Int), .int .u64 (wd n26 1 : Int), .int .u64 (wd n26 2 : Int), .int .u64 (wd n26 3 : Int)] 55, .blk p34 [.int .u64 (wd n28 0 : Int), .int .u64 (wd n28 1 : Int), .int .u64 (wd n28 2 : Int), .int .u64 (wd n28 3 : Int)] 55] w130 := H121.callNil H132
        refine ⟨_, rfl, [13, 50, 52], [(13, .int .u64 (((oneW n26) : Nat) : Int)), (50, .bool false), (52, .bool (decide (((oneW n26) : Int) ≤ 4611686018427387904)))], by kernel_rfl, ?_⟩
        refine GL.run (j := 7) 2 [13, 54] [(13, .int .u64 (((oneW n26) : Nat) : Int)), (54, .bool (!(decide (((oneW n26) : Int) ≤ 4611686018427387904))))] (by kernel_rfl) rfl ?_
        refine GL.k rfl hK126 (fun _ _ h => h) ?_
        cases hb133 : (decide (((oneW n26) : Int) ≤ 4611686018427387904))
        · skip
          have hb133f := of_decide_eq_false hb133
          refine G.yes rfl ?_
          refine G.seqK fun K134 hK135 => ?_
          refine G.region ?_
          refine GL.run (j := 2) 2 [8, 9] [(8, .int .u64 0), (9, .int .i64 4)] (by kernel_rfl) rfl ?_
          refine GL.k rfl hK135 (fun _ _ h => h) ?_
          refine G.ret ?_
          intro F_ hF_ hM_
          refine hRet _ _ (bodyPost_2 rfl (RV.tmp rfl) (RV.tmp rfl) ?_ F_ hF_ hM_)
          have eVE : partV a u d true = 0 ∧ partE a u d true = 4 := by
            have hQ := partQ_none (u := u) (a := a) (d := d) (by rw [← hp, ← hr]; exact hr0)
            rw [← hp, ← hq] at hQ
            have hB := part_bound (d := d) (show a ≤ MX by omega) hu
            rw [← hp, ← hq] at hB
            have c := oneW_cases n26
            have hX : n26 = partQ a u d true := by omega
            obtain ⟨p1, p2⟩ := part_over (a := a) (u := u) (d := d) (m := true) (by omega) hd (by omega)
            exact ⟨by omega, p1⟩
          rw [eVE.1, eVE.2]
          exact ⟨rfl, H131.sub (List.nil_sublist _)⟩
        · skip
          have hb133f := of_decide_eq_true hb133
          refine G.no rfl ?_
          refine G.skipK hK124 (fun _ _ h => h) ?_
          refine G.seqK fun K136 hK137 => ?_
          refine G.region ?_
          refine GL.run (j := 3) 3 [8, 9] [(8, .int .u64 (((oneW n26) : Nat) : Int)), (9, .int .i64 0)] (by kernel_rfl) rfl ?_
          refine GL.k rfl hK137 (fun _ _ h => h) ?_
          refine G.ret ?_
          intro F_ hF_ hM_
          refine hRet _ _ (bodyPost_2 rfl (RV.tmp rfl) (RV.tmp rfl) ?_ F_ hF_ hM_)
          have eVE : partV a u d true = (oneW n26) ∧ partE a u d true = 0 := by
            have hQ := partQ_none (u := u) (a := a) (d := d) (by rw [← hp, ← hr]; exact hr0)
            rw [← hp, ← hq] at hQ
            have hB := part_bound (d := d) (show a ≤ MX by omega) hu
            rw [← hp, ← hq] at hB
            have c := oneW_cases n26
            have hX : n26 = partQ a u d true := by omega
            obtain ⟨p1, p2⟩ := part_ok (a := a) (u := u) (d := d) (m := true) (by omega) hd (by omega)
            exact ⟨by omega, p1⟩
          rw [eVE.1, eVE.2]
          exact ⟨rfl, H131.sub (List.nil_sublist _)⟩
theorem Part_down (a u d : Nat) (ha : a < K) (hu : u < K) (hd_ : d < K) (hd : d ≠ 0) (w : World) : Calls Try.prog 14 #[.int .u64 (a : Int), .int .u64 (u : Int), .int .u64 (d : Int), .bool false] w fun e w' => e = .returned (.tuple #[.int .u64 ((partV a u d false : Nat) : Int), .int .i64 ((partE a u d false : Nat) : Int)]) ∧ Hp w [] [] w' := by
  have hMX : MX = 4611686018427387904 := rfl
  have hK0 : K = 18446744073709551616 := rfl
  have hK40 : K4 = 115792089237316195423570985008687907853269984665640564039457584007913129639936 := rfl
  refine calls_G (args := [.int .u64 (a : Int), .int .u64 (u : Int), .int .u64 (d : Int), .bool false]) Try.func14 rfl Try.ntmps14 rfl ?_
  intro Q0 hRet hNor hPan
  have H := Hp.start w
  have H : Hp w [] [] w := H
  refine G.seqK fun K1 hK2 => ?_
  refine G.region ?_
  refine GL.run (j := 2) 2 [0, 1, 2, 3] [(0, .int .u64 (a : Int)), (1, .int .u64 (u : Int)), (2, .int .u64 (d : Int)), (3, .bool false)] (by kernel_rfl) rfl ?_
  refine GL.k rfl hK2 (fun _ _ h => h) ?_
  refine G.seqK fun K3 hK4 => ?_
  refine G.seqK fun K5 hK6 => ?_
  refine G.region ?_
  refine GL.run (j := 1) 1 [0, 1, 2, 3, 15] [(0, .int .u64 (a : Int)), (1, .int .u64 (u : Int)), (2, .int .u64 (d : Int)), (3, .bool false), (15, .int .u64 (a : Int))] (by kernel_rfl) rfl ?_
  refine GL.call (j := 2) (Right_calls a w) (by kernel_rfl) rfl (fun e_ w7 hR => ?_)
  obtain ⟨rfl, H9⟩ := hR
  have H8 : Hp w [] [] w7 := H.callNil H9
  refine ⟨_, rfl, [0, 1, 2, 3, 16], [(0, .int .u64 (a : Int)), (1, .int .u64 (u : Int)), (2, .int .u64 (d : Int)), (3, .bool false), (16, .bool (decide ((a : Int) ≤ 4611686018427387904)))], by kernel_rfl, ?_⟩
  refine GL.run (j := 3) 1 [0, 1, 2, 3, 17] [(0, .int .u64 (a : Int)), (1, .int .u64 (u : Int)), (2, .int .u64 (d : Int)), (3, .bool false), (17, .bool (!(decide ((a : Int) ≤ 4611686018427387904))))] (by kernel_rfl) rfl ?_
  refine GL.k rfl hK6 (fun _ _ h => h) ?_
  cases hb10 : (decide ((a : Int) ≤ 4611686018427387904))
  · skip
    have hb10f := of_decide_eq_false hb10
    refine G.yes rfl ?_
    refine G.seqK fun K11 hK12 => ?_
    refine G.region ?_
    refine GL.run (j := 2) 2 [8, 9] [(8, .int .u64 0), (9, .int .i64 1)] (by kernel_rfl) rfl ?_
    refine GL.k rfl hK12 (fun _ _ h => h) ?_
    refine G.ret ?_
    intro F_ hF_ hM_
    refine hRet _ _ (bodyPost_2 rfl (RV.tmp rfl) (RV.tmp rfl) ?_ F_ hF_ hM_)
    have eVE : partV a u d false = 0 ∧ partE a u d false = 1 := by
      exact ⟨(part_arg (by omega)).2, (part_arg (by omega)).1⟩
    rw [eVE.1, eVE.2]
    exact ⟨rfl, H8.sub (List.nil_sublist _)⟩
  · skip
    have hb10f := of_decide_eq_true hb10
    refine G.no rfl ?_
    refine G.skipK hK4 (fun _ _ h => h) ?_
    refine G.seqK fun K13 hK14 => ?_
    refine G.region ?_
    refine GL.run (j := 2) 2 [2, 3, 19, 20] [(2, .int .u64 (d : Int)), (3, .bool false), (19, .int .u64 (a : Int)), (20, .int .u64 (u : Int))] (by kernel_rfl) rfl ?_
    refine GL.call (j := 3) (Product_calls a u ha hu w7) (by kernel_rfl) rfl (fun e_ w15 hR => ?_)
    obtain ⟨he_, H17⟩ := hR
    obtain ⟨n18, hn19⟩ : ∃ v : Nat, v = a * u := ⟨_, rfl⟩
    rw [← hn19] at he_
    have n18l : n18 < K4 := by rw [hn19]; exact prod_lt ha hu
    subst he_
    have H16 : Hp w [] [] w15 := H8.callNil H17
    refine ⟨_, rfl, [2, 3, 21], [(2, .int .u64 (d : Int)), (3, .bool false), (21, wv n18)], by kernel_rfl, ?_⟩
    have hp := hn19
    refine GL.run (j := 4) 1 [3, 21, 22] [(3, .bool false), (21, wv n18), (22, .int .u64 (d : Int))] (by kernel_rfl) rfl ?_
    refine GL.call (j := 5) (Of_calls d hd_ w15) (by kernel_rfl) rfl (fun e_ w20 hR => ?_)
    obtain ⟨he_, H22⟩ := hR
    subst he_
    have H21 : Hp w [] [] w20 := H16.callNil H22
    refine ⟨_, rfl, [3, 21, 23], [(3, .bool false), (21, wv n18), (23, wv d)], by kernel_rfl, ?_⟩
    refine GL.call (j := 6) (Div_calls n18 d n18l (Nat.lt_trans hd_ (by decide)) (hd) w20) (by kernel_rfl) rfl (fun e_ w23 hR => ?_)
    obtain ⟨he_, H25⟩ := hR
    obtain ⟨n26, hn27⟩ : ∃ v : Nat, v = n18 / d := ⟨_, rfl⟩
    rw [← hn27] at he_
    have n26l : n26 < K4 := by rw [hn27]; exact Nat.lt_of_le_of_lt (Nat.div_le_self _ _) n18l
    obtain ⟨n28, hn29⟩ : ∃ v : Nat, v = n18 % d := ⟨_, rfl⟩
    rw [← hn29] at he_
    have n28l : n28 < K4 := by rw [hn29]; exact Nat.lt_of_le_of_lt (Nat.mod_le _ _) n18l
    subst he_
    have hdmn26 : n26 * d + n28 = n18 := by rw [hn27, hn29] <;> exact Nat.div_add_mod' _ _
    have H24 : Hp w [] [] w23 := H21.callNil H25
    refine ⟨_, rfl, [3, 24], [(3, .bool false), (24, .tuple #[wv n26, wv n28, .int .i64 0])], by kernel_rfl, ?_⟩
    have hq := hn27
    have hr := hn29
    refine GL.run (j := 10) 4 [3, 25, 26, 27] [(3, .bool false), (25, wv n26), (26, wv n28), (27, .int .i64 0)] (by kernel_rfl) rfl ?_
    obtain ⟨p30, w31, r32, H33⟩ := H24.alloc (P := Try.prog) 55 [.int .u64 0, .int .u64 0, .int .u64 0, .int .u64 0] (by kernel_rfl)
    have H33 : Hp w [] [.blk p30 [.int .u64 0, .int .u64 0, .int .u64 0, .int .u64 0] 55] w31 := H33
    refine GL.sem (j := 11) (r32) [3, 10, 25, 26, 27] [(3, .bool false), (10, pt p30 0), (25, wv n26), (26, wv n28), (27, .int .i64 0)] (by kernel_rfl) (by kernel_rfl) rfl ?_
    obtain ⟨p34, w35, r36, H37⟩ := H33.alloc (P := Try.prog) 55 [.int .u64 0, .int .u64 0, .int .u64 0, .int .u64 0] (by kernel_rfl)
    have H37 : Hp w [] [.blk p30 [.int .u64 0, .int .u64 0, .int .u64 0, .int .u64 0] 55, .blk p34 [.int .u64 0, .int .u64 0, .int .u64 0, .int .u64 0] 55] w35 := H37
    refine GL.sem (j := 12) (r36) [3, 10, 11, 25, 26, 27] [(3, .bool false), (10, pt p30 0), (11, pt p34 0), (25, wv n26), (26, wv n28), (27, .int .i64 0)] (by kernel_rfl) (by kernel_rfl) rfl ?_
    obtain ⟨w38, r39, H40⟩ := H37.stA (P := Try.prog) (o := 0) (vs := [.int .u64 (wd n26 0 : Int), .int .u64 (wd n26 1 : Int), .int .u64 (wd n26 2 : Int), .int .u64 (wd n26 3 : Int)]) (ty := 55) (m := 4) 0 rfl (by kernel_rfl) rfl (by simp) (by simp [Value.oneCell'])
    have H40 : Hp w [] [.blk p30 [.int .u64 (wd n26 0 : Int), .int .u64 (wd n26 1 : Int), .int .u64 (wd n26 2 : Int), .int .u64 (wd n26 3 : Int)] 55, .blk p34 [.int .u64 0, .int .u64 0, .int .u64 0, .int .u64 0] 55] w38 := H40
    refine GL.semU (j := 13) r39 [3, 10, 11, 26, 27] [(3, .bool false), (10, pt p30 0), (11, pt p34 0), (26, wv n28), (27, .int .i64 0)] (by kernel_rfl) rfl rfl rfl ?_
    obtain ⟨w41, r42, H43⟩ := H40.stA (P := Try.prog) (o := 0) (vs := [.int .u64 (wd n28 0 : Int), .int .u64 (wd n28 1 : Int), .int .u64 (wd n28 2 : Int), .int .u64 (wd n28 3 : Int)]) (ty := 55) (m := 4) 1 rfl (by kernel_rfl) rfl (by simp) (by simp [Value.oneCell'])
    have H43 : Hp w [] [.blk p30 [.int .u64 (wd n26 0 : Int), .int .u64 (wd n26 1 : Int), .int .u64 (wd n26 2 : Int), .int .u64 (wd n26 3 : Int)] 55, .blk p34 [.int .u64 (wd n28 0 : Int), .int .u64 (wd n28 1 : Int), .int .u64 (wd n28 2 : Int), .int .u64 (wd n28 3 : Int)] 55] w41 := H43
    refine GL.semU (j := 14) r42 [3, 10, 11, 27] [(3, .bool false), (10, pt p30 0), (11, pt p34 0), (27, .int .i64 0)] (by kernel_rfl) rfl rfl rfl ?_
    refine GL.run (j := 15) 1 [3, 10, 11, 12] [(3, .bool false), (10, pt p30 0), (11, pt p34 0), (12, .int .i64 0)] (by kernel_rfl) rfl ?_
    refine GL.k rfl hK14 (fun _ _ h => h) ?_
    refine G.seqK fun K44 hK45 => ?_
    refine G.seqK fun K46 hK47 => ?_
    refine G.region ?_
    refine GL.run (j := 2) 2 [3, 10, 11, 12, 29] [(3, .bool false), (10, pt p30 0), (11, pt p34 0), (12, .int .i64 0), (29, .bool false)] (by kernel_rfl) rfl ?_
    refine GL.k rfl hK47 (fun _ _ h => h) ?_
    refine G.no rfl ?_
    refine G.skipK hK45 (fun _ _ h => h) ?_
    refine G.seqK fun K48 hK49 => ?_
    refine G.seqK fun K50 hK51 => ?_
    refine G.region ?_
    refine GL.run (j := 6) 6 [10, 36] [(10, pt p30 0), (36, .bool false)] (by kernel_rfl) rfl ?_
    refine GL.k rfl hK51 (fun _ _ h => h) ?_
    refine G.no rfl ?_
    refine G.skipK hK49 (fun _ _ h => h) ?_
    refine G.seqK fun K52 hK53 => ?_
    refine G.region ?_
    refine GL.sem (j := 1) (H43.ldA (o := 0) (ty := 55) (m := 4) (sub := [.int .u64 (wd n26 0 : Int), .int .u64 (wd n26 1 : Int), .int .u64 (wd n26 2 : Int), .int .u64 (wd n26 3 : Int)]) 0 rfl (by kernel_rfl) rfl rfl) [44] [(44, wv n26)] (by kernel_rfl) (by kernel_rfl) rfl ?_
    refine GL.call (j := 2) (Uint_calls n26 n26l w41) (by kernel_rfl) rfl (fun e_ w54 hR => ?_)
    obtain ⟨he_, H56⟩ := hR
    subst he_
    have H55 : Hp w [] [.blk p30 [.int .u64 (wd n26 0 : Int), .int .u64 (wd n26 1 : Int), .int .u64 (wd n26 2 : Int), .int .u64 (wd n26 3 : Int)] 55, .blk p34 [.int .u64 (wd n28 0 : Int), .int .u64 (wd n28 1 : Int), .int .u64 (wd n28 2 : Int), .int .u64 (wd n28 3 : Int)] 55] w54 := H43.callNil H56
    refine ⟨_, rfl, [45], [(45, .tuple #[.int .u64 (((oneW n26) : Nat) : Int), .bool (decide (n26 < K))])], by kernel_rfl, ?_⟩
    refine GL.run (j := 7) 5 [13, 14] [(13, .int .u64 (((oneW n26) : Nat) : Int)), (14, .bool (decide (n26 < K)))] (by kernel_rfl) rfl ?_
    refine GL.k rfl hK53 (fun _ _ h => h) ?_
    refine G.seqK fun K57 hK58 => ?_
    refine G.seqK fun K59 hK60 => ?_
    refine G.region ?_
    refine GL.run (j := 3) 3 [13, 50] [(13, .int .u64 (((oneW n26) : Nat) : Int)), (50, .bool (!(decide (n26 < K))))] (by kernel_rfl) rfl ?_
    cases hb61 : (decide (n26 < K))
    · skip
      have hb61f := of_decide_eq_false hb61
      refine GL.run (j := 7) 4 [13, 54] [(13, .int .u64 (((oneW n26) : Nat) : Int)), (54, .bool true)] (by kernel_rfl) rfl ?_
      refine GL.k rfl hK60 (fun _ _ h => h) ?_
      refine G.yes rfl ?_
      refine G.seqK fun K62 hK63 => ?_
      refine G.region ?_
      refine GL.run (j := 2) 2 [8, 9] [(8, .int .u64 0), (9, .int .i64 4)] (by kernel_rfl) rfl ?_
      refine GL.k rfl hK63 (fun _ _ h => h) ?_
      refine G.ret ?_
      intro F_ hF_ hM_
      refine hRet _ _ (bodyPost_2 rfl (RV.tmp rfl) (RV.tmp rfl) ?_ F_ hF_ hM_)
      have eVE : partV a u d false = 0 ∧ partE a u d false = 4 := by
        have hQ := partQ_down a u d
        rw [← hp, ← hq] at hQ
        have hB := part_bound (d := d) (show a ≤ MX by omega) hu
        rw [← hp, ← hq] at hB
        have c := oneW_cases n26
        have hX : n26 = partQ a u d false := by omega
        obtain ⟨p1, p2⟩ := part_over (a := a) (u := u) (d := d) (m := false) (by omega) hd (by omega)
        exact ⟨by omega, p1⟩
      rw [eVE.1, eVE.2]
      exact ⟨rfl, H55.sub (List.nil_sublist _)⟩
    · skip
      have hb61f := of_decide_eq_true hb61
      refine GL.run (j := 4) 1 [13, 50, 51] [(13, .int .u64 (((oneW n26) : Nat) : Int)), (50, .bool false), (51, .int .u64 (((oneW n26) : Nat) : Int))] (by kernel_rfl) rfl ?_
      refine GL.call (j := 5) (Right_calls (oneW n26) w54) (by kernel_rfl) rfl (fun e_ w64 hR => ?_)
      obtain ⟨rfl, H66⟩ := hR
      have H65 : Hp w [] [.blk p30 [.int .u64 (wd n26 0 : Int), .int .u64 (wd n26 1 : Int), .int .u64 (wd n26 2 : Int), .int .u64 (wd n26 3 : Int)] 55, .blk p34 [.int .u64 (wd n28 0 : Int), .int .u64 (wd n28 1 : Int), .int .u64 (wd n28 2 : Int), .int .u64 (wd n28 3 : Int)] 55] w64 := H55.callNil H66
      refine ⟨_, rfl, [13, 50, 52], [(13, .int .u64 (((oneW n26) : Nat) : Int)), (50, .bool false), (52, .bool (decide (((oneW n26) : Int) ≤ 4611686018427387904)))], by kernel_rfl, ?_⟩
      refine GL.run (j := 7) 2 [13, 54] [(13, .int .u64 (((oneW n26) : Nat) : Int)), (54, .bool (!(decide (((oneW n26) : Int) ≤ 4611686018427387904))))] (by kernel_rfl) rfl ?_
      refine GL.k rfl hK60 (fun _ _ h => h) ?_
      cases hb67 : (decide (((oneW n26) : Int) ≤ 4611686018427387904))
      · skip
        have hb67f := of_decide_eq_false hb67
        refine G.yes rfl ?_
        refine G.seqK fun K68 hK69 => ?_
        refine G.region ?_
        refine GL.run (j := 2) 2 [8, 9] [(8, .int .u64 0), (9, .int .i64 4)] (by kernel_rfl) rfl ?_
        refine GL.k rfl hK69 (fun _ _ h => h) ?_
        refine G.ret ?_
        intro F_ hF_ hM_
        refine hRet _ _ (bodyPost_2 rfl (RV.tmp rfl) (RV.tmp rfl) ?_ F_ hF_ hM_)
        have eVE : partV a u d false = 0 ∧ partE a u d false = 4 := by
          have hQ := partQ_down a u d
          rw [← hp, ← hq] at hQ
          have hB := part_bound (d := d) (show a ≤ MX by omega) hu
          rw [← hp, ← hq] at hB
          have c := oneW_cases n26
          have hX : n26 = partQ a u d false := by omega
          obtain ⟨p1, p2⟩ := part_over (a := a) (u := u) (d := d) (m := false) (by omega) hd (by omega)
          exact ⟨by omega, p1⟩
        rw [eVE.1, eVE.2]
        exact ⟨rfl, H65.sub (List.nil_sublist _)⟩
      · skip
        have hb67f := of_decide_eq_true hb67
        refine G.no rfl ?_
        refine G.skipK hK58 (fun _ _ h => h) ?_
        refine G.seqK fun K70 hK71 => ?_
        refine G.region ?_
        refine GL.run (j := 3) 3 [8, 9] [(8, .int .u64 (((oneW n26) : Nat) : Int)), (9, .int .i64 0)] (by kernel_rfl) rfl ?_
        refine GL.k rfl hK71 (fun _ _ h => h) ?_
        refine G.ret ?_
        intro F_ hF_ hM_
        refine hRet _ _ (bodyPost_2 rfl (RV.tmp rfl) (RV.tmp rfl) ?_ F_ hF_ hM_)
        have eVE : partV a u d false = (oneW n26) ∧ partE a u d false = 0 := by
          have hQ := partQ_down a u d
          rw [← hp, ← hq] at hQ
          have hB := part_bound (d := d) (show a ≤ MX by omega) hu
          rw [← hp, ← hq] at hB
          have c := oneW_cases n26
          have hX : n26 = partQ a u d false := by omega
          obtain ⟨p1, p2⟩ := part_ok (a := a) (u := u) (d := d) (m := false) (by omega) hd (by omega)
          exact ⟨by omega, p1⟩
        rw [eVE.1, eVE.2]
        exact ⟨rfl, H65.sub (List.nil_sublist _)⟩
theorem Part_up0 (a u : Nat) (ha : a < K) (hu : u < K) (w : World) : Calls Try.prog 14 #[.int .u64 (a : Int), .int .u64 (u : Int), .int .u64 0, .bool true] w fun e w' => e = .returned (.tuple #[.int .u64 ((partV a u 0 true : Nat) : Int), .int .i64 ((partE a u 0 true : Nat) : Int)]) ∧ Hp w [] [] w' := by
  have hMX : MX = 4611686018427387904 := rfl
  have hK0 : K = 18446744073709551616 := rfl
  have hK40 : K4 = 115792089237316195423570985008687907853269984665640564039457584007913129639936 := rfl
  refine calls_G (args := [.int .u64 (a : Int), .int .u64 (u : Int), .int .u64 0, .bool true]) Try.func14 rfl Try.ntmps14 rfl ?_
  intro Q0 hRet hNor hPan
  have H := Hp.start w
  have H : Hp w [] [] w := H
  refine G.seqK fun K1 hK2 => ?_
  refine G.region ?_
  refine GL.run (j := 2) 2 [0, 1, 2, 3] [(0, .int .u64 (a : Int)), (1, .int .u64 (u : Int)), (2, .int .u64 0), (3, .bool true)] (by kernel_rfl) rfl ?_
  refine GL.k rfl hK2 (fun _ _ h => h) ?_
  refine G.seqK fun K3 hK4 => ?_
  refine G.seqK fun K5 hK6 => ?_
  refine G.region ?_
  refine GL.run (j := 1) 1 [0, 1, 2, 3, 15] [(0, .int .u64 (a : Int)), (1, .int .u64 (u : Int)), (2, .int .u64 0), (3, .bool true), (15, .int .u64 (a : Int))] (by kernel_rfl) rfl ?_
  refine GL.call (j := 2) (Right_calls a w) (by kernel_rfl) rfl (fun e_ w7 hR => ?_)
  obtain ⟨rfl, H9⟩ := hR
  have H8 : Hp w [] [] w7 := H.callNil H9
  refine ⟨_, rfl, [0, 1, 2, 3, 16], [(0, .int .u64 (a : Int)), (1, .int .u64 (u : Int)), (2, .int .u64 0), (3, .bool true), (16, .bool (decide ((a : Int) ≤ 4611686018427387904)))], by kernel_rfl, ?_⟩
  refine GL.run (j := 3) 1 [0, 1, 2, 3, 17] [(0, .int .u64 (a : Int)), (1, .int .u64 (u : Int)), (2, .int .u64 0), (3, .bool true), (17, .bool (!(decide ((a : Int) ≤ 4611686018427387904))))] (by kernel_rfl) rfl ?_
  refine GL.k rfl hK6 (fun _ _ h => h) ?_
  cases hb10 : (decide ((a : Int) ≤ 4611686018427387904))
  · skip
    have hb10f := of_decide_eq_false hb10
    refine G.yes rfl ?_
    refine G.seqK fun K11 hK12 => ?_
    refine G.region ?_
    refine GL.run (j := 2) 2 [8, 9] [(8, .int .u64 0), (9, .int .i64 1)] (by kernel_rfl) rfl ?_
    refine GL.k rfl hK12 (fun _ _ h => h) ?_
    refine G.ret ?_
    intro F_ hF_ hM_
    refine hRet _ _ (bodyPost_2 rfl (RV.tmp rfl) (RV.tmp rfl) ?_ F_ hF_ hM_)
    have eVE : partV a u 0 true = 0 ∧ partE a u 0 true = 1 := by
      exact ⟨(part_arg (by omega)).2, (part_arg (by omega)).1⟩
    rw [eVE.1, eVE.2]
    exact ⟨rfl, H8.sub (List.nil_sublist _)⟩
  · skip
    have hb10f := of_decide_eq_true hb10
    refine G.no rfl ?_
    refine G.skipK hK4 (fun _ _ h => h) ?_
    refine G.seqK fun K13 hK14 => ?_
    refine G.region ?_
    refine GL.run (j := 2) 2 [2, 3, 19, 20] [(2, .int .u64 0), (3, .bool true), (19, .int .u64 (a : Int)), (20, .int .u64 (u : Int))] (by kernel_rfl) rfl ?_
    refine GL.call (j := 3) (Product_calls a u ha hu w7) (by kernel_rfl) rfl (fun e_ w15 hR => ?_)
    obtain ⟨he_, H17⟩ := hR
    obtain ⟨n18, hn19⟩ : ∃ v : Nat, v = a * u := ⟨_, rfl⟩
    rw [← hn19] at he_
    have n18l : n18 < K4 := by rw [hn19]; exact prod_lt ha hu
    subst he_
    have H16 : Hp w [] [] w15 := H8.callNil H17
    refine ⟨_, rfl, [2, 3, 21], [(2, .int .u64 0), (3, .bool true), (21, wv n18)], by kernel_rfl, ?_⟩
    have hp := hn19
    refine GL.run (j := 4) 1 [3, 21, 22] [(3, .bool true), (21, wv n18), (22, .int .u64 0)] (by kernel_rfl) rfl ?_
    refine GL.call (j := 5) (Of_calls 0 (by decide) w15) (by kernel_rfl) rfl (fun e_ w20 hR => ?_)
    obtain ⟨he_, H22⟩ := hR
    subst he_
    have H21 : Hp w [] [] w20 := H16.callNil H22
    refine ⟨_, rfl, [3, 21, 23], [(3, .bool true), (21, wv n18), (23, wv 0)], by kernel_rfl, ?_⟩
    refine GL.call (j := 6) (Div_zero n18 w20) (by kernel_rfl) rfl (fun e_ w23 hR => ?_)
    obtain ⟨he_, H25⟩ := hR
    subst he_
    have H24 : Hp w [] [] w23 := H21.callNil H25
    refine ⟨_, rfl, [3, 24], [(3, .bool true), (24, .tuple #[wv 0, wv 0, .int .i64 5])], by kernel_rfl, ?_⟩
    refine GL.run (j := 10) 4 [3, 25, 26, 27] [(3, .bool true), (25, wv 0), (26, wv 0), (27, .int .i64 5)] (by kernel_rfl) rfl ?_
    obtain ⟨p26, w27, r28, H29⟩ := H24.alloc (P := Try.prog) 55 [.int .u64 0, .int .u64 0, .int .u64 0, .int .u64 0] (by kernel_rfl)
    have H29 : Hp w [] [.blk p26 [.int .u64 0, .int .u64 0, .int .u64 0, .int .u64 0] 55] w27 := H29
    refine GL.sem (j := 11) (r28) [3, 10, 25, 26, 27] [(3, .bool true), (10, pt p26 0), (25, wv 0), (26, wv 0), (27, .int .i64 5)] (by kernel_rfl) (by kernel_rfl) rfl ?_
    obtain ⟨p30, w31, r32, H33⟩ := H29.alloc (P := Try.prog) 55 [.int .u64 0, .int .u64 0, .int .u64 0, .int .u64 0] (by kernel_rfl)
    have H33 : Hp w [] [.blk p26 [.int .u64 0, .int .u64 0, .int .u64 0, .int .u64 0] 55, .blk p30 [.int .u64 0, .int .u64 0, .int .u64 0, .int .u64 0] 55] w31 := H33
    refine GL.sem (j := 12) (r32) [3, 10, 11, 25, 26, 27] [(3, .bool true), (10, pt p26 0), (11, pt p30 0), (25, wv 0), (26, wv 0), (27, .int .i64 5)] (by kernel_rfl) (by kernel_rfl) rfl ?_
    obtain ⟨w34, r35, H36⟩ := H33.stA (P := Try.prog) (o := 0) (vs := [.int .u64 (wd 0 0 : Int), .int .u64 (wd 0 1 : Int), .int .u64 (wd 0 2 : Int), .int .u64 (wd 0 3 : Int)]) (ty := 55) (m := 4) 0 rfl (by kernel_rfl) rfl (by simp) (by simp [Value.oneCell'])
    have H36 : Hp w [] [.blk p26 [.int .u64 (wd 0 0 : Int), .int .u64 (wd 0 1 : Int), .int .u64 (wd 0 2 : Int), .int .u64 (wd 0 3 : Int)] 55, .blk p30 [.int .u64 0, .int .u64 0, .int .u64 0, .int .u64 0] 55] w34 := H36
    refine GL.semU (j := 13) r35 [3, 10, 11, 26, 27] [(3, .bool true), (10, pt p26 0), (11, pt p30 0), (26, wv 0), (27, .int .i64 5)] (by kernel_rfl) rfl rfl rfl ?_
    obtain ⟨w37, r38, H39⟩ := H36.stA (P := Try.prog) (o := 0) (vs := [.int .u64 (wd 0 0 : Int), .int .u64 (wd 0 1 : Int), .int .u64 (wd 0 2 : Int), .int .u64 (wd 0 3 : Int)]) (ty := 55) (m := 4) 1 rfl (by kernel_rfl) rfl (by simp) (by simp [Value.oneCell'])
    have H39 : Hp w [] [.blk p26 [.int .u64 (wd 0 0 : Int), .int .u64 (wd 0 1 : Int), .int .u64 (wd 0 2 : Int), .int .u64 (wd 0 3 : Int)] 55, .blk p30 [.int .u64 (wd 0 0 : Int), .int .u64 (wd 0 1 : Int), .int .u64 (wd 0 2 : Int), .int .u64 (wd 0 3 : Int)] 55] w37 := H39
    refine GL.semU (j := 14) r38 [3, 10, 11, 27] [(3, .bool true), (10, pt p26 0), (11, pt p30 0), (27, .int .i64 5)] (by kernel_rfl) rfl rfl rfl ?_
    refine GL.run (j := 15) 1 [3, 10, 11, 12] [(3, .bool true), (10, pt p26 0), (11, pt p30 0), (12, .int .i64 5)] (by kernel_rfl) rfl ?_
    refine GL.k rfl hK14 (fun _ _ h => h) ?_
    refine G.seqK fun K40 hK41 => ?_
    refine G.seqK fun K42 hK43 => ?_
    refine G.region ?_
    refine GL.run (j := 2) 2 [3, 10, 11, 12, 29] [(3, .bool true), (10, pt p26 0), (11, pt p30 0), (12, .int .i64 5), (29, .bool true)] (by kernel_rfl) rfl ?_
    refine GL.k rfl hK43 (fun _ _ h => h) ?_
    refine G.yes rfl ?_
    refine G.seqK fun K44 hK45 => ?_
    refine G.region ?_
    refine GL.run (j := 3) 3 [8, 9] [(8, .int .u64 0), (9, .int .i64 5)] (by kernel_rfl) rfl ?_
    refine GL.k rfl hK45 (fun _ _ h => h) ?_
    refine G.ret ?_
    intro F_ hF_ hM_
    refine hRet _ _ (bodyPost_2 rfl (RV.tmp rfl) (RV.tmp rfl) ?_ F_ hF_ hM_)
    have eVE : partV a u 0 true = 0 ∧ partE a u 0 true = 5 := by
      exact ⟨(part_zero (by omega) (by omega)).2, (part_zero (by omega) (by omega)).1⟩
    rw [eVE.1, eVE.2]
    exact ⟨rfl, H39.sub (List.nil_sublist _)⟩
theorem Part_down0 (a u : Nat) (ha : a < K) (hu : u < K) (w : World) : Calls Try.prog 14 #[.int .u64 (a : Int), .int .u64 (u : Int), .int .u64 0, .bool false] w fun e w' => e = .returned (.tuple #[.int .u64 ((partV a u 0 false : Nat) : Int), .int .i64 ((partE a u 0 false : Nat) : Int)]) ∧ Hp w [] [] w' := by
  have hMX : MX = 4611686018427387904 := rfl
  have hK0 : K = 18446744073709551616 := rfl
  have hK40 : K4 = 115792089237316195423570985008687907853269984665640564039457584007913129639936 := rfl
  refine calls_G (args := [.int .u64 (a : Int), .int .u64 (u : Int), .int .u64 0, .bool false]) Try.func14 rfl Try.ntmps14 rfl ?_
  intro Q0 hRet hNor hPan
  have H := Hp.start w
  have H : Hp w [] [] w := H
  refine G.seqK fun K1 hK2 => ?_
  refine G.region ?_
  refine GL.run (j := 2) 2 [0, 1, 2, 3] [(0, .int .u64 (a : Int)), (1, .int .u64 (u : Int)), (2, .int .u64 0), (3, .bool false)] (by kernel_rfl) rfl ?_
  refine GL.k rfl hK2 (fun _ _ h => h) ?_
  refine G.seqK fun K3 hK4 => ?_
  refine G.seqK fun K5 hK6 => ?_
  refine G.region ?_
  refine GL.run (j := 1) 1 [0, 1, 2, 3, 15] [(0, .int .u64 (a : Int)), (1, .int .u64 (u : Int)), (2, .int .u64 0), (3, .bool false), (15, .int .u64 (a : Int))] (by kernel_rfl) rfl ?_
  refine GL.call (j := 2) (Right_calls a w) (by kernel_rfl) rfl (fun e_ w7 hR => ?_)
  obtain ⟨rfl, H9⟩ := hR
  have H8 : Hp w [] [] w7 := H.callNil H9
  refine ⟨_, rfl, [0, 1, 2, 3, 16], [(0, .int .u64 (a : Int)), (1, .int .u64 (u : Int)), (2, .int .u64 0), (3, .bool false), (16, .bool (decide ((a : Int) ≤ 4611686018427387904)))], by kernel_rfl, ?_⟩
  refine GL.run (j := 3) 1 [0, 1, 2, 3, 17] [(0, .int .u64 (a : Int)), (1, .int .u64 (u : Int)), (2, .int .u64 0), (3, .bool false), (17, .bool (!(decide ((a : Int) ≤ 4611686018427387904))))] (by kernel_rfl) rfl ?_
  refine GL.k rfl hK6 (fun _ _ h => h) ?_
  cases hb10 : (decide ((a : Int) ≤ 4611686018427387904))
  · skip
    have hb10f := of_decide_eq_false hb10
    refine G.yes rfl ?_
    refine G.seqK fun K11 hK12 => ?_
    refine G.region ?_
    refine GL.run (j := 2) 2 [8, 9] [(8, .int .u64 0), (9, .int .i64 1)] (by kernel_rfl) rfl ?_
    refine GL.k rfl hK12 (fun _ _ h => h) ?_
    refine G.ret ?_
    intro F_ hF_ hM_
    refine hRet _ _ (bodyPost_2 rfl (RV.tmp rfl) (RV.tmp rfl) ?_ F_ hF_ hM_)
    have eVE : partV a u 0 false = 0 ∧ partE a u 0 false = 1 := by
      exact ⟨(part_arg (by omega)).2, (part_arg (by omega)).1⟩
    rw [eVE.1, eVE.2]
    exact ⟨rfl, H8.sub (List.nil_sublist _)⟩
  · skip
    have hb10f := of_decide_eq_true hb10
    refine G.no rfl ?_
    refine G.skipK hK4 (fun _ _ h => h) ?_
    refine G.seqK fun K13 hK14 => ?_
    refine G.region ?_
    refine GL.run (j := 2) 2 [2, 3, 19, 20] [(2, .int .u64 0), (3, .bool false), (19, .int .u64 (a : Int)), (20, .int .u64 (u : Int))] (by kernel_rfl) rfl ?_
    refine GL.call (j := 3) (Product_calls a u ha hu w7) (by kernel_rfl) rfl (fun e_ w15 hR => ?_)
    obtain ⟨he_, H17⟩ := hR
    obtain ⟨n18, hn19⟩ : ∃ v : Nat, v = a * u := ⟨_, rfl⟩
    rw [← hn19] at he_
    have n18l : n18 < K4 := by rw [hn19]; exact prod_lt ha hu
    subst he_
    have H16 : Hp w [] [] w15 := H8.callNil H17
    refine ⟨_, rfl, [2, 3, 21], [(2, .int .u64 0), (3, .bool false), (21, wv n18)], by kernel_rfl, ?_⟩
    have hp := hn19
    refine GL.run (j := 4) 1 [3, 21, 22] [(3, .bool false), (21, wv n18), (22, .int .u64 0)] (by kernel_rfl) rfl ?_
    refine GL.call (j := 5) (Of_calls 0 (by decide) w15) (by kernel_rfl) rfl (fun e_ w20 hR => ?_)
    obtain ⟨he_, H22⟩ := hR
    subst he_
    have H21 : Hp w [] [] w20 := H16.callNil H22
    refine ⟨_, rfl, [3, 21, 23], [(3, .bool false), (21, wv n18), (23, wv 0)], by kernel_rfl, ?_⟩
    refine GL.call (j := 6) (Div_zero n18 w20) (by kernel_rfl) rfl (fun e_ w23 hR => ?_)
    obtain ⟨he_, H25⟩ := hR
    subst he_
    have H24 : Hp w [] [] w23 := H21.callNil H25
    refine ⟨_, rfl, [3, 24], [(3, .bool false), (24, .tuple #[wv 0, wv 0, .int .i64 5])], by kernel_rfl, ?_⟩
    refine GL.run (j := 10) 4 [3, 25, 26, 27] [(3, .bool false), (25, wv 0), (26, wv 0), (27, .int .i64 5)] (by kernel_rfl) rfl ?_
    obtain ⟨p26, w27, r28, H29⟩ := H24.alloc (P := Try.prog) 55 [.int .u64 0, .int .u64 0, .int .u64 0, .int .u64 0] (by kernel_rfl)
    have H29 : Hp w [] [.blk p26 [.int .u64 0, .int .u64 0, .int .u64 0, .int .u64 0] 55] w27 := H29
    refine GL.sem (j := 11) (r28) [3, 10, 25, 26, 27] [(3, .bool false), (10, pt p26 0), (25, wv 0), (26, wv 0), (27, .int .i64 5)] (by kernel_rfl) (by kernel_rfl) rfl ?_
    obtain ⟨p30, w31, r32, H33⟩ := H29.alloc (P := Try.prog) 55 [.int .u64 0, .int .u64 0, .int .u64 0, .int .u64 0] (by kernel_rfl)
    have H33 : Hp w [] [.blk p26 [.int .u64 0, .int .u64 0, .int .u64 0, .int .u64 0] 55, .blk p30 [.int .u64 0, .int .u64 0, .int .u64 0, .int .u64 0] 55] w31 := H33
    refine GL.sem (j := 12) (r32) [3, 10, 11, 25, 26, 27] [(3, .bool false), (10, pt p26 0), (11, pt p30 0), (25, wv 0), (26, wv 0), (27, .int .i64 5)] (by kernel_rfl) (by kernel_rfl) rfl ?_
    obtain ⟨w34, r35, H36⟩ := H33.stA (P := Try.prog) (o := 0) (vs := [.int .u64 (wd 0 0 : Int), .int .u64 (wd 0 1 : Int), .int .u64 (wd 0 2 : Int), .int .u64 (wd 0 3 : Int)]) (ty := 55) (m := 4) 0 rfl (by kernel_rfl) rfl (by simp) (by simp [Value.oneCell'])
    have H36 : Hp w [] [.blk p26 [.int .u64 (wd 0 0 : Int), .int .u64 (wd 0 1 : Int), .int .u64 (wd 0 2 : Int), .int .u64 (wd 0 3 : Int)] 55, .blk p30 [.int .u64 0, .int .u64 0, .int .u64 0, .int .u64 0] 55] w34 := H36
    refine GL.semU (j := 13) r35 [3, 10, 11, 26, 27] [(3, .bool false), (10, pt p26 0), (11, pt p30 0), (26, wv 0), (27, .int .i64 5)] (by kernel_rfl) rfl rfl rfl ?_
    obtain ⟨w37, r38, H39⟩ := H36.stA (P := Try.prog) (o := 0) (vs := [.int .u64 (wd 0 0 : Int), .int .u64 (wd 0 1 : Int), .int .u64 (wd 0 2 : Int), .int .u64 (wd 0 3 : Int)]) (ty := 55) (m := 4) 1 rfl (by kernel_rfl) rfl (by simp) (by simp [Value.oneCell'])
    have H39 : Hp w [] [.blk p26 [.int .u64 (wd 0 0 : Int), .int .u64 (wd 0 1 : Int), .int .u64 (wd 0 2 : Int), .int .u64 (wd 0 3 : Int)] 55, .blk p30 [.int .u64 (wd 0 0 : Int), .int .u64 (wd 0 1 : Int), .int .u64 (wd 0 2 : Int), .int .u64 (wd 0 3 : Int)] 55] w37 := H39
    refine GL.semU (j := 14) r38 [3, 10, 11, 27] [(3, .bool false), (10, pt p26 0), (11, pt p30 0), (27, .int .i64 5)] (by kernel_rfl) rfl rfl rfl ?_
    refine GL.run (j := 15) 1 [3, 10, 11, 12] [(3, .bool false), (10, pt p26 0), (11, pt p30 0), (12, .int .i64 5)] (by kernel_rfl) rfl ?_
    refine GL.k rfl hK14 (fun _ _ h => h) ?_
    refine G.seqK fun K40 hK41 => ?_
    refine G.seqK fun K42 hK43 => ?_
    refine G.region ?_
    refine GL.run (j := 2) 2 [3, 10, 11, 12, 29] [(3, .bool false), (10, pt p26 0), (11, pt p30 0), (12, .int .i64 5), (29, .bool true)] (by kernel_rfl) rfl ?_
    refine GL.k rfl hK43 (fun _ _ h => h) ?_
    refine G.yes rfl ?_
    refine G.seqK fun K44 hK45 => ?_
    refine G.region ?_
    refine GL.run (j := 3) 3 [8, 9] [(8, .int .u64 0), (9, .int .i64 5)] (by kernel_rfl) rfl ?_
    refine GL.k rfl hK45 (fun _ _ h => h) ?_
    refine G.ret ?_
    intro F_ hF_ hM_
    refine hRet _ _ (bodyPost_2 rfl (RV.tmp rfl) (RV.tmp rfl) ?_ F_ hF_ hM_)
    have eVE : partV a u 0 false = 0 ∧ partE a u 0 false = 5 := by
      exact ⟨(part_zero (by omega) (by omega)).2, (part_zero (by omega) (by omega)).1⟩
    rw [eVE.1, eVE.2]
    exact ⟨rfl, H39.sub (List.nil_sublist _)⟩
end Go.Proofs.Ytljfofnpjmlobaa
