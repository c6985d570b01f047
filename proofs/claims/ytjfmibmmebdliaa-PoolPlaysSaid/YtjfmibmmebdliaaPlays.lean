/- Whatever is taken and burnt: the walk. -/
import Derived.Test.YtjfmibmmebdliaaLives
import Derived.Test.YtjfmibmmebdliaaTake
import Derived.Test.YtjfmibmmebdliaaRef5
import Derived.Test.YtjfmibmmebdliaaNd
namespace Go.Proofs.Ytjfmibmmebdliaa
open Go.RowKit
theorem sh_ok {c i a : Nat} (hc : c ≤ MX) (hi : i ≤ MX) (ha : 0 < a) (hai : a ≤ i) : shE c i a = 0 ∧ shV c i a = c * a / i ∧ shI c i a = i - a := by
  have hMX : MX = 4611686018427387904 := rfl
  have hq : c * a / i ≤ c := Nat.le_trans (Nat.div_le_div_right (Nat.mul_le_mul_left c hai)) (Nat.le_of_eq (Nat.mul_div_cancel _ (by omega)))
  obtain ⟨e1, e2⟩ := part_ok (a := c) (u := a) (d := i) (m := false) (by omega) (by omega) (by rw [partQ_down]; omega)
  have e : shE c i a = 0 := by rw [shE, if_neg (by omega), if_neg (by omega), e1]
  exact ⟨e, by rw [shV, if_neg (by omega), if_neg (by omega), e2, partQ_down], by rw [shI, if_pos e]⟩
theorem PoolPlays_calls (A : Option Addr) (n c0 : Nat) (xs : List Value) (k : Nat → Int) (f g : Nat → Nat) (w : World) (hr : RdS w A xs) (hx : xs.length = n * 3) (hn : n ≤ 9223372036854775807) (hf : ∀ i, f i < 2 ^ 64) (hg : ∀ i, g i < 2 ^ 64) (hel : ∀ i, i < n → (xs.drop (i * 3)).take 3 = [.int .i64 (k i), .int .u64 ((f i : Nat) : Int), .int .u64 ((g i : Nat) : Int)]) : Calls Try.prog 4 #[.slice A n c0] w fun e w' => e = .returned (.bool true) ∧ Hp w [] [] w' := by
  have hMX : MX = 4611686018427387904 := rfl
  have hK0 : K = 18446744073709551616 := rfl
  have hK40 : K4 = 115792089237316195423570985008687907853269984665640564039457584007913129639936 := rfl
  refine calls_G (args := [.slice A n c0]) Try.func4 rfl Try.ntmps4 rfl ?_
  intro Q0 hRet hNor hPan
  have H := Hp.start w
  have H : Hp w [] [] w := H
  refine G.seqK fun K1 hK2 => ?_
  refine G.region ?_
  refine GL.run (j := 1) 1 [0] [(0, .slice A n c0)] (by kernel_rfl) rfl ?_
  refine GL.k rfl hK2 (fun _ _ h => h) ?_
  refine G.seqK fun K3 hK4 => ?_
  refine G.seqK fun K5 hK6 => ?_
  refine G.region ?_
  refine GL.call (j := 1) (lives_calls w) (by kernel_rfl) rfl (fun e_ w7 hR => ?_)
  obtain ⟨rfl, H9⟩ := hR
  have H8 : Hp w [] [] w7 := H.callNil H9
  refine ⟨_, rfl, [0, 18], [(0, .slice A n c0), (18, .bool true)], by kernel_rfl, ?_⟩
  refine GL.run (j := 7) 6 [0, 24] [(0, .slice A n c0), (24, .bool (decide (60 < (n : Int))))] (by kernel_rfl) rfl ?_
  refine GL.k rfl hK6 (fun _ _ h => h) ?_
  cases hb10 : (decide (60 < (n : Int)))
  · skip
    have hb10f := of_decide_eq_false hb10
    refine G.no rfl ?_
    refine G.skipK hK4 (fun _ _ h => h) ?_
    refine G.seqK fun K11 hK12 => ?_
    refine G.region ?_
    refine GL.run (j := 1) 1 [0, 26] [(0, .slice A n c0), (26, .agg #[.int .u64 0, .int .u64 0])] (by kernel_rfl) rfl ?_
    obtain ⟨p13, w14, r15, H16⟩ := H8.box (P := Try.prog) 26 [.int .u64 0, .int .u64 0] (.agg #[.int .u64 0, .int .u64 0]) rfl
    have H16 : Hp w [] [.blk p13 [.int .u64 0, .int .u64 0] 26] w14 := H16
    refine GL.sem (j := 2) (r15) [0, 27] [(0, .slice A n c0), (27, pt p13 0)] (by kernel_rfl) (by kernel_rfl) rfl ?_
    refine GL.run (j := 3) 1 [0, 3] [(0, .slice A n c0), (3, pt p13 0)] (by kernel_rfl) rfl ?_
    refine GL.k rfl hK12 (fun _ _ h => h) ?_
    refine G.seqK fun K17 hK18 => ?_
    refine G.region ?_
    refine GL.run (j := 2) 2 [0, 3, 4, 5] [(0, .slice A n c0), (3, pt p13 0), (4, .int .u64 0), (5, .int .u64 0)] (by kernel_rfl) rfl ?_
    refine GL.k rfl hK18 (fun _ _ h => h) ?_
    refine G.seqK fun K19 hK20 => ?_
    refine G.seqK fun K21 hK22 => ?_
    refine G.region ?_
    refine GL.run (j := 3) 3 [3, 4, 5, 28, 29, 30] [(3, pt p13 0), (4, .int .u64 0), (5, .int .u64 0), (28, .slice A n c0), (29, .int .i64 (n : Int)), (30, .int .i64 0)] (by kernel_rfl) rfl ?_
    refine GL.k rfl hK22 (fun _ _ h => h) ?_
    refine G.block ?_
    refine G.fit [3, 4, 5, 28, 29, 30] (M' := [(3, pt p13 0), (4, .int .u64 0), (5, .int .u64 0), (28, .slice A n c0), (29, .int .i64 (n : Int)), (30, .int .i64 0)]) (by kernel_rfl) ?_
    refine G.loop (X := Nat × Nat × Nat) (fun ⟨j, c, i⟩ => [(3, pt p13 0), (4, .int .u64 (c : Int)), (5, .int .u64 (i : Int)), (28, .slice A n c0), (29, .int .i64 (n : Int)), (30, .int .i64 (j : Int))]) (fun ⟨j, c, i⟩ w_ => (j ≤ n ∧ c ≤ MX ∧ i ≤ MX) ∧ Hp w [] [.blk p13 [.int .u64 (c : Int), .int .u64 (i : Int)] 26] w_) (fun ⟨j, c, i⟩ => n - j) ⟨0, 0, 0⟩ [3, 4, 5, 28, 29, 30] (by kernel_rfl) ⟨⟨Nat.zero_le _, Nat.zero_le _, Nat.zero_le _⟩, H16⟩ ?_
    rintro ⟨j, c, i⟩ w23 ⟨hi24, H25⟩
    refine G.eq (M' := [(3, pt p13 0), (4, .int .u64 (c : Int)), (5, .int .u64 (i : Int)), (28, .slice A n c0), (29, .int .i64 (n : Int)), (30, .int .i64 (j : Int))]) rfl ?_
    have H25 : Hp w [] [.blk p13 [.int .u64 (c : Int), .int .u64 (i : Int)] 26] w23 := H25
    obtain ⟨hjn, hc, hi⟩ := hi24
    have hfj := hf j
    have hgj := hg j
    have hsl := shV_le c i (f j)
    refine G.seqK fun K26 hK27 => ?_
    refine G.region ?_
    refine GL.run (j := 1) 1 [3, 4, 5, 28, 29, 30, 31] [(3, pt p13 0), (4, .int .u64 (c : Int)), (5, .int .u64 (i : Int)), (28, .slice A n c0), (29, .int .i64 (n : Int)), (30, .int .i64 (j : Int)), (31, .bool (decide ((j : Int) < (n : Int))))] (by kernel_rfl) rfl ?_
    refine GL.k rfl hK27 (fun _ _ h => h) ?_
    refine G.seqK fun K28 hK29 => ?_
    cases hb30 : (decide ((j : Int) < (n : Int)))
    · skip
      have hb30f := of_decide_eq_false hb30
      refine G.no rfl ?_
      refine G.exitK hK20 (fun _ _ h => h) ?_
      refine G.seqK fun K31 hK32 => ?_
      refine G.region ?_
      refine GL.run (j := 1) 1 [3, 4, 5, 15] [(3, pt p13 0), (4, .int .u64 (c : Int)), (5, .int .u64 (i : Int)), (15, .pointer none)] (by kernel_rfl) rfl ?_
      refine GL.k rfl hK32 (fun _ _ h => h) ?_
      refine G.seqK fun K33 hK34 => ?_
      refine G.region ?_
      refine GL.run (j := 1) 1 [3, 4, 5, 15, 166] [(3, pt p13 0), (4, .int .u64 (c : Int)), (5, .int .u64 (i : Int)), (15, .pointer none), (166, .pointer none)] (by kernel_rfl) rfl ?_
      refine GL.call (j := 2) (Burn_nil 1 w23) (by kernel_rfl) rfl (fun e_ w35 hR => ?_)
      obtain ⟨rfl, H37⟩ := hR
      have H36 : Hp w [] [.blk p13 [.int .u64 (c : Int), .int .u64 (i : Int)] 26] w35 := H25.callNil H37
      refine ⟨_, rfl, [3, 4, 5, 15, 167], [(3, pt p13 0), (4, .int .u64 (c : Int)), (5, .int .u64 (i : Int)), (15, .pointer none), (167, .tuple #[.int .u64 0, .int .i64 1])], by kernel_rfl, ?_⟩
      refine GL.run (j := 7) 5 [3, 4, 5, 15, 17] [(3, pt p13 0), (4, .int .u64 (c : Int)), (5, .int .u64 (i : Int)), (15, .pointer none), (17, .int .i64 1)] (by kernel_rfl) rfl ?_
      refine GL.k rfl hK34 (fun _ _ h => h) ?_
      refine G.seqK fun K38 hK39 => ?_
      refine G.region ?_
      refine GL.run (j := 3) 3 [3, 4, 5, 15, 17, 172] [(3, pt p13 0), (4, .int .u64 (c : Int)), (5, .int .u64 (i : Int)), (15, .pointer none), (17, .int .i64 1), (172, pt p13 0)] (by kernel_rfl) rfl ?_
      refine GL.sem (j := 4) (H36.ld (o := 0) (ty := 23) (v := .int .u64 (c : Int)) 0 rfl (by kernel_rfl) rfl) [3, 4, 5, 15, 17, 173] [(3, pt p13 0), (4, .int .u64 (c : Int)), (5, .int .u64 (i : Int)), (15, .pointer none), (17, .int .i64 1), (173, .int .u64 (c : Int))] (by kernel_rfl) (by kernel_rfl) rfl ?_
      refine GL.run (j := 7) 3 [3, 5, 15, 17, 176] [(3, pt p13 0), (5, .int .u64 (i : Int)), (15, .pointer none), (17, .int .i64 1), (176, .bool ((c : Int) == (c : Int)))] (by kernel_rfl) rfl ?_
      have hb40 : ((c : Int) == (c : Int)) = true := beq_self_eq_true _
      rw [hb40]
      refine GL.run (j := 10) 3 [5, 15, 17, 176, 179] [(5, .int .u64 (i : Int)), (15, .pointer none), (17, .int .i64 1), (176, .bool true), (179, pt p13 1)] (by kernel_rfl) rfl ?_
      refine GL.sem (j := 11) (H36.ld (o := 1) (ty := 23) (v := .int .u64 (i : Int)) 0 rfl (by kernel_rfl) rfl) [5, 15, 17, 176, 180] [(5, .int .u64 (i : Int)), (15, .pointer none), (17, .int .i64 1), (176, .bool true), (180, .int .u64 (i : Int))] (by kernel_rfl) (by kernel_rfl) rfl ?_
      refine GL.run (j := 15) 4 [15, 17, 184] [(15, .pointer none), (17, .int .i64 1), (184, .bool ((i : Int) == (i : Int)))] (by kernel_rfl) rfl ?_
      have hb41 : ((i : Int) == (i : Int)) = true := beq_self_eq_true _
      rw [hb41]
      refine GL.run (j := 16) 1 [17, 184, 185] [(17, .int .i64 1), (184, .bool true), (185, .pointer none)] (by kernel_rfl) rfl ?_
      refine GL.call (j := 17) (Take_nil 1 1 w35) (by kernel_rfl) rfl (fun e_ w42 hR => ?_)
      obtain ⟨rfl, H44⟩ := hR
      have H43 : Hp w [] [.blk p13 [.int .u64 (c : Int), .int .u64 (i : Int)] 26] w42 := H36.callNil H44
      refine ⟨_, rfl, [17, 184, 186], [(17, .int .i64 1), (184, .bool true), (186, .int .i64 1)], by kernel_rfl, ?_⟩
      refine GL.run (j := 24) 7 [2] [(2, .bool true)] (by kernel_rfl) rfl ?_
      refine GL.k rfl hK39 (fun _ _ h => h) ?_
      refine G.ret ?_
      intro F_ hF_ hM_
      refine hRet _ _ (bodyPost_1 rfl (RV.tmp rfl) ?_ F_ hF_ hM_)
      exact ⟨rfl, H43.sub (List.nil_sublist _)⟩
    · skip
      have hb30f := of_decide_eq_true hb30
      refine G.yes rfl ?_
      refine G.skipK hK29 (fun _ _ h => h) ?_
      refine G.seqK fun K45 hK46 => ?_
      refine G.block ?_
      refine G.seqK fun K47 hK48 => ?_
      refine G.region ?_
      refine GL.sem (j := 1) (run_idxRdN (P := Try.prog) (k := .i64) (t := 31) (sz := 3) (A := A) (len := n) (cap := c0) (j := j) (by kernel_rfl) rfl (hr.hp H25) hx (by decide) (by omega)) [3, 4, 5, 28, 29, 30, 32] [(3, pt p13 0), (4, .int .u64 (c : Int)), (5, .int .u64 (i : Int)), (28, .slice A n c0), (29, .int .i64 (n : Int)), (30, .int .i64 (j : Int)), (32, .pointer (Option.map (fun x => Addr.add x (j * 3)) A))] (by kernel_rfl) (by kernel_rfl) rfl ?_
      refine GL.sem (j := 2) (run_ldRdA (P := Try.prog) (ty := 34) (A := A) (o := (j * 3)) (m := 3) (sub := [.int .i64 (k j), .int .u64 ((f j : Nat) : Int), .int .u64 ((g j : Nat) : Int)]) (by kernel_rfl) (hr.hp H25) (hel j (by omega)) rfl (by decide)) [3, 4, 5, 28, 29, 30, 33] [(3, pt p13 0), (4, .int .u64 (c : Int)), (5, .int .u64 (i : Int)), (28, .slice A n c0), (29, .int .i64 (n : Int)), (30, .int .i64 (j : Int)), (33, .agg #[.int .i64 (k j), .int .u64 ((f j : Nat) : Int), .int .u64 ((g j : Nat) : Int)])] (by kernel_rfl) (by kernel_rfl) rfl ?_
      obtain ⟨p49, w50, r51, H52⟩ := H25.alloc (P := Try.prog) 34 [.int .i64 0, .int .u64 0, .int .u64 0] (by kernel_rfl)
      have H52 : Hp w [] [.blk p13 [.int .u64 (c : Int), .int .u64 (i : Int)] 26, .blk p49 [.int .i64 0, .int .u64 0, .int .u64 0] 34] w50 := H52
      refine GL.sem (j := 3) (r51) [3, 4, 5, 7, 28, 29, 30, 33] [(3, pt p13 0), (4, .int .u64 (c : Int)), (5, .int .u64 (i : Int)), (7, pt p49 0), (28, .slice A n c0), (29, .int .i64 (n : Int)), (30, .int .i64 (j : Int)), (33, .agg #[.int .i64 (k j), .int .u64 ((f j : Nat) : Int), .int .u64 ((g j : Nat) : Int)])] (by kernel_rfl) (by kernel_rfl) rfl ?_
      obtain ⟨w53, r54, H55⟩ := H52.stA (P := Try.prog) (o := 0) (vs := [.int .i64 (k j), .int .u64 ((f j : Nat) : Int), .int .u64 ((g j : Nat) : Int)]) (ty := 34) (m := 3) 1 rfl (by kernel_rfl) rfl (by simp) (by simp [Value.oneCell'])
      have H55 : Hp w [] [.blk p13 [.int .u64 (c : Int), .int .u64 (i : Int)] 26, .blk p49 [.int .i64 (k j), .int .u64 ((f j : Nat) : Int), .int .u64 ((g j : Nat) : Int)] 34] w53 := H55
      refine GL.semU (j := 4) r54 [3, 4, 5, 7, 28, 29, 30] [(3, pt p13 0), (4, .int .u64 (c : Int)), (5, .int .u64 (i : Int)), (7, pt p49 0), (28, .slice A n c0), (29, .int .i64 (n : Int)), (30, .int .i64 (j : Int))] (by kernel_rfl) rfl rfl rfl ?_
      refine GL.k rfl hK48 (fun _ _ h => h) ?_
      refine G.seqK fun K56 hK57 => ?_
      refine G.seqK fun K58 hK59 => ?_
      refine G.region ?_
      refine GL.run (j := 1) 1 [3, 4, 5, 7, 28, 29, 30, 34] [(3, pt p13 0), (4, .int .u64 (c : Int)), (5, .int .u64 (i : Int)), (7, pt p49 0), (28, .slice A n c0), (29, .int .i64 (n : Int)), (30, .int .i64 (j : Int)), (34, pt p49 0)] (by kernel_rfl) rfl ?_
      refine GL.sem (j := 2) (H55.ld (o := 0) (ty := 3) (v := .int .i64 (k j)) 1 rfl (by kernel_rfl) rfl) [3, 4, 5, 7, 28, 29, 30, 35] [(3, pt p13 0), (4, .int .u64 (c : Int)), (5, .int .u64 (i : Int)), (7, pt p49 0), (28, .slice A n c0), (29, .int .i64 (n : Int)), (30, .int .i64 (j : Int)), (35, .int .i64 (k j))] (by kernel_rfl) (by kernel_rfl) rfl ?_
      refine GL.run (j := 3) 1 [3, 4, 5, 7, 28, 29, 30, 36] [(3, pt p13 0), (4, .int .u64 (c : Int)), (5, .int .u64 (i : Int)), (7, pt p49 0), (28, .slice A n c0), (29, .int .i64 (n : Int)), (30, .int .i64 (j : Int)), (36, .bool ((k j) == 0))] (by kernel_rfl) rfl ?_
      refine GL.k rfl hK59 (fun _ _ h => h) ?_
      cases hb60 : ((k j) == 0)
      · skip
        have hb60f := ne_of_beq_false hb60
        refine G.no rfl ?_
        refine G.skipK hK57 (fun _ _ h => h) ?_
        refine G.seqK fun K61 hK62 => ?_
        refine G.heldP (Hp w [] [.blk p13 [.int .u64 (c : Int), .int .u64 (i : Int)] 26, .blk p49 [.int .i64 (k j), .int .u64 ((f j : Nat) : Int), .int .u64 ((g j : Nat) : Int)] 34]) (by kernel_rfl) (by kernel_rfl) (fun c_ a_ d_ v_ w_ h_ => hPan c_ a_ d_ v_ w_ h_) ?_
        have H63 := H55.drew
        generalize ({ w53 with drawn := w53.drawn + 1 } : World) = w64 at H63 ⊢
        have hS65 : Hp w [] [.blk p13 [.int .u64 (c : Int), .int .u64 (i : Int)] 26, .blk p49 [.int .i64 (k j), .int .u64 ((f j : Nat) : Int), .int .u64 ((g j : Nat) : Int)] 34] w64 := H63.sub (List.Sublist.cons_cons _ (List.Sublist.cons_cons _ (List.Sublist.slnil)))
        refine GP.run [0, 1] [3, 4, 5, 7, 28, 29, 30, 77] [(3, pt p13 0), (4, .int .u64 (c : Int)), (5, .int .u64 (i : Int)), (7, pt p49 0), (28, .slice A n c0), (29, .int .i64 (n : Int)), (30, .int .i64 (j : Int)), (77, pt p13 0)] [0, 1] (by kernel_rfl) rfl hS65 ?_
        refine GP.sem 2 (fun w_ H_ => H_.ldA (o := 0) (ty := 26) (m := 2) (sub := [.int .u64 (c : Int), .int .u64 (i : Int)]) 0 rfl (by kernel_rfl) rfl rfl) [3, 4, 5, 7, 28, 29, 30, 78] [(3, pt p13 0), (4, .int .u64 (c : Int)), (5, .int .u64 (i : Int)), (7, pt p49 0), (28, .slice A n c0), (29, .int .i64 (n : Int)), (30, .int .i64 (j : Int)), (78, .agg #[.int .u64 (c : Int), .int .u64 (i : Int)])] (by kernel_rfl) (by kernel_rfl) (by kernel_rfl) hS65 ?_
        refine GP.run [3] [3, 4, 5, 7, 28, 29, 30, 78, 79] [(3, pt p13 0), (4, .int .u64 (c : Int)), (5, .int .u64 (i : Int)), (7, pt p49 0), (28, .slice A n c0), (29, .int .i64 (n : Int)), (30, .int .i64 (j : Int)), (78, .agg #[.int .u64 (c : Int), .int .u64 (i : Int)]), (79, pt p49 1)] [0, 1, 2, 3] (by kernel_rfl) rfl hS65 ?_
        refine GP.sem 4 (fun w_ H_ => H_.ld (o := 1) (ty := 23) (v := .int .u64 ((f j : Nat) : Int)) 1 rfl (by kernel_rfl) rfl) [3, 4, 5, 7, 28, 29, 30, 78, 80] [(3, pt p13 0), (4, .int .u64 (c : Int)), (5, .int .u64 (i : Int)), (7, pt p49 0), (28, .slice A n c0), (29, .int .i64 (n : Int)), (30, .int .i64 (j : Int)), (78, .agg #[.int .u64 (c : Int), .int .u64 (i : Int)]), (80, .int .u64 ((f j : Nat) : Int))] (by kernel_rfl) (by kernel_rfl) (by kernel_rfl) hS65 ?_
        refine GP.call 5 (Share_calls c i (f j) (by omega) (by omega) (by omega) w64) (by kernel_rfl) (by kernel_rfl) (fun e_ w66 hR => ?_)
        obtain ⟨rfl, H68⟩ := hR
        have H67 : Hp w [] [.blk p13 [.int .u64 (c : Int), .int .u64 (i : Int)] 26, .blk p49 [.int .i64 (k j), .int .u64 ((f j : Nat) : Int), .int .u64 ((g j : Nat) : Int)] 34] w66 := H63.callNil H68
        have hS69 : Hp w [] [.blk p13 [.int .u64 (c : Int), .int .u64 (i : Int)] 26, .blk p49 [.int .i64 (k j), .int .u64 ((f j : Nat) : Int), .int .u64 ((g j : Nat) : Int)] 34] w66 := H67.sub (List.Sublist.cons_cons _ (List.Sublist.cons_cons _ (List.Sublist.slnil)))
        refine ⟨_, rfl, hS69, [3, 4, 5, 7, 28, 29, 30, 81], [(3, pt p13 0), (4, .int .u64 (c : Int)), (5, .int .u64 (i : Int)), (7, pt p49 0), (28, .slice A n c0), (29, .int .i64 (n : Int)), (30, .int .i64 (j : Int)), (81, .tuple #[.int .u64 (((shV c i (f j)) : Nat) : Int), .int .i64 (((shE c i (f j)) : Nat) : Int)])], by kernel_rfl, ?_⟩
        refine GP.run [6, 7, 8, 9, 10] [3, 4, 5, 7, 9, 10, 28, 29, 30] [(3, pt p13 0), (4, .int .u64 (c : Int)), (5, .int .u64 (i : Int)), (7, pt p49 0), (9, .int .u64 (((shV c i (f j)) : Nat) : Int)), (10, .int .i64 (((shE c i (f j)) : Nat) : Int)), (28, .slice A n c0), (29, .int .i64 (n : Int)), (30, .int .i64 (j : Int))] [0, 1, 2, 3, 4, 5, 6, 7, 8, 9, 10] (by kernel_rfl) rfl hS69 ?_
        refine GP.k (by kernel_rfl) hK62 (fun _ _ h => h) ?_
        refine G.seqK fun K70 hK71 => ?_
        refine G.region ?_
        refine GL.run (j := 2) 2 [3, 4, 5, 7, 9, 10, 28, 29, 30, 85, 86] [(3, pt p13 0), (4, .int .u64 (c : Int)), (5, .int .u64 (i : Int)), (7, pt p49 0), (9, .int .u64 (((shV c i (f j)) : Nat) : Int)), (10, .int .i64 (((shE c i (f j)) : Nat) : Int)), (28, .slice A n c0), (29, .int .i64 (n : Int)), (30, .int .i64 (j : Int)), (85, pt p13 0), (86, pt p49 1)] (by kernel_rfl) rfl ?_
        refine GL.sem (j := 3) (H67.ld (o := 1) (ty := 23) (v := .int .u64 ((f j : Nat) : Int)) 1 rfl (by kernel_rfl) rfl) [3, 4, 5, 7, 9, 10, 28, 29, 30, 85, 87] [(3, pt p13 0), (4, .int .u64 (c : Int)), (5, .int .u64 (i : Int)), (7, pt p49 0), (9, .int .u64 (((shV c i (f j)) : Nat) : Int)), (10, .int .i64 (((shE c i (f j)) : Nat) : Int)), (28, .slice A n c0), (29, .int .i64 (n : Int)), (30, .int .i64 (j : Int)), (85, pt p13 0), (87, .int .u64 ((f j : Nat) : Int))] (by kernel_rfl) (by kernel_rfl) rfl ?_
        refine GL.call (j := 4) (Burn_calls p13 c i (f j) (by omega) (by omega) (by omega) w66 (H67.blkAt 0 rfl)) (by kernel_rfl) rfl (fun e_ w72 hR => ?_)
        obtain ⟨rfl, H74⟩ := hR
        have H73 : Hp w [] [.blk p13 [.int .u64 (((c - shV c i (f j)) : Nat) : Int), .int .u64 (((shI c i (f j)) : Nat) : Int)] 26, .blk p49 [.int .i64 (k j), .int .u64 ((f j : Nat) : Int), .int .u64 ((g j : Nat) : Int)] 34] w72 := H67.callIn 0 rfl H74
        refine ⟨_, rfl, [3, 4, 5, 7, 9, 10, 28, 29, 30, 88], [(3, pt p13 0), (4, .int .u64 (c : Int)), (5, .int .u64 (i : Int)), (7, pt p49 0), (9, .int .u64 (((shV c i (f j)) : Nat) : Int)), (10, .int .i64 (((shE c i (f j)) : Nat) : Int)), (28, .slice A n c0), (29, .int .i64 (n : Int)), (30, .int .i64 (j : Int)), (88, .tuple #[.int .u64 (((shV c i (f j)) : Nat) : Int), .int .i64 (((shE c i (f j)) : Nat) : Int)])], by kernel_rfl, ?_⟩
        refine GL.run (j := 9) 5 [3, 4, 5, 7, 9, 10, 11, 12, 28, 29, 30] [(3, pt p13 0), (4, .int .u64 (c : Int)), (5, .int .u64 (i : Int)), (7, pt p49 0), (9, .int .u64 (((shV c i (f j)) : Nat) : Int)), (10, .int .i64 (((shE c i (f j)) : Nat) : Int)), (11, .int .u64 (((shV c i (f j)) : Nat) : Int)), (12, .int .i64 (((shE c i (f j)) : Nat) : Int)), (28, .slice A n c0), (29, .int .i64 (n : Int)), (30, .int .i64 (j : Int))] (by kernel_rfl) rfl ?_
        refine GL.k rfl hK71 (fun _ _ h => h) ?_
        refine G.seqK fun K75 hK76 => ?_
        refine G.seqK fun K77 hK78 => ?_
        refine G.region ?_
        refine GL.run (j := 4) 4 [3, 4, 5, 7, 9, 10, 11, 28, 29, 30, 94] [(3, pt p13 0), (4, .int .u64 (c : Int)), (5, .int .u64 (i : Int)), (7, pt p49 0), (9, .int .u64 (((shV c i (f j)) : Nat) : Int)), (10, .int .i64 (((shE c i (f j)) : Nat) : Int)), (11, .int .u64 (((shV c i (f j)) : Nat) : Int)), (28, .slice A n c0), (29, .int .i64 (n : Int)), (30, .int .i64 (j : Int)), (94, .bool ((((shE c i (f j)) : Nat) : Int) != (((shE c i (f j)) : Nat) : Int)))] (by kernel_rfl) rfl ?_
        cases hb79 : ((((shE c i (f j)) : Nat) : Int) != (((shE c i (f j)) : Nat) : Int))
        · skip
          have hb79f : (((shE c i (f j)) : Nat) : Int) = (((shE c i (f j)) : Nat) : Int) := bne_eq_false_iff_eq.1 hb79
          refine GL.run (j := 8) 4 [3, 4, 5, 7, 10, 11, 28, 29, 30, 98] [(3, pt p13 0), (4, .int .u64 (c : Int)), (5, .int .u64 (i : Int)), (7, pt p49 0), (10, .int .i64 (((shE c i (f j)) : Nat) : Int)), (11, .int .u64 (((shV c i (f j)) : Nat) : Int)), (28, .slice A n c0), (29, .int .i64 (n : Int)), (30, .int .i64 (j : Int)), (98, .bool ((((shV c i (f j)) : Nat) : Int) != (((shV c i (f j)) : Nat) : Int)))] (by kernel_rfl) rfl ?_
          refine GL.k rfl hK78 (fun _ _ h => h) ?_
          cases hb80 : ((((shV c i (f j)) : Nat) : Int) != (((shV c i (f j)) : Nat) : Int))
          · skip
            have hb80f : (((shV c i (f j)) : Nat) : Int) = (((shV c i (f j)) : Nat) : Int) := bne_eq_false_iff_eq.1 hb80
            refine G.no rfl ?_
            refine G.skipK hK76 (fun _ _ h => h) ?_
            refine G.seqK fun K81 hK82 => ?_
            refine G.block ?_
            refine G.seqK fun K83 hK84 => ?_
            refine G.region ?_
            refine GL.run (j := 1) 1 [3, 4, 5, 7, 10, 11, 28, 29, 30, 125] [(3, pt p13 0), (4, .int .u64 (c : Int)), (5, .int .u64 (i : Int)), (7, pt p49 0), (10, .int .i64 (((shE c i (f j)) : Nat) : Int)), (11, .int .u64 (((shV c i (f j)) : Nat) : Int)), (28, .slice A n c0), (29, .int .i64 (n : Int)), (30, .int .i64 (j : Int)), (125, pt p49 1)] (by kernel_rfl) rfl ?_
            refine GL.sem (j := 2) (H73.ld (o := 1) (ty := 23) (v := .int .u64 ((f j : Nat) : Int)) 1 rfl (by kernel_rfl) rfl) [3, 4, 5, 7, 10, 11, 28, 29, 30, 126] [(3, pt p13 0), (4, .int .u64 (c : Int)), (5, .int .u64 (i : Int)), (7, pt p49 0), (10, .int .i64 (((shE c i (f j)) : Nat) : Int)), (11, .int .u64 (((shV c i (f j)) : Nat) : Int)), (28, .slice A n c0), (29, .int .i64 (n : Int)), (30, .int .i64 (j : Int)), (126, .int .u64 ((f j : Nat) : Int))] (by kernel_rfl) (by kernel_rfl) rfl ?_
            refine GL.run (j := 4) 2 [3, 4, 5, 7, 10, 11, 28, 29, 30, 128] [(3, pt p13 0), (4, .int .u64 (c : Int)), (5, .int .u64 (i : Int)), (7, pt p49 0), (10, .int .i64 (((shE c i (f j)) : Nat) : Int)), (11, .int .u64 (((shV c i (f j)) : Nat) : Int)), (28, .slice A n c0), (29, .int .i64 (n : Int)), (30, .int .i64 (j : Int)), (128, .bool (((f j : Nat) : Int) == 0))] (by kernel_rfl) rfl ?_
            cases hb85 : (((f j : Nat) : Int) == 0)
            · skip
              have hb85f := ne_of_beq_false hb85
              refine GL.run (j := 5) 1 [3, 4, 5, 7, 10, 11, 28, 29, 30, 128, 129] [(3, pt p13 0), (4, .int .u64 (c : Int)), (5, .int .u64 (i : Int)), (7, pt p49 0), (10, .int .i64 (((shE c i (f j)) : Nat) : Int)), (11, .int .u64 (((shV c i (f j)) : Nat) : Int)), (28, .slice A n c0), (29, .int .i64 (n : Int)), (30, .int .i64 (j : Int)), (128, .bool false), (129, pt p49 1)] (by kernel_rfl) rfl ?_
              refine GL.sem (j := 6) (H73.ld (o := 1) (ty := 23) (v := .int .u64 ((f j : Nat) : Int)) 1 rfl (by kernel_rfl) rfl) [3, 4, 5, 7, 10, 11, 28, 29, 30, 128, 130] [(3, pt p13 0), (4, .int .u64 (c : Int)), (5, .int .u64 (i : Int)), (7, pt p49 0), (10, .int .i64 (((shE c i (f j)) : Nat) : Int)), (11, .int .u64 (((shV c i (f j)) : Nat) : Int)), (28, .slice A n c0), (29, .int .i64 (n : Int)), (30, .int .i64 (j : Int)), (128, .bool false), (130, .int .u64 ((f j : Nat) : Int))] (by kernel_rfl) (by kernel_rfl) rfl ?_
              refine GL.run (j := 9) 3 [3, 4, 5, 7, 10, 11, 28, 29, 30, 124] [(3, pt p13 0), (4, .int .u64 (c : Int)), (5, .int .u64 (i : Int)), (7, pt p49 0), (10, .int .i64 (((shE c i (f j)) : Nat) : Int)), (11, .int .u64 (((shV c i (f j)) : Nat) : Int)), (28, .slice A n c0), (29, .int .i64 (n : Int)), (30, .int .i64 (j : Int)), (124, .bool (decide (4611686018427387904 < ((f j : Nat) : Int))))] (by kernel_rfl) rfl ?_
              refine GL.k rfl hK84 (fun _ _ h => h) ?_
              cases hb86 : (decide (4611686018427387904 < ((f j : Nat) : Int)))
              · skip
                have hb86f := of_decide_eq_false hb86
                refine G.no rfl ?_
                refine G.seqK fun K87 hK88 => ?_
                refine G.region ?_
                refine GL.run (j := 2) 2 [3, 4, 5, 7, 10, 11, 28, 29, 30, 140, 141] [(3, pt p13 0), (4, .int .u64 (c : Int)), (5, .int .u64 (i : Int)), (7, pt p49 0), (10, .int .i64 (((shE c i (f j)) : Nat) : Int)), (11, .int .u64 (((shV c i (f j)) : Nat) : Int)), (28, .slice A n c0), (29, .int .i64 (n : Int)), (30, .int .i64 (j : Int)), (140, .int .u64 (i : Int)), (141, pt p49 1)] (by kernel_rfl) rfl ?_
                refine GL.sem (j := 3) (H73.ld (o := 1) (ty := 23) (v := .int .u64 ((f j : Nat) : Int)) 1 rfl (by kernel_rfl) rfl) [3, 4, 5, 7, 10, 11, 28, 29, 30, 140, 142] [(3, pt p13 0), (4, .int .u64 (c : Int)), (5, .int .u64 (i : Int)), (7, pt p49 0), (10, .int .i64 (((shE c i (f j)) : Nat) : Int)), (11, .int .u64 (((shV c i (f j)) : Nat) : Int)), (28, .slice A n c0), (29, .int .i64 (n : Int)), (30, .int .i64 (j : Int)), (140, .int .u64 (i : Int)), (142, .int .u64 ((f j : Nat) : Int))] (by kernel_rfl) (by kernel_rfl) rfl ?_
                refine GL.run (j := 5) 2 [3, 4, 5, 7, 10, 11, 28, 29, 30, 139] [(3, pt p13 0), (4, .int .u64 (c : Int)), (5, .int .u64 (i : Int)), (7, pt p49 0), (10, .int .i64 (((shE c i (f j)) : Nat) : Int)), (11, .int .u64 (((shV c i (f j)) : Nat) : Int)), (28, .slice A n c0), (29, .int .i64 (n : Int)), (30, .int .i64 (j : Int)), (139, .bool (decide ((i : Int) < ((f j : Nat) : Int))))] (by kernel_rfl) rfl ?_
                refine GL.k rfl hK88 (fun _ _ h => h) ?_
                cases hb89 : (decide ((i : Int) < ((f j : Nat) : Int)))
                · skip
                  have hb89f := of_decide_eq_false hb89
                  obtain ⟨o1, o2, o3⟩ := sh_ok (c := c) (i := i) (a := f j) (by omega) (by omega) (by omega) (by omega)
                  have o4 : c * f j / i ≤ c := by rw [← o2]; exact hsl
                  obtain ⟨o5, o6⟩ := div_fits (divQ_down (c * f j) i) (by omega)
                  rw [← o2] at o6
                  refine G.no rfl ?_
                  refine G.seqK fun K90 hK91 => ?_
                  refine G.region ?_
                  refine GL.run (j := 2) 2 [3, 4, 5, 7, 10, 11, 28, 29, 30, 100, 101] [(3, pt p13 0), (4, .int .u64 (c : Int)), (5, .int .u64 (i : Int)), (7, pt p49 0), (10, .int .i64 (((shE c i (f j)) : Nat) : Int)), (11, .int .u64 (((shV c i (f j)) : Nat) : Int)), (28, .slice A n c0), (29, .int .i64 (n : Int)), (30, .int .i64 (j : Int)), (100, .int .u64 (c : Int)), (101, pt p49 1)] (by kernel_rfl) rfl ?_
                  refine GL.sem (j := 3) (H73.ld (o := 1) (ty := 23) (v := .int .u64 ((f j : Nat) : Int)) 1 rfl (by kernel_rfl) rfl) [3, 4, 5, 7, 10, 11, 28, 29, 30, 100, 102] [(3, pt p13 0), (4, .int .u64 (c : Int)), (5, .int .u64 (i : Int)), (7, pt p49 0), (10, .int .i64 (((shE c i (f j)) : Nat) : Int)), (11, .int .u64 (((shV c i (f j)) : Nat) : Int)), (28, .slice A n c0), (29, .int .i64 (n : Int)), (30, .int .i64 (j : Int)), (100, .int .u64 (c : Int)), (102, .int .u64 ((f j : Nat) : Int))] (by kernel_rfl) (by kernel_rfl) rfl ?_
                  obtain ⟨p92, w93, r94, H95⟩ := H73.madeRow (P := Try.prog) (Instr.buildSlice 38 2 #[(0, .int .u64 (c : Int)), (1, .int .u64 ((f j : Nat) : Int))]) (fun b_ => .slice (some ⟨b_, 0, none⟩) 2 2) [.int .u64 (c : Int), .int .u64 ((f j : Nat) : Int)] 22 2 2 1 (by kernel_rfl) (by decide) (by decide) rfl
                  have H95 : Hp w [] [.blk p13 [.int .u64 (((c - shV c i (f j)) : Nat) : Int), .int .u64 (((shI c i (f j)) : Nat) : Int)] 26, .blk p49 [.int .i64 (k j), .int .u64 ((f j : Nat) : Int), .int .u64 ((g j : Nat) : Int)] 34, .row (some ⟨p92, 0, none⟩) 2 2 22 1 (dg [c, f j])] w93 := H95
                  refine GL.sem (j := 4) (r94) [3, 4, 5, 7, 10, 11, 28, 29, 30, 103] [(3, pt p13 0), (4, .int .u64 (c : Int)), (5, .int .u64 (i : Int)), (7, pt p49 0), (10, .int .i64 (((shE c i (f j)) : Nat) : Int)), (11, .int .u64 (((shV c i (f j)) : Nat) : Int)), (28, .slice A n c0), (29, .int .i64 (n : Int)), (30, .int .i64 (j : Int)), (103, .slice (some ⟨p92, 0, none⟩) 2 2)] (by kernel_rfl) (by kernel_rfl) rfl ?_
                  have hN101 : ndg (c * (f j)) ≤ 8 := ndg_mul (ndg_K (by omega)) (ndg_K (by omega))
                  refine GL.call (j := 5) (Product5_2 c (f j) (by omega) (by omega) (some ⟨p92, 0, none⟩) 2 w93 (H95.rdRow 2 rfl)) (by kernel_rfl) rfl (fun e_ w100 hR => ?_)
                  obtain ⟨A96, c97, rfl, H99⟩ := hR
                  have H98 : Hp w [] [.blk p13 [.int .u64 (((c - shV c i (f j)) : Nat) : Int), .int .u64 (((shI c i (f j)) : Nat) : Int)] 26, .blk p49 [.int .i64 (k j), .int .u64 ((f j : Nat) : Int), .int .u64 ((g j : Nat) : Int)] 34, .row (some ⟨p92, 0, none⟩) 2 2 22 1 (dg [c, f j]), .row A96 (ndg (c * (f j))) c97 22 1 (dg (digs (c * (f j))))] w100 := H95.callNew H99
                  refine ⟨_, rfl, [3, 4, 5, 7, 10, 11, 28, 29, 30, 104], [(3, pt p13 0), (4, .int .u64 (c : Int)), (5, .int .u64 (i : Int)), (7, pt p49 0), (10, .int .i64 (((shE c i (f j)) : Nat) : Int)), (11, .int .u64 (((shV c i (f j)) : Nat) : Int)), (28, .slice A n c0), (29, .int .i64 (n : Int)), (30, .int .i64 (j : Int)), (104, .slice A96 (ndg (c * (f j))) c97)], by kernel_rfl, ?_⟩
                  refine GL.run (j := 6) 1 [3, 4, 5, 7, 10, 11, 28, 29, 30, 104, 105] [(3, pt p13 0), (4, .int .u64 (c : Int)), (5, .int .u64 (i : Int)), (7, pt p49 0), (10, .int .i64 (((shE c i (f j)) : Nat) : Int)), (11, .int .u64 (((shV c i (f j)) : Nat) : Int)), (28, .slice A n c0), (29, .int .i64 (n : Int)), (30, .int .i64 (j : Int)), (104, .slice A96 (ndg (c * (f j))) c97), (105, .int .u64 (i : Int))] (by kernel_rfl) rfl ?_
                  have hN107 : ndg i ≤ 4 := ndg_K (by omega)
                  refine GL.call (j := 7) (N5_calls i (by omega) w100) (by kernel_rfl) rfl (fun e_ w106 hR => ?_)
                  obtain ⟨A102, c103, rfl, H105⟩ := hR
                  have H104 : Hp w [] [.blk p13 [.int .u64 (((c - shV c i (f j)) : Nat) : Int), .int .u64 (((shI c i (f j)) : Nat) : Int)] 26, .blk p49 [.int .i64 (k j), .int .u64 ((f j : Nat) : Int), .int .u64 ((g j : Nat) : Int)] 34, .row (some ⟨p92, 0, none⟩) 2 2 22 1 (dg [c, f j]), .row A96 (ndg (c * (f j))) c97 22 1 (dg (digs (c * (f j)))), .row A102 (ndg i) c103 22 1 (dg (digs i))] w106 := H98.callNew H105
                  refine ⟨_, rfl, [3, 4, 5, 7, 10, 11, 28, 29, 30, 104, 106], [(3, pt p13 0), (4, .int .u64 (c : Int)), (5, .int .u64 (i : Int)), (7, pt p49 0), (10, .int .i64 (((shE c i (f j)) : Nat) : Int)), (11, .int .u64 (((shV c i (f j)) : Nat) : Int)), (28, .slice A n c0), (29, .int .i64 (n : Int)), (30, .int .i64 (j : Int)), (104, .slice A96 (ndg (c * (f j))) c97), (106, .slice A102 (ndg i) c103)], by kernel_rfl, ?_⟩
                  refine GL.call (j := 8) (Divide5_down (c * (f j)) i A96 c97 A102 c103 w106 (H104.rdRow 3 rfl) (H104.rdRow 4 rfl) (Nat.le_trans hN101 (by decide)) (Nat.le_trans hN107 (by decide)) (by omega)) (by kernel_rfl) rfl (fun e_ w108 hR => ?_)
                  obtain ⟨rfl, H110⟩ := hR
                  have H109 : Hp w [] [.blk p13 [.int .u64 (((c - shV c i (f j)) : Nat) : Int), .int .u64 (((shI c i (f j)) : Nat) : Int)] 26, .blk p49 [.int .i64 (k j), .int .u64 ((f j : Nat) : Int), .int .u64 ((g j : Nat) : Int)] 34, .row (some ⟨p92, 0, none⟩) 2 2 22 1 (dg [c, f j]), .row A96 (ndg (c * (f j))) c97 22 1 (dg (digs (c * (f j)))), .row A102 (ndg i) c103 22 1 (dg (digs i))] w108 := H104.callNil H110
                  refine ⟨_, rfl, [3, 4, 5, 7, 10, 11, 28, 29, 30, 107], [(3, pt p13 0), (4, .int .u64 (c : Int)), (5, .int .u64 (i : Int)), (7, pt p49 0), (10, .int .i64 (((shE c i (f j)) : Nat) : Int)), (11, .int .u64 (((shV c i (f j)) : Nat) : Int)), (28, .slice A n c0), (29, .int .i64 (n : Int)), (30, .int .i64 (j : Int)), (107, .tuple #[.int .u64 (((divV (c * (f j)) i false) : Nat) : Int), .bool (divF (c * (f j)) i false)])], by kernel_rfl, ?_⟩
                  refine GL.run (j := 13) 5 [3, 4, 5, 7, 10, 11, 13, 28, 29, 30] [(3, pt p13 0), (4, .int .u64 (c : Int)), (5, .int .u64 (i : Int)), (7, pt p49 0), (10, .int .i64 (((shE c i (f j)) : Nat) : Int)), (11, .int .u64 (((shV c i (f j)) : Nat) : Int)), (13, .int .u64 (((divV (c * (f j)) i false) : Nat) : Int)), (28, .slice A n c0), (29, .int .i64 (n : Int)), (30, .int .i64 (j : Int))] (by kernel_rfl) rfl ?_
                  refine GL.k rfl hK91 (fun _ _ h => h) ?_
                  refine G.seqK fun K111 hK112 => ?_
                  refine G.seqK fun K113 hK114 => ?_
                  refine G.region ?_
                  refine GL.run (j := 3) 3 [3, 4, 5, 7, 11, 13, 28, 29, 30, 112] [(3, pt p13 0), (4, .int .u64 (c : Int)), (5, .int .u64 (i : Int)), (7, pt p49 0), (11, .int .u64 (((shV c i (f j)) : Nat) : Int)), (13, .int .u64 (((divV (c * (f j)) i false) : Nat) : Int)), (28, .slice A n c0), (29, .int .i64 (n : Int)), (30, .int .i64 (j : Int)), (112, .bool ((((shE c i (f j)) : Nat) : Int) != 0))] (by kernel_rfl) rfl ?_
                  cases hb115 : ((((shE c i (f j)) : Nat) : Int) != 0)
                  · skip
                    have hb115f : (((shE c i (f j)) : Nat) : Int) = 0 := bne_eq_false_iff_eq.1 hb115
                    refine GL.run (j := 7) 4 [3, 4, 5, 7, 13, 28, 29, 30, 116] [(3, pt p13 0), (4, .int .u64 (c : Int)), (5, .int .u64 (i : Int)), (7, pt p49 0), (13, .int .u64 (((divV (c * (f j)) i false) : Nat) : Int)), (28, .slice A n c0), (29, .int .i64 (n : Int)), (30, .int .i64 (j : Int)), (116, .bool ((((shV c i (f j)) : Nat) : Int) != (((divV (c * (f j)) i false) : Nat) : Int)))] (by kernel_rfl) rfl ?_
                    refine GL.k rfl hK114 (fun _ _ h => h) ?_
                    cases hb116 : ((((shV c i (f j)) : Nat) : Int) != (((divV (c * (f j)) i false) : Nat) : Int))
                    · skip
                      have hb116f : (((shV c i (f j)) : Nat) : Int) = (((divV (c * (f j)) i false) : Nat) : Int) := bne_eq_false_iff_eq.1 hb116
                      refine G.no rfl ?_
                      refine G.skipK hK112 (fun _ _ h => h) ?_
                      refine G.draw H109 (by kernel_rfl) (by kernel_rfl) ?_
                      refine GQ.run (j := 5) 5 [3, 28, 29, 30, 119, 120, 121] [(3, pt p13 0), (28, .slice A n c0), (29, .int .i64 (n : Int)), (30, .int .i64 (j : Int)), (119, .int .u64 (IntKind.u64.wrap ((c : Int) - (((divV (c * (f j)) i false) : Nat) : Int)))), (120, .int .u64 (i : Int)), (121, pt p49 1)] (by kernel_rfl) rfl ?_
                      have e117 : (IntKind.u64.wrap ((c : Int) - (((divV (c * (f j)) i false) : Nat) : Int))) = ((c - (divV (c * (f j)) i false) : Nat) : Int) := n_sub (a := c) (b := (divV (c * (f j)) i false)) (by omega) (by omega)
                      refine GQ.eq (M' := [(3, pt p13 0), (28, .slice A n c0), (29, .int .i64 (n : Int)), (30, .int .i64 (j : Int)), (119, .int .u64 ((c - (divV (c * (f j)) i false) : Nat) : Int)), (120, .int .u64 (i : Int)), (121, pt p49 1)]) (by rw [e117]) ?_
                      clear e117
                      refine GQ.sem (j := 6) (fun w_ H_ => H_.ld (o := 1) (ty := 23) (v := .int .u64 ((f j : Nat) : Int)) 1 rfl (by kernel_rfl) rfl) [3, 28, 29, 30, 119, 120, 122] [(3, pt p13 0), (28, .slice A n c0), (29, .int .i64 (n : Int)), (30, .int .i64 (j : Int)), (119, .int .u64 ((c - (divV (c * (f j)) i false) : Nat) : Int)), (120, .int .u64 (i : Int)), (122, .int .u64 ((f j : Nat) : Int))] (by kernel_rfl) (by kernel_rfl) rfl ?_
                      refine GQ.run (j := 9) 3 [3, 4, 5, 28, 29, 30] [(3, pt p13 0), (4, .int .u64 ((c - (divV (c * (f j)) i false) : Nat) : Int)), (5, .int .u64 (IntKind.u64.wrap ((i : Int) - ((f j : Nat) : Int)))), (28, .slice A n c0), (29, .int .i64 (n : Int)), (30, .int .i64 (j : Int))] (by kernel_rfl) rfl ?_
                      have e118 : (IntKind.u64.wrap ((i : Int) - ((f j : Nat) : Int))) = ((i - (f j) : Nat) : Int) := n_sub (a := i) (b := (f j)) (by omega) (by omega)
                      refine GQ.eq (M' := [(3, pt p13 0), (4, .int .u64 ((c - (divV (c * (f j)) i false) : Nat) : Int)), (5, .int .u64 ((i - (f j) : Nat) : Int)), (28, .slice A n c0), (29, .int .i64 (n : Int)), (30, .int .i64 (j : Int))]) (by rw [e118]) ?_
                      clear e118
                      refine GQ.k rfl hK82 (fun _ _ h => h) (fun w119 H120 => ?_)
                      refine G.seqK fun K121 hK122 => ?_
                      refine G.region ?_
                      refine GL.run (j := 3) 3 [3, 4, 5, 28, 29, 30, 152] [(3, pt p13 0), (4, .int .u64 ((c - (divV (c * (f j)) i false) : Nat) : Int)), (5, .int .u64 ((i - (f j) : Nat) : Int)), (28, .slice A n c0), (29, .int .i64 (n : Int)), (30, .int .i64 (j : Int)), (152, pt p13 0)] (by kernel_rfl) rfl ?_
                      refine GL.sem (j := 4) (H120.ld (o := 0) (ty := 23) (v := .int .u64 (((c - shV c i (f j)) : Nat) : Int)) 0 rfl (by kernel_rfl) rfl) [3, 4, 5, 28, 29, 30, 153] [(3, pt p13 0), (4, .int .u64 ((c - (divV (c * (f j)) i false) : Nat) : Int)), (5, .int .u64 ((i - (f j) : Nat) : Int)), (28, .slice A n c0), (29, .int .i64 (n : Int)), (30, .int .i64 (j : Int)), (153, .int .u64 (((c - shV c i (f j)) : Nat) : Int))] (by kernel_rfl) (by kernel_rfl) rfl ?_
                      refine GL.run (j := 7) 3 [3, 4, 5, 28, 29, 30, 156] [(3, pt p13 0), (4, .int .u64 ((c - (divV (c * (f j)) i false) : Nat) : Int)), (5, .int .u64 ((i - (f j) : Nat) : Int)), (28, .slice A n c0), (29, .int .i64 (n : Int)), (30, .int .i64 (j : Int)), (156, .bool ((((c - shV c i (f j)) : Nat) : Int) != ((c - (divV (c * (f j)) i false) : Nat) : Int)))] (by kernel_rfl) rfl ?_
                      cases hb123 : ((((c - shV c i (f j)) : Nat) : Int) != ((c - (divV (c * (f j)) i false) : Nat) : Int))
                      · skip
                        have hb123f : (((c - shV c i (f j)) : Nat) : Int) = ((c - (divV (c * (f j)) i false) : Nat) : Int) := bne_eq_false_iff_eq.1 hb123
                        refine GL.run (j := 10) 3 [3, 4, 5, 28, 29, 30, 156, 159] [(3, pt p13 0), (4, .int .u64 ((c - (divV (c * (f j)) i false) : Nat) : Int)), (5, .int .u64 ((i - (f j) : Nat) : Int)), (28, .slice A n c0), (29, .int .i64 (n : Int)), (30, .int .i64 (j : Int)), (156, .bool false), (159, pt p13 1)] (by kernel_rfl) rfl ?_
                        refine GL.sem (j := 11) (H120.ld (o := 1) (ty := 23) (v := .int .u64 (((shI c i (f j)) : Nat) : Int)) 0 rfl (by kernel_rfl) rfl) [3, 4, 5, 28, 29, 30, 156, 160] [(3, pt p13 0), (4, .int .u64 ((c - (divV (c * (f j)) i false) : Nat) : Int)), (5, .int .u64 ((i - (f j) : Nat) : Int)), (28, .slice A n c0), (29, .int .i64 (n : Int)), (30, .int .i64 (j : Int)), (156, .bool false), (160, .int .u64 (((shI c i (f j)) : Nat) : Int))] (by kernel_rfl) (by kernel_rfl) rfl ?_
                        refine GL.run (j := 14) 3 [3, 4, 5, 28, 29, 30, 163] [(3, pt p13 0), (4, .int .u64 ((c - (divV (c * (f j)) i false) : Nat) : Int)), (5, .int .u64 ((i - (f j) : Nat) : Int)), (28, .slice A n c0), (29, .int .i64 (n : Int)), (30, .int .i64 (j : Int)), (163, .bool ((((shI c i (f j)) : Nat) : Int) != ((i - (f j) : Nat) : Int)))] (by kernel_rfl) rfl ?_
                        refine GL.k rfl hK122 (fun _ _ h => h) ?_
                        cases hb124 : ((((shI c i (f j)) : Nat) : Int) != ((i - (f j) : Nat) : Int))
                        · skip
                          have hb124f : (((shI c i (f j)) : Nat) : Int) = ((i - (f j) : Nat) : Int) := bne_eq_false_iff_eq.1 hb124
                          refine G.no rfl ?_
                          refine G.skipK hK46 (fun _ _ h => h) ?_
                          refine G.region ?_
                          refine GL.run (j := 2) 2 [3, 4, 5, 28, 29, 30] [(3, pt p13 0), (4, .int .u64 ((c - (divV (c * (f j)) i false) : Nat) : Int)), (5, .int .u64 ((i - (f j) : Nat) : Int)), (28, .slice A n c0), (29, .int .i64 (n : Int)), (30, .int .i64 (IntKind.i64.wrap ((j : Int) + 1)))] (by kernel_rfl) rfl ?_
                          have e125 : (IntKind.i64.wrap ((j : Int) + 1)) = ((j + 1 : Nat) : Int) := by rw [in_i64 (by omega)]; omega
                          refine GL.eq (M' := [(3, pt p13 0), (4, .int .u64 ((c - (divV (c * (f j)) i false) : Nat) : Int)), (5, .int .u64 ((i - (f j) : Nat) : Int)), (28, .slice A n c0), (29, .int .i64 (n : Int)), (30, .int .i64 ((j + 1 : Nat) : Int))]) (by rw [e125]) ?_
                          clear e125
                          have H126 : Hp w [] [.blk p13 [.int .u64 (((c - shV c i (f j)) : Nat) : Int), .int .u64 (((shI c i (f j)) : Nat) : Int)] 26] w119 := H120.sub (List.Sublist.cons_cons _ (List.Sublist.cons _ (List.Sublist.cons _ (List.Sublist.cons _ (List.Sublist.cons _ (List.Sublist.slnil))))))
                          have eA : (c - shV c i (f j)) = c - (divV (c * (f j)) i false) := by omega
                          have eB : (shI c i (f j)) = i - (f j) := by omega
                          have H1270 := H126
                          rw [eA, eB] at H1270
                          have H127 : Hp w [] [.blk p13 [.int .u64 ((c - (divV (c * (f j)) i false) : Nat) : Int), .int .u64 ((i - (f j) : Nat) : Int)] 26] w119 := H1270
                          refine GL.fit (ts := [3, 4, 5, 28, 29, 30]) (M' := [(3, pt p13 0), (4, .int .u64 ((c - (divV (c * (f j)) i false) : Nat) : Int)), (5, .int .u64 ((i - (f j) : Nat) : Int)), (28, .slice A n c0), (29, .int .i64 (n : Int)), (30, .int .i64 ((j + 1 : Nat) : Int))]) (by kernel_rfl) ?_
                          refine GL.eq (M' := [(3, pt p13 0), (4, .int .u64 ((c - (divV (c * (f j)) i false) : Nat) : Int)), (5, .int .u64 ((i - (f j) : Nat) : Int)), (28, .slice A n c0), (29, .int .i64 (n : Int)), (30, .int .i64 (((j + 1) : Nat) : Int))]) (by rfl) ?_
                          exact GL.again ⟨(j + 1), c - (divV (c * (f j)) i false), i - (f j)⟩ [3, 4, 5, 28, 29, 30] rfl (by kernel_rfl) (by show n - (j + 1) < n - j; omega) ⟨⟨by omega, by omega, by omega⟩, H127⟩
                        · skip
                          have hb124f : (((shI c i (f j)) : Nat) : Int) ≠ ((i - (f j) : Nat) : Int) := bne_iff_ne.1 hb124
                          refine G.yes rfl ?_
                          refine G.seqK fun K128 hK129 => ?_
                          refine G.region ?_
                          refine GL.run (j := 1) 1 [2] [(2, .bool false)] (by kernel_rfl) rfl ?_
                          refine GL.k rfl hK129 (fun _ _ h => h) ?_
                          refine G.ret ?_
                          intro F_ hF_ hM_
                          refine hRet _ _ (bodyPost_1 rfl (RV.tmp rfl) ?_ F_ hF_ hM_)
                          exfalso
                          omega
                      · skip
                        have hb123f : (((c - shV c i (f j)) : Nat) : Int) ≠ ((c - (divV (c * (f j)) i false) : Nat) : Int) := bne_iff_ne.1 hb123
                        refine GL.run (j := 14) 7 [3, 4, 5, 28, 29, 30, 163] [(3, pt p13 0), (4, .int .u64 ((c - (divV (c * (f j)) i false) : Nat) : Int)), (5, .int .u64 ((i - (f j) : Nat) : Int)), (28, .slice A n c0), (29, .int .i64 (n : Int)), (30, .int .i64 (j : Int)), (163, .bool true)] (by kernel_rfl) rfl ?_
                        refine GL.k rfl hK122 (fun _ _ h => h) ?_
                        refine G.yes rfl ?_
                        refine G.seqK fun K130 hK131 => ?_
                        refine G.region ?_
                        refine GL.run (j := 1) 1 [2] [(2, .bool false)] (by kernel_rfl) rfl ?_
                        refine GL.k rfl hK131 (fun _ _ h => h) ?_
                        refine G.ret ?_
                        intro F_ hF_ hM_
                        refine hRet _ _ (bodyPost_1 rfl (RV.tmp rfl) ?_ F_ hF_ hM_)
                        exfalso
                        omega
                    · skip
                      have hb116f : (((shV c i (f j)) : Nat) : Int) ≠ (((divV (c * (f j)) i false) : Nat) : Int) := bne_iff_ne.1 hb116
                      refine G.yes rfl ?_
                      refine G.seqK fun K132 hK133 => ?_
                      refine G.region ?_
                      refine GL.run (j := 1) 1 [2] [(2, .bool false)] (by kernel_rfl) rfl ?_
                      refine GL.k rfl hK133 (fun _ _ h => h) ?_
                      refine G.ret ?_
                      intro F_ hF_ hM_
                      refine hRet _ _ (bodyPost_1 rfl (RV.tmp rfl) ?_ F_ hF_ hM_)
                      exfalso
                      omega
                  · skip
                    have hb115f : (((shE c i (f j)) : Nat) : Int) ≠ 0 := bne_iff_ne.1 hb115
                    refine GL.run (j := 7) 4 [3, 4, 5, 7, 13, 28, 29, 30, 116] [(3, pt p13 0), (4, .int .u64 (c : Int)), (5, .int .u64 (i : Int)), (7, pt p49 0), (13, .int .u64 (((divV (c * (f j)) i false) : Nat) : Int)), (28, .slice A n c0), (29, .int .i64 (n : Int)), (30, .int .i64 (j : Int)), (116, .bool true)] (by kernel_rfl) rfl ?_
                    refine GL.k rfl hK114 (fun _ _ h => h) ?_
                    refine G.yes rfl ?_
                    refine G.seqK fun K134 hK135 => ?_
                    refine G.region ?_
                    refine GL.run (j := 1) 1 [2] [(2, .bool false)] (by kernel_rfl) rfl ?_
                    refine GL.k rfl hK135 (fun _ _ h => h) ?_
                    refine G.ret ?_
                    intro F_ hF_ hM_
                    refine hRet _ _ (bodyPost_1 rfl (RV.tmp rfl) ?_ F_ hF_ hM_)
                    exfalso
                    omega
                · skip
                  have hb89f := of_decide_eq_true hb89
                  have hs1 : shE c i (f j) = 16 := by rw [shE, if_neg (by omega), if_pos (by omega)]
                  have hs2 := sh_none (c := c) (i := i) (a := f j) (by omega)
                  refine G.yes rfl ?_
                  refine G.seqK fun K136 hK137 => ?_
                  refine G.region ?_
                  refine GL.run (j := 3) 3 [3, 4, 5, 11, 28, 29, 30, 146] [(3, pt p13 0), (4, .int .u64 (c : Int)), (5, .int .u64 (i : Int)), (11, .int .u64 (((shV c i (f j)) : Nat) : Int)), (28, .slice A n c0), (29, .int .i64 (n : Int)), (30, .int .i64 (j : Int)), (146, .bool ((((shE c i (f j)) : Nat) : Int) != 16))] (by kernel_rfl) rfl ?_
                  cases hb138 : ((((shE c i (f j)) : Nat) : Int) != 16)
                  · skip
                    have hb138f : (((shE c i (f j)) : Nat) : Int) = 16 := bne_eq_false_iff_eq.1 hb138
                    refine GL.run (j := 6) 3 [3, 4, 5, 28, 29, 30, 149] [(3, pt p13 0), (4, .int .u64 (c : Int)), (5, .int .u64 (i : Int)), (28, .slice A n c0), (29, .int .i64 (n : Int)), (30, .int .i64 (j : Int)), (149, .bool ((((shV c i (f j)) : Nat) : Int) != 0))] (by kernel_rfl) rfl ?_
                    refine GL.k rfl hK137 (fun _ _ h => h) ?_
                    cases hb139 : ((((shV c i (f j)) : Nat) : Int) != 0)
                    · skip
                      have hb139f : (((shV c i (f j)) : Nat) : Int) = 0 := bne_eq_false_iff_eq.1 hb139
                      refine G.no rfl ?_
                      refine G.skipK hK82 (fun _ _ h => h) ?_
                      refine G.seqK fun K140 hK141 => ?_
                      refine G.region ?_
                      refine GL.run (j := 3) 3 [3, 4, 5, 28, 29, 30, 152] [(3, pt p13 0), (4, .int .u64 (c : Int)), (5, .int .u64 (i : Int)), (28, .slice A n c0), (29, .int .i64 (n : Int)), (30, .int .i64 (j : Int)), (152, pt p13 0)] (by kernel_rfl) rfl ?_
                      refine GL.sem (j := 4) (H73.ld (o := 0) (ty := 23) (v := .int .u64 (((c - shV c i (f j)) : Nat) : Int)) 0 rfl (by kernel_rfl) rfl) [3, 4, 5, 28, 29, 30, 153] [(3, pt p13 0), (4, .int .u64 (c : Int)), (5, .int .u64 (i : Int)), (28, .slice A n c0), (29, .int .i64 (n : Int)), (30, .int .i64 (j : Int)), (153, .int .u64 (((c - shV c i (f j)) : Nat) : Int))] (by kernel_rfl) (by kernel_rfl) rfl ?_
                      refine GL.run (j := 7) 3 [3, 4, 5, 28, 29, 30, 156] [(3, pt p13 0), (4, .int .u64 (c : Int)), (5, .int .u64 (i : Int)), (28, .slice A n c0), (29, .int .i64 (n : Int)), (30, .int .i64 (j : Int)), (156, .bool ((((c - shV c i (f j)) : Nat) : Int) != (c : Int)))] (by kernel_rfl) rfl ?_
                      cases hb142 : ((((c - shV c i (f j)) : Nat) : Int) != (c : Int))
                      · skip
                        have hb142f : (((c - shV c i (f j)) : Nat) : Int) = (c : Int) := bne_eq_false_iff_eq.1 hb142
                        refine GL.run (j := 10) 3 [3, 4, 5, 28, 29, 30, 156, 159] [(3, pt p13 0), (4, .int .u64 (c : Int)), (5, .int .u64 (i : Int)), (28, .slice A n c0), (29, .int .i64 (n : Int)), (30, .int .i64 (j : Int)), (156, .bool false), (159, pt p13 1)] (by kernel_rfl) rfl ?_
                        refine GL.sem (j := 11) (H73.ld (o := 1) (ty := 23) (v := .int .u64 (((shI c i (f j)) : Nat) : Int)) 0 rfl (by kernel_rfl) rfl) [3, 4, 5, 28, 29, 30, 156, 160] [(3, pt p13 0), (4, .int .u64 (c : Int)), (5, .int .u64 (i : Int)), (28, .slice A n c0), (29, .int .i64 (n : Int)), (30, .int .i64 (j : Int)), (156, .bool false), (160, .int .u64 (((shI c i (f j)) : Nat) : Int))] (by kernel_rfl) (by kernel_rfl) rfl ?_
                        refine GL.run (j := 14) 3 [3, 4, 5, 28, 29, 30, 163] [(3, pt p13 0), (4, .int .u64 (c : Int)), (5, .int .u64 (i : Int)), (28, .slice A n c0), (29, .int .i64 (n : Int)), (30, .int .i64 (j : Int)), (163, .bool ((((shI c i (f j)) : Nat) : Int) != (i : Int)))] (by kernel_rfl) rfl ?_
                        refine GL.k rfl hK141 (fun _ _ h => h) ?_
                        cases hb143 : ((((shI c i (f j)) : Nat) : Int) != (i : Int))
                        · skip
                          have hb143f : (((shI c i (f j)) : Nat) : Int) = (i : Int) := bne_eq_false_iff_eq.1 hb143
                          refine G.no rfl ?_
                          refine G.skipK hK46 (fun _ _ h => h) ?_
                          refine G.region ?_
                          refine GL.run (j := 2) 2 [3, 4, 5, 28, 29, 30] [(3, pt p13 0), (4, .int .u64 (c : Int)), (5, .int .u64 (i : Int)), (28, .slice A n c0), (29, .int .i64 (n : Int)), (30, .int .i64 (IntKind.i64.wrap ((j : Int) + 1)))] (by kernel_rfl) rfl ?_
                          have e144 : (IntKind.i64.wrap ((j : Int) + 1)) = ((j + 1 : Nat) : Int) := by rw [in_i64 (by omega)]; omega
                          refine GL.eq (M' := [(3, pt p13 0), (4, .int .u64 (c : Int)), (5, .int .u64 (i : Int)), (28, .slice A n c0), (29, .int .i64 (n : Int)), (30, .int .i64 ((j + 1 : Nat) : Int))]) (by rw [e144]) ?_
                          clear e144
                          have H145 : Hp w [] [.blk p13 [.int .u64 (((c - shV c i (f j)) : Nat) : Int), .int .u64 (((shI c i (f j)) : Nat) : Int)] 26] w72 := H73.sub (List.Sublist.cons_cons _ (List.Sublist.cons _ (List.Sublist.slnil)))
                          have eA : (c - shV c i (f j)) = c := by omega
                          have eB : (shI c i (f j)) = i := by omega
                          have H1460 := H145
                          rw [eA, eB] at H1460
                          have H146 : Hp w [] [.blk p13 [.int .u64 (c : Int), .int .u64 (i : Int)] 26] w72 := H1460
                          refine GL.fit (ts := [3, 4, 5, 28, 29, 30]) (M' := [(3, pt p13 0), (4, .int .u64 (c : Int)), (5, .int .u64 (i : Int)), (28, .slice A n c0), (29, .int .i64 (n : Int)), (30, .int .i64 ((j + 1 : Nat) : Int))]) (by kernel_rfl) ?_
                          refine GL.eq (M' := [(3, pt p13 0), (4, .int .u64 (c : Int)), (5, .int .u64 (i : Int)), (28, .slice A n c0), (29, .int .i64 (n : Int)), (30, .int .i64 (((j + 1) : Nat) : Int))]) (by rfl) ?_
                          exact GL.again ⟨(j + 1), c, i⟩ [3, 4, 5, 28, 29, 30] rfl (by kernel_rfl) (by show n - (j + 1) < n - j; omega) ⟨⟨by omega, by omega, by omega⟩, H146⟩
                        · skip
                          have hb143f : (((shI c i (f j)) : Nat) : Int) ≠ (i : Int) := bne_iff_ne.1 hb143
                          refine G.yes rfl ?_
                          refine G.seqK fun K147 hK148 => ?_
                          refine G.region ?_
                          refine GL.run (j := 1) 1 [2] [(2, .bool false)] (by kernel_rfl) rfl ?_
                          refine GL.k rfl hK148 (fun _ _ h => h) ?_
                          refine G.ret ?_
                          intro F_ hF_ hM_
                          refine hRet _ _ (bodyPost_1 rfl (RV.tmp rfl) ?_ F_ hF_ hM_)
                          exfalso
                          omega
                      · skip
                        have hb142f : (((c - shV c i (f j)) : Nat) : Int) ≠ (c : Int) := bne_iff_ne.1 hb142
                        refine GL.run (j := 14) 7 [3, 4, 5, 28, 29, 30, 163] [(3, pt p13 0), (4, .int .u64 (c : Int)), (5, .int .u64 (i : Int)), (28, .slice A n c0), (29, .int .i64 (n : Int)), (30, .int .i64 (j : Int)), (163, .bool true)] (by kernel_rfl) rfl ?_
                        refine GL.k rfl hK141 (fun _ _ h => h) ?_
                        refine G.yes rfl ?_
                        refine G.seqK fun K149 hK150 => ?_
                        refine G.region ?_
                        refine GL.run (j := 1) 1 [2] [(2, .bool false)] (by kernel_rfl) rfl ?_
                        refine GL.k rfl hK150 (fun _ _ h => h) ?_
                        refine G.ret ?_
                        intro F_ hF_ hM_
                        refine hRet _ _ (bodyPost_1 rfl (RV.tmp rfl) ?_ F_ hF_ hM_)
                        exfalso
                        omega
                    · skip
                      have hb139f : (((shV c i (f j)) : Nat) : Int) ≠ 0 := bne_iff_ne.1 hb139
                      refine G.yes rfl ?_
                      refine G.seqK fun K151 hK152 => ?_
                      refine G.region ?_
                      refine GL.run (j := 1) 1 [2] [(2, .bool false)] (by kernel_rfl) rfl ?_
                      refine GL.k rfl hK152 (fun _ _ h => h) ?_
                      refine G.ret ?_
                      intro F_ hF_ hM_
                      refine hRet _ _ (bodyPost_1 rfl (RV.tmp rfl) ?_ F_ hF_ hM_)
                      exfalso
                      omega
                  · skip
                    have hb138f : (((shE c i (f j)) : Nat) : Int) ≠ 16 := bne_iff_ne.1 hb138
                    refine GL.run (j := 6) 3 [3, 4, 5, 28, 29, 30, 149] [(3, pt p13 0), (4, .int .u64 (c : Int)), (5, .int .u64 (i : Int)), (28, .slice A n c0), (29, .int .i64 (n : Int)), (30, .int .i64 (j : Int)), (149, .bool true)] (by kernel_rfl) rfl ?_
                    refine GL.k rfl hK137 (fun _ _ h => h) ?_
                    refine G.yes rfl ?_
                    refine G.seqK fun K153 hK154 => ?_
                    refine G.region ?_
                    refine GL.run (j := 1) 1 [2] [(2, .bool false)] (by kernel_rfl) rfl ?_
                    refine GL.k rfl hK154 (fun _ _ h => h) ?_
                    refine G.ret ?_
                    intro F_ hF_ hM_
                    refine hRet _ _ (bodyPost_1 rfl (RV.tmp rfl) ?_ F_ hF_ hM_)
                    exfalso
                    omega
              · skip
                have hb86f := of_decide_eq_true hb86
                have hs1 : shE c i (f j) = 1 := by rw [shE, if_pos (by omega)]
                have hs2 := sh_none (c := c) (i := i) (a := f j) (by omega)
                refine G.yes rfl ?_
                refine G.seqK fun K155 hK156 => ?_
                refine G.region ?_
                refine GL.run (j := 3) 3 [3, 4, 5, 11, 28, 29, 30, 135] [(3, pt p13 0), (4, .int .u64 (c : Int)), (5, .int .u64 (i : Int)), (11, .int .u64 (((shV c i (f j)) : Nat) : Int)), (28, .slice A n c0), (29, .int .i64 (n : Int)), (30, .int .i64 (j : Int)), (135, .bool ((((shE c i (f j)) : Nat) : Int) != 1))] (by kernel_rfl) rfl ?_
                cases hb157 : ((((shE c i (f j)) : Nat) : Int) != 1)
                · skip
                  have hb157f : (((shE c i (f j)) : Nat) : Int) = 1 := bne_eq_false_iff_eq.1 hb157
                  refine GL.run (j := 6) 3 [3, 4, 5, 28, 29, 30, 138] [(3, pt p13 0), (4, .int .u64 (c : Int)), (5, .int .u64 (i : Int)), (28, .slice A n c0), (29, .int .i64 (n : Int)), (30, .int .i64 (j : Int)), (138, .bool ((((shV c i (f j)) : Nat) : Int) != 0))] (by kernel_rfl) rfl ?_
                  refine GL.k rfl hK156 (fun _ _ h => h) ?_
                  cases hb158 : ((((shV c i (f j)) : Nat) : Int) != 0)
                  · skip
                    have hb158f : (((shV c i (f j)) : Nat) : Int) = 0 := bne_eq_false_iff_eq.1 hb158
                    refine G.no rfl ?_
                    refine G.skipK hK82 (fun _ _ h => h) ?_
                    refine G.seqK fun K159 hK160 => ?_
                    refine G.region ?_
                    refine GL.run (j := 3) 3 [3, 4, 5, 28, 29, 30, 152] [(3, pt p13 0), (4, .int .u64 (c : Int)), (5, .int .u64 (i : Int)), (28, .slice A n c0), (29, .int .i64 (n : Int)), (30, .int .i64 (j : Int)), (152, pt p13 0)] (by kernel_rfl) rfl ?_
                    refine GL.sem (j := 4) (H73.ld (o := 0) (ty := 23) (v := .int .u64 (((c - shV c i (f j)) : Nat) : Int)) 0 rfl (by kernel_rfl) rfl) [3, 4, 5, 28, 29, 30, 153] [(3, pt p13 0), (4, .int .u64 (c : Int)), (5, .int .u64 (i : Int)), (28, .slice A n c0), (29, .int .i64 (n : Int)), (30, .int .i64 (j : Int)), (153, .int .u64 (((c - shV c i (f j)) : Nat) : Int))] (by kernel_rfl) (by kernel_rfl) rfl ?_
                    refine GL.run (j := 7) 3 [3, 4, 5, 28, 29, 30, 156] [(3, pt p13 0), (4, .int .u64 (c : Int)), (5, .int .u64 (i : Int)), (28, .slice A n c0), (29, .int .i64 (n : Int)), (30, .int .i64 (j : Int)), (156, .bool ((((c - shV c i (f j)) : Nat) : Int) != (c : Int)))] (by kernel_rfl) rfl ?_
                    cases hb161 : ((((c - shV c i (f j)) : Nat) : Int) != (c : Int))
                    · skip
                      have hb161f : (((c - shV c i (f j)) : Nat) : Int) = (c : Int) := bne_eq_false_iff_eq.1 hb161
                      refine GL.run (j := 10) 3 [3, 4, 5, 28, 29, 30, 156, 159] [(3, pt p13 0), (4, .int .u64 (c : Int)), (5, .int .u64 (i : Int)), (28, .slice A n c0), (29, .int .i64 (n : Int)), (30, .int .i64 (j : Int)), (156, .bool false), (159, pt p13 1)] (by kernel_rfl) rfl ?_
                      refine GL.sem (j := 11) (H73.ld (o := 1) (ty := 23) (v := .int .u64 (((shI c i (f j)) : Nat) : Int)) 0 rfl (by kernel_rfl) rfl) [3, 4, 5, 28, 29, 30, 156, 160] [(3, pt p13 0), (4, .int .u64 (c : Int)), (5, .int .u64 (i : Int)), (28, .slice A n c0), (29, .int .i64 (n : Int)), (30, .int .i64 (j : Int)), (156, .bool false), (160, .int .u64 (((shI c i (f j)) : Nat) : Int))] (by kernel_rfl) (by kernel_rfl) rfl ?_
                      refine GL.run (j := 14) 3 [3, 4, 5, 28, 29, 30, 163] [(3, pt p13 0), (4, .int .u64 (c : Int)), (5, .int .u64 (i : Int)), (28, .slice A n c0), (29, .int .i64 (n : Int)), (30, .int .i64 (j : Int)), (163, .bool ((((shI c i (f j)) : Nat) : Int) != (i : Int)))] (by kernel_rfl) rfl ?_
                      refine GL.k rfl hK160 (fun _ _ h => h) ?_
                      cases hb162 : ((((shI c i (f j)) : Nat) : Int) != (i : Int))
                      · skip
                        have hb162f : (((shI c i (f j)) : Nat) : Int) = (i : Int) := bne_eq_false_iff_eq.1 hb162
                        refine G.no rfl ?_
                        refine G.skipK hK46 (fun _ _ h => h) ?_
                        refine G.region ?_
                        refine GL.run (j := 2) 2 [3, 4, 5, 28, 29, 30] [(3, pt p13 0), (4, .int .u64 (c : Int)), (5, .int .u64 (i : Int)), (28, .slice A n c0), (29, .int .i64 (n : Int)), (30, .int .i64 (IntKind.i64.wrap ((j : Int) + 1)))] (by kernel_rfl) rfl ?_
                        have e163 : (IntKind.i64.wrap ((j : Int) + 1)) = ((j + 1 : Nat) : Int) := by rw [in_i64 (by omega)]; omega
                        refine GL.eq (M' := [(3, pt p13 0), (4, .int .u64 (c : Int)), (5, .int .u64 (i : Int)), (28, .slice A n c0), (29, .int .i64 (n : Int)), (30, .int .i64 ((j + 1 : Nat) : Int))]) (by rw [e163]) ?_
                        clear e163
                        have H164 : Hp w [] [.blk p13 [.int .u64 (((c - shV c i (f j)) : Nat) : Int), .int .u64 (((shI c i (f j)) : Nat) : Int)] 26] w72 := H73.sub (List.Sublist.cons_cons _ (List.Sublist.cons _ (List.Sublist.slnil)))
                        have eA : (c - shV c i (f j)) = c := by omega
                        have eB : (shI c i (f j)) = i := by omega
                        have H1650 := H164
                        rw [eA, eB] at H1650
                        have H165 : Hp w [] [.blk p13 [.int .u64 (c : Int), .int .u64 (i : Int)] 26] w72 := H1650
                        refine GL.fit (ts := [3, 4, 5, 28, 29, 30]) (M' := [(3, pt p13 0), (4, .int .u64 (c : Int)), (5, .int .u64 (i : Int)), (28, .slice A n c0), (29, .int .i64 (n : Int)), (30, .int .i64 ((j + 1 : Nat) : Int))]) (by kernel_rfl) ?_
                        refine GL.eq (M' := [(3, pt p13 0), (4, .int .u64 (c : Int)), (5, .int .u64 (i : Int)), (28, .slice A n c0), (29, .int .i64 (n : Int)), (30, .int .i64 (((j + 1) : Nat) : Int))]) (by rfl) ?_
                        exact GL.again ⟨(j + 1), c, i⟩ [3, 4, 5, 28, 29, 30] rfl (by kernel_rfl) (by show n - (j + 1) < n - j; omega) ⟨⟨by omega, by omega, by omega⟩, H165⟩
                      · skip
                        have hb162f : (((shI c i (f j)) : Nat) : Int) ≠ (i : Int) := bne_iff_ne.1 hb162
                        refine G.yes rfl ?_
                        refine G.seqK fun K166 hK167 => ?_
                        refine G.region ?_
                        refine GL.run (j := 1) 1 [2] [(2, .bool false)] (by kernel_rfl) rfl ?_
                        refine GL.k rfl hK167 (fun _ _ h => h) ?_
                        refine G.ret ?_
                        intro F_ hF_ hM_
                        refine hRet _ _ (bodyPost_1 rfl (RV.tmp rfl) ?_ F_ hF_ hM_)
                        exfalso
                        omega
                    · skip
                      have hb161f : (((c - shV c i (f j)) : Nat) : Int) ≠ (c : Int) := bne_iff_ne.1 hb161
                      refine GL.run (j := 14) 7 [3, 4, 5, 28, 29, 30, 163] [(3, pt p13 0), (4, .int .u64 (c : Int)), (5, .int .u64 (i : Int)), (28, .slice A n c0), (29, .int .i64 (n : Int)), (30, .int .i64 (j : Int)), (163, .bool true)] (by kernel_rfl) rfl ?_
                      refine GL.k rfl hK160 (fun _ _ h => h) ?_
                      refine G.yes rfl ?_
                      refine G.seqK fun K168 hK169 => ?_
                      refine G.region ?_
                      refine GL.run (j := 1) 1 [2] [(2, .bool false)] (by kernel_rfl) rfl ?_
                      refine GL.k rfl hK169 (fun _ _ h => h) ?_
                      refine G.ret ?_
                      intro F_ hF_ hM_
                      refine hRet _ _ (bodyPost_1 rfl (RV.tmp rfl) ?_ F_ hF_ hM_)
                      exfalso
                      omega
                  · skip
                    have hb158f : (((shV c i (f j)) : Nat) : Int) ≠ 0 := bne_iff_ne.1 hb158
                    refine G.yes rfl ?_
                    refine G.seqK fun K170 hK171 => ?_
                    refine G.region ?_
                    refine GL.run (j := 1) 1 [2] [(2, .bool false)] (by kernel_rfl) rfl ?_
                    refine GL.k rfl hK171 (fun _ _ h => h) ?_
                    refine G.ret ?_
                    intro F_ hF_ hM_
                    refine hRet _ _ (bodyPost_1 rfl (RV.tmp rfl) ?_ F_ hF_ hM_)
                    exfalso
                    omega
                · skip
                  have hb157f : (((shE c i (f j)) : Nat) : Int) ≠ 1 := bne_iff_ne.1 hb157
                  refine GL.run (j := 6) 3 [3, 4, 5, 28, 29, 30, 138] [(3, pt p13 0), (4, .int .u64 (c : Int)), (5, .int .u64 (i : Int)), (28, .slice A n c0), (29, .int .i64 (n : Int)), (30, .int .i64 (j : Int)), (138, .bool true)] (by kernel_rfl) rfl ?_
                  refine GL.k rfl hK156 (fun _ _ h => h) ?_
                  refine G.yes rfl ?_
                  refine G.seqK fun K172 hK173 => ?_
                  refine G.region ?_
                  refine GL.run (j := 1) 1 [2] [(2, .bool false)] (by kernel_rfl) rfl ?_
                  refine GL.k rfl hK173 (fun _ _ h => h) ?_
                  refine G.ret ?_
                  intro F_ hF_ hM_
                  refine hRet _ _ (bodyPost_1 rfl (RV.tmp rfl) ?_ F_ hF_ hM_)
                  exfalso
                  omega
            · skip
              have hb85f := eq_of_beq hb85
              have hs1 : shE c i (f j) = 1 := by rw [shE, if_pos (by omega)]
              have hs2 := sh_none (c := c) (i := i) (a := f j) (by omega)
              refine GL.run (j := 9) 5 [3, 4, 5, 7, 10, 11, 28, 29, 30, 124] [(3, pt p13 0), (4, .int .u64 (c : Int)), (5, .int .u64 (i : Int)), (7, pt p49 0), (10, .int .i64 (((shE c i (f j)) : Nat) : Int)), (11, .int .u64 (((shV c i (f j)) : Nat) : Int)), (28, .slice A n c0), (29, .int .i64 (n : Int)), (30, .int .i64 (j : Int)), (124, .bool true)] (by kernel_rfl) rfl ?_
              refine GL.k rfl hK84 (fun _ _ h => h) ?_
              refine G.yes rfl ?_
              refine G.seqK fun K174 hK175 => ?_
              refine G.region ?_
              refine GL.run (j := 3) 3 [3, 4, 5, 11, 28, 29, 30, 135] [(3, pt p13 0), (4, .int .u64 (c : Int)), (5, .int .u64 (i : Int)), (11, .int .u64 (((shV c i (f j)) : Nat) : Int)), (28, .slice A n c0), (29, .int .i64 (n : Int)), (30, .int .i64 (j : Int)), (135, .bool ((((shE c i (f j)) : Nat) : Int) != 1))] (by kernel_rfl) rfl ?_
              cases hb176 : ((((shE c i (f j)) : Nat) : Int) != 1)
              · skip
                have hb176f : (((shE c i (f j)) : Nat) : Int) = 1 := bne_eq_false_iff_eq.1 hb176
                refine GL.run (j := 6) 3 [3, 4, 5, 28, 29, 30, 138] [(3, pt p13 0), (4, .int .u64 (c : Int)), (5, .int .u64 (i : Int)), (28, .slice A n c0), (29, .int .i64 (n : Int)), (30, .int .i64 (j : Int)), (138, .bool ((((shV c i (f j)) : Nat) : Int) != 0))] (by kernel_rfl) rfl ?_
                refine GL.k rfl hK175 (fun _ _ h => h) ?_
                cases hb177 : ((((shV c i (f j)) : Nat) : Int) != 0)
                · skip
                  have hb177f : (((shV c i (f j)) : Nat) : Int) = 0 := bne_eq_false_iff_eq.1 hb177
                  refine G.no rfl ?_
                  refine G.skipK hK82 (fun _ _ h => h) ?_
                  refine G.seqK fun K178 hK179 => ?_
                  refine G.region ?_
                  refine GL.run (j := 3) 3 [3, 4, 5, 28, 29, 30, 152] [(3, pt p13 0), (4, .int .u64 (c : Int)), (5, .int .u64 (i : Int)), (28, .slice A n c0), (29, .int .i64 (n : Int)), (30, .int .i64 (j : Int)), (152, pt p13 0)] (by kernel_rfl) rfl ?_
                  refine GL.sem (j := 4) (H73.ld (o := 0) (ty := 23) (v := .int .u64 (((c - shV c i (f j)) : Nat) : Int)) 0 rfl (by kernel_rfl) rfl) [3, 4, 5, 28, 29, 30, 153] [(3, pt p13 0), (4, .int .u64 (c : Int)), (5, .int .u64 (i : Int)), (28, .slice A n c0), (29, .int .i64 (n : Int)), (30, .int .i64 (j : Int)), (153, .int .u64 (((c - shV c i (f j)) : Nat) : Int))] (by kernel_rfl) (by kernel_rfl) rfl ?_
                  refine GL.run (j := 7) 3 [3, 4, 5, 28, 29, 30, 156] [(3, pt p13 0), (4, .int .u64 (c : Int)), (5, .int .u64 (i : Int)), (28, .slice A n c0), (29, .int .i64 (n : Int)), (30, .int .i64 (j : Int)), (156, .bool ((((c - shV c i (f j)) : Nat) : Int) != (c : Int)))] (by kernel_rfl) rfl ?_
                  cases hb180 : ((((c - shV c i (f j)) : Nat) : Int) != (c : Int))
                  · skip
                    have hb180f : (((c - shV c i (f j)) : Nat) : Int) = (c : Int) := bne_eq_false_iff_eq.1 hb180
                    refine GL.run (j := 10) 3 [3, 4, 5, 28, 29, 30, 156, 159] [(3, pt p13 0), (4, .int .u64 (c : Int)), (5, .int .u64 (i : Int)), (28, .slice A n c0), (29, .int .i64 (n : Int)), (30, .int .i64 (j : Int)), (156, .bool false), (159, pt p13 1)] (by kernel_rfl) rfl ?_
                    refine GL.sem (j := 11) (H73.ld (o := 1) (ty := 23) (v := .int .u64 (((shI c i (f j)) : Nat) : Int)) 0 rfl (by kernel_rfl) rfl) [3, 4, 5, 28, 29, 30, 156, 160] [(3, pt p13 0), (4, .int .u64 (c : Int)), (5, .int .u64 (i : Int)), (28, .slice A n c0), (29, .int .i64 (n : Int)), (30, .int .i64 (j : Int)), (156, .bool false), (160, .int .u64 (((shI c i (f j)) : Nat) : Int))] (by kernel_rfl) (by kernel_rfl) rfl ?_
                    refine GL.run (j := 14) 3 [3, 4, 5, 28, 29, 30, 163] [(3, pt p13 0), (4, .int .u64 (c : Int)), (5, .int .u64 (i : Int)), (28, .slice A n c0), (29, .int .i64 (n : Int)), (30, .int .i64 (j : Int)), (163, .bool ((((shI c i (f j)) : Nat) : Int) != (i : Int)))] (by kernel_rfl) rfl ?_
                    refine GL.k rfl hK179 (fun _ _ h => h) ?_
                    cases hb181 : ((((shI c i (f j)) : Nat) : Int) != (i : Int))
                    · skip
                      have hb181f : (((shI c i (f j)) : Nat) : Int) = (i : Int) := bne_eq_false_iff_eq.1 hb181
                      refine G.no rfl ?_
                      refine G.skipK hK46 (fun _ _ h => h) ?_
                      refine G.region ?_
                      refine GL.run (j := 2) 2 [3, 4, 5, 28, 29, 30] [(3, pt p13 0), (4, .int .u64 (c : Int)), (5, .int .u64 (i : Int)), (28, .slice A n c0), (29, .int .i64 (n : Int)), (30, .int .i64 (IntKind.i64.wrap ((j : Int) + 1)))] (by kernel_rfl) rfl ?_
                      have e182 : (IntKind.i64.wrap ((j : Int) + 1)) = ((j + 1 : Nat) : Int) := by rw [in_i64 (by omega)]; omega
                      refine GL.eq (M' := [(3, pt p13 0), (4, .int .u64 (c : Int)), (5, .int .u64 (i : Int)), (28, .slice A n c0), (29, .int .i64 (n : Int)), (30, .int .i64 ((j + 1 : Nat) : Int))]) (by rw [e182]) ?_
                      clear e182
                      have H183 : Hp w [] [.blk p13 [.int .u64 (((c - shV c i (f j)) : Nat) : Int), .int .u64 (((shI c i (f j)) : Nat) : Int)] 26] w72 := H73.sub (List.Sublist.cons_cons _ (List.Sublist.cons _ (List.Sublist.slnil)))
                      have eA : (c - shV c i (f j)) = c := by omega
                      have eB : (shI c i (f j)) = i := by omega
                      have H1840 := H183
                      rw [eA, eB] at H1840
                      have H184 : Hp w [] [.blk p13 [.int .u64 (c : Int), .int .u64 (i : Int)] 26] w72 := H1840
                      refine GL.fit (ts := [3, 4, 5, 28, 29, 30]) (M' := [(3, pt p13 0), (4, .int .u64 (c : Int)), (5, .int .u64 (i : Int)), (28, .slice A n c0), (29, .int .i64 (n : Int)), (30, .int .i64 ((j + 1 : Nat) : Int))]) (by kernel_rfl) ?_
                      refine GL.eq (M' := [(3, pt p13 0), (4, .int .u64 (c : Int)), (5, .int .u64 (i : Int)), (28, .slice A n c0), (29, .int .i64 (n : Int)), (30, .int .i64 (((j + 1) : Nat) : Int))]) (by rfl) ?_
                      exact GL.again ⟨(j + 1), c, i⟩ [3, 4, 5, 28, 29, 30] rfl (by kernel_rfl) (by show n - (j + 1) < n - j; omega) ⟨⟨by omega, by omega, by omega⟩, H184⟩
                    · skip
                      have hb181f : (((shI c i (f j)) : Nat) : Int) ≠ (i : Int) := bne_iff_ne.1 hb181
                      refine G.yes rfl ?_
                      refine G.seqK fun K185 hK186 => ?_
                      refine G.region ?_
                      refine GL.run (j := 1) 1 [2] [(2, .bool false)] (by kernel_rfl) rfl ?_
                      refine GL.k rfl hK186 (fun _ _ h => h) ?_
                      refine G.ret ?_
                      intro F_ hF_ hM_
                      refine hRet _ _ (bodyPost_1 rfl (RV.tmp rfl) ?_ F_ hF_ hM_)
                      exfalso
                      omega
                  · skip
                    have hb180f : (((c - shV c i (f j)) : Nat) : Int) ≠ (c : Int) := bne_iff_ne.1 hb180
                    refine GL.run (j := 14) 7 [3, 4, 5, 28, 29, 30, 163] [(3, pt p13 0), (4, .int .u64 (c : Int)), (5, .int .u64 (i : Int)), (28, .slice A n c0), (29, .int .i64 (n : Int)), (30, .int .i64 (j : Int)), (163, .bool true)] (by kernel_rfl) rfl ?_
                    refine GL.k rfl hK179 (fun _ _ h => h) ?_
                    refine G.yes rfl ?_
                    refine G.seqK fun K187 hK188 => ?_
                    refine G.region ?_
                    refine GL.run (j := 1) 1 [2] [(2, .bool false)] (by kernel_rfl) rfl ?_
                    refine GL.k rfl hK188 (fun _ _ h => h) ?_
                    refine G.ret ?_
                    intro F_ hF_ hM_
                    refine hRet _ _ (bodyPost_1 rfl (RV.tmp rfl) ?_ F_ hF_ hM_)
                    exfalso
                    omega
                · skip
                  have hb177f : (((shV c i (f j)) : Nat) : Int) ≠ 0 := bne_iff_ne.1 hb177
                  refine G.yes rfl ?_
                  refine G.seqK fun K189 hK190 => ?_
                  refine G.region ?_
                  refine GL.run (j := 1) 1 [2] [(2, .bool false)] (by kernel_rfl) rfl ?_
                  refine GL.k rfl hK190 (fun _ _ h => h) ?_
                  refine G.ret ?_
                  intro F_ hF_ hM_
                  refine hRet _ _ (bodyPost_1 rfl (RV.tmp rfl) ?_ F_ hF_ hM_)
                  exfalso
                  omega
              · skip
                have hb176f : (((shE c i (f j)) : Nat) : Int) ≠ 1 := bne_iff_ne.1 hb176
                refine GL.run (j := 6) 3 [3, 4, 5, 28, 29, 30, 138] [(3, pt p13 0), (4, .int .u64 (c : Int)), (5, .int .u64 (i : Int)), (28, .slice A n c0), (29, .int .i64 (n : Int)), (30, .int .i64 (j : Int)), (138, .bool true)] (by kernel_rfl) rfl ?_
                refine GL.k rfl hK175 (fun _ _ h => h) ?_
                refine G.yes rfl ?_
                refine G.seqK fun K191 hK192 => ?_
                refine G.region ?_
                refine GL.run (j := 1) 1 [2] [(2, .bool false)] (by kernel_rfl) rfl ?_
                refine GL.k rfl hK192 (fun _ _ h => h) ?_
                refine G.ret ?_
                intro F_ hF_ hM_
                refine hRet _ _ (bodyPost_1 rfl (RV.tmp rfl) ?_ F_ hF_ hM_)
                exfalso
                omega
          · skip
            have hb80f : (((shV c i (f j)) : Nat) : Int) ≠ (((shV c i (f j)) : Nat) : Int) := bne_iff_ne.1 hb80
            refine G.yes rfl ?_
            refine G.seqK fun K193 hK194 => ?_
            refine G.region ?_
            refine GL.run (j := 1) 1 [2] [(2, .bool false)] (by kernel_rfl) rfl ?_
            refine GL.k rfl hK194 (fun _ _ h => h) ?_
            refine G.ret ?_
            intro F_ hF_ hM_
            refine hRet _ _ (bodyPost_1 rfl (RV.tmp rfl) ?_ F_ hF_ hM_)
            exfalso
            omega
        · skip
          have hb79f : (((shE c i (f j)) : Nat) : Int) ≠ (((shE c i (f j)) : Nat) : Int) := bne_iff_ne.1 hb79
          refine GL.run (j := 8) 4 [3, 4, 5, 7, 10, 11, 28, 29, 30, 98] [(3, pt p13 0), (4, .int .u64 (c : Int)), (5, .int .u64 (i : Int)), (7, pt p49 0), (10, .int .i64 (((shE c i (f j)) : Nat) : Int)), (11, .int .u64 (((shV c i (f j)) : Nat) : Int)), (28, .slice A n c0), (29, .int .i64 (n : Int)), (30, .int .i64 (j : Int)), (98, .bool true)] (by kernel_rfl) rfl ?_
          refine GL.k rfl hK78 (fun _ _ h => h) ?_
          refine G.yes rfl ?_
          refine G.seqK fun K195 hK196 => ?_
          refine G.region ?_
          refine GL.run (j := 1) 1 [2] [(2, .bool false)] (by kernel_rfl) rfl ?_
          refine GL.k rfl hK196 (fun _ _ h => h) ?_
          refine G.ret ?_
          intro F_ hF_ hM_
          refine hRet _ _ (bodyPost_1 rfl (RV.tmp rfl) ?_ F_ hF_ hM_)
          exfalso
          omega
      · skip
        have hb60f := eq_of_beq hb60
        refine G.yes rfl ?_
        refine G.seqK fun K197 hK198 => ?_
        refine G.region ?_
        refine GL.run (j := 1) 1 [3, 4, 5, 7, 8, 28, 29, 30] [(3, pt p13 0), (4, .int .u64 (c : Int)), (5, .int .u64 (i : Int)), (7, pt p49 0), (8, .int .i64 0), (28, .slice A n c0), (29, .int .i64 (n : Int)), (30, .int .i64 (j : Int))] (by kernel_rfl) rfl ?_
        refine GL.k rfl hK198 (fun _ _ h => h) ?_
        refine G.seqK fun K199 hK200 => ?_
        refine G.block ?_
        refine G.seqK fun K201 hK202 => ?_
        refine G.region ?_
        refine GL.run (j := 1) 1 [3, 4, 5, 7, 8, 28, 29, 30, 46] [(3, pt p13 0), (4, .int .u64 (c : Int)), (5, .int .u64 (i : Int)), (7, pt p49 0), (8, .int .i64 0), (28, .slice A n c0), (29, .int .i64 (n : Int)), (30, .int .i64 (j : Int)), (46, pt p49 1)] (by kernel_rfl) rfl ?_
        refine GL.sem (j := 2) (H55.ld (o := 1) (ty := 23) (v := .int .u64 ((f j : Nat) : Int)) 1 rfl (by kernel_rfl) rfl) [3, 4, 5, 7, 8, 28, 29, 30, 47] [(3, pt p13 0), (4, .int .u64 (c : Int)), (5, .int .u64 (i : Int)), (7, pt p49 0), (8, .int .i64 0), (28, .slice A n c0), (29, .int .i64 (n : Int)), (30, .int .i64 (j : Int)), (47, .int .u64 ((f j : Nat) : Int))] (by kernel_rfl) (by kernel_rfl) rfl ?_
        refine GL.run (j := 4) 2 [3, 4, 5, 7, 8, 28, 29, 30, 49] [(3, pt p13 0), (4, .int .u64 (c : Int)), (5, .int .u64 (i : Int)), (7, pt p49 0), (8, .int .i64 0), (28, .slice A n c0), (29, .int .i64 (n : Int)), (30, .int .i64 (j : Int)), (49, .bool (decide (4611686018427387904 < ((f j : Nat) : Int))))] (by kernel_rfl) rfl ?_
        cases hb203 : (decide (4611686018427387904 < ((f j : Nat) : Int)))
        · skip
          have hb203f := of_decide_eq_false hb203
          refine GL.run (j := 5) 1 [3, 4, 5, 7, 8, 28, 29, 30, 49, 50] [(3, pt p13 0), (4, .int .u64 (c : Int)), (5, .int .u64 (i : Int)), (7, pt p49 0), (8, .int .i64 0), (28, .slice A n c0), (29, .int .i64 (n : Int)), (30, .int .i64 (j : Int)), (49, .bool false), (50, pt p49 2)] (by kernel_rfl) rfl ?_
          refine GL.sem (j := 6) (H55.ld (o := 2) (ty := 23) (v := .int .u64 ((g j : Nat) : Int)) 1 rfl (by kernel_rfl) rfl) [3, 4, 5, 7, 8, 28, 29, 30, 49, 51] [(3, pt p13 0), (4, .int .u64 (c : Int)), (5, .int .u64 (i : Int)), (7, pt p49 0), (8, .int .i64 0), (28, .slice A n c0), (29, .int .i64 (n : Int)), (30, .int .i64 (j : Int)), (49, .bool false), (51, .int .u64 ((g j : Nat) : Int))] (by kernel_rfl) (by kernel_rfl) rfl ?_
          refine GL.run (j := 9) 3 [3, 4, 5, 7, 8, 28, 29, 30, 45] [(3, pt p13 0), (4, .int .u64 (c : Int)), (5, .int .u64 (i : Int)), (7, pt p49 0), (8, .int .i64 0), (28, .slice A n c0), (29, .int .i64 (n : Int)), (30, .int .i64 (j : Int)), (45, .bool (decide (4611686018427387904 < ((g j : Nat) : Int))))] (by kernel_rfl) rfl ?_
          refine GL.k rfl hK202 (fun _ _ h => h) ?_
          cases hb204 : (decide (4611686018427387904 < ((g j : Nat) : Int)))
          · skip
            have hb204f := of_decide_eq_false hb204
            refine G.no rfl ?_
            refine G.seqK fun K205 hK206 => ?_
            refine G.region ?_
            refine GL.run (j := 2) 2 [3, 4, 5, 7, 8, 28, 29, 30, 55, 56] [(3, pt p13 0), (4, .int .u64 (c : Int)), (5, .int .u64 (i : Int)), (7, pt p49 0), (8, .int .i64 0), (28, .slice A n c0), (29, .int .i64 (n : Int)), (30, .int .i64 (j : Int)), (55, .int .u64 (c : Int)), (56, pt p49 1)] (by kernel_rfl) rfl ?_
            refine GL.sem (j := 3) (H55.ld (o := 1) (ty := 23) (v := .int .u64 ((f j : Nat) : Int)) 1 rfl (by kernel_rfl) rfl) [3, 4, 5, 7, 8, 28, 29, 30, 55, 57] [(3, pt p13 0), (4, .int .u64 (c : Int)), (5, .int .u64 (i : Int)), (7, pt p49 0), (8, .int .i64 0), (28, .slice A n c0), (29, .int .i64 (n : Int)), (30, .int .i64 (j : Int)), (55, .int .u64 (c : Int)), (57, .int .u64 ((f j : Nat) : Int))] (by kernel_rfl) (by kernel_rfl) rfl ?_
            refine GL.run (j := 6) 3 [3, 4, 5, 7, 8, 28, 29, 30, 60] [(3, pt p13 0), (4, .int .u64 (c : Int)), (5, .int .u64 (i : Int)), (7, pt p49 0), (8, .int .i64 0), (28, .slice A n c0), (29, .int .i64 (n : Int)), (30, .int .i64 (j : Int)), (60, .bool (decide ((IntKind.u64.wrap (4611686018427387904 - ((f j : Nat) : Int))) < (c : Int))))] (by kernel_rfl) rfl ?_
            have e207 : (IntKind.u64.wrap (4611686018427387904 - ((f j : Nat) : Int))) = ((4611686018427387904 - (f j) : Nat) : Int) := n_sub (a := 4611686018427387904) (b := (f j)) (by omega) (by omega)
            refine GL.eq (M' := [(3, pt p13 0), (4, .int .u64 (c : Int)), (5, .int .u64 (i : Int)), (7, pt p49 0), (8, .int .i64 0), (28, .slice A n c0), (29, .int .i64 (n : Int)), (30, .int .i64 (j : Int)), (60, .bool (decide (((4611686018427387904 - (f j) : Nat) : Int) < (c : Int))))]) (by rw [e207]) ?_
            clear e207
            cases hb208 : (decide (((4611686018427387904 - (f j) : Nat) : Int) < (c : Int)))
            · skip
              have hb208f := of_decide_eq_false hb208
              refine GL.run (j := 8) 2 [3, 4, 5, 7, 8, 28, 29, 30, 60, 61, 62] [(3, pt p13 0), (4, .int .u64 (c : Int)), (5, .int .u64 (i : Int)), (7, pt p49 0), (8, .int .i64 0), (28, .slice A n c0), (29, .int .i64 (n : Int)), (30, .int .i64 (j : Int)), (60, .bool false), (61, .int .u64 (i : Int)), (62, pt p49 2)] (by kernel_rfl) rfl ?_
              refine GL.sem (j := 9) (H55.ld (o := 2) (ty := 23) (v := .int .u64 ((g j : Nat) : Int)) 1 rfl (by kernel_rfl) rfl) [3, 4, 5, 7, 8, 28, 29, 30, 60, 61, 63] [(3, pt p13 0), (4, .int .u64 (c : Int)), (5, .int .u64 (i : Int)), (7, pt p49 0), (8, .int .i64 0), (28, .slice A n c0), (29, .int .i64 (n : Int)), (30, .int .i64 (j : Int)), (60, .bool false), (61, .int .u64 (i : Int)), (63, .int .u64 ((g j : Nat) : Int))] (by kernel_rfl) (by kernel_rfl) rfl ?_
              refine GL.run (j := 13) 4 [3, 4, 5, 7, 8, 28, 29, 30, 54] [(3, pt p13 0), (4, .int .u64 (c : Int)), (5, .int .u64 (i : Int)), (7, pt p49 0), (8, .int .i64 0), (28, .slice A n c0), (29, .int .i64 (n : Int)), (30, .int .i64 (j : Int)), (54, .bool (decide ((IntKind.u64.wrap (4611686018427387904 - ((g j : Nat) : Int))) < (i : Int))))] (by kernel_rfl) rfl ?_
              have e209 : (IntKind.u64.wrap (4611686018427387904 - ((g j : Nat) : Int))) = ((4611686018427387904 - (g j) : Nat) : Int) := n_sub (a := 4611686018427387904) (b := (g j)) (by omega) (by omega)
              refine GL.eq (M' := [(3, pt p13 0), (4, .int .u64 (c : Int)), (5, .int .u64 (i : Int)), (7, pt p49 0), (8, .int .i64 0), (28, .slice A n c0), (29, .int .i64 (n : Int)), (30, .int .i64 (j : Int)), (54, .bool (decide (((4611686018427387904 - (g j) : Nat) : Int) < (i : Int))))]) (by rw [e209]) ?_
              clear e209
              refine GL.k rfl hK206 (fun _ _ h => h) ?_
              cases hb210 : (decide (((4611686018427387904 - (g j) : Nat) : Int) < (i : Int)))
              · skip
                have hb210f := of_decide_eq_false hb210
                refine G.no rfl ?_
                refine G.draw H55 (by kernel_rfl) (by kernel_rfl) ?_
                refine GQ.run (j := 2) 2 [3, 5, 7, 8, 28, 29, 30, 37, 38] [(3, pt p13 0), (5, .int .u64 (i : Int)), (7, pt p49 0), (8, .int .i64 0), (28, .slice A n c0), (29, .int .i64 (n : Int)), (30, .int .i64 (j : Int)), (37, .int .u64 (c : Int)), (38, pt p49 1)] (by kernel_rfl) rfl ?_
                refine GQ.sem (j := 3) (fun w_ H_ => H_.ld (o := 1) (ty := 23) (v := .int .u64 ((f j : Nat) : Int)) 1 rfl (by kernel_rfl) rfl) [3, 5, 7, 8, 28, 29, 30, 37, 39] [(3, pt p13 0), (5, .int .u64 (i : Int)), (7, pt p49 0), (8, .int .i64 0), (28, .slice A n c0), (29, .int .i64 (n : Int)), (30, .int .i64 (j : Int)), (37, .int .u64 (c : Int)), (39, .int .u64 ((f j : Nat) : Int))] (by kernel_rfl) (by kernel_rfl) rfl ?_
                refine GQ.run (j := 6) 3 [3, 7, 8, 28, 29, 30, 40, 41, 42] [(3, pt p13 0), (7, pt p49 0), (8, .int .i64 0), (28, .slice A n c0), (29, .int .i64 (n : Int)), (30, .int .i64 (j : Int)), (40, .int .u64 (IntKind.u64.wrap ((c : Int) + ((f j : Nat) : Int)))), (41, .int .u64 (i : Int)), (42, pt p49 2)] (by kernel_rfl) rfl ?_
                have e211 : (IntKind.u64.wrap ((c : Int) + ((f j : Nat) : Int))) = ((c + (f j) : Nat) : Int) := n_add' (a := c) (b := (f j)) (by omega)
                refine GQ.eq (M' := [(3, pt p13 0), (7, pt p49 0), (8, .int .i64 0), (28, .slice A n c0), (29, .int .i64 (n : Int)), (30, .int .i64 (j : Int)), (40, .int .u64 ((c + (f j) : Nat) : Int)), (41, .int .u64 (i : Int)), (42, pt p49 2)]) (by rw [e211]) ?_
                clear e211
                refine GQ.sem (j := 7) (fun w_ H_ => H_.ld (o := 2) (ty := 23) (v := .int .u64 ((g j : Nat) : Int)) 1 rfl (by kernel_rfl) rfl) [3, 7, 8, 28, 29, 30, 40, 41, 43] [(3, pt p13 0), (7, pt p49 0), (8, .int .i64 0), (28, .slice A n c0), (29, .int .i64 (n : Int)), (30, .int .i64 (j : Int)), (40, .int .u64 ((c + (f j) : Nat) : Int)), (41, .int .u64 (i : Int)), (43, .int .u64 ((g j : Nat) : Int))] (by kernel_rfl) (by kernel_rfl) rfl ?_
                refine GQ.run (j := 10) 3 [3, 4, 5, 7, 8, 28, 29, 30] [(3, pt p13 0), (4, .int .u64 ((c + (f j) : Nat) : Int)), (5, .int .u64 (IntKind.u64.wrap ((i : Int) + ((g j : Nat) : Int)))), (7, pt p49 0), (8, .int .i64 0), (28, .slice A n c0), (29, .int .i64 (n : Int)), (30, .int .i64 (j : Int))] (by kernel_rfl) rfl ?_
                have e212 : (IntKind.u64.wrap ((i : Int) + ((g j : Nat) : Int))) = ((i + (g j) : Nat) : Int) := n_add' (a := i) (b := (g j)) (by omega)
                refine GQ.eq (M' := [(3, pt p13 0), (4, .int .u64 ((c + (f j) : Nat) : Int)), (5, .int .u64 ((i + (g j) : Nat) : Int)), (7, pt p49 0), (8, .int .i64 0), (28, .slice A n c0), (29, .int .i64 (n : Int)), (30, .int .i64 (j : Int))]) (by rw [e212]) ?_
                clear e212
                refine GQ.k rfl hK200 (fun _ _ h => h) (fun w213 H214 => ?_)
                refine G.seqK fun K215 hK216 => ?_
                refine G.seqK fun K217 hK218 => ?_
                refine G.region ?_
                refine GL.run (j := 2) 2 [3, 4, 5, 7, 8, 28, 29, 30, 67, 68] [(3, pt p13 0), (4, .int .u64 ((c + (f j) : Nat) : Int)), (5, .int .u64 ((i + (g j) : Nat) : Int)), (7, pt p49 0), (8, .int .i64 0), (28, .slice A n c0), (29, .int .i64 (n : Int)), (30, .int .i64 (j : Int)), (67, pt p13 0), (68, pt p49 1)] (by kernel_rfl) rfl ?_
                refine GL.sem (j := 3) (H214.ld (o := 1) (ty := 23) (v := .int .u64 ((f j : Nat) : Int)) 1 rfl (by kernel_rfl) rfl) [3, 4, 5, 7, 8, 28, 29, 30, 67, 69] [(3, pt p13 0), (4, .int .u64 ((c + (f j) : Nat) : Int)), (5, .int .u64 ((i + (g j) : Nat) : Int)), (7, pt p49 0), (8, .int .i64 0), (28, .slice A n c0), (29, .int .i64 (n : Int)), (30, .int .i64 (j : Int)), (67, pt p13 0), (69, .int .u64 ((f j : Nat) : Int))] (by kernel_rfl) (by kernel_rfl) rfl ?_
                refine GL.run (j := 4) 1 [3, 4, 5, 8, 28, 29, 30, 67, 69, 70] [(3, pt p13 0), (4, .int .u64 ((c + (f j) : Nat) : Int)), (5, .int .u64 ((i + (g j) : Nat) : Int)), (8, .int .i64 0), (28, .slice A n c0), (29, .int .i64 (n : Int)), (30, .int .i64 (j : Int)), (67, pt p13 0), (69, .int .u64 ((f j : Nat) : Int)), (70, pt p49 2)] (by kernel_rfl) rfl ?_
                refine GL.sem (j := 5) (H214.ld (o := 2) (ty := 23) (v := .int .u64 ((g j : Nat) : Int)) 1 rfl (by kernel_rfl) rfl) [3, 4, 5, 8, 28, 29, 30, 67, 69, 71] [(3, pt p13 0), (4, .int .u64 ((c + (f j) : Nat) : Int)), (5, .int .u64 ((i + (g j) : Nat) : Int)), (8, .int .i64 0), (28, .slice A n c0), (29, .int .i64 (n : Int)), (30, .int .i64 (j : Int)), (67, pt p13 0), (69, .int .u64 ((f j : Nat) : Int)), (71, .int .u64 ((g j : Nat) : Int))] (by kernel_rfl) (by kernel_rfl) rfl ?_
                have hTk : tkE c i (f j) (g j) = 0 := by unfold tkE; (repeat' split) <;> omega
                refine GL.call (j := 6) (Take_calls p13 c i (f j) (g j) (by omega) (by omega) (by omega) (by omega) w213 (H214.blkAt 0 rfl)) (by kernel_rfl) rfl (fun e_ w219 hR => ?_)
                obtain ⟨he_, hy_, hn_⟩ := hR
                rw [hTk] at he_
                subst he_
                have H221 := hy_ hTk
                have H220 : Hp w [] [.blk p13 [.int .u64 (((c + (f j)) : Nat) : Int), .int .u64 (((i + (g j)) : Nat) : Int)] 26, .blk p49 [.int .i64 (k j), .int .u64 ((f j : Nat) : Int), .int .u64 ((g j : Nat) : Int)] 34] w219 := H214.callIn 0 rfl H221
                refine ⟨_, rfl, [3, 4, 5, 8, 28, 29, 30, 72], [(3, pt p13 0), (4, .int .u64 ((c + (f j) : Nat) : Int)), (5, .int .u64 ((i + (g j) : Nat) : Int)), (8, .int .i64 0), (28, .slice A n c0), (29, .int .i64 (n : Int)), (30, .int .i64 (j : Int)), (72, .int .i64 0)], by kernel_rfl, ?_⟩
                refine GL.run (j := 8) 2 [3, 4, 5, 28, 29, 30, 74] [(3, pt p13 0), (4, .int .u64 ((c + (f j) : Nat) : Int)), (5, .int .u64 ((i + (g j) : Nat) : Int)), (28, .slice A n c0), (29, .int .i64 (n : Int)), (30, .int .i64 (j : Int)), (74, .bool false)] (by kernel_rfl) rfl ?_
                refine GL.k rfl hK218 (fun _ _ h => h) ?_
                refine G.no rfl ?_
                refine G.skipK hK216 (fun _ _ h => h) ?_
                refine G.exitK hK46 (fun _ _ h => h) ?_
                refine G.region ?_
                refine GL.run (j := 2) 2 [3, 4, 5, 28, 29, 30] [(3, pt p13 0), (4, .int .u64 ((c + (f j) : Nat) : Int)), (5, .int .u64 ((i + (g j) : Nat) : Int)), (28, .slice A n c0), (29, .int .i64 (n : Int)), (30, .int .i64 (IntKind.i64.wrap ((j : Int) + 1)))] (by kernel_rfl) rfl ?_
                have e222 : (IntKind.i64.wrap ((j : Int) + 1)) = ((j + 1 : Nat) : Int) := by rw [in_i64 (by omega)]; omega
                refine GL.eq (M' := [(3, pt p13 0), (4, .int .u64 ((c + (f j) : Nat) : Int)), (5, .int .u64 ((i + (g j) : Nat) : Int)), (28, .slice A n c0), (29, .int .i64 (n : Int)), (30, .int .i64 ((j + 1 : Nat) : Int))]) (by rw [e222]) ?_
                clear e222
                have H223 : Hp w [] [.blk p13 [.int .u64 (((c + (f j)) : Nat) : Int), .int .u64 (((i + (g j)) : Nat) : Int)] 26] w219 := H220.sub (List.Sublist.cons_cons _ (List.Sublist.cons _ (List.Sublist.slnil)))
                have eA : (c + (f j)) = c + (f j) := by omega
                have eB : (i + (g j)) = i + (g j) := by omega
                have H2240 := H223
                rw [eA, eB] at H2240
                have H224 : Hp w [] [.blk p13 [.int .u64 ((c + (f j) : Nat) : Int), .int .u64 ((i + (g j) : Nat) : Int)] 26] w219 := H2240
                refine GL.fit (ts := [3, 4, 5, 28, 29, 30]) (M' := [(3, pt p13 0), (4, .int .u64 ((c + (f j) : Nat) : Int)), (5, .int .u64 ((i + (g j) : Nat) : Int)), (28, .slice A n c0), (29, .int .i64 (n : Int)), (30, .int .i64 ((j + 1 : Nat) : Int))]) (by kernel_rfl) ?_
                refine GL.eq (M' := [(3, pt p13 0), (4, .int .u64 ((c + (f j) : Nat) : Int)), (5, .int .u64 ((i + (g j) : Nat) : Int)), (28, .slice A n c0), (29, .int .i64 (n : Int)), (30, .int .i64 (((j + 1) : Nat) : Int))]) (by rfl) ?_
                exact GL.again ⟨(j + 1), c + (f j), i + (g j)⟩ [3, 4, 5, 28, 29, 30] rfl (by kernel_rfl) (by show n - (j + 1) < n - j; omega) ⟨⟨by omega, by omega, by omega⟩, H224⟩
              · skip
                have hb210f := of_decide_eq_true hb210
                refine G.yes rfl ?_
                refine G.region ?_
                refine GL.run (j := 1) 1 [3, 4, 5, 7, 8, 28, 29, 30] [(3, pt p13 0), (4, .int .u64 (c : Int)), (5, .int .u64 (i : Int)), (7, pt p49 0), (8, .int .i64 4), (28, .slice A n c0), (29, .int .i64 (n : Int)), (30, .int .i64 (j : Int))] (by kernel_rfl) rfl ?_
                refine GL.k rfl hK200 (fun _ _ h => h) ?_
                refine G.seqK fun K225 hK226 => ?_
                refine G.seqK fun K227 hK228 => ?_
                refine G.region ?_
                refine GL.run (j := 2) 2 [3, 4, 5, 7, 8, 28, 29, 30, 67, 68] [(3, pt p13 0), (4, .int .u64 (c : Int)), (5, .int .u64 (i : Int)), (7, pt p49 0), (8, .int .i64 4), (28, .slice A n c0), (29, .int .i64 (n : Int)), (30, .int .i64 (j : Int)), (67, pt p13 0), (68, pt p49 1)] (by kernel_rfl) rfl ?_
                refine GL.sem (j := 3) (H55.ld (o := 1) (ty := 23) (v := .int .u64 ((f j : Nat) : Int)) 1 rfl (by kernel_rfl) rfl) [3, 4, 5, 7, 8, 28, 29, 30, 67, 69] [(3, pt p13 0), (4, .int .u64 (c : Int)), (5, .int .u64 (i : Int)), (7, pt p49 0), (8, .int .i64 4), (28, .slice A n c0), (29, .int .i64 (n : Int)), (30, .int .i64 (j : Int)), (67, pt p13 0), (69, .int .u64 ((f j : Nat) : Int))] (by kernel_rfl) (by kernel_rfl) rfl ?_
                refine GL.run (j := 4) 1 [3, 4, 5, 8, 28, 29, 30, 67, 69, 70] [(3, pt p13 0), (4, .int .u64 (c : Int)), (5, .int .u64 (i : Int)), (8, .int .i64 4), (28, .slice A n c0), (29, .int .i64 (n : Int)), (30, .int .i64 (j : Int)), (67, pt p13 0), (69, .int .u64 ((f j : Nat) : Int)), (70, pt p49 2)] (by kernel_rfl) rfl ?_
                refine GL.sem (j := 5) (H55.ld (o := 2) (ty := 23) (v := .int .u64 ((g j : Nat) : Int)) 1 rfl (by kernel_rfl) rfl) [3, 4, 5, 8, 28, 29, 30, 67, 69, 71] [(3, pt p13 0), (4, .int .u64 (c : Int)), (5, .int .u64 (i : Int)), (8, .int .i64 4), (28, .slice A n c0), (29, .int .i64 (n : Int)), (30, .int .i64 (j : Int)), (67, pt p13 0), (69, .int .u64 ((f j : Nat) : Int)), (71, .int .u64 ((g j : Nat) : Int))] (by kernel_rfl) (by kernel_rfl) rfl ?_
                have hTk : tkE c i (f j) (g j) = 4 := by unfold tkE; (repeat' split) <;> omega
                refine GL.call (j := 6) (Take_calls p13 c i (f j) (g j) (by omega) (by omega) (by omega) (by omega) w53 (H55.blkAt 0 rfl)) (by kernel_rfl) rfl (fun e_ w229 hR => ?_)
                obtain ⟨he_, hy_, hn_⟩ := hR
                rw [hTk] at he_
                subst he_
                have H231 := hn_ (by omega)
                have H230 : Hp w [] [.blk p13 [.int .u64 (c : Int), .int .u64 (i : Int)] 26, .blk p49 [.int .i64 (k j), .int .u64 ((f j : Nat) : Int), .int .u64 ((g j : Nat) : Int)] 34] w229 := H55.callIn 0 rfl H231
                refine ⟨_, rfl, [3, 4, 5, 8, 28, 29, 30, 72], [(3, pt p13 0), (4, .int .u64 (c : Int)), (5, .int .u64 (i : Int)), (8, .int .i64 4), (28, .slice A n c0), (29, .int .i64 (n : Int)), (30, .int .i64 (j : Int)), (72, .int .i64 4)], by kernel_rfl, ?_⟩
                refine GL.run (j := 8) 2 [3, 4, 5, 28, 29, 30, 74] [(3, pt p13 0), (4, .int .u64 (c : Int)), (5, .int .u64 (i : Int)), (28, .slice A n c0), (29, .int .i64 (n : Int)), (30, .int .i64 (j : Int)), (74, .bool false)] (by kernel_rfl) rfl ?_
                refine GL.k rfl hK228 (fun _ _ h => h) ?_
                refine G.no rfl ?_
                refine G.skipK hK226 (fun _ _ h => h) ?_
                refine G.exitK hK46 (fun _ _ h => h) ?_
                refine G.region ?_
                refine GL.run (j := 2) 2 [3, 4, 5, 28, 29, 30] [(3, pt p13 0), (4, .int .u64 (c : Int)), (5, .int .u64 (i : Int)), (28, .slice A n c0), (29, .int .i64 (n : Int)), (30, .int .i64 (IntKind.i64.wrap ((j : Int) + 1)))] (by kernel_rfl) rfl ?_
                have e232 : (IntKind.i64.wrap ((j : Int) + 1)) = ((j + 1 : Nat) : Int) := by rw [in_i64 (by omega)]; omega
                refine GL.eq (M' := [(3, pt p13 0), (4, .int .u64 (c : Int)), (5, .int .u64 (i : Int)), (28, .slice A n c0), (29, .int .i64 (n : Int)), (30, .int .i64 ((j + 1 : Nat) : Int))]) (by rw [e232]) ?_
                clear e232
                have H233 : Hp w [] [.blk p13 [.int .u64 (c : Int), .int .u64 (i : Int)] 26] w229 := H230.sub (List.Sublist.cons_cons _ (List.Sublist.cons _ (List.Sublist.slnil)))
                refine GL.fit (ts := [3, 4, 5, 28, 29, 30]) (M' := [(3, pt p13 0), (4, .int .u64 (c : Int)), (5, .int .u64 (i : Int)), (28, .slice A n c0), (29, .int .i64 (n : Int)), (30, .int .i64 ((j + 1 : Nat) : Int))]) (by kernel_rfl) ?_
                refine GL.eq (M' := [(3, pt p13 0), (4, .int .u64 (c : Int)), (5, .int .u64 (i : Int)), (28, .slice A n c0), (29, .int .i64 (n : Int)), (30, .int .i64 (((j + 1) : Nat) : Int))]) (by rfl) ?_
                exact GL.again ⟨(j + 1), c, i⟩ [3, 4, 5, 28, 29, 30] rfl (by kernel_rfl) (by show n - (j + 1) < n - j; omega) ⟨⟨by omega, by omega, by omega⟩, H233⟩
            · skip
              have hb208f := of_decide_eq_true hb208
              refine GL.run (j := 13) 7 [3, 4, 5, 7, 8, 28, 29, 30, 54] [(3, pt p13 0), (4, .int .u64 (c : Int)), (5, .int .u64 (i : Int)), (7, pt p49 0), (8, .int .i64 0), (28, .slice A n c0), (29, .int .i64 (n : Int)), (30, .int .i64 (j : Int)), (54, .bool true)] (by kernel_rfl) rfl ?_
              refine GL.k rfl hK206 (fun _ _ h => h) ?_
              refine G.yes rfl ?_
              refine G.region ?_
              refine GL.run (j := 1) 1 [3, 4, 5, 7, 8, 28, 29, 30] [(3, pt p13 0), (4, .int .u64 (c : Int)), (5, .int .u64 (i : Int)), (7, pt p49 0), (8, .int .i64 4), (28, .slice A n c0), (29, .int .i64 (n : Int)), (30, .int .i64 (j : Int))] (by kernel_rfl) rfl ?_
              refine GL.k rfl hK200 (fun _ _ h => h) ?_
              refine G.seqK fun K234 hK235 => ?_
              refine G.seqK fun K236 hK237 => ?_
              refine G.region ?_
              refine GL.run (j := 2) 2 [3, 4, 5, 7, 8, 28, 29, 30, 67, 68] [(3, pt p13 0), (4, .int .u64 (c : Int)), (5, .int .u64 (i : Int)), (7, pt p49 0), (8, .int .i64 4), (28, .slice A n c0), (29, .int .i64 (n : Int)), (30, .int .i64 (j : Int)), (67, pt p13 0), (68, pt p49 1)] (by kernel_rfl) rfl ?_
              refine GL.sem (j := 3) (H55.ld (o := 1) (ty := 23) (v := .int .u64 ((f j : Nat) : Int)) 1 rfl (by kernel_rfl) rfl) [3, 4, 5, 7, 8, 28, 29, 30, 67, 69] [(3, pt p13 0), (4, .int .u64 (c : Int)), (5, .int .u64 (i : Int)), (7, pt p49 0), (8, .int .i64 4), (28, .slice A n c0), (29, .int .i64 (n : Int)), (30, .int .i64 (j : Int)), (67, pt p13 0), (69, .int .u64 ((f j : Nat) : Int))] (by kernel_rfl) (by kernel_rfl) rfl ?_
              refine GL.run (j := 4) 1 [3, 4, 5, 8, 28, 29, 30, 67, 69, 70] [(3, pt p13 0), (4, .int .u64 (c : Int)), (5, .int .u64 (i : Int)), (8, .int .i64 4), (28, .slice A n c0), (29, .int .i64 (n : Int)), (30, .int .i64 (j : Int)), (67, pt p13 0), (69, .int .u64 ((f j : Nat) : Int)), (70, pt p49 2)] (by kernel_rfl) rfl ?_
              refine GL.sem (j := 5) (H55.ld (o := 2) (ty := 23) (v := .int .u64 ((g j : Nat) : Int)) 1 rfl (by kernel_rfl) rfl) [3, 4, 5, 8, 28, 29, 30, 67, 69, 71] [(3, pt p13 0), (4, .int .u64 (c : Int)), (5, .int .u64 (i : Int)), (8, .int .i64 4), (28, .slice A n c0), (29, .int .i64 (n : Int)), (30, .int .i64 (j : Int)), (67, pt p13 0), (69, .int .u64 ((f j : Nat) : Int)), (71, .int .u64 ((g j : Nat) : Int))] (by kernel_rfl) (by kernel_rfl) rfl ?_
              have hTk : tkE c i (f j) (g j) = 4 := by unfold tkE; (repeat' split) <;> omega
              refine GL.call (j := 6) (Take_calls p13 c i (f j) (g j) (by omega) (by omega) (by omega) (by omega) w53 (H55.blkAt 0 rfl)) (by kernel_rfl) rfl (fun e_ w238 hR => ?_)
              obtain ⟨he_, hy_, hn_⟩ := hR
              rw [hTk] at he_
              subst he_
              have H240 := hn_ (by omega)
              have H239 : Hp w [] [.blk p13 [.int .u64 (c : Int), .int .u64 (i : Int)] 26, .blk p49 [.int .i64 (k j), .int .u64 ((f j : Nat) : Int), .int .u64 ((g j : Nat) : Int)] 34] w238 := H55.callIn 0 rfl H240
              refine ⟨_, rfl, [3, 4, 5, 8, 28, 29, 30, 72], [(3, pt p13 0), (4, .int .u64 (c : Int)), (5, .int .u64 (i : Int)), (8, .int .i64 4), (28, .slice A n c0), (29, .int .i64 (n : Int)), (30, .int .i64 (j : Int)), (72, .int .i64 4)], by kernel_rfl, ?_⟩
              refine GL.run (j := 8) 2 [3, 4, 5, 28, 29, 30, 74] [(3, pt p13 0), (4, .int .u64 (c : Int)), (5, .int .u64 (i : Int)), (28, .slice A n c0), (29, .int .i64 (n : Int)), (30, .int .i64 (j : Int)), (74, .bool false)] (by kernel_rfl) rfl ?_
              refine GL.k rfl hK237 (fun _ _ h => h) ?_
              refine G.no rfl ?_
              refine G.skipK hK235 (fun _ _ h => h) ?_
              refine G.exitK hK46 (fun _ _ h => h) ?_
              refine G.region ?_
              refine GL.run (j := 2) 2 [3, 4, 5, 28, 29, 30] [(3, pt p13 0), (4, .int .u64 (c : Int)), (5, .int .u64 (i : Int)), (28, .slice A n c0), (29, .int .i64 (n : Int)), (30, .int .i64 (IntKind.i64.wrap ((j : Int) + 1)))] (by kernel_rfl) rfl ?_
              have e241 : (IntKind.i64.wrap ((j : Int) + 1)) = ((j + 1 : Nat) : Int) := by rw [in_i64 (by omega)]; omega
              refine GL.eq (M' := [(3, pt p13 0), (4, .int .u64 (c : Int)), (5, .int .u64 (i : Int)), (28, .slice A n c0), (29, .int .i64 (n : Int)), (30, .int .i64 ((j + 1 : Nat) : Int))]) (by rw [e241]) ?_
              clear e241
              have H242 : Hp w [] [.blk p13 [.int .u64 (c : Int), .int .u64 (i : Int)] 26] w238 := H239.sub (List.Sublist.cons_cons _ (List.Sublist.cons _ (List.Sublist.slnil)))
              refine GL.fit (ts := [3, 4, 5, 28, 29, 30]) (M' := [(3, pt p13 0), (4, .int .u64 (c : Int)), (5, .int .u64 (i : Int)), (28, .slice A n c0), (29, .int .i64 (n : Int)), (30, .int .i64 ((j + 1 : Nat) : Int))]) (by kernel_rfl) ?_
              refine GL.eq (M' := [(3, pt p13 0), (4, .int .u64 (c : Int)), (5, .int .u64 (i : Int)), (28, .slice A n c0), (29, .int .i64 (n : Int)), (30, .int .i64 (((j + 1) : Nat) : Int))]) (by rfl) ?_
              exact GL.again ⟨(j + 1), c, i⟩ [3, 4, 5, 28, 29, 30] rfl (by kernel_rfl) (by show n - (j + 1) < n - j; omega) ⟨⟨by omega, by omega, by omega⟩, H242⟩
          · skip
            have hb204f := of_decide_eq_true hb204
            refine G.yes rfl ?_
            refine G.region ?_
            refine GL.run (j := 1) 1 [3, 4, 5, 7, 8, 28, 29, 30] [(3, pt p13 0), (4, .int .u64 (c : Int)), (5, .int .u64 (i : Int)), (7, pt p49 0), (8, .int .i64 1), (28, .slice A n c0), (29, .int .i64 (n : Int)), (30, .int .i64 (j : Int))] (by kernel_rfl) rfl ?_
            refine GL.k rfl hK200 (fun _ _ h => h) ?_
            refine G.seqK fun K243 hK244 => ?_
            refine G.seqK fun K245 hK246 => ?_
            refine G.region ?_
            refine GL.run (j := 2) 2 [3, 4, 5, 7, 8, 28, 29, 30, 67, 68] [(3, pt p13 0), (4, .int .u64 (c : Int)), (5, .int .u64 (i : Int)), (7, pt p49 0), (8, .int .i64 1), (28, .slice A n c0), (29, .int .i64 (n : Int)), (30, .int .i64 (j : Int)), (67, pt p13 0), (68, pt p49 1)] (by kernel_rfl) rfl ?_
            refine GL.sem (j := 3) (H55.ld (o := 1) (ty := 23) (v := .int .u64 ((f j : Nat) : Int)) 1 rfl (by kernel_rfl) rfl) [3, 4, 5, 7, 8, 28, 29, 30, 67, 69] [(3, pt p13 0), (4, .int .u64 (c : Int)), (5, .int .u64 (i : Int)), (7, pt p49 0), (8, .int .i64 1), (28, .slice A n c0), (29, .int .i64 (n : Int)), (30, .int .i64 (j : Int)), (67, pt p13 0), (69, .int .u64 ((f j : Nat) : Int))] (by kernel_rfl) (by kernel_rfl) rfl ?_
            refine GL.run (j := 4) 1 [3, 4, 5, 8, 28, 29, 30, 67, 69, 70] [(3, pt p13 0), (4, .int .u64 (c : Int)), (5, .int .u64 (i : Int)), (8, .int .i64 1), (28, .slice A n c0), (29, .int .i64 (n : Int)), (30, .int .i64 (j : Int)), (67, pt p13 0), (69, .int .u64 ((f j : Nat) : Int)), (70, pt p49 2)] (by kernel_rfl) rfl ?_
            refine GL.sem (j := 5) (H55.ld (o := 2) (ty := 23) (v := .int .u64 ((g j : Nat) : Int)) 1 rfl (by kernel_rfl) rfl) [3, 4, 5, 8, 28, 29, 30, 67, 69, 71] [(3, pt p13 0), (4, .int .u64 (c : Int)), (5, .int .u64 (i : Int)), (8, .int .i64 1), (28, .slice A n c0), (29, .int .i64 (n : Int)), (30, .int .i64 (j : Int)), (67, pt p13 0), (69, .int .u64 ((f j : Nat) : Int)), (71, .int .u64 ((g j : Nat) : Int))] (by kernel_rfl) (by kernel_rfl) rfl ?_
            have hTk : tkE c i (f j) (g j) = 1 := by unfold tkE; (repeat' split) <;> omega
            refine GL.call (j := 6) (Take_calls p13 c i (f j) (g j) (by omega) (by omega) (by omega) (by omega) w53 (H55.blkAt 0 rfl)) (by kernel_rfl) rfl (fun e_ w247 hR => ?_)
            obtain ⟨he_, hy_, hn_⟩ := hR
            rw [hTk] at he_
            subst he_
            have H249 := hn_ (by omega)
            have H248 : Hp w [] [.blk p13 [.int .u64 (c : Int), .int .u64 (i : Int)] 26, .blk p49 [.int .i64 (k j), .int .u64 ((f j : Nat) : Int), .int .u64 ((g j : Nat) : Int)] 34] w247 := H55.callIn 0 rfl H249
            refine ⟨_, rfl, [3, 4, 5, 8, 28, 29, 30, 72], [(3, pt p13 0), (4, .int .u64 (c : Int)), (5, .int .u64 (i : Int)), (8, .int .i64 1), (28, .slice A n c0), (29, .int .i64 (n : Int)), (30, .int .i64 (j : Int)), (72, .int .i64 1)], by kernel_rfl, ?_⟩
            refine GL.run (j := 8) 2 [3, 4, 5, 28, 29, 30, 74] [(3, pt p13 0), (4, .int .u64 (c : Int)), (5, .int .u64 (i : Int)), (28, .slice A n c0), (29, .int .i64 (n : Int)), (30, .int .i64 (j : Int)), (74, .bool false)] (by kernel_rfl) rfl ?_
            refine GL.k rfl hK246 (fun _ _ h => h) ?_
            refine G.no rfl ?_
            refine G.skipK hK244 (fun _ _ h => h) ?_
            refine G.exitK hK46 (fun _ _ h => h) ?_
            refine G.region ?_
            refine GL.run (j := 2) 2 [3, 4, 5, 28, 29, 30] [(3, pt p13 0), (4, .int .u64 (c : Int)), (5, .int .u64 (i : Int)), (28, .slice A n c0), (29, .int .i64 (n : Int)), (30, .int .i64 (IntKind.i64.wrap ((j : Int) + 1)))] (by kernel_rfl) rfl ?_
            have e250 : (IntKind.i64.wrap ((j : Int) + 1)) = ((j + 1 : Nat) : Int) := by rw [in_i64 (by omega)]; omega
            refine GL.eq (M' := [(3, pt p13 0), (4, .int .u64 (c : Int)), (5, .int .u64 (i : Int)), (28, .slice A n c0), (29, .int .i64 (n : Int)), (30, .int .i64 ((j + 1 : Nat) : Int))]) (by rw [e250]) ?_
            clear e250
            have H251 : Hp w [] [.blk p13 [.int .u64 (c : Int), .int .u64 (i : Int)] 26] w247 := H248.sub (List.Sublist.cons_cons _ (List.Sublist.cons _ (List.Sublist.slnil)))
            refine GL.fit (ts := [3, 4, 5, 28, 29, 30]) (M' := [(3, pt p13 0), (4, .int .u64 (c : Int)), (5, .int .u64 (i : Int)), (28, .slice A n c0), (29, .int .i64 (n : Int)), (30, .int .i64 ((j + 1 : Nat) : Int))]) (by kernel_rfl) ?_
            refine GL.eq (M' := [(3, pt p13 0), (4, .int .u64 (c : Int)), (5, .int .u64 (i : Int)), (28, .slice A n c0), (29, .int .i64 (n : Int)), (30, .int .i64 (((j + 1) : Nat) : Int))]) (by rfl) ?_
            exact GL.again ⟨(j + 1), c, i⟩ [3, 4, 5, 28, 29, 30] rfl (by kernel_rfl) (by show n - (j + 1) < n - j; omega) ⟨⟨by omega, by omega, by omega⟩, H251⟩
        · skip
          have hb203f := of_decide_eq_true hb203
          have hs1 : shE c i (f j) = 1 := by rw [shE, if_pos (by omega)]
          have hs2 := sh_none (c := c) (i := i) (a := f j) (by omega)
          refine GL.run (j := 9) 5 [3, 4, 5, 7, 8, 28, 29, 30, 45] [(3, pt p13 0), (4, .int .u64 (c : Int)), (5, .int .u64 (i : Int)), (7, pt p49 0), (8, .int .i64 0), (28, .slice A n c0), (29, .int .i64 (n : Int)), (30, .int .i64 (j : Int)), (45, .bool true)] (by kernel_rfl) rfl ?_
          refine GL.k rfl hK202 (fun _ _ h => h) ?_
          refine G.yes rfl ?_
          refine G.region ?_
          refine GL.run (j := 1) 1 [3, 4, 5, 7, 8, 28, 29, 30] [(3, pt p13 0), (4, .int .u64 (c : Int)), (5, .int .u64 (i : Int)), (7, pt p49 0), (8, .int .i64 1), (28, .slice A n c0), (29, .int .i64 (n : Int)), (30, .int .i64 (j : Int))] (by kernel_rfl) rfl ?_
          refine GL.k rfl hK200 (fun _ _ h => h) ?_
          refine G.seqK fun K252 hK253 => ?_
          refine G.seqK fun K254 hK255 => ?_
          refine G.region ?_
          refine GL.run (j := 2) 2 [3, 4, 5, 7, 8, 28, 29, 30, 67, 68] [(3, pt p13 0), (4, .int .u64 (c : Int)), (5, .int .u64 (i : Int)), (7, pt p49 0), (8, .int .i64 1), (28, .slice A n c0), (29, .int .i64 (n : Int)), (30, .int .i64 (j : Int)), (67, pt p13 0), (68, pt p49 1)] (by kernel_rfl) rfl ?_
          refine GL.sem (j := 3) (H55.ld (o := 1) (ty := 23) (v := .int .u64 ((f j : Nat) : Int)) 1 rfl (by kernel_rfl) rfl) [3, 4, 5, 7, 8, 28, 29, 30, 67, 69] [(3, pt p13 0), (4, .int .u64 (c : Int)), (5, .int .u64 (i : Int)), (7, pt p49 0), (8, .int .i64 1), (28, .slice A n c0), (29, .int .i64 (n : Int)), (30, .int .i64 (j : Int)), (67, pt p13 0), (69, .int .u64 ((f j : Nat) : Int))] (by kernel_rfl) (by kernel_rfl) rfl ?_
          refine GL.run (j := 4) 1 [3, 4, 5, 8, 28, 29, 30, 67, 69, 70] [(3, pt p13 0), (4, .int .u64 (c : Int)), (5, .int .u64 (i : Int)), (8, .int .i64 1), (28, .slice A n c0), (29, .int .i64 (n : Int)), (30, .int .i64 (j : Int)), (67, pt p13 0), (69, .int .u64 ((f j : Nat) : Int)), (70, pt p49 2)] (by kernel_rfl) rfl ?_
          refine GL.sem (j := 5) (H55.ld (o := 2) (ty := 23) (v := .int .u64 ((g j : Nat) : Int)) 1 rfl (by kernel_rfl) rfl) [3, 4, 5, 8, 28, 29, 30, 67, 69, 71] [(3, pt p13 0), (4, .int .u64 (c : Int)), (5, .int .u64 (i : Int)), (8, .int .i64 1), (28, .slice A n c0), (29, .int .i64 (n : Int)), (30, .int .i64 (j : Int)), (67, pt p13 0), (69, .int .u64 ((f j : Nat) : Int)), (71, .int .u64 ((g j : Nat) : Int))] (by kernel_rfl) (by kernel_rfl) rfl ?_
          have hTk : tkE c i (f j) (g j) = 1 := by unfold tkE; (repeat' split) <;> omega
          refine GL.call (j := 6) (Take_calls p13 c i (f j) (g j) (by omega) (by omega) (by omega) (by omega) w53 (H55.blkAt 0 rfl)) (by kernel_rfl) rfl (fun e_ w256 hR => ?_)
          obtain ⟨he_, hy_, hn_⟩ := hR
          rw [hTk] at he_
          subst he_
          have H258 := hn_ (by omega)
          have H257 : Hp w [] [.blk p13 [.int .u64 (c : Int), .int .u64 (i : Int)] 26, .blk p49 [.int .i64 (k j), .int .u64 ((f j : Nat) : Int), .int .u64 ((g j : Nat) : Int)] 34] w256 := H55.callIn 0 rfl H258
          refine ⟨_, rfl, [3, 4, 5, 8, 28, 29, 30, 72], [(3, pt p13 0), (4, .int .u64 (c : Int)), (5, .int .u64 (i : Int)), (8, .int .i64 1), (28, .slice A n c0), (29, .int .i64 (n : Int)), (30, .int .i64 (j : Int)), (72, .int .i64 1)], by kernel_rfl, ?_⟩
          refine GL.run (j := 8) 2 [3, 4, 5, 28, 29, 30, 74] [(3, pt p13 0), (4, .int .u64 (c : Int)), (5, .int .u64 (i : Int)), (28, .slice A n c0), (29, .int .i64 (n : Int)), (30, .int .i64 (j : Int)), (74, .bool false)] (by kernel_rfl) rfl ?_
          refine GL.k rfl hK255 (fun _ _ h => h) ?_
          refine G.no rfl ?_
          refine G.skipK hK253 (fun _ _ h => h) ?_
          refine G.exitK hK46 (fun _ _ h => h) ?_
          refine G.region ?_
          refine GL.run (j := 2) 2 [3, 4, 5, 28, 29, 30] [(3, pt p13 0), (4, .int .u64 (c : Int)), (5, .int .u64 (i : Int)), (28, .slice A n c0), (29, .int .i64 (n : Int)), (30, .int .i64 (IntKind.i64.wrap ((j : Int) + 1)))] (by kernel_rfl) rfl ?_
          have e259 : (IntKind.i64.wrap ((j : Int) + 1)) = ((j + 1 : Nat) : Int) := by rw [in_i64 (by omega)]; omega
          refine GL.eq (M' := [(3, pt p13 0), (4, .int .u64 (c : Int)), (5, .int .u64 (i : Int)), (28, .slice A n c0), (29, .int .i64 (n : Int)), (30, .int .i64 ((j + 1 : Nat) : Int))]) (by rw [e259]) ?_
          clear e259
          have H260 : Hp w [] [.blk p13 [.int .u64 (c : Int), .int .u64 (i : Int)] 26] w256 := H257.sub (List.Sublist.cons_cons _ (List.Sublist.cons _ (List.Sublist.slnil)))
          refine GL.fit (ts := [3, 4, 5, 28, 29, 30]) (M' := [(3, pt p13 0), (4, .int .u64 (c : Int)), (5, .int .u64 (i : Int)), (28, .slice A n c0), (29, .int .i64 (n : Int)), (30, .int .i64 ((j + 1 : Nat) : Int))]) (by kernel_rfl) ?_
          refine GL.eq (M' := [(3, pt p13 0), (4, .int .u64 (c : Int)), (5, .int .u64 (i : Int)), (28, .slice A n c0), (29, .int .i64 (n : Int)), (30, .int .i64 (((j + 1) : Nat) : Int))]) (by rfl) ?_
          exact GL.again ⟨(j + 1), c, i⟩ [3, 4, 5, 28, 29, 30] rfl (by kernel_rfl) (by show n - (j + 1) < n - j; omega) ⟨⟨by omega, by omega, by omega⟩, H260⟩
  · skip
    have hb10f := of_decide_eq_true hb10
    refine G.yes rfl ?_
    refine G.seqK fun K261 hK262 => ?_
    refine G.region ?_
    refine GL.call (j := 1) (lives_calls w7) (by kernel_rfl) rfl (fun e_ w263 hR => ?_)
    obtain ⟨rfl, H265⟩ := hR
    have H264 : Hp w [] [] w263 := H8.callNil H265
    refine ⟨_, rfl, [25], [(25, .bool true)], by kernel_rfl, ?_⟩
    refine GL.run (j := 2) 1 [2] [(2, .bool true)] (by kernel_rfl) rfl ?_
    refine GL.k rfl hK262 (fun _ _ h => h) ?_
    refine G.ret ?_
    intro F_ hF_ hM_
    refine hRet _ _ (bodyPost_1 rfl (RV.tmp rfl) ?_ F_ hF_ hM_)
    exact ⟨rfl, H264.sub (List.nil_sublist _)⟩
end Go.Proofs.Ytjfmibmmebdliaa
