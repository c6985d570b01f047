/- Whether collateral is enough, and its band: the walk. -/
import Derived.Test.YtfhjoojifjmnlaaTold
import Derived.Test.YtfhjoojifjmnlaaRateB
namespace Go.Proofs.Ytfhjoojifjmnlaa
open Go.RowKit
theorem RateBands_calls (a b p t s m l : Nat) (ha : a < K) (hb : b < K) (hp : p < K) (ht : t < K) (hs : s < K) (hm : m < K) (hl : l < K) (w : World) : Calls Try.prog 5 #[.int .u64 (a : Int), .int .u64 (b : Int), .int .u64 (p : Int), .int .u64 (t : Int), .agg #[.int .u64 (s : Int), .int .u64 (m : Int), .int .u64 (l : Int)]] w fun e w' => e = .returned (.bool true) ∧ Hp w [] [] w' := by
  have hMX : MX = 4611686018427387904 := rfl
  have hK0 : K = 18446744073709551616 := rfl
  have hK40 : K4 = 115792089237316195423570985008687907853269984665640564039457584007913129639936 := rfl
  refine calls_G (args := [.int .u64 (a : Int), .int .u64 (b : Int), .int .u64 (p : Int), .int .u64 (t : Int), .agg #[.int .u64 (s : Int), .int .u64 (m : Int), .int .u64 (l : Int)]]) Try.func5 rfl Try.ntmps5 rfl ?_
  intro Q0 hRet hNor hPan
  have H := Hp.start w
  have H : Hp w [] [] w := H
  refine G.seqK fun K1 hK2 => ?_
  refine G.region ?_
  obtain ⟨p3, w4, r5, H6⟩ := H.box (P := Try.prog) 42 [.int .u64 (s : Int), .int .u64 (m : Int), .int .u64 (l : Int)] (.agg #[.int .u64 (s : Int), .int .u64 (m : Int), .int .u64 (l : Int)]) rfl
  have H6 : Hp w [] [.blk p3 [.int .u64 (s : Int), .int .u64 (m : Int), .int .u64 (l : Int)] 42] w4 := H6
  refine GL.sem (j := 1) (r5) [0, 1, 2, 3, 9] [(0, .int .u64 (a : Int)), (1, .int .u64 (b : Int)), (2, .int .u64 (p : Int)), (3, .int .u64 (t : Int)), (9, .pointer (some ⟨p3, 0, none⟩))] (by kernel_rfl) (by kernel_rfl) rfl ?_
  refine GL.run (j := 2) 1 [0, 1, 2, 3, 9] [(0, .int .u64 (a : Int)), (1, .int .u64 (b : Int)), (2, .int .u64 (p : Int)), (3, .int .u64 (t : Int)), (9, .pointer (some ⟨p3, 0, none⟩))] (by kernel_rfl) rfl ?_
  refine GL.k rfl hK2 (fun _ _ h => h) ?_
  refine G.seqK fun K7 hK8 => ?_
  refine G.seqK fun K9 hK10 => ?_
  refine G.region ?_
  refine GL.call (j := 1) (lives_calls w4) (by kernel_rfl) rfl (fun e_ w11 hR => ?_)
  obtain ⟨rfl, H13⟩ := hR
  have H12 : Hp w [] [.blk p3 [.int .u64 (s : Int), .int .u64 (m : Int), .int .u64 (l : Int)] 42] w11 := H6.callNil H13
  refine ⟨_, rfl, [0, 1, 2, 3, 9, 17], [(0, .int .u64 (a : Int)), (1, .int .u64 (b : Int)), (2, .int .u64 (p : Int)), (3, .int .u64 (t : Int)), (9, .pointer (some ⟨p3, 0, none⟩)), (17, .bool true)], by kernel_rfl, ?_⟩
  refine GL.run (j := 2) 1 [0, 1, 2, 3, 9, 18] [(0, .int .u64 (a : Int)), (1, .int .u64 (b : Int)), (2, .int .u64 (p : Int)), (3, .int .u64 (t : Int)), (9, .pointer (some ⟨p3, 0, none⟩)), (18, .bool false)] (by kernel_rfl) rfl ?_
  refine GL.k rfl hK10 (fun _ _ h => h) ?_
  refine G.no rfl ?_
  refine G.skipK hK8 (fun _ _ h => h) ?_
  refine G.seqK fun K14 hK15 => ?_
  refine G.seqK fun K16 hK17 => ?_
  refine G.region ?_
  refine GL.run (j := 4) 4 [0, 1, 2, 3, 9, 19, 20, 21, 22] [(0, .int .u64 (a : Int)), (1, .int .u64 (b : Int)), (2, .int .u64 (p : Int)), (3, .int .u64 (t : Int)), (9, .pointer (some ⟨p3, 0, none⟩)), (19, .int .u64 (a : Int)), (20, .int .u64 (b : Int)), (21, .int .u64 (p : Int)), (22, .int .u64 (t : Int))] (by kernel_rfl) rfl ?_
  refine GL.call (j := 5) (Enough_calls a b p t ha hb hp ht w11) (by kernel_rfl) rfl (fun e_ w18 hR => ?_)
  obtain ⟨rfl, H20⟩ := hR
  have H19 : Hp w [] [.blk p3 [.int .u64 (s : Int), .int .u64 (m : Int), .int .u64 (l : Int)] 42] w18 := H12.callNil H20
  refine ⟨_, rfl, [0, 1, 2, 3, 9, 23], [(0, .int .u64 (a : Int)), (1, .int .u64 (b : Int)), (2, .int .u64 (p : Int)), (3, .int .u64 (t : Int)), (9, .pointer (some ⟨p3, 0, none⟩)), (23, .bool (enough a b p t))], by kernel_rfl, ?_⟩
  refine GL.run (j := 9) 4 [0, 1, 2, 9, 23, 24, 25, 26, 27] [(0, .int .u64 (a : Int)), (1, .int .u64 (b : Int)), (2, .int .u64 (p : Int)), (9, .pointer (some ⟨p3, 0, none⟩)), (23, .bool (enough a b p t)), (24, .int .u64 (a : Int)), (25, .int .u64 (b : Int)), (26, .int .u64 (p : Int)), (27, .int .u64 (t : Int))] (by kernel_rfl) rfl ?_
  refine GL.call (j := 10) (Enough5_calls a b p t ha hb hp ht w18) (by kernel_rfl) rfl (fun e_ w21 hR => ?_)
  obtain ⟨rfl, H23⟩ := hR
  have H22 : Hp w [] [.blk p3 [.int .u64 (s : Int), .int .u64 (m : Int), .int .u64 (l : Int)] 42] w21 := H19.callNil H23
  refine ⟨_, rfl, [0, 1, 2, 9, 23, 28], [(0, .int .u64 (a : Int)), (1, .int .u64 (b : Int)), (2, .int .u64 (p : Int)), (9, .pointer (some ⟨p3, 0, none⟩)), (23, .bool (enough a b p t)), (28, .bool (enough a b p t))], by kernel_rfl, ?_⟩
  refine GL.run (j := 11) 1 [0, 1, 2, 9, 29] [(0, .int .u64 (a : Int)), (1, .int .u64 (b : Int)), (2, .int .u64 (p : Int)), (9, .pointer (some ⟨p3, 0, none⟩)), (29, .bool (!((enough a b p t) == (enough a b p t))))] (by kernel_rfl) rfl ?_
  refine GL.k rfl hK17 (fun _ _ h => h) ?_
  have hb24 : (!((enough a b p t) == (enough a b p t))) = false := by rw [show ((enough a b p t) == (enough a b p t)) = true from beq_self_eq_true _]; rfl
  rw [hb24]
  refine G.no rfl ?_
  refine G.skipK hK15 (fun _ _ h => h) ?_
  refine G.seqK fun K25 hK26 => ?_
  refine G.region ?_
  refine GL.sem (j := 1) (H22.ldA (o := 0) (ty := 42) (m := 3) (sub := [.int .u64 (s : Int), .int .u64 (m : Int), .int .u64 (l : Int)]) 0 rfl (by kernel_rfl) rfl rfl) [0, 1, 2, 9, 31] [(0, .int .u64 (a : Int)), (1, .int .u64 (b : Int)), (2, .int .u64 (p : Int)), (9, .pointer (some ⟨p3, 0, none⟩)), (31, .agg #[.int .u64 (s : Int), .int .u64 (m : Int), .int .u64 (l : Int)])] (by kernel_rfl) (by kernel_rfl) rfl ?_
  refine GL.run (j := 4) 3 [0, 1, 2, 9, 31, 32, 33, 34] [(0, .int .u64 (a : Int)), (1, .int .u64 (b : Int)), (2, .int .u64 (p : Int)), (9, .pointer (some ⟨p3, 0, none⟩)), (31, .agg #[.int .u64 (s : Int), .int .u64 (m : Int), .int .u64 (l : Int)]), (32, .int .u64 (a : Int)), (33, .int .u64 (b : Int)), (34, .int .u64 (p : Int))] (by kernel_rfl) rfl ?_
  refine GL.call (j := 5) (BOf_calls s m l a b p hs hm hl ha hb hp w21) (by kernel_rfl) rfl (fun e_ w27 hR => ?_)
  obtain ⟨rfl, H29⟩ := hR
  have H28 : Hp w [] [.blk p3 [.int .u64 (s : Int), .int .u64 (m : Int), .int .u64 (l : Int)] 42] w27 := H22.callNil H29
  refine ⟨_, rfl, [0, 1, 2, 9, 35], [(0, .int .u64 (a : Int)), (1, .int .u64 (b : Int)), (2, .int .u64 (p : Int)), (9, .pointer (some ⟨p3, 0, none⟩)), (35, .tuple #[.int .i64 (((bandV s m l a b p) : Nat) : Int), .int .i64 (((bandE s m l a b p) : Nat) : Int)])], by kernel_rfl, ?_⟩
  refine GL.run (j := 10) 5 [0, 1, 2, 9, 11, 12] [(0, .int .u64 (a : Int)), (1, .int .u64 (b : Int)), (2, .int .u64 (p : Int)), (9, .pointer (some ⟨p3, 0, none⟩)), (11, .int .i64 (((bandV s m l a b p) : Nat) : Int)), (12, .int .i64 (((bandE s m l a b p) : Nat) : Int))] (by kernel_rfl) rfl ?_
  refine GL.k rfl hK26 (fun _ _ h => h) ?_
  refine G.seqK fun K30 hK31 => ?_
  refine G.region ?_
  refine GL.run (j := 1) 1 [0, 1, 2, 9, 11, 12, 38] [(0, .int .u64 (a : Int)), (1, .int .u64 (b : Int)), (2, .int .u64 (p : Int)), (9, .pointer (some ⟨p3, 0, none⟩)), (11, .int .i64 (((bandV s m l a b p) : Nat) : Int)), (12, .int .i64 (((bandE s m l a b p) : Nat) : Int)), (38, .pointer (some ⟨p3, 0, none⟩))] (by kernel_rfl) rfl ?_
  refine GL.sem (j := 2) (H28.ld (o := 0) (ty := 22) (v := .int .u64 (s : Int)) 0 rfl (by kernel_rfl) rfl) [0, 1, 2, 9, 11, 12, 39] [(0, .int .u64 (a : Int)), (1, .int .u64 (b : Int)), (2, .int .u64 (p : Int)), (9, .pointer (some ⟨p3, 0, none⟩)), (11, .int .i64 (((bandV s m l a b p) : Nat) : Int)), (12, .int .i64 (((bandE s m l a b p) : Nat) : Int)), (39, .int .u64 (s : Int))] (by kernel_rfl) (by kernel_rfl) rfl ?_
  refine GL.run (j := 3) 1 [0, 1, 2, 9, 11, 12, 39, 40] [(0, .int .u64 (a : Int)), (1, .int .u64 (b : Int)), (2, .int .u64 (p : Int)), (9, .pointer (some ⟨p3, 0, none⟩)), (11, .int .i64 (((bandV s m l a b p) : Nat) : Int)), (12, .int .i64 (((bandE s m l a b p) : Nat) : Int)), (39, .int .u64 (s : Int)), (40, .pointer (some ⟨p3, 1, none⟩))] (by kernel_rfl) rfl ?_
  refine GL.sem (j := 4) (H28.ld (o := 1) (ty := 22) (v := .int .u64 (m : Int)) 0 rfl (by kernel_rfl) rfl) [0, 1, 2, 9, 11, 12, 39, 41] [(0, .int .u64 (a : Int)), (1, .int .u64 (b : Int)), (2, .int .u64 (p : Int)), (9, .pointer (some ⟨p3, 0, none⟩)), (11, .int .i64 (((bandV s m l a b p) : Nat) : Int)), (12, .int .i64 (((bandE s m l a b p) : Nat) : Int)), (39, .int .u64 (s : Int)), (41, .int .u64 (m : Int))] (by kernel_rfl) (by kernel_rfl) rfl ?_
  refine GL.run (j := 6) 2 [0, 1, 2, 9, 11, 12, 43] [(0, .int .u64 (a : Int)), (1, .int .u64 (b : Int)), (2, .int .u64 (p : Int)), (9, .pointer (some ⟨p3, 0, none⟩)), (11, .int .i64 (((bandV s m l a b p) : Nat) : Int)), (12, .int .i64 (((bandE s m l a b p) : Nat) : Int)), (43, .bool (decide ((m : Int) ≤ (s : Int))))] (by kernel_rfl) rfl ?_
  cases hb32 : (decide ((m : Int) ≤ (s : Int)))
  · skip
    have hb32f := of_decide_eq_false hb32
    refine GL.run (j := 23) 17 [0, 1, 2, 9, 11, 12, 13] [(0, .int .u64 (a : Int)), (1, .int .u64 (b : Int)), (2, .int .u64 (p : Int)), (9, .pointer (some ⟨p3, 0, none⟩)), (11, .int .i64 (((bandV s m l a b p) : Nat) : Int)), (12, .int .i64 (((bandE s m l a b p) : Nat) : Int)), (13, .bool false)] (by kernel_rfl) rfl ?_
    refine GL.k rfl hK31 (fun _ _ h => h) ?_
    refine G.seqK fun K33 hK34 => ?_
    refine G.seqK fun K35 hK36 => ?_
    refine G.region ?_
    refine GL.sem (j := 1) (H28.ldA (o := 0) (ty := 42) (m := 3) (sub := [.int .u64 (s : Int), .int .u64 (m : Int), .int .u64 (l : Int)]) 0 rfl (by kernel_rfl) rfl rfl) [0, 1, 2, 9, 11, 12, 13, 60] [(0, .int .u64 (a : Int)), (1, .int .u64 (b : Int)), (2, .int .u64 (p : Int)), (9, .pointer (some ⟨p3, 0, none⟩)), (11, .int .i64 (((bandV s m l a b p) : Nat) : Int)), (12, .int .i64 (((bandE s m l a b p) : Nat) : Int)), (13, .bool false), (60, .agg #[.int .u64 (s : Int), .int .u64 (m : Int), .int .u64 (l : Int)])] (by kernel_rfl) (by kernel_rfl) rfl ?_
    refine GL.call (j := 2) (BRight_calls s m l w27) (by kernel_rfl) rfl (fun e_ w37 hR => ?_)
    obtain ⟨rfl, H39⟩ := hR
    have H38 : Hp w [] [.blk p3 [.int .u64 (s : Int), .int .u64 (m : Int), .int .u64 (l : Int)] 42] w37 := H28.callNil H39
    refine ⟨_, rfl, [0, 1, 2, 9, 11, 12, 13, 61], [(0, .int .u64 (a : Int)), (1, .int .u64 (b : Int)), (2, .int .u64 (p : Int)), (9, .pointer (some ⟨p3, 0, none⟩)), (11, .int .i64 (((bandV s m l a b p) : Nat) : Int)), (12, .int .i64 (((bandE s m l a b p) : Nat) : Int)), (13, .bool false), (61, .bool (decide ((1 ≤ s ∧ s ≤ 1000000) ∧ (1 ≤ l ∧ l ≤ 1000000) ∧ m ≤ s ∧ l ≤ m)))], by kernel_rfl, ?_⟩
    refine GL.run (j := 4) 2 [0, 1, 2, 9, 11, 12, 13, 63] [(0, .int .u64 (a : Int)), (1, .int .u64 (b : Int)), (2, .int .u64 (p : Int)), (9, .pointer (some ⟨p3, 0, none⟩)), (11, .int .i64 (((bandV s m l a b p) : Nat) : Int)), (12, .int .i64 (((bandE s m l a b p) : Nat) : Int)), (13, .bool false), (63, .bool (!((decide ((1 ≤ s ∧ s ≤ 1000000) ∧ (1 ≤ l ∧ l ≤ 1000000) ∧ m ≤ s ∧ l ≤ m)) == false)))] (by kernel_rfl) rfl ?_
    refine GL.k rfl hK36 (fun _ _ h => h) ?_
    have hb40 : (!((decide ((1 ≤ s ∧ s ≤ 1000000) ∧ (1 ≤ l ∧ l ≤ 1000000) ∧ m ≤ s ∧ l ≤ m)) == false)) = false := by rw [show ((decide ((1 ≤ s ∧ s ≤ 1000000) ∧ (1 ≤ l ∧ l ≤ 1000000) ∧ m ≤ s ∧ l ≤ m)) == false) = true from by rw [beq_iff_eq, Bool.eq_iff_iff]; simp only [decide_eq_true_eq, Bool.true_eq_false, Bool.false_eq_true, true_iff, false_iff, iff_false, iff_true]; omega]; rfl
    rw [hb40]
    refine G.no rfl ?_
    refine G.skipK hK34 (fun _ _ h => h) ?_
    refine G.seqK fun K41 hK42 => ?_
    refine G.seqK fun K43 hK44 => ?_
    refine G.region ?_
    refine GL.run (j := 10) 10 [0, 1, 2, 9, 11, 12, 73] [(0, .int .u64 (a : Int)), (1, .int .u64 (b : Int)), (2, .int .u64 (p : Int)), (9, .pointer (some ⟨p3, 0, none⟩)), (11, .int .i64 (((bandV s m l a b p) : Nat) : Int)), (12, .int .i64 (((bandE s m l a b p) : Nat) : Int)), (73, .bool true)] (by kernel_rfl) rfl ?_
    refine GL.k rfl hK44 (fun _ _ h => h) ?_
    refine G.yes rfl ?_
    refine G.seqK fun K45 hK46 => ?_
    refine G.region ?_
    refine GL.run (j := 3) 3 [11, 76] [(11, .int .i64 (((bandV s m l a b p) : Nat) : Int)), (76, .bool ((((bandE s m l a b p) : Nat) : Int) == 1))] (by kernel_rfl) rfl ?_
    have hb47 : ((((bandE s m l a b p) : Nat) : Int) == 1) = true := by rw [beq_iff_eq, show bandE s m l a b p = 1 from by rw [bandE, if_neg (by omega)]]; rfl
    rw [hb47]
    refine GL.run (j := 7) 4 [10] [(10, .bool ((((bandV s m l a b p) : Nat) : Int) == 0))] (by kernel_rfl) rfl ?_
    refine GL.k rfl hK46 (fun _ _ h => h) ?_
    refine G.ret ?_
    intro F_ hF_ hM_
    refine hRet _ _ (bodyPost_1 rfl (RV.tmp rfl) ?_ F_ hF_ hM_)
    have hb48 : ((((bandV s m l a b p) : Nat) : Int) == 0) = true := by rw [beq_iff_eq, show bandV s m l a b p = 0 from by rw [bandV, if_neg (by omega)]]; rfl
    rw [hb48]
    exact ⟨rfl, H38.sub (List.nil_sublist _)⟩
  · skip
    have hb32f := of_decide_eq_true hb32
    refine GL.run (j := 7) 1 [0, 1, 2, 9, 11, 12, 43, 44] [(0, .int .u64 (a : Int)), (1, .int .u64 (b : Int)), (2, .int .u64 (p : Int)), (9, .pointer (some ⟨p3, 0, none⟩)), (11, .int .i64 (((bandV s m l a b p) : Nat) : Int)), (12, .int .i64 (((bandE s m l a b p) : Nat) : Int)), (43, .bool true), (44, .pointer (some ⟨p3, 1, none⟩))] (by kernel_rfl) rfl ?_
    refine GL.sem (j := 8) (H28.ld (o := 1) (ty := 22) (v := .int .u64 (m : Int)) 0 rfl (by kernel_rfl) rfl) [0, 1, 2, 9, 11, 12, 43, 45] [(0, .int .u64 (a : Int)), (1, .int .u64 (b : Int)), (2, .int .u64 (p : Int)), (9, .pointer (some ⟨p3, 0, none⟩)), (11, .int .i64 (((bandV s m l a b p) : Nat) : Int)), (12, .int .i64 (((bandE s m l a b p) : Nat) : Int)), (43, .bool true), (45, .int .u64 (m : Int))] (by kernel_rfl) (by kernel_rfl) rfl ?_
    refine GL.run (j := 9) 1 [0, 1, 2, 9, 11, 12, 43, 45, 46] [(0, .int .u64 (a : Int)), (1, .int .u64 (b : Int)), (2, .int .u64 (p : Int)), (9, .pointer (some ⟨p3, 0, none⟩)), (11, .int .i64 (((bandV s m l a b p) : Nat) : Int)), (12, .int .i64 (((bandE s m l a b p) : Nat) : Int)), (43, .bool true), (45, .int .u64 (m : Int)), (46, .pointer (some ⟨p3, 2, none⟩))] (by kernel_rfl) rfl ?_
    refine GL.sem (j := 10) (H28.ld (o := 2) (ty := 22) (v := .int .u64 (l : Int)) 0 rfl (by kernel_rfl) rfl) [0, 1, 2, 9, 11, 12, 43, 45, 47] [(0, .int .u64 (a : Int)), (1, .int .u64 (b : Int)), (2, .int .u64 (p : Int)), (9, .pointer (some ⟨p3, 0, none⟩)), (11, .int .i64 (((bandV s m l a b p) : Nat) : Int)), (12, .int .i64 (((bandE s m l a b p) : Nat) : Int)), (43, .bool true), (45, .int .u64 (m : Int)), (47, .int .u64 (l : Int))] (by kernel_rfl) (by kernel_rfl) rfl ?_
    refine GL.run (j := 13) 3 [0, 1, 2, 9, 11, 12, 50] [(0, .int .u64 (a : Int)), (1, .int .u64 (b : Int)), (2, .int .u64 (p : Int)), (9, .pointer (some ⟨p3, 0, none⟩)), (11, .int .i64 (((bandV s m l a b p) : Nat) : Int)), (12, .int .i64 (((bandE s m l a b p) : Nat) : Int)), (50, .bool (decide ((l : Int) ≤ (m : Int))))] (by kernel_rfl) rfl ?_
    cases hb49 : (decide ((l : Int) ≤ (m : Int)))
    · skip
      have hb49f := of_decide_eq_false hb49
      refine GL.run (j := 23) 10 [0, 1, 2, 9, 11, 12, 13] [(0, .int .u64 (a : Int)), (1, .int .u64 (b : Int)), (2, .int .u64 (p : Int)), (9, .pointer (some ⟨p3, 0, none⟩)), (11, .int .i64 (((bandV s m l a b p) : Nat) : Int)), (12, .int .i64 (((bandE s m l a b p) : Nat) : Int)), (13, .bool false)] (by kernel_rfl) rfl ?_
      refine GL.k rfl hK31 (fun _ _ h => h) ?_
      refine G.seqK fun K50 hK51 => ?_
      refine G.seqK fun K52 hK53 => ?_
      refine G.region ?_
      refine GL.sem (j := 1) (H28.ldA (o := 0) (ty := 42) (m := 3) (sub := [.int .u64 (s : Int), .int .u64 (m : Int), .int .u64 (l : Int)]) 0 rfl (by kernel_rfl) rfl rfl) [0, 1, 2, 9, 11, 12, 13, 60] [(0, .int .u64 (a : Int)), (1, .int .u64 (b : Int)), (2, .int .u64 (p : Int)), (9, .pointer (some ⟨p3, 0, none⟩)), (11, .int .i64 (((bandV s m l a b p) : Nat) : Int)), (12, .int .i64 (((bandE s m l a b p) : Nat) : Int)), (13, .bool false), (60, .agg #[.int .u64 (s : Int), .int .u64 (m : Int), .int .u64 (l : Int)])] (by kernel_rfl) (by kernel_rfl) rfl ?_
      refine GL.call (j := 2) (BRight_calls s m l w27) (by kernel_rfl) rfl (fun e_ w54 hR => ?_)
      obtain ⟨rfl, H56⟩ := hR
      have H55 : Hp w [] [.blk p3 [.int .u64 (s : Int), .int .u64 (m : Int), .int .u64 (l : Int)] 42] w54 := H28.callNil H56
      refine ⟨_, rfl, [0, 1, 2, 9, 11, 12, 13, 61], [(0, .int .u64 (a : Int)), (1, .int .u64 (b : Int)), (2, .int .u64 (p : Int)), (9, .pointer (some ⟨p3, 0, none⟩)), (11, .int .i64 (((bandV s m l a b p) : Nat) : Int)), (12, .int .i64 (((bandE s m l a b p) : Nat) : Int)), (13, .bool false), (61, .bool (decide ((1 ≤ s ∧ s ≤ 1000000) ∧ (1 ≤ l ∧ l ≤ 1000000) ∧ m ≤ s ∧ l ≤ m)))], by kernel_rfl, ?_⟩
      refine GL.run (j := 4) 2 [0, 1, 2, 9, 11, 12, 13, 63] [(0, .int .u64 (a : Int)), (1, .int .u64 (b : Int)), (2, .int .u64 (p : Int)), (9, .pointer (some ⟨p3, 0, none⟩)), (11, .int .i64 (((bandV s m l a b p) : Nat) : Int)), (12, .int .i64 (((bandE s m l a b p) : Nat) : Int)), (13, .bool false), (63, .bool (!((decide ((1 ≤ s ∧ s ≤ 1000000) ∧ (1 ≤ l ∧ l ≤ 1000000) ∧ m ≤ s ∧ l ≤ m)) == false)))] (by kernel_rfl) rfl ?_
      refine GL.k rfl hK53 (fun _ _ h => h) ?_
      have hb57 : (!((decide ((1 ≤ s ∧ s ≤ 1000000) ∧ (1 ≤ l ∧ l ≤ 1000000) ∧ m ≤ s ∧ l ≤ m)) == false)) = false := by rw [show ((decide ((1 ≤ s ∧ s ≤ 1000000) ∧ (1 ≤ l ∧ l ≤ 1000000) ∧ m ≤ s ∧ l ≤ m)) == false) = true from by rw [beq_iff_eq, Bool.eq_iff_iff]; simp only [decide_eq_true_eq, Bool.true_eq_false, Bool.false_eq_true, true_iff, false_iff, iff_false, iff_true]; omega]; rfl
      rw [hb57]
      refine G.no rfl ?_
      refine G.skipK hK51 (fun _ _ h => h) ?_
      refine G.seqK fun K58 hK59 => ?_
      refine G.seqK fun K60 hK61 => ?_
      refine G.region ?_
      refine GL.run (j := 10) 10 [0, 1, 2, 9, 11, 12, 73] [(0, .int .u64 (a : Int)), (1, .int .u64 (b : Int)), (2, .int .u64 (p : Int)), (9, .pointer (some ⟨p3, 0, none⟩)), (11, .int .i64 (((bandV s m l a b p) : Nat) : Int)), (12, .int .i64 (((bandE s m l a b p) : Nat) : Int)), (73, .bool true)] (by kernel_rfl) rfl ?_
      refine GL.k rfl hK61 (fun _ _ h => h) ?_
      refine G.yes rfl ?_
      refine G.seqK fun K62 hK63 => ?_
      refine G.region ?_
      refine GL.run (j := 3) 3 [11, 76] [(11, .int .i64 (((bandV s m l a b p) : Nat) : Int)), (76, .bool ((((bandE s m l a b p) : Nat) : Int) == 1))] (by kernel_rfl) rfl ?_
      have hb64 : ((((bandE s m l a b p) : Nat) : Int) == 1) = true := by rw [beq_iff_eq, show bandE s m l a b p = 1 from by rw [bandE, if_neg (by omega)]]; rfl
      rw [hb64]
      refine GL.run (j := 7) 4 [10] [(10, .bool ((((bandV s m l a b p) : Nat) : Int) == 0))] (by kernel_rfl) rfl ?_
      refine GL.k rfl hK63 (fun _ _ h => h) ?_
      refine G.ret ?_
      intro F_ hF_ hM_
      refine hRet _ _ (bodyPost_1 rfl (RV.tmp rfl) ?_ F_ hF_ hM_)
      have hb65 : ((((bandV s m l a b p) : Nat) : Int) == 0) = true := by rw [beq_iff_eq, show bandV s m l a b p = 0 from by rw [bandV, if_neg (by omega)]]; rfl
      rw [hb65]
      exact ⟨rfl, H55.sub (List.nil_sublist _)⟩
    · skip
      have hb49f := of_decide_eq_true hb49
      refine GL.run (j := 14) 1 [0, 1, 2, 9, 11, 12, 50, 51] [(0, .int .u64 (a : Int)), (1, .int .u64 (b : Int)), (2, .int .u64 (p : Int)), (9, .pointer (some ⟨p3, 0, none⟩)), (11, .int .i64 (((bandV s m l a b p) : Nat) : Int)), (12, .int .i64 (((bandE s m l a b p) : Nat) : Int)), (50, .bool true), (51, .pointer (some ⟨p3, 2, none⟩))] (by kernel_rfl) rfl ?_
      refine GL.sem (j := 15) (H28.ld (o := 2) (ty := 22) (v := .int .u64 (l : Int)) 0 rfl (by kernel_rfl) rfl) [0, 1, 2, 9, 11, 12, 50, 52] [(0, .int .u64 (a : Int)), (1, .int .u64 (b : Int)), (2, .int .u64 (p : Int)), (9, .pointer (some ⟨p3, 0, none⟩)), (11, .int .i64 (((bandV s m l a b p) : Nat) : Int)), (12, .int .i64 (((bandE s m l a b p) : Nat) : Int)), (50, .bool true), (52, .int .u64 (l : Int))] (by kernel_rfl) (by kernel_rfl) rfl ?_
      refine GL.run (j := 18) 3 [0, 1, 2, 9, 11, 12, 55] [(0, .int .u64 (a : Int)), (1, .int .u64 (b : Int)), (2, .int .u64 (p : Int)), (9, .pointer (some ⟨p3, 0, none⟩)), (11, .int .i64 (((bandV s m l a b p) : Nat) : Int)), (12, .int .i64 (((bandE s m l a b p) : Nat) : Int)), (55, .bool (decide (1 ≤ (l : Int))))] (by kernel_rfl) rfl ?_
      cases hb66 : (decide (1 ≤ (l : Int)))
      · skip
        have hb66f := of_decide_eq_false hb66
        refine GL.run (j := 23) 5 [0, 1, 2, 9, 11, 12, 13] [(0, .int .u64 (a : Int)), (1, .int .u64 (b : Int)), (2, .int .u64 (p : Int)), (9, .pointer (some ⟨p3, 0, none⟩)), (11, .int .i64 (((bandV s m l a b p) : Nat) : Int)), (12, .int .i64 (((bandE s m l a b p) : Nat) : Int)), (13, .bool false)] (by kernel_rfl) rfl ?_
        refine GL.k rfl hK31 (fun _ _ h => h) ?_
        refine G.seqK fun K67 hK68 => ?_
        refine G.seqK fun K69 hK70 => ?_
        refine G.region ?_
        refine GL.sem (j := 1) (H28.ldA (o := 0) (ty := 42) (m := 3) (sub := [.int .u64 (s : Int), .int .u64 (m : Int), .int .u64 (l : Int)]) 0 rfl (by kernel_rfl) rfl rfl) [0, 1, 2, 9, 11, 12, 13, 60] [(0, .int .u64 (a : Int)), (1, .int .u64 (b : Int)), (2, .int .u64 (p : Int)), (9, .pointer (some ⟨p3, 0, none⟩)), (11, .int .i64 (((bandV s m l a b p) : Nat) : Int)), (12, .int .i64 (((bandE s m l a b p) : Nat) : Int)), (13, .bool false), (60, .agg #[.int .u64 (s : Int), .int .u64 (m : Int), .int .u64 (l : Int)])] (by kernel_rfl) (by kernel_rfl) rfl ?_
        refine GL.call (j := 2) (BRight_calls s m l w27) (by kernel_rfl) rfl (fun e_ w71 hR => ?_)
        obtain ⟨rfl, H73⟩ := hR
        have H72 : Hp w [] [.blk p3 [.int .u64 (s : Int), .int .u64 (m : Int), .int .u64 (l : Int)] 42] w71 := H28.callNil H73
        refine ⟨_, rfl, [0, 1, 2, 9, 11, 12, 13, 61], [(0, .int .u64 (a : Int)), (1, .int .u64 (b : Int)), (2, .int .u64 (p : Int)), (9, .pointer (some ⟨p3, 0, none⟩)), (11, .int .i64 (((bandV s m l a b p) : Nat) : Int)), (12, .int .i64 (((bandE s m l a b p) : Nat) : Int)), (13, .bool false), (61, .bool (decide ((1 ≤ s ∧ s ≤ 1000000) ∧ (1 ≤ l ∧ l ≤ 1000000) ∧ m ≤ s ∧ l ≤ m)))], by kernel_rfl, ?_⟩
        refine GL.run (j := 4) 2 [0, 1, 2, 9, 11, 12, 13, 63] [(0, .int .u64 (a : Int)), (1, .int .u64 (b : Int)), (2, .int .u64 (p : Int)), (9, .pointer (some ⟨p3, 0, none⟩)), (11, .int .i64 (((bandV s m l a b p) : Nat) : Int)), (12, .int .i64 (((bandE s m l a b p) : Nat) : Int)), (13, .bool false), (63, .bool (!((decide ((1 ≤ s ∧ s ≤ 1000000) ∧ (1 ≤ l ∧ l ≤ 1000000) ∧ m ≤ s ∧ l ≤ m)) == false)))] (by kernel_rfl) rfl ?_
        refine GL.k rfl hK70 (fun _ _ h => h) ?_
        have hb74 : (!((decide ((1 ≤ s ∧ s ≤ 1000000) ∧ (1 ≤ l ∧ l ≤ 1000000) ∧ m ≤ s ∧ l ≤ m)) == false)) = false := by rw [show ((decide ((1 ≤ s ∧ s ≤ 1000000) ∧ (1 ≤ l ∧ l ≤ 1000000) ∧ m ≤ s ∧ l ≤ m)) == false) = true from by rw [beq_iff_eq, Bool.eq_iff_iff]; simp only [decide_eq_true_eq, Bool.true_eq_false, Bool.false_eq_true, true_iff, false_iff, iff_false, iff_true]; omega]; rfl
        rw [hb74]
        refine G.no rfl ?_
        refine G.skipK hK68 (fun _ _ h => h) ?_
        refine G.seqK fun K75 hK76 => ?_
        refine G.seqK fun K77 hK78 => ?_
        refine G.region ?_
        refine GL.run (j := 10) 10 [0, 1, 2, 9, 11, 12, 73] [(0, .int .u64 (a : Int)), (1, .int .u64 (b : Int)), (2, .int .u64 (p : Int)), (9, .pointer (some ⟨p3, 0, none⟩)), (11, .int .i64 (((bandV s m l a b p) : Nat) : Int)), (12, .int .i64 (((bandE s m l a b p) : Nat) : Int)), (73, .bool true)] (by kernel_rfl) rfl ?_
        refine GL.k rfl hK78 (fun _ _ h => h) ?_
        refine G.yes rfl ?_
        refine G.seqK fun K79 hK80 => ?_
        refine G.region ?_
        refine GL.run (j := 3) 3 [11, 76] [(11, .int .i64 (((bandV s m l a b p) : Nat) : Int)), (76, .bool ((((bandE s m l a b p) : Nat) : Int) == 1))] (by kernel_rfl) rfl ?_
        have hb81 : ((((bandE s m l a b p) : Nat) : Int) == 1) = true := by rw [beq_iff_eq, show bandE s m l a b p = 1 from by rw [bandE, if_neg (by omega)]]; rfl
        rw [hb81]
        refine GL.run (j := 7) 4 [10] [(10, .bool ((((bandV s m l a b p) : Nat) : Int) == 0))] (by kernel_rfl) rfl ?_
        refine GL.k rfl hK80 (fun _ _ h => h) ?_
        refine G.ret ?_
        intro F_ hF_ hM_
        refine hRet _ _ (bodyPost_1 rfl (RV.tmp rfl) ?_ F_ hF_ hM_)
        have hb82 : ((((bandV s m l a b p) : Nat) : Int) == 0) = true := by rw [beq_iff_eq, show bandV s m l a b p = 0 from by rw [bandV, if_neg (by omega)]]; rfl
        rw [hb82]
        exact ⟨rfl, H72.sub (List.nil_sublist _)⟩
      · skip
        have hb66f := of_decide_eq_true hb66
        refine GL.run (j := 19) 1 [0, 1, 2, 9, 11, 12, 55, 56] [(0, .int .u64 (a : Int)), (1, .int .u64 (b : Int)), (2, .int .u64 (p : Int)), (9, .pointer (some ⟨p3, 0, none⟩)), (11, .int .i64 (((bandV s m l a b p) : Nat) : Int)), (12, .int .i64 (((bandE s m l a b p) : Nat) : Int)), (55, .bool true), (56, .pointer (some ⟨p3, 0, none⟩))] (by kernel_rfl) rfl ?_
        refine GL.sem (j := 20) (H28.ld (o := 0) (ty := 22) (v := .int .u64 (s : Int)) 0 rfl (by kernel_rfl) rfl) [0, 1, 2, 9, 11, 12, 55, 57] [(0, .int .u64 (a : Int)), (1, .int .u64 (b : Int)), (2, .int .u64 (p : Int)), (9, .pointer (some ⟨p3, 0, none⟩)), (11, .int .i64 (((bandV s m l a b p) : Nat) : Int)), (12, .int .i64 (((bandE s m l a b p) : Nat) : Int)), (55, .bool true), (57, .int .u64 (s : Int))] (by kernel_rfl) (by kernel_rfl) rfl ?_
        refine GL.run (j := 23) 3 [0, 1, 2, 9, 11, 12, 13] [(0, .int .u64 (a : Int)), (1, .int .u64 (b : Int)), (2, .int .u64 (p : Int)), (9, .pointer (some ⟨p3, 0, none⟩)), (11, .int .i64 (((bandV s m l a b p) : Nat) : Int)), (12, .int .i64 (((bandE s m l a b p) : Nat) : Int)), (13, .bool (decide ((s : Int) ≤ 1000000)))] (by kernel_rfl) rfl ?_
        refine GL.k rfl hK31 (fun _ _ h => h) ?_
        refine G.seqK fun K83 hK84 => ?_
        refine G.seqK fun K85 hK86 => ?_
        refine G.region ?_
        refine GL.sem (j := 1) (H28.ldA (o := 0) (ty := 42) (m := 3) (sub := [.int .u64 (s : Int), .int .u64 (m : Int), .int .u64 (l : Int)]) 0 rfl (by kernel_rfl) rfl rfl) [0, 1, 2, 9, 11, 12, 13, 60] [(0, .int .u64 (a : Int)), (1, .int .u64 (b : Int)), (2, .int .u64 (p : Int)), (9, .pointer (some ⟨p3, 0, none⟩)), (11, .int .i64 (((bandV s m l a b p) : Nat) : Int)), (12, .int .i64 (((bandE s m l a b p) : Nat) : Int)), (13, .bool (decide ((s : Int) ≤ 1000000))), (60, .agg #[.int .u64 (s : Int), .int .u64 (m : Int), .int .u64 (l : Int)])] (by kernel_rfl) (by kernel_rfl) rfl ?_
        refine GL.call (j := 2) (BRight_calls s m l w27) (by kernel_rfl) rfl (fun e_ w87 hR => ?_)
        obtain ⟨rfl, H89⟩ := hR
        have H88 : Hp w [] [.blk p3 [.int .u64 (s : Int), .int .u64 (m : Int), .int .u64 (l : Int)] 42] w87 := H28.callNil H89
        refine ⟨_, rfl, [0, 1, 2, 9, 11, 12, 13, 61], [(0, .int .u64 (a : Int)), (1, .int .u64 (b : Int)), (2, .int .u64 (p : Int)), (9, .pointer (some ⟨p3, 0, none⟩)), (11, .int .i64 (((bandV s m l a b p) : Nat) : Int)), (12, .int .i64 (((bandE s m l a b p) : Nat) : Int)), (13, .bool (decide ((s : Int) ≤ 1000000))), (61, .bool (decide ((1 ≤ s ∧ s ≤ 1000000) ∧ (1 ≤ l ∧ l ≤ 1000000) ∧ m ≤ s ∧ l ≤ m)))], by kernel_rfl, ?_⟩
        refine GL.run (j := 4) 2 [0, 1, 2, 9, 11, 12, 13, 63] [(0, .int .u64 (a : Int)), (1, .int .u64 (b : Int)), (2, .int .u64 (p : Int)), (9, .pointer (some ⟨p3, 0, none⟩)), (11, .int .i64 (((bandV s m l a b p) : Nat) : Int)), (12, .int .i64 (((bandE s m l a b p) : Nat) : Int)), (13, .bool (decide ((s : Int) ≤ 1000000))), (63, .bool (!((decide ((1 ≤ s ∧ s ≤ 1000000) ∧ (1 ≤ l ∧ l ≤ 1000000) ∧ m ≤ s ∧ l ≤ m)) == (decide ((s : Int) ≤ 1000000)))))] (by kernel_rfl) rfl ?_
        refine GL.k rfl hK86 (fun _ _ h => h) ?_
        have hb90 : (!((decide ((1 ≤ s ∧ s ≤ 1000000) ∧ (1 ≤ l ∧ l ≤ 1000000) ∧ m ≤ s ∧ l ≤ m)) == (decide ((s : Int) ≤ 1000000)))) = false := by rw [show ((decide ((1 ≤ s ∧ s ≤ 1000000) ∧ (1 ≤ l ∧ l ≤ 1000000) ∧ m ≤ s ∧ l ≤ m)) == (decide ((s : Int) ≤ 1000000))) = true from by rw [beq_iff_eq, Bool.eq_iff_iff]; simp only [decide_eq_true_eq, Bool.true_eq_false, Bool.false_eq_true, true_iff, false_iff, iff_false, iff_true]; omega]; rfl
        rw [hb90]
        refine G.no rfl ?_
        refine G.skipK hK84 (fun _ _ h => h) ?_
        refine G.seqK fun K91 hK92 => ?_
        refine G.seqK fun K93 hK94 => ?_
        refine G.region ?_
        refine GL.run (j := 3) 3 [0, 1, 2, 9, 11, 12, 66] [(0, .int .u64 (a : Int)), (1, .int .u64 (b : Int)), (2, .int .u64 (p : Int)), (9, .pointer (some ⟨p3, 0, none⟩)), (11, .int .i64 (((bandV s m l a b p) : Nat) : Int)), (12, .int .i64 (((bandE s m l a b p) : Nat) : Int)), (66, .bool (!(decide ((s : Int) ≤ 1000000))))] (by kernel_rfl) rfl ?_
        cases hb95 : (decide ((s : Int) ≤ 1000000))
        · skip
          have hb95f := of_decide_eq_false hb95
          refine GL.run (j := 10) 7 [0, 1, 2, 9, 11, 12, 73] [(0, .int .u64 (a : Int)), (1, .int .u64 (b : Int)), (2, .int .u64 (p : Int)), (9, .pointer (some ⟨p3, 0, none⟩)), (11, .int .i64 (((bandV s m l a b p) : Nat) : Int)), (12, .int .i64 (((bandE s m l a b p) : Nat) : Int)), (73, .bool true)] (by kernel_rfl) rfl ?_
          refine GL.k rfl hK94 (fun _ _ h => h) ?_
          refine G.yes rfl ?_
          refine G.seqK fun K96 hK97 => ?_
          refine G.region ?_
          refine GL.run (j := 3) 3 [11, 76] [(11, .int .i64 (((bandV s m l a b p) : Nat) : Int)), (76, .bool ((((bandE s m l a b p) : Nat) : Int) == 1))] (by kernel_rfl) rfl ?_
          have hb98 : ((((bandE s m l a b p) : Nat) : Int) == 1) = true := by rw [beq_iff_eq, show bandE s m l a b p = 1 from by rw [bandE, if_neg (by omega)]]; rfl
          rw [hb98]
          refine GL.run (j := 7) 4 [10] [(10, .bool ((((bandV s m l a b p) : Nat) : Int) == 0))] (by kernel_rfl) rfl ?_
          refine GL.k rfl hK97 (fun _ _ h => h) ?_
          refine G.ret ?_
          intro F_ hF_ hM_
          refine hRet _ _ (bodyPost_1 rfl (RV.tmp rfl) ?_ F_ hF_ hM_)
          have hb99 : ((((bandV s m l a b p) : Nat) : Int) == 0) = true := by rw [beq_iff_eq, show bandV s m l a b p = 0 from by rw [bandV, if_neg (by omega)]]; rfl
          rw [hb99]
          exact ⟨rfl, H88.sub (List.nil_sublist _)⟩
        · skip
          have hb95f := of_decide_eq_true hb95
          refine GL.run (j := 6) 3 [0, 1, 2, 9, 11, 12, 66, 67, 68, 69] [(0, .int .u64 (a : Int)), (1, .int .u64 (b : Int)), (2, .int .u64 (p : Int)), (9, .pointer (some ⟨p3, 0, none⟩)), (11, .int .i64 (((bandV s m l a b p) : Nat) : Int)), (12, .int .i64 (((bandE s m l a b p) : Nat) : Int)), (66, .bool false), (67, .int .u64 (p : Int)), (68, .int .u64 (a : Int)), (69, .int .u64 (b : Int))] (by kernel_rfl) rfl ?_
          obtain ⟨p100, w101, r102, H103⟩ := H88.madeRow (P := Try.prog) (Instr.buildSlice 36 2 #[(0, .int .u64 (a : Int)), (1, .int .u64 (b : Int))]) (fun b_ => .slice (some ⟨b_, 0, none⟩) 2 2) [.int .u64 (a : Int), .int .u64 (b : Int)] 22 2 2 1 (by kernel_rfl) (by decide) (by decide) rfl
          have H103 : Hp w [] [.blk p3 [.int .u64 (s : Int), .int .u64 (m : Int), .int .u64 (l : Int)] 42, .row (some ⟨p100, 0, none⟩) 2 2 22 1 (dg [a, b])] w101 := H103
          refine GL.sem (j := 7) (r102) [0, 1, 2, 9, 11, 12, 66, 67, 70] [(0, .int .u64 (a : Int)), (1, .int .u64 (b : Int)), (2, .int .u64 (p : Int)), (9, .pointer (some ⟨p3, 0, none⟩)), (11, .int .i64 (((bandV s m l a b p) : Nat) : Int)), (12, .int .i64 (((bandE s m l a b p) : Nat) : Int)), (66, .bool false), (67, .int .u64 (p : Int)), (70, .slice (some ⟨p100, 0, none⟩) 2 2)] (by kernel_rfl) (by kernel_rfl) rfl ?_
          refine GL.call (j := 8) (Right5_2 p 1 a b (some ⟨p100, 0, none⟩) 2 w101 (H103.rdRow 1 rfl)) (by kernel_rfl) rfl (fun e_ w104 hR => ?_)
          obtain ⟨rfl, H106⟩ := hR
          have H105 : Hp w [] [.blk p3 [.int .u64 (s : Int), .int .u64 (m : Int), .int .u64 (l : Int)] 42, .row (some ⟨p100, 0, none⟩) 2 2 22 1 (dg [a, b])] w104 := H103.callNil H106
          refine ⟨_, rfl, [0, 1, 2, 9, 11, 12, 66, 71], [(0, .int .u64 (a : Int)), (1, .int .u64 (b : Int)), (2, .int .u64 (p : Int)), (9, .pointer (some ⟨p3, 0, none⟩)), (11, .int .i64 (((bandV s m l a b p) : Nat) : Int)), (12, .int .i64 (((bandE s m l a b p) : Nat) : Int)), (66, .bool false), (71, .bool (decide (a ≤ 4611686018427387904 ∧ b ≤ 4611686018427387904 ∧ (1 ≤ p ∧ p ≤ 1099511627776) ∧ (1 ≤ 1 ∧ 1 ≤ 1000000))))], by kernel_rfl, ?_⟩
          refine GL.run (j := 10) 2 [0, 1, 2, 9, 11, 12, 73] [(0, .int .u64 (a : Int)), (1, .int .u64 (b : Int)), (2, .int .u64 (p : Int)), (9, .pointer (some ⟨p3, 0, none⟩)), (11, .int .i64 (((bandV s m l a b p) : Nat) : Int)), (12, .int .i64 (((bandE s m l a b p) : Nat) : Int)), (73, .bool (!(decide (a ≤ 4611686018427387904 ∧ b ≤ 4611686018427387904 ∧ (1 ≤ p ∧ p ≤ 1099511627776) ∧ (1 ≤ 1 ∧ 1 ≤ 1000000)))))] (by kernel_rfl) rfl ?_
          refine GL.k rfl hK94 (fun _ _ h => h) ?_
          cases hb107 : (decide (a ≤ 4611686018427387904 ∧ b ≤ 4611686018427387904 ∧ (1 ≤ p ∧ p ≤ 1099511627776) ∧ (1 ≤ 1 ∧ 1 ≤ 1000000)))
          · skip
            have hb107f := of_decide_eq_false hb107
            refine G.yes rfl ?_
            refine G.seqK fun K108 hK109 => ?_
            refine G.region ?_
            refine GL.run (j := 3) 3 [11, 76] [(11, .int .i64 (((bandV s m l a b p) : Nat) : Int)), (76, .bool ((((bandE s m l a b p) : Nat) : Int) == 1))] (by kernel_rfl) rfl ?_
            have hb110 : ((((bandE s m l a b p) : Nat) : Int) == 1) = true := by rw [beq_iff_eq, show bandE s m l a b p = 1 from by rw [bandE, if_neg (by omega)]]; rfl
            rw [hb110]
            refine GL.run (j := 7) 4 [10] [(10, .bool ((((bandV s m l a b p) : Nat) : Int) == 0))] (by kernel_rfl) rfl ?_
            refine GL.k rfl hK109 (fun _ _ h => h) ?_
            refine G.ret ?_
            intro F_ hF_ hM_
            refine hRet _ _ (bodyPost_1 rfl (RV.tmp rfl) ?_ F_ hF_ hM_)
            have hb111 : ((((bandV s m l a b p) : Nat) : Int) == 0) = true := by rw [beq_iff_eq, show bandV s m l a b p = 0 from by rw [bandV, if_neg (by omega)]]; rfl
            rw [hb111]
            exact ⟨rfl, H105.sub (List.nil_sublist _)⟩
          · skip
            have hb107f := of_decide_eq_true hb107
            refine G.no rfl ?_
            refine G.skipK hK92 (fun _ _ h => h) ?_
            refine G.seqK fun K112 hK113 => ?_
            refine G.region ?_
            refine GL.run (j := 1) 1 [0, 1, 2, 9, 11, 12, 14] [(0, .int .u64 (a : Int)), (1, .int .u64 (b : Int)), (2, .int .u64 (p : Int)), (9, .pointer (some ⟨p3, 0, none⟩)), (11, .int .i64 (((bandV s m l a b p) : Nat) : Int)), (12, .int .i64 (((bandE s m l a b p) : Nat) : Int)), (14, .int .i64 3)] (by kernel_rfl) rfl ?_
            refine GL.k rfl hK113 (fun _ _ h => h) ?_
            refine G.seqK fun K114 hK115 => ?_
            refine G.seqK fun K116 hK117 => ?_
            refine G.region ?_
            refine GL.run (j := 1) 1 [0, 1, 2, 9, 11, 12, 14, 80] [(0, .int .u64 (a : Int)), (1, .int .u64 (b : Int)), (2, .int .u64 (p : Int)), (9, .pointer (some ⟨p3, 0, none⟩)), (11, .int .i64 (((bandV s m l a b p) : Nat) : Int)), (12, .int .i64 (((bandE s m l a b p) : Nat) : Int)), (14, .int .i64 3), (80, .pointer (some ⟨p3, 2, none⟩))] (by kernel_rfl) rfl ?_
            refine GL.sem (j := 2) (H105.ld (o := 2) (ty := 22) (v := .int .u64 (l : Int)) 0 rfl (by kernel_rfl) rfl) [0, 1, 2, 9, 11, 12, 14, 81] [(0, .int .u64 (a : Int)), (1, .int .u64 (b : Int)), (2, .int .u64 (p : Int)), (9, .pointer (some ⟨p3, 0, none⟩)), (11, .int .i64 (((bandV s m l a b p) : Nat) : Int)), (12, .int .i64 (((bandE s m l a b p) : Nat) : Int)), (14, .int .i64 3), (81, .int .u64 (l : Int))] (by kernel_rfl) (by kernel_rfl) rfl ?_
            refine GL.run (j := 3) 1 [0, 1, 2, 9, 11, 12, 14, 81, 82] [(0, .int .u64 (a : Int)), (1, .int .u64 (b : Int)), (2, .int .u64 (p : Int)), (9, .pointer (some ⟨p3, 0, none⟩)), (11, .int .i64 (((bandV s m l a b p) : Nat) : Int)), (12, .int .i64 (((bandE s m l a b p) : Nat) : Int)), (14, .int .i64 3), (81, .int .u64 (l : Int)), (82, .pointer (some ⟨p3, 1, none⟩))] (by kernel_rfl) rfl ?_
            refine GL.sem (j := 4) (H105.ld (o := 1) (ty := 22) (v := .int .u64 (m : Int)) 0 rfl (by kernel_rfl) rfl) [0, 1, 2, 9, 11, 12, 14, 81, 83] [(0, .int .u64 (a : Int)), (1, .int .u64 (b : Int)), (2, .int .u64 (p : Int)), (9, .pointer (some ⟨p3, 0, none⟩)), (11, .int .i64 (((bandV s m l a b p) : Nat) : Int)), (12, .int .i64 (((bandE s m l a b p) : Nat) : Int)), (14, .int .i64 3), (81, .int .u64 (l : Int)), (83, .int .u64 (m : Int))] (by kernel_rfl) (by kernel_rfl) rfl ?_
            refine GL.run (j := 5) 1 [0, 1, 2, 11, 12, 14, 81, 83, 84] [(0, .int .u64 (a : Int)), (1, .int .u64 (b : Int)), (2, .int .u64 (p : Int)), (11, .int .i64 (((bandV s m l a b p) : Nat) : Int)), (12, .int .i64 (((bandE s m l a b p) : Nat) : Int)), (14, .int .i64 3), (81, .int .u64 (l : Int)), (83, .int .u64 (m : Int)), (84, .pointer (some ⟨p3, 0, none⟩))] (by kernel_rfl) rfl ?_
            refine GL.sem (j := 6) (H105.ld (o := 0) (ty := 22) (v := .int .u64 (s : Int)) 0 rfl (by kernel_rfl) rfl) [0, 1, 2, 11, 12, 14, 81, 83, 85] [(0, .int .u64 (a : Int)), (1, .int .u64 (b : Int)), (2, .int .u64 (p : Int)), (11, .int .i64 (((bandV s m l a b p) : Nat) : Int)), (12, .int .i64 (((bandE s m l a b p) : Nat) : Int)), (14, .int .i64 3), (81, .int .u64 (l : Int)), (83, .int .u64 (m : Int)), (85, .int .u64 (s : Int))] (by kernel_rfl) (by kernel_rfl) rfl ?_
            obtain ⟨p118, w119, r120, H121⟩ := H105.madeRow (P := Try.prog) (Instr.buildSlice 36 3 #[(0, .int .u64 (l : Int)), (1, .int .u64 (m : Int)), (2, .int .u64 (s : Int))]) (fun b_ => .slice (some ⟨b_, 0, none⟩) 3 3) [.int .u64 (l : Int), .int .u64 (m : Int), .int .u64 (s : Int)] 22 3 3 1 (by kernel_rfl) (by decide) (by decide) rfl
            have H121 : Hp w [] [.blk p3 [.int .u64 (s : Int), .int .u64 (m : Int), .int .u64 (l : Int)] 42, .row (some ⟨p100, 0, none⟩) 2 2 22 1 (dg [a, b]), .row (some ⟨p118, 0, none⟩) 3 3 22 1 (dg [l, m, s])] w119 := H121
            refine GL.sem (j := 7) (r120) [0, 1, 2, 11, 12, 14, 86] [(0, .int .u64 (a : Int)), (1, .int .u64 (b : Int)), (2, .int .u64 (p : Int)), (11, .int .i64 (((bandV s m l a b p) : Nat) : Int)), (12, .int .i64 (((bandE s m l a b p) : Nat) : Int)), (14, .int .i64 3), (86, .slice (some ⟨p118, 0, none⟩) 3 3)] (by kernel_rfl) (by kernel_rfl) rfl ?_
            refine GL.run (j := 9) 2 [0, 1, 2, 11, 12, 14, 86, 87, 88] [(0, .int .u64 (a : Int)), (1, .int .u64 (b : Int)), (2, .int .u64 (p : Int)), (11, .int .i64 (((bandV s m l a b p) : Nat) : Int)), (12, .int .i64 (((bandE s m l a b p) : Nat) : Int)), (14, .int .i64 3), (86, .slice (some ⟨p118, 0, none⟩) 3 3), (87, .int .i64 3), (88, .int .i64 0)] (by kernel_rfl) rfl ?_
            refine GL.k rfl hK117 (fun _ _ h => h) ?_
            refine G.block ?_
            refine G.unroll 3 ?_
            refine G.seqK fun K122 hK123 => ?_
            refine G.region ?_
            refine GL.run (j := 1) 1 [0, 1, 2, 11, 12, 14, 86, 87, 88, 89] [(0, .int .u64 (a : Int)), (1, .int .u64 (b : Int)), (2, .int .u64 (p : Int)), (11, .int .i64 (((bandV s m l a b p) : Nat) : Int)), (12, .int .i64 (((bandE s m l a b p) : Nat) : Int)), (14, .int .i64 3), (86, .slice (some ⟨p118, 0, none⟩) 3 3), (87, .int .i64 3), (88, .int .i64 0), (89, .bool true)] (by kernel_rfl) rfl ?_
            refine GL.k rfl hK123 (fun _ _ h => h) ?_
            refine G.seqK fun K124 hK125 => ?_
            refine G.yes rfl ?_
            refine G.skipK hK125 (fun _ _ h => h) ?_
            refine G.seqK fun K126 hK127 => ?_
            refine G.block ?_
            refine G.seqK fun K128 hK129 => ?_
            refine G.region ?_
            refine GL.run (j := 1) 1 [0, 1, 2, 11, 12, 14, 86, 87, 88, 90] [(0, .int .u64 (a : Int)), (1, .int .u64 (b : Int)), (2, .int .u64 (p : Int)), (11, .int .i64 (((bandV s m l a b p) : Nat) : Int)), (12, .int .i64 (((bandE s m l a b p) : Nat) : Int)), (14, .int .i64 3), (86, .slice (some ⟨p118, 0, none⟩) 3 3), (87, .int .i64 3), (88, .int .i64 0), (90, .int .i64 0)] (by kernel_rfl) rfl ?_
            refine GL.sem (j := 2) (run_idxRd (P := Try.prog) (k := .i64) (t := 36) (A := (some ⟨p118, 0, none⟩)) (len := 3) (cap := 3) (j := 0) (by kernel_rfl) rfl (H121.rdRow 2 rfl) (by first | exact dg_length _ | rw [dg_length]; first | rfl | assumption | (symm; assumption) | (simp; done) | (rw [List.length_take]; omega) | omega) (by omega)) [0, 1, 2, 11, 12, 14, 86, 87, 88, 90, 91] [(0, .int .u64 (a : Int)), (1, .int .u64 (b : Int)), (2, .int .u64 (p : Int)), (11, .int .i64 (((bandV s m l a b p) : Nat) : Int)), (12, .int .i64 (((bandE s m l a b p) : Nat) : Int)), (14, .int .i64 3), (86, .slice (some ⟨p118, 0, none⟩) 3 3), (87, .int .i64 3), (88, .int .i64 0), (90, .int .i64 0), (91, .pointer (Option.map (fun x => Addr.add x 0) (some ⟨p118, 0, none⟩)))] (by kernel_rfl) (by kernel_rfl) rfl ?_
            refine GL.sem (j := 3) (run_ldRd (P := Try.prog) (ty := 22) (A := (some ⟨p118, 0, none⟩)) (j := 0) (v := .int .u64 (l : Int)) (by kernel_rfl) (H121.rdRow 2 rfl) (dg_at rfl)) [0, 1, 2, 11, 12, 14, 86, 87, 88, 90, 92] [(0, .int .u64 (a : Int)), (1, .int .u64 (b : Int)), (2, .int .u64 (p : Int)), (11, .int .i64 (((bandV s m l a b p) : Nat) : Int)), (12, .int .i64 (((bandE s m l a b p) : Nat) : Int)), (14, .int .i64 3), (86, .slice (some ⟨p118, 0, none⟩) 3 3), (87, .int .i64 3), (88, .int .i64 0), (90, .int .i64 0), (92, .int .u64 (l : Int))] (by kernel_rfl) (by kernel_rfl) rfl ?_
            refine GL.run (j := 5) 2 [0, 1, 2, 11, 12, 14, 15, 16, 86, 87, 88] [(0, .int .u64 (a : Int)), (1, .int .u64 (b : Int)), (2, .int .u64 (p : Int)), (11, .int .i64 (((bandV s m l a b p) : Nat) : Int)), (12, .int .i64 (((bandE s m l a b p) : Nat) : Int)), (14, .int .i64 3), (15, .int .i64 0), (16, .int .u64 (l : Int)), (86, .slice (some ⟨p118, 0, none⟩) 3 3), (87, .int .i64 3), (88, .int .i64 0)] (by kernel_rfl) rfl ?_
            refine GL.k rfl hK129 (fun _ _ h => h) ?_
            refine G.seqK fun K130 hK131 => ?_
            refine G.region ?_
            refine GL.run (j := 4) 4 [0, 1, 2, 11, 12, 14, 15, 86, 87, 88, 93, 94, 95, 96] [(0, .int .u64 (a : Int)), (1, .int .u64 (b : Int)), (2, .int .u64 (p : Int)), (11, .int .i64 (((bandV s m l a b p) : Nat) : Int)), (12, .int .i64 (((bandE s m l a b p) : Nat) : Int)), (14, .int .i64 3), (15, .int .i64 0), (86, .slice (some ⟨p118, 0, none⟩) 3 3), (87, .int .i64 3), (88, .int .i64 0), (93, .int .u64 (a : Int)), (94, .int .u64 (b : Int)), (95, .int .u64 (p : Int)), (96, .int .u64 (l : Int))] (by kernel_rfl) rfl ?_
            refine GL.call (j := 5) (Enough5_calls a b p l ha hb hp hl w119) (by kernel_rfl) rfl (fun e_ w132 hR => ?_)
            obtain ⟨rfl, H134⟩ := hR
            have H133 : Hp w [] [.blk p3 [.int .u64 (s : Int), .int .u64 (m : Int), .int .u64 (l : Int)] 42, .row (some ⟨p100, 0, none⟩) 2 2 22 1 (dg [a, b]), .row (some ⟨p118, 0, none⟩) 3 3 22 1 (dg [l, m, s])] w132 := H121.callNil H134
            refine ⟨_, rfl, [0, 1, 2, 11, 12, 14, 15, 86, 87, 88, 97], [(0, .int .u64 (a : Int)), (1, .int .u64 (b : Int)), (2, .int .u64 (p : Int)), (11, .int .i64 (((bandV s m l a b p) : Nat) : Int)), (12, .int .i64 (((bandE s m l a b p) : Nat) : Int)), (14, .int .i64 3), (15, .int .i64 0), (86, .slice (some ⟨p118, 0, none⟩) 3 3), (87, .int .i64 3), (88, .int .i64 0), (97, .bool (enough a b p l))], by kernel_rfl, ?_⟩
            refine GL.k rfl hK131 (fun _ _ h => h) ?_
            cases hb135 : (enough a b p l)
            · skip
              have hL := hb135
              refine G.no rfl ?_
              refine G.skipK hK127 (fun _ _ h => h) ?_
              refine G.region ?_
              refine GL.run (j := 2) 2 [0, 1, 2, 11, 12, 14, 86, 87, 88] [(0, .int .u64 (a : Int)), (1, .int .u64 (b : Int)), (2, .int .u64 (p : Int)), (11, .int .i64 (((bandV s m l a b p) : Nat) : Int)), (12, .int .i64 (((bandE s m l a b p) : Nat) : Int)), (14, .int .i64 3), (86, .slice (some ⟨p118, 0, none⟩) 3 3), (87, .int .i64 3), (88, .int .i64 1)] (by kernel_rfl) rfl ?_
              refine GL.round rfl ?_
              refine G.seqK fun K136 hK137 => ?_
              refine G.region ?_
              refine GL.run (j := 1) 1 [0, 1, 2, 11, 12, 14, 86, 87, 88, 89] [(0, .int .u64 (a : Int)), (1, .int .u64 (b : Int)), (2, .int .u64 (p : Int)), (11, .int .i64 (((bandV s m l a b p) : Nat) : Int)), (12, .int .i64 (((bandE s m l a b p) : Nat) : Int)), (14, .int .i64 3), (86, .slice (some ⟨p118, 0, none⟩) 3 3), (87, .int .i64 3), (88, .int .i64 1), (89, .bool true)] (by kernel_rfl) rfl ?_
              refine GL.k rfl hK137 (fun _ _ h => h) ?_
              refine G.seqK fun K138 hK139 => ?_
              refine G.yes rfl ?_
              refine G.skipK hK139 (fun _ _ h => h) ?_
              refine G.seqK fun K140 hK141 => ?_
              refine G.block ?_
              refine G.seqK fun K142 hK143 => ?_
              refine G.region ?_
              refine GL.run (j := 1) 1 [0, 1, 2, 11, 12, 14, 86, 87, 88, 90] [(0, .int .u64 (a : Int)), (1, .int .u64 (b : Int)), (2, .int .u64 (p : Int)), (11, .int .i64 (((bandV s m l a b p) : Nat) : Int)), (12, .int .i64 (((bandE s m l a b p) : Nat) : Int)), (14, .int .i64 3), (86, .slice (some ⟨p118, 0, none⟩) 3 3), (87, .int .i64 3), (88, .int .i64 1), (90, .int .i64 1)] (by kernel_rfl) rfl ?_
              refine GL.sem (j := 2) (run_idxRd (P := Try.prog) (k := .i64) (t := 36) (A := (some ⟨p118, 0, none⟩)) (len := 3) (cap := 3) (j := 1) (by kernel_rfl) rfl (H133.rdRow 2 rfl) (by first | exact dg_length _ | rw [dg_length]; first | rfl | assumption | (symm; assumption) | (simp; done) | (rw [List.length_take]; omega) | omega) (by omega)) [0, 1, 2, 11, 12, 14, 86, 87, 88, 90, 91] [(0, .int .u64 (a : Int)), (1, .int .u64 (b : Int)), (2, .int .u64 (p : Int)), (11, .int .i64 (((bandV s m l a b p) : Nat) : Int)), (12, .int .i64 (((bandE s m l a b p) : Nat) : Int)), (14, .int .i64 3), (86, .slice (some ⟨p118, 0, none⟩) 3 3), (87, .int .i64 3), (88, .int .i64 1), (90, .int .i64 1), (91, .pointer (Option.map (fun x => Addr.add x 1) (some ⟨p118, 0, none⟩)))] (by kernel_rfl) (by kernel_rfl) rfl ?_
              refine GL.sem (j := 3) (run_ldRd (P := Try.prog) (ty := 22) (A := (some ⟨p118, 0, none⟩)) (j := 1) (v := .int .u64 (m : Int)) (by kernel_rfl) (H133.rdRow 2 rfl) (dg_at rfl)) [0, 1, 2, 11, 12, 14, 86, 87, 88, 90, 92] [(0, .int .u64 (a : Int)), (1, .int .u64 (b : Int)), (2, .int .u64 (p : Int)), (11, .int .i64 (((bandV s m l a b p) : Nat) : Int)), (12, .int .i64 (((bandE s m l a b p) : Nat) : Int)), (14, .int .i64 3), (86, .slice (some ⟨p118, 0, none⟩) 3 3), (87, .int .i64 3), (88, .int .i64 1), (90, .int .i64 1), (92, .int .u64 (m : Int))] (by kernel_rfl) (by kernel_rfl) rfl ?_
              refine GL.run (j := 5) 2 [0, 1, 2, 11, 12, 14, 15, 16, 86, 87, 88] [(0, .int .u64 (a : Int)), (1, .int .u64 (b : Int)), (2, .int .u64 (p : Int)), (11, .int .i64 (((bandV s m l a b p) : Nat) : Int)), (12, .int .i64 (((bandE s m l a b p) : Nat) : Int)), (14, .int .i64 3), (15, .int .i64 1), (16, .int .u64 (m : Int)), (86, .slice (some ⟨p118, 0, none⟩) 3 3), (87, .int .i64 3), (88, .int .i64 1)] (by kernel_rfl) rfl ?_
              refine GL.k rfl hK143 (fun _ _ h => h) ?_
              refine G.seqK fun K144 hK145 => ?_
              refine G.region ?_
              refine GL.run (j := 4) 4 [0, 1, 2, 11, 12, 14, 15, 86, 87, 88, 93, 94, 95, 96] [(0, .int .u64 (a : Int)), (1, .int .u64 (b : Int)), (2, .int .u64 (p : Int)), (11, .int .i64 (((bandV s m l a b p) : Nat) : Int)), (12, .int .i64 (((bandE s m l a b p) : Nat) : Int)), (14, .int .i64 3), (15, .int .i64 1), (86, .slice (some ⟨p118, 0, none⟩) 3 3), (87, .int .i64 3), (88, .int .i64 1), (93, .int .u64 (a : Int)), (94, .int .u64 (b : Int)), (95, .int .u64 (p : Int)), (96, .int .u64 (m : Int))] (by kernel_rfl) rfl ?_
              refine GL.call (j := 5) (Enough5_calls a b p m ha hb hp hm w132) (by kernel_rfl) rfl (fun e_ w146 hR => ?_)
              obtain ⟨rfl, H148⟩ := hR
              have H147 : Hp w [] [.blk p3 [.int .u64 (s : Int), .int .u64 (m : Int), .int .u64 (l : Int)] 42, .row (some ⟨p100, 0, none⟩) 2 2 22 1 (dg [a, b]), .row (some ⟨p118, 0, none⟩) 3 3 22 1 (dg [l, m, s])] w146 := H133.callNil H148
              refine ⟨_, rfl, [0, 1, 2, 11, 12, 14, 15, 86, 87, 88, 97], [(0, .int .u64 (a : Int)), (1, .int .u64 (b : Int)), (2, .int .u64 (p : Int)), (11, .int .i64 (((bandV s m l a b p) : Nat) : Int)), (12, .int .i64 (((bandE s m l a b p) : Nat) : Int)), (14, .int .i64 3), (15, .int .i64 1), (86, .slice (some ⟨p118, 0, none⟩) 3 3), (87, .int .i64 3), (88, .int .i64 1), (97, .bool (enough a b p m))], by kernel_rfl, ?_⟩
              refine GL.k rfl hK145 (fun _ _ h => h) ?_
              cases hb149 : (enough a b p m)
              · skip
                have hM := hb149
                refine G.no rfl ?_
                refine G.skipK hK141 (fun _ _ h => h) ?_
                refine G.region ?_
                refine GL.run (j := 2) 2 [0, 1, 2, 11, 12, 14, 86, 87, 88] [(0, .int .u64 (a : Int)), (1, .int .u64 (b : Int)), (2, .int .u64 (p : Int)), (11, .int .i64 (((bandV s m l a b p) : Nat) : Int)), (12, .int .i64 (((bandE s m l a b p) : Nat) : Int)), (14, .int .i64 3), (86, .slice (some ⟨p118, 0, none⟩) 3 3), (87, .int .i64 3), (88, .int .i64 2)] (by kernel_rfl) rfl ?_
                refine GL.round rfl ?_
                refine G.seqK fun K150 hK151 => ?_
                refine G.region ?_
                refine GL.run (j := 1) 1 [0, 1, 2, 11, 12, 14, 86, 87, 88, 89] [(0, .int .u64 (a : Int)), (1, .int .u64 (b : Int)), (2, .int .u64 (p : Int)), (11, .int .i64 (((bandV s m l a b p) : Nat) : Int)), (12, .int .i64 (((bandE s m l a b p) : Nat) : Int)), (14, .int .i64 3), (86, .slice (some ⟨p118, 0, none⟩) 3 3), (87, .int .i64 3), (88, .int .i64 2), (89, .bool true)] (by kernel_rfl) rfl ?_
                refine GL.k rfl hK151 (fun _ _ h => h) ?_
                refine G.seqK fun K152 hK153 => ?_
                refine G.yes rfl ?_
                refine G.skipK hK153 (fun _ _ h => h) ?_
                refine G.seqK fun K154 hK155 => ?_
                refine G.block ?_
                refine G.seqK fun K156 hK157 => ?_
                refine G.region ?_
                refine GL.run (j := 1) 1 [0, 1, 2, 11, 12, 14, 86, 87, 88, 90] [(0, .int .u64 (a : Int)), (1, .int .u64 (b : Int)), (2, .int .u64 (p : Int)), (11, .int .i64 (((bandV s m l a b p) : Nat) : Int)), (12, .int .i64 (((bandE s m l a b p) : Nat) : Int)), (14, .int .i64 3), (86, .slice (some ⟨p118, 0, none⟩) 3 3), (87, .int .i64 3), (88, .int .i64 2), (90, .int .i64 2)] (by kernel_rfl) rfl ?_
                refine GL.sem (j := 2) (run_idxRd (P := Try.prog) (k := .i64) (t := 36) (A := (some ⟨p118, 0, none⟩)) (len := 3) (cap := 3) (j := 2) (by kernel_rfl) rfl (H147.rdRow 2 rfl) (by first | exact dg_length _ | rw [dg_length]; first | rfl | assumption | (symm; assumption) | (simp; done) | (rw [List.length_take]; omega) | omega) (by omega)) [0, 1, 2, 11, 12, 14, 86, 87, 88, 90, 91] [(0, .int .u64 (a : Int)), (1, .int .u64 (b : Int)), (2, .int .u64 (p : Int)), (11, .int .i64 (((bandV s m l a b p) : Nat) : Int)), (12, .int .i64 (((bandE s m l a b p) : Nat) : Int)), (14, .int .i64 3), (86, .slice (some ⟨p118, 0, none⟩) 3 3), (87, .int .i64 3), (88, .int .i64 2), (90, .int .i64 2), (91, .pointer (Option.map (fun x => Addr.add x 2) (some ⟨p118, 0, none⟩)))] (by kernel_rfl) (by kernel_rfl) rfl ?_
                refine GL.sem (j := 3) (run_ldRd (P := Try.prog) (ty := 22) (A := (some ⟨p118, 0, none⟩)) (j := 2) (v := .int .u64 (s : Int)) (by kernel_rfl) (H147.rdRow 2 rfl) (dg_at rfl)) [0, 1, 2, 11, 12, 14, 86, 87, 88, 90, 92] [(0, .int .u64 (a : Int)), (1, .int .u64 (b : Int)), (2, .int .u64 (p : Int)), (11, .int .i64 (((bandV s m l a b p) : Nat) : Int)), (12, .int .i64 (((bandE s m l a b p) : Nat) : Int)), (14, .int .i64 3), (86, .slice (some ⟨p118, 0, none⟩) 3 3), (87, .int .i64 3), (88, .int .i64 2), (90, .int .i64 2), (92, .int .u64 (s : Int))] (by kernel_rfl) (by kernel_rfl) rfl ?_
                refine GL.run (j := 5) 2 [0, 1, 2, 11, 12, 14, 15, 16, 86, 87, 88] [(0, .int .u64 (a : Int)), (1, .int .u64 (b : Int)), (2, .int .u64 (p : Int)), (11, .int .i64 (((bandV s m l a b p) : Nat) : Int)), (12, .int .i64 (((bandE s m l a b p) : Nat) : Int)), (14, .int .i64 3), (15, .int .i64 2), (16, .int .u64 (s : Int)), (86, .slice (some ⟨p118, 0, none⟩) 3 3), (87, .int .i64 3), (88, .int .i64 2)] (by kernel_rfl) rfl ?_
                refine GL.k rfl hK157 (fun _ _ h => h) ?_
                refine G.seqK fun K158 hK159 => ?_
                refine G.region ?_
                refine GL.run (j := 4) 4 [0, 1, 2, 11, 12, 14, 15, 86, 87, 88, 93, 94, 95, 96] [(0, .int .u64 (a : Int)), (1, .int .u64 (b : Int)), (2, .int .u64 (p : Int)), (11, .int .i64 (((bandV s m l a b p) : Nat) : Int)), (12, .int .i64 (((bandE s m l a b p) : Nat) : Int)), (14, .int .i64 3), (15, .int .i64 2), (86, .slice (some ⟨p118, 0, none⟩) 3 3), (87, .int .i64 3), (88, .int .i64 2), (93, .int .u64 (a : Int)), (94, .int .u64 (b : Int)), (95, .int .u64 (p : Int)), (96, .int .u64 (s : Int))] (by kernel_rfl) rfl ?_
                refine GL.call (j := 5) (Enough5_calls a b p s ha hb hp hs w146) (by kernel_rfl) rfl (fun e_ w160 hR => ?_)
                obtain ⟨rfl, H162⟩ := hR
                have H161 : Hp w [] [.blk p3 [.int .u64 (s : Int), .int .u64 (m : Int), .int .u64 (l : Int)] 42, .row (some ⟨p100, 0, none⟩) 2 2 22 1 (dg [a, b]), .row (some ⟨p118, 0, none⟩) 3 3 22 1 (dg [l, m, s])] w160 := H147.callNil H162
                refine ⟨_, rfl, [0, 1, 2, 11, 12, 14, 15, 86, 87, 88, 97], [(0, .int .u64 (a : Int)), (1, .int .u64 (b : Int)), (2, .int .u64 (p : Int)), (11, .int .i64 (((bandV s m l a b p) : Nat) : Int)), (12, .int .i64 (((bandE s m l a b p) : Nat) : Int)), (14, .int .i64 3), (15, .int .i64 2), (86, .slice (some ⟨p118, 0, none⟩) 3 3), (87, .int .i64 3), (88, .int .i64 2), (97, .bool (enough a b p s))], by kernel_rfl, ?_⟩
                refine GL.k rfl hK159 (fun _ _ h => h) ?_
                cases hb163 : (enough a b p s)
                · skip
                  have hS := hb163
                  refine G.no rfl ?_
                  refine G.skipK hK155 (fun _ _ h => h) ?_
                  refine G.region ?_
                  refine GL.run (j := 2) 2 [0, 1, 2, 11, 12, 14, 86, 87, 88] [(0, .int .u64 (a : Int)), (1, .int .u64 (b : Int)), (2, .int .u64 (p : Int)), (11, .int .i64 (((bandV s m l a b p) : Nat) : Int)), (12, .int .i64 (((bandE s m l a b p) : Nat) : Int)), (14, .int .i64 3), (86, .slice (some ⟨p118, 0, none⟩) 3 3), (87, .int .i64 3), (88, .int .i64 3)] (by kernel_rfl) rfl ?_
                  refine GL.round rfl ?_
                  refine G.seqK fun K164 hK165 => ?_
                  refine G.region ?_
                  refine GL.run (j := 1) 1 [0, 1, 2, 11, 12, 14, 86, 87, 88, 89] [(0, .int .u64 (a : Int)), (1, .int .u64 (b : Int)), (2, .int .u64 (p : Int)), (11, .int .i64 (((bandV s m l a b p) : Nat) : Int)), (12, .int .i64 (((bandE s m l a b p) : Nat) : Int)), (14, .int .i64 3), (86, .slice (some ⟨p118, 0, none⟩) 3 3), (87, .int .i64 3), (88, .int .i64 3), (89, .bool false)] (by kernel_rfl) rfl ?_
                  refine GL.k rfl hK165 (fun _ _ h => h) ?_
                  refine G.seqK fun K166 hK167 => ?_
                  refine G.no rfl ?_
                  refine G.exitK hK115 (fun _ _ h => h) ?_
                  refine G.seqK fun K168 hK169 => ?_
                  refine G.region ?_
                  refine GL.run (j := 3) 3 [11, 14, 103] [(11, .int .i64 (((bandV s m l a b p) : Nat) : Int)), (14, .int .i64 3), (103, .bool ((((bandE s m l a b p) : Nat) : Int) == 0))] (by kernel_rfl) rfl ?_
                  have hb170 : ((((bandE s m l a b p) : Nat) : Int) == 0) = true := by rw [beq_iff_eq, show bandE s m l a b p = 0 from by rw [bandE, if_pos (by omega)]]; rfl
                  rw [hb170]
                  refine GL.run (j := 8) 5 [10] [(10, .bool ((((bandV s m l a b p) : Nat) : Int) == 3))] (by kernel_rfl) rfl ?_
                  refine GL.k rfl hK169 (fun _ _ h => h) ?_
                  refine G.ret ?_
                  intro F_ hF_ hM_
                  refine hRet _ _ (bodyPost_1 rfl (RV.tmp rfl) ?_ F_ hF_ hM_)
                  have hb171 : ((((bandV s m l a b p) : Nat) : Int) == 3) = true := by rw [beq_iff_eq, show bandV s m l a b p = 3 from by rw [bandV, if_pos (by omega)]; simp [hS, hM, hL]]; rfl
                  rw [hb171]
                  exact ⟨rfl, H161.sub (List.nil_sublist _)⟩
                · skip
                  have hS := hb163
                  refine G.yes rfl ?_
                  refine G.region ?_
                  refine GL.run (j := 3) 3 [0, 1, 2, 11, 12, 14, 86, 87, 88] [(0, .int .u64 (a : Int)), (1, .int .u64 (b : Int)), (2, .int .u64 (p : Int)), (11, .int .i64 (((bandV s m l a b p) : Nat) : Int)), (12, .int .i64 (((bandE s m l a b p) : Nat) : Int)), (14, .int .i64 0), (86, .slice (some ⟨p118, 0, none⟩) 3 3), (87, .int .i64 3), (88, .int .i64 2)] (by kernel_rfl) rfl ?_
                  refine GL.k rfl hK155 (fun _ _ h => h) ?_
                  refine G.region ?_
                  refine GL.run (j := 2) 2 [0, 1, 2, 11, 12, 14, 86, 87, 88] [(0, .int .u64 (a : Int)), (1, .int .u64 (b : Int)), (2, .int .u64 (p : Int)), (11, .int .i64 (((bandV s m l a b p) : Nat) : Int)), (12, .int .i64 (((bandE s m l a b p) : Nat) : Int)), (14, .int .i64 0), (86, .slice (some ⟨p118, 0, none⟩) 3 3), (87, .int .i64 3), (88, .int .i64 3)] (by kernel_rfl) rfl ?_
                  refine GL.round rfl ?_
                  refine G.seqK fun K172 hK173 => ?_
                  refine G.region ?_
                  refine GL.run (j := 1) 1 [0, 1, 2, 11, 12, 14, 86, 87, 88, 89] [(0, .int .u64 (a : Int)), (1, .int .u64 (b : Int)), (2, .int .u64 (p : Int)), (11, .int .i64 (((bandV s m l a b p) : Nat) : Int)), (12, .int .i64 (((bandE s m l a b p) : Nat) : Int)), (14, .int .i64 0), (86, .slice (some ⟨p118, 0, none⟩) 3 3), (87, .int .i64 3), (88, .int .i64 3), (89, .bool false)] (by kernel_rfl) rfl ?_
                  refine GL.k rfl hK173 (fun _ _ h => h) ?_
                  refine G.seqK fun K174 hK175 => ?_
                  refine G.no rfl ?_
                  refine G.exitK hK115 (fun _ _ h => h) ?_
                  refine G.seqK fun K176 hK177 => ?_
                  refine G.region ?_
                  refine GL.run (j := 3) 3 [11, 14, 103] [(11, .int .i64 (((bandV s m l a b p) : Nat) : Int)), (14, .int .i64 0), (103, .bool ((((bandE s m l a b p) : Nat) : Int) == 0))] (by kernel_rfl) rfl ?_
                  have hb178 : ((((bandE s m l a b p) : Nat) : Int) == 0) = true := by rw [beq_iff_eq, show bandE s m l a b p = 0 from by rw [bandE, if_pos (by omega)]]; rfl
                  rw [hb178]
                  refine GL.run (j := 8) 5 [10] [(10, .bool ((((bandV s m l a b p) : Nat) : Int) == 0))] (by kernel_rfl) rfl ?_
                  refine GL.k rfl hK177 (fun _ _ h => h) ?_
                  refine G.ret ?_
                  intro F_ hF_ hM_
                  refine hRet _ _ (bodyPost_1 rfl (RV.tmp rfl) ?_ F_ hF_ hM_)
                  have hb179 : ((((bandV s m l a b p) : Nat) : Int) == 0) = true := by rw [beq_iff_eq, show bandV s m l a b p = 0 from by rw [bandV, if_pos (by omega)]; simp [hS, hM, hL]]; rfl
                  rw [hb179]
                  exact ⟨rfl, H161.sub (List.nil_sublist _)⟩
              · skip
                have hM := hb149
                refine G.yes rfl ?_
                refine G.region ?_
                refine GL.run (j := 3) 3 [0, 1, 2, 11, 12, 14, 86, 87, 88] [(0, .int .u64 (a : Int)), (1, .int .u64 (b : Int)), (2, .int .u64 (p : Int)), (11, .int .i64 (((bandV s m l a b p) : Nat) : Int)), (12, .int .i64 (((bandE s m l a b p) : Nat) : Int)), (14, .int .i64 1), (86, .slice (some ⟨p118, 0, none⟩) 3 3), (87, .int .i64 3), (88, .int .i64 1)] (by kernel_rfl) rfl ?_
                refine GL.k rfl hK141 (fun _ _ h => h) ?_
                refine G.region ?_
                refine GL.run (j := 2) 2 [0, 1, 2, 11, 12, 14, 86, 87, 88] [(0, .int .u64 (a : Int)), (1, .int .u64 (b : Int)), (2, .int .u64 (p : Int)), (11, .int .i64 (((bandV s m l a b p) : Nat) : Int)), (12, .int .i64 (((bandE s m l a b p) : Nat) : Int)), (14, .int .i64 1), (86, .slice (some ⟨p118, 0, none⟩) 3 3), (87, .int .i64 3), (88, .int .i64 2)] (by kernel_rfl) rfl ?_
                refine GL.round rfl ?_
                refine G.seqK fun K180 hK181 => ?_
                refine G.region ?_
                refine GL.run (j := 1) 1 [0, 1, 2, 11, 12, 14, 86, 87, 88, 89] [(0, .int .u64 (a : Int)), (1, .int .u64 (b : Int)), (2, .int .u64 (p : Int)), (11, .int .i64 (((bandV s m l a b p) : Nat) : Int)), (12, .int .i64 (((bandE s m l a b p) : Nat) : Int)), (14, .int .i64 1), (86, .slice (some ⟨p118, 0, none⟩) 3 3), (87, .int .i64 3), (88, .int .i64 2), (89, .bool true)] (by kernel_rfl) rfl ?_
                refine GL.k rfl hK181 (fun _ _ h => h) ?_
                refine G.seqK fun K182 hK183 => ?_
                refine G.yes rfl ?_
                refine G.skipK hK183 (fun _ _ h => h) ?_
                refine G.seqK fun K184 hK185 => ?_
                refine G.block ?_
                refine G.seqK fun K186 hK187 => ?_
                refine G.region ?_
                refine GL.run (j := 1) 1 [0, 1, 2, 11, 12, 14, 86, 87, 88, 90] [(0, .int .u64 (a : Int)), (1, .int .u64 (b : Int)), (2, .int .u64 (p : Int)), (11, .int .i64 (((bandV s m l a b p) : Nat) : Int)), (12, .int .i64 (((bandE s m l a b p) : Nat) : Int)), (14, .int .i64 1), (86, .slice (some ⟨p118, 0, none⟩) 3 3), (87, .int .i64 3), (88, .int .i64 2), (90, .int .i64 2)] (by kernel_rfl) rfl ?_
                refine GL.sem (j := 2) (run_idxRd (P := Try.prog) (k := .i64) (t := 36) (A := (some ⟨p118, 0, none⟩)) (len := 3) (cap := 3) (j := 2) (by kernel_rfl) rfl (H147.rdRow 2 rfl) (by first | exact dg_length _ | rw [dg_length]; first | rfl | assumption | (symm; assumption) | (simp; done) | (rw [List.length_take]; omega) | omega) (by omega)) [0, 1, 2, 11, 12, 14, 86, 87, 88, 90, 91] [(0, .int .u64 (a : Int)), (1, .int .u64 (b : Int)), (2, .int .u64 (p : Int)), (11, .int .i64 (((bandV s m l a b p) : Nat) : Int)), (12, .int .i64 (((bandE s m l a b p) : Nat) : Int)), (14, .int .i64 1), (86, .slice (some ⟨p118, 0, none⟩) 3 3), (87, .int .i64 3), (88, .int .i64 2), (90, .int .i64 2), (91, .pointer (Option.map (fun x => Addr.add x 2) (some ⟨p118, 0, none⟩)))] (by kernel_rfl) (by kernel_rfl) rfl ?_
                refine GL.sem (j := 3) (run_ldRd (P := Try.prog) (ty := 22) (A := (some ⟨p118, 0, none⟩)) (j := 2) (v := .int .u64 (s : Int)) (by kernel_rfl) (H147.rdRow 2 rfl) (dg_at rfl)) [0, 1, 2, 11, 12, 14, 86, 87, 88, 90, 92] [(0, .int .u64 (a : Int)), (1, .int .u64 (b : Int)), (2, .int .u64 (p : Int)), (11, .int .i64 (((bandV s m l a b p) : Nat) : Int)), (12, .int .i64 (((bandE s m l a b p) : Nat) : Int)), (14, .int .i64 1), (86, .slice (some ⟨p118, 0, none⟩) 3 3), (87, .int .i64 3), (88, .int .i64 2), (90, .int .i64 2), (92, .int .u64 (s : Int))] (by kernel_rfl) (by kernel_rfl) rfl ?_
                refine GL.run (j := 5) 2 [0, 1, 2, 11, 12, 14, 15, 16, 86, 87, 88] [(0, .int .u64 (a : Int)), (1, .int .u64 (b : Int)), (2, .int .u64 (p : Int)), (11, .int .i64 (((bandV s m l a b p) : Nat) : Int)), (12, .int .i64 (((bandE s m l a b p) : Nat) : Int)), (14, .int .i64 1), (15, .int .i64 2), (16, .int .u64 (s : Int)), (86, .slice (some ⟨p118, 0, none⟩) 3 3), (87, .int .i64 3), (88, .int .i64 2)] (by kernel_rfl) rfl ?_
                refine GL.k rfl hK187 (fun _ _ h => h) ?_
                refine G.seqK fun K188 hK189 => ?_
                refine G.region ?_
                refine GL.run (j := 4) 4 [0, 1, 2, 11, 12, 14, 15, 86, 87, 88, 93, 94, 95, 96] [(0, .int .u64 (a : Int)), (1, .int .u64 (b : Int)), (2, .int .u64 (p : Int)), (11, .int .i64 (((bandV s m l a b p) : Nat) : Int)), (12, .int .i64 (((bandE s m l a b p) : Nat) : Int)), (14, .int .i64 1), (15, .int .i64 2), (86, .slice (some ⟨p118, 0, none⟩) 3 3), (87, .int .i64 3), (88, .int .i64 2), (93, .int .u64 (a : Int)), (94, .int .u64 (b : Int)), (95, .int .u64 (p : Int)), (96, .int .u64 (s : Int))] (by kernel_rfl) rfl ?_
                refine GL.call (j := 5) (Enough5_calls a b p s ha hb hp hs w146) (by kernel_rfl) rfl (fun e_ w190 hR => ?_)
                obtain ⟨rfl, H192⟩ := hR
                have H191 : Hp w [] [.blk p3 [.int .u64 (s : Int), .int .u64 (m : Int), .int .u64 (l : Int)] 42, .row (some ⟨p100, 0, none⟩) 2 2 22 1 (dg [a, b]), .row (some ⟨p118, 0, none⟩) 3 3 22 1 (dg [l, m, s])] w190 := H147.callNil H192
                refine ⟨_, rfl, [0, 1, 2, 11, 12, 14, 15, 86, 87, 88, 97], [(0, .int .u64 (a : Int)), (1, .int .u64 (b : Int)), (2, .int .u64 (p : Int)), (11, .int .i64 (((bandV s m l a b p) : Nat) : Int)), (12, .int .i64 (((bandE s m l a b p) : Nat) : Int)), (14, .int .i64 1), (15, .int .i64 2), (86, .slice (some ⟨p118, 0, none⟩) 3 3), (87, .int .i64 3), (88, .int .i64 2), (97, .bool (enough a b p s))], by kernel_rfl, ?_⟩
                refine GL.k rfl hK189 (fun _ _ h => h) ?_
                cases hb193 : (enough a b p s)
                · skip
                  have hS := hb193
                  refine G.no rfl ?_
                  refine G.skipK hK185 (fun _ _ h => h) ?_
                  refine G.region ?_
                  refine GL.run (j := 2) 2 [0, 1, 2, 11, 12, 14, 86, 87, 88] [(0, .int .u64 (a : Int)), (1, .int .u64 (b : Int)), (2, .int .u64 (p : Int)), (11, .int .i64 (((bandV s m l a b p) : Nat) : Int)), (12, .int .i64 (((bandE s m l a b p) : Nat) : Int)), (14, .int .i64 1), (86, .slice (some ⟨p118, 0, none⟩) 3 3), (87, .int .i64 3), (88, .int .i64 3)] (by kernel_rfl) rfl ?_
                  refine GL.round rfl ?_
                  refine G.seqK fun K194 hK195 => ?_
                  refine G.region ?_
                  refine GL.run (j := 1) 1 [0, 1, 2, 11, 12, 14, 86, 87, 88, 89] [(0, .int .u64 (a : Int)), (1, .int .u64 (b : Int)), (2, .int .u64 (p : Int)), (11, .int .i64 (((bandV s m l a b p) : Nat) : Int)), (12, .int .i64 (((bandE s m l a b p) : Nat) : Int)), (14, .int .i64 1), (86, .slice (some ⟨p118, 0, none⟩) 3 3), (87, .int .i64 3), (88, .int .i64 3), (89, .bool false)] (by kernel_rfl) rfl ?_
                  refine GL.k rfl hK195 (fun _ _ h => h) ?_
                  refine G.seqK fun K196 hK197 => ?_
                  refine G.no rfl ?_
                  refine G.exitK hK115 (fun _ _ h => h) ?_
                  refine G.seqK fun K198 hK199 => ?_
                  refine G.region ?_
                  refine GL.run (j := 3) 3 [11, 14, 103] [(11, .int .i64 (((bandV s m l a b p) : Nat) : Int)), (14, .int .i64 1), (103, .bool ((((bandE s m l a b p) : Nat) : Int) == 0))] (by kernel_rfl) rfl ?_
                  have hb200 : ((((bandE s m l a b p) : Nat) : Int) == 0) = true := by rw [beq_iff_eq, show bandE s m l a b p = 0 from by rw [bandE, if_pos (by omega)]]; rfl
                  rw [hb200]
                  refine GL.run (j := 8) 5 [10] [(10, .bool ((((bandV s m l a b p) : Nat) : Int) == 1))] (by kernel_rfl) rfl ?_
                  refine GL.k rfl hK199 (fun _ _ h => h) ?_
                  refine G.ret ?_
                  intro F_ hF_ hM_
                  refine hRet _ _ (bodyPost_1 rfl (RV.tmp rfl) ?_ F_ hF_ hM_)
                  have hb201 : ((((bandV s m l a b p) : Nat) : Int) == 1) = true := by rw [beq_iff_eq, show bandV s m l a b p = 1 from by rw [bandV, if_pos (by omega)]; simp [hS, hM, hL]]; rfl
                  rw [hb201]
                  exact ⟨rfl, H191.sub (List.nil_sublist _)⟩
                · skip
                  have hS := hb193
                  refine G.yes rfl ?_
                  refine G.region ?_
                  refine GL.run (j := 3) 3 [0, 1, 2, 11, 12, 14, 86, 87, 88] [(0, .int .u64 (a : Int)), (1, .int .u64 (b : Int)), (2, .int .u64 (p : Int)), (11, .int .i64 (((bandV s m l a b p) : Nat) : Int)), (12, .int .i64 (((bandE s m l a b p) : Nat) : Int)), (14, .int .i64 0), (86, .slice (some ⟨p118, 0, none⟩) 3 3), (87, .int .i64 3), (88, .int .i64 2)] (by kernel_rfl) rfl ?_
                  refine GL.k rfl hK185 (fun _ _ h => h) ?_
                  refine G.region ?_
                  refine GL.run (j := 2) 2 [0, 1, 2, 11, 12, 14, 86, 87, 88] [(0, .int .u64 (a : Int)), (1, .int .u64 (b : Int)), (2, .int .u64 (p : Int)), (11, .int .i64 (((bandV s m l a b p) : Nat) : Int)), (12, .int .i64 (((bandE s m l a b p) : Nat) : Int)), (14, .int .i64 0), (86, .slice (some ⟨p118, 0, none⟩) 3 3), (87, .int .i64 3), (88, .int .i64 3)] (by kernel_rfl) rfl ?_
                  refine GL.round rfl ?_
                  refine G.seqK fun K202 hK203 => ?_
                  refine G.region ?_
                  refine GL.run (j := 1) 1 [0, 1, 2, 11, 12, 14, 86, 87, 88, 89] [(0, .int .u64 (a : Int)), (1, .int .u64 (b : Int)), (2, .int .u64 (p : Int)), (11, .int .i64 (((bandV s m l a b p) : Nat) : Int)), (12, .int .i64 (((bandE s m l a b p) : Nat) : Int)), (14, .int .i64 0), (86, .slice (some ⟨p118, 0, none⟩) 3 3), (87, .int .i64 3), (88, .int .i64 3), (89, .bool false)] (by kernel_rfl) rfl ?_
                  refine GL.k rfl hK203 (fun _ _ h => h) ?_
                  refine G.seqK fun K204 hK205 => ?_
                  refine G.no rfl ?_
                  refine G.exitK hK115 (fun _ _ h => h) ?_
                  refine G.seqK fun K206 hK207 => ?_
                  refine G.region ?_
                  refine GL.run (j := 3) 3 [11, 14, 103] [(11, .int .i64 (((bandV s m l a b p) : Nat) : Int)), (14, .int .i64 0), (103, .bool ((((bandE s m l a b p) : Nat) : Int) == 0))] (by kernel_rfl) rfl ?_
                  have hb208 : ((((bandE s m l a b p) : Nat) : Int) == 0) = true := by rw [beq_iff_eq, show bandE s m l a b p = 0 from by rw [bandE, if_pos (by omega)]]; rfl
                  rw [hb208]
                  refine GL.run (j := 8) 5 [10] [(10, .bool ((((bandV s m l a b p) : Nat) : Int) == 0))] (by kernel_rfl) rfl ?_
                  refine GL.k rfl hK207 (fun _ _ h => h) ?_
                  refine G.ret ?_
                  intro F_ hF_ hM_
                  refine hRet _ _ (bodyPost_1 rfl (RV.tmp rfl) ?_ F_ hF_ hM_)
                  have hb209 : ((((bandV s m l a b p) : Nat) : Int) == 0) = true := by rw [beq_iff_eq, show bandV s m l a b p = 0 from by rw [bandV, if_pos (by omega)]; simp [hS, hM, hL]]; rfl
                  rw [hb209]
                  exact ⟨rfl, H191.sub (List.nil_sublist _)⟩
            · skip
              have hL := hb135
              refine G.yes rfl ?_
              refine G.region ?_
              refine GL.run (j := 3) 3 [0, 1, 2, 11, 12, 14, 86, 87, 88] [(0, .int .u64 (a : Int)), (1, .int .u64 (b : Int)), (2, .int .u64 (p : Int)), (11, .int .i64 (((bandV s m l a b p) : Nat) : Int)), (12, .int .i64 (((bandE s m l a b p) : Nat) : Int)), (14, .int .i64 2), (86, .slice (some ⟨p118, 0, none⟩) 3 3), (87, .int .i64 3), (88, .int .i64 0)] (by kernel_rfl) rfl ?_
              refine GL.k rfl hK127 (fun _ _ h => h) ?_
              refine G.region ?_
              refine GL.run (j := 2) 2 [0, 1, 2, 11, 12, 14, 86, 87, 88] [(0, .int .u64 (a : Int)), (1, .int .u64 (b : Int)), (2, .int .u64 (p : Int)), (11, .int .i64 (((bandV s m l a b p) : Nat) : Int)), (12, .int .i64 (((bandE s m l a b p) : Nat) : Int)), (14, .int .i64 2), (86, .slice (some ⟨p118, 0, none⟩) 3 3), (87, .int .i64 3), (88, .int .i64 1)] (by kernel_rfl) rfl ?_
              refine GL.round rfl ?_
              refine G.seqK fun K210 hK211 => ?_
              refine G.region ?_
              refine GL.run (j := 1) 1 [0, 1, 2, 11, 12, 14, 86, 87, 88, 89] [(0, .int .u64 (a : Int)), (1, .int .u64 (b : Int)), (2, .int .u64 (p : Int)), (11, .int .i64 (((bandV s m l a b p) : Nat) : Int)), (12, .int .i64 (((bandE s m l a b p) : Nat) : Int)), (14, .int .i64 2), (86, .slice (some ⟨p118, 0, none⟩) 3 3), (87, .int .i64 3), (88, .int .i64 1), (89, .bool true)] (by kernel_rfl) rfl ?_
              refine GL.k rfl hK211 (fun _ _ h => h) ?_
              refine G.seqK fun K212 hK213 => ?_
              refine G.yes rfl ?_
              refine G.skipK hK213 (fun _ _ h => h) ?_
              refine G.seqK fun K214 hK215 => ?_
              refine G.block ?_
              refine G.seqK fun K216 hK217 => ?_
              refine G.region ?_
              refine GL.run (j := 1) 1 [0, 1, 2, 11, 12, 14, 86, 87, 88, 90] [(0, .int .u64 (a : Int)), (1, .int .u64 (b : Int)), (2, .int .u64 (p : Int)), (11, .int .i64 (((bandV s m l a b p) : Nat) : Int)), (12, .int .i64 (((bandE s m l a b p) : Nat) : Int)), (14, .int .i64 2), (86, .slice (some ⟨p118, 0, none⟩) 3 3), (87, .int .i64 3), (88, .int .i64 1), (90, .int .i64 1)] (by kernel_rfl) rfl ?_
              refine GL.sem (j := 2) (run_idxRd (P := Try.prog) (k := .i64) (t := 36) (A := (some ⟨p118, 0, none⟩)) (len := 3) (cap := 3) (j := 1) (by kernel_rfl) rfl (H133.rdRow 2 rfl) (by first | exact dg_length _ | rw [dg_length]; first | rfl | assumption | (symm; assumption) | (simp; done) | (rw [List.length_take]; omega) | omega) (by omega)) [0, 1, 2, 11, 12, 14, 86, 87, 88, 90, 91] [(0, .int .u64 (a : Int)), (1, .int .u64 (b : Int)), (2, .int .u64 (p : Int)), (11, .int .i64 (((bandV s m l a b p) : Nat) : Int)), (12, .int .i64 (((bandE s m l a b p) : Nat) : Int)), (14, .int .i64 2), (86, .slice (some ⟨p118, 0, none⟩) 3 3), (87, .int .i64 3), (88, .int .i64 1), (90, .int .i64 1), (91, .pointer (Option.map (fun x => Addr.add x 1) (some ⟨p118, 0, none⟩)))] (by kernel_rfl) (by kernel_rfl) rfl ?_
              refine GL.sem (j := 3) (run_ldRd (P := Try.prog) (ty := 22) (A := (some ⟨p118, 0, none⟩)) (j := 1) (v := .int .u64 (m : Int)) (by kernel_rfl) (H133.rdRow 2 rfl) (dg_at rfl)) [0, 1, 2, 11, 12, 14, 86, 87, 88, 90, 92] [(0, .int .u64 (a : Int)), (1, .int .u64 (b : Int)), (2, .int .u64 (p : Int)), (11, .int .i64 (((bandV s m l a b p) : Nat) : Int)), (12, .int .i64 (((bandE s m l a b p) : Nat) : Int)), (14, .int .i64 2), (86, .slice (some ⟨p118, 0, none⟩) 3 3), (87, .int .i64 3), (88, .int .i64 1), (90, .int .i64 1), (92, .int .u64 (m : Int))] (by kernel_rfl) (by kernel_rfl) rfl ?_
              refine GL.run (j := 5) 2 [0, 1, 2, 11, 12, 14, 15, 16, 86, 87, 88] [(0, .int .u64 (a : Int)), (1, .int .u64 (b : Int)), (2, .int .u64 (p : Int)), (11, .int .i64 (((bandV s m l a b p) : Nat) : Int)), (12, .int .i64 (((bandE s m l a b p) : Nat) : Int)), (14, .int .i64 2), (15, .int .i64 1), (16, .int .u64 (m : Int)), (86, .slice (some ⟨p118, 0, none⟩) 3 3), (87, .int .i64 3), (88, .int .i64 1)] (by kernel_rfl) rfl ?_
              refine GL.k rfl hK217 (fun _ _ h => h) ?_
              refine G.seqK fun K218 hK219 => ?_
              refine G.region ?_
              refine GL.run (j := 4) 4 [0, 1, 2, 11, 12, 14, 15, 86, 87, 88, 93, 94, 95, 96] [(0, .int .u64 (a : Int)), (1, .int .u64 (b : Int)), (2, .int .u64 (p : Int)), (11, .int .i64 (((bandV s m l a b p) : Nat) : Int)), (12, .int .i64 (((bandE s m l a b p) : Nat) : Int)), (14, .int .i64 2), (15, .int .i64 1), (86, .slice (some ⟨p118, 0, none⟩) 3 3), (87, .int .i64 3), (88, .int .i64 1), (93, .int .u64 (a : Int)), (94, .int .u64 (b : Int)), (95, .int .u64 (p : Int)), (96, .int .u64 (m : Int))] (by kernel_rfl) rfl ?_
              refine GL.call (j := 5) (Enough5_calls a b p m ha hb hp hm w132) (by kernel_rfl) rfl (fun e_ w220 hR => ?_)
              obtain ⟨rfl, H222⟩ := hR
              have H221 : Hp w [] [.blk p3 [.int .u64 (s : Int), .int .u64 (m : Int), .int .u64 (l : Int)] 42, .row (some ⟨p100, 0, none⟩) 2 2 22 1 (dg [a, b]), .row (some ⟨p118, 0, none⟩) 3 3 22 1 (dg [l, m, s])] w220 := H133.callNil H222
              refine ⟨_, rfl, [0, 1, 2, 11, 12, 14, 15, 86, 87, 88, 97], [(0, .int .u64 (a : Int)), (1, .int .u64 (b : Int)), (2, .int .u64 (p : Int)), (11, .int .i64 (((bandV s m l a b p) : Nat) : Int)), (12, .int .i64 (((bandE s m l a b p) : Nat) : Int)), (14, .int .i64 2), (15, .int .i64 1), (86, .slice (some ⟨p118, 0, none⟩) 3 3), (87, .int .i64 3), (88, .int .i64 1), (97, .bool (enough a b p m))], by kernel_rfl, ?_⟩
              refine GL.k rfl hK219 (fun _ _ h => h) ?_
              cases hb223 : (enough a b p m)
              · skip
                have hM := hb223
                refine G.no rfl ?_
                refine G.skipK hK215 (fun _ _ h => h) ?_
                refine G.region ?_
                refine GL.run (j := 2) 2 [0, 1, 2, 11, 12, 14, 86, 87, 88] [(0, .int .u64 (a : Int)), (1, .int .u64 (b : Int)), (2, .int .u64 (p : Int)), (11, .int .i64 (((bandV s m l a b p) : Nat) : Int)), (12, .int .i64 (((bandE s m l a b p) : Nat) : Int)), (14, .int .i64 2), (86, .slice (some ⟨p118, 0, none⟩) 3 3), (87, .int .i64 3), (88, .int .i64 2)] (by kernel_rfl) rfl ?_
                refine GL.round rfl ?_
                refine G.seqK fun K224 hK225 => ?_
                refine G.region ?_
                refine GL.run (j := 1) 1 [0, 1, 2, 11, 12, 14, 86, 87, 88, 89] [(0, .int .u64 (a : Int)), (1, .int .u64 (b : Int)), (2, .int .u64 (p : Int)), (11, .int .i64 (((bandV s m l a b p) : Nat) : Int)), (12, .int .i64 (((bandE s m l a b p) : Nat) : Int)), (14, .int .i64 2), (86, .slice (some ⟨p118, 0, none⟩) 3 3), (87, .int .i64 3), (88, .int .i64 2), (89, .bool true)] (by kernel_rfl) rfl ?_
                refine GL.k rfl hK225 (fun _ _ h => h) ?_
                refine G.seqK fun K226 hK227 => ?_
                refine G.yes rfl ?_
                refine G.skipK hK227 (fun _ _ h => h) ?_
                refine G.seqK fun K228 hK229 => ?_
                refine G.block ?_
                refine G.seqK fun K230 hK231 => ?_
                refine G.region ?_
                refine GL.run (j := 1) 1 [0, 1, 2, 11, 12, 14, 86, 87, 88, 90] [(0, .int .u64 (a : Int)), (1, .int .u64 (b : Int)), (2, .int .u64 (p : Int)), (11, .int .i64 (((bandV s m l a b p) : Nat) : Int)), (12, .int .i64 (((bandE s m l a b p) : Nat) : Int)), (14, .int .i64 2), (86, .slice (some ⟨p118, 0, none⟩) 3 3), (87, .int .i64 3), (88, .int .i64 2), (90, .int .i64 2)] (by kernel_rfl) rfl ?_
                refine GL.sem (j := 2) (run_idxRd (P := Try.prog) (k := .i64) (t := 36) (A := (some ⟨p118, 0, none⟩)) (len := 3) (cap := 3) (j := 2) (by kernel_rfl) rfl (H221.rdRow 2 rfl) (by first | exact dg_length _ | rw [dg_length]; first | rfl | assumption | (symm; assumption) | (simp; done) | (rw [List.length_take]; omega) | omega) (by omega)) [0, 1, 2, 11, 12, 14, 86, 87, 88, 90, 91] [(0, .int .u64 (a : Int)), (1, .int .u64 (b : Int)), (2, .int .u64 (p : Int)), (11, .int .i64 (((bandV s m l a b p) : Nat) : Int)), (12, .int .i64 (((bandE s m l a b p) : Nat) : Int)), (14, .int .i64 2), (86, .slice (some ⟨p118, 0, none⟩) 3 3), (87, .int .i64 3), (88, .int .i64 2), (90, .int .i64 2), (91, .pointer (Option.map (fun x => Addr.add x 2) (some ⟨p118, 0, none⟩)))] (by kernel_rfl) (by kernel_rfl) rfl ?_
                refine GL.sem (j := 3) (run_ldRd (P := Try.prog) (ty := 22) (A := (some ⟨p118, 0, none⟩)) (j := 2) (v := .int .u64 (s : Int)) (by kernel_rfl) (H221.rdRow 2 rfl) (dg_at rfl)) [0, 1, 2, 11, 12, 14, 86, 87, 88, 90, 92] [(0, .int .u64 (a : Int)), (1, .int .u64 (b : Int)), (2, .int .u64 (p : Int)), (11, .int .i64 (((bandV s m l a b p) : Nat) : Int)), (12, .int .i64 (((bandE s m l a b p) : Nat) : Int)), (14, .int .i64 2), (86, .slice (some ⟨p118, 0, none⟩) 3 3), (87, .int .i64 3), (88, .int .i64 2), (90, .int .i64 2), (92, .int .u64 (s : Int))] (by kernel_rfl) (by kernel_rfl) rfl ?_
                refine GL.run (j := 5) 2 [0, 1, 2, 11, 12, 14, 15, 16, 86, 87, 88] [(0, .int .u64 (a : Int)), (1, .int .u64 (b : Int)), (2, .int .u64 (p : Int)), (11, .int .i64 (((bandV s m l a b p) : Nat) : Int)), (12, .int .i64 (((bandE s m l a b p) : Nat) : Int)), (14, .int .i64 2), (15, .int .i64 2), (16, .int .u64 (s : Int)), (86, .slice (some ⟨p118, 0, none⟩) 3 3), (87, .int .i64 3), (88, .int .i64 2)] (by kernel_rfl) rfl ?_
                refine GL.k rfl hK231 (fun _ _ h => h) ?_
                refine G.seqK fun K232 hK233 => ?_
                refine G.region ?_
                refine GL.run (j := 4) 4 [0, 1, 2, 11, 12, 14, 15, 86, 87, 88, 93, 94, 95, 96] [(0, .int .u64 (a : Int)), (1, .int .u64 (b : Int)), (2, .int .u64 (p : Int)), (11, .int .i64 (((bandV s m l a b p) : Nat) : Int)), (12, .int .i64 (((bandE s m l a b p) : Nat) : Int)), (14, .int .i64 2), (15, .int .i64 2), (86, .slice (some ⟨p118, 0, none⟩) 3 3), (87, .int .i64 3), (88, .int .i64 2), (93, .int .u64 (a : Int)), (94, .int .u64 (b : Int)), (95, .int .u64 (p : Int)), (96, .int .u64 (s : Int))] (by kernel_rfl) rfl ?_
                refine GL.call (j := 5) (Enough5_calls a b p s ha hb hp hs w220) (by kernel_rfl) rfl (fun e_ w234 hR => ?_)
                obtain ⟨rfl, H236⟩ := hR
                have H235 : Hp w [] [.blk p3 [.int .u64 (s : Int), .int .u64 (m : Int), .int .u64 (l : Int)] 42, .row (some ⟨p100, 0, none⟩) 2 2 22 1 (dg [a, b]), .row (some ⟨p118, 0, none⟩) 3 3 22 1 (dg [l, m, s])] w234 := H221.callNil H236
                refine ⟨_, rfl, [0, 1, 2, 11, 12, 14, 15, 86, 87, 88, 97], [(0, .int .u64 (a : Int)), (1, .int .u64 (b : Int)), (2, .int .u64 (p : Int)), (11, .int .i64 (((bandV s m l a b p) : Nat) : Int)), (12, .int .i64 (((bandE s m l a b p) : Nat) : Int)), (14, .int .i64 2), (15, .int .i64 2), (86, .slice (some ⟨p118, 0, none⟩) 3 3), (87, .int .i64 3), (88, .int .i64 2), (97, .bool (enough a b p s))], by kernel_rfl, ?_⟩
                refine GL.k rfl hK233 (fun _ _ h => h) ?_
                cases hb237 : (enough a b p s)
                · skip
                  have hS := hb237
                  refine G.no rfl ?_
                  refine G.skipK hK229 (fun _ _ h => h) ?_
                  refine G.region ?_
                  refine GL.run (j := 2) 2 [0, 1, 2, 11, 12, 14, 86, 87, 88] [(0, .int .u64 (a : Int)), (1, .int .u64 (b : Int)), (2, .int .u64 (p : Int)), (11, .int .i64 (((bandV s m l a b p) : Nat) : Int)), (12, .int .i64 (((bandE s m l a b p) : Nat) : Int)), (14, .int .i64 2), (86, .slice (some ⟨p118, 0, none⟩) 3 3), (87, .int .i64 3), (88, .int .i64 3)] (by kernel_rfl) rfl ?_
                  refine GL.round rfl ?_
                  refine G.seqK fun K238 hK239 => ?_
                  refine G.region ?_
                  refine GL.run (j := 1) 1 [0, 1, 2, 11, 12, 14, 86, 87, 88, 89] [(0, .int .u64 (a : Int)), (1, .int .u64 (b : Int)), (2, .int .u64 (p : Int)), (11, .int .i64 (((bandV s m l a b p) : Nat) : Int)), (12, .int .i64 (((bandE s m l a b p) : Nat) : Int)), (14, .int .i64 2), (86, .slice (some ⟨p118, 0, none⟩) 3 3), (87, .int .i64 3), (88, .int .i64 3), (89, .bool false)] (by kernel_rfl) rfl ?_
                  refine GL.k rfl hK239 (fun _ _ h => h) ?_
                  refine G.seqK fun K240 hK241 => ?_
                  refine G.no rfl ?_
                  refine G.exitK hK115 (fun _ _ h => h) ?_
                  refine G.seqK fun K242 hK243 => ?_
                  refine G.region ?_
                  refine GL.run (j := 3) 3 [11, 14, 103] [(11, .int .i64 (((bandV s m l a b p) : Nat) : Int)), (14, .int .i64 2), (103, .bool ((((bandE s m l a b p) : Nat) : Int) == 0))] (by kernel_rfl) rfl ?_
                  have hb244 : ((((bandE s m l a b p) : Nat) : Int) == 0) = true := by rw [beq_iff_eq, show bandE s m l a b p = 0 from by rw [bandE, if_pos (by omega)]]; rfl
                  rw [hb244]
                  refine GL.run (j := 8) 5 [10] [(10, .bool ((((bandV s m l a b p) : Nat) : Int) == 2))] (by kernel_rfl) rfl ?_
                  refine GL.k rfl hK243 (fun _ _ h => h) ?_
                  refine G.ret ?_
                  intro F_ hF_ hM_
                  refine hRet _ _ (bodyPost_1 rfl (RV.tmp rfl) ?_ F_ hF_ hM_)
                  have hb245 : ((((bandV s m l a b p) : Nat) : Int) == 2) = true := by rw [beq_iff_eq, show bandV s m l a b p = 2 from by rw [bandV, if_pos (by omega)]; simp [hS, hM, hL]]; rfl
                  rw [hb245]
                  exact ⟨rfl, H235.sub (List.nil_sublist _)⟩
                · skip
                  have hS := hb237
                  refine G.yes rfl ?_
                  refine G.region ?_
                  refine GL.run (j := 3) 3 [0, 1, 2, 11, 12, 14, 86, 87, 88] [(0, .int .u64 (a : Int)), (1, .int .u64 (b : Int)), (2, .int .u64 (p : Int)), (11, .int .i64 (((bandV s m l a b p) : Nat) : Int)), (12, .int .i64 (((bandE s m l a b p) : Nat) : Int)), (14, .int .i64 0), (86, .slice (some ⟨p118, 0, none⟩) 3 3), (87, .int .i64 3), (88, .int .i64 2)] (by kernel_rfl) rfl ?_
                  refine GL.k rfl hK229 (fun _ _ h => h) ?_
                  refine G.region ?_
                  refine GL.run (j := 2) 2 [0, 1, 2, 11, 12, 14, 86, 87, 88] [(0, .int .u64 (a : Int)), (1, .int .u64 (b : Int)), (2, .int .u64 (p : Int)), (11, .int .i64 (((bandV s m l a b p) : Nat) : Int)), (12, .int .i64 (((bandE s m l a b p) : Nat) : Int)), (14, .int .i64 0), (86, .slice (some ⟨p118, 0, none⟩) 3 3), (87, .int .i64 3), (88, .int .i64 3)] (by kernel_rfl) rfl ?_
                  refine GL.round rfl ?_
                  refine G.seqK fun K246 hK247 => ?_
                  refine G.region ?_
                  refine GL.run (j := 1) 1 [0, 1, 2, 11, 12, 14, 86, 87, 88, 89] [(0, .int .u64 (a : Int)), (1, .int .u64 (b : Int)), (2, .int .u64 (p : Int)), (11, .int .i64 (((bandV s m l a b p) : Nat) : Int)), (12, .int .i64 (((bandE s m l a b p) : Nat) : Int)), (14, .int .i64 0), (86, .slice (some ⟨p118, 0, none⟩) 3 3), (87, .int .i64 3), (88, .int .i64 3), (89, .bool false)] (by kernel_rfl) rfl ?_
                  refine GL.k rfl hK247 (fun _ _ h => h) ?_
                  refine G.seqK fun K248 hK249 => ?_
                  refine G.no rfl ?_
                  refine G.exitK hK115 (fun _ _ h => h) ?_
                  refine G.seqK fun K250 hK251 => ?_
                  refine G.region ?_
                  refine GL.run (j := 3) 3 [11, 14, 103] [(11, .int .i64 (((bandV s m l a b p) : Nat) : Int)), (14, .int .i64 0), (103, .bool ((((bandE s m l a b p) : Nat) : Int) == 0))] (by kernel_rfl) rfl ?_
                  have hb252 : ((((bandE s m l a b p) : Nat) : Int) == 0) = true := by rw [beq_iff_eq, show bandE s m l a b p = 0 from by rw [bandE, if_pos (by omega)]]; rfl
                  rw [hb252]
                  refine GL.run (j := 8) 5 [10] [(10, .bool ((((bandV s m l a b p) : Nat) : Int) == 0))] (by kernel_rfl) rfl ?_
                  refine GL.k rfl hK251 (fun _ _ h => h) ?_
                  refine G.ret ?_
                  intro F_ hF_ hM_
                  refine hRet _ _ (bodyPost_1 rfl (RV.tmp rfl) ?_ F_ hF_ hM_)
                  have hb253 : ((((bandV s m l a b p) : Nat) : Int) == 0) = true := by rw [beq_iff_eq, show bandV s m l a b p = 0 from by rw [bandV, if_pos (by omega)]; simp [hS, hM, hL]]; rfl
                  rw [hb253]
                  exact ⟨rfl, H235.sub (List.nil_sublist _)⟩
              · skip
                have hM := hb223
                refine G.yes rfl ?_
                refine G.region ?_
                refine GL.run (j := 3) 3 [0, 1, 2, 11, 12, 14, 86, 87, 88] [(0, .int .u64 (a : Int)), (1, .int .u64 (b : Int)), (2, .int .u64 (p : Int)), (11, .int .i64 (((bandV s m l a b p) : Nat) : Int)), (12, .int .i64 (((bandE s m l a b p) : Nat) : Int)), (14, .int .i64 1), (86, .slice (some ⟨p118, 0, none⟩) 3 3), (87, .int .i64 3), (88, .int .i64 1)] (by kernel_rfl) rfl ?_
                refine GL.k rfl hK215 (fun _ _ h => h) ?_
                refine G.region ?_
                refine GL.run (j := 2) 2 [0, 1, 2, 11, 12, 14, 86, 87, 88] [(0, .int .u64 (a : Int)), (1, .int .u64 (b : Int)), (2, .int .u64 (p : Int)), (11, .int .i64 (((bandV s m l a b p) : Nat) : Int)), (12, .int .i64 (((bandE s m l a b p) : Nat) : Int)), (14, .int .i64 1), (86, .slice (some ⟨p118, 0, none⟩) 3 3), (87, .int .i64 3), (88, .int .i64 2)] (by kernel_rfl) rfl ?_
                refine GL.round rfl ?_
                refine G.seqK fun K254 hK255 => ?_
                refine G.region ?_
                refine GL.run (j := 1) 1 [0, 1, 2, 11, 12, 14, 86, 87, 88, 89] [(0, .int .u64 (a : Int)), (1, .int .u64 (b : Int)), (2, .int .u64 (p : Int)), (11, .int .i64 (((bandV s m l a b p) : Nat) : Int)), (12, .int .i64 (((bandE s m l a b p) : Nat) : Int)), (14, .int .i64 1), (86, .slice (some ⟨p118, 0, none⟩) 3 3), (87, .int .i64 3), (88, .int .i64 2), (89, .bool true)] (by kernel_rfl) rfl ?_
                refine GL.k rfl hK255 (fun _ _ h => h) ?_
                refine G.seqK fun K256 hK257 => ?_
                refine G.yes rfl ?_
                refine G.skipK hK257 (fun _ _ h => h) ?_
                refine G.seqK fun K258 hK259 => ?_
                refine G.block ?_
                refine G.seqK fun K260 hK261 => ?_
                refine G.region ?_
                refine GL.run (j := 1) 1 [0, 1, 2, 11, 12, 14, 86, 87, 88, 90] [(0, .int .u64 (a : Int)), (1, .int .u64 (b : Int)), (2, .int .u64 (p : Int)), (11, .int .i64 (((bandV s m l a b p) : Nat) : Int)), (12, .int .i64 (((bandE s m l a b p) : Nat) : Int)), (14, .int .i64 1), (86, .slice (some ⟨p118, 0, none⟩) 3 3), (87, .int .i64 3), (88, .int .i64 2), (90, .int .i64 2)] (by kernel_rfl) rfl ?_
                refine GL.sem (j := 2) (run_idxRd (P := Try.prog) (k := .i64) (t := 36) (A := (some ⟨p118, 0, none⟩)) (len := 3) (cap := 3) (j := 2) (by kernel_rfl) rfl (H221.rdRow 2 rfl) (by first | exact dg_length _ | rw [dg_length]; first | rfl | assumption | (symm; assumption) | (simp; done) | (rw [List.length_take]; omega) | omega) (by omega)) [0, 1, 2, 11, 12, 14, 86, 87, 88, 90, 91] [(0, .int .u64 (a : Int)), (1, .int .u64 (b : Int)), (2, .int .u64 (p : Int)), (11, .int .i64 (((bandV s m l a b p) : Nat) : Int)), (12, .int .i64 (((bandE s m l a b p) : Nat) : Int)), (14, .int .i64 1), (86, .slice (some ⟨p118, 0, none⟩) 3 3), (87, .int .i64 3), (88, .int .i64 2), (90, .int .i64 2), (91, .pointer (Option.map (fun x => Addr.add x 2) (some ⟨p118, 0, none⟩)))] (by kernel_rfl) (by kernel_rfl) rfl ?_
                refine GL.sem (j := 3) (run_ldRd (P := Try.prog) (ty := 22) (A := (some ⟨p118, 0, none⟩)) (j := 2) (v := .int .u64 (s : Int)) (by kernel_rfl) (H221.rdRow 2 rfl) (dg_at rfl)) [0, 1, 2, 11, 12, 14, 86, 87, 88, 90, 92] [(0, .int .u64 (a : Int)), (1, .int .u64 (b : Int)), (2, .int .u64 (p : Int)), (11, .int .i64 (((bandV s m l a b p) : Nat) : Int)), (12, .int .i64 (((bandE s m l a b p) : Nat) : Int)), (14, .int .i64 1), (86, .slice (some ⟨p118, 0, none⟩) 3 3), (87, .int .i64 3), (88, .int .i64 2), (90, .int .i64 2), (92, .int .u64 (s : Int))] (by kernel_rfl) (by kernel_rfl) rfl ?_
                refine GL.run (j := 5) 2 [0, 1, 2, 11, 12, 14, 15, 16, 86, 87, 88] [(0, .int .u64 (a : Int)), (1, .int .u64 (b : Int)), (2, .int .u64 (p : Int)), (11, .int .i64 (((bandV s m l a b p) : Nat) : Int)), (12, .int .i64 (((bandE s m l a b p) : Nat) : Int)), (14, .int .i64 1), (15, .int .i64 2), (16, .int .u64 (s : Int)), (86, .slice (some ⟨p118, 0, none⟩) 3 3), (87, .int .i64 3), (88, .int .i64 2)] (by kernel_rfl) rfl ?_
                refine GL.k rfl hK261 (fun _ _ h => h) ?_
                refine G.seqK fun K262 hK263 => ?_
                refine G.region ?_
                refine GL.run (j := 4) 4 [0, 1, 2, 11, 12, 14, 15, 86, 87, 88, 93, 94, 95, 96] [(0, .int .u64 (a : Int)), (1, .int .u64 (b : Int)), (2, .int .u64 (p : Int)), (11, .int .i64 (((bandV s m l a b p) : Nat) : Int)), (12, .int .i64 (((bandE s m l a b p) : Nat) : Int)), (14, .int .i64 1), (15, .int .i64 2), (86, .slice (some ⟨p118, 0, none⟩) 3 3), (87, .int .i64 3), (88, .int .i64 2), (93, .int .u64 (a : Int)), (94, .int .u64 (b : Int)), (95, .int .u64 (p : Int)), (96, .int .u64 (s : Int))] (by kernel_rfl) rfl ?_
                refine GL.call (j := 5) (Enough5_calls a b p s ha hb hp hs w220) (by kernel_rfl) rfl (fun e_ w264 hR => ?_)
                obtain ⟨rfl, H266⟩ := hR
                have H265 : Hp w [] [.blk p3 [.int .u64 (s : Int), .int .u64 (m : Int), .int .u64 (l : Int)] 42, .row (some ⟨p100, 0, none⟩) 2 2 22 1 (dg [a, b]), .row (some ⟨p118, 0, none⟩) 3 3 22 1 (dg [l, m, s])] w264 := H221.callNil H266
                refine ⟨_, rfl, [0, 1, 2, 11, 12, 14, 15, 86, 87, 88, 97], [(0, .int .u64 (a : Int)), (1, .int .u64 (b : Int)), (2, .int .u64 (p : Int)), (11, .int .i64 (((bandV s m l a b p) : Nat) : Int)), (12, .int .i64 (((bandE s m l a b p) : Nat) : Int)), (14, .int .i64 1), (15, .int .i64 2), (86, .slice (some ⟨p118, 0, none⟩) 3 3), (87, .int .i64 3), (88, .int .i64 2), (97, .bool (enough a b p s))], by kernel_rfl, ?_⟩
                refine GL.k rfl hK263 (fun _ _ h => h) ?_
                cases hb267 : (enough a b p s)
                · skip
                  have hS := hb267
                  refine G.no rfl ?_
                  refine G.skipK hK259 (fun _ _ h => h) ?_
                  refine G.region ?_
                  refine GL.run (j := 2) 2 [0, 1, 2, 11, 12, 14, 86, 87, 88] [(0, .int .u64 (a : Int)), (1, .int .u64 (b : Int)), (2, .int .u64 (p : Int)), (11, .int .i64 (((bandV s m l a b p) : Nat) : Int)), (12, .int .i64 (((bandE s m l a b p) : Nat) : Int)), (14, .int .i64 1), (86, .slice (some ⟨p118, 0, none⟩) 3 3), (87, .int .i64 3), (88, .int .i64 3)] (by kernel_rfl) rfl ?_
                  refine GL.round rfl ?_
                  refine G.seqK fun K268 hK269 => ?_
                  refine G.region ?_
                  refine GL.run (j := 1) 1 [0, 1, 2, 11, 12, 14, 86, 87, 88, 89] [(0, .int .u64 (a : Int)), (1, .int .u64 (b : Int)), (2, .int .u64 (p : Int)), (11, .int .i64 (((bandV s m l a b p) : Nat) : Int)), (12, .int .i64 (((bandE s m l a b p) : Nat) : Int)), (14, .int .i64 1), (86, .slice (some ⟨p118, 0, none⟩) 3 3), (87, .int .i64 3), (88, .int .i64 3), (89, .bool false)] (by kernel_rfl) rfl ?_
                  refine GL.k rfl hK269 (fun _ _ h => h) ?_
                  refine G.seqK fun K270 hK271 => ?_
                  refine G.no rfl ?_
                  refine G.exitK hK115 (fun _ _ h => h) ?_
                  refine G.seqK fun K272 hK273 => ?_
                  refine G.region ?_
                  refine GL.run (j := 3) 3 [11, 14, 103] [(11, .int .i64 (((bandV s m l a b p) : Nat) : Int)), (14, .int .i64 1), (103, .bool ((((bandE s m l a b p) : Nat) : Int) == 0))] (by kernel_rfl) rfl ?_
                  have hb274 : ((((bandE s m l a b p) : Nat) : Int) == 0) = true := by rw [beq_iff_eq, show bandE s m l a b p = 0 from by rw [bandE, if_pos (by omega)]]; rfl
                  rw [hb274]
                  refine GL.run (j := 8) 5 [10] [(10, .bool ((((bandV s m l a b p) : Nat) : Int) == 1))] (by kernel_rfl) rfl ?_
                  refine GL.k rfl hK273 (fun _ _ h => h) ?_
                  refine G.ret ?_
                  intro F_ hF_ hM_
                  refine hRet _ _ (bodyPost_1 rfl (RV.tmp rfl) ?_ F_ hF_ hM_)
                  have hb275 : ((((bandV s m l a b p) : Nat) : Int) == 1) = true := by rw [beq_iff_eq, show bandV s m l a b p = 1 from by rw [bandV, if_pos (by omega)]; simp [hS, hM, hL]]; rfl
                  rw [hb275]
                  exact ⟨rfl, H265.sub (List.nil_sublist _)⟩
                · skip
                  have hS := hb267
                  refine G.yes rfl ?_
                  refine G.region ?_
                  refine GL.run (j := 3) 3 [0, 1, 2, 11, 12, 14, 86, 87, 88] [(0, .int .u64 (a : Int)), (1, .int .u64 (b : Int)), (2, .int .u64 (p : Int)), (11, .int .i64 (((bandV s m l a b p) : Nat) : Int)), (12, .int .i64 (((bandE s m l a b p) : Nat) : Int)), (14, .int .i64 0), (86, .slice (some ⟨p118, 0, none⟩) 3 3), (87, .int .i64 3), (88, .int .i64 2)] (by kernel_rfl) rfl ?_
                  refine GL.k rfl hK259 (fun _ _ h => h) ?_
                  refine G.region ?_
                  refine GL.run (j := 2) 2 [0, 1, 2, 11, 12, 14, 86, 87, 88] [(0, .int .u64 (a : Int)), (1, .int .u64 (b : Int)), (2, .int .u64 (p : Int)), (11, .int .i64 (((bandV s m l a b p) : Nat) : Int)), (12, .int .i64 (((bandE s m l a b p) : Nat) : Int)), (14, .int .i64 0), (86, .slice (some ⟨p118, 0, none⟩) 3 3), (87, .int .i64 3), (88, .int .i64 3)] (by kernel_rfl) rfl ?_
                  refine GL.round rfl ?_
                  refine G.seqK fun K276 hK277 => ?_
                  refine G.region ?_
                  refine GL.run (j := 1) 1 [0, 1, 2, 11, 12, 14, 86, 87, 88, 89] [(0, .int .u64 (a : Int)), (1, .int .u64 (b : Int)), (2, .int .u64 (p : Int)), (11, .int .i64 (((bandV s m l a b p) : Nat) : Int)), (12, .int .i64 (((bandE s m l a b p) : Nat) : Int)), (14, .int .i64 0), (86, .slice (some ⟨p118, 0, none⟩) 3 3), (87, .int .i64 3), (88, .int .i64 3), (89, .bool false)] (by kernel_rfl) rfl ?_
                  refine GL.k rfl hK277 (fun _ _ h => h) ?_
                  refine G.seqK fun K278 hK279 => ?_
                  refine G.no rfl ?_
                  refine G.exitK hK115 (fun _ _ h => h) ?_
                  refine G.seqK fun K280 hK281 => ?_
                  refine G.region ?_
                  refine GL.run (j := 3) 3 [11, 14, 103] [(11, .int .i64 (((bandV s m l a b p) : Nat) : Int)), (14, .int .i64 0), (103, .bool ((((bandE s m l a b p) : Nat) : Int) == 0))] (by kernel_rfl) rfl ?_
                  have hb282 : ((((bandE s m l a b p) : Nat) : Int) == 0) = true := by rw [beq_iff_eq, show bandE s m l a b p = 0 from by rw [bandE, if_pos (by omega)]]; rfl
                  rw [hb282]
                  refine GL.run (j := 8) 5 [10] [(10, .bool ((((bandV s m l a b p) : Nat) : Int) == 0))] (by kernel_rfl) rfl ?_
                  refine GL.k rfl hK281 (fun _ _ h => h) ?_
                  refine G.ret ?_
                  intro F_ hF_ hM_
                  refine hRet _ _ (bodyPost_1 rfl (RV.tmp rfl) ?_ F_ hF_ hM_)
                  have hb283 : ((((bandV s m l a b p) : Nat) : Int) == 0) = true := by rw [beq_iff_eq, show bandV s m l a b p = 0 from by rw [bandV, if_pos (by omega)]; simp [hS, hM, hL]]; rfl
                  rw [hb283]
                  exact ⟨rfl, H265.sub (List.nil_sublist _)⟩
end Go.Proofs.Ytfhjoojifjmnlaa
